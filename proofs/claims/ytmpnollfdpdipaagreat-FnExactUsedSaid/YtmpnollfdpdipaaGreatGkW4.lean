import Derived.Test.YtmpnollfdpdipaaGreatGkF
import Derived.Test.YtmpnollfdpdipaaGreatGkW2
import Derived.Test.YtmpnollfdpdipaaGreatGkW3
set_option linter.unusedVariables false
set_option maxRecDepth 20000
namespace Go.Proofs.YtmpnollfdpdipaaGreat
open Go Go.Pg
variable {A2 A3 A4 A5 A6 A7:Option Addr}{D2 D3 D4 D5 D6 D7 N2 N3 N4 N5 N6 N7:Nat}
theorem Z0e_ok  {v1:View}{g:Int}{b:Int}{l:Int}{r:View}(q:Z0e v1 g b l=some r) :
 FnOk Tryz.prog 90 [(.agg [(.slice A2 N2 D2),(.slice A3 N3 D3),(iv v1.Offset),(iv v1.Base)].toArray),(iv g),(iv b),(iv l)] [aO kT3 (.slice A2 N2 D2) v1.Dims,aO kT3 (.slice A3 N3 D3) v1.Strides] (fun (h:HH×HH)=>((.agg [(.slice h.1.1 h.1.2.1 h.1.2.2),(.slice h.2.1 h.2.2.1 h.2.2.2),(iv r.Offset),(iv r.Base)].toArray),[aO kT3 (.slice h.1.1 h.1.2.1 h.1.2.2) r.Dims,aO kT3 (.slice h.2.1 h.2.2.1 h.2.2.2) r.Strides])):=by
 unfold Z0e at q
 refine aQ Tryz.func90 R 85 R R fun C V=>?_
 refine cN (_::_::V) ?_
 refine cL 0 aA ?_
 rintro rfl
 refine cL 1 aA ?_
 rintro rfl
 let W0:List HP:=RR kT3 A2 D2 v1.Dims::RR kT3 A3 D3 v1.Strides::V
 refine cN W0 ?_
 refine aM (aE (eB R (fun b7=>(bF R R cY (fun b8=>(aC ?_))))))
 let E:List HP:=aJ b7 [(sc A2 v1.Dims D2),(sc A3 v1.Strides D3),(iv v1.Offset),(iv v1.Base)] 96::W0
 refine qN (_::E) ?_
 refine aI (aM (aM ?_))
 obtain ⟨r9,ak,q⟩:=bd q
 obtain ⟨a3,q⟩:=gd q
 refine cQ [(1,(iv g)),(2,(iv b)),(3,(iv l)),(4,(pt b7 0)),(8,(pt b8 0)),(32,(.bool ((((!r9)||(decide (b<(1:Int))))||(decide (l<(1:Int))))||(decide (b>(ix v1.Dims g))))))] (aJ b8 [(.slice none 0 0),(.slice none 0 0),(iv 0),(iv 0)] 96::E) ?_ ?_
 refine aE (lO (vz (.agg [(sc A2 v1.Dims D2),(sc A3 v1.Strides D3),(iv v1.Offset),(iv v1.Base)].toArray) (dJ 1 gJ cH R R R R)) (lI R (lM (RR kT3 A2 D2 v1.Dims::RR kT3 A3 D3 v1.Strides::aJ _ _ _::E) (fun w s=>(((s.d 2 R).d 4 R).e 3 [1,0,2])) ?_)))
 refine lC 2 vM R (Z27_ok ak) R ?_
 rintro _
 refine lN (_::E) ?_
 refine lO (rJ R) (lB R ?_)
 rcases bo (!r9) with m | m
 refine lf (eA m) (lf (eA m) (lO (fA (decide (b<(1:Int))) R m) (lB R (lf (eA (oT m)) (lf (eA (oT m)) (lO (fA (decide (l<(1:Int))) R (oT m)) (lB R (lf (eA (oT (oT m))) (lf (eA (oT (oT m))) (lf (eA (oT (oT m))) (lf (eA (oT (oT m))) (lf (eA (oT (oT m))) (lf (eA (oT (oT m))) (lf (eA (oT (oT m))) (lO (fA (decide (b>(ix v1.Dims g))) R (oT (oT m))) (aC ?_))))))))))))))))
 exact qJ (fun w s=>s)
 refine lW (b' m) (vI R) (lW (b' m) (mW R R) (lO (fT R m R) (lB R ?_)))
 rcases bo ((!r9)||(decide (b<(1:Int)))) with u | u
 refine lf (eA u) (lf (eA u) (lO (fA (decide (l<(1:Int))) R u) (lB R (lf (eA (oT u)) (lf (eA (oT u)) (lf (eA (oT u)) (lf (eA (oT u)) (lf (eA (oT u)) (lf (eA (oT u)) (lf (eA (oT u)) (lO (fA (decide (b>(ix v1.Dims g))) R (oT u)) (aC ?_))))))))))))
 exact qJ (fun w s=>s)
 refine lW (b' u) (vI R) (lW (b' u) (mW R R) (lO (fT R u R) (lB R ?_)))
 rcases bo (((!r9)||(decide (b<(1:Int))))||(decide (l<(1:Int)))) with j | j
 refine lf (eA j) (lf (eA j) (lf (eA j) (lf (eA j) (lf (eA j) (lf (eA j) (lf (eA j) (lO (fA (decide (b>(ix v1.Dims g))) R j) (aC ?_))))))))
 exact qJ (fun w s=>s)
 refine lW (b' j) (vI R) (lW (b' j) (fS 0 gK R) (lW (b' j) (gB 1 cO R R R) (lW (b' j) (vI R) (bC 2 aA (show 0<v1.Dims.length by have:=(a3 j); omega) (fun b0 o13 ha=>?_)))))
 subst ha
 refine lW (b' j) (eI bK cC R R (a3 j)) (lW (b' j) (gP 2 fP aA R (a3 j)) (lW (b' j) (yo R R) (lO (fT R j R) (aC ?_))))
 exact qJ (fun w s=>s)
 rintro σ1
 refine aI ?_
 rcases cG q with ⟨a1,q⟩|⟨a1,q⟩
 refine bZ R a1 (aM (aE (lO (vz (.agg [(.slice none 0 0),(.slice none 0 0),(iv 0),(iv 0)].toArray) (aW fE cY R R)) (aK 0 R R cH R R R R R R (aC (aI (bW (cE ?_))))))))
 obtain rfl:=so q
 exact dI (vs:=[(.agg [(.slice none 0 0),(.slice none 0 0),(iv 0),(iv 0)].toArray)]) (.inl R) ((none,0,0),(none,0,0)) R ⟨⟨0,b8,_,_,R,R,.inl ⟨gJ,cH,R⟩⟩,trivial⟩ R (fun w s=>(((s.nilr kT3).nilr kT3).e 6 [1,0]))
 refine bJ R a1 (cP (aI (aM ?_)))
 obtain ⟨i,al,q⟩:=bd q
 refine aE (lO (vz (.agg [(sc A2 v1.Dims D2),(sc A3 v1.Strides D3),(iv v1.Offset),(iv v1.Base)].toArray) (dJ 1 gJ cH R R R R)) (lM (RR kT3 A2 D2 v1.Dims::RR kT3 A3 D3 v1.Strides::aJ _ _ _::E) (fun w s=>(((s.d 2 R).d 4 R).e 3 [1,0,2])) ?_))
 refine lC 2 vN R (Z29_ok al) R ?_
 rintro ⟨⟨am,av,T⟩,⟨ah,ax,D⟩⟩
 refine lN (ow kT3 3 (.slice am av T) i.Dims::ow kT3 3 (.slice ah ax D) i.Strides::_::E) ?_
 refine aL 0 aB ?_
 rintro rfl
 refine aL 1 aB ?_
 rintro rfl
 refine bF R R cY (fun O=>(aK 0 R R cH R R R R R R (lN (aJ O [(sc am i.Dims T),(sc ah i.Strides D),(iv i.Offset),(iv i.Base)] 96::_::_::_::E) ?_)))
 refine aC (aI (aM ?_))
 obtain ⟨aa,q⟩:=gd q
 obtain ⟨an,q⟩:=gd q
 refine aE (lO (fS 0 gK R) (lO (gB 4 cO R R R) (lI R (bC 5 aA (show 0<v1.Dims.length by have:=aa; omega) (fun b1 o25 ha=>?_)))))
 subst ha
 refine lO (eI bK cC R R aa) (lO (gP 5 fP aA R aa) (lI R (lO (wB R R) (lI R (lO (vz (iv (aH ((aH ((ix v1.Dims g) - b)).tdiv l))) (mo R R an)) (lO (kK R R) (lI R (aC (aI (aM ?_))))))))))
 obtain ⟨a2,q⟩:=gd q
 refine aE (lO (fS 1 fZ R) (lO (gB 4 cO R R R) (lI R (bC 6 aA (show 0<v1.Strides.length by have:=a2; omega) (fun b2 o29 ha=>?_)))))
 subst ha
 refine lO (eI bK cC R R a2) (lO (gP 6 fP aA R a2) (lI R (aC (aI (aM ?_)))))
 obtain ⟨a0,q⟩:=gd q
 refine aE (lO (fS 0 gK R) (lO (gB 0 cO R R R) (lI R (lI R (bC 1 aB (show 0<i.Dims.length by have:=a0; omega) (fun Z o32 ha=>?_))))))
 subst ha
 refine lO (eI bK cC R R a0) (lM (OO kT3 3 (ad Z o32) T i.Dims::aJ O [(sc (ad Z o32) i.Dims T),(sc ah i.Strides D),(iv i.Offset),(iv i.Base)] 96::ow _ _ _ _::aJ _ _ _::E) (fun w s=>(s.e 4 [1,0,2,3])) ?_)
 refine dV (K:=kT3) (x':=(aH ((aH ((aH ((ix v1.Dims g) - b)).tdiv l))+(1:Int)))) 0 g R R cC R R a0.1 a0.2 ?_ ?_
 exact fun I h s=>(gD).put I h () (aH ((aH ((aH ((ix v1.Dims g) - b)).tdiv l))+(1:Int))) s
 refine lN (ow kT3 3 (.slice (ad Z o32) i.Dims.length T) (i.Dims.set g.toNat (aH ((aH ((aH ((ix v1.Dims g) - b)).tdiv l))+(1:Int))))::_::_::_::E) ?_
 refine aC ?_
 obtain ⟨B,a7,q⟩:=bd q
 replace a7:=Option.some.inj a7
 refine qM (ow kT3 3 (.slice (ad Z o32) i.Dims.length T) B::_::_::_::E) (fun w s=>by rw [← a7]; exact s) ?_
 refine aI (aM ?_)
 obtain ⟨G,q⟩:=gd q
 refine aE (lO (fS 1 fZ R) (lO (gB 1 cO R R R) (lI R (bC 2 aB (show 0<i.Strides.length by have:=G; omega) (fun L o37 ha=>?_)))))
 subst ha
 refine lO (eI bK cC R R G) (lM (OO kT3 3 (ad L o37) D i.Strides::ow _ _ _ _::aJ O [(sc (ad Z o32) i.Dims T),(sc (ad L o37) i.Strides D),(iv i.Offset),(iv i.Base)] 96::aJ _ _ _::E) (fun w s=>(s.e 4 [2,0,1,3])) ?_)
 refine dV (K:=kT3) (x':=(0:Int)) 0 g R R cC R R G.1 G.2 ?_ ?_
 exact fun I h s=>(gD).put I h () (0:Int) s
 refine lN (ow kT3 3 (.slice (ad L o37) i.Strides.length D) (i.Strides.set g.toNat (0:Int))::_::_::_::E) ?_
 refine aC (aI (aM (bB (A:=((List Int))×(Unit)) (fun a=>Z0e_J1 v1 g b i B a.1=some r) (fun a=>[(2,(iv b)),(8,(pt b8 0)),(9,(pt O 0)),(11,(iv (ix v1.Strides g)))]) (fun a=>aJ b8 [(.slice none 0 0),(.slice none 0 0),(iv 0),(iv 0)] 96::aJ O [(sc (ad Z o32) i.Dims T),(sc (ad L o37) i.Strides D),(iv i.Offset),(iv i.Base)] 96::ow kT3 3 (.slice (ad Z o32) i.Dims.length T) B::ow kT3 3 (.slice (ad L o37) i.Strides.length D) a.1::E) ?_ ?_)))
 refine aM (aE (lI R (lO (yo R R) (aC (aI ?_)))))
 rcases cG q with ⟨a9,q⟩|⟨a9,q⟩
 refine bZ R a9 (aE (lO (fS 1 fZ R) (lO (gB 2 cO R R R) (lI R (lI R (lI R (lO (rI R R) (lO (eI bK cC R R G) (dV (K:=kT3) (x':=(aH ((ix v1.Strides g)*l))) 0 g R R cC R R G.1 G.2 ?_ ?_)))))))))
 exact fun I h s=>(gD).put I h () (aH ((ix v1.Strides g)*l)) s
 refine lN (ow kT3 3 (.slice (ad L o37) i.Strides.length D) ((i.Strides.set g.toNat (0:Int)).set g.toNat (aH ((ix v1.Strides g)*l)))::_::_::_::E) ?_
 refine aC ?_
 obtain ⟨ap,a4,q⟩:=bd q
 replace a4:=Option.some.inj a4
 refine qM (ow kT3 3 (.slice (ad L o37) i.Strides.length D) ap::_::_::_::E) (fun w s=>by rw [← a4]; exact s) ?_
 exact qI (ap,()) q (fun w s=>(s.e 4 [3,2,1,0]))
 refine bJ R a9 (cP ?_)
 exact qI ((i.Strides.set g.toNat (0:Int)),()) q (fun w s=>(s.e 4 [3,2,1,0]))
 rintro ⟨M,_⟩ σ1 q
 replace q:Z0e_J1 v1 g b i B M=some r:=q
 unfold Z0e_J1 at q
 refine aM ?_
 obtain ⟨ai,q⟩:=gd q
 refine aE (lO (fS 0 gK R) (lO (gB 1 cO R R R) (lI R (bM (K:=kT3) (xs:=([b]:List Int)) (vs:=[(iv b)]) 0 R R bK cC gF R R R R R R ?_ R (fun aq au=>?_)))))
 exact fun I h s=>(gD).list [((),b)] I h s
 refine lN (OO kT3 3 aq au ([b]:List Int)::_::_::_::ow kT3 3 (.slice (ad L o37) i.Strides.length D) M::E) ?_
 refine lM (ow _ _ _ _::ow _ _ _ _::aJ _ _ _::aJ _ _ _::ow _ _ _ _::E) (fun w s=>(s.e 5 [3,0,1,2,4])) ?_
 refine eD (K:=kT3) 17592186044416 R R bK cC kl (Zr.zk zT3 gF) R R R R R R dP ai (fun Y U=>(lN (OO kT3 3 Y U (B++([b]:List Int))::_::_::_::E) ?_))
 refine lO (fS 0 gK R) (cT 2 R R fU R R R R R (lN (_::_::aJ O [(sc Y (B++([b]:List Int)) U),(sc (ad L o37) i.Strides D),(iv i.Offset),(iv i.Base)] 96::_::E) ?_))
 refine aC (aI (aM (bB (A:=(Int)×(Unit)) (fun a=>Z0e_J2 b i B M a.1=some r) (fun a=>[(8,(pt b8 0)),(9,(pt O 0)),(11,(iv a.1))]) (fun a=>aJ b8 [(.slice none 0 0),(.slice none 0 0),(iv 0),(iv 0)] 96::aJ O [(sc Y (B++([b]:List Int)) U),(sc (ad L o37) i.Strides D),(iv i.Offset),(iv i.Base)] 96::OO kT3 3 Y U (B++([b]:List Int))::ow kT3 3 (.slice (ad L o37) i.Strides.length D) M::E) ?_ ?_)))
 refine aM (aE (lI R (lO (lK R R) (aC (aI ?_)))))
 rcases cG q with ⟨a6,q⟩|⟨a6,q⟩
 refine bZ R a6 (aE (lI R (aC ?_)))
 exact qI ((0:Int),()) q (fun w s=>(s.e 4 [1,2,0,3]))
 refine bJ R a6 (cP ?_)
 exact qI ((ix v1.Strides g),()) q (fun w s=>(s.e 4 [1,2,0,3]))
 rintro ⟨J,_⟩ σ1 q
 replace q:Z0e_J2 b i B M J=some r:=q
 unfold Z0e_J2 at q
 refine aM ?_
 obtain ⟨aj,q⟩:=gd q
 refine aE (lO (fS 1 fZ R) (lO (gB 1 cO R R R) (lI R (bM (K:=kT3) (xs:=([J]:List Int)) (vs:=[(iv J)]) 0 R R bK cC gF R R R R R R ?_ R (fun ar ay=>?_)))))
 exact fun I h s=>(gD).list [((),J)] I h s
 refine lN (OO kT3 3 ar ay ([J]:List Int)::_::_::_::_::E) ?_
 refine lM (ow _ _ _ _::ow _ _ _ _::aJ _ _ _::aJ _ _ _::ow _ _ _ _::E) (fun w s=>(s.f 5 [4,1,0,4])) ?_
 refine eD (K:=kT3) 17592186044416 R R bK cC kl (Zr.zk zT3 gF) R R R R R R dP aj (fun a8 a5=>(lN (OO kT3 3 a8 a5 (M++([J]:List Int))::_::_::_::E) ?_))
 refine lO (fS 1 fZ R) (cT 2 R R fU R R R R R (lN (_::_::aJ O [(sc Y (B++([b]:List Int)) U),(sc a8 (M++([J]:List Int)) a5),(iv i.Offset),(iv i.Base)] 96::_::E) ?_))
 refine aC (aI (aM ?_))
 obtain ⟨F,ao,q⟩:=bd q
 refine aE (lO (vz (.agg [(sc Y (B++([b]:List Int)) U),(sc a8 (M++([J]:List Int)) a5),(iv i.Offset),(iv i.Base)].toArray) (dJ 2 gJ cH R R R R)) (iT (fun w s=>s.shr 3 R) (iT (fun w s=>s.shr 1 R) (lM (RR kT3 Y U (B++([b]:List Int))::RR kT3 a8 a5 (M++([J]:List Int))::RR kT3 a8 a5 (M++([J]:List Int))::RR kT3 Y U (B++([b]:List Int))::aJ _ _ _::aJ _ _ _::E) (fun w s=>(((s.d 1 R).d 1 R).e 6 [1,0,2,3,4,5])) ?_))))
 refine lC 2 vO R (Z2a_ok (v1:=(⟨(B++([b]:List Int)),(M++([J]:List Int)),i.Offset,i.Base⟩:View)) ao) R ?_
 rintro ⟨⟨ab,aw,ac⟩,⟨ae,az,ag⟩⟩
 refine lN (aO kT3 (.slice ab aw ac) F.Dims::aO kT3 (.slice ae az ag) F.Strides::_::_::_::_::E) ?_
 refine aL 0 aA ?_
 rintro rfl
 refine aL 1 aA ?_
 rintro rfl
 refine aK 4 R R cH R R R R R R (lN (_::_::_::_::aJ b8 [(sc ab F.Dims ac),(sc ae F.Strides ag),(iv F.Offset),(iv F.Base)] 96::_::E) ?_)
 refine aC (aI (bW ?_))
 obtain rfl:=so q
 exact dI (vs:=[(.agg [(sc ab F.Dims ac),(sc ae F.Strides ag),(iv F.Offset),(iv F.Base)].toArray)]) (.inl R) ((ab,F.Dims.length,ac),(ae,F.Strides.length,ag)) R ⟨⟨4,b8,_,_,R,R,.inl ⟨gJ,cH,R⟩⟩,trivial⟩ R (fun w s=>(s.e 9 [0,1]))
theorem Z0r_ok  {t1:Tensor}{i:Int}{j:Int}{F:Int}{r:Tensor}(b:Z0r t1 i j F=some r) :
 FnOk Tryz.prog 91 [(.agg [(.slice A2 N2 D2),(.slice A3 N3 D3)].toArray),(iv i),(iv j),(iv F)] [aO kT3 (.slice A2 N2 D2) t1.Dims,aO kT3 (.slice A3 N3 D3) t1.Data] (fun (h:HH×HH)=>((.agg [(s3 h.1),(s3 h.2)].toArray),[ow kT3 3 (s3 h.1) r.Dims,ow kT3 3 (s3 h.2) r.Data])):=by
 unfold Z0r at b
 refine aQ Tryz.func91 R 118 R R fun C V=>?_
 refine cL 0 aA ?_
 rintro rfl
 refine cL 1 aA ?_
 rintro rfl
 let W0:=RR kT3 A2 D2 t1.Dims::RR kT3 A3 D3 t1.Data::V
 refine cN W0 ?_
 refine aV ?_
 refine eB R fun b7=>?_
 refine bF R R dT (fun L=>(aC ?_))
 let T:=aJ b7 [(sc A2 t1.Dims D2),(sc A3 t1.Data D3)] 58::W0
 refine iK ?_
 obtain ⟨r9,a6,b⟩:=bd b
 refine cQ [(1,(iv i)),(2,(iv j)),(3,(iv F)),(4,(pt b7 0)),(8,(pt L 0)),(9,(iv (aH ((t1.Dims.length:Int) - 1)))),(40,(.bool (((((!r9)||(i==(aH ((t1.Dims.length:Int) - 1))))||(decide (j<1)))||(decide (F<1)))||(decide (F>4096)))))] (aJ L [(.slice none 0 0),(.slice none 0 0)] 58::T) ?_ ?_
 refine aP ?_
 refine lM _ (fun w s=>(((s.d 2 R).d 4 R).e 3 [1,0,2])) ?_
 refine lC 2 oG R (Z1g_ok a6) R ?_
 rintro _
 refine aV ?_
 rcases bo (!r9) with a3 | a3
 refine r1 ?_
 exact qj tI
 refine cA ?_
 rcases bo ((!r9)||(i==(aH ((t1.Dims.length:Int) - 1)))) with ah | ah
 refine iK ?_
 exact qj tI
 refine bG ?_
 rcases bo (((!r9)||(i==(aH ((t1.Dims.length:Int) - 1))))||(decide (j<1))) with a7 | a7
 refine cZ ?_
 exact qj tI
 refine bG ?_
 rcases bo ((((!r9)||(i==(aH ((t1.Dims.length:Int) - 1))))||(decide (j<1)))||(decide (F<1))) with a4 | a4
 refine bG ?_
 exact qj tI
 refine bG ?_
 exact qj tI
 rintro σ1
 refine bT ?_
 split at b
 refine aP ?_
 refine lO (vz (.agg [(.slice none 0 0),(.slice none 0 0)].toArray) (aW gO dT R R)) (aK 0 R R bS R R R R R R (aC (aI (bW (cE ?_)))))
 cases b
 exact qS ((none,0,0),(none,0,0)) (fun w s=>(((s.nilo kT3 3).nilo kT3 3).e 6 [1,0]))
 refine bG ?_
 obtain ⟨aj,b⟩:=gd b
 refine bG ?_
 refine bC 2 aA (show 0<t1.Dims.length by have:=aj; omega) (fun bf o18 U=>?_)
 subst U
 refine dN ?_
 obtain ⟨ag,b⟩:=gd b
 obtain ⟨M,b⟩:=gd b
 refine cQ [(1,(iv i)),(2,(iv j)),(3,(iv F)),(4,(pt b7 0)),(8,(pt L 0)),(9,(iv (aH ((t1.Dims.length:Int) - 1)))),(63,(.bool ((decide ((ix t1.Dims (aH ((t1.Dims.length:Int) - 1)))>F))||((aH ((aH ((aH (F - (ix t1.Dims (aH ((t1.Dims.length:Int) - 1))))).tdiv j))+1)) != (ix t1.Dims i)))))] (aJ L [(.slice none 0 0),(.slice none 0 0)] 58::T) ?_ ?_
 rcases bo (decide ((ix t1.Dims (aH ((t1.Dims.length:Int) - 1)))>F)) with q | q
 refine dG 17 [] bP fun ht hn=>?_
 refine yy 0 [] ?_
 refine dD ?_
 exact qj tI
 refine dG 17 [] bP fun ht hn=>?_
 refine ut 0 [] ?_
 refine dW 8 R (b' q) (vz (iv (aH ((aH (F - (ix t1.Dims (aH ((t1.Dims.length:Int) - 1))))).tdiv j))) (mo R R (ag q))) ?_
 refine oA 9 [] ?_
 refine dW 13 R (b' q) (eI bK cC R R (M q)) (dW 14 R (b' q) (gP 2 fP aA R (M q)) ?_)
 refine gT 15 [] ?_
 refine dD ?_
 exact qj tI
 rintro σ1
 refine bT ?_
 split at b
 refine aP ?_
 refine lO (vz (.agg [(.slice none 0 0),(.slice none 0 0)].toArray) (aW gO dT R R)) (aK 0 R R bS R R R R R R (aC (aI (bW (cE ?_)))))
 cases b
 exact qS ((none,0,0),(none,0,0)) (fun w s=>(((s.nilo kT3 3).nilo kT3 3).e 6 [1,0]))
 refine bG ?_
 obtain ⟨ay,ac,b⟩:=bd b
 obtain ⟨I,b⟩:=gd b
 refine cA ?_
 refine lM _ (fun w s=>(s.d 2 R)) ?_
 refine lC 1 kM R (Z0j_ok ac) R ?_
 rintro ⟨ba,ar,b5⟩
 refine aL 0 aB ?_
 rintro rfl
 refine lI R (iT (fun w s=>s.shr 0 R) (gA (K:=kT3) (0:Int) (aH ((t1.Dims.length:Int) - 1)) 0 R R bK cC R R R R I.1 I.2.1 I.2.2 (fun ax b1=>(lS R (aC (aI (aM (aM ?_))))))))
 obtain ⟨be,Z,b⟩:=bd b
 refine aV ?_
 refine lM _ (fun w s=>(s.d 0 R)) ?_
 refine lC 1 kj R (Zm_ok Z) R ?_
 rintro _
 refine aP ?_
 split at b
 refine aP ?_
 refine lO (vz (.agg [(.slice none 0 0),(.slice none 0 0)].toArray) (aW gO dT R R)) (aK 2 R R bS R R R R R R (aC (aI (bW (cE ?_)))))
 cases b
 exact qS ((none,0,0),(none,0,0)) (fun w s=>(((s.nilo kT3 3).nilo kT3 3).e 8 [1,0]))
 refine bG ?_
 obtain ⟨g,ai,b⟩:=bd b
 refine aV ?_
 refine lM _ (fun w s=>(s.d 0 R)) ?_
 refine lC 1 nH R (Z0i_ok ai) R ?_
 rintro ⟨⟨m,b6,u⟩,⟨l,av,D⟩⟩
 refine aL 0 aB ?_
 rintro rfl
 refine aL 1 aB ?_
 rintro rfl
 refine bF R R dT (fun J=>(aK 0 R R bS R R R R R R (lN (aJ J [(sc m g.Dims u),(sc l g.Data D)] 58::_::_::_::_::_::T) ?_)))
 refine aP ?_
 refine bB (A:=((List Int))×(Unit)) (fun a=>Z0r_J1 g a.1=some r) (fun a=>[(8,(pt L 0)),(12,(pt J 0))]) (fun a=>aJ L [(.slice none 0 0),(.slice none 0 0)] 58::aJ J [(sc m g.Dims u),(sc l g.Data D)] 58::OO kT3 3 m u g.Dims::ow kT3 3 (.slice l g.Data.length D) a.1::T) ?_ ?_
 refine bV ?_
 obtain ⟨e1,am,an⟩:=bd b
 refine bD (A:=Unit) am (fun s a=>[(1,(iv i)),(2,(iv j)),(4,(pt b7 0)),(8,(pt L 0)),(9,(iv (aH ((t1.Dims.length:Int) - 1)))),(12,(pt J 0)),(13,(iv s.2))]) (fun s a=>aJ L [(.slice none 0 0),(.slice none 0 0)] 58::aJ J [(sc m g.Dims u),(sc l g.Data D)] 58::OO kT3 3 m u g.Dims::ow kT3 3 (.slice l g.Data.length D) s.1::T) () (aS R) (tE 6 [5,0,1,2]) ?_
 rintro ⟨E,bc⟩ _ σ1 aq b ao
 dsimp only [Z0r_L1] at b
 refine cU ?_
 split at b
 refine bV ?_
 obtain ⟨O,ae,b⟩:=bd b
 refine bG ?_
 refine lM _ (fun w s=>(s.d 5 R)) ?_
 refine lC 1 lA R (Zh_ok ae) R ?_
 rintro ⟨b3,b9,a2⟩
 refine aL 0 aB ?_
 rintro rfl
 refine bG ?_
 obtain ⟨a5,b⟩:=gd b
 obtain ⟨_,b⟩:=gd b
 obtain ⟨a0,a8,b⟩:=bd b
 obtain ⟨G,b⟩:=gd b
 refine aZ 0 aB (show 0<O.length by have:=a5; omega) (fun a9 o66 U=>?_)
 subst U
 refine dG 17 [] bP fun ht hn=>?_
 refine mu 0 [] ?_
 refine dR 14 R (vI R) (d1 13 R (lC 1 kM R (FnOk.lends (A':=[OO kT3 3 (ad a9 o66) a2 O]) (A:=[RR kT3 (ad a9 o66) a2 O]) (B:=[]) (Z0j_ok a8) ⟨aU,trivial⟩ (fun _=>⟨(bI iW),trivial⟩)) R ?_))
 rintro ⟨b4,b0,bb⟩
 refine aL 1 aB ?_
 rintro rfl
 refine aC (aG (sL [1]) (d1 15 R (iT (fun w s=>s.shr 1 R) (gA (K:=kT3) (0:Int) (aH ((t1.Dims.length:Int) - 1)) 0 R R bK cC R R R R G.1 G.2.1 G.2.2 (fun Y a1=>(aC (aG (sL [1,0]) (dR 16 R (vS R) (hS:=(sL [1,0])) (dD (aI ?_))))))))))
 obtain ⟨aw,aa,b⟩:=bd b
 obtain ⟨ak,b⟩:=gd b
 obtain ⟨az,al,b⟩:=bd b
 obtain ⟨au,ab,b⟩:=bd b
 refine aZ 9 aA (show 0<t1.Data.length by have:=ak; omega) (fun b2 o77 U=>?_)
 subst U
 refine dG 12 [6] bP fun ht hn=>?_
 refine oA 0 [6] ?_
 refine kr 5 [6] ?_
 refine d1 4 R (lM _ (fun w s=>((s.d 0 R).f 8 [6,2,0,6])) ?_)
 refine lC 3 nb R (FnOk.lends (A':=[OO kT3 3 m u g.Dims,ow kT3 3 (.slice l g.Data.length D) E]) (A:=[RR kT3 m u g.Dims,aO kT3 (.slice l g.Data.length D) E]) (B:=[RR kT3 Y a1 (sub a0 (0:Int) (aH ((t1.Dims.length:Int) - 1)))]) (Z16_ok (t1:=(⟨g.Dims,E⟩:Tensor)) aa) ⟨aU,aU,trivial⟩ (fun _=>trivial)) R ?_
 rintro _
 refine aC (aG (fun w s=>(s.f 7 [2,5,0,1])) (d1 10 R (lC 0 qk R (Z1m_ok al) R ?_)))
 rintro _
 refine aC (aG (fun w s=>(s.f 7 [2,5,0,1])) (d1 11 R (lM _ (fun w s=>((s.d 2 R).f 8 [1,2,0,1,3,5])) ?_)))
 refine lC 3 sH R (FnOk.lends (A':=[OO kT3 3 m u g.Dims]) (A:=[RR kT3 m u g.Dims]) (B:=[ow kT3 3 (.slice l g.Data.length D) E,RR kT3 Y a1 (sub a0 (0:Int) (aH ((t1.Dims.length:Int) - 1)))]) (Z1u_ok (t1:=(⟨g.Dims,E⟩:Tensor)) ab) ⟨aU,trivial⟩ (fun _=>⟨(bI iW),trivial⟩)) R ?_
 rintro _
 refine aC (aG (fun w s=>(s.f 7 [2,5,0,1])) (dD ?_))
 refine dN ?_
 cases b
 exact qA () (tE 7 [5,6,0,1])
 refine aP ?_
 cases b
 obtain rfl:=ao _ R
 have b:=an
 refine aV ?_
 exact qI (E,()) b tI
 rintro ⟨ap,_⟩ σ1 b
 dsimp only [Z0r_J1] at b
 refine aP ?_
 refine aK 0 R R bS R R R R R R (lN (aJ L [(sc m g.Dims u),(sc l g.Data D)] 58::_::_::ow kT3 3 (.slice l g.Data.length D) ap::T) ?_)
 refine aP ?_
 cases b
 exact qS ((m,g.Dims.length,u),(l,g.Data.length,D)) (tE 7 [2,3])
theorem Z1_ok  {j:Node}{g:(List Tensor)}{r:Tensor}(b:Z1 j g=some r) :
 FnOk Tryz.prog 53 [(.agg [(iv j.Op),(.slice A2 N2 D2),(.slice A3 N3 D3),(.slice A4 N4 D4),(aD j.Form),(.slice A5 N5 D5)].toArray),(.slice A7 N7 D7)] [aO kT3 (.slice A2 N2 D2) j.Args,aO kT3 (.slice A3 N3 D3) j.Dims,aO kT3 (.slice A4 N4 D4) j.Ints,aO kT3 (.slice A5 N5 D5) j.Data,aO dX (.slice A7 N7 D7) g] (fun (h:HH×HH)=>((.agg [(.slice h.1.1 h.1.2.1 h.1.2.2),(.slice h.2.1 h.2.2.1 h.2.2.2)].toArray),[ow kT3 3 (.slice h.1.1 h.1.2.1 h.1.2.2) r.Dims,ow kT3 3 (.slice h.2.1 h.2.2.1 h.2.2.2) r.Data])):=by
 unfold Z1 at b
 refine aQ Tryz.func53 R 217 R R fun C V=>?_
 refine cN (_::_::_::_::_::V) ?_
 refine cL 0 aA ?_
 rintro rfl
 refine cL 1 aA ?_
 rintro rfl
 refine cL 2 aA ?_
 rintro rfl
 refine cL 3 aA ?_
 rintro rfl
 refine cL 4 aA ?_
 rintro rfl
 let W0:List HP:=RR kT3 A2 D2 j.Args::RR kT3 A3 D3 j.Dims::RR kT3 A4 D4 j.Ints::RR kT3 A5 D5 j.Data::RR dX A7 D7 g::V
 refine cN W0 ?_
 refine aM (aE (eB R (fun b8=>(bF R R dT (fun l=>(aC ?_))))))
 let i:List HP:=aJ b8 [(iv j.Op),(sc A2 j.Args D2),(sc A3 j.Dims D3),(sc A4 j.Ints D4),(aD j.Form),(sc A5 j.Data D5)] 54::W0
 refine qN (_::i) ?_
 refine aI (aM (aE (lO (fS 3 gV R) (lO (gB 1 cO R R R) (lS R (aC (aI (aM (aM (aE (lO (fS 0 jw R) (lO (gB 1 fP R R R) (aC (aI (dC (aM (aE (lO (lK R R) (lB R (aC (aI ?_)))))))))))))))))))))
 rcases cG b with ⟨cg,b⟩|⟨cg,b⟩
 refine bZ R cg (aM (aE (lO (fS 2 ks R) (lO (gB 1 cO R R R) (lO (fS 5 nB R) (lO (gB 1 cO R R R) (lO (vz (.agg [(sc A3 j.Dims D3),(sc A5 j.Data D5)].toArray) (aW gO dT R R)) (bF R R dT (fun i9=>(aK 0 R R bS R R R R R R (lN (aJ i9 [(sc A3 j.Dims D3),(sc A5 j.Data D5)] 58::_::i) ?_)))))))))))
 refine aC (aI (aM (aM ?_)))
 obtain ⟨it,gh,b⟩:=bd b
 refine aE (lO (vz (.agg [(sc A3 j.Dims D3),(sc A5 j.Data D5)].toArray) (dJ 0 fG bS R R R R)) (lM (RR kT3 A3 D3 j.Dims::RR kT3 A5 D5 j.Data::aJ _ _ _::aJ _ _ _::i) (fun w s=>(((s.d 4 R).d 7 R).e 4 [1,0,2,3])) ?_))
 refine lC 2 nG R (Zp_ok (t1:=(⟨j.Dims,j.Data⟩:Tensor)) gh) R ?_
 rintro _
 refine lN (_::_::i) ?_
 refine lO (rJ R) (aC (aI ?_))
 rcases cG b with ⟨dj,b⟩|⟨dj,b⟩
 refine bZ R dj (aM (aE (lO (vz (.agg [(.slice none 0 0),(.slice none 0 0)].toArray) (aW gO dT R R)) (aK 1 R R bS R R R R R R (aC (aI (bW (cE (dF (cE ?_))))))))))
 obtain rfl:=so b
 exact dI (vs:=[(.agg [(.slice none 0 0),(.slice none 0 0)].toArray)]) (.inl R) ((none,0,0),(none,0,0)) R ⟨⟨1,l,_,_,R,R,.inl ⟨fG,bS,R⟩⟩,trivial⟩ R (fun w s=>(((s.nilo kT3 3).nilo kT3 3).e 10 [1,0]))
 refine bJ R dj (cP (aI (aM ?_)))
 obtain ⟨cn,g9,b⟩:=bd b
 obtain ⟨c9,ga,b⟩:=bd b
 refine dG 8 [1] bP (fun ht hn=>(dR 0 R (fS 2 ks R) (hS:=(sL [1])) (dR 1 R (gB 1 cO R R R) (hS:=(sL [1])) (dR 3 R (fS 5 nB R) (hS:=(sL [1])) (dR 4 R (gB 1 cO R R R) (hS:=(sL [1])) (d1 2 R (lM (RR kT3 A3 D3 j.Dims::_::_::i) (fun w s=>(s.d 4 R)) ?_)))))))
 refine lC 1 jW R (Zs_ok g9) R ?_
 rintro ⟨c1,hx,df⟩
 refine lN (ow kT3 3 (.slice c1 hx df) cn::_::_::i) ?_
 refine aL 0 aB ?_
 rintro rfl
 refine aC (aG (sL [2,0]) (d1 5 R (lM (RR kT3 A5 D5 j.Data::_::_::_::i) (fun w s=>(s.d 7 R)) ?_)))
 refine lC 1 jW R (Zs_ok ga) R ?_
 rintro ⟨cq,hy,cw⟩
 refine lN (ow kT3 3 (.slice cq hy cw) c9::_::_::_::i) ?_
 refine aL 0 aB ?_
 rintro rfl
 refine aC (aG (sL [3,1,0]) (dR 6 R (vz (.agg [(sc c1 cn df),(sc cq c9 cw)].toArray) (aW gO dT R R)) (hS:=(sL [3,1,0])) (d1 7 R (aK 3 R R bS R R R R R R (lN (_::_::_::aJ l [(sc c1 cn df),(sc cq c9 cw)] 58::i) ?_)))))
 refine aC (aG (sL [3,1,0]) (dD (aI (bW (dF (cE ?_))))))
 obtain rfl:=so b
 exact dI (vs:=[(.agg [(sc c1 cn df),(sc cq c9 cw)].toArray)]) (.inl R) ((c1,cn.length,df),(cq,c9.length,cw)) R ⟨⟨3,l,_,_,R,R,.inl ⟨fG,bS,R⟩⟩,trivial⟩ R (fun w s=>(s.e 10 [1,0]))
 refine bJ R cg (aM (bB (A:=(Bool)×(Unit)) (fun a=>Z1_J1 j g a.1=some r) (fun a=>[(1,(sc A7 g D7)),(2,(pt b8 0)),(4,(pt l 0)),(5,(sc A4 j.Ints D4)),(10,(iv j.Op)),(29,(.bool a.1))]) (fun a=>aJ l [(.slice none 0 0),(.slice none 0 0)] 58::i) ?_ ?_))
 refine aM (aE (lO (lK R R) (lB R (aC (aI ?_)))))
 rcases cG b with ⟨cx,b⟩|⟨cx,b⟩
 refine bZ R cx (cP ?_)
 exact qI ((j.Op==(3:Int)),()) b (fun w s=>s)
 refine bJ R cx (aM (aE (lO (lK R R) (lB R (aC (aI ?_))))))
 rcases cG b with ⟨dd,b⟩|⟨dd,b⟩
 refine bZ R dd (cP ?_)
 exact qI ((j.Op==(4:Int)),()) b (fun w s=>s)
 refine bJ R dd (aE (lO (lK R R) (lB R (aC ?_))))
 exact qI ((j.Op==(5:Int)),()) b (fun w s=>s)
 rintro ⟨ic,_⟩ σ1 b
 replace b:Z1_J1 j g ic=some r:=b
 unfold Z1_J1 at b
 rcases cG b with ⟨cv,b⟩|⟨cv,b⟩
 refine bZ R cv (aM (aM ?_))
 obtain ⟨a0,b⟩:=gd b
 obtain ⟨ar,b⟩:=gd b
 obtain ⟨iq,h9,b⟩:=bd b
 refine aZ 6 aA (show 0<g.length by have:=a0; omega) (fun eb o27 m=>?_)
 subst m
 refine dL (K:=dX) 6 (0:Int) dT58.dec R a0.1 a0.2 ?_
 rintro ⟨⟨fh,fn⟩,⟨ft,fu⟩⟩
 refine cN (cl eb (o27+(0:Int).toNat*2) [(sc fh ((ix g (0:Int)).Dims) fn),(sc ft ((ix g (0:Int)).Data) fu)]::RR kT3 fh fn ((ix g (0:Int)).Dims)::RR kT3 ft fu ((ix g (0:Int)).Data)::aJ l [(.slice none 0 0),(.slice none 0 0)] 58::i) ?_
 refine dL (K:=dX) 9 (1:Int) dT58.dec R ar.1 ar.2 ?_
 rintro ⟨⟨fk,fj⟩,⟨fx,f8⟩⟩
 refine cN (cl eb (o27+(1:Int).toNat*2) [(sc fk ((ix g (1:Int)).Dims) fj),(sc fx ((ix g (1:Int)).Data) f8)]::RR kT3 fk fj ((ix g (1:Int)).Dims)::RR kT3 fx f8 ((ix g (1:Int)).Data)::_::_::_::_::i) ?_
 refine dG 10 [] bP (fun ht hn=>(dR 0 R (vS R) (dR 1 R (eI gI bS R R a0) (dR 2 R (vz (.pointer (some ⟨eb,o27+(0:Int).toNat*2,none⟩)) (j4 iX R R)) (dR 3 R (eH (fo:=0) 3 cO R R R) (dR 4 R (vS R) (dR 5 R (eI gI bS R R ar) (dR 6 R (vz (.pointer (some ⟨eb,o27+(1:Int).toNat*2,none⟩)) (j4 iX R R)) (dR 7 R (eH (fo:=0) 0 cO R R R) (d1 8 R (lM (aO _ _ _::aO _ _ _::cl _ _ _::aO _ _ _::aO _ _ _::cl _ _ _::aO _ _ _::aO _ _ _::aJ _ _ _::i) (fun w s=>(((s.d 4 R).d 2 R).f 9 [1,1,0,1,2,7])) ?_)))))))))))
 refine lC 2 wV R (Z01_ok h9) R ?_
 rintro _
 refine lN (_::_::_::_::_::_::_::i) ?_
 refine aC (aG (sL []) (dR 9 R (rJ R) (dD (aI ?_))))
 rcases cG b with ⟨dm,b⟩|⟨dm,b⟩
 refine bZ R dm (aM (aE (lO (vz (.agg [(.slice none 0 0),(.slice none 0 0)].toArray) (aW gO dT R R)) (aK 6 R R bS R R R R R R (aC (aI (bW (cE (dF (cE ?_))))))))))
 obtain rfl:=so b
 exact dI (vs:=[(.agg [(.slice none 0 0),(.slice none 0 0)].toArray)]) (.inl R) ((none,0,0),(none,0,0)) R ⟨⟨6,l,_,_,R,R,.inl ⟨fG,bS,R⟩⟩,trivial⟩ R (fun w s=>(((s.nilo kT3 3).nilo kT3 3).e 15 [1,0]))
 refine bJ R dm (cP (aI (aM ?_)))
 obtain ⟨a2,g4,b⟩:=bd b
 refine dG 12 [6] bP (fun ht hn=>(dR 0 R (fS 0 jw R) (hS:=(sL [6])) (dR 1 R (gB 6 fP R R R) (hS:=(sL [6])) (dR 2 R (wB R R) (hS:=(sL [6])) (dR 3 R (kK R R) (hS:=(sL [6])) (dR 4 R (vS R) (hS:=(sL [6])) (dR 5 R (eI gI bS R R a0) (hS:=(sL [6])) (dR 6 R (vz (.agg [(sc fh ((ix g (0:Int)).Dims) fn),(sc ft ((ix g (0:Int)).Data) fu)].toArray) (eK (fo:=0) 3 fG bS R R R R)) (hS:=(sL [6])) (dR 7 R (vS R) (hS:=(sL [6])) (dR 8 R (eI gI bS R R ar) (hS:=(sL [6])) (dR 9 R (vz (.agg [(sc fk ((ix g (1:Int)).Dims) fj),(sc fx ((ix g (1:Int)).Data) f8)].toArray) (eK (fo:=0) 0 fG bS R R R R)) (hS:=(sL [6])) (d1 10 R (lM (aO _ _ _::aO _ _ _::aO _ _ _::aO _ _ _::cl _ _ _::aO _ _ _::aO _ _ _::cl _ _ _::aO _ _ _::aO _ _ _::aJ _ _ _::i) (fun w s=>(((((s.d 4 R).d 6 R).d 3 R).d 5 R).f 11 [3,1,2,1,1,1,0,1,4,7])) ?_)))))))))))))
 refine lC 4 B0 R (Z13_ok g4) R ?_
 rintro ⟨⟨ep,ie,eg⟩,⟨eh,i0,eo⟩⟩
 refine lN (ow kT3 3 (.slice ep ie eg) a2.Dims::ow kT3 3 (.slice eh i0 eo) a2.Data::_::_::_::_::_::_::_::i) ?_
 refine aL 0 aB ?_
 rintro rfl
 refine aL 1 aB ?_
 rintro rfl
 refine aC (aG (sL [8,1,0]) (d1 11 R (aK 8 R R bS R R R R R R (lN (_::_::_::_::_::_::_::_::aJ l [(sc ep a2.Dims eg),(sc eh a2.Data eo)] 58::i) ?_))))
 refine aC (aG (sL [8,1,0]) (dD (aI (bW (dF (cE ?_))))))
 obtain rfl:=so b
 exact dI (vs:=[(.agg [(sc ep a2.Dims eg),(sc eh a2.Data eo)].toArray)]) (.inl R) ((ep,a2.Dims.length,eg),(eh,a2.Data.length,eo)) R ⟨⟨8,l,_,_,R,R,.inl ⟨fG,bS,R⟩⟩,trivial⟩ R (fun w s=>(s.e 15 [0,1]))
 refine bJ R cv (aM (bB (A:=(Bool)×(Unit)) (fun a=>Z1_J2 j g a.1=some r) (fun a=>[(1,(sc A7 g D7)),(2,(pt b8 0)),(4,(pt l 0)),(5,(sc A4 j.Ints D4)),(10,(iv j.Op)),(55,(.bool a.1))]) (fun a=>aJ l [(.slice none 0 0),(.slice none 0 0)] 58::i) ?_ ?_))
 refine aM (aE (lO (lK R R) (lB R (aC (aI ?_)))))
 rcases cG b with ⟨ck,b⟩|⟨ck,b⟩
 refine bZ R ck (cP ?_)
 exact qI ((j.Op==(6:Int)),()) b (fun w s=>s)
 refine bJ R ck (aM (aE (lO (lK R R) (lB R (aC (aI ?_))))))
 rcases cG b with ⟨dg,b⟩|⟨dg,b⟩
 refine bZ R dg (cP ?_)
 exact qI ((j.Op==(7:Int)),()) b (fun w s=>s)
 refine bJ R dg (aM (aE (lO (lK R R) (lB R (aC (aI ?_))))))
 rcases cG b with ⟨dq,b⟩|⟨dq,b⟩
 refine bZ R dq (cP ?_)
 exact qI ((j.Op==(8:Int)),()) b (fun w s=>s)
 refine bJ R dq (aE (lO (lK R R) (lB R (aC ?_))))
 exact qI ((j.Op==(9:Int)),()) b (fun w s=>s)
 rintro ⟨i3,_⟩ σ1 b
 replace b:Z1_J2 j g i3=some r:=b
 unfold Z1_J2 at b
 rcases cG b with ⟨du,b⟩|⟨du,b⟩
 refine bZ R du (aM ?_)
 obtain ⟨c0,b⟩:=gd b
 obtain ⟨a9,hq,b⟩:=bd b
 refine aZ 6 aA (show 0<g.length by have:=c0; omega) (fun i1 o47 m=>?_)
 subst m
 refine dL (K:=dX) 6 (0:Int) dT58.dec R c0.1 c0.2 ?_
 rintro ⟨⟨g0,fv⟩,⟨fm,fc⟩⟩
 refine cN (cl i1 (o47+(0:Int).toNat*2) [(sc g0 ((ix g (0:Int)).Dims) fv),(sc fm ((ix g (0:Int)).Data) fc)]::RR kT3 g0 fv ((ix g (0:Int)).Dims)::RR kT3 fm fc ((ix g (0:Int)).Data)::aJ l [(.slice none 0 0),(.slice none 0 0)] 58::i) ?_
 refine dG 9 [3] bP (fun ht hn=>(dR 0 R (fS 0 jw R) (hS:=(sL [3])) (dR 1 R (gB 3 fP R R R) (hS:=(sL [3])) (dR 2 R (wB R R) (hS:=(sL [3])) (dR 3 R (kK R R) (hS:=(sL [3])) (dR 4 R (vS R) (hS:=(sL [3])) (dR 5 R (eI gI bS R R c0) (hS:=(sL [3])) (dR 6 R (vz (.agg [(sc g0 ((ix g (0:Int)).Dims) fv),(sc fm ((ix g (0:Int)).Data) fc)].toArray) (eK (fo:=0) 0 fG bS R R R R)) (hS:=(sL [3])) (d1 7 R (lM (aO _ _ _::aO _ _ _::cl _ _ _::aO _ _ _::aO _ _ _::aJ _ _ _::i) (fun w s=>(((s.d 1 R).d 3 R).e 6 [1,0,2,3,4,5])) ?_))))))))))
 refine lC 2 B1 R (Z12_ok hq) R ?_
 rintro ⟨⟨ei,id,e7⟩,⟨el,hz,ea⟩⟩
 refine lN (ow kT3 3 (.slice ei id e7) a9.Dims::ow kT3 3 (.slice el hz ea) a9.Data::_::_::_::_::i) ?_
 refine aL 0 aB ?_
 rintro rfl
 refine aL 1 aB ?_
 rintro rfl
 refine aC (aG (sL [5,1,0]) (d1 8 R (aK 5 R R bS R R R R R R (lN (_::_::_::_::_::aJ l [(sc ei a9.Dims e7),(sc el a9.Data ea)] 58::i) ?_))))
 refine aC (aG (sL [5,1,0]) (dD (aI (bW (dF (cE ?_))))))
 obtain rfl:=so b
 exact dI (vs:=[(.agg [(sc ei a9.Dims e7),(sc el a9.Data ea)].toArray)]) (.inl R) ((ei,a9.Dims.length,e7),(el,a9.Data.length,ea)) R ⟨⟨5,l,_,_,R,R,.inl ⟨fG,bS,R⟩⟩,trivial⟩ R (fun w s=>(s.e 12 [0,1]))
 refine bJ R du (aM (aE (lO (lK R R) (lB R (aC (aI ?_))))))
 rcases cG b with ⟨d9,b⟩|⟨d9,b⟩
 refine bZ R d9 (aM ?_)
 obtain ⟨bc,b⟩:=gd b
 obtain ⟨c4,b⟩:=gd b
 obtain ⟨a7,gw,b⟩:=bd b
 refine aZ 6 aA (show 0<g.length by have:=bc; omega) (fun ib o57 m=>?_)
 subst m
 refine dL (K:=dX) 6 (0:Int) dT58.dec R bc.1 bc.2 ?_
 rintro ⟨⟨g1,f6⟩,⟨fz,g2⟩⟩
 refine cN (cl ib (o57+(0:Int).toNat*2) [(sc g1 ((ix g (0:Int)).Dims) f6),(sc fz ((ix g (0:Int)).Data) g2)]::RR kT3 g1 f6 ((ix g (0:Int)).Dims)::RR kT3 fz g2 ((ix g (0:Int)).Data)::aJ l [(.slice none 0 0),(.slice none 0 0)] 58::i) ?_
 refine aZ 7 aA (show 0<j.Ints.length by have:=c4; omega) (fun ir o62 m=>?_)
 subst m
 refine dG 8 [3] bP (fun ht hn=>(dR 0 R (vS R) (hS:=(sL [3])) (dR 1 R (eI gI bS R R bc) (hS:=(sL [3])) (dR 2 R (vz (.agg [(sc g1 ((ix g (0:Int)).Dims) f6),(sc fz ((ix g (0:Int)).Data) g2)].toArray) (eK (fo:=0) 0 fG bS R R R R)) (hS:=(sL [3])) (dR 3 R (vS R) (hS:=(sL [3])) (dR 4 R (eI bK cC R R c4) (hS:=(sL [3])) (dR 5 R (gP 6 fP aA R c4) (hS:=(sL [3])) (d1 6 R (lM (aO _ _ _::aO _ _ _::cl _ _ _::aO _ _ _::aO _ _ _::aJ _ _ _::i) (fun w s=>(((s.d 1 R).d 3 R).e 6 [1,0,2,3,4,5])) ?_)))))))))
 refine lC 2 B2 R (Za_ok gw) R ?_
 rintro ⟨⟨ek,i4,e4⟩,⟨eu,hu,e9⟩⟩
 refine lN (ow kT3 3 (.slice ek i4 e4) a7.Dims::ow kT3 3 (.slice eu hu e9) a7.Data::_::_::_::_::i) ?_
 refine aL 0 aB ?_
 rintro rfl
 refine aL 1 aB ?_
 rintro rfl
 refine aC (aG (sL [5,1,0]) (d1 7 R (aK 5 R R bS R R R R R R (lN (_::_::_::_::_::aJ l [(sc ek a7.Dims e4),(sc eu a7.Data e9)] 58::i) ?_))))
 refine aC (aG (sL [5,1,0]) (dD (aI (bW (dF (cE ?_))))))
 obtain rfl:=so b
 exact dI (vs:=[(.agg [(sc ek a7.Dims e4),(sc eu a7.Data e9)].toArray)]) (.inl R) ((ek,a7.Dims.length,e4),(eu,a7.Data.length,e9)) R ⟨⟨5,l,_,_,R,R,.inl ⟨fG,bS,R⟩⟩,trivial⟩ R (fun w s=>(s.e 12 [0,1]))
 refine bJ R d9 (aM (aE (lO (lK R R) (lB R (aC (aI ?_))))))
 rcases cG b with ⟨d4,b⟩|⟨d4,b⟩
 refine bZ R d4 (aM ?_)
 obtain ⟨a3,ho,b⟩:=bd b
 refine aE (lO (fS 4 pm R) (lO (gB 1 re R R R) (lS R (lM (RR dX A7 D7 g::aJ l [(.slice none 0 0),(.slice none 0 0)] 58::i) (fun w s=>(s.d 6 R)) ?_))))
 refine lC 1 B3 R (Z5_ok ho) R ?_
 rintro ⟨⟨eq,hs,ew⟩,⟨e6,i8,ec⟩⟩
 refine lN (ow kT3 3 (.slice eq hs ew) a3.Dims::ow kT3 3 (.slice e6 i8 ec) a3.Data::_::i) ?_
 refine aL 0 aB ?_
 rintro rfl
 refine aL 1 aB ?_
 rintro rfl
 refine aK 2 R R bS R R R R R R (lN (_::_::aJ l [(sc eq a3.Dims ew),(sc e6 a3.Data ec)] 58::i) ?_)
 refine aC (aI (bW (dF (cE ?_))))
 obtain rfl:=so b
 exact dI (vs:=[(.agg [(sc eq a3.Dims ew),(sc e6 a3.Data ec)].toArray)]) (.inl R) ((eq,a3.Dims.length,ew),(e6,a3.Data.length,ec)) R ⟨⟨2,l,_,_,R,R,.inl ⟨fG,bS,R⟩⟩,trivial⟩ R (fun w s=>(s.e 9 [0,1]))
 refine bJ R d4 (aM (aE (lO (lK R R) (lB R (aC (aI ?_))))))
 rcases cG b with ⟨cc,b⟩|⟨cc,b⟩
 refine bZ R cc (aM ?_)
 obtain ⟨a5,b⟩:=gd b
 obtain ⟨aa,gg,b⟩:=bd b
 obtain ⟨a4,hg,b⟩:=bd b
 obtain ⟨a1,gy,b⟩:=bd b
 refine aZ 6 aA (show 0<g.length by have:=a5; omega) (fun g5 o75 m=>?_)
 subst m
 refine dL (K:=dX) 6 (0:Int) dT58.dec R a5.1 a5.2 ?_
 rintro ⟨⟨co,dy⟩,⟨dk,d6⟩⟩
 refine cN (cl g5 (o75+(0:Int).toNat*2) [(sc co ((ix g (0:Int)).Dims) dy),(sc dk ((ix g (0:Int)).Data) d6)]::RR kT3 co dy ((ix g (0:Int)).Dims)::RR kT3 dk d6 ((ix g (0:Int)).Data)::aJ l [(.slice none 0 0),(.slice none 0 0)] 58::i) ?_
 refine dG 13 [3] bP (fun ht hn=>(dR 0 R (vS R) (hS:=(sL [3])) (dR 1 R (eI gI bS R R a5) (hS:=(sL [3])) (dR 2 R (vz (.agg [(sc co ((ix g (0:Int)).Dims) dy),(sc dk ((ix g (0:Int)).Data) d6)].toArray) (eK (fo:=0) 0 fG bS R R R R)) (hS:=(sL [3])) (dR 3 R (vS R) (hS:=(sL [3])) (dR 4 R (eI gI bS R R a5) (hS:=(sL [3])) (dR 5 R (vz (.pointer (some ⟨g5,o75+(0:Int).toNat*2,none⟩)) (j4 iX R R)) (hS:=(sL [3])) (dR 6 R (eH (fo:=0) 0 cO R R R) (hS:=(sL [3])) (dR 8 R (fS 2 ks R) (hS:=(sL [3])) (dR 9 R (gB 3 cO R R R) (hS:=(sL [3])) (d1 7 R (lM (_::_::_::_::_::i) (fun w s=>(s.d 1 R)) ?_))))))))))))
 refine lC 1 uA R (Zx_ok gg) R ?_
 rintro ⟨⟨f7,hv,f9⟩,⟨en,ih,ej⟩⟩
 refine lN (aO kT3 (.slice f7 hv f9) aa.Dims::ow kT3 3 (.slice en ih ej) aa.Strides::_::_::_::_::i) ?_
 refine aL 0 aA ?_
 rintro rfl
 refine aL 1 aB ?_
 rintro rfl
 refine aC (aG (sL [5,1,0]) (d1 10 R (lM (ow _ _ _ _::aO _ _ _::RR kT3 A3 D3 j.Dims::aO _ _ _::cl _ _ _::aO _ _ _::aO _ _ _::aJ _ _ _::i) (fun w s=>(((s.d 0 R).d 9 R).e 8 [3,1,0,2,4,5,6,7])) ?_)))
 refine lC 3 B4 R (FnOk.lends (A':=[OO kT3 3 en ej aa.Strides]) (A:=[RR kT3 en ej aa.Strides]) (B:=[RR kT3 f7 f9 aa.Dims,RR kT3 A3 D3 j.Dims]) (FnOk.perm (Z03_ok hg) (Pre':=[RR kT3 en ej aa.Strides,RR kT3 f7 f9 aa.Dims,RR kT3 A3 D3 j.Dims]) (fun _ _ _ s=>(s.e 3 [1,0,2]))) ⟨aU,trivial⟩ (fun _=>⟨(bI iW),(bI iW),trivial⟩)) R ?_
 rintro ⟨⟨es,i2,ef⟩,⟨e8,i7,er⟩⟩
 refine lN (_::ow kT3 3 (.slice es i2 ef) a4.Dims::ow kT3 3 (.slice e8 i7 er) a4.Strides::_::_::_::_::_::i) ?_
 refine aL 1 aB ?_
 rintro rfl
 refine aL 2 aB ?_
 rintro rfl
 refine aC (aG (sL [7,3,2,1,0]) (d1 11 R (lM (ow _ _ _ _::ow _ _ _ _::aO _ _ _::aO _ _ _::ow _ _ _ _::aO _ _ _::cl _ _ _::aO _ _ _::aO _ _ _::aJ _ _ _::i) (fun w s=>(((s.d 5 R).d 7 R).e 10 [3,4,1,0,2,5,6,7,8,9])) ?_)))
 refine lC 4 uB R (FnOk.lends (A':=[OO kT3 3 es ef a4.Dims,OO kT3 3 e8 er a4.Strides]) (A:=[RR kT3 es ef a4.Dims,RR kT3 e8 er a4.Strides]) (B:=[RR kT3 co dy ((ix g (0:Int)).Dims),RR kT3 dk d6 ((ix g (0:Int)).Data)]) (FnOk.perm (Z02_ok gy) (Pre':=[RR kT3 es ef a4.Dims,RR kT3 e8 er a4.Strides,RR kT3 co dy ((ix g (0:Int)).Dims),RR kT3 dk d6 ((ix g (0:Int)).Data)]) (fun _ _ _ s=>(s.e 4 [2,3,0,1]))) ⟨aU,aU,trivial⟩ (fun _=>⟨(bI iW),(bI iW),trivial⟩)) R ?_
 rintro ⟨⟨ee,i6,e5⟩,⟨em,ig,et⟩⟩
 refine lN (_::_::ow kT3 3 (.slice ee i6 e5) a1.Dims::ow kT3 3 (.slice em ig et) a1.Data::_::_::_::_::_::_::i) ?_
 refine aL 2 aB ?_
 rintro rfl
 refine aL 3 aB ?_
 rintro rfl
 refine aC (aG (sL [9,5,4,3,2,1,0]) (d1 12 R (aK 9 R R bS R R R R R R (lN (_::_::_::_::_::_::_::_::_::aJ l [(sc ee a1.Dims e5),(sc em a1.Data et)] 58::i) ?_))))
 refine aC (aG (sL [9,5,4,3,2,1,0]) (dD (aI (bW (dF (cE ?_))))))
 obtain rfl:=so b
 exact dI (vs:=[(.agg [(sc ee a1.Dims e5),(sc em a1.Data et)].toArray)]) (.inl R) ((ee,a1.Dims.length,e5),(em,a1.Data.length,et)) R ⟨⟨9,l,_,_,R,R,.inl ⟨fG,bS,R⟩⟩,trivial⟩ R (fun w s=>(s.e 16 [2,3]))
 refine bJ R cc (aM (aE (lO (lK R R) (lB R (aC (aI ?_))))))
 rcases cG b with ⟨dn,b⟩|⟨dn,b⟩
 refine bZ R dn (aM ?_)
 obtain ⟨a8,b⟩:=gd b
 obtain ⟨ae,hh,b⟩:=bd b
 obtain ⟨E,ff,b⟩:=bd b
 obtain ⟨J,fr,b⟩:=bd b
 refine aZ 6 aA (show 0<g.length by have:=a8; omega) (fun h2 o93 m=>?_)
 subst m
 refine dL (K:=dX) 6 (0:Int) dT58.dec R a8.1 a8.2 ?_
 rintro ⟨⟨ct,dw⟩,⟨ci,cj⟩⟩
 refine cN (cl h2 (o93+(0:Int).toNat*2) [(sc ct ((ix g (0:Int)).Dims) dw),(sc ci ((ix g (0:Int)).Data) cj)]::RR kT3 ct dw ((ix g (0:Int)).Dims)::RR kT3 ci cj ((ix g (0:Int)).Data)::aJ l [(.slice none 0 0),(.slice none 0 0)] 58::i) ?_
 refine dG 13 [3] bP (fun ht hn=>(dR 0 R (vS R) (hS:=(sL [3])) (dR 1 R (eI gI bS R R a8) (hS:=(sL [3])) (dR 2 R (vz (.agg [(sc ct ((ix g (0:Int)).Dims) dw),(sc ci ((ix g (0:Int)).Data) cj)].toArray) (eK (fo:=0) 0 fG bS R R R R)) (hS:=(sL [3])) (dR 3 R (vS R) (hS:=(sL [3])) (dR 4 R (eI gI bS R R a8) (hS:=(sL [3])) (dR 5 R (vz (.pointer (some ⟨h2,o93+(0:Int).toNat*2,none⟩)) (j4 iX R R)) (hS:=(sL [3])) (dR 6 R (eH (fo:=0) 0 cO R R R) (hS:=(sL [3])) (dR 8 R (fS 2 ks R) (hS:=(sL [3])) (dR 9 R (gB 3 cO R R R) (hS:=(sL [3])) (d1 7 R (lM (_::_::_::_::_::i) (fun w s=>(s.d 1 R)) ?_))))))))))))
 refine lC 1 uA R (Zx_ok hh) R ?_
 rintro ⟨⟨fb,i5,fs⟩,⟨ed,ia,e3⟩⟩
 refine lN (aO kT3 (.slice fb i5 fs) ae.Dims::ow kT3 3 (.slice ed ia e3) ae.Strides::_::_::_::_::i) ?_
 refine aL 0 aA ?_
 rintro rfl
 refine aL 1 aB ?_
 rintro rfl
 refine aC (aG (sL [5,1,0]) (d1 10 R (lM (ow _ _ _ _::aO _ _ _::RR kT3 A3 D3 j.Dims::aO _ _ _::cl _ _ _::aO _ _ _::aO _ _ _::aJ _ _ _::i) (fun w s=>(((s.d 0 R).d 9 R).e 8 [3,1,0,2,4,5,6,7])) ?_)))
 refine lC 3 B5 R (FnOk.lends (A':=[OO kT3 3 ed e3 ae.Strides]) (A:=[RR kT3 ed e3 ae.Strides]) (B:=[RR kT3 fb fs ae.Dims,RR kT3 A3 D3 j.Dims]) (FnOk.perm (Z0b_ok ff) (Pre':=[RR kT3 ed e3 ae.Strides,RR kT3 fb fs ae.Dims,RR kT3 A3 D3 j.Dims]) (fun _ _ _ s=>(s.e 3 [1,0,2]))) ⟨aU,trivial⟩ (fun _=>⟨(bI iW),(bI iW),trivial⟩)) R ?_
 rintro ⟨⟨bq,h5,bw⟩,⟨bv,g3,bj⟩⟩
 refine lN (_::ow kT3 3 (.slice bq h5 bw) E.Dims::ow kT3 3 (.slice bv g3 bj) E.Strides::_::_::_::_::_::i) ?_
 refine aL 1 aB ?_
 rintro rfl
 refine aL 2 aB ?_
 rintro rfl
 refine aC (aG (sL [7,3,2,1,0]) (d1 11 R (lM (ow _ _ _ _::ow _ _ _ _::aO _ _ _::aO _ _ _::ow _ _ _ _::aO _ _ _::cl _ _ _::aO _ _ _::aO _ _ _::aJ _ _ _::i) (fun w s=>(((s.d 5 R).d 7 R).e 10 [3,4,1,0,2,5,6,7,8,9])) ?_)))
 refine lC 4 uB R (FnOk.lends (A':=[OO kT3 3 bq bw E.Dims,OO kT3 3 bv bj E.Strides]) (A:=[RR kT3 bq bw E.Dims,RR kT3 bv bj E.Strides]) (B:=[RR kT3 ct dw ((ix g (0:Int)).Dims),RR kT3 ci cj ((ix g (0:Int)).Data)]) (FnOk.perm (Z02_ok fr) (Pre':=[RR kT3 bq bw E.Dims,RR kT3 bv bj E.Strides,RR kT3 ct dw ((ix g (0:Int)).Dims),RR kT3 ci cj ((ix g (0:Int)).Data)]) (fun _ _ _ s=>(s.e 4 [2,3,0,1]))) ⟨aU,aU,trivial⟩ (fun _=>⟨(bI iW),(bI iW),trivial⟩)) R ?_
 rintro ⟨⟨bf,gs,bn⟩,⟨ax,he,b2⟩⟩
 refine lN (_::_::ow kT3 3 (.slice bf gs bn) J.Dims::ow kT3 3 (.slice ax he b2) J.Data::_::_::_::_::_::_::i) ?_
 refine aL 2 aB ?_
 rintro rfl
 refine aL 3 aB ?_
 rintro rfl
 refine aC (aG (sL [9,5,4,3,2,1,0]) (d1 12 R (aK 9 R R bS R R R R R R (lN (_::_::_::_::_::_::_::_::_::aJ l [(sc bf J.Dims bn),(sc ax J.Data b2)] 58::i) ?_))))
 refine aC (aG (sL [9,5,4,3,2,1,0]) (dD (aI (bW (dF (cE ?_))))))
 obtain rfl:=so b
 exact dI (vs:=[(.agg [(sc bf J.Dims bn),(sc ax J.Data b2)].toArray)]) (.inl R) ((bf,J.Dims.length,bn),(ax,J.Data.length,b2)) R ⟨⟨9,l,_,_,R,R,.inl ⟨fG,bS,R⟩⟩,trivial⟩ R (fun w s=>(s.e 16 [2,3]))
 refine bJ R dn (aM (aE (lO (lK R R) (lB R (aC (aI ?_))))))
 rcases cG b with ⟨an,b⟩|⟨an,b⟩
 refine bZ R an (aM (aM ?_))
 obtain ⟨M,b⟩:=gd b
 refine aE (lS R (bC 4 aA (show 0<j.Ints.length by have:=M; omega) (fun ik o111 m=>?_)))
 subst m
 refine lO (eI bK cC R R M) (lO (gP 4 fP aA R M) (lO (mW R R) (aC (aI ?_))))
 rcases cG b with ⟨aq,b⟩|⟨aq,b⟩
 refine bZ R aq (aM (aE (lO (vz (.agg [(.slice none 0 0),(.slice none 0 0)].toArray) (aW gO dT R R)) (aK 0 R R bS R R R R R R (lN (aJ l [(.slice none 0 0),(.slice none 0 0)] 58::i) ?_)))))
 refine aC (aI (bW (cE (dF (cE ?_)))))
 obtain rfl:=so b
 exact dI (vs:=[(.agg [(.slice none 0 0),(.slice none 0 0)].toArray)]) (.inl R) ((none,0,0),(none,0,0)) R ⟨⟨0,l,_,_,R,R,.inl ⟨fG,bS,R⟩⟩,trivial⟩ R (fun w s=>(((s.nilo kT3 3).nilo kT3 3).e 9 [1,0]))
 refine bJ R aq (cP (aI (aM ?_)))
 obtain ⟨O,b⟩:=gd b
 obtain ⟨bs,fw,b⟩:=bd b
 obtain ⟨d0,b⟩:=gd b
 obtain ⟨ch,b⟩:=gd b
 obtain ⟨cr,b⟩:=gd b
 obtain ⟨f1,fe,b⟩:=bd b
 obtain ⟨D,fy,b⟩:=bd b
 refine aZ 6 aA (show 0<g.length by have:=O; omega) (fun ey o115 m=>?_)
 subst m
 refine dL (K:=dX) 6 (0:Int) dT58.dec R O.1 O.2 ?_
 rintro ⟨⟨ds,de⟩,⟨dr,dh⟩⟩
 refine cN (cl ey (o115+(0:Int).toNat*2) [(sc ds ((ix g (0:Int)).Dims) de),(sc dr ((ix g (0:Int)).Data) dh)]::RR kT3 ds de ((ix g (0:Int)).Dims)::RR kT3 dr dh ((ix g (0:Int)).Data)::_::i) ?_
 refine dG 23 [3] bP (fun ht hn=>(dR 0 R (vS R) (hS:=(sL [3])) (dR 1 R (eI gI bS R R O) (hS:=(sL [3])) (dR 2 R (vz (.agg [(sc ds ((ix g (0:Int)).Dims) de),(sc dr ((ix g (0:Int)).Data) dh)].toArray) (eK (fo:=0) 0 fG bS R R R R)) (hS:=(sL [3])) (dR 3 R (vS R) (hS:=(sL [3])) (dR 4 R (eI gI bS R R O) (hS:=(sL [3])) (dR 5 R (vz (.pointer (some ⟨ey,o115+(0:Int).toNat*2,none⟩)) (j4 iX R R)) (hS:=(sL [3])) (dR 6 R (eH (fo:=0) 0 cO R R R) (hS:=(sL [3])) (dR 8 R (vS R) (hS:=(sL [3])) (dR 9 R (eI bK cC R R d0) (hS:=(sL [3])) (dR 10 R (gP 6 fP aA R d0) (hS:=(sL [3])) (dR 11 R (vS R) (hS:=(sL [3])) (dR 12 R (eI bK cC R R ch) (hS:=(sL [3])) (dR 13 R (gP 6 fP aA R ch) (hS:=(sL [3])) (dR 14 R (vS R) (hS:=(sL [3])) (dR 15 R (eI bK cC R R cr) (hS:=(sL [3])) (dR 16 R (gP 6 fP aA R cr) (hS:=(sL [3])) (dR 17 R (vS R) (hS:=(sL [3])) (dR 18 R (eI bK cC R R M) (hS:=(sL [3])) (dR 19 R (gP 6 fP aA R M) (hS:=(sL [3])) (d1 7 R (lM (_::_::_::_::_::i) (fun w s=>(s.d 1 R)) ?_))))))))))))))))))))))
 refine lC 1 uA R (Zx_ok fw) R ?_
 rintro ⟨⟨hj,gu,hd⟩,⟨da,gi,e2⟩⟩
 refine lN (aO kT3 (.slice hj gu hd) bs.Dims::ow kT3 3 (.slice da gi e2) bs.Strides::_::_::_::_::i) ?_
 refine aL 0 aA ?_
 rintro rfl
 refine aL 1 aB ?_
 rintro rfl
 refine aC (aG (sL [5,1,0]) (d1 20 R (iT (fun w s=>s.shr 1 R) (lM (aO _ _ _::RR kT3 da e2 bs.Strides::RR kT3 da e2 bs.Strides::aO _ _ _::cl _ _ _::aO _ _ _::aO _ _ _::aJ _ _ _::i) (fun w s=>(((s.d 1 R).d 1 R).f 8 [1,1,0,1,2,6])) ?_))))
 refine lC 2 B6 R (Z1a_ok fe) R ?_
 rintro ⟨⟨gn,gm,gj⟩,⟨hc,h0,ge⟩⟩
 refine lN (aO kT3 (.slice gn gm gj) f1.Dims::aO kT3 (.slice hc h0 ge) f1.Strides::_::_::_::_::_::_::i) ?_
 refine aL 0 aA ?_
 rintro rfl
 refine aL 1 aA ?_
 rintro rfl
 refine aC (aG (sL [7,3,2,1,0]) (d1 21 R (lM (aO _ _ _::aO _ _ _::aO _ _ _::aO _ _ _::aO _ _ _::aO _ _ _::aO _ _ _::aO _ _ _::cl _ _ _::aO _ _ _::aO _ _ _::aJ _ _ _::i) (fun w s=>(((((s.d 5 R).d 7 R).d 2 R).d 4 R).f 12 [3,1,2,1,1,1,0,1,4,8])) ?_)))
 refine lC 4 uB R (Z02_ok fy) R ?_
 rintro ⟨⟨b7,h6,b6⟩,⟨b0,gc,au⟩⟩
 refine lN (ow kT3 3 (.slice b7 h6 b6) D.Dims::ow kT3 3 (.slice b0 gc au) D.Data::_::_::_::_::_::_::_::_::i) ?_
 refine aL 0 aB ?_
 rintro rfl
 refine aL 1 aB ?_
 rintro rfl
 refine aC (aG (sL [9,5,4,3,2,1,0]) (d1 22 R (aK 9 R R bS R R R R R R (lN (_::_::_::_::_::_::_::_::_::aJ l [(sc b7 D.Dims b6),(sc b0 D.Data au)] 58::i) ?_))))
 refine aC (aG (sL [9,5,4,3,2,1,0]) (dD (aI (bW (dF (cE ?_))))))
 obtain rfl:=so b
 exact dI (vs:=[(.agg [(sc b7 D.Dims b6),(sc b0 D.Data au)].toArray)]) (.inl R) ((b7,D.Dims.length,b6),(b0,D.Data.length,au)) R ⟨⟨9,l,_,_,R,R,.inl ⟨fG,bS,R⟩⟩,trivial⟩ R (fun w s=>(s.e 16 [0,1]))
 refine bJ R an (aM (aE (lO (lK R R) (lB R (aC (aI ?_))))))
 rcases cG b with ⟨al,b⟩|⟨al,b⟩
 refine bZ R al (aM ?_)
 obtain ⟨T,b⟩:=gd b
 obtain ⟨ah,b⟩:=gd b
 obtain ⟨c8,b⟩:=gd b
 obtain ⟨d7,b⟩:=gd b
 obtain ⟨d5,b⟩:=gd b
 obtain ⟨u,fd,b⟩:=bd b
 refine aZ 6 aA (show 0<g.length by have:=T; omega) (fun hl o136 m=>?_)
 subst m
 refine dL (K:=dX) 6 (0:Int) dT58.dec R T.1 T.2 ?_
 rintro ⟨⟨cb,c7⟩,⟨cm,dl⟩⟩
 refine cN (cl hl (o136+(0:Int).toNat*2) [(sc cb ((ix g (0:Int)).Dims) c7),(sc cm ((ix g (0:Int)).Data) dl)]::RR kT3 cb c7 ((ix g (0:Int)).Dims)::RR kT3 cm dl ((ix g (0:Int)).Data)::aJ l [(.slice none 0 0),(.slice none 0 0)] 58::i) ?_
 refine aZ 7 aA (show 0<j.Ints.length by have:=ah; omega) (fun ij o141 m=>?_)
 subst m
 refine dG 17 [3] bP (fun ht hn=>(dR 0 R (vS R) (hS:=(sL [3])) (dR 1 R (eI gI bS R R T) (hS:=(sL [3])) (dR 2 R (vz (.agg [(sc cb ((ix g (0:Int)).Dims) c7),(sc cm ((ix g (0:Int)).Data) dl)].toArray) (eK (fo:=0) 0 fG bS R R R R)) (hS:=(sL [3])) (dR 3 R (vS R) (hS:=(sL [3])) (dR 4 R (eI bK cC R R ah) (hS:=(sL [3])) (dR 5 R (gP 6 fP aA R ah) (hS:=(sL [3])) (dR 6 R (vS R) (hS:=(sL [3])) (dR 7 R (eI bK cC R R c8) (hS:=(sL [3])) (dR 8 R (gP 6 fP aA R c8) (hS:=(sL [3])) (dR 9 R (vS R) (hS:=(sL [3])) (dR 10 R (eI bK cC R R d7) (hS:=(sL [3])) (dR 11 R (gP 6 fP aA R d7) (hS:=(sL [3])) (dR 12 R (vS R) (hS:=(sL [3])) (dR 13 R (eI bK cC R R d5) (hS:=(sL [3])) (dR 14 R (gP 6 fP aA R d5) (hS:=(sL [3])) (d1 15 R (lM (aO _ _ _::aO _ _ _::cl _ _ _::aO _ _ _::aO _ _ _::aJ _ _ _::i) (fun w s=>(((s.d 1 R).d 3 R).e 6 [1,0,2,3,4,5])) ?_))))))))))))))))))
 refine lC 2 B7 R (Z0t_ok fd) R ?_
 rintro ⟨⟨aw,h7,b1⟩,⟨bu,hi,bi⟩⟩
 refine lN (ow kT3 3 (.slice aw h7 b1) u.Dims::ow kT3 3 (.slice bu hi bi) u.Data::_::_::_::_::i) ?_
 refine aL 0 aB ?_
 rintro rfl
 refine aL 1 aB ?_
 rintro rfl
 refine aC (aG (sL [5,1,0]) (d1 16 R (aK 5 R R bS R R R R R R (lN (_::_::_::_::_::aJ l [(sc aw u.Dims b1),(sc bu u.Data bi)] 58::i) ?_))))
 refine aC (aG (sL [5,1,0]) (dD (aI (bW (dF (cE ?_))))))
 obtain rfl:=so b
 exact dI (vs:=[(.agg [(sc aw u.Dims b1),(sc bu u.Data bi)].toArray)]) (.inl R) ((aw,u.Dims.length,b1),(bu,u.Data.length,bi)) R ⟨⟨5,l,_,_,R,R,.inl ⟨fG,bS,R⟩⟩,trivial⟩ R (fun w s=>(s.e 12 [0,1]))
 refine bJ R al (aM (aE (lO (lK R R) (lB R (aC (aI ?_))))))
 rcases cG b with ⟨ab,b⟩|⟨ab,b⟩
 refine bZ R ab (aM ?_)
 obtain ⟨Y,b⟩:=gd b
 obtain ⟨aj,b⟩:=gd b
 obtain ⟨ac,b⟩:=gd b
 obtain ⟨F,fa,b⟩:=bd b
 refine aZ 6 aA (show 0<g.length by have:=Y; omega) (fun gq o152 m=>?_)
 subst m
 refine dL (K:=dX) 6 (0:Int) dT58.dec R Y.1 Y.2 ?_
 rintro ⟨⟨dz,dv⟩,⟨cp,e1⟩⟩
 refine cN (cl gq (o152+(0:Int).toNat*2) [(sc dz ((ix g (0:Int)).Dims) dv),(sc cp ((ix g (0:Int)).Data) e1)]::RR kT3 dz dv ((ix g (0:Int)).Dims)::RR kT3 cp e1 ((ix g (0:Int)).Data)::aJ l [(.slice none 0 0),(.slice none 0 0)] 58::i) ?_
 refine aZ 7 aA (show 0<j.Ints.length by have:=aj; omega) (fun im o157 m=>?_)
 subst m
 refine dG 10 [3] bP (fun ht hn=>(dR 0 R (vS R) (hS:=(sL [3])) (dR 1 R (eI gI bS R R Y) (hS:=(sL [3])) (dR 2 R (vz (.agg [(sc dz ((ix g (0:Int)).Dims) dv),(sc cp ((ix g (0:Int)).Data) e1)].toArray) (eK (fo:=0) 0 fG bS R R R R)) (hS:=(sL [3])) (dR 3 R (vS R) (hS:=(sL [3])) (dR 4 R (eI bK cC R R aj) (hS:=(sL [3])) (dR 5 R (gP 6 fP aA R aj) (hS:=(sL [3])) (dR 6 R (vS R) (hS:=(sL [3])) (d1 7 R (gA (K:=kT3) (1:Int) (j.Ints.length:Int) 7 R R bK cC R R R R ac.1 ac.2.1 ac.2.2 (fun f0 f2=>(aC (aG (sL [4,0]) (d1 8 R (lM (aO _ _ _::aO _ _ _::RR kT3 f0 f2 (sub j.Ints (1:Int) (j.Ints.length:Int))::RR kT3 f0 f2 (sub j.Ints (1:Int) (j.Ints.length:Int))::cl _ _ _::aO _ _ _::aO _ _ _::aJ _ _ _::i) (fun w s=>((((s.d 2 R).d 4 R).d 2 R).e 8 [2,1,0,3,4,5,6,7])) ?_)))))))))))))))
 refine lC 3 B8 R (Z0s_ok fa) R ?_
 rintro ⟨⟨bz,h1,ay⟩,⟨bh,h3,be⟩⟩
 refine lN (ow kT3 3 (.slice bz h1 ay) F.Dims::ow kT3 3 (.slice bh h3 be) F.Data::_::_::_::_::_::i) ?_
 refine aL 0 aB ?_
 rintro rfl
 refine aL 1 aB ?_
 rintro rfl
 refine aC (aG (sL [6,2,1,0]) (d1 9 R (aK 6 R R bS R R R R R R (lN (_::_::_::_::_::_::aJ l [(sc bz F.Dims ay),(sc bh F.Data be)] 58::i) ?_))))
 refine aC (aG (sL [6,2,1,0]) (dD (aI (bW (dF (cE ?_))))))
 obtain rfl:=so b
 exact dI (vs:=[(.agg [(sc bz F.Dims ay),(sc bh F.Data be)].toArray)]) (.inl R) ((bz,F.Dims.length,ay),(bh,F.Data.length,be)) R ⟨⟨6,l,_,_,R,R,.inl ⟨fG,bS,R⟩⟩,trivial⟩ R (fun w s=>(s.e 13 [0,1]))
 refine bJ R ab (aM (aE (lO (lK R R) (lB R (aC (aI ?_))))))
 rcases cG b with ⟨ak,b⟩|⟨ak,b⟩
 refine bZ R ak (aM ?_)
 obtain ⟨U,b⟩:=gd b
 obtain ⟨ao,b⟩:=gd b
 obtain ⟨ap,b⟩:=gd b
 obtain ⟨dx,b⟩:=gd b
 obtain ⟨G,fp,b⟩:=bd b
 refine aZ 6 aA (show 0<g.length by have:=U; omega) (fun g8 o167 m=>?_)
 subst m
 refine dL (K:=dX) 6 (0:Int) dT58.dec R U.1 U.2 ?_
 rintro ⟨⟨cf,d8⟩,⟨db,cs⟩⟩
 refine cN (cl g8 (o167+(0:Int).toNat*2) [(sc cf ((ix g (0:Int)).Dims) d8),(sc db ((ix g (0:Int)).Data) cs)]::RR kT3 cf d8 ((ix g (0:Int)).Dims)::RR kT3 db cs ((ix g (0:Int)).Data)::aJ l [(.slice none 0 0),(.slice none 0 0)] 58::i) ?_
 refine aZ 7 aA (show 0<j.Ints.length by have:=ao; omega) (fun io o172 m=>?_)
 subst m
 refine dG 13 [3] bP (fun ht hn=>(dR 0 R (vS R) (hS:=(sL [3])) (dR 1 R (eI gI bS R R U) (hS:=(sL [3])) (dR 2 R (vz (.agg [(sc cf ((ix g (0:Int)).Dims) d8),(sc db ((ix g (0:Int)).Data) cs)].toArray) (eK (fo:=0) 0 fG bS R R R R)) (hS:=(sL [3])) (dR 3 R (vS R) (hS:=(sL [3])) (dR 4 R (eI bK cC R R ao) (hS:=(sL [3])) (dR 5 R (gP 6 fP aA R ao) (hS:=(sL [3])) (dR 6 R (vS R) (hS:=(sL [3])) (dR 8 R (vS R) (hS:=(sL [3])) (dR 9 R (eI bK cC R R dx) (hS:=(sL [3])) (dR 10 R (gP 6 fP aA R dx) (hS:=(sL [3])) (d1 7 R (gA (K:=kT3) (2:Int) (j.Ints.length:Int) 7 R R bK cC R R R R ap.1 ap.2.1 ap.2.2 (fun f5 ez=>(aC (aG (sL [4,0]) (d1 11 R (lM (aO _ _ _::aO _ _ _::RR kT3 f5 ez (sub j.Ints (2:Int) (j.Ints.length:Int))::RR kT3 f5 ez (sub j.Ints (2:Int) (j.Ints.length:Int))::cl _ _ _::aO _ _ _::aO _ _ _::aJ _ _ _::i) (fun w s=>((((s.d 2 R).d 4 R).d 2 R).e 8 [2,1,0,3,4,5,6,7])) ?_))))))))))))))))))
 refine lC 3 B9 R (Z0u_ok fp) R ?_
 rintro ⟨⟨ba,gt,bg⟩,⟨b4,hk,av⟩⟩
 refine lN (ow kT3 3 (.slice ba gt bg) G.Dims::ow kT3 3 (.slice b4 hk av) G.Data::_::_::_::_::_::i) ?_
 refine aL 0 aB ?_
 rintro rfl
 refine aL 1 aB ?_
 rintro rfl
 refine aC (aG (sL [6,2,1,0]) (d1 12 R (aK 6 R R bS R R R R R R (lN (_::_::_::_::_::_::aJ l [(sc ba G.Dims bg),(sc b4 G.Data av)] 58::i) ?_))))
 refine aC (aG (sL [6,2,1,0]) (dD (aI (bW (dF (cE ?_))))))
 obtain rfl:=so b
 exact dI (vs:=[(.agg [(sc ba G.Dims bg),(sc b4 G.Data av)].toArray)]) (.inl R) ((ba,G.Dims.length,bg),(b4,G.Data.length,av)) R ⟨⟨6,l,_,_,R,R,.inl ⟨fG,bS,R⟩⟩,trivial⟩ R (fun w s=>(s.e 13 [0,1]))
 refine bJ R ak (aM (aE (lO (lK R R) (lB R (aC (aI ?_))))))
 rcases cG b with ⟨ag,b⟩|⟨ag,b⟩
 refine bZ R ag (aM ?_)
 obtain ⟨L,b⟩:=gd b
 obtain ⟨bb,fi,b⟩:=bd b
 obtain ⟨ai,b⟩:=gd b
 obtain ⟨c3,b⟩:=gd b
 obtain ⟨di,b⟩:=gd b
 obtain ⟨f3,fg,b⟩:=bd b
 obtain ⟨I,fl,b⟩:=bd b
 refine aZ 6 aA (show 0<g.length by have:=L; omega) (fun f4 o183 m=>?_)
 subst m
 refine dL (K:=dX) 6 (0:Int) dT58.dec R L.1 L.2 ?_
 rintro ⟨⟨c2,d3⟩,⟨dc,cy⟩⟩
 refine cN (cl f4 (o183+(0:Int).toNat*2) [(sc c2 ((ix g (0:Int)).Dims) d3),(sc dc ((ix g (0:Int)).Data) cy)]::RR kT3 c2 d3 ((ix g (0:Int)).Dims)::RR kT3 dc cy ((ix g (0:Int)).Data)::aJ l [(.slice none 0 0),(.slice none 0 0)] 58::i) ?_
 refine aZ 7 aA (show 0<j.Ints.length by have:=ai; omega) (fun ip o192 m=>?_)
 subst m
 refine dG 20 [3] bP (fun ht hn=>(dR 0 R (vS R) (hS:=(sL [3])) (dR 1 R (eI gI bS R R L) (hS:=(sL [3])) (dR 2 R (vz (.agg [(sc c2 ((ix g (0:Int)).Dims) d3),(sc dc ((ix g (0:Int)).Data) cy)].toArray) (eK (fo:=0) 0 fG bS R R R R)) (hS:=(sL [3])) (dR 3 R (vS R) (hS:=(sL [3])) (dR 4 R (eI gI bS R R L) (hS:=(sL [3])) (dR 5 R (vz (.pointer (some ⟨f4,o183+(0:Int).toNat*2,none⟩)) (j4 iX R R)) (hS:=(sL [3])) (dR 6 R (eH (fo:=0) 0 cO R R R) (hS:=(sL [3])) (dR 8 R (vS R) (hS:=(sL [3])) (dR 9 R (eI bK cC R R ai) (hS:=(sL [3])) (dR 10 R (gP 6 fP aA R ai) (hS:=(sL [3])) (dR 11 R (vS R) (hS:=(sL [3])) (dR 12 R (eI bK cC R R c3) (hS:=(sL [3])) (dR 13 R (gP 6 fP aA R c3) (hS:=(sL [3])) (dR 14 R (vS R) (hS:=(sL [3])) (dR 15 R (eI bK cC R R di) (hS:=(sL [3])) (dR 16 R (gP 6 fP aA R di) (hS:=(sL [3])) (d1 7 R (lM (_::_::_::_::_::i) (fun w s=>(s.d 1 R)) ?_)))))))))))))))))))
 refine lC 1 uA R (Zx_ok fi) R ?_
 rintro ⟨⟨gx,gz,g6⟩,⟨e0,hp,ca⟩⟩
 refine lN (aO kT3 (.slice gx gz g6) bb.Dims::ow kT3 3 (.slice e0 hp ca) bb.Strides::_::_::_::_::i) ?_
 refine aL 0 aA ?_
 rintro rfl
 refine aL 1 aB ?_
 rintro rfl
 refine aC (aG (sL [5,1,0]) (d1 17 R (iT (fun w s=>s.shr 1 R) (lM (aO _ _ _::RR kT3 e0 ca bb.Strides::RR kT3 e0 ca bb.Strides::aO _ _ _::cl _ _ _::aO _ _ _::aO _ _ _::aJ _ _ _::i) (fun w s=>(((s.d 1 R).d 1 R).f 8 [1,1,0,1,2,6])) ?_))))
 refine lC 2 Ba R (Z0e_ok fg) R ?_
 rintro ⟨⟨h4,g7,hf⟩,⟨h8,gf,gr⟩⟩
 refine lN (aO kT3 (.slice h4 g7 hf) f3.Dims::aO kT3 (.slice h8 gf gr) f3.Strides::_::_::_::_::_::_::i) ?_
 refine aL 0 aA ?_
 rintro rfl
 refine aL 1 aA ?_
 rintro rfl
 refine aC (aG (sL [7,3,2,1,0]) (d1 18 R (lM (aO _ _ _::aO _ _ _::aO _ _ _::aO _ _ _::aO _ _ _::aO _ _ _::aO _ _ _::aO _ _ _::cl _ _ _::aO _ _ _::aO _ _ _::aJ _ _ _::i) (fun w s=>(((((s.d 5 R).d 7 R).d 2 R).d 4 R).f 12 [3,1,2,1,1,1,0,1,4,8])) ?_)))
 refine lC 4 uB R (Z02_ok fl) R ?_
 rintro ⟨⟨bl,gp,br⟩,⟨bk,hm,bm⟩⟩
 refine lN (ow kT3 3 (.slice bl gp br) I.Dims::ow kT3 3 (.slice bk hm bm) I.Data::_::_::_::_::_::_::_::_::i) ?_
 refine aL 0 aB ?_
 rintro rfl
 refine aL 1 aB ?_
 rintro rfl
 refine aC (aG (sL [9,5,4,3,2,1,0]) (d1 19 R (aK 9 R R bS R R R R R R (lN (_::_::_::_::_::_::_::_::_::aJ l [(sc bl I.Dims br),(sc bk I.Data bm)] 58::i) ?_))))
 refine aC (aG (sL [9,5,4,3,2,1,0]) (dD (aI (bW (dF (cE ?_))))))
 obtain rfl:=so b
 exact dI (vs:=[(.agg [(sc bl I.Dims br),(sc bk I.Data bm)].toArray)]) (.inl R) ((bl,I.Dims.length,br),(bk,I.Data.length,bm)) R ⟨⟨9,l,_,_,R,R,.inl ⟨fG,bS,R⟩⟩,trivial⟩ R (fun w s=>(s.e 16 [0,1]))
 refine bJ R ag (cP (dO (aI (aM ?_))))
 obtain ⟨Z,b⟩:=gd b
 obtain ⟨am,b⟩:=gd b
 obtain ⟨d2,b⟩:=gd b
 obtain ⟨cz,b⟩:=gd b
 obtain ⟨q,fq,b⟩:=bd b
 refine aZ 6 aA (show 0<g.length by have:=Z; omega) (fun hb o205 m=>?_)
 subst m
 refine dL (K:=dX) 6 (0:Int) dT58.dec R Z.1 Z.2 ?_
 rintro ⟨⟨cu,dt⟩,⟨c5,c6⟩⟩
 refine cN (cl hb (o205+(0:Int).toNat*2) [(sc cu ((ix g (0:Int)).Dims) dt),(sc c5 ((ix g (0:Int)).Data) c6)]::RR kT3 cu dt ((ix g (0:Int)).Dims)::RR kT3 c5 c6 ((ix g (0:Int)).Data)::aJ l [(.slice none 0 0),(.slice none 0 0)] 58::i) ?_
 refine aZ 7 aA (show 0<j.Ints.length by have:=am; omega) (fun ii o210 m=>?_)
 subst m
 refine dG 14 [3] bP (fun ht hn=>(dR 0 R (vS R) (hS:=(sL [3])) (dR 1 R (eI gI bS R R Z) (hS:=(sL [3])) (dR 2 R (vz (.agg [(sc cu ((ix g (0:Int)).Dims) dt),(sc c5 ((ix g (0:Int)).Data) c6)].toArray) (eK (fo:=0) 0 fG bS R R R R)) (hS:=(sL [3])) (dR 3 R (vS R) (hS:=(sL [3])) (dR 4 R (eI bK cC R R am) (hS:=(sL [3])) (dR 5 R (gP 6 fP aA R am) (hS:=(sL [3])) (dR 6 R (vS R) (hS:=(sL [3])) (dR 7 R (eI bK cC R R d2) (hS:=(sL [3])) (dR 8 R (gP 6 fP aA R d2) (hS:=(sL [3])) (dR 9 R (vS R) (hS:=(sL [3])) (dR 10 R (eI bK cC R R cz) (hS:=(sL [3])) (dR 11 R (gP 6 fP aA R cz) (hS:=(sL [3])) (d1 12 R (lM (aO _ _ _::aO _ _ _::cl _ _ _::aO _ _ _::aO _ _ _::aJ _ _ _::i) (fun w s=>(((s.d 1 R).d 3 R).e 6 [1,0,2,3,4,5])) ?_)))))))))))))))
 refine lC 2 Bb R (Z0r_ok fq) R ?_
 rintro ⟨⟨az,gb,bp⟩,⟨b3,gk,b5⟩⟩
 refine lN (ow kT3 3 (.slice az gb bp) q.Dims::ow kT3 3 (.slice b3 gk b5) q.Data::_::_::_::_::i) ?_
 refine aL 0 aB ?_
 rintro rfl
 refine aL 1 aB ?_
 rintro rfl
 refine aC (aG (sL [5,1,0]) (d1 13 R (aK 5 R R bS R R R R R R (lN (_::_::_::_::_::aJ l [(sc az q.Dims bp),(sc b3 q.Data b5)] 58::i) ?_))))
 refine aC (aG (sL [5,1,0]) (dD (aI (bW ?_))))
 obtain rfl:=so b
 exact dI (vs:=[(.agg [(sc az q.Dims bp),(sc b3 q.Data b5)].toArray)]) (.inl R) ((az,q.Dims.length,bp),(b3,q.Data.length,b5)) R ⟨⟨5,l,_,_,R,R,.inl ⟨fG,bS,R⟩⟩,trivial⟩ R (fun w s=>(s.e 12 [0,1]))
theorem Z0q_ok  {i:(List Int)}{O:Int}{r:Tensor}(b:Z0q i O=some r) :
 FnOk Tryz.prog 54 [(.slice A2 N2 D2),(iv O)] [aO kT3 (.slice A2 N2 D2) i] (fun (h:HH×HH)=>((.agg [(s3 h.1),(s3 h.2)].toArray),[ow kT3 3 (s3 h.1) r.Dims,ow kT3 3 (s3 h.2) r.Data])):=by
 unfold Z0q at b
 refine aQ Tryz.func54 R 27 R R fun C V=>?_
 refine cL 0 aA ?_
 rintro rfl
 let B:=RR kT3 A2 D2 i::V
 refine cN B ?_
 refine aV ?_
 refine bF R R dT (fun u=>(aC (aI (aM (aM ?_)))))
 obtain ⟨r5,J,b⟩:=bd b
 refine aV ?_
 refine lM _ (fun w s=>(s.d 1 R)) ?_
 refine lC 1 kj R (Zm_ok J) R ?_
 rintro _
 refine aP ?_
 split at b
 refine aP ?_
 refine lO (vz (.agg [(.slice none 0 0),(.slice none 0 0)].toArray) (aW gO dT R R)) (aK 0 R R bS R R R R R R (aC (aI (bW (cE ?_)))))
 cases b
 exact qS ((none,0,0),(none,0,0)) (fun w s=>(((s.nilo kT3 3).nilo kT3 3).e 4 [1,0]))
 refine bG ?_
 obtain ⟨g,D,b⟩:=bd b
 refine aV ?_
 refine lM _ (fun w s=>(s.d 1 R)) ?_
 refine lC 1 nH R (Z0i_ok D) R ?_
 rintro ⟨⟨A10,N10,D10⟩,⟨A11,N11,D11⟩⟩
 refine aL 0 aB ?_
 rintro rfl
 refine aL 1 aB ?_
 rintro rfl
 refine bF R R dT (fun j=>(aK 0 R R bS R R R R R R (lN (aJ j [(sc A10 g.Dims D10),(sc A11 g.Data D11)] 58::_::_::_::B) ?_)))
 refine aP ?_
 refine bB (A:=((List Int))×(Unit)) (fun a=>Z0q_J1 g a.1=some r) (fun a=>[(4,(pt u 0)),(5,(pt j 0))]) (fun a=>aJ u [(.slice none 0 0),(.slice none 0 0)] 58::aJ j [(sc A10 g.Dims D10),(sc A11 g.Data D11)] 58::OO kT3 3 A10 D10 g.Dims::ow kT3 3 (.slice A11 g.Data.length D11) a.1::B) ?_ ?_
 refine bV ?_
 obtain ⟨e1,F,G⟩:=bd b
 refine bD (A:=Unit) F (fun s a=>[(1,(iv O)),(4,(pt u 0)),(5,(pt j 0)),(6,(iv s.2))]) (fun s a=>aJ u [(.slice none 0 0),(.slice none 0 0)] 58::aJ j [(sc A10 g.Dims D10),(sc A11 g.Data D11)] 58::OO kT3 3 A10 D10 g.Dims::ow kT3 3 (.slice A11 g.Data.length D11) s.1::B) () (aS R) (tE 4 [3,0,1,2]) ?_
 rintro ⟨M,L⟩ _ σ1 U b T
 dsimp only [Z0q_L1] at b
 refine cU ?_
 split at b
 refine cA ?_
 obtain ⟨m,q,b⟩:=bd b
 obtain ⟨l,b⟩:=gd b
 refine aZ 3 aB (show 0<g.Data.length by have:=l; omega) (fun Z o26 Y=>?_)
 subst Y
 refine dG 7 [3] bP fun ht hn=>?_
 refine oA 0 [3] ?_
 refine d1 4 R (lC 0 lQ R (Zo_ok q) R ?_)
 rintro _
 refine aC (aG (sL [3]) ?_)
 refine oz 5 [3] ?_
 refine d1 6 R (lM _ (tE 4 [3,0,1,2]) ?_)
 refine dV (K:=kT3) (x':=m) 0 L R R cC R R l.1 l.2 ?_ ?_
 exact fun I h s=>(gD).put I h () m s
 refine aC (aG (sL [0]) (dD ?_))
 refine dN ?_
 cases b
 exact qA () (tE 4 [1,2,3,0])
 refine aP ?_
 cases b
 obtain rfl:=T _ R
 have b:=G
 refine aV ?_
 exact qI (M,()) b tI
 rintro ⟨E,_⟩ σ1 b
 dsimp only [Z0q_J1] at b
 refine aP ?_
 refine aK 0 R R bS R R R R R R (lN (aJ u [(sc A10 g.Dims D10),(sc A11 g.Data D11)] 58::aJ j [(sc A10 g.Dims D10),(sc A11 g.Data D11)] 58::_::ow kT3 3 (.slice A11 g.Data.length D11) E::B) ?_)
 refine aP ?_
 cases b
 exact qS ((A10,g.Dims.length,D10),(A11,g.Data.length,D11)) (tE 5 [2,3])
theorem Z9_ok  {g1:Graph}{g:(List Tensor)}{l:Bool}{r:(List Tensor)×Bool}(j:Z9 g1 g l=some r) :
 FnOk Tryz.prog 34 [(.agg [(.slice A2 N2 D2),(.slice A3 N3 D3)].toArray),(.slice A5 N5 D5),(.bool l)] [aO cJ (.slice A2 N2 D2) g1.Nodes,aO kT3 (.slice A3 N3 D3) g1.Outs,aO dX (.slice A5 N5 D5) g] (fun (h:HH)=>((.tuple [(s3 h),(.bool r.2)].toArray),[ow (dX).share 58 (s3 h) r.1])):=by
 unfold Z9 at j
 refine aQ Tryz.func34 R 143 R R fun C V=>?_
 refine cL 0 aA ?_
 rintro rfl
 refine cL 1 aA ?_
 rintro rfl
 refine cL 2 aA ?_
 rintro rfl
 let W0:=RR cJ A2 D2 g1.Nodes::RR kT3 A3 D3 g1.Outs::RR dX A5 D5 g::V
 refine cN W0 ?_
 refine aV ?_
 refine eB R fun b7=>?_
 refine aP ?_
 let W1:=aJ b7 [(sc A2 g1.Nodes D2),(sc A3 g1.Outs D3)] 30::W0
 refine qN W1 ?_
 refine aP ?_
 refine bM (K:=dX) (xs:=([]:List Tensor)) (vs:=[]) 0 R R gI bS dT R R R R R R ?_ R (fun A8 D8=>?_)
 exact fun I h s=>(wK).list [] I h s
 refine cA ?_
 refine cQ [(1,(sc A5 g D5)),(2,(.bool l)),(3,(pt b7 0)),(8,(sc A8 ([]:List Tensor) D8)),(25,(.bool ((decide ((g1.Nodes.length:Int)>200))||(decide ((g1.Outs.length:Int)>40)))))] (OO dX 58 A8 D8 ([]:List Tensor)::W1) ?_ ?_
 refine bV ?_
 rcases bo (decide ((g1.Nodes.length:Int)>200)) with cr | cr
 refine bV ?_
 exact qj tI
 refine bV ?_
 exact qj tI
 rintro σ1
 refine bT ?_
 split at j
 refine cU ?_
 cases j
 exact jO (A8,([]:List Tensor).length,D8) (fun w s=>((s.wk 0 R).e 5 [0]))
 refine cX ?_
 refine bB (A:=((List Tensor)×Int)×(HH)) (fun a=>Z9_J5 g1 g l a.1.1 a.1.2=some r) (fun a=>[(1,(sc A5 g D5)),(2,(.bool l)),(3,(pt b7 0)),(8,(s3 a.2)),(9,(iv a.1.2))]) (fun a=>ow (dX).share 58 (s3 a.2) a.1.1::W1) ?_ ?_
 refine bV ?_
 obtain ⟨e1,co,aw⟩:=bd j
 refine bD (A:=HH) co (fun s a=>[(1,(sc A5 g D5)),(2,(.bool l)),(3,(pt b7 0)),(8,(s3 a)),(9,(iv s.2.1)),(10,(iv s.2.2))]) (fun s a=>ow (dX).share 58 (s3 a) s.1::W1) (A8,([]:List Tensor).length,D8) (aS R) (fun w s=>(s.wk 0 R)) ?_
 rintro ⟨i,q,b⟩ ⟨D,cc,u⟩ σ1 bh j ax
 dsimp only [Z9_L1] at j
 refine bH 0 eW (fun (hn:cc=i.length)=>?_)
 subst hn
 refine cU ?_
 split at j
 refine bV ?_
 obtain ⟨ab,j⟩:=gd j
 refine bG ?_
 refine bC 2 aA (show 0<g1.Nodes.length by have:=ab; omega) (fun d9 o110 ha=>?_)
 subst ha
 refine bT ?_
 refine gS (K:=cJ) 2 b dT54.dec R ab.1 ab.2 ?_
 rintro ⟨-,⟨F,E⟩,⟨O,G⟩,⟨M,J⟩,-,⟨L,T⟩⟩
 refine lO (vz (.agg [(iv (ix g1.Nodes b).Op),(sc F ((ix g1.Nodes b).Args) E),(sc O ((ix g1.Nodes b).Dims) G),(sc M ((ix g1.Nodes b).Ints) J),(aD (ix g1.Nodes b).Form),(sc L ((ix g1.Nodes b).Data) T)].toArray) (eK (fo:=0) 0 sE lL R R R R)) (bF R R sB (fun Y=>(aK 0 R R lL R R R R R R (lN (aJ Y [(iv (ix g1.Nodes b).Op),(sc F ((ix g1.Nodes b).Args) E),(sc O ((ix g1.Nodes b).Dims) G),(sc M ((ix g1.Nodes b).Ints) J),(aD (ix g1.Nodes b).Form),(sc L ((ix g1.Nodes b).Data) T)] 54::_::_::_::_::_::_::W1) ?_))))
 refine bG ?_
 obtain ⟨bp,br,j⟩:=bd j
 obtain ⟨cj,c1,j⟩:=bd j
 refine cQ [(1,(sc A5 g D5)),(2,(.bool l)),(3,(pt b7 0)),(8,(sc D i u)),(9,(iv q)),(10,(iv b)),(11,(pt Y 0)),(48,(.bool ((!bp)||(!cj))))] (OO (dX).share 58 D u i::aJ Y [(iv (ix g1.Nodes b).Op),(sc F ((ix g1.Nodes b).Args) E),(sc O ((ix g1.Nodes b).Dims) G),(sc M ((ix g1.Nodes b).Ints) J),(aD (ix g1.Nodes b).Form),(sc L ((ix g1.Nodes b).Data) T)] 54::RR kT3 F E ((ix g1.Nodes b).Args)::RR kT3 O G ((ix g1.Nodes b).Dims)::RR kT3 M J ((ix g1.Nodes b).Ints)::RR kT3 L T ((ix g1.Nodes b).Data)::W1) ?_ ?_
 refine aV ?_
 refine lM _ (fun w s=>(((((s.d 2 R).d 4 R).d 6 R).d 8 R).f 11 [3,1,2,1,1,1,0,1,4,7])) ?_
 refine lC 4 AZ R (Z17_ok br) R ?_
 rintro _
 refine aV ?_
 rcases bo (!bp) with a9 | a9
 refine dN ?_
 exact qj (tE 7 [6,0,2,3,4,5])
 refine aP ?_
 refine lM _ (fun w s=>(s.d 2 R)) ?_
 refine bY 1 R (b' a9) uy R (Z0k_ok (bN c1 (cS a9))) R ?_
 rintro _
 refine aP ?_
 exact qj (tE 7 [6,0,2,3,4,5])
 rintro σ1
 refine bT ?_
 split at j
 refine iK ?_
 cases j
 obtain rfl:=ax _ R
 have j:=aw
 refine aP ?_
 cases j
 exact jO (D,i.length,u) (tE 10 [0])
 refine cA ?_
 refine bM (K:=dX) (xs:=([]:List Tensor)) (vs:=[]) 0 R R gI bS dT R R R R R R ?_ R (fun ch ca=>?_)
 exact fun I h s=>(wK).list [] I h s
 refine bG ?_
 refine bB (A:=((List Tensor))×(HH)) (fun a=>Z9_J3 g1 g l i q b a.1=some bh) (fun a=>[(1,(sc A5 g D5)),(2,(.bool l)),(3,(pt b7 0)),(8,(sc D i u)),(9,(iv q)),(10,(iv b)),(11,(pt Y 0)),(12,(s3 a.2))]) (fun a=>OO (dX).share 58 D u i::aJ Y [(iv (ix g1.Nodes b).Op),(sc F ((ix g1.Nodes b).Args) E),(sc O ((ix g1.Nodes b).Dims) G),(sc M ((ix g1.Nodes b).Ints) J),(aD (ix g1.Nodes b).Form),(sc L ((ix g1.Nodes b).Data) T)] 54::RR kT3 F E ((ix g1.Nodes b).Args)::RR kT3 O G ((ix g1.Nodes b).Dims)::RR kT3 M J ((ix g1.Nodes b).Ints)::RR kT3 L T ((ix g1.Nodes b).Data)::ow (dX).share 58 (s3 a.2) a.1::W1) ?_ ?_
 refine bV ?_
 obtain ⟨e2,cs,cq⟩:=bd j
 refine bD (A:=HH) cs (fun s a=>[(1,(sc A5 g D5)),(2,(.bool l)),(3,(pt b7 0)),(8,(sc D i u)),(9,(iv q)),(10,(iv b)),(11,(pt Y 0)),(12,(s3 a)),(13,(iv s.2))]) (fun s a=>OO (dX).share 58 D u i::aJ Y [(iv (ix g1.Nodes b).Op),(sc F ((ix g1.Nodes b).Args) E),(sc O ((ix g1.Nodes b).Dims) G),(sc M ((ix g1.Nodes b).Ints) J),(aD (ix g1.Nodes b).Form),(sc L ((ix g1.Nodes b).Data) T)] 54::RR kT3 F E ((ix g1.Nodes b).Args)::RR kT3 O G ((ix g1.Nodes b).Dims)::RR kT3 M J ((ix g1.Nodes b).Ints)::RR kT3 L T ((ix g1.Nodes b).Data)::ow (dX).share 58 (s3 a) s.1::W1) (ch,([]:List Tensor).length,ca) (aS R) (fun w s=>((s.wk 0 R).f 7 [1,6,0,1])) ?_
 rintro ⟨a7,a0⟩ ⟨c9,c7,cm⟩ σ1 d5 j cp
 dsimp only [Z9_L2] at j
 refine bH 6 eW (fun (hn:c7=a7.length)=>?_)
 subst hn
 refine cU ?_
 split at j
 refine cA ?_
 obtain ⟨bz,j⟩:=gd j
 obtain ⟨a8,j⟩:=gd j
 obtain ⟨bw,j⟩:=gd j
 refine bV ?_
 refine bC 2 aA (show 0<((ix g1.Nodes b).Args).length by have:=bz; omega) (fun d7 o141 ha=>?_)
 subst ha
 refine aV ?_
 refine bC 0 eW (show 0<i.length by have:=a8; omega) (fun cv o144 ha=>?_)
 subst ha
 refine bT ?_
 refine yk (K:=(dX).share) 0 (ix ((ix g1.Nodes b).Args) a0) R R fG bS dT58.own R R a8.1 a8.2 ?_
 rintro ⟨⟨bk,ay⟩,⟨bm,ba⟩⟩
 refine lM _ (fun w s=>(((s.d 0 R).d 2 R).f 11 [1,1,0,1,2,9])) ?_
 refine bM (K:=(dX).share) (xs:=([(ix i (ix ((ix g1.Nodes b).Args) a0))]:List Tensor)) (vs:=[(.agg [(sc bk ((ix i (ix ((ix g1.Nodes b).Args) a0)).Dims) ay),(sc bm ((ix i (ix ((ix g1.Nodes b).Args) a0)).Data) ba)].toArray)]) 2 R R gI bS dT R R R R R R ?_ R (fun cx d3=>?_)
 exact fun I h s=>(yB).list [(((sc bk ((ix i (ix ((ix g1.Nodes b).Args) a0)).Dims) ay),(sc bm ((ix i (ix ((ix g1.Nodes b).Args) a0)).Data) ba)),(ix i (ix ((ix g1.Nodes b).Args) a0)))] I h s
 refine lM _ (fun w s=>(s.f 10 [9,1,0,9])) ?_
 refine eD (K:=(dX).share) 2932031007402 R R gI bS yF (Zr.zk (Zr.share yC) dT) R R R R R R dP bw (fun b1 bi=>(lN (OO (dX).share 58 b1 bi (a7++([(ix i (ix ((ix g1.Nodes b).Args) a0))]:List Tensor))::_::_::_::_::_::_::_::_::W1) ?_))
 refine cX ?_
 cases j
 exact qA (b1,(a7++([(ix i (ix ((ix g1.Nodes b).Args) a0))]:List Tensor)).length,bi) (fun w s=>(s.f 9 [3,6,0,1]))
 refine aP ?_
 cases j
 obtain rfl:=cp _ R
 have j:=cq
 refine aV ?_
 exact qI (a7,(c9,a7.length,cm)) j tI
 rintro ⟨a6,⟨ag,ci,ah⟩⟩ σ1 j
 dsimp only [Z9_J3] at j
 refine bH 6 eW (fun (hn:ci=a6.length)=>?_)
 subst hn
 refine aV ?_
 refine lO (vz (.agg [(.slice none 0 0),(.slice none 0 0)].toArray) (aW gO dT R R)) (bF R R dT (fun a2=>(aK 0 R R bS R R R R R R (lN (_::OO (dX).share 58 D u i::aJ Y [(iv (ix g1.Nodes b).Op),(sc F ((ix g1.Nodes b).Args) E),(sc O ((ix g1.Nodes b).Dims) G),(sc M ((ix g1.Nodes b).Ints) J),(aD (ix g1.Nodes b).Form),(sc L ((ix g1.Nodes b).Data) T)] 54::RR kT3 F E ((ix g1.Nodes b).Args)::_::_::_::OO (dX).share 58 ag ah a6::W1) ?_))))
 refine aP ?_
 refine bB (A:=(Int×(List Int)×(List Int))×(HH×HH)) (fun a=>Z9_J4 i b a.1.1 a.1.2.1 a.1.2.2=some bh) (fun a=>[(1,(sc A5 g D5)),(2,(.bool l)),(3,(pt b7 0)),(8,(sc D i u)),(9,(iv a.1.1)),(10,(iv b)),(14,(pt a2 0))]) (fun a=>OO (dX).share 58 D u i::aJ a2 [(s3 a.2.1),(s3 a.2.2)] 58::ow kT3 3 (s3 a.2.1) a.1.2.1::ow kT3 3 (s3 a.2.2) a.1.2.2::W1) ?_ ?_
 refine cX ?_
 split at j
 refine bT ?_
 obtain ⟨a4,c4,j⟩:=bd j
 refine aP ?_
 refine lM _ (fun w s=>(((((s.d 3 R).d 5 R).d 7 R).d 9 R).e 12 [11,3,2,1,0,4,5,6,7,8,9,10])) ?_
 refine lC 5 Bc R (FnOk.lends (A':=[OO (dX).share 58 ag ah a6]) (A:=[RR dX ag ah a6]) (B:=[RR kT3 F E ((ix g1.Nodes b).Args),RR kT3 O G ((ix g1.Nodes b).Dims),RR kT3 M J ((ix g1.Nodes b).Ints),RR kT3 L T ((ix g1.Nodes b).Data)]) (FnOk.perm (Z1_ok c4) (Pre':=[RR dX ag ah a6,RR kT3 F E ((ix g1.Nodes b).Args),RR kT3 O G ((ix g1.Nodes b).Dims),RR kT3 M J ((ix g1.Nodes b).Ints),RR kT3 L T ((ix g1.Nodes b).Data)]) (fun _ _ _ s=>(s.f 5 [1,4,0,1]))) ⟨qg,trivial⟩ (fun _=>⟨(bI iW),(bI iW),trivial⟩)) R ?_
 rintro ⟨⟨bn,d0,az⟩,⟨bc,d4,b4⟩⟩
 refine aL 1 aB ?_
 rintro rfl
 refine aL 2 aB ?_
 rintro rfl
 refine aK 3 R R bS R R R R R R (lN (_::_::_::aJ a2 [(sc bn a4.Dims az),(sc bc a4.Data b4)] 58::_::_::_::_::_::_::W1) ?_)
 refine aV ?_
 exact qI ((q,a4.Dims,a4.Data),((bn,a4.Dims.length,az),(bc,a4.Data.length,b4))) j (tE 10 [4,3,1,2])
 refine dN ?_
 split at j
 refine bT ?_
 obtain ⟨a5,c5,j⟩:=bd j
 refine aP ?_
 refine lM _ (fun w s=>(s.d 4 R)) ?_
 refine lC 1 Bd R (Z0q_ok c5) R ?_
 rintro ⟨⟨bl,ct,bb⟩,⟨b6,cu,b8⟩⟩
 refine aL 0 aB ?_
 rintro rfl
 refine aL 1 aB ?_
 rintro rfl
 refine aK 2 R R bS R R R R R R (lN (_::_::aJ a2 [(sc bl a5.Dims bb),(sc b6 a5.Data b8)] 58::_::_::_::_::_::_::_::W1) ?_)
 refine aV ?_
 exact qI ((q,a5.Dims,a5.Data),((bl,a5.Dims.length,bb),(b6,a5.Data.length,b8))) j (tE 10 [3,2,0,1])
 refine aP ?_
 obtain ⟨U,j⟩:=gd j
 obtain ⟨b5,ar,j⟩:=bd j
 obtain ⟨c2,j⟩:=gd j
 obtain ⟨c8,c0,j⟩:=bd j
 refine cQ [(1,(sc A5 g D5)),(2,(.bool l)),(3,(pt b7 0)),(8,(sc D i u)),(9,(iv q)),(10,(iv b)),(11,(pt Y 0)),(14,(pt a2 0)),(92,(.bool (((decide (q≥(g.length:Int)))||(!b5))||(!c8))))] (OO (dX).share 58 D u i::aJ Y [(iv (ix g1.Nodes b).Op),(sc F ((ix g1.Nodes b).Args) E),(sc O ((ix g1.Nodes b).Dims) G),(sc M ((ix g1.Nodes b).Ints) J),(aD (ix g1.Nodes b).Form),(sc L ((ix g1.Nodes b).Data) T)] 54::RR kT3 F E ((ix g1.Nodes b).Args)::RR kT3 O G ((ix g1.Nodes b).Dims)::RR kT3 M J ((ix g1.Nodes b).Ints)::RR kT3 L T ((ix g1.Nodes b).Data)::aJ a2 [(.slice none 0 0),(.slice none 0 0)] 58::W1) ?_ ?_
 rcases bo (decide (q≥(g.length:Int))) with m | m
 refine dG 23 [] bP fun ht hn=>?_
 refine AL 0 [] ?_
 refine dD ?_
 exact qj (fun w s=>(s.f 8 [1,6,0,1]))
 rcases bo ((decide (q≥(g.length:Int)))||(!b5)) with Z | Z
 refine aZ 11 aA (show 0<g.length by have:=(U m); omega) (fun bj o168 ha=>?_)
 subst ha
 refine dL (K:=dX) 11 q dT58.dec R (U m).1 (U m).2 ?_
 rintro ⟨⟨ak,ap⟩,⟨an,am⟩⟩
 refine dG 23 [] bP fun ht hn=>?_
 refine su 0 [] ?_
 refine dW 7 R (b' m) (eI gI bS R R (U m)) (dW 8 R (b' m) (vz (.agg [(sc ak ((ix g q).Dims) ap),(sc an ((ix g q).Data) am)].toArray) (eK (fo:=0) 0 fG bS R R R R)) (d1 9 R (lM _ (fun w s=>(((s.d 1 R).d 3 R).f 13 [1,1,0,1,2,11])) ?_)))
 refine bY 2 R (b' m) nG R (Zp_ok (bN ar (cS m))) R ?_
 rintro _
 refine aC (aG (sL []) ?_)
 refine mu 10 [] ?_
 refine dD ?_
 exact qj (fun w s=>(s.f 11 [4,6,3,1]))
 refine aZ 11 aA (show 0<g.length by have:=(U m); omega) (fun bj o168 ha=>?_)
 subst ha
 refine dL (K:=dX) 11 q dT58.dec R (U m).1 (U m).2 ?_
 rintro ⟨⟨ak,ap⟩,⟨an,am⟩⟩
 refine dG 23 [] bP fun ht hn=>?_
 refine su 0 [] ?_
 refine dW 7 R (b' m) (eI gI bS R R (U m)) (dW 8 R (b' m) (vz (.agg [(sc ak ((ix g q).Dims) ap),(sc an ((ix g q).Data) am)].toArray) (eK (fo:=0) 0 fG bS R R R R)) (d1 9 R (lM _ (fun w s=>(((s.d 1 R).d 3 R).f 13 [1,1,0,1,2,11])) ?_)))
 refine bY 2 R (b' m) nG R (Zp_ok (bN ar (cS m))) R ?_
 rintro _
 refine aC (aG (sL []) ?_)
 refine kr 10 [] ?_
 refine dW 15 R (b' Z) (eI gI bS R R (c2 Z)) (dW 16 R (b' Z) (vz (.pointer (some ⟨bj,o168+q.toNat*2,none⟩)) (j4 iX R R)) (dW 17 R (b' Z) (eH (fo:=0) 0 cO R R R) ?_))
 refine gT 18 [] ?_
 refine d1 20 R (lM _ (fun w s=>(((s.d 1 R).d 8 R).f 13 [1,1,0,1,2,11])) ?_)
 refine bY 2 R (b' Z) wV R (Z01_ok (bN c0 (cS Z))) R ?_
 rintro _
 refine aC (aG (sL []) ?_)
 refine gT 21 [] ?_
 refine dD ?_
 exact qj (fun w s=>(s.f 11 [4,6,3,1]))
 rintro σ1
 refine bT ?_
 split at j
 refine ov ?_
 cases j
 obtain rfl:=ax _ R
 have j:=aw
 refine aP ?_
 cases j
 exact jO (D,i.length,u) (tE 11 [0])
 refine bG ?_
 obtain ⟨ae,bv,j⟩:=bd j
 obtain ⟨aa,j⟩:=gd j
 obtain ⟨ac,bq,j⟩:=bd j
 refine aZ 10 aA (show 0<g.length by have:=aa; omega) (fun cb o184 ha=>?_)
 subst ha
 refine dL (K:=dX) 10 q dT58.dec R aa.1 aa.2 ?_
 rintro ⟨⟨cz,dc⟩,⟨cy,d2⟩⟩
 refine dG 11 [9] bP fun ht hn=>?_
 refine gT 0 [9] ?_
 refine iw 3 [9] ?_
 refine dR 6 R (vz (.pointer (some ⟨cb,o184+q.toNat*2+1,none⟩)) (j4 sF R R)) (hS:=(sL [9])) (dR 7 R (eH (fo:=1) 0 cO R R R) (hS:=(sL [9])) (d1 2 R (lM _ (fun w s=>(s.d 6 R)) ?_)))
 refine lC 1 jW R (Zs_ok bv) R ?_
 rintro ⟨ao,d6,al⟩
 refine aL 0 aB ?_
 rintro rfl
 refine aC (aG (sL [10,0]) (d1 8 R (lM _ (fun w s=>(s.d 3 R)) ?_)))
 refine lC 1 jW R (Zs_ok bq) R ?_
 rintro ⟨au,db,aj⟩
 refine aL 0 aB ?_
 rintro rfl
 refine aC (aG (sL [11,1,0]) (dR 9 R (vz (.agg [(sc ao ae al),(sc au ac aj)].toArray) (aW gO dT R R)) (hS:=(sL [11,1,0])) (d1 10 R (aK 11 R R bS R R R R R R (lN (_::_::_::_::_::_::_::_::_::_::_::aJ a2 [(sc ao ae al),(sc au ac aj)] 58::W1) ?_)))))
 refine aC (aG (sL [11,1,0]) (dD ?_))
 refine dN ?_
 exact qI (((aH (q+1)),ae,ac),((ao,ae.length,al),(au,ac.length,aj))) j (tE 12 [5,11,1,0])
 rintro ⟨⟨cw,a3,a1⟩,⟨⟨bf,ck,b2⟩,⟨be,cf,b3⟩⟩⟩ σ1 j
 dsimp only [Z9_J4] at j
 refine bH 2 aB (fun (hn:ck=a3.length)=>?_)
 subst hn
 refine bH 3 aB (fun (hn:cf=a1.length)=>?_)
 subst hn
 refine cX ?_
 split at j
 refine iK ?_
 cases j
 obtain rfl:=ax _ R
 have j:=aw
 refine aP ?_
 cases j
 exact jO (D,i.length,u) (tE 8 [0])
 refine aP ?_
 obtain ⟨bu,j⟩:=gd j
 refine aP ?_
 refine lM _ (fun w s=>(((((s.shr 2 R).d 0 R).shr 4 R).d 0 R).e 6 [2,0,1,3,4,5])) ?_
 refine bM (K:=(dX).share) (xs:=([(⟨a3,a1⟩:Tensor)]:List Tensor)) (vs:=[(.agg [(sc bf a3 b2),(sc be a1 b3)].toArray)]) 2 R R gI bS dT R R R R R R ?_ R (fun da d8=>?_)
 exact fun I h s=>(yB).list [(((sc bf a3 b2),(sc be a1 b3)),(⟨a3,a1⟩:Tensor))] I h s
 refine lM _ (tE 5 [3,0,1,2,4]) ?_
 refine eD (K:=(dX).share) 2932031007402 R R gI bS yF (Zr.zk (Zr.share yC) dT) R R R R R R dP bu (fun b9 bg=>(lN (OO (dX).share 58 b9 bg (i++([(⟨a3,a1⟩:Tensor)]:List Tensor))::_::_::_::W1) ?_))
 refine cX ?_
 cases j
 exact qA (b9,(i++([(⟨a3,a1⟩:Tensor)]:List Tensor)).length,bg) (tE 4 [0])
 refine aP ?_
 cases j
 obtain rfl:=ax _ R
 have j:=aw
 refine aV ?_
 exact qI ((i,q),(D,i.length,u)) j tI
 rintro ⟨⟨ai,cg⟩,⟨av,cn,aq⟩⟩ σ1 j
 dsimp only [Z9_J5] at j
 refine bH 0 eW (fun (hn:cn=ai.length)=>?_)
 subst hn
 refine bT ?_
 obtain ⟨b0,c6,j⟩:=bd j
 refine cQ [(6,(sc av ai aq)),(7,(.bool (b0&&(l||(cg==(g.length:Int))))))] (OO (dX).share 58 av aq ai::W1) ?_ ?_
 refine dN ?_
 refine lM _ (fun w s=>(s.d 3 R)) ?_
 refine lC 1 uy R (Z0k_ok c6) R ?_
 rintro _
 refine bT ?_
 rcases bo b0 with bs | bs
 refine aV ?_
 rcases bo l with c3 | c3
 refine cX ?_
 exact qj tI
 refine cX ?_
 exact qj tI
 refine iB ?_
 exact qj tI
 rintro σ1
 refine aV ?_
 cases j
 exact jO (av,ai.length,aq) (tE 5 [0])
theorem Z2w_ok  {g1:Graph}{r:Bool}(a:Z2w g1=some r) :
 FnOk Tryz.prog 10 [(.agg [(.slice A2 N2 D2),(.slice A3 N3 D3)].toArray)] [aO cJ (.slice A2 N2 D2) g1.Nodes,aO kT3 (.slice A3 N3 D3) g1.Outs] (fun (h:Unit)=>((.bool r),[])):=by
 unfold Z2w at a
 refine aQ Tryz.func10 R 12 R R fun C V=>?_
 refine cL 0 aA ?_
 rintro rfl
 refine cL 1 aA ?_
 rintro rfl
 let g:=RR cJ A2 D2 g1.Nodes::RR kT3 A3 D3 g1.Outs::V
 refine cN g ?_
 refine aV ?_
 refine eB R fun i=>?_
 refine aV ?_
 let j:=aJ i [(sc A2 g1.Nodes D2),(sc A3 g1.Outs D3)] 30::g
 refine qN j ?_
 refine aV ?_
 obtain ⟨l,b,a⟩:=bd a
 refine aV ?_
 refine bM (K:=dX) (xs:=([]:List Tensor)) (vs:=[]) 0 R R gI bS dT R R R R R R ?_ R (fun A5 D5=>?_)
 exact fun I h s=>(wK).list [] I h s
 refine iT (fun w s=>s.shr 0 R) (lM _ (fun w s=>((((s.d 2 R).d 4 R).d 2 R).e 4 [2,1,0,3])) ?_)
 refine lC 3 Be R (Z9_ok b) R ?_
 rintro ⟨A8,N8,D8⟩
 refine aL 0 eW ?_
 rintro rfl
 refine lO (vT R) ?_
 refine lb ?_
 cases a
 exact qF () (tE 5 [])
theorem Zt_S_ok {rf:Graph→Int→(List Bool)→Option ((List Bool))}(ah:∀ {g1:Graph} {g:Int} {b:(List Bool)} {A2 A3 A6:Option Addr} {N2 D2 N3 D3 N6 D6:Nat} {r:(List Bool)},rf g1 g b=some r→FnOk Tryz.prog 65 [(.agg [(.slice A2 N2 D2),(.slice A3 N3 D3)].toArray),(iv g),(.slice A6 N6 D6)] [aO cJ (.slice A2 N2 D2) g1.Nodes,aO kT3 (.slice A3 N3 D3) g1.Outs,ow iy 4 (.slice A6 N6 D6) b] (fun (h:HH)=>((.slice h.1 h.2.1 h.2.2),[ow iy 4 (.slice h.1 h.2.1 h.2.2) r]))){g1:Graph}{g:Int}{b:(List Bool)}{r:(List Bool)}(i:Zt_S rf g1 g b=some r) :
 FnOk Tryz.prog 65 [(.agg [(.slice A2 N2 D2),(.slice A3 N3 D3)].toArray),(iv g),(.slice A6 N6 D6)] [aO cJ (.slice A2 N2 D2) g1.Nodes,aO kT3 (.slice A3 N3 D3) g1.Outs,ow iy 4 (.slice A6 N6 D6) b] (fun (h:HH)=>((.slice h.1 h.2.1 h.2.2),[ow iy 4 (.slice h.1 h.2.1 h.2.2) r])):=by
 unfold Zt_S at i
 refine aQ Tryz.func65 R 40 R R fun C V=>?_
 refine cM (ow _ _ _ _::aO _ _ _::aO _ _ _::V) (fun w s=>(s.e 3 [2,0,1])) ?_
 refine cL 0 aB ?_
 rintro rfl
 refine cL 1 aA ?_
 rintro rfl
 refine cL 2 aA ?_
 rintro rfl
 let W0:List HP:=RR cJ A2 D2 g1.Nodes::RR kT3 A3 D3 g1.Outs::V
 refine cN (_::W0) ?_
 refine aM (aE (eB R (fun b7=>(lS R (aC (qM (ow _ _ _ _::aJ _ _ _::W0) (fun w s=>(s.e 2 [1,0])) ?_))))))
 let G:List HP:=aJ b7 [(sc A2 g1.Nodes D2),(sc A3 g1.Outs D3)] 30::W0
 refine qN (_::G) ?_
 refine aI (aM (aM ?_))
 obtain ⟨q,i⟩:=gd i
 refine aE (lS R (lI R (bC 0 aB (show 0<b.length by have:=q; omega) (fun g9 o10 Y=>?_))))
 subst Y
 refine lO (eI m' rK R R q) (lO (vz (.bool (ix b g)) (hW (K:=iy) (fo:=0) (pr:=fun x=>(.bool x)) 0 g y8 (dT4.leaf fun _ _=>R) aB R q.1 q.2)) (aC (aI ?_)))
 rcases cG i with ⟨D,i⟩|⟨D,i⟩
 refine bZ R D (aM (aE (lS R (lS R (aC (aI (bW (cE ?_))))))))
 obtain rfl:=so i
 exact qF ((ad g9 o10),b.length,D6) (fun w s=>(s.e 4 [0]))
 refine bJ R D (cP (aI (aM (aE (lS R (lI R (lO (eI m' rK R R q) (lN (OO iy 4 (ad g9 o10) D6 b::G) ?_))))))))
 refine dV (K:=iy) (x':=true) 0 g R R rK R R q.1 q.2 ?_ ?_
 exact fun I h s=>(Ar).put I h () true s
 refine lN (ow iy 4 (.slice (ad g9 o10) b.length D6) (b.set g.toNat true)::G) ?_
 refine aC (aI (aM (bB (A:=((List Bool))×(HH)) (fun a=>Zt_J2 a.1=some r) (fun a=>[(2,(.slice a.2.1 a.2.2.1 a.2.2.2))]) (fun a=>ow iy 4 (.slice a.2.1 a.2.2.1 a.2.2.2) a.1::G) ?_ ?_)))
 refine aM (aE (lI R (aC (aI (dC ?_)))))
 obtain ⟨e1,aa,ac⟩:=bd i
 refine bD (A:=HH) aa (fun s a=>[(1,(iv g)),(2,(.slice a.1 a.2.1 a.2.2)),(3,(pt b7 0)),(7,(iv s.2))]) (fun s a=>ow iy 4 (.slice a.1 a.2.1 a.2.2) s.1::G) ((ad g9 o10),b.length,D6) (aS R) (fun w s=>s) ?_
 rintro ⟨j,ag⟩ ⟨a3,a9,a7⟩ σ1 a0 i aj
 replace i:Zt_L1 g1 g rf j ag=some a0:=i
 unfold Zt_L1 at i
 refine bH 0 aB (fun (hn:a9=j.length)=>?_)
 subst hn
 refine aM (aM ?_)
 obtain ⟨m,i⟩:=gd i
 refine aE (lI R (lO (fS 0 nC R) (lO (gB 1 ux R R R) (lI R (bC 2 aA (show 0<g1.Nodes.length by have:=m; omega) (fun u o31 Y=>?_))))))
 subst Y
 refine lO (eI sA lL R R m) (lO (vz (.pointer (some ⟨u,o31+g.toNat*6+1,none⟩)) (j4 mw R R)) (gS (K:=cJ) 2 g dT54.dec R m.1 m.2 ?_))
 rintro ⟨-,⟨a6,F⟩,⟨M,O⟩,⟨J,U⟩,-,⟨L,T⟩⟩
 refine lN (cl u (o31+g.toNat*6) [(iv (ix g1.Nodes g).Op),(sc a6 ((ix g1.Nodes g).Args) F),(sc M ((ix g1.Nodes g).Dims) O),(sc J ((ix g1.Nodes g).Ints) U),(aD (ix g1.Nodes g).Form),(sc L ((ix g1.Nodes g).Data) T)]::RR kT3 a6 F ((ix g1.Nodes g).Args)::RR kT3 M O ((ix g1.Nodes g).Dims)::RR kT3 J U ((ix g1.Nodes g).Ints)::RR kT3 L T ((ix g1.Nodes g).Data)::OO iy 4 a3 a7 j::G) ?_
 refine lO (eH (fo:=1) 0 cO R R R) (lO (jG bK R) (lO (mW R R) (aC (aI ?_))))
 rcases cG i with ⟨E,i⟩|⟨E,i⟩
 refine bZ R E (cP (aI (aM (dC ?_))))
 obtain ⟨B,i⟩:=gd i
 obtain ⟨a2,a4,i⟩:=bd i
 refine aZ 1 aA (show 0<((ix g1.Nodes g).Args).length by have:=B; omega) (fun a5 o39 Y=>?_)
 subst Y
 refine dG 13 [5] bP (fun ht hn=>(dR 0 R (vz (.agg [(sc (ad u o31) g1.Nodes D2),(sc A3 g1.Outs D3)].toArray) (dJ 5 po nD R R R R)) (hS:=(sL [5])) (dR 1 R (fS 0 nC R) (hS:=(sL [5])) (dR 2 R (gB 5 ux R R R) (hS:=(sL [5])) (dR 3 R (vI R) (hS:=(sL [5])) (dR 4 R (eI sA lL R R m) (hS:=(sL [5])) (dR 5 R (vz (.pointer (some ⟨u,o31+g.toNat*6+1,none⟩)) (j4 mw R R)) (hS:=(sL [5])) (dR 6 R (eH (fo:=1) 0 cO R R R) (hS:=(sL [5])) (dR 7 R (vI R) (hS:=(sL [5])) (dR 8 R (eI bK cC R R B) (hS:=(sL [5])) (dR 9 R (gP 1 fP aA R B) (hS:=(sL [5])) (dR 10 R (vS R) (hS:=(sL [5])) (d1 11 R (lM (RR cJ (ad u o31) D2 g1.Nodes::RR kT3 A3 D3 g1.Outs::ow _ _ _ _::cl u (o31+g.toNat*6) [(iv (ix g1.Nodes g).Op),(sc (ad a5 o39) ((ix g1.Nodes g).Args) F),(sc M ((ix g1.Nodes g).Dims) O),(sc J ((ix g1.Nodes g).Ints) U),(aD (ix g1.Nodes g).Form),(sc L ((ix g1.Nodes g).Data) T)]::RR kT3 (ad a5 o39) F ((ix g1.Nodes g).Args)::aO _ _ _::aO _ _ _::aO _ _ _::G) (fun w s=>(((s.d 7 R).d 9 R).e 8 [1,0,7,2,3,4,5,6])) ?_))))))))))))))
 refine lC 3 zT R (ah a4) R ?_
 rintro ⟨Z,ab,a1⟩
 refine lN (ow iy 4 (.slice Z ab a1) a2::_::_::_::_::_::G) ?_
 refine aL 0 aB ?_
 rintro rfl
 refine aC (aG (sL [0]) (dR 12 R (vS R) (hS:=(sL [0])) (dD (dO (aI (aE (lI R (lO (kK R R) (lI R (aC ?_))))))))))
 obtain rfl:=so i
 exact qA (Z,a2.length,a1) (fun w s=>(s.e 6 [0]))
 refine bJ R E (gR (dZ ?_))
 obtain rfl:=so i
 obtain rfl:=aj _ R
 have i:=ac
 refine dZ (fM ?_)
 exact qI (j,(a3,j.length,a7)) i (fun w s=>(s.e 6 [5]))
 rintro ⟨l,⟨a8,ai,ae⟩⟩ σ1 i
 replace i:Zt_J2 l=some r:=i
 unfold Zt_J2 at i
 refine bH 0 aB (fun (hn:ai=l.length)=>?_)
 subst hn
 refine aM (aE (lS R (lS R (aC (aI (bW ?_))))))
 obtain rfl:=so i
 exact qF (a8,l.length,ae) (fun w s=>(s.e 4 [0]))
theorem Zt_R_ok (n:Nat):∀ {g1:Graph} {b:Int} {a:(List Bool)} {A2 A3 A6:Option Addr} {N2 D2 N3 D3 N6 D6:Nat} {r:(List Bool)},Zt_R n g1 b a=some r→FnOk Tryz.prog 65 [(.agg [(.slice A2 N2 D2),(.slice A3 N3 D3)].toArray),(iv b),(.slice A6 N6 D6)] [aO cJ (.slice A2 N2 D2) g1.Nodes,aO kT3 (.slice A3 N3 D3) g1.Outs,ow iy 4 (.slice A6 N6 D6) a] (fun (h:HH)=>((.slice h.1 h.2.1 h.2.2),[ow iy 4 (.slice h.1 h.2.1 h.2.2) r])):=by
 induction n with
 | zero=>intros; rename_i h; cases h
 | succ n ih=>intros; rename_i h; exact Zt_S_ok ih h
theorem Zt_ok {g1:Graph}{b:Int}{a:(List Bool)}{A2 A3 A6:Option Addr}{N2 D2 N3 D3 N6 D6:Nat}{r:(List Bool)}(e:Zt g1 b a=some r):FnOk Tryz.prog 65 [(.agg [(.slice A2 N2 D2),(.slice A3 N3 D3)].toArray),(iv b),(.slice A6 N6 D6)] [aO cJ (.slice A2 N2 D2) g1.Nodes,aO kT3 (.slice A3 N3 D3) g1.Outs,ow iy 4 (.slice A6 N6 D6) a] (fun (h:HH)=>((.slice h.1 h.2.1 h.2.2),[ow iy 4 (.slice h.1 h.2.1 h.2.2) r])):=Zt_R_ok jv e
theorem Z0y_ok  {g1:Graph}{r:(List Bool)}(g:Z0y g1=some r) :
 FnOk Tryz.prog 41 [(.agg [(.slice A2 N2 D2),(.slice A3 N3 D3)].toArray)] [aO cJ (.slice A2 N2 D2) g1.Nodes,aO kT3 (.slice A3 N3 D3) g1.Outs] (fun (h:HH)=>((.slice h.1 h.2.1 h.2.2),[ow iy 4 (.slice h.1 h.2.1 h.2.2) r])):=by
 unfold Z0y at g
 refine aQ Tryz.func41 R 25 R R fun C V=>?_
 refine cN (_::_::V) ?_
 refine cL 0 aA ?_
 rintro rfl
 refine cL 1 aA ?_
 rintro rfl
 let W0:List HP:=RR cJ A2 D2 g1.Nodes::RR kT3 A3 D3 g1.Outs::V
 refine cN W0 ?_
 refine aM (aE (eB R (fun b4=>(lS R (aC ?_)))))
 let E:List HP:=aJ b4 [(sc A2 g1.Nodes D2),(sc A3 g1.Outs D3)] 30::W0
 refine qN E ?_
 refine aI (aM ?_)
 obtain ⟨q,g⟩:=gd g
 refine aE (lO (fS 0 nC R) (lO (gB 0 ux R R R) (lO (jG sA R) (fD (K:=iy) (m:=(g1.Nodes.length:Int)) (z:=false) R R m' rK BW (Zr.zk BS BX) (by decide) R R q.1 q.2.1 q.2.2 (fun A6 D6=>(lS R (aC (aI (aM (bB (A:=((List Bool))×(HH)) (fun a=>Z0y_J1 a.1=some r) (fun a=>[(3,(.slice a.2.1 a.2.2.1 a.2.2.2))]) (fun a=>ow iy 4 (.slice a.2.1 a.2.2.1 a.2.2.2) a.1::E) ?_ ?_))))))))))
 refine aM (aE (lI R (aC (aI (dC ?_)))))
 obtain ⟨e1,Y,Z⟩:=bd g
 refine bD (A:=HH) Y (fun s a=>[(1,(pt b4 0)),(3,(.slice a.1 a.2.1 a.2.2)),(4,(iv s.2))]) (fun s a=>ow iy 4 (.slice a.1 a.2.1 a.2.2) s.1::E) (A6,(List.replicate (g1.Nodes.length:Int).toNat false).length,D6) (aS R) (fun w s=>s) ?_
 rintro ⟨b,a2⟩ ⟨G,T,L⟩ σ1 D g a0
 replace g:Z0y_L1 g1 b a2=some D:=g
 unfold Z0y_L1 at g
 refine bH 0 aB (fun (M:T=b.length)=>?_)
 subst M
 refine aM (aM (aE (lI R (lO (fS 1 pn R) (lO (gB 1 cO R R R) (lO (jG bK R) (lO (mW R R) (aC (aI ?_)))))))))
 rcases cG g with ⟨j,g⟩|⟨j,g⟩
 refine bZ R j (cP (aI (aM (dC ?_))))
 obtain ⟨l,g⟩:=gd g
 obtain ⟨F,B,g⟩:=bd g
 refine aZ 3 aA (show 0<g1.Outs.length by have:=l; omega) (fun J o20 ha=>?_)
 subst ha
 refine dG 9 [0] bP (fun ht M=>(dR 0 R (vz (.agg [(sc A2 g1.Nodes D2),(sc (ad J o20) g1.Outs D3)].toArray) (dJ 0 po nD R R R R)) (hS:=(sL [0])) (dR 1 R (fS 1 pn R) (hS:=(sL [0])) (dR 2 R (gB 0 cO R R R) (hS:=(sL [0])) (dR 3 R (vI R) (hS:=(sL [0])) (dR 4 R (eI bK cC R R l) (hS:=(sL [0])) (dR 5 R (gP 2 fP aA R l) (hS:=(sL [0])) (dR 6 R (vS R) (hS:=(sL [0])) (d1 7 R (lM (RR cJ A2 D2 g1.Nodes::RR kT3 (ad J o20) D3 g1.Outs::OO iy 4 G L b::E) (fun w s=>(((s.d 2 R).d 4 R).e 3 [1,0,2])) ?_))))))))))
 refine lC 3 zT R (Zt_ok B) R ?_
 rintro ⟨u,O,I⟩
 refine lN (ow iy 4 (.slice u O I) F::E) ?_
 refine aL 0 aB ?_
 rintro rfl
 refine aC (aG (sL [0]) (dR 8 R (vS R) (hS:=(sL [0])) (dD (dO (aI (aE (lI R (lO (kK R R) (lI R (aC ?_))))))))))
 obtain rfl:=so g
 exact qA (u,F.length,I) (fun w s=>s)
 refine bJ R j (gR (dZ ?_))
 obtain rfl:=so g
 obtain rfl:=a0 _ R
 have g:=Z
 refine dZ (fM ?_)
 exact qI (b,(G,b.length,L)) g (fun w s=>s)
 rintro ⟨i,⟨a3,U,a1⟩⟩ σ1 g
 replace g:Z0y_J1 i=some r:=g
 unfold Z0y_J1 at g
 refine bH 0 aB (fun (M:U=i.length)=>?_)
 subst M
 refine aM (aE (lS R (lS R (aC (aI (bW ?_))))))
 obtain rfl:=so g
 exact qF (a3,i.length,a1) (fun w s=>(s.e 4 [0]))
theorem Z04_ok  {g1:Graph}{r:(List Int)}(b:Z04 g1=some r) :
 FnOk Tryz.prog 25 [(.agg [(.slice A2 N2 D2),(.slice A3 N3 D3)].toArray)] [aO cJ (.slice A2 N2 D2) g1.Nodes,aO kT3 (.slice A3 N3 D3) g1.Outs] (fun (h:HH)=>((.slice h.1 h.2.1 h.2.2),[ow kT3 3 (.slice h.1 h.2.1 h.2.2) r])):=by
 unfold Z04 at b
 refine aQ Tryz.func25 R 28 R R fun C V=>?_
 refine cN (_::_::V) ?_
 refine cL 0 aA ?_
 rintro rfl
 refine cL 1 aA ?_
 rintro rfl
 let W0:List HP:=RR cJ A2 D2 g1.Nodes::RR kT3 A3 D3 g1.Outs::V
 refine cN W0 ?_
 refine aM (aE (eB R (fun b4=>(lS R (aC ?_)))))
 let l:List HP:=aJ b4 [(sc A2 g1.Nodes D2),(sc A3 g1.Outs D3)] 30::W0
 refine qN l ?_
 refine aI (aM (aE (bM (K:=kT3) (xs:=([]:List Int)) (vs:=[]) 0 R R bK cC gF R R R R R R ?_ R (fun A5 D5=>?_))))
 exact fun I h s=>(gD).list [] I h s
 refine lN (OO kT3 3 A5 D5 ([]:List Int)::l) ?_
 refine lS R (aC (aI (aM (aM ?_))))
 obtain ⟨r6,a6,b⟩:=bd b
 refine aE (lO (vz (.agg [(sc A2 g1.Nodes D2),(sc A3 g1.Outs D3)].toArray) (dJ 1 po nD R R R R)) (lM (RR cJ A2 D2 g1.Nodes::RR kT3 A3 D3 g1.Outs::ow _ _ _ _::l) (fun w s=>(((s.d 2 R).d 4 R).e 3 [1,0,2])) ?_))
 refine lC 2 Bf R (Z2w_ok a6) R ?_
 rintro _
 refine lN (_::l) ?_
 refine lO (rJ R) (aC (aI ?_))
 rcases cG b with ⟨J,b⟩|⟨J,b⟩
 refine bZ R J (aM (aE (lS R (lS R (aC (aI (bW (cE ?_))))))))
 obtain rfl:=so b
 exact qF (A5,([]:List Int).length,D5) (fun w s=>(s.e 4 [0]))
 refine bJ R J (cP (aI (aM ?_)))
 obtain ⟨B,U,b⟩:=bd b
 refine aE (lO (vz (.agg [(sc A2 g1.Nodes D2),(sc A3 g1.Outs D3)].toArray) (dJ 1 po nD R R R R)) (lM (RR cJ A2 D2 g1.Nodes::RR kT3 A3 D3 g1.Outs::ow _ _ _ _::l) (fun w s=>(((s.d 2 R).d 4 R).e 3 [1,0,2])) ?_))
 refine lC 2 Br R (Z0y_ok U) R ?_
 rintro ⟨A11,N11,D11⟩
 refine lN (ow iy 4 (.slice A11 N11 D11) B::_::l) ?_
 refine aL 0 aB ?_
 rintro rfl
 refine lS R (aC (aI (aM (bB (A:=((List Int))×(HH)) (fun a=>Z04_J3 a.1=some r) (fun a=>[(3,(.slice a.2.1 a.2.2.1 a.2.2.2))]) (fun a=>ow kT3 3 (.slice a.2.1 a.2.2.1 a.2.2.2) a.1::l) ?_ ?_))))
 refine aM (aE (lI R (aC (aI (dC ?_)))))
 obtain ⟨e1,a2,a3⟩:=bd b
 refine bD (A:=HH) a2 (fun s a=>[(3,(.slice a.1 a.2.1 a.2.2)),(4,(sc A11 B D11)),(5,(iv s.2))]) (fun s a=>ow kT3 3 (.slice a.1 a.2.1 a.2.2) s.1::OO iy 4 A11 D11 B::l) (A5,([]:List Int).length,D5) (aS R) (fun w s=>(s.e 2 [1,0])) ?_
 rintro ⟨i,g⟩ ⟨E,Z,F⟩ σ1 u b ab
 replace b:Z04_L1 B i g=some u:=b
 unfold Z04_L1 at b
 refine bH 0 aB (fun (M:Z=i.length)=>?_)
 subst M
 refine aM (aM (aE (lI R (lS R (lO (jG m' R) (lO (mW R R) (aC (aI ?_))))))))
 rcases cG b with ⟨m,b⟩|⟨m,b⟩
 refine bZ R m (cP (aI (aM (bB (A:=((List Int))×(HH)) (fun a=>Z04_J2 g a.1=some u) (fun a=>[(3,(.slice a.2.1 a.2.2.1 a.2.2.2)),(4,(sc A11 B D11)),(5,(iv g))]) (fun a=>ow kT3 3 (.slice a.2.1 a.2.2.1 a.2.2.2) a.1::OO iy 4 A11 D11 B::l) ?_ ?_))))
 refine dC (aM ?_)
 obtain ⟨j,b⟩:=gd b
 refine aE (lS R (lI R (bC 1 aB (show 0<B.length by have:=j; omega) (fun a9 o28 ha=>?_))))
 subst ha
 refine lO (eI m' rK R R j) (lO (vz (.bool (ix B g)) (hW (K:=iy) (fo:=0) (pr:=fun x=>(.bool x)) 1 g y8 (dT4.leaf fun _ _=>R) aB R j.1 j.2)) (aC (aI ?_)))
 rcases cG b with ⟨q,b⟩|⟨q,b⟩
 refine bZ R q ?_
 obtain ⟨O,b⟩:=gd b
 refine aE (lS R (lI R (bM (K:=kT3) (xs:=([g]:List Int)) (vs:=[(iv g)]) 0 R R bK cC gF R R R R R R ?_ R (fun Y a4=>?_))))
 exact fun I h s=>(gD).list [((),g)] I h s
 refine lN (OO kT3 3 Y a4 ([g]:List Int)::OO kT3 3 E F i::OO iy 4 (ad a9 o28) D11 B::l) ?_
 refine lM (ow _ _ _ _::ow _ _ _ _::ow _ _ _ _::l) (fun w s=>(s.e 3 [1,0,2])) ?_
 refine eD (K:=kT3) 17592186044416 R R bK cC kl (Zr.zk zT3 gF) R R R R R R dP O (fun T L=>(lN (OO kT3 3 T L (i++([g]:List Int))::_::l) ?_))
 refine lS R (aC (dO ?_))
 exact qI ((i++([g]:List Int)),(T,(i++([g]:List Int)).length,L)) b (fun w s=>s)
 refine bJ R q (cP (dO ?_))
 exact qI (i,(E,i.length,F)) b (fun w s=>s)
 rintro ⟨G,⟨a0,a5,aa⟩⟩ σ1 b
 replace b:Z04_J2 g G=some u:=b
 unfold Z04_J2 at b
 refine bH 0 aB (fun (M:a5=G.length)=>?_)
 subst M
 refine aE (lI R (lO (kK R R) (lI R (aC ?_))))
 obtain rfl:=so b
 exact qA (a0,G.length,aa) (fun w s=>s)
 refine bJ R m (gR (dZ ?_))
 obtain rfl:=so b
 obtain rfl:=ab _ R
 have b:=a3
 refine dZ (fM ?_)
 exact qI (i,(E,i.length,F)) b (fun w s=>(s.e 2 [0]))
 rintro ⟨D,⟨a1,a8,a7⟩⟩ σ1 b
 replace b:Z04_J3 D=some r:=b
 unfold Z04_J3 at b
 refine bH 0 aB (fun (M:a8=D.length)=>?_)
 subst M
 refine aM (aE (lS R (lS R (aC (aI (bW ?_))))))
 obtain rfl:=so b
 exact qF (a1,D.length,a7) (fun w s=>(s.e 4 [0]))
end Go.Proofs.YtmpnollfdpdipaaGreat
