import Derived.Test.YtmpnollfdpdipaaGreatDoorSfF
import Derived.Test.YtmpnollfdpdipaaGreatDoorSfW1
import Derived.Test.YtmpnollfdpdipaaGreatDoorSfW2
import Derived.Test.YtmpnollfdpdipaaGreatDoorSfW4
set_option linter.unusedVariables false
set_option maxRecDepth 20000
namespace Go.Proofs.YtmpnollfdpdipaaGreatDoor
open Go Go.Pg
variable {A5:Option Addr}{D5 N5:Nat}
theorem Z16_ok  {j:aD}{g:aD}{aa:Int}{E:(List Tensor)}{mG:Int}{r:Bool}(a:Z16 j g aa E=some r) :
 FnOk Tryz.prog 3 [(aA j),(aA g),(iv aa),(.slice A5 N5 D5)] [bF g9 (.slice A5 N5 D5) E,gl 0 mG] (fun (h:Unit)=>((.bool r),[])):=by
 unfold Z16 at a
 refine aU Tryz.func3 R 117 R R fun C V=>?_
 refine cN (_::_::V) ?_
 refine cL 0 aB ?_
 rintro rfl
 let J:List HP:=RR g9 A5 D5 E::gl 0 mG::V
 refine cN J ?_
 refine aL (aE (lB R (aG (aH (aL (aL (aE (lO (vp (aA j) R) (lO (vz (il j) (bM cR R)) (lO (ul R R) (aG (aH ?_))))))))))))
 rcases eJ a with ⟨am,a⟩|⟨am,a⟩
 refine dG R am (aL (aE (lB R (aG (aH (cK (dJ ?_)))))))
 obtain rfl:=so a
 exact qF () (fun w s=>(s.e 2 []))
 refine bW R am (dF (aH (aL (aL (aE (lO (vp (aA g) R) (lO (vz (il g) (bM cR R)) (lO (ul R R) (aG (aH ?_))))))))))
 rcases eJ a with ⟨an,a⟩|⟨an,a⟩
 refine dG R an (aL (aE (lB R (aG (aH (cK (dJ ?_)))))))
 obtain rfl:=so a
 exact qF () (fun w s=>(s.e 2 []))
 refine bW R an (dF (aH (aL (aE (lI R (aG (aH (aL ?_))))))))
 obtain ⟨r8,bj,a⟩:=bd a
 refine aE (lS R (lI R (lM (RR g9 A5 D5 E::J) (fun w s=>(s.d 0 R)) ?_)))
 refine lC 1 cb8 R (Z07_ok bj) R ?_
 rintro _
 refine lN J ?_
 refine lI R (aG (aH (aL (aL (aE (lI R (lO (nY R R) (aG (aH ?_)))))))))
 rcases eJ a with ⟨a0,a⟩|⟨a0,a⟩
 refine dG R a0 (aL (aE (lB R (aG (aH (cK (dJ ?_)))))))
 obtain rfl:=so a
 exact qF () (fun w s=>(s.e 2 []))
 refine bW R a0 (dF (aH (aL ?_)))
 obtain ⟨ao,au,a⟩:=bd a
 obtain ⟨q,av,a⟩:=bd a
 refine aE (lO (vp (aA j) R) (lO (vp (aA g) R) (lI R (lS R (lM (RR g9 A5 D5 E::J) (fun w s=>(s.d 0 R)) ?_)))))
 refine lC 1 oH R (Zf_ok au) R ?_
 rintro ⟨ac,bb,ai⟩
 refine lN (ow kT38 38 (.slice ac bb ai) ao::J) ?_
 refine aX 0 aC ?_
 rintro rfl
 refine kK (fun w s=>s.shr 0 R) (lM (RR kT38 ac ai ao::RR kT38 ac ai ao::J) (fun w s=>(s.d 0 R)) ?_)
 refine lC 1 cb9 R (Z0_ok av) R ?_
 rintro ⟨M,bc,O⟩
 refine lN (ow (kT27).share 27 (.slice M bc O) q.1::_::J) ?_
 refine aX 0 eM ?_
 rintro rfl
 refine lO (vT R) (lS R (lB R (lS R (lB R (aG (aH (aL ?_)))))))
 obtain ⟨Y,aw,a⟩:=bd a
 refine aE (lS R (lM (RR g9 A5 D5 E::_::_::J) (fun w s=>(s.d 2 R)) ?_))
 refine lC 1 oH R (Zf_ok aw) R ?_
 rintro ⟨T,be,U⟩
 refine lN (ow kT38 38 (.slice T be U) Y::_::_::J) ?_
 refine aX 0 aC ?_
 rintro rfl
 refine lS R (aG (aH (aL ?_)))
 obtain ⟨m,ax,a⟩:=bd a
 refine aE (lO (vp (aA j) R) (lO (vp (aA g) R) (lI R (lS R (lM (ow _ _ _ _::gl 0 mG::ow _ _ _ _::bF _ _ _::J) (fun w s=>((s.dg 4 R).e 4 [1,0,2,3])) ?_)))))
 refine lC 2 tG R (FnOk.lends (A':=[OO kT38 38 T U Y]) (A:=[RR kT38 T U Y]) (B:=[gl 0 mG]) (Z5_ok ax) ⟨bB,trivial⟩ (fun _=>⟨(bP sT),trivial⟩)) R ?_
 rintro ⟨u,bf,D⟩
 refine lN (_::ow kT27 27 (.slice u bf D) m.1::_::_::J) ?_
 refine aX 1 aC ?_
 rintro rfl
 refine lO (vT R) (lS R (lB R (lS R (lB R (aG (aH (aL (aL ?_))))))))
 obtain ⟨b9,ay,a⟩:=bd a
 refine cQ [(0,(aA j)),(1,(aA g)),(2,(iv aa)),(3,(sc A5 E D5)),(10,(sc M q.1 O)),(11,(.bool q.2)),(12,(sc T Y U)),(13,(sc u m.1 D)),(14,(.bool m.2)),(58,(.bool ((!b9)||(!(m.2==q.2)))))] (OO (kT27).share 27 M O q.1::OO kT38 38 T U Y::OO kT27 27 u D m.1::J) ?_ ?_
 refine aE (lS R (lS R (lM (ow _ _ _ _::ow _ _ _ _::ow _ _ _ _::bF _ _ _::J) (fun w s=>(s.e 4 [1,2,0,3])) ?_)))
 refine lC 2 rf R (FnOk.lends (A':=[OO kT27 27 u D m.1,OO (kT27).share 27 M O q.1]) (A:=[RR kT27 u D m.1,RR kT27 M O q.1]) (B:=[]) (Zt_ok ay) ⟨bB,i4,trivial⟩ (fun _=>trivial)) R ?_
 rintro _
 refine lO (om R) (lB R ?_)
 rcases bo (!b9) with F | F
 refine lf (kB F) (lf (kB F) (lf (kB F) (lO (rU (!(m.2==q.2)) R F) (aG ?_))))
 exact qJ (fun w s=>(s.e 4 [1,2,0]))
 refine lW (cI F) (vB R) (lW (cI F) (vB R) (lW (cI F) (mP ve R R) (lO (qq R F R) (aG ?_))))
 exact qJ (fun w s=>(s.e 4 [1,2,0]))
 rintro σ1
 refine aH ?_
 rcases eJ a with ⟨a1,a⟩|⟨a1,a⟩
 refine dG R a1 (aL (aE (lB R (aG (aH (cK (dJ ?_)))))))
 obtain rfl:=so a
 exact qF () (fun w s=>(s.e 5 []))
 refine bW R a1 (dF (aH (aL (aL ?_))))
 obtain ⟨ap,az,a⟩:=bd a
 obtain ⟨bk,b0,a⟩:=bd a
 refine aE (lS R (lS R (lM (RR g9 A5 D5 E::_::_::_::J) (fun w s=>(s.d 3 R)) ?_)))
 refine lC 1 oH R (Zf_ok az) R ?_
 rintro ⟨ae,bg,aj⟩
 refine lN (ow kT38 38 (.slice ae bg aj) ap::_::_::_::J) ?_
 refine aX 0 aC ?_
 rintro rfl
 refine lM (ow _ _ _ _::ow _ _ _ _::ow _ _ _ _::ow _ _ _ _::J) (fun w s=>(s.e 4 [2,0,1,3])) ?_
 refine lC 2 tH R (FnOk.lends (A':=[OO kT38 38 T U Y,OO kT38 38 ae aj ap]) (A:=[RR kT38 T U Y,RR kT38 ae aj ap]) (B:=[]) (Z00_ok b0) ⟨bB,bB,trivial⟩ (fun _=>trivial)) R ?_
 rintro _
 refine lO (om R) (aG (aH ?_))
 rcases eJ a with ⟨a2,a⟩|⟨a2,a⟩
 refine dG R a2 (aL (aE (lB R (aG (aH (cK (dJ ?_)))))))
 obtain rfl:=so a
 exact qF () (fun w s=>(s.e 6 []))
 refine bW R a2 (dF (aH (aL (aE (lI R (aG (aH (aL ?_))))))))
 obtain ⟨ab,b1,a⟩:=bd a
 refine aE (lS R (lI R (lC 1 tK R (Z9_ok b1) R ?_)))
 rintro _
 refine lN (ow kT38 38 (.slice T Y.length U) ab.2::_::_::_::J) ?_
 refine lI R (aG (aH (aL (aL ?_))))
 obtain ⟨aq,b2,a⟩:=bd a
 refine cQ [(0,(aA j)),(1,(aA g)),(2,(iv aa)),(3,(sc A5 E D5)),(10,(sc M q.1 O)),(11,(.bool q.2)),(13,(sc u m.1 D)),(79,(.bool (((decide (ab.1<(0:Int)))||(!aq))||(!(m.2==q.2)))))] (OO (kT27).share 27 M O q.1::OO kT27 27 u D m.1::J) ?_ ?_
 refine aE (lI R (lO (nY R R) (lB R ?_)))
 rcases bo (decide (ab.1<(0:Int))) with i | i
 refine lf (kB i) (lf (kB i) (lf (kB i) (lf (kB i) (lO (rU (!aq) R i) (lB R (lf (kB (oT i)) (lf (kB (oT i)) (lf (kB (oT i)) (lO (rU (!(m.2==q.2)) R (oT i)) (aG ?_))))))))))
 exact qJ (fun w s=>(s.e 4 [2,3]))
 refine lW (cI i) (vS R) (lW (cI i) (vS R) (lM (ow _ _ _ _::ow _ _ _ _::ow _ _ _ _::ow _ _ _ _::J) (fun w s=>(s.e 4 [3,2,0,1])) ?_))
 refine bZ 2 R (cI i) rf R (FnOk.lends (A':=[OO kT27 27 u D m.1,OO (kT27).share 27 M O q.1]) (A:=[RR kT27 u D m.1,RR kT27 M O q.1]) (B:=[]) (Zt_ok (cB b2 (dI i))) ⟨bB,i4,trivial⟩ (fun _=>trivial)) R ?_
 rintro _
 refine lW (cI i) (om R) (lO (qq R i R) (lB R ?_))
 rcases bo ((decide (ab.1<(0:Int)))||(!aq)) with G | G
 refine lf (kB G) (lf (kB G) (lf (kB G) (lO (rU (!(m.2==q.2)) R G) (aG ?_))))
 exact qJ (fun w s=>(s.e 4 [1,0]))
 refine lW (cI G) (vB R) (lW (cI G) (vB R) (lW (cI G) (mP ve R R) (lO (qq R G R) (aG ?_))))
 exact qJ (fun w s=>(s.e 4 [1,0]))
 rintro σ1
 refine aH ?_
 rcases eJ a with ⟨a3,a⟩|⟨a3,a⟩
 refine dG R a3 (aL (aE (lB R (aG (aH (cK (dJ ?_)))))))
 obtain rfl:=so a
 exact qF () (fun w s=>(s.e 4 []))
 refine bW R a3 (dF (aH (aL (aE (lI R (aG (aH (aL ?_))))))))
 obtain ⟨Z,b3,a⟩:=bd a
 refine aE (lS R (lI R (lM (ow _ _ _ _::ow _ _ _ _::J) (fun w s=>(s.e 2 [1,0])) ?_)))
 refine lC 1 vf R (Zv_ok b3) R ?_
 rintro _
 refine lN (ow kT27 27 (.slice u m.1.length D) Z.2::_::J) ?_
 refine lI R (aG (aH (aL (aE (lI R (aG (aH (aL ?_))))))))
 obtain ⟨bl,b4,a⟩:=bd a
 refine aE (lS R (lI R (lC 1 tL R (FnOk.lends (A':=[ow kT27 27 (.slice u m.1.length D) Z.2]) (A:=[bF kT27 (.slice u m.1.length D) Z.2]) (B:=[]) (Zm_ok b4) ⟨bB,trivial⟩ (fun _=>trivial)) R ?_)))
 rintro _
 refine lI R (aG (aH (aL (aL (aE (lI R (lO (nY R R) (aG (aH ?_)))))))))
 rcases eJ a with ⟨a4,a⟩|⟨a4,a⟩
 refine dG R a4 (aL (aE (lB R (aG (aH (cK (dJ ?_)))))))
 obtain rfl:=so a
 exact qF () (fun w s=>(s.e 4 []))
 refine bW R a4 (dF (aH (aL (aL (aE (lI R (lI R (lO (ub R R) (aG (aH ?_))))))))))
 rcases eJ a with ⟨a5,a⟩|⟨a5,a⟩
 refine dG R a5 (aL (aE (lB R (aG (aH (cK (dJ ?_)))))))
 obtain rfl:=so a
 exact qF () (fun w s=>(s.e 4 []))
 refine bW R a5 (dF (aH (aL ?_)))
 obtain ⟨ar,b5,a⟩:=bd a
 obtain ⟨a9,b6,a⟩:=bd a
 refine aE (lO (vp (aA j) R) (lO (vp (aA g) R) (lI R (lS R (lM (RR g9 A5 D5 E::_::_::J) (fun w s=>(s.d 2 R)) ?_)))))
 refine lC 1 oH R (Zf_ok b5) R ?_
 rintro ⟨ag,bh,ak⟩
 refine lN (ow kT38 38 (.slice ag bh ak) ar::_::_::J) ?_
 refine aX 0 aC ?_
 rintro rfl
 refine lM (ow _ _ _ _::gl 0 mG::ow _ _ _ _::ow _ _ _ _::J) (fun w s=>((s.dg 4 R).e 4 [1,0,2,3])) ?_
 refine lC 2 tG R (FnOk.lends (A':=[OO kT38 38 ag ak ar]) (A:=[RR kT38 ag ak ar]) (B:=[gl 0 mG]) (Z5_ok b6) ⟨bB,trivial⟩ (fun _=>⟨(bP sT),trivial⟩)) R ?_
 rintro ⟨ah,bi,al⟩
 refine lN (_::ow kT27 27 (.slice ah bi al) a9.1::_::_::J) ?_
 refine aX 1 aC ?_
 rintro rfl
 refine lO (vT R) (lS R (lB R (lS R (lB R (aG (aH (aL (aL ?_))))))))
 obtain ⟨ba,b7,a⟩:=bd a
 refine cQ [(13,(sc u m.1 D)),(16,(iv Z.1)),(108,(.bool ((!ba)||(!(a9.2==q.2)))))] (ow kT27 27 (.slice u m.1.length D) Z.2::J) ?_ ?_
 refine aE (lS R (lS R (lM (ow _ _ _ _::ow _ _ _ _::ow _ _ _ _::ow _ _ _ _::J) (fun w s=>(s.e 4 [1,3,0,2])) ?_)))
 refine lC 2 rf R (FnOk.lends (A':=[OO kT27 27 ah al a9.1,OO (kT27).share 27 M O q.1]) (A:=[RR kT27 ah al a9.1,RR kT27 M O q.1]) (B:=[]) (Zt_ok b7) ⟨bB,i4,trivial⟩ (fun _=>trivial)) R ?_
 rintro _
 refine lO (om R) (lB R ?_)
 rcases bo (!ba) with I | I
 refine lf (kB I) (lf (kB I) (lf (kB I) (lO (rU (!(a9.2==q.2)) R I) (aG ?_))))
 exact qJ (fun w s=>(s.e 4 [3]))
 refine lW (cI I) (vB R) (lW (cI I) (vB R) (lW (cI I) (mP ve R R) (lO (qq R I R) (aG ?_))))
 exact qJ (fun w s=>(s.e 4 [3]))
 rintro σ1
 refine aH ?_
 rcases eJ a with ⟨a6,a⟩|⟨a6,a⟩
 refine dG R a6 (aL (aE (lB R (aG (aH (cK (dJ ?_)))))))
 obtain rfl:=so a
 exact qF () (fun w s=>(s.e 3 []))
 refine bW R a6 (dF (aH (aL (aE (lI R (aG (aH (aL ?_))))))))
 obtain ⟨bm,b8,a⟩:=bd a
 refine aE (lS R (lI R (lC 1 tL R (FnOk.lends (A':=[ow kT27 27 (.slice u m.1.length D) Z.2]) (A:=[bF kT27 (.slice u m.1.length D) Z.2]) (B:=[]) (Zm_ok b8) ⟨bB,trivial⟩ (fun _=>trivial)) R ?_)))
 rintro _
 refine lN (_::J) ?_
 refine lI R (aG (aH (aL (aL (aE (lI R (lO (nY R R) (aG (aH ?_)))))))))
 rcases eJ a with ⟨a7,a⟩|⟨a7,a⟩
 refine dG R a7 (aL (aE (lB R (aG (aH (cK (dJ ?_)))))))
 obtain rfl:=so a
 exact qF () (fun w s=>(s.e 3 []))
 refine bW R a7 (dF (aH (aL (aL (aE (lI R (lI R (lO (ub R R) (aG (aH ?_))))))))))
 rcases eJ a with ⟨a8,a⟩|⟨a8,a⟩
 refine dG R a8 (aL (aE (lB R (aG (aH (cK (dJ ?_)))))))
 obtain rfl:=so a
 exact qF () (fun w s=>(s.e 3 []))
 refine bW R a8 (dF (aH (aL (aE (lB R (aG (aH (cK ?_))))))))
 obtain rfl:=so a
 exact qF () (fun w s=>(s.e 3 []))
end Go.Proofs.YtmpnollfdpdipaaGreatDoor
