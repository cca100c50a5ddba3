import Derived.Test.YthelanpdjajnbaaGreatKcF
import Derived.Test.YthelanpdjajnbaaGreatKcW1
import Derived.Test.YthelanpdjajnbaaGreatKcW5
import Derived.Test.YthelanpdjajnbaaGreatKcW8
set_option linter.unusedVariables false
set_option maxRecDepth 20000
namespace Go.Proofs.YthelanpdjajnbaaGreat
open Go Go.Pg
variable {A2 A3 A5:Option Addr}{D2 D3 D5 N2 N3 N5:Nat}
theorem Z3h_ok  {a:Graph}{i:(List Int)}{mG:Int}{r:Bool}(b:Z3h a i=some r) :
 FnOk Tryz.prog 3 [(.agg [(.slice A2 N2 D2),(.slice A3 N3 D3)].toArray),(.slice A5 N5 D5)] [aN j0 (.slice A2 N2 D2) a.Nodes,aN kT3 (.slice A3 N3 D3) a.Outs,aN kT3 (.slice A5 N5 D5) i,gl 0 mG] (fun (h:Unit)=>((.bool r),[])):=by
 unfold Z3h at b
 refine aP Tryz.func3 R 56 R R fun C V=>?_
 refine cN (_::_::_::_::V) ?_
 refine cL 0 aA ?_
 rintro rfl
 refine cL 1 aA ?_
 rintro rfl
 refine cL 2 aA ?_
 rintro rfl
 let W0:List HP:=RR j0 A2 D2 a.Nodes::RR kT3 A3 D3 a.Outs::RR kT3 A5 D5 i::gl 0 mG::V
 refine cN W0 ?_
 refine aK (aD (eJ R (fun b6=>(lB R (aC ?_)))))
 let l:List HP:=aJ b6 [(sc A2 a.Nodes D2),(sc A3 a.Outs D3)] 25::W0
 refine qN l ?_
 refine aG (aK (aK (aD (lS R (lO (hY bM R) (lO (wO R R) (aC (aG ?_))))))))
 rcases cH b with ⟨aa,b⟩|⟨aa,b⟩
 refine bV R aa (aK (aD (lB R (aC (aG (bY (cG ?_)))))))
 obtain rfl:=so b
 exact qF () (fun w s=>(s.e 5 []))
 refine bG R aa (cF (aG (aK (aD (lI R (aC (aG (aK ?_))))))))
 obtain ⟨r8,az,b⟩:=bd b
 refine aD (lO (vz (.agg [(sc A2 a.Nodes D2),(sc A3 a.Outs D3)].toArray) (cO 0 sJ sK R R R R)) (lI R (lM (RR j0 A2 D2 a.Nodes::RR kT3 A3 D3 a.Outs::l) (fun w s=>(((s.d 1 R).d 3 R).e 2 [1,0])) ?_)))
 refine lC 2 cb6 R (Z34_ok az) R ?_
 rintro _
 refine lN l ?_
 refine lI R (aC (aG (aK (aK (aD (lI R (lO (n0 R R) (aC (aG ?_)))))))))
 rcases cH b with ⟨L,b⟩|⟨L,b⟩
 refine bV R L (aK (aD (lB R (aC (aG (bY (cG ?_)))))))
 obtain rfl:=so b
 exact qF () (fun w s=>(s.e 5 []))
 refine bG R L (cF (aG (aK ?_)))
 obtain ⟨I,ae,b⟩:=bd b
 obtain ⟨ab,ag,b⟩:=bd b
 obtain ⟨U,ah,b⟩:=bd b
 refine aD (lO (vz (.agg [(sc A2 a.Nodes D2),(sc A3 a.Outs D3)].toArray) (cO 0 sJ sK R R R R)) (lM (RR j0 A2 D2 a.Nodes::RR kT3 A3 D3 a.Outs::l) (fun w s=>(((s.d 1 R).d 3 R).e 2 [1,0])) ?_))
 refine lC 2 By R (Z1w_ok ae) R ?_
 rintro ⟨⟨Z,ap,a4⟩,⟨A14,N14,D14⟩⟩
 refine lN (ow cP 65 (.slice Z ap a4) I.Nodes::ow kT3 3 (.slice A14 N14 D14) I.Outs::l) ?_
 refine aM 0 aB ?_
 rintro rfl
 refine aM 1 aB ?_
 rintro rfl
 refine lS R (lM (RR kT3 A5 D5 i::_::_::l) (fun w s=>(s.d 5 R)) ?_)
 refine lC 1 vQ R (Zf_ok ag) R ?_
 rintro ⟨a0,aq,a5⟩
 refine lN (ow kT3 3 (.slice a0 aq a5) ab::_::_::l) ?_
 refine aM 0 aB ?_
 rintro rfl
 refine lM (ow _ _ _ _::ow _ _ _ _::ow _ _ _ _::l) (fun w s=>(s.e 3 [1,2,0])) ?_
 refine lC 3 cb7 R (FnOk.lends (A':=[OO cP 65 Z a4 I.Nodes,OO kT3 3 A14 D14 I.Outs,OO kT3 3 a0 a5 ab]) (A:=[RR cP Z a4 I.Nodes,RR kT3 A14 D14 I.Outs,RR kT3 a0 a5 ab]) (B:=[]) (Z2r_ok ah) ⟨aZ,aZ,aZ,trivial⟩ (fun _=>trivial)) R ?_
 rintro _
 refine lO (vT R) (lI R (lI R (lI R (lI R (aC (aG (aK ?_)))))))
 obtain ⟨g,ai,b⟩:=bd b
 refine aD (lO (vz (.agg [(sc A2 a.Nodes D2),(sc A3 a.Outs D3)].toArray) (cO 3 sJ sK R R R R)) (lM (RR j0 A2 D2 a.Nodes::RR kT3 A3 D3 a.Outs::ow _ _ _ _::ow _ _ _ _::ow _ _ _ _::l) (fun w s=>(((s.d 4 R).d 6 R).e 5 [1,0,2,3,4])) ?_))
 refine lC 2 By R (Z1w_ok ai) R ?_
 rintro ⟨⟨m,ar,u⟩,⟨q,au,D⟩⟩
 refine lN (ow cP 65 (.slice m ar u) g.Nodes::ow kT3 3 (.slice q au D) g.Outs::_::_::_::l) ?_
 refine aM 0 aB ?_
 rintro rfl
 refine aM 1 aB ?_
 rintro rfl
 refine bE R R xd (fun a9=>(aL 0 R R lT R R R R R R (lN (aJ a9 [(sc m g.Nodes u),(sc q g.Outs D)] 31::_::_::_::_::_::l) ?_)))
 refine aC (aG (aK ?_))
 obtain ⟨G,aj,b⟩:=bd b
 refine aD (lS R (lM (RR kT3 A5 D5 i::_::_::_::_::_::_::l) (fun w s=>(s.d 9 R)) ?_))
 refine lC 1 vQ R (Zf_ok aj) R ?_
 rintro ⟨E,av,F⟩
 refine lN (ow kT3 3 (.slice E av F) G::_::_::_::_::_::_::l) ?_
 refine aM 0 aB ?_
 rintro rfl
 refine lS R (aC (aG (aK ?_)))
 obtain ⟨Y,ak,b⟩:=bd b
 refine aD (lO (vz (.agg [(sc m g.Nodes u),(sc q g.Outs D)].toArray) (cO 1 n8 lT R R R R)) (lS R (lM (ow _ _ _ _::ow _ _ _ _::ow _ _ _ _::gl 0 mG::aJ _ _ _::ow _ _ _ _::ow _ _ _ _::ow _ _ _ _::l) (fun w s=>((s.dg 11 R).e 8 [3,4,1,0,2,5,6,7])) ?_)))
 refine lC 4 BN R (FnOk.lends (A':=[OO cP 65 m u g.Nodes,OO kT3 3 q D g.Outs,OO kT3 3 E F G]) (A:=[RR cP m u g.Nodes,RR kT3 q D g.Outs,RR kT3 E F G]) (B:=[gl 0 mG]) (Z2k_ok ak) ⟨aZ,aZ,aZ,trivial⟩ (fun _=>trivial)) R ?_
 rintro _
 refine lN (_::_::_::_::_::_::_::l) ?_
 refine lO (vT R) (lI R (lI R (lI R (lI R (aC (aG (aK (aK (cQ [(1,(sc A5 i D5)),(2,(pt b6 0)),(8,(pt a9 0)),(9,(sc E G F)),(45,(.bool ((Y.1 != U.1)||(Y.2 != U.2))))] (aJ a9 [(sc m g.Nodes u),(sc q g.Outs D)] 31::OO cP 65 m u g.Nodes::OO kT3 3 q D g.Outs::OO kT3 3 E F G::l) ?_ ?_)))))))))
 refine aD (lI R (lI R (lO (wP R R) (lB R ?_))))
 rcases bo (Y.1 != U.1) with j | j
 refine lf (eC j) (lf (eC j) (lf (eC j) (lO (fD (Y.2 != U.2) R j) (aC ?_))))
 exact qJ (fun w s=>(s.e 7 [3,0,1,2]))
 refine lW (cC j) (vI R) (lW (cC j) (vI R) (lW (cC j) (wP R R) (lO (fS R j R) (aC ?_))))
 exact qJ (fun w s=>(s.e 7 [3,0,1,2]))
 rintro σ1
 refine aG ?_
 rcases cH b with ⟨M,b⟩|⟨M,b⟩
 refine bV R M (aK (aD (lB R (aC (aG (bY (cG ?_)))))))
 obtain rfl:=so b
 exact qF () (fun w s=>(s.e 9 []))
 refine bG R M (cF (aG (aK (aK ?_))))
 obtain ⟨J,al,b⟩:=bd b
 obtain ⟨b0,am,b⟩:=bd b
 refine dF 5 [] bO (fun ht hn=>(dR 0 R (vz (.agg [(sc m g.Nodes u),(sc q g.Outs D)].toArray) (cO 0 n8 lT R R R R)) (dR 1 R (vz (.agg [(sc A2 a.Nodes D2),(sc A3 a.Outs D3)].toArray) (cO 4 sJ sK R R R R)) (d1 2 R (lM (RR j0 A2 D2 a.Nodes::RR kT3 A3 D3 a.Outs::aJ _ _ _::ow _ _ _ _::ow _ _ _ _::ow _ _ _ _::l) (fun w s=>(((s.d 5 R).d 7 R).e 6 [1,0,2,3,4,5])) ?_)))))
 refine lC 2 By R (Z1w_ok al) R ?_
 rintro ⟨⟨a1,aw,a6⟩,⟨a2,ax,a7⟩⟩
 refine lN (ow cP 65 (.slice a1 aw a6) J.Nodes::ow kT3 3 (.slice a2 ax a7) J.Outs::_::_::_::_::l) ?_
 refine aM 0 aB ?_
 rintro rfl
 refine aM 1 aB ?_
 rintro rfl
 refine aC (aI (sL [1,0]) (d1 3 R (lM (ow _ _ _ _::ow _ _ _ _::ow _ _ _ _::ow _ _ _ _::aJ _ _ _::ow _ _ _ _::l) (fun w s=>(s.e 6 [3,4,0,1,2,5])) ?_)))
 refine lC 4 BQ R (FnOk.lends (A':=[OO cP 65 m u g.Nodes,OO kT3 3 q D g.Outs,OO cP 65 a1 a6 J.Nodes,OO kT3 3 a2 a7 J.Outs]) (A:=[RR cP m u g.Nodes,RR kT3 q D g.Outs,RR cP a1 a6 J.Nodes,RR kT3 a2 a7 J.Outs]) (B:=[]) (Z33_ok am) ⟨aZ,aZ,aZ,aZ,trivial⟩ (fun _=>trivial)) R ?_
 rintro _
 refine aC (aI (fun w s=>(s.e 6 [4,0,1,5])) (dR 4 R (pn R) (hS:=(fun w s=>(s.e 6 [4,0,1,5]))) (dD (aG ?_))))
 rcases cH b with ⟨O,b⟩|⟨O,b⟩
 refine bV R O (aK (aD (lB R (aC (aG (bY (cG ?_)))))))
 obtain rfl:=so b
 exact qF () (fun w s=>(s.e 11 []))
 refine bG R O (cF (aG (aK (aK ?_))))
 obtain ⟨ac,an,b⟩:=bd b
 obtain ⟨b1,ao,b⟩:=bd b
 refine aD (lS R (lS R (lM (RR kT3 A5 D5 i::_::_::_::_::_::_::l) (fun w s=>(s.d 9 R)) ?_)))
 refine lC 1 vQ R (Zf_ok an) R ?_
 rintro ⟨a3,ay,a8⟩
 refine lN (ow kT3 3 (.slice a3 ay a8) ac::_::_::_::_::_::_::l) ?_
 refine aM 0 aB ?_
 rintro rfl
 refine lM (ow _ _ _ _::ow _ _ _ _::ow _ _ _ _::ow _ _ _ _::ow _ _ _ _::ow _ _ _ _::aJ _ _ _::l) (fun w s=>(s.f 7 [6,1,0,6])) ?_
 refine lC 2 rq R (FnOk.lends (A':=[OO kT3 3 E F G,OO kT3 3 a3 a8 ac]) (A:=[RR kT3 E F G,RR kT3 a3 a8 ac]) (B:=[]) (Z0b_ok ao) ⟨aZ,aZ,trivial⟩ (fun _=>trivial)) R ?_
 rintro _
 refine lO (pn R) (aC (aG ?_))
 rcases cH b with ⟨T,b⟩|⟨T,b⟩
 refine bV R T (aK (aD (lB R (aC (aG (bY (cG ?_)))))))
 obtain rfl:=so b
 exact qF () (fun w s=>(s.e 12 []))
 refine bG R T (cF (aG (aK (aD (lB R (aC (aG (bY ?_))))))))
 obtain rfl:=so b
 exact qF () (fun w s=>(s.e 12 []))
end Go.Proofs.YthelanpdjajnbaaGreat
