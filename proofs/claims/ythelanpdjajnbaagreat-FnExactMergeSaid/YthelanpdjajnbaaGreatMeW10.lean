import Derived.Test.YthelanpdjajnbaaGreatMeF
import Derived.Test.YthelanpdjajnbaaGreatMeW1
import Derived.Test.YthelanpdjajnbaaGreatMeW5
import Derived.Test.YthelanpdjajnbaaGreatMeW9
set_option linter.unusedVariables false
set_option maxRecDepth 20000
namespace Go.Proofs.YthelanpdjajnbaaGreat
open Go Go.Pg
variable {A2 A3 A5 A6:Option Addr}{D2 D3 D5 D6 N2 N3 N5 N6:Nat}
theorem Z3g_ok  {q:Graph}{m:Graph}{mG:Int}{r:Bool}(i:Z3g q m=some r) :
 FnOk Tryz.prog 5 [(.agg [(.slice A2 N2 D2),(.slice A3 N3 D3)].toArray),(.agg [(.slice A5 N5 D5),(.slice A6 N6 D6)].toArray)] [aO gG (.slice A2 N2 D2) q.Nodes,aO kT3 (.slice A3 N3 D3) q.Outs,aO gG (.slice A5 N5 D5) m.Nodes,aO kT3 (.slice A6 N6 D6) m.Outs,gl 0 mG] (fun (h:Unit)=>((.bool r),[])):=by
 unfold Z3g at i
 refine aR Tryz.func5 R 119 R R fun C V=>?_
 refine cN (_::_::_::_::_::V) ?_
 refine cL 0 aA ?_
 rintro rfl
 refine cL 1 aA ?_
 rintro rfl
 refine cL 2 aA ?_
 rintro rfl
 refine cL 3 aA ?_
 rintro rfl
 let W0:List HP:=RR gG A2 D2 q.Nodes::RR kT3 A3 D3 q.Outs::RR gG A5 D5 m.Nodes::RR kT3 A6 D6 m.Outs::gl 0 mG::V
 refine cN W0 ?_
 refine aI (aD (eJ R (fun b7=>(eJ R (fun b8=>(lB R (aB ?_)))))))
 let l:List HP:=aJ b8 [(sc A5 m.Nodes D5),(sc A6 m.Outs D6)] 25::aJ b7 [(sc A2 q.Nodes D2),(sc A3 q.Outs D3)] 25::W0
 refine qN l ?_
 refine aE (aI (aD (lI R (aB (aE (aI ?_))))))
 obtain ⟨r9,cw,i⟩:=bd i
 refine aD (lO (vz (.agg [(sc A2 q.Nodes D2),(sc A3 q.Outs D3)].toArray) (bN 1 m' n0 R R R R)) (lI R (lM (RR gG A2 D2 q.Nodes::RR kT3 A3 D3 q.Outs::l) (fun w s=>(((s.d 2 R).d 4 R).e 2 [1,0])) ?_)))
 refine lC 2 Cy R (Z2d_ok cw) R ?_
 rintro _
 refine lN l ?_
 refine lI R (aB (aE (aI (aI (aD (lI R (lO (jz R R) (aB (aE ?_)))))))))
 rcases bY i with ⟨bz,i⟩|⟨bz,i⟩
 refine bM R bz (aI (aD (lB R (aB (aE (bO (bP ?_)))))))
 obtain rfl:=so i
 exact qF () (fun w s=>(s.e 7 []))
 refine aX R bz (bS (aE (aI ?_)))
 obtain ⟨dy,cx,i⟩:=bd i
 refine aD (lO (vz (.agg [(sc A5 m.Nodes D5),(sc A6 m.Outs D6)].toArray) (bN 0 m' n0 R R R R)) (lI R (lM (RR gG A5 D5 m.Nodes::RR kT3 A6 D6 m.Outs::l) (fun w s=>(((s.d 4 R).d 6 R).e 2 [1,0])) ?_)))
 refine lC 2 Cy R (Z2d_ok cx) R ?_
 rintro _
 refine lN l ?_
 refine lI R (aB (aE (aI (aI (aD (lI R (lO (jz R R) (aB (aE ?_)))))))))
 rcases bY i with ⟨c0,i⟩|⟨c0,i⟩
 refine bM R c0 (aI (aD (lB R (aB (aE (bO (bP ?_)))))))
 obtain rfl:=so i
 exact qF () (fun w s=>(s.e 7 []))
 refine aX R c0 (bS (aE (aI ?_)))
 obtain ⟨T,cb,i⟩:=bd i
 obtain ⟨U,c8,i⟩:=bd i
 obtain ⟨b,bj,i⟩:=bd i
 refine hU (A:=(Unit)×(Nat×HH×HH)) (fun _=>True) (fun a=>[(2,(pt b7 0)),(3,(pt b8 0)),(6,(pt a.2.1 0)),(7,(.bool b.2))]) (fun a=>aJ a.2.1 [(.slice a.2.2.1.1 a.2.2.1.2.1 a.2.2.1.2.2),(.slice a.2.2.2.1 a.2.2.2.2.1 a.2.2.2.2.2)] 31::ow (kT65).share 65 (.slice a.2.2.1.1 a.2.2.1.2.1 a.2.2.1.2.2) b.1.Nodes::ow kT3 3 (.slice a.2.2.2.1 a.2.2.2.2.1 a.2.2.2.2.2) b.1.Outs::l) ?_ ?_
 refine dE 11 [] bQ (fun ht hn=>(dR 0 R (vz (.agg [(sc A2 q.Nodes D2),(sc A3 q.Outs D3)].toArray) (bN 1 m' n0 R R R R)) (dR 2 R (vz (.agg [(sc A5 m.Nodes D5),(sc A6 m.Outs D6)].toArray) (bN 0 m' n0 R R R R)) (fW [1,8] (by kernel_rfl) R ⟨?_,?_,trivial⟩))))
 refine lM (RR gG A2 D2 q.Nodes::RR kT3 A3 D3 q.Outs::l) (fun w s=>(((s.d 2 R).d 4 R).e 2 [1,0])) ?_
 refine lC 2 qV R (Z09_ok cb) R ?_
 rintro ⟨⟨b4,co,b6⟩,⟨b5,cp,b9⟩⟩
 refine lN (ow kT65 65 (.slice b4 co b6) T.Nodes::ow kT3 3 (.slice b5 cp b9) T.Outs::l) ?_
 refine aM 0 aC ?_
 rintro rfl
 refine aM 1 aC ?_
 rintro rfl
 refine aB (aG (sL [1,0]) (fW [3,8] (by kernel_rfl) R ⟨?_,?_,trivial⟩))
 refine lM (RR gG A5 D5 m.Nodes::RR kT3 A6 D6 m.Outs::ow _ _ _ _::ow _ _ _ _::l) (fun w s=>(((s.d 6 R).d 8 R).e 4 [1,0,2,3])) ?_
 refine lC 2 qV R (Z09_ok c8) R ?_
 rintro ⟨⟨au,bs,ay⟩,⟨av,bu,az⟩⟩
 refine lN (ow kT65 65 (.slice au bs ay) U.Nodes::ow kT3 3 (.slice av bu az) U.Outs::_::_::l) ?_
 refine aM 0 aC ?_
 rintro rfl
 refine aM 1 aC ?_
 rintro rfl
 refine aB (aG (sL [3,2,1,0]) (fW [4,8] (by kernel_rfl) R ⟨?_,?_,trivial⟩))
 refine fS (fun w s=>s.shr 2 R) (fS (fun w s=>s.shr 3 R) (fS (fun w s=>s.shr 2 R) (fS (fun w s=>s.shr 3 R) (lM (RR kT65 b4 b6 T.Nodes::RR kT3 b5 b9 T.Outs::RR kT65 au ay U.Nodes::RR kT3 av az U.Outs::RR kT3 av az U.Outs::RR kT65 au ay U.Nodes::RR kT3 b5 b9 T.Outs::RR kT65 b4 b6 T.Nodes::l) (fun w s=>(((((s.d 3 R).d 3 R).d 3 R).d 3 R).e 8 [3,2,1,0,4,5,6,7])) ?_))))
 refine lC 4 vk R (Z0_ok bj) R ?_
 rintro ⟨⟨a3,bb,a7⟩,⟨a4,bc,a8⟩⟩
 refine lN (ow (kT65).share 65 (.slice a3 bb a7) b.1.Nodes::ow kT3 3 (.slice a4 bc a8) b.1.Outs::_::_::_::_::l) ?_
 refine aM 0 cV ?_
 rintro rfl
 refine aM 1 aC ?_
 rintro rfl
 refine aB (aG (sL [5,4,3,2,1,0]) (dR 5 R (vT R) (hS:=(sL [5,4,3,2,1,0])) (dR 6 R (vA R) (hS:=(sL [5,4,3,2,1,0])) (dR 7 R (vB R) (hS:=(sL [5,4,3,2,1,0])) (d1 8 R (aY R R hX (fun b2=>(aB (aG (sL [6,5,4,3,2,1,0]) (d1 9 R (aL 0 R R dN R R R R R R (lN (aJ b2 [(sc a3 b.1.Nodes a7),(sc a4 b.1.Outs a8)] 31::_::_::_::_::_::_::l) ?_))))))))))))
 refine aB (aG (sL [6,5,4,3,2,1,0]) (dR 10 R (vB R) (hS:=(sL [6,5,4,3,2,1,0])) (dD ?_)))
 exact cK ((),(b2,(a3,b.1.Nodes.length,a7),(a4,b.1.Outs.length,a8))) trivial (aS R) (fun w s=>(s.f 7 [0,3]))
 refine aY R R hX (fun b2=>(aB (aG (sL [4,3,2,1,0]) (d1 4 R (fS (fun w s=>s.shr 3 R) (fS (fun w s=>s.shr 4 R) (fS (fun w s=>s.shr 3 R) (fS (fun w s=>s.shr 4 R) (lM (aO _ _ _::aO _ _ _::aO _ _ _::aO _ _ _::aO _ _ _::aO _ _ _::aO _ _ _::aO _ _ _::aJ _ _ _::l) (fun w s=>(((((s.d 3 R).d 3 R).d 3 R).d 3 R).e 9 [3,2,1,0,4,5,6,7,8])) ?_)))))))))
 refine lC 4 vk R (Z0_ok bj) R ?_
 rintro ⟨⟨a3,bb,a7⟩,⟨a4,bc,a8⟩⟩
 refine lN (ow (kT65).share 65 (.slice a3 bb a7) b.1.Nodes::ow kT3 3 (.slice a4 bc a8) b.1.Outs::_::_::_::_::_::l) ?_
 refine aM 0 cV ?_
 rintro rfl
 refine aM 1 aC ?_
 rintro rfl
 refine aB (aG (sL [6,5,4,3,2,1,0]) (dR 5 R (vT R) (hS:=(sL [6,5,4,3,2,1,0])) (dR 6 R (vA R) (hS:=(sL [6,5,4,3,2,1,0])) (dR 7 R (vB R) (hS:=(sL [6,5,4,3,2,1,0])) (d1 9 R (aL 6 R R dN R R R R R R (lN (_::_::_::_::_::_::aJ b2 [(sc a3 b.1.Nodes a7),(sc a4 b.1.Outs a8)] 31::l) ?_)))))))
 refine aB (aG (sL [6,5,4,3,2,1,0]) (dR 10 R (vB R) (hS:=(sL [6,5,4,3,2,1,0])) (dD ?_)))
 exact cK ((),(b2,(a3,b.1.Nodes.length,a7),(a4,b.1.Outs.length,a8))) trivial (aS R) (fun w s=>(s.e 7 [6,0,1]))
 refine aY R R hX (fun b2=>(aB (aG (sL [2,1,0]) (d1 3 R (lM (RR gG A5 D5 m.Nodes::RR kT3 A6 D6 m.Outs::aJ _ _ _::OO kT65 65 b4 b6 T.Nodes::OO kT3 3 b5 b9 T.Outs::l) (fun w s=>(((s.d 7 R).d 9 R).e 5 [1,0,2,3,4])) ?_)))))
 refine lC 2 qV R (Z09_ok c8) R ?_
 rintro ⟨⟨au,bs,ay⟩,⟨av,bu,az⟩⟩
 refine lN (ow kT65 65 (.slice au bs ay) U.Nodes::ow kT3 3 (.slice av bu az) U.Outs::_::_::_::l) ?_
 refine aM 0 aC ?_
 rintro rfl
 refine aM 1 aC ?_
 rintro rfl
 refine aB (aG (sL [4,3,2,1,0]) (d1 4 R (fS (fun w s=>s.shr 3 R) (fS (fun w s=>s.shr 4 R) (fS (fun w s=>s.shr 2 R) (fS (fun w s=>s.shr 3 R) (lM (RR kT65 b4 b6 T.Nodes::RR kT3 b5 b9 T.Outs::RR kT65 au ay U.Nodes::RR kT3 av az U.Outs::RR kT3 av az U.Outs::RR kT65 au ay U.Nodes::RR kT3 b5 b9 T.Outs::RR kT65 b4 b6 T.Nodes::aJ _ _ _::l) (fun w s=>(((((s.d 3 R).d 3 R).d 3 R).d 3 R).e 9 [3,2,1,0,4,5,6,7,8])) ?_)))))))
 refine lC 4 vk R (Z0_ok bj) R ?_
 rintro ⟨⟨a3,bb,a7⟩,⟨a4,bc,a8⟩⟩
 refine lN (ow (kT65).share 65 (.slice a3 bb a7) b.1.Nodes::ow kT3 3 (.slice a4 bc a8) b.1.Outs::_::_::_::_::_::l) ?_
 refine aM 0 cV ?_
 rintro rfl
 refine aM 1 aC ?_
 rintro rfl
 refine aB (aG (sL [6,5,4,3,2,1,0]) (dR 5 R (vT R) (hS:=(sL [6,5,4,3,2,1,0])) (dR 6 R (vA R) (hS:=(sL [6,5,4,3,2,1,0])) (dR 7 R (vB R) (hS:=(sL [6,5,4,3,2,1,0])) (d1 9 R (aL 6 R R dN R R R R R R (lN (_::_::_::_::_::_::aJ b2 [(sc a3 b.1.Nodes a7),(sc a4 b.1.Outs a8)] 31::l) ?_)))))))
 refine aB (aG (sL [6,5,4,3,2,1,0]) (dR 10 R (vB R) (hS:=(sL [6,5,4,3,2,1,0])) (dD ?_)))
 exact cK ((),(b2,(a3,b.1.Nodes.length,a7),(a4,b.1.Outs.length,a8))) trivial (aS R) (fun w s=>(s.e 7 [6,0,1]))
 refine aY R R hX (fun b2=>(aB (aG (sL [0]) (d1 1 R (lM (RR gG A2 D2 q.Nodes::RR kT3 A3 D3 q.Outs::aJ _ _ _::l) (fun w s=>(((s.d 3 R).d 5 R).e 3 [1,0,2])) ?_)))))
 refine lC 2 qV R (Z09_ok cb) R ?_
 rintro ⟨⟨b4,co,b6⟩,⟨b5,cp,b9⟩⟩
 refine lN (ow kT65 65 (.slice b4 co b6) T.Nodes::ow kT3 3 (.slice b5 cp b9) T.Outs::_::l) ?_
 refine aM 0 aC ?_
 rintro rfl
 refine aM 1 aC ?_
 rintro rfl
 refine aB (aG (sL [2,1,0]) (d1 3 R (lM (RR gG A5 D5 m.Nodes::RR kT3 A6 D6 m.Outs::ow _ _ _ _::ow _ _ _ _::aJ _ _ _::l) (fun w s=>(((s.d 7 R).d 9 R).e 5 [1,0,2,3,4])) ?_)))
 refine lC 2 qV R (Z09_ok c8) R ?_
 rintro ⟨⟨au,bs,ay⟩,⟨av,bu,az⟩⟩
 refine lN (ow kT65 65 (.slice au bs ay) U.Nodes::ow kT3 3 (.slice av bu az) U.Outs::_::_::_::l) ?_
 refine aM 0 aC ?_
 rintro rfl
 refine aM 1 aC ?_
 rintro rfl
 refine aB (aG (sL [4,3,2,1,0]) (d1 4 R (fS (fun w s=>s.shr 2 R) (fS (fun w s=>s.shr 3 R) (fS (fun w s=>s.shr 2 R) (fS (fun w s=>s.shr 3 R) (lM (RR kT65 b4 b6 T.Nodes::RR kT3 b5 b9 T.Outs::RR kT65 au ay U.Nodes::RR kT3 av az U.Outs::RR kT3 av az U.Outs::RR kT65 au ay U.Nodes::RR kT3 b5 b9 T.Outs::RR kT65 b4 b6 T.Nodes::aJ _ _ _::l) (fun w s=>(((((s.d 3 R).d 3 R).d 3 R).d 3 R).e 9 [3,2,1,0,4,5,6,7,8])) ?_)))))))
 refine lC 4 vk R (Z0_ok bj) R ?_
 rintro ⟨⟨a3,bb,a7⟩,⟨a4,bc,a8⟩⟩
 refine lN (ow (kT65).share 65 (.slice a3 bb a7) b.1.Nodes::ow kT3 3 (.slice a4 bc a8) b.1.Outs::_::_::_::_::_::l) ?_
 refine aM 0 cV ?_
 rintro rfl
 refine aM 1 aC ?_
 rintro rfl
 refine aB (aG (sL [6,5,4,3,2,1,0]) (dR 5 R (vT R) (hS:=(sL [6,5,4,3,2,1,0])) (dR 6 R (vA R) (hS:=(sL [6,5,4,3,2,1,0])) (dR 7 R (vB R) (hS:=(sL [6,5,4,3,2,1,0])) (d1 9 R (aL 6 R R dN R R R R R R (lN (_::_::_::_::_::_::aJ b2 [(sc a3 b.1.Nodes a7),(sc a4 b.1.Outs a8)] 31::l) ?_)))))))
 refine aB (aG (sL [6,5,4,3,2,1,0]) (dR 10 R (vB R) (hS:=(sL [6,5,4,3,2,1,0])) (dD ?_)))
 exact cK ((),(b2,(a3,b.1.Nodes.length,a7),(a4,b.1.Outs.length,a8))) trivial (aS R) (fun w s=>(s.e 7 [6,0,1]))
 rintro ⟨_,⟨bg,⟨Y,dh,a0⟩,⟨Z,di,a2⟩⟩⟩ σ1 -
 refine gW 1 cV (fun (hn:dh=b.1.Nodes.length)=>?_)
 subst hn
 refine gW 2 aC (fun (hn:di=b.1.Outs.length)=>?_)
 subst hn
 refine aE (aI ?_)
 obtain ⟨I,cy,i⟩:=bd i
 refine aD (lO (vz (.agg [(sc A2 q.Nodes D2),(sc A3 q.Outs D3)].toArray) (bN 4 m' n0 R R R R)) (lM (RR gG A2 D2 q.Nodes::RR kT3 A3 D3 q.Outs::aJ bg [(sc Y b.1.Nodes a0),(sc Z b.1.Outs a2)] 31::OO (kT65).share 65 Y a0 b.1.Nodes::OO kT3 3 Z a2 b.1.Outs::l) (fun w s=>(((s.d 5 R).d 7 R).e 5 [1,0,2,3,4])) ?_))
 refine lC 2 qV R (Z09_ok cy) R ?_
 rintro ⟨⟨ak,dj,ao⟩,⟨al,dk,ap⟩⟩
 refine lN (ow kT65 65 (.slice ak dj ao) I.Nodes::ow kT3 3 (.slice al dk ap) I.Outs::_::_::_::l) ?_
 refine aM 0 aC ?_
 rintro rfl
 refine aM 1 aC ?_
 rintro rfl
 refine aY R R hX (fun cs=>(aL 0 R R dN R R R R R R (lN (aJ cs [(sc ak I.Nodes ao),(sc al I.Outs ap)] 31::_::_::_::_::_::l) ?_)))
 refine aB (aE (aI ?_))
 obtain ⟨J,cz,i⟩:=bd i
 refine aD (lO (vz (.agg [(sc A5 m.Nodes D5),(sc A6 m.Outs D6)].toArray) (bN 6 m' n0 R R R R)) (lM (RR gG A5 D5 m.Nodes::RR kT3 A6 D6 m.Outs::aJ _ _ _::ow _ _ _ _::ow _ _ _ _::aJ _ _ _::ow _ _ _ _::ow _ _ _ _::l) (fun w s=>(((s.d 10 R).d 12 R).f 8 [1,1,0,1,2,6])) ?_))
 refine lC 2 qV R (Z09_ok cz) R ?_
 rintro ⟨⟨am,dl,aq⟩,⟨an,dm,ar⟩⟩
 refine lN (ow kT65 65 (.slice am dl aq) J.Nodes::ow kT3 3 (.slice an dm ar) J.Outs::_::_::_::_::_::_::l) ?_
 refine aM 0 aC ?_
 rintro rfl
 refine aM 1 aC ?_
 rintro rfl
 refine aY R R hX (fun ct=>(aL 0 R R dN R R R R R R (lN (aJ ct [(sc am J.Nodes aq),(sc an J.Outs ar)] 31::_::_::_::_::_::_::_::_::l) ?_)))
 refine aB (aE (aI ?_))
 obtain ⟨g,d0,i⟩:=bd i
 refine aD (lO (vz (.agg [(sc ak I.Nodes ao),(sc al I.Outs ap)].toArray) (bN 3 fB dN R R R R)) (lO (vz (.agg [(sc am J.Nodes aq),(sc an J.Outs ar)].toArray) (bN 0 fB dN R R R R)) (lM (ow _ _ _ _::ow _ _ _ _::ow _ _ _ _::ow _ _ _ _::gl 0 mG::aJ _ _ _::aJ _ _ _::aJ _ _ _::ow _ _ _ _::ow _ _ _ _::l) (fun w s=>((s.dg 15 R).e 10 [5,6,2,3,0,1,4,7,8,9])) ?_)))
 refine lC 5 tu R (FnOk.lends (A':=[OO kT65 65 ak ao I.Nodes,OO kT3 3 al ap I.Outs,OO kT65 65 am aq J.Nodes,OO kT3 3 an ar J.Outs]) (A:=[RR kT65 ak ao I.Nodes,RR kT3 al ap I.Outs,RR kT65 am aq J.Nodes,RR kT3 an ar J.Outs]) (B:=[gl 0 mG]) (Z8_ok d0) ⟨aQ,aQ,aQ,aQ,trivial⟩ (fun _=>⟨(bH t8),(bH iP),trivial⟩)) R ?_
 rintro ⟨⟨D,dn,F⟩,⟨E,dq,G⟩⟩
 refine lN (_::_::_::_::ow kT65 65 (.slice D dn F) g.1.Nodes::ow kT3 3 (.slice E dq G) g.1.Outs::_::_::_::_::_::l) ?_
 refine aM 4 aC ?_
 rintro rfl
 refine aM 5 aC ?_
 rintro rfl
 refine lO (vT R) (lO (vA R) (lB R (aY R R hX (fun ba=>(aL 0 R R dN R R R R R R (lN (aJ ba [(sc D g.1.Nodes F),(sc E g.1.Outs G)] 31::_::_::_::_::_::_::_::_::_::_::_::l) ?_))))))
 refine lB R (aB (aE (aI (aI ?_))))
 obtain ⟨dd,d2,i⟩:=bd i
 refine cQ [(2,(pt b7 0)),(3,(pt b8 0)),(6,(pt bg 0)),(7,(.bool b.2)),(8,(pt cs 0)),(9,(pt ct 0)),(10,(pt ba 0)),(11,(.bool g.2)),(53,(.bool ((!dd)||(!(g.2==b.2)))))] (aJ bg [(sc Y b.1.Nodes a0),(sc Z b.1.Outs a2)] 31::OO (kT65).share 65 Y a0 b.1.Nodes::OO kT3 3 Z a2 b.1.Outs::aJ cs [(sc ak I.Nodes ao),(sc al I.Outs ap)] 31::OO kT65 65 ak ao I.Nodes::OO kT3 3 al ap I.Outs::aJ ct [(sc am J.Nodes aq),(sc an J.Outs ar)] 31::OO kT65 65 am aq J.Nodes::OO kT3 3 an ar J.Outs::aJ ba [(sc D g.1.Nodes F),(sc E g.1.Outs G)] 31::OO kT65 65 D F g.1.Nodes::OO kT3 3 E G g.1.Outs::l) ?_ ?_
 refine aD (lO (vz (.agg [(sc D g.1.Nodes F),(sc E g.1.Outs G)].toArray) (bN 0 fB dN R R R R)) (lO (vz (.agg [(sc Y b.1.Nodes a0),(sc Z b.1.Outs a2)].toArray) (bN 9 fB dN R R R R)) (lM (ow _ _ _ _::ow _ _ _ _::ow _ _ _ _::ow _ _ _ _::aJ _ _ _::ow _ _ _ _::ow _ _ _ _::ow _ _ _ _::ow _ _ _ _::aJ _ _ _::aJ _ _ _::aJ _ _ _::l) (fun w s=>(s.f 12 [5,2,10,2,0,5,7,3])) ?_)))
 refine lC 4 tw R (FnOk.lends (A':=[OO kT65 65 D F g.1.Nodes,OO kT3 3 E G g.1.Outs,OO (kT65).share 65 Y a0 b.1.Nodes,OO kT3 3 Z a2 b.1.Outs]) (A:=[RR kT65 D F g.1.Nodes,RR kT3 E G g.1.Outs,RR kT65 Y a0 b.1.Nodes,RR kT3 Z a2 b.1.Outs]) (B:=[]) (Z1i_ok d2) ⟨aQ,aQ,kt,aQ,trivial⟩ (fun _=>trivial)) R ?_
 rintro _
 refine lO (mf R) (lB R ?_)
 rcases bo (!dd) with ab | ab
 refine lf (dK ab) (lf (dK ab) (lf (dK ab) (lO (fE (!(g.2==b.2)) R ab) (aB ?_))))
 exact qJ (fun w s=>(s.e 12 [11,2,3,10,5,6,9,7,8,4,0,1]))
 refine lW (cG ab) (vB R) (lW (cG ab) (vB R) (lW (cG ab) (sH C6 R R) (lO (fZ R ab R) (aB ?_))))
 exact qJ (fun w s=>(s.e 12 [11,2,3,10,5,6,9,7,8,4,0,1]))
 rintro σ1
 refine aE ?_
 rcases bY i with ⟨c1,i⟩|⟨c1,i⟩
 refine bM R c1 (aI (aD (lB R (aB (aE (bO (bP ?_)))))))
 obtain rfl:=so i
 exact qF () (fun w s=>(s.e 19 []))
 refine aX R c1 (bS (aE (aI (aI ?_))))
 obtain ⟨bl,d3,i⟩:=bd i
 obtain ⟨dz,d4,i⟩:=bd i
 refine dE 5 [] bQ (fun ht hn=>(dR 0 R (vz (.agg [(sc ak I.Nodes ao),(sc al I.Outs ap)].toArray) (bN 3 fB dN R R R R)) (dR 1 R (vz (.agg [(sc A2 q.Nodes D2),(sc A3 q.Outs D3)].toArray) (bN 13 m' n0 R R R R)) (d1 2 R (lM (RR gG A2 D2 q.Nodes::RR kT3 A3 D3 q.Outs::aJ _ _ _::ow _ _ _ _::ow _ _ _ _::aJ _ _ _::ow _ _ _ _::ow _ _ _ _::aJ _ _ _::ow _ _ _ _::ow _ _ _ _::aJ _ _ _::ow _ _ _ _::ow _ _ _ _::l) (fun w s=>(((s.d 14 R).d 16 R).f 14 [1,1,0,1,2,12])) ?_)))))
 refine lC 2 qV R (Z09_ok d3) R ?_
 rintro ⟨⟨cf,dr,cj⟩,⟨cg,ds,ck⟩⟩
 refine lN (ow kT65 65 (.slice cf dr cj) bl.Nodes::ow kT3 3 (.slice cg ds ck) bl.Outs::_::_::_::_::_::_::_::_::_::_::_::_::l) ?_
 refine aM 0 aC ?_
 rintro rfl
 refine aM 1 aC ?_
 rintro rfl
 refine aB (aG (sL [1,0]) (d1 3 R (lM (ow _ _ _ _::ow _ _ _ _::ow _ _ _ _::ow _ _ _ _::aJ _ _ _::ow _ _ _ _::ow _ _ _ _::aJ _ _ _::aJ _ _ _::ow _ _ _ _::ow _ _ _ _::aJ _ _ _::ow _ _ _ _::ow _ _ _ _::l) (fun w s=>(s.f 14 [6,2,0,6,8,6])) ?_)))
 refine lC 4 tw R (FnOk.lends (A':=[OO kT65 65 ak ao I.Nodes,OO kT3 3 al ap I.Outs,OO kT65 65 cf cj bl.Nodes,OO kT3 3 cg ck bl.Outs]) (A:=[RR kT65 ak ao I.Nodes,RR kT3 al ap I.Outs,RR kT65 cf cj bl.Nodes,RR kT3 cg ck bl.Outs]) (B:=[]) (Z1i_ok d4) ⟨aQ,aQ,aQ,aQ,trivial⟩ (fun _=>trivial)) R ?_
 rintro _
 refine aB (aG (fun w s=>(s.f 14 [4,4,0,2,8,6])) (dR 4 R (mf R) (hS:=(fun w s=>(s.f 14 [4,4,0,2,8,6]))) (dD (aE ?_))))
 rcases bY i with ⟨c2,i⟩|⟨c2,i⟩
 refine bM R c2 (aI (aD (lB R (aB (aE (bO (bP ?_)))))))
 obtain rfl:=so i
 exact qF () (fun w s=>(s.e 21 []))
 refine aX R c2 (bS (aE (aI (aI ?_))))
 obtain ⟨bm,d5,i⟩:=bd i
 obtain ⟨e0,d6,i⟩:=bd i
 refine dE 5 [] bQ (fun ht hn=>(dR 0 R (vz (.agg [(sc am J.Nodes aq),(sc an J.Outs ar)].toArray) (bN 8 fB dN R R R R)) (dR 1 R (vz (.agg [(sc A5 m.Nodes D5),(sc A6 m.Outs D6)].toArray) (bN 14 m' n0 R R R R)) (d1 2 R (lM (RR gG A5 D5 m.Nodes::RR kT3 A6 D6 m.Outs::ow _ _ _ _::ow _ _ _ _::ow _ _ _ _::ow _ _ _ _::aJ _ _ _::ow _ _ _ _::ow _ _ _ _::aJ _ _ _::aJ _ _ _::ow _ _ _ _::ow _ _ _ _::aJ _ _ _::ow _ _ _ _::ow _ _ _ _::l) (fun w s=>(((s.d 18 R).d 20 R).f 16 [1,1,0,1,2,14])) ?_)))))
 refine lC 2 qV R (Z09_ok d5) R ?_
 rintro ⟨⟨ch,dt,cm⟩,⟨ci,du,cn⟩⟩
 refine lN (ow kT65 65 (.slice ch dt cm) bm.Nodes::ow kT3 3 (.slice ci du cn) bm.Outs::_::_::_::_::_::_::_::_::_::_::_::_::_::_::l) ?_
 refine aM 0 aC ?_
 rintro rfl
 refine aM 1 aC ?_
 rintro rfl
 refine aB (aG (sL [1,0]) (d1 3 R (lM (ow _ _ _ _::ow _ _ _ _::ow _ _ _ _::ow _ _ _ _::ow _ _ _ _::ow _ _ _ _::ow _ _ _ _::ow _ _ _ _::aJ _ _ _::ow _ _ _ _::ow _ _ _ _::aJ _ _ _::aJ _ _ _::aJ _ _ _::ow _ _ _ _::ow _ _ _ _::l) (fun w s=>(s.f 16 [11,2,0,11,13,3])) ?_)))
 refine lC 4 tw R (FnOk.lends (A':=[OO kT65 65 am aq J.Nodes,OO kT3 3 an ar J.Outs,OO kT65 65 ch cm bm.Nodes,OO kT3 3 ci cn bm.Outs]) (A:=[RR kT65 am aq J.Nodes,RR kT3 an ar J.Outs,RR kT65 ch cm bm.Nodes,RR kT3 ci cn bm.Outs]) (B:=[]) (Z1i_ok d6) ⟨aQ,aQ,aQ,aQ,trivial⟩ (fun _=>trivial)) R ?_
 rintro _
 refine aB (aG (fun w s=>(s.f 16 [4,9,0,2,13,3])) (dR 4 R (mf R) (hS:=(fun w s=>(s.f 16 [4,9,0,2,13,3]))) (dD (aE ?_))))
 rcases bY i with ⟨c3,i⟩|⟨c3,i⟩
 refine bM R c3 (aI (aD (lB R (aB (aE (bO (bP ?_)))))))
 obtain rfl:=so i
 exact qF () (fun w s=>(s.e 23 []))
 refine aX R c3 (bS (aE (aI (aD (lI R (aB (aE (aI ?_))))))))
 obtain ⟨de,d7,i⟩:=bd i
 refine aD (lO (vz (.agg [(sc ak I.Nodes ao),(sc al I.Outs ap)].toArray) (bN 11 fB dN R R R R)) (lI R (lM (ow _ _ _ _::ow _ _ _ _::ow _ _ _ _::ow _ _ _ _::ow _ _ _ _::ow _ _ _ _::ow _ _ _ _::ow _ _ _ _::aJ _ _ _::ow _ _ _ _::ow _ _ _ _::aJ _ _ _::aJ _ _ _::aJ _ _ _::ow _ _ _ _::ow _ _ _ _::l) (fun w s=>(s.f 16 [4,2,0,4,6,10])) ?_)))
 refine lC 2 xH R (Z20_ok d7) R ?_
 rintro _
 refine lN (ow kT65 65 (.slice ak I.Nodes.length ao) de.2.1::ow kT3 3 (.slice al I.Outs.length ap) de.2.2::_::_::_::_::_::_::_::_::_::_::_::_::_::_::l) ?_
 refine lI R (aB (aE (aI ?_)))
 obtain ⟨ca,d8,i⟩:=bd i
 refine aD (lO (vz (.agg [(sc am J.Nodes aq),(sc an J.Outs ar)].toArray) (bN 12 fB dN R R R R)) (lI R (lM (ow _ _ _ _::ow _ _ _ _::ow _ _ _ _::ow _ _ _ _::ow _ _ _ _::ow _ _ _ _::ow _ _ _ _::ow _ _ _ _::aJ _ _ _::ow _ _ _ _::ow _ _ _ _::aJ _ _ _::aJ _ _ _::aJ _ _ _::ow _ _ _ _::ow _ _ _ _::l) (fun w s=>(s.f 16 [2,2,0,2,4,12])) ?_)))
 refine lC 2 xH R (Z20_ok d8) R ?_
 rintro _
 refine lN (ow kT65 65 (.slice am J.Nodes.length aq) ca.2.1::ow kT3 3 (.slice an J.Outs.length ar) ca.2.2::_::_::_::_::_::_::_::_::_::_::_::_::_::_::l) ?_
 refine lI R (aB (aE (aI (aI ?_))))
 obtain ⟨cv,d9,i⟩:=bd i
 refine cQ [(2,(pt b7 0)),(3,(pt b8 0)),(6,(pt bg 0)),(7,(.bool b.2)),(10,(pt ba 0)),(82,(.bool (((decide (ca.1<(0:Int)))||(!cv))||(!(g.2==b.2)))))] (aJ bg [(sc Y b.1.Nodes a0),(sc Z b.1.Outs a2)] 31::OO (kT65).share 65 Y a0 b.1.Nodes::OO kT3 3 Z a2 b.1.Outs::aJ ba [(sc D g.1.Nodes F),(sc E g.1.Outs G)] 31::OO kT65 65 D F g.1.Nodes::OO kT3 3 E G g.1.Outs::l) ?_ ?_
 refine aD (lI R (lO (jz R R) (lB R ?_)))
 rcases bo (decide (ca.1<(0:Int))) with u | u
 refine lf (dK u) (lf (dK u) (lf (dK u) (lf (dK u) (lO (fE (!cv) R u) (lB R (lf (dK (oT u)) (lf (dK (oT u)) (lf (dK (oT u)) (lO (fE (!(g.2==b.2)) R (oT u)) (aB ?_))))))))))
 exact qJ (fun w s=>(s.f 16 [8,3,13,3]))
 refine lW (cG u) (vz (.agg [(sc D g.1.Nodes F),(sc E g.1.Outs G)].toArray) (bN 13 fB dN R R R R)) (lW (cG u) (vz (.agg [(sc Y b.1.Nodes a0),(sc Z b.1.Outs a2)].toArray) (bN 8 fB dN R R R R)) (lM (ow _ _ _ _::ow _ _ _ _::ow _ _ _ _::ow _ _ _ _::ow _ _ _ _::ow _ _ _ _::ow _ _ _ _::ow _ _ _ _::ow _ _ _ _::ow _ _ _ _::ow _ _ _ _::ow _ _ _ _::aJ _ _ _::aJ _ _ _::aJ _ _ _::aJ _ _ _::l) (fun w s=>(s.f 16 [14,2,9,2,0,9,11,3])) ?_))
 refine cD 4 R (cG u) tw R (FnOk.lends (A':=[OO kT65 65 D F g.1.Nodes,OO kT3 3 E G g.1.Outs,OO (kT65).share 65 Y a0 b.1.Nodes,OO kT3 3 Z a2 b.1.Outs]) (A:=[RR kT65 D F g.1.Nodes,RR kT3 E G g.1.Outs,RR kT65 Y a0 b.1.Nodes,RR kT3 Z a2 b.1.Outs]) (B:=[]) (Z1i_ok (bR d9 (cY u))) ⟨aQ,aQ,kt,aQ,trivial⟩ (fun _=>trivial)) R ?_
 rintro _
 refine lW (cG u) (mf R) (lO (fZ R u R) (lB R ?_))
 rcases bo ((decide (ca.1<(0:Int)))||(!cv)) with ac | ac
 refine lf (dK ac) (lf (dK ac) (lf (dK ac) (lO (fE (!(g.2==b.2)) R ac) (aB ?_))))
 exact qJ (fun w s=>(s.e 16 [12,2,3,15,0,1]))
 refine lW (cG ac) (vB R) (lW (cG ac) (vB R) (lW (cG ac) (sH C6 R R) (lO (fZ R ac R) (aB ?_))))
 exact qJ (fun w s=>(s.e 16 [12,2,3,15,0,1]))
 rintro σ1
 refine aE ?_
 rcases bY i with ⟨c4,i⟩|⟨c4,i⟩
 refine bM R c4 (aI (aD (lB R (aB (aE (bO (bP ?_)))))))
 obtain rfl:=so i
 exact qF () (fun w s=>(s.e 13 []))
 refine aX R c4 (bS (aE (aI (aD (lI R (aB (aE (aI ?_))))))))
 obtain ⟨M,da,i⟩:=bd i
 refine aD (lO (vz (.agg [(sc D g.1.Nodes F),(sc E g.1.Outs G)].toArray) (bN 3 fB dN R R R R)) (lI R (lM (ow _ _ _ _::ow _ _ _ _::aJ _ _ _::ow _ _ _ _::ow _ _ _ _::aJ _ _ _::l) (fun w s=>(s.f 6 [4,2,0,4])) ?_)))
 refine lC 2 xH R (Z20_ok da) R ?_
 rintro _
 refine lN (ow kT65 65 (.slice D g.1.Nodes.length F) M.2.1::ow kT3 3 (.slice E g.1.Outs.length G) M.2.2::_::_::_::_::l) ?_
 refine lI R (aB (aE (aI (aD (lI R (aB (aE (aI ?_))))))))
 obtain ⟨e1,db,i⟩:=bd i
 refine aD (lO (vz (.agg [(sc D g.1.Nodes F),(sc E g.1.Outs G)].toArray) (bN 5 fB dN R R R R)) (lI R (lC 2 AH R (FnOk.lends (A':=[ow kT65 65 (.slice D g.1.Nodes.length F) M.2.1,ow kT3 3 (.slice E g.1.Outs.length G) M.2.2]) (A:=[aO kT65 (.slice D g.1.Nodes.length F) M.2.1,aO kT3 (.slice E g.1.Outs.length G) M.2.2]) (B:=[]) (Z2c_ok (a1:=(⟨M.2.1,M.2.2⟩:Graph)) db) ⟨aQ,aQ,trivial⟩ (fun _=>trivial)) R ?_)))
 rintro _
 refine lI R (aB (aE (aI (aI (aD (lI R (lO (jz R R) (aB (aE ?_)))))))))
 rcases bY i with ⟨c5,i⟩|⟨c5,i⟩
 refine bM R c5 (aI (aD (lB R (aB (aE (bO (bP ?_)))))))
 obtain rfl:=so i
 exact qF () (fun w s=>(s.e 13 []))
 refine aX R c5 (bS (aE (aI (aI (aD (lI R (lI R (lO (xm R R) (aB (aE ?_))))))))))
 rcases bY i with ⟨c6,i⟩|⟨c6,i⟩
 refine bM R c6 (aI (aD (lB R (aB (aE (bO (bP ?_)))))))
 obtain rfl:=so i
 exact qF () (fun w s=>(s.e 13 []))
 refine aX R c6 (bS (aE (aI ?_)))
 obtain ⟨O,cc,i⟩:=bd i
 obtain ⟨L,c9,i⟩:=bd i
 obtain ⟨j,bk,i⟩:=bd i
 refine hU (A:=(Unit)×(Nat×HH×HH)) (fun _=>True) (fun a=>[(6,(pt bg 0)),(7,(.bool b.2)),(10,(pt ba 0)),(13,(iv M.1)),(15,(pt a.2.1 0)),(16,(.bool j.2))]) (fun a=>aJ bg [(sc Y b.1.Nodes a0),(sc Z b.1.Outs a2)] 31::OO (kT65).share 65 Y a0 b.1.Nodes::OO kT3 3 Z a2 b.1.Outs::aJ ba [(sc D g.1.Nodes F),(sc E g.1.Outs G)] 31::ow kT65 65 (.slice D g.1.Nodes.length F) M.2.1::ow kT3 3 (.slice E g.1.Outs.length G) M.2.2::aJ a.2.1 [(.slice a.2.2.1.1 a.2.2.1.2.1 a.2.2.1.2.2),(.slice a.2.2.2.1 a.2.2.2.2.1 a.2.2.2.2.2)] 31::ow kT65 65 (.slice a.2.2.1.1 a.2.2.1.2.1 a.2.2.1.2.2) j.1.Nodes::ow kT3 3 (.slice a.2.2.2.1 a.2.2.2.2.1 a.2.2.2.2.2) j.1.Outs::l) ?_ ?_
 refine dE 11 [] bQ (fun ht hn=>(dR 0 R (vz (.agg [(sc A2 q.Nodes D2),(sc A3 q.Outs D3)].toArray) (bN 7 m' n0 R R R R)) (dR 2 R (vz (.agg [(sc A5 m.Nodes D5),(sc A6 m.Outs D6)].toArray) (bN 6 m' n0 R R R R)) (fW [1,8] (by kernel_rfl) R ⟨?_,?_,trivial⟩))))
 refine lM (RR gG A2 D2 q.Nodes::RR kT3 A3 D3 q.Outs::ow _ _ _ _::ow _ _ _ _::aJ _ _ _::ow _ _ _ _::ow _ _ _ _::aJ _ _ _::l) (fun w s=>(((s.d 8 R).d 10 R).f 8 [1,1,0,1,2,6])) ?_
 refine lC 2 qV R (Z09_ok cc) R ?_
 rintro ⟨⟨aw,cq,b0⟩,⟨ax,cr,b1⟩⟩
 refine lN (ow kT65 65 (.slice aw cq b0) O.Nodes::ow kT3 3 (.slice ax cr b1) O.Outs::_::_::_::_::_::_::l) ?_
 refine aM 0 aC ?_
 rintro rfl
 refine aM 1 aC ?_
 rintro rfl
 refine aB (aG (sL [1,0]) (fW [3,8] (by kernel_rfl) R ⟨?_,?_,trivial⟩))
 refine lM (RR gG A5 D5 m.Nodes::RR kT3 A6 D6 m.Outs::ow _ _ _ _::ow _ _ _ _::ow _ _ _ _::ow _ _ _ _::aJ _ _ _::ow _ _ _ _::ow _ _ _ _::aJ _ _ _::l) (fun w s=>(((s.d 12 R).d 14 R).f 10 [1,1,0,1,2,8])) ?_
 refine lC 2 qV R (Z09_ok c9) R ?_
 rintro ⟨⟨ag,bv,ai⟩,⟨ah,bw,aj⟩⟩
 refine lN (ow kT65 65 (.slice ag bv ai) L.Nodes::ow kT3 3 (.slice ah bw aj) L.Outs::_::_::_::_::_::_::_::_::l) ?_
 refine aM 0 aC ?_
 rintro rfl
 refine aM 1 aC ?_
 rintro rfl
 refine aB (aG (sL [3,2,1,0]) (fW [4,8] (by kernel_rfl) R ⟨?_,?_,trivial⟩))
 refine lM (ow _ _ _ _::ow _ _ _ _::ow _ _ _ _::ow _ _ _ _::gl 0 mG::ow _ _ _ _::ow _ _ _ _::aJ _ _ _::ow _ _ _ _::ow _ _ _ _::aJ _ _ _::l) (fun w s=>((s.dg 16 R).f 11 [3,2,1,2,0,1,5,6])) ?_
 refine lC 5 tu R (FnOk.lends (A':=[OO kT65 65 aw b0 O.Nodes,OO kT3 3 ax b1 O.Outs,OO kT65 65 ag ai L.Nodes,OO kT3 3 ah aj L.Outs]) (A:=[RR kT65 aw b0 O.Nodes,RR kT3 ax b1 O.Outs,RR kT65 ag ai L.Nodes,RR kT3 ah aj L.Outs]) (B:=[gl 0 mG]) (Z8_ok bk) ⟨aQ,aQ,aQ,aQ,trivial⟩ (fun _=>⟨(bH t8),(bH iP),trivial⟩)) R ?_
 rintro ⟨⟨a5,be,a9⟩,⟨a6,bf,aa⟩⟩
 refine lN (_::_::_::_::ow kT65 65 (.slice a5 be a9) j.1.Nodes::ow kT3 3 (.slice a6 bf aa) j.1.Outs::_::_::_::_::_::_::l) ?_
 refine aM 4 aC ?_
 rintro rfl
 refine aM 5 aC ?_
 rintro rfl
 refine aB (aG (sL [5,4,3,2,1,0]) (dR 5 R (vT R) (hS:=(sL [5,4,3,2,1,0])) (dR 6 R (vA R) (hS:=(sL [5,4,3,2,1,0])) (dR 7 R (vB R) (hS:=(sL [5,4,3,2,1,0])) (d1 8 R (aY R R hX (fun b3=>(aB (aG (sL [6,5,4,3,2,1,0]) (d1 9 R (aL 0 R R dN R R R R R R (lN (aJ b3 [(sc a5 j.1.Nodes a9),(sc a6 j.1.Outs aa)] 31::_::_::_::_::_::_::_::_::_::_::_::_::l) ?_))))))))))))
 refine aB (aG (sL [6,5,4,3,2,1,0]) (dR 10 R (vB R) (hS:=(sL [6,5,4,3,2,1,0])) (dD ?_)))
 exact cK ((),(b3,(a5,j.1.Nodes.length,a9),(a6,j.1.Outs.length,aa))) trivial (aS R) (fun w s=>(s.f 13 [9,4,7,2,0,1,5,2]))
 refine aY R R hX (fun b3=>(aB (aG (sL [4,3,2,1,0]) (d1 4 R (lM (ow _ _ _ _::ow _ _ _ _::ow _ _ _ _::ow _ _ _ _::gl 0 mG::aJ _ _ _::ow _ _ _ _::ow _ _ _ _::aJ _ _ _::ow _ _ _ _::ow _ _ _ _::aJ _ _ _::l) (fun w s=>((s.dg 17 R).f 12 [4,2,2,2,0,2,6,6])) ?_)))))
 refine lC 5 tu R (FnOk.lends (A':=[OO kT65 65 aw b0 O.Nodes,OO kT3 3 ax b1 O.Outs,OO kT65 65 ag ai L.Nodes,OO kT3 3 ah aj L.Outs]) (A:=[RR kT65 aw b0 O.Nodes,RR kT3 ax b1 O.Outs,RR kT65 ag ai L.Nodes,RR kT3 ah aj L.Outs]) (B:=[gl 0 mG]) (Z8_ok bk) ⟨aQ,aQ,aQ,aQ,trivial⟩ (fun _=>⟨(bH t8),(bH iP),trivial⟩)) R ?_
 rintro ⟨⟨a5,be,a9⟩,⟨a6,bf,aa⟩⟩
 refine lN (_::_::_::_::ow kT65 65 (.slice a5 be a9) j.1.Nodes::ow kT3 3 (.slice a6 bf aa) j.1.Outs::_::_::_::_::_::_::_::l) ?_
 refine aM 4 aC ?_
 rintro rfl
 refine aM 5 aC ?_
 rintro rfl
 refine aB (aG (sL [6,5,4,3,2,1,0]) (dR 5 R (vT R) (hS:=(sL [6,5,4,3,2,1,0])) (dR 6 R (vA R) (hS:=(sL [6,5,4,3,2,1,0])) (dR 7 R (vB R) (hS:=(sL [6,5,4,3,2,1,0])) (d1 9 R (aL 6 R R dN R R R R R R (lN (_::_::_::_::_::_::aJ b3 [(sc a5 j.1.Nodes a9),(sc a6 j.1.Outs aa)] 31::_::_::_::_::_::_::l) ?_)))))))
 refine aB (aG (sL [6,5,4,3,2,1,0]) (dR 10 R (vB R) (hS:=(sL [6,5,4,3,2,1,0])) (dD ?_)))
 exact cK ((),(b3,(a5,j.1.Nodes.length,a9),(a6,j.1.Outs.length,aa))) trivial (aS R) (fun w s=>(s.f 13 [9,4,7,2,6,1,4,2]))
 refine aY R R hX (fun b3=>(aB (aG (sL [2,1,0]) (d1 3 R (lM (RR gG A5 D5 m.Nodes::RR kT3 A6 D6 m.Outs::aJ _ _ _::ow _ _ _ _::ow _ _ _ _::ow _ _ _ _::ow _ _ _ _::aJ _ _ _::ow _ _ _ _::ow _ _ _ _::aJ _ _ _::l) (fun w s=>(((s.d 13 R).d 15 R).f 11 [1,1,0,1,2,9])) ?_)))))
 refine lC 2 qV R (Z09_ok c9) R ?_
 rintro ⟨⟨ag,bv,ai⟩,⟨ah,bw,aj⟩⟩
 refine lN (ow kT65 65 (.slice ag bv ai) L.Nodes::ow kT3 3 (.slice ah bw aj) L.Outs::_::_::_::_::_::_::_::_::_::l) ?_
 refine aM 0 aC ?_
 rintro rfl
 refine aM 1 aC ?_
 rintro rfl
 refine aB (aG (sL [4,3,2,1,0]) (d1 4 R (lM (ow _ _ _ _::ow _ _ _ _::ow _ _ _ _::ow _ _ _ _::gl 0 mG::aJ _ _ _::ow _ _ _ _::ow _ _ _ _::aJ _ _ _::ow _ _ _ _::ow _ _ _ _::aJ _ _ _::l) (fun w s=>((s.dg 17 R).f 12 [4,2,1,2,0,1,3,1,6,6])) ?_)))
 refine lC 5 tu R (FnOk.lends (A':=[OO kT65 65 aw b0 O.Nodes,OO kT3 3 ax b1 O.Outs,OO kT65 65 ag ai L.Nodes,OO kT3 3 ah aj L.Outs]) (A:=[RR kT65 aw b0 O.Nodes,RR kT3 ax b1 O.Outs,RR kT65 ag ai L.Nodes,RR kT3 ah aj L.Outs]) (B:=[gl 0 mG]) (Z8_ok bk) ⟨aQ,aQ,aQ,aQ,trivial⟩ (fun _=>⟨(bH t8),(bH iP),trivial⟩)) R ?_
 rintro ⟨⟨a5,be,a9⟩,⟨a6,bf,aa⟩⟩
 refine lN (_::_::_::_::ow kT65 65 (.slice a5 be a9) j.1.Nodes::ow kT3 3 (.slice a6 bf aa) j.1.Outs::_::_::_::_::_::_::_::l) ?_
 refine aM 4 aC ?_
 rintro rfl
 refine aM 5 aC ?_
 rintro rfl
 refine aB (aG (sL [6,5,4,3,2,1,0]) (dR 5 R (vT R) (hS:=(sL [6,5,4,3,2,1,0])) (dR 6 R (vA R) (hS:=(sL [6,5,4,3,2,1,0])) (dR 7 R (vB R) (hS:=(sL [6,5,4,3,2,1,0])) (d1 9 R (aL 6 R R dN R R R R R R (lN (_::_::_::_::_::_::aJ b3 [(sc a5 j.1.Nodes a9),(sc a6 j.1.Outs aa)] 31::_::_::_::_::_::_::l) ?_)))))))
 refine aB (aG (sL [6,5,4,3,2,1,0]) (dR 10 R (vB R) (hS:=(sL [6,5,4,3,2,1,0])) (dD ?_)))
 exact cK ((),(b3,(a5,j.1.Nodes.length,a9),(a6,j.1.Outs.length,aa))) trivial (aS R) (fun w s=>(s.f 13 [9,4,7,2,6,1,4,2]))
 refine aY R R hX (fun b3=>(aB (aG (sL [0]) (d1 1 R (lM (RR gG A2 D2 q.Nodes::RR kT3 A3 D3 q.Outs::aJ _ _ _::ow _ _ _ _::ow _ _ _ _::aJ _ _ _::ow _ _ _ _::ow _ _ _ _::aJ _ _ _::l) (fun w s=>(((s.d 9 R).d 11 R).f 9 [1,1,0,1,2,7])) ?_)))))
 refine lC 2 qV R (Z09_ok cc) R ?_
 rintro ⟨⟨aw,cq,b0⟩,⟨ax,cr,b1⟩⟩
 refine lN (ow kT65 65 (.slice aw cq b0) O.Nodes::ow kT3 3 (.slice ax cr b1) O.Outs::_::_::_::_::_::_::_::l) ?_
 refine aM 0 aC ?_
 rintro rfl
 refine aM 1 aC ?_
 rintro rfl
 refine aB (aG (sL [2,1,0]) (d1 3 R (lM (RR gG A5 D5 m.Nodes::RR kT3 A6 D6 m.Outs::ow _ _ _ _::ow _ _ _ _::aJ _ _ _::ow _ _ _ _::ow _ _ _ _::aJ _ _ _::ow _ _ _ _::ow _ _ _ _::aJ _ _ _::l) (fun w s=>(((s.d 13 R).d 15 R).f 11 [1,1,0,1,2,9])) ?_)))
 refine lC 2 qV R (Z09_ok c9) R ?_
 rintro ⟨⟨ag,bv,ai⟩,⟨ah,bw,aj⟩⟩
 refine lN (ow kT65 65 (.slice ag bv ai) L.Nodes::ow kT3 3 (.slice ah bw aj) L.Outs::_::_::_::_::_::_::_::_::_::l) ?_
 refine aM 0 aC ?_
 rintro rfl
 refine aM 1 aC ?_
 rintro rfl
 refine aB (aG (sL [4,3,2,1,0]) (d1 4 R (lM (ow _ _ _ _::ow _ _ _ _::ow _ _ _ _::ow _ _ _ _::gl 0 mG::aJ _ _ _::ow _ _ _ _::ow _ _ _ _::aJ _ _ _::ow _ _ _ _::ow _ _ _ _::aJ _ _ _::l) (fun w s=>((s.dg 17 R).f 12 [3,2,1,2,0,1,5,7])) ?_)))
 refine lC 5 tu R (FnOk.lends (A':=[OO kT65 65 aw b0 O.Nodes,OO kT3 3 ax b1 O.Outs,OO kT65 65 ag ai L.Nodes,OO kT3 3 ah aj L.Outs]) (A:=[RR kT65 aw b0 O.Nodes,RR kT3 ax b1 O.Outs,RR kT65 ag ai L.Nodes,RR kT3 ah aj L.Outs]) (B:=[gl 0 mG]) (Z8_ok bk) ⟨aQ,aQ,aQ,aQ,trivial⟩ (fun _=>⟨(bH t8),(bH iP),trivial⟩)) R ?_
 rintro ⟨⟨a5,be,a9⟩,⟨a6,bf,aa⟩⟩
 refine lN (_::_::_::_::ow kT65 65 (.slice a5 be a9) j.1.Nodes::ow kT3 3 (.slice a6 bf aa) j.1.Outs::_::_::_::_::_::_::_::l) ?_
 refine aM 4 aC ?_
 rintro rfl
 refine aM 5 aC ?_
 rintro rfl
 refine aB (aG (sL [6,5,4,3,2,1,0]) (dR 5 R (vT R) (hS:=(sL [6,5,4,3,2,1,0])) (dR 6 R (vA R) (hS:=(sL [6,5,4,3,2,1,0])) (dR 7 R (vB R) (hS:=(sL [6,5,4,3,2,1,0])) (d1 9 R (aL 6 R R dN R R R R R R (lN (_::_::_::_::_::_::aJ b3 [(sc a5 j.1.Nodes a9),(sc a6 j.1.Outs aa)] 31::_::_::_::_::_::_::l) ?_)))))))
 refine aB (aG (sL [6,5,4,3,2,1,0]) (dR 10 R (vB R) (hS:=(sL [6,5,4,3,2,1,0])) (dD ?_)))
 exact cK ((),(b3,(a5,j.1.Nodes.length,a9),(a6,j.1.Outs.length,aa))) trivial (aS R) (fun w s=>(s.f 13 [9,4,7,2,6,1,4,2]))
 rintro ⟨_,⟨dx,⟨bn,dv,bq⟩,⟨bp,dw,br⟩⟩⟩ σ1 -
 refine gW 7 aC (fun (hn:dv=j.1.Nodes.length)=>?_)
 subst hn
 refine gW 8 aC (fun (hn:dw=j.1.Outs.length)=>?_)
 subst hn
 refine aE (aI (aI ?_))
 obtain ⟨df,dc,i⟩:=bd i
 refine cQ [(10,(pt ba 0)),(13,(iv M.1)),(110,(.bool ((!df)||(!(j.2==b.2)))))] (aJ ba [(sc D g.1.Nodes F),(sc E g.1.Outs G)] 31::ow kT65 65 (.slice D g.1.Nodes.length F) M.2.1::ow kT3 3 (.slice E g.1.Outs.length G) M.2.2::l) ?_ ?_
 refine aD (lO (vz (.agg [(sc bn j.1.Nodes bq),(sc bp j.1.Outs br)].toArray) (bN 6 fB dN R R R R)) (lO (vz (.agg [(sc Y b.1.Nodes a0),(sc Z b.1.Outs a2)].toArray) (bN 0 fB dN R R R R)) (lM (OO kT65 65 bn bq j.1.Nodes::OO kT3 3 bp br j.1.Outs::ow _ _ _ _::ow _ _ _ _::aJ _ _ _::aJ _ _ _::ow _ _ _ _::ow _ _ _ _::aJ dx [(sc bn j.1.Nodes bq),(sc bp j.1.Outs br)] 31::l) (fun w s=>(s.f 9 [7,2,1,2,0,1,3,4])) ?_)))
 refine lC 4 tw R (FnOk.lends (A':=[OO kT65 65 bn bq j.1.Nodes,OO kT3 3 bp br j.1.Outs,OO (kT65).share 65 Y a0 b.1.Nodes,OO kT3 3 Z a2 b.1.Outs]) (A:=[RR kT65 bn bq j.1.Nodes,RR kT3 bp br j.1.Outs,RR kT65 Y a0 b.1.Nodes,RR kT3 Z a2 b.1.Outs]) (B:=[]) (Z1i_ok dc) ⟨aQ,aQ,kt,aQ,trivial⟩ (fun _=>trivial)) R ?_
 rintro _
 refine lO (mf R) (lB R ?_)
 rcases bo (!df) with ae | ae
 refine lf (dK ae) (lf (dK ae) (lf (dK ae) (lO (fE (!(j.2==b.2)) R ae) (aB ?_))))
 exact qJ (fun w s=>(s.f 9 [5,3]))
 refine lW (cG ae) (vB R) (lW (cG ae) (vB R) (lW (cG ae) (sH C6 R R) (lO (fZ R ae R) (aB ?_))))
 exact qJ (fun w s=>(s.f 9 [5,3]))
 rintro σ1
 refine aE ?_
 rcases bY i with ⟨c7,i⟩|⟨c7,i⟩
 refine bM R c7 (aI (aD (lB R (aB (aE (bO (bP ?_)))))))
 obtain rfl:=so i
 exact qF () (fun w s=>(s.e 10 []))
 refine aX R c7 (bS (aE (aI (aD (lI R (aB (aE (aI ?_))))))))
 obtain ⟨e2,cu,i⟩:=bd i
 refine aD (lO (vz (.agg [(sc D g.1.Nodes F),(sc E g.1.Outs G)].toArray) (bN 0 fB dN R R R R)) (lI R (lM (ow _ _ _ _::ow _ _ _ _::aJ _ _ _::l) (fun w s=>(s.e 3 [1,2,0])) ?_)))
 refine lC 2 AH R (FnOk.lends (A':=[ow kT65 65 (.slice D g.1.Nodes.length F) M.2.1,ow kT3 3 (.slice E g.1.Outs.length G) M.2.2]) (A:=[aO kT65 (.slice D g.1.Nodes.length F) M.2.1,aO kT3 (.slice E g.1.Outs.length G) M.2.2]) (B:=[]) (Z2c_ok (a1:=(⟨M.2.1,M.2.2⟩:Graph)) cu) ⟨aQ,aQ,trivial⟩ (fun _=>trivial)) R ?_
 rintro _
 refine lI R (aB (aE (aI (aI (aD (lI R (lO (jz R R) (aB (aE ?_)))))))))
 rcases bY i with ⟨bh,i⟩|⟨bh,i⟩
 refine bM R bh (aI (aD (lB R (aB (aE (bO (bP ?_)))))))
 obtain rfl:=so i
 exact qF () (fun w s=>(s.e 10 []))
 refine aX R bh (bS (aE (aI (aI (aD (lI R (lI R (lO (xm R R) (aB (aE ?_))))))))))
 rcases bY i with ⟨bi,i⟩|⟨bi,i⟩
 refine bM R bi (aI (aD (lB R (aB (aE (bO (bP ?_)))))))
 obtain rfl:=so i
 exact qF () (fun w s=>(s.e 10 []))
 refine aX R bi (bS (aE (aI (aD (lB R (aB (aE (bO ?_))))))))
 obtain rfl:=so i
 exact qF () (fun w s=>(s.e 10 []))
end Go.Proofs.YthelanpdjajnbaaGreat
