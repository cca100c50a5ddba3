import Derived.Test.YthelanpdjajnbaaGreatBnF
import Derived.Test.YthelanpdjajnbaaGreatBnW1
import Derived.Test.YthelanpdjajnbaaGreatBnW5
import Derived.Test.YthelanpdjajnbaaGreatBnW8
set_option linter.unusedVariables false
set_option maxRecDepth 20000
namespace Go.Proofs.YthelanpdjajnbaaGreat
open Go Go.Pg
variable {A2 A3 A6 A7:Option Addr}{D2 D3 D6 D7 N2 N3 N6 N7:Nat}
theorem Z3d_ok  {q:Graph}{bz:Int}{m:Tensor}{mG:Int}{r:Bool}(i:Z3d q bz m=some r) :
 FnOk Tryz.prog 4 [(.agg [(.slice A2 N2 D2),(.slice A3 N3 D3)].toArray),(iv bz),(.agg [(.slice A6 N6 D6),(.slice A7 N7 D7)].toArray)] [aQ iN (.slice A2 N2 D2) q.Nodes,aQ kT3 (.slice A3 N3 D3) q.Outs,aQ kT3 (.slice A6 N6 D6) m.Dims,aQ kT3 (.slice A7 N7 D7) m.Data,gl 0 mG] (fun (h:Unit)=>((.bool r),[])):=by
 unfold Z3d at i
 refine aR Tryz.func4 R 124 R R fun C V=>?_
 refine cN (_::_::_::_::_::V) ?_
 refine cL 0 aA ?_
 rintro rfl
 refine cL 1 aA ?_
 rintro rfl
 refine cL 2 aA ?_
 rintro rfl
 refine cL 3 aA ?_
 rintro rfl
 let W0:List HP:=RR iN A2 D2 q.Nodes::RR kT3 A3 D3 q.Outs::RR kT3 A6 D6 m.Dims::RR kT3 A7 D7 m.Data::gl 0 mG::V
 refine cN W0 ?_
 refine aI (aD (eA R (fun b8=>(eA R (fun b9=>(lB R (aC ?_)))))))
 let l:List HP:=aJ b9 [(sc A6 m.Dims D6),(sc A7 m.Data D7)] 38::aJ b8 [(sc A2 q.Nodes D2),(sc A3 q.Outs D3)] 25::W0
 refine qN l ?_
 refine aE (aI (aD (lI R (aC (aE (aI ?_))))))
 obtain ⟨e0,cx,i⟩:=bd i
 refine aD (lO (vz (.agg [(sc A2 q.Nodes D2),(sc A3 q.Outs D3)].toArray) (bK 1 rz rA R R R R)) (lI R (lM (RR iN A2 D2 q.Nodes::RR kT3 A3 D3 q.Outs::l) (fun w s=>(((s.d 2 R).d 4 R).e 2 [1,0])) ?_)))
 refine lC 2 cb6 R (Z30_ok cx) R ?_
 rintro _
 refine lN l ?_
 refine lI R (aC (aE (aI (aI (aD (lI R (lO (jh R R) (aC (aE ?_)))))))))
 rcases cG i with ⟨c0,i⟩|⟨c0,i⟩
 refine bS R c0 (aI (aD (lB R (aC (aE (bO (bP ?_)))))))
 obtain rfl:=so i
 exact qF () (fun w s=>(s.e 7 []))
 refine bC R c0 (bZ (aE (aI ?_)))
 obtain ⟨e1,cy,i⟩:=bd i
 refine aD (lO (vz (.agg [(sc A6 m.Dims D6),(sc A7 m.Data D7)].toArray) (bK 0 rB rC R R R R)) (lI R (lM (RR kT3 A6 D6 m.Dims::RR kT3 A7 D7 m.Data::l) (fun w s=>(((s.d 4 R).d 6 R).e 2 [1,0])) ?_)))
 refine lC 2 B6 R (Z31_ok cy) R ?_
 rintro _
 refine lN l ?_
 refine lI R (aC (aE (aI (aI (aD (lI R (lO (jh R R) (aC (aE ?_)))))))))
 rcases cG i with ⟨c1,i⟩|⟨c1,i⟩
 refine bS R c1 (aI (aD (lB R (aC (aE (bO (bP ?_)))))))
 obtain rfl:=so i
 exact qF () (fun w s=>(s.e 7 []))
 refine bC R c1 (bZ (aE (aI ?_)))
 obtain ⟨O,cc,i⟩:=bd i
 obtain ⟨L,c9,i⟩:=bd i
 obtain ⟨b,bj,i⟩:=bd i
 refine iE (A:=(Unit)×(Nat×HH×HH)) (fun _=>True) (fun a=>[(1,(iv bz)),(3,(pt b8 0)),(5,(pt b9 0)),(8,(pt a.2.1 0)),(9,(.bool b.2))]) (fun a=>aJ a.2.1 [(.slice a.2.2.1.1 a.2.2.1.2.1 a.2.2.1.2.2),(.slice a.2.2.2.1 a.2.2.2.2.1 a.2.2.2.2.2)] 31::ow kT65 65 (.slice a.2.2.1.1 a.2.2.1.2.1 a.2.2.1.2.2) b.1.Nodes::ow kT3 3 (.slice a.2.2.2.1 a.2.2.2.2.1 a.2.2.2.2.2) b.1.Outs::l) ?_ ?_
 refine cX 12 [] bM (fun ht hn=>(dR 0 R (vz (.agg [(sc A2 q.Nodes D2),(sc A3 q.Outs D3)].toArray) (bK 1 rz rA R R R R)) (dR 2 R (vI R) (dR 3 R (vz (.agg [(sc A6 m.Dims D6),(sc A7 m.Data D7)].toArray) (bK 0 rB rC R R R R)) (gG [1,9] (by kernel_rfl) R ⟨?_,?_,trivial⟩)))))
 refine lM (RR iN A2 D2 q.Nodes::RR kT3 A3 D3 q.Outs::l) (fun w s=>(((s.d 2 R).d 4 R).e 2 [1,0])) ?_
 refine lC 2 yz R (Z1d_ok cc) R ?_
 rintro ⟨⟨ay,cp,b2⟩,⟨az,cq,b3⟩⟩
 refine lN (ow kT65 65 (.slice ay cp b2) O.Nodes::ow kT3 3 (.slice az cq b3) O.Outs::l) ?_
 refine aM 0 aB ?_
 rintro rfl
 refine aM 1 aB ?_
 rintro rfl
 refine aC (aG (sL [1,0]) (gG [4,9] (by kernel_rfl) R ⟨?_,?_,trivial⟩))
 refine lM (RR kT3 A6 D6 m.Dims::RR kT3 A7 D7 m.Data::ow _ _ _ _::ow _ _ _ _::l) (fun w s=>(((s.d 6 R).d 8 R).e 4 [1,0,2,3])) ?_
 refine lC 2 oQ R (Z14_ok c9) R ?_
 rintro ⟨⟨ag,bs,ak⟩,⟨ah,bu,al⟩⟩
 refine lN (ow kT3 3 (.slice ag bs ak) L.Dims::ow kT3 3 (.slice ah bu al) L.Data::_::_::l) ?_
 refine aM 0 aB ?_
 rintro rfl
 refine aM 1 aB ?_
 rintro rfl
 refine aC (aG (sL [3,2,1,0]) (gG [5,9] (by kernel_rfl) R ⟨?_,?_,trivial⟩))
 refine lM (ow _ _ _ _::ow _ _ _ _::ow _ _ _ _::ow _ _ _ _::l) (fun w s=>(s.e 4 [2,3,0,1])) ?_
 refine lC 4 uW R (FnOk.lends (A':=[OO kT65 65 ay b2 O.Nodes,OO kT3 3 az b3 O.Outs,OO kT3 3 ag ak L.Dims,OO kT3 3 ah al L.Data]) (A:=[RR kT65 ay b2 O.Nodes,RR kT3 az b3 O.Outs,RR kT3 ag ak L.Dims,RR kT3 ah al L.Data]) (B:=[]) (Z0b_ok bj) ⟨aP,aP,aP,aP,trivial⟩ (fun _=>⟨(bB nP),(bB iF),trivial⟩)) R ?_
 rintro ⟨⟨a3,bb,a7⟩,⟨a4,bc,a8⟩⟩
 refine lN (_::_::_::_::ow kT65 65 (.slice a3 bb a7) b.1.Nodes::ow kT3 3 (.slice a4 bc a8) b.1.Outs::l) ?_
 refine aM 4 aB ?_
 rintro rfl
 refine aM 5 aB ?_
 rintro rfl
 refine aC (aG (sL [5,4,3,2,1,0]) (dR 6 R (vT R) (hS:=(sL [5,4,3,2,1,0])) (dR 7 R (vA R) (hS:=(sL [5,4,3,2,1,0])) (dR 8 R (vB R) (hS:=(sL [5,4,3,2,1,0])) (d1 9 R (aY R R ji (fun b6=>(aC (aG (sL [6,5,4,3,2,1,0]) (d1 10 R (aL 0 R R eG R R R R R R (lN (aJ b6 [(sc a3 b.1.Nodes a7),(sc a4 b.1.Outs a8)] 31::_::_::_::_::_::_::l) ?_))))))))))))
 refine aC (aG (sL [6,5,4,3,2,1,0]) (dR 11 R (vB R) (hS:=(sL [6,5,4,3,2,1,0])) (dD ?_)))
 exact cJ ((),(b6,(a3,b.1.Nodes.length,a7),(a4,b.1.Outs.length,a8))) trivial (aS R) (fun w s=>(s.e 7 [0,5,6]))
 refine aY R R ji (fun b6=>(aC (aG (sL [4,3,2,1,0]) (d1 5 R (lM (ow _ _ _ _::ow _ _ _ _::ow _ _ _ _::ow _ _ _ _::aJ _ _ _::l) (fun w s=>(s.e 5 [3,4,1,2,0])) ?_)))))
 refine lC 4 uW R (FnOk.lends (A':=[OO kT65 65 ay b2 O.Nodes,OO kT3 3 az b3 O.Outs,OO kT3 3 ag ak L.Dims,OO kT3 3 ah al L.Data]) (A:=[RR kT65 ay b2 O.Nodes,RR kT3 az b3 O.Outs,RR kT3 ag ak L.Dims,RR kT3 ah al L.Data]) (B:=[]) (Z0b_ok bj) ⟨aP,aP,aP,aP,trivial⟩ (fun _=>⟨(bB nP),(bB iF),trivial⟩)) R ?_
 rintro ⟨⟨a3,bb,a7⟩,⟨a4,bc,a8⟩⟩
 refine lN (_::_::_::_::ow kT65 65 (.slice a3 bb a7) b.1.Nodes::ow kT3 3 (.slice a4 bc a8) b.1.Outs::_::l) ?_
 refine aM 4 aB ?_
 rintro rfl
 refine aM 5 aB ?_
 rintro rfl
 refine aC (aG (sL [6,5,4,3,2,1,0]) (dR 6 R (vT R) (hS:=(sL [6,5,4,3,2,1,0])) (dR 7 R (vA R) (hS:=(sL [6,5,4,3,2,1,0])) (dR 8 R (vB R) (hS:=(sL [6,5,4,3,2,1,0])) (d1 10 R (aL 6 R R eG R R R R R R (lN (_::_::_::_::_::_::aJ b6 [(sc a3 b.1.Nodes a7),(sc a4 b.1.Outs a8)] 31::l) ?_)))))))
 refine aC (aG (sL [6,5,4,3,2,1,0]) (dR 11 R (vB R) (hS:=(sL [6,5,4,3,2,1,0])) (dD ?_)))
 exact cJ ((),(b6,(a3,b.1.Nodes.length,a7),(a4,b.1.Outs.length,a8))) trivial (aS R) (fun w s=>(s.e 7 [6,4,5]))
 refine aY R R ji (fun b6=>(aC (aG (sL [2,1,0]) (d1 4 R (lM (RR kT3 A6 D6 m.Dims::RR kT3 A7 D7 m.Data::aJ _ _ _::ow _ _ _ _::ow _ _ _ _::l) (fun w s=>(((s.d 7 R).d 9 R).e 5 [1,0,2,3,4])) ?_)))))
 refine lC 2 oQ R (Z14_ok c9) R ?_
 rintro ⟨⟨ag,bs,ak⟩,⟨ah,bu,al⟩⟩
 refine lN (ow kT3 3 (.slice ag bs ak) L.Dims::ow kT3 3 (.slice ah bu al) L.Data::_::_::_::l) ?_
 refine aM 0 aB ?_
 rintro rfl
 refine aM 1 aB ?_
 rintro rfl
 refine aC (aG (sL [4,3,2,1,0]) (d1 5 R (lM (ow _ _ _ _::ow _ _ _ _::ow _ _ _ _::ow _ _ _ _::aJ _ _ _::l) (fun w s=>(s.f 5 [3,2,0,3])) ?_)))
 refine lC 4 uW R (FnOk.lends (A':=[OO kT65 65 ay b2 O.Nodes,OO kT3 3 az b3 O.Outs,OO kT3 3 ag ak L.Dims,OO kT3 3 ah al L.Data]) (A:=[RR kT65 ay b2 O.Nodes,RR kT3 az b3 O.Outs,RR kT3 ag ak L.Dims,RR kT3 ah al L.Data]) (B:=[]) (Z0b_ok bj) ⟨aP,aP,aP,aP,trivial⟩ (fun _=>⟨(bB nP),(bB iF),trivial⟩)) R ?_
 rintro ⟨⟨a3,bb,a7⟩,⟨a4,bc,a8⟩⟩
 refine lN (_::_::_::_::ow kT65 65 (.slice a3 bb a7) b.1.Nodes::ow kT3 3 (.slice a4 bc a8) b.1.Outs::_::l) ?_
 refine aM 4 aB ?_
 rintro rfl
 refine aM 5 aB ?_
 rintro rfl
 refine aC (aG (sL [6,5,4,3,2,1,0]) (dR 6 R (vT R) (hS:=(sL [6,5,4,3,2,1,0])) (dR 7 R (vA R) (hS:=(sL [6,5,4,3,2,1,0])) (dR 8 R (vB R) (hS:=(sL [6,5,4,3,2,1,0])) (d1 10 R (aL 6 R R eG R R R R R R (lN (_::_::_::_::_::_::aJ b6 [(sc a3 b.1.Nodes a7),(sc a4 b.1.Outs a8)] 31::l) ?_)))))))
 refine aC (aG (sL [6,5,4,3,2,1,0]) (dR 11 R (vB R) (hS:=(sL [6,5,4,3,2,1,0])) (dD ?_)))
 exact cJ ((),(b6,(a3,b.1.Nodes.length,a7),(a4,b.1.Outs.length,a8))) trivial (aS R) (fun w s=>(s.e 7 [6,4,5]))
 refine aY R R ji (fun b6=>(aC (aG (sL [0]) (d1 1 R (lM (RR iN A2 D2 q.Nodes::RR kT3 A3 D3 q.Outs::aJ _ _ _::l) (fun w s=>(((s.d 3 R).d 5 R).e 3 [1,0,2])) ?_)))))
 refine lC 2 yz R (Z1d_ok cc) R ?_
 rintro ⟨⟨ay,cp,b2⟩,⟨az,cq,b3⟩⟩
 refine lN (ow kT65 65 (.slice ay cp b2) O.Nodes::ow kT3 3 (.slice az cq b3) O.Outs::_::l) ?_
 refine aM 0 aB ?_
 rintro rfl
 refine aM 1 aB ?_
 rintro rfl
 refine aC (aG (sL [2,1,0]) (d1 4 R (lM (RR kT3 A6 D6 m.Dims::RR kT3 A7 D7 m.Data::ow _ _ _ _::ow _ _ _ _::aJ _ _ _::l) (fun w s=>(((s.d 7 R).d 9 R).e 5 [1,0,2,3,4])) ?_)))
 refine lC 2 oQ R (Z14_ok c9) R ?_
 rintro ⟨⟨ag,bs,ak⟩,⟨ah,bu,al⟩⟩
 refine lN (ow kT3 3 (.slice ag bs ak) L.Dims::ow kT3 3 (.slice ah bu al) L.Data::_::_::_::l) ?_
 refine aM 0 aB ?_
 rintro rfl
 refine aM 1 aB ?_
 rintro rfl
 refine aC (aG (sL [4,3,2,1,0]) (d1 5 R (lM (ow _ _ _ _::ow _ _ _ _::ow _ _ _ _::ow _ _ _ _::aJ _ _ _::l) (fun w s=>(s.e 5 [2,3,0,1,4])) ?_)))
 refine lC 4 uW R (FnOk.lends (A':=[OO kT65 65 ay b2 O.Nodes,OO kT3 3 az b3 O.Outs,OO kT3 3 ag ak L.Dims,OO kT3 3 ah al L.Data]) (A:=[RR kT65 ay b2 O.Nodes,RR kT3 az b3 O.Outs,RR kT3 ag ak L.Dims,RR kT3 ah al L.Data]) (B:=[]) (Z0b_ok bj) ⟨aP,aP,aP,aP,trivial⟩ (fun _=>⟨(bB nP),(bB iF),trivial⟩)) R ?_
 rintro ⟨⟨a3,bb,a7⟩,⟨a4,bc,a8⟩⟩
 refine lN (_::_::_::_::ow kT65 65 (.slice a3 bb a7) b.1.Nodes::ow kT3 3 (.slice a4 bc a8) b.1.Outs::_::l) ?_
 refine aM 4 aB ?_
 rintro rfl
 refine aM 5 aB ?_
 rintro rfl
 refine aC (aG (sL [6,5,4,3,2,1,0]) (dR 6 R (vT R) (hS:=(sL [6,5,4,3,2,1,0])) (dR 7 R (vA R) (hS:=(sL [6,5,4,3,2,1,0])) (dR 8 R (vB R) (hS:=(sL [6,5,4,3,2,1,0])) (d1 10 R (aL 6 R R eG R R R R R R (lN (_::_::_::_::_::_::aJ b6 [(sc a3 b.1.Nodes a7),(sc a4 b.1.Outs a8)] 31::l) ?_)))))))
 refine aC (aG (sL [6,5,4,3,2,1,0]) (dR 11 R (vB R) (hS:=(sL [6,5,4,3,2,1,0])) (dD ?_)))
 exact cJ ((),(b6,(a3,b.1.Nodes.length,a7),(a4,b.1.Outs.length,a8))) trivial (aS R) (fun w s=>(s.e 7 [6,4,5]))
 rintro ⟨_,⟨bg,⟨Y,di,a0⟩,⟨Z,dj,a2⟩⟩⟩ σ1 -
 refine gR 1 aB (fun (hn:di=b.1.Nodes.length)=>?_)
 subst hn
 refine gR 2 aB (fun (hn:dj=b.1.Outs.length)=>?_)
 subst hn
 refine aE (aI ?_)
 obtain ⟨I,cz,i⟩:=bd i
 refine aD (lO (vz (.agg [(sc A2 q.Nodes D2),(sc A3 q.Outs D3)].toArray) (bK 4 rz rA R R R R)) (lM (RR iN A2 D2 q.Nodes::RR kT3 A3 D3 q.Outs::aJ bg [(sc Y b.1.Nodes a0),(sc Z b.1.Outs a2)] 31::OO kT65 65 Y a0 b.1.Nodes::OO kT3 3 Z a2 b.1.Outs::l) (fun w s=>(((s.d 5 R).d 7 R).e 5 [1,0,2,3,4])) ?_))
 refine lC 2 yz R (Z1d_ok cz) R ?_
 rintro ⟨⟨ao,dk,au⟩,⟨ap,dl,av⟩⟩
 refine lN (ow kT65 65 (.slice ao dk au) I.Nodes::ow kT3 3 (.slice ap dl av) I.Outs::_::_::_::l) ?_
 refine aM 0 aB ?_
 rintro rfl
 refine aM 1 aB ?_
 rintro rfl
 refine aY R R ji (fun ct=>(aL 0 R R eG R R R R R R (lN (aJ ct [(sc ao I.Nodes au),(sc ap I.Outs av)] 31::_::_::_::_::_::l) ?_)))
 refine aC (aE (aI ?_))
 obtain ⟨J,d0,i⟩:=bd i
 refine aD (lO (vz (.agg [(sc A6 m.Dims D6),(sc A7 m.Data D7)].toArray) (bK 6 rB rC R R R R)) (lM (RR kT3 A6 D6 m.Dims::RR kT3 A7 D7 m.Data::aJ _ _ _::ow _ _ _ _::ow _ _ _ _::aJ _ _ _::ow _ _ _ _::ow _ _ _ _::l) (fun w s=>(((s.d 10 R).d 12 R).f 8 [1,1,0,1,2,6])) ?_))
 refine lC 2 oQ R (Z14_ok d0) R ?_
 rintro ⟨⟨aq,dm,aw⟩,⟨ar,dn,ax⟩⟩
 refine lN (ow kT3 3 (.slice aq dm aw) J.Dims::ow kT3 3 (.slice ar dn ax) J.Data::_::_::_::_::_::_::l) ?_
 refine aM 0 aB ?_
 rintro rfl
 refine aM 1 aB ?_
 rintro rfl
 refine aY R R dN (fun cu=>(aL 0 R R bW R R R R R R (lN (aJ cu [(sc aq J.Dims aw),(sc ar J.Data ax)] 42::_::_::_::_::_::_::_::_::l) ?_)))
 refine aC (aE (aI ?_))
 obtain ⟨g,d2,i⟩:=bd i
 refine aD (lO (vz (.agg [(sc ao I.Nodes au),(sc ap I.Outs av)].toArray) (bK 3 gK eG R R R R)) (lI R (lO (vz (.agg [(sc aq J.Dims aw),(sc ar J.Data ax)].toArray) (bK 0 eR bW R R R R)) (lM (ow _ _ _ _::ow _ _ _ _::ow _ _ _ _::ow _ _ _ _::gl 0 mG::aJ _ _ _::aJ _ _ _::aJ _ _ _::ow _ _ _ _::ow _ _ _ _::l) (fun w s=>((s.dg 15 R).e 10 [5,6,2,3,0,1,4,7,8,9])) ?_))))
 refine lC 5 tf R (FnOk.lends (A':=[OO kT65 65 ao au I.Nodes,OO kT3 3 ap av I.Outs,OO kT3 3 aq aw J.Dims,OO kT3 3 ar ax J.Data]) (A:=[RR kT65 ao au I.Nodes,RR kT3 ap av I.Outs,RR kT3 aq aw J.Dims,RR kT3 ar ax J.Data]) (B:=[gl 0 mG]) (Z1o_ok d2) ⟨aP,aP,aP,aP,trivial⟩ (fun _=>⟨(bB nP),(bB iF),trivial⟩)) R ?_
 rintro ⟨⟨D,dq,F⟩,⟨E,dr,G⟩⟩
 refine lN (_::_::_::_::ow kT65 65 (.slice D dq F) g.1.Nodes::ow kT3 3 (.slice E dr G) g.1.Outs::_::_::_::_::_::l) ?_
 refine aM 4 aB ?_
 rintro rfl
 refine aM 5 aB ?_
 rintro rfl
 refine lO (vT R) (lO (vA R) (lB R (aY R R ji (fun ba=>(aL 0 R R eG R R R R R R (lN (aJ ba [(sc D g.1.Nodes F),(sc E g.1.Outs G)] 31::_::_::_::_::_::_::_::_::_::_::_::l) ?_))))))
 refine lB R (aC (aE (aI (aI ?_))))
 obtain ⟨de,d3,i⟩:=bd i
 refine cQ [(1,(iv bz)),(3,(pt b8 0)),(5,(pt b9 0)),(8,(pt bg 0)),(9,(.bool b.2)),(10,(pt ct 0)),(11,(pt cu 0)),(12,(pt ba 0)),(13,(.bool g.2)),(57,(.bool ((!de)||(!(g.2==b.2)))))] (aJ bg [(sc Y b.1.Nodes a0),(sc Z b.1.Outs a2)] 31::OO kT65 65 Y a0 b.1.Nodes::OO kT3 3 Z a2 b.1.Outs::aJ ct [(sc ao I.Nodes au),(sc ap I.Outs av)] 31::OO kT65 65 ao au I.Nodes::OO kT3 3 ap av I.Outs::aJ cu [(sc aq J.Dims aw),(sc ar J.Data ax)] 42::OO kT3 3 aq aw J.Dims::OO kT3 3 ar ax J.Data::aJ ba [(sc D g.1.Nodes F),(sc E g.1.Outs G)] 31::OO kT65 65 D F g.1.Nodes::OO kT3 3 E G g.1.Outs::l) ?_ ?_
 refine aD (lO (vz (.agg [(sc D g.1.Nodes F),(sc E g.1.Outs G)].toArray) (bK 0 gK eG R R R R)) (lO (vz (.agg [(sc Y b.1.Nodes a0),(sc Z b.1.Outs a2)].toArray) (bK 9 gK eG R R R R)) (lM (ow _ _ _ _::ow _ _ _ _::ow _ _ _ _::ow _ _ _ _::aJ _ _ _::ow _ _ _ _::ow _ _ _ _::ow _ _ _ _::ow _ _ _ _::aJ _ _ _::aJ _ _ _::aJ _ _ _::l) (fun w s=>(s.f 12 [5,2,10,2,0,5,7,3])) ?_)))
 refine lC 4 v8 R (FnOk.lends (A':=[OO kT65 65 D F g.1.Nodes,OO kT3 3 E G g.1.Outs,OO kT65 65 Y a0 b.1.Nodes,OO kT3 3 Z a2 b.1.Outs]) (A:=[RR kT65 D F g.1.Nodes,RR kT3 E G g.1.Outs,RR kT65 Y a0 b.1.Nodes,RR kT3 Z a2 b.1.Outs]) (B:=[]) (Z1l_ok d3) ⟨aP,aP,aP,aP,trivial⟩ (fun _=>trivial)) R ?_
 rintro _
 refine lO (ki R) (lB R ?_)
 rcases bo (!de) with ab | ab
 refine lf (bN ab) (lf (bN ab) (lf (bN ab) (lO (dX (!(g.2==b.2)) R ab) (aC ?_))))
 exact qJ (fun w s=>(s.e 12 [11,2,3,10,5,6,9,7,8,4,0,1]))
 refine lW (bJ ab) (vB R) (lW (bJ ab) (vB R) (lW (bJ ab) (sy BD R R) (lO (eH R ab R) (aC ?_))))
 exact qJ (fun w s=>(s.e 12 [11,2,3,10,5,6,9,7,8,4,0,1]))
 rintro σ1
 refine aE ?_
 rcases cG i with ⟨c2,i⟩|⟨c2,i⟩
 refine bS R c2 (aI (aD (lB R (aC (aE (bO (bP ?_)))))))
 obtain rfl:=so i
 exact qF () (fun w s=>(s.e 19 []))
 refine bC R c2 (bZ (aE (aI (aI ?_))))
 obtain ⟨bl,d4,i⟩:=bd i
 obtain ⟨e2,d5,i⟩:=bd i
 refine cX 5 [] bM (fun ht hn=>(dR 0 R (vz (.agg [(sc ao I.Nodes au),(sc ap I.Outs av)].toArray) (bK 3 gK eG R R R R)) (dR 1 R (vz (.agg [(sc A2 q.Nodes D2),(sc A3 q.Outs D3)].toArray) (bK 13 rz rA R R R R)) (d1 2 R (lM (RR iN A2 D2 q.Nodes::RR kT3 A3 D3 q.Outs::aJ _ _ _::ow _ _ _ _::ow _ _ _ _::aJ _ _ _::ow _ _ _ _::ow _ _ _ _::aJ _ _ _::ow _ _ _ _::ow _ _ _ _::aJ _ _ _::ow _ _ _ _::ow _ _ _ _::l) (fun w s=>(((s.d 14 R).d 16 R).f 14 [1,1,0,1,2,12])) ?_)))))
 refine lC 2 yz R (Z1d_ok d4) R ?_
 rintro ⟨⟨cg,ds,ck⟩,⟨ch,dt,cm⟩⟩
 refine lN (ow kT65 65 (.slice cg ds ck) bl.Nodes::ow kT3 3 (.slice ch dt cm) bl.Outs::_::_::_::_::_::_::_::_::_::_::_::_::l) ?_
 refine aM 0 aB ?_
 rintro rfl
 refine aM 1 aB ?_
 rintro rfl
 refine aC (aG (sL [1,0]) (d1 3 R (lM (ow _ _ _ _::ow _ _ _ _::ow _ _ _ _::ow _ _ _ _::aJ _ _ _::ow _ _ _ _::ow _ _ _ _::aJ _ _ _::aJ _ _ _::ow _ _ _ _::ow _ _ _ _::aJ _ _ _::ow _ _ _ _::ow _ _ _ _::l) (fun w s=>(s.f 14 [6,2,0,6,8,6])) ?_)))
 refine lC 4 v8 R (FnOk.lends (A':=[OO kT65 65 ao au I.Nodes,OO kT3 3 ap av I.Outs,OO kT65 65 cg ck bl.Nodes,OO kT3 3 ch cm bl.Outs]) (A:=[RR kT65 ao au I.Nodes,RR kT3 ap av I.Outs,RR kT65 cg ck bl.Nodes,RR kT3 ch cm bl.Outs]) (B:=[]) (Z1l_ok d5) ⟨aP,aP,aP,aP,trivial⟩ (fun _=>trivial)) R ?_
 rintro _
 refine aC (aG (fun w s=>(s.f 14 [4,4,0,2,8,6])) (dR 4 R (ki R) (hS:=(fun w s=>(s.f 14 [4,4,0,2,8,6]))) (dD (aE ?_))))
 rcases cG i with ⟨c3,i⟩|⟨c3,i⟩
 refine bS R c3 (aI (aD (lB R (aC (aE (bO (bP ?_)))))))
 obtain rfl:=so i
 exact qF () (fun w s=>(s.e 21 []))
 refine bC R c3 (bZ (aE (aI (aI ?_))))
 obtain ⟨bm,d6,i⟩:=bd i
 obtain ⟨e3,d7,i⟩:=bd i
 refine cX 5 [] bM (fun ht hn=>(dR 0 R (vz (.agg [(sc aq J.Dims aw),(sc ar J.Data ax)].toArray) (bK 8 eR bW R R R R)) (dR 1 R (vz (.agg [(sc A6 m.Dims D6),(sc A7 m.Data D7)].toArray) (bK 14 rB rC R R R R)) (d1 2 R (lM (RR kT3 A6 D6 m.Dims::RR kT3 A7 D7 m.Data::ow _ _ _ _::ow _ _ _ _::ow _ _ _ _::ow _ _ _ _::aJ _ _ _::ow _ _ _ _::ow _ _ _ _::aJ _ _ _::aJ _ _ _::ow _ _ _ _::ow _ _ _ _::aJ _ _ _::ow _ _ _ _::ow _ _ _ _::l) (fun w s=>(((s.d 18 R).d 20 R).f 16 [1,1,0,1,2,14])) ?_)))))
 refine lC 2 oQ R (Z14_ok d6) R ?_
 rintro ⟨⟨ci,du,cn⟩,⟨cj,dv,co⟩⟩
 refine lN (ow kT3 3 (.slice ci du cn) bm.Dims::ow kT3 3 (.slice cj dv co) bm.Data::_::_::_::_::_::_::_::_::_::_::_::_::_::_::l) ?_
 refine aM 0 aB ?_
 rintro rfl
 refine aM 1 aB ?_
 rintro rfl
 refine aC (aG (sL [1,0]) (d1 3 R (lM (ow _ _ _ _::ow _ _ _ _::ow _ _ _ _::ow _ _ _ _::ow _ _ _ _::ow _ _ _ _::ow _ _ _ _::ow _ _ _ _::aJ _ _ _::ow _ _ _ _::ow _ _ _ _::aJ _ _ _::aJ _ _ _::aJ _ _ _::ow _ _ _ _::ow _ _ _ _::l) (fun w s=>(s.f 16 [11,2,0,11,13,3])) ?_)))
 refine lC 4 BE R (FnOk.lends (A':=[OO kT3 3 aq aw J.Dims,OO kT3 3 ar ax J.Data,OO kT3 3 ci cn bm.Dims,OO kT3 3 cj co bm.Data]) (A:=[RR kT3 aq aw J.Dims,RR kT3 ar ax J.Data,RR kT3 ci cn bm.Dims,RR kT3 cj co bm.Data]) (B:=[]) (Z2y_ok d7) ⟨aP,aP,aP,aP,trivial⟩ (fun _=>trivial)) R ?_
 rintro _
 refine aC (aG (fun w s=>(s.f 16 [4,9,0,2,13,3])) (dR 4 R (ki R) (hS:=(fun w s=>(s.f 16 [4,9,0,2,13,3]))) (dD (aE ?_))))
 rcases cG i with ⟨c4,i⟩|⟨c4,i⟩
 refine bS R c4 (aI (aD (lB R (aC (aE (bO (bP ?_)))))))
 obtain rfl:=so i
 exact qF () (fun w s=>(s.e 23 []))
 refine bC R c4 (bZ (aE (aI (aD (lI R (aC (aE (aI ?_))))))))
 obtain ⟨df,d8,i⟩:=bd i
 refine aD (lO (vz (.agg [(sc ao I.Nodes au),(sc ap I.Outs av)].toArray) (bK 11 gK eG R R R R)) (lI R (lM (ow _ _ _ _::ow _ _ _ _::ow _ _ _ _::ow _ _ _ _::ow _ _ _ _::ow _ _ _ _::ow _ _ _ _::ow _ _ _ _::aJ _ _ _::ow _ _ _ _::ow _ _ _ _::aJ _ _ _::aJ _ _ _::aJ _ _ _::ow _ _ _ _::ow _ _ _ _::l) (fun w s=>(s.f 16 [4,2,0,4,6,10])) ?_)))
 refine lC 2 Al R (Z29_ok d8) R ?_
 rintro _
 refine lN (ow kT65 65 (.slice ao I.Nodes.length au) df.2.1::ow kT3 3 (.slice ap I.Outs.length av) df.2.2::_::_::_::_::_::_::_::_::_::_::_::_::_::_::l) ?_
 refine lI R (aC (aE (aI ?_)))
 obtain ⟨cb,d9,i⟩:=bd i
 refine aD (lO (vz (.agg [(sc aq J.Dims aw),(sc ar J.Data ax)].toArray) (bK 12 eR bW R R R R)) (lI R (lM (ow _ _ _ _::ow _ _ _ _::ow _ _ _ _::ow _ _ _ _::ow _ _ _ _::ow _ _ _ _::ow _ _ _ _::ow _ _ _ _::aJ _ _ _::ow _ _ _ _::ow _ _ _ _::aJ _ _ _::aJ _ _ _::aJ _ _ _::ow _ _ _ _::ow _ _ _ _::l) (fun w s=>(s.f 16 [2,2,0,2,4,12])) ?_)))
 refine lC 2 BG R (Z2z_ok d9) R ?_
 rintro _
 refine lN (ow kT3 3 (.slice aq J.Dims.length aw) cb.2.1::ow kT3 3 (.slice ar J.Data.length ax) cb.2.2::_::_::_::_::_::_::_::_::_::_::_::_::_::_::l) ?_
 refine lI R (aC (aE (aI (aI ?_))))
 obtain ⟨cw,da,i⟩:=bd i
 refine cQ [(1,(iv bz)),(3,(pt b8 0)),(5,(pt b9 0)),(8,(pt bg 0)),(9,(.bool b.2)),(12,(pt ba 0)),(86,(.bool (((decide (cb.1<(0:Int)))||(!cw))||(!(g.2==b.2)))))] (aJ bg [(sc Y b.1.Nodes a0),(sc Z b.1.Outs a2)] 31::OO kT65 65 Y a0 b.1.Nodes::OO kT3 3 Z a2 b.1.Outs::aJ ba [(sc D g.1.Nodes F),(sc E g.1.Outs G)] 31::OO kT65 65 D F g.1.Nodes::OO kT3 3 E G g.1.Outs::l) ?_ ?_
 refine aD (lI R (lO (jh R R) (lB R ?_)))
 rcases bo (decide (cb.1<(0:Int))) with u | u
 refine lf (bN u) (lf (bN u) (lf (bN u) (lf (bN u) (lO (dX (!cw) R u) (lB R (lf (bN (oT u)) (lf (bN (oT u)) (lf (bN (oT u)) (lO (dX (!(g.2==b.2)) R (oT u)) (aC ?_))))))))))
 exact qJ (fun w s=>(s.f 16 [8,3,13,3]))
 refine lW (bJ u) (vz (.agg [(sc D g.1.Nodes F),(sc E g.1.Outs G)].toArray) (bK 13 gK eG R R R R)) (lW (bJ u) (vz (.agg [(sc Y b.1.Nodes a0),(sc Z b.1.Outs a2)].toArray) (bK 8 gK eG R R R R)) (lM (ow _ _ _ _::ow _ _ _ _::ow _ _ _ _::ow _ _ _ _::ow _ _ _ _::ow _ _ _ _::ow _ _ _ _::ow _ _ _ _::ow _ _ _ _::ow _ _ _ _::ow _ _ _ _::ow _ _ _ _::aJ _ _ _::aJ _ _ _::aJ _ _ _::aJ _ _ _::l) (fun w s=>(s.f 16 [14,2,9,2,0,9,11,3])) ?_))
 refine bY 4 R (bJ u) v8 R (FnOk.lends (A':=[OO kT65 65 D F g.1.Nodes,OO kT3 3 E G g.1.Outs,OO kT65 65 Y a0 b.1.Nodes,OO kT3 3 Z a2 b.1.Outs]) (A:=[RR kT65 D F g.1.Nodes,RR kT3 E G g.1.Outs,RR kT65 Y a0 b.1.Nodes,RR kT3 Z a2 b.1.Outs]) (B:=[]) (Z1l_ok (bL da (cP u))) ⟨aP,aP,aP,aP,trivial⟩ (fun _=>trivial)) R ?_
 rintro _
 refine lW (bJ u) (ki R) (lO (eH R u R) (lB R ?_))
 rcases bo ((decide (cb.1<(0:Int)))||(!cw)) with ac | ac
 refine lf (bN ac) (lf (bN ac) (lf (bN ac) (lO (dX (!(g.2==b.2)) R ac) (aC ?_))))
 exact qJ (fun w s=>(s.e 16 [12,2,3,15,0,1]))
 refine lW (bJ ac) (vB R) (lW (bJ ac) (vB R) (lW (bJ ac) (sy BD R R) (lO (eH R ac R) (aC ?_))))
 exact qJ (fun w s=>(s.e 16 [12,2,3,15,0,1]))
 rintro σ1
 refine aE ?_
 rcases cG i with ⟨c5,i⟩|⟨c5,i⟩
 refine bS R c5 (aI (aD (lB R (aC (aE (bO (bP ?_)))))))
 obtain rfl:=so i
 exact qF () (fun w s=>(s.e 13 []))
 refine bC R c5 (bZ (aE (aI (aD (lI R (aC (aE (aI ?_))))))))
 obtain ⟨T,db,i⟩:=bd i
 refine aD (lO (vz (.agg [(sc D g.1.Nodes F),(sc E g.1.Outs G)].toArray) (bK 3 gK eG R R R R)) (lI R (lM (ow _ _ _ _::ow _ _ _ _::aJ _ _ _::ow _ _ _ _::ow _ _ _ _::aJ _ _ _::l) (fun w s=>(s.f 6 [4,2,0,4])) ?_)))
 refine lC 2 Al R (Z29_ok db) R ?_
 rintro _
 refine lN (ow kT65 65 (.slice D g.1.Nodes.length F) T.2.1::ow kT3 3 (.slice E g.1.Outs.length G) T.2.2::_::_::_::_::l) ?_
 refine lI R (aC (aE (aI (aD (lI R (aC (aE (aI ?_))))))))
 obtain ⟨e4,dc,i⟩:=bd i
 refine aD (lO (vz (.agg [(sc D g.1.Nodes F),(sc E g.1.Outs G)].toArray) (bK 5 gK eG R R R R)) (lI R (lC 2 Am R (FnOk.lends (A':=[ow kT65 65 (.slice D g.1.Nodes.length F) T.2.1,ow kT3 3 (.slice E g.1.Outs.length G) T.2.2]) (A:=[aQ kT65 (.slice D g.1.Nodes.length F) T.2.1,aQ kT3 (.slice E g.1.Outs.length G) T.2.2]) (B:=[]) (Z28_ok (a1:=(⟨T.2.1,T.2.2⟩:Graph)) dc) ⟨aP,aP,trivial⟩ (fun _=>trivial)) R ?_)))
 rintro _
 refine lI R (aC (aE (aI (aI (aD (lI R (lO (jh R R) (aC (aE ?_)))))))))
 rcases cG i with ⟨c6,i⟩|⟨c6,i⟩
 refine bS R c6 (aI (aD (lB R (aC (aE (bO (bP ?_)))))))
 obtain rfl:=so i
 exact qF () (fun w s=>(s.e 13 []))
 refine bC R c6 (bZ (aE (aI (aI (aD (lI R (lI R (lO (sI R R) (aC (aE ?_))))))))))
 rcases cG i with ⟨c7,i⟩|⟨c7,i⟩
 refine bS R c7 (aI (aD (lB R (aC (aE (bO (bP ?_)))))))
 obtain rfl:=so i
 exact qF () (fun w s=>(s.e 13 []))
 refine bC R c7 (bZ (aE (aI ?_)))
 obtain ⟨U,cf,i⟩:=bd i
 obtain ⟨M,ca,i⟩:=bd i
 obtain ⟨j,bk,i⟩:=bd i
 refine iE (A:=(Unit)×(Nat×HH×HH)) (fun _=>True) (fun a=>[(8,(pt bg 0)),(9,(.bool b.2)),(12,(pt ba 0)),(15,(iv T.1)),(17,(pt a.2.1 0)),(18,(.bool j.2))]) (fun a=>aJ bg [(sc Y b.1.Nodes a0),(sc Z b.1.Outs a2)] 31::OO kT65 65 Y a0 b.1.Nodes::OO kT3 3 Z a2 b.1.Outs::aJ ba [(sc D g.1.Nodes F),(sc E g.1.Outs G)] 31::ow kT65 65 (.slice D g.1.Nodes.length F) T.2.1::ow kT3 3 (.slice E g.1.Outs.length G) T.2.2::aJ a.2.1 [(.slice a.2.2.1.1 a.2.2.1.2.1 a.2.2.1.2.2),(.slice a.2.2.2.1 a.2.2.2.2.1 a.2.2.2.2.2)] 31::ow kT65 65 (.slice a.2.2.1.1 a.2.2.1.2.1 a.2.2.1.2.2) j.1.Nodes::ow kT3 3 (.slice a.2.2.2.1 a.2.2.2.2.1 a.2.2.2.2.2) j.1.Outs::l) ?_ ?_
 refine cX 12 [] bM (fun ht hn=>(dR 0 R (vz (.agg [(sc A2 q.Nodes D2),(sc A3 q.Outs D3)].toArray) (bK 7 rz rA R R R R)) (dR 2 R (vI R) (dR 3 R (vz (.agg [(sc A6 m.Dims D6),(sc A7 m.Data D7)].toArray) (bK 6 rB rC R R R R)) (gG [1,9] (by kernel_rfl) R ⟨?_,?_,trivial⟩)))))
 refine lM (RR iN A2 D2 q.Nodes::RR kT3 A3 D3 q.Outs::ow _ _ _ _::ow _ _ _ _::aJ _ _ _::ow _ _ _ _::ow _ _ _ _::aJ _ _ _::l) (fun w s=>(((s.d 8 R).d 10 R).f 8 [1,1,0,1,2,6])) ?_
 refine lC 2 yz R (Z1d_ok cf) R ?_
 rintro ⟨⟨b0,cr,b4⟩,⟨b1,cs,b5⟩⟩
 refine lN (ow kT65 65 (.slice b0 cr b4) U.Nodes::ow kT3 3 (.slice b1 cs b5) U.Outs::_::_::_::_::_::_::l) ?_
 refine aM 0 aB ?_
 rintro rfl
 refine aM 1 aB ?_
 rintro rfl
 refine aC (aG (sL [1,0]) (gG [4,9] (by kernel_rfl) R ⟨?_,?_,trivial⟩))
 refine lM (RR kT3 A6 D6 m.Dims::RR kT3 A7 D7 m.Data::ow _ _ _ _::ow _ _ _ _::ow _ _ _ _::ow _ _ _ _::aJ _ _ _::ow _ _ _ _::ow _ _ _ _::aJ _ _ _::l) (fun w s=>(((s.d 12 R).d 14 R).f 10 [1,1,0,1,2,8])) ?_
 refine lC 2 oQ R (Z14_ok ca) R ?_
 rintro ⟨⟨ai,bv,am⟩,⟨aj,bw,an⟩⟩
 refine lN (ow kT3 3 (.slice ai bv am) M.Dims::ow kT3 3 (.slice aj bw an) M.Data::_::_::_::_::_::_::_::_::l) ?_
 refine aM 0 aB ?_
 rintro rfl
 refine aM 1 aB ?_
 rintro rfl
 refine aC (aG (sL [3,2,1,0]) (gG [5,9] (by kernel_rfl) R ⟨?_,?_,trivial⟩))
 refine lM (ow _ _ _ _::ow _ _ _ _::ow _ _ _ _::ow _ _ _ _::gl 0 mG::ow _ _ _ _::ow _ _ _ _::aJ _ _ _::ow _ _ _ _::ow _ _ _ _::aJ _ _ _::l) (fun w s=>((s.dg 16 R).f 11 [3,2,1,2,0,1,5,6])) ?_
 refine lC 5 tf R (FnOk.lends (A':=[OO kT65 65 b0 b4 U.Nodes,OO kT3 3 b1 b5 U.Outs,OO kT3 3 ai am M.Dims,OO kT3 3 aj an M.Data]) (A:=[RR kT65 b0 b4 U.Nodes,RR kT3 b1 b5 U.Outs,RR kT3 ai am M.Dims,RR kT3 aj an M.Data]) (B:=[gl 0 mG]) (Z1o_ok bk) ⟨aP,aP,aP,aP,trivial⟩ (fun _=>⟨(bB nP),(bB iF),trivial⟩)) R ?_
 rintro ⟨⟨a5,be,a9⟩,⟨a6,bf,aa⟩⟩
 refine lN (_::_::_::_::ow kT65 65 (.slice a5 be a9) j.1.Nodes::ow kT3 3 (.slice a6 bf aa) j.1.Outs::_::_::_::_::_::_::l) ?_
 refine aM 4 aB ?_
 rintro rfl
 refine aM 5 aB ?_
 rintro rfl
 refine aC (aG (sL [5,4,3,2,1,0]) (dR 6 R (vT R) (hS:=(sL [5,4,3,2,1,0])) (dR 7 R (vA R) (hS:=(sL [5,4,3,2,1,0])) (dR 8 R (vB R) (hS:=(sL [5,4,3,2,1,0])) (d1 9 R (aY R R ji (fun b7=>(aC (aG (sL [6,5,4,3,2,1,0]) (d1 10 R (aL 0 R R eG R R R R R R (lN (aJ b7 [(sc a5 j.1.Nodes a9),(sc a6 j.1.Outs aa)] 31::_::_::_::_::_::_::_::_::_::_::_::_::l) ?_))))))))))))
 refine aC (aG (sL [6,5,4,3,2,1,0]) (dR 11 R (vB R) (hS:=(sL [6,5,4,3,2,1,0])) (dD ?_)))
 exact cJ ((),(b7,(a5,j.1.Nodes.length,a9),(a6,j.1.Outs.length,aa))) trivial (aS R) (fun w s=>(s.f 13 [9,4,7,2,0,1,5,2]))
 refine aY R R ji (fun b7=>(aC (aG (sL [4,3,2,1,0]) (d1 5 R (lM (ow _ _ _ _::ow _ _ _ _::ow _ _ _ _::ow _ _ _ _::gl 0 mG::aJ _ _ _::ow _ _ _ _::ow _ _ _ _::aJ _ _ _::ow _ _ _ _::ow _ _ _ _::aJ _ _ _::l) (fun w s=>((s.dg 17 R).f 12 [4,2,2,2,0,2,6,6])) ?_)))))
 refine lC 5 tf R (FnOk.lends (A':=[OO kT65 65 b0 b4 U.Nodes,OO kT3 3 b1 b5 U.Outs,OO kT3 3 ai am M.Dims,OO kT3 3 aj an M.Data]) (A:=[RR kT65 b0 b4 U.Nodes,RR kT3 b1 b5 U.Outs,RR kT3 ai am M.Dims,RR kT3 aj an M.Data]) (B:=[gl 0 mG]) (Z1o_ok bk) ⟨aP,aP,aP,aP,trivial⟩ (fun _=>⟨(bB nP),(bB iF),trivial⟩)) R ?_
 rintro ⟨⟨a5,be,a9⟩,⟨a6,bf,aa⟩⟩
 refine lN (_::_::_::_::ow kT65 65 (.slice a5 be a9) j.1.Nodes::ow kT3 3 (.slice a6 bf aa) j.1.Outs::_::_::_::_::_::_::_::l) ?_
 refine aM 4 aB ?_
 rintro rfl
 refine aM 5 aB ?_
 rintro rfl
 refine aC (aG (sL [6,5,4,3,2,1,0]) (dR 6 R (vT R) (hS:=(sL [6,5,4,3,2,1,0])) (dR 7 R (vA R) (hS:=(sL [6,5,4,3,2,1,0])) (dR 8 R (vB R) (hS:=(sL [6,5,4,3,2,1,0])) (d1 10 R (aL 6 R R eG R R R R R R (lN (_::_::_::_::_::_::aJ b7 [(sc a5 j.1.Nodes a9),(sc a6 j.1.Outs aa)] 31::_::_::_::_::_::_::l) ?_)))))))
 refine aC (aG (sL [6,5,4,3,2,1,0]) (dR 11 R (vB R) (hS:=(sL [6,5,4,3,2,1,0])) (dD ?_)))
 exact cJ ((),(b7,(a5,j.1.Nodes.length,a9),(a6,j.1.Outs.length,aa))) trivial (aS R) (fun w s=>(s.f 13 [9,4,7,2,6,1,4,2]))
 refine aY R R ji (fun b7=>(aC (aG (sL [2,1,0]) (d1 4 R (lM (RR kT3 A6 D6 m.Dims::RR kT3 A7 D7 m.Data::aJ _ _ _::ow _ _ _ _::ow _ _ _ _::ow _ _ _ _::ow _ _ _ _::aJ _ _ _::ow _ _ _ _::ow _ _ _ _::aJ _ _ _::l) (fun w s=>(((s.d 13 R).d 15 R).f 11 [1,1,0,1,2,9])) ?_)))))
 refine lC 2 oQ R (Z14_ok ca) R ?_
 rintro ⟨⟨ai,bv,am⟩,⟨aj,bw,an⟩⟩
 refine lN (ow kT3 3 (.slice ai bv am) M.Dims::ow kT3 3 (.slice aj bw an) M.Data::_::_::_::_::_::_::_::_::_::l) ?_
 refine aM 0 aB ?_
 rintro rfl
 refine aM 1 aB ?_
 rintro rfl
 refine aC (aG (sL [4,3,2,1,0]) (d1 5 R (lM (ow _ _ _ _::ow _ _ _ _::ow _ _ _ _::ow _ _ _ _::gl 0 mG::aJ _ _ _::ow _ _ _ _::ow _ _ _ _::aJ _ _ _::ow _ _ _ _::ow _ _ _ _::aJ _ _ _::l) (fun w s=>((s.dg 17 R).f 12 [4,2,1,2,0,1,3,1,6,6])) ?_)))
 refine lC 5 tf R (FnOk.lends (A':=[OO kT65 65 b0 b4 U.Nodes,OO kT3 3 b1 b5 U.Outs,OO kT3 3 ai am M.Dims,OO kT3 3 aj an M.Data]) (A:=[RR kT65 b0 b4 U.Nodes,RR kT3 b1 b5 U.Outs,RR kT3 ai am M.Dims,RR kT3 aj an M.Data]) (B:=[gl 0 mG]) (Z1o_ok bk) ⟨aP,aP,aP,aP,trivial⟩ (fun _=>⟨(bB nP),(bB iF),trivial⟩)) R ?_
 rintro ⟨⟨a5,be,a9⟩,⟨a6,bf,aa⟩⟩
 refine lN (_::_::_::_::ow kT65 65 (.slice a5 be a9) j.1.Nodes::ow kT3 3 (.slice a6 bf aa) j.1.Outs::_::_::_::_::_::_::_::l) ?_
 refine aM 4 aB ?_
 rintro rfl
 refine aM 5 aB ?_
 rintro rfl
 refine aC (aG (sL [6,5,4,3,2,1,0]) (dR 6 R (vT R) (hS:=(sL [6,5,4,3,2,1,0])) (dR 7 R (vA R) (hS:=(sL [6,5,4,3,2,1,0])) (dR 8 R (vB R) (hS:=(sL [6,5,4,3,2,1,0])) (d1 10 R (aL 6 R R eG R R R R R R (lN (_::_::_::_::_::_::aJ b7 [(sc a5 j.1.Nodes a9),(sc a6 j.1.Outs aa)] 31::_::_::_::_::_::_::l) ?_)))))))
 refine aC (aG (sL [6,5,4,3,2,1,0]) (dR 11 R (vB R) (hS:=(sL [6,5,4,3,2,1,0])) (dD ?_)))
 exact cJ ((),(b7,(a5,j.1.Nodes.length,a9),(a6,j.1.Outs.length,aa))) trivial (aS R) (fun w s=>(s.f 13 [9,4,7,2,6,1,4,2]))
 refine aY R R ji (fun b7=>(aC (aG (sL [0]) (d1 1 R (lM (RR iN A2 D2 q.Nodes::RR kT3 A3 D3 q.Outs::aJ _ _ _::ow _ _ _ _::ow _ _ _ _::aJ _ _ _::ow _ _ _ _::ow _ _ _ _::aJ _ _ _::l) (fun w s=>(((s.d 9 R).d 11 R).f 9 [1,1,0,1,2,7])) ?_)))))
 refine lC 2 yz R (Z1d_ok cf) R ?_
 rintro ⟨⟨b0,cr,b4⟩,⟨b1,cs,b5⟩⟩
 refine lN (ow kT65 65 (.slice b0 cr b4) U.Nodes::ow kT3 3 (.slice b1 cs b5) U.Outs::_::_::_::_::_::_::_::l) ?_
 refine aM 0 aB ?_
 rintro rfl
 refine aM 1 aB ?_
 rintro rfl
 refine aC (aG (sL [2,1,0]) (d1 4 R (lM (RR kT3 A6 D6 m.Dims::RR kT3 A7 D7 m.Data::ow _ _ _ _::ow _ _ _ _::aJ _ _ _::ow _ _ _ _::ow _ _ _ _::aJ _ _ _::ow _ _ _ _::ow _ _ _ _::aJ _ _ _::l) (fun w s=>(((s.d 13 R).d 15 R).f 11 [1,1,0,1,2,9])) ?_)))
 refine lC 2 oQ R (Z14_ok ca) R ?_
 rintro ⟨⟨ai,bv,am⟩,⟨aj,bw,an⟩⟩
 refine lN (ow kT3 3 (.slice ai bv am) M.Dims::ow kT3 3 (.slice aj bw an) M.Data::_::_::_::_::_::_::_::_::_::l) ?_
 refine aM 0 aB ?_
 rintro rfl
 refine aM 1 aB ?_
 rintro rfl
 refine aC (aG (sL [4,3,2,1,0]) (d1 5 R (lM (ow _ _ _ _::ow _ _ _ _::ow _ _ _ _::ow _ _ _ _::gl 0 mG::aJ _ _ _::ow _ _ _ _::ow _ _ _ _::aJ _ _ _::ow _ _ _ _::ow _ _ _ _::aJ _ _ _::l) (fun w s=>((s.dg 17 R).f 12 [3,2,1,2,0,1,5,7])) ?_)))
 refine lC 5 tf R (FnOk.lends (A':=[OO kT65 65 b0 b4 U.Nodes,OO kT3 3 b1 b5 U.Outs,OO kT3 3 ai am M.Dims,OO kT3 3 aj an M.Data]) (A:=[RR kT65 b0 b4 U.Nodes,RR kT3 b1 b5 U.Outs,RR kT3 ai am M.Dims,RR kT3 aj an M.Data]) (B:=[gl 0 mG]) (Z1o_ok bk) ⟨aP,aP,aP,aP,trivial⟩ (fun _=>⟨(bB nP),(bB iF),trivial⟩)) R ?_
 rintro ⟨⟨a5,be,a9⟩,⟨a6,bf,aa⟩⟩
 refine lN (_::_::_::_::ow kT65 65 (.slice a5 be a9) j.1.Nodes::ow kT3 3 (.slice a6 bf aa) j.1.Outs::_::_::_::_::_::_::_::l) ?_
 refine aM 4 aB ?_
 rintro rfl
 refine aM 5 aB ?_
 rintro rfl
 refine aC (aG (sL [6,5,4,3,2,1,0]) (dR 6 R (vT R) (hS:=(sL [6,5,4,3,2,1,0])) (dR 7 R (vA R) (hS:=(sL [6,5,4,3,2,1,0])) (dR 8 R (vB R) (hS:=(sL [6,5,4,3,2,1,0])) (d1 10 R (aL 6 R R eG R R R R R R (lN (_::_::_::_::_::_::aJ b7 [(sc a5 j.1.Nodes a9),(sc a6 j.1.Outs aa)] 31::_::_::_::_::_::_::l) ?_)))))))
 refine aC (aG (sL [6,5,4,3,2,1,0]) (dR 11 R (vB R) (hS:=(sL [6,5,4,3,2,1,0])) (dD ?_)))
 exact cJ ((),(b7,(a5,j.1.Nodes.length,a9),(a6,j.1.Outs.length,aa))) trivial (aS R) (fun w s=>(s.f 13 [9,4,7,2,6,1,4,2]))
 rintro ⟨_,⟨dy,⟨bn,dw,bq⟩,⟨bp,dx,br⟩⟩⟩ σ1 -
 refine gR 7 aB (fun (hn:dw=j.1.Nodes.length)=>?_)
 subst hn
 refine gR 8 aB (fun (hn:dx=j.1.Outs.length)=>?_)
 subst hn
 refine aE (aI (aI ?_))
 obtain ⟨dh,dd,i⟩:=bd i
 refine cQ [(12,(pt ba 0)),(15,(iv T.1)),(115,(.bool ((!dh)||(!(j.2==b.2)))))] (aJ ba [(sc D g.1.Nodes F),(sc E g.1.Outs G)] 31::ow kT65 65 (.slice D g.1.Nodes.length F) T.2.1::ow kT3 3 (.slice E g.1.Outs.length G) T.2.2::l) ?_ ?_
 refine aD (lO (vz (.agg [(sc bn j.1.Nodes bq),(sc bp j.1.Outs br)].toArray) (bK 6 gK eG R R R R)) (lO (vz (.agg [(sc Y b.1.Nodes a0),(sc Z b.1.Outs a2)].toArray) (bK 0 gK eG R R R R)) (lM (OO kT65 65 bn bq j.1.Nodes::OO kT3 3 bp br j.1.Outs::ow _ _ _ _::ow _ _ _ _::aJ _ _ _::aJ _ _ _::ow _ _ _ _::ow _ _ _ _::aJ dy [(sc bn j.1.Nodes bq),(sc bp j.1.Outs br)] 31::l) (fun w s=>(s.f 9 [7,2,1,2,0,1,3,4])) ?_)))
 refine lC 4 v8 R (FnOk.lends (A':=[OO kT65 65 bn bq j.1.Nodes,OO kT3 3 bp br j.1.Outs,OO kT65 65 Y a0 b.1.Nodes,OO kT3 3 Z a2 b.1.Outs]) (A:=[RR kT65 bn bq j.1.Nodes,RR kT3 bp br j.1.Outs,RR kT65 Y a0 b.1.Nodes,RR kT3 Z a2 b.1.Outs]) (B:=[]) (Z1l_ok dd) ⟨aP,aP,aP,aP,trivial⟩ (fun _=>trivial)) R ?_
 rintro _
 refine lO (ki R) (lB R ?_)
 rcases bo (!dh) with ae | ae
 refine lf (bN ae) (lf (bN ae) (lf (bN ae) (lO (dX (!(j.2==b.2)) R ae) (aC ?_))))
 exact qJ (fun w s=>(s.f 9 [5,3]))
 refine lW (bJ ae) (vB R) (lW (bJ ae) (vB R) (lW (bJ ae) (sy BD R R) (lO (eH R ae R) (aC ?_))))
 exact qJ (fun w s=>(s.f 9 [5,3]))
 rintro σ1
 refine aE ?_
 rcases cG i with ⟨c8,i⟩|⟨c8,i⟩
 refine bS R c8 (aI (aD (lB R (aC (aE (bO (bP ?_)))))))
 obtain rfl:=so i
 exact qF () (fun w s=>(s.e 10 []))
 refine bC R c8 (bZ (aE (aI (aD (lI R (aC (aE (aI ?_))))))))
 obtain ⟨dz,cv,i⟩:=bd i
 refine aD (lO (vz (.agg [(sc D g.1.Nodes F),(sc E g.1.Outs G)].toArray) (bK 0 gK eG R R R R)) (lI R (lM (ow _ _ _ _::ow _ _ _ _::aJ _ _ _::l) (fun w s=>(s.e 3 [1,2,0])) ?_)))
 refine lC 2 Am R (FnOk.lends (A':=[ow kT65 65 (.slice D g.1.Nodes.length F) T.2.1,ow kT3 3 (.slice E g.1.Outs.length G) T.2.2]) (A:=[aQ kT65 (.slice D g.1.Nodes.length F) T.2.1,aQ kT3 (.slice E g.1.Outs.length G) T.2.2]) (B:=[]) (Z28_ok (a1:=(⟨T.2.1,T.2.2⟩:Graph)) cv) ⟨aP,aP,trivial⟩ (fun _=>trivial)) R ?_
 rintro _
 refine lI R (aC (aE (aI (aI (aD (lI R (lO (jh R R) (aC (aE ?_)))))))))
 rcases cG i with ⟨bh,i⟩|⟨bh,i⟩
 refine bS R bh (aI (aD (lB R (aC (aE (bO (bP ?_)))))))
 obtain rfl:=so i
 exact qF () (fun w s=>(s.e 10 []))
 refine bC R bh (bZ (aE (aI (aI (aD (lI R (lI R (lO (sI R R) (aC (aE ?_))))))))))
 rcases cG i with ⟨bi,i⟩|⟨bi,i⟩
 refine bS R bi (aI (aD (lB R (aC (aE (bO (bP ?_)))))))
 obtain rfl:=so i
 exact qF () (fun w s=>(s.e 10 []))
 refine bC R bi (bZ (aE (aI (aD (lB R (aC (aE (bO ?_))))))))
 obtain rfl:=so i
 exact qF () (fun w s=>(s.e 10 []))
end Go.Proofs.YthelanpdjajnbaaGreat
