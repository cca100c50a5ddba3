import Derived.Test.YtmpnollfdpdipaaGreatGkF
import Derived.Test.YtmpnollfdpdipaaGreatGkW1
import Derived.Test.YtmpnollfdpdipaaGreatGkW4
import Derived.Test.YtmpnollfdpdipaaGreatGkW7
set_option linter.unusedVariables false
set_option maxRecDepth 20000
namespace Go.Proofs.YtmpnollfdpdipaaGreat
open Go Go.Pg
variable {A2 A3:Option Addr}{D2 D3 N2 N3:Nat}
theorem Z3a_ok  {m:Graph}{mG:Int}{r:Bool}(a:Z3a m=some r) :
 FnOk Tryz.prog 8 [(.agg [(.slice A2 N2 D2),(.slice A3 N3 D3)].toArray)] [aN jM (.slice A2 N2 D2) m.Nodes,aN kT3 (.slice A3 N3 D3) m.Outs,gl 0 mG] (fun (h:Unit)=>((.bool r),[])):=by
 unfold Z3a at a
 refine aQ Tryz.func8 R 69 R R fun C V=>?_
 refine cL 0 aA ?_
 rintro rfl
 refine cL 1 aA ?_
 rintro rfl
 let W0:=RR jM A2 D2 m.Nodes::RR kT3 A3 D3 m.Outs::gl 0 mG::V
 refine cN W0 ?_
 refine aU ?_
 refine eF R fun b4=>?_
 refine aU ?_
 let W1:=aJ b4 [(sc A2 m.Nodes D2),(sc A3 m.Outs D3)] 25::W0
 refine qN W1 ?_
 refine dG ?_
 obtain ⟨r5,ao,a⟩:=bd a
 refine aP ?_
 refine lM _ (fun w s=>(((s.d 1 R).d 3 R).e 2 [1,0])) ?_
 refine lC 2 cb9 R (Z2x_ok ao) R ?_
 rintro _
 refine lN W1 ?_
 refine cP ?_
 split at a
 refine cV ?_
 cases a
 exact qF () (tE 4 [])
 refine bG ?_
 obtain ⟨r8,am,a⟩:=bd a
 obtain ⟨l,a1,a⟩:=bd a
 refine aU ?_
 refine lM _ (fun w s=>(((s.d 1 R).d 3 R).e 2 [1,0])) ?_
 refine lC 2 ur R (Z1b_ok am) R ?_
 rintro ⟨⟨A10,N10,D10⟩,⟨A11,N11,D11⟩⟩
 refine aL 0 aB ?_
 rintro rfl
 refine aL 1 aB ?_
 rintro rfl
 refine lC 2 Bl R (FnOk.lends (A':=[OO dA 54 A10 D10 r8.Nodes,OO kT3 3 A11 D11 r8.Outs]) (A:=[RR dA A10 D10 r8.Nodes,RR kT3 A11 D11 r8.Outs]) (B:=[]) (Zi_ok a1) ⟨aV,aV,trivial⟩ (fun _=>⟨(bH iM),trivial⟩)) R ?_
 rintro ⟨A14,N14,D14⟩
 refine aL 2 aB ?_
 rintro rfl
 refine bG ?_
 obtain ⟨b,ac,a⟩:=bd a
 refine aU ?_
 refine lM _ (fun w s=>(((s.d 4 R).d 6 R).e 5 [1,0,2,3,4])) ?_
 refine lC 2 ur R (Z1b_ok ac) R ?_
 rintro ⟨⟨F,b1,E⟩,⟨q,aw,u⟩⟩
 refine aL 0 aB ?_
 rintro rfl
 refine aL 1 aB ?_
 rintro rfl
 refine bF R R wN (fun al=>(aK 0 R R su R R R R R R (lN (aJ al [(sc F b.Nodes E),(sc q b.Outs u)] 30::_::_::_::_::_::W1) ?_)))
 refine aP ?_
 obtain ⟨j,ak,a⟩:=bd a
 refine aU ?_
 refine lM _ (fun w s=>((s.dg 9 R).f 7 [2,2,0,2,4,3])) ?_
 refine lC 3 zN R (FnOk.lends (A':=[OO dA 54 F E b.Nodes,OO kT3 3 q u b.Outs]) (A:=[RR dA F E b.Nodes,RR kT3 q u b.Outs]) (B:=[gl 0 mG]) (Z0c_ok ak) ⟨aV,aV,trivial⟩ (fun _=>⟨(bH iM),trivial⟩)) R ?_
 rintro ⟨g,aq,i⟩
 refine aL 2 aB ?_
 rintro rfl
 refine bZ ?_
 obtain ⟨b0,a5,a⟩:=bd a
 refine aP ?_
 refine lM _ (tE 7 [2,6,0,1,3,4,5]) ?_
 refine lC 2 oJ R (FnOk.lends (A':=[OO kT3 3 g i j,OO kT3 3 A14 D14 l]) (A:=[RR kT3 g i j,RR kT3 A14 D14 l]) (B:=[]) (Zx_ok a5) ⟨aV,aV,trivial⟩ (fun _=>trivial)) R ?_
 rintro _
 refine aP ?_
 split at a
 refine cV ?_
 cases a
 exact qF () (tE 11 [])
 refine bZ ?_
 obtain ⟨G,T,a⟩:=bd a
 obtain ⟨ar,aa,a⟩:=bd a
 refine dF 5 [] bP fun ht hn=>?_
 refine gR 0 [] ?_
 refine d1 2 R (lM _ (fun w s=>(((s.d 8 R).d 10 R).f 9 [1,1,0,1,2,7])) ?_)
 refine lC 2 ur R (Z1b_ok T) R ?_
 rintro ⟨⟨a8,au,a7⟩,⟨a9,b2,L⟩⟩
 refine aL 0 aB ?_
 rintro rfl
 refine aL 1 aB ?_
 rintro rfl
 refine aC (aG (sL [1,0]) (d1 3 R (lM _ (fun w s=>(s.f 9 [4,2,0,4,6,3])) ?_)))
 refine lC 4 Bf R (FnOk.lends (A':=[OO dA 54 F E b.Nodes,OO kT3 3 q u b.Outs,OO dA 54 a8 a7 G.Nodes,OO kT3 3 a9 L G.Outs]) (A:=[RR dA F E b.Nodes,RR kT3 q u b.Outs,RR dA a8 a7 G.Nodes,RR kT3 a9 L G.Outs]) (B:=[]) (Z2i_ok aa) ⟨aV,aV,aV,aV,trivial⟩ (fun _=>trivial)) R ?_
 rintro _
 refine aC (aG (fun w s=>(s.f 9 [4,2,0,2,6,3])) (dR 4 R (rZ R) (hS:=(fun w s=>(s.f 9 [4,2,0,2,6,3]))) (dD (aI ?_))))
 split at a
 refine cV ?_
 cases a
 exact qF () (tE 13 [])
 refine cU ?_
 obtain ⟨a0,ah,a⟩:=bd a
 refine aP ?_
 refine lC 2 Bi R (Z26_ok ah) R ?_
 rintro _
 refine bZ ?_
 obtain ⟨an,ai,a⟩:=bd a
 refine cQ [(1,(pt b4 0)),(4,(sc A14 l D14)),(6,(sc g j i)),(42,(.bool ((decide (a0.1<0))||(!an))))] (OO kT3 3 A14 D14 l::OO kT3 3 g i j::W1) ?_ ?_
 refine bG ?_
 rcases bo (decide (a0.1<0)) with D | D
 refine bT ?_
 exact qj (tE 9 [5,4])
 refine aU ?_
 refine lM _ (fun w s=>(s.f 9 [4,2,0,4,6,3])) ?_
 refine bX 2 R (cA D) oJ R (FnOk.lends (A':=[OO kT3 3 g i j,OO kT3 3 A14 D14 l]) (A:=[RR kT3 g i j,RR kT3 A14 D14 l]) (B:=[]) (Zx_ok (bN ai (cT D))) ⟨aV,aV,trivial⟩ (fun _=>trivial)) R ?_
 rintro _
 refine aP ?_
 exact qj (tE 9 [1,0])
 rintro σ1
 refine bU ?_
 split at a
 refine cV ?_
 cases a
 exact qF () (tE 6 [])
 refine cU ?_
 obtain ⟨I,ag,a⟩:=bd a
 refine aP ?_
 refine lM _ (tE 2 [1,0]) ?_
 refine lC 1 r1 R (Zv_ok ag) R ?_
 rintro _
 refine cU ?_
 obtain ⟨av,a3,a⟩:=bd a
 refine aP ?_
 refine lC 1 zL R (FnOk.lends (A':=[ow kT3 3 (.slice g j.length i) I.2]) (A:=[aN kT3 (.slice g j.length i) I.2]) (B:=[]) (Z0d_ok a3) ⟨aV,trivial⟩ (fun _=>trivial)) R ?_
 rintro _
 refine cP ?_
 split at a
 refine cV ?_
 cases a
 exact qF () (tE 6 [])
 refine hN ?_
 split at a
 refine cV ?_
 cases a
 exact qF () (tE 6 [])
 refine bG ?_
 obtain ⟨J,U,a⟩:=bd a
 obtain ⟨a4,Z,a⟩:=bd a
 refine aU ?_
 refine lM _ (fun w s=>(((s.d 3 R).d 5 R).e 4 [1,0,2,3])) ?_
 refine lC 2 ur R (Z1b_ok U) R ?_
 rintro ⟨⟨ae,az,a6⟩,⟨a2,b3,Y⟩⟩
 refine aL 0 aB ?_
 rintro rfl
 refine aL 1 aB ?_
 rintro rfl
 refine lM _ (fun w s=>((s.dg 7 R).e 5 [1,2,0,3,4])) ?_
 refine lC 3 zN R (FnOk.lends (A':=[OO dA 54 ae a6 J.Nodes,OO kT3 3 a2 Y J.Outs]) (A:=[RR dA ae a6 J.Nodes,RR kT3 a2 Y J.Outs]) (B:=[gl 0 mG]) (Z0c_ok Z) ⟨aV,aV,trivial⟩ (fun _=>⟨(bH iM),trivial⟩)) R ?_
 rintro ⟨O,ay,M⟩
 refine aL 2 aB ?_
 rintro rfl
 refine bZ ?_
 obtain ⟨ap,ab,a⟩:=bd a
 refine aP ?_
 refine lM _ (tE 5 [2,4,0,1,3]) ?_
 refine lC 2 oJ R (FnOk.lends (A':=[OO kT3 3 O M a4,OO kT3 3 A14 D14 l]) (A:=[RR kT3 O M a4,RR kT3 A14 D14 l]) (B:=[]) (Zx_ok ab) ⟨aV,aV,trivial⟩ (fun _=>trivial)) R ?_
 rintro _
 refine aP ?_
 split at a
 refine cV ?_
 cases a
 exact qF () (tE 9 [])
 refine cU ?_
 obtain ⟨ax,aj,a⟩:=bd a
 refine aP ?_
 refine lM _ (fun w s=>(s.f 5 [4,1,0,4])) ?_
 refine lC 1 zL R (FnOk.lends (A':=[ow kT3 3 (.slice g j.length i) I.2]) (A:=[aN kT3 (.slice g j.length i) I.2]) (B:=[]) (Z0d_ok aj) ⟨aV,trivial⟩ (fun _=>trivial)) R ?_
 rintro _
 refine cP ?_
 split at a
 refine cV ?_
 cases a
 exact qF () (tE 9 [])
 refine hN ?_
 split at a
 refine cV ?_
 cases a
 exact qF () (tE 9 [])
 refine cU ?_
 cases a
 exact qF () (tE 9 [])
end Go.Proofs.YtmpnollfdpdipaaGreat
