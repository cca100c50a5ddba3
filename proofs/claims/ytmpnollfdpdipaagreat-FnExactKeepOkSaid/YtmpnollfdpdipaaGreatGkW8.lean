import Derived.Test.YtmpnollfdpdipaaGreatGkF
import Derived.Test.YtmpnollfdpdipaaGreatGkW1
import Derived.Test.YtmpnollfdpdipaaGreatGkW4
import Derived.Test.YtmpnollfdpdipaaGreatGkW7
set_option linter.unusedVariables false
set_option maxRecDepth 20000
namespace Go.Proofs.YtmpnollfdpdipaaGreat
open Go Go.Pg
variable {A2 A3 A5:Option Addr}{D2 D3 D5 N2 N3 N5:Nat}
theorem Z3a_ok  {i:Graph}{g:(List Int)}{mG:Int}{r:Bool}(a:Z3a i g=some r) :
 FnOk Tryz.prog 7 [(.agg [(.slice A2 N2 D2),(.slice A3 N3 D3)].toArray),(.slice A5 N5 D5)] [aN jD (.slice A2 N2 D2) i.Nodes,aN kT3 (.slice A3 N3 D3) i.Outs,aN kT3 (.slice A5 N5 D5) g,gl 0 mG] (fun (h:Unit)=>((.bool r),[])):=by
 unfold Z3a at a
 refine aQ Tryz.func7 R 43 R R fun C V=>?_
 refine cL 0 aA ?_
 rintro rfl
 refine cL 1 aA ?_
 rintro rfl
 refine cL 2 aA ?_
 rintro rfl
 let W0:=RR jD A2 D2 i.Nodes::RR kT3 A3 D3 i.Outs::RR kT3 A5 D5 g::gl 0 mG::V
 refine cN W0 ?_
 refine aR ?_
 refine eA R fun b6=>?_
 refine aR ?_
 let W1:=aI b6 [(sc A2 i.Nodes D2),(sc A3 i.Outs D3)] 25::W0
 refine qN W1 ?_
 refine cO ?_
 split at a
 refine cU ?_
 cases a
 exact qF () (tE 5 [])
 refine cO ?_
 obtain ⟨r8,ag,a⟩:=bd a
 refine aP ?_
 refine lM _ (fun w s=>(((s.d 1 R).d 3 R).e 2 [1,0])) ?_
 refine lC 2 cb9 R (Z2v_ok ag) R ?_
 rintro _
 refine lN W1 ?_
 refine cW ?_
 split at a
 refine cU ?_
 cases a
 exact qF () (tE 5 [])
 refine bF ?_
 obtain ⟨E,a1,a⟩:=bd a
 obtain ⟨ab,a2,a⟩:=bd a
 obtain ⟨ap,a3,a⟩:=bd a
 refine aR ?_
 refine lM _ (fun w s=>(((s.d 1 R).d 3 R).e 2 [1,0])) ?_
 refine lC 2 wj R (Z1r_ok a1) R ?_
 rintro ⟨⟨I,ah,T⟩,⟨A14,N14,D14⟩⟩
 refine aL 0 aB ?_
 rintro rfl
 refine aL 1 aB ?_
 rintro rfl
 refine lS R (lM _ (fun w s=>(s.d 5 R)) ?_)
 refine lC 1 n' R (Ze_ok a2) R ?_
 rintro ⟨J,ai,U⟩
 refine aL 0 aB ?_
 rintro rfl
 refine lM _ (tE 3 [1,2,0]) ?_
 refine lC 3 AY R (FnOk.lends (A':=[OO dU 54 I T E.Nodes,OO kT3 3 A14 D14 E.Outs,OO kT3 3 J U ab]) (A:=[RR dU I T E.Nodes,RR kT3 A14 D14 E.Outs,RR kT3 J U ab]) (B:=[]) (Z2j_ok a3) ⟨aX,aX,aX,trivial⟩ (fun _=>trivial)) R ?_
 rintro _
 refine bF ?_
 obtain ⟨b,a4,a⟩:=bd a
 refine aR ?_
 refine lM _ (fun w s=>(((s.d 4 R).d 6 R).e 5 [1,0,2,3,4])) ?_
 refine lC 2 wj R (Z1r_ok a4) R ?_
 rintro ⟨⟨j,aj,m⟩,⟨l,ak,q⟩⟩
 refine aL 0 aB ?_
 rintro rfl
 refine aL 1 aB ?_
 rintro rfl
 refine bD R R wd (fun ae=>(aK 0 R R wg R R R R R R (lN (aI ae [(sc j b.Nodes m),(sc l b.Outs q)] 30::_::_::_::_::_::W1) ?_)))
 refine aP ?_
 obtain ⟨F,a5,a⟩:=bd a
 refine aR ?_
 refine lM _ (fun w s=>(s.d 9 R)) ?_
 refine lC 1 n' R (Ze_ok a5) R ?_
 rintro ⟨u,al,D⟩
 refine aL 0 aB ?_
 rintro rfl
 refine bF ?_
 obtain ⟨aq,a6,a⟩:=bd a
 refine aP ?_
 refine lM _ (fun w s=>((s.dg 11 R).e 8 [3,4,1,0,2,5,6,7])) ?_
 refine lC 4 B5 R (FnOk.lends (A':=[OO dU 54 j m b.Nodes,OO kT3 3 l q b.Outs,OO kT3 3 u D F]) (A:=[RR dU j m b.Nodes,RR kT3 l q b.Outs,RR kT3 u D F]) (B:=[gl 0 mG]) (Z0v_ok a6) ⟨aX,aX,aX,trivial⟩ (fun _=>trivial)) R ?_
 rintro _
 refine cU ?_
 refine lO (xB un4 R R) ?_
 refine aR ?_
 split at a
 refine cU ?_
 cases a
 exact qF () (tE 12 [])
 refine cB ?_
 obtain ⟨G,a7,a⟩:=bd a
 obtain ⟨ar,a8,a⟩:=bd a
 refine cZ 5 [] bN fun ht hn=>?_
 refine gN 0 [] ?_
 refine d1 2 R (lM _ (fun w s=>(((s.d 8 R).d 10 R).f 9 [1,1,0,1,2,7])) ?_)
 refine lC 2 wj R (Z1r_ok a7) R ?_
 rintro ⟨⟨L,am,Y⟩,⟨M,an,Z⟩⟩
 refine aL 0 aB ?_
 rintro rfl
 refine aL 1 aB ?_
 rintro rfl
 refine aC (aE (sL [1,0]) (d1 3 R (lM _ (fun w s=>(s.f 9 [2,2,0,2,4,5])) ?_)))
 refine lC 4 AT R (FnOk.lends (A':=[OO dU 54 j m b.Nodes,OO kT3 3 l q b.Outs,OO dU 54 L Y G.Nodes,OO kT3 3 M Z G.Outs]) (A:=[RR dU j m b.Nodes,RR kT3 l q b.Outs,RR dU L Y G.Nodes,RR kT3 M Z G.Outs]) (B:=[]) (Z2u_ok a8) ⟨aX,aX,aX,aX,trivial⟩ (fun _=>trivial)) R ?_
 rintro _
 refine aC (aE (sL [3,2]) ?_)
 refine mA 4 [3,2] ?_
 refine dD (aJ ?_)
 split at a
 refine cU ?_
 cases a
 exact qF () (tE 14 [])
 refine cB ?_
 obtain ⟨ac,a9,a⟩:=bd a
 obtain ⟨au,aa,a⟩:=bd a
 refine aP ?_
 refine lM _ (fun w s=>(s.d 12 R)) ?_
 refine lC 1 n' R (Ze_ok a9) R ?_
 rintro ⟨O,ao,a0⟩
 refine aL 0 aB ?_
 rintro rfl
 refine lM _ (fun w s=>(s.f 10 [5,1,0,5,6,4])) ?_
 refine lC 2 qq R (FnOk.lends (A':=[OO kT3 3 u D F,OO kT3 3 O a0 ac]) (A:=[RR kT3 u D F,RR kT3 O a0 ac]) (B:=[]) (Z07_ok aa) ⟨aX,aX,trivial⟩ (fun _=>trivial)) R ?_
 rintro _
 refine aP ?_
 split at a
 refine cU ?_
 cases a
 exact qF () (tE 15 [])
 refine cO ?_
 cases a
 exact qF () (tE 15 [])
end Go.Proofs.YtmpnollfdpdipaaGreat
