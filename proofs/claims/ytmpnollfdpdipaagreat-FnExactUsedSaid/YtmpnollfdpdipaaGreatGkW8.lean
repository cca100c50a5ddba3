import Derived.Test.YtmpnollfdpdipaaGreatGkF
import Derived.Test.YtmpnollfdpdipaaGreatGkW1
import Derived.Test.YtmpnollfdpdipaaGreatGkW4
import Derived.Test.YtmpnollfdpdipaaGreatGkW7
set_option linter.unusedVariables false
set_option maxRecDepth 20000
namespace Go.Proofs.YtmpnollfdpdipaaGreat
open Go Go.Pg
variable {A2 A3:Option Addr}{D2 D3 N2 N3:Nat}
theorem Z36_ok  {m:Graph}{mG:Int}{r:Bool}(a:Z36 m=some r) :
 FnOk Tryz.prog 6 [(.agg [(.slice A2 N2 D2),(.slice A3 N3 D3)].toArray)] [aO jV (.slice A2 N2 D2) m.Nodes,aO kT3 (.slice A3 N3 D3) m.Outs,gl 0 mG] (fun (h:Unit)=>((.bool r),[])):=by
 unfold Z36 at a
 refine aQ Tryz.func6 R 69 R R fun C V=>?_
 refine cL 0 aA ?_
 rintro rfl
 refine cL 1 aA ?_
 rintro rfl
 let W0:=RR jV A2 D2 m.Nodes::RR kT3 A3 D3 m.Outs::gl 0 mG::V
 refine cN W0 ?_
 refine aV ?_
 refine eB R fun b4=>?_
 refine aV ?_
 let W1:=aJ b4 [(sc A2 m.Nodes D2),(sc A3 m.Outs D3)] 25::W0
 refine qN W1 ?_
 refine dN ?_
 obtain ⟨r5,ao,a⟩:=bd a
 refine aP ?_
 refine lM _ (fun w s=>(((s.d 1 R).d 3 R).e 2 [1,0])) ?_
 refine lC 2 cb9 R (Z2u_ok ao) R ?_
 rintro _
 refine lN W1 ?_
 refine cU ?_
 split at a
 refine cZ ?_
 cases a
 exact qF () (tE 4 [])
 refine bG ?_
 obtain ⟨r8,al,a⟩:=bd a
 obtain ⟨l,ak,a⟩:=bd a
 refine aV ?_
 refine lM _ (fun w s=>(((s.d 1 R).d 3 R).e 2 [1,0])) ?_
 refine lC 2 uC R (Z19_ok al) R ?_
 rintro ⟨⟨A10,N10,D10⟩,⟨A11,N11,D11⟩⟩
 refine aL 0 aB ?_
 rintro rfl
 refine aL 1 aB ?_
 rintro rfl
 refine lC 2 Bs R (FnOk.lends (A':=[OO cJ 54 A10 D10 r8.Nodes,OO kT3 3 A11 D11 r8.Outs]) (A:=[RR cJ A10 D10 r8.Nodes,RR kT3 A11 D11 r8.Outs]) (B:=[]) (Z04_ok ak) ⟨aU,aU,trivial⟩ (fun _=>⟨(bI iW),trivial⟩)) R ?_
 rintro ⟨A14,N14,D14⟩
 refine aL 2 aB ?_
 rintro rfl
 refine bG ?_
 obtain ⟨b,a2,a⟩:=bd a
 refine aV ?_
 refine lM _ (fun w s=>(((s.d 4 R).d 6 R).e 5 [1,0,2,3,4])) ?_
 refine lC 2 uC R (Z19_ok a2) R ?_
 rintro ⟨⟨q,aq,E⟩,⟨F,aw,u⟩⟩
 refine aL 0 aB ?_
 rintro rfl
 refine aL 1 aB ?_
 rintro rfl
 refine bF R R wU (fun an=>(aK 0 R R nD R R R R R R (lN (aJ an [(sc q b.Nodes E),(sc F b.Outs u)] 30::_::_::_::_::_::W1) ?_)))
 refine aP ?_
 obtain ⟨j,ai,a⟩:=bd a
 refine aV ?_
 refine lM _ (fun w s=>((s.dg 9 R).f 7 [2,2,0,2,4,3])) ?_
 refine lC 3 zU R (FnOk.lends (A':=[OO cJ 54 q E b.Nodes,OO kT3 3 F u b.Outs]) (A:=[RR cJ q E b.Nodes,RR kT3 F u b.Outs]) (B:=[gl 0 mG]) (Z0a_ok ai) ⟨aU,aU,trivial⟩ (fun _=>⟨(bI iW),trivial⟩)) R ?_
 rintro ⟨g,b2,i⟩
 refine aL 2 aB ?_
 rintro rfl
 refine cA ?_
 obtain ⟨au,aa,a⟩:=bd a
 refine aP ?_
 refine lM _ (tE 7 [2,6,0,1,3,4,5]) ?_
 refine lC 2 oM R (FnOk.lends (A':=[OO kT3 3 g i j,OO kT3 3 A14 D14 l]) (A:=[RR kT3 g i j,RR kT3 A14 D14 l]) (B:=[]) (Zw_ok aa) ⟨aU,aU,trivial⟩ (fun _=>trivial)) R ?_
 rintro _
 refine aP ?_
 split at a
 refine cZ ?_
 cases a
 exact qF () (tE 11 [])
 refine cA ?_
 obtain ⟨J,a6,a⟩:=bd a
 obtain ⟨b0,U,a⟩:=bd a
 refine dG 5 [] bP fun ht hn=>?_
 refine gT 0 [] ?_
 refine d1 2 R (lM _ (fun w s=>(((s.d 8 R).d 10 R).f 9 [1,1,0,1,2,7])) ?_)
 refine lC 2 uC R (Z19_ok a6) R ?_
 rintro ⟨⟨aj,ax,ae⟩,⟨T,av,a1⟩⟩
 refine aL 0 aB ?_
 rintro rfl
 refine aL 1 aB ?_
 rintro rfl
 refine aC (aG (sL [1,0]) (d1 3 R (lM _ (fun w s=>(s.f 9 [4,2,0,4,6,3])) ?_)))
 refine lC 4 Bn R (FnOk.lends (A':=[OO cJ 54 q E b.Nodes,OO kT3 3 F u b.Outs,OO cJ 54 aj ae J.Nodes,OO kT3 3 T a1 J.Outs]) (A:=[RR cJ q E b.Nodes,RR kT3 F u b.Outs,RR cJ aj ae J.Nodes,RR kT3 T a1 J.Outs]) (B:=[]) (Z2g_ok U) ⟨aU,aU,aU,aU,trivial⟩ (fun _=>trivial)) R ?_
 rintro _
 refine aC (aG (fun w s=>(s.f 9 [4,2,0,2,6,3])) (dR 4 R (rJ R) (hS:=(fun w s=>(s.f 9 [4,2,0,2,6,3]))) (dD (aI ?_))))
 split at a
 refine cZ ?_
 cases a
 exact qF () (tE 13 [])
 refine cX ?_
 obtain ⟨Z,ah,a⟩:=bd a
 refine aP ?_
 refine lC 2 Bq R (Z24_ok ah) R ?_
 rintro _
 refine cA ?_
 obtain ⟨am,Y,a⟩:=bd a
 refine cQ [(1,(pt b4 0)),(4,(sc A14 l D14)),(6,(sc g j i)),(42,(.bool ((decide (Z.1<0))||(!am))))] (OO kT3 3 A14 D14 l::OO kT3 3 g i j::W1) ?_ ?_
 refine bG ?_
 rcases bo (decide (Z.1<0)) with D | D
 refine bV ?_
 exact qj (tE 9 [5,4])
 refine aV ?_
 refine lM _ (fun w s=>(s.f 9 [4,2,0,4,6,3])) ?_
 refine bY 2 R (b' D) oM R (FnOk.lends (A':=[OO kT3 3 g i j,OO kT3 3 A14 D14 l]) (A:=[RR kT3 g i j,RR kT3 A14 D14 l]) (B:=[]) (Zw_ok (bN Y (cS D))) ⟨aU,aU,trivial⟩ (fun _=>trivial)) R ?_
 rintro _
 refine aP ?_
 exact qj (tE 9 [1,0])
 rintro σ1
 refine bT ?_
 split at a
 refine cZ ?_
 cases a
 exact qF () (tE 6 [])
 refine cX ?_
 obtain ⟨G,a3,a⟩:=bd a
 refine aP ?_
 refine lM _ (tE 2 [1,0]) ?_
 refine lC 1 ri R (Zu_ok a3) R ?_
 rintro _
 refine cX ?_
 obtain ⟨az,a8,a⟩:=bd a
 refine aP ?_
 refine lC 1 zS R (FnOk.lends (A':=[ow kT3 3 (.slice g j.length i) G.2]) (A:=[aO kT3 (.slice g j.length i) G.2]) (B:=[]) (Z0d_ok a8) ⟨aU,trivial⟩ (fun _=>trivial)) R ?_
 rintro _
 refine cU ?_
 split at a
 refine cZ ?_
 cases a
 exact qF () (tE 6 [])
 refine iB ?_
 split at a
 refine cZ ?_
 cases a
 exact qF () (tE 6 [])
 refine bG ?_
 obtain ⟨I,O,a⟩:=bd a
 obtain ⟨a0,a4,a⟩:=bd a
 refine aV ?_
 refine lM _ (fun w s=>(((s.d 3 R).d 5 R).e 4 [1,0,2,3])) ?_
 refine lC 2 uC R (Z19_ok O) R ?_
 rintro ⟨⟨M,b1,ab⟩,⟨a5,ar,L⟩⟩
 refine aL 0 aB ?_
 rintro rfl
 refine aL 1 aB ?_
 rintro rfl
 refine lM _ (fun w s=>((s.dg 7 R).e 5 [1,2,0,3,4])) ?_
 refine lC 3 zU R (FnOk.lends (A':=[OO cJ 54 M ab I.Nodes,OO kT3 3 a5 L I.Outs]) (A:=[RR cJ M ab I.Nodes,RR kT3 a5 L I.Outs]) (B:=[gl 0 mG]) (Z0a_ok a4) ⟨aU,aU,trivial⟩ (fun _=>⟨(bI iW),trivial⟩)) R ?_
 rintro ⟨a7,ap,ac⟩
 refine aL 2 aB ?_
 rintro rfl
 refine cA ?_
 obtain ⟨b3,ag,a⟩:=bd a
 refine aP ?_
 refine lM _ (tE 5 [2,4,0,1,3]) ?_
 refine lC 2 oM R (FnOk.lends (A':=[OO kT3 3 a7 ac a0,OO kT3 3 A14 D14 l]) (A:=[RR kT3 a7 ac a0,RR kT3 A14 D14 l]) (B:=[]) (Zw_ok ag) ⟨aU,aU,trivial⟩ (fun _=>trivial)) R ?_
 rintro _
 refine aP ?_
 split at a
 refine cZ ?_
 cases a
 exact qF () (tE 9 [])
 refine cX ?_
 obtain ⟨ay,a9,a⟩:=bd a
 refine aP ?_
 refine lM _ (fun w s=>(s.f 5 [4,1,0,4])) ?_
 refine lC 1 zS R (FnOk.lends (A':=[ow kT3 3 (.slice g j.length i) G.2]) (A:=[aO kT3 (.slice g j.length i) G.2]) (B:=[]) (Z0d_ok a9) ⟨aU,trivial⟩ (fun _=>trivial)) R ?_
 rintro _
 refine cU ?_
 split at a
 refine cZ ?_
 cases a
 exact qF () (tE 9 [])
 refine iB ?_
 split at a
 refine cZ ?_
 cases a
 exact qF () (tE 9 [])
 refine cX ?_
 cases a
 exact qF () (tE 9 [])
end Go.Proofs.YtmpnollfdpdipaaGreat
