import Derived.Test.YtmpnollfdpdipaaGreatGkF
import Derived.Test.YtmpnollfdpdipaaGreatGkW1
import Derived.Test.YtmpnollfdpdipaaGreatGkW4
import Derived.Test.YtmpnollfdpdipaaGreatGkW7
set_option linter.unusedVariables false
set_option maxRecDepth 20000
namespace Go.Proofs.YtmpnollfdpdipaaGreat
open Go Go.Pg
variable {A2 A3:Option Addr}{D2 D3 N2 N3:Nat}
theorem Z37_ok  {m:Graph}{mG:Int}{r:Bool}(a:Z37 m=some r) :
 FnOk Tryz.prog 5 [(.agg [(.slice A2 N2 D2),(.slice A3 N3 D3)].toArray)] [aO jL (.slice A2 N2 D2) m.Nodes,aO kT3 (.slice A3 N3 D3) m.Outs,gl 0 mG] (fun (h:Unit)=>((.bool r),[])):=by
 unfold Z37 at a
 refine aQ Tryz.func5 R 69 R R fun C V=>?_
 refine cL 0 aA ?_
 rintro rfl
 refine cL 1 aA ?_
 rintro rfl
 let W0:=RR jL A2 D2 m.Nodes::RR kT3 A3 D3 m.Outs::gl 0 mG::V
 refine cN W0 ?_
 refine aU ?_
 refine eG R fun b4=>?_
 refine aU ?_
 let W1:=aJ b4 [(sc A2 m.Nodes D2),(sc A3 m.Outs D3)] 25::W0
 refine qN W1 ?_
 refine dH ?_
 obtain ⟨r5,am,a⟩:=bd a
 refine aP ?_
 refine lM _ (fun w s=>(((s.d 1 R).d 3 R).e 2 [1,0])) ?_
 refine lC 2 cb9 R (Z2v_ok am) R ?_
 rintro _
 refine lN W1 ?_
 refine cT ?_
 split at a
 refine cV ?_
 cases a
 exact qF () (tE 4 [])
 refine bG ?_
 obtain ⟨r8,an,a⟩:=bd a
 obtain ⟨l,ak,a⟩:=bd a
 refine aU ?_
 refine lM _ (fun w s=>(((s.d 1 R).d 3 R).e 2 [1,0])) ?_
 refine lC 2 uh R (Z19_ok an) R ?_
 rintro ⟨⟨A10,N10,D10⟩,⟨A11,N11,D11⟩⟩
 refine aL 0 aB ?_
 rintro rfl
 refine aL 1 aB ?_
 rintro rfl
 refine iE (fun w s=>s.shr 0 R) (iE (fun w s=>s.shr 1 R) (lM _ (fun w s=>(((s.d 1 R).d 1 R).e 4 [1,0,2,3])) ?_))
 refine lC 2 B6 R (Z0l_ok ak) R ?_
 rintro ⟨A14,N14,D14⟩
 refine aL 0 dY ?_
 rintro rfl
 refine bG ?_
 obtain ⟨b,a1,a⟩:=bd a
 refine aU ?_
 refine lM _ (fun w s=>(((s.d 4 R).d 6 R).e 5 [1,0,2,3,4])) ?_
 refine lC 2 uh R (Z19_ok a1) R ?_
 rintro ⟨⟨u,au,F⟩,⟨E,ap,q⟩⟩
 refine aL 0 aB ?_
 rintro rfl
 refine aL 1 aB ?_
 rintro rfl
 refine bE R R wE (fun al=>(aK 0 R R sj R R R R R R (lN (aJ al [(sc u b.Nodes F),(sc E b.Outs q)] 30::_::_::_::_::_::W1) ?_)))
 refine aP ?_
 obtain ⟨g,ae,a⟩:=bd a
 refine aU ?_
 refine lM _ (fun w s=>((s.dg 9 R).f 7 [2,2,0,2,4,3])) ?_
 refine lC 3 zC R (FnOk.lends (A':=[OO dL 54 u F b.Nodes,OO kT3 3 E q b.Outs]) (A:=[RR dL u F b.Nodes,RR kT3 E q b.Outs]) (B:=[gl 0 mG]) (Z1x_ok ae) ⟨aY,aY,trivial⟩ (fun _=>⟨(bH wt),trivial⟩)) R ?_
 rintro ⟨i,b1,j⟩
 refine aL 2 aB ?_
 rintro rfl
 refine b' ?_
 obtain ⟨aw,ac,a⟩:=bd a
 refine aP ?_
 refine lM _ (tE 7 [2,4,0,1,3,5,6]) ?_
 refine lC 2 wK R (FnOk.lends (A':=[OO kT23 23 i j g,OO (kT23).share 23 A14 D14 l]) (A:=[RR kT23 i j g,RR kT23 A14 D14 l]) (B:=[]) (Z0i_ok ac) ⟨aY,jU,trivial⟩ (fun _=>trivial)) R ?_
 rintro _
 refine aP ?_
 split at a
 refine cV ?_
 cases a
 exact qF () (tE 11 [])
 refine b' ?_
 obtain ⟨J,Y,a⟩:=bd a
 obtain ⟨av,M,a⟩:=bd a
 refine dC 5 [] bO fun ht hn=>?_
 refine gO 0 [] ?_
 refine d1 2 R (lM _ (fun w s=>(((s.d 8 R).d 10 R).f 9 [1,1,0,1,2,7])) ?_)
 refine lC 2 uh R (Z19_ok Y) R ?_
 rintro ⟨⟨U,aq,ab⟩,⟨a2,az,aj⟩⟩
 refine aL 0 aB ?_
 rintro rfl
 refine aL 1 aB ?_
 rintro rfl
 refine aC (aG (sL [1,0]) (d1 3 R (lM _ (fun w s=>(s.f 9 [4,2,0,4,6,3])) ?_)))
 refine lC 4 B1 R (FnOk.lends (A':=[OO dL 54 u F b.Nodes,OO kT3 3 E q b.Outs,OO dL 54 U ab J.Nodes,OO kT3 3 a2 aj J.Outs]) (A:=[RR dL u F b.Nodes,RR kT3 E q b.Outs,RR dL U ab J.Nodes,RR kT3 a2 aj J.Outs]) (B:=[]) (Z2i_ok M) ⟨aY,aY,aY,aY,trivial⟩ (fun _=>trivial)) R ?_
 rintro _
 refine aC (aG (fun w s=>(s.f 9 [4,2,0,2,6,3])) (dR 4 R (rt R) (hS:=(fun w s=>(s.f 9 [4,2,0,2,6,3]))) (dD (aI ?_))))
 split at a
 refine cV ?_
 cases a
 exact qF () (tE 13 [])
 refine cP ?_
 obtain ⟨ag,a4,a⟩:=bd a
 refine aP ?_
 refine lC 2 B4 R (Z25_ok a4) R ?_
 rintro _
 refine b' ?_
 obtain ⟨ao,a8,a⟩:=bd a
 refine cQ [(1,(pt b4 0)),(4,(sc A14 l D14)),(6,(sc i g j)),(42,(.bool ((decide (ag.1<0))||(!ao))))] (OO (kT23).share 23 A14 D14 l::OO kT23 23 i j g::W1) ?_ ?_
 refine bG ?_
 rcases bo (decide (ag.1<0)) with D | D
 refine bS ?_
 exact qj (tE 9 [5,4])
 refine aU ?_
 refine lM _ (fun w s=>(s.f 9 [4,2,0,4,6,3])) ?_
 refine bW 2 R (bY D) wK R (FnOk.lends (A':=[OO kT23 23 i j g,OO (kT23).share 23 A14 D14 l]) (A:=[RR kT23 i j g,RR kT23 A14 D14 l]) (B:=[]) (Z0i_ok (bJ a8 (cO D))) ⟨aY,jU,trivial⟩ (fun _=>trivial)) R ?_
 rintro _
 refine aP ?_
 exact qj (tE 9 [1,0])
 rintro σ1
 refine bR ?_
 split at a
 refine cV ?_
 cases a
 exact qF () (tE 6 [])
 refine cP ?_
 obtain ⟨G,ah,a⟩:=bd a
 refine aP ?_
 refine lM _ (tE 2 [1,0]) ?_
 refine lC 1 Ba R (Z0j_ok ah) R ?_
 rintro _
 refine cP ?_
 obtain ⟨ar,aa,a⟩:=bd a
 refine aP ?_
 refine lC 1 zD R (FnOk.lends (A':=[ow kT23 23 (.slice i g.length j) G.2]) (A:=[aO kT23 (.slice i g.length j) G.2]) (B:=[]) (Z0c_ok aa) ⟨aY,trivial⟩ (fun _=>trivial)) R ?_
 rintro _
 refine cT ?_
 split at a
 refine cV ?_
 cases a
 exact qF () (tE 6 [])
 refine iu ?_
 split at a
 refine cV ?_
 cases a
 exact qF () (tE 6 [])
 refine bG ?_
 obtain ⟨I,a6,a⟩:=bd a
 obtain ⟨O,a5,a⟩:=bd a
 refine aU ?_
 refine lM _ (fun w s=>(((s.d 3 R).d 5 R).e 4 [1,0,2,3])) ?_
 refine lC 2 uh R (Z19_ok a6) R ?_
 rintro ⟨⟨L,ax,a9⟩,⟨T,b2,a7⟩⟩
 refine aL 0 aB ?_
 rintro rfl
 refine aL 1 aB ?_
 rintro rfl
 refine lM _ (fun w s=>((s.dg 7 R).e 5 [1,2,0,3,4])) ?_
 refine lC 3 zC R (FnOk.lends (A':=[OO dL 54 L a9 I.Nodes,OO kT3 3 T a7 I.Outs]) (A:=[RR dL L a9 I.Nodes,RR kT3 T a7 I.Outs]) (B:=[gl 0 mG]) (Z1x_ok a5) ⟨aY,aY,trivial⟩ (fun _=>⟨(bH wt),trivial⟩)) R ?_
 rintro ⟨Z,b0,a3⟩
 refine aL 2 aB ?_
 rintro rfl
 refine b' ?_
 obtain ⟨ay,ai,a⟩:=bd a
 refine aP ?_
 refine lM _ (tE 5 [2,4,0,1,3]) ?_
 refine lC 2 wK R (FnOk.lends (A':=[OO kT23 23 Z a3 O,OO (kT23).share 23 A14 D14 l]) (A:=[RR kT23 Z a3 O,RR kT23 A14 D14 l]) (B:=[]) (Z0i_ok ai) ⟨aY,jU,trivial⟩ (fun _=>trivial)) R ?_
 rintro _
 refine aP ?_
 split at a
 refine cV ?_
 cases a
 exact qF () (tE 9 [])
 refine cP ?_
 obtain ⟨b3,a0,a⟩:=bd a
 refine aP ?_
 refine lM _ (fun w s=>(s.f 5 [4,1,0,4])) ?_
 refine lC 1 zD R (FnOk.lends (A':=[ow kT23 23 (.slice i g.length j) G.2]) (A:=[aO kT23 (.slice i g.length j) G.2]) (B:=[]) (Z0c_ok a0) ⟨aY,trivial⟩ (fun _=>trivial)) R ?_
 rintro _
 refine cT ?_
 split at a
 refine cV ?_
 cases a
 exact qF () (tE 9 [])
 refine iu ?_
 split at a
 refine cV ?_
 cases a
 exact qF () (tE 9 [])
 refine cP ?_
 cases a
 exact qF () (tE 9 [])
end Go.Proofs.YtmpnollfdpdipaaGreat
