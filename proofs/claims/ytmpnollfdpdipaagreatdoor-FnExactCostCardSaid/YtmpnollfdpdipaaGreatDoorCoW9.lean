import Derived.Test.YtmpnollfdpdipaaGreatDoorCoF
import Derived.Test.YtmpnollfdpdipaaGreatDoorCoW1
import Derived.Test.YtmpnollfdpdipaaGreatDoorCoW5
import Derived.Test.YtmpnollfdpdipaaGreatDoorCoW8
set_option linter.unusedVariables false
set_option maxRecDepth 20000
namespace Go.Proofs.YtmpnollfdpdipaaGreatDoor
open Go Go.Pg
variable {A2 A3:Option Addr}{D2 D3 N2 N3:Nat}
theorem Z34_ok  {g:Graph}{mG:Int}{r:Bool}(a:Z34 g=some r) :
 FnOk Tryz.prog 7 [(.agg [(.slice A2 N2 D2),(.slice A3 N3 D3)].toArray)] [aO hO (.slice A2 N2 D2) g.Nodes,aO kT3 (.slice A3 N3 D3) g.Outs,gl 0 mG] (fun (h:Unit)=>((.bool r),[])):=by
 unfold Z34 at a
 refine aR Tryz.func7 R 27 R R fun C V=>?_
 refine cL 0 aA ?_
 rintro rfl
 refine cL 1 aA ?_
 rintro rfl
 let W0:=RR hO A2 D2 g.Nodes::RR kT3 A3 D3 g.Outs::gl 0 mG::V
 refine cN W0 ?_
 refine aU ?_
 refine eE R fun b4=>?_
 refine aU ?_
 let T:=aJ b4 [(sc A2 g.Nodes D2),(sc A3 g.Outs D3)] 62::W0
 refine qN T ?_
 refine dO ?_
 obtain ⟨r5,Y,a⟩:=bd a
 refine aP ?_
 refine lM _ (fun w s=>(((s.d 1 R).d 3 R).e 2 [1,0])) ?_
 refine lC 2 AV R (Z2r_ok Y) R ?_
 rintro _
 refine lN T ?_
 refine cU ?_
 split at a
 refine dA ?_
 cases a
 exact qF () (tE 4 [])
 refine bH ?_
 obtain ⟨O,Z,a⟩:=bd a
 obtain ⟨a4,G,a⟩:=bd a
 refine aU ?_
 refine lM _ (fun w s=>(((s.d 1 R).d 3 R).e 2 [1,0])) ?_
 refine lC 2 wE R (Z1s_ok Z) R ?_
 rintro ⟨⟨A10,N10,D10⟩,⟨A11,N11,D11⟩⟩
 refine aL 0 aB ?_
 rintro rfl
 refine aL 1 aB ?_
 rintro rfl
 refine lC 2 B0 R (FnOk.lends (A':=[OO cB 171 A10 D10 O.Nodes,OO kT3 3 A11 D11 O.Outs]) (A:=[RR cB A10 D10 O.Nodes,RR kT3 A11 D11 O.Outs]) (B:=[]) (Z4_ok G) ⟨aY,aY,trivial⟩ (fun _=>trivial)) R ?_
 rintro _
 refine bH ?_
 obtain ⟨b,I,a⟩:=bd a
 refine aU ?_
 refine lM _ (fun w s=>(((s.d 3 R).d 5 R).e 4 [1,0,2,3])) ?_
 refine lC 2 wE R (Z1s_ok I) R ?_
 rintro ⟨⟨i,a0,l⟩,⟨j,a1,m⟩⟩
 refine aL 0 aB ?_
 rintro rfl
 refine aL 1 aB ?_
 rintro rfl
 refine bD R R wC (fun U=>(aK 0 R R og R R R R R R (lN (aJ U [(sc i b.Nodes l),(sc j b.Outs m)] 67::_::_::_::_::T) ?_)))
 refine aP ?_
 obtain ⟨a5,J,a⟩:=bd a
 refine aU ?_
 refine lM _ (fun w s=>((s.dg 8 R).e 6 [2,3,0,1,4,5])) ?_
 refine lC 3 Ba R (FnOk.lends (A':=[OO cB 171 i l b.Nodes,OO kT3 3 j m b.Outs]) (A:=[RR cB i l b.Nodes,RR kT3 j m b.Outs]) (B:=[gl 0 mG]) (Zw_ok J) ⟨aY,aY,trivial⟩ (fun _=>trivial)) R ?_
 rintro _
 refine iD ?_
 split at a
 refine dA ?_
 cases a
 exact qF () (tE 9 [])
 refine b' ?_
 obtain ⟨q,L,a⟩:=bd a
 obtain ⟨a6,M,a⟩:=bd a
 refine dF 5 [] bO fun ht hn=>?_
 refine gW 0 [] ?_
 refine d1 2 R (lM _ (fun w s=>(((s.d 6 R).d 8 R).f 7 [1,1,0,1,2,5])) ?_)
 refine lC 2 wE R (Z1s_ok L) R ?_
 rintro ⟨⟨u,a2,E⟩,⟨D,a3,F⟩⟩
 refine aL 0 aB ?_
 rintro rfl
 refine aL 1 aB ?_
 rintro rfl
 refine aC (aG (sL [1,0]) (d1 3 R (lM _ (fun w s=>(s.f 7 [2,2,0,2,4,3])) ?_)))
 refine lC 4 Bb R (FnOk.lends (A':=[OO cB 171 i l b.Nodes,OO kT3 3 j m b.Outs,OO cB 171 u E q.Nodes,OO kT3 3 D F q.Outs]) (A:=[RR cB i l b.Nodes,RR kT3 j m b.Outs,RR cB u E q.Nodes,RR kT3 D F q.Outs]) (B:=[]) (Z2q_ok M) ⟨aY,aY,aY,aY,trivial⟩ (fun _=>trivial)) R ?_
 rintro _
 refine aC (aG (sL [3,2]) ?_)
 refine m6 4 [3,2] ?_
 refine dD (aI ?_)
 split at a
 refine dA ?_
 cases a
 exact qF () (tE 11 [])
 refine cY ?_
 cases a
 exact qF () (tE 11 [])
end Go.Proofs.YtmpnollfdpdipaaGreatDoor
