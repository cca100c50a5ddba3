import Derived.Test.YtoffdamdpmeoiaaGreatDoorBkF
import Derived.Test.YtoffdamdpmeoiaaGreatDoorBkW1
import Derived.Test.YtoffdamdpmeoiaaGreatDoorBkW5
import Derived.Test.YtoffdamdpmeoiaaGreatDoorBkW9
set_option linter.unusedVariables false
set_option maxRecDepth 20000
namespace Go.Proofs.YtoffdamdpmeoiaaGreatDoor
open Go Go.Pg
variable {A2 A3:Option Addr}{D2 D3 N2 N3:Nat}
theorem Z3i_ok  {F:Graph}{q:Int}{mG:Int}{r:Bool}(a:Z3i F q=some r) :
 FnOk Tryz.prog 3 [(.agg [(.slice A2 N2 D2),(.slice A3 N3 D3)].toArray),(iv q)] [aO ks (.slice A2 N2 D2) F.Nodes,aO kT3 (.slice A3 N3 D3) F.Outs,gG mG] (fun (h:Unit)=>((.bool r),[])):=by
 unfold Z3i at a
 refine aR Tryz.func3 R 74 R R fun C V=>?_
 refine cL 0 aA ?_
 rintro rfl
 refine cL 1 aA ?_
 rintro rfl
 let W0:=RR ks A2 D2 F.Nodes::RR kT3 A3 D3 F.Outs::gG mG::V
 refine cN W0 ?_
 refine aZ ?_
 refine eT R fun b5=>?_
 refine aZ ?_
 let W1:=aK b5 [(sc A2 F.Nodes D2),(sc A3 F.Outs D3)] 25::W0
 refine qN W1 ?_
 refine eD ?_
 obtain ⟨r6,av,a⟩:=bd a
 refine aV ?_
 refine lM _ (fun w s=>(((s.d 1 R).d 3 R).e 2 [1,0])) ?_
 refine lC 2 cb5 R (Z36_ok av) R ?_
 rintro _
 refine lN W1 ?_
 refine dJ ?_
 split at a
 refine dN ?_
 cases a
 exact qF () (tE 4 [])
 refine bL ?_
 obtain ⟨r9,a8,a⟩:=bd a
 obtain ⟨E,a9,a⟩:=bd a
 refine aZ ?_
 refine lM _ (fun w s=>(((s.d 1 R).d 3 R).e 2 [1,0])) ?_
 refine lC 2 Ce R (Z1i_ok a8) R ?_
 rintro ⟨⟨A11,N11,D11⟩,⟨A12,N12,D12⟩⟩
 refine aM 0 aD ?_
 rintro rfl
 refine aM 1 aD ?_
 rintro rfl
 refine lI R (lC 2 cb6 R (FnOk.lends (A':=[OO cJ 42 A11 D11 r9.Nodes,OO kT3 3 A12 D12 r9.Outs]) (A:=[RR cJ A11 D11 r9.Nodes,RR kT3 A12 D12 r9.Outs]) (B:=[]) (Z6_ok a9) ⟨aU,aU,trivial⟩ (fun _=>⟨(bN jw),trivial⟩)) R ?_)
 rintro ⟨u,ax,D⟩
 refine aM 2 aD ?_
 rintro rfl
 refine bL ?_
 obtain ⟨j,aa,a⟩:=bd a
 refine aZ ?_
 refine lM _ (fun w s=>(((s.d 4 R).d 6 R).e 5 [1,0,2,3,4])) ?_
 refine lC 2 Ce R (Z1i_ok aa) R ?_
 rintro ⟨⟨G,ay,J⟩,⟨I,az,L⟩⟩
 refine aM 0 aD ?_
 rintro rfl
 refine aM 1 aD ?_
 rintro rfl
 refine bG R R yy (fun au=>(aL 0 R R nj R R R R R R (lN (aK au [(sc G j.Nodes J),(sc I j.Outs L)] 30::_::_::_::_::_::W1) ?_)))
 refine aV ?_
 obtain ⟨l,ab,a⟩:=bd a
 refine aV ?_
 refine lM _ (fun w s=>((s.dgx 9 R).f 7 [2,2,0,2,4,3])) ?_
 refine lC 3 E4 R (FnOk.lends (A':=[OO cJ 42 G J j.Nodes,OO kT3 3 I L j.Outs]) (A:=[RR cJ G J j.Nodes,RR kT3 I L j.Outs]) (B:=[gG mG]) (Z9_ok ab) ⟨aU,aU,trivial⟩ (fun _=>⟨(bN jw),trivial⟩)) R ?_
 rintro ⟨b,b0,i⟩
 refine aM 2 aD ?_
 rintro rfl
 refine cV ?_
 obtain ⟨b7,ac,a⟩:=bd a
 refine aV ?_
 refine lM _ (tE 7 [2,6,0,1,3,4,5]) ?_
 refine lC 2 xC R (FnOk.lends (A':=[OO kT3 3 b i l,OO kT3 3 u D E]) (A:=[RR kT3 b i l,RR kT3 u D E]) (B:=[]) (Zz_ok ac) ⟨aU,aU,trivial⟩ (fun _=>trivial)) R ?_
 rintro _
 refine aV ?_
 split at a
 refine dN ?_
 cases a
 exact qF () (tE 11 [])
 refine cV ?_
 obtain ⟨O,ae,a⟩:=bd a
 obtain ⟨b8,ag,a⟩:=bd a
 refine dP 5 [] bS fun ht hn=>?_
 refine iM 0 [] ?_
 refine d1 2 R (lM _ (fun w s=>(((s.d 8 R).d 10 R).f 9 [1,1,0,1,2,7])) ?_)
 refine lC 2 Ce R (Z1i_ok ae) R ?_
 rintro ⟨⟨Y,b1,a3⟩,⟨Z,b2,a4⟩⟩
 refine aM 0 aD ?_
 rintro rfl
 refine aM 1 aD ?_
 rintro rfl
 refine aB (aJ (sL [1,0]) (d1 3 R (lM _ (fun w s=>(s.f 9 [4,2,0,4,6,3])) ?_)))
 refine lC 4 Dw R (FnOk.lends (A':=[OO cJ 42 G J j.Nodes,OO kT3 3 I L j.Outs,OO cJ 42 Y a3 O.Nodes,OO kT3 3 Z a4 O.Outs]) (A:=[RR cJ G J j.Nodes,RR kT3 I L j.Outs,RR cJ Y a3 O.Nodes,RR kT3 Z a4 O.Outs]) (B:=[]) (Z2s_ok ag) ⟨aU,aU,aU,aU,trivial⟩ (fun _=>trivial)) R ?_
 rintro _
 refine aB (aJ (fun w s=>(s.f 9 [4,2,0,2,6,3])) (dR 4 R (ne R) (hS:=(fun w s=>(s.f 9 [4,2,0,2,6,3]))) (dD (aE ?_))))
 split at a
 refine dN ?_
 cases a
 exact qF () (tE 13 [])
 refine dG ?_
 obtain ⟨aq,ai,a⟩:=bd a
 refine aV ?_
 refine lC 2 Dz R (Z2f_ok ai) R ?_
 rintro _
 refine cV ?_
 obtain ⟨aw,aj,a⟩:=bd a
 refine cQ [(1,(iv q)),(2,(pt b5 0)),(6,(sc u E D)),(8,(sc b l i)),(46,(.bool ((decide (aq.1<0))||(!aw))))] (OO kT3 3 u D E::OO kT3 3 b i l::W1) ?_ ?_
 refine bL ?_
 rcases bo (decide (aq.1<0)) with M | M
 refine cB ?_
 exact qj (tE 9 [5,4])
 refine aZ ?_
 refine lM _ (fun w s=>(s.f 9 [4,2,0,4,6,3])) ?_
 refine b' 2 R (bW M) xC R (FnOk.lends (A':=[OO kT3 3 b i l,OO kT3 3 u D E]) (A:=[RR kT3 b i l,RR kT3 u D E]) (B:=[]) (Zz_ok (bM aj (cZ M))) ⟨aU,aU,trivial⟩ (fun _=>trivial)) R ?_
 rintro _
 refine aV ?_
 exact qj (tE 9 [1,0])
 rintro σ1
 refine cP ?_
 split at a
 refine dN ?_
 cases a
 exact qF () (tE 6 [])
 refine dG ?_
 obtain ⟨T,ak,a⟩:=bd a
 refine aV ?_
 refine lM _ (tE 2 [1,0]) ?_
 refine lC 1 sK R (Zy_ok ak) R ?_
 rintro _
 refine dG ?_
 obtain ⟨b9,al,a⟩:=bd a
 refine aV ?_
 refine lC 1 BM R (FnOk.lends (A':=[ow kT3 3 (.slice b l.length i) T.2]) (A:=[aO kT3 (.slice b l.length i) T.2]) (B:=[]) (Z0k_ok al) ⟨aU,trivial⟩ (fun _=>trivial)) R ?_
 rintro _
 refine dJ ?_
 split at a
 refine dN ?_
 cases a
 exact qF () (tE 6 [])
 refine hG ?_
 split at a
 refine dN ?_
 cases a
 exact qF () (tE 6 [])
 refine bL ?_
 obtain ⟨U,am,a⟩:=bd a
 obtain ⟨ar,an,a⟩:=bd a
 refine aZ ?_
 refine lM _ (fun w s=>(((s.d 3 R).d 5 R).e 4 [1,0,2,3])) ?_
 refine lC 2 Ce R (Z1i_ok am) R ?_
 rintro ⟨⟨a0,b3,a5⟩,⟨a1,b4,a6⟩⟩
 refine aM 0 aD ?_
 rintro rfl
 refine aM 1 aD ?_
 rintro rfl
 refine lI R (lM _ (fun w s=>((s.dgx 7 R).e 5 [1,2,0,3,4])) ?_)
 refine lC 3 E4 R (FnOk.lends (A':=[OO cJ 42 a0 a5 U.Nodes,OO kT3 3 a1 a6 U.Outs]) (A:=[RR cJ a0 a5 U.Nodes,RR kT3 a1 a6 U.Outs]) (B:=[gG mG]) (Z9_ok an) ⟨aU,aU,trivial⟩ (fun _=>⟨(bN jw),trivial⟩)) R ?_
 rintro ⟨a2,b6,a7⟩
 refine aM 2 aD ?_
 rintro rfl
 refine cV ?_
 obtain ⟨ba,ao,a⟩:=bd a
 refine aV ?_
 refine lM _ (tE 5 [2,4,0,1,3]) ?_
 refine lC 2 xC R (FnOk.lends (A':=[OO kT3 3 a2 a7 ar,OO kT3 3 u D E]) (A:=[RR kT3 a2 a7 ar,RR kT3 u D E]) (B:=[]) (Zz_ok ao) ⟨aU,aU,trivial⟩ (fun _=>trivial)) R ?_
 rintro _
 refine aV ?_
 split at a
 refine dN ?_
 cases a
 exact qF () (tE 9 [])
 refine dG ?_
 obtain ⟨bb,ap,a⟩:=bd a
 refine aV ?_
 refine lM _ (fun w s=>(s.f 5 [4,1,0,4])) ?_
 refine lC 1 BM R (FnOk.lends (A':=[ow kT3 3 (.slice b l.length i) T.2]) (A:=[aO kT3 (.slice b l.length i) T.2]) (B:=[]) (Z0k_ok ap) ⟨aU,trivial⟩ (fun _=>trivial)) R ?_
 rintro _
 refine dJ ?_
 split at a
 refine dN ?_
 cases a
 exact qF () (tE 9 [])
 refine hG ?_
 split at a
 refine dN ?_
 cases a
 exact qF () (tE 9 [])
 refine dG ?_
 cases a
 exact qF () (tE 9 [])
end Go.Proofs.YtoffdamdpmeoiaaGreatDoor
