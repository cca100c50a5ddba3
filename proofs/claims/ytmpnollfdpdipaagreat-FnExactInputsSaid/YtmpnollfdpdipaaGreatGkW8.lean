import Derived.Test.YtmpnollfdpdipaaGreatGkF
import Derived.Test.YtmpnollfdpdipaaGreatGkW1
import Derived.Test.YtmpnollfdpdipaaGreatGkW4
import Derived.Test.YtmpnollfdpdipaaGreatGkW7
set_option linter.unusedVariables false
set_option maxRecDepth 20000
namespace Go.Proofs.YtmpnollfdpdipaaGreat
open Go Go.Pg
variable {A2 A3:Option Addr}{D2 D3 N2 N3:Nat}
theorem Z34_ok  {aG1:Graph}{mG:Int}{r:Bool}(hr:Z34 aG1=some r) :
 FnOk Tryz.prog 4 [(.agg [(.slice A2 N2 D2),(.slice A3 N3 D3)].toArray)] [rds kT70 (.slice A2 N2 D2) aG1.Nodes,rds kT3 (.slice A3 N3 D3) aG1.Outs,gl 0 mG] (fun (h:Unit)=>((.bool r),[])):=by
 unfold Z34 at hr
 refine fn_ok Tryz.func4 R 69 R R fun C V=>?_
 refine cL 0 sees_rd ?_
 rintro rfl
 refine cL 1 sees_rd ?_
 rintro rfl
 let W0:=RR kT70 A2 D2 aG1.Nodes::RR kT3 A3 D3 aG1.Outs::gl 0 mG::V
 refine cN W0 ?_
 refine o_2 ?_
 refine lBx R fun b4=>?_
 refine o_2 ?_
 let W1:=bxl b4 [(sc A2 aG1.Nodes D2),(sc A3 aG1.Outs D3)] 25::W0
 refine qN W1 ?_
 refine o_7 ?_
 obtain ⟨r5,hx6,hr⟩:=bd hr
 refine o_3 ?_
 refine lM _ (fun w s=>(((s.d 1 R).d 3 R).e 2 [1,0])) ?_
 refine lC 2 cb9 R (Z2s_ok hx6) R ?_
 rintro _
 refine lN W1 ?_
 refine o_10 ?_
 split at hr
 refine o_8 ?_
 cases hr
 exact qF () (tE 4 [])
 refine o_4 ?_
 obtain ⟨r8,hx9,hr⟩:=bd hr
 obtain ⟨r12,hx13,hr⟩:=bd hr
 refine o_2 ?_
 refine lM _ (fun w s=>(((s.d 1 R).d 3 R).e 2 [1,0])) ?_
 refine lC 2 cb11 R (Z16_ok hx9) R ?_
 rintro ⟨⟨A10,N10,D10⟩,⟨A11,N11,D11⟩⟩
 refine l_len 0 sees_ow ?_
 rintro rfl
 refine l_len 1 sees_ow ?_
 rintro rfl
 refine lC 2 cb14 R (FnOk.lends (A':=[OO kT54 54 A10 D10 r8.Nodes,OO kT3 3 A11 D11 r8.Outs]) (A:=[RR kT54 A10 D10 r8.Nodes,RR kT3 A11 D11 r8.Outs]) (B:=[]) (Z01_ok hx13) ⟨lend_ow,lend_ow,trivial⟩ (fun _=>⟨(closed_ow cT3),trivial⟩)) R ?_
 rintro ⟨A14,N14,D14⟩
 refine l_len 2 sees_ow ?_
 rintro rfl
 refine o_4 ?_
 obtain ⟨r15,hx16,hr⟩:=bd hr
 refine o_2 ?_
 refine lM _ (fun w s=>(((s.d 4 R).d 6 R).e 5 [1,0,2,3,4])) ?_
 refine lC 2 cb11 R (Z16_ok hx16) R ?_
 rintro ⟨⟨A17,N17,D17⟩,⟨A18,N18,D18⟩⟩
 refine l_len 0 sees_ow ?_
 rintro rfl
 refine l_len 1 sees_ow ?_
 rintro rfl
 refine l_alloc R R zc30 (fun b19=>(l_stores 0 R R sz30 R R R R R R (lN (bxl b19 [(sc A17 r15.Nodes D17),(sc A18 r15.Outs D18)] 30::_::_::_::_::_::W1) ?_)))
 refine o_3 ?_
 obtain ⟨r20,hx21,hr⟩:=bd hr
 refine o_2 ?_
 refine lM _ (fun w s=>((s.dg 9 R).f 7 [2,2,0,2,4,3])) ?_
 refine lC 3 cb15 R (FnOk.lends (A':=[OO kT54 54 A17 D17 r15.Nodes,OO kT3 3 A18 D18 r15.Outs]) (A:=[RR kT54 A17 D17 r15.Nodes,RR kT3 A18 D18 r15.Outs]) (B:=[gl 0 mG]) (Z1u_ok hx21) ⟨lend_ow,lend_ow,trivial⟩ (fun _=>⟨(closed_ow cT3),trivial⟩)) R ?_
 rintro ⟨A22,N22,D22⟩
 refine l_len 2 sees_ow ?_
 rintro rfl
 refine o_5 ?_
 obtain ⟨r23,hx24,hr⟩:=bd hr
 refine o_3 ?_
 refine lM _ (tE 7 [2,6,0,1,3,4,5]) ?_
 refine lC 2 cb16 R (FnOk.lends (A':=[OO kT3 3 A22 D22 r20,OO kT3 3 A14 D14 r12]) (A:=[RR kT3 A22 D22 r20,RR kT3 A14 D14 r12]) (B:=[]) (Zu_ok hx24) ⟨lend_ow,lend_ow,trivial⟩ (fun _=>trivial)) R ?_
 rintro _
 refine o_3 ?_
 split at hr
 refine o_8 ?_
 cases hr
 exact qF () (tE 11 [])
 refine o_5 ?_
 obtain ⟨r26,hx27,hr⟩:=bd hr
 obtain ⟨r30,hx31,hr⟩:=bd hr
 refine cdr 5 [] mixo fun ht hn=>?_
 refine d2_ 0 [] ?_
 refine d1 2 R (lM _ (fun w s=>(((s.d 8 R).d 10 R).f 9 [1,1,0,1,2,7])) ?_)
 refine lC 2 cb11 R (Z16_ok hx27) R ?_
 rintro ⟨⟨A28,N28,D28⟩,⟨A29,N29,D29⟩⟩
 refine l_len 0 sees_ow ?_
 rintro rfl
 refine l_len 1 sees_ow ?_
 rintro rfl
 refine l_nil (q_draw (sL [1,0]) (d1 3 R (lM _ (fun w s=>(s.f 9 [4,2,0,4,6,3])) ?_)))
 refine lC 4 cb13 R (FnOk.lends (A':=[OO kT54 54 A17 D17 r15.Nodes,OO kT3 3 A18 D18 r15.Outs,OO kT54 54 A28 D28 r26.Nodes,OO kT3 3 A29 D29 r26.Outs]) (A:=[RR kT54 A17 D17 r15.Nodes,RR kT3 A18 D18 r15.Outs,RR kT54 A28 D28 r26.Nodes,RR kT3 A29 D29 r26.Outs]) (B:=[]) (Z2e_ok hx31) ⟨lend_ow,lend_ow,lend_ow,lend_ow,trivial⟩ (fun _=>trivial)) R ?_
 rintro _
 refine l_nil (q_draw (fun w s=>(s.f 9 [4,2,0,2,6,3])) (dR 4 R (vNo R) (hS:=(fun w s=>(s.f 9 [4,2,0,2,6,3]))) (dD (q_next ?_))))
 split at hr
 refine o_8 ?_
 cases hr
 exact qF () (tE 13 [])
 refine o_9 ?_
 obtain ⟨r33,hx34,hr⟩:=bd hr
 refine o_3 ?_
 refine lC 2 cb17 R (Z22_ok hx34) R ?_
 rintro _
 refine o_5 ?_
 obtain ⟨r35,hx36,hr⟩:=bd hr
 refine cQ [(1,(pt b4 0)),(4,(sc A14 r12 D14)),(6,(sc A22 r20 D22)),(42,(.bool ((decide (r33.1<0))||(!r35))))] (OO kT3 3 A14 D14 r12::OO kT3 3 A22 D22 r20::W1) ?_ ?_
 refine o_4 ?_
 rcases bo (decide (r33.1<0)) with hc37 | hc37
 refine o_6 ?_
 exact qj (tE 9 [5,4])
 refine o_2 ?_
 refine lM _ (fun w s=>(s.f 9 [4,2,0,4,6,3])) ?_
 refine l_calln 2 R (wnF hc37) cb16 R (FnOk.lends (A':=[OO kT3 3 A22 D22 r20,OO kT3 3 A14 D14 r12]) (A:=[RR kT3 A22 D22 r20,RR kT3 A14 D14 r12]) (B:=[]) (Zu_ok (gcall_t hx36 (not_ff hc37))) ⟨lend_ow,lend_ow,trivial⟩ (fun _=>trivial)) R ?_
 rintro _
 refine o_3 ?_
 exact qj (tE 9 [1,0])
 rintro σ1
 refine o_1 ?_
 split at hr
 refine o_8 ?_
 cases hr
 exact qF () (tE 6 [])
 refine o_9 ?_
 obtain ⟨r39,hx40,hr⟩:=bd hr
 refine o_3 ?_
 refine lM _ (tE 2 [1,0]) ?_
 refine lC 1 cb18 R (Zs_ok hx40) R ?_
 rintro _
 refine o_9 ?_
 obtain ⟨r41,hx42,hr⟩:=bd hr
 refine o_3 ?_
 refine lC 1 cb19 R (FnOk.lends (A':=[ow kT3 3 (.slice A22 r20.length D22) r39.2]) (A:=[rds kT3 (.slice A22 r20.length D22) r39.2]) (B:=[]) (Z0b_ok hx42) ⟨lend_ow,trivial⟩ (fun _=>trivial)) R ?_
 rintro _
 refine o_10 ?_
 split at hr
 refine o_8 ?_
 cases hr
 exact qF () (tE 6 [])
 refine o_11 ?_
 split at hr
 refine o_8 ?_
 cases hr
 exact qF () (tE 6 [])
 refine o_4 ?_
 obtain ⟨r45,hx46,hr⟩:=bd hr
 obtain ⟨r49,hx50,hr⟩:=bd hr
 refine o_2 ?_
 refine lM _ (fun w s=>(((s.d 3 R).d 5 R).e 4 [1,0,2,3])) ?_
 refine lC 2 cb11 R (Z16_ok hx46) R ?_
 rintro ⟨⟨A47,N47,D47⟩,⟨A48,N48,D48⟩⟩
 refine l_len 0 sees_ow ?_
 rintro rfl
 refine l_len 1 sees_ow ?_
 rintro rfl
 refine lM _ (fun w s=>((s.dg 7 R).e 5 [1,2,0,3,4])) ?_
 refine lC 3 cb15 R (FnOk.lends (A':=[OO kT54 54 A47 D47 r45.Nodes,OO kT3 3 A48 D48 r45.Outs]) (A:=[RR kT54 A47 D47 r45.Nodes,RR kT3 A48 D48 r45.Outs]) (B:=[gl 0 mG]) (Z1u_ok hx50) ⟨lend_ow,lend_ow,trivial⟩ (fun _=>⟨(closed_ow cT3),trivial⟩)) R ?_
 rintro ⟨A51,N51,D51⟩
 refine l_len 2 sees_ow ?_
 rintro rfl
 refine o_5 ?_
 obtain ⟨r52,hx53,hr⟩:=bd hr
 refine o_3 ?_
 refine lM _ (tE 5 [2,4,0,1,3]) ?_
 refine lC 2 cb16 R (FnOk.lends (A':=[OO kT3 3 A51 D51 r49,OO kT3 3 A14 D14 r12]) (A:=[RR kT3 A51 D51 r49,RR kT3 A14 D14 r12]) (B:=[]) (Zu_ok hx53) ⟨lend_ow,lend_ow,trivial⟩ (fun _=>trivial)) R ?_
 rintro _
 refine o_3 ?_
 split at hr
 refine o_8 ?_
 cases hr
 exact qF () (tE 9 [])
 refine o_9 ?_
 obtain ⟨r55,hx56,hr⟩:=bd hr
 refine o_3 ?_
 refine lM _ (fun w s=>(s.f 5 [4,1,0,4])) ?_
 refine lC 1 cb19 R (FnOk.lends (A':=[ow kT3 3 (.slice A22 r20.length D22) r39.2]) (A:=[rds kT3 (.slice A22 r20.length D22) r39.2]) (B:=[]) (Z0b_ok hx56) ⟨lend_ow,trivial⟩ (fun _=>trivial)) R ?_
 rintro _
 refine o_10 ?_
 split at hr
 refine o_8 ?_
 cases hr
 exact qF () (tE 9 [])
 refine o_11 ?_
 split at hr
 refine o_8 ?_
 cases hr
 exact qF () (tE 9 [])
 refine o_9 ?_
 cases hr
 exact qF () (tE 9 [])
end Go.Proofs.YtmpnollfdpdipaaGreat
