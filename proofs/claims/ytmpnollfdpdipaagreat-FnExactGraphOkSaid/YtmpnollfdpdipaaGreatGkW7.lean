import Derived.Test.YtmpnollfdpdipaaGreatGkW6
set_option linter.unusedVariables false
set_option maxRecDepth 20000
namespace Go.Proofs.YtmpnollfdpdipaaGreat
open Go Go.Pg
variable {A2 A3 A4 A5 A6 A7 A8 A9 A10 A11 A12 A14:Option Addr}{D2 D3 D4 D5 D6 D7 D8 D9 D10 D11 D12 D14 N2 N3 N4 N5 N6 N7 N8 N9 N10 N11 N12 N14:Nat}
theorem Z4_ok  {dims1:(List Int)}{axis3:Int}{step4:Int}{n5:Int}{r:(List Int)×(List pair)×Bool}(hr:Z4 dims1 axis3 step4 n5=some r) :
 FnOk Tryz.prog 134 [(.slice A2 N2 D2),(iv axis3),(iv step4),(iv n5)] [rds kT3 (.slice A2 N2 D2) dims1] (fun (h:HH×HH)=>((.tuple [(s3 h.1),(s3 h.2),(.bool r.2.2)].toArray),[rds kT3 (s3 h.1) r.1,ow kT161 161 (s3 h.2) r.2.1])):=by
 unfold Z4 at hr
 refine fn_ok Tryz.func134 R 151 R R fun C V=>?_
 refine cN (_::V) ?_
 refine cL 0 sees_rd ?_
 rintro rfl
 let W0:List HP:=RR kT3 A2 D2 dims1::V
 refine cN W0 ?_
 refine o_17 ?_
 obtain ⟨r6,hx7,hr⟩:=bd hr
 obtain ⟨hg8,hr⟩:=gd hr
 obtain ⟨hg11,hr⟩:=gd hr
 obtain ⟨hg12,hr⟩:=gd hr
 obtain ⟨hg13,hr⟩:=gd hr
 refine cQ [(0,(sc A2 dims1 D2)),(1,(iv axis3)),(2,(iv step4)),(3,(iv n5)),(11,(iv (w64 ((dims1.length:Int) - (1:Int))))),(68,(.bool (((((((!r6)||(axis3==(w64 ((dims1.length:Int) - (1:Int)))))||(decide (step4<(1:Int))))||(decide (n5<(1:Int))))||(decide (n5>(4096:Int))))||(decide ((ix dims1 (w64 ((dims1.length:Int) - (1:Int))))>n5)))||((ix dims1 axis3) != (w64 ((w64 ((w64 (n5 - (ix dims1 (w64 ((dims1.length:Int) - (1:Int)))))).tdiv step4))+(1:Int)))))))] (W0) ?_ ?_
 rcases bo (!r6) with hc14 | hc14
 refine cdr 45 [] mixo fun ht hn=>?_
 refine d2_ 0 [] ?_
 refine d1 2 R (lM (RR kT3 A2 D2 dims1::W0) (fun w s=>(s.d 0 R)) ?_)
 refine lC 1 cb150 R (Zi_ok hx7) R ?_
 rintro _
 refine lN W0 ?_
 refine l_nil (q_draw (sL []) ?_)
 refine d5_ 3 [] ?_
 refine dR 8 R (pOT (axis3==(w64 ((dims1.length:Int) - (1:Int)))) R hc14) ?_
 refine d3_ 9 [] ?_
 refine dR 12 R (pOT (decide (step4<(1:Int))) R (oT hc14)) ?_
 refine d3_ 13 [] ?_
 refine dR 16 R (pOT (decide (n5<(1:Int))) R (oT (oT hc14))) ?_
 refine d3_ 17 [] ?_
 refine dR 20 R (pOT (decide (n5>(4096:Int))) R (oT (oT (oT hc14)))) ?_
 refine d7_ 21 [] ?_
 refine dR 28 R (pOT (decide ((ix dims1 (w64 ((dims1.length:Int) - (1:Int))))>n5)) R (oT (oT (oT (oT hc14))))) ?_
 refine d4_ 29 [] ?_
 refine d11_ 33 [] ?_
 refine dR 44 R (pOT ((ix dims1 axis3) != (w64 ((w64 ((w64 (n5 - (ix dims1 (w64 ((dims1.length:Int) - (1:Int)))))).tdiv step4))+(1:Int)))) R (oT (oT (oT (oT (oT hc14)))))) (dD ?_)
 exact qj tI
 rcases bo ((!r6)||(axis3==(w64 ((dims1.length:Int) - (1:Int))))) with hc15 | hc15
 refine cdr 45 [] mixo fun ht hn=>?_
 refine d2_ 0 [] ?_
 refine d1 2 R (lM (RR kT3 A2 D2 dims1::W0) (fun w s=>(s.d 0 R)) ?_)
 refine lC 1 cb150 R (Zi_ok hx7) R ?_
 rintro _
 refine lN W0 ?_
 refine l_nil (q_draw (sL []) ?_)
 refine d5_ 3 [] ?_
 refine dR 8 R (pOF R hc14 R) ?_
 refine d3_ 9 [] ?_
 refine dR 12 R (pOT (decide (step4<(1:Int))) R hc15) ?_
 refine d3_ 13 [] ?_
 refine dR 16 R (pOT (decide (n5<(1:Int))) R (oT hc15)) ?_
 refine d3_ 17 [] ?_
 refine dR 20 R (pOT (decide (n5>(4096:Int))) R (oT (oT hc15))) ?_
 refine d7_ 21 [] ?_
 refine dR 28 R (pOT (decide ((ix dims1 (w64 ((dims1.length:Int) - (1:Int))))>n5)) R (oT (oT (oT hc15)))) ?_
 refine d8_ 29 [] ?_
 refine d7_ 37 [] ?_
 refine dR 44 R (pOT ((ix dims1 axis3) != (w64 ((w64 ((w64 (n5 - (ix dims1 (w64 ((dims1.length:Int) - (1:Int)))))).tdiv step4))+(1:Int)))) R (oT (oT (oT (oT hc15))))) (dD ?_)
 exact qj tI
 rcases bo (((!r6)||(axis3==(w64 ((dims1.length:Int) - (1:Int)))))||(decide (step4<(1:Int)))) with hc16 | hc16
 refine cdr 45 [] mixo fun ht hn=>?_
 refine d2_ 0 [] ?_
 refine d1 2 R (lM (RR kT3 A2 D2 dims1::W0) (fun w s=>(s.d 0 R)) ?_)
 refine lC 1 cb150 R (Zi_ok hx7) R ?_
 rintro _
 refine lN W0 ?_
 refine l_nil (q_draw (sL []) ?_)
 refine d5_ 3 [] ?_
 refine dR 8 R (pOF R hc14 R) ?_
 refine d3_ 9 [] ?_
 refine dR 12 R (pOF R hc15 R) ?_
 refine d3_ 13 [] ?_
 refine dR 16 R (pOT (decide (n5<(1:Int))) R hc16) ?_
 refine d3_ 17 [] ?_
 refine dR 20 R (pOT (decide (n5>(4096:Int))) R (oT hc16)) ?_
 refine d7_ 21 [] ?_
 refine dR 28 R (pOT (decide ((ix dims1 (w64 ((dims1.length:Int) - (1:Int))))>n5)) R (oT (oT hc16))) ?_
 refine d11_ 29 [] ?_
 refine d4_ 40 [] ?_
 refine dR 44 R (pOT ((ix dims1 axis3) != (w64 ((w64 ((w64 (n5 - (ix dims1 (w64 ((dims1.length:Int) - (1:Int)))))).tdiv step4))+(1:Int)))) R (oT (oT (oT hc16)))) (dD ?_)
 exact qj tI
 rcases bo ((((!r6)||(axis3==(w64 ((dims1.length:Int) - (1:Int)))))||(decide (step4<(1:Int))))||(decide (n5<(1:Int)))) with hc17 | hc17
 refine cdr 45 [] mixo fun ht hn=>?_
 refine d2_ 0 [] ?_
 refine d1 2 R (lM (RR kT3 A2 D2 dims1::W0) (fun w s=>(s.d 0 R)) ?_)
 refine lC 1 cb150 R (Zi_ok hx7) R ?_
 rintro _
 refine lN W0 ?_
 refine l_nil (q_draw (sL []) ?_)
 refine d5_ 3 [] ?_
 refine dR 8 R (pOF R hc14 R) ?_
 refine d3_ 9 [] ?_
 refine dR 12 R (pOF R hc15 R) ?_
 refine d3_ 13 [] ?_
 refine dR 16 R (pOF R hc16 R) ?_
 refine d3_ 17 [] ?_
 refine dR 20 R (pOT (decide (n5>(4096:Int))) R hc17) ?_
 refine d7_ 21 [] ?_
 refine dR 28 R (pOT (decide ((ix dims1 (w64 ((dims1.length:Int) - (1:Int))))>n5)) R (oT hc17)) ?_
 refine d14_ 29 [] ?_
 refine d1_ 43 [] ?_
 refine dR 44 R (pOT ((ix dims1 axis3) != (w64 ((w64 ((w64 (n5 - (ix dims1 (w64 ((dims1.length:Int) - (1:Int)))))).tdiv step4))+(1:Int)))) R (oT (oT hc17))) (dD ?_)
 exact qj tI
 rcases bo (((((!r6)||(axis3==(w64 ((dims1.length:Int) - (1:Int)))))||(decide (step4<(1:Int))))||(decide (n5<(1:Int))))||(decide (n5>(4096:Int)))) with hc18 | hc18
 refine cdr 45 [] mixo fun ht hn=>?_
 refine d2_ 0 [] ?_
 refine d1 2 R (lM (RR kT3 A2 D2 dims1::W0) (fun w s=>(s.d 0 R)) ?_)
 refine lC 1 cb150 R (Zi_ok hx7) R ?_
 rintro _
 refine lN W0 ?_
 refine l_nil (q_draw (sL []) ?_)
 refine d5_ 3 [] ?_
 refine dR 8 R (pOF R hc14 R) ?_
 refine d3_ 9 [] ?_
 refine dR 12 R (pOF R hc15 R) ?_
 refine d3_ 13 [] ?_
 refine dR 16 R (pOF R hc16 R) ?_
 refine d3_ 17 [] ?_
 refine dR 20 R (pOF R hc17 R) ?_
 refine d7_ 21 [] ?_
 refine dR 28 R (pOT (decide ((ix dims1 (w64 ((dims1.length:Int) - (1:Int))))>n5)) R hc18) ?_
 refine d15_ 29 [] ?_
 refine dR 44 R (pOT ((ix dims1 axis3) != (w64 ((w64 ((w64 (n5 - (ix dims1 (w64 ((dims1.length:Int) - (1:Int)))))).tdiv step4))+(1:Int)))) R (oT hc18)) (dD ?_)
 exact qj tI
 rcases bo ((((((!r6)||(axis3==(w64 ((dims1.length:Int) - (1:Int)))))||(decide (step4<(1:Int))))||(decide (n5<(1:Int))))||(decide (n5>(4096:Int))))||(decide ((ix dims1 (w64 ((dims1.length:Int) - (1:Int))))>n5))) with hc19 | hc19
 refine c_some 0 sees_rd (show 0<dims1.length by have:=(hg8 hc18); omega) (fun g9 o10 ha=>?_)
 subst ha
 refine cdr 45 [] mixo fun ht hn=>?_
 refine d2_ 0 [] ?_
 refine d1 2 R (lM (RR kT3 (ad g9 o10) D2 dims1::W0) (fun w s=>(s.d 0 R)) ?_)
 refine lC 1 cb150 R (Zi_ok hx7) R ?_
 rintro _
 refine lN W0 ?_
 refine l_nil (q_draw (sL []) ?_)
 refine d5_ 3 [] ?_
 refine dR 8 R (pOF R hc14 R) ?_
 refine d3_ 9 [] ?_
 refine dR 12 R (pOF R hc15 R) ?_
 refine d3_ 13 [] ?_
 refine dR 16 R (pOF R hc16 R) ?_
 refine d3_ 17 [] ?_
 refine dR 20 R (pOF R hc17 R) ?_
 refine d3_ 21 [] ?_
 refine dW 24 R (wnF hc18) (vIa sl23 sz3 R R (hg8 hc18)) (dW 25 R (wnF hc18) (vLi 0 ag3 sees_rd R (hg8 hc18)) ?_)
 refine d2_ 26 [] ?_
 refine dR 28 R (pOF R hc18 R) ?_
 refine d15_ 29 [] ?_
 refine dR 44 R (pOT ((ix dims1 axis3) != (w64 ((w64 ((w64 (n5 - (ix dims1 (w64 ((dims1.length:Int) - (1:Int)))))).tdiv step4))+(1:Int)))) R hc19) (dD ?_)
 exact qj tI
 refine c_some 0 sees_rd (show 0<dims1.length by have:=(hg8 hc18); omega) (fun g9 o10 ha=>?_)
 subst ha
 refine cdr 45 [] mixo fun ht hn=>?_
 refine d2_ 0 [] ?_
 refine d1 2 R (lM (RR kT3 (ad g9 o10) D2 dims1::W0) (fun w s=>(s.d 0 R)) ?_)
 refine lC 1 cb150 R (Zi_ok hx7) R ?_
 rintro _
 refine lN W0 ?_
 refine l_nil (q_draw (sL []) ?_)
 refine d5_ 3 [] ?_
 refine dR 8 R (pOF R hc14 R) ?_
 refine d3_ 9 [] ?_
 refine dR 12 R (pOF R hc15 R) ?_
 refine d3_ 13 [] ?_
 refine dR 16 R (pOF R hc16 R) ?_
 refine d3_ 17 [] ?_
 refine dR 20 R (pOF R hc17 R) ?_
 refine d3_ 21 [] ?_
 refine dW 24 R (wnF hc18) (vIa sl23 sz3 R R (hg8 hc18)) (dW 25 R (wnF hc18) (vLi 0 ag3 sees_rd R (hg8 hc18)) ?_)
 refine d2_ 26 [] ?_
 refine dR 28 R (pOF R hc18 R) ?_
 refine d3_ 29 [] ?_
 refine dW 32 R (wnF hc19) (vIa sl23 sz3 R R (hg11 hc19)) (dW 33 R (wnF hc19) (vLi 0 ag3 sees_rd R (hg11 hc19)) ?_)
 refine d3_ 34 [] ?_
 refine dW 37 R (wnF hc19) (vIa sl23 sz3 R R (hg12 hc19)) (dW 38 R (wnF hc19) (vLi 0 ag3 sees_rd R (hg12 hc19)) ?_)
 refine d2_ 39 [] ?_
 refine dW 41 R (wnF hc19) (vz (iv (w64 ((w64 (n5 - (ix dims1 (w64 ((dims1.length:Int) - (1:Int)))))).tdiv step4))) (v_quo R R (hg13 hc19))) ?_
 refine d2_ 42 [] ?_
 refine dR 44 R (pOF R hc19 R) (dD ?_)
 exact qj tI
 rintro σ1
 refine o_1 ?_
 rcases bif_ hr with ⟨_,hr⟩|⟨_,hr⟩
 refine o_10 ?_
 obtain rfl:=so hr
 exact qT3 ((none,0,0),(none,0,0)) (fun w s=>(((s.nilr kT3).nilo kT161 161).e 3 [1,0]))
 refine o_4 ?_
 obtain ⟨r21,hx22,hr⟩:=bd hr
 obtain ⟨hg24,hr⟩:=gd hr
 refine o_4 ?_
 refine lM (RR kT3 A2 D2 dims1::W0) (fun w s=>(s.d 0 R)) ?_
 refine lC 1 cb151 R (Z1b_ok hx22) R ?_
 rintro ⟨A23,N23,D23⟩
 refine lN (ow kT3 3 (.slice A23 N23 D23) r21::W0) ?_
 refine l_len 0 sees_ow ?_
 rintro rfl
 refine lI R (l_st (fun w s=>s.shr 0 R) (l_cut (K:=kT3) (0:Int) (w64 ((dims1.length:Int) - (1:Int))) 0 R R sl23 sz3 R R R R hg24.1 hg24.2.1 hg24.2.2 (fun A25 D25=>(lS R (l_nil (q_next (c_seq (c_seq ?_))))))))
 obtain ⟨r26,hx27,hr⟩:=bd hr
 refine o_2 ?_
 refine lM (RR kT3 A25 D25 (sub r21 (0:Int) (w64 ((dims1.length:Int) - (1:Int))))::RR kT3 A25 D25 (sub r21 (0:Int) (w64 ((dims1.length:Int) - (1:Int))))::RR kT3 A23 D23 r21::W0) (fun w s=>(s.d 0 R)) ?_
 refine lC 1 cb147 R (Zb_ok hx27) R ?_
 rintro _
 refine lN (_::_::W0) ?_
 refine o_3 ?_
 rcases bif_ hr with ⟨_,hr⟩|⟨_,hr⟩
 refine o_10 ?_
 obtain rfl:=so hr
 exact qT3 ((none,0,0),(none,0,0)) (fun w s=>(((s.nilr kT3).nilo kT161 161).e 5 [1,0]))
 refine o_4 ?_
 refine c_cut (A:=(Int)×(Unit)) (fun a=>Z4_J1 dims1 axis3 n5 r21 a.1=some r) (fun a=>[(0,(sc A2 dims1 D2)),(1,(iv axis3)),(2,(iv a.1)),(3,(iv n5)),(11,(iv (w64 ((dims1.length:Int) - (1:Int))))),(12,(sc A25 (sub r21 (0:Int) (w64 ((dims1.length:Int) - (1:Int)))) D25))]) (fun a=>RR kT3 A25 D25 (sub r21 (0:Int) (w64 ((dims1.length:Int) - (1:Int))))::W0) ?_ ?_
 refine o_1 ?_
 obtain ⟨hg29,hr⟩:=gd hr
 refine o_3 ?_
 refine t_some 2 sees_rd (show 0<dims1.length by have:=hg29; omega) (fun g30 o31 ha=>?_)
 subst ha
 refine o_5 ?_
 rcases bif_ hr with ⟨_,hr⟩|⟨_,hr⟩
 refine o_4 ?_
 exact qI ((0:Int),()) hr (tE 2 [0])
 refine o_2 ?_
 exact qI (step4,()) hr (tE 2 [0])
 rintro ⟨step33,_⟩ σ1 hr
 dsimp only [Z4_J1] at hr
 refine o_1 ?_
 obtain ⟨hg34,hr⟩:=gd hr
 obtain ⟨r36,hx37,hr⟩:=bd hr
 refine o_3 ?_
 refine l_cut (K:=kT3) (0:Int) (w64 ((dims1.length:Int) - (1:Int))) 1 R R sl23 sz3 R R R R hg34.1 hg34.2.1 hg34.2.2 (fun A35 D35=>(lI R (lM (RR kT3 A35 D35 (sub dims1 (0:Int) (w64 ((dims1.length:Int) - (1:Int))))::RR kT3 A35 D35 (sub dims1 (0:Int) (w64 ((dims1.length:Int) - (1:Int))))::_::W0) (fun w s=>(s.d 0 R)) ?_)))
 refine lC 1 cb153 R (Z1s_ok hx37) R ?_
 rintro _
 refine lN (_::_::W0) ?_
 refine lO (vT R) ?_
 refine o_10 ?_
 refine l_build (K:=kT161) (xs:=([]:List pair)) (vs:=[]) 0 R R sl147 sz161 zc161 R R R R R R ?_ R (fun A38 D38=>?_)
 exact fun I h s=>(mO161).list [] I h s
 refine lN (OO kT161 161 A38 D38 ([]:List pair)::_::_::W0) ?_
 refine o_4 ?_
 refine c_cut (A:=((List pair))×(HH)) (fun a=>Z4_J16 dims1 r21 a.1=some r) (fun a=>[(12,(sc A25 (sub r21 (0:Int) (w64 ((dims1.length:Int) - (1:Int)))) D25)),(16,(s3 a.2))]) (fun a=>RR kT3 A25 D25 (sub r21 (0:Int) (w64 ((dims1.length:Int) - (1:Int))))::ow kT161 161 (s3 a.2) a.1::W0) ?_ ?_
 refine o_6 ?_
 obtain ⟨e1,hl1,hk1⟩:=bd hr
 refine c_loop (A:=HH) hl1 (fun s a=>[(0,(sc A2 dims1 D2)),(2,(iv step33)),(3,(iv n5)),(11,(iv (w64 ((dims1.length:Int) - (1:Int))))),(12,(sc A25 (sub r21 (0:Int) (w64 ((dims1.length:Int) - (1:Int)))) D25)),(13,(iv r36.1)),(14,(iv r36.2.1)),(15,(iv r36.2.2)),(16,(s3 a)),(17,(iv s.2))]) (fun s a=>RR kT3 A25 D25 (sub r21 (0:Int) (w64 ((dims1.length:Int) - (1:Int))))::ow kT161 161 (s3 a) s.1::W0) (A38,([]:List pair).length,D38) (aS R) (tE 3 [2,0]) ?_
 rintro ⟨pairs158,i160⟩ ⟨A159,N159,D159⟩ σ1 out1 hr he1
 dsimp only [Z4_L1] at hr
 refine c_len 1 sees_ow (fun (hn:N159=pairs158.length)=>?_)
 subst hn
 refine o_8 ?_
 rcases bif_ hr with ⟨_,hr⟩|⟨_,hr⟩
 refine o_4 ?_
 refine c_cut (A:=((List pair))×(HH)) (fun a=>Z4_J15 i160 a.1=some out1) (fun a=>[(0,(sc A2 dims1 D2)),(2,(iv step33)),(3,(iv n5)),(11,(iv (w64 ((dims1.length:Int) - (1:Int))))),(12,(sc A25 (sub r21 (0:Int) (w64 ((dims1.length:Int) - (1:Int)))) D25)),(13,(iv r36.1)),(14,(iv r36.2.1)),(15,(iv r36.2.2)),(16,(s3 a.2)),(17,(iv i160))]) (fun a=>RR kT3 A25 D25 (sub r21 (0:Int) (w64 ((dims1.length:Int) - (1:Int))))::ow kT161 161 (s3 a.2) a.1::W0) ?_ ?_
 refine o_7 ?_
 obtain ⟨e2,hl2,hk2⟩:=bd hr
 refine c_loop (A:=HH) hl2 (fun s a=>[(0,(sc A2 dims1 D2)),(2,(iv step33)),(3,(iv n5)),(11,(iv (w64 ((dims1.length:Int) - (1:Int))))),(12,(sc A25 (sub r21 (0:Int) (w64 ((dims1.length:Int) - (1:Int)))) D25)),(13,(iv r36.1)),(14,(iv r36.2.1)),(15,(iv r36.2.2)),(16,(s3 a)),(17,(iv i160)),(18,(iv s.2))]) (fun s a=>RR kT3 A25 D25 (sub r21 (0:Int) (w64 ((dims1.length:Int) - (1:Int))))::ow kT161 161 (s3 a) s.1::W0) (A159,pairs158.length,D159) (aS R) tI ?_
 rintro ⟨pairs217,k219⟩ ⟨A218,N218,D218⟩ σ1 out2 hr he2
 dsimp only [Z4_L2] at hr
 refine c_len 1 sees_ow (fun (hn:N218=pairs217.length)=>?_)
 subst hn
 refine o_8 ?_
 rcases bif_ hr with ⟨_,hr⟩|⟨_,hr⟩
 refine o_4 ?_
 refine c_cut (A:=((List pair))×(HH)) (fun a=>Z4_J14 k219 a.1=some out2) (fun a=>[(0,(sc A2 dims1 D2)),(2,(iv step33)),(3,(iv n5)),(11,(iv (w64 ((dims1.length:Int) - (1:Int))))),(12,(sc A25 (sub r21 (0:Int) (w64 ((dims1.length:Int) - (1:Int)))) D25)),(13,(iv r36.1)),(14,(iv r36.2.1)),(15,(iv r36.2.2)),(16,(s3 a.2)),(17,(iv i160)),(18,(iv k219))]) (fun a=>RR kT3 A25 D25 (sub r21 (0:Int) (w64 ((dims1.length:Int) - (1:Int))))::ow kT161 161 (s3 a.2) a.1::W0) ?_ ?_
 refine o_7 ?_
 obtain ⟨e3,hl3,hk3⟩:=bd hr
 refine c_loop (A:=HH) hl3 (fun s a=>[(0,(sc A2 dims1 D2)),(2,(iv step33)),(3,(iv n5)),(11,(iv (w64 ((dims1.length:Int) - (1:Int))))),(12,(sc A25 (sub r21 (0:Int) (w64 ((dims1.length:Int) - (1:Int)))) D25)),(13,(iv r36.1)),(14,(iv r36.2.1)),(15,(iv r36.2.2)),(16,(s3 a)),(17,(iv i160)),(18,(iv k219)),(19,(iv s.2))]) (fun s a=>RR kT3 A25 D25 (sub r21 (0:Int) (w64 ((dims1.length:Int) - (1:Int))))::ow kT161 161 (s3 a) s.1::W0) (A218,pairs217.length,D218) (aS R) tI ?_
 rintro ⟨pairs244,j246⟩ ⟨A245,N245,D245⟩ σ1 out3 hr he3
 dsimp only [Z4_L3] at hr
 refine c_len 1 sees_ow (fun (hn:N245=pairs244.length)=>?_)
 subst hn
 refine o_8 ?_
 rcases bif_ hr with ⟨_,hr⟩|⟨_,hr⟩
 refine o_4 ?_
 refine c_cut (A:=((List pair))×(HH)) (fun a=>Z4_J13 j246 a.1=some out3) (fun a=>[(0,(sc A2 dims1 D2)),(2,(iv step33)),(3,(iv n5)),(11,(iv (w64 ((dims1.length:Int) - (1:Int))))),(12,(sc A25 (sub r21 (0:Int) (w64 ((dims1.length:Int) - (1:Int)))) D25)),(13,(iv r36.1)),(14,(iv r36.2.1)),(15,(iv r36.2.2)),(16,(s3 a.2)),(17,(iv i160)),(18,(iv k219)),(19,(iv j246))]) (fun a=>RR kT3 A25 D25 (sub r21 (0:Int) (w64 ((dims1.length:Int) - (1:Int))))::ow kT161 161 (s3 a.2) a.1::W0) ?_ ?_
 refine o_7 ?_
 obtain ⟨e4,hl4,hk4⟩:=bd hr
 refine c_loop (A:=HH) hl4 (fun s a=>[(0,(sc A2 dims1 D2)),(2,(iv step33)),(3,(iv n5)),(11,(iv (w64 ((dims1.length:Int) - (1:Int))))),(12,(sc A25 (sub r21 (0:Int) (w64 ((dims1.length:Int) - (1:Int)))) D25)),(13,(iv r36.1)),(14,(iv r36.2.1)),(15,(iv r36.2.2)),(16,(s3 a)),(17,(iv i160)),(18,(iv k219)),(19,(iv j246)),(20,(iv s.2))]) (fun s a=>RR kT3 A25 D25 (sub r21 (0:Int) (w64 ((dims1.length:Int) - (1:Int))))::ow kT161 161 (s3 a) s.1::W0) (A245,pairs244.length,D245) (aS R) tI ?_
 rintro ⟨pairs255,x257⟩ ⟨A256,N256,D256⟩ σ1 out4 hr he4
 dsimp only [Z4_L4] at hr
 refine c_len 1 sees_ow (fun (hn:N256=pairs255.length)=>?_)
 subst hn
 refine o_2 ?_
 obtain ⟨hg258,hr⟩:=gd hr
 refine o_4 ?_
 refine t_some 2 sees_rd (show 0<dims1.length by have:=hg258; omega) (fun g259 o260 ha=>?_)
 subst ha
 refine o_5 ?_
 rcases bif_ hr with ⟨_,hr⟩|⟨_,hr⟩
 refine o_5 ?_
 obtain ⟨hg263,hr⟩:=gd hr
 refine o_31 ?_
 refine lO (vz (.agg [(iv (w64 ((w64 ((w64 ((w64 ((w64 ((w64 (i160*r36.2.1))+k219))*r36.2.2))+j246))*(ix dims1 (w64 ((dims1.length:Int) - (1:Int))))))+x257))),(iv (w64 ((w64 ((w64 ((w64 ((w64 (i160*n5))+(w64 (k219*step33))))+x257))*r36.2.2))+j246)))].toArray) (v_build pl161 zc161 R R)) ?_
 refine l_build (K:=kT161) (xs:=([(⟨(w64 ((w64 ((w64 ((w64 ((w64 ((w64 (i160*r36.2.1))+k219))*r36.2.2))+j246))*(ix dims1 (w64 ((dims1.length:Int) - (1:Int))))))+x257)),(w64 ((w64 ((w64 ((w64 ((w64 (i160*n5))+(w64 (k219*step33))))+x257))*r36.2.2))+j246))⟩:pair)]:List pair)) (vs:=[(.agg [(iv (w64 ((w64 ((w64 ((w64 ((w64 ((w64 (i160*r36.2.1))+k219))*r36.2.2))+j246))*(ix dims1 (w64 ((dims1.length:Int) - (1:Int))))))+x257))),(iv (w64 ((w64 ((w64 ((w64 ((w64 (i160*n5))+(w64 (k219*step33))))+x257))*r36.2.2))+j246)))].toArray)]) 0 R R sl147 sz161 zc161 R R R R R R ?_ R (fun A262 D262=>?_)
 exact fun I h s=>(mO161).list [(((),()),(⟨(w64 ((w64 ((w64 ((w64 ((w64 ((w64 (i160*r36.2.1))+k219))*r36.2.2))+j246))*(ix dims1 (w64 ((dims1.length:Int) - (1:Int))))))+x257)),(w64 ((w64 ((w64 ((w64 ((w64 (i160*n5))+(w64 (k219*step33))))+x257))*r36.2.2))+j246))⟩:pair))] I h s
 refine lN (OO kT161 161 A262 D262 ([(⟨(w64 ((w64 ((w64 ((w64 ((w64 ((w64 (i160*r36.2.1))+k219))*r36.2.2))+j246))*(ix dims1 (w64 ((dims1.length:Int) - (1:Int))))))+x257)),(w64 ((w64 ((w64 ((w64 ((w64 (i160*n5))+(w64 (k219*step33))))+x257))*r36.2.2))+j246))⟩:pair)]:List pair)::_::OO kT161 161 A256 D256 pairs255::W0) ?_
 refine lM (ow _ _ _ _::ow _ _ _ _::rds _ _ _::W0) (tE 3 [2,0,1]) ?_
 refine l_app (K:=kT161) 8796093022208 R R sl147 sz161 by161 (Zr.zk zT161 zc161) R R R R R R src_ow hg263 (fun A264 D264=>(lN (OO kT161 161 A264 D264 (pairs255++([(⟨(w64 ((w64 ((w64 ((w64 ((w64 ((w64 (i160*r36.2.1))+k219))*r36.2.2))+j246))*(ix dims1 (w64 ((dims1.length:Int) - (1:Int))))))+x257)),(w64 ((w64 ((w64 ((w64 ((w64 (i160*n5))+(w64 (k219*step33))))+x257))*r36.2.2))+j246))⟩:pair)]:List pair))::_::W0) ?_))
 refine o_9 ?_
 obtain rfl:=so hr
 exact qA (A264,(pairs255++([(⟨(w64 ((w64 ((w64 ((w64 ((w64 ((w64 (i160*r36.2.1))+k219))*r36.2.2))+j246))*(ix dims1 (w64 ((dims1.length:Int) - (1:Int))))))+x257)),(w64 ((w64 ((w64 ((w64 ((w64 (i160*n5))+(w64 (k219*step33))))+x257))*r36.2.2))+j246))⟩:pair)]:List pair)).length,D264) (tE 2 [1,0])
 refine o_3 ?_
 obtain rfl:=so hr
 obtain rfl:=he4 _ R
 have hr:=hk4
 refine o_3 ?_
 exact qI (pairs255,(A256,pairs255.length,D256)) hr tI
 rintro ⟨pairs268,⟨A269,N269,D269⟩⟩ σ1 hr
 dsimp only [Z4_J13] at hr
 refine c_len 1 sees_ow (fun (hn:N269=pairs268.length)=>?_)
 subst hn
 refine o_5 ?_
 obtain rfl:=so hr
 exact qA (A269,pairs268.length,D269) tI
 refine o_3 ?_
 obtain rfl:=so hr
 obtain rfl:=he3 _ R
 have hr:=hk3
 refine o_3 ?_
 exact qI (pairs244,(A245,pairs244.length,D245)) hr tI
 rintro ⟨pairs273,⟨A274,N274,D274⟩⟩ σ1 hr
 dsimp only [Z4_J14] at hr
 refine c_len 1 sees_ow (fun (hn:N274=pairs273.length)=>?_)
 subst hn
 refine o_5 ?_
 obtain rfl:=so hr
 exact qA (A274,pairs273.length,D274) tI
 refine o_3 ?_
 obtain rfl:=so hr
 obtain rfl:=he2 _ R
 have hr:=hk2
 refine o_3 ?_
 exact qI (pairs217,(A218,pairs217.length,D218)) hr tI
 rintro ⟨pairs278,⟨A279,N279,D279⟩⟩ σ1 hr
 dsimp only [Z4_J15] at hr
 refine c_len 1 sees_ow (fun (hn:N279=pairs278.length)=>?_)
 subst hn
 refine o_5 ?_
 obtain rfl:=so hr
 exact qA (A279,pairs278.length,D279) tI
 refine o_3 ?_
 obtain rfl:=so hr
 obtain rfl:=he1 _ R
 have hr:=hk1
 refine o_2 ?_
 exact qI (pairs158,(A159,pairs158.length,D159)) hr tI
 rintro ⟨pairs283,⟨A284,N284,D284⟩⟩ σ1 hr
 dsimp only [Z4_J16] at hr
 refine c_len 1 sees_ow (fun (hn:N284=pairs283.length)=>?_)
 subst hn
 refine o_10 ?_
 obtain rfl:=so hr
 exact qT3 ((A25,(sub r21 (0:Int) (w64 ((dims1.length:Int) - (1:Int)))).length,D25),(A284,pairs283.length,D284)) (tE 3 [0,1])
theorem Z1r_ok  {p1:(List Int)}{dims3:(List Int)}{r:(List Int)×(List pair)×Bool}(hr:Z1r p1 dims3=some r) :
 FnOk Tryz.prog 133 [(.slice A2 N2 D2),(.slice A4 N4 D4)] [rds kT3 (.slice A2 N2 D2) p1,rds kT3 (.slice A4 N4 D4) dims3] (fun (h:HH×HH)=>((.tuple [(s3 h.1),(s3 h.2),(.bool r.2.2)].toArray),[rds kT3 (s3 h.1) r.1,ow kT161 161 (s3 h.2) r.2.1])):=by
 unfold Z1r at hr
 refine fn_ok Tryz.func133 R 21 R R fun C V=>?_
 refine cN (_::_::V) ?_
 refine cL 0 sees_rd ?_
 rintro rfl
 refine cL 1 sees_rd ?_
 rintro rfl
 let W0:List HP:=RR kT3 A2 D2 p1::RR kT3 A4 D4 dims3::V
 refine cN W0 ?_
 refine o_8 ?_
 obtain ⟨hg5,hr⟩:=gd hr
 obtain ⟨_,hr⟩:=gd hr
 obtain ⟨_,hr⟩:=gd hr
 obtain ⟨r10,hx11,hr⟩:=bd hr
 refine c_some 0 sees_rd (show 0<p1.length by have:=hg5; omega) (fun g6 o7 ha=>?_)
 subst ha
 refine cdr 17 [] mixo fun ht hn=>?_
 refine d10_ 0 [] ?_
 refine d1 10 R (lM (RR kT3 A4 D4 dims3::W0) (fun w s=>(s.d 1 R)) ?_)
 refine lC 1 cb134 R (Z4_ok hx11) R ?_
 rintro ⟨⟨A12,N12,D12⟩,⟨A13,N13,D13⟩⟩
 refine lN (rds kT3 (.slice A12 N12 D12) r10.1::ow kT161 161 (.slice A13 N13 D13) r10.2.1::W0) ?_
 refine l_len 0 sees_rd ?_
 rintro rfl
 refine l_len 1 sees_ow ?_
 rintro rfl
 refine l_nil (q_draw (sL [1,0]) ?_)
 refine d6_ 11 [1,0] ?_
 refine dD ?_
 refine o_2 ?_
 obtain rfl:=so hr
 exact qT3 ((A12,r10.1.length,D12),(A13,r10.2.1.length,D13)) (tE 4 [0,1])
theorem Z2f_ok  {n1:Node}{dims6:(List Int)}{p8:Int}{p10:Int}{b9:Nat}{b11:Nat}{b13:Nat}{r:(List Int)×(List pair)×Bool}(hr:Z2f n1 dims6 p8 p10=some r) :
 FnOk Tryz.prog 149 [(.agg [(iv n1.Op),(.slice A2 N2 D2),(.slice A3 N3 D3),(.slice A4 N4 D4),(vstr n1.Form),(.slice A5 N5 D5)].toArray),(.slice A7 N7 D7),(pt b9 0),(pt b11 0),(pt b13 0)] [rds kT3 (.slice A2 N2 D2) n1.Args,rds kT3 (.slice A3 N3 D3) n1.Dims,rds kT3 (.slice A4 N4 D4) n1.Ints,rds kT3 (.slice A5 N5 D5) n1.Data,rds kT3 (.slice A7 N7 D7) dims6,bxl b9 [(iv p8)] 3,bxl b11 [(iv p10)] 3,bxl b13 [(.func (.func 133) [].toArray [].toArray)] 150] (fun (h:HH×HH)=>((.tuple [(s3 h.1),(s3 h.2),(.bool r.2.2)].toArray),[rds kT3 (s3 h.1) r.1,ow kT161 161 (s3 h.2) r.2.1,bxl b9 [(iv p8)] 3,bxl b11 [(iv p10)] 3,bxl b13 [(.func (.func 133) [].toArray [].toArray)] 150])):=by
 unfold Z2f at hr
 refine fn_ok Tryz.func149 R 30 R R fun C V=>?_
 refine cM (bxl _ _ _::bxl _ _ _::bxl _ _ _::rds _ _ _::rds _ _ _::rds _ _ _::rds _ _ _::rds _ _ _::V) (fun w s=>(s.f 8 [5,3,0,5])) ?_
 refine cL 3 sees_rd ?_
 rintro rfl
 refine cL 4 sees_rd ?_
 rintro rfl
 refine cL 5 sees_rd ?_
 rintro rfl
 refine cL 6 sees_rd ?_
 rintro rfl
 refine cL 7 sees_rd ?_
 rintro rfl
 let W0:List HP:=RR kT3 A2 D2 n1.Args::RR kT3 A3 D3 n1.Dims::RR kT3 A4 D4 n1.Ints::RR kT3 A5 D5 n1.Data::RR kT3 A7 D7 dims6::V
 refine cN (_::_::_::W0) ?_
 refine o_2 ?_
 refine lBx R fun b14=>?_
 refine o_4 ?_
 let W1:List HP:=bxl b14 [(iv n1.Op),(sc A2 n1.Args D2),(sc A3 n1.Dims D3),(sc A4 n1.Ints D4),(vstr n1.Form),(sc A5 n1.Data D5)] 54::bxl b9 [(iv p8)] 3::bxl b11 [(iv p10)] 3::bxl b13 [(.func (.func 133) [].toArray [].toArray)] 150::W0
 refine qN W1 ?_
 refine o_3 ?_
 refine cQ [(1,(sc A7 dims6 D7)),(4,(pt b13 0)),(5,(pt b14 0)),(21,(.bool ((decide ((n1.Ints.length:Int)<p8))||(decide ((n1.Ints.length:Int)>p10)))))] (W1) ?_ ?_
 refine o_7 ?_
 rcases bo (decide ((n1.Ints.length:Int)<p8)) with hc15 | hc15
 refine o_7 ?_
 exact qj tI
 refine o_7 ?_
 exact qj tI
 rintro σ1
 refine o_1 ?_
 rcases bif_ hr with ⟨_,hr⟩|⟨_,hr⟩
 refine o_10 ?_
 obtain rfl:=so hr
 exact qT3 ((none,0,0),(none,0,0)) (fun w s=>(((s.nilr kT3).nilo kT161 161).e 11 [1,0,3,4,5]))
 refine o_4 ?_
 obtain ⟨r17,hx18,hr⟩:=bd hr
 refine o_5 ?_
 refine lM (RR kT3 A4 D4 n1.Ints::RR kT3 A7 D7 dims6::W1) (fun w s=>(((s.d 6 R).d 9 R).e 2 [1,0])) ?_
 refine l_callvn (fs:=[]) (cs:=[]) 2 R R cb133 R R (Z1r_ok hx18) R ?_
 rintro ⟨⟨A19,N19,D19⟩,⟨A20,N20,D20⟩⟩
 refine lN (rds kT3 (.slice A19 N19 D19) r17.1::ow kT161 161 (.slice A20 N20 D20) r17.2.1::W1) ?_
 refine l_len 0 sees_rd ?_
 rintro rfl
 refine l_len 1 sees_ow ?_
 rintro rfl
 refine o_9 ?_
 obtain rfl:=so hr
 exact qT3 ((A19,r17.1.length,D19),(A20,r17.2.1.length,D20)) (fun w s=>(s.f 11 [0,2,3,3]))
theorem Z1h_ok  {k1:shiftKind}{q2:Int}{q4:Int}{n8:Node}{args13:(List (List Int))}{b3:Nat}{b5:Nat}{b7:Nat}{r:(List Int)×Bool}(hr:Z1h k1 q2 q4 n8 args13=some r) :
 FnOk Tryz.prog 220 [(.agg [(vstr k1.use),(.func (.func 149) [].toArray [(pt b3 0),(pt b5 0),(pt b7 0)].toArray)].toArray),(.agg [(iv n8.Op),(.slice A9 N9 D9),(.slice A10 N10 D10),(.slice A11 N11 D11),(vstr n8.Form),(.slice A12 N12 D12)].toArray),(.slice A14 N14 D14)] [bxl b3 [(iv q2)] 3,bxl b5 [(iv q4)] 3,bxl b7 [(.func (.func 133) [].toArray [].toArray)] 150,rds kT3 (.slice A9 N9 D9) n8.Args,rds kT3 (.slice A10 N10 D10) n8.Dims,rds kT3 (.slice A11 N11 D11) n8.Ints,rds kT3 (.slice A12 N12 D12) n8.Data,rds kT23 (.slice A14 N14 D14) args13] (fun (h:HH)=>((.tuple [(s3 h),(.bool r.2)].toArray),[rds kT3 (s3 h) r.1,bxl b3 [(iv q2)] 3,bxl b5 [(iv q4)] 3,bxl b7 [(.func (.func 133) [].toArray [].toArray)] 150])):=by
 unfold Z1h at hr
 refine fn_ok Tryz.func220 R 27 R R fun C V=>?_
 refine cN (_::_::_::_::_::_::_::_::V) ?_
 refine cL 3 sees_rd ?_
 rintro rfl
 refine cL 4 sees_rd ?_
 rintro rfl
 refine cL 5 sees_rd ?_
 rintro rfl
 refine cL 6 sees_rd ?_
 rintro rfl
 refine cL 7 sees_rd ?_
 rintro rfl
 let W0:List HP:=RR kT3 A9 D9 n8.Args::RR kT3 A10 D10 n8.Dims::RR kT3 A11 D11 n8.Ints::RR kT3 A12 D12 n8.Data::RR kT23 A14 D14 args13::V
 refine cN (_::_::_::W0) ?_
 refine o_2 ?_
 refine lBx R fun b15=>?_
 refine lBx R fun b16=>?_
 refine o_3 ?_
 refine qM (bxl _ _ _::bxl _ _ _::bxl _ _ _::bxl _ _ _::bxl _ _ _::W0) (fun w s=>(s.f 5 [2,3,0,2])) ?_
 let W1:List HP:=bxl b16 [(iv n8.Op),(sc A9 n8.Args D9),(sc A10 n8.Dims D10),(sc A11 n8.Ints D11),(vstr n8.Form),(sc A12 n8.Data D12)] 54::bxl b15 [(vstr k1.use),(.func (.func 149) [].toArray [(pt b3 0),(pt b5 0),(pt b7 0)].toArray)] 145::W0
 refine qN (_::_::_::W1) ?_
 refine o_9 ?_
 rcases bif_ hr with ⟨_,hr⟩|⟨_,hr⟩
 refine o_9 ?_
 obtain rfl:=so hr
 exact qT2 (none,0,0) (fun w s=>((s.nilr kT3).f 11 [0,4]))
 refine o_4 ?_
 obtain ⟨hg18,hr⟩:=gd hr
 obtain ⟨r22,hx23,hr⟩:=bd hr
 refine c_some 9 sees_rd (show 0<args13.length by have:=hg18; omega) (fun g19 o20 ha=>?_)
 subst ha
 refine c_elem (K:=kT23) 9 (0:Int) dT23.dec R hg18.1 hg18.2 ?_
 rintro ⟨A21,D21⟩
 refine cN (cl g19 (o20+(0:Int).toNat*1) [(sc A21 (ix args13 (0:Int)) D21)]::RR kT3 A21 D21 (ix args13 (0:Int))::_::_::_::W1) ?_
 refine cdr 14 [] mixo fun ht hn=>?_
 refine d5_ 0 [] ?_
 refine dR 5 R (v_clf (fo:=0) 0 ag23 R R R) (d1 6 R (lM (RR kT3 A9 D9 n8.Args::RR kT3 A10 D10 n8.Dims::RR kT3 A11 D11 n8.Ints::RR kT3 A12 D12 n8.Data::rds _ _ _::bxl _ _ _::bxl _ _ _::bxl _ _ _::cl _ _ _::rds _ _ _::W1) (fun w s=>((((((s.d 7 R).d 9 R).d 11 R).d 13 R).d 5 R).e 10 [4,3,2,1,0,7,8,9,5,6])) ?_))
 refine l_callvn (fs:=[]) (cs:=[(pt b3 0),(pt b5 0),(pt b7 0)]) 8 R R cb149 R R (Z2f_ok hx23) R ?_
 rintro ⟨⟨A24,N24,D24⟩,⟨A25,N25,D25⟩⟩
 refine lN (rds kT3 (.slice A24 N24 D24) r22.1::ow kT161 161 (.slice A25 N25 D25) r22.2.1::_::_::_::_::_::W1) ?_
 refine l_len 0 sees_rd ?_
 rintro rfl
 refine l_len 1 sees_ow ?_
 rintro rfl
 refine l_nil (q_draw (fun w s=>(s.f 7 [5,2,2,3])) (dR 7 R (vT R) (hS:=(fun w s=>(s.f 7 [5,2,2,3]))) (dR 8 R (vS R) (hS:=(fun w s=>(s.f 7 [5,2,2,3]))) (dR 9 R (vS R) (hS:=(fun w s=>(s.f 7 [5,2,2,3]))) (dR 10 R (vB R) (hS:=(fun w s=>(s.f 7 [5,2,2,3]))) (dR 11 R (vS R) (hS:=(fun w s=>(s.f 7 [5,2,2,3]))) (dR 12 R (vS R) (hS:=(fun w s=>(s.f 7 [5,2,2,3]))) (dR 13 R (vB R) (hS:=(fun w s=>(s.f 7 [5,2,2,3]))) (dD ?_)))))))))
 refine o_10 ?_
 obtain rfl:=so hr
 exact qT2 (A24,r22.1.length,D24) (tE 14 [0,2,3,4])
theorem kindOfR_shape_ok  {r:kindOfR}{x0:Node}{x1:(List (List Int))}{h0 h1 h2:Nat}{A1 A2 A3 A4 A5:Option Addr}{N1 D1 N2 D2 N3 D3 N4 D4 N5 D5:Nat}{mG:Int}{q:(List Int)×Bool}(hr:kindOfR_shape r x0 x1=some q) :
 InvOk Tryz.prog (kindOfRV r (h0,h1,h2)) "loop.example/g00033/impl.shape" [(.agg [(iv x0.Op),(.slice A1 N1 D1),(.slice A2 N2 D2),(.slice A3 N3 D3),(vstr x0.Form),(.slice A4 N4 D4)].toArray),(.slice A5 N5 D5)] [kindOfRE r (h0,h1,h2),rds kT3 (.slice A1 N1 D1) x0.Args,rds kT3 (.slice A2 N2 D2) x0.Dims,rds kT3 (.slice A3 N3 D3) x0.Ints,rds kT3 (.slice A4 N4 D4) x0.Data,rds kT23 (.slice A5 N5 D5) x1,gl 0 mG] (fun (h:HH)=>((.tuple [(s3 h),(.bool q.2)].toArray),[rds kT3 (s3 h) q.1,kindOfRE r (h0,h1,h2)])):=by
 unfold kindOfR_shape at hr
 rcases bif_ hr with ⟨e0,hr⟩|⟨e0,hr⟩
 ·cases hr
 rcases bif_ hr with ⟨e1,hr⟩|⟨e1,hr⟩
 ·obtain ⟨t,b0,i0,i1,s0⟩:=r
  obtain rfl:=Nat.eq_of_beq_eq_true e1
  exact InvOk.mk (me136_shape _) (((Z1a_ok hr).perm (Pre':=[pk [],rds kT3 (.slice A1 N1 D1) x0.Args,rds kT3 (.slice A2 N2 D2) x0.Dims,rds kT3 (.slice A3 N3 D3) x0.Ints,rds kT3 (.slice A4 N4 D4) x0.Data,rds kT23 (.slice A5 N5 D5) x1,gl 0 mG]) (fun _ _ _ s=>(St.unpack (A:=[]) s).e 6 [0,1,2,3,4])).post id (fun _=>rfl) (fun _ _ _ _ s=>(St.pack (A:=[]) (s)).e 2 [1,0]))
 rcases bif_ hr with ⟨e2,hr⟩|⟨e2,hr⟩
 ·obtain ⟨t,b0,i0,i1,s0⟩:=r
  obtain rfl:=Nat.eq_of_beq_eq_true e2
  exact InvOk.mk (me138_shape _) (((Z1t_ok hr).perm (Pre':=[pk [],rds kT3 (.slice A1 N1 D1) x0.Args,rds kT3 (.slice A2 N2 D2) x0.Dims,rds kT3 (.slice A3 N3 D3) x0.Ints,rds kT3 (.slice A4 N4 D4) x0.Data,rds kT23 (.slice A5 N5 D5) x1,gl 0 mG]) (fun _ _ _ s=>(St.unpack (A:=[]) s).e 6 [0,1,2,3,4])).post id (fun _=>rfl) (fun _ _ _ _ s=>(St.pack (A:=[]) (s)).e 2 [1,0]))
 rcases bif_ hr with ⟨e3,hr⟩|⟨e3,hr⟩
 ·obtain ⟨t,b0,i0,i1,s0⟩:=r
  obtain rfl:=Nat.eq_of_beq_eq_true e3
  exact InvOk.mk (me139_shape _) (((Z2i_ok hr).perm (Pre':=[pk [],rds kT3 (.slice A1 N1 D1) x0.Args,rds kT3 (.slice A2 N2 D2) x0.Dims,rds kT3 (.slice A3 N3 D3) x0.Ints,rds kT3 (.slice A4 N4 D4) x0.Data,rds kT23 (.slice A5 N5 D5) x1,gl 0 mG]) (fun _ _ _ s=>(St.unpack (A:=[]) s).e 6 [0,1,2,3,4])).post id (fun _=>rfl) (fun _ _ _ _ s=>(St.pack (A:=[]) (s)).e 2 [1,0]))
 rcases bif_ hr with ⟨e4,hr⟩|⟨e4,hr⟩
 ·obtain ⟨t,b0,i0,i1,s0⟩:=r
  obtain rfl:=Nat.eq_of_beq_eq_true e4
  exact InvOk.mk (me141_shape _) (((Z1n_ok (k1:=⟨⟩) hr).perm (Pre':=[pk [],rds kT3 (.slice A1 N1 D1) x0.Args,rds kT3 (.slice A2 N2 D2) x0.Dims,rds kT3 (.slice A3 N3 D3) x0.Ints,rds kT3 (.slice A4 N4 D4) x0.Data,rds kT23 (.slice A5 N5 D5) x1,gl 0 mG]) (fun _ _ _ s=>(St.unpack (A:=[]) s).e 6 [0,1,2,3,4])).post id (fun _=>rfl) (fun _ _ _ _ s=>(St.pack (A:=[]) (s)).e 2 [1,0]))
 rcases bif_ hr with ⟨e5,hr⟩|⟨e5,hr⟩
 ·obtain ⟨t,b0,i0,i1,s0⟩:=r
  obtain rfl:=Nat.eq_of_beq_eq_true e5
  exact InvOk.mk (me142_shape _) (((Z2h_ok (k1:=⟨⟩) hr).perm (Pre':=[pk [],rds kT3 (.slice A1 N1 D1) x0.Args,rds kT3 (.slice A2 N2 D2) x0.Dims,rds kT3 (.slice A3 N3 D3) x0.Ints,rds kT3 (.slice A4 N4 D4) x0.Data,rds kT23 (.slice A5 N5 D5) x1,gl 0 mG]) (fun _ _ _ s=>St.unpack (A:=[]) s)).post id (fun _=>rfl) (fun _ _ _ _ s=>(St.pack (A:=[]) ((s).shr 0 R)).e 2 [1,0]))
 rcases bif_ hr with ⟨e6,hr⟩|⟨e6,hr⟩
 ·obtain ⟨t,b0,i0,i1,s0⟩:=r
  obtain rfl:=Nat.eq_of_beq_eq_true e6
  exact InvOk.mk (me145_shape _) (((Z1i_ok hr).perm (Pre':=[pk [],rds kT3 (.slice A1 N1 D1) x0.Args,rds kT3 (.slice A2 N2 D2) x0.Dims,rds kT3 (.slice A3 N3 D3) x0.Ints,rds kT3 (.slice A4 N4 D4) x0.Data,rds kT23 (.slice A5 N5 D5) x1,gl 0 mG]) (fun _ _ _ s=>(St.unpack (A:=[]) s).e 6 [0,1,2,3,4])).post id (fun _=>rfl) (fun _ _ _ _ s=>(St.pack (A:=[]) (s)).e 2 [1,0]))
 rcases bif_ hr with ⟨e7,hr⟩|⟨e7,hr⟩
 ·obtain ⟨t,b0,i0,i1,s0⟩:=r
  obtain rfl:=Nat.eq_of_beq_eq_true e7
  exact InvOk.mk (me145_shape _) (((Z1u_ok hr).perm (Pre':=[pk [],rds kT3 (.slice A1 N1 D1) x0.Args,rds kT3 (.slice A2 N2 D2) x0.Dims,rds kT3 (.slice A3 N3 D3) x0.Ints,rds kT3 (.slice A4 N4 D4) x0.Data,rds kT23 (.slice A5 N5 D5) x1,gl 0 mG]) (fun _ _ _ s=>(St.unpack (A:=[]) s).e 6 [0,1,2,3,4])).post id (fun _=>rfl) (fun _ _ _ _ s=>(St.pack (A:=[]) (s)).e 2 [1,0]))
 rcases bif_ hr with ⟨e8,hr⟩|⟨e8,hr⟩
 ·obtain ⟨t,b0,i0,i1,s0⟩:=r
  obtain rfl:=Nat.eq_of_beq_eq_true e8
  exact InvOk.mk (me145_shape _) (((Z1e_ok hr).perm (Pre':=[pk [bxl h0 [(iv i0)] 3,bxl h1 [(iv i1)] 3,bxl h2 [(.func (.func 127) [].toArray [].toArray)] 150],rds kT3 (.slice A1 N1 D1) x0.Args,rds kT3 (.slice A2 N2 D2) x0.Dims,rds kT3 (.slice A3 N3 D3) x0.Ints,rds kT3 (.slice A4 N4 D4) x0.Data,rds kT23 (.slice A5 N5 D5) x1,gl 0 mG]) (fun _ _ _ s=>(St.unpack (A:=[bxl h0 [(iv i0)] 3,bxl h1 [(iv i1)] 3,bxl h2 [(.func (.func 127) [].toArray [].toArray)] 150]) s).e 9 [0,1,2,3,4,5,6,7])).post id (fun _=>rfl) (fun _ _ _ _ s=>(St.pack (A:=[bxl h0 [(iv i0)] 3,bxl h1 [(iv i1)] 3,bxl h2 [(.func (.func 127) [].toArray [].toArray)] 150]) (((s).shr 0 R).e 4 [1,2,3,0])).e 2 [1,0]))
 rcases bif_ hr with ⟨e9,hr⟩|⟨e9,hr⟩
 ·obtain ⟨t,b0,i0,i1,s0⟩:=r
  obtain rfl:=Nat.eq_of_beq_eq_true e9
  exact InvOk.mk (me145_shape _) (((Z1f_ok hr).perm (Pre':=[pk [bxl h0 [(iv i0)] 3,bxl h1 [(iv i1)] 3,bxl h2 [(.func (.func 129) [].toArray [].toArray)] 150],rds kT3 (.slice A1 N1 D1) x0.Args,rds kT3 (.slice A2 N2 D2) x0.Dims,rds kT3 (.slice A3 N3 D3) x0.Ints,rds kT3 (.slice A4 N4 D4) x0.Data,rds kT23 (.slice A5 N5 D5) x1,gl 0 mG]) (fun _ _ _ s=>(St.unpack (A:=[bxl h0 [(iv i0)] 3,bxl h1 [(iv i1)] 3,bxl h2 [(.func (.func 129) [].toArray [].toArray)] 150]) s).e 9 [0,1,2,3,4,5,6,7])).post id (fun _=>rfl) (fun _ _ _ _ s=>(St.pack (A:=[bxl h0 [(iv i0)] 3,bxl h1 [(iv i1)] 3,bxl h2 [(.func (.func 129) [].toArray [].toArray)] 150]) (((s).shr 0 R).e 4 [1,2,3,0])).e 2 [1,0]))
 rcases bif_ hr with ⟨e10,hr⟩|⟨e10,hr⟩
 ·obtain ⟨t,b0,i0,i1,s0⟩:=r
  obtain rfl:=Nat.eq_of_beq_eq_true e10
  exact InvOk.mk (me145_shape _) (((Z1g_ok hr).perm (Pre':=[pk [bxl h0 [(iv i0)] 3,bxl h1 [(iv i1)] 3,bxl h2 [(.func (.func 131) [].toArray [].toArray)] 150],rds kT3 (.slice A1 N1 D1) x0.Args,rds kT3 (.slice A2 N2 D2) x0.Dims,rds kT3 (.slice A3 N3 D3) x0.Ints,rds kT3 (.slice A4 N4 D4) x0.Data,rds kT23 (.slice A5 N5 D5) x1,gl 0 mG]) (fun _ _ _ s=>(St.unpack (A:=[bxl h0 [(iv i0)] 3,bxl h1 [(iv i1)] 3,bxl h2 [(.func (.func 131) [].toArray [].toArray)] 150]) s).e 9 [0,1,2,3,4,5,6,7])).post id (fun _=>rfl) (fun _ _ _ _ s=>(St.pack (A:=[bxl h0 [(iv i0)] 3,bxl h1 [(iv i1)] 3,bxl h2 [(.func (.func 131) [].toArray [].toArray)] 150]) (((s).shr 0 R).e 4 [1,2,3,0])).e 2 [1,0]))
 have hV:kindOfRV r (h0,h1,h2)=(.iface 145 (.agg [(vstr r.s0),(.func (.func 149) [].toArray [(pt h0 0),(pt h1 0),(pt h2 0)].toArray)].toArray)):=by simp only [kindOfRV,e0,e1,e2,e3,e4,e5,e6,e7,e8,e9,e10,cond_false]
 have hE:kindOfRE r (h0,h1,h2)=pk [bxl h0 [(iv r.i0)] 3,bxl h1 [(iv r.i1)] 3,bxl h2 [(.func (.func 133) [].toArray [].toArray)] 150]:=by simp only [kindOfRE,e0,e1,e2,e3,e4,e5,e6,e7,e8,e9,e10,cond_false]
 rw [hV,hE]
 exact InvOk.mk (me145_shape _) (((Z1h_ok hr).perm (Pre':=[pk [bxl h0 [(iv r.i0)] 3,bxl h1 [(iv r.i1)] 3,bxl h2 [(.func (.func 133) [].toArray [].toArray)] 150],rds kT3 (.slice A1 N1 D1) x0.Args,rds kT3 (.slice A2 N2 D2) x0.Dims,rds kT3 (.slice A3 N3 D3) x0.Ints,rds kT3 (.slice A4 N4 D4) x0.Data,rds kT23 (.slice A5 N5 D5) x1,gl 0 mG]) (fun _ _ _ s=>(St.unpack (A:=[bxl h0 [(iv r.i0)] 3,bxl h1 [(iv r.i1)] 3,bxl h2 [(.func (.func 133) [].toArray [].toArray)] 150]) s).e 9 [0,1,2,3,4,5,6,7])).post id (fun _=>rfl) (fun _ _ _ _ s=>(St.pack (A:=[bxl h0 [(iv r.i0)] 3,bxl h1 [(iv r.i1)] 3,bxl h2 [(.func (.func 133) [].toArray [].toArray)] 150]) ((s).e 4 [1,2,3,0])).e 2 [1,0]))
theorem Zd_ok  {n1:Node}{shapes6:(List (List Int))}{mG:Int}{r:(List Int)×Bool}(hr:Zd n1 shapes6=some r) :
 FnOk Tryz.prog 59 [(.agg [(iv n1.Op),(.slice A2 N2 D2),(.slice A3 N3 D3),(.slice A4 N4 D4),(vstr n1.Form),(.slice A5 N5 D5)].toArray),(.slice A7 N7 D7)] [rds kT3 (.slice A2 N2 D2) n1.Args,rds kT3 (.slice A3 N3 D3) n1.Dims,rds kT3 (.slice A4 N4 D4) n1.Ints,rds kT3 (.slice A5 N5 D5) n1.Data,ow (kT23).share 23 (.slice A7 N7 D7) shapes6,gl 0 mG] (fun (h:HH)=>((.tuple [(s3 h),(.bool r.2)].toArray),[rds kT3 (s3 h) r.1,ow (kT23).share 23 (.slice A7 N7 D7) shapes6])):=by
 unfold Zd at hr
 refine fn_ok Tryz.func59 R 58 R R fun C V=>?_
 refine cM (ow _ _ _ _::rds _ _ _::rds _ _ _::rds _ _ _::rds _ _ _::gl 0 mG::V) (tE 6 [4,0,1,2,3,5]) ?_
 refine cL 0 sees_sh ?_
 rintro rfl
 refine cL 1 sees_rd ?_
 rintro rfl
 refine cL 2 sees_rd ?_
 rintro rfl
 refine cL 3 sees_rd ?_
 rintro rfl
 refine cL 4 sees_rd ?_
 rintro rfl
 let W0:List HP:=RR kT3 A2 D2 n1.Args::RR kT3 A3 D3 n1.Dims::RR kT3 A4 D4 n1.Ints::RR kT3 A5 D5 n1.Data::gl 0 mG::V
 refine cN (_::W0) ?_
 refine o_2 ?_
 refine lBx R fun b8=>?_
 refine o_3 ?_
 refine qM (ow _ _ _ _::bxl _ _ _::W0) (tE 2 [1,0]) ?_
 let W1:List HP:=bxl b8 [(iv n1.Op),(sc A2 n1.Args D2),(sc A3 n1.Dims D3),(sc A4 n1.Ints D4),(vstr n1.Form),(sc A5 n1.Data D5)] 54::W0
 refine qN (_::W1) ?_
 refine o_2 ?_
 obtain ⟨r9,hx10,hr⟩:=bd hr
 refine o_3 ?_
 refine lC 0 cb96 R (Zt_ok hx10) R ?_
 rintro ⟨b11,b12,b13⟩
 refine lN (kindOfRE r9 (b11,b12,b13)::_::W1) ?_
 refine lO (vp _ R) ?_
 refine o_4 ?_
 obtain ⟨r14,hx15,hr⟩:=bd hr
 obtain ⟨r16,hx17,hr⟩:=bd hr
 refine cQ [(1,(sc A7 shapes6 D7)),(2,(pt b8 0)),(6,(kindOfRV r9 (b11,b12,b13))),(27,(.bool (((Nat.beq r9.t 0)||(!r16))||(decide ((n1.Args.length:Int)>(6:Int))))))] (OO (kT23).share 23 A7 D7 shapes6::kindOfRE r9 (b11,b12,b13)::W1) ?_ ?_
 rcases bo (Nat.beq r9.t 0) with hc18 | hc18
 refine cdr 15 [] mixo fun ht hn=>?_
 refine dR 0 R (vp _ R) (dR 1 R (vz (.bool (Nat.beq r9.t 0)) (kindOfRN R)) ?_)
 refine d13_ 2 [] ?_
 refine dD ?_
 exact qj (tE 2 [1,0])
 rcases bo ((Nat.beq r9.t 0)||(!r16)) with hc19 | hc19
 refine cdr 15 [] mixo fun ht hn=>?_
 refine dR 0 R (vp _ R) (dR 1 R (vz (.bool (Nat.beq r9.t 0)) (kindOfRN R)) ?_)
 refine d2_ 2 [] ?_
 refine dW 4 R (wnF hc18) (vp _ R) (d1 5 R (l_inv 1 (wnF hc18) R R (kindOfR_uses_ok (gcall_t hx15 (not_ff hc18))) R ?_))
 rintro _
 refine l_nil (q_draw (sL []) (d1 6 R (lM (RR kT3 A2 D2 n1.Args::RR kT3 A3 D3 n1.Dims::RR kT3 A4 D4 n1.Ints::RR kT3 A5 D5 n1.Data::gl 0 mG::kindOfRE r9 (b11,b12,b13)::ow _ _ _ _::W1) (fun w s=>((((((s.d 3 R).d 5 R).d 7 R).d 9 R).dg 11 R).e 7 [4,3,2,1,0,5,6])) ?_)))
 refine l_calln 5 R (wnF hc18) cb97 R (Z1m_ok (gcall_t hx17 (not_ff hc18))) R ?_
 rintro _
 refine lN (_::_::W1) ?_
 refine l_nil (q_draw (sL []) ?_)
 refine d8_ 7 [] ?_
 refine dD ?_
 exact qj (tE 2 [1,0])
 refine cdr 15 [] mixo fun ht hn=>?_
 refine dR 0 R (vp _ R) (dR 1 R (vz (.bool (Nat.beq r9.t 0)) (kindOfRN R)) ?_)
 refine d2_ 2 [] ?_
 refine dW 4 R (wnF hc18) (vp _ R) (d1 5 R (l_inv 1 (wnF hc18) R R (kindOfR_uses_ok (gcall_t hx15 (not_ff hc18))) R ?_))
 rintro _
 refine l_nil (q_draw (sL []) (d1 6 R (lM (RR kT3 A2 D2 n1.Args::RR kT3 A3 D3 n1.Dims::RR kT3 A4 D4 n1.Ints::RR kT3 A5 D5 n1.Data::gl 0 mG::kindOfRE r9 (b11,b12,b13)::ow _ _ _ _::W1) (fun w s=>((((((s.d 3 R).d 5 R).d 7 R).d 9 R).dg 11 R).e 7 [4,3,2,1,0,5,6])) ?_)))
 refine l_calln 5 R (wnF hc18) cb97 R (Z1m_ok (gcall_t hx17 (not_ff hc18))) R ?_
 rintro _
 refine lN (_::_::W1) ?_
 refine l_nil (q_draw (sL []) ?_)
 refine d8_ 7 [] ?_
 refine dD ?_
 exact qj (tE 2 [1,0])
 rintro σ1
 refine o_1 ?_
 rcases bif_ hr with ⟨_,hr⟩|⟨_,hr⟩
 refine o_9 ?_
 obtain rfl:=so hr
 exact qT2 (none,0,0) (fun w s=>((s.nilr kT3).e 9 [0,1]))
 refine o_5 ?_
 refine l_build (K:=kT23) (xs:=([]:List (List Int))) (vs:=[]) 0 R R sl38 sz23 zc23 R R R R R R ?_ R (fun A21 D21=>?_)
 exact fun I h s=>(mO23).list [] I h s
 refine lN (OO kT23 23 A21 D21 ([]:List (List Int))::_::_::W1) ?_
 refine o_4 ?_
 refine c_cut (A:=((List (List Int)))×(HH)) (fun a=>Zd_J1 n1 r9 a.1=some r) (fun a=>[(2,(pt b8 0)),(6,(kindOfRV r9 (b11,b12,b13))),(7,(s3 a.2))]) (fun a=>kindOfRE r9 (b11,b12,b13)::ow (kT23).share 23 (s3 a.2) a.1::OO (kT23).share 23 A7 D7 shapes6::W1) ?_ ?_
 refine o_9 ?_
 obtain ⟨e1,hl1,hk1⟩:=bd hr
 refine c_loop (A:=HH×HH) hl1 (fun s a=>[(1,(sc A7 shapes6 D7)),(2,(pt b8 0)),(6,(kindOfRV r9 (b11,b12,b13))),(7,(s3 a.1)),(30,(s3 a.2)),(31,(il n1.Args)),(32,(iv s.2))]) (fun s a=>OO (kT23).share 23 A7 D7 shapes6::kindOfRE r9 (b11,b12,b13)::ow (kT23).share 23 (s3 a.1) s.1::rds kT3 (s3 a.2) n1.Args::W1) ((A21,([]:List (List Int)).length,D21),(A2,n1.Args.length,D2)) (aS R) (fun w s=>(((s.wk 0 R).d 4 R).e 4 [2,3,1,0])) ?_
 rintro ⟨args35,x38⟩ ⟨⟨A36,N36,D36⟩,⟨A37,N37,D37⟩⟩ σ1 out1 hr he1
 dsimp only [Zd_L1] at hr
 refine c_len 2 sees_sh (fun (hn:N36=args35.length)=>?_)
 subst hn
 refine c_len 3 sees_rd (fun (hn:N37=n1.Args.length)=>?_)
 subst hn
 refine o_6 ?_
 rcases bif_ hr with ⟨_,hr⟩|⟨_,hr⟩
 refine o_6 ?_
 obtain ⟨hg40,hr⟩:=gd hr
 refine c_region (t_some 3 sees_rd (show 0<n1.Args.length by have:=hg40; omega) (fun g41 o42 ha=>?_))
 subst ha
 refine o_7 ?_
 refine cQ [(1,(sc A7 shapes6 D7)),(2,(pt b8 0)),(6,(kindOfRV r9 (b11,b12,b13))),(7,(sc A36 args35 D36)),(9,(iv (ix n1.Args x38))),(30,(sc (ad g41 o42) n1.Args D37)),(31,(il n1.Args)),(32,(iv x38)),(43,(.bool ((decide ((ix n1.Args x38)<(0:Int)))||(decide ((ix n1.Args x38)≥(shapes6.length:Int))))))] (OO (kT23).share 23 A7 D7 shapes6::kindOfRE r9 (b11,b12,b13)::OO (kT23).share 23 A36 D36 args35::RR kT3 (ad g41 o42) D37 n1.Args::W1) ?_ ?_
 refine o_4 ?_
 rcases bo (decide ((ix n1.Args x38)<(0:Int))) with hc43 | hc43
 refine o_6 ?_
 exact qj tI
 refine o_6 ?_
 exact qj tI
 rintro σ1
 refine o_1 ?_
 rcases bif_ hr with ⟨_,hr⟩|⟨_,hr⟩
 refine o_11 ?_
 obtain rfl:=so hr
 obtain rfl:=he1 _ R
 have hr:=hk1
 refine o_3 ?_
 obtain rfl:=so hr
 exact qT2 (none,0,0) (fun w s=>((s.nilr kT3).e 11 [0,1]))
 refine o_3 ?_
 obtain ⟨hg45,hr⟩:=gd hr
 obtain ⟨hg50,hr⟩:=gd hr
 refine o_4 ?_
 refine t_some 0 sees_sh (show 0<shapes6.length by have:=hg45; omega) (fun g46 o47 ha=>?_)
 subst ha
 refine o_1 ?_
 refine l_ldof (K:=(kT23).share) (fo:=0) 0 (ix n1.Args x38) R R ag23 dT23.own (fun _ _=>R) R R hg45.1 hg45.2 ?_
 rintro ⟨A48,D48⟩
 refine lN (RR kT3 A48 D48 (ix shapes6 (ix n1.Args x38))::OO (kT23).share 23 (ad g46 o47) D7 shapes6::_::OO (kT23).share 23 A36 D36 args35::RR kT3 (ad g41 o42) D37 n1.Args::W1) ?_
 refine lM (_::_::_::_::_::_::W1) (fun w s=>(s.d 0 R)) ?_
 refine l_build (K:=(kT23).share) (xs:=([(ix shapes6 (ix n1.Args x38))]:List (List Int))) (vs:=[(sc A48 (ix shapes6 (ix n1.Args x38)) D48)]) 1 R R sl38 sz23 zc23 R R R R R R ?_ R (fun A49 D49=>?_)
 exact fun I h s=>(mS23).list [((sc A48 (ix shapes6 (ix n1.Args x38)) D48),(ix shapes6 (ix n1.Args x38)))] I h s
 refine lN (OO (kT23).share 23 A49 D49 ([(ix shapes6 (ix n1.Args x38))]:List (List Int))::_::_::_::_::_::W1) ?_
 refine lM (ow _ _ _ _::ow _ _ _ _::rds _ _ _::ow _ _ _ _::kindOfRE r9 (b11,b12,b13)::rds _ _ _::W1) (tE 6 [4,0,1,2,3,5]) ?_
 refine l_app (K:=(kT23).share) 5864062014805 R R sl38 sz23 by23 (Zr.zk (Zr.share zT23) zc23) R R R R R R src_ow hg50 (fun A51 D51=>(lN (OO (kT23).share 23 A51 D51 (args35++([(ix shapes6 (ix n1.Args x38))]:List (List Int)))::_::_::_::_::W1) ?_))
 refine o_8 ?_
 obtain rfl:=so hr
 exact qA ((A51,(args35++([(ix shapes6 (ix n1.Args x38))]:List (List Int))).length,D51),((ad g41 o42),n1.Args.length,D37)) (tE 5 [2,3,0,4])
 refine o_3 ?_
 obtain rfl:=so hr
 obtain rfl:=he1 _ R
 have hr:=hk1
 refine o_2 ?_
 exact qI (args35,(A36,args35.length,D36)) hr (tE 4 [1,2,0])
 rintro ⟨args56,⟨A57,N57,D57⟩⟩ σ1 hr
 dsimp only [Zd_J1] at hr
 refine c_len 1 sees_sh (fun (hn:N57=args56.length)=>?_)
 subst hn
 refine o_1 ?_
 obtain ⟨r58,hx59,hr⟩:=bd hr
 refine c_region (lO (vp _ R) ?_)
 refine o_2 ?_
 refine l_st (fun w s=>s.shs 1 R) (lM (kindOfRE r9 (b11,b12,b13)::RR kT3 A2 D2 n1.Args::RR kT3 A3 D3 n1.Dims::RR kT3 A4 D4 n1.Ints::RR kT3 A5 D5 n1.Data::RR kT23 A57 D57 args56::gl 0 mG::RR kT23 A57 D57 args56::OO (kT23).share 23 A7 D7 shapes6::W1) (fun w s=>(((((((s.d 4 R).d 6 R).d 8 R).d 10 R).d 4 R).dg 13 R).e 9 [7,5,4,3,2,1,0,6,8])) ?_)
 refine l_inv 7 R R R (kindOfR_shape_ok hx59) R ?_
 rintro ⟨A60,N60,D60⟩
 refine lN (rds kT3 (.slice A60 N60 D60) r58.1::_::_::_::W1) ?_
 refine l_len 0 sees_rd ?_
 rintro rfl
 refine o_7 ?_
 obtain rfl:=so hr
 exact qT2 (A60,r58.1.length,D60) (tE 10 [0,3])
theorem Zg_ok  {g1:Graph}{mG:Int}{r:(List (List Int))×Bool}(hr:Zg g1=some r) :
 FnOk Tryz.prog 36 [(.agg [(.slice A2 N2 D2),(.slice A3 N3 D3)].toArray)] [rds kT54 (.slice A2 N2 D2) g1.Nodes,rds kT3 (.slice A3 N3 D3) g1.Outs,gl 0 mG] (fun (h:HH)=>((.tuple [(s3 h),(.bool r.2)].toArray),[ow (kT23).share 23 (s3 h) r.1])):=by
 unfold Zg at hr
 refine fn_ok Tryz.func36 R 60 R R fun C V=>?_
 refine cN (_::_::_::V) ?_
 refine cL 0 sees_rd ?_
 rintro rfl
 refine cL 1 sees_rd ?_
 rintro rfl
 let W0:List HP:=RR kT54 A2 D2 g1.Nodes::RR kT3 A3 D3 g1.Outs::gl 0 mG::V
 refine cN W0 ?_
 refine o_2 ?_
 refine lBx R fun b4=>?_
 refine o_3 ?_
 let W1:List HP:=bxl b4 [(sc A2 g1.Nodes D2),(sc A3 g1.Outs D3)] 30::W0
 refine qN W1 ?_
 refine o_3 ?_
 refine cQ [(1,(pt b4 0)),(20,(.bool ((decide ((g1.Nodes.length:Int)>(200:Int)))||(decide ((g1.Outs.length:Int)>(40:Int))))))] (W1) ?_ ?_
 refine o_6 ?_
 rcases bo (decide ((g1.Nodes.length:Int)>(200:Int))) with hc5 | hc5
 refine o_6 ?_
 exact qj tI
 refine o_6 ?_
 exact qj tI
 rintro σ1
 refine o_1 ?_
 rcases bif_ hr with ⟨_,hr⟩|⟨_,hr⟩
 refine o_9 ?_
 obtain rfl:=so hr
 exact qT2 (none,0,0) (fun w s=>((s.nilo (kT23).share 23).e 5 [0]))
 refine o_5 ?_
 refine l_build (K:=kT23) (xs:=([]:List (List Int))) (vs:=[]) 0 R R sl38 sz23 zc23 R R R R R R ?_ R (fun A7 D7=>?_)
 exact fun I h s=>(mO23).list [] I h s
 refine lN (OO kT23 23 A7 D7 ([]:List (List Int))::W1) ?_
 refine o_4 ?_
 refine c_cut (A:=((List (List Int)))×(HH)) (fun a=>Zg_J1 g1 a.1=some r) (fun a=>[(1,(pt b4 0)),(4,(s3 a.2))]) (fun a=>ow (kT23).share 23 (s3 a.2) a.1::W1) ?_ ?_
 refine o_9 ?_
 obtain ⟨e1,hl1,hk1⟩:=bd hr
 refine c_loop (A:=HH) hl1 (fun s a=>[(1,(pt b4 0)),(4,(s3 a)),(23,(sc A2 g1.Nodes D2)),(24,(il g1.Nodes)),(25,(iv s.2))]) (fun s a=>ow (kT23).share 23 (s3 a) s.1::W1) (A7,([]:List (List Int)).length,D7) (aS R) (fun w s=>(s.wk 0 R)) ?_
 rintro ⟨x24,x26⟩ ⟨A25,N25,D25⟩ σ1 out1 hr he1
 dsimp only [Zg_L1] at hr
 refine c_len 0 sees_sh (fun (hn:N25=x24.length)=>?_)
 subst hn
 refine o_6 ?_
 rcases bif_ hr with ⟨_,hr⟩|⟨_,hr⟩
 refine o_6 ?_
 obtain ⟨hg28,hr⟩:=gd hr
 refine c_region (t_some 2 sees_rd (show 0<g1.Nodes.length by have:=hg28; omega) (fun g29 o30 ha=>?_))
 subst ha
 refine o_1 ?_
 refine t_elem (K:=kT54) 2 x26 dT54.dec R hg28.1 hg28.2 ?_
 rintro ⟨-,⟨A31,D31⟩,⟨A32,D32⟩,⟨A33,D33⟩,-,⟨A34,D34⟩⟩
 refine lN (cl g29 (o30+x26.toNat*6) [(iv (ix g1.Nodes x26).Op),(sc A31 ((ix g1.Nodes x26).Args) D31),(sc A32 ((ix g1.Nodes x26).Dims) D32),(sc A33 ((ix g1.Nodes x26).Ints) D33),(vstr (ix g1.Nodes x26).Form),(sc A34 ((ix g1.Nodes x26).Data) D34)]::RR kT3 A31 D31 ((ix g1.Nodes x26).Args)::RR kT3 A32 D32 ((ix g1.Nodes x26).Dims)::RR kT3 A33 D33 ((ix g1.Nodes x26).Ints)::RR kT3 A34 D34 ((ix g1.Nodes x26).Data)::OO (kT23).share 23 A25 D25 x24::W1) ?_
 refine lO (vz (.agg [(iv (ix g1.Nodes x26).Op),(sc A31 ((ix g1.Nodes x26).Args) D31),(sc A32 ((ix g1.Nodes x26).Dims) D32),(sc A33 ((ix g1.Nodes x26).Ints) D33),(vstr (ix g1.Nodes x26).Form),(sc A34 ((ix g1.Nodes x26).Data) D34)].toArray) (v_clfs (fo:=0) 0 ag54 sz54 R R R R)) (l_alloc R R zc54 (fun b35=>(l_stores 0 R R sz54 R R R R R R (lN (bxl b35 [(iv (ix g1.Nodes x26).Op),(sc A31 ((ix g1.Nodes x26).Args) D31),(sc A32 ((ix g1.Nodes x26).Dims) D32),(sc A33 ((ix g1.Nodes x26).Ints) D33),(vstr (ix g1.Nodes x26).Form),(sc A34 ((ix g1.Nodes x26).Data) D34)] 54::_::_::_::_::_::_::W1) ?_))))
 refine o_3 ?_
 obtain ⟨r36,hx37,hr⟩:=bd hr
 refine o_3 ?_
 refine lM (rds _ _ _::rds _ _ _::rds _ _ _::rds _ _ _::ow _ _ _ _::gl 0 mG::bxl _ _ _::cl _ _ _::rds _ _ _::rds _ _ _::rds _ _ _::rds _ _ _::W1) (fun w s=>((((((s.d 2 R).d 4 R).d 6 R).d 8 R).dg 14 R).e 12 [4,3,2,1,11,0,5,6,7,8,9,10])) ?_
 refine lC 6 cb59 R (Zd_ok hx37) R ?_
 rintro ⟨A38,N38,D38⟩
 refine lN (rds kT3 (.slice A38 N38 D38) r36.1::_::_::_::_::_::_::_::W1) ?_
 refine l_len 0 sees_rd ?_
 rintro rfl
 refine lO (vT R) ?_
 refine o_13 ?_
 rcases bif_ hr with ⟨_,hr⟩|⟨_,hr⟩
 refine o_11 ?_
 obtain rfl:=so hr
 obtain rfl:=he1 _ R
 have hr:=hk1
 refine o_3 ?_
 obtain rfl:=so hr
 exact qT2 (none,0,0) (fun w s=>((s.nilo (kT23).share 23).e 13 [0]))
 refine o_3 ?_
 obtain ⟨hg41,hr⟩:=gd hr
 refine o_3 ?_
 refine lM (_::_::_::_::_::_::_::_::_::W1) (fun w s=>(s.d 0 R)) ?_
 refine l_build (K:=(kT23).share) (xs:=([r36.1]:List (List Int))) (vs:=[(sc A38 r36.1 D38)]) 1 R R sl38 sz23 zc23 R R R R R R ?_ R (fun A40 D40=>?_)
 exact fun I h s=>(mS23).list [((sc A38 r36.1 D38),r36.1)] I h s
 refine lN (OO (kT23).share 23 A40 D40 ([r36.1]:List (List Int))::_::_::_::_::_::_::_::_::W1) ?_
 refine lM (ow _ _ _ _::ow _ _ _ _::rds _ _ _::bxl _ _ _::cl _ _ _::rds _ _ _::rds _ _ _::rds _ _ _::rds _ _ _::W1) (fun w s=>(s.f 9 [2,1,0,2,3,6])) ?_
 refine l_app (K:=(kT23).share) 5864062014805 R R sl38 sz23 by23 (Zr.zk (Zr.share zT23) zc23) R R R R R R src_ow hg41 (fun A42 D42=>(lN (OO (kT23).share 23 A42 D42 (x24++([r36.1]:List (List Int)))::_::_::_::_::_::_::_::W1) ?_))
 refine o_8 ?_
 obtain rfl:=so hr
 exact qA (A42,(x24++([r36.1]:List (List Int))).length,D42) (tE 8 [0])
 refine o_3 ?_
 obtain rfl:=so hr
 obtain rfl:=he1 _ R
 have hr:=hk1
 refine o_2 ?_
 exact qI (x24,(A25,x24.length,D25)) hr tI
 rintro ⟨x46,⟨A47,N47,D47⟩⟩ σ1 hr
 dsimp only [Zg_J1] at hr
 refine c_len 0 sees_sh (fun (hn:N47=x46.length)=>?_)
 subst hn
 refine c_seq (c_cut (A:=(Unit)×(Unit)) (fun a=>Zg_J2 x46=some r) (fun a=>[(4,(sc A47 x46 D47))]) (fun a=>OO (kT23).share 23 A47 D47 x46::W1) ?_ ?_)
 refine o_9 ?_
 obtain ⟨e2,hl2,hk2⟩:=bd hr
 refine c_loop (A:=HH) hl2 (fun s a=>[(1,(pt b4 0)),(4,(sc A47 x46 D47)),(43,(s3 a)),(44,(il g1.Outs)),(45,(iv s))]) (fun s a=>OO (kT23).share 23 A47 D47 x46::rds kT3 (s3 a) g1.Outs::W1) (A3,g1.Outs.length,D3) (aS R) (fun w s=>((s.d 3 R).e 2 [1,0])) ?_
 rintro x55 ⟨A54,N54,D54⟩ σ1 out2 hr he2
 dsimp only [Zg_L2] at hr
 refine c_len 1 sees_rd (fun (hn:N54=g1.Outs.length)=>?_)
 subst hn
 refine o_6 ?_
 rcases bif_ hr with ⟨_,hr⟩|⟨_,hr⟩
 refine o_6 ?_
 obtain ⟨hg57,hr⟩:=gd hr
 refine c_region (t_some 1 sees_rd (show 0<g1.Outs.length by have:=hg57; omega) (fun g58 o59 ha=>?_))
 subst ha
 refine o_6 ?_
 refine cQ [(1,(pt b4 0)),(4,(sc A47 x46 D47)),(43,(sc (ad g58 o59) g1.Outs D54)),(44,(il g1.Outs)),(45,(iv x55)),(57,(.bool ((decide ((ix g1.Outs x55)<(0:Int)))||(decide ((ix g1.Outs x55)≥(g1.Nodes.length:Int))))))] (OO (kT23).share 23 A47 D47 x46::RR kT3 (ad g58 o59) D54 g1.Outs::W1) ?_ ?_
 refine o_4 ?_
 rcases bo (decide ((ix g1.Outs x55)<(0:Int))) with hc60 | hc60
 refine o_7 ?_
 exact qj tI
 refine o_7 ?_
 exact qj tI
 rintro σ1
 refine o_1 ?_
 rcases bif_ hr with ⟨_,hr⟩|⟨_,hr⟩
 refine o_10 ?_
 obtain rfl:=so hr
 obtain rfl:=he2 _ R
 have hr:=hk2
 refine o_3 ?_
 obtain rfl:=so hr
 exact qT2 (none,0,0) (fun w s=>((s.nilo (kT23).share 23).e 7 [0]))
 refine o_8 ?_
 obtain rfl:=so hr
 exact qA ((ad g58 o59),g1.Outs.length,D54) tI
 refine o_3 ?_
 obtain rfl:=so hr
 obtain rfl:=he2 _ R
 have hr:=hk2
 refine o_2 ?_
 exact qI ((),()) hr (tE 2 [0])
 rintro ⟨_,_⟩ σ1 hr
 dsimp only [Zg_J2] at hr
 refine o_8 ?_
 obtain rfl:=so hr
 exact qT2 (A47,x46.length,D47) (tE 5 [0])
theorem Z28_ok  {g1:Graph}{mG:Int}{r:Bool}(hr:Z28 g1=some r) :
 FnOk Tryz.prog 12 [(.agg [(.slice A2 N2 D2),(.slice A3 N3 D3)].toArray)] [rds kT54 (.slice A2 N2 D2) g1.Nodes,rds kT3 (.slice A3 N3 D3) g1.Outs,gl 0 mG] (fun (h:Unit)=>((.bool r),[])):=by
 unfold Z28 at hr
 refine fn_ok Tryz.func12 R 11 R R fun C V=>?_
 refine cN (_::_::_::V) ?_
 refine cL 0 sees_rd ?_
 rintro rfl
 refine cL 1 sees_rd ?_
 rintro rfl
 let W0:List HP:=RR kT54 A2 D2 g1.Nodes::RR kT3 A3 D3 g1.Outs::gl 0 mG::V
 refine cN W0 ?_
 refine o_2 ?_
 refine lBx R fun b4=>?_
 refine o_2 ?_
 let W1:List HP:=bxl b4 [(sc A2 g1.Nodes D2),(sc A3 g1.Outs D3)] 30::W0
 refine qN W1 ?_
 refine o_2 ?_
 obtain ⟨r5,hx6,hr⟩:=bd hr
 refine o_2 ?_
 refine lM (RR kT54 A2 D2 g1.Nodes::RR kT3 A3 D3 g1.Outs::gl 0 mG::W1) (fun w s=>((((s.d 1 R).d 3 R).dg 5 R).e 3 [2,1,0])) ?_
 refine lC 3 cb36 R (Zg_ok hx6) R ?_
 rintro ⟨A7,N7,D7⟩
 refine lN (ow (kT23).share 23 (.slice A7 N7 D7) r5.1::W1) ?_
 refine l_len 0 sees_sh ?_
 rintro rfl
 refine lO (vT R) ?_
 refine o_13 ?_
 obtain rfl:=so hr
 exact qF () (tE 5 [])
theorem Z08_ok  {a1:(List Int)}{b3:(List Int)}{r:Bool}(hr:Z08 a1 b3=some r) :
 FnOk Tryz.prog 16 [(.slice A2 N2 D2),(.slice A4 N4 D4)] [rds kT3 (.slice A2 N2 D2) a1,rds kT3 (.slice A4 N4 D4) b3] (fun (h:Unit)=>((.bool r),[])):=by
 unfold Z08 at hr
 refine fn_ok Tryz.func16 R 26 R R fun C V=>?_
 refine cN (_::_::V) ?_
 refine cL 0 sees_rd ?_
 rintro rfl
 refine cL 1 sees_rd ?_
 rintro rfl
 let W0:List HP:=RR kT3 A2 D2 a1::RR kT3 A4 D4 b3::V
 refine cN W0 ?_
 refine o_15 ?_
 rcases bif_ hr with ⟨_,hr⟩|⟨_,hr⟩
 refine o_8 ?_
 obtain rfl:=so hr
 exact qF () (tE 2 [])
 refine o_4 ?_
 refine c_cut (A:=(Unit)×(Unit)) (fun a=>Z08_J1=some r) (fun a=>[]) (fun a=>W0) ?_ ?_
 refine o_6 ?_
 obtain ⟨e1,hl1,hk1⟩:=bd hr
 refine c_loop (A:=Unit) hl1 (fun s a=>[(0,(sc A2 a1 D2)),(1,(sc A4 b3 D4)),(5,(iv s))]) (fun s a=>W0) () (aS R) tI ?_
 rintro i14 _ σ1 out1 hr he1
 dsimp only [Z08_L1] at hr
 refine o_9 ?_
 rcases bif_ hr with ⟨_,hr⟩|⟨_,hr⟩
 refine o_6 ?_
 obtain ⟨hg16,hr⟩:=gd hr
 obtain ⟨hg19,hr⟩:=gd hr
 refine c_some 0 sees_rd (show 0<a1.length by have:=hg16; omega) (fun g17 o18 ha=>?_)
 subst ha
 refine c_some 1 sees_rd (show 0<b3.length by have:=hg19; omega) (fun g20 o21 ha=>?_)
 subst ha
 refine cdr 9 [] mixo fun ht hn=>?_
 refine d9_ 0 [] ?_
 refine dD (q_next ?_)
 rcases bif_ hr with ⟨_,hr⟩|⟨_,hr⟩
 refine o_9 ?_
 obtain rfl:=so hr
 obtain rfl:=he1 _ R
 have hr:=hk1
 refine o_3 ?_
 obtain rfl:=so hr
 exact qF () (tE 2 [])
 refine o_9 ?_
 obtain rfl:=so hr
 exact qA () tI
 refine o_3 ?_
 obtain rfl:=so hr
 obtain rfl:=he1 _ R
 have hr:=hk1
 refine o_2 ?_
 exact q_join ((),()) hr trivial tI
 rintro ⟨_,_⟩ σ1 hr
 dsimp only [Z08_J1] at hr
 refine o_6 ?_
 obtain rfl:=so hr
 exact qF () (tE 2 [])
theorem Z26_ok  {a1:Node}{b6:Node}{r:Bool}(hr:Z26 a1 b6=some r) :
 FnOk Tryz.prog 60 [(.agg [(iv a1.Op),(.slice A2 N2 D2),(.slice A3 N3 D3),(.slice A4 N4 D4),(vstr a1.Form),(.slice A5 N5 D5)].toArray),(.agg [(iv b6.Op),(.slice A7 N7 D7),(.slice A8 N8 D8),(.slice A9 N9 D9),(vstr b6.Form),(.slice A10 N10 D10)].toArray)] [rds kT3 (.slice A2 N2 D2) a1.Args,rds kT3 (.slice A3 N3 D3) a1.Dims,rds kT3 (.slice A4 N4 D4) a1.Ints,rds kT3 (.slice A5 N5 D5) a1.Data,rds kT3 (.slice A7 N7 D7) b6.Args,rds kT3 (.slice A8 N8 D8) b6.Dims,rds kT3 (.slice A9 N9 D9) b6.Ints,rds kT3 (.slice A10 N10 D10) b6.Data] (fun (h:Unit)=>((.bool r),[])):=by
 unfold Z26 at hr
 refine fn_ok Tryz.func60 R 39 R R fun C V=>?_
 refine cN (_::_::_::_::_::_::_::_::V) ?_
 refine cL 0 sees_rd ?_
 rintro rfl
 refine cL 1 sees_rd ?_
 rintro rfl
 refine cL 2 sees_rd ?_
 rintro rfl
 refine cL 3 sees_rd ?_
 rintro rfl
 refine cL 4 sees_rd ?_
 rintro rfl
 refine cL 5 sees_rd ?_
 rintro rfl
 refine cL 6 sees_rd ?_
 rintro rfl
 refine cL 7 sees_rd ?_
 rintro rfl
 let W0:List HP:=RR kT3 A2 D2 a1.Args::RR kT3 A3 D3 a1.Dims::RR kT3 A4 D4 a1.Ints::RR kT3 A5 D5 a1.Data::RR kT3 A7 D7 b6.Args::RR kT3 A8 D8 b6.Dims::RR kT3 A9 D9 b6.Ints::RR kT3 A10 D10 b6.Data::V
 refine cN W0 ?_
 refine o_2 ?_
 refine lBx R fun b11=>?_
 refine lBx R fun b12=>?_
 refine o_2 ?_
 let W1:List HP:=bxl b12 [(iv b6.Op),(sc A7 b6.Args D7),(sc A8 b6.Dims D8),(sc A9 b6.Ints D9),(vstr b6.Form),(sc A10 b6.Data D10)] 54::bxl b11 [(iv a1.Op),(sc A2 a1.Args D2),(sc A3 a1.Dims D3),(sc A4 a1.Ints D4),(vstr a1.Form),(sc A5 a1.Data D5)] 54::W0
 refine qN W1 ?_
 refine o_11 ?_
 rcases bif_ hr with ⟨_,hr⟩|⟨_,hr⟩
 refine o_8 ?_
 obtain rfl:=so hr
 exact qF () (tE 10 [])
 refine o_5 ?_
 obtain ⟨r14,hx15,hr⟩:=bd hr
 refine o_5 ?_
 refine lM (RR kT3 A2 D2 a1.Args::RR kT3 A7 D7 b6.Args::W1) (fun w s=>(((s.d 2 R).d 7 R).e 2 [1,0])) ?_
 refine lC 2 cb16 R (Z08_ok hx15) R ?_
 rintro _
 refine lN W1 ?_
 refine o_3 ?_
 rcases bif_ hr with ⟨_,hr⟩|⟨_,hr⟩
 refine o_8 ?_
 obtain rfl:=so hr
 exact qF () (tE 10 [])
 refine o_5 ?_
 obtain ⟨r17,hx18,hr⟩:=bd hr
 refine o_5 ?_
 refine lM (RR kT3 A3 D3 a1.Dims::RR kT3 A8 D8 b6.Dims::W1) (fun w s=>(((s.d 3 R).d 8 R).e 2 [1,0])) ?_
 refine lC 2 cb16 R (Z08_ok hx18) R ?_
 rintro _
 refine lN W1 ?_
 refine o_3 ?_
 rcases bif_ hr with ⟨_,hr⟩|⟨_,hr⟩
 refine o_8 ?_
 obtain rfl:=so hr
 exact qF () (tE 10 [])
 refine o_5 ?_
 obtain ⟨r20,hx21,hr⟩:=bd hr
 refine o_5 ?_
 refine lM (RR kT3 A4 D4 a1.Ints::RR kT3 A9 D9 b6.Ints::W1) (fun w s=>(((s.d 4 R).d 9 R).e 2 [1,0])) ?_
 refine lC 2 cb16 R (Z08_ok hx21) R ?_
 rintro _
 refine lN W1 ?_
 refine o_3 ?_
 rcases bif_ hr with ⟨_,hr⟩|⟨_,hr⟩
 refine o_8 ?_
 obtain rfl:=so hr
 exact qF () (tE 10 [])
 refine o_10 ?_
 refine lO (vz (.bool (!(a1.Form==b6.Form))) (v_scmp R R R)) ?_
 refine o_2 ?_
 rcases bif_ hr with ⟨_,hr⟩|⟨_,hr⟩
 refine o_8 ?_
 obtain rfl:=so hr
 exact qF () (tE 10 [])
 refine o_5 ?_
 obtain ⟨r24,hx25,hr⟩:=bd hr
 refine o_5 ?_
 refine lM (RR kT3 A5 D5 a1.Data::RR kT3 A10 D10 b6.Data::W1) (fun w s=>(((s.d 5 R).d 10 R).e 2 [1,0])) ?_
 refine lC 2 cb16 R (Z08_ok hx25) R ?_
 rintro _
 refine lN W1 ?_
 refine o_3 ?_
 rcases bif_ hr with ⟨_,hr⟩|⟨_,hr⟩
 refine o_8 ?_
 obtain rfl:=so hr
 exact qF () (tE 10 [])
 refine o_9 ?_
 obtain rfl:=so hr
 exact qF () (tE 10 [])
theorem Z12_ok  {a1:(List Node)}{b3:(List Node)}{r:Bool}(hr:Z12 a1 b3=some r) :
 FnOk Tryz.prog 37 [(.slice A2 N2 D2),(.slice A4 N4 D4)] [rds kT54 (.slice A2 N2 D2) a1,rds kT54 (.slice A4 N4 D4) b3] (fun (h:Unit)=>((.bool r),[])):=by
 unfold Z12 at hr
 refine fn_ok Tryz.func37 R 27 R R fun C V=>?_
 refine cN (_::_::V) ?_
 refine cL 0 sees_rd ?_
 rintro rfl
 refine cL 1 sees_rd ?_
 rintro rfl
 let W0:List HP:=RR kT54 A2 D2 a1::RR kT54 A4 D4 b3::V
 refine cN W0 ?_
 refine o_15 ?_
 rcases bif_ hr with ⟨_,hr⟩|⟨_,hr⟩
 refine o_8 ?_
 obtain rfl:=so hr
 exact qF () (tE 2 [])
 refine o_4 ?_
 refine c_cut (A:=(Unit)×(Unit)) (fun a=>Z12_J1=some r) (fun a=>[]) (fun a=>W0) ?_ ?_
 refine o_6 ?_
 obtain ⟨e1,hl1,hk1⟩:=bd hr
 refine c_loop (A:=Unit) hl1 (fun s a=>[(0,(sc A2 a1 D2)),(1,(sc A4 b3 D4)),(5,(iv s))]) (fun s a=>W0) () (aS R) tI ?_
 rintro i24 _ σ1 out1 hr he1
 dsimp only [Z12_L1] at hr
 refine o_9 ?_
 rcases bif_ hr with ⟨_,hr⟩|⟨_,hr⟩
 refine o_6 ?_
 obtain ⟨hg26,hr⟩:=gd hr
 obtain ⟨hg33,hr⟩:=gd hr
 obtain ⟨r40,hx41,hr⟩:=bd hr
 refine c_some 0 sees_rd (show 0<a1.length by have:=hg26; omega) (fun g27 o28 ha=>?_)
 subst ha
 refine c_elem (K:=kT54) 0 i24 dT54.dec R hg26.1 hg26.2 ?_
 rintro ⟨-,⟨A29,D29⟩,⟨A30,D30⟩,⟨A31,D31⟩,-,⟨A32,D32⟩⟩
 refine cN (cl g27 (o28+i24.toNat*6) [(iv (ix a1 i24).Op),(sc A29 ((ix a1 i24).Args) D29),(sc A30 ((ix a1 i24).Dims) D30),(sc A31 ((ix a1 i24).Ints) D31),(vstr (ix a1 i24).Form),(sc A32 ((ix a1 i24).Data) D32)]::RR kT3 A29 D29 ((ix a1 i24).Args)::RR kT3 A30 D30 ((ix a1 i24).Dims)::RR kT3 A31 D31 ((ix a1 i24).Ints)::RR kT3 A32 D32 ((ix a1 i24).Data)::W0) ?_
 refine c_some 6 sees_rd (show 0<b3.length by have:=hg33; omega) (fun g34 o35 ha=>?_)
 subst ha
 refine c_elem (K:=kT54) 6 i24 dT54.dec R hg33.1 hg33.2 ?_
 rintro ⟨-,⟨A36,D36⟩,⟨A37,D37⟩,⟨A38,D38⟩,-,⟨A39,D39⟩⟩
 refine cN (cl g34 (o35+i24.toNat*6) [(iv (ix b3 i24).Op),(sc A36 ((ix b3 i24).Args) D36),(sc A37 ((ix b3 i24).Dims) D37),(sc A38 ((ix b3 i24).Ints) D38),(vstr (ix b3 i24).Form),(sc A39 ((ix b3 i24).Data) D39)]::RR kT3 A36 D36 ((ix b3 i24).Args)::RR kT3 A37 D37 ((ix b3 i24).Dims)::RR kT3 A38 D38 ((ix b3 i24).Ints)::RR kT3 A39 D39 ((ix b3 i24).Data)::_::_::_::_::_::W0) ?_
 refine cdr 10 [] mixo fun ht hn=>?_
 refine d3_ 0 [] ?_
 refine dR 3 R (vz (.agg [(iv (ix a1 i24).Op),(sc A29 ((ix a1 i24).Args) D29),(sc A30 ((ix a1 i24).Dims) D30),(sc A31 ((ix a1 i24).Ints) D31),(vstr (ix a1 i24).Form),(sc A32 ((ix a1 i24).Data) D32)].toArray) (v_clfs (fo:=0) 5 ag54 sz54 R R R R)) ?_
 refine d3_ 4 [] ?_
 refine dR 7 R (vz (.agg [(iv (ix b3 i24).Op),(sc A36 ((ix b3 i24).Args) D36),(sc A37 ((ix b3 i24).Dims) D37),(sc A38 ((ix b3 i24).Ints) D38),(vstr (ix b3 i24).Form),(sc A39 ((ix b3 i24).Data) D39)].toArray) (v_clfs (fo:=0) 0 ag54 sz54 R R R R)) (d1 8 R (lM (rds _ _ _::rds _ _ _::rds _ _ _::rds _ _ _::rds _ _ _::rds _ _ _::rds _ _ _::rds _ _ _::cl _ _ _::rds _ _ _::rds _ _ _::rds _ _ _::rds _ _ _::cl _ _ _::rds _ _ _::rds _ _ _::rds _ _ _::rds _ _ _::W0) (fun w s=>(((((((((s.d 6 R).d 8 R).d 10 R).d 12 R).d 5 R).d 7 R).d 9 R).d 11 R).e 18 [7,6,5,4,3,2,1,0,8,9,10,11,12,13,14,15,16,17])) ?_))
 refine lC 8 cb60 R (Z26_ok hx41) R ?_
 rintro _
 refine lN (_::_::_::_::_::_::_::_::_::_::W0) ?_
 refine l_nil (q_draw (sL []) (dR 9 R (vNo R) (dD (q_next ?_))))
 rcases bif_ hr with ⟨_,hr⟩|⟨_,hr⟩
 refine o_9 ?_
 obtain rfl:=so hr
 obtain rfl:=he1 _ R
 have hr:=hk1
 refine o_3 ?_
 obtain rfl:=so hr
 exact qF () (tE 12 [])
 refine o_9 ?_
 obtain rfl:=so hr
 exact qA () (tE 10 [])
 refine o_3 ?_
 obtain rfl:=so hr
 obtain rfl:=he1 _ R
 have hr:=hk1
 refine o_2 ?_
 exact q_join ((),()) hr trivial tI
 rintro ⟨_,_⟩ σ1 hr
 dsimp only [Z12_J1] at hr
 refine o_6 ?_
 obtain rfl:=so hr
 exact qF () (tE 2 [])
theorem Z2j_ok  {a1:Graph}{b4:Graph}{r:Bool}(hr:Z2j a1 b4=some r) :
 FnOk Tryz.prog 13 [(.agg [(.slice A2 N2 D2),(.slice A3 N3 D3)].toArray),(.agg [(.slice A5 N5 D5),(.slice A6 N6 D6)].toArray)] [rds kT54 (.slice A2 N2 D2) a1.Nodes,rds kT3 (.slice A3 N3 D3) a1.Outs,rds kT54 (.slice A5 N5 D5) b4.Nodes,rds kT3 (.slice A6 N6 D6) b4.Outs] (fun (h:Unit)=>((.bool r),[])):=by
 unfold Z2j at hr
 refine fn_ok Tryz.func13 R 17 R R fun C V=>?_
 refine cN (_::_::_::_::V) ?_
 refine cL 0 sees_rd ?_
 rintro rfl
 refine cL 1 sees_rd ?_
 rintro rfl
 refine cL 2 sees_rd ?_
 rintro rfl
 refine cL 3 sees_rd ?_
 rintro rfl
 let W0:List HP:=RR kT54 A2 D2 a1.Nodes::RR kT3 A3 D3 a1.Outs::RR kT54 A5 D5 b4.Nodes::RR kT3 A6 D6 b4.Outs::V
 refine cN W0 ?_
 refine o_2 ?_
 refine lBx R fun b7=>?_
 refine lBx R fun b8=>?_
 refine o_2 ?_
 let W1:List HP:=bxl b8 [(sc A5 b4.Nodes D5),(sc A6 b4.Outs D6)] 30::bxl b7 [(sc A2 a1.Nodes D2),(sc A3 a1.Outs D3)] 30::W0
 refine qN W1 ?_
 refine o_3 ?_
 obtain ⟨r9,hx10,hr⟩:=bd hr
 refine o_5 ?_
 refine lM (RR kT54 A2 D2 a1.Nodes::RR kT54 A5 D5 b4.Nodes::W1) (fun w s=>(((s.d 2 R).d 5 R).e 2 [1,0])) ?_
 refine lC 2 cb37 R (Z12_ok hx10) R ?_
 rintro _
 refine lN W1 ?_
 refine o_3 ?_
 rcases bif_ hr with ⟨_,hr⟩|⟨_,hr⟩
 refine o_8 ?_
 obtain rfl:=so hr
 exact qF () (tE 6 [])
 refine o_5 ?_
 obtain ⟨r12,hx13,hr⟩:=bd hr
 refine o_5 ?_
 refine lM (RR kT3 A3 D3 a1.Outs::RR kT3 A6 D6 b4.Outs::W1) (fun w s=>(((s.d 3 R).d 6 R).e 2 [1,0])) ?_
 refine lC 2 cb16 R (Z08_ok hx13) R ?_
 rintro _
 refine lN W1 ?_
 refine o_3 ?_
 rcases bif_ hr with ⟨_,hr⟩|⟨_,hr⟩
 refine o_8 ?_
 obtain rfl:=so hr
 exact qF () (tE 6 [])
 refine o_9 ?_
 obtain rfl:=so hr
 exact qF () (tE 6 [])
theorem Z2w_ok  {aG1:Graph}{mG:Int}{r:Bool}(hr:Z2w aG1=some r) :
 FnOk Tryz.prog 3 [(.agg [(.slice A2 N2 D2),(.slice A3 N3 D3)].toArray)] [rds kT70 (.slice A2 N2 D2) aG1.Nodes,rds kT3 (.slice A3 N3 D3) aG1.Outs,gl 0 mG] (fun (h:Unit)=>((.bool r),[])):=by
 unfold Z2w at hr
 refine fn_ok Tryz.func3 R 27 R R fun C V=>?_
 refine cN (_::_::_::V) ?_
 refine cL 0 sees_rd ?_
 rintro rfl
 refine cL 1 sees_rd ?_
 rintro rfl
 let W0:List HP:=RR kT70 A2 D2 aG1.Nodes::RR kT3 A3 D3 aG1.Outs::gl 0 mG::V
 refine cN W0 ?_
 refine o_2 ?_
 refine lBx R fun b4=>?_
 refine o_2 ?_
 let W1:List HP:=bxl b4 [(sc A2 aG1.Nodes D2),(sc A3 aG1.Outs D3)] 25::W0
 refine qN W1 ?_
 refine o_7 ?_
 obtain ⟨r5,hx6,hr⟩:=bd hr
 refine o_3 ?_
 refine lM (RR kT70 A2 D2 aG1.Nodes::RR kT3 A3 D3 aG1.Outs::W1) (fun w s=>(((s.d 1 R).d 3 R).e 2 [1,0])) ?_
 refine lC 2 cb9 R (Z2k_ok hx6) R ?_
 rintro _
 refine lN W1 ?_
 refine o_10 ?_
 rcases bif_ hr with ⟨_,hr⟩|⟨_,hr⟩
 refine o_8 ?_
 obtain rfl:=so hr
 exact qF () (tE 4 [])
 refine o_4 ?_
 obtain ⟨r8,hx9,hr⟩:=bd hr
 obtain ⟨r12,hx13,hr⟩:=bd hr
 refine o_2 ?_
 refine lM (RR kT70 A2 D2 aG1.Nodes::RR kT3 A3 D3 aG1.Outs::W1) (fun w s=>(((s.d 1 R).d 3 R).e 2 [1,0])) ?_
 refine lC 2 cb11 R (Z1k_ok hx9) R ?_
 rintro ⟨⟨A10,N10,D10⟩,⟨A11,N11,D11⟩⟩
 refine lN (ow kT54 54 (.slice A10 N10 D10) r8.Nodes::ow kT3 3 (.slice A11 N11 D11) r8.Outs::W1) ?_
 refine l_len 0 sees_ow ?_
 rintro rfl
 refine l_len 1 sees_ow ?_
 rintro rfl
 refine lC 2 cb10 R (FnOk.lends (A':=[OO kT54 54 A10 D10 r8.Nodes,OO kT3 3 A11 D11 r8.Outs]) (A:=[RR kT54 A10 D10 r8.Nodes,RR kT3 A11 D11 r8.Outs]) (B:=[]) (Z2m_ok hx13) ⟨lend_ow,lend_ow,trivial⟩ (fun _=>trivial)) R ?_
 rintro _
 refine o_4 ?_
 obtain ⟨r14,hx15,hr⟩:=bd hr
 refine o_2 ?_
 refine lM (RR kT70 A2 D2 aG1.Nodes::RR kT3 A3 D3 aG1.Outs::ow _ _ _ _::ow _ _ _ _::W1) (fun w s=>(((s.d 3 R).d 5 R).e 4 [1,0,2,3])) ?_
 refine lC 2 cb11 R (Z1k_ok hx15) R ?_
 rintro ⟨⟨A16,N16,D16⟩,⟨A17,N17,D17⟩⟩
 refine lN (ow kT54 54 (.slice A16 N16 D16) r14.Nodes::ow kT3 3 (.slice A17 N17 D17) r14.Outs::_::_::W1) ?_
 refine l_len 0 sees_ow ?_
 rintro rfl
 refine l_len 1 sees_ow ?_
 rintro rfl
 refine l_alloc R R zc30 (fun b18=>(l_stores 0 R R sz30 R R R R R R (lN (bxl b18 [(sc A16 r14.Nodes D16),(sc A17 r14.Outs D17)] 30::_::_::_::_::W1) ?_)))
 refine o_3 ?_
 obtain ⟨r19,hx20,hr⟩:=bd hr
 refine o_2 ?_
 refine lM (ow _ _ _ _::ow _ _ _ _::gl 0 mG::bxl _ _ _::ow _ _ _ _::ow _ _ _ _::W1) (fun w s=>((s.dg 8 R).e 6 [2,3,0,1,4,5])) ?_
 refine lC 3 cb12 R (FnOk.lends (A':=[OO kT54 54 A16 D16 r14.Nodes,OO kT3 3 A17 D17 r14.Outs]) (A:=[RR kT54 A16 D16 r14.Nodes,RR kT3 A17 D17 r14.Outs]) (B:=[gl 0 mG]) (Z28_ok hx20) ⟨lend_ow,lend_ow,trivial⟩ (fun _=>trivial)) R ?_
 rintro _
 refine lN (_::_::_::_::_::W1) ?_
 refine o_8 ?_
 refine lO (v_bne un4 R R) ?_
 refine o_2 ?_
 rcases bif_ hr with ⟨_,hr⟩|⟨_,hr⟩
 refine o_8 ?_
 obtain rfl:=so hr
 exact qF () (tE 9 [])
 refine o_5 ?_
 obtain ⟨r22,hx23,hr⟩:=bd hr
 obtain ⟨r26,hx27,hr⟩:=bd hr
 refine cdr 5 [] mixo fun ht hn=>?_
 refine d2_ 0 [] ?_
 refine d1 2 R (lM (RR kT70 A2 D2 aG1.Nodes::RR kT3 A3 D3 aG1.Outs::ow _ _ _ _::ow _ _ _ _::bxl _ _ _::ow _ _ _ _::ow _ _ _ _::W1) (fun w s=>(((s.d 6 R).d 8 R).f 7 [1,1,0,1,2,5])) ?_)
 refine lC 2 cb11 R (Z1k_ok hx23) R ?_
 rintro ⟨⟨A24,N24,D24⟩,⟨A25,N25,D25⟩⟩
 refine lN (ow kT54 54 (.slice A24 N24 D24) r22.Nodes::ow kT3 3 (.slice A25 N25 D25) r22.Outs::_::_::_::_::_::W1) ?_
 refine l_len 0 sees_ow ?_
 rintro rfl
 refine l_len 1 sees_ow ?_
 rintro rfl
 refine l_nil (q_draw (sL [1,0]) (d1 3 R (lM (ow _ _ _ _::ow _ _ _ _::ow _ _ _ _::ow _ _ _ _::bxl _ _ _::ow _ _ _ _::ow _ _ _ _::W1) (fun w s=>(s.f 7 [2,2,0,2,4,3])) ?_)))
 refine lC 4 cb13 R (FnOk.lends (A':=[OO kT54 54 A16 D16 r14.Nodes,OO kT3 3 A17 D17 r14.Outs,OO kT54 54 A24 D24 r22.Nodes,OO kT3 3 A25 D25 r22.Outs]) (A:=[RR kT54 A16 D16 r14.Nodes,RR kT3 A17 D17 r14.Outs,RR kT54 A24 D24 r22.Nodes,RR kT3 A25 D25 r22.Outs]) (B:=[]) (Z2j_ok hx27) ⟨lend_ow,lend_ow,lend_ow,lend_ow,trivial⟩ (fun _=>trivial)) R ?_
 rintro _
 refine l_nil (q_draw (sL [3,2]) ?_)
 refine d1_ 4 [3,2] ?_
 refine dD (q_next ?_)
 rcases bif_ hr with ⟨_,hr⟩|⟨_,hr⟩
 refine o_8 ?_
 obtain rfl:=so hr
 exact qF () (tE 11 [])
 refine o_9 ?_
 obtain rfl:=so hr
 exact qF () (tE 11 [])
end Go.Proofs.YtmpnollfdpdipaaGreat
