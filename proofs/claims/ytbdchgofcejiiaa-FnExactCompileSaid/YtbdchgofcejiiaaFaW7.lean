import Derived.Test.YtbdchgofcejiiaaFaW6
set_option linter.unusedVariables false
set_option maxRecDepth 20000
namespace Go.Proofs.Ytbdchgofcejiiaa
open Go Go.Pg
variable {A2 A3 A4 A5 A6 A7 : Option Addr} {D2 D3 D4 D5 D6 D7 N2 N3 N4 N5 N6 N7 : Nat}
theorem laws_FnExactCompile_ok {aP1 : Plan} {r : Bool} (hr : laws_FnExactCompile aP1 = some r) :
 FnOk Try.prog 6 [(.agg [(.slice A2 N2 D2), (.slice A3 N3 D3), (.slice A4 N4 D4), (.slice A5 N5 D5), (.slice A6 N6 D6), (.slice A7 N7 D7), (iv aP1.Arena)].toArray)] [rds kT3 (.slice A2 N2 D2) aP1.Nest.Sizes, rds kT3 (.slice A3 N3 D3) aP1.Nest.Ins, rds kT152 (.slice A4 N4 D4) aP1.Nest.Fixed, rds kT158 (.slice A5 N5 D5) aP1.Nest.Kernels, rds kT3 (.slice A6 N6 D6) aP1.Nest.Outs, rds kT3 (.slice A7 N7 D7) aP1.Offsets] (fun (h : Unit) => ((.bool r), [])) := by
 unfold laws_FnExactCompile at hr
 refine fn_ok Try.func6 R 96 R R fun C V => ?_
 refine cN (_ :: _ :: _ :: _ :: _ :: _ :: V) ?_
 refine cL 0 sees_rd ?_
 rintro rfl
 refine cL 1 sees_rd ?_
 rintro rfl
 refine cL 2 sees_rd ?_
 rintro rfl
 refine cL 3 sees_rd ?_
 rintro rfl
 refine cL 4 sees_rd ?_
 rintro rfl
 refine cL 5 sees_rd ?_
 rintro rfl
 let W0 : List HP := RR kT3 A2 D2 aP1.Nest.Sizes :: RR kT3 A3 D3 aP1.Nest.Ins :: RR kT152 A4 D4 aP1.Nest.Fixed :: RR kT158 A5 D5 aP1.Nest.Kernels :: RR kT3 A6 D6 aP1.Nest.Outs :: RR kT3 A7 D7 aP1.Offsets :: V
 refine cN W0 ?_
 refine c_seq (c_region (lBx R (fun b8 => (lB R (l_nil ?_)))))
 let W1 : List HP := bxl b8 [(sc A2 aP1.Nest.Sizes D2), (sc A3 aP1.Nest.Ins D3), (sc A4 aP1.Nest.Fixed D4), (sc A5 aP1.Nest.Kernels D5), (sc A6 aP1.Nest.Outs D6), (sc A7 aP1.Offsets D7), (iv aP1.Arena)] 65 :: W0
 refine qN W1 ?_
 refine q_next (c_seq (c_region (lI R (l_nil (q_next (c_seq ?_))))))
 obtain ⟨r9, hx10, hr⟩ := bd hr
 refine c_region (lO (vz (.agg [(sc A2 aP1.Nest.Sizes D2), (sc A3 aP1.Nest.Ins D3), (sc A4 aP1.Nest.Fixed D4), (sc A5 aP1.Nest.Kernels D5), (sc A6 aP1.Nest.Outs D6), (sc A7 aP1.Offsets D7), (iv aP1.Arena)].toArray) (v_loadw 0 ag65 sz65 R R R R)) (lI R (lM (RR kT3 A2 D2 aP1.Nest.Sizes :: RR kT3 A3 D3 aP1.Nest.Ins :: RR kT152 A4 D4 aP1.Nest.Fixed :: RR kT158 A5 D5 aP1.Nest.Kernels :: RR kT3 A6 D6 aP1.Nest.Outs :: RR kT3 A7 D7 aP1.Offsets :: W1) (fun w s => (((((((s.d 1 R).d 3 R).d 5 R).d 7 R).d 9 R).d 11 R).e 6 [5, 4, 3, 2, 1, 0])) ?_)))
 refine lC 6 cb29 R (laws_szPlan_ok hx10) R ?_
 rintro _
 refine lN W1 ?_
 refine lI R (l_nil (q_next (c_seq (c_seq (c_region (lI R (lO (vLt R R) (l_nil (q_next ?_)))))))))
 rcases bif_ hr with ⟨hb11, hr⟩ | ⟨hb11, hr⟩
 refine c_true R hb11 (c_seq (c_region (lB R (l_nil (q_next (c_ret (q_ret ?_)))))))
 obtain rfl := so hr
 exact qF () (fun w s => (s.e 7 []))
 refine c_false R hb11 (c_skip (q_next (c_seq ?_)))
 obtain ⟨r12, hx13, hr⟩ := bd hr
 obtain ⟨r20, hx21, hr⟩ := bd hr
 refine c_region (lO (vz (.agg [(sc A2 aP1.Nest.Sizes D2), (sc A3 aP1.Nest.Ins D3), (sc A4 aP1.Nest.Fixed D4), (sc A5 aP1.Nest.Kernels D5), (sc A6 aP1.Nest.Outs D6), (sc A7 aP1.Offsets D7), (iv aP1.Arena)].toArray) (v_loadw 0 ag65 sz65 R R R R)) (lM (RR kT3 A2 D2 aP1.Nest.Sizes :: RR kT3 A3 D3 aP1.Nest.Ins :: RR kT152 A4 D4 aP1.Nest.Fixed :: RR kT158 A5 D5 aP1.Nest.Kernels :: RR kT3 A6 D6 aP1.Nest.Outs :: RR kT3 A7 D7 aP1.Offsets :: W1) (fun w s => (((((((s.d 1 R).d 3 R).d 5 R).d 7 R).d 9 R).d 11 R).e 6 [5, 4, 3, 2, 1, 0])) ?_))
 refine lC 6 cb31 R (laws_toPlan_ok hx13) R ?_
 rintro ⟨⟨A14, N14, D14⟩, ⟨A15, N15, D15⟩, ⟨A16, N16, D16⟩, ⟨A17, N17, D17⟩, ⟨A18, N18, D18⟩, ⟨A19, N19, D19⟩⟩
 refine lN (ow kT3 3 (.slice A14 N14 D14) r12.Nest.Sizes :: ow kT3 3 (.slice A15 N15 D15) r12.Nest.Ins :: ow kT159 159 (.slice A16 N16 D16) r12.Nest.Fixed :: ow kT127 127 (.slice A17 N17 D17) r12.Nest.Kernels :: ow kT3 3 (.slice A18 N18 D18) r12.Nest.Outs :: ow kT3 3 (.slice A19 N19 D19) r12.Offsets :: W1) ?_
 refine l_len 0 sees_ow ?_
 rintro rfl
 refine l_len 1 sees_ow ?_
 rintro rfl
 refine l_len 2 sees_ow ?_
 rintro rfl
 refine l_len 3 sees_ow ?_
 rintro rfl
 refine l_len 4 sees_ow ?_
 rintro rfl
 refine l_len 5 sees_ow ?_
 rintro rfl
 refine lC 6 cb30 R (FnOk.lends (A' := [OO kT3 3 A14 D14 r12.Nest.Sizes, OO kT3 3 A15 D15 r12.Nest.Ins, OO kT159 159 A16 D16 r12.Nest.Fixed, OO kT127 127 A17 D17 r12.Nest.Kernels, OO kT3 3 A18 D18 r12.Nest.Outs, OO kT3 3 A19 D19 r12.Offsets]) (A := [RR kT3 A14 D14 r12.Nest.Sizes, RR kT3 A15 D15 r12.Nest.Ins, RR kT159 A16 D16 r12.Nest.Fixed, RR kT127 A17 D17 r12.Nest.Kernels, RR kT3 A18 D18 r12.Nest.Outs, RR kT3 A19 D19 r12.Offsets]) (B := []) (spec_Compile_ok hx21) ⟨lend_ow, lend_ow, lend_ow, lend_ow, lend_ow, lend_ow, trivial⟩ (fun _ => ⟨(closed_ow cT119), trivial⟩)) R ?_
 rintro ⟨A22, N22, D22⟩
 refine lN (_ :: _ :: _ :: _ :: _ :: _ :: ow kT119 119 (.slice A22 N22 D22) r20.1 :: W1) ?_
 refine l_len 6 sees_ow ?_
 rintro rfl
 refine lO (vT R) (lS R (lB R (lS R (lB R (l_nil (q_next (c_seq ?_)))))))
 obtain ⟨r23, hx24, hr⟩ := bd hr
 refine c_region (lO (vz (.agg [(sc A2 aP1.Nest.Sizes D2), (sc A3 aP1.Nest.Ins D3), (sc A4 aP1.Nest.Fixed D4), (sc A5 aP1.Nest.Kernels D5), (sc A6 aP1.Nest.Outs D6), (sc A7 aP1.Offsets D7), (iv aP1.Arena)].toArray) (v_loadw 7 ag65 sz65 R R R R)) (lM (RR kT3 A2 D2 aP1.Nest.Sizes :: RR kT3 A3 D3 aP1.Nest.Ins :: RR kT152 A4 D4 aP1.Nest.Fixed :: RR kT158 A5 D5 aP1.Nest.Kernels :: RR kT3 A6 D6 aP1.Nest.Outs :: RR kT3 A7 D7 aP1.Offsets :: ow _ _ _ _ :: ow _ _ _ _ :: ow _ _ _ _ :: ow _ _ _ _ :: ow _ _ _ _ :: ow _ _ _ _ :: ow _ _ _ _ :: W1) (fun w s => (((((((s.d 8 R).d 10 R).d 12 R).d 14 R).d 16 R).d 18 R).e 13 [5, 4, 3, 2, 1, 0, 6, 7, 8, 9, 10, 11, 12])) ?_))
 refine lC 6 cb31 R (laws_toPlan_ok hx24) R ?_
 rintro ⟨⟨A25, N25, D25⟩, ⟨A26, N26, D26⟩, ⟨A27, N27, D27⟩, ⟨A28, N28, D28⟩, ⟨A29, N29, D29⟩, ⟨A30, N30, D30⟩⟩
 refine lN (ow kT3 3 (.slice A25 N25 D25) r23.Nest.Sizes :: ow kT3 3 (.slice A26 N26 D26) r23.Nest.Ins :: ow kT159 159 (.slice A27 N27 D27) r23.Nest.Fixed :: ow kT127 127 (.slice A28 N28 D28) r23.Nest.Kernels :: ow kT3 3 (.slice A29 N29 D29) r23.Nest.Outs :: ow kT3 3 (.slice A30 N30 D30) r23.Offsets :: _ :: _ :: _ :: _ :: _ :: _ :: _ :: W1) ?_
 refine l_len 0 sees_ow ?_
 rintro rfl
 refine l_len 1 sees_ow ?_
 rintro rfl
 refine l_len 2 sees_ow ?_
 rintro rfl
 refine l_len 3 sees_ow ?_
 rintro rfl
 refine l_len 4 sees_ow ?_
 rintro rfl
 refine l_len 5 sees_ow ?_
 rintro rfl
 refine l_alloc R R zc71 (fun b31 => (l_stores 0 R R sz71 R R R R R R (lN (bxl b31 [(sc A25 r23.Nest.Sizes D25), (sc A26 r23.Nest.Ins D26), (sc A27 r23.Nest.Fixed D27), (sc A28 r23.Nest.Kernels D28), (sc A29 r23.Nest.Outs D29), (sc A30 r23.Offsets D30), (iv r23.Arena)] 71 :: _ :: _ :: _ :: _ :: _ :: _ :: _ :: _ :: _ :: _ :: _ :: _ :: _ :: W1) ?_)))
 refine l_nil (q_next (c_seq ?_))
 obtain ⟨r32, hx33, hr⟩ := bd hr
 refine c_region (lO (vz (.agg [(sc A25 r23.Nest.Sizes D25), (sc A26 r23.Nest.Ins D26), (sc A27 r23.Nest.Fixed D27), (sc A28 r23.Nest.Kernels D28), (sc A29 r23.Nest.Outs D29), (sc A30 r23.Offsets D30), (iv r23.Arena)].toArray) (v_loadw 0 ag71 sz71 R R R R)) (lM (ow _ _ _ _ :: ow _ _ _ _ :: ow _ _ _ _ :: ow _ _ _ _ :: ow _ _ _ _ :: ow _ _ _ _ :: bxl _ _ _ :: ow _ _ _ _ :: ow _ _ _ _ :: ow _ _ _ _ :: ow _ _ _ _ :: ow _ _ _ _ :: ow _ _ _ _ :: ow _ _ _ _ :: W1) (fun w s => (s.f 14 [1, 6, 0, 1, 7, 7])) ?_))
 refine lC 6 cb32 R (FnOk.lends (A' := [OO kT3 3 A25 D25 r23.Nest.Sizes, OO kT3 3 A26 D26 r23.Nest.Ins, OO kT159 159 A27 D27 r23.Nest.Fixed, OO kT127 127 A28 D28 r23.Nest.Kernels, OO kT3 3 A29 D29 r23.Nest.Outs, OO kT3 3 A30 D30 r23.Offsets]) (A := [RR kT3 A25 D25 r23.Nest.Sizes, RR kT3 A26 D26 r23.Nest.Ins, RR kT159 A27 D27 r23.Nest.Fixed, RR kT127 A28 D28 r23.Nest.Kernels, RR kT3 A29 D29 r23.Nest.Outs, RR kT3 A30 D30 r23.Offsets]) (B := []) (impl_Compile_ok hx33) ⟨lend_ow, lend_ow, lend_ow, lend_ow, lend_ow, lend_ow, trivial⟩ (fun _ => ⟨(closed_ow cT119), trivial⟩)) R ?_
 rintro ⟨A34, N34, D34⟩
 refine lN (_ :: _ :: _ :: _ :: _ :: _ :: ow kT119 119 (.slice A34 N34 D34) r32.1 :: _ :: _ :: _ :: _ :: _ :: _ :: _ :: _ :: W1) ?_
 refine l_len 6 sees_ow ?_
 rintro rfl
 refine lO (vT R) (lS R (lB R (lS R (lB R (l_nil (q_next (c_seq (c_seq ?_))))))))
 obtain ⟨r35, hx36, hr⟩ := bd hr
 refine cQ [(1, (pt b8 0)), (4, (sc A22 r20.1 D22)), (5, (.bool r20.2)), (6, (pt b31 0)), (7, (sc A34 r32.1 D34)), (8, (.bool r32.2)), (40, (.bool ((!r35) || (!(r32.2 == r20.2)))))] (OO kT119 119 A22 D22 r20.1 :: bxl b31 [(sc A25 r23.Nest.Sizes D25), (sc A26 r23.Nest.Ins D26), (sc A27 r23.Nest.Fixed D27), (sc A28 r23.Nest.Kernels D28), (sc A29 r23.Nest.Outs D29), (sc A30 r23.Offsets D30), (iv r23.Arena)] 71 :: OO kT3 3 A25 D25 r23.Nest.Sizes :: OO kT3 3 A26 D26 r23.Nest.Ins :: OO kT159 159 A27 D27 r23.Nest.Fixed :: OO kT127 127 A28 D28 r23.Nest.Kernels :: OO kT3 3 A29 D29 r23.Nest.Outs :: OO kT3 3 A30 D30 r23.Offsets :: OO kT119 119 A34 D34 r32.1 :: W1) ?_ ?_
 refine c_region (lS R (lS R (lM (ow _ _ _ _ :: ow _ _ _ _ :: ow _ _ _ _ :: ow _ _ _ _ :: ow _ _ _ _ :: ow _ _ _ _ :: ow _ _ _ _ :: ow _ _ _ _ :: bxl _ _ _ :: ow _ _ _ _ :: ow _ _ _ _ :: ow _ _ _ _ :: ow _ _ _ _ :: ow _ _ _ _ :: ow _ _ _ _ :: W1) (fun w s => (s.f 15 [6, 1, 14, 1, 0, 6, 7, 7])) ?_)))
 refine lC 2 cb33 R (FnOk.lends (A' := [OO kT119 119 A34 D34 r32.1, OO kT119 119 A22 D22 r20.1]) (A := [RR kT119 A34 D34 r32.1, RR kT119 A22 D22 r20.1]) (B := []) (laws_eqInstrS_ok hx36) ⟨lend_ow, lend_ow, trivial⟩ (fun _ => trivial)) R ?_
 rintro _
 refine lO (vNo R) (lB R ?_)
 rcases bo (!r35) with hc37 | hc37
 refine lf (wfT hc37) (lf (wfT hc37) (lf (wfT hc37) (lO (pOT (!(r32.2 == r20.2)) R hc37) (l_nil ?_))))
 exact qJ (fun w s => (s.f 15 [1, 1, 8, 1, 2, 6, 0, 1]))
 refine lW (wnF hc37) (vB R) (lW (wnF hc37) (vB R) (lW (wnF hc37) (v_bne un4 R R) (lO (pOF R hc37 R) (l_nil ?_))))
 exact qJ (fun w s => (s.f 15 [1, 1, 8, 1, 2, 6, 0, 1]))
 rintro σ1
 refine q_next ?_
 rcases bif_ hr with ⟨hb38, hr⟩ | ⟨hb38, hr⟩
 refine c_true R hb38 (c_seq (c_region (lB R (l_nil (q_next (c_ret (q_ret ?_)))))))
 obtain rfl := so hr
 exact qF () (fun w s => (s.e 16 []))
 refine c_false R hb38 (c_skip (q_next (c_seq (c_seq ?_))))
 obtain ⟨r39, hx40, hr⟩ := bd hr
 obtain ⟨r47, hx48, hr⟩ := bd hr
 refine cdr 5 [] mixo (fun ht hn => (dR 0 R (vz (.agg [(sc A25 r23.Nest.Sizes D25), (sc A26 r23.Nest.Ins D26), (sc A27 r23.Nest.Fixed D27), (sc A28 r23.Nest.Kernels D28), (sc A29 r23.Nest.Outs D29), (sc A30 r23.Offsets D30), (iv r23.Arena)].toArray) (v_loadw 1 ag71 sz71 R R R R)) (dR 1 R (vz (.agg [(sc A2 aP1.Nest.Sizes D2), (sc A3 aP1.Nest.Ins D3), (sc A4 aP1.Nest.Fixed D4), (sc A5 aP1.Nest.Kernels D5), (sc A6 aP1.Nest.Outs D6), (sc A7 aP1.Offsets D7), (iv aP1.Arena)].toArray) (v_loadw 9 ag65 sz65 R R R R)) (d_one 2 (by kernel_rfl) R (lM (RR kT3 A2 D2 aP1.Nest.Sizes :: RR kT3 A3 D3 aP1.Nest.Ins :: RR kT152 A4 D4 aP1.Nest.Fixed :: RR kT158 A5 D5 aP1.Nest.Kernels :: RR kT3 A6 D6 aP1.Nest.Outs :: RR kT3 A7 D7 aP1.Offsets :: ow _ _ _ _ :: bxl _ _ _ :: ow _ _ _ _ :: ow _ _ _ _ :: ow _ _ _ _ :: ow _ _ _ _ :: ow _ _ _ _ :: ow _ _ _ _ :: ow _ _ _ _ :: W1) (fun w s => (((((((s.d 10 R).d 12 R).d 14 R).d 16 R).d 18 R).d 20 R).f 15 [5, 1, 4, 1, 3, 1, 2, 1, 1, 1, 0, 1, 6, 9])) ?_)))))
 refine lC 6 cb31 R (laws_toPlan_ok hx40) R ?_
 rintro ⟨⟨A41, N41, D41⟩, ⟨A42, N42, D42⟩, ⟨A43, N43, D43⟩, ⟨A44, N44, D44⟩, ⟨A45, N45, D45⟩, ⟨A46, N46, D46⟩⟩
 refine lN (ow kT3 3 (.slice A41 N41 D41) r39.Nest.Sizes :: ow kT3 3 (.slice A42 N42 D42) r39.Nest.Ins :: ow kT159 159 (.slice A43 N43 D43) r39.Nest.Fixed :: ow kT127 127 (.slice A44 N44 D44) r39.Nest.Kernels :: ow kT3 3 (.slice A45 N45 D45) r39.Nest.Outs :: ow kT3 3 (.slice A46 N46 D46) r39.Offsets :: _ :: _ :: _ :: _ :: _ :: _ :: _ :: _ :: _ :: W1) ?_
 refine l_len 0 sees_ow ?_
 rintro rfl
 refine l_len 1 sees_ow ?_
 rintro rfl
 refine l_len 2 sees_ow ?_
 rintro rfl
 refine l_len 3 sees_ow ?_
 rintro rfl
 refine l_len 4 sees_ow ?_
 rintro rfl
 refine l_len 5 sees_ow ?_
 rintro rfl
 refine l_nil (q_draw (sL [5, 4, 3, 2, 1, 0]) (d_one 3 (by kernel_rfl) R (lM (ow _ _ _ _ :: ow _ _ _ _ :: ow _ _ _ _ :: ow _ _ _ _ :: ow _ _ _ _ :: ow _ _ _ _ :: ow _ _ _ _ :: ow _ _ _ _ :: ow _ _ _ _ :: ow _ _ _ _ :: ow _ _ _ _ :: ow _ _ _ _ :: ow _ _ _ _ :: bxl _ _ _ :: ow _ _ _ _ :: W1) (fun w s => (s.f 15 [8, 6, 0, 8, 14, 1])) ?_)))
 refine lC 12 cb34 R (FnOk.lends (A' := [OO kT3 3 A25 D25 r23.Nest.Sizes, OO kT3 3 A26 D26 r23.Nest.Ins, OO kT159 159 A27 D27 r23.Nest.Fixed, OO kT127 127 A28 D28 r23.Nest.Kernels, OO kT3 3 A29 D29 r23.Nest.Outs, OO kT3 3 A30 D30 r23.Offsets, OO kT3 3 A41 D41 r39.Nest.Sizes, OO kT3 3 A42 D42 r39.Nest.Ins, OO kT159 159 A43 D43 r39.Nest.Fixed, OO kT127 127 A44 D44 r39.Nest.Kernels, OO kT3 3 A45 D45 r39.Nest.Outs, OO kT3 3 A46 D46 r39.Offsets]) (A := [RR kT3 A25 D25 r23.Nest.Sizes, RR kT3 A26 D26 r23.Nest.Ins, RR kT159 A27 D27 r23.Nest.Fixed, RR kT127 A28 D28 r23.Nest.Kernels, RR kT3 A29 D29 r23.Nest.Outs, RR kT3 A30 D30 r23.Offsets, RR kT3 A41 D41 r39.Nest.Sizes, RR kT3 A42 D42 r39.Nest.Ins, RR kT159 A43 D43 r39.Nest.Fixed, RR kT127 A44 D44 r39.Nest.Kernels, RR kT3 A45 D45 r39.Nest.Outs, RR kT3 A46 D46 r39.Offsets]) (B := []) (laws_eqPlan_ok hx48) ⟨lend_ow, lend_ow, lend_ow, lend_ow, lend_ow, lend_ow, lend_ow, lend_ow, lend_ow, lend_ow, lend_ow, lend_ow, trivial⟩ (fun _ => trivial)) R ?_
 rintro _
 refine l_nil (q_draw (fun w s => (s.f 15 [12, 2, 0, 6, 14, 1])) (dR 4 R (vNo R) (hS := (fun w s => (s.f 15 [12, 2, 0, 6, 14, 1]))) (d_done (by kernel_rfl) (q_next ?_))))
 rcases bif_ hr with ⟨hb49, hr⟩ | ⟨hb49, hr⟩
 refine c_true R hb49 (c_seq (c_region (lB R (l_nil (q_next (c_ret (q_ret ?_)))))))
 obtain rfl := so hr
 exact qF () (fun w s => (s.e 22 []))
 refine c_false R hb49 (c_skip (q_next (c_seq (c_region (lI R (l_nil (q_next (c_seq ?_))))))))
 obtain ⟨r50, hx51, hr⟩ := bd hr
 refine c_region (lO (vz (.agg [(sc A25 r23.Nest.Sizes D25), (sc A26 r23.Nest.Ins D26), (sc A27 r23.Nest.Fixed D27), (sc A28 r23.Nest.Kernels D28), (sc A29 r23.Nest.Outs D29), (sc A30 r23.Offsets D30), (iv r23.Arena)].toArray) (v_loadw 13 ag71 sz71 R R R R)) (lI R (lC 6 cb35 R (laws_markPlan_ok hx51) R ?_)))
 rintro _
 refine lN (ow kT3 3 (.slice A25 r23.Nest.Sizes.length D25) r50.2.1 :: ow kT3 3 (.slice A26 r23.Nest.Ins.length D26) r50.2.2.1 :: ow kT159 159 (.slice A27 r23.Nest.Fixed.length D27) r50.2.2.2.1 :: ow kT127 127 (.slice A28 r23.Nest.Kernels.length D28) r50.2.2.2.2.1 :: ow kT3 3 (.slice A29 r23.Nest.Outs.length D29) r50.2.2.2.2.2.1 :: ow kT3 3 (.slice A30 r23.Offsets.length D30) r50.2.2.2.2.2.2 :: _ :: _ :: _ :: _ :: _ :: _ :: _ :: _ :: _ :: W1) ?_
 refine lI R (l_nil (q_next (c_seq (c_seq ?_))))
 obtain ⟨r52, hx53, hr⟩ := bd hr
 refine cQ [(1, (pt b8 0)), (4, (sc A22 r20.1 D22)), (5, (.bool r20.2)), (7, (sc A34 r32.1 D34)), (61, (.bool (((decide (r50.1 < (0 : Int))) || (!r52)) || (!(r32.2 == r20.2)))))] (OO kT119 119 A22 D22 r20.1 :: OO kT119 119 A34 D34 r32.1 :: W1) ?_ ?_
 refine c_region (lI R (lO (vLt R R) (lB R ?_)))
 rcases bo (decide (r50.1 < (0 : Int))) with hc54 | hc54
 refine lf (wfT hc54) (lf (wfT hc54) (lf (wfT hc54) (lf (wfT hc54) (lO (pOT (!r52) R hc54) (lB R (lf (wfT (oT hc54)) (lf (wfT (oT hc54)) (lf (wfT (oT hc54)) (lO (pOT (!(r32.2 == r20.2)) R (oT hc54)) (l_nil ?_))))))))))
 exact qJ (fun w s => (s.e 15 [12, 14]))
 refine lW (wnF hc54) (vS R) (lW (wnF hc54) (vS R) (lM (ow _ _ _ _ :: ow _ _ _ _ :: ow _ _ _ _ :: ow _ _ _ _ :: ow _ _ _ _ :: ow _ _ _ _ :: ow _ _ _ _ :: ow _ _ _ _ :: ow _ _ _ _ :: ow _ _ _ _ :: ow _ _ _ _ :: ow _ _ _ _ :: ow _ _ _ _ :: ow _ _ _ _ :: bxl _ _ _ :: W1) (fun w s => (s.f 15 [14, 1, 12, 1, 0, 12, 13, 1])) ?_))
 refine l_calln 2 R (wnF hc54) cb33 R (FnOk.lends (A' := [OO kT119 119 A34 D34 r32.1, OO kT119 119 A22 D22 r20.1]) (A := [RR kT119 A34 D34 r32.1, RR kT119 A22 D22 r20.1]) (B := []) (laws_eqInstrS_ok (gcall_t hx53 (not_ff hc54))) ⟨lend_ow, lend_ow, trivial⟩ (fun _ => trivial)) R ?_
 rintro _
 refine lW (wnF hc54) (vNo R) (lO (pOF R hc54 R) (lB R ?_))
 rcases bo ((decide (r50.1 < (0 : Int))) || (!r52)) with hc55 | hc55
 refine lf (wfT hc55) (lf (wfT hc55) (lf (wfT hc55) (lO (pOT (!(r32.2 == r20.2)) R hc55) (l_nil ?_))))
 exact qJ (fun w s => (s.e 15 [1, 0]))
 refine lW (wnF hc55) (vB R) (lW (wnF hc55) (vB R) (lW (wnF hc55) (v_bne un4 R R) (lO (pOF R hc55 R) (l_nil ?_))))
 exact qJ (fun w s => (s.e 15 [1, 0]))
 rintro σ1
 refine q_next ?_
 rcases bif_ hr with ⟨hb56, hr⟩ | ⟨hb56, hr⟩
 refine c_true R hb56 (c_seq (c_region (lB R (l_nil (q_next (c_ret (q_ret ?_)))))))
 obtain rfl := so hr
 exact qF () (fun w s => (s.e 9 []))
 refine c_false R hb56 (c_skip (q_next (c_seq (c_region (lI R (l_nil (q_next (c_seq ?_))))))))
 obtain ⟨r57, hx58, hr⟩ := bd hr
 refine c_region (lS R (lI R (lM (ow _ _ _ _ :: ow _ _ _ _ :: W1) (fun w s => (s.e 2 [1, 0])) ?_)))
 refine lC 1 cb36 R (laws_markInstrS_ok hx58) R ?_
 rintro _
 refine lN (ow kT119 119 (.slice A34 r32.1.length D34) r57.2 :: _ :: W1) ?_
 refine lI R (l_nil (q_next (c_seq (c_region (lI R (l_nil (q_next (c_seq ?_))))))))
 obtain ⟨r59, hx60, hr⟩ := bd hr
 refine c_region (lS R (lI R (lC 1 cb37 R (FnOk.lends (A' := [ow kT119 119 (.slice A34 r32.1.length D34) r57.2]) (A := [rds kT119 (.slice A34 r32.1.length D34) r57.2]) (B := []) (laws_heldInstrS_ok hx60) ⟨lend_ow, trivial⟩ (fun _ => trivial)) R ?_)))
 rintro _
 refine lI R (l_nil (q_next (c_seq (c_seq (c_region (lI R (lO (vLt R R) (l_nil (q_next ?_)))))))))
 rcases bif_ hr with ⟨hb61, hr⟩ | ⟨hb61, hr⟩
 refine c_true R hb61 (c_seq (c_region (lB R (l_nil (q_next (c_ret (q_ret ?_)))))))
 obtain rfl := so hr
 exact qF () (fun w s => (s.e 9 []))
 refine c_false R hb61 (c_skip (q_next (c_seq (c_seq (c_region (lI R (lI R (lO (vNe R R) (l_nil (q_next ?_))))))))))
 rcases bif_ hr with ⟨hb62, hr⟩ | ⟨hb62, hr⟩
 refine c_true R hb62 (c_seq (c_region (lB R (l_nil (q_next (c_ret (q_ret ?_)))))))
 obtain rfl := so hr
 exact qF () (fun w s => (s.e 9 []))
 refine c_false R hb62 (c_skip (q_next (c_seq ?_)))
 obtain ⟨r63, hx64, hr⟩ := bd hr
 obtain ⟨r71, hx72, hr⟩ := bd hr
 refine c_region (lO (vz (.agg [(sc A2 aP1.Nest.Sizes D2), (sc A3 aP1.Nest.Ins D3), (sc A4 aP1.Nest.Fixed D4), (sc A5 aP1.Nest.Kernels D5), (sc A6 aP1.Nest.Outs D6), (sc A7 aP1.Offsets D7), (iv aP1.Arena)].toArray) (v_loadw 2 ag65 sz65 R R R R)) (lM (RR kT3 A2 D2 aP1.Nest.Sizes :: RR kT3 A3 D3 aP1.Nest.Ins :: RR kT152 A4 D4 aP1.Nest.Fixed :: RR kT158 A5 D5 aP1.Nest.Kernels :: RR kT3 A6 D6 aP1.Nest.Outs :: RR kT3 A7 D7 aP1.Offsets :: ow _ _ _ _ :: ow _ _ _ _ :: W1) (fun w s => (((((((s.d 3 R).d 5 R).d 7 R).d 9 R).d 11 R).d 13 R).e 8 [5, 4, 3, 2, 1, 0, 6, 7])) ?_))
 refine lC 6 cb31 R (laws_toPlan_ok hx64) R ?_
 rintro ⟨⟨A65, N65, D65⟩, ⟨A66, N66, D66⟩, ⟨A67, N67, D67⟩, ⟨A68, N68, D68⟩, ⟨A69, N69, D69⟩, ⟨A70, N70, D70⟩⟩
 refine lN (ow kT3 3 (.slice A65 N65 D65) r63.Nest.Sizes :: ow kT3 3 (.slice A66 N66 D66) r63.Nest.Ins :: ow kT159 159 (.slice A67 N67 D67) r63.Nest.Fixed :: ow kT127 127 (.slice A68 N68 D68) r63.Nest.Kernels :: ow kT3 3 (.slice A69 N69 D69) r63.Nest.Outs :: ow kT3 3 (.slice A70 N70 D70) r63.Offsets :: _ :: _ :: W1) ?_
 refine l_len 0 sees_ow ?_
 rintro rfl
 refine l_len 1 sees_ow ?_
 rintro rfl
 refine l_len 2 sees_ow ?_
 rintro rfl
 refine l_len 3 sees_ow ?_
 rintro rfl
 refine l_len 4 sees_ow ?_
 rintro rfl
 refine l_len 5 sees_ow ?_
 rintro rfl
 refine lC 6 cb32 R (FnOk.lends (A' := [OO kT3 3 A65 D65 r63.Nest.Sizes, OO kT3 3 A66 D66 r63.Nest.Ins, OO kT159 159 A67 D67 r63.Nest.Fixed, OO kT127 127 A68 D68 r63.Nest.Kernels, OO kT3 3 A69 D69 r63.Nest.Outs, OO kT3 3 A70 D70 r63.Offsets]) (A := [RR kT3 A65 D65 r63.Nest.Sizes, RR kT3 A66 D66 r63.Nest.Ins, RR kT159 A67 D67 r63.Nest.Fixed, RR kT127 A68 D68 r63.Nest.Kernels, RR kT3 A69 D69 r63.Nest.Outs, RR kT3 A70 D70 r63.Offsets]) (B := []) (impl_Compile_ok hx72) ⟨lend_ow, lend_ow, lend_ow, lend_ow, lend_ow, lend_ow, trivial⟩ (fun _ => ⟨(closed_ow cT119), trivial⟩)) R ?_
 rintro ⟨A73, N73, D73⟩
 refine lN (_ :: _ :: _ :: _ :: _ :: _ :: ow kT119 119 (.slice A73 N73 D73) r71.1 :: _ :: _ :: W1) ?_
 refine l_len 6 sees_ow ?_
 rintro rfl
 refine lO (vT R) (lS R (lB R (lS R (lB R (l_nil (q_next (c_seq (c_seq ?_))))))))
 obtain ⟨r74, hx75, hr⟩ := bd hr
 refine cQ [(7, (sc A34 r32.1 D34)), (10, (iv r57.1)), (87, (.bool ((!r74) || (!(r71.2 == r20.2)))))] (ow kT119 119 (.slice A34 r32.1.length D34) r57.2 :: W1) ?_ ?_
 refine c_region (lS R (lS R (lM (ow _ _ _ _ :: ow _ _ _ _ :: ow _ _ _ _ :: ow _ _ _ _ :: ow _ _ _ _ :: ow _ _ _ _ :: ow _ _ _ _ :: ow _ _ _ _ :: ow _ _ _ _ :: W1) (fun w s => (s.f 9 [6, 1, 8, 1, 0, 6, 7, 1])) ?_)))
 refine lC 2 cb33 R (FnOk.lends (A' := [OO kT119 119 A73 D73 r71.1, OO kT119 119 A22 D22 r20.1]) (A := [RR kT119 A73 D73 r71.1, RR kT119 A22 D22 r20.1]) (B := []) (laws_eqInstrS_ok hx75) ⟨lend_ow, lend_ow, trivial⟩ (fun _ => trivial)) R ?_
 rintro _
 refine lO (vNo R) (lB R ?_)
 rcases bo (!r74) with hc76 | hc76
 refine lf (wfT hc76) (lf (wfT hc76) (lf (wfT hc76) (lO (pOT (!(r71.2 == r20.2)) R hc76) (l_nil ?_))))
 exact qJ (fun w s => (s.e 9 [8]))
 refine lW (wnF hc76) (vB R) (lW (wnF hc76) (vB R) (lW (wnF hc76) (v_bne un4 R R) (lO (pOF R hc76 R) (l_nil ?_))))
 exact qJ (fun w s => (s.e 9 [8]))
 rintro σ1
 refine q_next ?_
 rcases bif_ hr with ⟨hb77, hr⟩ | ⟨hb77, hr⟩
 refine c_true R hb77 (c_seq (c_region (lB R (l_nil (q_next (c_ret (q_ret ?_)))))))
 obtain rfl := so hr
 exact qF () (fun w s => (s.e 8 []))
 refine c_false R hb77 (c_skip (q_next (c_seq (c_region (lI R (l_nil (q_next (c_seq ?_))))))))
 obtain ⟨r78, hx79, hr⟩ := bd hr
 refine c_region (lS R (lI R (lC 1 cb37 R (FnOk.lends (A' := [ow kT119 119 (.slice A34 r32.1.length D34) r57.2]) (A := [rds kT119 (.slice A34 r32.1.length D34) r57.2]) (B := []) (laws_heldInstrS_ok hx79) ⟨lend_ow, trivial⟩ (fun _ => trivial)) R ?_)))
 rintro _
 refine lN (_ :: W1) ?_
 refine lI R (l_nil (q_next (c_seq (c_seq (c_region (lI R (lO (vLt R R) (l_nil (q_next ?_)))))))))
 rcases bif_ hr with ⟨hb80, hr⟩ | ⟨hb80, hr⟩
 refine c_true R hb80 (c_seq (c_region (lB R (l_nil (q_next (c_ret (q_ret ?_)))))))
 obtain rfl := so hr
 exact qF () (fun w s => (s.e 8 []))
 refine c_false R hb80 (c_skip (q_next (c_seq (c_seq (c_region (lI R (lI R (lO (vNe R R) (l_nil (q_next ?_))))))))))
 rcases bif_ hr with ⟨hb81, hr⟩ | ⟨hb81, hr⟩
 refine c_true R hb81 (c_seq (c_region (lB R (l_nil (q_next (c_ret (q_ret ?_)))))))
 obtain rfl := so hr
 exact qF () (fun w s => (s.e 8 []))
 refine c_false R hb81 (c_skip (q_next (c_seq (c_region (lB R (l_nil (q_next (c_ret ?_))))))))
 obtain rfl := so hr
 exact qF () (fun w s => (s.e 8 []))
end Go.Proofs.Ytbdchgofcejiiaa
