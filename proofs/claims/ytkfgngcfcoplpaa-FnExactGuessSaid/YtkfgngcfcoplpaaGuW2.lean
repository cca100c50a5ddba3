import Derived.Test.YtkfgngcfcoplpaaGuW1
set_option linter.unusedVariables false
set_option maxRecDepth 20000
namespace Go.Proofs.Ytkfgngcfcoplpaa
open Go Go.Pg
variable {A2 A3 A4 A5 A6 A7 : Option Addr} {D2 D3 D4 D5 D6 D7 N2 N3 N4 N5 N6 N7 : Nat}
theorem Z9_ok  {m1 : Lm} {draft3 : Lm} {c5 : Choice} {prompt6 : (List Int)} {n8 : Int} {seed9 : Int} {ahead10 : Int} {r : (List Int) × Int} (hr : Z9 m1 draft3 c5 prompt6 n8 seed9 ahead10 = some r) :
 FnOk Try.prog 9 [(.agg [(iv m1.Size), (.slice A2 N2 D2)].toArray), (.agg [(iv draft3.Size), (.slice A4 N4 D4)].toArray), (.agg [(iv c5.Power), (iv c5.Cut), (iv c5.Mass)].toArray), (.slice A7 N7 D7), (iv n8), (iv seed9), (iv ahead10)] [rds kT33 (.slice A2 N2 D2) m1.Rows, rds kT33 (.slice A4 N4 D4) draft3.Rows, rds kT3 (.slice A7 N7 D7) prompt6] (fun (h : HH) => ((.tuple [(.slice h.1 h.2.1 h.2.2), (iv r.2)].toArray), [rds kT3 (.slice h.1 h.2.1 h.2.2) r.1])) := by
 unfold Z9 at hr
 refine fn_ok Try.func9 R 117 R R fun C V => ?_
 refine cN (_ :: _ :: _ :: V) ?_
 refine cL 0 sees_rd ?_
 rintro rfl
 refine cL 1 sees_rd ?_
 rintro rfl
 refine cL 2 sees_rd ?_
 rintro rfl
 let W0 : List HP := RR kT33 A2 D2 m1.Rows :: RR kT33 A4 D4 draft3.Rows :: RR kT3 A7 D7 prompt6 :: V
 refine cN W0 ?_
 refine c_seq (c_region (lBx R (fun b11 => (lBx R (fun b12 => (lBx R (fun b13 => (lS R (lI R (l_nil ?_))))))))))
 let W1 : List HP := bxl b13 [(iv c5.Power), (iv c5.Cut), (iv c5.Mass)] 28 :: bxl b12 [(iv draft3.Size), (sc A4 draft3.Rows D4)] 26 :: bxl b11 [(iv m1.Size), (sc A2 m1.Rows D2)] 26 :: W0
 refine qN W1 ?_
 refine q_next (c_seq (c_region (l_build (K := kT3) (xs := ([] : List Int)) (vs := []) 0 R R sl29 sz3 zc3 R R R R R R ?_ R (fun A14 D14 => ?_))))
 exact fun I h s => (mO3).list [] I h s
 refine lN (OO kT3 3 A14 D14 ([] : List Int) :: W1) ?_
 refine lS R (l_nil (q_next (c_seq (c_seq ?_))))
 obtain ⟨r15, hx16, hr⟩ := bd hr
 obtain ⟨r17, hx18, hr⟩ := bd hr
 obtain ⟨r19, hx20, hr⟩ := bd hr
 obtain ⟨r21, hx22, hr⟩ := bd hr
 obtain ⟨r23, hx24, hr⟩ := bd hr
 refine cQ [(3, (sc A7 prompt6 D7)), (4, (iv n8)), (5, (iv seed9)), (6, (iv ahead10)), (7, (pt b11 0)), (8, (pt b12 0)), (9, (pt b13 0)), (16, (sc A14 ([] : List Int) D14)), (55, (.bool ((((((!r15) || (!r17)) || (!r19)) || (!r21)) || (draft3.Size != m1.Size)) || (!r23))))] (OO kT3 3 A14 D14 ([] : List Int) :: W1) ?_ ?_
 refine c_region (lO (vz (.agg [(iv m1.Size), (sc A2 m1.Rows D2)].toArray) (v_loadw 3 ag26 sz26 R R R R)) (lS R (lI R (lM (RR kT33 A2 D2 m1.Rows :: RR kT3 A7 D7 prompt6 :: ow _ _ _ _ :: W1) (fun w s => (((s.d 4 R).d 7 R).e 3 [1, 0, 2])) ?_))))
 refine lC 2 cb36 R (Z0v_ok hx16) R ?_
 rintro _
 refine lN (_ :: W1) ?_
 refine lO (vNo R) (lB R ?_)
 rcases bo (!r15) with hc25 | hc25
 refine lf (wfT hc25) (lf (wfT hc25) (lf (wfT hc25) (lO (pOT (!r17) R hc25) (lB R (lf (wfT (oT hc25)) (lf (wfT (oT hc25)) (lf (wfT (oT hc25)) (lO (pOT (!r19) R (oT hc25)) (lB R (lf (wfT (oT (oT hc25))) (lf (wfT (oT (oT hc25))) (lf (wfT (oT (oT hc25))) (lO (pOT (!r21) R (oT (oT hc25))) (lB R (lf (wfT (oT (oT (oT hc25)))) (lf (wfT (oT (oT (oT hc25)))) (lf (wfT (oT (oT (oT hc25)))) (lf (wfT (oT (oT (oT hc25)))) (lf (wfT (oT (oT (oT hc25)))) (lO (pOT (draft3.Size != m1.Size) R (oT (oT (oT hc25)))) (lB R (lf (wfT (oT (oT (oT (oT hc25))))) (lf (wfT (oT (oT (oT (oT hc25))))) (lf (wfT (oT (oT (oT (oT hc25))))) (lO (pOT (!r23) R (oT (oT (oT (oT hc25))))) (l_nil ?_))))))))))))))))))))))))))
 exact qJ (fun w s => s)
 refine lW (wnF hc25) (vz (.agg [(iv c5.Power), (iv c5.Cut), (iv c5.Mass)].toArray) (v_loadw 1 ag28 sz28 R R R R)) (l_calln 0 R (wnF hc25) cb37 R (Z0l_ok (gcall_t hx18 (not_ff hc25))) R ?_)
 rintro _
 refine lW (wnF hc25) (vNo R) (lO (pOF R hc25 R) (lB R ?_))
 rcases bo ((!r15) || (!r17)) with hc26 | hc26
 refine lf (wfT hc26) (lf (wfT hc26) (lf (wfT hc26) (lO (pOT (!r19) R hc26) (lB R (lf (wfT (oT hc26)) (lf (wfT (oT hc26)) (lf (wfT (oT hc26)) (lO (pOT (!r21) R (oT hc26)) (lB R (lf (wfT (oT (oT hc26))) (lf (wfT (oT (oT hc26))) (lf (wfT (oT (oT hc26))) (lf (wfT (oT (oT hc26))) (lf (wfT (oT (oT hc26))) (lO (pOT (draft3.Size != m1.Size) R (oT (oT hc26))) (lB R (lf (wfT (oT (oT (oT hc26)))) (lf (wfT (oT (oT (oT hc26)))) (lf (wfT (oT (oT (oT hc26)))) (lO (pOT (!r23) R (oT (oT (oT hc26)))) (l_nil ?_)))))))))))))))))))))
 exact qJ (fun w s => s)
 refine lW (wnF hc26) (vI R) (l_calln 0 R (wnF hc26) cb38 R (Z0g_ok (gcall_t hx20 (not_ff hc26))) R ?_)
 rintro _
 refine lW (wnF hc26) (vNo R) (lO (pOF R hc26 R) (lB R ?_))
 rcases bo (((!r15) || (!r17)) || (!r19)) with hc27 | hc27
 refine lf (wfT hc27) (lf (wfT hc27) (lf (wfT hc27) (lO (pOT (!r21) R hc27) (lB R (lf (wfT (oT hc27)) (lf (wfT (oT hc27)) (lf (wfT (oT hc27)) (lf (wfT (oT hc27)) (lf (wfT (oT hc27)) (lO (pOT (draft3.Size != m1.Size) R (oT hc27)) (lB R (lf (wfT (oT (oT hc27))) (lf (wfT (oT (oT hc27))) (lf (wfT (oT (oT hc27))) (lO (pOT (!r23) R (oT (oT hc27))) (l_nil ?_))))))))))))))))
 exact qJ (fun w s => s)
 refine lW (wnF hc27) (vz (.agg [(iv draft3.Size), (sc A4 draft3.Rows D4)].toArray) (v_loadw 2 ag26 sz26 R R R R)) (lM (RR kT33 A4 D4 draft3.Rows :: _ :: W1) (fun w s => (s.d 5 R)) ?_)
 refine l_calln 1 R (wnF hc27) cb39 R (Zc_ok (gcall_t hx22 (not_ff hc27))) R ?_
 rintro _
 refine lN (_ :: W1) ?_
 refine lW (wnF hc27) (vNo R) (lO (pOF R hc27 R) (lB R ?_))
 rcases bo ((((!r15) || (!r17)) || (!r19)) || (!r21)) with hc28 | hc28
 refine lf (wfT hc28) (lf (wfT hc28) (lf (wfT hc28) (lf (wfT hc28) (lf (wfT hc28) (lO (pOT (draft3.Size != m1.Size) R hc28) (lB R (lf (wfT (oT hc28)) (lf (wfT (oT hc28)) (lf (wfT (oT hc28)) (lO (pOT (!r23) R (oT hc28)) (l_nil ?_)))))))))))
 exact qJ (fun w s => s)
 refine lW (wnF hc28) (vFa 0 fo26_0 R) (lW (wnF hc28) (vLd 2 ag3 R R R) (lW (wnF hc28) (vFa 0 fo26_0 R) (lW (wnF hc28) (vLd 3 ag3 R R R) (lW (wnF hc28) (vNe R R) (lO (pOF R hc28 R) (lB R ?_))))))
 rcases bo (((((!r15) || (!r17)) || (!r19)) || (!r21)) || (draft3.Size != m1.Size)) with hc29 | hc29
 refine lf (wfT hc29) (lf (wfT hc29) (lf (wfT hc29) (lO (pOT (!r23) R hc29) (l_nil ?_))))
 exact qJ (fun w s => s)
 refine lW (wnF hc29) (vI R) (l_calln 0 R (wnF hc29) cb40 R (Zd_ok (gcall_t hx24 (not_ff hc29))) R ?_)
 rintro _
 refine lW (wnF hc29) (vNo R) (lO (pOF R hc29 R) (l_nil ?_))
 exact qJ (fun w s => s)
 rintro σ1
 refine q_next ?_
 rcases bif_ hr with ⟨hb30, hr⟩ | ⟨hb30, hr⟩
 refine c_true R hb30 (c_seq (c_region (lS R (lS R (lI R (l_nil (q_next (c_ret (q_ret ?_)))))))))
 obtain rfl := so hr
 exact q_fin (vs := [(sc A14 ([] : List Int) D14), (iv 0)]) (.inl R) (A14, ([] : List Int).length, D14) R ⟨R, R, trivial⟩ R (fun w s => ((s.shr 0 R).e 7 [0]))
 refine c_false R hb30 (c_skip (q_next (c_seq ?_)))
 obtain ⟨r31, hx32, hr⟩ := bd hr
 refine c_region (lO (vz (.agg [(iv m1.Size), (sc A2 m1.Rows D2)].toArray) (v_loadw 3 ag26 sz26 R R R R)) (lO (vz (.agg [(iv c5.Power), (iv c5.Cut), (iv c5.Mass)].toArray) (v_loadw 1 ag28 sz28 R R R R)) (lS R (lI R (lI R (lM (RR kT33 A2 D2 m1.Rows :: RR kT3 A7 D7 prompt6 :: ow _ _ _ _ :: W1) (fun w s => (((s.d 4 R).d 7 R).e 3 [1, 0, 2])) ?_))))))
 refine lC 2 cb41 R (Z06_ok hx32) R ?_
 rintro ⟨A33, N33, D33⟩
 refine lN (ow kT3 3 (.slice A33 N33 D33) r31 :: _ :: W1) ?_
 refine l_len 0 sees_ow ?_
 rintro rfl
 refine lS R (l_nil (q_next (c_seq (c_region (lI R (l_nil (q_next (c_seq (c_region (lI R (l_nil (q_next (c_seq (c_cut (A := (Int) × (Unit)) (fun a => Z9_J3 r31 a.1 = some r) (fun a => [(17, (sc A33 r31 D33)), (18, (iv a.1))]) (fun a => RR kT3 A33 D33 r31 :: W1) ?_ ?_))))))))))))))
 refine c_block ?_
 obtain ⟨e1, hl1, hk1⟩ := bd hr
 refine c_loop (A := Unit) hl1 (fun s a => [(3, (sc A7 prompt6 D7)), (4, (iv n8)), (5, (iv seed9)), (6, (iv ahead10)), (8, (pt b12 0)), (9, (pt b13 0)), (17, (sc A33 r31 D33)), (18, (iv s.1)), (19, (iv s.2))]) (fun s a => RR kT3 A33 D33 r31 :: W1) () (aS R) (fun w s => ((s.shr 0 R).e 2 [0])) ?_
 rintro ⟨passes79, x80⟩ _ σ1 out1 hr he1
 replace hr : Z9_L1 draft3 c5 prompt6 n8 seed9 ahead10 r31 passes79 x80 = some out1 := hr
 unfold Z9_L1 at hr
 refine c_seq (c_seq (c_region (lI R (lI R (lO (vLt R R) (l_nil (q_next ?_)))))))
 rcases bif_ hr with ⟨hb81, hr⟩ | ⟨hb81, hr⟩
 refine c_true R hb81 (c_skip (q_next (c_block (c_seq (c_region (lI R (lO (vAd R R) (lI R (l_nil (q_next (c_seq ?_)))))))))))
 obtain ⟨r82, hx83, hr⟩ := bd hr
 obtain ⟨hg85, hr⟩ := gd hr
 obtain ⟨hg87, hr⟩ := gd hr
 refine c_cutq (A := (Unit) × (HH)) (fun _ => True) (fun a => [(3, (sc A7 prompt6 D7)), (4, (iv n8)), (5, (iv seed9)), (6, (iv ahead10)), (8, (pt b12 0)), (9, (pt b13 0)), (17, (sc A33 r31 D33)), (18, (iv (w64 (passes79 + (1 : Int))))), (19, (iv x80)), (20, (.slice a.2.1 a.2.2.1 a.2.2.2))]) (fun a => RR kT3 A33 D33 r31 :: ow kT3 3 (.slice a.2.1 a.2.2.1 a.2.2.2) (r82 ++ (sub r31 (0 : Int) x80)) :: W1) ?_ ?_
 refine cdr 7 [] mixo (fun ht hn => (dR 0 R (vS R) (dR 2 R (vS R) (dR 3 R (vI R) (d_all [1, 4] (by kernel_rfl) R ⟨?_, ?_, trivial⟩)))))
 refine lM (RR kT3 A7 D7 prompt6 :: RR kT3 A33 D33 r31 :: W1) (fun w s => (s.d 6 R)) ?_
 refine lC 1 cb42 R (Z0w_ok hx83) R ?_
 rintro ⟨A84, N84, D84⟩
 refine lN (ow kT3 3 (.slice A84 N84 D84) r82 :: _ :: W1) ?_
 refine l_len 0 sees_ow ?_
 rintro rfl
 refine l_nil (q_draw (sL [0]) (d1 4 R (l_cut (K := kT3) (0 : Int) x80 1 R R sl29 sz3 R R R R hg85.1 hg85.2.1 hg85.2.2 (fun A86 D86 => (l_nil (q_draw (sL [1, 0]) (d1 5 R (lM (_ :: RR kT3 A86 D86 (sub r31 (0 : Int) x80) :: RR kT3 A86 D86 (sub r31 (0 : Int) x80) :: _ :: W1) (fun w s => ((s.dup 0 R).mv 2)) ?_))))))))
 refine l_app (K := kT3) 17592186044416 R R sl29 sz3 by3 (Zr.zk zT3 zc3) R R R R R R (src_rd (Kind.scal_flat _ _)) hg87 (fun A88 D88 => (lN (OO kT3 3 A88 D88 (r82 ++ (sub r31 (0 : Int) x80)) :: _ :: _ :: W1) ?_))
 refine l_nil (q_draw (sL [1, 0]) (dR 6 R (vS R) (hS := (sL [1, 0])) (dD ?_)))
 exact q_join ((), (A88, (r82 ++ (sub r31 (0 : Int) x80)).length, D88)) trivial (aS R) (fun w s => (s.e 3 [2, 0]))
 refine l_cut (K := kT3) (0 : Int) x80 0 R R sl29 sz3 R R R R hg85.1 hg85.2.1 hg85.2.2 (fun A86 D86 => (l_nil (q_draw (sL [0]) (d1 1 R (lM (RR kT3 A7 D7 prompt6 :: _ :: _ :: W1) (fun w s => (s.d 7 R)) ?_)))))
 refine lC 1 cb42 R (Z0w_ok hx83) R ?_
 rintro ⟨A84, N84, D84⟩
 refine lN (ow kT3 3 (.slice A84 N84 D84) r82 :: _ :: _ :: W1) ?_
 refine l_len 0 sees_ow ?_
 rintro rfl
 refine l_nil (q_draw (sL [1, 0]) (d1 5 R (lM (_ :: _ :: _ :: _ :: W1) (fun w s => ((s.dup 1 R).mv 1)) ?_)))
 refine l_app (K := kT3) 17592186044416 R R sl29 sz3 by3 (Zr.zk zT3 zc3) R R R R R R (src_rd (Kind.scal_flat _ _)) hg87 (fun A88 D88 => (lN (OO kT3 3 A88 D88 (r82 ++ (sub r31 (0 : Int) x80)) :: _ :: _ :: W1) ?_))
 refine l_nil (q_draw (sL [1, 0]) (dR 6 R (vS R) (hS := (sL [1, 0])) (dD ?_)))
 exact q_join ((), (A88, (r82 ++ (sub r31 (0 : Int) x80)).length, D88)) trivial (aS R) (fun w s => (s.e 3 [2, 0]))
 rintro ⟨_, ⟨A89, N89, D89⟩⟩ σ1 -
 refine q_len 1 sees_ow (fun (hn : N89 = (r82 ++ (sub r31 (0 : Int) x80)).length) => ?_)
 subst hn
 refine q_next (c_seq (c_region (lI R (l_nil (q_next (c_seq (c_region (lB R (l_nil (q_next (c_seq (c_cut (A := (Int × Bool) × (Unit)) (fun a => Z9_J2 n8 passes79 a.1.1 a.1.2 = some out1) (fun a => [(3, (sc A7 prompt6 D7)), (4, (iv n8)), (5, (iv seed9)), (6, (iv ahead10)), (8, (pt b12 0)), (9, (pt b13 0)), (17, (sc A33 r31 D33)), (18, (iv (w64 (passes79 + (1 : Int))))), (19, (iv a.1.1)), (22, (.bool a.1.2))]) (fun a => RR kT3 A33 D33 r31 :: W1) ?_ ?_))))))))))))
 refine c_block ?_
 obtain ⟨e2, hl2, hk2⟩ := bd hr
 refine c_loop (A := HH) hl2 (fun s a => [(3, (sc A7 prompt6 D7)), (4, (iv n8)), (5, (iv seed9)), (6, (iv ahead10)), (8, (pt b12 0)), (9, (pt b13 0)), (17, (sc A33 r31 D33)), (18, (iv (w64 (passes79 + (1 : Int))))), (19, (iv s.1)), (20, (.slice a.1 a.2.1 a.2.2)), (21, (iv s.2.2.1)), (22, (.bool s.2.2.2))]) (fun s a => RR kT3 A33 D33 r31 :: ow kT3 3 (.slice a.1 a.2.1 a.2.2) s.2.1 :: W1) (A89, (r82 ++ (sub r31 (0 : Int) x80)).length, D89) (aS R) (fun w s => s) ?_
 rintro ⟨x101, all102, k104, same105⟩ ⟨A103, N103, D103⟩ σ1 out2 hr he2
 replace hr : Z9_L2 draft3 c5 n8 seed9 ahead10 r31 x101 all102 k104 same105 = some out2 := hr
 unfold Z9_L2 at hr
 refine c_len 1 sees_ow (fun (hn : N103 = all102.length) => ?_)
 subst hn
 refine c_seq (c_seq (cQ [(3, (sc A7 prompt6 D7)), (4, (iv n8)), (5, (iv seed9)), (6, (iv ahead10)), (8, (pt b12 0)), (9, (pt b13 0)), (17, (sc A33 r31 D33)), (18, (iv (w64 (passes79 + (1 : Int))))), (19, (iv x101)), (20, (sc A103 all102 D103)), (21, (iv k104)), (22, (.bool same105)), (84, (.bool (((decide (k104 < ahead10)) && (decide (x101 < n8))) && same105)))] (RR kT3 A33 D33 r31 :: OO kT3 3 A103 D103 all102 :: W1) ?_ ?_))
 refine c_region (lI R (lI R (lO (vLt R R) (lB R ?_))))
 rcases bo (decide (k104 < ahead10)) with hc106 | hc106
 refine lW (wnT hc106) (vI R) (lW (wnT hc106) (vI R) (lW (wnT hc106) (vLt R R) (lO (pAT R hc106 R) (lB R ?_))))
 rcases bo ((decide (k104 < ahead10)) && (decide (x101 < n8))) with hc107 | hc107
 refine lW (wnT hc107) (vB R) (lO (pAT R hc107 R) (l_nil ?_))
 exact qJ (fun w s => s)
 refine lf (wfF hc107) (lO (pAF same105 R hc107) (l_nil ?_))
 exact qJ (fun w s => s)
 refine lf (wfF hc106) (lf (wfF hc106) (lf (wfF hc106) (lO (pAF (decide (x101 < n8)) R hc106) (lB R (lf (wfF (aF hc106)) (lO (pAF same105 R (aF hc106)) (l_nil ?_)))))))
 exact qJ (fun w s => s)
 rintro σ1
 refine q_next ?_
 rcases bif_ hr with ⟨hb108, hr⟩ | ⟨hb108, hr⟩
 refine c_true R hb108 (c_skip (q_next (c_block (c_seq ?_))))
 obtain ⟨r109, hx110, hr⟩ := bd hr
 obtain ⟨hg111, hr⟩ := gd hr
 refine c_some 0 sees_rd (show 0 < r31.length by have := hg111; omega) (fun g112 o113 ha => ?_)
 subst ha
 refine cdr 12 [] mixo (fun ht hn => (dR 0 R (vz (.agg [(iv draft3.Size), (sc A4 draft3.Rows D4)].toArray) (v_loadw 3 ag26 sz26 R R R R)) (dR 1 R (vz (.agg [(iv c5.Power), (iv c5.Cut), (iv c5.Mass)].toArray) (v_loadw 2 ag28 sz28 R R R R)) (dR 2 R (vS R) (dR 3 R (vI R) (dR 4 R (vI R) (dR 6 R (vS R) (dR 7 R (vI R) (dR 8 R (vIa sl29 sz3 R R hg111) (dR 9 R (vLi 0 ag3 sees_rd R hg111) (d1 5 R (lM (OO kT3 3 A103 D103 all102 :: RR kT33 A4 D4 draft3.Rows :: RR kT3 (ad g112 o113) D33 r31 :: W1) (fun w s => ((s.d 6 R).e 3 [2, 0, 1])) ?_))))))))))))
 refine lC 2 cb43 R (FnOk.lends (A' := [OO kT3 3 A103 D103 all102]) (A := [RR kT3 A103 D103 all102]) (B := [RR kT33 A4 D4 draft3.Rows]) (FnOk.perm (Zb_ok hx110) (Pre' := [RR kT3 A103 D103 all102, RR kT33 A4 D4 draft3.Rows]) (fun _ _ _ s => (s.e 2 [1, 0]))) ⟨lend_ow, trivial⟩ (fun _ => trivial)) R ?_
 rintro _
 refine lN (_ :: _ :: W1) ?_
 refine l_nil (q_draw (fun w s => (s.e 2 [1, 0])) (dR 10 R (vEq R R) (hS := (fun w s => (s.e 2 [1, 0]))) (dR 11 R (vB R) (hS := (fun w s => (s.e 2 [1, 0]))) (dD (q_next (c_seq ?_))))))
 obtain ⟨hg115, hr⟩ := gd hr
 refine c_region (lS R (lS R (lI R (lO (vIa sl29 sz3 R R hg111) (lO (vLi 1 ag3 sees_rd R hg111) (l_build (K := kT3) (xs := ([(ix r31 x101)] : List Int)) (vs := [(iv (ix r31 x101))]) 0 R R sl29 sz3 zc3 R R R R R R ?_ R (fun A114 D114 => ?_)))))))
 exact fun I h s => (mO3).list [((), (ix r31 x101))] I h s
 refine lN (OO kT3 3 A114 D114 ([(ix r31 x101)] : List Int) :: _ :: _ :: W1) ?_
 refine lM (ow _ _ _ _ :: ow _ _ _ _ :: rds _ _ _ :: W1) (fun w s => (s.e 3 [1, 0, 2])) ?_
 refine l_app (K := kT3) 17592186044416 R R sl29 sz3 by3 (Zr.zk zT3 zc3) R R R R R R src_ow hg115 (fun A116 D116 => (lN (OO kT3 3 A116 D116 (all102 ++ ([(ix r31 x101)] : List Int)) :: _ :: W1) ?_))
 refine lS R (l_nil (q_next (c_seq (c_region (lI R (lO (vAd R R) (lI R (l_nil (q_next (c_region (lI R (lO (vAd R R) (lI R (l_nil (q_blockn ?_)))))))))))))))
 obtain rfl := so hr
 exact qA (A116, (all102 ++ ([(ix r31 x101)] : List Int)).length, D116) (fun w s => (s.e 2 [1, 0]))
 refine c_false R hb108 (c_exit (q_exit ?_))
 obtain rfl := so hr
 obtain rfl := he2 _ R
 have hr := hk2
 refine q_exit (q_block ?_)
 exact qI ((x101, same105), ()) hr (fun w s => (s.e 2 [0]))
 rintro ⟨⟨x122, same123⟩, _⟩ σ1 hr
 replace hr : Z9_J2 n8 passes79 x122 same123 = some out1 := hr
 unfold Z9_J2 at hr
 refine c_seq (cQ [(3, (sc A7 prompt6 D7)), (4, (iv n8)), (5, (iv seed9)), (6, (iv ahead10)), (8, (pt b12 0)), (9, (pt b13 0)), (17, (sc A33 r31 D33)), (18, (iv (w64 (passes79 + (1 : Int))))), (19, (iv x122)), (112, (.bool (same123 && (decide (x122 < n8)))))] (RR kT3 A33 D33 r31 :: W1) ?_ ?_)
 refine c_region (lB R (lB R ?_))
 rcases bo same123 with hc124 | hc124
 refine lW (wnT hc124) (vI R) (lW (wnT hc124) (vI R) (lW (wnT hc124) (vLt R R) (lO (pAT R hc124 R) (l_nil ?_))))
 exact qJ (fun w s => s)
 refine lf (wfF hc124) (lf (wfF hc124) (lf (wfF hc124) (lO (pAF (decide (x122 < n8)) R hc124) (l_nil ?_))))
 exact qJ (fun w s => s)
 rintro σ1
 refine q_next ?_
 rcases bif_ hr with ⟨hb125, hr⟩ | ⟨hb125, hr⟩
 refine c_true R hb125 (c_region (lI R (lO (vAd R R) (lI R (l_nil (q_blockn ?_))))))
 obtain rfl := so hr
 exact qA () (fun w s => s)
 refine c_false R hb125 (c_skip (q_blockn ?_))
 obtain rfl := so hr
 exact qA () (fun w s => s)
 refine c_false R hb81 (c_exit (q_exit ?_))
 obtain rfl := so hr
 obtain rfl := he1 _ R
 have hr := hk1
 refine q_exit (q_block ?_)
 exact qI (passes79, ()) hr (fun w s => s)
 rintro ⟨passes128, _⟩ σ1 hr
 replace hr : Z9_J3 r31 passes128 = some r := hr
 unfold Z9_J3 at hr
 refine c_seq (c_region (lS R (lI R (lS R (lI R (l_nil (q_next (c_ret ?_))))))))
 obtain rfl := so hr
 exact q_fin (vs := [(sc A33 r31 D33), (iv passes128)]) (.inl R) (A33, r31.length, D33) R ⟨R, R, trivial⟩ R (fun w s => (s.e 7 [0]))
theorem Zt_ok  {p1 : Int} {lo2 : Int} {hi3 : Int} {r : Bool} (hr : Zt p1 lo2 hi3 = some r) :
 FnOk Try.prog 31 [(iv p1), (iv lo2), (iv hi3)] [] (fun (h : Unit) => ((.bool r), [])) := by
 unfold Zt at hr
 refine fn_ok Try.func31 R 15 R R fun C V => ?_
 refine cN V ?_
 refine c_seq (c_region (lB R (l_nil (q_next (c_seq (cQ [(6, (.bool ((decide (p1 ≥ lo2)) && (decide (p1 ≤ hi3)))))] (V) ?_ ?_))))))
 refine c_region (lI R (lI R (lO (vGe R R) (lB R ?_))))
 rcases bo (decide (p1 ≥ lo2)) with hc4 | hc4
 refine lW (wnT hc4) (vI R) (lW (wnT hc4) (vI R) (lW (wnT hc4) (vLe R R) (lO (pAT R hc4 R) (lB R (l_nil ?_)))))
 exact qJ (fun w s => s)
 refine lf (wfF hc4) (lf (wfF hc4) (lf (wfF hc4) (lO (pAF (decide (p1 ≤ hi3)) R hc4) (lB R (l_nil ?_)))))
 exact qJ (fun w s => s)
 rintro σ1
 refine q_next (c_ret ?_)
 obtain rfl := so hr
 exact qF () (fun w s => s)
theorem Z1j_ok {s1 : List Row} {a_2 : Option Addr} {n_2 c_2 : Nat} {r : (List Row)} (hr : Z1j s1 = some r) :
    FnOk Try.prog 71 [(.slice a_2 n_2 c_2)] [rds kT33 (.slice a_2 n_2 c_2) s1] (fun (h : (Option Addr × Nat × Nat)) => ((.slice h.1 h.2.1 h.2.2), [ow (kT33).share 33 (.slice h.1 h.2.1 h.2.2) r])) := by
  unfold Z1j at hr
  obtain ⟨hg, hr⟩ := gd hr
  obtain rfl := Option.some.inj hr
  refine fn_ok Try.func71 rfl 8 rfl rfl fun C V => (c_st (V' := rds kT33 (.slice a_2 n_2 c_2) s1 :: V) (fun w s => s) (c_len 0 sees_rd (fun (hn : n_2 = s1.length) => ?_)))
  subst hn
  refine c_seq (c_region (lS rfl (l_nil (q_next (c_seq (c_seq (c_region (lS rfl (l_v (.bool a_2.isNone) (v_snil sl24 rfl rfl) rfl rfl (l_nil (q_next ?_)))))))))))
  rcases Bool.eq_false_or_eq_true a_2.isNone with ha | ha
  · refine c_true rfl ha ?_
    refine c_nilx 0 sees_rd ha (fun (hx : s1 = []) => ?_)
    subst hx
    refine c_seq (c_region (lS rfl (l_nil (q_next (c_ret (q_ret ?_))))))
    exact q_fin (vs := [(.slice none 0 0)]) (.inl rfl) (none, 0, 0) rfl ⟨rfl, trivial⟩ rfl (fun w s => ((s.nilo (kT33).share 33).sel 2 [0] rfl rfl))
  · refine c_false rfl ha (c_skip (q_next ?_))
    refine c_seq (c_region (l_build (K := (kT33).share) (xs := ([] : List Row)) (vs := []) 0 rfl rfl sl24 sz33 zc33 rfl rfl rfl rfl rfl rfl ?_ rfl (fun a_3 c_3 => ?_)))
    · exact fun I h s => (mS33).list [] I h s
    refine lS rfl (l_app (K := (kT33).share) 2932031007402 rfl rfl sl24 sz33 by33 (Zr.zk (Zr.share zT33) zc33) rfl rfl rfl rfl rfl rfl src_sh (by simpa using hg) (fun a_4 c_4 => (lS rfl (l_nil (q_next (c_ret ?_))))))
    exact q_fin (vs := [(.slice a_4 s1.length c_4)]) (.inl rfl) (a_4, s1.length, c_4) rfl ⟨rfl, trivial⟩ rfl (fun w s => s)
theorem Zn_ok  {p1 : Int} {r : Int} (hr : Zn p1 = some r) :
 FnOk Try.prog 100 [(.int .u64 p1)] [] (fun (h : Unit) => ((iv r), [])) := by
 unfold Zn at hr
 refine fn_ok Try.func100 R 25 R R fun C V => ?_
 refine cN V ?_
 refine c_seq (c_region (lI R (l_nil (q_next (c_seq (c_cut (A := (Int × Int) × (Unit)) (fun a => Zn_J1 a.1.1 a.1.2 = some r) (fun a => [(0, (.int .u64 a.1.1)), (2, (iv a.1.2))]) (fun a => V) ?_ ?_))))))
 refine c_seq (c_region (lI R (lO (vp (.bool (decide (p1 ≥ (4294967296 : Int)))) R) (l_nil (q_next ?_)))))
 rcases bif_ hr with ⟨hb2, hr⟩ | ⟨hb2, hr⟩
 refine c_true R hb2 (c_seq (c_region (lI R (lO (vz (.int .u64 (p1 / 2 ^ (32 : Int).toNat)) (v_shr R R (by decide) (by decide))) (lI R (l_nil (q_next (c_region (lI R (l_nil ?_))))))))))
 exact qI (((p1 / 2 ^ (32 : Int).toNat), (32 : Int)), ()) hr (fun w s => s)
 refine c_false R hb2 (c_skip ?_)
 exact qI ((p1, (0 : Int)), ()) hr (fun w s => s)
 rintro ⟨⟨x3, n4⟩, _⟩ σ1 hr
 replace hr : Zn_J1 x3 n4 = some r := hr
 unfold Zn_J1 at hr
 refine c_seq (c_cut (A := (Int × Int) × (Unit)) (fun a => Zn_J2 a.1.1 a.1.2 = some r) (fun a => [(0, (.int .u64 a.1.1)), (2, (iv a.1.2))]) (fun a => V) ?_ ?_)
 refine c_seq (c_region (lI R (lO (vp (.bool (decide (x3 ≥ (65536 : Int)))) R) (l_nil (q_next ?_)))))
 rcases bif_ hr with ⟨hb5, hr⟩ | ⟨hb5, hr⟩
 refine c_true R hb5 (c_seq (c_region (lI R (lO (vz (.int .u64 (x3 / 2 ^ (16 : Int).toNat)) (v_shr R R (by decide) (by decide))) (lI R (l_nil (q_next (c_region (lI R (lO (vAd R R) (lI R (l_nil ?_))))))))))))
 exact qI (((x3 / 2 ^ (16 : Int).toNat), (w64 (n4 + (16 : Int)))), ()) hr (fun w s => s)
 refine c_false R hb5 (c_skip ?_)
 exact qI ((x3, n4), ()) hr (fun w s => s)
 rintro ⟨⟨x6, n7⟩, _⟩ σ1 hr
 replace hr : Zn_J2 x6 n7 = some r := hr
 unfold Zn_J2 at hr
 refine c_seq (c_cut (A := (Int × Int) × (Unit)) (fun a => Zn_J3 a.1.1 a.1.2 = some r) (fun a => [(0, (.int .u64 a.1.1)), (2, (iv a.1.2))]) (fun a => V) ?_ ?_)
 refine c_seq (c_region (lI R (lO (vp (.bool (decide (x6 ≥ (256 : Int)))) R) (l_nil (q_next ?_)))))
 rcases bif_ hr with ⟨hb8, hr⟩ | ⟨hb8, hr⟩
 refine c_true R hb8 (c_seq (c_region (lI R (lO (vz (.int .u64 (x6 / 2 ^ (8 : Int).toNat)) (v_shr R R (by decide) (by decide))) (lI R (l_nil (q_next (c_region (lI R (lO (vAd R R) (lI R (l_nil ?_))))))))))))
 exact qI (((x6 / 2 ^ (8 : Int).toNat), (w64 (n7 + (8 : Int)))), ()) hr (fun w s => s)
 refine c_false R hb8 (c_skip ?_)
 exact qI ((x6, n7), ()) hr (fun w s => s)
 rintro ⟨⟨x9, n10⟩, _⟩ σ1 hr
 replace hr : Zn_J3 x9 n10 = some r := hr
 unfold Zn_J3 at hr
 refine c_seq ?_
 obtain ⟨hg11, hr⟩ := gd hr
 refine c_region (lI R (lI R (lO (vz (.int .u8 (IntKind.wrap .u8 (x9))) (v_conv un118 un5 R)) (lO (vz (.int .u8 (bt str0 (IntKind.wrap .u8 (x9)))) (v_sindex un9 R R hg11.1 hg11.2)) (lO (vz (iv (w64 ((bt str0 (IntKind.wrap .u8 (x9)))))) (v_conv un5 un3 R)) (lO (vAd R R) (lI R (l_nil (q_next (c_ret ?_))))))))))
 obtain rfl := so hr
 exact qF () (fun w s => s)
theorem Z15_ok  {p1 : Int} {r : Int} (hr : Z15 p1 = some r) :
 FnOk Try.prog 87 [(.int .u64 p1)] [] (fun (h : Unit) => ((iv r), [])) := by
 unfold Z15 at hr
 refine fn_ok Try.func87 R 8 R R fun C V => ?_
 refine cN V ?_
 refine c_seq (c_region (lI R (l_nil (q_next (c_seq (c_false R R (c_skip (q_next (c_seq ?_)))))))))
 obtain ⟨r2, hx3, hr⟩ := bd hr
 refine c_region (lI R (lC 0 cb100 R (Zn_ok hx3) R ?_))
 rintro _
 refine lI R (l_nil (q_next (c_ret ?_)))
 obtain rfl := so hr
 exact qF () (fun w s => s)
theorem Z17_ok  {p1 : Int} {r : Bool} (hr : Z17 p1 = some r) :
 FnOk Try.prog 88 [(iv p1)] [] (fun (h : Unit) => ((.bool r), [])) := by
 unfold Z17 at hr
 refine fn_ok Try.func88 R 6 R R fun C V => ?_
 refine cN V ?_
 refine c_seq (c_region (lB R (l_nil (q_next (c_seq (c_region (lI R (lI R (lO (vNe R R) (lB R (l_nil (q_next (c_ret ?_)))))))))))))
 obtain rfl := so hr
 exact qF () (fun w s => s)
theorem Z0p_ok  {p1 : Int} {y2 : Int} {r : Int} (hr : Z0p p1 y2 = some r) :
 FnOk Try.prog 75 [(iv p1), (iv y2)] [] (fun (h : Unit) => ((iv r), [])) := by
 unfold Z0p at hr
 refine fn_ok Try.func75 R 20 R R fun C V => ?_
 refine cN V ?_
 refine c_seq (c_region (lI R (l_nil (q_next (c_seq ?_)))))
 obtain ⟨r3, hx4, hr⟩ := bd hr
 refine c_region (lI R (lC 0 cb88 R (Z17_ok hx4) R ?_))
 rintro _
 refine lB R (l_nil (q_next (c_seq ?_)))
 obtain ⟨r5, hx6, hr⟩ := bd hr
 refine c_region (lI R (lC 0 cb88 R (Z17_ok hx6) R ?_))
 rintro _
 refine lB R (l_nil (q_next (c_seq (c_seq (c_region (lB R (l_nil (q_next ?_))))))))
 rcases bif_ hr with ⟨hb7, hr⟩ | ⟨hb7, hr⟩
 refine c_true R hb7 (c_seq (c_seq (c_region (lB R (l_nil (q_next ?_))))))
 rcases bif_ hr with ⟨hb8, hr⟩ | ⟨hb8, hr⟩
 refine c_true R hb8 (c_seq (c_region (lI R (l_nil (q_next (c_ret (q_ret (q_ret ?_))))))))
 obtain rfl := so hr
 exact qF () (fun w s => s)
 refine c_false R hb8 (c_skip (q_next (c_seq (c_region (lI R (l_nil (q_next (c_ret (q_ret ?_)))))))))
 obtain rfl := so hr
 exact qF () (fun w s => s)
 refine c_false R hb7 (c_skip (q_next (c_seq (c_seq (c_region (lB R (l_nil (q_next ?_))))))))
 rcases bif_ hr with ⟨hb9, hr⟩ | ⟨hb9, hr⟩
 refine c_true R hb9 (c_seq (c_region (lI R (l_nil (q_next (c_ret (q_ret ?_)))))))
 obtain rfl := so hr
 exact qF () (fun w s => s)
 refine c_false R hb9 (c_skip (q_next (c_seq (c_seq (c_region (lI R (lI R (lO (vLt R R) (l_nil (q_next ?_))))))))))
 rcases bif_ hr with ⟨hb10, hr⟩ | ⟨hb10, hr⟩
 refine c_true R hb10 (c_seq (c_region (lI R (l_nil (q_next (c_ret (q_ret ?_)))))))
 obtain rfl := so hr
 exact qF () (fun w s => s)
 refine c_false R hb10 (c_skip (q_next (c_seq (c_seq (c_region (lI R (lI R (lO (vGt R R) (l_nil (q_next ?_))))))))))
 rcases bif_ hr with ⟨hb11, hr⟩ | ⟨hb11, hr⟩
 refine c_true R hb11 (c_seq (c_region (lI R (l_nil (q_next (c_ret (q_ret ?_)))))))
 obtain rfl := so hr
 exact qF () (fun w s => s)
 refine c_false R hb11 (c_skip (q_next (c_seq (c_region (lI R (l_nil (q_next (c_ret ?_))))))))
 obtain rfl := so hr
 exact qF () (fun w s => s)
theorem Z03_ok  {s11 : (List Int)} {s23 : (List Int)} {r : Int} (hr : Z03 s11 s23 = some r) :
 FnOk Try.prog 76 [(.slice A2 N2 D2), (.slice A4 N4 D4)] [rds kT3 (.slice A2 N2 D2) s11, rds kT3 (.slice A4 N4 D4) s23] (fun (h : Unit) => ((iv r), [])) := by
 unfold Z03 at hr
 refine fn_ok Try.func76 R 36 R R fun C V => ?_
 refine cN (_ :: _ :: V) ?_
 refine cL 0 sees_rd ?_
 rintro rfl
 refine cL 1 sees_rd ?_
 rintro rfl
 let W0 : List HP := RR kT3 A2 D2 s11 :: RR kT3 A4 D4 s23 :: V
 refine cN W0 ?_
 refine c_seq (c_region (lI R (l_nil (q_next (c_seq (c_cut (A := (Unit) × (Unit)) (fun a => Z03_J1 s11 s23 = some r) (fun a => [(0, (sc A2 s11 D2)), (1, (sc A4 s23 D4))]) (fun a => W0) ?_ ?_))))))
 refine c_seq (c_region (lS R (lO (v_len sl29 R) (lI R (l_nil (q_next (c_block ?_)))))))
 obtain ⟨e1, hl1, hk1⟩ := bd hr
 refine c_loop (A := Unit) hl1 (fun s a => [(0, (sc A2 s11 D2)), (1, (sc A4 s23 D4)), (9, (sc A2 s11 D2)), (10, (il s11)), (11, (iv s))]) (fun s a => W0) () (aS R) (fun w s => s) ?_
 rintro x16 _ σ1 out1 hr he1
 replace hr : Z03_L1 s11 s23 x16 = some out1 := hr
 unfold Z03_L1 at hr
 refine c_seq (c_region (lO (vLt R R) (l_nil (q_next (c_seq ?_)))))
 rcases bif_ hr with ⟨hb17, hr⟩ | ⟨hb17, hr⟩
 refine c_true R hb17 (c_skip (q_next (c_seq (c_block (c_seq ?_)))))
 obtain ⟨hg18, hr⟩ := gd hr
 refine c_region (lI R (t_some 0 sees_rd (show 0 < s11.length by have := hg18; omega) (fun g19 o20 ha => ?_)))
 subst ha
 refine lO (vIa sl29 sz3 R R hg18) (lO (vLi 0 ag3 sees_rd R hg18) (lI R (lI R (l_nil (q_next (c_seq (c_seq (c_region (lI R (lS R (lO (v_len sl29 R) (lO (vGe R R) (l_nil (q_next ?_))))))))))))))
 rcases bif_ hr with ⟨hb21, hr⟩ | ⟨hb21, hr⟩
 refine c_true R hb21 (c_seq (c_region (lI R (l_nil (q_next (c_ret (q_ret (q_blockr (q_ret ?_)))))))))
 obtain rfl := so hr
 obtain rfl := he1 _ R
 have hr := hk1
 refine q_ret (q_blockr (q_ret ?_))
 obtain rfl := so hr
 exact qF () (fun w s => (s.e 2 []))
 refine c_false R hb21 (c_skip (q_next (c_seq ?_)))
 obtain ⟨hg22, hr⟩ := gd hr
 refine c_region (lS R (lI R (t_some 1 sees_rd (show 0 < s23.length by have := hg22; omega) (fun g23 o24 ha => ?_))))
 subst ha
 refine lO (vIa sl29 sz3 R R hg22) (lO (vLi 1 ag3 sees_rd R hg22) (lI R (l_nil (q_next (c_seq ?_)))))
 obtain ⟨r25, hx26, hr⟩ := bd hr
 refine c_region (lI R (lI R (lC 0 cb75 R (Z0p_ok hx26) R ?_)))
 rintro _
 refine lI R (l_nil (q_next (c_seq (c_region (lI R (lO (vNe R R) (l_nil (q_next ?_))))))))
 rcases bif_ hr with ⟨hb27, hr⟩ | ⟨hb27, hr⟩
 refine c_true R hb27 (c_seq (c_region (lI R (lI R (l_nil (q_next (c_ret (q_blockr (q_ret ?_)))))))))
 obtain rfl := so hr
 obtain rfl := he1 _ R
 have hr := hk1
 refine q_ret (q_blockr (q_ret ?_))
 obtain rfl := so hr
 exact qF () (fun w s => (s.e 2 []))
 refine c_false R hb27 (c_skip (q_blockn (q_next (c_region (lO (vAd R R) (lI R (l_nil ?_)))))))
 obtain rfl := so hr
 exact qA () (fun w s => s)
 refine c_false R hb17 (c_exit (q_exit ?_))
 obtain rfl := so hr
 obtain rfl := he1 _ R
 have hr := hk1
 refine q_exit (q_block ?_)
 exact qI ((), ()) hr (fun w s => s)
 rintro ⟨_, _⟩ σ1 hr
 replace hr : Z03_J1 s11 s23 = some r := hr
 unfold Z03_J1 at hr
 refine c_seq (c_seq (c_region (lS R (lO (v_len sl29 R) (lS R (lO (v_len sl29 R) (lO (vLt R R) (l_nil (q_next ?_)))))))))
 rcases bif_ hr with ⟨hb29, hr⟩ | ⟨hb29, hr⟩
 refine c_true R hb29 (c_seq (c_region (lI R (l_nil (q_next (c_ret (q_ret ?_)))))))
 obtain rfl := so hr
 exact qF () (fun w s => (s.e 2 []))
 refine c_false R hb29 (c_skip (q_next (c_seq (c_region (lI R (l_nil (q_next (c_ret ?_))))))))
 obtain rfl := so hr
 exact qF () (fun w s => (s.e 2 []))
theorem Z05_ok  {vals1 : (List Int)} {r : Int} (hr : Z05 vals1 = some r) :
 FnOk Try.prog 74 [(.slice A2 N2 D2)] [rds kT3 (.slice A2 N2 D2) vals1] (fun (h : Unit) => ((iv r), [])) := by
 unfold Z05 at hr
 refine fn_ok Try.func74 R 18 R R fun C V => ?_
 refine cN (_ :: V) ?_
 refine cL 0 sees_rd ?_
 rintro rfl
 let W0 : List HP := RR kT3 A2 D2 vals1 :: V
 refine cN W0 ?_
 refine c_seq (c_region (lI R (l_nil (q_next (c_seq (c_region (lI R (l_nil (q_next (c_seq (c_cut (A := (Unit) × (Unit)) (fun a => Z05_J1 = some r) (fun a => [(3, (iv 0))]) (fun a => W0) ?_ ?_)))))))))))
 refine c_seq (c_region (lS R (lO (v_len sl29 R) (lI R (l_nil (q_next (c_block ?_)))))))
 obtain ⟨e1, hl1, hk1⟩ := bd hr
 refine c_loop (A := Unit) hl1 (fun s a => [(3, (iv 0)), (6, (sc A2 vals1 D2)), (7, (il vals1)), (8, (iv s))]) (fun s a => W0) () (aS R) (fun w s => s) ?_
 rintro x8 _ σ1 out1 hr he1
 replace hr : Z05_L1 vals1 x8 = some out1 := hr
 unfold Z05_L1 at hr
 refine c_seq (c_region (lO (vLt R R) (l_nil (q_next (c_seq ?_)))))
 rcases bif_ hr with ⟨hb9, hr⟩ | ⟨hb9, hr⟩
 refine c_true R hb9 (c_skip (q_next (c_seq (c_block (c_seq ?_)))))
 obtain ⟨hg10, hr⟩ := gd hr
 refine c_region (t_some 0 sees_rd (show 0 < vals1.length by have := hg10; omega) (fun g11 o12 ha => ?_))
 subst ha
 refine lO (vIa sl29 sz3 R R hg10) (lO (vLi 0 ag3 sees_rd R hg10) (lI R (l_nil (q_next (c_seq (c_region (lI R (lI R (lO (vNe R R) (l_nil (q_next ?_)))))))))))
 rcases bif_ hr with ⟨hb13, hr⟩ | ⟨hb13, hr⟩
 refine c_true R hb13 (c_seq (c_region (lI R (lI R (l_nil (q_next (c_ret (q_blockr (q_ret ?_)))))))))
 obtain rfl := so hr
 obtain rfl := he1 _ R
 have hr := hk1
 refine q_ret (q_blockr (q_ret ?_))
 obtain rfl := so hr
 exact qF () (fun w s => (s.e 1 []))
 refine c_false R hb13 (c_skip (q_blockn (q_next (c_region (lO (vAd R R) (lI R (l_nil ?_)))))))
 obtain rfl := so hr
 exact qA () (fun w s => s)
 refine c_false R hb9 (c_exit (q_exit ?_))
 obtain rfl := so hr
 obtain rfl := he1 _ R
 have hr := hk1
 refine q_exit (q_block ?_)
 exact qI ((), ()) hr (fun w s => s)
 rintro ⟨_, _⟩ σ1 hr
 replace hr : Z05_J1 = some r := hr
 unfold Z05_J1 at hr
 refine c_seq (c_region (lI R (lI R (l_nil (q_next (c_ret ?_))))))
 obtain rfl := so hr
 exact qF () (fun w s => (s.e 1 []))
theorem Z0q_ok  {a1 : (List Int)} {b3 : (List Int)} {r : Int} (hr : Z0q a1 b3 = some r) :
 FnOk Try.prog 54 [(.slice A2 N2 D2), (.slice A4 N4 D4)] [rds kT3 (.slice A2 N2 D2) a1, rds kT3 (.slice A4 N4 D4) b3] (fun (h : Unit) => ((iv r), [])) := by
 unfold Z0q at hr
 refine fn_ok Try.func54 R 15 R R fun C V => ?_
 refine cN (_ :: _ :: V) ?_
 refine cL 0 sees_rd ?_
 rintro rfl
 refine cL 1 sees_rd ?_
 rintro rfl
 let W0 : List HP := RR kT3 A2 D2 a1 :: RR kT3 A4 D4 b3 :: V
 refine cN W0 ?_
 refine c_seq (c_region (lI R (l_nil (q_next (c_seq ?_)))))
 obtain ⟨r5, hx6, hr⟩ := bd hr
 obtain ⟨r7, hx8, hr⟩ := bd hr
 obtain ⟨r10, hx11, hr⟩ := bd hr
 refine c_region (lS R (lO (v_len sl29 R) (lS R (lO (v_len sl29 R) (lC 0 cb75 R (Z0p_ok hx6) R ?_)))))
 rintro _
 refine lS R (lS R (lM (RR kT3 A2 D2 a1 :: RR kT3 A4 D4 b3 :: W0) (fun w s => (((s.d 0 R).d 2 R).e 2 [1, 0])) ?_))
 refine lC 2 cb76 R (Z03_ok hx8) R ?_
 rintro _
 refine lN W0 ?_
 refine l_build (K := kT3) (xs := ([r5, r7] : List Int)) (vs := [(iv r5), (iv r7)]) 0 R R sl29 sz3 zc3 R R R R R R ?_ R (fun A9 D9 => ?_)
 exact fun I h s => (mO3).list [((), r5), ((), r7)] I h s
 refine lN (OO kT3 3 A9 D9 ([r5, r7] : List Int) :: W0) ?_
 refine lC 1 cb74 R (FnOk.lends (A' := [OO kT3 3 A9 D9 ([r5, r7] : List Int)]) (A := [RR kT3 A9 D9 ([r5, r7] : List Int)]) (B := []) (Z05_ok hx11) ⟨lend_ow, trivial⟩ (fun _ => trivial)) R ?_
 rintro _
 refine lI R (l_nil (q_next (c_ret ?_)))
 obtain rfl := so hr
 exact qF () (fun w s => (s.e 3 []))
theorem Z8_ok  {a1 : Row} {b4 : Row} {r : Int} (hr : Z8 a1 b4 = some r) :
 FnOk Try.prog 73 [(.agg [(.slice A2 N2 D2), (.slice A3 N3 D3)].toArray), (.agg [(.slice A5 N5 D5), (.slice A6 N6 D6)].toArray)] [rds kT3 (.slice A2 N2 D2) a1.Key, rds kT3 (.slice A3 N3 D3) a1.Weights, rds kT3 (.slice A5 N5 D5) b4.Key, rds kT3 (.slice A6 N6 D6) b4.Weights] (fun (h : Unit) => ((iv r), [])) := by
 unfold Z8 at hr
 refine fn_ok Try.func73 R 10 R R fun C V => ?_
 refine cN (_ :: _ :: _ :: _ :: V) ?_
 refine cL 0 sees_rd ?_
 rintro rfl
 refine cL 1 sees_rd ?_
 rintro rfl
 refine cL 2 sees_rd ?_
 rintro rfl
 refine cL 3 sees_rd ?_
 rintro rfl
 let W0 : List HP := RR kT3 A2 D2 a1.Key :: RR kT3 A3 D3 a1.Weights :: RR kT3 A5 D5 b4.Key :: RR kT3 A6 D6 b4.Weights :: V
 refine cN W0 ?_
 refine c_seq (c_region (lBx R (fun b7 => (lBx R (fun b8 => (lI R (l_nil ?_)))))))
 let W1 : List HP := bxl b8 [(sc A5 b4.Key D5), (sc A6 b4.Weights D6)] 33 :: bxl b7 [(sc A2 a1.Key D2), (sc A3 a1.Weights D3)] 33 :: W0
 refine qN W1 ?_
 refine q_next (c_seq ?_)
 obtain ⟨r9, hx10, hr⟩ := bd hr
 refine c_region (lO (vFa 0 fo33_0 R) (lO (vLd 1 ag29 R R R) (lO (vFa 0 fo33_0 R) (lO (vLd 0 ag29 R R R) (lM (RR kT3 A2 D2 a1.Key :: RR kT3 A5 D5 b4.Key :: W1) (fun w s => (((s.d 2 R).d 5 R).e 2 [1, 0])) ?_)))))
 refine lC 2 cb54 R (Z0q_ok hx10) R ?_
 rintro _
 refine lN W1 ?_
 refine lI R (l_nil (q_next (c_ret ?_)))
 obtain rfl := so hr
 exact qF () (fun w s => (s.e 6 []))
theorem Zf_ok  {data1 : (List Row)} {a3 : Int} {b4 : Int} {r : (List Row)} (hr : Zf data1 a3 b4 = some r) :
 FnOk Try.prog 91 [(.slice A2 N2 D2), (iv a3), (iv b4), (.func (.func 73) [].toArray [].toArray)] [ow (kT33).share 33 (.slice A2 N2 D2) data1] (fun (h : Unit) => ((.tuple [].toArray), [ow (kT33).share 33 (.slice A2 N2 D2) r])) := by
 unfold Zf at hr
 refine fn_ok Try.func91 R 53 R R fun C V => ?_
 refine cN (_ :: V) ?_
 refine cL 0 sees_sh ?_
 rintro rfl
 refine c_seq (c_region (lI R (lO (vAd R R) (lI R (l_nil (q_next (c_block ?_)))))))
 obtain ⟨e1, hl1, hk1⟩ := bd hr
 refine c_loop (A := Unit) hl1 (fun s a => [(0, (sc A2 data1 D2)), (1, (iv a3)), (2, (iv b4)), (3, (.func (.func 73) [].toArray [].toArray)), (8, (iv s.2))]) (fun s a => ow (kT33).share 33 (.slice A2 data1.length D2) s.1 :: V) () (aS R) (fun w s => s) ?_
 rintro ⟨data56, i57⟩ _ σ1 out1 hr he1
 replace hr : Zf_L1 data1 a3 b4 data56 i57 = some out1 := hr
 unfold Zf_L1 at hr
 refine c_seq (c_seq (c_region (lI R (lI R (lO (vLt R R) (l_nil (q_next ?_)))))))
 rcases bif_ hr with ⟨hb58, hr⟩ | ⟨hb58, hr⟩
 refine c_true R hb58 (c_skip (q_next (c_seq (c_cut (A := ((List Row)) × (Unit)) (fun a => Zf_J2 i57 a.1 = some out1) (fun a => [(0, (sc A2 data1 D2)), (1, (iv a3)), (2, (iv b4)), (3, (.func (.func 73) [].toArray [].toArray)), (8, (iv i57))]) (fun a => ow (kT33).share 33 (.slice A2 data1.length D2) a.1 :: V) ?_ ?_))))
 refine c_block (c_seq (c_region (lI R (lI R (l_nil (q_next (c_block ?_)))))))
 obtain ⟨e2, hl2, hk2⟩ := bd hr
 refine c_loop (A := Unit) hl2 (fun s a => [(0, (sc A2 data1 D2)), (1, (iv a3)), (2, (iv b4)), (3, (.func (.func 73) [].toArray [].toArray)), (8, (iv i57)), (9, (iv s.2))]) (fun s a => ow (kT33).share 33 (.slice A2 data1.length D2) s.1 :: V) () (aS R) (fun w s => s) ?_
 rintro ⟨data81, j82⟩ _ σ1 out2 hr he2
 replace hr : Zf_L2 data1 a3 data81 j82 = some out2 := hr
 unfold Zf_L2 at hr
 refine c_seq (c_seq ?_)
 obtain ⟨hg83, hr⟩ := gd hr
 obtain ⟨hg88, hr⟩ := gd hr
 obtain ⟨r91, hx92, hr⟩ := bd hr
 refine cQ [(0, (sc A2 data1 D2)), (1, (iv a3)), (2, (iv b4)), (3, (.func (.func 73) [].toArray [].toArray)), (8, (iv i57)), (9, (iv j82)), (34, (.bool ((decide (j82 > a3)) && (decide (r91 < (0 : Int))))))] (ow (kT33).share 33 (.slice A2 data1.length D2) data81 :: V) ?_ ?_
 rcases bo (decide (j82 > a3)) with hc93 | hc93
 refine c_some 0 sees_sh (show 0 < data1.length by have := (hg83 hc93); omega) (fun g84 o85 ha => ?_)
 subst ha
 refine cdr 17 [] mixo (fun ht hn => (dR 0 R (vI R) (dR 1 R (vI R) (dR 2 R (vGt R R) (dR 3 R (vB R) (dW 4 R (wnT hc93) (vp (.func (.func 73) [].toArray [].toArray) R) (dW 5 R (wnT hc93) (vS R) (dW 6 R (wnT hc93) (vI R) (dW 7 R (wnT hc93) (vIa sl24 sz33 R R (hg83 hc93)) (dW 9 R (wnT hc93) (vS R) (dW 10 R (wnT hc93) (vI R) (dW 11 R (wnT hc93) (vSb R R) (dW 12 R (wnT hc93) (vIa sl24 sz33 R R (hg88 hc93)) (d_all [8, 13] (by kernel_rfl) R ⟨?_, ?_, trivial⟩))))))))))))))
 refine l_ldo (K := (kT33).share) 0 j82 R (wnT hc93) ag33 sz33 dT33.own R R (hg83 hc93).1 (hg83 hc93).2 ?_
 rintro ⟨⟨A86, D86⟩, ⟨A87, D87⟩⟩
 refine lN (RR kT3 A86 D86 ((ix data81 j82).Key) :: RR kT3 A87 D87 ((ix data81 j82).Weights) :: ow (kT33).share 33 (.slice (ad g84 o85) data1.length D2) data81 :: V) ?_
 refine l_nil (q_draw (sL [1, 0]) (d1 13 R (l_ldo (K := (kT33).share) 2 (w64 (j82 - (1 : Int))) R (wnT hc93) ag33 sz33 dT33.own R R (hg88 hc93).1 (hg88 hc93).2 ?_)))
 rintro ⟨⟨A89, D89⟩, ⟨A90, D90⟩⟩
 refine lN (RR kT3 A89 D89 ((ix data81 (w64 (j82 - (1 : Int)))).Key) :: RR kT3 A90 D90 ((ix data81 (w64 (j82 - (1 : Int)))).Weights) :: _ :: _ :: _ :: V) ?_
 refine l_nil (q_draw (sL [3, 2, 1, 0]) (d1 14 R (lM (rds _ _ _ :: rds _ _ _ :: rds _ _ _ :: rds _ _ _ :: rds _ _ _ :: rds _ _ _ :: rds _ _ _ :: rds _ _ _ :: ow _ _ _ _ :: V) (fun w s => (((((s.d 2 R).d 4 R).d 2 R).d 4 R).e 9 [3, 2, 1, 0, 4, 5, 6, 7, 8])) ?_)))
 refine l_callvn (fs := []) (cs := []) 4 R (wnT hc93) cb73 R R (Z8_ok (gcall_t hx92 hc93)) R ?_
 rintro _
 refine lN (_ :: _ :: _ :: _ :: _ :: V) ?_
 refine l_nil (q_draw (sL [3, 2, 1, 0]) (dW 15 R (wnT hc93) (vLt R R) (hS := (sL [3, 2, 1, 0])) (dR 16 R (pAT R hc93 R) (hS := (sL [3, 2, 1, 0])) (dD ?_))))
 exact qJ (fun w s => (s.e 5 [4]))
 refine l_ldo (K := (kT33).share) 0 (w64 (j82 - (1 : Int))) R (wnT hc93) ag33 sz33 dT33.own R R (hg88 hc93).1 (hg88 hc93).2 ?_
 rintro ⟨⟨A89, D89⟩, ⟨A90, D90⟩⟩
 refine lN (_ :: _ :: _ :: V) ?_
 refine l_nil (q_draw (sL [1, 0]) (d1 8 R (l_ldo (K := (kT33).share) 2 j82 R (wnT hc93) ag33 sz33 dT33.own R R (hg83 hc93).1 (hg83 hc93).2 ?_)))
 rintro ⟨⟨A86, D86⟩, ⟨A87, D87⟩⟩
 refine lN (RR kT3 A86 D86 ((ix data81 j82).Key) :: RR kT3 A87 D87 ((ix data81 j82).Weights) :: _ :: _ :: _ :: V) ?_
 refine l_nil (q_draw (sL [3, 2, 1, 0]) (d1 14 R (lM (rds _ _ _ :: rds _ _ _ :: rds _ _ _ :: rds _ _ _ :: rds _ _ _ :: rds _ _ _ :: rds _ _ _ :: rds _ _ _ :: ow _ _ _ _ :: V) (fun w s => (((((s.d 0 R).d 2 R).d 4 R).d 6 R).e 9 [3, 2, 1, 0, 4, 5, 6, 7, 8])) ?_)))
 refine l_callvn (fs := []) (cs := []) 4 R (wnT hc93) cb73 R R (Z8_ok (gcall_t hx92 hc93)) R ?_
 rintro _
 refine lN (_ :: _ :: _ :: _ :: _ :: V) ?_
 refine l_nil (q_draw (sL [3, 2, 1, 0]) (dW 15 R (wnT hc93) (vLt R R) (hS := (sL [3, 2, 1, 0])) (dR 16 R (pAT R hc93 R) (hS := (sL [3, 2, 1, 0])) (dD ?_))))
 exact qJ (fun w s => (s.e 5 [4]))
 refine cdr 17 [] mixo (fun ht hn => (dR 0 R (vI R) (dR 1 R (vI R) (dR 2 R (vGt R R) (dR 3 R (vB R) (dF 4 R (wfF hc93) (dF 5 R (wfF hc93) (dF 6 R (wfF hc93) (dF 7 R (wfF hc93) (dF 8 R (wfF hc93) (dF 9 R (wfF hc93) (dF 10 R (wfF hc93) (dF 11 R (wfF hc93) (dF 12 R (wfF hc93) (dF 13 R (wfF hc93) (dF 14 R (wfF hc93) (dF 15 R (wfF hc93) (dR 16 R (pAF (decide (r91 < (0 : Int))) R hc93) (dD ?_)))))))))))))))))))
 exact qJ (fun w s => s)
 rintro σ1
 refine q_next ?_
 rcases bif_ hr with ⟨hb94, hr⟩ | ⟨hb94, hr⟩
 refine c_true R hb94 (c_skip (q_next (c_seq (c_block ?_))))
 obtain ⟨hg95, hr⟩ := gd hr
 obtain ⟨hg100, hr⟩ := gd hr
 refine cQ [(0, (sc A2 data1 D2)), (1, (iv a3)), (2, (iv b4)), (3, (.func (.func 73) [].toArray [].toArray)), (8, (iv i57)), (9, (iv j82))] (ow (kT33).share 33 (.slice A2 data1.length D2) ((data81.set j82.toNat (ix data81 (w64 (j82 - (1 : Int))))).set (w64 (j82 - (1 : Int))).toNat (ix data81 j82)) :: V) ?_ ?_
 refine c_some 0 sees_sh (show 0 < data1.length by have := hg95; omega) (fun g96 o97 ha => ?_)
 subst ha
 refine cdr 18 [0] mixo (fun ht hn => (dR 0 R (vS R) (hS := (sL [0])) (dR 1 R (vI R) (hS := (sL [0])) (dR 2 R (vS R) (hS := (sL [0])) (dR 3 R (vI R) (hS := (sL [0])) (dR 4 R (vSb R R) (hS := (sL [0])) (dR 5 R (vS R) (hS := (sL [0])) (dR 6 R (vI R) (hS := (sL [0])) (dR 7 R (vSb R R) (hS := (sL [0])) (dR 8 R (vIa sl24 sz33 R R hg95) (hS := (sL [0])) (dR 10 R (vS R) (hS := (sL [0])) (dR 11 R (vI R) (hS := (sL [0])) (dR 12 R (vIa sl24 sz33 R R hg100) (hS := (sL [0])) (d_all [9, 13] (by kernel_rfl) R ⟨?_, ?_, trivial⟩))))))))))))))
 refine l_ldo (K := (kT33).share) 0 (w64 (j82 - (1 : Int))) R R ag33 sz33 dT33.own R R hg95.1 hg95.2 ?_
 rintro ⟨⟨A98, D98⟩, ⟨A99, D99⟩⟩
 refine lN (RR kT3 A98 D98 ((ix data81 (w64 (j82 - (1 : Int)))).Key) :: RR kT3 A99 D99 ((ix data81 (w64 (j82 - (1 : Int)))).Weights) :: ow (kT33).share 33 (.slice (ad g96 o97) data1.length D2) data81 :: V) ?_
 refine l_nil (q_draw (sL [2, 1, 0]) (d1 13 R (l_ldo (K := (kT33).share) 2 j82 R R ag33 sz33 dT33.own R R hg100.1 hg100.2 ?_)))
 rintro ⟨⟨A101, D101⟩, ⟨A102, D102⟩⟩
 refine lN (RR kT3 A101 D101 ((ix data81 j82).Key) :: RR kT3 A102 D102 ((ix data81 j82).Weights) :: _ :: _ :: _ :: V) ?_
 refine l_nil (q_draw (sL [4, 3, 2, 1, 0]) (dR 14 R (vIa sl24 sz33 R R hg100) (hS := (sL [4, 3, 2, 1, 0])) (d1 15 R (lM (ow _ _ _ _ :: rds _ _ _ :: rds _ _ _ :: rds _ _ _ :: rds _ _ _ :: rds _ _ _ :: rds _ _ _ :: V) (fun w s => (((s.d 2 R).d 4 R).e 7 [6, 1, 0, 2, 3, 4, 5])) ?_))))
 refine l_stx (K := (kT33).share) (x' := (ix data81 (w64 (j82 - (1 : Int))))) 2 j82 R R sz33 R R hg100.1 hg100.2 ?_ ?_
 exact fun I h s => (mS33).put I h ((sc A98 ((ix data81 (w64 (j82 - (1 : Int)))).Key) D98), (sc A99 ((ix data81 (w64 (j82 - (1 : Int)))).Weights) D99)) (ix data81 (w64 (j82 - (1 : Int)))) s
 refine lN (ow (kT33).share 33 (.slice (ad g96 o97) data1.length D2) (data81.set j82.toNat (ix data81 (w64 (j82 - (1 : Int))))) :: _ :: _ :: _ :: _ :: V) ?_
 refine l_nil (q_draw (sL [4, 3, 2, 1, 0]) (dR 16 R (vIa sl24 sz33 R R hg95) (hS := (sL [4, 3, 2, 1, 0])) (d1 17 R (lM (ow _ _ _ _ :: rds _ _ _ :: rds _ _ _ :: rds _ _ _ :: rds _ _ _ :: rds _ _ _ :: rds _ _ _ :: V) (fun w s => (((s.d 1 R).d 3 R).e 7 [2, 1, 0, 3, 4, 5, 6])) ?_))))
 refine l_stx (K := (kT33).share) (x' := (ix data81 j82)) 2 (w64 (j82 - (1 : Int))) R R sz33 R R hg95.1 hg95.2 ?_ ?_
 exact fun I h s => (mS33).put I h ((sc A101 ((ix data81 j82).Key) D101), (sc A102 ((ix data81 j82).Weights) D102)) (ix data81 j82) s
 refine lN (ow (kT33).share 33 (.slice (ad g96 o97) data1.length D2) ((data81.set j82.toNat (ix data81 (w64 (j82 - (1 : Int))))).set (w64 (j82 - (1 : Int))).toNat (ix data81 j82)) :: _ :: _ :: _ :: _ :: V) ?_
 refine l_nil (q_draw (sL [4, 3, 2, 1, 0]) (dD ?_))
 exact qJ (fun w s => (s.e 5 [0]))
 refine l_ldo (K := (kT33).share) 0 j82 R R ag33 sz33 dT33.own R R hg100.1 hg100.2 ?_
 rintro ⟨⟨A101, D101⟩, ⟨A102, D102⟩⟩
 refine lN (_ :: _ :: ow (kT33).share 33 (.slice (ad g96 o97) data1.length D2) data81 :: V) ?_
 refine l_nil (q_draw (sL [2, 1, 0]) (d1 9 R (l_ldo (K := (kT33).share) 2 (w64 (j82 - (1 : Int))) R R ag33 sz33 dT33.own R R hg95.1 hg95.2 ?_)))
 rintro ⟨⟨A98, D98⟩, ⟨A99, D99⟩⟩
 refine lN (RR kT3 A98 D98 ((ix data81 (w64 (j82 - (1 : Int)))).Key) :: RR kT3 A99 D99 ((ix data81 (w64 (j82 - (1 : Int)))).Weights) :: _ :: _ :: _ :: V) ?_
 refine l_nil (q_draw (sL [4, 3, 2, 1, 0]) (dR 14 R (vIa sl24 sz33 R R hg100) (hS := (sL [4, 3, 2, 1, 0])) (d1 15 R (lM (ow _ _ _ _ :: rds _ _ _ :: rds _ _ _ :: rds _ _ _ :: rds _ _ _ :: rds _ _ _ :: rds _ _ _ :: V) (fun w s => (((s.d 0 R).d 2 R).e 7 [6, 1, 0, 2, 3, 4, 5])) ?_))))
 refine l_stx (K := (kT33).share) (x' := (ix data81 (w64 (j82 - (1 : Int))))) 2 j82 R R sz33 R R hg100.1 hg100.2 ?_ ?_
 exact fun I h s => (mS33).put I h ((sc A98 ((ix data81 (w64 (j82 - (1 : Int)))).Key) D98), (sc A99 ((ix data81 (w64 (j82 - (1 : Int)))).Weights) D99)) (ix data81 (w64 (j82 - (1 : Int)))) s
 refine lN (ow (kT33).share 33 (.slice (ad g96 o97) data1.length D2) (data81.set j82.toNat (ix data81 (w64 (j82 - (1 : Int))))) :: _ :: _ :: _ :: _ :: V) ?_
 refine l_nil (q_draw (sL [4, 3, 2, 1, 0]) (dR 16 R (vIa sl24 sz33 R R hg95) (hS := (sL [4, 3, 2, 1, 0])) (d1 17 R (lM (ow _ _ _ _ :: rds _ _ _ :: rds _ _ _ :: rds _ _ _ :: rds _ _ _ :: rds _ _ _ :: rds _ _ _ :: V) (fun w s => (((s.d 3 R).d 5 R).e 7 [2, 1, 0, 3, 4, 5, 6])) ?_))))
 refine l_stx (K := (kT33).share) (x' := (ix data81 j82)) 2 (w64 (j82 - (1 : Int))) R R sz33 R R hg95.1 hg95.2 ?_ ?_
 exact fun I h s => (mS33).put I h ((sc A101 ((ix data81 j82).Key) D101), (sc A102 ((ix data81 j82).Weights) D102)) (ix data81 j82) s
 refine lN (ow (kT33).share 33 (.slice (ad g96 o97) data1.length D2) ((data81.set j82.toNat (ix data81 (w64 (j82 - (1 : Int))))).set (w64 (j82 - (1 : Int))).toNat (ix data81 j82)) :: _ :: _ :: _ :: _ :: V) ?_
 refine l_nil (q_draw (sL [4, 3, 2, 1, 0]) (dD ?_))
 exact qJ (fun w s => (s.e 5 [0]))
 rintro σ1
 obtain ⟨l103, hl104, hr⟩ := bd hr
 replace hl104 := Option.some.inj hl104
 refine qM (ow (kT33).share 33 (.slice A2 data1.length D2) l103 :: V) (fun w s => by rw [← hl104]; exact s) ?_
 refine q_blockn (q_next (c_region (lI R (lO (vSb R R) (lI R (l_nil ?_))))))
 obtain rfl := so hr
 exact qA () (fun w s => s)
 refine c_false R hb94 (c_exit (q_exit ?_))
 obtain rfl := so hr
 obtain rfl := he2 _ R
 have hr := hk2
 refine q_exit (q_block (q_blockn ?_))
 exact qI (data81, ()) hr (fun w s => s)
 rintro ⟨data107, _⟩ σ1 hr
 replace hr : Zf_J2 i57 data107 = some out1 := hr
 unfold Zf_J2 at hr
 refine c_region (lI R (lO (vAd R R) (lI R (l_nil ?_))))
 obtain rfl := so hr
 exact qA () (fun w s => s)
 refine c_false R hb58 (c_exit (q_exit ?_))
 obtain rfl := so hr
 obtain rfl := he1 _ R
 have hr := hk1
 refine q_exit (q_block ?_)
 obtain rfl := so hr
 exact q_fin (vs := []) (.inr R) () R trivial R (fun w s => s)
theorem Zh_ok  {data1 : (List Row)} {lo3 : Int} {hi4 : Int} {first5 : Int} {r : (List Row)} (hr : Zh data1 lo3 hi4 first5 = some r) :
 FnOk Try.prog 102 [(.slice A2 N2 D2), (iv lo3), (iv hi4), (iv first5), (.func (.func 73) [].toArray [].toArray)] [ow (kT33).share 33 (.slice A2 N2 D2) data1] (fun (h : Unit) => ((.tuple [].toArray), [ow (kT33).share 33 (.slice A2 N2 D2) r])) := by
 unfold Zh at hr
 refine fn_ok Try.func102 R 82 R R fun C V => ?_
 refine cN (_ :: V) ?_
 refine cL 0 sees_sh ?_
 rintro rfl
 refine c_seq (c_region (lI R (lI R (l_nil (q_next (c_block ?_))))))
 obtain ⟨e1, hl1, hk1⟩ := bd hr
 refine c_loop (A := Unit) hl1 (fun s a => [(0, (sc A2 data1 D2)), (2, (iv hi4)), (3, (iv first5)), (4, (.func (.func 73) [].toArray [].toArray)), (10, (iv s.2))]) (fun s a => ow (kT33).share 33 (.slice A2 data1.length D2) s.1 :: V) () (aS R) (fun w s => s) ?_
 rintro ⟨data40, root41⟩ _ σ1 out1 hr he1
 replace hr : Zh_L1 data1 hi4 first5 data40 root41 = some out1 := hr
 unfold Zh_L1 at hr
 refine c_block (c_seq (c_region (lI R (lO (vMu R R) (lO (vAd R R) (lI R (l_nil (q_next (c_seq (c_seq (c_region (lI R (lI R (lO (vGe R R) (l_nil (q_next ?_))))))))))))))))
 rcases bif_ hr with ⟨hb42, hr⟩ | ⟨hb42, hr⟩
 refine c_true R hb42 (c_exit (q_exit (q_pass R ?_)))
 obtain rfl := so hr
 obtain rfl := he1 _ R
 have hr := hk1
 refine q_exit (q_block ?_)
 obtain rfl := so hr
 exact q_fin (vs := []) (.inr R) () R trivial R (fun w s => s)
 refine c_false R hb42 (c_skip (q_next (c_seq (c_cut (A := (Int) × (Unit)) (fun a => Zh_J3 data1 first5 data40 root41 a.1 = some out1) (fun a => [(0, (sc A2 data1 D2)), (2, (iv hi4)), (3, (iv first5)), (4, (.func (.func 73) [].toArray [].toArray)), (10, (iv root41)), (11, (iv a.1))]) (fun a => ow (kT33).share 33 (.slice A2 data1.length D2) data40 :: V) ?_ ?_))))
 refine c_seq ?_
 obtain ⟨hg43, hr⟩ := gd hr
 obtain ⟨hg48, hr⟩ := gd hr
 obtain ⟨r51, hx52, hr⟩ := bd hr
 refine cQ [(0, (sc A2 data1 D2)), (2, (iv hi4)), (3, (iv first5)), (4, (.func (.func 73) [].toArray [].toArray)), (10, (iv root41)), (11, (iv (w64 ((w64 ((2 : Int) * root41)) + (1 : Int))))), (40, (.bool ((decide ((w64 ((w64 ((w64 ((2 : Int) * root41)) + (1 : Int))) + (1 : Int))) < hi4)) && (decide (r51 < (0 : Int))))))] (ow (kT33).share 33 (.slice A2 data1.length D2) data40 :: V) ?_ ?_
 rcases bo (decide ((w64 ((w64 ((w64 ((2 : Int) * root41)) + (1 : Int))) + (1 : Int))) < hi4)) with hc53 | hc53
 refine c_some 0 sees_sh (show 0 < data1.length by have := (hg43 hc53); omega) (fun g44 o45 ha => ?_)
 subst ha
 refine cdr 22 [] mixo (fun ht hn => (dR 0 R (vI R) (dR 1 R (vAd R R) (dR 2 R (vI R) (dR 3 R (vLt R R) (dR 4 R (vB R) (dW 5 R (wnT hc53) (vp (.func (.func 73) [].toArray [].toArray) R) (dW 6 R (wnT hc53) (vS R) (dW 7 R (wnT hc53) (vI R) (dW 8 R (wnT hc53) (vI R) (dW 9 R (wnT hc53) (vAd R R) (dW 10 R (wnT hc53) (vIa sl24 sz33 R R (hg43 hc53)) (dW 12 R (wnT hc53) (vS R) (dW 13 R (wnT hc53) (vI R) (dW 14 R (wnT hc53) (vI R) (dW 15 R (wnT hc53) (vAd R R) (dW 16 R (wnT hc53) (vAd R R) (dW 17 R (wnT hc53) (vIa sl24 sz33 R R (hg48 hc53)) (d_all [11, 18] (by kernel_rfl) R ⟨?_, ?_, trivial⟩)))))))))))))))))))
 refine l_ldo (K := (kT33).share) 0 (w64 (first5 + (w64 ((w64 ((2 : Int) * root41)) + (1 : Int))))) R (wnT hc53) ag33 sz33 dT33.own R R (hg43 hc53).1 (hg43 hc53).2 ?_
 rintro ⟨⟨A46, D46⟩, ⟨A47, D47⟩⟩
 refine lN (RR kT3 A46 D46 ((ix data40 (w64 (first5 + (w64 ((w64 ((2 : Int) * root41)) + (1 : Int)))))).Key) :: RR kT3 A47 D47 ((ix data40 (w64 (first5 + (w64 ((w64 ((2 : Int) * root41)) + (1 : Int)))))).Weights) :: ow (kT33).share 33 (.slice (ad g44 o45) data1.length D2) data40 :: V) ?_
 refine l_nil (q_draw (sL [1, 0]) (d1 18 R (l_ldo (K := (kT33).share) 2 (w64 ((w64 (first5 + (w64 ((w64 ((2 : Int) * root41)) + (1 : Int))))) + (1 : Int))) R (wnT hc53) ag33 sz33 dT33.own R R (hg48 hc53).1 (hg48 hc53).2 ?_)))
 rintro ⟨⟨A49, D49⟩, ⟨A50, D50⟩⟩
 refine lN (RR kT3 A49 D49 ((ix data40 (w64 ((w64 (first5 + (w64 ((w64 ((2 : Int) * root41)) + (1 : Int))))) + (1 : Int)))).Key) :: RR kT3 A50 D50 ((ix data40 (w64 ((w64 (first5 + (w64 ((w64 ((2 : Int) * root41)) + (1 : Int))))) + (1 : Int)))).Weights) :: _ :: _ :: _ :: V) ?_
 refine l_nil (q_draw (sL [3, 2, 1, 0]) (d1 19 R (lM (rds _ _ _ :: rds _ _ _ :: rds _ _ _ :: rds _ _ _ :: rds _ _ _ :: rds _ _ _ :: rds _ _ _ :: rds _ _ _ :: ow _ _ _ _ :: V) (fun w s => (((((s.d 2 R).d 4 R).d 2 R).d 4 R).e 9 [3, 2, 1, 0, 4, 5, 6, 7, 8])) ?_)))
 refine l_callvn (fs := []) (cs := []) 4 R (wnT hc53) cb73 R R (Z8_ok (gcall_t hx52 hc53)) R ?_
 rintro _
 refine lN (_ :: _ :: _ :: _ :: _ :: V) ?_
 refine l_nil (q_draw (sL [3, 2, 1, 0]) (dW 20 R (wnT hc53) (vLt R R) (hS := (sL [3, 2, 1, 0])) (dR 21 R (pAT R hc53 R) (hS := (sL [3, 2, 1, 0])) (dD ?_))))
 exact qJ (fun w s => (s.e 5 [4]))
 refine l_ldo (K := (kT33).share) 0 (w64 ((w64 (first5 + (w64 ((w64 ((2 : Int) * root41)) + (1 : Int))))) + (1 : Int))) R (wnT hc53) ag33 sz33 dT33.own R R (hg48 hc53).1 (hg48 hc53).2 ?_
 rintro ⟨⟨A49, D49⟩, ⟨A50, D50⟩⟩
 refine lN (_ :: _ :: _ :: V) ?_
 refine l_nil (q_draw (sL [1, 0]) (d1 11 R (l_ldo (K := (kT33).share) 2 (w64 (first5 + (w64 ((w64 ((2 : Int) * root41)) + (1 : Int))))) R (wnT hc53) ag33 sz33 dT33.own R R (hg43 hc53).1 (hg43 hc53).2 ?_)))
 rintro ⟨⟨A46, D46⟩, ⟨A47, D47⟩⟩
 refine lN (RR kT3 A46 D46 ((ix data40 (w64 (first5 + (w64 ((w64 ((2 : Int) * root41)) + (1 : Int)))))).Key) :: RR kT3 A47 D47 ((ix data40 (w64 (first5 + (w64 ((w64 ((2 : Int) * root41)) + (1 : Int)))))).Weights) :: _ :: _ :: _ :: V) ?_
 refine l_nil (q_draw (sL [3, 2, 1, 0]) (d1 19 R (lM (rds _ _ _ :: rds _ _ _ :: rds _ _ _ :: rds _ _ _ :: rds _ _ _ :: rds _ _ _ :: rds _ _ _ :: rds _ _ _ :: ow _ _ _ _ :: V) (fun w s => (((((s.d 0 R).d 2 R).d 4 R).d 6 R).e 9 [3, 2, 1, 0, 4, 5, 6, 7, 8])) ?_)))
 refine l_callvn (fs := []) (cs := []) 4 R (wnT hc53) cb73 R R (Z8_ok (gcall_t hx52 hc53)) R ?_
 rintro _
 refine lN (_ :: _ :: _ :: _ :: _ :: V) ?_
 refine l_nil (q_draw (sL [3, 2, 1, 0]) (dW 20 R (wnT hc53) (vLt R R) (hS := (sL [3, 2, 1, 0])) (dR 21 R (pAT R hc53 R) (hS := (sL [3, 2, 1, 0])) (dD ?_))))
 exact qJ (fun w s => (s.e 5 [4]))
 refine cdr 22 [] mixo (fun ht hn => (dR 0 R (vI R) (dR 1 R (vAd R R) (dR 2 R (vI R) (dR 3 R (vLt R R) (dR 4 R (vB R) (dF 5 R (wfF hc53) (dF 6 R (wfF hc53) (dF 7 R (wfF hc53) (dF 8 R (wfF hc53) (dF 9 R (wfF hc53) (dF 10 R (wfF hc53) (dF 11 R (wfF hc53) (dF 12 R (wfF hc53) (dF 13 R (wfF hc53) (dF 14 R (wfF hc53) (dF 15 R (wfF hc53) (dF 16 R (wfF hc53) (dF 17 R (wfF hc53) (dF 18 R (wfF hc53) (dF 19 R (wfF hc53) (dF 20 R (wfF hc53) (dR 21 R (pAF (decide (r51 < (0 : Int))) R hc53) (dD ?_))))))))))))))))))))))))
 exact qJ (fun w s => s)
 rintro σ1
 refine q_next ?_
 rcases bif_ hr with ⟨hb54, hr⟩ | ⟨hb54, hr⟩
 refine c_true R hb54 (c_region (lI R (lO (vAd R R) (lI R (l_nil ?_)))))
 exact qI ((w64 ((w64 ((w64 ((2 : Int) * root41)) + (1 : Int))) + (1 : Int))), ()) hr (fun w s => s)
 refine c_false R hb54 (c_skip ?_)
 exact qI ((w64 ((w64 ((2 : Int) * root41)) + (1 : Int))), ()) hr (fun w s => s)
 rintro ⟨child55, _⟩ σ1 hr
 replace hr : Zh_J3 data1 first5 data40 root41 child55 = some out1 := hr
 unfold Zh_J3 at hr
 refine c_seq (c_seq ?_)
 obtain ⟨hg56, hr⟩ := gd hr
 obtain ⟨hg61, hr⟩ := gd hr
 obtain ⟨r64, hx65, hr⟩ := bd hr
 refine cQ [(0, (sc A2 data1 D2)), (2, (iv hi4)), (3, (iv first5)), (4, (.func (.func 73) [].toArray [].toArray)), (10, (iv root41)), (11, (iv child55)), (58, (.bool (!(decide (r64 < (0 : Int))))))] (ow (kT33).share 33 (.slice A2 data1.length D2) data40 :: V) ?_ ?_
 refine c_some 0 sees_sh (show 0 < data1.length by have := hg56; omega) (fun g57 o58 ha => ?_)
 subst ha
 refine cdr 16 [] mixo (fun ht hn => (dR 0 R (vp (.func (.func 73) [].toArray [].toArray) R) (dR 1 R (vS R) (dR 2 R (vI R) (dR 3 R (vI R) (dR 4 R (vAd R R) (dR 5 R (vIa sl24 sz33 R R hg56) (dR 7 R (vS R) (dR 8 R (vI R) (dR 9 R (vI R) (dR 10 R (vAd R R) (dR 11 R (vIa sl24 sz33 R R hg61) (d_all [6, 12] (by kernel_rfl) R ⟨?_, ?_, trivial⟩)))))))))))))
 refine l_ldo (K := (kT33).share) 0 (w64 (first5 + root41)) R R ag33 sz33 dT33.own R R hg56.1 hg56.2 ?_
 rintro ⟨⟨A59, D59⟩, ⟨A60, D60⟩⟩
 refine lN (RR kT3 A59 D59 ((ix data40 (w64 (first5 + root41))).Key) :: RR kT3 A60 D60 ((ix data40 (w64 (first5 + root41))).Weights) :: ow (kT33).share 33 (.slice (ad g57 o58) data1.length D2) data40 :: V) ?_
 refine l_nil (q_draw (sL [1, 0]) (d1 12 R (l_ldo (K := (kT33).share) 2 (w64 (first5 + child55)) R R ag33 sz33 dT33.own R R hg61.1 hg61.2 ?_)))
 rintro ⟨⟨A62, D62⟩, ⟨A63, D63⟩⟩
 refine lN (RR kT3 A62 D62 ((ix data40 (w64 (first5 + child55))).Key) :: RR kT3 A63 D63 ((ix data40 (w64 (first5 + child55))).Weights) :: _ :: _ :: _ :: V) ?_
 refine l_nil (q_draw (sL [3, 2, 1, 0]) (d1 13 R (lM (rds _ _ _ :: rds _ _ _ :: rds _ _ _ :: rds _ _ _ :: rds _ _ _ :: rds _ _ _ :: rds _ _ _ :: rds _ _ _ :: ow _ _ _ _ :: V) (fun w s => (((((s.d 2 R).d 4 R).d 2 R).d 4 R).e 9 [3, 2, 1, 0, 4, 5, 6, 7, 8])) ?_)))
 refine l_callvn (fs := []) (cs := []) 4 R R cb73 R R (Z8_ok hx65) R ?_
 rintro _
 refine lN (_ :: _ :: _ :: _ :: _ :: V) ?_
 refine l_nil (q_draw (sL [3, 2, 1, 0]) (dR 14 R (vLt R R) (hS := (sL [3, 2, 1, 0])) (dR 15 R (vNo R) (hS := (sL [3, 2, 1, 0])) (dD ?_))))
 exact qJ (fun w s => (s.e 5 [4]))
 refine l_ldo (K := (kT33).share) 0 (w64 (first5 + child55)) R R ag33 sz33 dT33.own R R hg61.1 hg61.2 ?_
 rintro ⟨⟨A62, D62⟩, ⟨A63, D63⟩⟩
 refine lN (_ :: _ :: _ :: V) ?_
 refine l_nil (q_draw (sL [1, 0]) (d1 6 R (l_ldo (K := (kT33).share) 2 (w64 (first5 + root41)) R R ag33 sz33 dT33.own R R hg56.1 hg56.2 ?_)))
 rintro ⟨⟨A59, D59⟩, ⟨A60, D60⟩⟩
 refine lN (RR kT3 A59 D59 ((ix data40 (w64 (first5 + root41))).Key) :: RR kT3 A60 D60 ((ix data40 (w64 (first5 + root41))).Weights) :: _ :: _ :: _ :: V) ?_
 refine l_nil (q_draw (sL [3, 2, 1, 0]) (d1 13 R (lM (rds _ _ _ :: rds _ _ _ :: rds _ _ _ :: rds _ _ _ :: rds _ _ _ :: rds _ _ _ :: rds _ _ _ :: rds _ _ _ :: ow _ _ _ _ :: V) (fun w s => (((((s.d 0 R).d 2 R).d 4 R).d 6 R).e 9 [3, 2, 1, 0, 4, 5, 6, 7, 8])) ?_)))
 refine l_callvn (fs := []) (cs := []) 4 R R cb73 R R (Z8_ok hx65) R ?_
 rintro _
 refine lN (_ :: _ :: _ :: _ :: _ :: V) ?_
 refine l_nil (q_draw (sL [3, 2, 1, 0]) (dR 14 R (vLt R R) (hS := (sL [3, 2, 1, 0])) (dR 15 R (vNo R) (hS := (sL [3, 2, 1, 0])) (dD ?_))))
 exact qJ (fun w s => (s.e 5 [4]))
 rintro σ1
 refine q_next ?_
 rcases bif_ hr with ⟨hb66, hr⟩ | ⟨hb66, hr⟩
 refine c_true R hb66 (c_ret (q_ret (q_blockr ?_)))
 obtain rfl := so hr
 obtain rfl := he1 _ R
 have hr := hk1
 refine q_ret (q_blockr ?_)
 obtain rfl := so hr
 exact q_fin (vs := []) (.inl R) () R trivial R (fun w s => s)
 refine c_false R hb66 (c_skip (q_next (c_seq (cQ [(0, (sc A2 data1 D2)), (2, (iv hi4)), (3, (iv first5)), (4, (.func (.func 73) [].toArray [].toArray)), (11, (iv child55))] (ow (kT33).share 33 (.slice A2 data1.length D2) ((data40.set (w64 (first5 + root41)).toNat (ix data40 (w64 (first5 + child55)))).set (w64 (first5 + child55)).toNat (ix data40 (w64 (first5 + root41)))) :: V) ?_ ?_))))
 refine c_some 0 sees_sh (show 0 < data1.length by have := hg61; omega) (fun g67 o68 ha => ?_)
 subst ha
 refine cdr 24 [0] mixo (fun ht hn => (dR 0 R (vS R) (hS := (sL [0])) (dR 1 R (vI R) (hS := (sL [0])) (dR 2 R (vI R) (hS := (sL [0])) (dR 3 R (vAd R R) (hS := (sL [0])) (dR 4 R (vS R) (hS := (sL [0])) (dR 5 R (vI R) (hS := (sL [0])) (dR 6 R (vI R) (hS := (sL [0])) (dR 7 R (vAd R R) (hS := (sL [0])) (dR 8 R (vS R) (hS := (sL [0])) (dR 9 R (vI R) (hS := (sL [0])) (dR 10 R (vI R) (hS := (sL [0])) (dR 11 R (vAd R R) (hS := (sL [0])) (dR 12 R (vIa sl24 sz33 R R hg61) (hS := (sL [0])) (dR 14 R (vS R) (hS := (sL [0])) (dR 15 R (vI R) (hS := (sL [0])) (dR 16 R (vI R) (hS := (sL [0])) (dR 17 R (vAd R R) (hS := (sL [0])) (dR 18 R (vIa sl24 sz33 R R hg56) (hS := (sL [0])) (d_all [13, 19] (by kernel_rfl) R ⟨?_, ?_, trivial⟩))))))))))))))))))))
 refine l_ldo (K := (kT33).share) 0 (w64 (first5 + child55)) R R ag33 sz33 dT33.own R R hg61.1 hg61.2 ?_
 rintro ⟨⟨A69, D69⟩, ⟨A70, D70⟩⟩
 refine lN (RR kT3 A69 D69 ((ix data40 (w64 (first5 + child55))).Key) :: RR kT3 A70 D70 ((ix data40 (w64 (first5 + child55))).Weights) :: ow (kT33).share 33 (.slice (ad g67 o68) data1.length D2) data40 :: V) ?_
 refine l_nil (q_draw (sL [2, 1, 0]) (d1 19 R (l_ldo (K := (kT33).share) 2 (w64 (first5 + root41)) R R ag33 sz33 dT33.own R R hg56.1 hg56.2 ?_)))
 rintro ⟨⟨A71, D71⟩, ⟨A72, D72⟩⟩
 refine lN (RR kT3 A71 D71 ((ix data40 (w64 (first5 + root41))).Key) :: RR kT3 A72 D72 ((ix data40 (w64 (first5 + root41))).Weights) :: _ :: _ :: _ :: V) ?_
 refine l_nil (q_draw (sL [4, 3, 2, 1, 0]) (dR 20 R (vIa sl24 sz33 R R hg56) (hS := (sL [4, 3, 2, 1, 0])) (d1 21 R (lM (ow _ _ _ _ :: rds _ _ _ :: rds _ _ _ :: rds _ _ _ :: rds _ _ _ :: rds _ _ _ :: rds _ _ _ :: V) (fun w s => (((s.d 2 R).d 4 R).e 7 [6, 1, 0, 2, 3, 4, 5])) ?_))))
 refine l_stx (K := (kT33).share) (x' := (ix data40 (w64 (first5 + child55)))) 2 (w64 (first5 + root41)) R R sz33 R R hg56.1 hg56.2 ?_ ?_
 exact fun I h s => (mS33).put I h ((sc A69 ((ix data40 (w64 (first5 + child55))).Key) D69), (sc A70 ((ix data40 (w64 (first5 + child55))).Weights) D70)) (ix data40 (w64 (first5 + child55))) s
 refine lN (ow (kT33).share 33 (.slice (ad g67 o68) data1.length D2) (data40.set (w64 (first5 + root41)).toNat (ix data40 (w64 (first5 + child55)))) :: _ :: _ :: _ :: _ :: V) ?_
 refine l_nil (q_draw (sL [4, 3, 2, 1, 0]) (dR 22 R (vIa sl24 sz33 R R hg61) (hS := (sL [4, 3, 2, 1, 0])) (d1 23 R (lM (ow _ _ _ _ :: rds _ _ _ :: rds _ _ _ :: rds _ _ _ :: rds _ _ _ :: rds _ _ _ :: rds _ _ _ :: V) (fun w s => (((s.d 1 R).d 3 R).e 7 [2, 1, 0, 3, 4, 5, 6])) ?_))))
 refine l_stx (K := (kT33).share) (x' := (ix data40 (w64 (first5 + root41)))) 2 (w64 (first5 + child55)) R R sz33 R R hg61.1 hg61.2 ?_ ?_
 exact fun I h s => (mS33).put I h ((sc A71 ((ix data40 (w64 (first5 + root41))).Key) D71), (sc A72 ((ix data40 (w64 (first5 + root41))).Weights) D72)) (ix data40 (w64 (first5 + root41))) s
 refine lN (ow (kT33).share 33 (.slice (ad g67 o68) data1.length D2) ((data40.set (w64 (first5 + root41)).toNat (ix data40 (w64 (first5 + child55)))).set (w64 (first5 + child55)).toNat (ix data40 (w64 (first5 + root41)))) :: _ :: _ :: _ :: _ :: V) ?_
 refine l_nil (q_draw (sL [4, 3, 2, 1, 0]) (dD ?_))
 exact qJ (fun w s => (s.e 5 [0]))
 refine l_ldo (K := (kT33).share) 0 (w64 (first5 + root41)) R R ag33 sz33 dT33.own R R hg56.1 hg56.2 ?_
 rintro ⟨⟨A71, D71⟩, ⟨A72, D72⟩⟩
 refine lN (_ :: _ :: ow (kT33).share 33 (.slice (ad g67 o68) data1.length D2) data40 :: V) ?_
 refine l_nil (q_draw (sL [2, 1, 0]) (d1 13 R (l_ldo (K := (kT33).share) 2 (w64 (first5 + child55)) R R ag33 sz33 dT33.own R R hg61.1 hg61.2 ?_)))
 rintro ⟨⟨A69, D69⟩, ⟨A70, D70⟩⟩
 refine lN (RR kT3 A69 D69 ((ix data40 (w64 (first5 + child55))).Key) :: RR kT3 A70 D70 ((ix data40 (w64 (first5 + child55))).Weights) :: _ :: _ :: _ :: V) ?_
 refine l_nil (q_draw (sL [4, 3, 2, 1, 0]) (dR 20 R (vIa sl24 sz33 R R hg56) (hS := (sL [4, 3, 2, 1, 0])) (d1 21 R (lM (ow _ _ _ _ :: rds _ _ _ :: rds _ _ _ :: rds _ _ _ :: rds _ _ _ :: rds _ _ _ :: rds _ _ _ :: V) (fun w s => (((s.d 0 R).d 2 R).e 7 [6, 1, 0, 2, 3, 4, 5])) ?_))))
 refine l_stx (K := (kT33).share) (x' := (ix data40 (w64 (first5 + child55)))) 2 (w64 (first5 + root41)) R R sz33 R R hg56.1 hg56.2 ?_ ?_
 exact fun I h s => (mS33).put I h ((sc A69 ((ix data40 (w64 (first5 + child55))).Key) D69), (sc A70 ((ix data40 (w64 (first5 + child55))).Weights) D70)) (ix data40 (w64 (first5 + child55))) s
 refine lN (ow (kT33).share 33 (.slice (ad g67 o68) data1.length D2) (data40.set (w64 (first5 + root41)).toNat (ix data40 (w64 (first5 + child55)))) :: _ :: _ :: _ :: _ :: V) ?_
 refine l_nil (q_draw (sL [4, 3, 2, 1, 0]) (dR 22 R (vIa sl24 sz33 R R hg61) (hS := (sL [4, 3, 2, 1, 0])) (d1 23 R (lM (ow _ _ _ _ :: rds _ _ _ :: rds _ _ _ :: rds _ _ _ :: rds _ _ _ :: rds _ _ _ :: rds _ _ _ :: V) (fun w s => (((s.d 3 R).d 5 R).e 7 [2, 1, 0, 3, 4, 5, 6])) ?_))))
 refine l_stx (K := (kT33).share) (x' := (ix data40 (w64 (first5 + root41)))) 2 (w64 (first5 + child55)) R R sz33 R R hg61.1 hg61.2 ?_ ?_
 exact fun I h s => (mS33).put I h ((sc A71 ((ix data40 (w64 (first5 + root41))).Key) D71), (sc A72 ((ix data40 (w64 (first5 + root41))).Weights) D72)) (ix data40 (w64 (first5 + root41))) s
 refine lN (ow (kT33).share 33 (.slice (ad g67 o68) data1.length D2) ((data40.set (w64 (first5 + root41)).toNat (ix data40 (w64 (first5 + child55)))).set (w64 (first5 + child55)).toNat (ix data40 (w64 (first5 + root41)))) :: _ :: _ :: _ :: _ :: V) ?_
 refine l_nil (q_draw (sL [4, 3, 2, 1, 0]) (dD ?_))
 exact qJ (fun w s => (s.e 5 [0]))
 rintro σ1
 obtain ⟨l73, hl74, hr⟩ := bd hr
 replace hl74 := Option.some.inj hl74
 refine qM (ow (kT33).share 33 (.slice A2 data1.length D2) l73 :: V) (fun w s => by rw [← hl74]; exact s) ?_
 refine q_next (c_region (lI R (lI R (l_nil (q_blockn ?_)))))
 obtain rfl := so hr
 exact qA () (fun w s => s)
theorem Ze_ok  {data1 : (List Row)} {a3 : Int} {b4 : Int} {r : (List Row)} (hr : Ze data1 a3 b4 = some r) :
 FnOk Try.prog 92 [(.slice A2 N2 D2), (iv a3), (iv b4), (.func (.func 73) [].toArray [].toArray)] [ow (kT33).share 33 (.slice A2 N2 D2) data1] (fun (h : Unit) => ((.tuple [].toArray), [ow (kT33).share 33 (.slice A2 N2 D2) r])) := by
 unfold Ze at hr
 refine fn_ok Try.func92 R 60 R R fun C V => ?_
 refine cN (_ :: V) ?_
 refine cL 0 sees_sh ?_
 rintro rfl
 refine c_seq (c_region (lI R (lI R (l_nil (q_next (c_seq (c_region (lI R (l_nil (q_next (c_seq (c_region (lI R (lI R (lO (vSb R R) (lI R (l_nil (q_next (c_seq (c_cut (A := ((List Row)) × (Unit)) (fun a => Ze_J1 data1 a3 b4 a.1 = some r) (fun a => [(0, (sc A2 data1 D2)), (3, (.func (.func 73) [].toArray [].toArray)), (8, (iv a3)), (9, (iv 0)), (10, (iv (w64 (b4 - a3))))]) (fun a => ow (kT33).share 33 (.slice A2 data1.length D2) a.1 :: V) ?_ ?_))))))))))))))))))))
 refine c_seq (c_region (lI R (lO (vSb R R) (lO (vz (iv (w64 ((w64 ((w64 (b4 - a3)) - (1 : Int))).tdiv (2 : Int)))) (v_quo R R (by decide))) (lI R (l_nil (q_next (c_block ?_))))))))
 obtain ⟨e1, hl1, hk1⟩ := bd hr
 refine c_loop (A := Unit) hl1 (fun s a => [(0, (sc A2 data1 D2)), (3, (.func (.func 73) [].toArray [].toArray)), (8, (iv a3)), (9, (iv 0)), (10, (iv (w64 (b4 - a3)))), (11, (iv s.2))]) (fun s a => ow (kT33).share 33 (.slice A2 data1.length D2) s.1 :: V) () (aS R) (fun w s => s) ?_
 rintro ⟨data9, i10⟩ _ σ1 out1 hr he1
 replace hr : Ze_L1 a3 b4 data9 i10 = some out1 := hr
 unfold Ze_L1 at hr
 refine c_seq (c_seq (c_region (lI R (lO (vGe R R) (l_nil (q_next ?_))))))
 rcases bif_ hr with ⟨hb11, hr⟩ | ⟨hb11, hr⟩
 refine c_true R hb11 (c_skip (q_next (c_seq (c_block ?_))))
 obtain ⟨r12, hx13, hr⟩ := bd hr
 refine c_region (lS R (lI R (lI R (lI R (lO (vp (.func (.func 73) [].toArray [].toArray) R) (lC 1 cb102 R (Zh_ok hx13) R ?_))))))
 rintro _
 refine lN (ow (kT33).share 33 (.slice A2 data1.length D2) r12 :: V) ?_
 refine l_nil (q_blockn (q_next (c_region (lI R (lO (vSb R R) (lI R (l_nil ?_)))))))
 obtain rfl := so hr
 exact qA () (fun w s => s)
 refine c_false R hb11 (c_exit (q_exit ?_))
 obtain rfl := so hr
 obtain rfl := he1 _ R
 have hr := hk1
 refine q_exit (q_block ?_)
 exact qI (data9, ()) hr (fun w s => s)
 rintro ⟨data16, _⟩ σ1 hr
 replace hr : Ze_J1 data1 a3 b4 data16 = some r := hr
 unfold Ze_J1 at hr
 refine c_seq (c_region (lI R (lO (vSb R R) (lI R (l_nil (q_next (c_block ?_)))))))
 obtain ⟨e2, hl2, hk2⟩ := bd hr
 refine c_loop (A := Unit) hl2 (fun s a => [(0, (sc A2 data1 D2)), (3, (.func (.func 73) [].toArray [].toArray)), (8, (iv a3)), (9, (iv 0)), (12, (iv s.2))]) (fun s a => ow (kT33).share 33 (.slice A2 data1.length D2) s.1 :: V) () (aS R) (fun w s => s) ?_
 rintro ⟨data30, i31⟩ _ σ1 out2 hr he2
 replace hr : Ze_L2 data1 a3 data30 i31 = some out2 := hr
 unfold Ze_L2 at hr
 refine c_seq (c_seq (c_region (lI R (lO (vGe R R) (l_nil (q_next ?_))))))
 rcases bif_ hr with ⟨hb32, hr⟩ | ⟨hb32, hr⟩
 refine c_true R hb32 (c_skip (q_next (c_seq (c_block (c_seq ?_)))))
 obtain ⟨hg33, hr⟩ := gd hr
 obtain ⟨hg38, hr⟩ := gd hr
 refine cQ [(0, (sc A2 data1 D2)), (3, (.func (.func 73) [].toArray [].toArray)), (8, (iv a3)), (9, (iv 0)), (12, (iv i31))] (ow (kT33).share 33 (.slice A2 data1.length D2) ((data30.set a3.toNat (ix data30 (w64 (a3 + i31)))).set (w64 (a3 + i31)).toNat (ix data30 a3)) :: V) ?_ ?_
 refine c_some 0 sees_sh (show 0 < data1.length by have := hg33; omega) (fun g34 o35 ha => ?_)
 subst ha
 refine cdr 20 [0] mixo (fun ht hn => (dR 0 R (vS R) (hS := (sL [0])) (dR 1 R (vI R) (hS := (sL [0])) (dR 2 R (vS R) (hS := (sL [0])) (dR 3 R (vI R) (hS := (sL [0])) (dR 4 R (vI R) (hS := (sL [0])) (dR 5 R (vAd R R) (hS := (sL [0])) (dR 6 R (vS R) (hS := (sL [0])) (dR 7 R (vI R) (hS := (sL [0])) (dR 8 R (vI R) (hS := (sL [0])) (dR 9 R (vAd R R) (hS := (sL [0])) (dR 10 R (vIa sl24 sz33 R R hg33) (hS := (sL [0])) (dR 12 R (vS R) (hS := (sL [0])) (dR 13 R (vI R) (hS := (sL [0])) (dR 14 R (vIa sl24 sz33 R R hg38) (hS := (sL [0])) (d_all [11, 15] (by kernel_rfl) R ⟨?_, ?_, trivial⟩))))))))))))))))
 refine l_ldo (K := (kT33).share) 0 (w64 (a3 + i31)) R R ag33 sz33 dT33.own R R hg33.1 hg33.2 ?_
 rintro ⟨⟨A36, D36⟩, ⟨A37, D37⟩⟩
 refine lN (RR kT3 A36 D36 ((ix data30 (w64 (a3 + i31))).Key) :: RR kT3 A37 D37 ((ix data30 (w64 (a3 + i31))).Weights) :: ow (kT33).share 33 (.slice (ad g34 o35) data1.length D2) data30 :: V) ?_
 refine l_nil (q_draw (sL [2, 1, 0]) (d1 15 R (l_ldo (K := (kT33).share) 2 a3 R R ag33 sz33 dT33.own R R hg38.1 hg38.2 ?_)))
 rintro ⟨⟨A39, D39⟩, ⟨A40, D40⟩⟩
 refine lN (RR kT3 A39 D39 ((ix data30 a3).Key) :: RR kT3 A40 D40 ((ix data30 a3).Weights) :: _ :: _ :: _ :: V) ?_
 refine l_nil (q_draw (sL [4, 3, 2, 1, 0]) (dR 16 R (vIa sl24 sz33 R R hg38) (hS := (sL [4, 3, 2, 1, 0])) (d1 17 R (lM (ow _ _ _ _ :: rds _ _ _ :: rds _ _ _ :: rds _ _ _ :: rds _ _ _ :: rds _ _ _ :: rds _ _ _ :: V) (fun w s => (((s.d 2 R).d 4 R).e 7 [6, 1, 0, 2, 3, 4, 5])) ?_))))
 refine l_stx (K := (kT33).share) (x' := (ix data30 (w64 (a3 + i31)))) 2 a3 R R sz33 R R hg38.1 hg38.2 ?_ ?_
 exact fun I h s => (mS33).put I h ((sc A36 ((ix data30 (w64 (a3 + i31))).Key) D36), (sc A37 ((ix data30 (w64 (a3 + i31))).Weights) D37)) (ix data30 (w64 (a3 + i31))) s
 refine lN (ow (kT33).share 33 (.slice (ad g34 o35) data1.length D2) (data30.set a3.toNat (ix data30 (w64 (a3 + i31)))) :: _ :: _ :: _ :: _ :: V) ?_
 refine l_nil (q_draw (sL [4, 3, 2, 1, 0]) (dR 18 R (vIa sl24 sz33 R R hg33) (hS := (sL [4, 3, 2, 1, 0])) (d1 19 R (lM (ow _ _ _ _ :: rds _ _ _ :: rds _ _ _ :: rds _ _ _ :: rds _ _ _ :: rds _ _ _ :: rds _ _ _ :: V) (fun w s => (((s.d 1 R).d 3 R).e 7 [2, 1, 0, 3, 4, 5, 6])) ?_))))
 refine l_stx (K := (kT33).share) (x' := (ix data30 a3)) 2 (w64 (a3 + i31)) R R sz33 R R hg33.1 hg33.2 ?_ ?_
 exact fun I h s => (mS33).put I h ((sc A39 ((ix data30 a3).Key) D39), (sc A40 ((ix data30 a3).Weights) D40)) (ix data30 a3) s
 refine lN (ow (kT33).share 33 (.slice (ad g34 o35) data1.length D2) ((data30.set a3.toNat (ix data30 (w64 (a3 + i31)))).set (w64 (a3 + i31)).toNat (ix data30 a3)) :: _ :: _ :: _ :: _ :: V) ?_
 refine l_nil (q_draw (sL [4, 3, 2, 1, 0]) (dD ?_))
 exact qJ (fun w s => (s.e 5 [0]))
 refine l_ldo (K := (kT33).share) 0 a3 R R ag33 sz33 dT33.own R R hg38.1 hg38.2 ?_
 rintro ⟨⟨A39, D39⟩, ⟨A40, D40⟩⟩
 refine lN (_ :: _ :: ow (kT33).share 33 (.slice (ad g34 o35) data1.length D2) data30 :: V) ?_
 refine l_nil (q_draw (sL [2, 1, 0]) (d1 11 R (l_ldo (K := (kT33).share) 2 (w64 (a3 + i31)) R R ag33 sz33 dT33.own R R hg33.1 hg33.2 ?_)))
 rintro ⟨⟨A36, D36⟩, ⟨A37, D37⟩⟩
 refine lN (RR kT3 A36 D36 ((ix data30 (w64 (a3 + i31))).Key) :: RR kT3 A37 D37 ((ix data30 (w64 (a3 + i31))).Weights) :: _ :: _ :: _ :: V) ?_
 refine l_nil (q_draw (sL [4, 3, 2, 1, 0]) (dR 16 R (vIa sl24 sz33 R R hg38) (hS := (sL [4, 3, 2, 1, 0])) (d1 17 R (lM (ow _ _ _ _ :: rds _ _ _ :: rds _ _ _ :: rds _ _ _ :: rds _ _ _ :: rds _ _ _ :: rds _ _ _ :: V) (fun w s => (((s.d 0 R).d 2 R).e 7 [6, 1, 0, 2, 3, 4, 5])) ?_))))
 refine l_stx (K := (kT33).share) (x' := (ix data30 (w64 (a3 + i31)))) 2 a3 R R sz33 R R hg38.1 hg38.2 ?_ ?_
 exact fun I h s => (mS33).put I h ((sc A36 ((ix data30 (w64 (a3 + i31))).Key) D36), (sc A37 ((ix data30 (w64 (a3 + i31))).Weights) D37)) (ix data30 (w64 (a3 + i31))) s
 refine lN (ow (kT33).share 33 (.slice (ad g34 o35) data1.length D2) (data30.set a3.toNat (ix data30 (w64 (a3 + i31)))) :: _ :: _ :: _ :: _ :: V) ?_
 refine l_nil (q_draw (sL [4, 3, 2, 1, 0]) (dR 18 R (vIa sl24 sz33 R R hg33) (hS := (sL [4, 3, 2, 1, 0])) (d1 19 R (lM (ow _ _ _ _ :: rds _ _ _ :: rds _ _ _ :: rds _ _ _ :: rds _ _ _ :: rds _ _ _ :: rds _ _ _ :: V) (fun w s => (((s.d 3 R).d 5 R).e 7 [2, 1, 0, 3, 4, 5, 6])) ?_))))
 refine l_stx (K := (kT33).share) (x' := (ix data30 a3)) 2 (w64 (a3 + i31)) R R sz33 R R hg33.1 hg33.2 ?_ ?_
 exact fun I h s => (mS33).put I h ((sc A39 ((ix data30 a3).Key) D39), (sc A40 ((ix data30 a3).Weights) D40)) (ix data30 a3) s
 refine lN (ow (kT33).share 33 (.slice (ad g34 o35) data1.length D2) ((data30.set a3.toNat (ix data30 (w64 (a3 + i31)))).set (w64 (a3 + i31)).toNat (ix data30 a3)) :: _ :: _ :: _ :: _ :: V) ?_
 refine l_nil (q_draw (sL [4, 3, 2, 1, 0]) (dD ?_))
 exact qJ (fun w s => (s.e 5 [0]))
 rintro σ1
 obtain ⟨l41, hl42, hr⟩ := bd hr
 replace hl42 := Option.some.inj hl42
 refine qM (ow (kT33).share 33 (.slice A2 data1.length D2) l41 :: V) (fun w s => by rw [← hl42]; exact s) ?_
 refine q_next ?_
 obtain ⟨r43, hx44, hr⟩ := bd hr
 refine c_region (lS R (lI R (lI R (lI R (lO (vp (.func (.func 73) [].toArray [].toArray) R) (lC 1 cb102 R (Zh_ok hx44) R ?_))))))
 rintro _
 refine lN (ow (kT33).share 33 (.slice A2 data1.length D2) r43 :: V) ?_
 refine l_nil (q_blockn (q_next (c_region (lI R (lO (vSb R R) (lI R (l_nil ?_)))))))
 obtain rfl := so hr
 exact qA () (fun w s => s)
 refine c_false R hb32 (c_exit (q_exit ?_))
 obtain rfl := so hr
 obtain rfl := he2 _ R
 have hr := hk2
 refine q_exit (q_block ?_)
 obtain rfl := so hr
 exact q_fin (vs := []) (.inr R) () R trivial R (fun w s => s)
theorem Z0r_ok  {data1 : (List Row)} {a3 : Int} {b4 : Int} {swaps5 : Int} {b6 : Nat} {r : Int × Int × Int} (hr : Z0r data1 a3 b4 swaps5 = some r) :
 FnOk Try.prog 109 [(.slice A2 N2 D2), (iv a3), (iv b4), (pt b6 0), (.func (.func 73) [].toArray [].toArray)] [rds kT33 (.slice A2 N2 D2) data1, bxl b6 [(iv swaps5)] 3] (fun (h : Unit) => ((.tuple [(iv r.1), (iv r.2.1)].toArray), [bxl b6 [(iv r.2.2)] 3])) := by
 unfold Z0r at hr
 refine fn_ok Try.func109 R 32 R R fun C V => ?_
 refine cM (bxl _ _ _ :: rds _ _ _ :: V) (fun w s => (s.e 2 [1, 0])) ?_
 refine cL 1 sees_rd ?_
 rintro rfl
 let W0 : List HP := RR kT33 A2 D2 data1 :: V
 refine cN (_ :: W0) ?_
 refine c_seq (c_region (lI R (lI R (l_nil (q_next (c_seq (c_seq ?_)))))))
 obtain ⟨hg8, hr⟩ := gd hr
 obtain ⟨hg13, hr⟩ := gd hr
 obtain ⟨r16, hx17, hr⟩ := bd hr
 refine c_some 1 sees_rd (show 0 < data1.length by have := hg8; omega) (fun g9 o10 ha => ?_)
 subst ha
 refine c_elem (K := kT33) 1 b4 dT33.dec R hg8.1 hg8.2 ?_
 rintro ⟨⟨A11, D11⟩, ⟨A12, D12⟩⟩
 refine cN (cl g9 (o10 + b4.toNat * 2) [(sc A11 ((ix data1 b4).Key) D11), (sc A12 ((ix data1 b4).Weights) D12)] :: RR kT3 A11 D11 ((ix data1 b4).Key) :: RR kT3 A12 D12 ((ix data1 b4).Weights) :: _ :: W0) ?_
 refine c_elem (K := kT33) 4 a3 dT33.dec R hg13.1 hg13.2 ?_
 rintro ⟨⟨A14, D14⟩, ⟨A15, D15⟩⟩
 refine cN (cl g9 (o10 + a3.toNat * 2) [(sc A14 ((ix data1 a3).Key) D14), (sc A15 ((ix data1 a3).Weights) D15)] :: RR kT3 A14 D14 ((ix data1 a3).Key) :: RR kT3 A15 D15 ((ix data1 a3).Weights) :: _ :: _ :: _ :: _ :: W0) ?_
 refine cdr 11 [] mixo (fun ht hn => (dR 0 R (vp (.func (.func 73) [].toArray [].toArray) R) (dR 1 R (vS R) (dR 2 R (vI R) (dR 3 R (vIa sl24 sz33 R R hg8) (dR 4 R (vz (.agg [(sc A11 ((ix data1 b4).Key) D11), (sc A12 ((ix data1 b4).Weights) D12)].toArray) (v_clfs (fo := 0) 3 ag33 sz33 R R R R)) (dR 5 R (vS R) (dR 6 R (vI R) (dR 7 R (vIa sl24 sz33 R R hg13) (dR 8 R (vz (.agg [(sc A14 ((ix data1 a3).Key) D14), (sc A15 ((ix data1 a3).Weights) D15)].toArray) (v_clfs (fo := 0) 0 ag33 sz33 R R R R)) (d1 9 R (lM (rds _ _ _ :: rds _ _ _ :: rds _ _ _ :: rds _ _ _ :: cl _ _ _ :: rds _ _ _ :: rds _ _ _ :: cl _ _ _ :: rds _ _ _ :: rds _ _ _ :: bxl _ _ _ :: W0) (fun w s => (((((s.d 4 R).d 6 R).d 3 R).d 5 R).f 11 [3, 1, 2, 1, 1, 1, 0, 1, 4, 7])) ?_))))))))))))
 refine l_callvn (fs := []) (cs := []) 4 R R cb73 R R (Z8_ok hx17) R ?_
 rintro _
 refine lN (_ :: _ :: _ :: _ :: _ :: _ :: _ :: W0) ?_
 refine l_nil (q_draw (sL []) (dR 10 R (vLt R R) (dD (q_next ?_))))
 rcases bif_ hr with ⟨hb18, hr⟩ | ⟨hb18, hr⟩
 refine c_true R hb18 (c_seq (c_region (lP R (lP R (lO (vLd 6 ag3 R R R) (lO (vAd R R) (lP R (l_store 6 R R sz3 R R R R R (lN (_ :: _ :: _ :: _ :: _ :: _ :: bxl b6 [(iv (w64 (swaps5 + (1 : Int))))] 3 :: W0) ?_)))))))))
 refine l_nil (q_next (c_seq (c_region (lI R (lI R (lI R (lI R (l_nil (q_next (c_ret (q_ret ?_)))))))))))
 obtain rfl := so hr
 exact q_fin (vs := [(iv b4), (iv a3)]) (.inl R) () R ⟨R, R, trivial⟩ R (fun w s => (s.e 8 [6]))
 refine c_false R hb18 (c_skip (q_next (c_seq (c_region (lI R (lI R (lI R (lI R (l_nil (q_next (c_ret ?_)))))))))))
 obtain rfl := so hr
 exact q_fin (vs := [(iv a3), (iv b4)]) (.inl R) () R ⟨R, R, trivial⟩ R (fun w s => (s.e 8 [6]))
theorem Z0y_ok  {data1 : (List Row)} {a3 : Int} {b4 : Int} {c5 : Int} {swaps6 : Int} {b7 : Nat} {r : Int × Int} (hr : Z0y data1 a3 b4 c5 swaps6 = some r) :
 FnOk Try.prog 106 [(.slice A2 N2 D2), (iv a3), (iv b4), (iv c5), (pt b7 0), (.func (.func 73) [].toArray [].toArray)] [rds kT33 (.slice A2 N2 D2) data1, bxl b7 [(iv swaps6)] 3] (fun (h : Unit) => ((iv r.1), [bxl b7 [(iv r.2)] 3])) := by
 unfold Z0y at hr
 refine fn_ok Try.func106 R 41 R R fun C V => ?_
 refine cM (bxl _ _ _ :: rds _ _ _ :: V) (fun w s => (s.e 2 [1, 0])) ?_
 refine cL 1 sees_rd ?_
 rintro rfl
 let W0 : List HP := RR kT33 A2 D2 data1 :: V
 refine cN (_ :: W0) ?_
 refine c_seq (c_region (lI R (l_nil (q_next (c_seq ?_)))))
 obtain ⟨r9, hx10, hr⟩ := bd hr
 refine c_region (lS R (lI R (lI R (lP R (lO (vp (.func (.func 73) [].toArray [].toArray) R) (lM (RR kT33 A2 D2 data1 :: _ :: W0) (fun w s => (s.d 1 R)) ?_))))))
 refine lC 2 cb109 R (Z0r_ok hx10) R ?_
 rintro _
 refine lN (bxl b7 [(iv r9.2.2)] 3 :: W0) ?_
 refine lO (vT R) (lI R (lI R (lI R (lI R (l_nil (q_next (c_seq ?_)))))))
 obtain ⟨r11, hx12, hr⟩ := bd hr
 refine c_region (lS R (lI R (lI R (lP R (lO (vp (.func (.func 73) [].toArray [].toArray) R) (lM (RR kT33 A2 D2 data1 :: _ :: W0) (fun w s => (s.d 1 R)) ?_))))))
 refine lC 2 cb109 R (Z0r_ok hx12) R ?_
 rintro _
 refine lN (bxl b7 [(iv r11.2.2)] 3 :: W0) ?_
 refine lO (vT R) (lI R (lI R (lI R (lI R (l_nil (q_next (c_seq ?_)))))))
 obtain ⟨r13, hx14, hr⟩ := bd hr
 refine c_region (lS R (lI R (lI R (lP R (lO (vp (.func (.func 73) [].toArray [].toArray) R) (lM (RR kT33 A2 D2 data1 :: _ :: W0) (fun w s => (s.d 1 R)) ?_))))))
 refine lC 2 cb109 R (Z0r_ok hx14) R ?_
 rintro _
 refine lN (bxl b7 [(iv r13.2.2)] 3 :: W0) ?_
 refine lO (vT R) (lI R (lI R (lI R (lI R (l_nil (q_next (c_seq (c_region (lI R (lI R (l_nil (q_next (c_ret ?_)))))))))))))
 obtain rfl := so hr
 exact qF () (fun w s => (s.e 2 [0]))
theorem Z0s_ok  {data1 : (List Row)} {a3 : Int} {swaps4 : Int} {b5 : Nat} {r : Int × Int} (hr : Z0s data1 a3 swaps4 = some r) :
 FnOk Try.prog 105 [(.slice A2 N2 D2), (iv a3), (pt b5 0), (.func (.func 73) [].toArray [].toArray)] [rds kT33 (.slice A2 N2 D2) data1, bxl b5 [(iv swaps4)] 3] (fun (h : Unit) => ((iv r.1), [bxl b5 [(iv r.2)] 3])) := by
 unfold Z0s at hr
 refine fn_ok Try.func105 R 18 R R fun C V => ?_
 refine cM (bxl _ _ _ :: rds _ _ _ :: V) (fun w s => (s.e 2 [1, 0])) ?_
 refine cL 1 sees_rd ?_
 rintro rfl
 let W0 : List HP := RR kT33 A2 D2 data1 :: V
 refine cN (_ :: W0) ?_
 refine c_seq (c_region (lI R (l_nil (q_next (c_seq ?_)))))
 obtain ⟨r7, hx8, hr⟩ := bd hr
 refine c_region (lS R (lI R (lO (vSb R R) (lI R (lI R (lO (vAd R R) (lP R (lO (vp (.func (.func 73) [].toArray [].toArray) R) (lM (RR kT33 A2 D2 data1 :: _ :: W0) (fun w s => (s.d 1 R)) ?_)))))))))
 refine lC 2 cb106 R (Z0y_ok hx8) R ?_
 rintro _
 refine lN (bxl b5 [(iv r7.2)] 3 :: W0) ?_
 refine lI R (l_nil (q_next (c_ret ?_)))
 obtain rfl := so hr
 exact qF () (fun w s => (s.e 2 [0]))
theorem Z04_ok  {data1 : (List Row)} {a3 : Int} {b4 : Int} {r : Int × Int} (hr : Z04 data1 a3 b4 = some r) :
 FnOk Try.prog 94 [(.slice A2 N2 D2), (iv a3), (iv b4), (.func (.func 73) [].toArray [].toArray)] [rds kT33 (.slice A2 N2 D2) data1] (fun (h : Unit) => ((.tuple [(iv r.1), (iv r.2)].toArray), [])) := by
 unfold Z04 at hr
 refine fn_ok Try.func94 R 63 R R fun C V => ?_
 refine cN (_ :: V) ?_
 refine cL 0 sees_rd ?_
 rintro rfl
 let W0 : List HP := RR kT33 A2 D2 data1 :: V
 refine cN W0 ?_
 refine c_seq (c_region (lI R (lI R (l_nil (q_next (c_seq (c_region (lI R (lI R (lO (vSb R R) (lI R (l_nil (q_next (c_seq (c_region (l_alloc R R zc3 (fun b6 => (l_nil (q_next (c_seq (c_region (lI R (lI R (lO (vz (iv (w64 ((w64 (b4 - a3)).tdiv (4 : Int)))) (v_quo R R (by decide))) (lO (vMu R R) (lO (vAd R R) (lI R (l_nil (q_next (c_seq (c_region (lI R (lI R (lO (vz (iv (w64 ((w64 (b4 - a3)).tdiv (4 : Int)))) (v_quo R R (by decide))) (lO (vMu R R) (lO (vAd R R) (lI R (l_nil (q_next (c_seq (c_region (lI R (lI R (lO (vz (iv (w64 ((w64 (b4 - a3)).tdiv (4 : Int)))) (v_quo R R (by decide))) (lO (vMu R R) (lO (vAd R R) (lI R (l_nil (q_next (c_seq (c_cut (A := (Int × Int) × (Unit)) (fun a => Z04_J2 a.1.1 a.1.2 = some r) (fun a => [(11, (pt b6 0)), (13, (iv a.1.2))]) (fun a => bxl b6 [(iv a.1.1)] 3 :: W0) ?_ ?_)))))))))))))))))))))))))))))))))))))))))))))))))))
 refine c_seq (c_region (lI R (lO (vGe R R) (l_nil (q_next ?_)))))
 rcases bif_ hr with ⟨hb7, hr⟩ | ⟨hb7, hr⟩
 refine c_true R hb7 (c_seq (c_cut (A := (Int × Int × Int × Int) × (Unit)) (fun a => Z04_J1 data1 a.1.1 a.1.2.1 a.1.2.2.1 a.1.2.2.2 = some r) (fun a => [(0, (sc A2 data1 D2)), (3, (.func (.func 73) [].toArray [].toArray)), (11, (pt b6 0)), (12, (iv a.1.2.1)), (13, (iv a.1.2.2.1)), (14, (iv a.1.2.2.2))]) (fun a => bxl b6 [(iv a.1.1)] 3 :: W0) ?_ ?_))
 refine c_seq (c_region (lI R (lO (vGe R R) (l_nil (q_next ?_)))))
 rcases bif_ hr with ⟨hb8, hr⟩ | ⟨hb8, hr⟩
 refine c_true R hb8 (c_seq ?_)
 obtain ⟨r9, hx10, hr⟩ := bd hr
 refine c_region (lS R (lI R (lO (vp (.func (.func 73) [].toArray [].toArray) R) (lM (RR kT33 A2 D2 data1 :: _ :: W0) (fun w s => (s.d 1 R)) ?_))))
 refine lC 2 cb105 R (Z0s_ok hx10) R ?_
 rintro _
 refine lN (bxl b6 [(iv r9.2)] 3 :: W0) ?_
 refine lI R (l_nil (q_next (c_seq ?_)))
 obtain ⟨r11, hx12, hr⟩ := bd hr
 refine c_region (lS R (lI R (lO (vp (.func (.func 73) [].toArray [].toArray) R) (lM (RR kT33 A2 D2 data1 :: _ :: W0) (fun w s => (s.d 1 R)) ?_))))
 refine lC 2 cb105 R (Z0s_ok hx12) R ?_
 rintro _
 refine lN (bxl b6 [(iv r11.2)] 3 :: W0) ?_
 refine lI R (l_nil (q_next ?_))
 obtain ⟨r13, hx14, hr⟩ := bd hr
 refine c_region (lS R (lI R (lO (vp (.func (.func 73) [].toArray [].toArray) R) (lM (RR kT33 A2 D2 data1 :: _ :: W0) (fun w s => (s.d 1 R)) ?_))))
 refine lC 2 cb105 R (Z0s_ok hx14) R ?_
 rintro _
 refine lN (bxl b6 [(iv r13.2)] 3 :: W0) ?_
 refine lI R (l_nil ?_)
 exact qI ((r13.2, r9.1, r11.1, r13.1), ()) hr (fun w s => s)
 refine c_false R hb8 (c_skip ?_)
 exact qI (((0 : Int), (w64 (a3 + (w64 ((w64 ((w64 (b4 - a3)).tdiv (4 : Int))) * (1 : Int))))), (w64 (a3 + (w64 ((w64 ((w64 (b4 - a3)).tdiv (4 : Int))) * (2 : Int))))), (w64 (a3 + (w64 ((w64 ((w64 (b4 - a3)).tdiv (4 : Int))) * (3 : Int)))))), ()) hr (fun w s => s)
 rintro ⟨⟨swaps15, i16, j17, k18⟩, _⟩ σ1 hr
 replace hr : Z04_J1 data1 swaps15 i16 j17 k18 = some r := hr
 unfold Z04_J1 at hr
 obtain ⟨r19, hx20, hr⟩ := bd hr
 refine c_region (lS R (lI R (lI R (lI R (lO (vp (.func (.func 73) [].toArray [].toArray) R) (lM (RR kT33 A2 D2 data1 :: bxl b6 [(iv swaps15)] 3 :: W0) (fun w s => (s.d 1 R)) ?_))))))
 refine lC 2 cb106 R (Z0y_ok hx20) R ?_
 rintro _
 refine lN (bxl b6 [(iv r19.2)] 3 :: W0) ?_
 refine lI R (l_nil ?_)
 exact qI ((r19.2, r19.1), ()) hr (fun w s => s)
 refine c_false R hb7 (c_skip ?_)
 exact qI (((0 : Int), (w64 (a3 + (w64 ((w64 ((w64 (b4 - a3)).tdiv (4 : Int))) * (2 : Int)))))), ()) hr (fun w s => s)
 rintro ⟨⟨swaps21, j22⟩, _⟩ σ1 hr
 replace hr : Z04_J2 swaps21 j22 = some r := hr
 unfold Z04_J2 at hr
 refine c_seq (c_region (lO (vLd 0 ag3 R R R) (l_nil (q_next (c_block (c_seq (c_region (lO (vEq R R) (lB R (l_nil (q_next ?_)))))))))))
 rcases bif_ hr with ⟨hb23, hr⟩ | ⟨hb23, hr⟩
 refine c_true R hb23 (c_seq (c_region (lI R (lI R (lI R (l_nil (q_next (c_ret (q_blockr ?_)))))))))
 obtain rfl := so hr
 exact q_fin (vs := [(iv j22), (iv 1)]) (.inl R) () R ⟨R, R, trivial⟩ R (fun w s => (s.e 2 []))
 refine c_false R hb23 (c_seq (c_region (lO (vEq R R) (lB R (l_nil (q_next ?_))))))
 rcases bif_ hr with ⟨hb24, hr⟩ | ⟨hb24, hr⟩
 refine c_true R hb24 (c_seq (c_region (lI R (lI R (lI R (l_nil (q_next (c_ret (q_blockr ?_)))))))))
 obtain rfl := so hr
 exact q_fin (vs := [(iv j22), (iv 2)]) (.inl R) () R ⟨R, R, trivial⟩ R (fun w s => (s.e 2 []))
 refine c_false R hb24 (c_seq (c_region (lI R (lI R (lI R (l_nil (q_next (c_ret (q_blockr ?_)))))))))
 obtain rfl := so hr
 exact q_fin (vs := [(iv j22), (iv 0)]) (.inl R) () R ⟨R, R, trivial⟩ R (fun w s => (s.e 2 []))
theorem Z0e_ok  {data1 : (List Row)} {a3 : Int} {b4 : Int} {r : (List Row)} (hr : Z0e data1 a3 b4 = some r) :
 FnOk Try.prog 95 [(.slice A2 N2 D2), (iv a3), (iv b4), (.func (.func 73) [].toArray [].toArray)] [ow (kT33).share 33 (.slice A2 N2 D2) data1] (fun (h : Unit) => ((.tuple [].toArray), [ow (kT33).share 33 (.slice A2 N2 D2) r])) := by
 unfold Z0e at hr
 refine fn_ok Try.func95 R 34 R R fun C V => ?_
 refine cN (_ :: V) ?_
 refine cL 0 sees_sh ?_
 rintro rfl
 refine c_seq (c_region (lI R (lI R (l_nil (q_next (c_seq (c_region (lI R (lO (vSb R R) (lI R (l_nil (q_next (c_block ?_)))))))))))))
 obtain ⟨e1, hl1, hk1⟩ := bd hr
 refine c_loop (A := Unit) hl1 (fun s a => [(0, (sc A2 data1 D2)), (8, (iv s.2.1)), (9, (iv s.2.2))]) (fun s a => ow (kT33).share 33 (.slice A2 data1.length D2) s.1 :: V) () (aS R) (fun w s => s) ?_
 rintro ⟨data17, i18, j19⟩ _ σ1 out1 hr he1
 replace hr : Z0e_L1 data1 data17 i18 j19 = some out1 := hr
 unfold Z0e_L1 at hr
 refine c_seq (c_seq (c_region (lI R (lI R (lO (vLt R R) (l_nil (q_next ?_)))))))
 rcases bif_ hr with ⟨hb20, hr⟩ | ⟨hb20, hr⟩
 refine c_true R hb20 (c_skip (q_next (c_block (c_seq ?_))))
 obtain ⟨hg21, hr⟩ := gd hr
 obtain ⟨hg26, hr⟩ := gd hr
 refine cQ [(0, (sc A2 data1 D2)), (8, (iv i18)), (9, (iv j19))] (ow (kT33).share 33 (.slice A2 data1.length D2) ((data17.set i18.toNat (ix data17 j19)).set j19.toNat (ix data17 i18)) :: V) ?_ ?_
 refine c_some 0 sees_sh (show 0 < data1.length by have := hg21; omega) (fun g22 o23 ha => ?_)
 subst ha
 refine cdr 16 [0] mixo (fun ht hn => (dR 0 R (vS R) (hS := (sL [0])) (dR 1 R (vI R) (hS := (sL [0])) (dR 2 R (vS R) (hS := (sL [0])) (dR 3 R (vI R) (hS := (sL [0])) (dR 4 R (vS R) (hS := (sL [0])) (dR 5 R (vI R) (hS := (sL [0])) (dR 6 R (vIa sl24 sz33 R R hg21) (hS := (sL [0])) (dR 8 R (vS R) (hS := (sL [0])) (dR 9 R (vI R) (hS := (sL [0])) (dR 10 R (vIa sl24 sz33 R R hg26) (hS := (sL [0])) (d_all [7, 11] (by kernel_rfl) R ⟨?_, ?_, trivial⟩))))))))))))
 refine l_ldo (K := (kT33).share) 0 j19 R R ag33 sz33 dT33.own R R hg21.1 hg21.2 ?_
 rintro ⟨⟨A24, D24⟩, ⟨A25, D25⟩⟩
 refine lN (RR kT3 A24 D24 ((ix data17 j19).Key) :: RR kT3 A25 D25 ((ix data17 j19).Weights) :: ow (kT33).share 33 (.slice (ad g22 o23) data1.length D2) data17 :: V) ?_
 refine l_nil (q_draw (sL [2, 1, 0]) (d1 11 R (l_ldo (K := (kT33).share) 2 i18 R R ag33 sz33 dT33.own R R hg26.1 hg26.2 ?_)))
 rintro ⟨⟨A27, D27⟩, ⟨A28, D28⟩⟩
 refine lN (RR kT3 A27 D27 ((ix data17 i18).Key) :: RR kT3 A28 D28 ((ix data17 i18).Weights) :: _ :: _ :: _ :: V) ?_
 refine l_nil (q_draw (sL [4, 3, 2, 1, 0]) (dR 12 R (vIa sl24 sz33 R R hg26) (hS := (sL [4, 3, 2, 1, 0])) (d1 13 R (lM (ow _ _ _ _ :: rds _ _ _ :: rds _ _ _ :: rds _ _ _ :: rds _ _ _ :: rds _ _ _ :: rds _ _ _ :: V) (fun w s => (((s.d 2 R).d 4 R).e 7 [6, 1, 0, 2, 3, 4, 5])) ?_))))
 refine l_stx (K := (kT33).share) (x' := (ix data17 j19)) 2 i18 R R sz33 R R hg26.1 hg26.2 ?_ ?_
 exact fun I h s => (mS33).put I h ((sc A24 ((ix data17 j19).Key) D24), (sc A25 ((ix data17 j19).Weights) D25)) (ix data17 j19) s
 refine lN (ow (kT33).share 33 (.slice (ad g22 o23) data1.length D2) (data17.set i18.toNat (ix data17 j19)) :: _ :: _ :: _ :: _ :: V) ?_
 refine l_nil (q_draw (sL [4, 3, 2, 1, 0]) (dR 14 R (vIa sl24 sz33 R R hg21) (hS := (sL [4, 3, 2, 1, 0])) (d1 15 R (lM (ow _ _ _ _ :: rds _ _ _ :: rds _ _ _ :: rds _ _ _ :: rds _ _ _ :: rds _ _ _ :: rds _ _ _ :: V) (fun w s => (((s.d 1 R).d 3 R).e 7 [2, 1, 0, 3, 4, 5, 6])) ?_))))
 refine l_stx (K := (kT33).share) (x' := (ix data17 i18)) 2 j19 R R sz33 R R hg21.1 hg21.2 ?_ ?_
 exact fun I h s => (mS33).put I h ((sc A27 ((ix data17 i18).Key) D27), (sc A28 ((ix data17 i18).Weights) D28)) (ix data17 i18) s
 refine lN (ow (kT33).share 33 (.slice (ad g22 o23) data1.length D2) ((data17.set i18.toNat (ix data17 j19)).set j19.toNat (ix data17 i18)) :: _ :: _ :: _ :: _ :: V) ?_
 refine l_nil (q_draw (sL [4, 3, 2, 1, 0]) (dD ?_))
 exact qJ (fun w s => (s.e 5 [0]))
 refine l_ldo (K := (kT33).share) 0 i18 R R ag33 sz33 dT33.own R R hg26.1 hg26.2 ?_
 rintro ⟨⟨A27, D27⟩, ⟨A28, D28⟩⟩
 refine lN (_ :: _ :: ow (kT33).share 33 (.slice (ad g22 o23) data1.length D2) data17 :: V) ?_
 refine l_nil (q_draw (sL [2, 1, 0]) (d1 7 R (l_ldo (K := (kT33).share) 2 j19 R R ag33 sz33 dT33.own R R hg21.1 hg21.2 ?_)))
 rintro ⟨⟨A24, D24⟩, ⟨A25, D25⟩⟩
 refine lN (RR kT3 A24 D24 ((ix data17 j19).Key) :: RR kT3 A25 D25 ((ix data17 j19).Weights) :: _ :: _ :: _ :: V) ?_
 refine l_nil (q_draw (sL [4, 3, 2, 1, 0]) (dR 12 R (vIa sl24 sz33 R R hg26) (hS := (sL [4, 3, 2, 1, 0])) (d1 13 R (lM (ow _ _ _ _ :: rds _ _ _ :: rds _ _ _ :: rds _ _ _ :: rds _ _ _ :: rds _ _ _ :: rds _ _ _ :: V) (fun w s => (((s.d 0 R).d 2 R).e 7 [6, 1, 0, 2, 3, 4, 5])) ?_))))
 refine l_stx (K := (kT33).share) (x' := (ix data17 j19)) 2 i18 R R sz33 R R hg26.1 hg26.2 ?_ ?_
 exact fun I h s => (mS33).put I h ((sc A24 ((ix data17 j19).Key) D24), (sc A25 ((ix data17 j19).Weights) D25)) (ix data17 j19) s
 refine lN (ow (kT33).share 33 (.slice (ad g22 o23) data1.length D2) (data17.set i18.toNat (ix data17 j19)) :: _ :: _ :: _ :: _ :: V) ?_
 refine l_nil (q_draw (sL [4, 3, 2, 1, 0]) (dR 14 R (vIa sl24 sz33 R R hg21) (hS := (sL [4, 3, 2, 1, 0])) (d1 15 R (lM (ow _ _ _ _ :: rds _ _ _ :: rds _ _ _ :: rds _ _ _ :: rds _ _ _ :: rds _ _ _ :: rds _ _ _ :: V) (fun w s => (((s.d 3 R).d 5 R).e 7 [2, 1, 0, 3, 4, 5, 6])) ?_))))
 refine l_stx (K := (kT33).share) (x' := (ix data17 i18)) 2 j19 R R sz33 R R hg21.1 hg21.2 ?_ ?_
 exact fun I h s => (mS33).put I h ((sc A27 ((ix data17 i18).Key) D27), (sc A28 ((ix data17 i18).Weights) D28)) (ix data17 i18) s
 refine lN (ow (kT33).share 33 (.slice (ad g22 o23) data1.length D2) ((data17.set i18.toNat (ix data17 j19)).set j19.toNat (ix data17 i18)) :: _ :: _ :: _ :: _ :: V) ?_
 refine l_nil (q_draw (sL [4, 3, 2, 1, 0]) (dD ?_))
 exact qJ (fun w s => (s.e 5 [0]))
 rintro σ1
 obtain ⟨l29, hl30, hr⟩ := bd hr
 replace hl30 := Option.some.inj hl30
 refine qM (ow (kT33).share 33 (.slice A2 data1.length D2) l29 :: V) (fun w s => by rw [← hl30]; exact s) ?_
 refine q_next (c_seq (c_region (lI R (lO (vAd R R) (lI R (l_nil (q_next (c_region (lI R (lO (vSb R R) (lI R (l_nil (q_blockn ?_)))))))))))))
 obtain rfl := so hr
 exact qA () (fun w s => s)
 refine c_false R hb20 (c_exit (q_exit ?_))
 obtain rfl := so hr
 obtain rfl := he1 _ R
 have hr := hk1
 refine q_exit (q_block ?_)
 obtain rfl := so hr
 exact q_fin (vs := []) (.inr R) () R trivial R (fun w s => s)
end Go.Proofs.Ytkfgngcfcoplpaa
