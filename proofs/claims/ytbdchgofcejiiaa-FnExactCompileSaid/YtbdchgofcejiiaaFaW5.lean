import Derived.Test.YtbdchgofcejiiaaFaW4
set_option linter.unusedVariables false
set_option maxRecDepth 20000
namespace Go.Proofs.Ytbdchgofcejiiaa
open Go Go.Pg
variable {A2 A3 A4 A5 A6 A7 A8 A9 A10 A12 A13 A14 A15 : Option Addr} {D2 D3 D4 D5 D6 D7 D8 D9 D10 D12 D13 D14 D15 N2 N3 N4 N5 N6 N7 N8 N9 N10 N12 N13 N14 N15 : Nat}
theorem impl_PackOk_ok {lives1 : (List Life)} {offsets3 : (List Int)} {r : Bool} (hr : impl_PackOk lives1 offsets3 = some r) :
 FnOk Try.prog 152 [(.slice A2 N2 D2), (.slice A4 N4 D4)] [rds kT114 (.slice A2 N2 D2) lives1, rds kT3 (.slice A4 N4 D4) offsets3] (fun (h : Unit) => ((.bool r), [])) := by
 unfold impl_PackOk at hr
 refine fn_ok Try.func152 R 80 R R fun C V => ?_
 refine cN (_ :: _ :: V) ?_
 refine cL 0 sees_rd ?_
 rintro rfl
 refine cL 1 sees_rd ?_
 rintro rfl
 let W0 : List HP := RR kT114 A2 D2 lives1 :: RR kT3 A4 D4 offsets3 :: V
 refine cN W0 ?_
 refine c_seq (c_region (lB R (l_nil (q_next (c_seq (c_seq ?_))))))
 obtain ⟨r5, hx6, hr⟩ := bd hr
 refine cQ [(0, (sc A2 lives1 D2)), (1, (sc A4 offsets3 D4)), (18, (.bool ((!r5) || ((offsets3.length : Int) != (lives1.length : Int)))))] (W0) ?_ ?_
 refine c_region (lS R (lM (RR kT114 A2 D2 lives1 :: W0) (fun w s => (s.d 0 R)) ?_))
 refine lC 1 cb200 R (impl_livesOk_ok hx6) R ?_
 rintro _
 refine lN W0 ?_
 refine lO (vNo R) (lB R ?_)
 rcases bo (!r5) with hc7 | hc7
 refine lf (wfT hc7) (lf (wfT hc7) (lf (wfT hc7) (lf (wfT hc7) (lf (wfT hc7) (lO (pOT ((offsets3.length : Int) != (lives1.length : Int)) R hc7) (l_nil ?_))))))
 exact qJ (fun w s => s)
 refine lW (wnF hc7) (vS R) (lW (wnF hc7) (v_len sl29 R) (lW (wnF hc7) (vS R) (lW (wnF hc7) (v_len sl183 R) (lW (wnF hc7) (vNe R R) (lO (pOF R hc7 R) (l_nil ?_))))))
 exact qJ (fun w s => s)
 rintro σ1
 refine q_next ?_
 rcases bif_ hr with ⟨hb8, hr⟩ | ⟨hb8, hr⟩
 refine c_true R hb8 (c_seq (c_region (lB R (l_nil (q_next (c_ret (q_ret ?_)))))))
 obtain rfl := so hr
 exact qF () (fun w s => (s.e 2 []))
 refine c_false R hb8 (c_skip (q_next (c_seq (c_cut (A := (Unit) × (Unit)) (fun a => impl_PackOk_J3 = some r) (fun a => []) (fun a => W0) ?_ ?_))))
 refine c_seq (c_region (lS R (lO (v_len sl183 R) (lI R (l_nil (q_next (c_block ?_)))))))
 obtain ⟨e1, hl1, hk1⟩ := bd hr
 refine c_loop (A := HH) hl1 (fun s a => [(0, (.slice a.1 a.2.1 a.2.2)), (1, (sc A4 offsets3 D4)), (19, (.slice a.1 a.2.1 a.2.2)), (20, (il lives1)), (21, (iv s))]) (fun s a => rds kT114 (.slice a.1 a.2.1 a.2.2) lives1 :: W0) (A2, lives1.length, D2) (aS R) (fun w s => (s.d 0 R)) ?_
 rintro x53 ⟨A52, N52, D52⟩ σ1 out1 hr he1
 replace hr : impl_PackOk_L1 lives1 offsets3 x53 = some out1 := hr
 unfold impl_PackOk_L1 at hr
 refine c_len 0 sees_rd (fun (hn : N52 = lives1.length) => ?_)
 subst hn
 refine c_seq (c_region (lO (vLt R R) (l_nil (q_next (c_seq ?_)))))
 rcases bif_ hr with ⟨hb54, hr⟩ | ⟨hb54, hr⟩
 refine c_true R hb54 (c_skip (q_next (c_seq (c_cut (A := (Unit) × (HH)) (fun a => impl_PackOk_J2 x53 = some out1) (fun a => [(0, (.slice a.2.1 a.2.2.1 a.2.2.2)), (1, (sc A4 offsets3 D4)), (19, (.slice a.2.1 a.2.2.1 a.2.2.2)), (20, (il lives1)), (21, (iv x53))]) (fun a => rds kT114 (.slice a.2.1 a.2.2.1 a.2.2.2) lives1 :: W0) ?_ ?_))))
 refine c_block (c_seq ?_)
 obtain ⟨hg55, hr⟩ := gd hr
 refine c_region (lI R (t_some 0 sees_rd (show 0 < lives1.length by have := hg55; omega) (fun g56 o57 ha => ?_)))
 subst ha
 refine lO (vIa sl183 sz114 R R hg55) (l_v (.agg [(iv (ix lives1 x53).Buffer), (iv (ix lives1 x53).Size), (iv (ix lives1 x53).From), (iv (ix lives1 x53).To)].toArray) ?_ R R ?_)
 exact (v_ldef (K := kT114) (cells := fun x => [(iv x.Buffer), (iv x.Size), (iv x.From), (iv x.To)]) 0 x53 ag114 sz114 (DecK.flat dT114 fun _ _ => R) sees_rd R hg55.1 hg55.2)
 refine l_alloc R R zc114 (fun b58 => (lI R (l_stores 0 R R sz114 R R R R R R (lN (bxl b58 [(iv (ix lives1 x53).Buffer), (iv (ix lives1 x53).Size), (iv (ix lives1 x53).From), (iv (ix lives1 x53).To)] 114 :: RR kT114 (ad g56 o57) D52 lives1 :: W0) ?_))))
 refine l_nil (q_next (c_seq (c_seq ?_)))
 obtain ⟨hg59, hr⟩ := gd hr
 refine cQ [(0, (sc (ad g56 o57) lives1 D52)), (1, (sc A4 offsets3 D4)), (5, (iv x53)), (6, (pt b58 0)), (19, (sc (ad g56 o57) lives1 D52)), (20, (il lives1)), (21, (iv x53)), (37, (.bool ((decide ((ix offsets3 x53) < (0 : Int))) || (decide ((ix offsets3 x53) > (1000000 : Int))))))] (RR kT114 (ad g56 o57) D52 lives1 :: bxl b58 [(iv (ix lives1 x53).Buffer), (iv (ix lives1 x53).Size), (iv (ix lives1 x53).From), (iv (ix lives1 x53).To)] 114 :: W0) ?_ ?_
 refine c_region (lS R (lI R (t_some 3 sees_rd (show 0 < offsets3.length by have := hg59; omega) (fun g60 o61 ha => ?_))))
 subst ha
 refine lO (vIa sl29 sz3 R R hg59) (lO (vLi 3 ag3 sees_rd R hg59) (lO (vLt R R) (lB R ?_)))
 rcases bo (decide ((ix offsets3 x53) < (0 : Int))) with hc62 | hc62
 refine lf (wfT hc62) (lf (wfT hc62) (lf (wfT hc62) (lf (wfT hc62) (lf (wfT hc62) (lO (pOT (decide ((ix offsets3 x53) > (1000000 : Int))) R hc62) (l_nil ?_))))))
 exact qJ (fun w s => (s.e 2 [1, 0]))
 refine lW (wnF hc62) (vS R) (lW (wnF hc62) (vI R) (lW (wnF hc62) (vIa sl29 sz3 R R hg59) (lW (wnF hc62) (vLi 3 ag3 sees_rd R hg59) (lW (wnF hc62) (vGt R R) (lO (pOF R hc62 R) (l_nil ?_))))))
 exact qJ (fun w s => (s.e 2 [1, 0]))
 rintro σ1
 refine q_next ?_
 rcases bif_ hr with ⟨hb63, hr⟩ | ⟨hb63, hr⟩
 refine c_true R hb63 (c_seq (c_region (lB R (l_nil (q_next (c_ret (q_ret (q_blockr (q_ret ?_)))))))))
 obtain rfl := so hr
 obtain rfl := he1 _ R
 have hr := hk1
 refine q_ret (q_blockr (q_ret ?_))
 obtain rfl := so hr
 exact qF () (fun w s => (s.e 4 []))
 refine c_false R hb63 (c_skip (q_next (c_seq ?_)))
 obtain ⟨hg64, hr⟩ := gd hr
 refine c_region (lS R (lI R (l_cut (K := kT114) (0 : Int) x53 0 R R sl183 sz114 R R R R hg64.1 hg64.2.1 hg64.2.2 (fun A65 D65 => (lO (v_len sl183 R) (lI R (l_nil (q_next (c_block ?_)))))))))
 obtain ⟨e2, hl2, hk2⟩ := bd hr
 refine c_loop (A := HH) hl2 (fun s a => [(0, (sc (ad g56 o57) lives1 D52)), (1, (sc A4 offsets3 D4)), (5, (iv x53)), (6, (pt b58 0)), (19, (sc (ad g56 o57) lives1 D52)), (20, (il lives1)), (21, (iv x53)), (40, (.slice a.1 a.2.1 a.2.2)), (41, (il (sub lives1 (0 : Int) x53))), (42, (iv s))]) (fun s a => RR kT114 (ad g56 o57) D52 lives1 :: bxl b58 [(iv (ix lives1 x53).Buffer), (iv (ix lives1 x53).Size), (iv (ix lives1 x53).From), (iv (ix lives1 x53).To)] 114 :: rds kT114 (.slice a.1 a.2.1 a.2.2) (sub lives1 (0 : Int) x53) :: W0) (A65, (sub lives1 (0 : Int) x53).length, D65) (aS R) (fun w s => (s.e 3 [1, 2, 0])) ?_
 rintro x81 ⟨A80, N80, D80⟩ σ1 out2 hr he2
 replace hr : impl_PackOk_L2 lives1 offsets3 x53 x81 = some out2 := hr
 unfold impl_PackOk_L2 at hr
 refine c_len 2 sees_rd (fun (hn : N80 = (sub lives1 (0 : Int) x53).length) => ?_)
 subst hn
 refine c_seq (c_region (lO (vLt R R) (l_nil (q_next (c_seq ?_)))))
 rcases bif_ hr with ⟨hb82, hr⟩ | ⟨hb82, hr⟩
 refine c_true R hb82 (c_skip (q_next (c_seq (c_block (c_seq ?_)))))
 obtain ⟨hg83, hr⟩ := gd hr
 refine c_region (lI R (t_some 2 sees_rd (show 0 < (sub lives1 (0 : Int) x53).length by have := hg83; omega) (fun g84 o85 ha => ?_)))
 subst ha
 refine lO (vIa sl183 sz114 R R hg83) (l_v (.agg [(iv (ix (sub lives1 (0 : Int) x53) x81).Buffer), (iv (ix (sub lives1 (0 : Int) x53) x81).Size), (iv (ix (sub lives1 (0 : Int) x53) x81).From), (iv (ix (sub lives1 (0 : Int) x53) x81).To)].toArray) ?_ R R ?_)
 exact (v_ldef (K := kT114) (cells := fun x => [(iv x.Buffer), (iv x.Size), (iv x.From), (iv x.To)]) 2 x81 ag114 sz114 (DecK.flat dT114 fun _ _ => R) sees_rd R hg83.1 hg83.2)
 refine l_alloc R R zc114 (fun b86 => (lI R (l_stores 0 R R sz114 R R R R R R (lN (bxl b86 [(iv (ix (sub lives1 (0 : Int) x53) x81).Buffer), (iv (ix (sub lives1 (0 : Int) x53) x81).Size), (iv (ix (sub lives1 (0 : Int) x53) x81).From), (iv (ix (sub lives1 (0 : Int) x53) x81).To)] 114 :: _ :: _ :: RR kT114 (ad g84 o85) D80 (sub lives1 (0 : Int) x53) :: W0) ?_))))
 refine l_nil (q_next (c_seq ?_))
 obtain ⟨r87, hx88, hr⟩ := bd hr
 obtain ⟨hg91, hr⟩ := gd hr
 obtain ⟨hg92, hr⟩ := gd hr
 refine cQ [(0, (sc (ad g56 o57) lives1 D52)), (1, (sc A4 offsets3 D4)), (5, (iv x53)), (6, (pt b58 0)), (19, (sc (ad g56 o57) lives1 D52)), (20, (il lives1)), (21, (iv x53)), (40, (sc (ad g84 o85) (sub lives1 (0 : Int) x53) D80)), (41, (il (sub lives1 (0 : Int) x53))), (42, (iv x81)), (77, (.bool ((r87 && (decide ((ix offsets3 x53) < (w64 ((ix offsets3 x81) + (ix (sub lives1 (0 : Int) x53) x81).Size))))) && (decide ((ix offsets3 x81) < (w64 ((ix offsets3 x53) + (ix lives1 x53).Size)))))))] (RR kT114 (ad g56 o57) D52 lives1 :: bxl b58 [(iv (ix lives1 x53).Buffer), (iv (ix lives1 x53).Size), (iv (ix lives1 x53).From), (iv (ix lives1 x53).To)] 114 :: RR kT114 (ad g84 o85) D80 (sub lives1 (0 : Int) x53) :: W0) ?_ ?_
 rcases bo r87 with hc93 | hc93
 rcases bo (r87 && (decide ((ix offsets3 x53) < (w64 ((ix offsets3 x81) + (ix (sub lives1 (0 : Int) x53) x81).Size))))) with hc94 | hc94
 refine c_some 5 sees_rd (show 0 < offsets3.length by have := hg59; omega) (fun g89 o90 ha => ?_)
 subst ha
 refine cdr 31 [] mixo (fun ht hn => (dR 0 R (vz (.agg [(iv (ix lives1 x53).Buffer), (iv (ix lives1 x53).Size), (iv (ix lives1 x53).From), (iv (ix lives1 x53).To)].toArray) (v_loadw 2 ag114 sz114 R R R R)) (dR 1 R (vz (.agg [(iv (ix (sub lives1 (0 : Int) x53) x81).Buffer), (iv (ix (sub lives1 (0 : Int) x53) x81).Size), (iv (ix (sub lives1 (0 : Int) x53) x81).From), (iv (ix (sub lives1 (0 : Int) x53) x81).To)].toArray) (v_loadw 0 ag114 sz114 R R R R)) (d_one 2 (by kernel_rfl) R (lC 0 cb201 R (impl_Life_meets_ok hx88) R ?_)))))
 rintro _
 refine l_nil (q_draw (sL []) (dR 3 R (vB R) (dW 4 R (wnT hc93) (vS R) (dW 5 R (wnT hc93) (vI R) (dW 6 R (wnT hc93) (vIa sl29 sz3 R R hg59) (dW 7 R (wnT hc93) (vLi 5 ag3 sees_rd R hg59) (dW 8 R (wnT hc93) (vS R) (dW 9 R (wnT hc93) (vI R) (dW 10 R (wnT hc93) (vIa sl29 sz3 R R (hg91 hc93)) (dW 11 R (wnT hc93) (vLi 5 ag3 sees_rd R (hg91 hc93)) (dW 12 R (wnT hc93) (vFa 1 fo114_1 R) (dW 13 R (wnT hc93) (vLd 0 ag3 R R R) (dW 14 R (wnT hc93) (vAd R R) (dW 15 R (wnT hc93) (vLt R R) (dR 16 R (pAT R hc93 R) (dR 17 R (vB R) (dW 18 R (wnT hc94) (vS R) (dW 19 R (wnT hc94) (vI R) (dW 20 R (wnT hc94) (vIa sl29 sz3 R R (hg92 hc94)) (dW 21 R (wnT hc94) (vLi 5 ag3 sees_rd R (hg92 hc94)) (dW 22 R (wnT hc94) (vS R) (dW 23 R (wnT hc94) (vI R) (dW 24 R (wnT hc94) (vIa sl29 sz3 R R hg59) (dW 25 R (wnT hc94) (vLi 5 ag3 sees_rd R hg59) (dW 26 R (wnT hc94) (vFa 1 fo114_1 R) (dW 27 R (wnT hc94) (vLd 2 ag3 R R R) (dW 28 R (wnT hc94) (vAd R R) (dW 29 R (wnT hc94) (vLt R R) (dR 30 R (pAT R hc94 R) (d_done (by kernel_rfl) ?_))))))))))))))))))))))))))))))
 exact qJ (fun w s => (s.f 4 [1, 3]))
 refine c_some 5 sees_rd (show 0 < offsets3.length by have := hg59; omega) (fun g89 o90 ha => ?_)
 subst ha
 refine cdr 31 [] mixo (fun ht hn => (dR 0 R (vz (.agg [(iv (ix lives1 x53).Buffer), (iv (ix lives1 x53).Size), (iv (ix lives1 x53).From), (iv (ix lives1 x53).To)].toArray) (v_loadw 2 ag114 sz114 R R R R)) (dR 1 R (vz (.agg [(iv (ix (sub lives1 (0 : Int) x53) x81).Buffer), (iv (ix (sub lives1 (0 : Int) x53) x81).Size), (iv (ix (sub lives1 (0 : Int) x53) x81).From), (iv (ix (sub lives1 (0 : Int) x53) x81).To)].toArray) (v_loadw 0 ag114 sz114 R R R R)) (d_one 2 (by kernel_rfl) R (lC 0 cb201 R (impl_Life_meets_ok hx88) R ?_)))))
 rintro _
 refine l_nil (q_draw (sL []) (dR 3 R (vB R) (dW 4 R (wnT hc93) (vS R) (dW 5 R (wnT hc93) (vI R) (dW 6 R (wnT hc93) (vIa sl29 sz3 R R hg59) (dW 7 R (wnT hc93) (vLi 5 ag3 sees_rd R hg59) (dW 8 R (wnT hc93) (vS R) (dW 9 R (wnT hc93) (vI R) (dW 10 R (wnT hc93) (vIa sl29 sz3 R R (hg91 hc93)) (dW 11 R (wnT hc93) (vLi 5 ag3 sees_rd R (hg91 hc93)) (dW 12 R (wnT hc93) (vFa 1 fo114_1 R) (dW 13 R (wnT hc93) (vLd 0 ag3 R R R) (dW 14 R (wnT hc93) (vAd R R) (dW 15 R (wnT hc93) (vLt R R) (dR 16 R (pAT R hc93 R) (dR 17 R (vB R) (dF 18 R (wfF hc94) (dF 19 R (wfF hc94) (dF 20 R (wfF hc94) (dF 21 R (wfF hc94) (dF 22 R (wfF hc94) (dF 23 R (wfF hc94) (dF 24 R (wfF hc94) (dF 25 R (wfF hc94) (dF 26 R (wfF hc94) (dF 27 R (wfF hc94) (dF 28 R (wfF hc94) (dF 29 R (wfF hc94) (dR 30 R (pAF (decide ((ix offsets3 x81) < (w64 ((ix offsets3 x53) + (ix lives1 x53).Size)))) R hc94) (d_done (by kernel_rfl) ?_))))))))))))))))))))))))))))))
 exact qJ (fun w s => (s.f 4 [1, 3]))
 refine cdr 31 [] mixo (fun ht hn => (dR 0 R (vz (.agg [(iv (ix lives1 x53).Buffer), (iv (ix lives1 x53).Size), (iv (ix lives1 x53).From), (iv (ix lives1 x53).To)].toArray) (v_loadw 2 ag114 sz114 R R R R)) (dR 1 R (vz (.agg [(iv (ix (sub lives1 (0 : Int) x53) x81).Buffer), (iv (ix (sub lives1 (0 : Int) x53) x81).Size), (iv (ix (sub lives1 (0 : Int) x53) x81).From), (iv (ix (sub lives1 (0 : Int) x53) x81).To)].toArray) (v_loadw 0 ag114 sz114 R R R R)) (d_one 2 (by kernel_rfl) R (lC 0 cb201 R (impl_Life_meets_ok hx88) R ?_)))))
 rintro _
 refine l_nil (q_draw (sL []) (dR 3 R (vB R) (dF 4 R (wfF hc93) (dF 5 R (wfF hc93) (dF 6 R (wfF hc93) (dF 7 R (wfF hc93) (dF 8 R (wfF hc93) (dF 9 R (wfF hc93) (dF 10 R (wfF hc93) (dF 11 R (wfF hc93) (dF 12 R (wfF hc93) (dF 13 R (wfF hc93) (dF 14 R (wfF hc93) (dF 15 R (wfF hc93) (dR 16 R (pAF (decide ((ix offsets3 x53) < (w64 ((ix offsets3 x81) + (ix (sub lives1 (0 : Int) x53) x81).Size)))) R hc93) (dR 17 R (vB R) (dF 18 R (wfF (aF hc93)) (dF 19 R (wfF (aF hc93)) (dF 20 R (wfF (aF hc93)) (dF 21 R (wfF (aF hc93)) (dF 22 R (wfF (aF hc93)) (dF 23 R (wfF (aF hc93)) (dF 24 R (wfF (aF hc93)) (dF 25 R (wfF (aF hc93)) (dF 26 R (wfF (aF hc93)) (dF 27 R (wfF (aF hc93)) (dF 28 R (wfF (aF hc93)) (dF 29 R (wfF (aF hc93)) (dR 30 R (pAF (decide ((ix offsets3 x81) < (w64 ((ix offsets3 x53) + (ix lives1 x53).Size)))) R (aF hc93)) (d_done (by kernel_rfl) ?_))))))))))))))))))))))))))))))
 exact qJ (fun w s => (s.f 4 [1, 3]))
 rintro σ1
 refine q_next ?_
 rcases bif_ hr with ⟨hb95, hr⟩ | ⟨hb95, hr⟩
 refine c_true R hb95 (c_seq (c_region (lB R (l_nil (q_next (c_ret (q_blockr (q_ret ?_))))))))
 obtain rfl := so hr
 obtain rfl := he2 _ R
 have hr := hk2
 refine q_ret (q_blockr (q_blockr (q_ret ?_)))
 obtain rfl := so hr
 obtain rfl := he1 _ R
 have hr := hk1
 refine q_ret (q_blockr (q_ret ?_))
 obtain rfl := so hr
 exact qF () (fun w s => (s.e 5 []))
 refine c_false R hb95 (c_skip (q_blockn (q_next (c_region (lO (vAd R R) (lI R (l_nil ?_)))))))
 obtain rfl := so hr
 exact qA ((ad g84 o85), (sub lives1 (0 : Int) x53).length, D80) (fun w s => s)
 refine c_false R hb82 (c_exit (q_exit ?_))
 obtain rfl := so hr
 obtain rfl := he2 _ R
 have hr := hk2
 refine q_exit (q_block (q_blockn ?_))
 exact qI ((), ((ad g56 o57), lives1.length, D52)) hr (fun w s => (s.e 3 [0]))
 rintro ⟨_, ⟨A98, N98, D98⟩⟩ σ1 hr
 replace hr : impl_PackOk_J2 x53 = some out1 := hr
 unfold impl_PackOk_J2 at hr
 refine c_len 0 sees_rd (fun (hn : N98 = lives1.length) => ?_)
 subst hn
 refine c_region (lO (vAd R R) (lI R (l_nil ?_)))
 obtain rfl := so hr
 exact qA (A98, lives1.length, D98) (fun w s => s)
 refine c_false R hb54 (c_exit (q_exit ?_))
 obtain rfl := so hr
 obtain rfl := he1 _ R
 have hr := hk1
 refine q_exit (q_block ?_)
 exact q_join ((), ()) hr trivial (fun w s => (s.e 1 []))
 rintro ⟨_, _⟩ σ1 hr
 replace hr : impl_PackOk_J3 = some r := hr
 unfold impl_PackOk_J3 at hr
 refine c_seq (c_region (lB R (l_nil (q_next (c_ret ?_)))))
 obtain rfl := so hr
 exact qF () (fun w s => (s.e 2 []))
theorem impl_PlanOk_ok {p1 : Plan} {r : Bool} (hr : impl_PlanOk p1 = some r) :
 FnOk Try.prog 88 [(.agg [(.slice A2 N2 D2), (.slice A3 N3 D3), (.slice A4 N4 D4), (.slice A5 N5 D5), (.slice A6 N6 D6), (.slice A7 N7 D7), (iv p1.Arena)].toArray)] [rds kT3 (.slice A2 N2 D2) p1.Nest.Sizes, rds kT3 (.slice A3 N3 D3) p1.Nest.Ins, rds kT159 (.slice A4 N4 D4) p1.Nest.Fixed, rds kT127 (.slice A5 N5 D5) p1.Nest.Kernels, rds kT3 (.slice A6 N6 D6) p1.Nest.Outs, rds kT3 (.slice A7 N7 D7) p1.Offsets] (fun (h : Unit) => ((.bool r), [])) := by
 unfold impl_PlanOk at hr
 refine fn_ok Try.func88 R 100 R R fun C V => ?_
 refine cN (_ :: _ :: _ :: _ :: _ :: _ :: V) ?_
 refine cL 0 sees_rd ?_
 rintro rfl
 refine cL 1 sees_rd ?_
 rintro rfl
 refine cL 2 sees_rd ?_
 rintro rfl
 refine cL 3 sees_rd ?_
 rintro rfl
 refine cL 4 sees_rd ?_
 rintro rfl
 refine cL 5 sees_rd ?_
 rintro rfl
 let W0 : List HP := RR kT3 A2 D2 p1.Nest.Sizes :: RR kT3 A3 D3 p1.Nest.Ins :: RR kT159 A4 D4 p1.Nest.Fixed :: RR kT127 A5 D5 p1.Nest.Kernels :: RR kT3 A6 D6 p1.Nest.Outs :: RR kT3 A7 D7 p1.Offsets :: V
 refine cN W0 ?_
 refine c_seq (c_region (lBx R (fun b8 => (lB R (l_nil ?_)))))
 let W1 : List HP := bxl b8 [(sc A2 p1.Nest.Sizes D2), (sc A3 p1.Nest.Ins D3), (sc A4 p1.Nest.Fixed D4), (sc A5 p1.Nest.Kernels D5), (sc A6 p1.Nest.Outs D6), (sc A7 p1.Offsets D7), (iv p1.Arena)] 71 :: W0
 refine qN W1 ?_
 refine q_next (c_seq (c_seq ?_))
 obtain ⟨r9, hx10, hr⟩ := bd hr
 refine cQ [(1, (pt b8 0)), (34, (.bool ((((!r9) || ((p1.Offsets.length : Int) != (p1.Nest.Sizes.length : Int))) || (decide (p1.Arena < (0 : Int)))) || (decide (p1.Arena > (1000000 : Int))))))] (W1) ?_ ?_
 refine c_region (lO (vFa 0 fo71_0 R) (lO (vz (.agg [(sc A2 p1.Nest.Sizes D2), (sc A3 p1.Nest.Ins D3), (sc A4 p1.Nest.Fixed D4), (sc A5 p1.Nest.Kernels D5), (sc A6 p1.Nest.Outs D6)].toArray) (v_loadw 0 ag58 sz58 R R R R)) (lM (RR kT3 A2 D2 p1.Nest.Sizes :: RR kT3 A3 D3 p1.Nest.Ins :: RR kT159 A4 D4 p1.Nest.Fixed :: RR kT127 A5 D5 p1.Nest.Kernels :: RR kT3 A6 D6 p1.Nest.Outs :: W1) (fun w s => ((((((s.d 1 R).d 3 R).d 5 R).d 7 R).d 9 R).e 5 [4, 3, 2, 1, 0])) ?_)))
 refine lC 5 cb74 R (impl_NestOk_ok hx10) R ?_
 rintro _
 refine lN W1 ?_
 refine lO (vNo R) (lB R ?_)
 rcases bo (!r9) with hc11 | hc11
 refine lf (wfT hc11) (lf (wfT hc11) (lf (wfT hc11) (lf (wfT hc11) (lf (wfT hc11) (lf (wfT hc11) (lf (wfT hc11) (lf (wfT hc11) (lO (pOT ((p1.Offsets.length : Int) != (p1.Nest.Sizes.length : Int)) R hc11) (lB R (lf (wfT (oT hc11)) (lf (wfT (oT hc11)) (lf (wfT (oT hc11)) (lO (pOT (decide (p1.Arena < (0 : Int))) R (oT hc11)) (lB R (lf (wfT (oT (oT hc11))) (lf (wfT (oT (oT hc11))) (lf (wfT (oT (oT hc11))) (lO (pOT (decide (p1.Arena > (1000000 : Int))) R (oT (oT hc11))) (l_nil ?_)))))))))))))))))))
 exact qJ (fun w s => s)
 refine lW (wnF hc11) (vFa 5 fo71_1 R) (lW (wnF hc11) (vLd 0 ag29 R R R) (lW (wnF hc11) (v_len sl29 R) (lW (wnF hc11) (vFa 0 fo71_0 R) (lW (wnF hc11) (vFa 0 fo58_0 R) (lW (wnF hc11) (vLd 0 ag29 R R R) (lW (wnF hc11) (v_len sl29 R) (lW (wnF hc11) (vNe R R) (lO (pOF R hc11 R) (lB R ?_)))))))))
 rcases bo ((!r9) || ((p1.Offsets.length : Int) != (p1.Nest.Sizes.length : Int))) with hc12 | hc12
 refine lf (wfT hc12) (lf (wfT hc12) (lf (wfT hc12) (lO (pOT (decide (p1.Arena < (0 : Int))) R hc12) (lB R (lf (wfT (oT hc12)) (lf (wfT (oT hc12)) (lf (wfT (oT hc12)) (lO (pOT (decide (p1.Arena > (1000000 : Int))) R (oT hc12)) (l_nil ?_)))))))))
 exact qJ (fun w s => s)
 refine lW (wnF hc12) (vFa 6 fo71_2 R) (lW (wnF hc12) (vLd 0 ag3 R R R) (lW (wnF hc12) (vLt R R) (lO (pOF R hc12 R) (lB R ?_))))
 rcases bo (((!r9) || ((p1.Offsets.length : Int) != (p1.Nest.Sizes.length : Int))) || (decide (p1.Arena < (0 : Int)))) with hc13 | hc13
 refine lf (wfT hc13) (lf (wfT hc13) (lf (wfT hc13) (lO (pOT (decide (p1.Arena > (1000000 : Int))) R hc13) (l_nil ?_))))
 exact qJ (fun w s => s)
 refine lW (wnF hc13) (vFa 6 fo71_2 R) (lW (wnF hc13) (vLd 0 ag3 R R R) (lW (wnF hc13) (vGt R R) (lO (pOF R hc13 R) (l_nil ?_))))
 exact qJ (fun w s => s)
 rintro σ1
 refine q_next ?_
 rcases bif_ hr with ⟨hb14, hr⟩ | ⟨hb14, hr⟩
 refine c_true R hb14 (c_seq (c_region (lB R (l_nil (q_next (c_ret (q_ret ?_)))))))
 obtain rfl := so hr
 exact qF () (fun w s => (s.e 7 []))
 refine c_false R hb14 (c_skip (q_next (c_seq ?_)))
 obtain ⟨r15, hx16, hr⟩ := bd hr
 refine c_region (lO (vFa 0 fo71_0 R) (lO (vz (.agg [(sc A2 p1.Nest.Sizes D2), (sc A3 p1.Nest.Ins D3), (sc A4 p1.Nest.Fixed D4), (sc A5 p1.Nest.Kernels D5), (sc A6 p1.Nest.Outs D6)].toArray) (v_loadw 0 ag58 sz58 R R R R)) (lM (RR kT3 A2 D2 p1.Nest.Sizes :: RR kT3 A3 D3 p1.Nest.Ins :: RR kT159 A4 D4 p1.Nest.Fixed :: RR kT127 A5 D5 p1.Nest.Kernels :: RR kT3 A6 D6 p1.Nest.Outs :: W1) (fun w s => ((((((s.d 1 R).d 3 R).d 5 R).d 7 R).d 9 R).e 5 [4, 3, 2, 1, 0])) ?_)))
 refine lC 5 cb151 R (impl_Nest_lives_ok hx16) R ?_
 rintro ⟨A17, N17, D17⟩
 refine lN (ow kT114 114 (.slice A17 N17 D17) r15 :: W1) ?_
 refine l_len 0 sees_ow ?_
 rintro rfl
 refine lS R (l_nil (q_next (c_seq (c_region (l_build (K := kT3) (xs := ([] : List Int)) (vs := []) 0 R R sl29 sz3 zc3 R R R R R R ?_ R (fun A18 D18 => ?_))))))
 exact fun I h s => (mO3).list [] I h s
 refine lN (OO kT3 3 A18 D18 ([] : List Int) :: _ :: W1) ?_
 refine lS R (l_nil (q_next (c_seq ?_)))
 obtain ⟨hg19, hr⟩ := gd hr
 refine c_region (lO (vFa 5 fo71_1 R) (lO (vLd 2 ag29 R R R) (lO (v_len sl29 R) (l_make (K := kT4) (m := (p1.Offsets.length : Int)) (z := false) R R sl168 sz4 by4 (Zr.zk zT4 zc4) (by decide) R R hg19.1 hg19.2.1 hg19.2.2 (fun A20 D20 => (lS R (l_nil (q_next (c_seq (c_cut (A := ((List Int) × (List Bool)) × (HH × HH × HH)) (fun a => impl_PlanOk_J1 p1 r15 a.1.1 a.1.2 = some r) (fun a => [(1, (pt b8 0)), (3, (.slice a.2.1.1 a.2.1.2.1 a.2.1.2.2)), (4, (.slice a.2.2.1.1 a.2.2.1.2.1 a.2.2.1.2.2)), (5, (.slice a.2.2.2.1 a.2.2.2.2.1 a.2.2.2.2.2))]) (fun a => ow kT114 114 (.slice a.2.1.1 a.2.1.2.1 a.2.1.2.2) r15 :: ow kT3 3 (.slice a.2.2.1.1 a.2.2.1.2.1 a.2.2.1.2.2) a.1.1 :: ow kT4 4 (.slice a.2.2.2.1 a.2.2.2.2.1 a.2.2.2.2.2) a.1.2 :: W1) ?_ ?_))))))))))
 refine c_seq (c_region (lS R (lO (v_len sl183 R) (lI R (l_nil (q_next (c_block ?_)))))))
 obtain ⟨e1, hl1, hk1⟩ := bd hr
 refine c_loop (A := HH × HH × HH) hl1 (fun s a => [(1, (pt b8 0)), (3, (.slice a.1.1 a.1.2.1 a.1.2.2)), (4, (.slice a.2.1.1 a.2.1.2.1 a.2.1.2.2)), (5, (.slice a.2.2.1 a.2.2.2.1 a.2.2.2.2)), (43, (.slice a.1.1 a.1.2.1 a.1.2.2)), (44, (il r15)), (45, (iv s.2.2))]) (fun s a => ow kT114 114 (.slice a.1.1 a.1.2.1 a.1.2.2) r15 :: ow kT3 3 (.slice a.2.1.1 a.2.1.2.1 a.2.1.2.2) s.1 :: ow kT4 4 (.slice a.2.2.1 a.2.2.2.1 a.2.2.2.2) s.2.1 :: W1) ((A17, r15.length, D17), (A18, ([] : List Int).length, D18), (A20, (List.replicate (p1.Offsets.length : Int).toNat false).length, D20)) (aS R) (fun w s => (s.e 3 [2, 1, 0])) ?_
 rintro ⟨offsets41, alive43, x45⟩ ⟨⟨A40, N40, D40⟩, ⟨A42, N42, D42⟩, ⟨A44, N44, D44⟩⟩ σ1 out1 hr he1
 replace hr : impl_PlanOk_L1 p1 r15 offsets41 alive43 x45 = some out1 := hr
 unfold impl_PlanOk_L1 at hr
 refine c_len 0 sees_ow (fun (hn : N40 = r15.length) => ?_)
 subst hn
 refine c_len 1 sees_ow (fun (hn : N42 = offsets41.length) => ?_)
 subst hn
 refine c_len 2 sees_ow (fun (hn : N44 = alive43.length) => ?_)
 subst hn
 refine c_seq (c_region (lO (vLt R R) (l_nil (q_next (c_seq ?_)))))
 rcases bif_ hr with ⟨hb46, hr⟩ | ⟨hb46, hr⟩
 refine c_true R hb46 (c_skip (q_next (c_seq (c_block (c_seq ?_)))))
 obtain ⟨hg47, hr⟩ := gd hr
 refine c_region (t_some 0 sees_ow (show 0 < r15.length by have := hg47; omega) (fun g48 o49 ha => ?_))
 subst ha
 refine lO (vIa sl183 sz114 R R hg47) (l_v (.agg [(iv (ix r15 x45).Buffer), (iv (ix r15 x45).Size), (iv (ix r15 x45).From), (iv (ix r15 x45).To)].toArray) ?_ R R ?_)
 exact (v_ldef (K := kT114) (cells := fun x => [(iv x.Buffer), (iv x.Size), (iv x.From), (iv x.To)]) 0 x45 ag114 sz114 (DecK.flat dT114 fun _ _ => R) sees_ow R hg47.1 hg47.2)
 refine l_alloc R R zc114 (fun b50 => (l_stores 0 R R sz114 R R R R R R (lN (bxl b50 [(iv (ix r15 x45).Buffer), (iv (ix r15 x45).Size), (iv (ix r15 x45).From), (iv (ix r15 x45).To)] 114 :: OO kT114 114 (ad g48 o49) D40 r15 :: OO kT3 3 A42 D42 offsets41 :: OO kT4 4 A44 D44 alive43 :: W1) ?_)))
 refine l_nil (q_next (c_seq ?_))
 obtain ⟨hg51, hr⟩ := gd hr
 refine c_region (lS R (lO (vFa 0 fo114_0 R) (lO (vLd 0 ag3 R R R) (t_some 3 sees_ow (show 0 < alive43.length by have := hg51; omega) (fun g52 o53 ha => ?_)))))
 subst ha
 refine lO (vIa sl168 sz4 R R hg51) (lM (OO kT4 4 (ad g52 o53) D44 alive43 :: bxl _ _ _ :: ow _ _ _ _ :: ow _ _ _ _ :: W1) (fun w s => (s.e 4 [3, 0, 1, 2])) ?_)
 refine l_stx (K := kT4) (x' := true) 0 (ix r15 x45).Buffer R R sz4 R R hg51.1 hg51.2 ?_ ?_
 exact fun I h s => (mO4).put I h () true s
 refine lN (ow kT4 4 (.slice (ad g52 o53) alive43.length D44) (alive43.set (ix r15 x45).Buffer.toNat true) :: _ :: _ :: _ :: W1) ?_
 refine l_nil (q_next (c_seq ?_))
 obtain ⟨hg54, hr⟩ := gd hr
 refine c_region (lO (vFa 5 fo71_1 R) (lO (vLd 4 ag29 R R R) (lO (vFa 0 fo114_0 R) (lO (vLd 1 ag3 R R R) (t_some 10 sees_rd (show 0 < p1.Offsets.length by have := hg54; omega) (fun g55 o56 ha => ?_))))))
 subst ha
 refine lO (vIa sl29 sz3 R R hg54) (lO (vLi 10 ag3 sees_rd R hg54) (lI R (l_nil (q_next (c_seq (c_seq (cQ [(1, (pt b8 0)), (3, (sc (ad g48 o49) r15 D40)), (4, (sc A42 offsets41 D42)), (5, (sc (ad g52 o53) alive43 D44)), (8, (iv (ix p1.Offsets (ix r15 x45).Buffer))), (43, (sc (ad g48 o49) r15 D40)), (44, (il r15)), (45, (iv x45)), (73, (.bool (((decide ((ix p1.Offsets (ix r15 x45).Buffer) < (0 : Int))) || (decide ((ix p1.Offsets (ix r15 x45).Buffer) > (1000000 : Int)))) || (decide ((w64 ((ix p1.Offsets (ix r15 x45).Buffer) + (ix r15 x45).Size)) > p1.Arena)))))] (OO kT114 114 (ad g48 o49) D40 r15 :: OO kT3 3 A42 D42 offsets41 :: ow kT4 4 (.slice (ad g52 o53) alive43.length D44) (alive43.set (ix r15 x45).Buffer.toNat true) :: W1) ?_ ?_)))))))
 refine c_region (lI R (lO (vLt R R) (lB R ?_)))
 rcases bo (decide ((ix p1.Offsets (ix r15 x45).Buffer) < (0 : Int))) with hc57 | hc57
 refine lf (wfT hc57) (lf (wfT hc57) (lO (pOT (decide ((ix p1.Offsets (ix r15 x45).Buffer) > (1000000 : Int))) R hc57) (lB R (lf (wfT (oT hc57)) (lf (wfT (oT hc57)) (lf (wfT (oT hc57)) (lf (wfT (oT hc57)) (lf (wfT (oT hc57)) (lf (wfT (oT hc57)) (lf (wfT (oT hc57)) (lO (pOT (decide ((w64 ((ix p1.Offsets (ix r15 x45).Buffer) + (ix r15 x45).Size)) > p1.Arena)) R (oT hc57)) (l_nil ?_))))))))))))
 exact qJ (fun w s => (s.e 4 [2, 3, 0]))
 refine lW (wnF hc57) (vI R) (lW (wnF hc57) (vGt R R) (lO (pOF R hc57 R) (lB R ?_)))
 rcases bo ((decide ((ix p1.Offsets (ix r15 x45).Buffer) < (0 : Int))) || (decide ((ix p1.Offsets (ix r15 x45).Buffer) > (1000000 : Int)))) with hc58 | hc58
 refine lf (wfT hc58) (lf (wfT hc58) (lf (wfT hc58) (lf (wfT hc58) (lf (wfT hc58) (lf (wfT hc58) (lf (wfT hc58) (lO (pOT (decide ((w64 ((ix p1.Offsets (ix r15 x45).Buffer) + (ix r15 x45).Size)) > p1.Arena)) R hc58) (l_nil ?_))))))))
 exact qJ (fun w s => (s.e 4 [2, 3, 0]))
 refine lW (wnF hc58) (vI R) (lW (wnF hc58) (vFa 1 fo114_1 R) (lW (wnF hc58) (vLd 1 ag3 R R R) (lW (wnF hc58) (vAd R R) (lW (wnF hc58) (vFa 6 fo71_2 R) (lW (wnF hc58) (vLd 4 ag3 R R R) (lW (wnF hc58) (vGt R R) (lO (pOF R hc58 R) (l_nil ?_))))))))
 exact qJ (fun w s => (s.e 4 [2, 3, 0]))
 rintro σ1
 refine q_next ?_
 rcases bif_ hr with ⟨hb59, hr⟩ | ⟨hb59, hr⟩
 refine c_true R hb59 (c_seq (c_region (lB R (l_nil (q_next (c_ret (q_ret (q_blockr (q_ret ?_)))))))))
 obtain rfl := so hr
 obtain rfl := he1 _ R
 have hr := hk1
 refine q_ret (q_blockr (q_ret ?_))
 obtain rfl := so hr
 exact qF () (fun w s => (s.e 10 []))
 refine c_false R hb59 (c_skip (q_next ?_))
 obtain ⟨hg61, hr⟩ := gd hr
 refine c_region (lS R (lI R (l_build (K := kT3) (xs := ([(ix p1.Offsets (ix r15 x45).Buffer)] : List Int)) (vs := [(iv (ix p1.Offsets (ix r15 x45).Buffer))]) 0 R R sl29 sz3 zc3 R R R R R R ?_ R (fun A60 D60 => ?_))))
 exact fun I h s => (mO3).list [((), (ix p1.Offsets (ix r15 x45).Buffer))] I h s
 refine lN (OO kT3 3 A60 D60 ([(ix p1.Offsets (ix r15 x45).Buffer)] : List Int) :: _ :: _ :: _ :: W1) ?_
 refine lM (ow _ _ _ _ :: ow _ _ _ _ :: ow _ _ _ _ :: ow _ _ _ _ :: W1) (fun w s => (s.e 4 [2, 0, 1, 3])) ?_
 refine l_app (K := kT3) 17592186044416 R R sl29 sz3 by3 (Zr.zk zT3 zc3) R R R R R R src_ow hg61 (fun A62 D62 => (lN (OO kT3 3 A62 D62 (offsets41 ++ ([(ix p1.Offsets (ix r15 x45).Buffer)] : List Int)) :: _ :: _ :: W1) ?_))
 refine lS R (l_nil (q_blockn (q_next (c_region (lO (vAd R R) (lI R (l_nil ?_)))))))
 obtain rfl := so hr
 exact qA (((ad g48 o49), r15.length, D40), (A62, (offsets41 ++ ([(ix p1.Offsets (ix r15 x45).Buffer)] : List Int)).length, D62), ((ad g52 o53), alive43.length, D44)) (fun w s => (s.e 3 [1, 0, 2]))
 refine c_false R hb46 (c_exit (q_exit ?_))
 obtain rfl := so hr
 obtain rfl := he1 _ R
 have hr := hk1
 refine q_exit (q_block ?_)
 exact qI ((offsets41, alive43), ((A40, r15.length, D40), (A42, offsets41.length, D42), (A44, alive43.length, D44))) hr (fun w s => s)
 rintro ⟨⟨offsets70, alive72⟩, ⟨⟨A69, N69, D69⟩, ⟨A71, N71, D71⟩, ⟨A73, N73, D73⟩⟩⟩ σ1 hr
 replace hr : impl_PlanOk_J1 p1 r15 offsets70 alive72 = some r := hr
 unfold impl_PlanOk_J1 at hr
 refine c_len 0 sees_ow (fun (hn : N69 = r15.length) => ?_)
 subst hn
 refine c_len 1 sees_ow (fun (hn : N71 = offsets70.length) => ?_)
 subst hn
 refine c_len 2 sees_ow (fun (hn : N73 = alive72.length) => ?_)
 subst hn
 refine c_seq (c_cut (A := (Unit) × (Unit)) (fun a => impl_PlanOk_J2 r15 offsets70 = some r) (fun a => [(3, (sc A69 r15 D69)), (4, (sc A71 offsets70 D71))]) (fun a => OO kT114 114 A69 D69 r15 :: OO kT3 3 A71 D71 offsets70 :: W1) ?_ ?_)
 refine c_seq (c_region (lO (vFa 5 fo71_1 R) (lO (vLd 3 ag29 R R R) (lO (v_len sl29 R) (lI R (l_nil (q_next (c_block ?_))))))))
 obtain ⟨e2, hl2, hk2⟩ := bd hr
 refine c_loop (A := HH) hl2 (fun s a => [(3, (sc A69 r15 D69)), (4, (sc A71 offsets70 D71)), (5, (sc A73 alive72 D73)), (80, (.slice a.1 a.2.1 a.2.2)), (81, (il p1.Offsets)), (82, (iv s))]) (fun s a => OO kT114 114 A69 D69 r15 :: OO kT3 3 A71 D71 offsets70 :: OO kT4 4 A73 D73 alive72 :: rds kT3 (.slice a.1 a.2.1 a.2.2) p1.Offsets :: W1) (A7, p1.Offsets.length, D7) (aS R) (fun w s => ((s.d 9 R).e 4 [1, 2, 3, 0])) ?_
 rintro x84 ⟨A83, N83, D83⟩ σ1 out2 hr he2
 replace hr : impl_PlanOk_L2 p1 alive72 x84 = some out2 := hr
 unfold impl_PlanOk_L2 at hr
 refine c_len 3 sees_rd (fun (hn : N83 = p1.Offsets.length) => ?_)
 subst hn
 refine c_seq (c_region (lO (vLt R R) (l_nil (q_next (c_seq ?_)))))
 rcases bif_ hr with ⟨hb85, hr⟩ | ⟨hb85, hr⟩
 refine c_true R hb85 (c_skip (q_next (c_seq (c_block (c_seq ?_)))))
 obtain ⟨hg86, hr⟩ := gd hr
 refine c_region (lI R (t_some 3 sees_rd (show 0 < p1.Offsets.length by have := hg86; omega) (fun g87 o88 ha => ?_)))
 subst ha
 refine lO (vIa sl29 sz3 R R hg86) (lO (vLi 3 ag3 sees_rd R hg86) (lI R (lI R (l_nil (q_next (c_seq ?_))))))
 obtain ⟨hg89, hr⟩ := gd hr
 refine cQ [(3, (sc A69 r15 D69)), (4, (sc A71 offsets70 D71)), (5, (sc A73 alive72 D73)), (80, (sc (ad g87 o88) p1.Offsets D83)), (81, (il p1.Offsets)), (82, (iv x84)), (95, (.bool ((!(ix alive72 x84)) && ((ix p1.Offsets x84) != (-1 : Int)))))] (OO kT114 114 A69 D69 r15 :: OO kT3 3 A71 D71 offsets70 :: OO kT4 4 A73 D73 alive72 :: RR kT3 (ad g87 o88) D83 p1.Offsets :: W1) ?_ ?_
 refine c_region (lS R (lI R (t_some 2 sees_ow (show 0 < alive72.length by have := hg89; omega) (fun g90 o91 ha => ?_))))
 subst ha
 refine lO (vIa sl168 sz4 R R hg89) (lO (vz (.bool (ix alive72 x84)) (v_lde (K := kT4) (fo := 0) (pr := fun x => (.bool x)) 2 x84 ag4 (dT4.leaf fun _ _ => R) sees_ow R hg89.1 hg89.2)) (lO (vNo R) (lB R ?_)))
 rcases bo (!(ix alive72 x84)) with hc92 | hc92
 refine lW (wnT hc92) (vI R) (lW (wnT hc92) (vNe R R) (lO (pAT R hc92 R) (l_nil ?_)))
 exact qJ (fun w s => s)
 refine lf (wfF hc92) (lf (wfF hc92) (lO (pAF ((ix p1.Offsets x84) != (-1 : Int)) R hc92) (l_nil ?_)))
 exact qJ (fun w s => s)
 rintro σ1
 refine q_next ?_
 rcases bif_ hr with ⟨hb93, hr⟩ | ⟨hb93, hr⟩
 refine c_true R hb93 (c_seq (c_region (lB R (l_nil (q_next (c_ret (q_blockr (q_ret ?_))))))))
 obtain rfl := so hr
 obtain rfl := he2 _ R
 have hr := hk2
 refine q_ret (q_blockr (q_ret ?_))
 obtain rfl := so hr
 exact qF () (fun w s => (s.e 11 []))
 refine c_false R hb93 (c_skip (q_blockn (q_next (c_region (lO (vAd R R) (lI R (l_nil ?_)))))))
 obtain rfl := so hr
 exact qA ((ad g87 o88), p1.Offsets.length, D83) (fun w s => s)
 refine c_false R hb85 (c_exit (q_exit ?_))
 obtain rfl := so hr
 obtain rfl := he2 _ R
 have hr := hk2
 refine q_exit (q_block ?_)
 exact qI ((), ()) hr (fun w s => (s.e 4 [0, 1]))
 rintro ⟨_, _⟩ σ1 hr
 replace hr : impl_PlanOk_J2 r15 offsets70 = some r := hr
 unfold impl_PlanOk_J2 at hr
 refine c_seq ?_
 obtain ⟨r96, hx97, hr⟩ := bd hr
 refine c_region (lS R (lS R (lC 2 cb152 R (FnOk.lends (A' := [OO kT114 114 A69 D69 r15, OO kT3 3 A71 D71 offsets70]) (A := [RR kT114 A69 D69 r15, RR kT3 A71 D71 offsets70]) (B := []) (impl_PackOk_ok hx97) ⟨lend_ow, lend_ow, trivial⟩ (fun _ => trivial)) R ?_)))
 rintro _
 refine lN (OO kT114 114 A69 D69 r15 :: OO kT3 3 A71 D71 offsets70 :: W1) ?_
 refine lB R (l_nil (q_next (c_ret ?_)))
 obtain rfl := so hr
 exact qF () (fun w s => (s.e 9 []))
theorem impl_Plan_born_ok {p1 : Plan} {r : (List (List Int))} (hr : impl_Plan_born p1 = some r) :
 FnOk Try.prog 153 [(.agg [(.slice A2 N2 D2), (.slice A3 N3 D3), (.slice A4 N4 D4), (.slice A5 N5 D5), (.slice A6 N6 D6), (.slice A7 N7 D7), (iv p1.Arena)].toArray)] [rds kT3 (.slice A2 N2 D2) p1.Nest.Sizes, rds kT3 (.slice A3 N3 D3) p1.Nest.Ins, rds kT159 (.slice A4 N4 D4) p1.Nest.Fixed, rds kT127 (.slice A5 N5 D5) p1.Nest.Kernels, rds kT3 (.slice A6 N6 D6) p1.Nest.Outs, rds kT3 (.slice A7 N7 D7) p1.Offsets] (fun (h : HH) => ((.slice h.1 h.2.1 h.2.2), [ow kT29 29 (.slice h.1 h.2.1 h.2.2) r])) := by
 unfold impl_Plan_born at hr
 refine fn_ok Try.func153 R 49 R R fun C V => ?_
 refine cN (_ :: _ :: _ :: _ :: _ :: _ :: V) ?_
 refine cL 0 sees_rd ?_
 rintro rfl
 refine cL 1 sees_rd ?_
 rintro rfl
 refine cL 2 sees_rd ?_
 rintro rfl
 refine cL 3 sees_rd ?_
 rintro rfl
 refine cL 4 sees_rd ?_
 rintro rfl
 refine cL 5 sees_rd ?_
 rintro rfl
 let W0 : List HP := RR kT3 A2 D2 p1.Nest.Sizes :: RR kT3 A3 D3 p1.Nest.Ins :: RR kT159 A4 D4 p1.Nest.Fixed :: RR kT127 A5 D5 p1.Nest.Kernels :: RR kT3 A6 D6 p1.Nest.Outs :: RR kT3 A7 D7 p1.Offsets :: V
 refine cN W0 ?_
 refine c_seq (c_region (lBx R (fun b8 => (lS R (l_nil ?_)))))
 let W1 : List HP := bxl b8 [(sc A2 p1.Nest.Sizes D2), (sc A3 p1.Nest.Ins D3), (sc A4 p1.Nest.Fixed D4), (sc A5 p1.Nest.Kernels D5), (sc A6 p1.Nest.Outs D6), (sc A7 p1.Offsets D7), (iv p1.Arena)] 71 :: W0
 refine qN W1 ?_
 refine q_next (c_seq ?_)
 obtain ⟨r9, hx10, hr⟩ := bd hr
 refine c_region (lO (vFa 0 fo71_0 R) (lO (vz (.agg [(sc A2 p1.Nest.Sizes D2), (sc A3 p1.Nest.Ins D3), (sc A4 p1.Nest.Fixed D4), (sc A5 p1.Nest.Kernels D5), (sc A6 p1.Nest.Outs D6)].toArray) (v_loadw 0 ag58 sz58 R R R R)) (lM (RR kT3 A2 D2 p1.Nest.Sizes :: RR kT3 A3 D3 p1.Nest.Ins :: RR kT159 A4 D4 p1.Nest.Fixed :: RR kT127 A5 D5 p1.Nest.Kernels :: RR kT3 A6 D6 p1.Nest.Outs :: W1) (fun w s => ((((((s.d 1 R).d 3 R).d 5 R).d 7 R).d 9 R).e 5 [4, 3, 2, 1, 0])) ?_)))
 refine lC 5 cb129 R (impl_Nest_given_ok hx10) R ?_
 rintro ⟨A11, N11, D11⟩
 refine lN (ow kT4 4 (.slice A11 N11 D11) r9.1 :: W1) ?_
 refine l_len 0 sees_ow ?_
 rintro rfl
 refine lO (vT R) (lS R (lB R (lS R (lB R (l_nil (q_next (c_seq ?_)))))))
 obtain ⟨hg12, hr⟩ := gd hr
 refine c_region (lO (vFa 0 fo71_0 R) (lO (vFa 3 fo58_3 R) (lO (vLd 1 ag56 R R R) (lO (v_len sl56 R) (lO (vAd R R) (l_make (K := kT29) (m := (w64 ((p1.Nest.Kernels.length : Int) + (1 : Int)))) (z := ([] : (List Int))) R R sl194 sz29 by29 (Zr.zk zT29 zc29) (by decide) R R hg12.1 hg12.2.1 hg12.2.2 (fun A13 D13 => (lS R (l_nil (q_next (c_seq (c_cut (A := ((List (List Int))) × (Unit)) (fun a => impl_Plan_born_J3 a.1 = some r) (fun a => [(5, (sc A13 (List.replicate (w64 ((p1.Nest.Kernels.length : Int) + (1 : Int))).toNat ([] : (List Int))) D13))]) (fun a => ow kT29 29 (.slice A13 (List.replicate (w64 ((p1.Nest.Kernels.length : Int) + (1 : Int))).toNat ([] : (List Int))).length D13) a.1 :: W1) ?_ ?_))))))))))))
 refine c_seq ?_
 obtain ⟨r14, hx15, hr⟩ := bd hr
 refine c_region (lO (vFa 0 fo71_0 R) (lO (vz (.agg [(sc A2 p1.Nest.Sizes D2), (sc A3 p1.Nest.Ins D3), (sc A4 p1.Nest.Fixed D4), (sc A5 p1.Nest.Kernels D5), (sc A6 p1.Nest.Outs D6)].toArray) (v_loadw 2 ag58 sz58 R R R R)) (lM (RR kT3 A2 D2 p1.Nest.Sizes :: RR kT3 A3 D3 p1.Nest.Ins :: RR kT159 A4 D4 p1.Nest.Fixed :: RR kT127 A5 D5 p1.Nest.Kernels :: RR kT3 A6 D6 p1.Nest.Outs :: OO kT29 29 A13 D13 (List.replicate (w64 ((p1.Nest.Kernels.length : Int) + (1 : Int))).toNat ([] : (List Int))) :: ow _ _ _ _ :: W1) (fun w s => ((((((s.d 3 R).d 5 R).d 7 R).d 9 R).d 11 R).e 7 [4, 3, 2, 1, 0, 5, 6])) ?_)))
 refine lC 5 cb151 R (impl_Nest_lives_ok hx15) R ?_
 rintro ⟨A16, N16, D16⟩
 refine lN (ow kT114 114 (.slice A16 N16 D16) r14 :: _ :: _ :: W1) ?_
 refine l_len 0 sees_ow ?_
 rintro rfl
 refine lO (v_len sl183 R) (lI R (l_nil (q_next (c_block ?_))))
 obtain ⟨e1, hl1, hk1⟩ := bd hr
 refine c_loop (A := Unit) hl1 (fun s a => [(3, (sc A11 r9.1 D11)), (5, (sc A13 (List.replicate (w64 ((p1.Nest.Kernels.length : Int) + (1 : Int))).toNat ([] : (List Int))) D13)), (22, (sc A16 r14 D16)), (23, (il r14)), (24, (iv s.2))]) (fun s a => OO kT4 4 A11 D11 r9.1 :: ow kT29 29 (.slice A13 (List.replicate (w64 ((p1.Nest.Kernels.length : Int) + (1 : Int))).toNat ([] : (List Int))).length D13) s.1 :: OO kT114 114 A16 D16 r14 :: W1) () (aS R) (fun w s => (s.e 3 [2, 1, 0])) ?_
 rintro ⟨x36, x37⟩ _ σ1 out1 hr he1
 replace hr : impl_Plan_born_L1 p1 r9 r14 x36 x37 = some out1 := hr
 unfold impl_Plan_born_L1 at hr
 refine c_seq (c_region (lO (vLt R R) (l_nil (q_next (c_seq ?_)))))
 rcases bif_ hr with ⟨hb38, hr⟩ | ⟨hb38, hr⟩
 refine c_true R hb38 (c_skip (q_next (c_seq (c_cut (A := ((List (List Int))) × (Unit)) (fun a => impl_Plan_born_J2 x37 a.1 = some out1) (fun a => [(3, (sc A11 r9.1 D11)), (5, (sc A13 (List.replicate (w64 ((p1.Nest.Kernels.length : Int) + (1 : Int))).toNat ([] : (List Int))) D13)), (22, (sc A16 r14 D16)), (23, (il r14)), (24, (iv x37))]) (fun a => OO kT4 4 A11 D11 r9.1 :: ow kT29 29 (.slice A13 (List.replicate (w64 ((p1.Nest.Kernels.length : Int) + (1 : Int))).toNat ([] : (List Int))).length D13) a.1 :: OO kT114 114 A16 D16 r14 :: W1) ?_ ?_))))
 refine c_block (c_seq ?_)
 obtain ⟨hg39, hr⟩ := gd hr
 refine c_region (t_some 2 sees_ow (show 0 < r14.length by have := hg39; omega) (fun g40 o41 ha => ?_))
 subst ha
 refine lO (vIa sl183 sz114 R R hg39) (l_v (.agg [(iv (ix r14 x37).Buffer), (iv (ix r14 x37).Size), (iv (ix r14 x37).From), (iv (ix r14 x37).To)].toArray) ?_ R R ?_)
 exact (v_ldef (K := kT114) (cells := fun x => [(iv x.Buffer), (iv x.Size), (iv x.From), (iv x.To)]) 2 x37 ag114 sz114 (DecK.flat dT114 fun _ _ => R) sees_ow R hg39.1 hg39.2)
 refine l_alloc R R zc114 (fun b42 => (l_stores 0 R R sz114 R R R R R R (lN (bxl b42 [(iv (ix r14 x37).Buffer), (iv (ix r14 x37).Size), (iv (ix r14 x37).From), (iv (ix r14 x37).To)] 114 :: _ :: ow kT29 29 (.slice A13 (List.replicate (w64 ((p1.Nest.Kernels.length : Int) + (1 : Int))).toNat ([] : (List Int))).length D13) x36 :: OO kT114 114 (ad g40 o41) D16 r14 :: W1) ?_)))
 refine l_nil (q_next (c_seq ?_))
 obtain ⟨hg43, hr⟩ := gd hr
 refine c_region (lS R (lO (vFa 0 fo114_0 R) (lO (vLd 0 ag3 R R R) (t_some 1 sees_ow (show 0 < r9.1.length by have := hg43; omega) (fun g44 o45 ha => ?_)))))
 subst ha
 refine lO (vIa sl168 sz4 R R hg43) (lO (vz (.bool (ix r9.1 (ix r14 x37).Buffer)) (v_lde (K := kT4) (fo := 0) (pr := fun x => (.bool x)) 1 (ix r14 x37).Buffer ag4 (dT4.leaf fun _ _ => R) sees_ow R hg43.1 hg43.2)) (lO (vNo R) (l_nil (q_next ?_))))
 rcases bif_ hr with ⟨hb46, hr⟩ | ⟨hb46, hr⟩
 refine c_true R hb46 ?_
 obtain ⟨hg47, hr⟩ := gd hr
 obtain ⟨hg52, hr⟩ := gd hr
 refine c_some 2 sees_ow (show 0 < (List.replicate (w64 ((p1.Nest.Kernels.length : Int) + (1 : Int))).toNat ([] : (List Int))).length by have := hg47; omega) (fun g48 o49 ha => ?_)
 subst ha
 refine c_focus (K := kT29) sP29 2 (ix r14 x37).From R hg47.1 hg47.2 ?_
 rintro ⟨A50, D50⟩
 refine cN (hol kT29 29 (.slice (ad g48 o49) (List.replicate (w64 ((p1.Nest.Kernels.length : Int) + (1 : Int))).toNat ([] : (List Int))).length D13) x36 (ix r14 x37).From.toNat [(sc A50 (ix x36 (ix r14 x37).From) D50)] :: OO kT3 3 A50 D50 (ix x36 (ix r14 x37).From) :: _ :: OO kT4 4 (ad g44 o45) D11 r9.1 :: _ :: W1) ?_
 refine cdr 12 [1] mixo (fun ht hn => (dR 0 R (vS R) (hS := (sL [1])) (dR 1 R (vFa 2 fo114_2 R) (hS := (sL [1])) (dR 2 R (vLd 1 ag3 R R R) (hS := (sL [1])) (dR 3 R (vS R) (hS := (sL [1])) (dR 4 R (vFa 2 fo114_2 R) (hS := (sL [1])) (dR 5 R (vLd 1 ag3 R R R) (hS := (sL [1])) (dR 6 R (vIa sl194 sz29 R R hg47) (hS := (sL [1])) (dR 7 R (v_holf (fo := 0) 0 ag29 R R R) (hS := (sL [1])) (dR 8 R (vFa 0 fo114_0 R) (hS := (sL [1])) (dR 9 R (vLd 1 ag3 R R R) (hS := (sL [1])) (d_one 10 (by kernel_rfl) R (l_build (K := kT3) (xs := ([(ix r14 x37).Buffer] : List Int)) (vs := [(iv (ix r14 x37).Buffer)]) 0 R R sl29 sz3 zc3 R R R R R R ?_ R (fun A51 D51 => ?_))))))))))))))
 exact fun I h s => (mO3).list [((), (ix r14 x37).Buffer)] I h s
 refine lN (OO kT3 3 A51 D51 ([(ix r14 x37).Buffer] : List Int) :: _ :: _ :: _ :: _ :: _ :: W1) ?_
 refine l_nil (q_draw (sL [2, 0]) (d_one 11 (by kernel_rfl) R (lM (ow _ _ _ _ :: ow _ _ _ _ :: hol _ _ _ _ _ _ :: bxl _ _ _ :: ow _ _ _ _ :: ow _ _ _ _ :: W1) (fun w s => (s.e 6 [2, 0, 1, 3, 4, 5])) ?_)))
 refine l_app (K := kT3) 17592186044416 R R sl29 sz3 by3 (Zr.zk zT3 zc3) R R R R R R src_ow hg52 (fun A53 D53 => (lN (OO kT3 3 A53 D53 ((ix x36 (ix r14 x37).From) ++ ([(ix r14 x37).Buffer] : List Int)) :: _ :: _ :: _ :: _ :: W1) ?_))
 refine l_nil (q_draw (sL [0]) (d_one 12 (by kernel_rfl) R (lO (vIa sl194 sz29 R R hg47) (l_nil (q_last R (d_one 13 (by kernel_rfl) R (l_sth (K := kT29) (fo := 0) (v := (sc A53 ((ix x36 (ix r14 x37).From) ++ ([(ix r14 x37).Buffer] : List Int)) D53)) 1 R R sz29 R R R R R (lN (_ :: hol kT29 29 (.slice (ad g48 o49) (List.replicate (w64 ((p1.Nest.Kernels.length : Int) + (1 : Int))).toNat ([] : (List Int))).length D13) x36 (ix r14 x37).From.toNat [(sc A53 ((ix x36 (ix r14 x37).From) ++ ([(ix r14 x37).Buffer] : List Int)) D53)] :: _ :: _ :: _ :: W1) ?_))))))))
 refine l_nil (q_last R (d_done (by kernel_rfl) (qM (ow kT29 29 (.slice (ad g48 o49) (List.replicate (w64 ((p1.Nest.Kernels.length : Int) + (1 : Int))).toNat ([] : (List Int))).length D13) (x36.set (ix r14 x37).From.toNat ((ix x36 (ix r14 x37).From) ++ ([(ix r14 x37).Buffer] : List Int))) :: bxl _ _ _ :: ow _ _ _ _ :: ow _ _ _ _ :: W1) (fun w s => St.unfocus (E := [OO kT3 3 A53 D53 ((ix x36 (ix r14 x37).From) ++ ([(ix r14 x37).Buffer] : List Int))]) ((ix x36 (ix r14 x37).From) ++ ([(ix r14 x37).Buffer] : List Int)) (s.e 5 [1, 0, 2, 3, 4]) ?_) ?_)))
 exact fun I h s => (mO29).put I h (sc A53 ((ix x36 (ix r14 x37).From) ++ ([(ix r14 x37).Buffer] : List Int)) D53) ((ix x36 (ix r14 x37).From) ++ ([(ix r14 x37).Buffer] : List Int)) s
 obtain ⟨l54, hl55, hr⟩ := bd hr
 replace hl55 := Option.some.inj hl55
 refine qM (ow kT29 29 (.slice (ad g48 o49) (List.replicate (w64 ((p1.Nest.Kernels.length : Int) + (1 : Int))).toNat ([] : (List Int))).length D13) l54 :: _ :: _ :: _ :: W1) (fun w s => by rw [← hl55]; exact s) ?_
 refine q_blockn ?_
 exact qI (l54, ()) hr (fun w s => (s.e 4 [2, 0, 3]))
 refine c_false R hb46 (c_skip (q_blockn ?_))
 exact qI (x36, ()) hr (fun w s => (s.f 4 [1, 3]))
 rintro ⟨x56, _⟩ σ1 hr
 replace hr : impl_Plan_born_J2 x37 x56 = some out1 := hr
 unfold impl_Plan_born_J2 at hr
 refine c_region (lO (vAd R R) (lI R (l_nil ?_)))
 obtain rfl := so hr
 exact qA () (fun w s => s)
 refine c_false R hb38 (c_exit (q_exit ?_))
 obtain rfl := so hr
 obtain rfl := he1 _ R
 have hr := hk1
 refine q_exit (q_block ?_)
 exact qI (x36, ()) hr (fun w s => (s.e 3 [1]))
 rintro ⟨x59, _⟩ σ1 hr
 replace hr : impl_Plan_born_J3 x59 = some r := hr
 unfold impl_Plan_born_J3 at hr
 refine c_seq (c_region (lS R (lS R (l_nil (q_next (c_ret ?_))))))
 obtain rfl := so hr
 exact qF (A13, (List.replicate (w64 ((p1.Nest.Kernels.length : Int) + (1 : Int))).toNat ([] : (List Int))).length, D13) (fun w s => (s.e 8 [0]))
theorem impl_writer_put_ok {p1 : writer} {op4 : Int} {a5 : Int} {b6 : Int} {c7 : Int} {b2 : Nat} {r : writer} (hr : impl_writer_put p1 op4 a5 b6 c7 = some r) :
 FnOk Try.prog 154 [(pt b2 0), (iv op4), (iv a5), (iv b6), (iv c7)] [ow kT119 119 (.slice A3 N3 D3) p1.code, bxl b2 [(.slice A3 N3 D3)] 193] (fun (h : HH) => ((.tuple [].toArray), [ow kT119 119 (.slice h.1 h.2.1 h.2.2) r.code, bxl b2 [(.slice h.1 h.2.1 h.2.2)] 193])) := by
 unfold impl_writer_put at hr
 refine fn_ok Try.func154 R 24 R R fun C V => ?_
 refine cN (_ :: _ :: V) ?_
 refine cL 0 sees_ow ?_
 rintro rfl
 obtain ⟨hg9, hr⟩ := gd hr
 refine c_region (lP R (lP R (lP R (lO (vFa 0 fo193_0 R) (lO (vLd 1 ag67 R R R) (lI R (lI R (lI R (lI R (lO (vz (.agg [(iv op4), (iv a5), (iv b6), (iv c7)].toArray) (v_build pl119 zc119 R R)) (l_build (K := kT119) (xs := ([(⟨op4, a5, b6, c7⟩ : Instr)] : List Instr)) (vs := [(.agg [(iv op4), (iv a5), (iv b6), (iv c7)].toArray)]) 0 R R sl67 sz119 zc119 R R R R R R ?_ R (fun A8 D8 => ?_))))))))))))
 exact fun I h s => (mO119).list [(((), (), (), ()), (⟨op4, a5, b6, c7⟩ : Instr))] I h s
 refine lN (OO kT119 119 A8 D8 ([(⟨op4, a5, b6, c7⟩ : Instr)] : List Instr) :: _ :: bxl b2 [(sc A3 p1.code D3)] 193 :: V) ?_
 refine lM (ow _ _ _ _ :: ow _ _ _ _ :: bxl _ _ _ :: V) (fun w s => (s.e 3 [1, 0, 2])) ?_
 refine l_app (K := kT119) 4398046511104 R R sl67 sz119 by119 (Zr.zk zT119 zc119) R R R R R R src_ow hg9 (fun A10 D10 => (lN (OO kT119 119 A10 D10 (p1.code ++ ([(⟨op4, a5, b6, c7⟩ : Instr)] : List Instr)) :: _ :: V) ?_))
 refine lP R (lO (vFa 0 fo193_0 R) (l_store 1 R R sz67 R R R R R (lN (_ :: bxl b2 [(sc A10 (p1.code ++ ([(⟨op4, a5, b6, c7⟩ : Instr)] : List Instr)) D10)] 193 :: V) ?_)))
 refine l_nil ?_
 let W1 : List HP := bxl b2 [(sc A10 (p1.code ++ ([(⟨op4, a5, b6, c7⟩ : Instr)] : List Instr)) D10)] 193 :: V
 refine qN (_ :: W1) ?_
 obtain rfl := so hr
 exact q_fin (vs := []) (.inr R) (A10, (p1.code ++ ([(⟨op4, a5, b6, c7⟩ : Instr)] : List Instr)).length, D10) R trivial R (fun w s => s)
theorem impl_writer_move_ok {p1 : writer} {base4 : Int} {p5 : Int} {b2 : Nat} {r : writer} (hr : impl_writer_move p1 base4 p5 = some r) :
 FnOk Try.prog 202 [(pt b2 0), (iv base4), (iv p5)] [ow kT119 119 (.slice A3 N3 D3) p1.code, bxl b2 [(.slice A3 N3 D3)] 193] (fun (h : HH) => ((.tuple [].toArray), [ow kT119 119 (.slice h.1 h.2.1 h.2.2) r.code, bxl b2 [(.slice h.1 h.2.1 h.2.2)] 193])) := by
 unfold impl_writer_move at hr
 refine fn_ok Try.func202 R 12 R R fun C V => ?_
 refine cN (_ :: _ :: V) ?_
 refine cL 0 sees_ow ?_
 rintro rfl
 refine c_seq (c_region (lI R (lO (vNe R R) (l_nil (q_next ?_)))))
 rcases bif_ hr with ⟨hb6, hr⟩ | ⟨hb6, hr⟩
 refine c_true R hb6 ?_
 obtain ⟨r7, hx8, hr⟩ := bd hr
 refine c_region (lP R (lI R (lI R (lC 2 cb154 R (impl_writer_put_ok hx8) R ?_))))
 rintro ⟨A9, N9, D9⟩
 refine lN (ow kT119 119 (.slice A9 N9 D9) r7.code :: bxl b2 [(.slice A9 N9 D9)] 193 :: V) ?_
 refine l_len 0 sees_ow ?_
 rintro rfl
 refine l_nil ?_
 obtain rfl := so hr
 exact q_fin (vs := []) (.inr R) (A9, r7.code.length, D9) R trivial R (fun w s => s)
 refine c_false R hb6 (c_skip ?_)
 obtain rfl := so hr
 exact q_fin (vs := []) (.inr R) (A3, p1.code.length, D3) R trivial R (fun w s => s)
theorem impl_writer_chunks_ok {p1 : writer} {n4 : Int} {steps5 : (List Int)} {body7 : (List Instr)} {b2 : Nat} {r : writer} (hr : impl_writer_chunks p1 n4 steps5 body7 = some r) :
 FnOk Try.prog 155 [(pt b2 0), (iv n4), (.slice A6 N6 D6), (.slice A8 N8 D8)] [ow kT119 119 (.slice A3 N3 D3) p1.code, bxl b2 [(.slice A3 N3 D3)] 193, rds kT3 (.slice A6 N6 D6) steps5, rds kT119 (.slice A8 N8 D8) body7] (fun (h : HH) => ((.tuple [].toArray), [ow kT119 119 (.slice h.1 h.2.1 h.2.2) r.code, bxl b2 [(.slice h.1 h.2.1 h.2.2)] 193])) := by
 unfold impl_writer_chunks at hr
 refine fn_ok Try.func155 R 65 R R fun C V => ?_
 refine cN (_ :: _ :: _ :: _ :: V) ?_
 refine cL 0 sees_ow ?_
 rintro rfl
 refine cL 2 sees_rd ?_
 rintro rfl
 refine cL 3 sees_rd ?_
 rintro rfl
 let W0 : List HP := RR kT3 A6 D6 steps5 :: RR kT119 A8 D8 body7 :: V
 refine cN (_ :: bxl b2 [(sc A3 p1.code D3)] 193 :: W0) ?_
 refine c_seq (c_region (lI R (lO (vz (iv (w64 (n4.tdiv (8 : Int)))) (v_quo R R (by decide))) (lI R (lO (v_rem R R (by decide)) (lI R (lI R (l_nil (q_next (c_seq (c_cut (A := ((List Instr)) × (HH)) (fun a => impl_writer_chunks_J3 n4 body7 a.1 = some r) (fun a => [(0, (pt b2 0)), (3, (sc A8 body7 D8)), (9, (iv (n4.tmod (8 : Int))))]) (fun a => bxl b2 [(.slice a.2.1 a.2.2.1 a.2.2.2)] 193 :: ow kT119 119 (.slice a.2.1 a.2.2.1 a.2.2.2) a.1 :: W0) ?_ ?_)))))))))))
 refine c_seq (c_region (lI R (lO (vGt R R) (l_nil (q_next ?_)))))
 rcases bif_ hr with ⟨hb9, hr⟩ | ⟨hb9, hr⟩
 refine c_true R hb9 (c_seq ?_)
 obtain ⟨r10, hx11, hr⟩ := bd hr
 refine c_region (lP R (lC 2 cb154 R (impl_writer_put_ok hx11) R ?_))
 rintro ⟨A12, N12, D12⟩
 refine lN (ow kT119 119 (.slice A12 N12 D12) r10.code :: bxl b2 [(.slice A12 N12 D12)] 193 :: W0) ?_
 refine l_len 0 sees_ow ?_
 rintro rfl
 refine l_nil (q_next (c_seq (c_cut (A := ((List Instr)) × (HH)) (fun a => impl_writer_chunks_J1 n4 steps5 body7 a.1 = some r) (fun a => [(0, (pt b2 0)), (2, (sc A6 steps5 D6)), (3, (sc A8 body7 D8)), (8, (iv (w64 (n4.tdiv (8 : Int))))), (9, (iv (n4.tmod (8 : Int))))]) (fun a => bxl b2 [(.slice a.2.1 a.2.2.1 a.2.2.2)] 193 :: ow kT119 119 (.slice a.2.1 a.2.2.1 a.2.2.2) a.1 :: W0) ?_ ?_)))
 refine c_seq (c_region (lI R (lO (vGt R R) (l_nil (q_next ?_)))))
 rcases bif_ hr with ⟨hb13, hr⟩ | ⟨hb13, hr⟩
 refine c_true R hb13 ?_
 obtain ⟨r14, hx15, hr⟩ := bd hr
 refine c_region (lP R (lI R (lC 2 cb154 R (impl_writer_put_ok hx15) R ?_)))
 rintro ⟨A16, N16, D16⟩
 refine lN (ow kT119 119 (.slice A16 N16 D16) r14.code :: bxl b2 [(.slice A16 N16 D16)] 193 :: W0) ?_
 refine l_len 0 sees_ow ?_
 rintro rfl
 refine l_nil ?_
 exact qI (r14.code, (A16, r14.code.length, D16)) hr (fun w s => (s.e 2 [1, 0]))
 refine c_false R hb13 (c_skip ?_)
 exact qI (r10.code, (A12, r10.code.length, D12)) hr (fun w s => (s.e 2 [1, 0]))
 rintro ⟨x17, ⟨A18, N18, D18⟩⟩ σ1 hr
 replace hr : impl_writer_chunks_J1 n4 steps5 body7 x17 = some r := hr
 unfold impl_writer_chunks_J1 at hr
 refine c_len 1 sees_ow (fun (hn : N18 = x17.length) => ?_)
 subst hn
 refine c_seq ?_
 obtain ⟨hg19, hr⟩ := gd hr
 refine c_region (lP R (lP R (lP R (lO (vFa 0 fo193_0 R) (lO (vLd 0 ag67 R R R) (lS R (lM (OO kT119 119 A18 D18 x17 :: RR kT119 A8 D8 body7 :: bxl b2 [(sc A18 x17 D18)] 193 :: W0) (fun w s => ((s.dup 3 R).mv 2)) ?_)))))))
 refine l_app (K := kT119) 4398046511104 R R sl67 sz119 by119 (Zr.zk zT119 zc119) R R R R R R (src_rd (Kind.iso_flat (Kind.pair_flat (Kind.scal_flat _ _) (Kind.pair_flat (Kind.scal_flat _ _) (Kind.pair_flat (Kind.scal_flat _ _) (Kind.scal_flat _ _)))) _)) hg19 (fun A20 D20 => (lN (OO kT119 119 A20 D20 (x17 ++ body7) :: _ :: W0) ?_))
 refine lP R (lO (vFa 0 fo193_0 R) (l_store 1 R R sz67 R R R R R (lN (_ :: bxl b2 [(sc A20 (x17 ++ body7) D20)] 193 :: W0) ?_)))
 refine l_nil (q_next (c_seq (c_cut (A := ((List Instr)) × (HH)) (fun a => impl_writer_chunks_J2 n4 body7 a.1 = some r) (fun a => [(0, (pt b2 0)), (3, (sc A8 body7 D8)), (8, (iv (w64 (n4.tdiv (8 : Int))))), (9, (iv (n4.tmod (8 : Int))))]) (fun a => bxl b2 [(.slice a.2.1 a.2.2.1 a.2.2.2)] 193 :: ow kT119 119 (.slice a.2.1 a.2.2.1 a.2.2.2) a.1 :: W0) ?_ ?_)))
 refine c_seq (c_region (lS R (lO (v_len sl29 R) (lI R (l_nil (q_next (c_block ?_)))))))
 obtain ⟨e1, hl1, hk1⟩ := bd hr
 refine c_loop (A := HH) hl1 (fun s a => [(0, (pt b2 0)), (3, (sc A8 body7 D8)), (8, (iv (w64 (n4.tdiv (8 : Int))))), (9, (iv (n4.tmod (8 : Int)))), (34, (sc A6 steps5 D6)), (35, (il steps5)), (36, (iv s.2))]) (fun s a => bxl b2 [(.slice a.1 a.2.1 a.2.2)] 193 :: ow kT119 119 (.slice a.1 a.2.1 a.2.2) s.1 :: W0) (A20, (x17 ++ body7).length, D20) (aS R) (fun w s => (s.e 2 [1, 0])) ?_
 rintro ⟨x28, x30⟩ ⟨A29, N29, D29⟩ σ1 out1 hr he1
 replace hr : impl_writer_chunks_L1 steps5 x28 x30 = some out1 := hr
 unfold impl_writer_chunks_L1 at hr
 refine c_len 1 sees_ow (fun (hn : N29 = x28.length) => ?_)
 subst hn
 refine c_seq (c_region (lO (vLt R R) (l_nil (q_next (c_seq ?_)))))
 rcases bif_ hr with ⟨hb31, hr⟩ | ⟨hb31, hr⟩
 refine c_true R hb31 (c_skip (q_next (c_seq (c_block (c_seq ?_)))))
 obtain ⟨hg32, hr⟩ := gd hr
 refine c_region (lI R (t_some 2 sees_rd (show 0 < steps5.length by have := hg32; omega) (fun g33 o34 ha => ?_)))
 subst ha
 refine lO (vIa sl29 sz3 R R hg32) (lO (vLi 2 ag3 sees_rd R hg32) (lI R (lI R (l_nil (q_next ?_)))))
 obtain ⟨r35, hx36, hr⟩ := bd hr
 refine c_region (lP R (lI R (lI R (lO (vMu R R) (lM (OO kT119 119 A29 D29 x28 :: bxl b2 [(sc A29 x28 D29)] 193 :: W0) (fun w s => (s.e 2 [1, 0])) ?_)))))
 refine lC 2 cb202 R (impl_writer_move_ok hx36) R ?_
 rintro ⟨A37, N37, D37⟩
 refine lN (ow kT119 119 (.slice A37 N37 D37) r35.code :: bxl b2 [(.slice A37 N37 D37)] 193 :: W0) ?_
 refine l_len 0 sees_ow ?_
 rintro rfl
 refine l_nil (q_blockn (q_next (c_region (lO (vAd R R) (lI R (l_nil ?_))))))
 obtain rfl := so hr
 exact qA (A37, r35.code.length, D37) (fun w s => (s.e 2 [1, 0]))
 refine c_false R hb31 (c_exit (q_exit ?_))
 obtain rfl := so hr
 obtain rfl := he1 _ R
 have hr := hk1
 refine q_exit (q_block ?_)
 exact qI (x28, (A29, x28.length, D29)) hr (fun w s => s)
 rintro ⟨x41, ⟨A42, N42, D42⟩⟩ σ1 hr
 replace hr : impl_writer_chunks_J2 n4 body7 x41 = some r := hr
 unfold impl_writer_chunks_J2 at hr
 refine c_len 1 sees_ow (fun (hn : N42 = x41.length) => ?_)
 subst hn
 refine c_seq (c_region (lI R (lO (vGt R R) (l_nil (q_next ?_)))))
 rcases bif_ hr with ⟨hb43, hr⟩ | ⟨hb43, hr⟩
 refine c_true R hb43 ?_
 obtain ⟨r44, hx45, hr⟩ := bd hr
 refine c_region (lP R (lM (OO kT119 119 A42 D42 x41 :: bxl b2 [(sc A42 x41 D42)] 193 :: W0) (fun w s => (s.e 2 [1, 0])) ?_))
 refine lC 2 cb154 R (impl_writer_put_ok hx45) R ?_
 rintro ⟨A46, N46, D46⟩
 refine lN (ow kT119 119 (.slice A46 N46 D46) r44.code :: bxl b2 [(.slice A46 N46 D46)] 193 :: W0) ?_
 refine l_len 0 sees_ow ?_
 rintro rfl
 refine l_nil ?_
 exact qI (r44.code, (A46, r44.code.length, D46)) hr (fun w s => (s.e 2 [1, 0]))
 refine c_false R hb43 (c_skip ?_)
 exact qI (x41, (A42, x41.length, D42)) hr (fun w s => s)
 refine c_false R hb9 (c_skip ?_)
 exact qI (p1.code, (A3, p1.code.length, D3)) hr (fun w s => (s.e 2 [1, 0]))
 rintro ⟨x47, ⟨A48, N48, D48⟩⟩ σ1 hr
 replace hr : impl_writer_chunks_J3 n4 body7 x47 = some r := hr
 unfold impl_writer_chunks_J3 at hr
 refine c_len 1 sees_ow (fun (hn : N48 = x47.length) => ?_)
 subst hn
 refine c_seq (c_region (lI R (lO (vGt R R) (l_nil (q_next ?_)))))
 rcases bif_ hr with ⟨hb49, hr⟩ | ⟨hb49, hr⟩
 refine c_true R hb49 (c_seq ?_)
 obtain ⟨r50, hx51, hr⟩ := bd hr
 refine c_region (lP R (lI R (lM (OO kT119 119 A48 D48 x47 :: bxl b2 [(sc A48 x47 D48)] 193 :: W0) (fun w s => (s.e 2 [1, 0])) ?_)))
 refine lC 2 cb154 R (impl_writer_put_ok hx51) R ?_
 rintro ⟨A52, N52, D52⟩
 refine lN (ow kT119 119 (.slice A52 N52 D52) r50.code :: bxl b2 [(.slice A52 N52 D52)] 193 :: W0) ?_
 refine l_len 0 sees_ow ?_
 rintro rfl
 refine l_nil (q_next ?_)
 obtain ⟨hg53, hr⟩ := gd hr
 refine c_region (lP R (lP R (lP R (lO (vFa 0 fo193_0 R) (lO (vLd 1 ag67 R R R) (lS R (lM (_ :: RR kT119 A8 D8 body7 :: bxl b2 [(sc A52 r50.code D52)] 193 :: W0) (fun w s => ((s.dup 3 R).mv 1)) ?_)))))))
 refine l_app (K := kT119) 4398046511104 R R sl67 sz119 by119 (Zr.zk zT119 zc119) R R R R R R (src_rd (Kind.iso_flat (Kind.pair_flat (Kind.scal_flat _ _) (Kind.pair_flat (Kind.scal_flat _ _) (Kind.pair_flat (Kind.scal_flat _ _) (Kind.scal_flat _ _)))) _)) hg53 (fun A54 D54 => (lN (OO kT119 119 A54 D54 (r50.code ++ body7) :: _ :: W0) ?_))
 refine lP R (lO (vFa 0 fo193_0 R) (l_store 1 R R sz67 R R R R R (lN (_ :: bxl b2 [(sc A54 (r50.code ++ body7) D54)] 193 :: W0) ?_)))
 refine l_nil ?_
 obtain rfl := so hr
 exact q_fin (vs := []) (.inr R) (A54, (r50.code ++ body7).length, D54) R trivial R (fun w s => (s.e 4 [0, 1]))
 refine c_false R hb49 (c_skip ?_)
 obtain rfl := so hr
 exact q_fin (vs := []) (.inr R) (A48, x47.length, D48) R trivial R (fun w s => (s.e 4 [1, 0]))
theorem impl_writer_kernel_1_ok {a1 : Access} {p3 : Int} {b4 : Nat} {r : Int} (hr : impl_writer_kernel_1 a1 p3 = some r) :
 FnOk Try.prog 204 [(.agg [(iv a1.Buffer), (iv a1.Offset), (.slice A2 N2 D2)].toArray), (pt b4 0)] [rds kT3 (.slice A2 N2 D2) a1.Steps, bxl b4 [(iv p3)] 3] (fun (h : Unit) => ((iv r), [bxl b4 [(iv p3)] 3])) := by
 unfold impl_writer_kernel_1 at hr
 refine fn_ok Try.func204 R 9 R R fun C V => ?_
 refine cM (bxl _ _ _ :: rds _ _ _ :: V) (fun w s => (s.e 2 [1, 0])) ?_
 refine cL 1 sees_rd ?_
 rintro rfl
 let W0 : List HP := RR kT3 A2 D2 a1.Steps :: V
 refine cN (_ :: W0) ?_
 refine c_seq (c_region (lBx R (fun b5 => (lI R (l_nil ?_)))))
 let W1 : List HP := bxl b5 [(iv a1.Buffer), (iv a1.Offset), (sc A2 a1.Steps D2)] 124 :: bxl b4 [(iv p3)] 3 :: W0
 refine qN W1 ?_
 refine q_next (c_seq ?_)
 obtain ⟨hg6, hr⟩ := gd hr
 refine c_region (lO (vFa 2 fo124_2 R) (lO (vLd 0 ag29 R R R) (lO (vLd 1 ag3 R R R) (t_some 2 sees_rd (show 0 < a1.Steps.length by have := hg6; omega) (fun g7 o8 ha => ?_)))))
 subst ha
 refine lO (vIa sl29 sz3 R R hg6) (lO (vLi 2 ag3 sees_rd R hg6) (lI R (l_nil (q_next (c_ret ?_)))))
 obtain rfl := so hr
 exact qF () (fun w s => (s.e 3 [1]))
theorem impl_mapped_impl_Access_int__impl_writer_kernel_1_ok {list1 : (List Access)} {q4 : Int} {b5 : Nat} {r : (List Int)} (hr : impl_mapped_impl_Access_int__impl_writer_kernel_1 list1 q4 = some r) :
 FnOk Try.prog 203 [(.slice A2 N2 D2), (.func (.func 204) [].toArray [(pt b5 0)].toArray)] [rds kT124 (.slice A2 N2 D2) list1, bxl b5 [(iv q4)] 3] (fun (h : HH) => ((.slice h.1 h.2.1 h.2.2), [ow kT3 3 (.slice h.1 h.2.1 h.2.2) r, bxl b5 [(iv q4)] 3])) := by
 unfold impl_mapped_impl_Access_int__impl_writer_kernel_1 at hr
 refine fn_ok Try.func203 R 26 R R fun C V => ?_
 refine cM (bxl _ _ _ :: rds _ _ _ :: V) (fun w s => (s.e 2 [1, 0])) ?_
 refine cL 1 sees_rd ?_
 rintro rfl
 let W0 : List HP := RR kT124 A2 D2 list1 :: V
 refine cN (_ :: W0) ?_
 refine c_seq (c_region (lS R (l_nil (q_next (c_seq ?_)))))
 obtain ⟨hg6, hr⟩ := gd hr
 refine c_region (lS R (lO (v_len sl122 R) (l_make (K := kT3) (m := (list1.length : Int)) (z := (0 : Int)) R R sl29 sz3 by3 (Zr.zk zT3 zc3) (by decide) R R hg6.1 hg6.2.1 hg6.2.2 (fun A7 D7 => (lS R (l_nil (q_next (c_seq (c_cut (A := ((List Int)) × (Unit)) (fun a => impl_mapped_impl_Access_int__impl_writer_kernel_1_J1 a.1 = some r) (fun a => [(5, (sc A7 (List.replicate (list1.length : Int).toNat (0 : Int)) D7))]) (fun a => ow kT3 3 (.slice A7 (List.replicate (list1.length : Int).toNat (0 : Int)).length D7) a.1 :: bxl b5 [(iv q4)] 3 :: W0) ?_ ?_)))))))))
 refine c_seq (c_region (lS R (lO (v_len sl122 R) (lI R (l_nil (q_next (c_block ?_)))))))
 obtain ⟨e1, hl1, hk1⟩ := bd hr
 refine c_loop (A := Unit) hl1 (fun s a => [(1, (.func (.func 204) [].toArray [(pt b5 0)].toArray)), (5, (sc A7 (List.replicate (list1.length : Int).toNat (0 : Int)) D7)), (11, (sc A2 list1 D2)), (12, (il list1)), (13, (iv s.2))]) (fun s a => bxl b5 [(iv q4)] 3 :: ow kT3 3 (.slice A7 (List.replicate (list1.length : Int).toNat (0 : Int)).length D7) s.1 :: W0) () (aS R) (fun w s => (s.e 2 [1, 0])) ?_
 rintro ⟨x21, x22⟩ _ σ1 out1 hr he1
 replace hr : impl_mapped_impl_Access_int__impl_writer_kernel_1_L1 list1 q4 x21 x22 = some out1 := hr
 unfold impl_mapped_impl_Access_int__impl_writer_kernel_1_L1 at hr
 refine c_seq (c_region (lO (vLt R R) (l_nil (q_next (c_seq ?_)))))
 rcases bif_ hr with ⟨hb23, hr⟩ | ⟨hb23, hr⟩
 refine c_true R hb23 (c_skip (q_next (c_seq (c_block (c_seq ?_)))))
 obtain ⟨hg24, hr⟩ := gd hr
 refine c_region (lI R (t_some 2 sees_rd (show 0 < list1.length by have := hg24; omega) (fun g25 o26 ha => ?_)))
 subst ha
 refine lO (vIa sl122 sz124 R R hg24) (t_elem (K := kT124) 2 x22 dT124.dec R hg24.1 hg24.2 ?_)
 rintro ⟨-, -, ⟨A27, D27⟩⟩
 refine lN (cl g25 (o26 + x22.toNat * 3) [(iv (ix list1 x22).Buffer), (iv (ix list1 x22).Offset), (sc A27 ((ix list1 x22).Steps) D27)] :: RR kT3 A27 D27 ((ix list1 x22).Steps) :: _ :: ow kT3 3 (.slice A7 (List.replicate (list1.length : Int).toNat (0 : Int)).length D7) x21 :: W0) ?_
 refine lO (vz (.agg [(iv (ix list1 x22).Buffer), (iv (ix list1 x22).Offset), (sc A27 ((ix list1 x22).Steps) D27)].toArray) (v_clfs (fo := 0) 0 ag124 sz124 R R R R)) (l_alloc R R zc124 (fun b28 => (lI R (l_stores 0 R R sz124 R R R R R R (lN (bxl b28 [(iv (ix list1 x22).Buffer), (iv (ix list1 x22).Offset), (sc A27 ((ix list1 x22).Steps) D27)] 124 :: _ :: _ :: _ :: _ :: W0) ?_)))))
 refine l_nil (q_next ?_)
 obtain ⟨r29, hx30, hr⟩ := bd hr
 obtain ⟨hg31, hr⟩ := gd hr
 refine c_region (lS R (lI R (lO (vp (.func (.func 204) [].toArray [(pt b5 0)].toArray) R) (lO (vz (.agg [(iv (ix list1 x22).Buffer), (iv (ix list1 x22).Offset), (sc A27 ((ix list1 x22).Steps) D27)].toArray) (v_loadw 0 ag124 sz124 R R R R)) (lM (rds _ _ _ :: bxl _ _ _ :: bxl _ _ _ :: cl _ _ _ :: rds _ _ _ :: ow _ _ _ _ :: W0) (fun w s => ((s.d 2 R).e 6 [0, 4, 1, 2, 3, 5])) ?_)))))
 refine l_callvn (fs := []) (cs := [(pt b5 0)]) 2 R R cb204 R R (impl_writer_kernel_1_ok hx30) R ?_
 rintro _
 refine lN (_ :: _ :: _ :: _ :: _ :: W0) ?_
 refine t_some 4 sees_ow (show 0 < (List.replicate (list1.length : Int).toNat (0 : Int)).length by have := hg31; omega) (fun g32 o33 ha => ?_)
 subst ha
 refine lO (vIa sl29 sz3 R R hg31) (lM (ow kT3 3 (.slice (ad g32 o33) (List.replicate (list1.length : Int).toNat (0 : Int)).length D7) x21 :: bxl _ _ _ :: bxl _ _ _ :: cl _ _ _ :: rds _ _ _ :: W0) (fun w s => (s.f 5 [4, 1, 0, 4])) ?_)
 refine l_stx (K := kT3) (x' := r29) 0 x22 R R sz3 R R hg31.1 hg31.2 ?_ ?_
 exact fun I h s => (mO3).put I h () r29 s
 refine lN (ow kT3 3 (.slice (ad g32 o33) (List.replicate (list1.length : Int).toNat (0 : Int)).length D7) (x21.set x22.toNat r29) :: _ :: _ :: _ :: _ :: W0) ?_
 refine l_nil (q_blockn (q_next (c_region (lO (vAd R R) (lI R (l_nil ?_))))))
 obtain rfl := so hr
 exact qA () (fun w s => (s.e 5 [1, 0]))
 refine c_false R hb23 (c_exit (q_exit ?_))
 obtain rfl := so hr
 obtain rfl := he1 _ R
 have hr := hk1
 refine q_exit (q_block ?_)
 exact qI (x21, ()) hr (fun w s => (s.e 2 [1, 0]))
 rintro ⟨x36, _⟩ σ1 hr
 replace hr : impl_mapped_impl_Access_int__impl_writer_kernel_1_J1 x36 = some r := hr
 unfold impl_mapped_impl_Access_int__impl_writer_kernel_1_J1 at hr
 refine c_seq (c_region (lS R (lS R (l_nil (q_next (c_ret ?_))))))
 obtain rfl := so hr
 exact qF (A7, (List.replicate (list1.length : Int).toNat (0 : Int)).length, D7) (fun w s => (s.e 3 [0, 1]))
theorem impl_writer_kernel_ok {p1 : writer} {p4 : Plan} {k11 : Kernel} {b2 : Nat} {r : writer} (hr : impl_writer_kernel p1 p4 k11 = some r) :
 FnOk Try.prog 156 [(pt b2 0), (.agg [(.slice A5 N5 D5), (.slice A6 N6 D6), (.slice A7 N7 D7), (.slice A8 N8 D8), (.slice A9 N9 D9), (.slice A10 N10 D10), (iv p4.Arena)].toArray), (.agg [(.slice A12 N12 D12), (.slice A13 N13 D13), (iv k11.Store.Buffer), (iv k11.Store.Offset), (.slice A14 N14 D14), (.bool k11.Sum), (.slice A15 N15 D15)].toArray)] [ow kT119 119 (.slice A3 N3 D3) p1.code, bxl b2 [(.slice A3 N3 D3)] 193, rds kT3 (.slice A5 N5 D5) p4.Nest.Sizes, rds kT3 (.slice A6 N6 D6) p4.Nest.Ins, rds kT159 (.slice A7 N7 D7) p4.Nest.Fixed, rds kT127 (.slice A8 N8 D8) p4.Nest.Kernels, rds kT3 (.slice A9 N9 D9) p4.Nest.Outs, rds kT3 (.slice A10 N10 D10) p4.Offsets, rds kT3 (.slice A12 N12 D12) k11.Loops, rds kT124 (.slice A13 N13 D13) k11.Loads, rds kT3 (.slice A14 N14 D14) k11.Store.Steps, rds kT216 (.slice A15 N15 D15) k11.Code] (fun (h : HH) => ((.tuple [].toArray), [ow kT119 119 (.slice h.1 h.2.1 h.2.2) r.code, bxl b2 [(.slice h.1 h.2.1 h.2.2)] 193])) := by
 unfold impl_writer_kernel at hr
 refine fn_ok Try.func156 R 218 R R fun C V => ?_
 refine cN (_ :: _ :: _ :: _ :: _ :: _ :: _ :: _ :: _ :: _ :: _ :: _ :: V) ?_
 refine cL 0 sees_ow ?_
 rintro rfl
 refine cL 2 sees_rd ?_
 rintro rfl
 refine cL 3 sees_rd ?_
 rintro rfl
 refine cL 4 sees_rd ?_
 rintro rfl
 refine cL 5 sees_rd ?_
 rintro rfl
 refine cL 6 sees_rd ?_
 rintro rfl
 refine cL 7 sees_rd ?_
 rintro rfl
 refine cL 8 sees_rd ?_
 rintro rfl
 refine cL 9 sees_rd ?_
 rintro rfl
 refine cL 10 sees_rd ?_
 rintro rfl
 refine cL 11 sees_rd ?_
 rintro rfl
 let W0 : List HP := RR kT3 A5 D5 p4.Nest.Sizes :: RR kT3 A6 D6 p4.Nest.Ins :: RR kT159 A7 D7 p4.Nest.Fixed :: RR kT127 A8 D8 p4.Nest.Kernels :: RR kT3 A9 D9 p4.Nest.Outs :: RR kT3 A10 D10 p4.Offsets :: RR kT3 A12 D12 k11.Loops :: RR kT124 A13 D13 k11.Loads :: RR kT3 A14 D14 k11.Store.Steps :: RR kT216 A15 D15 k11.Code :: V
 refine cN (_ :: bxl b2 [(sc A3 p1.code D3)] 193 :: W0) ?_
 refine c_seq (c_region (lBx R (fun b16 => (lBx R (fun b17 => (l_nil (qM (ow _ _ _ _ :: bxl _ _ _ :: bxl _ _ _ :: bxl _ _ _ :: W0) (fun w s => (s.e 4 [2, 3, 0, 1])) ?_)))))))
 let W1 : List HP := bxl b17 [(sc A12 k11.Loops D12), (sc A13 k11.Loads D13), (iv k11.Store.Buffer), (iv k11.Store.Offset), (sc A14 k11.Store.Steps D14), (.bool k11.Sum), (sc A15 k11.Code D15)] 127 :: bxl b16 [(sc A5 p4.Nest.Sizes D5), (sc A6 p4.Nest.Ins D6), (sc A7 p4.Nest.Fixed D7), (sc A8 p4.Nest.Kernels D8), (sc A9 p4.Nest.Outs D9), (sc A10 p4.Offsets D10), (iv p4.Arena)] 71 :: W0
 refine qN (_ :: _ :: W1) ?_
 refine q_next (c_seq ?_)
 obtain ⟨r18, hx19, hr⟩ := bd hr
 obtain ⟨hg22, hr⟩ := gd hr
 refine c_cutq (A := (Unit) × (HH)) (fun _ => True) (fun a => [(0, (pt b2 0)), (4, (pt b16 0)), (5, (pt b17 0)), (6, (.slice a.2.1 a.2.2.1 a.2.2.2))]) (fun a => bxl b2 [(sc A3 p1.code D3)] 193 :: OO kT119 119 A3 D3 p1.code :: ow (kT124).share 124 (.slice a.2.1 a.2.2.1 a.2.2.2) (r18 ++ ([k11.Store] : List Access)) :: W1) ?_ ?_
 refine cdr 8 [] mixo (fun ht hn => (dR 0 R (vFa 1 fo127_1 R) (dR 1 R (vLd 2 ag122 R R R) (dR 3 R (vFa 2 fo127_2 R) (dR 4 R (vz (.agg [(iv k11.Store.Buffer), (iv k11.Store.Offset), (sc A14 k11.Store.Steps D14)].toArray) (v_loadw 2 ag124 sz124 R R R R)) (d_all [2, 5] (by kernel_rfl) R ⟨?_, ?_, trivial⟩))))))
 refine lM (RR kT124 A13 D13 k11.Loads :: _ :: _ :: W1) (fun w s => (s.d 11 R)) ?_
 refine lC 1 cb184 R (slices_Clone_impl_Access_impl_Access_ok hx19) R ?_
 rintro ⟨A20, N20, D20⟩
 refine lN (ow (kT124).share 124 (.slice A20 N20 D20) r18 :: _ :: _ :: W1) ?_
 refine l_len 0 sees_sh ?_
 rintro rfl
 refine l_nil (q_draw (sL [0]) (d_one 5 (by kernel_rfl) R (lM (RR kT3 A14 D14 k11.Store.Steps :: _ :: _ :: _ :: W1) (fun w s => (s.d 13 R)) ?_)))
 refine l_build (K := (kT124).share) (xs := ([k11.Store] : List Access)) (vs := [(.agg [(iv k11.Store.Buffer), (iv k11.Store.Offset), (sc A14 k11.Store.Steps D14)].toArray)]) 1 R R sl122 sz124 zc124 R R R R R R ?_ R (fun A21 D21 => ?_)
 exact fun I h s => (mS124).list [(((), (), (sc A14 k11.Store.Steps D14)), k11.Store)] I h s
 refine lN (OO (kT124).share 124 A21 D21 ([k11.Store] : List Access) :: _ :: _ :: _ :: W1) ?_
 refine l_nil (q_draw (sL [1, 0]) (d_one 6 (by kernel_rfl) R (lM (ow _ _ _ _ :: ow _ _ _ _ :: ow _ _ _ _ :: bxl _ _ _ :: W1) (fun w s => (s.e 4 [1, 0, 2, 3])) ?_)))
 refine l_app (K := (kT124).share) 3518437208883 R R sl122 sz124 by124 (Zr.zk (Zr.share zT124) zc124) R R R R R R src_ow hg22 (fun A23 D23 => (lN (OO (kT124).share 124 A23 D23 (r18 ++ ([k11.Store] : List Access)) :: _ :: _ :: W1) ?_))
 refine l_nil (q_draw (sL [0]) (dR 7 R (vS R) (hS := (sL [0])) (d_done (by kernel_rfl) ?_)))
 exact q_join ((), (A23, (r18 ++ ([k11.Store] : List Access)).length, D23)) trivial (aS R) (fun w s => (s.e 3 [2, 1, 0]))
 refine lM (RR kT3 A14 D14 k11.Store.Steps :: _ :: _ :: W1) (fun w s => (s.d 12 R)) ?_
 refine l_build (K := (kT124).share) (xs := ([k11.Store] : List Access)) (vs := [(.agg [(iv k11.Store.Buffer), (iv k11.Store.Offset), (sc A14 k11.Store.Steps D14)].toArray)]) 1 R R sl122 sz124 zc124 R R R R R R ?_ R (fun A21 D21 => ?_)
 exact fun I h s => (mS124).list [(((), (), (sc A14 k11.Store.Steps D14)), k11.Store)] I h s
 refine lN (OO (kT124).share 124 A21 D21 ([k11.Store] : List Access) :: _ :: _ :: W1) ?_
 refine l_nil (q_draw (sL [0]) (d_one 2 (by kernel_rfl) R (lM (RR kT124 A13 D13 k11.Loads :: _ :: _ :: _ :: W1) (fun w s => (s.d 12 R)) ?_)))
 refine lC 1 cb184 R (slices_Clone_impl_Access_impl_Access_ok hx19) R ?_
 rintro ⟨A20, N20, D20⟩
 refine lN (ow (kT124).share 124 (.slice A20 N20 D20) r18 :: _ :: _ :: _ :: W1) ?_
 refine l_len 0 sees_sh ?_
 rintro rfl
 refine l_nil (q_draw (sL [1, 0]) (d_one 6 (by kernel_rfl) R (l_app (K := (kT124).share) 3518437208883 R R sl122 sz124 by124 (Zr.zk (Zr.share zT124) zc124) R R R R R R src_ow hg22 (fun A23 D23 => (lN (OO (kT124).share 124 A23 D23 (r18 ++ ([k11.Store] : List Access)) :: _ :: _ :: W1) ?_)))))
 refine l_nil (q_draw (sL [0]) (dR 7 R (vS R) (hS := (sL [0])) (d_done (by kernel_rfl) ?_)))
 exact q_join ((), (A23, (r18 ++ ([k11.Store] : List Access)).length, D23)) trivial (aS R) (fun w s => (s.e 3 [2, 1, 0]))
 rintro ⟨_, ⟨A24, N24, D24⟩⟩ σ1 -
 refine q_len 2 sees_sh (fun (hn : N24 = (r18 ++ ([k11.Store] : List Access)).length) => ?_)
 subst hn
 refine q_next (c_seq (c_region (lO (vFa 0 fo127_0 R) (lO (vLd 3 ag29 R R R) (lS R (lI R (l_nil (q_next (c_seq ?_)))))))))
 obtain ⟨hg25, hr⟩ := gd hr
 refine c_region (lS R (lO (v_len sl122 R) (l_make (K := kT3) (m := ((r18 ++ ([k11.Store] : List Access)).length : Int)) (z := (0 : Int)) R R sl29 sz3 by3 (Zr.zk zT3 zc3) (by decide) R R hg25.1 hg25.2.1 hg25.2.2 (fun A26 D26 => (lS R (l_nil (q_next (c_seq (c_cut (A := ((List Int) × Int × (List Int)) × (HH × HH)) (fun a => impl_writer_kernel_J2 p1 p4 k11 r18 a.1.1 a.1.2.1 a.1.2.2 = some r) (fun a => [(0, (pt b2 0)), (4, (pt b16 0)), (5, (pt b17 0)), (6, (sc A24 (r18 ++ ([k11.Store] : List Access)) D24)), (7, (.slice a.2.1.1 a.2.1.2.1 a.2.1.2.2)), (8, (iv a.1.2.1)), (9, (.slice a.2.2.1 a.2.2.2.1 a.2.2.2.2))]) (fun a => bxl b2 [(sc A3 p1.code D3)] 193 :: OO kT119 119 A3 D3 p1.code :: OO (kT124).share 124 A24 D24 (r18 ++ ([k11.Store] : List Access)) :: rds kT3 (.slice a.2.1.1 a.2.1.2.1 a.2.1.2.2) a.1.1 :: ow kT3 3 (.slice a.2.2.1 a.2.2.2.1 a.2.2.2.2) a.1.2.2 :: W1) ?_ ?_)))))))))
 refine c_seq (c_region (lO (vFa 0 fo127_0 R) (lO (vLd 4 ag29 R R R) (lO (v_len sl29 R) (lO (vSb R R) (l_alloc R R zc3 (fun b27 => (l_store 0 R R sz3 R R R R R (lN (bxl b27 [(iv (w64 ((k11.Loops.length : Int) - (1 : Int))))] 3 :: OO kT3 3 A26 D26 (List.replicate ((r18 ++ ([k11.Store] : List Access)).length : Int).toNat (0 : Int)) :: _ :: _ :: OO (kT124).share 124 A24 D24 (r18 ++ ([k11.Store] : List Access)) :: W1) ?_)))))))))
 refine l_nil (q_next (c_seq (c_region (lO (vLd 0 ag3 R R R) (lO (vGe R R) (l_nil (q_next ?_)))))))
 rcases bif_ hr with ⟨hb28, hr⟩ | ⟨hb28, hr⟩
 refine c_true R hb28 (c_seq ?_)
 obtain ⟨hg29, hr⟩ := gd hr
 obtain ⟨hg31, hr⟩ := gd hr
 refine c_some 13 sees_rd (show 0 < k11.Loops.length by have := hg31; omega) (fun g32 o33 ha => ?_)
 subst ha
 refine cdr 11 [] mixo (fun ht hn => (dR 0 R (vFa 0 fo127_0 R) (dR 1 R (vLd 5 ag29 R R R) (dR 2 R (vLd 0 ag3 R R R) (dR 4 R (vFa 0 fo127_0 R) (dR 5 R (vLd 5 ag29 R R R) (dR 6 R (vLd 0 ag3 R R R) (dR 7 R (vIa sl29 sz3 R R hg31) (dR 8 R (vLi 13 ag3 sees_rd R hg31) (d_one 3 (by kernel_rfl) R (l_cut (K := kT3) (0 : Int) (w64 ((k11.Loops.length : Int) - (1 : Int))) 13 R R sl29 sz3 R R R R hg29.1 hg29.2.1 hg29.2.2 (fun A30 D30 => (l_nil (q_draw (sL [0]) (dR 9 R (vS R) (hS := (sL [0])) (dR 10 R (vI R) (hS := (sL [0])) (d_done (by kernel_rfl) (q_next ?_))))))))))))))))))
 obtain ⟨r34, hx35, hr⟩ := bd hr
 refine c_region (lS R (lO (vp (.func (.func 204) [].toArray [(pt b27 0)].toArray) R) (lM (ow _ _ _ _ :: bxl _ _ _ :: RR kT3 A30 D30 (sub k11.Loops (0 : Int) (w64 ((k11.Loops.length : Int) - (1 : Int)))) :: ow _ _ _ _ :: bxl _ _ _ :: ow _ _ _ _ :: W1) (fun w s => (s.e 6 [5, 1, 0, 2, 3, 4])) ?_)))
 refine lC 2 cb203 R (FnOk.lends (A' := [OO (kT124).share 124 A24 D24 (r18 ++ ([k11.Store] : List Access))]) (A := [RR kT124 A24 D24 (r18 ++ ([k11.Store] : List Access))]) (B := [bxl b27 [(iv (w64 ((k11.Loops.length : Int) - (1 : Int))))] 3]) (impl_mapped_impl_Access_int__impl_writer_kernel_1_ok hx35) ⟨lend_sh, trivial⟩ (fun _ => ⟨(closed_ow cT3), closed_bx, trivial⟩)) R ?_
 rintro ⟨A36, N36, D36⟩
 refine lN (_ :: ow kT3 3 (.slice A36 N36 D36) r34 :: _ :: _ :: _ :: _ :: _ :: W1) ?_
 refine l_len 1 sees_ow ?_
 rintro rfl
 refine lS R (l_nil ?_)
 exact qI (((sub k11.Loops (0 : Int) (w64 ((k11.Loops.length : Int) - (1 : Int)))), (ix k11.Loops (w64 ((k11.Loops.length : Int) - (1 : Int)))), r34), ((A30, (sub k11.Loops (0 : Int) (w64 ((k11.Loops.length : Int) - (1 : Int)))).length, D30), (A36, r34.length, D36))) hr (fun w s => (s.e 7 [5, 6, 0, 3, 1]))
 refine c_false R hb28 (c_skip ?_)
 exact qI ((k11.Loops, (1 : Int), (List.replicate ((r18 ++ ([k11.Store] : List Access)).length : Int).toNat (0 : Int))), ((A12, k11.Loops.length, D12), (A26, (List.replicate ((r18 ++ ([k11.Store] : List Access)).length : Int).toNat (0 : Int)).length, D26))) hr (fun w s => ((s.d 13 R).e 6 [3, 4, 5, 0, 2]))
 rintro ⟨⟨outer37, n39, last40⟩, ⟨⟨A38, N38, D38⟩, ⟨A41, N41, D41⟩⟩⟩ σ1 hr
 replace hr : impl_writer_kernel_J2 p1 p4 k11 r18 outer37 n39 last40 = some r := hr
 unfold impl_writer_kernel_J2 at hr
 refine c_len 3 sees_rd (fun (hn : N38 = outer37.length) => ?_)
 subst hn
 refine c_len 4 sees_ow (fun (hn : N41 = last40.length) => ?_)
 subst hn
 refine c_seq (c_cut (A := ((List Instr)) × (HH)) (fun a => impl_writer_kernel_J3 k11 r18 outer37 n39 last40 a.1 = some r) (fun a => [(0, (pt b2 0)), (5, (pt b17 0)), (6, (sc A24 (r18 ++ ([k11.Store] : List Access)) D24)), (7, (sc A38 outer37 D38)), (8, (iv n39)), (9, (sc A41 last40 D41))]) (fun a => bxl b2 [(.slice a.2.1 a.2.2.1 a.2.2.2)] 193 :: ow kT119 119 (.slice a.2.1 a.2.2.1 a.2.2.2) a.1 :: OO (kT124).share 124 A24 D24 (r18 ++ ([k11.Store] : List Access)) :: RR kT3 A38 D38 outer37 :: OO kT3 3 A41 D41 last40 :: W1) ?_ ?_)
 refine c_seq (c_region (lS R (lO (v_len sl122 R) (lI R (l_nil (q_next (c_block ?_)))))))
 obtain ⟨e1, hl1, hk1⟩ := bd hr
 refine c_loop (A := HH) hl1 (fun s a => [(0, (pt b2 0)), (4, (pt b16 0)), (5, (pt b17 0)), (6, (sc A24 (r18 ++ ([k11.Store] : List Access)) D24)), (7, (sc A38 outer37 D38)), (8, (iv n39)), (9, (sc A41 last40 D41)), (57, (sc A24 (r18 ++ ([k11.Store] : List Access)) D24)), (58, (il (r18 ++ ([k11.Store] : List Access)))), (59, (iv s.2))]) (fun s a => bxl b2 [(.slice a.1 a.2.1 a.2.2)] 193 :: ow kT119 119 (.slice a.1 a.2.1 a.2.2) s.1 :: OO (kT124).share 124 A24 D24 (r18 ++ ([k11.Store] : List Access)) :: RR kT3 A38 D38 outer37 :: OO kT3 3 A41 D41 last40 :: W1) (A3, p1.code.length, D3) (aS R) (fun w s => s) ?_
 rintro ⟨x54, x56⟩ ⟨A55, N55, D55⟩ σ1 out1 hr he1
 replace hr : impl_writer_kernel_L1 p4 k11 r18 x54 x56 = some out1 := hr
 unfold impl_writer_kernel_L1 at hr
 refine c_len 1 sees_ow (fun (hn : N55 = x54.length) => ?_)
 subst hn
 refine c_seq (c_region (lO (vLt R R) (l_nil (q_next (c_seq ?_)))))
 rcases bif_ hr with ⟨hb57, hr⟩ | ⟨hb57, hr⟩
 refine c_true R hb57 (c_skip (q_next (c_seq (c_block (c_seq ?_)))))
 obtain ⟨hg58, hr⟩ := gd hr
 refine c_region (lI R (t_some 2 sees_sh (show 0 < (r18 ++ ([k11.Store] : List Access)).length by have := hg58; omega) (fun g59 o60 ha => ?_)))
 subst ha
 refine lO (vIa sl122 sz124 R R hg58) (l_ldo (K := (kT124).share) 2 x56 R R ag124 sz124 dT124.own R R hg58.1 hg58.2 ?_)
 rintro ⟨-, -, ⟨A61, D61⟩⟩
 refine lN (RR kT3 A61 D61 ((ix (r18 ++ ([k11.Store] : List Access)) x56).Steps) :: bxl b2 [(sc A55 x54 D55)] 193 :: OO kT119 119 A55 D55 x54 :: OO (kT124).share 124 (ad g59 o60) D24 (r18 ++ ([k11.Store] : List Access)) :: RR kT3 A38 D38 outer37 :: OO kT3 3 A41 D41 last40 :: W1) ?_
 refine l_alloc R R zc124 (fun b62 => (lI R (l_stores 0 R R sz124 R R R R R R (lN (bxl b62 [(iv (ix (r18 ++ ([k11.Store] : List Access)) x56).Buffer), (iv (ix (r18 ++ ([k11.Store] : List Access)) x56).Offset), (sc A61 ((ix (r18 ++ ([k11.Store] : List Access)) x56).Steps) D61)] 124 :: _ :: _ :: _ :: _ :: _ :: _ :: W1) ?_))))
 refine l_nil (q_next ?_)
 obtain ⟨hg63, hr⟩ := gd hr
 obtain ⟨r66, hx67, hr⟩ := bd hr
 refine c_some 14 sees_rd (show 0 < p4.Offsets.length by have := hg63; omega) (fun g64 o65 ha => ?_)
 subst ha
 refine cdr 12 [3, 2] mixo (fun ht hn => (dR 0 R (vP R) (hS := (sL [3, 2])) (dR 1 R (vI R) (hS := (sL [3, 2])) (dR 2 R (vFa 5 fo71_1 R) (hS := (sL [3, 2])) (dR 3 R (vLd 6 ag29 R R R) (hS := (sL [3, 2])) (dR 4 R (vFa 0 fo124_0 R) (hS := (sL [3, 2])) (dR 5 R (vLd 0 ag3 R R R) (hS := (sL [3, 2])) (dR 6 R (vIa sl29 sz3 R R hg63) (hS := (sL [3, 2])) (dR 7 R (vLi 12 ag3 sees_rd R hg63) (hS := (sL [3, 2])) (dR 8 R (vFa 1 fo124_1 R) (hS := (sL [3, 2])) (dR 9 R (vLd 0 ag3 R R R) (hS := (sL [3, 2])) (dR 10 R (vAd R R) (hS := (sL [3, 2])) (d_one 11 (by kernel_rfl) R (lM (ow _ _ _ _ :: bxl _ _ _ :: bxl _ _ _ :: rds _ _ _ :: ow _ _ _ _ :: rds _ _ _ :: ow _ _ _ _ :: W1) (fun w s => (s.e 7 [3, 2, 0, 1, 4, 5, 6])) ?_))))))))))))))
 refine lC 2 cb154 R (impl_writer_put_ok hx67) R ?_
 rintro ⟨A68, N68, D68⟩
 refine lN (ow kT119 119 (.slice A68 N68 D68) r66.code :: bxl b2 [(.slice A68 N68 D68)] 193 :: _ :: _ :: _ :: _ :: _ :: W1) ?_
 refine l_len 0 sees_ow ?_
 rintro rfl
 refine l_nil (q_draw (sL [1, 0]) (d_done (by kernel_rfl) (q_blockn (q_next (c_region (lO (vAd R R) (lI R (l_nil ?_))))))))
 obtain rfl := so hr
 exact qA (A68, r66.code.length, D68) (fun w s => (s.e 7 [1, 0, 4, 5, 6]))
 refine c_false R hb57 (c_exit (q_exit ?_))
 obtain rfl := so hr
 obtain rfl := he1 _ R
 have hr := hk1
 refine q_exit (q_block ?_)
 exact qI (x54, (A55, x54.length, D55)) hr (fun w s => s)
 rintro ⟨x72, ⟨A73, N73, D73⟩⟩ σ1 hr
 replace hr : impl_writer_kernel_J3 k11 r18 outer37 n39 last40 x72 = some r := hr
 unfold impl_writer_kernel_J3 at hr
 refine c_len 1 sees_ow (fun (hn : N73 = x72.length) => ?_)
 subst hn
 refine c_seq (c_cut (A := ((List Instr)) × (HH)) (fun a => impl_writer_kernel_J4 k11 r18 outer37 n39 last40 a.1 = some r) (fun a => [(0, (pt b2 0)), (5, (pt b17 0)), (6, (sc A24 (r18 ++ ([k11.Store] : List Access)) D24)), (7, (sc A38 outer37 D38)), (8, (iv n39)), (9, (sc A41 last40 D41))]) (fun a => bxl b2 [(.slice a.2.1 a.2.2.1 a.2.2.2)] 193 :: ow kT119 119 (.slice a.2.1 a.2.2.1 a.2.2.2) a.1 :: OO (kT124).share 124 A24 D24 (r18 ++ ([k11.Store] : List Access)) :: RR kT3 A38 D38 outer37 :: OO kT3 3 A41 D41 last40 :: W1) ?_ ?_)
 refine c_seq (c_region (lS R (lO (v_len sl29 R) (lI R (l_nil (q_next (c_block ?_)))))))
 obtain ⟨e2, hl2, hk2⟩ := bd hr
 refine c_loop (A := HH) hl2 (fun s a => [(0, (pt b2 0)), (5, (pt b17 0)), (6, (sc A24 (r18 ++ ([k11.Store] : List Access)) D24)), (7, (sc A38 outer37 D38)), (8, (iv n39)), (9, (sc A41 last40 D41)), (77, (sc A38 outer37 D38)), (78, (il outer37)), (79, (iv s.2))]) (fun s a => bxl b2 [(.slice a.1 a.2.1 a.2.2)] 193 :: ow kT119 119 (.slice a.1 a.2.1 a.2.2) s.1 :: OO (kT124).share 124 A24 D24 (r18 ++ ([k11.Store] : List Access)) :: RR kT3 A38 D38 outer37 :: OO kT3 3 A41 D41 last40 :: W1) (A73, x72.length, D73) (aS R) (fun w s => s) ?_
 rintro ⟨x81, x83⟩ ⟨A82, N82, D82⟩ σ1 out2 hr he2
 replace hr : impl_writer_kernel_L2 outer37 x81 x83 = some out2 := hr
 unfold impl_writer_kernel_L2 at hr
 refine c_len 1 sees_ow (fun (hn : N82 = x81.length) => ?_)
 subst hn
 refine c_seq (c_region (lO (vLt R R) (l_nil (q_next (c_seq ?_)))))
 rcases bif_ hr with ⟨hb84, hr⟩ | ⟨hb84, hr⟩
 refine c_true R hb84 (c_skip (q_next (c_seq (c_block (c_seq ?_)))))
 obtain ⟨hg85, hr⟩ := gd hr
 refine c_region (t_some 3 sees_rd (show 0 < outer37.length by have := hg85; omega) (fun g86 o87 ha => ?_))
 subst ha
 refine lO (vIa sl29 sz3 R R hg85) (lO (vLi 3 ag3 sees_rd R hg85) (lI R (l_nil (q_next ?_))))
 obtain ⟨r88, hx89, hr⟩ := bd hr
 refine c_region (lP R (lI R (lM (OO kT119 119 A82 D82 x81 :: bxl b2 [(sc A82 x81 D82)] 193 :: OO (kT124).share 124 A24 D24 (r18 ++ ([k11.Store] : List Access)) :: RR kT3 (ad g86 o87) D38 outer37 :: ow _ _ _ _ :: W1) (fun w s => (s.e 5 [1, 0, 2, 3, 4])) ?_)))
 refine lC 2 cb154 R (impl_writer_put_ok hx89) R ?_
 rintro ⟨A90, N90, D90⟩
 refine lN (ow kT119 119 (.slice A90 N90 D90) r88.code :: bxl b2 [(.slice A90 N90 D90)] 193 :: _ :: _ :: _ :: W1) ?_
 refine l_len 0 sees_ow ?_
 rintro rfl
 refine l_nil (q_blockn (q_next (c_region (lO (vAd R R) (lI R (l_nil ?_))))))
 obtain rfl := so hr
 exact qA (A90, r88.code.length, D90) (fun w s => (s.e 5 [1, 0, 2, 3, 4]))
 refine c_false R hb84 (c_exit (q_exit ?_))
 obtain rfl := so hr
 obtain rfl := he2 _ R
 have hr := hk2
 refine q_exit (q_block ?_)
 exact qI (x81, (A82, x81.length, D82)) hr (fun w s => s)
 rintro ⟨x94, ⟨A95, N95, D95⟩⟩ σ1 hr
 replace hr : impl_writer_kernel_J4 k11 r18 outer37 n39 last40 x94 = some r := hr
 unfold impl_writer_kernel_J4 at hr
 refine c_len 1 sees_ow (fun (hn : N95 = x94.length) => ?_)
 subst hn
 refine c_seq (c_region (lO (vz (.agg [(.slice none 0 0)].toArray) (v_build pl193 zc193 R R)) (lBx R (fun b96 => (lP R (l_nil (q_next (c_seq (c_cut (A := ((List Instr)) × (HH)) (fun a => impl_writer_kernel_J7 k11 r18 outer37 n39 last40 x94 a.1 = some r) (fun a => [(0, (pt b2 0)), (5, (pt b17 0)), (6, (sc A24 (r18 ++ ([k11.Store] : List Access)) D24)), (7, (sc A38 outer37 D38)), (8, (iv n39)), (9, (sc A41 last40 D41)), (15, (pt b96 0))]) (fun a => bxl b2 [(sc A95 x94 D95)] 193 :: OO kT119 119 A95 D95 x94 :: OO (kT124).share 124 A24 D24 (r18 ++ ([k11.Store] : List Access)) :: RR kT3 A38 D38 outer37 :: OO kT3 3 A41 D41 last40 :: bxl b96 [(.slice a.2.1 a.2.2.1 a.2.2.2)] 193 :: ow kT119 119 (.slice a.2.1 a.2.2.1 a.2.2.2) a.1 :: W1) ?_ ?_)))))))))
 refine c_seq (c_region (lO (vFa 6 fo127_4 R) (lO (vLd 6 ag125 R R R) (lO (v_len sl125 R) (lI R (l_nil (q_next (c_block ?_))))))))
 obtain ⟨e3, hl3, hk3⟩ := bd hr
 refine c_loop (A := HH) hl3 (fun s a => [(0, (pt b2 0)), (5, (pt b17 0)), (6, (sc A24 (r18 ++ ([k11.Store] : List Access)) D24)), (7, (sc A38 outer37 D38)), (8, (iv n39)), (9, (sc A41 last40 D41)), (15, (pt b96 0)), (90, (sc A15 k11.Code D15)), (91, (il k11.Code)), (92, (iv s.2))]) (fun s a => bxl b2 [(sc A95 x94 D95)] 193 :: OO kT119 119 A95 D95 x94 :: OO (kT124).share 124 A24 D24 (r18 ++ ([k11.Store] : List Access)) :: RR kT3 A38 D38 outer37 :: OO kT3 3 A41 D41 last40 :: bxl b96 [(.slice a.1 a.2.1 a.2.2)] 193 :: ow kT119 119 (.slice a.1 a.2.1 a.2.2) s.1 :: W1) (none, 0, 0) (aS R) (fun w s => ((s.nilo kT119 119).f 7 [2, 5, 1, 1, 0, 1])) ?_
 rintro ⟨body118, x120⟩ ⟨A119, N119, D119⟩ σ1 out3 hr he3
 replace hr : impl_writer_kernel_L3 k11 last40 body118 x120 = some out3 := hr
 unfold impl_writer_kernel_L3 at hr
 refine c_len 6 sees_ow (fun (hn : N119 = body118.length) => ?_)
 subst hn
 refine c_seq (c_region (lO (vLt R R) (l_nil (q_next (c_seq ?_)))))
 rcases bif_ hr with ⟨hb121, hr⟩ | ⟨hb121, hr⟩
 refine c_true R hb121 (c_skip (q_next (c_seq (c_cut (A := ((List Instr)) × (HH)) (fun a => impl_writer_kernel_J6 x120 a.1 = some out3) (fun a => [(0, (pt b2 0)), (5, (pt b17 0)), (6, (sc A24 (r18 ++ ([k11.Store] : List Access)) D24)), (7, (sc A38 outer37 D38)), (8, (iv n39)), (9, (sc A41 last40 D41)), (15, (pt b96 0)), (90, (sc A15 k11.Code D15)), (91, (il k11.Code)), (92, (iv x120))]) (fun a => bxl b2 [(sc A95 x94 D95)] 193 :: OO kT119 119 A95 D95 x94 :: OO (kT124).share 124 A24 D24 (r18 ++ ([k11.Store] : List Access)) :: RR kT3 A38 D38 outer37 :: OO kT3 3 A41 D41 last40 :: bxl b96 [(.slice a.2.1 a.2.2.1 a.2.2.2)] 193 :: ow kT119 119 (.slice a.2.1 a.2.2.1 a.2.2.2) a.1 :: W1) ?_ ?_))))
 refine c_block (c_seq ?_)
 obtain ⟨hg122, hr⟩ := gd hr
 refine c_region (lI R (t_some 18 sees_rd (show 0 < k11.Code.length by have := hg122; omega) (fun g123 o124 ha => ?_)))
 subst ha
 refine lO (vIa sl125 sz216 R R hg122) (l_v (.agg [(iv (ix k11.Code x120).Op), (iv (ix k11.Code x120).A), (iv (ix k11.Code x120).B)].toArray) ?_ R R ?_)
 exact (v_ldef (K := kT216) (cells := fun x => [(iv x.Op), (iv x.A), (iv x.B)]) 18 x120 ag216 sz216 (DecK.flat dT216 fun _ _ => R) sees_rd R hg122.1 hg122.2)
 refine l_alloc R R zc216 (fun b125 => (lI R (l_stores 0 R R sz216 R R R R R R (lN (bxl b125 [(iv (ix k11.Code x120).Op), (iv (ix k11.Code x120).A), (iv (ix k11.Code x120).B)] 216 :: bxl b2 [(sc A95 x94 D95)] 193 :: OO kT119 119 A95 D95 x94 :: _ :: RR kT3 A38 D38 outer37 :: _ :: bxl b96 [(sc A119 body118 D119)] 193 :: OO kT119 119 A119 D119 body118 :: W1) ?_))))
 refine l_nil (q_next (c_seq (c_region (lO (vFa 0 fo216_0 R) (lO (vLd 0 ag3 R R R) (l_nil (q_next (c_block (c_seq (c_region (lO (vEq R R) (lB R (l_nil (q_next ?_))))))))))))))
 rcases bif_ hr with ⟨hb126, hr⟩ | ⟨hb126, hr⟩
 refine c_true R hb126 ?_
 obtain ⟨hg127, hr⟩ := gd hr
 obtain ⟨r130, hx131, hr⟩ := bd hr
 refine c_some 5 sees_ow (show 0 < last40.length by have := hg127; omega) (fun g128 o129 ha => ?_)
 subst ha
 refine cdr 10 [7, 6] mixo (fun ht hn => (dR 0 R (vP R) (hS := (sL [7, 6])) (dR 1 R (vI R) (hS := (sL [7, 6])) (dR 2 R (vFa 1 fo216_1 R) (hS := (sL [7, 6])) (dR 3 R (vLd 0 ag3 R R R) (hS := (sL [7, 6])) (dR 4 R (vS R) (hS := (sL [7, 6])) (dR 5 R (vFa 1 fo216_1 R) (hS := (sL [7, 6])) (dR 6 R (vLd 0 ag3 R R R) (hS := (sL [7, 6])) (dR 7 R (vIa sl29 sz3 R R hg127) (hS := (sL [7, 6])) (dR 8 R (vLi 5 ag3 sees_ow R hg127) (hS := (sL [7, 6])) (d_one 9 (by kernel_rfl) R (lM (ow _ _ _ _ :: bxl _ _ _ :: bxl _ _ _ :: bxl _ _ _ :: ow _ _ _ _ :: ow _ _ _ _ :: rds _ _ _ :: OO kT3 3 (ad g128 o129) D41 last40 :: W1) (fun w s => (s.f 8 [7, 1, 6, 1, 0, 6])) ?_))))))))))))
 refine lC 2 cb154 R (impl_writer_put_ok hx131) R ?_
 rintro ⟨A132, N132, D132⟩
 refine lN (ow kT119 119 (.slice A132 N132 D132) r130.code :: bxl b96 [(.slice A132 N132 D132)] 193 :: _ :: _ :: _ :: _ :: _ :: _ :: W1) ?_
 refine l_len 0 sees_ow ?_
 rintro rfl
 refine l_nil (q_draw (sL [1, 0]) (d_done (by kernel_rfl) (q_blockn (q_blockn ?_))))
 exact qI (r130.code, (A132, r130.code.length, D132)) hr (fun w s => (s.f 8 [3, 5, 1, 1, 0, 1]))
 refine c_false R hb126 (c_seq (c_region (lO (vEq R R) (lB R (l_nil (q_next ?_))))))
 rcases bif_ hr with ⟨hb133, hr⟩ | ⟨hb133, hr⟩
 refine c_true R hb133 ?_
 obtain ⟨r134, hx135, hr⟩ := bd hr
 refine c_region (lP R (lI R (lO (vFa 1 fo216_1 R) (lO (vLd 0 ag3 R R R) (lM (OO kT119 119 A119 D119 body118 :: bxl b96 [(sc A119 body118 D119)] 193 :: bxl _ _ _ :: bxl _ _ _ :: ow _ _ _ _ :: ow _ _ _ _ :: rds _ _ _ :: OO kT3 3 A41 D41 last40 :: W1) (fun w s => (s.f 8 [7, 1, 6, 1, 0, 6])) ?_)))))
 refine lC 2 cb154 R (impl_writer_put_ok hx135) R ?_
 rintro ⟨A136, N136, D136⟩
 refine lN (ow kT119 119 (.slice A136 N136 D136) r134.code :: bxl b96 [(.slice A136 N136 D136)] 193 :: _ :: _ :: _ :: _ :: _ :: _ :: W1) ?_
 refine l_len 0 sees_ow ?_
 rintro rfl
 refine l_nil (q_blockn (q_blockn ?_))
 exact qI (r134.code, (A136, r134.code.length, D136)) hr (fun w s => (s.f 8 [3, 5, 1, 1, 0, 1]))
 refine c_false R hb133 ?_
 obtain ⟨r137, hx138, hr⟩ := bd hr
 refine c_region (lP R (lO (vFa 0 fo216_0 R) (lO (vLd 0 ag3 R R R) (lO (vSb R R) (lO (vAd R R) (lI R (lO (vFa 1 fo216_1 R) (lO (vLd 0 ag3 R R R) (lO (vFa 2 fo216_2 R) (lO (vLd 0 ag3 R R R) (lM (OO kT119 119 A119 D119 body118 :: bxl b96 [(sc A119 body118 D119)] 193 :: bxl _ _ _ :: bxl _ _ _ :: ow _ _ _ _ :: ow _ _ _ _ :: rds _ _ _ :: ow _ _ _ _ :: W1) (fun w s => (s.f 8 [7, 1, 6, 1, 0, 6])) ?_)))))))))))
 refine lC 2 cb154 R (impl_writer_put_ok hx138) R ?_
 rintro ⟨A139, N139, D139⟩
 refine lN (ow kT119 119 (.slice A139 N139 D139) r137.code :: bxl b96 [(.slice A139 N139 D139)] 193 :: _ :: _ :: _ :: _ :: _ :: _ :: W1) ?_
 refine l_len 0 sees_ow ?_
 rintro rfl
 refine l_nil (q_blockn (q_blockn ?_))
 exact qI (r137.code, (A139, r137.code.length, D139)) hr (fun w s => (s.f 8 [3, 5, 1, 1, 0, 1]))
 rintro ⟨body140, ⟨A141, N141, D141⟩⟩ σ1 hr
 replace hr : impl_writer_kernel_J6 x120 body140 = some out3 := hr
 unfold impl_writer_kernel_J6 at hr
 refine c_len 6 sees_ow (fun (hn : N141 = body140.length) => ?_)
 subst hn
 refine c_region (lO (vAd R R) (lI R (l_nil ?_)))
 obtain rfl := so hr
 exact qA (A141, body140.length, D141) (fun w s => s)
 refine c_false R hb121 (c_exit (q_exit ?_))
 obtain rfl := so hr
 obtain rfl := he3 _ R
 have hr := hk3
 refine q_exit (q_block ?_)
 exact qI (body118, (A119, body118.length, D119)) hr (fun w s => s)
 rintro ⟨body145, ⟨A146, N146, D146⟩⟩ σ1 hr
 replace hr : impl_writer_kernel_J7 k11 r18 outer37 n39 last40 x94 body145 = some r := hr
 unfold impl_writer_kernel_J7 at hr
 refine c_len 6 sees_ow (fun (hn : N146 = body145.length) => ?_)
 subst hn
 refine c_seq (c_region (lS R (lO (v_len sl122 R) (lO (vSb R R) (lI R (l_nil (q_next (c_seq (c_region (lI R (l_nil (q_next (c_seq (c_cut (A := (Int) × (Unit)) (fun a => impl_writer_kernel_J8 k11 r18 outer37 n39 last40 x94 body145 a.1 = some r) (fun a => [(0, (pt b2 0)), (5, (pt b17 0)), (6, (sc A24 (r18 ++ ([k11.Store] : List Access)) D24)), (7, (sc A38 outer37 D38)), (8, (iv n39)), (9, (sc A41 last40 D41)), (15, (pt b96 0)), (18, (iv (w64 (((r18 ++ ([k11.Store] : List Access)).length : Int) - (1 : Int))))), (19, (iv a.1))]) (fun a => bxl b2 [(sc A95 x94 D95)] 193 :: OO kT119 119 A95 D95 x94 :: OO (kT124).share 124 A24 D24 (r18 ++ ([k11.Store] : List Access)) :: RR kT3 A38 D38 outer37 :: OO kT3 3 A41 D41 last40 :: bxl b96 [(sc A146 body145 D146)] 193 :: OO kT119 119 A146 D146 body145 :: W1) ?_ ?_))))))))))))))
 refine c_seq (c_region (lO (vFa 5 fo127_3 R) (lO (vLd 7 ag4 R R R) (l_nil (q_next ?_)))))
 rcases bif_ hr with ⟨hb147, hr⟩ | ⟨hb147, hr⟩
 refine c_true R hb147 (c_region (lI R (l_nil ?_)))
 exact qI ((8 : Int), ()) hr (fun w s => s)
 refine c_false R hb147 (c_skip ?_)
 exact qI ((7 : Int), ()) hr (fun w s => s)
 rintro ⟨op148, _⟩ σ1 hr
 replace hr : impl_writer_kernel_J8 k11 r18 outer37 n39 last40 x94 body145 op148 = some r := hr
 unfold impl_writer_kernel_J8 at hr
 refine c_seq ?_
 obtain ⟨hg149, hr⟩ := gd hr
 obtain ⟨r152, hx153, hr⟩ := bd hr
 refine c_some 4 sees_ow (show 0 < last40.length by have := hg149; omega) (fun g150 o151 ha => ?_)
 subst ha
 refine cdr 12 [6, 5] mixo (fun ht hn => (dR 0 R (vP R) (hS := (sL [6, 5])) (dR 1 R (vI R) (hS := (sL [6, 5])) (dR 2 R (vFa 6 fo127_4 R) (hS := (sL [6, 5])) (dR 3 R (vLd 5 ag125 R R R) (hS := (sL [6, 5])) (dR 4 R (v_len sl125 R) (hS := (sL [6, 5])) (dR 5 R (vSb R R) (hS := (sL [6, 5])) (dR 6 R (vI R) (hS := (sL [6, 5])) (dR 7 R (vS R) (hS := (sL [6, 5])) (dR 8 R (vI R) (hS := (sL [6, 5])) (dR 9 R (vIa sl29 sz3 R R hg149) (hS := (sL [6, 5])) (dR 10 R (vLi 4 ag3 sees_ow R hg149) (hS := (sL [6, 5])) (d_one 11 (by kernel_rfl) R (lM (OO kT119 119 A146 D146 body145 :: bxl b96 [(sc A146 body145 D146)] 193 :: bxl _ _ _ :: ow _ _ _ _ :: ow _ _ _ _ :: rds _ _ _ :: OO kT3 3 (ad g150 o151) D41 last40 :: W1) (fun w s => (s.f 7 [6, 1, 5, 1, 0, 5])) ?_))))))))))))))
 refine lC 2 cb154 R (impl_writer_put_ok hx153) R ?_
 rintro ⟨A154, N154, D154⟩
 refine lN (ow kT119 119 (.slice A154 N154 D154) r152.code :: bxl b96 [(.slice A154 N154 D154)] 193 :: _ :: _ :: _ :: _ :: _ :: W1) ?_
 refine l_len 0 sees_ow ?_
 rintro rfl
 refine l_nil (q_draw (sL [1, 0]) (d_done (by kernel_rfl) (q_next (c_seq ?_))))
 obtain ⟨r155, hx156, hr⟩ := bd hr
 refine c_region (lP R (lI R (lS R (lP R (lP R (lO (vFa 0 fo193_0 R) (lO (vLd 1 ag67 R R R) (lM (ow _ _ _ _ :: ow _ _ _ _ :: ow _ _ _ _ :: bxl _ _ _ :: bxl b96 [(sc A154 r152.code D154)] 193 :: ow _ _ _ _ :: rds _ _ _ :: W1) (fun w s => (s.e 7 [6, 0, 3, 2, 1, 4, 5])) ?_))))))))
 refine lC 4 cb155 R (FnOk.lends (A' := [OO kT3 3 (ad g150 o151) D41 last40, OO kT119 119 A154 D154 r152.code]) (A := [RR kT3 (ad g150 o151) D41 last40, RR kT119 A154 D154 r152.code]) (B := [OO kT119 119 A95 D95 x94, bxl b2 [(sc A95 x94 D95)] 193]) (FnOk.perm (impl_writer_chunks_ok hx156) (Pre' := [RR kT3 (ad g150 o151) D41 last40, RR kT119 A154 D154 r152.code, OO kT119 119 A95 D95 x94, bxl b2 [(sc A95 x94 D95)] 193]) (fun _ _ _ s => (s.e 4 [2, 3, 0, 1]))) ⟨lend_ow, lend_ow, trivial⟩ (fun _ => ⟨(closed_ow cT119), closed_bx, trivial⟩)) R ?_
 rintro ⟨A157, N157, D157⟩
 refine lN (_ :: _ :: ow kT119 119 (.slice A157 N157 D157) r155.code :: bxl b2 [(.slice A157 N157 D157)] 193 :: _ :: _ :: _ :: W1) ?_
 refine l_len 2 sees_ow ?_
 rintro rfl
 refine l_nil (q_next (c_seq (c_cut (A := ((List Instr)) × (HH)) (fun a => impl_writer_kernel_J9 k11 r18 outer37 a.1 = some r) (fun a => [(0, (pt b2 0)), (6, (sc A24 (r18 ++ ([k11.Store] : List Access)) D24)), (7, (sc A38 outer37 D38))]) (fun a => bxl b2 [(.slice a.2.1 a.2.2.1 a.2.2.2)] 193 :: ow kT119 119 (.slice a.2.1 a.2.2.1 a.2.2.2) a.1 :: OO (kT124).share 124 A24 D24 (r18 ++ ([k11.Store] : List Access)) :: RR kT3 A38 D38 outer37 :: W1) ?_ ?_)))
 refine c_seq (c_region (lS R (lO (v_len sl29 R) (lI R (l_nil (q_next (c_block ?_)))))))
 obtain ⟨e4, hl4, hk4⟩ := bd hr
 refine c_loop (A := HH) hl4 (fun s a => [(0, (pt b2 0)), (6, (sc A24 (r18 ++ ([k11.Store] : List Access)) D24)), (7, (sc A38 outer37 D38)), (8, (iv n39)), (155, (sc (ad g150 o151) last40 D41)), (156, (il last40)), (157, (iv s.2))]) (fun s a => bxl b2 [(.slice a.1 a.2.1 a.2.2)] 193 :: ow kT119 119 (.slice a.1 a.2.1 a.2.2) s.1 :: OO (kT124).share 124 A24 D24 (r18 ++ ([k11.Store] : List Access)) :: RR kT3 A38 D38 outer37 :: OO kT3 3 (ad g150 o151) D41 last40 :: W1) (A157, r155.code.length, D157) (aS R) (fun w s => (s.e 7 [3, 2, 5, 6, 0])) ?_
 rintro ⟨x163, x165⟩ ⟨A164, N164, D164⟩ σ1 out4 hr he4
 replace hr : impl_writer_kernel_L4 n39 last40 x163 x165 = some out4 := hr
 unfold impl_writer_kernel_L4 at hr
 refine c_len 1 sees_ow (fun (hn : N164 = x163.length) => ?_)
 subst hn
 refine c_seq (c_region (lO (vLt R R) (l_nil (q_next (c_seq ?_)))))
 rcases bif_ hr with ⟨hb166, hr⟩ | ⟨hb166, hr⟩
 refine c_true R hb166 (c_skip (q_next (c_seq (c_block (c_seq ?_)))))
 obtain ⟨hg167, hr⟩ := gd hr
 refine c_region (lI R (lO (vIa sl29 sz3 R R hg167) (lO (vLi 4 ag3 sees_ow R hg167) (lI R (lI R (l_nil (q_next ?_)))))))
 obtain ⟨r168, hx169, hr⟩ := bd hr
 refine c_region (lP R (lI R (lI R (lO (vz (iv (w64 (n39.tdiv (8 : Int)))) (v_quo R R (by decide))) (lO (vMu R R) (lI R (lO (vMu R R) (lM (OO kT119 119 A164 D164 x163 :: bxl b2 [(sc A164 x163 D164)] 193 :: ow _ _ _ _ :: rds _ _ _ :: ow _ _ _ _ :: W1) (fun w s => (s.e 5 [1, 0, 2, 3, 4])) ?_))))))))
 refine lC 2 cb202 R (impl_writer_move_ok hx169) R ?_
 rintro ⟨A170, N170, D170⟩
 refine lN (ow kT119 119 (.slice A170 N170 D170) r168.code :: bxl b2 [(.slice A170 N170 D170)] 193 :: _ :: _ :: _ :: W1) ?_
 refine l_len 0 sees_ow ?_
 rintro rfl
 refine l_nil (q_blockn (q_next (c_region (lO (vAd R R) (lI R (l_nil ?_))))))
 obtain rfl := so hr
 exact qA (A170, r168.code.length, D170) (fun w s => (s.e 5 [1, 0, 2, 3, 4]))
 refine c_false R hb166 (c_exit (q_exit ?_))
 obtain rfl := so hr
 obtain rfl := he4 _ R
 have hr := hk4
 refine q_exit (q_block ?_)
 exact qI (x163, (A164, x163.length, D164)) hr (fun w s => (s.f 5 [0, 4]))
 rintro ⟨x174, ⟨A175, N175, D175⟩⟩ σ1 hr
 replace hr : impl_writer_kernel_J9 k11 r18 outer37 x174 = some r := hr
 unfold impl_writer_kernel_J9 at hr
 refine c_len 1 sees_ow (fun (hn : N175 = x174.length) => ?_)
 subst hn
 refine c_seq (c_region (lS R (lO (v_len sl29 R) (lO (vSb R R) (lI R (l_nil (q_next (c_block ?_))))))))
 obtain ⟨e5, hl5, hk5⟩ := bd hr
 refine c_loop (A := HH) hl5 (fun s a => [(0, (pt b2 0)), (6, (sc A24 (r18 ++ ([k11.Store] : List Access)) D24)), (7, (sc A38 outer37 D38)), (22, (iv s.2))]) (fun s a => bxl b2 [(.slice a.1 a.2.1 a.2.2)] 193 :: ow kT119 119 (.slice a.1 a.2.1 a.2.2) s.1 :: OO (kT124).share 124 A24 D24 (r18 ++ ([k11.Store] : List Access)) :: RR kT3 A38 D38 outer37 :: W1) (A175, x174.length, D175) (aS R) (fun w s => s) ?_
 rintro ⟨x250, x252⟩ ⟨A251, N251, D251⟩ σ1 out5 hr he5
 replace hr : impl_writer_kernel_L5 k11 r18 outer37 x250 x252 = some out5 := hr
 unfold impl_writer_kernel_L5 at hr
 refine c_len 1 sees_ow (fun (hn : N251 = x250.length) => ?_)
 subst hn
 refine c_seq (c_seq (c_region (lI R (lO (vGe R R) (l_nil (q_next ?_))))))
 rcases bif_ hr with ⟨hb253, hr⟩ | ⟨hb253, hr⟩
 refine c_true R hb253 (c_skip (q_next (c_seq (c_cut (A := ((List Instr)) × (HH)) (fun a => impl_writer_kernel_J13 x252 a.1 = some out5) (fun a => [(0, (pt b2 0)), (6, (sc A24 (r18 ++ ([k11.Store] : List Access)) D24)), (7, (sc A38 outer37 D38)), (22, (iv x252))]) (fun a => bxl b2 [(.slice a.2.1 a.2.2.1 a.2.2.2)] 193 :: ow kT119 119 (.slice a.2.1 a.2.2.1 a.2.2.2) a.1 :: OO (kT124).share 124 A24 D24 (r18 ++ ([k11.Store] : List Access)) :: RR kT3 A38 D38 outer37 :: W1) ?_ ?_))))
 refine c_block (c_seq (c_cut (A := ((List Instr)) × (HH)) (fun a => impl_writer_kernel_J12 k11 r18 outer37 x252 a.1 = some out5) (fun a => [(0, (pt b2 0)), (6, (sc A24 (r18 ++ ([k11.Store] : List Access)) D24)), (7, (sc A38 outer37 D38)), (22, (iv x252))]) (fun a => bxl b2 [(.slice a.2.1 a.2.2.1 a.2.2.2)] 193 :: ow kT119 119 (.slice a.2.1 a.2.2.1 a.2.2.2) a.1 :: OO (kT124).share 124 A24 D24 (r18 ++ ([k11.Store] : List Access)) :: RR kT3 A38 D38 outer37 :: W1) ?_ ?_))
 refine c_seq (c_region (lS R (lO (v_len sl122 R) (lI R (l_nil (q_next (c_block ?_)))))))
 obtain ⟨e6, hl6, hk6⟩ := bd hr
 refine c_loop (A := HH) hl6 (fun s a => [(0, (pt b2 0)), (6, (sc A24 (r18 ++ ([k11.Store] : List Access)) D24)), (7, (sc A38 outer37 D38)), (22, (iv x252)), (178, (sc A24 (r18 ++ ([k11.Store] : List Access)) D24)), (179, (il (r18 ++ ([k11.Store] : List Access)))), (180, (iv s.2))]) (fun s a => bxl b2 [(.slice a.1 a.2.1 a.2.2)] 193 :: ow kT119 119 (.slice a.1 a.2.1 a.2.2) s.1 :: OO (kT124).share 124 A24 D24 (r18 ++ ([k11.Store] : List Access)) :: RR kT3 A38 D38 outer37 :: W1) (A251, x250.length, D251) (aS R) (fun w s => s) ?_
 rintro ⟨x266, x268⟩ ⟨A267, N267, D267⟩ σ1 out6 hr he6
 replace hr : impl_writer_kernel_L6 k11 r18 x252 x266 x268 = some out6 := hr
 unfold impl_writer_kernel_L6 at hr
 refine c_len 1 sees_ow (fun (hn : N267 = x266.length) => ?_)
 subst hn
 refine c_seq (c_region (lO (vLt R R) (l_nil (q_next (c_seq ?_)))))
 rcases bif_ hr with ⟨hb269, hr⟩ | ⟨hb269, hr⟩
 refine c_true R hb269 (c_skip (q_next (c_seq (c_block (c_seq ?_)))))
 obtain ⟨hg270, hr⟩ := gd hr
 refine c_region (lI R (t_some 2 sees_sh (show 0 < (r18 ++ ([k11.Store] : List Access)).length by have := hg270; omega) (fun g271 o272 ha => ?_)))
 subst ha
 refine lO (vIa sl122 sz124 R R hg270) (l_ldo (K := (kT124).share) 2 x268 R R ag124 sz124 dT124.own R R hg270.1 hg270.2 ?_)
 rintro ⟨-, -, ⟨A273, D273⟩⟩
 refine lN (RR kT3 A273 D273 ((ix (r18 ++ ([k11.Store] : List Access)) x268).Steps) :: bxl b2 [(sc A267 x266 D267)] 193 :: OO kT119 119 A267 D267 x266 :: OO (kT124).share 124 (ad g271 o272) D24 (r18 ++ ([k11.Store] : List Access)) :: _ :: W1) ?_
 refine l_alloc R R zc124 (fun b274 => (lI R (l_stores 0 R R sz124 R R R R R R (lN (bxl b274 [(iv (ix (r18 ++ ([k11.Store] : List Access)) x268).Buffer), (iv (ix (r18 ++ ([k11.Store] : List Access)) x268).Offset), (sc A273 ((ix (r18 ++ ([k11.Store] : List Access)) x268).Steps) D273)] 124 :: _ :: _ :: _ :: _ :: _ :: W1) ?_))))
 refine l_nil (q_next ?_)
 obtain ⟨hg275, hr⟩ := gd hr
 obtain ⟨r278, hx279, hr⟩ := bd hr
 refine c_region (lP R (lI R (lO (vFa 2 fo124_2 R) (lO (vLd 0 ag29 R R R) (lI R (t_some 1 sees_rd (show 0 < ((ix (r18 ++ ([k11.Store] : List Access)) x268).Steps).length by have := hg275; omega) (fun g276 o277 ha => ?_)))))))
 subst ha
 refine lO (vIa sl29 sz3 R R hg275) (lO (vLi 1 ag3 sees_rd R hg275) (lM (ow _ _ _ _ :: bxl _ _ _ :: bxl b274 [(iv (ix (r18 ++ ([k11.Store] : List Access)) x268).Buffer), (iv (ix (r18 ++ ([k11.Store] : List Access)) x268).Offset), (sc (ad g276 o277) ((ix (r18 ++ ([k11.Store] : List Access)) x268).Steps) D273)] 124 :: RR kT3 (ad g276 o277) D273 ((ix (r18 ++ ([k11.Store] : List Access)) x268).Steps) :: ow _ _ _ _ :: rds _ _ _ :: W1) (fun w s => (s.e 6 [3, 2, 0, 1, 4, 5])) ?_))
 refine lC 2 cb202 R (impl_writer_move_ok hx279) R ?_
 rintro ⟨A280, N280, D280⟩
 refine lN (ow kT119 119 (.slice A280 N280 D280) r278.code :: bxl b2 [(.slice A280 N280 D280)] 193 :: _ :: _ :: _ :: _ :: W1) ?_
 refine l_len 0 sees_ow ?_
 rintro rfl
 refine l_nil (q_blockn (q_next (c_region (lO (vAd R R) (lI R (l_nil ?_))))))
 obtain rfl := so hr
 exact qA (A280, r278.code.length, D280) (fun w s => (s.e 6 [1, 0, 4, 5]))
 refine c_false R hb269 (c_exit (q_exit ?_))
 obtain rfl := so hr
 obtain rfl := he6 _ R
 have hr := hk6
 refine q_exit (q_block ?_)
 exact qI (x266, (A267, x266.length, D267)) hr (fun w s => s)
 rintro ⟨x284, ⟨A285, N285, D285⟩⟩ σ1 hr
 replace hr : impl_writer_kernel_J12 k11 r18 outer37 x252 x284 = some out5 := hr
 unfold impl_writer_kernel_J12 at hr
 refine c_len 1 sees_ow (fun (hn : N285 = x284.length) => ?_)
 subst hn
 refine c_seq ?_
 obtain ⟨r286, hx287, hr⟩ := bd hr
 refine c_region (lP R (lM (OO kT119 119 A285 D285 x284 :: bxl b2 [(sc A285 x284 D285)] 193 :: OO (kT124).share 124 A24 D24 (r18 ++ ([k11.Store] : List Access)) :: rds _ _ _ :: W1) (fun w s => (s.e 4 [1, 0, 2, 3])) ?_))
 refine lC 2 cb154 R (impl_writer_put_ok hx287) R ?_
 rintro ⟨A288, N288, D288⟩
 refine lN (ow kT119 119 (.slice A288 N288 D288) r286.code :: bxl b2 [(.slice A288 N288 D288)] 193 :: _ :: _ :: W1) ?_
 refine l_len 0 sees_ow ?_
 rintro rfl
 refine l_nil (q_next (c_seq (c_region (lS R (lO (v_len sl122 R) (lI R (l_nil (q_next (c_block ?_)))))))))
 obtain ⟨e7, hl7, hk7⟩ := bd hr
 refine c_loop (A := HH) hl7 (fun s a => [(0, (pt b2 0)), (6, (sc A24 (r18 ++ ([k11.Store] : List Access)) D24)), (7, (sc A38 outer37 D38)), (22, (iv x252)), (196, (sc A24 (r18 ++ ([k11.Store] : List Access)) D24)), (197, (il (r18 ++ ([k11.Store] : List Access)))), (198, (iv s.2))]) (fun s a => bxl b2 [(.slice a.1 a.2.1 a.2.2)] 193 :: ow kT119 119 (.slice a.1 a.2.1 a.2.2) s.1 :: OO (kT124).share 124 A24 D24 (r18 ++ ([k11.Store] : List Access)) :: RR kT3 A38 D38 outer37 :: W1) (A288, r286.code.length, D288) (aS R) (fun w s => (s.e 4 [1, 0, 2, 3])) ?_
 rintro ⟨x304, x306⟩ ⟨A305, N305, D305⟩ σ1 out7 hr he7
 replace hr : impl_writer_kernel_L7 k11 r18 outer37 x252 x304 x306 = some out7 := hr
 unfold impl_writer_kernel_L7 at hr
 refine c_len 1 sees_ow (fun (hn : N305 = x304.length) => ?_)
 subst hn
 refine c_seq (c_region (lO (vLt R R) (l_nil (q_next (c_seq ?_)))))
 rcases bif_ hr with ⟨hb307, hr⟩ | ⟨hb307, hr⟩
 refine c_true R hb307 (c_skip (q_next (c_seq (c_block (c_seq ?_)))))
 obtain ⟨hg308, hr⟩ := gd hr
 refine c_region (lI R (t_some 2 sees_sh (show 0 < (r18 ++ ([k11.Store] : List Access)).length by have := hg308; omega) (fun g309 o310 ha => ?_)))
 subst ha
 refine lO (vIa sl122 sz124 R R hg308) (l_ldo (K := (kT124).share) 2 x306 R R ag124 sz124 dT124.own R R hg308.1 hg308.2 ?_)
 rintro ⟨-, -, ⟨A311, D311⟩⟩
 refine lN (RR kT3 A311 D311 ((ix (r18 ++ ([k11.Store] : List Access)) x306).Steps) :: bxl b2 [(sc A305 x304 D305)] 193 :: OO kT119 119 A305 D305 x304 :: OO (kT124).share 124 (ad g309 o310) D24 (r18 ++ ([k11.Store] : List Access)) :: _ :: W1) ?_
 refine l_alloc R R zc124 (fun b312 => (lI R (l_stores 0 R R sz124 R R R R R R (lN (bxl b312 [(iv (ix (r18 ++ ([k11.Store] : List Access)) x306).Buffer), (iv (ix (r18 ++ ([k11.Store] : List Access)) x306).Offset), (sc A311 ((ix (r18 ++ ([k11.Store] : List Access)) x306).Steps) D311)] 124 :: _ :: _ :: _ :: _ :: _ :: W1) ?_))))
 refine l_nil (q_next ?_)
 obtain ⟨hg313, hr⟩ := gd hr
 obtain ⟨hg316, hr⟩ := gd hr
 obtain ⟨r319, hx320, hr⟩ := bd hr
 refine c_some 5 sees_rd (show 0 < outer37.length by have := hg313; omega) (fun g314 o315 ha => ?_)
 subst ha
 refine c_some 1 sees_rd (show 0 < ((ix (r18 ++ ([k11.Store] : List Access)) x306).Steps).length by have := hg316; omega) (fun g317 o318 ha => ?_)
 subst ha
 refine cdr 14 [3, 2] mixo (fun ht hn => (dR 0 R (vP R) (hS := (sL [3, 2])) (dR 1 R (vI R) (hS := (sL [3, 2])) (dR 2 R (vS R) (hS := (sL [3, 2])) (dR 3 R (vI R) (hS := (sL [3, 2])) (dR 4 R (vIa sl29 sz3 R R hg313) (hS := (sL [3, 2])) (dR 5 R (vLi 3 ag3 sees_rd R hg313) (hS := (sL [3, 2])) (dR 6 R (vp (iv (w64 (0 - (ix outer37 x252)))) R) (hS := (sL [3, 2])) (dR 7 R (vFa 2 fo124_2 R) (hS := (sL [3, 2])) (dR 8 R (vLd 0 ag29 R R R) (hS := (sL [3, 2])) (dR 9 R (vI R) (hS := (sL [3, 2])) (dR 10 R (vIa sl29 sz3 R R hg316) (hS := (sL [3, 2])) (dR 11 R (vLi 1 ag3 sees_rd R hg316) (hS := (sL [3, 2])) (dR 12 R (vMu R R) (hS := (sL [3, 2])) (d_one 13 (by kernel_rfl) R (lM (ow _ _ _ _ :: bxl _ _ _ :: bxl b312 [(iv (ix (r18 ++ ([k11.Store] : List Access)) x306).Buffer), (iv (ix (r18 ++ ([k11.Store] : List Access)) x306).Offset), (sc (ad g317 o318) ((ix (r18 ++ ([k11.Store] : List Access)) x306).Steps) D311)] 124 :: RR kT3 (ad g317 o318) D311 ((ix (r18 ++ ([k11.Store] : List Access)) x306).Steps) :: ow _ _ _ _ :: RR kT3 (ad g314 o315) D38 outer37 :: W1) (fun w s => (s.e 6 [3, 2, 0, 1, 4, 5])) ?_))))))))))))))))
 refine lC 2 cb202 R (impl_writer_move_ok hx320) R ?_
 rintro ⟨A321, N321, D321⟩
 refine lN (ow kT119 119 (.slice A321 N321 D321) r319.code :: bxl b2 [(.slice A321 N321 D321)] 193 :: _ :: _ :: _ :: _ :: W1) ?_
 refine l_len 0 sees_ow ?_
 rintro rfl
 refine l_nil (q_draw (sL [1, 0]) (d_done (by kernel_rfl) (q_blockn (q_next (c_region (lO (vAd R R) (lI R (l_nil ?_))))))))
 obtain rfl := so hr
 exact qA (A321, r319.code.length, D321) (fun w s => (s.e 6 [1, 0, 4, 5]))
 refine c_false R hb307 (c_exit (q_exit ?_))
 obtain rfl := so hr
 obtain rfl := he7 _ R
 have hr := hk7
 refine q_exit (q_block (q_blockn ?_))
 exact qI (x304, (A305, x304.length, D305)) hr (fun w s => s)
 rintro ⟨x325, ⟨A326, N326, D326⟩⟩ σ1 hr
 replace hr : impl_writer_kernel_J13 x252 x325 = some out5 := hr
 unfold impl_writer_kernel_J13 at hr
 refine c_len 1 sees_ow (fun (hn : N326 = x325.length) => ?_)
 subst hn
 refine c_region (lI R (lO (vSb R R) (lI R (l_nil ?_))))
 obtain rfl := so hr
 exact qA (A326, x325.length, D326) (fun w s => s)
 refine c_false R hb253 (c_exit (q_exit ?_))
 obtain rfl := so hr
 obtain rfl := he5 _ R
 have hr := hk5
 refine q_exit (q_block ?_)
 obtain rfl := so hr
 exact q_fin (vs := []) (.inr R) (A251, x250.length, D251) R trivial R (fun w s => (s.e 16 [1, 0]))
end Go.Proofs.Ytbdchgofcejiiaa
