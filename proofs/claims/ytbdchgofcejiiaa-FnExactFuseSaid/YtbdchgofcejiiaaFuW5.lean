import Derived.Test.YtbdchgofcejiiaaFuW4
set_option linter.unusedVariables false
set_option maxRecDepth 20000
namespace Go.Proofs.Ytbdchgofcejiiaa
open Go Go.Pg
variable {A2 A3 A4 A5 A6 A8 A9 A10 A11 A13 : Option Addr} {D2 D3 D4 D5 D6 D8 D9 D10 D11 D13 N2 N3 N4 N5 N6 N8 N9 N10 N11 N13 : Nat}
theorem impl_Access_fitsIn_ok {a1 : Access} {loops3 : (List Int)} {size5 : Int} {r : Bool} (hr : impl_Access_fitsIn a1 loops3 size5 = some r) :
 FnOk Try.prog 185 [(.agg [(iv a1.Buffer), (iv a1.Offset), (.slice A2 N2 D2)].toArray), (.slice A4 N4 D4), (iv size5)] [rds kT3 (.slice A2 N2 D2) a1.Steps, rds kT3 (.slice A4 N4 D4) loops3] (fun (h : Unit) => ((.bool r), [])) := by
 unfold impl_Access_fitsIn at hr
 refine fn_ok Try.func185 R 85 R R fun C V => ?_
 refine cN (_ :: _ :: V) ?_
 refine cL 0 sees_rd ?_
 rintro rfl
 refine cL 1 sees_rd ?_
 rintro rfl
 let W0 : List HP := RR kT3 A2 D2 a1.Steps :: RR kT3 A4 D4 loops3 :: V
 refine cN W0 ?_
 refine c_seq (c_region (lBx R (fun b6 => (lB R (l_nil ?_)))))
 let W1 : List HP := bxl b6 [(iv a1.Buffer), (iv a1.Offset), (sc A2 a1.Steps D2)] 124 :: W0
 refine qN W1 ?_
 refine q_next (c_seq (c_seq (cQ [(1, (sc A4 loops3 D4)), (2, (iv size5)), (3, (pt b6 0)), (27, (.bool ((((a1.Steps.length : Int) != (loops3.length : Int)) || (decide (a1.Offset < (0 : Int)))) || (decide (a1.Offset ≥ size5)))))] (W1) ?_ ?_)))
 refine c_region (lO (vFa 2 fo124_2 R) (lO (vLd 0 ag29 R R R) (lO (v_len sl29 R) (lS R (lO (v_len sl29 R) (lO (vNe R R) (lB R ?_)))))))
 rcases bo ((a1.Steps.length : Int) != (loops3.length : Int)) with hc7 | hc7
 refine lf (wfT hc7) (lf (wfT hc7) (lf (wfT hc7) (lO (pOT (decide (a1.Offset < (0 : Int))) R hc7) (lB R (lf (wfT (oT hc7)) (lf (wfT (oT hc7)) (lf (wfT (oT hc7)) (lf (wfT (oT hc7)) (lO (pOT (decide (a1.Offset ≥ size5)) R (oT hc7)) (l_nil ?_))))))))))
 exact qJ (fun w s => s)
 refine lW (wnF hc7) (vFa 1 fo124_1 R) (lW (wnF hc7) (vLd 0 ag3 R R R) (lW (wnF hc7) (vLt R R) (lO (pOF R hc7 R) (lB R ?_))))
 rcases bo (((a1.Steps.length : Int) != (loops3.length : Int)) || (decide (a1.Offset < (0 : Int)))) with hc8 | hc8
 refine lf (wfT hc8) (lf (wfT hc8) (lf (wfT hc8) (lf (wfT hc8) (lO (pOT (decide (a1.Offset ≥ size5)) R hc8) (l_nil ?_)))))
 exact qJ (fun w s => s)
 refine lW (wnF hc8) (vFa 1 fo124_1 R) (lW (wnF hc8) (vLd 0 ag3 R R R) (lW (wnF hc8) (vI R) (lW (wnF hc8) (vGe R R) (lO (pOF R hc8 R) (l_nil ?_)))))
 exact qJ (fun w s => s)
 rintro σ1
 refine q_next ?_
 rcases bif_ hr with ⟨hb9, hr⟩ | ⟨hb9, hr⟩
 refine c_true R hb9 (c_seq (c_region (lB R (l_nil (q_next (c_ret (q_ret ?_)))))))
 obtain rfl := so hr
 exact qF () (fun w s => (s.e 3 []))
 refine c_false R hb9 (c_skip (q_next (c_seq (cdr 6 [] mixo (fun ht hn => (dR 0 R (vFa 1 fo124_1 R) (dR 1 R (vLd 0 ag3 R R R) (dR 2 R (vFa 1 fo124_1 R) (dR 3 R (vLd 0 ag3 R R R) (dR 4 R (vI R) (dR 5 R (vI R) (d_done (by kernel_rfl) (q_next (c_seq (c_cut (A := (Int × Int) × (Unit)) (fun a => impl_Access_fitsIn_J1 size5 a.1.1 a.1.2 = some r) (fun a => [(2, (iv size5)), (7, (iv a.1.1)), (8, (iv a.1.2))]) (fun a => W1) ?_ ?_)))))))))))))))
 refine c_seq (c_region (lO (vFa 2 fo124_2 R) (lO (vLd 0 ag29 R R R) (lO (v_len sl29 R) (lI R (l_nil (q_next (c_block ?_))))))))
 obtain ⟨e1, hl1, hk1⟩ := bd hr
 refine c_loop (A := HH) hl1 (fun s a => [(1, (sc A4 loops3 D4)), (2, (iv size5)), (7, (iv s.1)), (8, (iv s.2.1)), (33, (.slice a.1 a.2.1 a.2.2)), (34, (il a1.Steps)), (35, (iv s.2.2))]) (fun s a => rds kT3 (.slice a.1 a.2.1 a.2.2) a1.Steps :: W1) (A2, a1.Steps.length, D2) (aS R) (fun w s => (s.d 1 R)) ?_
 rintro ⟨lo24, hi25, x27⟩ ⟨A26, N26, D26⟩ σ1 out1 hr he1
 replace hr : impl_Access_fitsIn_L1 a1 loops3 lo24 hi25 x27 = some out1 := hr
 unfold impl_Access_fitsIn_L1 at hr
 refine c_len 0 sees_rd (fun (hn : N26 = a1.Steps.length) => ?_)
 subst hn
 refine c_seq (c_region (lO (vLt R R) (l_nil (q_next (c_seq ?_)))))
 rcases bif_ hr with ⟨hb28, hr⟩ | ⟨hb28, hr⟩
 refine c_true R hb28 (c_skip (q_next (c_seq (c_block (c_seq ?_)))))
 obtain ⟨hg29, hr⟩ := gd hr
 refine c_region (lI R (t_some 0 sees_rd (show 0 < a1.Steps.length by have := hg29; omega) (fun g30 o31 ha => ?_)))
 subst ha
 refine lO (vIa sl29 sz3 R R hg29) (lO (vLi 0 ag3 sees_rd R hg29) (lI R (lI R (l_nil (q_next (c_seq (c_seq ?_)))))))
 obtain ⟨hg32, hr⟩ := gd hr
 refine cQ [(1, (sc A4 loops3 D4)), (2, (iv size5)), (7, (iv lo24)), (8, (iv hi25)), (9, (iv x27)), (10, (iv (ix a1.Steps x27))), (33, (sc (ad g30 o31) a1.Steps D26)), (34, (il a1.Steps)), (35, (iv x27)), (56, (.bool (((decide ((ix a1.Steps x27) < (-4096 : Int))) || (decide ((ix a1.Steps x27) > (4096 : Int)))) || (((ix loops3 x27) == (1 : Int)) && ((ix a1.Steps x27) != (0 : Int))))))] (RR kT3 (ad g30 o31) D26 a1.Steps :: W1) ?_ ?_
 refine c_region (lI R (lO (vLt R R) (lB R ?_)))
 rcases bo (decide ((ix a1.Steps x27) < (-4096 : Int))) with hc35 | hc35
 refine lf (wfT hc35) (lf (wfT hc35) (lO (pOT (decide ((ix a1.Steps x27) > (4096 : Int))) R hc35) (lB R (lf (wfT (oT hc35)) (lf (wfT (oT hc35)) (lf (wfT (oT hc35)) (lf (wfT (oT hc35)) (lf (wfT (oT hc35)) (lf (wfT (oT hc35)) (lf R (lf R (lf (wfT (oT hc35)) (lO (pOT (((ix loops3 x27) == (1 : Int)) && ((ix a1.Steps x27) != (0 : Int))) R (oT hc35)) (l_nil ?_))))))))))))))
 exact qJ (fun w s => s)
 refine lW (wnF hc35) (vI R) (lW (wnF hc35) (vGt R R) (lO (pOF R hc35 R) (lB R ?_)))
 rcases bo ((decide ((ix a1.Steps x27) < (-4096 : Int))) || (decide ((ix a1.Steps x27) > (4096 : Int)))) with hc36 | hc36
 refine lf (wfT hc36) (lf (wfT hc36) (lf (wfT hc36) (lf (wfT hc36) (lf (wfT hc36) (lf (wfT hc36) (lf R (lf R (lf (wfT hc36) (lO (pOT (((ix loops3 x27) == (1 : Int)) && ((ix a1.Steps x27) != (0 : Int))) R hc36) (l_nil ?_))))))))))
 exact qJ (fun w s => s)
 refine lW (wnF hc36) (vS R) (lW (wnF hc36) (vI R) (t_some 3 sees_rd (show 0 < loops3.length by have := (hg32 hc36); omega) (fun g33 o34 ha => ?_)))
 subst ha
 refine lW (wnF hc36) (vIa sl29 sz3 R R (hg32 hc36)) (lW (wnF hc36) (vLi 3 ag3 sees_rd R (hg32 hc36)) (lW (wnF hc36) (vEq R R) (lW (wnF hc36) (vB R) ?_)))
 rcases bo ((ix loops3 x27) == (1 : Int)) with hc37 | hc37
 refine lW (wnT hc37) (vI R) (lW (wnT hc37) (vNe R R) (lW (wnF hc36) (pAT R hc37 R) (lO (pOF R hc36 R) (l_nil ?_))))
 exact qJ (fun w s => s)
 refine lf (wfF hc37) (lf (wfF hc37) (lW (wnF hc36) (pAF ((ix a1.Steps x27) != (0 : Int)) R hc37) (lO (pOF R hc36 R) (l_nil ?_))))
 exact qJ (fun w s => s)
 rintro σ1
 refine q_next ?_
 rcases bif_ hr with ⟨hb38, hr⟩ | ⟨hb38, hr⟩
 refine c_true R hb38 (c_seq (c_region (lB R (l_nil (q_next (c_ret (q_ret (q_blockr (q_ret ?_)))))))))
 obtain rfl := so hr
 obtain rfl := he1 _ R
 have hr := hk1
 refine q_ret (q_blockr (q_ret ?_))
 obtain rfl := so hr
 exact qF () (fun w s => (s.e 4 []))
 refine c_false R hb38 (c_skip (q_next (c_seq ?_)))
 obtain ⟨hg39, hr⟩ := gd hr
 refine c_region (lI R (lI R (lS R (lI R (t_some 3 sees_rd (show 0 < loops3.length by have := hg39; omega) (fun g40 o41 ha => ?_))))))
 subst ha
 refine lO (vIa sl29 sz3 R R hg39) (lO (vLi 3 ag3 sees_rd R hg39) (lO (vSb R R) (lO (vMu R R) (lO (vz (iv (if (w64 ((ix a1.Steps x27) * (w64 ((ix loops3 x27) - (1 : Int))))) < (0 : Int) then (w64 ((ix a1.Steps x27) * (w64 ((ix loops3 x27) - (1 : Int))))) else (0 : Int))) (v_min R R)) (lO (vAd R R) (lI R (l_nil (q_next (c_region (lI R (lI R (lS R (lI R (lO (vIa sl29 sz3 R R hg39) (lO (vLi 3 ag3 sees_rd R hg39) (lO (vSb R R) (lO (vMu R R) (lO (vz (iv (if (w64 ((ix a1.Steps x27) * (w64 ((ix loops3 x27) - (1 : Int))))) > (0 : Int) then (w64 ((ix a1.Steps x27) * (w64 ((ix loops3 x27) - (1 : Int))))) else (0 : Int))) (v_max R R)) (lO (vAd R R) (lI R (l_nil (q_blockn (q_next (c_region (lO (vAd R R) (lI R (l_nil ?_)))))))))))))))))))))))))))
 obtain rfl := so hr
 exact qA ((ad g30 o31), a1.Steps.length, D26) (fun w s => s)
 refine c_false R hb28 (c_exit (q_exit ?_))
 obtain rfl := so hr
 obtain rfl := he1 _ R
 have hr := hk1
 refine q_exit (q_block ?_)
 exact qI ((lo24, hi25), ()) hr (fun w s => (s.e 1 []))
 rintro ⟨⟨lo46, hi47⟩, _⟩ σ1 hr
 replace hr : impl_Access_fitsIn_J1 size5 lo46 hi47 = some r := hr
 unfold impl_Access_fitsIn_J1 at hr
 refine c_seq (cQ [(6, (.bool ((decide (lo46 ≥ (0 : Int))) && (decide (hi47 < size5)))))] (W1) ?_ ?_)
 refine c_region (lI R (lO (vGe R R) (lB R ?_)))
 rcases bo (decide (lo46 ≥ (0 : Int))) with hc48 | hc48
 refine lW (wnT hc48) (vI R) (lW (wnT hc48) (vI R) (lW (wnT hc48) (vLt R R) (lO (pAT R hc48 R) (lB R (l_nil ?_)))))
 exact qJ (fun w s => s)
 refine lf (wfF hc48) (lf (wfF hc48) (lf (wfF hc48) (lO (pAF (decide (hi47 < size5)) R hc48) (lB R (l_nil ?_)))))
 exact qJ (fun w s => s)
 rintro σ1
 refine q_next (c_ret ?_)
 obtain rfl := so hr
 exact qF () (fun w s => (s.e 3 []))
theorem impl_Nest_kernelOk_ok {l1 : Nest} {k7 : Kernel} {given12 : (List Bool)} {r : Int × Bool} (hr : impl_Nest_kernelOk l1 k7 given12 = some r) :
 FnOk Try.prog 130 [(.agg [(.slice A2 N2 D2), (.slice A3 N3 D3), (.slice A4 N4 D4), (.slice A5 N5 D5), (.slice A6 N6 D6)].toArray), (.agg [(.slice A8 N8 D8), (.slice A9 N9 D9), (iv k7.Store.Buffer), (iv k7.Store.Offset), (.slice A10 N10 D10), (.bool k7.Sum), (.slice A11 N11 D11)].toArray), (.slice A13 N13 D13)] [rds kT3 (.slice A2 N2 D2) l1.Sizes, rds kT3 (.slice A3 N3 D3) l1.Ins, rds kT159 (.slice A4 N4 D4) l1.Fixed, rds kT127 (.slice A5 N5 D5) l1.Kernels, rds kT3 (.slice A6 N6 D6) l1.Outs, rds kT3 (.slice A8 N8 D8) k7.Loops, rds kT124 (.slice A9 N9 D9) k7.Loads, rds kT3 (.slice A10 N10 D10) k7.Store.Steps, rds kT216 (.slice A11 N11 D11) k7.Code, rds kT4 (.slice A13 N13 D13) given12] (fun (h : Unit) => ((.tuple [(iv r.1), (.bool r.2)].toArray), [])) := by
 unfold impl_Nest_kernelOk at hr
 refine fn_ok Try.func130 R 96 R R fun C V => ?_
 refine cN (_ :: _ :: _ :: _ :: _ :: _ :: _ :: _ :: _ :: _ :: V) ?_
 refine cL 0 sees_rd ?_
 rintro rfl
 refine cL 1 sees_rd ?_
 rintro rfl
 refine cL 2 sees_rd ?_
 rintro rfl
 refine cL 3 sees_rd ?_
 rintro rfl
 refine cL 4 sees_rd ?_
 rintro rfl
 refine cL 5 sees_rd ?_
 rintro rfl
 refine cL 6 sees_rd ?_
 rintro rfl
 refine cL 7 sees_rd ?_
 rintro rfl
 refine cL 8 sees_rd ?_
 rintro rfl
 refine cL 9 sees_rd ?_
 rintro rfl
 let W0 : List HP := RR kT3 A2 D2 l1.Sizes :: RR kT3 A3 D3 l1.Ins :: RR kT159 A4 D4 l1.Fixed :: RR kT127 A5 D5 l1.Kernels :: RR kT3 A6 D6 l1.Outs :: RR kT3 A8 D8 k7.Loops :: RR kT124 A9 D9 k7.Loads :: RR kT3 A10 D10 k7.Store.Steps :: RR kT216 A11 D11 k7.Code :: RR kT4 A13 D13 given12 :: V
 refine cN W0 ?_
 refine c_seq (c_region (lBx R (fun b14 => (lBx R (fun b15 => (lI R (lB R (l_nil ?_))))))))
 let W1 : List HP := bxl b15 [(sc A8 k7.Loops D8), (sc A9 k7.Loads D9), (iv k7.Store.Buffer), (iv k7.Store.Offset), (sc A10 k7.Store.Steps D10), (.bool k7.Sum), (sc A11 k7.Code D11)] 127 :: bxl b14 [(sc A2 l1.Sizes D2), (sc A3 l1.Ins D3), (sc A4 l1.Fixed D4), (sc A5 l1.Kernels D5), (sc A6 l1.Outs D6)] 58 :: W0
 refine qN W1 ?_
 refine q_next (c_seq ?_)
 obtain ⟨r16, hx17, hr⟩ := bd hr
 refine c_region (lO (vFa 0 fo127_0 R) (lO (vLd 0 ag29 R R R) (lM (RR kT3 A8 D8 k7.Loops :: W1) (fun w s => (s.d 7 R)) ?_)))
 refine lC 1 cb182 R (impl_work_ok hx17) R ?_
 rintro _
 refine lN W1 ?_
 refine lO (vT R) (lI R (lB R (lI R (lB R (l_nil (q_next (c_seq (c_seq ?_))))))))
 obtain ⟨r18, hx19, hr⟩ := bd hr
 refine cQ [(2, (sc A13 given12 D13)), (3, (pt b14 0)), (4, (pt b15 0)), (8, (iv r16.1)), (36, (.bool (((!r16.2) || (decide ((k7.Loads.length : Int) > (30 : Int)))) || (!r18))))] (W1) ?_ ?_
 refine c_region (lB R (lO (vNo R) (lB R ?_)))
 rcases bo (!r16.2) with hc20 | hc20
 refine lf (wfT hc20) (lf (wfT hc20) (lf (wfT hc20) (lf (wfT hc20) (lO (pOT (decide ((k7.Loads.length : Int) > (30 : Int))) R hc20) (lB R (lf (wfT (oT hc20)) (lf (wfT (oT hc20)) (lf (wfT (oT hc20)) (lf (wfT (oT hc20)) (lf (wfT (oT hc20)) (lf (wfT (oT hc20)) (lf (wfT (oT hc20)) (lO (pOT (!r18) R (oT hc20)) (l_nil ?_))))))))))))))
 exact qJ (fun w s => s)
 refine lW (wnF hc20) (vFa 1 fo127_1 R) (lW (wnF hc20) (vLd 0 ag122 R R R) (lW (wnF hc20) (v_len sl122 R) (lW (wnF hc20) (vGt R R) (lO (pOF R hc20 R) (lB R ?_)))))
 rcases bo ((!r16.2) || (decide ((k7.Loads.length : Int) > (30 : Int)))) with hc21 | hc21
 refine lf (wfT hc21) (lf (wfT hc21) (lf (wfT hc21) (lf (wfT hc21) (lf (wfT hc21) (lf (wfT hc21) (lf (wfT hc21) (lO (pOT (!r18) R hc21) (l_nil ?_))))))))
 exact qJ (fun w s => s)
 refine lW (wnF hc21) (vFa 6 fo127_4 R) (lW (wnF hc21) (vLd 0 ag125 R R R) (lW (wnF hc21) (vFa 1 fo127_1 R) (lW (wnF hc21) (vLd 0 ag122 R R R) (lW (wnF hc21) (v_len sl122 R) (lM (RR kT216 A11 D11 k7.Code :: W1) (fun w s => (s.d 10 R)) ?_)))))
 refine l_calln 1 R (wnF hc21) cb183 R (impl_codeOk_ok (gcall_t hx19 (not_ff hc21))) R ?_
 rintro _
 refine lN W1 ?_
 refine lW (wnF hc21) (vNo R) (lO (pOF R hc21 R) (l_nil ?_))
 exact qJ (fun w s => s)
 rintro σ1
 refine q_next ?_
 rcases bif_ hr with ⟨hb22, hr⟩ | ⟨hb22, hr⟩
 refine c_true R hb22 (c_seq (c_region (lI R (lB R (l_nil (q_next (c_ret (q_ret ?_))))))))
 obtain rfl := so hr
 exact q_fin (vs := [(iv 0), (.bool false)]) (.inl R) () R ⟨R, R, trivial⟩ R (fun w s => (s.e 12 []))
 refine c_false R hb22 (c_skip (q_next (c_seq (c_cut (A := (Unit) × (Unit)) (fun a => impl_Nest_kernelOk_J1 k7 given12 r16 = some r) (fun a => [(2, (sc A13 given12 D13)), (4, (pt b15 0)), (8, (iv r16.1))]) (fun a => W1) ?_ ?_))))
 refine c_seq ?_
 obtain ⟨r23, hx24, hr⟩ := bd hr
 obtain ⟨hg27, hr⟩ := gd hr
 refine c_cutq (A := (Unit) × (HH)) (fun _ => True) (fun a => [(2, (sc A13 given12 D13)), (3, (pt b14 0)), (4, (pt b15 0)), (8, (iv r16.1)), (43, (.slice a.2.1 a.2.2.1 a.2.2.2)), (44, (il (r23 ++ ([k7.Store] : List Access)))), (45, (iv 0))]) (fun a => ow (kT124).share 124 (.slice a.2.1 a.2.2.1 a.2.2.2) (r23 ++ ([k7.Store] : List Access)) :: W1) ?_ ?_
 refine cdr 9 [] mixo (fun ht hn => (dR 0 R (vFa 1 fo127_1 R) (dR 1 R (vLd 0 ag122 R R R) (dR 3 R (vFa 2 fo127_2 R) (dR 4 R (vz (.agg [(iv k7.Store.Buffer), (iv k7.Store.Offset), (sc A10 k7.Store.Steps D10)].toArray) (v_loadw 0 ag124 sz124 R R R R)) (dR 8 R (vI R) (d_all [2, 5] (by kernel_rfl) R ⟨?_, ?_, trivial⟩)))))))
 refine lM (RR kT124 A9 D9 k7.Loads :: W1) (fun w s => (s.d 8 R)) ?_
 refine lC 1 cb184 R (slices_Clone_impl_Access_impl_Access_ok hx24) R ?_
 rintro ⟨A25, N25, D25⟩
 refine lN (ow (kT124).share 124 (.slice A25 N25 D25) r23 :: W1) ?_
 refine l_len 0 sees_sh ?_
 rintro rfl
 refine l_nil (q_draw (sL [0]) (d_one 5 (by kernel_rfl) R (lM (RR kT3 A10 D10 k7.Store.Steps :: _ :: W1) (fun w s => (s.d 10 R)) ?_)))
 refine l_build (K := (kT124).share) (xs := ([k7.Store] : List Access)) (vs := [(.agg [(iv k7.Store.Buffer), (iv k7.Store.Offset), (sc A10 k7.Store.Steps D10)].toArray)]) 1 R R sl122 sz124 zc124 R R R R R R ?_ R (fun A26 D26 => ?_)
 exact fun I h s => (mS124).list [(((), (), (sc A10 k7.Store.Steps D10)), k7.Store)] I h s
 refine lN (OO (kT124).share 124 A26 D26 ([k7.Store] : List Access) :: _ :: W1) ?_
 refine l_nil (q_draw (sL [1, 0]) (d_one 6 (by kernel_rfl) R (lM (ow _ _ _ _ :: ow _ _ _ _ :: W1) (fun w s => (s.e 2 [1, 0])) ?_)))
 refine l_app (K := (kT124).share) 3518437208883 R R sl122 sz124 by124 (Zr.zk (Zr.share zT124) zc124) R R R R R R src_ow hg27 (fun A28 D28 => (lN (OO (kT124).share 124 A28 D28 (r23 ++ ([k7.Store] : List Access)) :: W1) ?_))
 refine l_nil (q_draw (sL [0]) (dR 7 R (v_len sl122 R) (hS := (sL [0])) (d_done (by kernel_rfl) ?_)))
 exact q_join ((), (A28, (r23 ++ ([k7.Store] : List Access)).length, D28)) trivial (aS R) (fun w s => s)
 refine lM (RR kT3 A10 D10 k7.Store.Steps :: W1) (fun w s => (s.d 9 R)) ?_
 refine l_build (K := (kT124).share) (xs := ([k7.Store] : List Access)) (vs := [(.agg [(iv k7.Store.Buffer), (iv k7.Store.Offset), (sc A10 k7.Store.Steps D10)].toArray)]) 1 R R sl122 sz124 zc124 R R R R R R ?_ R (fun A26 D26 => ?_)
 exact fun I h s => (mS124).list [(((), (), (sc A10 k7.Store.Steps D10)), k7.Store)] I h s
 refine lN (OO (kT124).share 124 A26 D26 ([k7.Store] : List Access) :: W1) ?_
 refine l_nil (q_draw (sL [0]) (d_one 2 (by kernel_rfl) R (lM (RR kT124 A9 D9 k7.Loads :: _ :: W1) (fun w s => (s.d 9 R)) ?_)))
 refine lC 1 cb184 R (slices_Clone_impl_Access_impl_Access_ok hx24) R ?_
 rintro ⟨A25, N25, D25⟩
 refine lN (ow (kT124).share 124 (.slice A25 N25 D25) r23 :: _ :: W1) ?_
 refine l_len 0 sees_sh ?_
 rintro rfl
 refine l_nil (q_draw (sL [1, 0]) (d_one 6 (by kernel_rfl) R (l_app (K := (kT124).share) 3518437208883 R R sl122 sz124 by124 (Zr.zk (Zr.share zT124) zc124) R R R R R R src_ow hg27 (fun A28 D28 => (lN (OO (kT124).share 124 A28 D28 (r23 ++ ([k7.Store] : List Access)) :: W1) ?_)))))
 refine l_nil (q_draw (sL [0]) (dR 7 R (v_len sl122 R) (hS := (sL [0])) (d_done (by kernel_rfl) ?_)))
 exact q_join ((), (A28, (r23 ++ ([k7.Store] : List Access)).length, D28)) trivial (aS R) (fun w s => s)
 rintro ⟨_, ⟨A29, N29, D29⟩⟩ σ1 -
 refine q_len 0 sees_sh (fun (hn : N29 = (r23 ++ ([k7.Store] : List Access)).length) => ?_)
 subst hn
 refine q_next (c_block ?_)
 obtain ⟨e1, hl1, hk1⟩ := bd hr
 refine c_loop (A := HH) hl1 (fun s a => [(2, (sc A13 given12 D13)), (3, (pt b14 0)), (4, (pt b15 0)), (8, (iv r16.1)), (43, (.slice a.1 a.2.1 a.2.2)), (44, (il (r23 ++ ([k7.Store] : List Access)))), (45, (iv s))]) (fun s a => ow (kT124).share 124 (.slice a.1 a.2.1 a.2.2) (r23 ++ ([k7.Store] : List Access)) :: W1) (A29, (r23 ++ ([k7.Store] : List Access)).length, D29) (aS R) (fun w s => s) ?_
 rintro x45 ⟨A44, N44, D44⟩ σ1 out1 hr he1
 replace hr : impl_Nest_kernelOk_L1 l1 k7 r23 x45 = some out1 := hr
 unfold impl_Nest_kernelOk_L1 at hr
 refine c_len 0 sees_sh (fun (hn : N44 = (r23 ++ ([k7.Store] : List Access)).length) => ?_)
 subst hn
 refine c_seq (c_region (lO (vLt R R) (l_nil (q_next (c_seq ?_)))))
 rcases bif_ hr with ⟨hb46, hr⟩ | ⟨hb46, hr⟩
 refine c_true R hb46 (c_skip (q_next (c_seq (c_block (c_seq ?_)))))
 obtain ⟨hg47, hr⟩ := gd hr
 refine c_region (t_some 0 sees_sh (show 0 < (r23 ++ ([k7.Store] : List Access)).length by have := hg47; omega) (fun g48 o49 ha => ?_))
 subst ha
 refine lO (vIa sl122 sz124 R R hg47) (l_ldo (K := (kT124).share) 0 x45 R R ag124 sz124 dT124.own R R hg47.1 hg47.2 ?_)
 rintro ⟨-, -, ⟨A50, D50⟩⟩
 refine lN (RR kT3 A50 D50 ((ix (r23 ++ ([k7.Store] : List Access)) x45).Steps) :: OO (kT124).share 124 (ad g48 o49) D44 (r23 ++ ([k7.Store] : List Access)) :: W1) ?_
 refine l_alloc R R zc124 (fun b51 => (l_stores 0 R R sz124 R R R R R R (lN (bxl b51 [(iv (ix (r23 ++ ([k7.Store] : List Access)) x45).Buffer), (iv (ix (r23 ++ ([k7.Store] : List Access)) x45).Offset), (sc A50 ((ix (r23 ++ ([k7.Store] : List Access)) x45).Steps) D50)] 124 :: _ :: _ :: W1) ?_)))
 refine l_nil (q_next (c_seq ?_))
 obtain ⟨hg52, hr⟩ := gd hr
 obtain ⟨r55, hx56, hr⟩ := bd hr
 refine cQ [(2, (sc A13 given12 D13)), (3, (pt b14 0)), (4, (pt b15 0)), (8, (iv r16.1)), (43, (sc (ad g48 o49) (r23 ++ ([k7.Store] : List Access)) D44)), (44, (il (r23 ++ ([k7.Store] : List Access)))), (45, (iv x45)), (72, (.bool (((decide ((ix (r23 ++ ([k7.Store] : List Access)) x45).Buffer < (0 : Int))) || (decide ((ix (r23 ++ ([k7.Store] : List Access)) x45).Buffer ≥ (l1.Sizes.length : Int)))) || (!r55))))] (OO (kT124).share 124 (ad g48 o49) D44 (r23 ++ ([k7.Store] : List Access)) :: W1) ?_ ?_
 rcases bo (decide ((ix (r23 ++ ([k7.Store] : List Access)) x45).Buffer < (0 : Int))) with hc57 | hc57
 refine cdr 24 [] mixo (fun ht hn => (dR 0 R (vFa 0 fo124_0 R) (dR 1 R (vLd 0 ag3 R R R) (dR 2 R (vLt R R) (dR 3 R (vB R) (dF 4 R (wfT hc57) (dF 5 R (wfT hc57) (dF 6 R (wfT hc57) (dF 7 R (wfT hc57) (dF 8 R (wfT hc57) (dF 9 R (wfT hc57) (dR 10 R (pOT (decide ((ix (r23 ++ ([k7.Store] : List Access)) x45).Buffer ≥ (l1.Sizes.length : Int))) R hc57) (dR 11 R (vB R) (dF 12 R (wfT (oT hc57)) (dF 13 R (wfT (oT hc57)) (dF 14 R (wfT (oT hc57)) (dF 15 R (wfT (oT hc57)) (dF 16 R (wfT (oT hc57)) (dF 17 R (wfT (oT hc57)) (dF 18 R (wfT (oT hc57)) (dF 19 R (wfT (oT hc57)) (dF 20 R (wfT (oT hc57)) (dF 21 R (wfT (oT hc57)) (dF 22 R (wfT (oT hc57)) (dR 23 R (pOT (!r55) R (oT hc57)) (d_done (by kernel_rfl) ?_))))))))))))))))))))))))))
 exact qJ (fun w s => (s.e 3 [2]))
 rcases bo ((decide ((ix (r23 ++ ([k7.Store] : List Access)) x45).Buffer < (0 : Int))) || (decide ((ix (r23 ++ ([k7.Store] : List Access)) x45).Buffer ≥ (l1.Sizes.length : Int)))) with hc58 | hc58
 refine cdr 24 [] mixo (fun ht hn => (dR 0 R (vFa 0 fo124_0 R) (dR 1 R (vLd 0 ag3 R R R) (dR 2 R (vLt R R) (dR 3 R (vB R) (dW 4 R (wnF hc57) (vFa 0 fo124_0 R) (dW 5 R (wnF hc57) (vLd 0 ag3 R R R) (dW 6 R (wnF hc57) (vFa 0 fo58_0 R) (dW 7 R (wnF hc57) (vLd 4 ag29 R R R) (dW 8 R (wnF hc57) (v_len sl29 R) (dW 9 R (wnF hc57) (vGe R R) (dR 10 R (pOF R hc57 R) (dR 11 R (vB R) (dF 12 R (wfT hc58) (dF 13 R (wfT hc58) (dF 14 R (wfT hc58) (dF 15 R (wfT hc58) (dF 16 R (wfT hc58) (dF 17 R (wfT hc58) (dF 18 R (wfT hc58) (dF 19 R (wfT hc58) (dF 20 R (wfT hc58) (dF 21 R (wfT hc58) (dF 22 R (wfT hc58) (dR 23 R (pOT (!r55) R hc58) (d_done (by kernel_rfl) ?_))))))))))))))))))))))))))
 exact qJ (fun w s => (s.e 3 [2]))
 refine c_some 5 sees_rd (show 0 < l1.Sizes.length by have := (hg52 hc58); omega) (fun g53 o54 ha => ?_)
 subst ha
 refine cdr 24 [] mixo (fun ht hn => (dR 0 R (vFa 0 fo124_0 R) (dR 1 R (vLd 0 ag3 R R R) (dR 2 R (vLt R R) (dR 3 R (vB R) (dW 4 R (wnF hc57) (vFa 0 fo124_0 R) (dW 5 R (wnF hc57) (vLd 0 ag3 R R R) (dW 6 R (wnF hc57) (vFa 0 fo58_0 R) (dW 7 R (wnF hc57) (vLd 4 ag29 R R R) (dW 8 R (wnF hc57) (v_len sl29 R) (dW 9 R (wnF hc57) (vGe R R) (dR 10 R (pOF R hc57 R) (dR 11 R (vB R) (dW 12 R (wnF hc58) (vz (.agg [(iv (ix (r23 ++ ([k7.Store] : List Access)) x45).Buffer), (iv (ix (r23 ++ ([k7.Store] : List Access)) x45).Offset), (sc A50 ((ix (r23 ++ ([k7.Store] : List Access)) x45).Steps) D50)].toArray) (v_loadw 0 ag124 sz124 R R R R)) (dW 13 R (wnF hc58) (vFa 0 fo127_0 R) (dW 14 R (wnF hc58) (vLd 3 ag29 R R R) (dW 15 R (wnF hc58) (vFa 0 fo58_0 R) (dW 16 R (wnF hc58) (vLd 4 ag29 R R R) (dW 17 R (wnF hc58) (vFa 0 fo124_0 R) (dW 18 R (wnF hc58) (vLd 0 ag3 R R R) (dW 19 R (wnF hc58) (vIa sl29 sz3 R R (hg52 hc58)) (dW 20 R (wnF hc58) (vLi 5 ag3 sees_rd R (hg52 hc58)) (d_one 21 (by kernel_rfl) R (lM (rds _ _ _ :: RR kT3 A8 D8 k7.Loops :: bxl _ _ _ :: rds _ _ _ :: ow _ _ _ _ :: W1) (fun w s => (((s.d 1 R).d 11 R).e 5 [1, 0, 2, 3, 4])) ?_))))))))))))))))))))))))
 refine l_calln 2 R (wnF hc58) cb185 R (impl_Access_fitsIn_ok (gcall_t hx56 (not_ff hc58))) R ?_
 rintro _
 refine lN (_ :: _ :: _ :: W1) ?_
 refine l_nil (q_draw (sL []) (dW 22 R (wnF hc58) (vNo R) (dR 23 R (pOF R hc58 R) (d_done (by kernel_rfl) ?_))))
 exact qJ (fun w s => (s.e 3 [2]))
 rintro σ1
 refine q_next ?_
 rcases bif_ hr with ⟨hb59, hr⟩ | ⟨hb59, hr⟩
 refine c_true R hb59 (c_seq (c_region (lI R (lB R (l_nil (q_next (c_ret (q_blockr (q_ret ?_)))))))))
 obtain rfl := so hr
 obtain rfl := he1 _ R
 have hr := hk1
 refine q_ret (q_blockr (q_ret ?_))
 obtain rfl := so hr
 exact q_fin (vs := [(iv 0), (.bool false)]) (.inl R) () R ⟨R, R, trivial⟩ R (fun w s => (s.e 13 []))
 refine c_false R hb59 (c_skip (q_blockn (q_next (c_region (lO (vAd R R) (lI R (l_nil ?_)))))))
 obtain rfl := so hr
 exact qA ((ad g48 o49), (r23 ++ ([k7.Store] : List Access)).length, D44) (fun w s => s)
 refine c_false R hb46 (c_exit (q_exit ?_))
 obtain rfl := so hr
 obtain rfl := he1 _ R
 have hr := hk1
 refine q_exit (q_block ?_)
 exact qI ((), ()) hr (fun w s => (s.e 1 []))
 rintro ⟨_, _⟩ σ1 hr
 replace hr : impl_Nest_kernelOk_J1 k7 given12 r16 = some r := hr
 unfold impl_Nest_kernelOk_J1 at hr
 refine c_seq (c_cut (A := (Unit) × (Unit)) (fun a => impl_Nest_kernelOk_J2 k7 given12 r16 = some r) (fun a => [(2, (sc A13 given12 D13)), (4, (pt b15 0)), (8, (iv r16.1))]) (fun a => W1) ?_ ?_)
 refine c_seq (c_region (lO (vFa 1 fo127_1 R) (lO (vLd 0 ag122 R R R) (lO (v_len sl122 R) (lI R (l_nil (q_next (c_block ?_))))))))
 obtain ⟨e2, hl2, hk2⟩ := bd hr
 refine c_loop (A := Unit) hl2 (fun s a => [(2, (sc A13 given12 D13)), (4, (pt b15 0)), (8, (iv r16.1)), (75, (sc A9 k7.Loads D9)), (76, (il k7.Loads)), (77, (iv s))]) (fun s a => W1) () (aS R) (fun w s => s) ?_
 rintro x69 _ σ1 out2 hr he2
 replace hr : impl_Nest_kernelOk_L2 k7 x69 = some out2 := hr
 unfold impl_Nest_kernelOk_L2 at hr
 refine c_seq (c_region (lO (vLt R R) (l_nil (q_next (c_seq ?_)))))
 rcases bif_ hr with ⟨hb70, hr⟩ | ⟨hb70, hr⟩
 refine c_true R hb70 (c_skip (q_next (c_seq (c_block (c_seq ?_)))))
 obtain ⟨hg71, hr⟩ := gd hr
 refine c_region (t_some 8 sees_rd (show 0 < k7.Loads.length by have := hg71; omega) (fun g72 o73 ha => ?_))
 subst ha
 refine lO (vIa sl122 sz124 R R hg71) (t_elem (K := kT124) 8 x69 dT124.dec R hg71.1 hg71.2 ?_)
 rintro ⟨-, -, ⟨A74, D74⟩⟩
 refine lN (cl g72 (o73 + x69.toNat * 3) [(iv (ix k7.Loads x69).Buffer), (iv (ix k7.Loads x69).Offset), (sc A74 ((ix k7.Loads x69).Steps) D74)] :: RR kT3 A74 D74 ((ix k7.Loads x69).Steps) :: W1) ?_
 refine lO (vz (.agg [(iv (ix k7.Loads x69).Buffer), (iv (ix k7.Loads x69).Offset), (sc A74 ((ix k7.Loads x69).Steps) D74)].toArray) (v_clfs (fo := 0) 0 ag124 sz124 R R R R)) (l_alloc R R zc124 (fun b75 => (l_stores 0 R R sz124 R R R R R R (lN (bxl b75 [(iv (ix k7.Loads x69).Buffer), (iv (ix k7.Loads x69).Offset), (sc A74 ((ix k7.Loads x69).Steps) D74)] 124 :: _ :: _ :: W1) ?_))))
 refine l_nil (q_next (c_seq (c_region (lO (vFa 0 fo124_0 R) (lO (vLd 0 ag3 R R R) (lO (vFa 2 fo127_2 R) (lO (vFa 2 fo124_0 R) (lO (vLd 3 ag3 R R R) (lO (vEq R R) (l_nil (q_next ?_)))))))))))
 rcases bif_ hr with ⟨hb76, hr⟩ | ⟨hb76, hr⟩
 refine c_true R hb76 (c_seq (c_region (lI R (lB R (l_nil (q_next (c_ret (q_blockr (q_ret ?_)))))))))
 obtain rfl := so hr
 obtain rfl := he2 _ R
 have hr := hk2
 refine q_ret (q_blockr (q_ret ?_))
 obtain rfl := so hr
 exact q_fin (vs := [(iv 0), (.bool false)]) (.inl R) () R ⟨R, R, trivial⟩ R (fun w s => (s.e 15 []))
 refine c_false R hb76 (c_skip (q_blockn (q_next (c_region (lO (vAd R R) (lI R (l_nil ?_)))))))
 obtain rfl := so hr
 exact qA () (fun w s => (s.e 3 []))
 refine c_false R hb70 (c_exit (q_exit ?_))
 obtain rfl := so hr
 obtain rfl := he2 _ R
 have hr := hk2
 refine q_exit (q_block ?_)
 exact qI ((), ()) hr (fun w s => s)
 rintro ⟨_, _⟩ σ1 hr
 replace hr : impl_Nest_kernelOk_J2 k7 given12 r16 = some r := hr
 unfold impl_Nest_kernelOk_J2 at hr
 refine c_seq ?_
 obtain ⟨hg78, hr⟩ := gd hr
 refine c_some 11 sees_rd (show 0 < given12.length by have := hg78; omega) (fun g79 o80 ha => ?_)
 subst ha
 refine cdr 10 [] mixo (fun ht hn => (dR 0 R (vI R) (dR 1 R (vS R) (dR 2 R (vFa 2 fo127_2 R) (dR 3 R (vFa 2 fo124_0 R) (dR 4 R (vLd 0 ag3 R R R) (dR 5 R (vIa sl168 sz4 R R hg78) (dR 6 R (vz (.bool (ix given12 k7.Store.Buffer)) (v_lde (K := kT4) (fo := 0) (pr := fun x => (.bool x)) 11 k7.Store.Buffer ag4 (dT4.leaf fun _ _ => R) sees_rd R hg78.1 hg78.2)) (dR 7 R (vNo R) (dR 8 R (vI R) (dR 9 R (vB R) (d_done (by kernel_rfl) (q_next (c_ret ?_))))))))))))))
 obtain rfl := so hr
 exact q_fin (vs := [(iv r16.1), (.bool (!(ix given12 k7.Store.Buffer)))]) (.inl R) () R ⟨R, R, trivial⟩ R (fun w s => (s.e 12 []))
theorem impl_NestOk_ok {l1 : Nest} {r : Bool} (hr : impl_NestOk l1 = some r) :
 FnOk Try.prog 74 [(.agg [(.slice A2 N2 D2), (.slice A3 N3 D3), (.slice A4 N4 D4), (.slice A5 N5 D5), (.slice A6 N6 D6)].toArray)] [rds kT3 (.slice A2 N2 D2) l1.Sizes, rds kT3 (.slice A3 N3 D3) l1.Ins, rds kT159 (.slice A4 N4 D4) l1.Fixed, rds kT127 (.slice A5 N5 D5) l1.Kernels, rds kT3 (.slice A6 N6 D6) l1.Outs] (fun (h : Unit) => ((.bool r), [])) := by
 unfold impl_NestOk at hr
 refine fn_ok Try.func74 R 96 R R fun C V => ?_
 refine cN (_ :: _ :: _ :: _ :: _ :: V) ?_
 refine cL 0 sees_rd ?_
 rintro rfl
 refine cL 1 sees_rd ?_
 rintro rfl
 refine cL 2 sees_rd ?_
 rintro rfl
 refine cL 3 sees_rd ?_
 rintro rfl
 refine cL 4 sees_rd ?_
 rintro rfl
 let W0 : List HP := RR kT3 A2 D2 l1.Sizes :: RR kT3 A3 D3 l1.Ins :: RR kT159 A4 D4 l1.Fixed :: RR kT127 A5 D5 l1.Kernels :: RR kT3 A6 D6 l1.Outs :: V
 refine cN W0 ?_
 refine c_seq (c_region (lBx R (fun b7 => (lB R (l_nil ?_)))))
 let W1 : List HP := bxl b7 [(sc A2 l1.Sizes D2), (sc A3 l1.Ins D3), (sc A4 l1.Fixed D4), (sc A5 l1.Kernels D5), (sc A6 l1.Outs D6)] 58 :: W0
 refine qN W1 ?_
 refine q_next (c_seq (c_seq (cQ [(1, (pt b7 0)), (35, (.bool ((((decide ((l1.Sizes.length : Int) > (200 : Int))) || (decide ((l1.Ins.length : Int) > (40 : Int)))) || (decide ((l1.Outs.length : Int) > (40 : Int)))) || (decide ((l1.Kernels.length : Int) > (400 : Int))))))] (W1) ?_ ?_)))
 refine c_region (lO (vFa 0 fo58_0 R) (lO (vLd 0 ag29 R R R) (lO (v_len sl29 R) (lO (vGt R R) (lB R ?_)))))
 rcases bo (decide ((l1.Sizes.length : Int) > (200 : Int))) with hc8 | hc8
 refine lf (wfT hc8) (lf (wfT hc8) (lf (wfT hc8) (lf (wfT hc8) (lO (pOT (decide ((l1.Ins.length : Int) > (40 : Int))) R hc8) (lB R (lf (wfT (oT hc8)) (lf (wfT (oT hc8)) (lf (wfT (oT hc8)) (lf (wfT (oT hc8)) (lO (pOT (decide ((l1.Outs.length : Int) > (40 : Int))) R (oT hc8)) (lB R (lf (wfT (oT (oT hc8))) (lf (wfT (oT (oT hc8))) (lf (wfT (oT (oT hc8))) (lf (wfT (oT (oT hc8))) (lO (pOT (decide ((l1.Kernels.length : Int) > (400 : Int))) R (oT (oT hc8))) (l_nil ?_)))))))))))))))))
 exact qJ (fun w s => s)
 refine lW (wnF hc8) (vFa 1 fo58_1 R) (lW (wnF hc8) (vLd 0 ag29 R R R) (lW (wnF hc8) (v_len sl29 R) (lW (wnF hc8) (vGt R R) (lO (pOF R hc8 R) (lB R ?_)))))
 rcases bo ((decide ((l1.Sizes.length : Int) > (200 : Int))) || (decide ((l1.Ins.length : Int) > (40 : Int)))) with hc9 | hc9
 refine lf (wfT hc9) (lf (wfT hc9) (lf (wfT hc9) (lf (wfT hc9) (lO (pOT (decide ((l1.Outs.length : Int) > (40 : Int))) R hc9) (lB R (lf (wfT (oT hc9)) (lf (wfT (oT hc9)) (lf (wfT (oT hc9)) (lf (wfT (oT hc9)) (lO (pOT (decide ((l1.Kernels.length : Int) > (400 : Int))) R (oT hc9)) (l_nil ?_)))))))))))
 exact qJ (fun w s => s)
 refine lW (wnF hc9) (vFa 4 fo58_4 R) (lW (wnF hc9) (vLd 0 ag29 R R R) (lW (wnF hc9) (v_len sl29 R) (lW (wnF hc9) (vGt R R) (lO (pOF R hc9 R) (lB R ?_)))))
 rcases bo (((decide ((l1.Sizes.length : Int) > (200 : Int))) || (decide ((l1.Ins.length : Int) > (40 : Int)))) || (decide ((l1.Outs.length : Int) > (40 : Int)))) with hc10 | hc10
 refine lf (wfT hc10) (lf (wfT hc10) (lf (wfT hc10) (lf (wfT hc10) (lO (pOT (decide ((l1.Kernels.length : Int) > (400 : Int))) R hc10) (l_nil ?_)))))
 exact qJ (fun w s => s)
 refine lW (wnF hc10) (vFa 3 fo58_3 R) (lW (wnF hc10) (vLd 0 ag56 R R R) (lW (wnF hc10) (v_len sl56 R) (lW (wnF hc10) (vGt R R) (lO (pOF R hc10 R) (l_nil ?_)))))
 exact qJ (fun w s => s)
 rintro σ1
 refine q_next ?_
 rcases bif_ hr with ⟨hb11, hr⟩ | ⟨hb11, hr⟩
 refine c_true R hb11 (c_seq (c_region (lB R (l_nil (q_next (c_ret (q_ret ?_)))))))
 obtain rfl := so hr
 exact qF () (fun w s => (s.e 6 []))
 refine c_false R hb11 (c_skip (q_next (c_seq (c_cut (A := (Unit) × (Unit)) (fun a => impl_NestOk_J1 l1 = some r) (fun a => [(1, (pt b7 0))]) (fun a => W1) ?_ ?_))))
 refine c_seq (c_region (lO (vFa 0 fo58_0 R) (lO (vLd 0 ag29 R R R) (lO (v_len sl29 R) (lI R (l_nil (q_next (c_block ?_))))))))
 obtain ⟨e1, hl1, hk1⟩ := bd hr
 refine c_loop (A := HH) hl1 (fun s a => [(1, (pt b7 0)), (37, (.slice a.1 a.2.1 a.2.2)), (38, (il l1.Sizes)), (39, (iv s))]) (fun s a => rds kT3 (.slice a.1 a.2.1 a.2.2) l1.Sizes :: W1) (A2, l1.Sizes.length, D2) (aS R) (fun w s => (s.d 1 R)) ?_
 rintro x19 ⟨A18, N18, D18⟩ σ1 out1 hr he1
 replace hr : impl_NestOk_L1 l1 x19 = some out1 := hr
 unfold impl_NestOk_L1 at hr
 refine c_len 0 sees_rd (fun (hn : N18 = l1.Sizes.length) => ?_)
 subst hn
 refine c_seq (c_region (lO (vLt R R) (l_nil (q_next (c_seq ?_)))))
 rcases bif_ hr with ⟨hb20, hr⟩ | ⟨hb20, hr⟩
 refine c_true R hb20 (c_skip (q_next (c_seq (c_block (c_seq ?_)))))
 obtain ⟨hg21, hr⟩ := gd hr
 refine c_region (t_some 0 sees_rd (show 0 < l1.Sizes.length by have := hg21; omega) (fun g22 o23 ha => ?_))
 subst ha
 refine lO (vIa sl29 sz3 R R hg21) (lO (vLi 0 ag3 sees_rd R hg21) (lI R (l_nil (q_next (c_seq (cQ [(1, (pt b7 0)), (37, (sc (ad g22 o23) l1.Sizes D18)), (38, (il l1.Sizes)), (39, (iv x19)), (48, (.bool ((decide ((ix l1.Sizes x19) < (0 : Int))) || (decide ((ix l1.Sizes x19) > (4096 : Int))))))] (RR kT3 (ad g22 o23) D18 l1.Sizes :: W1) ?_ ?_))))))
 refine c_region (lI R (lO (vLt R R) (lB R ?_)))
 rcases bo (decide ((ix l1.Sizes x19) < (0 : Int))) with hc24 | hc24
 refine lf (wfT hc24) (lf (wfT hc24) (lO (pOT (decide ((ix l1.Sizes x19) > (4096 : Int))) R hc24) (l_nil ?_)))
 exact qJ (fun w s => s)
 refine lW (wnF hc24) (vI R) (lW (wnF hc24) (vGt R R) (lO (pOF R hc24 R) (l_nil ?_)))
 exact qJ (fun w s => s)
 rintro σ1
 refine q_next ?_
 rcases bif_ hr with ⟨hb25, hr⟩ | ⟨hb25, hr⟩
 refine c_true R hb25 (c_seq (c_region (lB R (l_nil (q_next (c_ret (q_blockr (q_ret ?_))))))))
 obtain rfl := so hr
 obtain rfl := he1 _ R
 have hr := hk1
 refine q_ret (q_blockr (q_ret ?_))
 obtain rfl := so hr
 exact qF () (fun w s => (s.e 7 []))
 refine c_false R hb25 (c_skip (q_blockn (q_next (c_region (lO (vAd R R) (lI R (l_nil ?_)))))))
 obtain rfl := so hr
 exact qA ((ad g22 o23), l1.Sizes.length, D18) (fun w s => s)
 refine c_false R hb20 (c_exit (q_exit ?_))
 obtain rfl := so hr
 obtain rfl := he1 _ R
 have hr := hk1
 refine q_exit (q_block ?_)
 exact qI ((), ()) hr (fun w s => (s.e 1 []))
 rintro ⟨_, _⟩ σ1 hr
 replace hr : impl_NestOk_J1 l1 = some r := hr
 unfold impl_NestOk_J1 at hr
 refine c_seq (c_cut (A := (Unit) × (Unit)) (fun a => impl_NestOk_J2 l1 = some r) (fun a => [(1, (pt b7 0))]) (fun a => W1) ?_ ?_)
 refine c_seq (c_region (lO (vFa 4 fo58_4 R) (lO (vLd 0 ag29 R R R) (lO (v_len sl29 R) (lI R (l_nil (q_next (c_block ?_))))))))
 obtain ⟨e2, hl2, hk2⟩ := bd hr
 refine c_loop (A := HH) hl2 (fun s a => [(1, (pt b7 0)), (51, (.slice a.1 a.2.1 a.2.2)), (52, (il l1.Outs)), (53, (iv s))]) (fun s a => rds kT3 (.slice a.1 a.2.1 a.2.2) l1.Outs :: W1) (A6, l1.Outs.length, D6) (aS R) (fun w s => (s.d 5 R)) ?_
 rintro x35 ⟨A34, N34, D34⟩ σ1 out2 hr he2
 replace hr : impl_NestOk_L2 l1 x35 = some out2 := hr
 unfold impl_NestOk_L2 at hr
 refine c_len 0 sees_rd (fun (hn : N34 = l1.Outs.length) => ?_)
 subst hn
 refine c_seq (c_region (lO (vLt R R) (l_nil (q_next (c_seq ?_)))))
 rcases bif_ hr with ⟨hb36, hr⟩ | ⟨hb36, hr⟩
 refine c_true R hb36 (c_skip (q_next (c_seq (c_block (c_seq ?_)))))
 obtain ⟨hg37, hr⟩ := gd hr
 refine c_region (t_some 0 sees_rd (show 0 < l1.Outs.length by have := hg37; omega) (fun g38 o39 ha => ?_))
 subst ha
 refine lO (vIa sl29 sz3 R R hg37) (lO (vLi 0 ag3 sees_rd R hg37) (lI R (l_nil (q_next (c_seq (cQ [(1, (pt b7 0)), (51, (sc (ad g38 o39) l1.Outs D34)), (52, (il l1.Outs)), (53, (iv x35)), (65, (.bool ((decide ((ix l1.Outs x35) < (0 : Int))) || (decide ((ix l1.Outs x35) ≥ (l1.Sizes.length : Int))))))] (RR kT3 (ad g38 o39) D34 l1.Outs :: W1) ?_ ?_))))))
 refine c_region (lI R (lO (vLt R R) (lB R ?_)))
 rcases bo (decide ((ix l1.Outs x35) < (0 : Int))) with hc40 | hc40
 refine lf (wfT hc40) (lf (wfT hc40) (lf (wfT hc40) (lf (wfT hc40) (lf (wfT hc40) (lO (pOT (decide ((ix l1.Outs x35) ≥ (l1.Sizes.length : Int))) R hc40) (l_nil ?_))))))
 exact qJ (fun w s => s)
 refine lW (wnF hc40) (vI R) (lW (wnF hc40) (vFa 0 fo58_0 R) (lW (wnF hc40) (vLd 1 ag29 R R R) (lW (wnF hc40) (v_len sl29 R) (lW (wnF hc40) (vGe R R) (lO (pOF R hc40 R) (l_nil ?_))))))
 exact qJ (fun w s => s)
 rintro σ1
 refine q_next ?_
 rcases bif_ hr with ⟨hb41, hr⟩ | ⟨hb41, hr⟩
 refine c_true R hb41 (c_seq (c_region (lB R (l_nil (q_next (c_ret (q_blockr (q_ret ?_))))))))
 obtain rfl := so hr
 obtain rfl := he2 _ R
 have hr := hk2
 refine q_ret (q_blockr (q_ret ?_))
 obtain rfl := so hr
 exact qF () (fun w s => (s.e 7 []))
 refine c_false R hb41 (c_skip (q_blockn (q_next (c_region (lO (vAd R R) (lI R (l_nil ?_)))))))
 obtain rfl := so hr
 exact qA ((ad g38 o39), l1.Outs.length, D34) (fun w s => s)
 refine c_false R hb36 (c_exit (q_exit ?_))
 obtain rfl := so hr
 obtain rfl := he2 _ R
 have hr := hk2
 refine q_exit (q_block ?_)
 exact qI ((), ()) hr (fun w s => (s.e 1 []))
 rintro ⟨_, _⟩ σ1 hr
 replace hr : impl_NestOk_J2 l1 = some r := hr
 unfold impl_NestOk_J2 at hr
 refine c_seq ?_
 obtain ⟨r44, hx45, hr⟩ := bd hr
 refine c_region (lO (vz (.agg [(sc A2 l1.Sizes D2), (sc A3 l1.Ins D3), (sc A4 l1.Fixed D4), (sc A5 l1.Kernels D5), (sc A6 l1.Outs D6)].toArray) (v_loadw 0 ag58 sz58 R R R R)) (lM (RR kT3 A2 D2 l1.Sizes :: RR kT3 A3 D3 l1.Ins :: RR kT159 A4 D4 l1.Fixed :: RR kT127 A5 D5 l1.Kernels :: RR kT3 A6 D6 l1.Outs :: W1) (fun w s => ((((((s.d 1 R).d 3 R).d 5 R).d 7 R).d 9 R).e 5 [4, 3, 2, 1, 0])) ?_))
 refine lC 5 cb129 R (impl_Nest_given_ok hx45) R ?_
 rintro ⟨A46, N46, D46⟩
 refine lN (ow kT4 4 (.slice A46 N46 D46) r44.1 :: W1) ?_
 refine l_len 0 sees_ow ?_
 rintro rfl
 refine lO (vT R) (lS R (lB R (lS R (lB R (l_nil (q_next (c_seq (c_seq (c_region (lB R (lO (vNo R) (l_nil (q_next ?_)))))))))))))
 rcases bif_ hr with ⟨hb47, hr⟩ | ⟨hb47, hr⟩
 refine c_true R hb47 (c_seq (c_region (lB R (l_nil (q_next (c_ret (q_ret ?_)))))))
 obtain rfl := so hr
 exact qF () (fun w s => (s.e 7 []))
 refine c_false R hb47 (c_skip (q_next (c_seq (c_region (lI R (l_nil (q_next (c_seq (c_cut (A := (Int) × (Unit)) (fun a => impl_NestOk_J3 a.1 = some r) (fun a => [(9, (iv a.1))]) (fun a => W1) ?_ ?_)))))))))
 refine c_seq (c_region (lO (vFa 3 fo58_3 R) (lO (vLd 1 ag56 R R R) (lO (v_len sl56 R) (lI R (l_nil (q_next (c_block ?_))))))))
 obtain ⟨e3, hl3, hk3⟩ := bd hr
 refine c_loop (A := Unit) hl3 (fun s a => [(1, (pt b7 0)), (7, (sc A46 r44.1 D46)), (9, (iv s.1)), (75, (sc A5 l1.Kernels D5)), (76, (il l1.Kernels)), (77, (iv s.2))]) (fun s a => OO kT4 4 A46 D46 r44.1 :: W1) () (aS R) (fun w s => s) ?_
 rintro ⟨sum60, x61⟩ _ σ1 out3 hr he3
 replace hr : impl_NestOk_L3 l1 r44 sum60 x61 = some out3 := hr
 unfold impl_NestOk_L3 at hr
 refine c_seq (c_region (lO (vLt R R) (l_nil (q_next (c_seq ?_)))))
 rcases bif_ hr with ⟨hb62, hr⟩ | ⟨hb62, hr⟩
 refine c_true R hb62 (c_skip (q_next (c_seq (c_block (c_seq ?_)))))
 obtain ⟨hg63, hr⟩ := gd hr
 refine c_region (t_some 5 sees_rd (show 0 < l1.Kernels.length by have := hg63; omega) (fun g64 o65 ha => ?_))
 subst ha
 refine lO (vIa sl56 sz127 R R hg63) (t_elem (K := kT127) 5 x61 dT127.dec R hg63.1 hg63.2 ?_)
 rintro ⟨⟨A66, D66⟩, ⟨A67, D67⟩, ⟨-, -, ⟨A68, D68⟩⟩, -, ⟨A69, D69⟩⟩
 refine lN (cl g64 (o65 + x61.toNat * 7) [(sc A66 ((ix l1.Kernels x61).Loops) D66), (sc A67 ((ix l1.Kernels x61).Loads) D67), (iv (ix l1.Kernels x61).Store.Buffer), (iv (ix l1.Kernels x61).Store.Offset), (sc A68 ((ix l1.Kernels x61).Store.Steps) D68), (.bool (ix l1.Kernels x61).Sum), (sc A69 ((ix l1.Kernels x61).Code) D69)] :: RR kT3 A66 D66 ((ix l1.Kernels x61).Loops) :: RR kT124 A67 D67 ((ix l1.Kernels x61).Loads) :: RR kT3 A68 D68 ((ix l1.Kernels x61).Store.Steps) :: RR kT216 A69 D69 ((ix l1.Kernels x61).Code) :: _ :: W1) ?_
 refine lO (vz (.agg [(sc A66 ((ix l1.Kernels x61).Loops) D66), (sc A67 ((ix l1.Kernels x61).Loads) D67), (iv (ix l1.Kernels x61).Store.Buffer), (iv (ix l1.Kernels x61).Store.Offset), (sc A68 ((ix l1.Kernels x61).Store.Steps) D68), (.bool (ix l1.Kernels x61).Sum), (sc A69 ((ix l1.Kernels x61).Code) D69)].toArray) (v_clfs (fo := 0) 0 ag127 sz127 R R R R)) (l_alloc R R zc127 (fun b70 => (l_stores 0 R R sz127 R R R R R R (lN (bxl b70 [(sc A66 ((ix l1.Kernels x61).Loops) D66), (sc A67 ((ix l1.Kernels x61).Loads) D67), (iv (ix l1.Kernels x61).Store.Buffer), (iv (ix l1.Kernels x61).Store.Offset), (sc A68 ((ix l1.Kernels x61).Store.Steps) D68), (.bool (ix l1.Kernels x61).Sum), (sc A69 ((ix l1.Kernels x61).Code) D69)] 127 :: _ :: _ :: _ :: _ :: _ :: _ :: W1) ?_))))
 refine l_nil (q_next (c_seq ?_))
 obtain ⟨r71, hx72, hr⟩ := bd hr
 refine c_region (lO (vz (.agg [(sc A2 l1.Sizes D2), (sc A3 l1.Ins D3), (sc A4 l1.Fixed D4), (sc (ad g64 o65) l1.Kernels D5), (sc A6 l1.Outs D6)].toArray) (v_loadw 7 ag58 sz58 R R R R)) (lO (vz (.agg [(sc A66 ((ix l1.Kernels x61).Loops) D66), (sc A67 ((ix l1.Kernels x61).Loads) D67), (iv (ix l1.Kernels x61).Store.Buffer), (iv (ix l1.Kernels x61).Store.Offset), (sc A68 ((ix l1.Kernels x61).Store.Steps) D68), (.bool (ix l1.Kernels x61).Sum), (sc A69 ((ix l1.Kernels x61).Code) D69)].toArray) (v_loadw 0 ag127 sz127 R R R R)) (lS R (lM (ow _ _ _ _ :: RR kT3 A2 D2 l1.Sizes :: RR kT3 A3 D3 l1.Ins :: RR kT159 A4 D4 l1.Fixed :: RR kT127 (ad g64 o65) D5 l1.Kernels :: RR kT3 A6 D6 l1.Outs :: rds _ _ _ :: rds _ _ _ :: rds _ _ _ :: rds _ _ _ :: bxl _ _ _ :: cl _ _ _ :: rds _ _ _ :: rds _ _ _ :: rds _ _ _ :: rds _ _ _ :: W1) (fun w s => ((((((((((s.d 8 R).d 10 R).d 12 R).d 14 R).d 16 R).d 7 R).d 9 R).d 11 R).d 13 R).e 16 [15, 8, 7, 6, 5, 4, 3, 2, 1, 0, 9, 10, 11, 12, 13, 14])) ?_))))
 refine lC 10 cb130 R (FnOk.lends (A' := [OO kT4 4 A46 D46 r44.1]) (A := [RR kT4 A46 D46 r44.1]) (B := [RR kT3 A2 D2 l1.Sizes, RR kT3 A3 D3 l1.Ins, RR kT159 A4 D4 l1.Fixed, RR kT127 (ad g64 o65) D5 l1.Kernels, RR kT3 A6 D6 l1.Outs, RR kT3 A66 D66 ((ix l1.Kernels x61).Loops), RR kT124 A67 D67 ((ix l1.Kernels x61).Loads), RR kT3 A68 D68 ((ix l1.Kernels x61).Store.Steps), RR kT216 A69 D69 ((ix l1.Kernels x61).Code)]) (FnOk.perm (impl_Nest_kernelOk_ok hx72) (Pre' := [RR kT4 A46 D46 r44.1, RR kT3 A2 D2 l1.Sizes, RR kT3 A3 D3 l1.Ins, RR kT159 A4 D4 l1.Fixed, RR kT127 (ad g64 o65) D5 l1.Kernels, RR kT3 A6 D6 l1.Outs, RR kT3 A66 D66 ((ix l1.Kernels x61).Loops), RR kT124 A67 D67 ((ix l1.Kernels x61).Loads), RR kT3 A68 D68 ((ix l1.Kernels x61).Store.Steps), RR kT216 A69 D69 ((ix l1.Kernels x61).Code)]) (fun _ _ _ s => (s.f 10 [1, 9, 0, 1]))) ⟨lend_ow, trivial⟩ (fun _ => trivial)) R ?_
 rintro _
 refine lN (_ :: _ :: _ :: _ :: _ :: _ :: _ :: W1) ?_
 refine lO (vT R) (lI R (lB R (lI R (lB R (l_nil (q_next (c_seq (c_seq (c_region (lB R (lO (vNo R) (l_nil (q_next ?_)))))))))))))
 rcases bif_ hr with ⟨hb73, hr⟩ | ⟨hb73, hr⟩
 refine c_true R hb73 (c_seq (c_region (lB R (l_nil (q_next (c_ret (q_ret (q_blockr (q_ret ?_)))))))))
 obtain rfl := so hr
 obtain rfl := he3 _ R
 have hr := hk3
 refine q_ret (q_blockr (q_ret ?_))
 obtain rfl := so hr
 exact qF () (fun w s => (s.e 13 []))
 refine c_false R hb73 (c_skip (q_next (c_region (lI R (lI R (lO (vAd R R) (lI R (l_nil (q_blockn (q_next (c_region (lO (vAd R R) (lI R (l_nil ?_))))))))))))))
 obtain rfl := so hr
 exact qA () (fun w s => (s.e 7 [0]))
 refine c_false R hb62 (c_exit (q_exit ?_))
 obtain rfl := so hr
 obtain rfl := he3 _ R
 have hr := hk3
 refine q_exit (q_block ?_)
 exact qI (sum60, ()) hr (fun w s => (s.e 1 []))
 rintro ⟨sum76, _⟩ σ1 hr
 replace hr : impl_NestOk_J3 sum76 = some r := hr
 unfold impl_NestOk_J3 at hr
 refine c_seq (c_region (lI R (lO (vLe R R) (lB R (l_nil (q_next (c_ret ?_)))))))
 obtain rfl := so hr
 exact qF () (fun w s => (s.e 6 []))
theorem slices_Clone_int_int_ok {s1 : List Int} {a_2 : Option Addr} {n_2 c_2 : Nat} {r : (List Int)} (hr : slices_Clone_int_int s1 = some r) :
    FnOk Try.prog 51 [(.slice a_2 n_2 c_2)] [rds kT3 (.slice a_2 n_2 c_2) s1] (fun (h : (Option Addr × Nat × Nat)) => ((.slice h.1 h.2.1 h.2.2), [ow kT3 3 (.slice h.1 h.2.1 h.2.2) r])) := by
  unfold slices_Clone_int_int at hr
  obtain ⟨hg, hr⟩ := gd hr
  obtain rfl := Option.some.inj hr
  refine fn_ok Try.func51 rfl 8 rfl rfl fun C V => ?_
  refine c_st (V' := rds kT3 (.slice a_2 n_2 c_2) s1 :: V) (fun w s => s) ?_
  refine c_len 0 sees_rd (fun (hn : n_2 = s1.length) => ?_)
  subst hn
  refine c_seq (c_region ?_)
  refine l_v (.slice none 0 0) (v_pv rfl) rfl rfl ?_
  refine l_nil (q_next ?_)
  refine c_seq (c_seq (c_region ?_))
  refine l_v (.slice a_2 s1.length c_2) (v_pv rfl) rfl rfl ?_
  refine l_v (.bool a_2.isNone) (v_snil sl29 rfl rfl) rfl rfl ?_
  refine l_nil (q_next ?_)
  rcases Bool.eq_false_or_eq_true a_2.isNone with ha | ha
  · refine c_true rfl ha ?_
    refine c_nilx 0 sees_rd ha (fun (hx : s1 = []) => ?_)
    subst hx
    refine c_seq (c_region ?_)
    refine l_v (.slice none 0 0) (v_pv rfl) rfl rfl ?_
    refine l_nil (q_next ?_)
    refine c_ret (q_ret ?_)
    exact q_fin (vs := [(.slice none 0 0)]) (.inl rfl) (none, 0, 0) rfl ⟨rfl, trivial⟩ rfl (fun w s => ((s.nilo kT3 3).sel 2 [0] rfl rfl))
  · refine c_false rfl ha (c_skip (q_next ?_))
    refine c_seq (c_region ?_)
    refine l_build (K := kT3) (xs := ([] : List Int)) (vs := []) 0 rfl rfl sl29 sz3 zc3 rfl rfl rfl rfl rfl rfl ?_ rfl (fun a_3 c_3 => ?_)
    · exact fun I h s => (mO3).list [] I h s
    refine l_v (.slice a_2 s1.length c_2) (v_pv rfl) rfl rfl ?_
    refine l_app (K := kT3) 17592186044416 rfl rfl sl29 sz3 by3 (Zr.zk zT3 zc3) rfl rfl rfl rfl rfl rfl (src_rd (Kind.scal_flat _ _)) (by simpa using hg) (fun a_4 c_4 => ?_)
    refine l_v (.slice a_4 s1.length c_4) (v_pv rfl) rfl rfl ?_
    refine l_nil (q_next ?_)
    refine c_ret ?_
    exact q_fin (vs := [(.slice a_4 s1.length c_4)]) (.inl rfl) (a_4, s1.length, c_4) rfl ⟨rfl, trivial⟩ rfl (fun w s => s)
theorem impl_cloneNest_1_ok {f1 : Fix} {r : Fix} (hr : impl_cloneNest_1 f1 = some r) :
 FnOk Try.prog 132 [(.agg [(iv f1.Buffer), (.slice A2 N2 D2)].toArray)] [rds kT3 (.slice A2 N2 D2) f1.Data] (fun (h : HH) => ((.agg [(iv r.Buffer), (.slice h.1 h.2.1 h.2.2)].toArray), [ow kT3 3 (.slice h.1 h.2.1 h.2.2) r.Data])) := by
 unfold impl_cloneNest_1 at hr
 refine fn_ok Try.func132 R 9 R R fun C V => ?_
 refine cN (_ :: V) ?_
 refine cL 0 sees_rd ?_
 rintro rfl
 let W0 : List HP := RR kT3 A2 D2 f1.Data :: V
 refine cN W0 ?_
 refine c_seq (c_region (lBx R (fun b3 => (l_alloc R R zc159 (fun b4 => (l_nil ?_))))))
 let W1 : List HP := bxl b3 [(iv f1.Buffer), (sc A2 f1.Data D2)] 159 :: W0
 refine qN (_ :: W1) ?_
 refine q_next (c_seq ?_)
 obtain ⟨r5, hx6, hr⟩ := bd hr
 refine cdr 7 [0] mixo (fun ht hn => (dR 0 R (vFa 0 fo159_0 R) (hS := (sL [0])) (dR 1 R (vLd 0 ag3 R R R) (hS := (sL [0])) (dR 2 R (vFa 1 fo159_1 R) (hS := (sL [0])) (dR 3 R (vLd 0 ag29 R R R) (hS := (sL [0])) (d_one 4 (by kernel_rfl) R (lM (RR kT3 A2 D2 f1.Data :: _ :: W1) (fun w s => (s.d 2 R)) ?_)))))))
 refine lC 1 cb51 R (slices_Clone_int_int_ok hx6) R ?_
 rintro ⟨A7, N7, D7⟩
 refine lN (ow kT3 3 (.slice A7 N7 D7) r5 :: _ :: W1) ?_
 refine l_len 0 sees_ow ?_
 rintro rfl
 refine l_nil (q_draw (sL [1, 0]) (dR 5 R (vz (.agg [(iv f1.Buffer), (sc A7 r5 D7)].toArray) (v_build pl159 zc159 R R)) (hS := (sL [1, 0])) (d_one 6 (by kernel_rfl) R (l_stores 1 R R sz159 R R R R R R (lN (_ :: bxl b4 [(iv f1.Buffer), (sc A7 r5 D7)] 159 :: W1) ?_)))))
 refine l_nil (q_draw (sL [1, 0]) (d_done (by kernel_rfl) (q_next (c_ret ?_))))
 obtain rfl := so hr
 exact q_fin (vs := [(.agg [(iv f1.Buffer), (sc A7 r5 D7)].toArray)]) (.inl R) (A7, r5.length, D7) R ⟨⟨1, b4, _, _, R, R, .inl ⟨ag159, sz159, R⟩⟩, trivial⟩ R (fun w s => (s.e 4 [0]))
theorem impl_mapped_impl_Fix_impl_Fix__impl_cloneNest_1_ok {list1 : (List Fix)} {r : (List Fix)} (hr : impl_mapped_impl_Fix_impl_Fix__impl_cloneNest_1 list1 = some r) :
 FnOk Try.prog 131 [(.slice A2 N2 D2), (.func (.func 132) [].toArray [].toArray)] [rds kT159 (.slice A2 N2 D2) list1] (fun (h : HH) => ((.slice h.1 h.2.1 h.2.2), [ow kT159 159 (.slice h.1 h.2.1 h.2.2) r])) := by
 unfold impl_mapped_impl_Fix_impl_Fix__impl_cloneNest_1 at hr
 refine fn_ok Try.func131 R 26 R R fun C V => ?_
 refine cN (_ :: V) ?_
 refine cL 0 sees_rd ?_
 rintro rfl
 let W0 : List HP := RR kT159 A2 D2 list1 :: V
 refine cN W0 ?_
 refine c_seq (c_region (lS R (l_nil (q_next (c_seq ?_)))))
 obtain ⟨hg4, hr⟩ := gd hr
 refine c_region (lS R (lO (v_len sl55 R) (l_make (K := kT159) (m := (list1.length : Int)) (z := zT159.z) R R sl55 sz159 by159 (Zr.zk zT159 zc159) (by decide) R R hg4.1 hg4.2.1 hg4.2.2 (fun A5 D5 => (lS R (l_nil (q_next (c_seq (c_cut (A := ((List Fix)) × (Unit)) (fun a => impl_mapped_impl_Fix_impl_Fix__impl_cloneNest_1_J1 a.1 = some r) (fun a => [(5, (sc A5 (List.replicate (list1.length : Int).toNat zT159.z) D5))]) (fun a => ow kT159 159 (.slice A5 (List.replicate (list1.length : Int).toNat zT159.z).length D5) a.1 :: W0) ?_ ?_)))))))))
 refine c_seq (c_region (lS R (lO (v_len sl55 R) (lI R (l_nil (q_next (c_block ?_)))))))
 obtain ⟨e1, hl1, hk1⟩ := bd hr
 refine c_loop (A := Unit) hl1 (fun s a => [(1, (.func (.func 132) [].toArray [].toArray)), (5, (sc A5 (List.replicate (list1.length : Int).toNat zT159.z) D5)), (11, (sc A2 list1 D2)), (12, (il list1)), (13, (iv s.2))]) (fun s a => ow kT159 159 (.slice A5 (List.replicate (list1.length : Int).toNat zT159.z).length D5) s.1 :: W0) () (aS R) (fun w s => s) ?_
 rintro ⟨x20, x21⟩ _ σ1 out1 hr he1
 replace hr : impl_mapped_impl_Fix_impl_Fix__impl_cloneNest_1_L1 list1 x20 x21 = some out1 := hr
 unfold impl_mapped_impl_Fix_impl_Fix__impl_cloneNest_1_L1 at hr
 refine c_seq (c_region (lO (vLt R R) (l_nil (q_next (c_seq ?_)))))
 rcases bif_ hr with ⟨hb22, hr⟩ | ⟨hb22, hr⟩
 refine c_true R hb22 (c_skip (q_next (c_seq (c_block (c_seq ?_)))))
 obtain ⟨hg23, hr⟩ := gd hr
 refine c_region (lI R (t_some 1 sees_rd (show 0 < list1.length by have := hg23; omega) (fun g24 o25 ha => ?_)))
 subst ha
 refine lO (vIa sl55 sz159 R R hg23) (t_elem (K := kT159) 1 x21 dT159.dec R hg23.1 hg23.2 ?_)
 rintro ⟨-, ⟨A26, D26⟩⟩
 refine lN (cl g24 (o25 + x21.toNat * 2) [(iv (ix list1 x21).Buffer), (sc A26 ((ix list1 x21).Data) D26)] :: RR kT3 A26 D26 ((ix list1 x21).Data) :: ow kT159 159 (.slice A5 (List.replicate (list1.length : Int).toNat zT159.z).length D5) x20 :: W0) ?_
 refine lO (vz (.agg [(iv (ix list1 x21).Buffer), (sc A26 ((ix list1 x21).Data) D26)].toArray) (v_clfs (fo := 0) 0 ag159 sz159 R R R R)) (l_alloc R R zc159 (fun b27 => (lI R (l_stores 0 R R sz159 R R R R R R (lN (bxl b27 [(iv (ix list1 x21).Buffer), (sc A26 ((ix list1 x21).Data) D26)] 159 :: _ :: _ :: _ :: W0) ?_)))))
 refine l_nil (q_next ?_)
 obtain ⟨r28, hx29, hr⟩ := bd hr
 obtain ⟨hg31, hr⟩ := gd hr
 refine c_region (lS R (lI R (lO (vp (.func (.func 132) [].toArray [].toArray) R) (lO (vz (.agg [(iv (ix list1 x21).Buffer), (sc A26 ((ix list1 x21).Data) D26)].toArray) (v_loadw 0 ag159 sz159 R R R R)) (lM (_ :: _ :: _ :: _ :: _ :: W0) (fun w s => (s.d 2 R)) ?_)))))
 refine l_callvn (fs := []) (cs := []) 1 R R cb132 R R (impl_cloneNest_1_ok hx29) R ?_
 rintro ⟨A30, N30, D30⟩
 refine lN (ow kT3 3 (.slice A30 N30 D30) r28.Data :: _ :: _ :: _ :: _ :: W0) ?_
 refine l_len 0 sees_ow ?_
 rintro rfl
 refine t_some 4 sees_ow (show 0 < (List.replicate (list1.length : Int).toNat zT159.z).length by have := hg31; omega) (fun g32 o33 ha => ?_)
 subst ha
 refine lO (vIa sl55 sz159 R R hg31) (lM (ow kT159 159 (.slice (ad g32 o33) (List.replicate (list1.length : Int).toNat zT159.z).length D5) x20 :: ow _ _ _ _ :: bxl _ _ _ :: cl _ _ _ :: rds _ _ _ :: W0) (fun w s => (s.f 5 [4, 1, 0, 4])) ?_)
 refine l_stx (K := kT159) (x' := r28) 1 x21 R R sz159 R R hg31.1 hg31.2 ?_ ?_
 exact fun I h s => (mO159).put I h ((), (sc A30 r28.Data D30)) r28 s
 refine lN (ow kT159 159 (.slice (ad g32 o33) (List.replicate (list1.length : Int).toNat zT159.z).length D5) (x20.set x21.toNat r28) :: _ :: _ :: _ :: W0) ?_
 refine l_nil (q_blockn (q_next (c_region (lO (vAd R R) (lI R (l_nil ?_))))))
 obtain rfl := so hr
 exact qA () (fun w s => (s.e 4 [0]))
 refine c_false R hb22 (c_exit (q_exit ?_))
 obtain rfl := so hr
 obtain rfl := he1 _ R
 have hr := hk1
 refine q_exit (q_block ?_)
 exact qI (x20, ()) hr (fun w s => s)
 rintro ⟨x36, _⟩ σ1 hr
 replace hr : impl_mapped_impl_Fix_impl_Fix__impl_cloneNest_1_J1 x36 = some r := hr
 unfold impl_mapped_impl_Fix_impl_Fix__impl_cloneNest_1_J1 at hr
 refine c_seq (c_region (lS R (lS R (l_nil (q_next (c_ret ?_))))))
 obtain rfl := so hr
 exact qF (A5, (List.replicate (list1.length : Int).toNat zT159.z).length, D5) (fun w s => (s.e 2 [0]))
theorem impl_cloneAccess_ok {a1 : Access} {r : Access} (hr : impl_cloneAccess a1 = some r) :
 FnOk Try.prog 187 [(.agg [(iv a1.Buffer), (iv a1.Offset), (.slice A2 N2 D2)].toArray)] [rds kT3 (.slice A2 N2 D2) a1.Steps] (fun (h : HH) => ((.agg [(iv r.Buffer), (iv r.Offset), (.slice h.1 h.2.1 h.2.2)].toArray), [ow kT3 3 (.slice h.1 h.2.1 h.2.2) r.Steps])) := by
 unfold impl_cloneAccess at hr
 refine fn_ok Try.func187 R 11 R R fun C V => ?_
 refine cN (_ :: V) ?_
 refine cL 0 sees_rd ?_
 rintro rfl
 let W0 : List HP := RR kT3 A2 D2 a1.Steps :: V
 refine cN W0 ?_
 refine c_seq (c_region (lBx R (fun b3 => (l_alloc R R zc124 (fun b4 => (l_nil ?_))))))
 let W1 : List HP := bxl b3 [(iv a1.Buffer), (iv a1.Offset), (sc A2 a1.Steps D2)] 124 :: W0
 refine qN (_ :: W1) ?_
 refine q_next (c_seq ?_)
 obtain ⟨r5, hx6, hr⟩ := bd hr
 refine cdr 9 [0] mixo (fun ht hn => (dR 0 R (vFa 0 fo124_0 R) (hS := (sL [0])) (dR 1 R (vLd 0 ag3 R R R) (hS := (sL [0])) (dR 2 R (vFa 1 fo124_1 R) (hS := (sL [0])) (dR 3 R (vLd 0 ag3 R R R) (hS := (sL [0])) (dR 4 R (vFa 2 fo124_2 R) (hS := (sL [0])) (dR 5 R (vLd 0 ag29 R R R) (hS := (sL [0])) (d_one 6 (by kernel_rfl) R (lM (RR kT3 A2 D2 a1.Steps :: _ :: W1) (fun w s => (s.d 2 R)) ?_)))))))))
 refine lC 1 cb51 R (slices_Clone_int_int_ok hx6) R ?_
 rintro ⟨A7, N7, D7⟩
 refine lN (ow kT3 3 (.slice A7 N7 D7) r5 :: _ :: W1) ?_
 refine l_len 0 sees_ow ?_
 rintro rfl
 refine l_nil (q_draw (sL [1, 0]) (dR 7 R (vz (.agg [(iv a1.Buffer), (iv a1.Offset), (sc A7 r5 D7)].toArray) (v_build pl124 zc124 R R)) (hS := (sL [1, 0])) (d_one 8 (by kernel_rfl) R (l_stores 1 R R sz124 R R R R R R (lN (_ :: bxl b4 [(iv a1.Buffer), (iv a1.Offset), (sc A7 r5 D7)] 124 :: W1) ?_)))))
 refine l_nil (q_draw (sL [1, 0]) (d_done (by kernel_rfl) (q_next (c_ret ?_))))
 obtain rfl := so hr
 exact q_fin (vs := [(.agg [(iv a1.Buffer), (iv a1.Offset), (sc A7 r5 D7)].toArray)]) (.inl R) (A7, r5.length, D7) R ⟨⟨1, b4, _, _, R, R, .inl ⟨ag124, sz124, R⟩⟩, trivial⟩ R (fun w s => (s.e 4 [0]))
theorem impl_mapped_impl_Access_impl_Access__impl_cloneAccess_ok {list1 : (List Access)} {r : (List Access)} (hr : impl_mapped_impl_Access_impl_Access__impl_cloneAccess list1 = some r) :
 FnOk Try.prog 186 [(.slice A2 N2 D2), (.func (.func 187) [].toArray [].toArray)] [rds kT124 (.slice A2 N2 D2) list1] (fun (h : HH) => ((.slice h.1 h.2.1 h.2.2), [ow kT124 124 (.slice h.1 h.2.1 h.2.2) r])) := by
 unfold impl_mapped_impl_Access_impl_Access__impl_cloneAccess at hr
 refine fn_ok Try.func186 R 26 R R fun C V => ?_
 refine cN (_ :: V) ?_
 refine cL 0 sees_rd ?_
 rintro rfl
 let W0 : List HP := RR kT124 A2 D2 list1 :: V
 refine cN W0 ?_
 refine c_seq (c_region (lS R (l_nil (q_next (c_seq ?_)))))
 obtain ⟨hg4, hr⟩ := gd hr
 refine c_region (lS R (lO (v_len sl122 R) (l_make (K := kT124) (m := (list1.length : Int)) (z := zT124.z) R R sl122 sz124 by124 (Zr.zk zT124 zc124) (by decide) R R hg4.1 hg4.2.1 hg4.2.2 (fun A5 D5 => (lS R (l_nil (q_next (c_seq (c_cut (A := ((List Access)) × (Unit)) (fun a => impl_mapped_impl_Access_impl_Access__impl_cloneAccess_J1 a.1 = some r) (fun a => [(5, (sc A5 (List.replicate (list1.length : Int).toNat zT124.z) D5))]) (fun a => ow kT124 124 (.slice A5 (List.replicate (list1.length : Int).toNat zT124.z).length D5) a.1 :: W0) ?_ ?_)))))))))
 refine c_seq (c_region (lS R (lO (v_len sl122 R) (lI R (l_nil (q_next (c_block ?_)))))))
 obtain ⟨e1, hl1, hk1⟩ := bd hr
 refine c_loop (A := Unit) hl1 (fun s a => [(1, (.func (.func 187) [].toArray [].toArray)), (5, (sc A5 (List.replicate (list1.length : Int).toNat zT124.z) D5)), (11, (sc A2 list1 D2)), (12, (il list1)), (13, (iv s.2))]) (fun s a => ow kT124 124 (.slice A5 (List.replicate (list1.length : Int).toNat zT124.z).length D5) s.1 :: W0) () (aS R) (fun w s => s) ?_
 rintro ⟨x20, x21⟩ _ σ1 out1 hr he1
 replace hr : impl_mapped_impl_Access_impl_Access__impl_cloneAccess_L1 list1 x20 x21 = some out1 := hr
 unfold impl_mapped_impl_Access_impl_Access__impl_cloneAccess_L1 at hr
 refine c_seq (c_region (lO (vLt R R) (l_nil (q_next (c_seq ?_)))))
 rcases bif_ hr with ⟨hb22, hr⟩ | ⟨hb22, hr⟩
 refine c_true R hb22 (c_skip (q_next (c_seq (c_block (c_seq ?_)))))
 obtain ⟨hg23, hr⟩ := gd hr
 refine c_region (lI R (t_some 1 sees_rd (show 0 < list1.length by have := hg23; omega) (fun g24 o25 ha => ?_)))
 subst ha
 refine lO (vIa sl122 sz124 R R hg23) (t_elem (K := kT124) 1 x21 dT124.dec R hg23.1 hg23.2 ?_)
 rintro ⟨-, -, ⟨A26, D26⟩⟩
 refine lN (cl g24 (o25 + x21.toNat * 3) [(iv (ix list1 x21).Buffer), (iv (ix list1 x21).Offset), (sc A26 ((ix list1 x21).Steps) D26)] :: RR kT3 A26 D26 ((ix list1 x21).Steps) :: ow kT124 124 (.slice A5 (List.replicate (list1.length : Int).toNat zT124.z).length D5) x20 :: W0) ?_
 refine lO (vz (.agg [(iv (ix list1 x21).Buffer), (iv (ix list1 x21).Offset), (sc A26 ((ix list1 x21).Steps) D26)].toArray) (v_clfs (fo := 0) 0 ag124 sz124 R R R R)) (l_alloc R R zc124 (fun b27 => (lI R (l_stores 0 R R sz124 R R R R R R (lN (bxl b27 [(iv (ix list1 x21).Buffer), (iv (ix list1 x21).Offset), (sc A26 ((ix list1 x21).Steps) D26)] 124 :: _ :: _ :: _ :: W0) ?_)))))
 refine l_nil (q_next ?_)
 obtain ⟨r28, hx29, hr⟩ := bd hr
 obtain ⟨hg31, hr⟩ := gd hr
 refine c_region (lS R (lI R (lO (vp (.func (.func 187) [].toArray [].toArray) R) (lO (vz (.agg [(iv (ix list1 x21).Buffer), (iv (ix list1 x21).Offset), (sc A26 ((ix list1 x21).Steps) D26)].toArray) (v_loadw 0 ag124 sz124 R R R R)) (lM (_ :: _ :: _ :: _ :: _ :: W0) (fun w s => (s.d 2 R)) ?_)))))
 refine l_callvn (fs := []) (cs := []) 1 R R cb187 R R (impl_cloneAccess_ok hx29) R ?_
 rintro ⟨A30, N30, D30⟩
 refine lN (ow kT3 3 (.slice A30 N30 D30) r28.Steps :: _ :: _ :: _ :: _ :: W0) ?_
 refine l_len 0 sees_ow ?_
 rintro rfl
 refine t_some 4 sees_ow (show 0 < (List.replicate (list1.length : Int).toNat zT124.z).length by have := hg31; omega) (fun g32 o33 ha => ?_)
 subst ha
 refine lO (vIa sl122 sz124 R R hg31) (lM (ow kT124 124 (.slice (ad g32 o33) (List.replicate (list1.length : Int).toNat zT124.z).length D5) x20 :: ow _ _ _ _ :: bxl _ _ _ :: cl _ _ _ :: rds _ _ _ :: W0) (fun w s => (s.f 5 [4, 1, 0, 4])) ?_)
 refine l_stx (K := kT124) (x' := r28) 1 x21 R R sz124 R R hg31.1 hg31.2 ?_ ?_
 exact fun I h s => (mO124).put I h ((), (), (sc A30 r28.Steps D30)) r28 s
 refine lN (ow kT124 124 (.slice (ad g32 o33) (List.replicate (list1.length : Int).toNat zT124.z).length D5) (x20.set x21.toNat r28) :: _ :: _ :: _ :: W0) ?_
 refine l_nil (q_blockn (q_next (c_region (lO (vAd R R) (lI R (l_nil ?_))))))
 obtain rfl := so hr
 exact qA () (fun w s => (s.e 4 [0]))
 refine c_false R hb22 (c_exit (q_exit ?_))
 obtain rfl := so hr
 obtain rfl := he1 _ R
 have hr := hk1
 refine q_exit (q_block ?_)
 exact qI (x20, ()) hr (fun w s => s)
 rintro ⟨x36, _⟩ σ1 hr
 replace hr : impl_mapped_impl_Access_impl_Access__impl_cloneAccess_J1 x36 = some r := hr
 unfold impl_mapped_impl_Access_impl_Access__impl_cloneAccess_J1 at hr
 refine c_seq (c_region (lS R (lS R (l_nil (q_next (c_ret ?_))))))
 obtain rfl := so hr
 exact qF (A5, (List.replicate (list1.length : Int).toNat zT124.z).length, D5) (fun w s => (s.e 2 [0]))
theorem slices_Clone_impl_Calc_impl_Calc_ok {s1 : List Calc} {a_2 : Option Addr} {n_2 c_2 : Nat} {r : (List Calc)} (hr : slices_Clone_impl_Calc_impl_Calc s1 = some r) :
    FnOk Try.prog 188 [(.slice a_2 n_2 c_2)] [rds kT216 (.slice a_2 n_2 c_2) s1] (fun (h : (Option Addr × Nat × Nat)) => ((.slice h.1 h.2.1 h.2.2), [ow kT216 216 (.slice h.1 h.2.1 h.2.2) r])) := by
  unfold slices_Clone_impl_Calc_impl_Calc at hr
  obtain ⟨hg, hr⟩ := gd hr
  obtain rfl := Option.some.inj hr
  refine fn_ok Try.func188 rfl 8 rfl rfl fun C V => ?_
  refine c_st (V' := rds kT216 (.slice a_2 n_2 c_2) s1 :: V) (fun w s => s) ?_
  refine c_len 0 sees_rd (fun (hn : n_2 = s1.length) => ?_)
  subst hn
  refine c_seq (c_region ?_)
  refine l_v (.slice none 0 0) (v_pv rfl) rfl rfl ?_
  refine l_nil (q_next ?_)
  refine c_seq (c_seq (c_region ?_))
  refine l_v (.slice a_2 s1.length c_2) (v_pv rfl) rfl rfl ?_
  refine l_v (.bool a_2.isNone) (v_snil sl125 rfl rfl) rfl rfl ?_
  refine l_nil (q_next ?_)
  rcases Bool.eq_false_or_eq_true a_2.isNone with ha | ha
  · refine c_true rfl ha ?_
    refine c_nilx 0 sees_rd ha (fun (hx : s1 = []) => ?_)
    subst hx
    refine c_seq (c_region ?_)
    refine l_v (.slice none 0 0) (v_pv rfl) rfl rfl ?_
    refine l_nil (q_next ?_)
    refine c_ret (q_ret ?_)
    exact q_fin (vs := [(.slice none 0 0)]) (.inl rfl) (none, 0, 0) rfl ⟨rfl, trivial⟩ rfl (fun w s => ((s.nilo kT216 216).sel 2 [0] rfl rfl))
  · refine c_false rfl ha (c_skip (q_next ?_))
    refine c_seq (c_region ?_)
    refine l_build (K := kT216) (xs := ([] : List Calc)) (vs := []) 0 rfl rfl sl125 sz216 zc216 rfl rfl rfl rfl rfl rfl ?_ rfl (fun a_3 c_3 => ?_)
    · exact fun I h s => (mO216).list [] I h s
    refine l_v (.slice a_2 s1.length c_2) (v_pv rfl) rfl rfl ?_
    refine l_app (K := kT216) 5864062014805 rfl rfl sl125 sz216 by216 (Zr.zk zT216 zc216) rfl rfl rfl rfl rfl rfl (src_rd (Kind.iso_flat (Kind.pair_flat (Kind.scal_flat _ _) (Kind.pair_flat (Kind.scal_flat _ _) (Kind.scal_flat _ _))) _)) (by simpa using hg) (fun a_4 c_4 => ?_)
    refine l_v (.slice a_4 s1.length c_4) (v_pv rfl) rfl rfl ?_
    refine l_nil (q_next ?_)
    refine c_ret ?_
    exact q_fin (vs := [(.slice a_4 s1.length c_4)]) (.inl rfl) (a_4, s1.length, c_4) rfl ⟨rfl, trivial⟩ rfl (fun w s => s)
theorem impl_cloneKernel_ok {k1 : Kernel} {r : Kernel} (hr : impl_cloneKernel k1 = some r) :
 FnOk Try.prog 134 [(.agg [(.slice A2 N2 D2), (.slice A3 N3 D3), (iv k1.Store.Buffer), (iv k1.Store.Offset), (.slice A4 N4 D4), (.bool k1.Sum), (.slice A5 N5 D5)].toArray)] [rds kT3 (.slice A2 N2 D2) k1.Loops, rds kT124 (.slice A3 N3 D3) k1.Loads, rds kT3 (.slice A4 N4 D4) k1.Store.Steps, rds kT216 (.slice A5 N5 D5) k1.Code] (fun (h : HH × HH × HH × HH) => ((.agg [(.slice h.1.1 h.1.2.1 h.1.2.2), (.slice h.2.1.1 h.2.1.2.1 h.2.1.2.2), (iv r.Store.Buffer), (iv r.Store.Offset), (.slice h.2.2.1.1 h.2.2.1.2.1 h.2.2.1.2.2), (.bool r.Sum), (.slice h.2.2.2.1 h.2.2.2.2.1 h.2.2.2.2.2)].toArray), [ow kT3 3 (.slice h.1.1 h.1.2.1 h.1.2.2) r.Loops, ow kT124 124 (.slice h.2.1.1 h.2.1.2.1 h.2.1.2.2) r.Loads, ow kT3 3 (.slice h.2.2.1.1 h.2.2.1.2.1 h.2.2.1.2.2) r.Store.Steps, ow kT216 216 (.slice h.2.2.2.1 h.2.2.2.2.1 h.2.2.2.2.2) r.Code])) := by
 unfold impl_cloneKernel at hr
 refine fn_ok Try.func134 R 18 R R fun C V => ?_
 refine cN (_ :: _ :: _ :: _ :: V) ?_
 refine cL 0 sees_rd ?_
 rintro rfl
 refine cL 1 sees_rd ?_
 rintro rfl
 refine cL 2 sees_rd ?_
 rintro rfl
 refine cL 3 sees_rd ?_
 rintro rfl
 let W0 : List HP := RR kT3 A2 D2 k1.Loops :: RR kT124 A3 D3 k1.Loads :: RR kT3 A4 D4 k1.Store.Steps :: RR kT216 A5 D5 k1.Code :: V
 refine cN W0 ?_
 refine c_seq (c_region (lBx R (fun b6 => (l_alloc R R zc127 (fun b7 => (l_nil ?_))))))
 let W1 : List HP := bxl b6 [(sc A2 k1.Loops D2), (sc A3 k1.Loads D3), (iv k1.Store.Buffer), (iv k1.Store.Offset), (sc A4 k1.Store.Steps D4), (.bool k1.Sum), (sc A5 k1.Code D5)] 127 :: W0
 refine qN (_ :: W1) ?_
 refine q_next (c_seq ?_)
 obtain ⟨r8, hx9, hr⟩ := bd hr
 obtain ⟨r11, hx12, hr⟩ := bd hr
 obtain ⟨r14, hx15, hr⟩ := bd hr
 obtain ⟨r17, hx18, hr⟩ := bd hr
 refine cdr 16 [0] mixo (fun ht hn => (dR 0 R (vFa 0 fo127_0 R) (hS := (sL [0])) (dR 1 R (vLd 0 ag29 R R R) (hS := (sL [0])) (dR 3 R (vFa 1 fo127_1 R) (hS := (sL [0])) (dR 4 R (vLd 0 ag122 R R R) (hS := (sL [0])) (dR 6 R (vFa 2 fo127_2 R) (hS := (sL [0])) (dR 7 R (vz (.agg [(iv k1.Store.Buffer), (iv k1.Store.Offset), (sc A4 k1.Store.Steps D4)].toArray) (v_loadw 0 ag124 sz124 R R R R)) (hS := (sL [0])) (dR 9 R (vFa 5 fo127_3 R) (hS := (sL [0])) (dR 10 R (vLd 0 ag4 R R R) (hS := (sL [0])) (dR 11 R (vFa 6 fo127_4 R) (hS := (sL [0])) (dR 12 R (vLd 0 ag125 R R R) (hS := (sL [0])) (d_one 2 (by kernel_rfl) R (lM (RR kT3 A2 D2 k1.Loops :: _ :: W1) (fun w s => (s.d 2 R)) ?_)))))))))))))
 refine lC 1 cb51 R (slices_Clone_int_int_ok hx9) R ?_
 rintro ⟨A10, N10, D10⟩
 refine lN (ow kT3 3 (.slice A10 N10 D10) r8 :: _ :: W1) ?_
 refine l_len 0 sees_ow ?_
 rintro rfl
 refine l_nil (q_draw (sL [1, 0]) (d_one 5 (by kernel_rfl) R (lM (RR kT124 A3 D3 k1.Loads :: _ :: _ :: W1) (fun w s => (s.d 4 R)) ?_)))
 refine lC 1 cb186 R (impl_mapped_impl_Access_impl_Access__impl_cloneAccess_ok hx12) R ?_
 rintro ⟨A13, N13, D13⟩
 refine lN (ow kT124 124 (.slice A13 N13 D13) r11 :: _ :: _ :: W1) ?_
 refine l_len 0 sees_ow ?_
 rintro rfl
 refine l_nil (q_draw (sL [2, 1, 0]) (d_one 8 (by kernel_rfl) R (lM (RR kT3 A4 D4 k1.Store.Steps :: _ :: _ :: _ :: W1) (fun w s => (s.d 6 R)) ?_)))
 refine lC 1 cb187 R (impl_cloneAccess_ok hx15) R ?_
 rintro ⟨A16, N16, D16⟩
 refine lN (ow kT3 3 (.slice A16 N16 D16) r14.Steps :: _ :: _ :: _ :: W1) ?_
 refine l_len 0 sees_ow ?_
 rintro rfl
 refine l_nil (q_draw (sL [3, 2, 1, 0]) (d_one 13 (by kernel_rfl) R (lM (RR kT216 A5 D5 k1.Code :: _ :: _ :: _ :: _ :: W1) (fun w s => (s.d 8 R)) ?_)))
 refine lC 1 cb188 R (slices_Clone_impl_Calc_impl_Calc_ok hx18) R ?_
 rintro ⟨A19, N19, D19⟩
 refine lN (ow kT216 216 (.slice A19 N19 D19) r17 :: _ :: _ :: _ :: _ :: W1) ?_
 refine l_len 0 sees_ow ?_
 rintro rfl
 refine l_nil (q_draw (sL [4, 3, 2, 1, 0]) (dR 14 R (vz (.agg [(sc A10 r8 D10), (sc A13 r11 D13), (iv r14.Buffer), (iv r14.Offset), (sc A16 r14.Steps D16), (.bool k1.Sum), (sc A19 r17 D19)].toArray) (v_build pl127 zc127 R R)) (hS := (sL [4, 3, 2, 1, 0])) (d_one 15 (by kernel_rfl) R (l_stores 4 R R sz127 R R R R R R (lN (_ :: _ :: _ :: _ :: bxl b7 [(sc A10 r8 D10), (sc A13 r11 D13), (iv r14.Buffer), (iv r14.Offset), (sc A16 r14.Steps D16), (.bool k1.Sum), (sc A19 r17 D19)] 127 :: W1) ?_)))))
 refine l_nil (q_draw (sL [4, 3, 2, 1, 0]) (d_done (by kernel_rfl) (q_next (c_ret ?_))))
 obtain rfl := so hr
 exact q_fin (vs := [(.agg [(sc A10 r8 D10), (sc A13 r11 D13), (iv r14.Buffer), (iv r14.Offset), (sc A16 r14.Steps D16), (.bool k1.Sum), (sc A19 r17 D19)].toArray)]) (.inl R) ((A10, r8.length, D10), (A13, r11.length, D13), (A16, r14.Steps.length, D16), (A19, r17.length, D19)) R ⟨⟨4, b7, _, _, R, R, .inl ⟨ag127, sz127, R⟩⟩, trivial⟩ R (fun w s => (s.e 10 [3, 2, 1, 0]))
theorem impl_mapped_impl_Kernel_impl_Kernel__impl_cloneKernel_ok {list1 : (List Kernel)} {r : (List Kernel)} (hr : impl_mapped_impl_Kernel_impl_Kernel__impl_cloneKernel list1 = some r) :
 FnOk Try.prog 133 [(.slice A2 N2 D2), (.func (.func 134) [].toArray [].toArray)] [rds kT127 (.slice A2 N2 D2) list1] (fun (h : HH) => ((.slice h.1 h.2.1 h.2.2), [ow kT127 127 (.slice h.1 h.2.1 h.2.2) r])) := by
 unfold impl_mapped_impl_Kernel_impl_Kernel__impl_cloneKernel at hr
 refine fn_ok Try.func133 R 26 R R fun C V => ?_
 refine cN (_ :: V) ?_
 refine cL 0 sees_rd ?_
 rintro rfl
 let W0 : List HP := RR kT127 A2 D2 list1 :: V
 refine cN W0 ?_
 refine c_seq (c_region (lS R (l_nil (q_next (c_seq ?_)))))
 obtain ⟨hg4, hr⟩ := gd hr
 refine c_region (lS R (lO (v_len sl56 R) (l_make (K := kT127) (m := (list1.length : Int)) (z := zT127.z) R R sl56 sz127 by127 (Zr.zk zT127 zc127) (by decide) R R hg4.1 hg4.2.1 hg4.2.2 (fun A5 D5 => (lS R (l_nil (q_next (c_seq (c_cut (A := ((List Kernel)) × (Unit)) (fun a => impl_mapped_impl_Kernel_impl_Kernel__impl_cloneKernel_J1 a.1 = some r) (fun a => [(5, (sc A5 (List.replicate (list1.length : Int).toNat zT127.z) D5))]) (fun a => ow kT127 127 (.slice A5 (List.replicate (list1.length : Int).toNat zT127.z).length D5) a.1 :: W0) ?_ ?_)))))))))
 refine c_seq (c_region (lS R (lO (v_len sl56 R) (lI R (l_nil (q_next (c_block ?_)))))))
 obtain ⟨e1, hl1, hk1⟩ := bd hr
 refine c_loop (A := Unit) hl1 (fun s a => [(1, (.func (.func 134) [].toArray [].toArray)), (5, (sc A5 (List.replicate (list1.length : Int).toNat zT127.z) D5)), (11, (sc A2 list1 D2)), (12, (il list1)), (13, (iv s.2))]) (fun s a => ow kT127 127 (.slice A5 (List.replicate (list1.length : Int).toNat zT127.z).length D5) s.1 :: W0) () (aS R) (fun w s => s) ?_
 rintro ⟨x26, x27⟩ _ σ1 out1 hr he1
 replace hr : impl_mapped_impl_Kernel_impl_Kernel__impl_cloneKernel_L1 list1 x26 x27 = some out1 := hr
 unfold impl_mapped_impl_Kernel_impl_Kernel__impl_cloneKernel_L1 at hr
 refine c_seq (c_region (lO (vLt R R) (l_nil (q_next (c_seq ?_)))))
 rcases bif_ hr with ⟨hb28, hr⟩ | ⟨hb28, hr⟩
 refine c_true R hb28 (c_skip (q_next (c_seq (c_block (c_seq ?_)))))
 obtain ⟨hg29, hr⟩ := gd hr
 refine c_region (lI R (t_some 1 sees_rd (show 0 < list1.length by have := hg29; omega) (fun g30 o31 ha => ?_)))
 subst ha
 refine lO (vIa sl56 sz127 R R hg29) (t_elem (K := kT127) 1 x27 dT127.dec R hg29.1 hg29.2 ?_)
 rintro ⟨⟨A32, D32⟩, ⟨A33, D33⟩, ⟨-, -, ⟨A34, D34⟩⟩, -, ⟨A35, D35⟩⟩
 refine lN (cl g30 (o31 + x27.toNat * 7) [(sc A32 ((ix list1 x27).Loops) D32), (sc A33 ((ix list1 x27).Loads) D33), (iv (ix list1 x27).Store.Buffer), (iv (ix list1 x27).Store.Offset), (sc A34 ((ix list1 x27).Store.Steps) D34), (.bool (ix list1 x27).Sum), (sc A35 ((ix list1 x27).Code) D35)] :: RR kT3 A32 D32 ((ix list1 x27).Loops) :: RR kT124 A33 D33 ((ix list1 x27).Loads) :: RR kT3 A34 D34 ((ix list1 x27).Store.Steps) :: RR kT216 A35 D35 ((ix list1 x27).Code) :: ow kT127 127 (.slice A5 (List.replicate (list1.length : Int).toNat zT127.z).length D5) x26 :: W0) ?_
 refine lO (vz (.agg [(sc A32 ((ix list1 x27).Loops) D32), (sc A33 ((ix list1 x27).Loads) D33), (iv (ix list1 x27).Store.Buffer), (iv (ix list1 x27).Store.Offset), (sc A34 ((ix list1 x27).Store.Steps) D34), (.bool (ix list1 x27).Sum), (sc A35 ((ix list1 x27).Code) D35)].toArray) (v_clfs (fo := 0) 0 ag127 sz127 R R R R)) (l_alloc R R zc127 (fun b36 => (lI R (l_stores 0 R R sz127 R R R R R R (lN (bxl b36 [(sc A32 ((ix list1 x27).Loops) D32), (sc A33 ((ix list1 x27).Loads) D33), (iv (ix list1 x27).Store.Buffer), (iv (ix list1 x27).Store.Offset), (sc A34 ((ix list1 x27).Store.Steps) D34), (.bool (ix list1 x27).Sum), (sc A35 ((ix list1 x27).Code) D35)] 127 :: _ :: _ :: _ :: _ :: _ :: _ :: W0) ?_)))))
 refine l_nil (q_next ?_)
 obtain ⟨r37, hx38, hr⟩ := bd hr
 obtain ⟨hg43, hr⟩ := gd hr
 refine c_region (lS R (lI R (lO (vp (.func (.func 134) [].toArray [].toArray) R) (lO (vz (.agg [(sc A32 ((ix list1 x27).Loops) D32), (sc A33 ((ix list1 x27).Loads) D33), (iv (ix list1 x27).Store.Buffer), (iv (ix list1 x27).Store.Offset), (sc A34 ((ix list1 x27).Store.Steps) D34), (.bool (ix list1 x27).Sum), (sc A35 ((ix list1 x27).Code) D35)].toArray) (v_loadw 0 ag127 sz127 R R R R)) (lM (rds _ _ _ :: rds _ _ _ :: rds _ _ _ :: rds _ _ _ :: bxl _ _ _ :: cl _ _ _ :: rds _ _ _ :: rds _ _ _ :: rds _ _ _ :: rds _ _ _ :: ow _ _ _ _ :: W0) (fun w s => (((((s.d 2 R).d 4 R).d 6 R).d 8 R).f 11 [3, 1, 2, 1, 1, 1, 0, 1, 4, 7])) ?_)))))
 refine l_callvn (fs := []) (cs := []) 4 R R cb134 R R (impl_cloneKernel_ok hx38) R ?_
 rintro ⟨⟨A39, N39, D39⟩, ⟨A40, N40, D40⟩, ⟨A41, N41, D41⟩, ⟨A42, N42, D42⟩⟩
 refine lN (ow kT3 3 (.slice A39 N39 D39) r37.Loops :: ow kT124 124 (.slice A40 N40 D40) r37.Loads :: ow kT3 3 (.slice A41 N41 D41) r37.Store.Steps :: ow kT216 216 (.slice A42 N42 D42) r37.Code :: _ :: _ :: _ :: _ :: _ :: _ :: _ :: W0) ?_
 refine l_len 0 sees_ow ?_
 rintro rfl
 refine l_len 1 sees_ow ?_
 rintro rfl
 refine l_len 2 sees_ow ?_
 rintro rfl
 refine l_len 3 sees_ow ?_
 rintro rfl
 refine t_some 10 sees_ow (show 0 < (List.replicate (list1.length : Int).toNat zT127.z).length by have := hg43; omega) (fun g44 o45 ha => ?_)
 subst ha
 refine lO (vIa sl56 sz127 R R hg43) (lM (ow kT127 127 (.slice (ad g44 o45) (List.replicate (list1.length : Int).toNat zT127.z).length D5) x26 :: ow _ _ _ _ :: ow _ _ _ _ :: ow _ _ _ _ :: ow _ _ _ _ :: bxl _ _ _ :: cl _ _ _ :: rds _ _ _ :: rds _ _ _ :: rds _ _ _ :: rds _ _ _ :: W0) (fun w s => (s.f 11 [10, 1, 0, 10])) ?_)
 refine l_stx (K := kT127) (x' := r37) 4 x27 R R sz127 R R hg43.1 hg43.2 ?_ ?_
 exact fun I h s => (mO127).put I h ((sc A39 r37.Loops D39), (sc A40 r37.Loads D40), ((), (), (sc A41 r37.Store.Steps D41)), (), (sc A42 r37.Code D42)) r37 s
 refine lN (ow kT127 127 (.slice (ad g44 o45) (List.replicate (list1.length : Int).toNat zT127.z).length D5) (x26.set x27.toNat r37) :: _ :: _ :: _ :: _ :: _ :: _ :: W0) ?_
 refine l_nil (q_blockn (q_next (c_region (lO (vAd R R) (lI R (l_nil ?_))))))
 obtain rfl := so hr
 exact qA () (fun w s => (s.e 7 [0]))
 refine c_false R hb28 (c_exit (q_exit ?_))
 obtain rfl := so hr
 obtain rfl := he1 _ R
 have hr := hk1
 refine q_exit (q_block ?_)
 exact qI (x26, ()) hr (fun w s => s)
 rintro ⟨x48, _⟩ σ1 hr
 replace hr : impl_mapped_impl_Kernel_impl_Kernel__impl_cloneKernel_J1 x48 = some r := hr
 unfold impl_mapped_impl_Kernel_impl_Kernel__impl_cloneKernel_J1 at hr
 refine c_seq (c_region (lS R (lS R (l_nil (q_next (c_ret ?_))))))
 obtain rfl := so hr
 exact qF (A5, (List.replicate (list1.length : Int).toNat zT127.z).length, D5) (fun w s => (s.e 2 [0]))
theorem impl_cloneNest_ok {l1 : Nest} {r : Nest} (hr : impl_cloneNest l1 = some r) :
 FnOk Try.prog 75 [(.agg [(.slice A2 N2 D2), (.slice A3 N3 D3), (.slice A4 N4 D4), (.slice A5 N5 D5), (.slice A6 N6 D6)].toArray)] [rds kT3 (.slice A2 N2 D2) l1.Sizes, rds kT3 (.slice A3 N3 D3) l1.Ins, rds kT159 (.slice A4 N4 D4) l1.Fixed, rds kT127 (.slice A5 N5 D5) l1.Kernels, rds kT3 (.slice A6 N6 D6) l1.Outs] (fun (h : HH × HH × HH × HH × HH) => ((.agg [(.slice h.1.1 h.1.2.1 h.1.2.2), (.slice h.2.1.1 h.2.1.2.1 h.2.1.2.2), (.slice h.2.2.1.1 h.2.2.1.2.1 h.2.2.1.2.2), (.slice h.2.2.2.1.1 h.2.2.2.1.2.1 h.2.2.2.1.2.2), (.slice h.2.2.2.2.1 h.2.2.2.2.2.1 h.2.2.2.2.2.2)].toArray), [ow kT3 3 (.slice h.1.1 h.1.2.1 h.1.2.2) r.Sizes, ow kT3 3 (.slice h.2.1.1 h.2.1.2.1 h.2.1.2.2) r.Ins, ow kT159 159 (.slice h.2.2.1.1 h.2.2.1.2.1 h.2.2.1.2.2) r.Fixed, ow kT127 127 (.slice h.2.2.2.1.1 h.2.2.2.1.2.1 h.2.2.2.1.2.2) r.Kernels, ow kT3 3 (.slice h.2.2.2.2.1 h.2.2.2.2.2.1 h.2.2.2.2.2.2) r.Outs])) := by
 unfold impl_cloneNest at hr
 refine fn_ok Try.func75 R 21 R R fun C V => ?_
 refine cN (_ :: _ :: _ :: _ :: _ :: V) ?_
 refine cL 0 sees_rd ?_
 rintro rfl
 refine cL 1 sees_rd ?_
 rintro rfl
 refine cL 2 sees_rd ?_
 rintro rfl
 refine cL 3 sees_rd ?_
 rintro rfl
 refine cL 4 sees_rd ?_
 rintro rfl
 let W0 : List HP := RR kT3 A2 D2 l1.Sizes :: RR kT3 A3 D3 l1.Ins :: RR kT159 A4 D4 l1.Fixed :: RR kT127 A5 D5 l1.Kernels :: RR kT3 A6 D6 l1.Outs :: V
 refine cN W0 ?_
 refine c_seq (c_region (lBx R (fun b7 => (l_alloc R R zc58 (fun b8 => (l_nil ?_))))))
 let W1 : List HP := bxl b7 [(sc A2 l1.Sizes D2), (sc A3 l1.Ins D3), (sc A4 l1.Fixed D4), (sc A5 l1.Kernels D5), (sc A6 l1.Outs D6)] 58 :: W0
 refine qN (_ :: W1) ?_
 refine q_next (c_seq ?_)
 obtain ⟨r9, hx10, hr⟩ := bd hr
 refine c_region (lO (vFa 2 fo58_2 R) (lO (vLd 1 ag55 R R R) (lM (RR kT159 A4 D4 l1.Fixed :: _ :: W1) (fun w s => (s.d 4 R)) ?_)))
 refine lC 1 cb131 R (impl_mapped_impl_Fix_impl_Fix__impl_cloneNest_1_ok hx10) R ?_
 rintro ⟨A11, N11, D11⟩
 refine lN (ow kT159 159 (.slice A11 N11 D11) r9 :: _ :: W1) ?_
 refine l_len 0 sees_ow ?_
 rintro rfl
 refine lS R (l_nil (q_next (c_seq ?_)))
 obtain ⟨r12, hx13, hr⟩ := bd hr
 obtain ⟨r15, hx16, hr⟩ := bd hr
 obtain ⟨r18, hx19, hr⟩ := bd hr
 obtain ⟨r21, hx22, hr⟩ := bd hr
 refine cdr 15 [1] mixo (fun ht hn => (dR 0 R (vFa 0 fo58_0 R) (hS := (sL [1])) (dR 1 R (vLd 1 ag29 R R R) (hS := (sL [1])) (dR 3 R (vFa 1 fo58_1 R) (hS := (sL [1])) (dR 4 R (vLd 1 ag29 R R R) (hS := (sL [1])) (dR 6 R (vS R) (hS := (sL [1])) (dR 7 R (vFa 3 fo58_3 R) (hS := (sL [1])) (dR 8 R (vLd 1 ag56 R R R) (hS := (sL [1])) (dR 10 R (vFa 4 fo58_4 R) (hS := (sL [1])) (dR 11 R (vLd 1 ag29 R R R) (hS := (sL [1])) (d_one 2 (by kernel_rfl) R (lM (RR kT3 A2 D2 l1.Sizes :: _ :: _ :: W1) (fun w s => (s.d 3 R)) ?_))))))))))))
 refine lC 1 cb51 R (slices_Clone_int_int_ok hx13) R ?_
 rintro ⟨A14, N14, D14⟩
 refine lN (ow kT3 3 (.slice A14 N14 D14) r12 :: _ :: _ :: W1) ?_
 refine l_len 0 sees_ow ?_
 rintro rfl
 refine l_nil (q_draw (sL [2, 0]) (d_one 5 (by kernel_rfl) R (lM (RR kT3 A3 D3 l1.Ins :: _ :: _ :: _ :: W1) (fun w s => (s.d 5 R)) ?_)))
 refine lC 1 cb51 R (slices_Clone_int_int_ok hx16) R ?_
 rintro ⟨A17, N17, D17⟩
 refine lN (ow kT3 3 (.slice A17 N17 D17) r15 :: _ :: _ :: _ :: W1) ?_
 refine l_len 0 sees_ow ?_
 rintro rfl
 refine l_nil (q_draw (sL [3, 1, 0]) (d_one 9 (by kernel_rfl) R (lM (RR kT127 A5 D5 l1.Kernels :: _ :: _ :: _ :: _ :: W1) (fun w s => (s.d 8 R)) ?_)))
 refine lC 1 cb133 R (impl_mapped_impl_Kernel_impl_Kernel__impl_cloneKernel_ok hx19) R ?_
 rintro ⟨A20, N20, D20⟩
 refine lN (ow kT127 127 (.slice A20 N20 D20) r18 :: _ :: _ :: _ :: _ :: W1) ?_
 refine l_len 0 sees_ow ?_
 rintro rfl
 refine l_nil (q_draw (sL [4, 2, 1, 0]) (d_one 12 (by kernel_rfl) R (lM (RR kT3 A6 D6 l1.Outs :: _ :: _ :: _ :: _ :: _ :: W1) (fun w s => (s.d 10 R)) ?_)))
 refine lC 1 cb51 R (slices_Clone_int_int_ok hx22) R ?_
 rintro ⟨A23, N23, D23⟩
 refine lN (ow kT3 3 (.slice A23 N23 D23) r21 :: _ :: _ :: _ :: _ :: _ :: W1) ?_
 refine l_len 0 sees_ow ?_
 rintro rfl
 refine l_nil (q_draw (sL [5, 3, 2, 1, 0]) (dR 13 R (vz (.agg [(sc A14 r12 D14), (sc A17 r15 D17), (sc A11 r9 D11), (sc A20 r18 D20), (sc A23 r21 D23)].toArray) (v_build pl58 zc58 R R)) (hS := (sL [5, 3, 2, 1, 0])) (d_one 14 (by kernel_rfl) R (l_stores 5 R R sz58 R R R R R R (lN (_ :: _ :: _ :: _ :: _ :: bxl b8 [(sc A14 r12 D14), (sc A17 r15 D17), (sc A11 r9 D11), (sc A20 r18 D20), (sc A23 r21 D23)] 58 :: W1) ?_)))))
 refine l_nil (q_draw (sL [5, 3, 2, 1, 0]) (d_done (by kernel_rfl) (q_next (c_ret ?_))))
 obtain rfl := so hr
 exact q_fin (vs := [(.agg [(sc A14 r12 D14), (sc A17 r15 D17), (sc A11 r9 D11), (sc A20 r18 D20), (sc A23 r21 D23)].toArray)]) (.inl R) ((A14, r12.length, D14), (A17, r15.length, D17), (A11, r9.length, D11), (A20, r18.length, D20), (A23, r21.length, D23)) R ⟨⟨5, b8, _, _, R, R, .inl ⟨ag58, sz58, R⟩⟩, trivial⟩ R (fun w s => (s.e 12 [3, 2, 4, 1, 0]))
theorem impl_steps_ok {dims1 : (List Int)} {r : (List Int)} (hr : impl_steps dims1 = some r) :
 FnOk Try.prog 190 [(.slice A2 N2 D2)] [rds kT3 (.slice A2 N2 D2) dims1] (fun (h : HH) => ((.slice h.1 h.2.1 h.2.2), [ow kT3 3 (.slice h.1 h.2.1 h.2.2) r])) := by
 unfold impl_steps at hr
 refine fn_ok Try.func190 R 32 R R fun C V => ?_
 refine cN (_ :: V) ?_
 refine cL 0 sees_rd ?_
 rintro rfl
 let W0 : List HP := RR kT3 A2 D2 dims1 :: V
 refine cN W0 ?_
 refine c_seq (c_region (lS R (l_nil (q_next (c_seq ?_)))))
 obtain ⟨hg3, hr⟩ := gd hr
 refine c_region (lS R (lO (v_len sl29 R) (l_make (K := kT3) (m := (dims1.length : Int)) (z := (0 : Int)) R R sl29 sz3 by3 (Zr.zk zT3 zc3) (by decide) R R hg3.1 hg3.2.1 hg3.2.2 (fun A4 D4 => (lS R (l_nil (q_next (c_seq (c_region (lI R (l_nil (q_next (c_seq (c_cut (A := ((List Int)) × (Unit)) (fun a => impl_steps_J3 a.1 = some r) (fun a => [(3, (sc A4 (List.replicate (dims1.length : Int).toNat (0 : Int)) D4))]) (fun a => ow kT3 3 (.slice A4 (List.replicate (dims1.length : Int).toNat (0 : Int)).length D4) a.1 :: W0) ?_ ?_))))))))))))))
 refine c_seq (c_region (lS R (lO (v_len sl29 R) (lO (vSb R R) (lI R (l_nil (q_next (c_block ?_))))))))
 obtain ⟨e1, hl1, hk1⟩ := bd hr
 refine c_loop (A := Unit) hl1 (fun s a => [(0, (sc A2 dims1 D2)), (3, (sc A4 (List.replicate (dims1.length : Int).toNat (0 : Int)) D4)), (4, (iv s.2.1)), (5, (iv s.2.2))]) (fun s a => ow kT3 3 (.slice A4 (List.replicate (dims1.length : Int).toNat (0 : Int)).length D4) s.1 :: W0) () (aS R) (fun w s => s) ?_
 rintro ⟨x19, n20, i21⟩ _ σ1 out1 hr he1
 replace hr : impl_steps_L1 dims1 x19 n20 i21 = some out1 := hr
 unfold impl_steps_L1 at hr
 refine c_seq (c_seq (c_region (lI R (lO (vGe R R) (l_nil (q_next ?_))))))
 rcases bif_ hr with ⟨hb22, hr⟩ | ⟨hb22, hr⟩
 refine c_true R hb22 (c_skip (q_next (c_seq (c_block (c_seq (c_cut (A := ((List Int)) × (Unit)) (fun a => impl_steps_J2 dims1 n20 i21 a.1 = some out1) (fun a => [(0, (sc A2 dims1 D2)), (3, (sc A4 (List.replicate (dims1.length : Int).toNat (0 : Int)) D4)), (4, (iv n20)), (5, (iv i21))]) (fun a => ow kT3 3 (.slice A4 (List.replicate (dims1.length : Int).toNat (0 : Int)).length D4) a.1 :: W0) ?_ ?_))))))
 refine c_seq ?_
 obtain ⟨hg23, hr⟩ := gd hr
 refine c_region (lS R (lI R (t_some 1 sees_rd (show 0 < dims1.length by have := hg23; omega) (fun g24 o25 ha => ?_))))
 subst ha
 refine lO (vIa sl29 sz3 R R hg23) (lO (vLi 1 ag3 sees_rd R hg23) (lO (vGt R R) (l_nil (q_next ?_))))
 rcases bif_ hr with ⟨hb26, hr⟩ | ⟨hb26, hr⟩
 refine c_true R hb26 ?_
 obtain ⟨hg27, hr⟩ := gd hr
 refine c_region (lS R (lI R (lI R (t_some 0 sees_ow (show 0 < (List.replicate (dims1.length : Int).toNat (0 : Int)).length by have := hg27; omega) (fun g28 o29 ha => ?_)))))
 subst ha
 refine lO (vIa sl29 sz3 R R hg27) (lN (ow kT3 3 (.slice (ad g28 o29) (List.replicate (dims1.length : Int).toNat (0 : Int)).length D4) x19 :: W0) ?_)
 refine l_stx (K := kT3) (x' := n20) 0 i21 R R sz3 R R hg27.1 hg27.2 ?_ ?_
 exact fun I h s => (mO3).put I h () n20 s
 refine lN (ow kT3 3 (.slice (ad g28 o29) (List.replicate (dims1.length : Int).toNat (0 : Int)).length D4) (x19.set i21.toNat n20) :: W0) ?_
 refine l_nil ?_
 exact qI ((x19.set i21.toNat n20), ()) hr (fun w s => s)
 refine c_false R hb26 (c_skip ?_)
 exact qI (x19, ()) hr (fun w s => s)
 rintro ⟨x30, _⟩ σ1 hr
 replace hr : impl_steps_J2 dims1 n20 i21 x30 = some out1 := hr
 unfold impl_steps_J2 at hr
 obtain ⟨hg31, hr⟩ := gd hr
 refine c_region (lI R (lS R (lI R (t_some 1 sees_rd (show 0 < dims1.length by have := hg31; omega) (fun g32 o33 ha => ?_)))))
 subst ha
 refine lO (vIa sl29 sz3 R R hg31) (lO (vLi 1 ag3 sees_rd R hg31) (lO (vMu R R) (lI R (l_nil (q_blockn (q_next (c_region (lI R (lO (vSb R R) (lI R (l_nil ?_)))))))))))
 obtain rfl := so hr
 exact qA () (fun w s => s)
 refine c_false R hb22 (c_exit (q_exit ?_))
 obtain rfl := so hr
 obtain rfl := he1 _ R
 have hr := hk1
 refine q_exit (q_block ?_)
 exact qI (x19, ()) hr (fun w s => s)
 rintro ⟨x37, _⟩ σ1 hr
 replace hr : impl_steps_J3 x37 = some r := hr
 unfold impl_steps_J3 at hr
 refine c_seq (c_region (lS R (lS R (l_nil (q_next (c_ret ?_))))))
 obtain rfl := so hr
 exact qF (A4, (List.replicate (dims1.length : Int).toNat (0 : Int)).length, D4) (fun w s => (s.e 2 [0]))
theorem slices_Equal_int_int_ok {s11 : (List Int)} {s23 : (List Int)} {r : Bool} (hr : slices_Equal_int_int s11 s23 = some r) :
 FnOk Try.prog 189 [(.slice A2 N2 D2), (.slice A4 N4 D4)] [rds kT3 (.slice A2 N2 D2) s11, rds kT3 (.slice A4 N4 D4) s23] (fun (h : Unit) => ((.bool r), [])) := by
 unfold slices_Equal_int_int at hr
 refine fn_ok Try.func189 R 26 R R fun C V => ?_
 refine cN (_ :: _ :: V) ?_
 refine cL 0 sees_rd ?_
 rintro rfl
 refine cL 1 sees_rd ?_
 rintro rfl
 let W0 : List HP := RR kT3 A2 D2 s11 :: RR kT3 A4 D4 s23 :: V
 refine cN W0 ?_
 refine c_seq (c_region (lB R (l_nil (q_next (c_seq (c_seq (c_region (lS R (lO (v_len sl29 R) (lS R (lO (v_len sl29 R) (lO (vNe R R) (l_nil (q_next ?_))))))))))))))
 rcases bif_ hr with ⟨hb5, hr⟩ | ⟨hb5, hr⟩
 refine c_true R hb5 (c_seq (c_region (lB R (l_nil (q_next (c_ret (q_ret ?_)))))))
 obtain rfl := so hr
 exact qF () (fun w s => (s.e 2 []))
 refine c_false R hb5 (c_skip (q_next (c_seq (c_cut (A := (Unit) × (Unit)) (fun a => slices_Equal_int_int_J1 = some r) (fun a => []) (fun a => W0) ?_ ?_))))
 refine c_seq (c_region (lS R (lO (v_len sl29 R) (lI R (l_nil (q_next (c_block ?_)))))))
 obtain ⟨e1, hl1, hk1⟩ := bd hr
 refine c_loop (A := Unit) hl1 (fun s a => [(0, (sc A2 s11 D2)), (1, (sc A4 s23 D4)), (12, (il s11)), (13, (iv s))]) (fun s a => W0) () (aS R) (fun w s => s) ?_
 rintro x14 _ σ1 out1 hr he1
 replace hr : slices_Equal_int_int_L1 s11 s23 x14 = some out1 := hr
 unfold slices_Equal_int_int_L1 at hr
 refine c_seq (c_region (lO (vLt R R) (l_nil (q_next (c_seq ?_)))))
 rcases bif_ hr with ⟨hb15, hr⟩ | ⟨hb15, hr⟩
 refine c_true R hb15 (c_skip (q_next (c_seq (c_block (c_seq (c_region (lI R (lI R (l_nil (q_next (c_seq ?_)))))))))))
 obtain ⟨hg16, hr⟩ := gd hr
 obtain ⟨hg19, hr⟩ := gd hr
 refine c_some 0 sees_rd (show 0 < s11.length by have := hg16; omega) (fun g17 o18 ha => ?_)
 subst ha
 refine c_some 1 sees_rd (show 0 < s23.length by have := hg19; omega) (fun g20 o21 ha => ?_)
 subst ha
 refine cdr 9 [] mixo (fun ht hn => (dR 0 R (vS R) (dR 1 R (vI R) (dR 2 R (vIa sl29 sz3 R R hg16) (dR 3 R (vLi 0 ag3 sees_rd R hg16) (dR 4 R (vS R) (dR 5 R (vI R) (dR 6 R (vIa sl29 sz3 R R hg19) (dR 7 R (vLi 1 ag3 sees_rd R hg19) (dR 8 R (vNe R R) (d_done (by kernel_rfl) (q_next ?_))))))))))))
 rcases bif_ hr with ⟨hb22, hr⟩ | ⟨hb22, hr⟩
 refine c_true R hb22 (c_seq (c_region (lB R (l_nil (q_next (c_ret (q_blockr (q_ret ?_))))))))
 obtain rfl := so hr
 obtain rfl := he1 _ R
 have hr := hk1
 refine q_ret (q_blockr (q_ret ?_))
 obtain rfl := so hr
 exact qF () (fun w s => (s.e 2 []))
 refine c_false R hb22 (c_skip (q_blockn (q_next (c_region (lO (vAd R R) (lI R (l_nil ?_)))))))
 obtain rfl := so hr
 exact qA () (fun w s => s)
 refine c_false R hb15 (c_exit (q_exit ?_))
 obtain rfl := so hr
 obtain rfl := he1 _ R
 have hr := hk1
 refine q_exit (q_block ?_)
 exact q_join ((), ()) hr trivial (fun w s => s)
 rintro ⟨_, _⟩ σ1 hr
 replace hr : slices_Equal_int_int_J1 = some r := hr
 unfold slices_Equal_int_int_J1 at hr
 refine c_seq (c_region (lB R (l_nil (q_next (c_ret ?_)))))
 obtain rfl := so hr
 exact qF () (fun w s => (s.e 2 []))
theorem slices_Index_int_int_ok {p1 : (List Int)} {v3 : Int} {r : Int} (hr : slices_Index_int_int p1 v3 = some r) :
 FnOk Try.prog 212 [(.slice A2 N2 D2), (iv v3)] [rds kT3 (.slice A2 N2 D2) p1] (fun (h : Unit) => ((iv r), [])) := by
 unfold slices_Index_int_int at hr
 refine fn_ok Try.func212 R 19 R R fun C V => ?_
 refine cN (_ :: V) ?_
 refine cL 0 sees_rd ?_
 rintro rfl
 let W0 : List HP := RR kT3 A2 D2 p1 :: V
 refine cN W0 ?_
 refine c_seq (c_region (lI R (l_nil (q_next (c_seq (c_cut (A := (Unit) × (Unit)) (fun a => slices_Index_int_int_J1 = some r) (fun a => []) (fun a => W0) ?_ ?_))))))
 refine c_seq (c_region (lS R (lO (v_len sl29 R) (lI R (l_nil (q_next (c_block ?_)))))))
 obtain ⟨e1, hl1, hk1⟩ := bd hr
 refine c_loop (A := Unit) hl1 (fun s a => [(0, (sc A2 p1 D2)), (1, (iv v3)), (7, (il p1)), (8, (iv s))]) (fun s a => W0) () (aS R) (fun w s => s) ?_
 rintro x9 _ σ1 out1 hr he1
 replace hr : slices_Index_int_int_L1 p1 v3 x9 = some out1 := hr
 unfold slices_Index_int_int_L1 at hr
 refine c_seq (c_region (lO (vLt R R) (l_nil (q_next (c_seq ?_)))))
 rcases bif_ hr with ⟨hb10, hr⟩ | ⟨hb10, hr⟩
 refine c_true R hb10 (c_skip (q_next (c_seq (c_block (c_seq (c_region (lI R (lI R (l_nil (q_next (c_seq ?_)))))))))))
 obtain ⟨hg11, hr⟩ := gd hr
 refine c_region (lI R (lS R (lI R (t_some 0 sees_rd (show 0 < p1.length by have := hg11; omega) (fun g12 o13 ha => ?_)))))
 subst ha
 refine lO (vIa sl29 sz3 R R hg11) (lO (vLi 0 ag3 sees_rd R hg11) (lO (vEq R R) (l_nil (q_next ?_))))
 rcases bif_ hr with ⟨hb14, hr⟩ | ⟨hb14, hr⟩
 refine c_true R hb14 (c_seq (c_region (lI R (lI R (l_nil (q_next (c_ret (q_blockr (q_ret ?_)))))))))
 obtain rfl := so hr
 obtain rfl := he1 _ R
 have hr := hk1
 refine q_ret (q_blockr (q_ret ?_))
 obtain rfl := so hr
 exact qF () (fun w s => (s.e 1 []))
 refine c_false R hb14 (c_skip (q_blockn (q_next (c_region (lO (vAd R R) (lI R (l_nil ?_)))))))
 obtain rfl := so hr
 exact qA () (fun w s => s)
 refine c_false R hb10 (c_exit (q_exit ?_))
 obtain rfl := so hr
 obtain rfl := he1 _ R
 have hr := hk1
 refine q_exit (q_block ?_)
 exact q_join ((), ()) hr trivial (fun w s => s)
 rintro ⟨_, _⟩ σ1 hr
 replace hr : slices_Index_int_int_J1 = some r := hr
 unfold slices_Index_int_int_J1 at hr
 refine c_seq (c_region (lI R (l_nil (q_next (c_ret ?_)))))
 obtain rfl := so hr
 exact qF () (fun w s => (s.e 1 []))
theorem slices_Contains_int_int_ok {p1 : (List Int)} {v3 : Int} {r : Bool} (hr : slices_Contains_int_int p1 v3 = some r) :
 FnOk Try.prog 191 [(.slice A2 N2 D2), (iv v3)] [rds kT3 (.slice A2 N2 D2) p1] (fun (h : Unit) => ((.bool r), [])) := by
 unfold slices_Contains_int_int at hr
 refine fn_ok Try.func191 R 9 R R fun C V => ?_
 refine cN (_ :: V) ?_
 refine cL 0 sees_rd ?_
 rintro rfl
 let W0 : List HP := RR kT3 A2 D2 p1 :: V
 refine cN W0 ?_
 refine c_seq (c_region (lB R (l_nil (q_next (c_seq ?_)))))
 obtain ⟨r4, hx5, hr⟩ := bd hr
 refine c_region (lS R (lI R (lM (RR kT3 A2 D2 p1 :: W0) (fun w s => (s.d 0 R)) ?_)))
 refine lC 1 cb212 R (slices_Index_int_int_ok hx5) R ?_
 rintro _
 refine lN W0 ?_
 refine lO (vGe R R) (lB R (l_nil (q_next (c_ret ?_))))
 obtain rfl := so hr
 exact qF () (fun w s => (s.e 1 []))
theorem impl_truth_ok {b1 : Bool} {r : Int} (hr : impl_truth b1 = some r) :
 FnOk Try.prog 213 [(.bool b1)] [] (fun (h : Unit) => ((iv r), [])) := by
 unfold impl_truth at hr
 refine fn_ok Try.func213 R 4 R R fun C V => ?_
 refine cN V ?_
 refine c_seq (c_region (lI R (l_nil (q_next (c_seq (c_seq (c_region (lB R (l_nil (q_next ?_))))))))))
 rcases bif_ hr with ⟨hb2, hr⟩ | ⟨hb2, hr⟩
 refine c_true R hb2 (c_seq (c_region (lI R (l_nil (q_next (c_ret (q_ret ?_)))))))
 obtain rfl := so hr
 exact qF () (fun w s => s)
 refine c_false R hb2 (c_skip (q_next (c_seq (c_region (lI R (l_nil (q_next (c_ret ?_))))))))
 obtain rfl := so hr
 exact qF () (fun w s => s)
theorem impl_Kernel_loadsOf_ok {k1 : Kernel} {b6 : Int} {r : Int} (hr : impl_Kernel_loadsOf k1 b6 = some r) :
 FnOk Try.prog 192 [(.agg [(.slice A2 N2 D2), (.slice A3 N3 D3), (iv k1.Store.Buffer), (iv k1.Store.Offset), (.slice A4 N4 D4), (.bool k1.Sum), (.slice A5 N5 D5)].toArray), (iv b6)] [rds kT3 (.slice A2 N2 D2) k1.Loops, rds kT124 (.slice A3 N3 D3) k1.Loads, rds kT3 (.slice A4 N4 D4) k1.Store.Steps, rds kT216 (.slice A5 N5 D5) k1.Code] (fun (h : Unit) => ((iv r), [])) := by
 unfold impl_Kernel_loadsOf at hr
 refine fn_ok Try.func192 R 24 R R fun C V => ?_
 refine cN (_ :: _ :: _ :: _ :: V) ?_
 refine cL 0 sees_rd ?_
 rintro rfl
 refine cL 1 sees_rd ?_
 rintro rfl
 refine cL 2 sees_rd ?_
 rintro rfl
 refine cL 3 sees_rd ?_
 rintro rfl
 let W0 : List HP := RR kT3 A2 D2 k1.Loops :: RR kT124 A3 D3 k1.Loads :: RR kT3 A4 D4 k1.Store.Steps :: RR kT216 A5 D5 k1.Code :: V
 refine cN W0 ?_
 refine c_seq (c_region (lBx R (fun b7 => (lI R (l_nil ?_)))))
 let W1 : List HP := bxl b7 [(sc A2 k1.Loops D2), (sc A3 k1.Loads D3), (iv k1.Store.Buffer), (iv k1.Store.Offset), (sc A4 k1.Store.Steps D4), (.bool k1.Sum), (sc A5 k1.Code D5)] 127 :: W0
 refine qN W1 ?_
 refine q_next (c_seq (c_region (lI R (l_nil (q_next (c_seq (c_cut (A := (Int) × (Unit)) (fun a => impl_Kernel_loadsOf_J1 a.1 = some r) (fun a => [(5, (iv a.1))]) (fun a => W1) ?_ ?_)))))))
 refine c_seq (c_region (lO (vFa 1 fo127_1 R) (lO (vLd 0 ag122 R R R) (lO (v_len sl122 R) (lI R (l_nil (q_next (c_block ?_))))))))
 obtain ⟨e1, hl1, hk1⟩ := bd hr
 refine c_loop (A := Unit) hl1 (fun s a => [(1, (iv b6)), (5, (iv s.1)), (9, (sc A3 k1.Loads D3)), (10, (il k1.Loads)), (11, (iv s.2))]) (fun s a => W1) () (aS R) (fun w s => s) ?_
 rintro ⟨n16, x17⟩ _ σ1 out1 hr he1
 replace hr : impl_Kernel_loadsOf_L1 k1 b6 n16 x17 = some out1 := hr
 unfold impl_Kernel_loadsOf_L1 at hr
 refine c_seq (c_region (lO (vLt R R) (l_nil (q_next (c_seq ?_)))))
 rcases bif_ hr with ⟨hb18, hr⟩ | ⟨hb18, hr⟩
 refine c_true R hb18 (c_skip (q_next (c_seq (c_block (c_seq ?_)))))
 obtain ⟨hg19, hr⟩ := gd hr
 refine c_region (t_some 2 sees_rd (show 0 < k1.Loads.length by have := hg19; omega) (fun g20 o21 ha => ?_))
 subst ha
 refine lO (vIa sl122 sz124 R R hg19) (t_elem (K := kT124) 2 x17 dT124.dec R hg19.1 hg19.2 ?_)
 rintro ⟨-, -, ⟨A22, D22⟩⟩
 refine lN (cl g20 (o21 + x17.toNat * 3) [(iv (ix k1.Loads x17).Buffer), (iv (ix k1.Loads x17).Offset), (sc A22 ((ix k1.Loads x17).Steps) D22)] :: RR kT3 A22 D22 ((ix k1.Loads x17).Steps) :: W1) ?_
 refine lO (vz (.agg [(iv (ix k1.Loads x17).Buffer), (iv (ix k1.Loads x17).Offset), (sc A22 ((ix k1.Loads x17).Steps) D22)].toArray) (v_clfs (fo := 0) 0 ag124 sz124 R R R R)) (l_alloc R R zc124 (fun b23 => (l_stores 0 R R sz124 R R R R R R (lN (bxl b23 [(iv (ix k1.Loads x17).Buffer), (iv (ix k1.Loads x17).Offset), (sc A22 ((ix k1.Loads x17).Steps) D22)] 124 :: _ :: _ :: W1) ?_))))
 refine l_nil (q_next ?_)
 obtain ⟨r24, hx25, hr⟩ := bd hr
 refine c_region (lI R (lO (vFa 0 fo124_0 R) (lO (vLd 0 ag3 R R R) (lI R (lO (vEq R R) (lC 0 cb213 R (impl_truth_ok hx25) R ?_))))))
 rintro _
 refine lO (vAd R R) (lI R (l_nil (q_blockn (q_next (c_region (lO (vAd R R) (lI R (l_nil ?_))))))))
 obtain rfl := so hr
 exact qA () (fun w s => (s.e 3 []))
 refine c_false R hb18 (c_exit (q_exit ?_))
 obtain rfl := so hr
 obtain rfl := he1 _ R
 have hr := hk1
 refine q_exit (q_block ?_)
 exact qI (n16, ()) hr (fun w s => s)
 rintro ⟨n28, _⟩ σ1 hr
 replace hr : impl_Kernel_loadsOf_J1 n28 = some r := hr
 unfold impl_Kernel_loadsOf_J1 at hr
 refine c_seq (c_region (lI R (lI R (l_nil (q_next (c_ret ?_))))))
 obtain rfl := so hr
 exact qF () (fun w s => (s.e 5 []))
theorem impl_Nest_taker_ok {l1 : Nest} {p7 : Int} {r : Int} (hr : impl_Nest_taker l1 p7 = some r) :
 FnOk Try.prog 135 [(.agg [(.slice A2 N2 D2), (.slice A3 N3 D3), (.slice A4 N4 D4), (.slice A5 N5 D5), (.slice A6 N6 D6)].toArray), (iv p7)] [rds kT3 (.slice A2 N2 D2) l1.Sizes, rds kT3 (.slice A3 N3 D3) l1.Ins, rds kT159 (.slice A4 N4 D4) l1.Fixed, rds kT127 (.slice A5 N5 D5) l1.Kernels, rds kT3 (.slice A6 N6 D6) l1.Outs] (fun (h : Unit) => ((iv r), [])) := by
 unfold impl_Nest_taker at hr
 refine fn_ok Try.func135 R 104 R R fun C V => ?_
 refine cN (_ :: _ :: _ :: _ :: _ :: V) ?_
 refine cL 0 sees_rd ?_
 rintro rfl
 refine cL 1 sees_rd ?_
 rintro rfl
 refine cL 2 sees_rd ?_
 rintro rfl
 refine cL 3 sees_rd ?_
 rintro rfl
 refine cL 4 sees_rd ?_
 rintro rfl
 let W0 : List HP := RR kT3 A2 D2 l1.Sizes :: RR kT3 A3 D3 l1.Ins :: RR kT159 A4 D4 l1.Fixed :: RR kT127 A5 D5 l1.Kernels :: RR kT3 A6 D6 l1.Outs :: V
 refine cN W0 ?_
 refine c_seq (c_region (lBx R (fun b8 => (lI R (l_nil ?_)))))
 let W1 : List HP := bxl b8 [(sc A2 l1.Sizes D2), (sc A3 l1.Ins D3), (sc A4 l1.Fixed D4), (sc A5 l1.Kernels D5), (sc A6 l1.Outs D6)] 58 :: W0
 refine qN W1 ?_
 refine q_next (c_seq ?_)
 obtain ⟨hg9, hr⟩ := gd hr
 refine c_region (lO (vFa 3 fo58_3 R) (lO (vLd 0 ag56 R R R) (lI R (t_some 4 sees_rd (show 0 < l1.Kernels.length by have := hg9; omega) (fun g10 o11 ha => ?_)))))
 subst ha
 refine lO (vIa sl56 sz127 R R hg9) (t_elem (K := kT127) 4 p7 dT127.dec R hg9.1 hg9.2 ?_)
 rintro ⟨⟨A12, D12⟩, ⟨A13, D13⟩, ⟨-, -, ⟨A14, D14⟩⟩, -, ⟨A15, D15⟩⟩
 refine lN (cl g10 (o11 + p7.toNat * 7) [(sc A12 ((ix l1.Kernels p7).Loops) D12), (sc A13 ((ix l1.Kernels p7).Loads) D13), (iv (ix l1.Kernels p7).Store.Buffer), (iv (ix l1.Kernels p7).Store.Offset), (sc A14 ((ix l1.Kernels p7).Store.Steps) D14), (.bool (ix l1.Kernels p7).Sum), (sc A15 ((ix l1.Kernels p7).Code) D15)] :: RR kT3 A12 D12 ((ix l1.Kernels p7).Loops) :: RR kT124 A13 D13 ((ix l1.Kernels p7).Loads) :: RR kT3 A14 D14 ((ix l1.Kernels p7).Store.Steps) :: RR kT216 A15 D15 ((ix l1.Kernels p7).Code) :: W1) ?_
 refine lO (vz (.agg [(sc A12 ((ix l1.Kernels p7).Loops) D12), (sc A13 ((ix l1.Kernels p7).Loads) D13), (iv (ix l1.Kernels p7).Store.Buffer), (iv (ix l1.Kernels p7).Store.Offset), (sc A14 ((ix l1.Kernels p7).Store.Steps) D14), (.bool (ix l1.Kernels p7).Sum), (sc A15 ((ix l1.Kernels p7).Code) D15)].toArray) (v_clfs (fo := 0) 0 ag127 sz127 R R R R)) (l_alloc R R zc127 (fun b16 => (l_stores 0 R R sz127 R R R R R R (lN (bxl b16 [(sc A12 ((ix l1.Kernels p7).Loops) D12), (sc A13 ((ix l1.Kernels p7).Loads) D13), (iv (ix l1.Kernels p7).Store.Buffer), (iv (ix l1.Kernels p7).Store.Offset), (sc A14 ((ix l1.Kernels p7).Store.Steps) D14), (.bool (ix l1.Kernels p7).Sum), (sc A15 ((ix l1.Kernels p7).Code) D15)] 127 :: _ :: _ :: _ :: _ :: _ :: W1) ?_))))
 refine l_nil (q_next (c_seq (c_region (lO (vFa 2 fo127_2 R) (lO (vFa 2 fo124_0 R) (lO (vLd 0 ag3 R R R) (lI R (l_nil (q_next (c_seq ?_))))))))))
 obtain ⟨r17, hx18, hr⟩ := bd hr
 refine c_region (lO (vFa 0 fo127_0 R) (lO (vLd 0 ag29 R R R) (lM (_ :: _ :: _ :: _ :: _ :: _ :: _ :: W1) (fun w s => (s.d 2 R)) ?_)))
 refine lC 1 cb182 R (impl_work_ok hx18) R ?_
 rintro _
 refine lN (_ :: _ :: _ :: _ :: _ :: _ :: W1) ?_
 refine lO (vT R) (lI R (lB R (lI R (lB R (l_nil (q_next (c_seq (c_seq ?_))))))))
 obtain ⟨r19, hx20, hr⟩ := bd hr
 obtain ⟨r22, hx23, hr⟩ := bd hr
 obtain ⟨hg24, hr⟩ := gd hr
 obtain ⟨r27, hx28, hr⟩ := bd hr
 refine cQ [(1, (iv p7)), (2, (pt b8 0)), (5, (pt b16 0)), (6, (iv (ix l1.Kernels p7).Store.Buffer)), (58, (.bool (((((ix l1.Kernels p7).Sum || ((ix l1.Kernels p7).Store.Offset != (0 : Int))) || (!r22)) || (r17.1 != (ix l1.Sizes (ix l1.Kernels p7).Store.Buffer))) || r27)))] (bxl b16 [(sc A12 ((ix l1.Kernels p7).Loops) D12), (sc A13 ((ix l1.Kernels p7).Loads) D13), (iv (ix l1.Kernels p7).Store.Buffer), (iv (ix l1.Kernels p7).Store.Offset), (sc A14 ((ix l1.Kernels p7).Store.Steps) D14), (.bool (ix l1.Kernels p7).Sum), (sc A15 ((ix l1.Kernels p7).Code) D15)] 127 :: RR kT3 A12 D12 ((ix l1.Kernels p7).Loops) :: RR kT124 A13 D13 ((ix l1.Kernels p7).Loads) :: RR kT3 A14 D14 ((ix l1.Kernels p7).Store.Steps) :: RR kT216 A15 D15 ((ix l1.Kernels p7).Code) :: W1) ?_ ?_
 rcases bo ((ix l1.Kernels p7).Sum) with hc29 | hc29
 refine cdr 33 [] mixo (fun ht hn => (dR 0 R (vFa 5 fo127_3 R) (dR 1 R (vLd 0 ag4 R R R) (dR 2 R (vB R) (dF 3 R (wfT hc29) (dF 4 R (wfT hc29) (dF 5 R (wfT hc29) (dF 6 R (wfT hc29) (dR 7 R (pOT ((ix l1.Kernels p7).Store.Offset != (0 : Int)) R hc29) (dR 8 R (vB R) (dF 9 R (wfT (oT hc29)) (dF 10 R (wfT (oT hc29)) (dF 11 R (wfT (oT hc29)) (dF 12 R (wfT (oT hc29)) (dF 13 R (wfT (oT hc29)) (dF 14 R (wfT (oT hc29)) (dF 15 R (wfT (oT hc29)) (dF 16 R (wfT (oT hc29)) (dR 17 R (pOT (!r22) R (oT hc29)) (dR 18 R (vB R) (dF 19 R (wfT (oT (oT hc29))) (dF 20 R (wfT (oT (oT hc29))) (dF 21 R (wfT (oT (oT hc29))) (dF 22 R (wfT (oT (oT hc29))) (dF 23 R (wfT (oT (oT hc29))) (dF 24 R (wfT (oT (oT hc29))) (dF 25 R (wfT (oT (oT hc29))) (dR 26 R (pOT (r17.1 != (ix l1.Sizes (ix l1.Kernels p7).Store.Buffer)) R (oT (oT hc29))) (dR 27 R (vB R) (dF 28 R (wfT (oT (oT (oT hc29)))) (dF 29 R (wfT (oT (oT (oT hc29)))) (dF 30 R (wfT (oT (oT (oT hc29)))) (dF 31 R (wfT (oT (oT (oT hc29)))) (dR 32 R (pOT r27 R (oT (oT (oT hc29)))) (d_done (by kernel_rfl) ?_)))))))))))))))))))))))))))))))))))
 exact qJ (fun w s => (s.f 6 [0, 1, 2, 4]))
 rcases bo ((ix l1.Kernels p7).Sum || ((ix l1.Kernels p7).Store.Offset != (0 : Int))) with hc30 | hc30
 refine cdr 33 [] mixo (fun ht hn => (dR 0 R (vFa 5 fo127_3 R) (dR 1 R (vLd 0 ag4 R R R) (dR 2 R (vB R) (dW 3 R (wnF hc29) (vFa 2 fo127_2 R) (dW 4 R (wnF hc29) (vFa 3 fo124_1 R) (dW 5 R (wnF hc29) (vLd 0 ag3 R R R) (dW 6 R (wnF hc29) (vNe R R) (dR 7 R (pOF R hc29 R) (dR 8 R (vB R) (dF 9 R (wfT hc30) (dF 10 R (wfT hc30) (dF 11 R (wfT hc30) (dF 12 R (wfT hc30) (dF 13 R (wfT hc30) (dF 14 R (wfT hc30) (dF 15 R (wfT hc30) (dF 16 R (wfT hc30) (dR 17 R (pOT (!r22) R hc30) (dR 18 R (vB R) (dF 19 R (wfT (oT hc30)) (dF 20 R (wfT (oT hc30)) (dF 21 R (wfT (oT hc30)) (dF 22 R (wfT (oT hc30)) (dF 23 R (wfT (oT hc30)) (dF 24 R (wfT (oT hc30)) (dF 25 R (wfT (oT hc30)) (dR 26 R (pOT (r17.1 != (ix l1.Sizes (ix l1.Kernels p7).Store.Buffer)) R (oT hc30)) (dR 27 R (vB R) (dF 28 R (wfT (oT (oT hc30))) (dF 29 R (wfT (oT (oT hc30))) (dF 30 R (wfT (oT (oT hc30))) (dF 31 R (wfT (oT (oT hc30))) (dR 32 R (pOT r27 R (oT (oT hc30))) (d_done (by kernel_rfl) ?_)))))))))))))))))))))))))))))))))))
 exact qJ (fun w s => (s.f 6 [0, 1, 2, 4]))
 rcases bo (((ix l1.Kernels p7).Sum || ((ix l1.Kernels p7).Store.Offset != (0 : Int))) || (!r22)) with hc31 | hc31
 refine cdr 33 [] mixo (fun ht hn => (dR 0 R (vFa 5 fo127_3 R) (dR 1 R (vLd 0 ag4 R R R) (dR 2 R (vB R) (dW 3 R (wnF hc29) (vFa 2 fo127_2 R) (dW 4 R (wnF hc29) (vFa 3 fo124_1 R) (dW 5 R (wnF hc29) (vLd 0 ag3 R R R) (dW 6 R (wnF hc29) (vNe R R) (dR 7 R (pOF R hc29 R) (dR 8 R (vB R) (dW 9 R (wnF hc30) (vFa 2 fo127_2 R) (dW 10 R (wnF hc30) (vFa 4 fo124_2 R) (dW 11 R (wnF hc30) (vLd 0 ag29 R R R) (dW 12 R (wnF hc30) (vFa 0 fo127_0 R) (dW 13 R (wnF hc30) (vLd 0 ag29 R R R) (d_one 14 (by kernel_rfl) R (lM (_ :: _ :: _ :: _ :: _ :: _ :: _ :: W1) (fun w s => (s.d 2 R)) ?_)))))))))))))))))
 refine l_calln 1 R (wnF hc30) cb190 R (impl_steps_ok (gcall_t hx20 (not_ff hc30))) R ?_
 rintro ⟨A21, N21, D21⟩
 refine lN (ow kT3 3 (.slice A21 N21 D21) r19 :: _ :: _ :: _ :: _ :: _ :: _ :: W1) ?_
 refine l_len 0 sees_ow ?_
 rintro rfl
 refine l_nil (q_draw (sL [0]) (d_one 15 (by kernel_rfl) R (lM (ow _ _ _ _ :: rds _ _ _ :: bxl _ _ _ :: cl _ _ _ :: rds _ _ _ :: rds _ _ _ :: rds _ _ _ :: rds _ _ _ :: W1) (fun w s => ((s.d 5 R).f 8 [1, 1, 0, 1, 2, 6])) ?_)))
 refine l_calln 2 R (wnF hc30) cb189 R (FnOk.lends (A' := [OO kT3 3 A21 D21 r19]) (A := [RR kT3 A21 D21 r19]) (B := [RR kT3 A14 D14 ((ix l1.Kernels p7).Store.Steps)]) (FnOk.perm (slices_Equal_int_int_ok (gcall_t hx23 (not_ff hc30))) (Pre' := [RR kT3 A21 D21 r19, RR kT3 A14 D14 ((ix l1.Kernels p7).Store.Steps)]) (fun _ _ _ s => (s.e 2 [1, 0]))) ⟨lend_ow, trivial⟩ (fun _ => trivial)) R ?_
 rintro _
 refine lN (_ :: _ :: _ :: _ :: _ :: _ :: _ :: W1) ?_
 refine l_nil (q_draw (sL [0]) (dW 16 R (wnF hc30) (vNo R) (hS := (sL [0])) (dR 17 R (pOF R hc30 R) (hS := (sL [0])) (dR 18 R (vB R) (hS := (sL [0])) (dF 19 R (wfT hc31) (hS := (sL [0])) (dF 20 R (wfT hc31) (hS := (sL [0])) (dF 21 R (wfT hc31) (hS := (sL [0])) (dF 22 R (wfT hc31) (hS := (sL [0])) (dF 23 R (wfT hc31) (hS := (sL [0])) (dF 24 R (wfT hc31) (hS := (sL [0])) (dF 25 R (wfT hc31) (hS := (sL [0])) (dR 26 R (pOT (r17.1 != (ix l1.Sizes (ix l1.Kernels p7).Store.Buffer)) R hc31) (hS := (sL [0])) (dR 27 R (vB R) (hS := (sL [0])) (dF 28 R (wfT (oT hc31)) (hS := (sL [0])) (dF 29 R (wfT (oT hc31)) (hS := (sL [0])) (dF 30 R (wfT (oT hc31)) (hS := (sL [0])) (dF 31 R (wfT (oT hc31)) (hS := (sL [0])) (dR 32 R (pOT r27 R (oT hc31)) (hS := (sL [0])) (d_done (by kernel_rfl) ?_)))))))))))))))))))
 exact qJ (fun w s => (s.f 7 [1, 1, 3, 4]))
 rcases bo ((((ix l1.Kernels p7).Sum || ((ix l1.Kernels p7).Store.Offset != (0 : Int))) || (!r22)) || (r17.1 != (ix l1.Sizes (ix l1.Kernels p7).Store.Buffer))) with hc32 | hc32
 refine c_some 7 sees_rd (show 0 < l1.Sizes.length by have := (hg24 hc31); omega) (fun g25 o26 ha => ?_)
 subst ha
 refine cdr 33 [] mixo (fun ht hn => (dR 0 R (vFa 5 fo127_3 R) (dR 1 R (vLd 0 ag4 R R R) (dR 2 R (vB R) (dW 3 R (wnF hc29) (vFa 2 fo127_2 R) (dW 4 R (wnF hc29) (vFa 3 fo124_1 R) (dW 5 R (wnF hc29) (vLd 0 ag3 R R R) (dW 6 R (wnF hc29) (vNe R R) (dR 7 R (pOF R hc29 R) (dR 8 R (vB R) (dW 9 R (wnF hc30) (vFa 2 fo127_2 R) (dW 10 R (wnF hc30) (vFa 4 fo124_2 R) (dW 11 R (wnF hc30) (vLd 0 ag29 R R R) (dW 12 R (wnF hc30) (vFa 0 fo127_0 R) (dW 13 R (wnF hc30) (vLd 0 ag29 R R R) (d_one 14 (by kernel_rfl) R (lM (_ :: _ :: _ :: _ :: _ :: _ :: _ :: W1) (fun w s => (s.d 2 R)) ?_)))))))))))))))))
 refine l_calln 1 R (wnF hc30) cb190 R (impl_steps_ok (gcall_t hx20 (not_ff hc30))) R ?_
 rintro ⟨A21, N21, D21⟩
 refine lN (ow kT3 3 (.slice A21 N21 D21) r19 :: _ :: _ :: _ :: _ :: _ :: _ :: W1) ?_
 refine l_len 0 sees_ow ?_
 rintro rfl
 refine l_nil (q_draw (sL [0]) (d_one 15 (by kernel_rfl) R (lM (ow _ _ _ _ :: rds _ _ _ :: bxl _ _ _ :: cl _ _ _ :: rds _ _ _ :: rds _ _ _ :: rds _ _ _ :: rds _ _ _ :: W1) (fun w s => ((s.d 5 R).f 8 [1, 1, 0, 1, 2, 6])) ?_)))
 refine l_calln 2 R (wnF hc30) cb189 R (FnOk.lends (A' := [OO kT3 3 A21 D21 r19]) (A := [RR kT3 A21 D21 r19]) (B := [RR kT3 A14 D14 ((ix l1.Kernels p7).Store.Steps)]) (FnOk.perm (slices_Equal_int_int_ok (gcall_t hx23 (not_ff hc30))) (Pre' := [RR kT3 A21 D21 r19, RR kT3 A14 D14 ((ix l1.Kernels p7).Store.Steps)]) (fun _ _ _ s => (s.e 2 [1, 0]))) ⟨lend_ow, trivial⟩ (fun _ => trivial)) R ?_
 rintro _
 refine lN (_ :: _ :: _ :: _ :: _ :: _ :: _ :: W1) ?_
 refine l_nil (q_draw (sL [0]) (dW 16 R (wnF hc30) (vNo R) (hS := (sL [0])) (dR 17 R (pOF R hc30 R) (hS := (sL [0])) (dR 18 R (vB R) (hS := (sL [0])) (dW 19 R (wnF hc31) (vI R) (hS := (sL [0])) (dW 20 R (wnF hc31) (vFa 0 fo58_0 R) (hS := (sL [0])) (dW 21 R (wnF hc31) (vLd 6 ag29 R R R) (hS := (sL [0])) (dW 22 R (wnF hc31) (vI R) (hS := (sL [0])) (dW 23 R (wnF hc31) (vIa sl29 sz3 R R (hg24 hc31)) (hS := (sL [0])) (dW 24 R (wnF hc31) (vLi 7 ag3 sees_rd R (hg24 hc31)) (hS := (sL [0])) (dW 25 R (wnF hc31) (vNe R R) (hS := (sL [0])) (dR 26 R (pOF R hc31 R) (hS := (sL [0])) (dR 27 R (vB R) (hS := (sL [0])) (dF 28 R (wfT hc32) (hS := (sL [0])) (dF 29 R (wfT hc32) (hS := (sL [0])) (dF 30 R (wfT hc32) (hS := (sL [0])) (dF 31 R (wfT hc32) (hS := (sL [0])) (dR 32 R (pOT r27 R hc32) (hS := (sL [0])) (d_done (by kernel_rfl) ?_)))))))))))))))))))
 exact qJ (fun w s => (s.f 7 [1, 1, 3, 4]))
 refine c_some 7 sees_rd (show 0 < l1.Sizes.length by have := (hg24 hc31); omega) (fun g25 o26 ha => ?_)
 subst ha
 refine cdr 33 [] mixo (fun ht hn => (dR 0 R (vFa 5 fo127_3 R) (dR 1 R (vLd 0 ag4 R R R) (dR 2 R (vB R) (dW 3 R (wnF hc29) (vFa 2 fo127_2 R) (dW 4 R (wnF hc29) (vFa 3 fo124_1 R) (dW 5 R (wnF hc29) (vLd 0 ag3 R R R) (dW 6 R (wnF hc29) (vNe R R) (dR 7 R (pOF R hc29 R) (dR 8 R (vB R) (dW 9 R (wnF hc30) (vFa 2 fo127_2 R) (dW 10 R (wnF hc30) (vFa 4 fo124_2 R) (dW 11 R (wnF hc30) (vLd 0 ag29 R R R) (dW 12 R (wnF hc30) (vFa 0 fo127_0 R) (dW 13 R (wnF hc30) (vLd 0 ag29 R R R) (d_one 14 (by kernel_rfl) R (lM (_ :: _ :: _ :: _ :: _ :: _ :: _ :: W1) (fun w s => (s.d 2 R)) ?_)))))))))))))))))
 refine l_calln 1 R (wnF hc30) cb190 R (impl_steps_ok (gcall_t hx20 (not_ff hc30))) R ?_
 rintro ⟨A21, N21, D21⟩
 refine lN (ow kT3 3 (.slice A21 N21 D21) r19 :: _ :: _ :: _ :: _ :: _ :: _ :: W1) ?_
 refine l_len 0 sees_ow ?_
 rintro rfl
 refine l_nil (q_draw (sL [0]) (d_one 15 (by kernel_rfl) R (lM (ow _ _ _ _ :: rds _ _ _ :: bxl _ _ _ :: cl _ _ _ :: rds _ _ _ :: rds _ _ _ :: rds _ _ _ :: rds _ _ _ :: W1) (fun w s => ((s.d 5 R).f 8 [1, 1, 0, 1, 2, 6])) ?_)))
 refine l_calln 2 R (wnF hc30) cb189 R (FnOk.lends (A' := [OO kT3 3 A21 D21 r19]) (A := [RR kT3 A21 D21 r19]) (B := [RR kT3 A14 D14 ((ix l1.Kernels p7).Store.Steps)]) (FnOk.perm (slices_Equal_int_int_ok (gcall_t hx23 (not_ff hc30))) (Pre' := [RR kT3 A21 D21 r19, RR kT3 A14 D14 ((ix l1.Kernels p7).Store.Steps)]) (fun _ _ _ s => (s.e 2 [1, 0]))) ⟨lend_ow, trivial⟩ (fun _ => trivial)) R ?_
 rintro _
 refine lN (_ :: _ :: _ :: _ :: _ :: _ :: _ :: W1) ?_
 refine l_nil (q_draw (sL [0]) (dW 16 R (wnF hc30) (vNo R) (hS := (sL [0])) (dR 17 R (pOF R hc30 R) (hS := (sL [0])) (dR 18 R (vB R) (hS := (sL [0])) (dW 19 R (wnF hc31) (vI R) (hS := (sL [0])) (dW 20 R (wnF hc31) (vFa 0 fo58_0 R) (hS := (sL [0])) (dW 21 R (wnF hc31) (vLd 6 ag29 R R R) (hS := (sL [0])) (dW 22 R (wnF hc31) (vI R) (hS := (sL [0])) (dW 23 R (wnF hc31) (vIa sl29 sz3 R R (hg24 hc31)) (hS := (sL [0])) (dW 24 R (wnF hc31) (vLi 7 ag3 sees_rd R (hg24 hc31)) (hS := (sL [0])) (dW 25 R (wnF hc31) (vNe R R) (hS := (sL [0])) (dR 26 R (pOF R hc31 R) (hS := (sL [0])) (dR 27 R (vB R) (hS := (sL [0])) (dW 28 R (wnF hc32) (vFa 4 fo58_4 R) (hS := (sL [0])) (dW 29 R (wnF hc32) (vLd 6 ag29 R R R) (hS := (sL [0])) (dW 30 R (wnF hc32) (vI R) (hS := (sL [0])) (d_one 31 (by kernel_rfl) R (lM (RR kT3 A6 D6 l1.Outs :: _ :: _ :: _ :: _ :: _ :: _ :: _ :: W1) (fun w s => (s.d 12 R)) ?_))))))))))))))))))
 refine l_calln 1 R (wnF hc32) cb191 R (slices_Contains_int_int_ok (gcall_t hx28 (not_ff hc32))) R ?_
 rintro _
 refine lN (_ :: _ :: _ :: _ :: _ :: _ :: _ :: W1) ?_
 refine l_nil (q_draw (sL [0]) (dR 32 R (pOF R hc32 R) (hS := (sL [0])) (d_done (by kernel_rfl) ?_)))
 exact qJ (fun w s => (s.f 7 [1, 1, 3, 4]))
 rintro σ1
 refine q_next ?_
 rcases bif_ hr with ⟨hb33, hr⟩ | ⟨hb33, hr⟩
 refine c_true R hb33 (c_seq (c_region (lI R (l_nil (q_next (c_ret (q_ret ?_)))))))
 obtain rfl := so hr
 exact qF () (fun w s => (s.e 11 []))
 refine c_false R hb33 (c_skip (q_next (c_seq (c_region (lI R (l_nil (q_next (c_seq (c_cut (A := (Int) × (Unit)) (fun a => impl_Nest_taker_J3 a.1 = some r) (fun a => [(9, (iv a.1))]) (fun a => W1) ?_ ?_)))))))))
 refine c_seq (c_region (lO (vFa 3 fo58_3 R) (lO (vLd 5 ag56 R R R) (lO (v_len sl56 R) (lI R (l_nil (q_next (c_block ?_))))))))
 obtain ⟨e1, hl1, hk1⟩ := bd hr
 refine c_loop (A := Unit) hl1 (fun s a => [(1, (iv p7)), (5, (pt b16 0)), (6, (iv (ix l1.Kernels p7).Store.Buffer)), (9, (iv s.1)), (60, (sc (ad g10 o11) l1.Kernels D5)), (61, (il l1.Kernels)), (62, (iv s.2))]) (fun s a => bxl b16 [(sc A12 ((ix l1.Kernels p7).Loops) D12), (sc A13 ((ix l1.Kernels p7).Loads) D13), (iv (ix l1.Kernels p7).Store.Buffer), (iv (ix l1.Kernels p7).Store.Offset), (sc A14 ((ix l1.Kernels p7).Store.Steps) D14), (.bool (ix l1.Kernels p7).Sum), (sc A15 ((ix l1.Kernels p7).Code) D15)] 127 :: RR kT3 A12 D12 ((ix l1.Kernels p7).Loops) :: RR kT124 A13 D13 ((ix l1.Kernels p7).Loads) :: RR kT3 A14 D14 ((ix l1.Kernels p7).Store.Steps) :: RR kT216 A15 D15 ((ix l1.Kernels p7).Code) :: W1) () (aS R) (fun w s => s) ?_
 rintro ⟨c54, x55⟩ _ σ1 out1 hr he1
 replace hr : impl_Nest_taker_L1 l1 p7 c54 x55 = some out1 := hr
 unfold impl_Nest_taker_L1 at hr
 refine c_seq (c_region (lO (vLt R R) (l_nil (q_next (c_seq ?_)))))
 rcases bif_ hr with ⟨hb56, hr⟩ | ⟨hb56, hr⟩
 refine c_true R hb56 (c_skip (q_next (c_seq (c_cut (A := (Int) × (Unit)) (fun a => impl_Nest_taker_J2 x55 a.1 = some out1) (fun a => [(1, (iv p7)), (5, (pt b16 0)), (6, (iv (ix l1.Kernels p7).Store.Buffer)), (9, (iv a.1)), (60, (sc (ad g10 o11) l1.Kernels D5)), (61, (il l1.Kernels)), (62, (iv x55))]) (fun a => bxl b16 [(sc A12 ((ix l1.Kernels p7).Loops) D12), (sc A13 ((ix l1.Kernels p7).Loads) D13), (iv (ix l1.Kernels p7).Store.Buffer), (iv (ix l1.Kernels p7).Store.Offset), (sc A14 ((ix l1.Kernels p7).Store.Steps) D14), (.bool (ix l1.Kernels p7).Sum), (sc A15 ((ix l1.Kernels p7).Code) D15)] 127 :: RR kT3 A12 D12 ((ix l1.Kernels p7).Loops) :: RR kT124 A13 D13 ((ix l1.Kernels p7).Loads) :: RR kT3 A14 D14 ((ix l1.Kernels p7).Store.Steps) :: RR kT216 A15 D15 ((ix l1.Kernels p7).Code) :: W1) ?_ ?_))))
 refine c_block (c_seq ?_)
 obtain ⟨hg57, hr⟩ := gd hr
 refine c_region (lI R (lO (vIa sl56 sz127 R R hg57) (t_elem (K := kT127) 9 x55 dT127.dec R hg57.1 hg57.2 ?_)))
 rintro ⟨⟨A58, D58⟩, ⟨A59, D59⟩, ⟨-, -, ⟨A60, D60⟩⟩, -, ⟨A61, D61⟩⟩
 refine lN (cl g10 (o11 + x55.toNat * 7) [(sc A58 ((ix l1.Kernels x55).Loops) D58), (sc A59 ((ix l1.Kernels x55).Loads) D59), (iv (ix l1.Kernels x55).Store.Buffer), (iv (ix l1.Kernels x55).Store.Offset), (sc A60 ((ix l1.Kernels x55).Store.Steps) D60), (.bool (ix l1.Kernels x55).Sum), (sc A61 ((ix l1.Kernels x55).Code) D61)] :: RR kT3 A58 D58 ((ix l1.Kernels x55).Loops) :: RR kT124 A59 D59 ((ix l1.Kernels x55).Loads) :: RR kT3 A60 D60 ((ix l1.Kernels x55).Store.Steps) :: RR kT216 A61 D61 ((ix l1.Kernels x55).Code) :: _ :: _ :: _ :: _ :: _ :: W1) ?_
 refine lO (vz (.agg [(sc A58 ((ix l1.Kernels x55).Loops) D58), (sc A59 ((ix l1.Kernels x55).Loads) D59), (iv (ix l1.Kernels x55).Store.Buffer), (iv (ix l1.Kernels x55).Store.Offset), (sc A60 ((ix l1.Kernels x55).Store.Steps) D60), (.bool (ix l1.Kernels x55).Sum), (sc A61 ((ix l1.Kernels x55).Code) D61)].toArray) (v_clfs (fo := 0) 0 ag127 sz127 R R R R)) (l_alloc R R zc127 (fun b62 => (lI R (l_stores 0 R R sz127 R R R R R R (lN (bxl b62 [(sc A58 ((ix l1.Kernels x55).Loops) D58), (sc A59 ((ix l1.Kernels x55).Loads) D59), (iv (ix l1.Kernels x55).Store.Buffer), (iv (ix l1.Kernels x55).Store.Offset), (sc A60 ((ix l1.Kernels x55).Store.Steps) D60), (.bool (ix l1.Kernels x55).Sum), (sc A61 ((ix l1.Kernels x55).Code) D61)] 127 :: _ :: _ :: _ :: _ :: _ :: _ :: _ :: _ :: _ :: _ :: W1) ?_)))))
 refine l_nil (q_next (c_seq (c_seq ?_)))
 obtain ⟨r63, hx64, hr⟩ := bd hr
 refine cQ [(1, (iv p7)), (5, (pt b16 0)), (6, (iv (ix l1.Kernels p7).Store.Buffer)), (9, (iv c54)), (10, (iv x55)), (11, (pt b62 0)), (60, (sc (ad g10 o11) l1.Kernels D5)), (61, (il l1.Kernels)), (62, (iv x55)), (89, (.bool (((x55 != p7) && ((ix l1.Kernels x55).Store.Buffer == (ix l1.Kernels p7).Store.Buffer)) || ((decide (x55 ≥ p7)) && (decide (r63 > (0 : Int)))))))] (bxl b16 [(sc A12 ((ix l1.Kernels p7).Loops) D12), (sc A13 ((ix l1.Kernels p7).Loads) D13), (iv (ix l1.Kernels p7).Store.Buffer), (iv (ix l1.Kernels p7).Store.Offset), (sc A14 ((ix l1.Kernels p7).Store.Steps) D14), (.bool (ix l1.Kernels p7).Sum), (sc A15 ((ix l1.Kernels p7).Code) D15)] 127 :: RR kT3 A12 D12 ((ix l1.Kernels p7).Loops) :: RR kT124 A13 D13 ((ix l1.Kernels p7).Loads) :: RR kT3 A14 D14 ((ix l1.Kernels p7).Store.Steps) :: RR kT216 A15 D15 ((ix l1.Kernels p7).Code) :: bxl b62 [(sc A58 ((ix l1.Kernels x55).Loops) D58), (sc A59 ((ix l1.Kernels x55).Loads) D59), (iv (ix l1.Kernels x55).Store.Buffer), (iv (ix l1.Kernels x55).Store.Offset), (sc A60 ((ix l1.Kernels x55).Store.Steps) D60), (.bool (ix l1.Kernels x55).Sum), (sc A61 ((ix l1.Kernels x55).Code) D61)] 127 :: RR kT3 A58 D58 ((ix l1.Kernels x55).Loops) :: RR kT124 A59 D59 ((ix l1.Kernels x55).Loads) :: RR kT3 A60 D60 ((ix l1.Kernels x55).Store.Steps) :: RR kT216 A61 D61 ((ix l1.Kernels x55).Code) :: W1) ?_ ?_
 refine c_region (lI R (lI R (lO (vNe R R) (lB R ?_))))
 rcases bo (x55 != p7) with hc65 | hc65
 refine lW (wnT hc65) (vFa 2 fo127_2 R) (lW (wnT hc65) (vFa 2 fo124_0 R) (lW (wnT hc65) (vLd 0 ag3 R R R) (lW (wnT hc65) (vI R) (lW (wnT hc65) (vEq R R) (lO (pAT R hc65 R) (lB R ?_))))))
 rcases bo ((x55 != p7) && ((ix l1.Kernels x55).Store.Buffer == (ix l1.Kernels p7).Store.Buffer)) with hc66 | hc66
 refine lf (wfT hc66) (lf (wfT hc66) (lf (wfT hc66) (lf (wfT hc66) (lf R (lf R (lf R (lf R (lf R (lf R (lf (wfT hc66) (lO (pOT ((decide (x55 ≥ p7)) && (decide (r63 > (0 : Int)))) R hc66) (l_nil ?_))))))))))))
 exact qJ (fun w s => (s.f 11 [6, 5, 0, 1, 2, 4]))
 refine lW (wnF hc66) (vI R) (lW (wnF hc66) (vI R) (lW (wnF hc66) (vGe R R) (lW (wnF hc66) (vB R) ?_)))
 rcases bo (decide (x55 ≥ p7)) with hc67 | hc67
 refine lW (wnT hc67) (vz (.agg [(sc A12 ((ix l1.Kernels p7).Loops) D12), (sc A13 ((ix l1.Kernels p7).Loads) D13), (iv (ix l1.Kernels p7).Store.Buffer), (iv (ix l1.Kernels p7).Store.Offset), (sc A14 ((ix l1.Kernels p7).Store.Steps) D14), (.bool (ix l1.Kernels p7).Sum), (sc A15 ((ix l1.Kernels p7).Code) D15)].toArray) (v_loadw 6 ag127 sz127 R R R R)) (lW (wnT hc67) (vFa 2 fo127_2 R) (lW (wnT hc67) (vFa 2 fo124_0 R) (lW (wnT hc67) (vLd 0 ag3 R R R) (lM (rds _ _ _ :: rds _ _ _ :: rds _ _ _ :: rds _ _ _ :: bxl _ _ _ :: cl _ _ _ :: rds _ _ _ :: rds _ _ _ :: rds _ _ _ :: rds _ _ _ :: bxl _ _ _ :: rds _ _ _ :: rds _ _ _ :: rds _ _ _ :: rds _ _ _ :: W1) (fun w s => (((((s.d 7 R).d 9 R).d 11 R).d 13 R).f 15 [3, 1, 2, 1, 1, 1, 0, 1, 4, 11])) ?_))))
 refine l_calln 4 R (wnT hc67) cb192 R (impl_Kernel_loadsOf_ok (gcall_t hx64 (and_tt (not_ff hc66) hc67))) R ?_
 rintro _
 refine lN (_ :: _ :: _ :: _ :: _ :: _ :: _ :: _ :: _ :: _ :: _ :: W1) ?_
 refine lW (wnT hc67) (vGt R R) (lW (wnF hc66) (pAT R hc67 R) (lO (pOF R hc66 R) (l_nil ?_)))
 exact qJ (fun w s => (s.f 11 [6, 5, 0, 1, 2, 4]))
 refine lf (wfF hc67) (lf (wfF hc67) (lf (wfF hc67) (lf (wfF hc67) (lf (wfF hc67) (lf (wfF hc67) (lW (wnF hc66) (pAF (decide (r63 > (0 : Int))) R hc67) (lO (pOF R hc66 R) (l_nil ?_))))))))
 exact qJ (fun w s => (s.f 11 [6, 5, 0, 1, 2, 4]))
 refine lf (wfF hc65) (lf (wfF hc65) (lf (wfF hc65) (lf (wfF hc65) (lf (wfF hc65) (lO (pAF ((ix l1.Kernels x55).Store.Buffer == (ix l1.Kernels p7).Store.Buffer) R hc65) (lB R (lW (wnF (aF hc65)) (vI R) (lW (wnF (aF hc65)) (vI R) (lW (wnF (aF hc65)) (vGe R R) (lW (wnF (aF hc65)) (vB R) ?_))))))))))
 rcases bo (decide (x55 ≥ p7)) with hc68 | hc68
 refine lW (wnT hc68) (vz (.agg [(sc A12 ((ix l1.Kernels p7).Loops) D12), (sc A13 ((ix l1.Kernels p7).Loads) D13), (iv (ix l1.Kernels p7).Store.Buffer), (iv (ix l1.Kernels p7).Store.Offset), (sc A14 ((ix l1.Kernels p7).Store.Steps) D14), (.bool (ix l1.Kernels p7).Sum), (sc A15 ((ix l1.Kernels p7).Code) D15)].toArray) (v_loadw 6 ag127 sz127 R R R R)) (lW (wnT hc68) (vFa 2 fo127_2 R) (lW (wnT hc68) (vFa 2 fo124_0 R) (lW (wnT hc68) (vLd 0 ag3 R R R) (lM (rds _ _ _ :: rds _ _ _ :: rds _ _ _ :: rds _ _ _ :: bxl _ _ _ :: cl _ _ _ :: rds _ _ _ :: rds _ _ _ :: rds _ _ _ :: rds _ _ _ :: bxl _ _ _ :: rds _ _ _ :: rds _ _ _ :: rds _ _ _ :: rds _ _ _ :: W1) (fun w s => (((((s.d 7 R).d 9 R).d 11 R).d 13 R).f 15 [3, 1, 2, 1, 1, 1, 0, 1, 4, 11])) ?_))))
 refine l_calln 4 R (wnT hc68) cb192 R (impl_Kernel_loadsOf_ok (gcall_t hx64 (and_tt (not_ff (aF hc65)) hc68))) R ?_
 rintro _
 refine lN (_ :: _ :: _ :: _ :: _ :: _ :: _ :: _ :: _ :: _ :: _ :: W1) ?_
 refine lW (wnT hc68) (vGt R R) (lW (wnF (aF hc65)) (pAT R hc68 R) (lO (pOF R (aF hc65) R) (l_nil ?_)))
 exact qJ (fun w s => (s.f 11 [6, 5, 0, 1, 2, 4]))
 refine lf (wfF hc68) (lf (wfF hc68) (lf (wfF hc68) (lf (wfF hc68) (lf (wfF hc68) (lf (wfF hc68) (lW (wnF (aF hc65)) (pAF (decide (r63 > (0 : Int))) R hc68) (lO (pOF R (aF hc65) R) (l_nil ?_))))))))
 exact qJ (fun w s => (s.f 11 [6, 5, 0, 1, 2, 4]))
 rintro σ1
 refine q_next ?_
 rcases bif_ hr with ⟨hb69, hr⟩ | ⟨hb69, hr⟩
 refine c_true R hb69 (c_seq (c_region (lI R (l_nil (q_next (c_ret (q_ret (q_blockr (q_ret ?_)))))))))
 obtain rfl := so hr
 obtain rfl := he1 _ R
 have hr := hk1
 refine q_ret (q_blockr (q_ret ?_))
 obtain rfl := so hr
 exact qF () (fun w s => (s.e 16 []))
 refine c_false R hb69 (c_skip (q_next (c_seq ?_)))
 obtain ⟨r70, hx71, hr⟩ := bd hr
 refine c_region (lO (vz (.agg [(sc A58 ((ix l1.Kernels x55).Loops) D58), (sc A59 ((ix l1.Kernels x55).Loads) D59), (iv (ix l1.Kernels x55).Store.Buffer), (iv (ix l1.Kernels x55).Store.Offset), (sc A60 ((ix l1.Kernels x55).Store.Steps) D60), (.bool (ix l1.Kernels x55).Sum), (sc A61 ((ix l1.Kernels x55).Code) D61)].toArray) (v_loadw 5 ag127 sz127 R R R R)) (lI R (lM (rds _ _ _ :: rds _ _ _ :: rds _ _ _ :: rds _ _ _ :: bxl _ _ _ :: rds _ _ _ :: rds _ _ _ :: rds _ _ _ :: rds _ _ _ :: bxl _ _ _ :: rds _ _ _ :: rds _ _ _ :: rds _ _ _ :: rds _ _ _ :: W1) (fun w s => (((((s.d 6 R).d 8 R).d 10 R).d 12 R).f 14 [3, 1, 2, 1, 1, 1, 0, 1, 4, 10])) ?_)))
 refine lC 4 cb192 R (impl_Kernel_loadsOf_ok hx71) R ?_
 rintro _
 refine lN (_ :: _ :: _ :: _ :: _ :: _ :: _ :: _ :: _ :: _ :: W1) ?_
 refine lO (vGt R R) (l_nil (q_next ?_))
 rcases bif_ hr with ⟨hb72, hr⟩ | ⟨hb72, hr⟩
 refine c_true R hb72 (c_seq (c_seq (cQ [(1, (iv p7)), (5, (pt b16 0)), (6, (iv (ix l1.Kernels p7).Store.Buffer)), (10, (iv x55)), (60, (sc (ad g10 o11) l1.Kernels D5)), (61, (il l1.Kernels)), (62, (iv x55)), (100, (.bool ((decide (c54 ≥ (0 : Int))) || (decide (x55 < p7)))))] (bxl b16 [(sc A12 ((ix l1.Kernels p7).Loops) D12), (sc A13 ((ix l1.Kernels p7).Loads) D13), (iv (ix l1.Kernels p7).Store.Buffer), (iv (ix l1.Kernels p7).Store.Offset), (sc A14 ((ix l1.Kernels p7).Store.Steps) D14), (.bool (ix l1.Kernels p7).Sum), (sc A15 ((ix l1.Kernels p7).Code) D15)] 127 :: RR kT3 A12 D12 ((ix l1.Kernels p7).Loops) :: RR kT124 A13 D13 ((ix l1.Kernels p7).Loads) :: RR kT3 A14 D14 ((ix l1.Kernels p7).Store.Steps) :: RR kT216 A15 D15 ((ix l1.Kernels p7).Code) :: W1) ?_ ?_)))
 refine c_region (lI R (lO (vGe R R) (lB R ?_)))
 rcases bo (decide (c54 ≥ (0 : Int))) with hc73 | hc73
 refine lf (wfT hc73) (lf (wfT hc73) (lf (wfT hc73) (lO (pOT (decide (x55 < p7)) R hc73) (l_nil ?_))))
 exact qJ (fun w s => (s.f 10 [0, 5]))
 refine lW (wnF hc73) (vI R) (lW (wnF hc73) (vI R) (lW (wnF hc73) (vLt R R) (lO (pOF R hc73 R) (l_nil ?_))))
 exact qJ (fun w s => (s.f 10 [0, 5]))
 rintro σ1
 refine q_next ?_
 rcases bif_ hr with ⟨hb74, hr⟩ | ⟨hb74, hr⟩
 refine c_true R hb74 (c_seq (c_region (lI R (l_nil (q_next (c_ret (q_ret (q_blockr (q_ret ?_)))))))))
 obtain rfl := so hr
 obtain rfl := he1 _ R
 have hr := hk1
 refine q_ret (q_blockr (q_ret ?_))
 obtain rfl := so hr
 exact qF () (fun w s => (s.e 11 []))
 refine c_false R hb74 (c_skip (q_next (c_region (lI R (lI R (l_nil (q_blockn ?_)))))))
 exact qI (x55, ()) hr (fun w s => s)
 refine c_false R hb72 (c_skip (q_blockn ?_))
 exact qI (c54, ()) hr (fun w s => (s.f 10 [0, 5]))
 rintro ⟨c75, _⟩ σ1 hr
 replace hr : impl_Nest_taker_J2 x55 c75 = some out1 := hr
 unfold impl_Nest_taker_J2 at hr
 refine c_region (lO (vAd R R) (lI R (l_nil ?_)))
 obtain rfl := so hr
 exact qA () (fun w s => s)
 refine c_false R hb56 (c_exit (q_exit ?_))
 obtain rfl := so hr
 obtain rfl := he1 _ R
 have hr := hk1
 refine q_exit (q_block ?_)
 exact qI (c54, ()) hr (fun w s => (s.e 5 []))
 rintro ⟨c78, _⟩ σ1 hr
 replace hr : impl_Nest_taker_J3 c78 = some r := hr
 unfold impl_Nest_taker_J3 at hr
 refine c_seq (c_region (lI R (lI R (l_nil (q_next (c_ret ?_))))))
 obtain rfl := so hr
 exact qF () (fun w s => (s.e 6 []))
end Go.Proofs.Ytbdchgofcejiiaa
