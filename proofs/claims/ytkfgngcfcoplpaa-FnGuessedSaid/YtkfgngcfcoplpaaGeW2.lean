import Derived.Test.YtkfgngcfcoplpaaGeW1
set_option linter.unusedVariables false
set_option maxRecDepth 20000
namespace Go.Proofs.Ytkfgngcfcoplpaa
open Go Go.Pg
variable {A2 A3 A4 A5 A6 : Option Addr} {D2 D3 D4 D5 D6 N2 N3 N4 N5 N6 : Nat}
theorem Z05_ok  {vals1 : (List Int)} {r : Int} (hr : Z05 vals1 = some r) :
 FnOk Try.prog 74 [(.slice A2 N2 D2)] [rds kT3 (.slice A2 N2 D2) vals1] (fun (h : Unit) => ((iv r), [])) := by
 unfold Z05 at hr
 refine fn_ok Try.func74 R 18 R R fun C V => ?_
 refine cN (_ :: V) ?_
 refine cL 0 sees_rd ?_
 rintro rfl
 let W0 : List HP := RR kT3 A2 D2 vals1 :: V
 refine cN W0 ?_
 refine c_seq (c_region (lI R (l_nil (q_next (c_seq (c_region (lI R (l_nil (q_next (c_seq (c_cut (A := (Unit) × (Unit)) (fun a => Z05_J1 = some r) (fun a => [(3, (iv 0))]) (fun a => W0) ?_ ?_)))))))))))
 refine c_seq (c_region (lS R (lO (v_len sl29 R) (lI R (l_nil (q_next (c_block ?_)))))))
 obtain ⟨e1, hl1, hk1⟩ := bd hr
 refine c_loop (A := Unit) hl1 (fun s a => [(3, (iv 0)), (6, (sc A2 vals1 D2)), (7, (il vals1)), (8, (iv s))]) (fun s a => W0) () (aS R) (fun w s => s) ?_
 rintro x8 _ σ1 out1 hr he1
 replace hr : Z05_L1 vals1 x8 = some out1 := hr
 unfold Z05_L1 at hr
 refine c_seq (c_region (lO (vLt R R) (l_nil (q_next (c_seq ?_)))))
 rcases bif_ hr with ⟨hb9, hr⟩ | ⟨hb9, hr⟩
 refine c_true R hb9 (c_skip (q_next (c_seq (c_block (c_seq ?_)))))
 obtain ⟨hg10, hr⟩ := gd hr
 refine c_region (t_some 0 sees_rd (show 0 < vals1.length by have := hg10; omega) (fun g11 o12 ha => ?_))
 subst ha
 refine lO (vIa sl29 sz3 R R hg10) (lO (vLi 0 ag3 sees_rd R hg10) (lI R (l_nil (q_next (c_seq (c_region (lI R (lI R (lO (vNe R R) (l_nil (q_next ?_)))))))))))
 rcases bif_ hr with ⟨hb13, hr⟩ | ⟨hb13, hr⟩
 refine c_true R hb13 (c_seq (c_region (lI R (lI R (l_nil (q_next (c_ret (q_blockr (q_ret ?_)))))))))
 obtain rfl := so hr
 obtain rfl := he1 _ R
 have hr := hk1
 refine q_ret (q_blockr (q_ret ?_))
 obtain rfl := so hr
 exact qF () (fun w s => (s.e 1 []))
 refine c_false R hb13 (c_skip (q_blockn (q_next (c_region (lO (vAd R R) (lI R (l_nil ?_)))))))
 obtain rfl := so hr
 exact qA () (fun w s => s)
 refine c_false R hb9 (c_exit (q_exit ?_))
 obtain rfl := so hr
 obtain rfl := he1 _ R
 have hr := hk1
 refine q_exit (q_block ?_)
 exact qI ((), ()) hr (fun w s => s)
 rintro ⟨_, _⟩ σ1 hr
 replace hr : Z05_J1 = some r := hr
 unfold Z05_J1 at hr
 refine c_seq (c_region (lI R (lI R (l_nil (q_next (c_ret ?_))))))
 obtain rfl := so hr
 exact qF () (fun w s => (s.e 1 []))
theorem Z0u_ok  {a1 : (List Int)} {b3 : (List Int)} {r : Int} (hr : Z0u a1 b3 = some r) :
 FnOk Try.prog 54 [(.slice A2 N2 D2), (.slice A4 N4 D4)] [rds kT3 (.slice A2 N2 D2) a1, rds kT3 (.slice A4 N4 D4) b3] (fun (h : Unit) => ((iv r), [])) := by
 unfold Z0u at hr
 refine fn_ok Try.func54 R 15 R R fun C V => ?_
 refine cN (_ :: _ :: V) ?_
 refine cL 0 sees_rd ?_
 rintro rfl
 refine cL 1 sees_rd ?_
 rintro rfl
 let W0 : List HP := RR kT3 A2 D2 a1 :: RR kT3 A4 D4 b3 :: V
 refine cN W0 ?_
 refine c_seq (c_region (lI R (l_nil (q_next (c_seq ?_)))))
 obtain ⟨r5, hx6, hr⟩ := bd hr
 obtain ⟨r7, hx8, hr⟩ := bd hr
 obtain ⟨r10, hx11, hr⟩ := bd hr
 refine c_region (lS R (lO (v_len sl29 R) (lS R (lO (v_len sl29 R) (lC 0 cb75 R (Z0r_ok hx6) R ?_)))))
 rintro _
 refine lS R (lS R (lM (RR kT3 A2 D2 a1 :: RR kT3 A4 D4 b3 :: W0) (fun w s => (((s.d 0 R).d 2 R).e 2 [1, 0])) ?_))
 refine lC 2 cb76 R (Z01_ok hx8) R ?_
 rintro _
 refine lN W0 ?_
 refine l_build (K := kT3) (xs := ([r5, r7] : List Int)) (vs := [(iv r5), (iv r7)]) 0 R R sl29 sz3 zc3 R R R R R R ?_ R (fun A9 D9 => ?_)
 exact fun I h s => (mO3).list [((), r5), ((), r7)] I h s
 refine lN (OO kT3 3 A9 D9 ([r5, r7] : List Int) :: W0) ?_
 refine lC 1 cb74 R (FnOk.lends (A' := [OO kT3 3 A9 D9 ([r5, r7] : List Int)]) (A := [RR kT3 A9 D9 ([r5, r7] : List Int)]) (B := []) (Z05_ok hx11) ⟨lend_ow, trivial⟩ (fun _ => trivial)) R ?_
 rintro _
 refine lI R (l_nil (q_next (c_ret ?_)))
 obtain rfl := so hr
 exact qF () (fun w s => (s.e 3 []))
theorem Z9_ok  {a1 : Row} {b4 : Row} {r : Int} (hr : Z9 a1 b4 = some r) :
 FnOk Try.prog 73 [(.agg [(.slice A2 N2 D2), (.slice A3 N3 D3)].toArray), (.agg [(.slice A5 N5 D5), (.slice A6 N6 D6)].toArray)] [rds kT3 (.slice A2 N2 D2) a1.Key, rds kT3 (.slice A3 N3 D3) a1.Weights, rds kT3 (.slice A5 N5 D5) b4.Key, rds kT3 (.slice A6 N6 D6) b4.Weights] (fun (h : Unit) => ((iv r), [])) := by
 unfold Z9 at hr
 refine fn_ok Try.func73 R 10 R R fun C V => ?_
 refine cN (_ :: _ :: _ :: _ :: V) ?_
 refine cL 0 sees_rd ?_
 rintro rfl
 refine cL 1 sees_rd ?_
 rintro rfl
 refine cL 2 sees_rd ?_
 rintro rfl
 refine cL 3 sees_rd ?_
 rintro rfl
 let W0 : List HP := RR kT3 A2 D2 a1.Key :: RR kT3 A3 D3 a1.Weights :: RR kT3 A5 D5 b4.Key :: RR kT3 A6 D6 b4.Weights :: V
 refine cN W0 ?_
 refine c_seq (c_region (lBx R (fun b7 => (lBx R (fun b8 => (lI R (l_nil ?_)))))))
 let W1 : List HP := bxl b8 [(sc A5 b4.Key D5), (sc A6 b4.Weights D6)] 33 :: bxl b7 [(sc A2 a1.Key D2), (sc A3 a1.Weights D3)] 33 :: W0
 refine qN W1 ?_
 refine q_next (c_seq ?_)
 obtain ⟨r9, hx10, hr⟩ := bd hr
 refine c_region (lO (vFa 0 fo33_0 R) (lO (vLd 1 ag29 R R R) (lO (vFa 0 fo33_0 R) (lO (vLd 0 ag29 R R R) (lM (RR kT3 A2 D2 a1.Key :: RR kT3 A5 D5 b4.Key :: W1) (fun w s => (((s.d 2 R).d 5 R).e 2 [1, 0])) ?_)))))
 refine lC 2 cb54 R (Z0u_ok hx10) R ?_
 rintro _
 refine lN W1 ?_
 refine lI R (l_nil (q_next (c_ret ?_)))
 obtain rfl := so hr
 exact qF () (fun w s => (s.e 6 []))
theorem Zh_ok  {data1 : (List Row)} {a3 : Int} {b4 : Int} {r : (List Row)} (hr : Zh data1 a3 b4 = some r) :
 FnOk Try.prog 91 [(.slice A2 N2 D2), (iv a3), (iv b4), (.func (.func 73) [].toArray [].toArray)] [ow (kT33).share 33 (.slice A2 N2 D2) data1] (fun (h : Unit) => ((.tuple [].toArray), [ow (kT33).share 33 (.slice A2 N2 D2) r])) := by
 unfold Zh at hr
 refine fn_ok Try.func91 R 53 R R fun C V => ?_
 refine cN (_ :: V) ?_
 refine cL 0 sees_sh ?_
 rintro rfl
 refine c_seq (c_region (lI R (lO (vAd R R) (lI R (l_nil (q_next (c_block ?_)))))))
 obtain ⟨e1, hl1, hk1⟩ := bd hr
 refine c_loop (A := Unit) hl1 (fun s a => [(0, (sc A2 data1 D2)), (1, (iv a3)), (2, (iv b4)), (3, (.func (.func 73) [].toArray [].toArray)), (8, (iv s.2))]) (fun s a => ow (kT33).share 33 (.slice A2 data1.length D2) s.1 :: V) () (aS R) (fun w s => s) ?_
 rintro ⟨data56, i57⟩ _ σ1 out1 hr he1
 replace hr : Zh_L1 data1 a3 b4 data56 i57 = some out1 := hr
 unfold Zh_L1 at hr
 refine c_seq (c_seq (c_region (lI R (lI R (lO (vLt R R) (l_nil (q_next ?_)))))))
 rcases bif_ hr with ⟨hb58, hr⟩ | ⟨hb58, hr⟩
 refine c_true R hb58 (c_skip (q_next (c_seq (c_cut (A := ((List Row)) × (Unit)) (fun a => Zh_J2 i57 a.1 = some out1) (fun a => [(0, (sc A2 data1 D2)), (1, (iv a3)), (2, (iv b4)), (3, (.func (.func 73) [].toArray [].toArray)), (8, (iv i57))]) (fun a => ow (kT33).share 33 (.slice A2 data1.length D2) a.1 :: V) ?_ ?_))))
 refine c_block (c_seq (c_region (lI R (lI R (l_nil (q_next (c_block ?_)))))))
 obtain ⟨e2, hl2, hk2⟩ := bd hr
 refine c_loop (A := Unit) hl2 (fun s a => [(0, (sc A2 data1 D2)), (1, (iv a3)), (2, (iv b4)), (3, (.func (.func 73) [].toArray [].toArray)), (8, (iv i57)), (9, (iv s.2))]) (fun s a => ow (kT33).share 33 (.slice A2 data1.length D2) s.1 :: V) () (aS R) (fun w s => s) ?_
 rintro ⟨data81, j82⟩ _ σ1 out2 hr he2
 replace hr : Zh_L2 data1 a3 data81 j82 = some out2 := hr
 unfold Zh_L2 at hr
 refine c_seq (c_seq ?_)
 obtain ⟨hg83, hr⟩ := gd hr
 obtain ⟨hg88, hr⟩ := gd hr
 obtain ⟨r91, hx92, hr⟩ := bd hr
 refine cQ [(0, (sc A2 data1 D2)), (1, (iv a3)), (2, (iv b4)), (3, (.func (.func 73) [].toArray [].toArray)), (8, (iv i57)), (9, (iv j82)), (34, (.bool ((decide (j82 > a3)) && (decide (r91 < (0 : Int))))))] (ow (kT33).share 33 (.slice A2 data1.length D2) data81 :: V) ?_ ?_
 rcases bo (decide (j82 > a3)) with hc93 | hc93
 refine c_some 0 sees_sh (show 0 < data1.length by have := (hg83 hc93); omega) (fun g84 o85 ha => ?_)
 subst ha
 refine cdr 17 [] mixo (fun ht hn => (dR 0 R (vI R) (dR 1 R (vI R) (dR 2 R (vGt R R) (dR 3 R (vB R) (dW 4 R (wnT hc93) (vp (.func (.func 73) [].toArray [].toArray) R) (dW 5 R (wnT hc93) (vS R) (dW 6 R (wnT hc93) (vI R) (dW 7 R (wnT hc93) (vIa sl24 sz33 R R (hg83 hc93)) (dW 9 R (wnT hc93) (vS R) (dW 10 R (wnT hc93) (vI R) (dW 11 R (wnT hc93) (vSb R R) (dW 12 R (wnT hc93) (vIa sl24 sz33 R R (hg88 hc93)) (d_all [8, 13] (by kernel_rfl) R ⟨?_, ?_, trivial⟩))))))))))))))
 refine l_ldo (K := (kT33).share) 0 j82 R (wnT hc93) ag33 sz33 dT33.own R R (hg83 hc93).1 (hg83 hc93).2 ?_
 rintro ⟨⟨A86, D86⟩, ⟨A87, D87⟩⟩
 refine lN (RR kT3 A86 D86 ((ix data81 j82).Key) :: RR kT3 A87 D87 ((ix data81 j82).Weights) :: ow (kT33).share 33 (.slice (ad g84 o85) data1.length D2) data81 :: V) ?_
 refine l_nil (q_draw (sL [1, 0]) (d1 13 R (l_ldo (K := (kT33).share) 2 (w64 (j82 - (1 : Int))) R (wnT hc93) ag33 sz33 dT33.own R R (hg88 hc93).1 (hg88 hc93).2 ?_)))
 rintro ⟨⟨A89, D89⟩, ⟨A90, D90⟩⟩
 refine lN (RR kT3 A89 D89 ((ix data81 (w64 (j82 - (1 : Int)))).Key) :: RR kT3 A90 D90 ((ix data81 (w64 (j82 - (1 : Int)))).Weights) :: _ :: _ :: _ :: V) ?_
 refine l_nil (q_draw (sL [3, 2, 1, 0]) (d1 14 R (lM (rds _ _ _ :: rds _ _ _ :: rds _ _ _ :: rds _ _ _ :: rds _ _ _ :: rds _ _ _ :: rds _ _ _ :: rds _ _ _ :: ow _ _ _ _ :: V) (fun w s => (((((s.d 2 R).d 4 R).d 2 R).d 4 R).e 9 [3, 2, 1, 0, 4, 5, 6, 7, 8])) ?_)))
 refine l_callvn (fs := []) (cs := []) 4 R (wnT hc93) cb73 R R (Z9_ok (gcall_t hx92 hc93)) R ?_
 rintro _
 refine lN (_ :: _ :: _ :: _ :: _ :: V) ?_
 refine l_nil (q_draw (sL [3, 2, 1, 0]) (dW 15 R (wnT hc93) (vLt R R) (hS := (sL [3, 2, 1, 0])) (dR 16 R (pAT R hc93 R) (hS := (sL [3, 2, 1, 0])) (dD ?_))))
 exact qJ (fun w s => (s.e 5 [4]))
 refine l_ldo (K := (kT33).share) 0 (w64 (j82 - (1 : Int))) R (wnT hc93) ag33 sz33 dT33.own R R (hg88 hc93).1 (hg88 hc93).2 ?_
 rintro ⟨⟨A89, D89⟩, ⟨A90, D90⟩⟩
 refine lN (_ :: _ :: _ :: V) ?_
 refine l_nil (q_draw (sL [1, 0]) (d1 8 R (l_ldo (K := (kT33).share) 2 j82 R (wnT hc93) ag33 sz33 dT33.own R R (hg83 hc93).1 (hg83 hc93).2 ?_)))
 rintro ⟨⟨A86, D86⟩, ⟨A87, D87⟩⟩
 refine lN (RR kT3 A86 D86 ((ix data81 j82).Key) :: RR kT3 A87 D87 ((ix data81 j82).Weights) :: _ :: _ :: _ :: V) ?_
 refine l_nil (q_draw (sL [3, 2, 1, 0]) (d1 14 R (lM (rds _ _ _ :: rds _ _ _ :: rds _ _ _ :: rds _ _ _ :: rds _ _ _ :: rds _ _ _ :: rds _ _ _ :: rds _ _ _ :: ow _ _ _ _ :: V) (fun w s => (((((s.d 0 R).d 2 R).d 4 R).d 6 R).e 9 [3, 2, 1, 0, 4, 5, 6, 7, 8])) ?_)))
 refine l_callvn (fs := []) (cs := []) 4 R (wnT hc93) cb73 R R (Z9_ok (gcall_t hx92 hc93)) R ?_
 rintro _
 refine lN (_ :: _ :: _ :: _ :: _ :: V) ?_
 refine l_nil (q_draw (sL [3, 2, 1, 0]) (dW 15 R (wnT hc93) (vLt R R) (hS := (sL [3, 2, 1, 0])) (dR 16 R (pAT R hc93 R) (hS := (sL [3, 2, 1, 0])) (dD ?_))))
 exact qJ (fun w s => (s.e 5 [4]))
 refine cdr 17 [] mixo (fun ht hn => (dR 0 R (vI R) (dR 1 R (vI R) (dR 2 R (vGt R R) (dR 3 R (vB R) (dF 4 R (wfF hc93) (dF 5 R (wfF hc93) (dF 6 R (wfF hc93) (dF 7 R (wfF hc93) (dF 8 R (wfF hc93) (dF 9 R (wfF hc93) (dF 10 R (wfF hc93) (dF 11 R (wfF hc93) (dF 12 R (wfF hc93) (dF 13 R (wfF hc93) (dF 14 R (wfF hc93) (dF 15 R (wfF hc93) (dR 16 R (pAF (decide (r91 < (0 : Int))) R hc93) (dD ?_)))))))))))))))))))
 exact qJ (fun w s => s)
 rintro σ1
 refine q_next ?_
 rcases bif_ hr with ⟨hb94, hr⟩ | ⟨hb94, hr⟩
 refine c_true R hb94 (c_skip (q_next (c_seq (c_block ?_))))
 obtain ⟨hg95, hr⟩ := gd hr
 obtain ⟨hg100, hr⟩ := gd hr
 refine cQ [(0, (sc A2 data1 D2)), (1, (iv a3)), (2, (iv b4)), (3, (.func (.func 73) [].toArray [].toArray)), (8, (iv i57)), (9, (iv j82))] (ow (kT33).share 33 (.slice A2 data1.length D2) ((data81.set j82.toNat (ix data81 (w64 (j82 - (1 : Int))))).set (w64 (j82 - (1 : Int))).toNat (ix data81 j82)) :: V) ?_ ?_
 refine c_some 0 sees_sh (show 0 < data1.length by have := hg95; omega) (fun g96 o97 ha => ?_)
 subst ha
 refine cdr 18 [0] mixo (fun ht hn => (dR 0 R (vS R) (hS := (sL [0])) (dR 1 R (vI R) (hS := (sL [0])) (dR 2 R (vS R) (hS := (sL [0])) (dR 3 R (vI R) (hS := (sL [0])) (dR 4 R (vSb R R) (hS := (sL [0])) (dR 5 R (vS R) (hS := (sL [0])) (dR 6 R (vI R) (hS := (sL [0])) (dR 7 R (vSb R R) (hS := (sL [0])) (dR 8 R (vIa sl24 sz33 R R hg95) (hS := (sL [0])) (dR 10 R (vS R) (hS := (sL [0])) (dR 11 R (vI R) (hS := (sL [0])) (dR 12 R (vIa sl24 sz33 R R hg100) (hS := (sL [0])) (d_all [9, 13] (by kernel_rfl) R ⟨?_, ?_, trivial⟩))))))))))))))
 refine l_ldo (K := (kT33).share) 0 (w64 (j82 - (1 : Int))) R R ag33 sz33 dT33.own R R hg95.1 hg95.2 ?_
 rintro ⟨⟨A98, D98⟩, ⟨A99, D99⟩⟩
 refine lN (RR kT3 A98 D98 ((ix data81 (w64 (j82 - (1 : Int)))).Key) :: RR kT3 A99 D99 ((ix data81 (w64 (j82 - (1 : Int)))).Weights) :: ow (kT33).share 33 (.slice (ad g96 o97) data1.length D2) data81 :: V) ?_
 refine l_nil (q_draw (sL [2, 1, 0]) (d1 13 R (l_ldo (K := (kT33).share) 2 j82 R R ag33 sz33 dT33.own R R hg100.1 hg100.2 ?_)))
 rintro ⟨⟨A101, D101⟩, ⟨A102, D102⟩⟩
 refine lN (RR kT3 A101 D101 ((ix data81 j82).Key) :: RR kT3 A102 D102 ((ix data81 j82).Weights) :: _ :: _ :: _ :: V) ?_
 refine l_nil (q_draw (sL [4, 3, 2, 1, 0]) (dR 14 R (vIa sl24 sz33 R R hg100) (hS := (sL [4, 3, 2, 1, 0])) (d1 15 R (lM (ow _ _ _ _ :: rds _ _ _ :: rds _ _ _ :: rds _ _ _ :: rds _ _ _ :: rds _ _ _ :: rds _ _ _ :: V) (fun w s => (((s.d 2 R).d 4 R).e 7 [6, 1, 0, 2, 3, 4, 5])) ?_))))
 refine l_stx (K := (kT33).share) (x' := (ix data81 (w64 (j82 - (1 : Int))))) 2 j82 R R sz33 R R hg100.1 hg100.2 ?_ ?_
 exact fun I h s => (mS33).put I h ((sc A98 ((ix data81 (w64 (j82 - (1 : Int)))).Key) D98), (sc A99 ((ix data81 (w64 (j82 - (1 : Int)))).Weights) D99)) (ix data81 (w64 (j82 - (1 : Int)))) s
 refine lN (ow (kT33).share 33 (.slice (ad g96 o97) data1.length D2) (data81.set j82.toNat (ix data81 (w64 (j82 - (1 : Int))))) :: _ :: _ :: _ :: _ :: V) ?_
 refine l_nil (q_draw (sL [4, 3, 2, 1, 0]) (dR 16 R (vIa sl24 sz33 R R hg95) (hS := (sL [4, 3, 2, 1, 0])) (d1 17 R (lM (ow _ _ _ _ :: rds _ _ _ :: rds _ _ _ :: rds _ _ _ :: rds _ _ _ :: rds _ _ _ :: rds _ _ _ :: V) (fun w s => (((s.d 1 R).d 3 R).e 7 [2, 1, 0, 3, 4, 5, 6])) ?_))))
 refine l_stx (K := (kT33).share) (x' := (ix data81 j82)) 2 (w64 (j82 - (1 : Int))) R R sz33 R R hg95.1 hg95.2 ?_ ?_
 exact fun I h s => (mS33).put I h ((sc A101 ((ix data81 j82).Key) D101), (sc A102 ((ix data81 j82).Weights) D102)) (ix data81 j82) s
 refine lN (ow (kT33).share 33 (.slice (ad g96 o97) data1.length D2) ((data81.set j82.toNat (ix data81 (w64 (j82 - (1 : Int))))).set (w64 (j82 - (1 : Int))).toNat (ix data81 j82)) :: _ :: _ :: _ :: _ :: V) ?_
 refine l_nil (q_draw (sL [4, 3, 2, 1, 0]) (dD ?_))
 exact qJ (fun w s => (s.e 5 [0]))
 refine l_ldo (K := (kT33).share) 0 j82 R R ag33 sz33 dT33.own R R hg100.1 hg100.2 ?_
 rintro ⟨⟨A101, D101⟩, ⟨A102, D102⟩⟩
 refine lN (_ :: _ :: ow (kT33).share 33 (.slice (ad g96 o97) data1.length D2) data81 :: V) ?_
 refine l_nil (q_draw (sL [2, 1, 0]) (d1 9 R (l_ldo (K := (kT33).share) 2 (w64 (j82 - (1 : Int))) R R ag33 sz33 dT33.own R R hg95.1 hg95.2 ?_)))
 rintro ⟨⟨A98, D98⟩, ⟨A99, D99⟩⟩
 refine lN (RR kT3 A98 D98 ((ix data81 (w64 (j82 - (1 : Int)))).Key) :: RR kT3 A99 D99 ((ix data81 (w64 (j82 - (1 : Int)))).Weights) :: _ :: _ :: _ :: V) ?_
 refine l_nil (q_draw (sL [4, 3, 2, 1, 0]) (dR 14 R (vIa sl24 sz33 R R hg100) (hS := (sL [4, 3, 2, 1, 0])) (d1 15 R (lM (ow _ _ _ _ :: rds _ _ _ :: rds _ _ _ :: rds _ _ _ :: rds _ _ _ :: rds _ _ _ :: rds _ _ _ :: V) (fun w s => (((s.d 0 R).d 2 R).e 7 [6, 1, 0, 2, 3, 4, 5])) ?_))))
 refine l_stx (K := (kT33).share) (x' := (ix data81 (w64 (j82 - (1 : Int))))) 2 j82 R R sz33 R R hg100.1 hg100.2 ?_ ?_
 exact fun I h s => (mS33).put I h ((sc A98 ((ix data81 (w64 (j82 - (1 : Int)))).Key) D98), (sc A99 ((ix data81 (w64 (j82 - (1 : Int)))).Weights) D99)) (ix data81 (w64 (j82 - (1 : Int)))) s
 refine lN (ow (kT33).share 33 (.slice (ad g96 o97) data1.length D2) (data81.set j82.toNat (ix data81 (w64 (j82 - (1 : Int))))) :: _ :: _ :: _ :: _ :: V) ?_
 refine l_nil (q_draw (sL [4, 3, 2, 1, 0]) (dR 16 R (vIa sl24 sz33 R R hg95) (hS := (sL [4, 3, 2, 1, 0])) (d1 17 R (lM (ow _ _ _ _ :: rds _ _ _ :: rds _ _ _ :: rds _ _ _ :: rds _ _ _ :: rds _ _ _ :: rds _ _ _ :: V) (fun w s => (((s.d 3 R).d 5 R).e 7 [2, 1, 0, 3, 4, 5, 6])) ?_))))
 refine l_stx (K := (kT33).share) (x' := (ix data81 j82)) 2 (w64 (j82 - (1 : Int))) R R sz33 R R hg95.1 hg95.2 ?_ ?_
 exact fun I h s => (mS33).put I h ((sc A101 ((ix data81 j82).Key) D101), (sc A102 ((ix data81 j82).Weights) D102)) (ix data81 j82) s
 refine lN (ow (kT33).share 33 (.slice (ad g96 o97) data1.length D2) ((data81.set j82.toNat (ix data81 (w64 (j82 - (1 : Int))))).set (w64 (j82 - (1 : Int))).toNat (ix data81 j82)) :: _ :: _ :: _ :: _ :: V) ?_
 refine l_nil (q_draw (sL [4, 3, 2, 1, 0]) (dD ?_))
 exact qJ (fun w s => (s.e 5 [0]))
 rintro σ1
 obtain ⟨l103, hl104, hr⟩ := bd hr
 replace hl104 := Option.some.inj hl104
 refine qM (ow (kT33).share 33 (.slice A2 data1.length D2) l103 :: V) (fun w s => by rw [← hl104]; exact s) ?_
 refine q_blockn (q_next (c_region (lI R (lO (vSb R R) (lI R (l_nil ?_))))))
 obtain rfl := so hr
 exact qA () (fun w s => s)
 refine c_false R hb94 (c_exit (q_exit ?_))
 obtain rfl := so hr
 obtain rfl := he2 _ R
 have hr := hk2
 refine q_exit (q_block (q_blockn ?_))
 exact qI (data81, ()) hr (fun w s => s)
 rintro ⟨data107, _⟩ σ1 hr
 replace hr : Zh_J2 i57 data107 = some out1 := hr
 unfold Zh_J2 at hr
 refine c_region (lI R (lO (vAd R R) (lI R (l_nil ?_))))
 obtain rfl := so hr
 exact qA () (fun w s => s)
 refine c_false R hb58 (c_exit (q_exit ?_))
 obtain rfl := so hr
 obtain rfl := he1 _ R
 have hr := hk1
 refine q_exit (q_block ?_)
 obtain rfl := so hr
 exact q_fin (vs := []) (.inr R) () R trivial R (fun w s => s)
theorem Zk_ok  {data1 : (List Row)} {lo3 : Int} {hi4 : Int} {first5 : Int} {r : (List Row)} (hr : Zk data1 lo3 hi4 first5 = some r) :
 FnOk Try.prog 102 [(.slice A2 N2 D2), (iv lo3), (iv hi4), (iv first5), (.func (.func 73) [].toArray [].toArray)] [ow (kT33).share 33 (.slice A2 N2 D2) data1] (fun (h : Unit) => ((.tuple [].toArray), [ow (kT33).share 33 (.slice A2 N2 D2) r])) := by
 unfold Zk at hr
 refine fn_ok Try.func102 R 82 R R fun C V => ?_
 refine cN (_ :: V) ?_
 refine cL 0 sees_sh ?_
 rintro rfl
 refine c_seq (c_region (lI R (lI R (l_nil (q_next (c_block ?_))))))
 obtain ⟨e1, hl1, hk1⟩ := bd hr
 refine c_loop (A := Unit) hl1 (fun s a => [(0, (sc A2 data1 D2)), (2, (iv hi4)), (3, (iv first5)), (4, (.func (.func 73) [].toArray [].toArray)), (10, (iv s.2))]) (fun s a => ow (kT33).share 33 (.slice A2 data1.length D2) s.1 :: V) () (aS R) (fun w s => s) ?_
 rintro ⟨data40, root41⟩ _ σ1 out1 hr he1
 replace hr : Zk_L1 data1 hi4 first5 data40 root41 = some out1 := hr
 unfold Zk_L1 at hr
 refine c_block (c_seq (c_region (lI R (lO (vMu R R) (lO (vAd R R) (lI R (l_nil (q_next (c_seq (c_seq (c_region (lI R (lI R (lO (vGe R R) (l_nil (q_next ?_))))))))))))))))
 rcases bif_ hr with ⟨hb42, hr⟩ | ⟨hb42, hr⟩
 refine c_true R hb42 (c_exit (q_exit (q_pass R ?_)))
 obtain rfl := so hr
 obtain rfl := he1 _ R
 have hr := hk1
 refine q_exit (q_block ?_)
 obtain rfl := so hr
 exact q_fin (vs := []) (.inr R) () R trivial R (fun w s => s)
 refine c_false R hb42 (c_skip (q_next (c_seq (c_cut (A := (Int) × (Unit)) (fun a => Zk_J3 data1 first5 data40 root41 a.1 = some out1) (fun a => [(0, (sc A2 data1 D2)), (2, (iv hi4)), (3, (iv first5)), (4, (.func (.func 73) [].toArray [].toArray)), (10, (iv root41)), (11, (iv a.1))]) (fun a => ow (kT33).share 33 (.slice A2 data1.length D2) data40 :: V) ?_ ?_))))
 refine c_seq ?_
 obtain ⟨hg43, hr⟩ := gd hr
 obtain ⟨hg48, hr⟩ := gd hr
 obtain ⟨r51, hx52, hr⟩ := bd hr
 refine cQ [(0, (sc A2 data1 D2)), (2, (iv hi4)), (3, (iv first5)), (4, (.func (.func 73) [].toArray [].toArray)), (10, (iv root41)), (11, (iv (w64 ((w64 ((2 : Int) * root41)) + (1 : Int))))), (40, (.bool ((decide ((w64 ((w64 ((w64 ((2 : Int) * root41)) + (1 : Int))) + (1 : Int))) < hi4)) && (decide (r51 < (0 : Int))))))] (ow (kT33).share 33 (.slice A2 data1.length D2) data40 :: V) ?_ ?_
 rcases bo (decide ((w64 ((w64 ((w64 ((2 : Int) * root41)) + (1 : Int))) + (1 : Int))) < hi4)) with hc53 | hc53
 refine c_some 0 sees_sh (show 0 < data1.length by have := (hg43 hc53); omega) (fun g44 o45 ha => ?_)
 subst ha
 refine cdr 22 [] mixo (fun ht hn => (dR 0 R (vI R) (dR 1 R (vAd R R) (dR 2 R (vI R) (dR 3 R (vLt R R) (dR 4 R (vB R) (dW 5 R (wnT hc53) (vp (.func (.func 73) [].toArray [].toArray) R) (dW 6 R (wnT hc53) (vS R) (dW 7 R (wnT hc53) (vI R) (dW 8 R (wnT hc53) (vI R) (dW 9 R (wnT hc53) (vAd R R) (dW 10 R (wnT hc53) (vIa sl24 sz33 R R (hg43 hc53)) (dW 12 R (wnT hc53) (vS R) (dW 13 R (wnT hc53) (vI R) (dW 14 R (wnT hc53) (vI R) (dW 15 R (wnT hc53) (vAd R R) (dW 16 R (wnT hc53) (vAd R R) (dW 17 R (wnT hc53) (vIa sl24 sz33 R R (hg48 hc53)) (d_all [11, 18] (by kernel_rfl) R ⟨?_, ?_, trivial⟩)))))))))))))))))))
 refine l_ldo (K := (kT33).share) 0 (w64 (first5 + (w64 ((w64 ((2 : Int) * root41)) + (1 : Int))))) R (wnT hc53) ag33 sz33 dT33.own R R (hg43 hc53).1 (hg43 hc53).2 ?_
 rintro ⟨⟨A46, D46⟩, ⟨A47, D47⟩⟩
 refine lN (RR kT3 A46 D46 ((ix data40 (w64 (first5 + (w64 ((w64 ((2 : Int) * root41)) + (1 : Int)))))).Key) :: RR kT3 A47 D47 ((ix data40 (w64 (first5 + (w64 ((w64 ((2 : Int) * root41)) + (1 : Int)))))).Weights) :: ow (kT33).share 33 (.slice (ad g44 o45) data1.length D2) data40 :: V) ?_
 refine l_nil (q_draw (sL [1, 0]) (d1 18 R (l_ldo (K := (kT33).share) 2 (w64 ((w64 (first5 + (w64 ((w64 ((2 : Int) * root41)) + (1 : Int))))) + (1 : Int))) R (wnT hc53) ag33 sz33 dT33.own R R (hg48 hc53).1 (hg48 hc53).2 ?_)))
 rintro ⟨⟨A49, D49⟩, ⟨A50, D50⟩⟩
 refine lN (RR kT3 A49 D49 ((ix data40 (w64 ((w64 (first5 + (w64 ((w64 ((2 : Int) * root41)) + (1 : Int))))) + (1 : Int)))).Key) :: RR kT3 A50 D50 ((ix data40 (w64 ((w64 (first5 + (w64 ((w64 ((2 : Int) * root41)) + (1 : Int))))) + (1 : Int)))).Weights) :: _ :: _ :: _ :: V) ?_
 refine l_nil (q_draw (sL [3, 2, 1, 0]) (d1 19 R (lM (rds _ _ _ :: rds _ _ _ :: rds _ _ _ :: rds _ _ _ :: rds _ _ _ :: rds _ _ _ :: rds _ _ _ :: rds _ _ _ :: ow _ _ _ _ :: V) (fun w s => (((((s.d 2 R).d 4 R).d 2 R).d 4 R).e 9 [3, 2, 1, 0, 4, 5, 6, 7, 8])) ?_)))
 refine l_callvn (fs := []) (cs := []) 4 R (wnT hc53) cb73 R R (Z9_ok (gcall_t hx52 hc53)) R ?_
 rintro _
 refine lN (_ :: _ :: _ :: _ :: _ :: V) ?_
 refine l_nil (q_draw (sL [3, 2, 1, 0]) (dW 20 R (wnT hc53) (vLt R R) (hS := (sL [3, 2, 1, 0])) (dR 21 R (pAT R hc53 R) (hS := (sL [3, 2, 1, 0])) (dD ?_))))
 exact qJ (fun w s => (s.e 5 [4]))
 refine l_ldo (K := (kT33).share) 0 (w64 ((w64 (first5 + (w64 ((w64 ((2 : Int) * root41)) + (1 : Int))))) + (1 : Int))) R (wnT hc53) ag33 sz33 dT33.own R R (hg48 hc53).1 (hg48 hc53).2 ?_
 rintro ⟨⟨A49, D49⟩, ⟨A50, D50⟩⟩
 refine lN (_ :: _ :: _ :: V) ?_
 refine l_nil (q_draw (sL [1, 0]) (d1 11 R (l_ldo (K := (kT33).share) 2 (w64 (first5 + (w64 ((w64 ((2 : Int) * root41)) + (1 : Int))))) R (wnT hc53) ag33 sz33 dT33.own R R (hg43 hc53).1 (hg43 hc53).2 ?_)))
 rintro ⟨⟨A46, D46⟩, ⟨A47, D47⟩⟩
 refine lN (RR kT3 A46 D46 ((ix data40 (w64 (first5 + (w64 ((w64 ((2 : Int) * root41)) + (1 : Int)))))).Key) :: RR kT3 A47 D47 ((ix data40 (w64 (first5 + (w64 ((w64 ((2 : Int) * root41)) + (1 : Int)))))).Weights) :: _ :: _ :: _ :: V) ?_
 refine l_nil (q_draw (sL [3, 2, 1, 0]) (d1 19 R (lM (rds _ _ _ :: rds _ _ _ :: rds _ _ _ :: rds _ _ _ :: rds _ _ _ :: rds _ _ _ :: rds _ _ _ :: rds _ _ _ :: ow _ _ _ _ :: V) (fun w s => (((((s.d 0 R).d 2 R).d 4 R).d 6 R).e 9 [3, 2, 1, 0, 4, 5, 6, 7, 8])) ?_)))
 refine l_callvn (fs := []) (cs := []) 4 R (wnT hc53) cb73 R R (Z9_ok (gcall_t hx52 hc53)) R ?_
 rintro _
 refine lN (_ :: _ :: _ :: _ :: _ :: V) ?_
 refine l_nil (q_draw (sL [3, 2, 1, 0]) (dW 20 R (wnT hc53) (vLt R R) (hS := (sL [3, 2, 1, 0])) (dR 21 R (pAT R hc53 R) (hS := (sL [3, 2, 1, 0])) (dD ?_))))
 exact qJ (fun w s => (s.e 5 [4]))
 refine cdr 22 [] mixo (fun ht hn => (dR 0 R (vI R) (dR 1 R (vAd R R) (dR 2 R (vI R) (dR 3 R (vLt R R) (dR 4 R (vB R) (dF 5 R (wfF hc53) (dF 6 R (wfF hc53) (dF 7 R (wfF hc53) (dF 8 R (wfF hc53) (dF 9 R (wfF hc53) (dF 10 R (wfF hc53) (dF 11 R (wfF hc53) (dF 12 R (wfF hc53) (dF 13 R (wfF hc53) (dF 14 R (wfF hc53) (dF 15 R (wfF hc53) (dF 16 R (wfF hc53) (dF 17 R (wfF hc53) (dF 18 R (wfF hc53) (dF 19 R (wfF hc53) (dF 20 R (wfF hc53) (dR 21 R (pAF (decide (r51 < (0 : Int))) R hc53) (dD ?_))))))))))))))))))))))))
 exact qJ (fun w s => s)
 rintro σ1
 refine q_next ?_
 rcases bif_ hr with ⟨hb54, hr⟩ | ⟨hb54, hr⟩
 refine c_true R hb54 (c_region (lI R (lO (vAd R R) (lI R (l_nil ?_)))))
 exact qI ((w64 ((w64 ((w64 ((2 : Int) * root41)) + (1 : Int))) + (1 : Int))), ()) hr (fun w s => s)
 refine c_false R hb54 (c_skip ?_)
 exact qI ((w64 ((w64 ((2 : Int) * root41)) + (1 : Int))), ()) hr (fun w s => s)
 rintro ⟨child55, _⟩ σ1 hr
 replace hr : Zk_J3 data1 first5 data40 root41 child55 = some out1 := hr
 unfold Zk_J3 at hr
 refine c_seq (c_seq ?_)
 obtain ⟨hg56, hr⟩ := gd hr
 obtain ⟨hg61, hr⟩ := gd hr
 obtain ⟨r64, hx65, hr⟩ := bd hr
 refine cQ [(0, (sc A2 data1 D2)), (2, (iv hi4)), (3, (iv first5)), (4, (.func (.func 73) [].toArray [].toArray)), (10, (iv root41)), (11, (iv child55)), (58, (.bool (!(decide (r64 < (0 : Int))))))] (ow (kT33).share 33 (.slice A2 data1.length D2) data40 :: V) ?_ ?_
 refine c_some 0 sees_sh (show 0 < data1.length by have := hg56; omega) (fun g57 o58 ha => ?_)
 subst ha
 refine cdr 16 [] mixo (fun ht hn => (dR 0 R (vp (.func (.func 73) [].toArray [].toArray) R) (dR 1 R (vS R) (dR 2 R (vI R) (dR 3 R (vI R) (dR 4 R (vAd R R) (dR 5 R (vIa sl24 sz33 R R hg56) (dR 7 R (vS R) (dR 8 R (vI R) (dR 9 R (vI R) (dR 10 R (vAd R R) (dR 11 R (vIa sl24 sz33 R R hg61) (d_all [6, 12] (by kernel_rfl) R ⟨?_, ?_, trivial⟩)))))))))))))
 refine l_ldo (K := (kT33).share) 0 (w64 (first5 + root41)) R R ag33 sz33 dT33.own R R hg56.1 hg56.2 ?_
 rintro ⟨⟨A59, D59⟩, ⟨A60, D60⟩⟩
 refine lN (RR kT3 A59 D59 ((ix data40 (w64 (first5 + root41))).Key) :: RR kT3 A60 D60 ((ix data40 (w64 (first5 + root41))).Weights) :: ow (kT33).share 33 (.slice (ad g57 o58) data1.length D2) data40 :: V) ?_
 refine l_nil (q_draw (sL [1, 0]) (d1 12 R (l_ldo (K := (kT33).share) 2 (w64 (first5 + child55)) R R ag33 sz33 dT33.own R R hg61.1 hg61.2 ?_)))
 rintro ⟨⟨A62, D62⟩, ⟨A63, D63⟩⟩
 refine lN (RR kT3 A62 D62 ((ix data40 (w64 (first5 + child55))).Key) :: RR kT3 A63 D63 ((ix data40 (w64 (first5 + child55))).Weights) :: _ :: _ :: _ :: V) ?_
 refine l_nil (q_draw (sL [3, 2, 1, 0]) (d1 13 R (lM (rds _ _ _ :: rds _ _ _ :: rds _ _ _ :: rds _ _ _ :: rds _ _ _ :: rds _ _ _ :: rds _ _ _ :: rds _ _ _ :: ow _ _ _ _ :: V) (fun w s => (((((s.d 2 R).d 4 R).d 2 R).d 4 R).e 9 [3, 2, 1, 0, 4, 5, 6, 7, 8])) ?_)))
 refine l_callvn (fs := []) (cs := []) 4 R R cb73 R R (Z9_ok hx65) R ?_
 rintro _
 refine lN (_ :: _ :: _ :: _ :: _ :: V) ?_
 refine l_nil (q_draw (sL [3, 2, 1, 0]) (dR 14 R (vLt R R) (hS := (sL [3, 2, 1, 0])) (dR 15 R (vNo R) (hS := (sL [3, 2, 1, 0])) (dD ?_))))
 exact qJ (fun w s => (s.e 5 [4]))
 refine l_ldo (K := (kT33).share) 0 (w64 (first5 + child55)) R R ag33 sz33 dT33.own R R hg61.1 hg61.2 ?_
 rintro ⟨⟨A62, D62⟩, ⟨A63, D63⟩⟩
 refine lN (_ :: _ :: _ :: V) ?_
 refine l_nil (q_draw (sL [1, 0]) (d1 6 R (l_ldo (K := (kT33).share) 2 (w64 (first5 + root41)) R R ag33 sz33 dT33.own R R hg56.1 hg56.2 ?_)))
 rintro ⟨⟨A59, D59⟩, ⟨A60, D60⟩⟩
 refine lN (RR kT3 A59 D59 ((ix data40 (w64 (first5 + root41))).Key) :: RR kT3 A60 D60 ((ix data40 (w64 (first5 + root41))).Weights) :: _ :: _ :: _ :: V) ?_
 refine l_nil (q_draw (sL [3, 2, 1, 0]) (d1 13 R (lM (rds _ _ _ :: rds _ _ _ :: rds _ _ _ :: rds _ _ _ :: rds _ _ _ :: rds _ _ _ :: rds _ _ _ :: rds _ _ _ :: ow _ _ _ _ :: V) (fun w s => (((((s.d 0 R).d 2 R).d 4 R).d 6 R).e 9 [3, 2, 1, 0, 4, 5, 6, 7, 8])) ?_)))
 refine l_callvn (fs := []) (cs := []) 4 R R cb73 R R (Z9_ok hx65) R ?_
 rintro _
 refine lN (_ :: _ :: _ :: _ :: _ :: V) ?_
 refine l_nil (q_draw (sL [3, 2, 1, 0]) (dR 14 R (vLt R R) (hS := (sL [3, 2, 1, 0])) (dR 15 R (vNo R) (hS := (sL [3, 2, 1, 0])) (dD ?_))))
 exact qJ (fun w s => (s.e 5 [4]))
 rintro σ1
 refine q_next ?_
 rcases bif_ hr with ⟨hb66, hr⟩ | ⟨hb66, hr⟩
 refine c_true R hb66 (c_ret (q_ret (q_blockr ?_)))
 obtain rfl := so hr
 obtain rfl := he1 _ R
 have hr := hk1
 refine q_ret (q_blockr ?_)
 obtain rfl := so hr
 exact q_fin (vs := []) (.inl R) () R trivial R (fun w s => s)
 refine c_false R hb66 (c_skip (q_next (c_seq (cQ [(0, (sc A2 data1 D2)), (2, (iv hi4)), (3, (iv first5)), (4, (.func (.func 73) [].toArray [].toArray)), (11, (iv child55))] (ow (kT33).share 33 (.slice A2 data1.length D2) ((data40.set (w64 (first5 + root41)).toNat (ix data40 (w64 (first5 + child55)))).set (w64 (first5 + child55)).toNat (ix data40 (w64 (first5 + root41)))) :: V) ?_ ?_))))
 refine c_some 0 sees_sh (show 0 < data1.length by have := hg61; omega) (fun g67 o68 ha => ?_)
 subst ha
 refine cdr 24 [0] mixo (fun ht hn => (dR 0 R (vS R) (hS := (sL [0])) (dR 1 R (vI R) (hS := (sL [0])) (dR 2 R (vI R) (hS := (sL [0])) (dR 3 R (vAd R R) (hS := (sL [0])) (dR 4 R (vS R) (hS := (sL [0])) (dR 5 R (vI R) (hS := (sL [0])) (dR 6 R (vI R) (hS := (sL [0])) (dR 7 R (vAd R R) (hS := (sL [0])) (dR 8 R (vS R) (hS := (sL [0])) (dR 9 R (vI R) (hS := (sL [0])) (dR 10 R (vI R) (hS := (sL [0])) (dR 11 R (vAd R R) (hS := (sL [0])) (dR 12 R (vIa sl24 sz33 R R hg61) (hS := (sL [0])) (dR 14 R (vS R) (hS := (sL [0])) (dR 15 R (vI R) (hS := (sL [0])) (dR 16 R (vI R) (hS := (sL [0])) (dR 17 R (vAd R R) (hS := (sL [0])) (dR 18 R (vIa sl24 sz33 R R hg56) (hS := (sL [0])) (d_all [13, 19] (by kernel_rfl) R ⟨?_, ?_, trivial⟩))))))))))))))))))))
 refine l_ldo (K := (kT33).share) 0 (w64 (first5 + child55)) R R ag33 sz33 dT33.own R R hg61.1 hg61.2 ?_
 rintro ⟨⟨A69, D69⟩, ⟨A70, D70⟩⟩
 refine lN (RR kT3 A69 D69 ((ix data40 (w64 (first5 + child55))).Key) :: RR kT3 A70 D70 ((ix data40 (w64 (first5 + child55))).Weights) :: ow (kT33).share 33 (.slice (ad g67 o68) data1.length D2) data40 :: V) ?_
 refine l_nil (q_draw (sL [2, 1, 0]) (d1 19 R (l_ldo (K := (kT33).share) 2 (w64 (first5 + root41)) R R ag33 sz33 dT33.own R R hg56.1 hg56.2 ?_)))
 rintro ⟨⟨A71, D71⟩, ⟨A72, D72⟩⟩
 refine lN (RR kT3 A71 D71 ((ix data40 (w64 (first5 + root41))).Key) :: RR kT3 A72 D72 ((ix data40 (w64 (first5 + root41))).Weights) :: _ :: _ :: _ :: V) ?_
 refine l_nil (q_draw (sL [4, 3, 2, 1, 0]) (dR 20 R (vIa sl24 sz33 R R hg56) (hS := (sL [4, 3, 2, 1, 0])) (d1 21 R (lM (ow _ _ _ _ :: rds _ _ _ :: rds _ _ _ :: rds _ _ _ :: rds _ _ _ :: rds _ _ _ :: rds _ _ _ :: V) (fun w s => (((s.d 2 R).d 4 R).e 7 [6, 1, 0, 2, 3, 4, 5])) ?_))))
 refine l_stx (K := (kT33).share) (x' := (ix data40 (w64 (first5 + child55)))) 2 (w64 (first5 + root41)) R R sz33 R R hg56.1 hg56.2 ?_ ?_
 exact fun I h s => (mS33).put I h ((sc A69 ((ix data40 (w64 (first5 + child55))).Key) D69), (sc A70 ((ix data40 (w64 (first5 + child55))).Weights) D70)) (ix data40 (w64 (first5 + child55))) s
 refine lN (ow (kT33).share 33 (.slice (ad g67 o68) data1.length D2) (data40.set (w64 (first5 + root41)).toNat (ix data40 (w64 (first5 + child55)))) :: _ :: _ :: _ :: _ :: V) ?_
 refine l_nil (q_draw (sL [4, 3, 2, 1, 0]) (dR 22 R (vIa sl24 sz33 R R hg61) (hS := (sL [4, 3, 2, 1, 0])) (d1 23 R (lM (ow _ _ _ _ :: rds _ _ _ :: rds _ _ _ :: rds _ _ _ :: rds _ _ _ :: rds _ _ _ :: rds _ _ _ :: V) (fun w s => (((s.d 1 R).d 3 R).e 7 [2, 1, 0, 3, 4, 5, 6])) ?_))))
 refine l_stx (K := (kT33).share) (x' := (ix data40 (w64 (first5 + root41)))) 2 (w64 (first5 + child55)) R R sz33 R R hg61.1 hg61.2 ?_ ?_
 exact fun I h s => (mS33).put I h ((sc A71 ((ix data40 (w64 (first5 + root41))).Key) D71), (sc A72 ((ix data40 (w64 (first5 + root41))).Weights) D72)) (ix data40 (w64 (first5 + root41))) s
 refine lN (ow (kT33).share 33 (.slice (ad g67 o68) data1.length D2) ((data40.set (w64 (first5 + root41)).toNat (ix data40 (w64 (first5 + child55)))).set (w64 (first5 + child55)).toNat (ix data40 (w64 (first5 + root41)))) :: _ :: _ :: _ :: _ :: V) ?_
 refine l_nil (q_draw (sL [4, 3, 2, 1, 0]) (dD ?_))
 exact qJ (fun w s => (s.e 5 [0]))
 refine l_ldo (K := (kT33).share) 0 (w64 (first5 + root41)) R R ag33 sz33 dT33.own R R hg56.1 hg56.2 ?_
 rintro ⟨⟨A71, D71⟩, ⟨A72, D72⟩⟩
 refine lN (_ :: _ :: ow (kT33).share 33 (.slice (ad g67 o68) data1.length D2) data40 :: V) ?_
 refine l_nil (q_draw (sL [2, 1, 0]) (d1 13 R (l_ldo (K := (kT33).share) 2 (w64 (first5 + child55)) R R ag33 sz33 dT33.own R R hg61.1 hg61.2 ?_)))
 rintro ⟨⟨A69, D69⟩, ⟨A70, D70⟩⟩
 refine lN (RR kT3 A69 D69 ((ix data40 (w64 (first5 + child55))).Key) :: RR kT3 A70 D70 ((ix data40 (w64 (first5 + child55))).Weights) :: _ :: _ :: _ :: V) ?_
 refine l_nil (q_draw (sL [4, 3, 2, 1, 0]) (dR 20 R (vIa sl24 sz33 R R hg56) (hS := (sL [4, 3, 2, 1, 0])) (d1 21 R (lM (ow _ _ _ _ :: rds _ _ _ :: rds _ _ _ :: rds _ _ _ :: rds _ _ _ :: rds _ _ _ :: rds _ _ _ :: V) (fun w s => (((s.d 0 R).d 2 R).e 7 [6, 1, 0, 2, 3, 4, 5])) ?_))))
 refine l_stx (K := (kT33).share) (x' := (ix data40 (w64 (first5 + child55)))) 2 (w64 (first5 + root41)) R R sz33 R R hg56.1 hg56.2 ?_ ?_
 exact fun I h s => (mS33).put I h ((sc A69 ((ix data40 (w64 (first5 + child55))).Key) D69), (sc A70 ((ix data40 (w64 (first5 + child55))).Weights) D70)) (ix data40 (w64 (first5 + child55))) s
 refine lN (ow (kT33).share 33 (.slice (ad g67 o68) data1.length D2) (data40.set (w64 (first5 + root41)).toNat (ix data40 (w64 (first5 + child55)))) :: _ :: _ :: _ :: _ :: V) ?_
 refine l_nil (q_draw (sL [4, 3, 2, 1, 0]) (dR 22 R (vIa sl24 sz33 R R hg61) (hS := (sL [4, 3, 2, 1, 0])) (d1 23 R (lM (ow _ _ _ _ :: rds _ _ _ :: rds _ _ _ :: rds _ _ _ :: rds _ _ _ :: rds _ _ _ :: rds _ _ _ :: V) (fun w s => (((s.d 3 R).d 5 R).e 7 [2, 1, 0, 3, 4, 5, 6])) ?_))))
 refine l_stx (K := (kT33).share) (x' := (ix data40 (w64 (first5 + root41)))) 2 (w64 (first5 + child55)) R R sz33 R R hg61.1 hg61.2 ?_ ?_
 exact fun I h s => (mS33).put I h ((sc A71 ((ix data40 (w64 (first5 + root41))).Key) D71), (sc A72 ((ix data40 (w64 (first5 + root41))).Weights) D72)) (ix data40 (w64 (first5 + root41))) s
 refine lN (ow (kT33).share 33 (.slice (ad g67 o68) data1.length D2) ((data40.set (w64 (first5 + root41)).toNat (ix data40 (w64 (first5 + child55)))).set (w64 (first5 + child55)).toNat (ix data40 (w64 (first5 + root41)))) :: _ :: _ :: _ :: _ :: V) ?_
 refine l_nil (q_draw (sL [4, 3, 2, 1, 0]) (dD ?_))
 exact qJ (fun w s => (s.e 5 [0]))
 rintro σ1
 obtain ⟨l73, hl74, hr⟩ := bd hr
 replace hl74 := Option.some.inj hl74
 refine qM (ow (kT33).share 33 (.slice A2 data1.length D2) l73 :: V) (fun w s => by rw [← hl74]; exact s) ?_
 refine q_next (c_region (lI R (lI R (l_nil (q_blockn ?_)))))
 obtain rfl := so hr
 exact qA () (fun w s => s)
theorem Zi_ok  {data1 : (List Row)} {a3 : Int} {b4 : Int} {r : (List Row)} (hr : Zi data1 a3 b4 = some r) :
 FnOk Try.prog 92 [(.slice A2 N2 D2), (iv a3), (iv b4), (.func (.func 73) [].toArray [].toArray)] [ow (kT33).share 33 (.slice A2 N2 D2) data1] (fun (h : Unit) => ((.tuple [].toArray), [ow (kT33).share 33 (.slice A2 N2 D2) r])) := by
 unfold Zi at hr
 refine fn_ok Try.func92 R 60 R R fun C V => ?_
 refine cN (_ :: V) ?_
 refine cL 0 sees_sh ?_
 rintro rfl
 refine c_seq (c_region (lI R (lI R (l_nil (q_next (c_seq (c_region (lI R (l_nil (q_next (c_seq (c_region (lI R (lI R (lO (vSb R R) (lI R (l_nil (q_next (c_seq (c_cut (A := ((List Row)) × (Unit)) (fun a => Zi_J1 data1 a3 b4 a.1 = some r) (fun a => [(0, (sc A2 data1 D2)), (3, (.func (.func 73) [].toArray [].toArray)), (8, (iv a3)), (9, (iv 0)), (10, (iv (w64 (b4 - a3))))]) (fun a => ow (kT33).share 33 (.slice A2 data1.length D2) a.1 :: V) ?_ ?_))))))))))))))))))))
 refine c_seq (c_region (lI R (lO (vSb R R) (lO (vz (iv (w64 ((w64 ((w64 (b4 - a3)) - (1 : Int))).tdiv (2 : Int)))) (v_quo R R (by decide))) (lI R (l_nil (q_next (c_block ?_))))))))
 obtain ⟨e1, hl1, hk1⟩ := bd hr
 refine c_loop (A := Unit) hl1 (fun s a => [(0, (sc A2 data1 D2)), (3, (.func (.func 73) [].toArray [].toArray)), (8, (iv a3)), (9, (iv 0)), (10, (iv (w64 (b4 - a3)))), (11, (iv s.2))]) (fun s a => ow (kT33).share 33 (.slice A2 data1.length D2) s.1 :: V) () (aS R) (fun w s => s) ?_
 rintro ⟨data9, i10⟩ _ σ1 out1 hr he1
 replace hr : Zi_L1 a3 b4 data9 i10 = some out1 := hr
 unfold Zi_L1 at hr
 refine c_seq (c_seq (c_region (lI R (lO (vGe R R) (l_nil (q_next ?_))))))
 rcases bif_ hr with ⟨hb11, hr⟩ | ⟨hb11, hr⟩
 refine c_true R hb11 (c_skip (q_next (c_seq (c_block ?_))))
 obtain ⟨r12, hx13, hr⟩ := bd hr
 refine c_region (lS R (lI R (lI R (lI R (lO (vp (.func (.func 73) [].toArray [].toArray) R) (lC 1 cb102 R (Zk_ok hx13) R ?_))))))
 rintro _
 refine lN (ow (kT33).share 33 (.slice A2 data1.length D2) r12 :: V) ?_
 refine l_nil (q_blockn (q_next (c_region (lI R (lO (vSb R R) (lI R (l_nil ?_)))))))
 obtain rfl := so hr
 exact qA () (fun w s => s)
 refine c_false R hb11 (c_exit (q_exit ?_))
 obtain rfl := so hr
 obtain rfl := he1 _ R
 have hr := hk1
 refine q_exit (q_block ?_)
 exact qI (data9, ()) hr (fun w s => s)
 rintro ⟨data16, _⟩ σ1 hr
 replace hr : Zi_J1 data1 a3 b4 data16 = some r := hr
 unfold Zi_J1 at hr
 refine c_seq (c_region (lI R (lO (vSb R R) (lI R (l_nil (q_next (c_block ?_)))))))
 obtain ⟨e2, hl2, hk2⟩ := bd hr
 refine c_loop (A := Unit) hl2 (fun s a => [(0, (sc A2 data1 D2)), (3, (.func (.func 73) [].toArray [].toArray)), (8, (iv a3)), (9, (iv 0)), (12, (iv s.2))]) (fun s a => ow (kT33).share 33 (.slice A2 data1.length D2) s.1 :: V) () (aS R) (fun w s => s) ?_
 rintro ⟨data30, i31⟩ _ σ1 out2 hr he2
 replace hr : Zi_L2 data1 a3 data30 i31 = some out2 := hr
 unfold Zi_L2 at hr
 refine c_seq (c_seq (c_region (lI R (lO (vGe R R) (l_nil (q_next ?_))))))
 rcases bif_ hr with ⟨hb32, hr⟩ | ⟨hb32, hr⟩
 refine c_true R hb32 (c_skip (q_next (c_seq (c_block (c_seq ?_)))))
 obtain ⟨hg33, hr⟩ := gd hr
 obtain ⟨hg38, hr⟩ := gd hr
 refine cQ [(0, (sc A2 data1 D2)), (3, (.func (.func 73) [].toArray [].toArray)), (8, (iv a3)), (9, (iv 0)), (12, (iv i31))] (ow (kT33).share 33 (.slice A2 data1.length D2) ((data30.set a3.toNat (ix data30 (w64 (a3 + i31)))).set (w64 (a3 + i31)).toNat (ix data30 a3)) :: V) ?_ ?_
 refine c_some 0 sees_sh (show 0 < data1.length by have := hg33; omega) (fun g34 o35 ha => ?_)
 subst ha
 refine cdr 20 [0] mixo (fun ht hn => (dR 0 R (vS R) (hS := (sL [0])) (dR 1 R (vI R) (hS := (sL [0])) (dR 2 R (vS R) (hS := (sL [0])) (dR 3 R (vI R) (hS := (sL [0])) (dR 4 R (vI R) (hS := (sL [0])) (dR 5 R (vAd R R) (hS := (sL [0])) (dR 6 R (vS R) (hS := (sL [0])) (dR 7 R (vI R) (hS := (sL [0])) (dR 8 R (vI R) (hS := (sL [0])) (dR 9 R (vAd R R) (hS := (sL [0])) (dR 10 R (vIa sl24 sz33 R R hg33) (hS := (sL [0])) (dR 12 R (vS R) (hS := (sL [0])) (dR 13 R (vI R) (hS := (sL [0])) (dR 14 R (vIa sl24 sz33 R R hg38) (hS := (sL [0])) (d_all [11, 15] (by kernel_rfl) R ⟨?_, ?_, trivial⟩))))))))))))))))
 refine l_ldo (K := (kT33).share) 0 (w64 (a3 + i31)) R R ag33 sz33 dT33.own R R hg33.1 hg33.2 ?_
 rintro ⟨⟨A36, D36⟩, ⟨A37, D37⟩⟩
 refine lN (RR kT3 A36 D36 ((ix data30 (w64 (a3 + i31))).Key) :: RR kT3 A37 D37 ((ix data30 (w64 (a3 + i31))).Weights) :: ow (kT33).share 33 (.slice (ad g34 o35) data1.length D2) data30 :: V) ?_
 refine l_nil (q_draw (sL [2, 1, 0]) (d1 15 R (l_ldo (K := (kT33).share) 2 a3 R R ag33 sz33 dT33.own R R hg38.1 hg38.2 ?_)))
 rintro ⟨⟨A39, D39⟩, ⟨A40, D40⟩⟩
 refine lN (RR kT3 A39 D39 ((ix data30 a3).Key) :: RR kT3 A40 D40 ((ix data30 a3).Weights) :: _ :: _ :: _ :: V) ?_
 refine l_nil (q_draw (sL [4, 3, 2, 1, 0]) (dR 16 R (vIa sl24 sz33 R R hg38) (hS := (sL [4, 3, 2, 1, 0])) (d1 17 R (lM (ow _ _ _ _ :: rds _ _ _ :: rds _ _ _ :: rds _ _ _ :: rds _ _ _ :: rds _ _ _ :: rds _ _ _ :: V) (fun w s => (((s.d 2 R).d 4 R).e 7 [6, 1, 0, 2, 3, 4, 5])) ?_))))
 refine l_stx (K := (kT33).share) (x' := (ix data30 (w64 (a3 + i31)))) 2 a3 R R sz33 R R hg38.1 hg38.2 ?_ ?_
 exact fun I h s => (mS33).put I h ((sc A36 ((ix data30 (w64 (a3 + i31))).Key) D36), (sc A37 ((ix data30 (w64 (a3 + i31))).Weights) D37)) (ix data30 (w64 (a3 + i31))) s
 refine lN (ow (kT33).share 33 (.slice (ad g34 o35) data1.length D2) (data30.set a3.toNat (ix data30 (w64 (a3 + i31)))) :: _ :: _ :: _ :: _ :: V) ?_
 refine l_nil (q_draw (sL [4, 3, 2, 1, 0]) (dR 18 R (vIa sl24 sz33 R R hg33) (hS := (sL [4, 3, 2, 1, 0])) (d1 19 R (lM (ow _ _ _ _ :: rds _ _ _ :: rds _ _ _ :: rds _ _ _ :: rds _ _ _ :: rds _ _ _ :: rds _ _ _ :: V) (fun w s => (((s.d 1 R).d 3 R).e 7 [2, 1, 0, 3, 4, 5, 6])) ?_))))
 refine l_stx (K := (kT33).share) (x' := (ix data30 a3)) 2 (w64 (a3 + i31)) R R sz33 R R hg33.1 hg33.2 ?_ ?_
 exact fun I h s => (mS33).put I h ((sc A39 ((ix data30 a3).Key) D39), (sc A40 ((ix data30 a3).Weights) D40)) (ix data30 a3) s
 refine lN (ow (kT33).share 33 (.slice (ad g34 o35) data1.length D2) ((data30.set a3.toNat (ix data30 (w64 (a3 + i31)))).set (w64 (a3 + i31)).toNat (ix data30 a3)) :: _ :: _ :: _ :: _ :: V) ?_
 refine l_nil (q_draw (sL [4, 3, 2, 1, 0]) (dD ?_))
 exact qJ (fun w s => (s.e 5 [0]))
 refine l_ldo (K := (kT33).share) 0 a3 R R ag33 sz33 dT33.own R R hg38.1 hg38.2 ?_
 rintro ⟨⟨A39, D39⟩, ⟨A40, D40⟩⟩
 refine lN (_ :: _ :: ow (kT33).share 33 (.slice (ad g34 o35) data1.length D2) data30 :: V) ?_
 refine l_nil (q_draw (sL [2, 1, 0]) (d1 11 R (l_ldo (K := (kT33).share) 2 (w64 (a3 + i31)) R R ag33 sz33 dT33.own R R hg33.1 hg33.2 ?_)))
 rintro ⟨⟨A36, D36⟩, ⟨A37, D37⟩⟩
 refine lN (RR kT3 A36 D36 ((ix data30 (w64 (a3 + i31))).Key) :: RR kT3 A37 D37 ((ix data30 (w64 (a3 + i31))).Weights) :: _ :: _ :: _ :: V) ?_
 refine l_nil (q_draw (sL [4, 3, 2, 1, 0]) (dR 16 R (vIa sl24 sz33 R R hg38) (hS := (sL [4, 3, 2, 1, 0])) (d1 17 R (lM (ow _ _ _ _ :: rds _ _ _ :: rds _ _ _ :: rds _ _ _ :: rds _ _ _ :: rds _ _ _ :: rds _ _ _ :: V) (fun w s => (((s.d 0 R).d 2 R).e 7 [6, 1, 0, 2, 3, 4, 5])) ?_))))
 refine l_stx (K := (kT33).share) (x' := (ix data30 (w64 (a3 + i31)))) 2 a3 R R sz33 R R hg38.1 hg38.2 ?_ ?_
 exact fun I h s => (mS33).put I h ((sc A36 ((ix data30 (w64 (a3 + i31))).Key) D36), (sc A37 ((ix data30 (w64 (a3 + i31))).Weights) D37)) (ix data30 (w64 (a3 + i31))) s
 refine lN (ow (kT33).share 33 (.slice (ad g34 o35) data1.length D2) (data30.set a3.toNat (ix data30 (w64 (a3 + i31)))) :: _ :: _ :: _ :: _ :: V) ?_
 refine l_nil (q_draw (sL [4, 3, 2, 1, 0]) (dR 18 R (vIa sl24 sz33 R R hg33) (hS := (sL [4, 3, 2, 1, 0])) (d1 19 R (lM (ow _ _ _ _ :: rds _ _ _ :: rds _ _ _ :: rds _ _ _ :: rds _ _ _ :: rds _ _ _ :: rds _ _ _ :: V) (fun w s => (((s.d 3 R).d 5 R).e 7 [2, 1, 0, 3, 4, 5, 6])) ?_))))
 refine l_stx (K := (kT33).share) (x' := (ix data30 a3)) 2 (w64 (a3 + i31)) R R sz33 R R hg33.1 hg33.2 ?_ ?_
 exact fun I h s => (mS33).put I h ((sc A39 ((ix data30 a3).Key) D39), (sc A40 ((ix data30 a3).Weights) D40)) (ix data30 a3) s
 refine lN (ow (kT33).share 33 (.slice (ad g34 o35) data1.length D2) ((data30.set a3.toNat (ix data30 (w64 (a3 + i31)))).set (w64 (a3 + i31)).toNat (ix data30 a3)) :: _ :: _ :: _ :: _ :: V) ?_
 refine l_nil (q_draw (sL [4, 3, 2, 1, 0]) (dD ?_))
 exact qJ (fun w s => (s.e 5 [0]))
 rintro σ1
 obtain ⟨l41, hl42, hr⟩ := bd hr
 replace hl42 := Option.some.inj hl42
 refine qM (ow (kT33).share 33 (.slice A2 data1.length D2) l41 :: V) (fun w s => by rw [← hl42]; exact s) ?_
 refine q_next ?_
 obtain ⟨r43, hx44, hr⟩ := bd hr
 refine c_region (lS R (lI R (lI R (lI R (lO (vp (.func (.func 73) [].toArray [].toArray) R) (lC 1 cb102 R (Zk_ok hx44) R ?_))))))
 rintro _
 refine lN (ow (kT33).share 33 (.slice A2 data1.length D2) r43 :: V) ?_
 refine l_nil (q_blockn (q_next (c_region (lI R (lO (vSb R R) (lI R (l_nil ?_)))))))
 obtain rfl := so hr
 exact qA () (fun w s => s)
 refine c_false R hb32 (c_exit (q_exit ?_))
 obtain rfl := so hr
 obtain rfl := he2 _ R
 have hr := hk2
 refine q_exit (q_block ?_)
 obtain rfl := so hr
 exact q_fin (vs := []) (.inr R) () R trivial R (fun w s => s)
theorem Z0t_ok  {data1 : (List Row)} {a3 : Int} {b4 : Int} {swaps5 : Int} {b6 : Nat} {r : Int × Int × Int} (hr : Z0t data1 a3 b4 swaps5 = some r) :
 FnOk Try.prog 109 [(.slice A2 N2 D2), (iv a3), (iv b4), (pt b6 0), (.func (.func 73) [].toArray [].toArray)] [rds kT33 (.slice A2 N2 D2) data1, bxl b6 [(iv swaps5)] 3] (fun (h : Unit) => ((.tuple [(iv r.1), (iv r.2.1)].toArray), [bxl b6 [(iv r.2.2)] 3])) := by
 unfold Z0t at hr
 refine fn_ok Try.func109 R 32 R R fun C V => ?_
 refine cM (bxl _ _ _ :: rds _ _ _ :: V) (fun w s => (s.e 2 [1, 0])) ?_
 refine cL 1 sees_rd ?_
 rintro rfl
 let W0 : List HP := RR kT33 A2 D2 data1 :: V
 refine cN (_ :: W0) ?_
 refine c_seq (c_region (lI R (lI R (l_nil (q_next (c_seq (c_seq ?_)))))))
 obtain ⟨hg8, hr⟩ := gd hr
 obtain ⟨hg13, hr⟩ := gd hr
 obtain ⟨r16, hx17, hr⟩ := bd hr
 refine c_some 1 sees_rd (show 0 < data1.length by have := hg8; omega) (fun g9 o10 ha => ?_)
 subst ha
 refine c_elem (K := kT33) 1 b4 dT33.dec R hg8.1 hg8.2 ?_
 rintro ⟨⟨A11, D11⟩, ⟨A12, D12⟩⟩
 refine cN (cl g9 (o10 + b4.toNat * 2) [(sc A11 ((ix data1 b4).Key) D11), (sc A12 ((ix data1 b4).Weights) D12)] :: RR kT3 A11 D11 ((ix data1 b4).Key) :: RR kT3 A12 D12 ((ix data1 b4).Weights) :: _ :: W0) ?_
 refine c_elem (K := kT33) 4 a3 dT33.dec R hg13.1 hg13.2 ?_
 rintro ⟨⟨A14, D14⟩, ⟨A15, D15⟩⟩
 refine cN (cl g9 (o10 + a3.toNat * 2) [(sc A14 ((ix data1 a3).Key) D14), (sc A15 ((ix data1 a3).Weights) D15)] :: RR kT3 A14 D14 ((ix data1 a3).Key) :: RR kT3 A15 D15 ((ix data1 a3).Weights) :: _ :: _ :: _ :: _ :: W0) ?_
 refine cdr 11 [] mixo (fun ht hn => (dR 0 R (vp (.func (.func 73) [].toArray [].toArray) R) (dR 1 R (vS R) (dR 2 R (vI R) (dR 3 R (vIa sl24 sz33 R R hg8) (dR 4 R (vz (.agg [(sc A11 ((ix data1 b4).Key) D11), (sc A12 ((ix data1 b4).Weights) D12)].toArray) (v_clfs (fo := 0) 3 ag33 sz33 R R R R)) (dR 5 R (vS R) (dR 6 R (vI R) (dR 7 R (vIa sl24 sz33 R R hg13) (dR 8 R (vz (.agg [(sc A14 ((ix data1 a3).Key) D14), (sc A15 ((ix data1 a3).Weights) D15)].toArray) (v_clfs (fo := 0) 0 ag33 sz33 R R R R)) (d1 9 R (lM (rds _ _ _ :: rds _ _ _ :: rds _ _ _ :: rds _ _ _ :: cl _ _ _ :: rds _ _ _ :: rds _ _ _ :: cl _ _ _ :: rds _ _ _ :: rds _ _ _ :: bxl _ _ _ :: W0) (fun w s => (((((s.d 4 R).d 6 R).d 3 R).d 5 R).f 11 [3, 1, 2, 1, 1, 1, 0, 1, 4, 7])) ?_))))))))))))
 refine l_callvn (fs := []) (cs := []) 4 R R cb73 R R (Z9_ok hx17) R ?_
 rintro _
 refine lN (_ :: _ :: _ :: _ :: _ :: _ :: _ :: W0) ?_
 refine l_nil (q_draw (sL []) (dR 10 R (vLt R R) (dD (q_next ?_))))
 rcases bif_ hr with ⟨hb18, hr⟩ | ⟨hb18, hr⟩
 refine c_true R hb18 (c_seq (c_region (lP R (lP R (lO (vLd 6 ag3 R R R) (lO (vAd R R) (lP R (l_store 6 R R sz3 R R R R R (lN (_ :: _ :: _ :: _ :: _ :: _ :: bxl b6 [(iv (w64 (swaps5 + (1 : Int))))] 3 :: W0) ?_)))))))))
 refine l_nil (q_next (c_seq (c_region (lI R (lI R (lI R (lI R (l_nil (q_next (c_ret (q_ret ?_)))))))))))
 obtain rfl := so hr
 exact q_fin (vs := [(iv b4), (iv a3)]) (.inl R) () R ⟨R, R, trivial⟩ R (fun w s => (s.e 8 [6]))
 refine c_false R hb18 (c_skip (q_next (c_seq (c_region (lI R (lI R (lI R (lI R (l_nil (q_next (c_ret ?_)))))))))))
 obtain rfl := so hr
 exact q_fin (vs := [(iv a3), (iv b4)]) (.inl R) () R ⟨R, R, trivial⟩ R (fun w s => (s.e 8 [6]))
theorem Z13_ok  {data1 : (List Row)} {a3 : Int} {b4 : Int} {c5 : Int} {swaps6 : Int} {b7 : Nat} {r : Int × Int} (hr : Z13 data1 a3 b4 c5 swaps6 = some r) :
 FnOk Try.prog 106 [(.slice A2 N2 D2), (iv a3), (iv b4), (iv c5), (pt b7 0), (.func (.func 73) [].toArray [].toArray)] [rds kT33 (.slice A2 N2 D2) data1, bxl b7 [(iv swaps6)] 3] (fun (h : Unit) => ((iv r.1), [bxl b7 [(iv r.2)] 3])) := by
 unfold Z13 at hr
 refine fn_ok Try.func106 R 41 R R fun C V => ?_
 refine cM (bxl _ _ _ :: rds _ _ _ :: V) (fun w s => (s.e 2 [1, 0])) ?_
 refine cL 1 sees_rd ?_
 rintro rfl
 let W0 : List HP := RR kT33 A2 D2 data1 :: V
 refine cN (_ :: W0) ?_
 refine c_seq (c_region (lI R (l_nil (q_next (c_seq ?_)))))
 obtain ⟨r9, hx10, hr⟩ := bd hr
 refine c_region (lS R (lI R (lI R (lP R (lO (vp (.func (.func 73) [].toArray [].toArray) R) (lM (RR kT33 A2 D2 data1 :: _ :: W0) (fun w s => (s.d 1 R)) ?_))))))
 refine lC 2 cb109 R (Z0t_ok hx10) R ?_
 rintro _
 refine lN (bxl b7 [(iv r9.2.2)] 3 :: W0) ?_
 refine lO (vT R) (lI R (lI R (lI R (lI R (l_nil (q_next (c_seq ?_)))))))
 obtain ⟨r11, hx12, hr⟩ := bd hr
 refine c_region (lS R (lI R (lI R (lP R (lO (vp (.func (.func 73) [].toArray [].toArray) R) (lM (RR kT33 A2 D2 data1 :: _ :: W0) (fun w s => (s.d 1 R)) ?_))))))
 refine lC 2 cb109 R (Z0t_ok hx12) R ?_
 rintro _
 refine lN (bxl b7 [(iv r11.2.2)] 3 :: W0) ?_
 refine lO (vT R) (lI R (lI R (lI R (lI R (l_nil (q_next (c_seq ?_)))))))
 obtain ⟨r13, hx14, hr⟩ := bd hr
 refine c_region (lS R (lI R (lI R (lP R (lO (vp (.func (.func 73) [].toArray [].toArray) R) (lM (RR kT33 A2 D2 data1 :: _ :: W0) (fun w s => (s.d 1 R)) ?_))))))
 refine lC 2 cb109 R (Z0t_ok hx14) R ?_
 rintro _
 refine lN (bxl b7 [(iv r13.2.2)] 3 :: W0) ?_
 refine lO (vT R) (lI R (lI R (lI R (lI R (l_nil (q_next (c_seq (c_region (lI R (lI R (l_nil (q_next (c_ret ?_)))))))))))))
 obtain rfl := so hr
 exact qF () (fun w s => (s.e 2 [0]))
theorem Z0s_ok  {data1 : (List Row)} {a3 : Int} {swaps4 : Int} {b5 : Nat} {r : Int × Int} (hr : Z0s data1 a3 swaps4 = some r) :
 FnOk Try.prog 105 [(.slice A2 N2 D2), (iv a3), (pt b5 0), (.func (.func 73) [].toArray [].toArray)] [rds kT33 (.slice A2 N2 D2) data1, bxl b5 [(iv swaps4)] 3] (fun (h : Unit) => ((iv r.1), [bxl b5 [(iv r.2)] 3])) := by
 unfold Z0s at hr
 refine fn_ok Try.func105 R 18 R R fun C V => ?_
 refine cM (bxl _ _ _ :: rds _ _ _ :: V) (fun w s => (s.e 2 [1, 0])) ?_
 refine cL 1 sees_rd ?_
 rintro rfl
 let W0 : List HP := RR kT33 A2 D2 data1 :: V
 refine cN (_ :: W0) ?_
 refine c_seq (c_region (lI R (l_nil (q_next (c_seq ?_)))))
 obtain ⟨r7, hx8, hr⟩ := bd hr
 refine c_region (lS R (lI R (lO (vSb R R) (lI R (lI R (lO (vAd R R) (lP R (lO (vp (.func (.func 73) [].toArray [].toArray) R) (lM (RR kT33 A2 D2 data1 :: _ :: W0) (fun w s => (s.d 1 R)) ?_)))))))))
 refine lC 2 cb106 R (Z13_ok hx8) R ?_
 rintro _
 refine lN (bxl b5 [(iv r7.2)] 3 :: W0) ?_
 refine lI R (l_nil (q_next (c_ret ?_)))
 obtain rfl := so hr
 exact qF () (fun w s => (s.e 2 [0]))
theorem Z03_ok  {data1 : (List Row)} {a3 : Int} {b4 : Int} {r : Int × Int} (hr : Z03 data1 a3 b4 = some r) :
 FnOk Try.prog 94 [(.slice A2 N2 D2), (iv a3), (iv b4), (.func (.func 73) [].toArray [].toArray)] [rds kT33 (.slice A2 N2 D2) data1] (fun (h : Unit) => ((.tuple [(iv r.1), (iv r.2)].toArray), [])) := by
 unfold Z03 at hr
 refine fn_ok Try.func94 R 63 R R fun C V => ?_
 refine cN (_ :: V) ?_
 refine cL 0 sees_rd ?_
 rintro rfl
 let W0 : List HP := RR kT33 A2 D2 data1 :: V
 refine cN W0 ?_
 refine c_seq (c_region (lI R (lI R (l_nil (q_next (c_seq (c_region (lI R (lI R (lO (vSb R R) (lI R (l_nil (q_next (c_seq (c_region (l_alloc R R zc3 (fun b6 => (l_nil (q_next (c_seq (c_region (lI R (lI R (lO (vz (iv (w64 ((w64 (b4 - a3)).tdiv (4 : Int)))) (v_quo R R (by decide))) (lO (vMu R R) (lO (vAd R R) (lI R (l_nil (q_next (c_seq (c_region (lI R (lI R (lO (vz (iv (w64 ((w64 (b4 - a3)).tdiv (4 : Int)))) (v_quo R R (by decide))) (lO (vMu R R) (lO (vAd R R) (lI R (l_nil (q_next (c_seq (c_region (lI R (lI R (lO (vz (iv (w64 ((w64 (b4 - a3)).tdiv (4 : Int)))) (v_quo R R (by decide))) (lO (vMu R R) (lO (vAd R R) (lI R (l_nil (q_next (c_seq (c_cut (A := (Int × Int) × (Unit)) (fun a => Z03_J2 a.1.1 a.1.2 = some r) (fun a => [(11, (pt b6 0)), (13, (iv a.1.2))]) (fun a => bxl b6 [(iv a.1.1)] 3 :: W0) ?_ ?_)))))))))))))))))))))))))))))))))))))))))))))))))))
 refine c_seq (c_region (lI R (lO (vGe R R) (l_nil (q_next ?_)))))
 rcases bif_ hr with ⟨hb7, hr⟩ | ⟨hb7, hr⟩
 refine c_true R hb7 (c_seq (c_cut (A := (Int × Int × Int × Int) × (Unit)) (fun a => Z03_J1 data1 a.1.1 a.1.2.1 a.1.2.2.1 a.1.2.2.2 = some r) (fun a => [(0, (sc A2 data1 D2)), (3, (.func (.func 73) [].toArray [].toArray)), (11, (pt b6 0)), (12, (iv a.1.2.1)), (13, (iv a.1.2.2.1)), (14, (iv a.1.2.2.2))]) (fun a => bxl b6 [(iv a.1.1)] 3 :: W0) ?_ ?_))
 refine c_seq (c_region (lI R (lO (vGe R R) (l_nil (q_next ?_)))))
 rcases bif_ hr with ⟨hb8, hr⟩ | ⟨hb8, hr⟩
 refine c_true R hb8 (c_seq ?_)
 obtain ⟨r9, hx10, hr⟩ := bd hr
 refine c_region (lS R (lI R (lO (vp (.func (.func 73) [].toArray [].toArray) R) (lM (RR kT33 A2 D2 data1 :: _ :: W0) (fun w s => (s.d 1 R)) ?_))))
 refine lC 2 cb105 R (Z0s_ok hx10) R ?_
 rintro _
 refine lN (bxl b6 [(iv r9.2)] 3 :: W0) ?_
 refine lI R (l_nil (q_next (c_seq ?_)))
 obtain ⟨r11, hx12, hr⟩ := bd hr
 refine c_region (lS R (lI R (lO (vp (.func (.func 73) [].toArray [].toArray) R) (lM (RR kT33 A2 D2 data1 :: _ :: W0) (fun w s => (s.d 1 R)) ?_))))
 refine lC 2 cb105 R (Z0s_ok hx12) R ?_
 rintro _
 refine lN (bxl b6 [(iv r11.2)] 3 :: W0) ?_
 refine lI R (l_nil (q_next ?_))
 obtain ⟨r13, hx14, hr⟩ := bd hr
 refine c_region (lS R (lI R (lO (vp (.func (.func 73) [].toArray [].toArray) R) (lM (RR kT33 A2 D2 data1 :: _ :: W0) (fun w s => (s.d 1 R)) ?_))))
 refine lC 2 cb105 R (Z0s_ok hx14) R ?_
 rintro _
 refine lN (bxl b6 [(iv r13.2)] 3 :: W0) ?_
 refine lI R (l_nil ?_)
 exact qI ((r13.2, r9.1, r11.1, r13.1), ()) hr (fun w s => s)
 refine c_false R hb8 (c_skip ?_)
 exact qI (((0 : Int), (w64 (a3 + (w64 ((w64 ((w64 (b4 - a3)).tdiv (4 : Int))) * (1 : Int))))), (w64 (a3 + (w64 ((w64 ((w64 (b4 - a3)).tdiv (4 : Int))) * (2 : Int))))), (w64 (a3 + (w64 ((w64 ((w64 (b4 - a3)).tdiv (4 : Int))) * (3 : Int)))))), ()) hr (fun w s => s)
 rintro ⟨⟨swaps15, i16, j17, k18⟩, _⟩ σ1 hr
 replace hr : Z03_J1 data1 swaps15 i16 j17 k18 = some r := hr
 unfold Z03_J1 at hr
 obtain ⟨r19, hx20, hr⟩ := bd hr
 refine c_region (lS R (lI R (lI R (lI R (lO (vp (.func (.func 73) [].toArray [].toArray) R) (lM (RR kT33 A2 D2 data1 :: bxl b6 [(iv swaps15)] 3 :: W0) (fun w s => (s.d 1 R)) ?_))))))
 refine lC 2 cb106 R (Z13_ok hx20) R ?_
 rintro _
 refine lN (bxl b6 [(iv r19.2)] 3 :: W0) ?_
 refine lI R (l_nil ?_)
 exact qI ((r19.2, r19.1), ()) hr (fun w s => s)
 refine c_false R hb7 (c_skip ?_)
 exact qI (((0 : Int), (w64 (a3 + (w64 ((w64 ((w64 (b4 - a3)).tdiv (4 : Int))) * (2 : Int)))))), ()) hr (fun w s => s)
 rintro ⟨⟨swaps21, j22⟩, _⟩ σ1 hr
 replace hr : Z03_J2 swaps21 j22 = some r := hr
 unfold Z03_J2 at hr
 refine c_seq (c_region (lO (vLd 0 ag3 R R R) (l_nil (q_next (c_block (c_seq (c_region (lO (vEq R R) (lB R (l_nil (q_next ?_)))))))))))
 rcases bif_ hr with ⟨hb23, hr⟩ | ⟨hb23, hr⟩
 refine c_true R hb23 (c_seq (c_region (lI R (lI R (lI R (l_nil (q_next (c_ret (q_blockr ?_)))))))))
 obtain rfl := so hr
 exact q_fin (vs := [(iv j22), (iv 1)]) (.inl R) () R ⟨R, R, trivial⟩ R (fun w s => (s.e 2 []))
 refine c_false R hb23 (c_seq (c_region (lO (vEq R R) (lB R (l_nil (q_next ?_))))))
 rcases bif_ hr with ⟨hb24, hr⟩ | ⟨hb24, hr⟩
 refine c_true R hb24 (c_seq (c_region (lI R (lI R (lI R (l_nil (q_next (c_ret (q_blockr ?_)))))))))
 obtain rfl := so hr
 exact q_fin (vs := [(iv j22), (iv 2)]) (.inl R) () R ⟨R, R, trivial⟩ R (fun w s => (s.e 2 []))
 refine c_false R hb24 (c_seq (c_region (lI R (lI R (lI R (l_nil (q_next (c_ret (q_blockr ?_)))))))))
 obtain rfl := so hr
 exact q_fin (vs := [(iv j22), (iv 0)]) (.inl R) () R ⟨R, R, trivial⟩ R (fun w s => (s.e 2 []))
theorem Z0d_ok  {data1 : (List Row)} {a3 : Int} {b4 : Int} {r : (List Row)} (hr : Z0d data1 a3 b4 = some r) :
 FnOk Try.prog 95 [(.slice A2 N2 D2), (iv a3), (iv b4), (.func (.func 73) [].toArray [].toArray)] [ow (kT33).share 33 (.slice A2 N2 D2) data1] (fun (h : Unit) => ((.tuple [].toArray), [ow (kT33).share 33 (.slice A2 N2 D2) r])) := by
 unfold Z0d at hr
 refine fn_ok Try.func95 R 34 R R fun C V => ?_
 refine cN (_ :: V) ?_
 refine cL 0 sees_sh ?_
 rintro rfl
 refine c_seq (c_region (lI R (lI R (l_nil (q_next (c_seq (c_region (lI R (lO (vSb R R) (lI R (l_nil (q_next (c_block ?_)))))))))))))
 obtain ⟨e1, hl1, hk1⟩ := bd hr
 refine c_loop (A := Unit) hl1 (fun s a => [(0, (sc A2 data1 D2)), (8, (iv s.2.1)), (9, (iv s.2.2))]) (fun s a => ow (kT33).share 33 (.slice A2 data1.length D2) s.1 :: V) () (aS R) (fun w s => s) ?_
 rintro ⟨data17, i18, j19⟩ _ σ1 out1 hr he1
 replace hr : Z0d_L1 data1 data17 i18 j19 = some out1 := hr
 unfold Z0d_L1 at hr
 refine c_seq (c_seq (c_region (lI R (lI R (lO (vLt R R) (l_nil (q_next ?_)))))))
 rcases bif_ hr with ⟨hb20, hr⟩ | ⟨hb20, hr⟩
 refine c_true R hb20 (c_skip (q_next (c_block (c_seq ?_))))
 obtain ⟨hg21, hr⟩ := gd hr
 obtain ⟨hg26, hr⟩ := gd hr
 refine cQ [(0, (sc A2 data1 D2)), (8, (iv i18)), (9, (iv j19))] (ow (kT33).share 33 (.slice A2 data1.length D2) ((data17.set i18.toNat (ix data17 j19)).set j19.toNat (ix data17 i18)) :: V) ?_ ?_
 refine c_some 0 sees_sh (show 0 < data1.length by have := hg21; omega) (fun g22 o23 ha => ?_)
 subst ha
 refine cdr 16 [0] mixo (fun ht hn => (dR 0 R (vS R) (hS := (sL [0])) (dR 1 R (vI R) (hS := (sL [0])) (dR 2 R (vS R) (hS := (sL [0])) (dR 3 R (vI R) (hS := (sL [0])) (dR 4 R (vS R) (hS := (sL [0])) (dR 5 R (vI R) (hS := (sL [0])) (dR 6 R (vIa sl24 sz33 R R hg21) (hS := (sL [0])) (dR 8 R (vS R) (hS := (sL [0])) (dR 9 R (vI R) (hS := (sL [0])) (dR 10 R (vIa sl24 sz33 R R hg26) (hS := (sL [0])) (d_all [7, 11] (by kernel_rfl) R ⟨?_, ?_, trivial⟩))))))))))))
 refine l_ldo (K := (kT33).share) 0 j19 R R ag33 sz33 dT33.own R R hg21.1 hg21.2 ?_
 rintro ⟨⟨A24, D24⟩, ⟨A25, D25⟩⟩
 refine lN (RR kT3 A24 D24 ((ix data17 j19).Key) :: RR kT3 A25 D25 ((ix data17 j19).Weights) :: ow (kT33).share 33 (.slice (ad g22 o23) data1.length D2) data17 :: V) ?_
 refine l_nil (q_draw (sL [2, 1, 0]) (d1 11 R (l_ldo (K := (kT33).share) 2 i18 R R ag33 sz33 dT33.own R R hg26.1 hg26.2 ?_)))
 rintro ⟨⟨A27, D27⟩, ⟨A28, D28⟩⟩
 refine lN (RR kT3 A27 D27 ((ix data17 i18).Key) :: RR kT3 A28 D28 ((ix data17 i18).Weights) :: _ :: _ :: _ :: V) ?_
 refine l_nil (q_draw (sL [4, 3, 2, 1, 0]) (dR 12 R (vIa sl24 sz33 R R hg26) (hS := (sL [4, 3, 2, 1, 0])) (d1 13 R (lM (ow _ _ _ _ :: rds _ _ _ :: rds _ _ _ :: rds _ _ _ :: rds _ _ _ :: rds _ _ _ :: rds _ _ _ :: V) (fun w s => (((s.d 2 R).d 4 R).e 7 [6, 1, 0, 2, 3, 4, 5])) ?_))))
 refine l_stx (K := (kT33).share) (x' := (ix data17 j19)) 2 i18 R R sz33 R R hg26.1 hg26.2 ?_ ?_
 exact fun I h s => (mS33).put I h ((sc A24 ((ix data17 j19).Key) D24), (sc A25 ((ix data17 j19).Weights) D25)) (ix data17 j19) s
 refine lN (ow (kT33).share 33 (.slice (ad g22 o23) data1.length D2) (data17.set i18.toNat (ix data17 j19)) :: _ :: _ :: _ :: _ :: V) ?_
 refine l_nil (q_draw (sL [4, 3, 2, 1, 0]) (dR 14 R (vIa sl24 sz33 R R hg21) (hS := (sL [4, 3, 2, 1, 0])) (d1 15 R (lM (ow _ _ _ _ :: rds _ _ _ :: rds _ _ _ :: rds _ _ _ :: rds _ _ _ :: rds _ _ _ :: rds _ _ _ :: V) (fun w s => (((s.d 1 R).d 3 R).e 7 [2, 1, 0, 3, 4, 5, 6])) ?_))))
 refine l_stx (K := (kT33).share) (x' := (ix data17 i18)) 2 j19 R R sz33 R R hg21.1 hg21.2 ?_ ?_
 exact fun I h s => (mS33).put I h ((sc A27 ((ix data17 i18).Key) D27), (sc A28 ((ix data17 i18).Weights) D28)) (ix data17 i18) s
 refine lN (ow (kT33).share 33 (.slice (ad g22 o23) data1.length D2) ((data17.set i18.toNat (ix data17 j19)).set j19.toNat (ix data17 i18)) :: _ :: _ :: _ :: _ :: V) ?_
 refine l_nil (q_draw (sL [4, 3, 2, 1, 0]) (dD ?_))
 exact qJ (fun w s => (s.e 5 [0]))
 refine l_ldo (K := (kT33).share) 0 i18 R R ag33 sz33 dT33.own R R hg26.1 hg26.2 ?_
 rintro ⟨⟨A27, D27⟩, ⟨A28, D28⟩⟩
 refine lN (_ :: _ :: ow (kT33).share 33 (.slice (ad g22 o23) data1.length D2) data17 :: V) ?_
 refine l_nil (q_draw (sL [2, 1, 0]) (d1 7 R (l_ldo (K := (kT33).share) 2 j19 R R ag33 sz33 dT33.own R R hg21.1 hg21.2 ?_)))
 rintro ⟨⟨A24, D24⟩, ⟨A25, D25⟩⟩
 refine lN (RR kT3 A24 D24 ((ix data17 j19).Key) :: RR kT3 A25 D25 ((ix data17 j19).Weights) :: _ :: _ :: _ :: V) ?_
 refine l_nil (q_draw (sL [4, 3, 2, 1, 0]) (dR 12 R (vIa sl24 sz33 R R hg26) (hS := (sL [4, 3, 2, 1, 0])) (d1 13 R (lM (ow _ _ _ _ :: rds _ _ _ :: rds _ _ _ :: rds _ _ _ :: rds _ _ _ :: rds _ _ _ :: rds _ _ _ :: V) (fun w s => (((s.d 0 R).d 2 R).e 7 [6, 1, 0, 2, 3, 4, 5])) ?_))))
 refine l_stx (K := (kT33).share) (x' := (ix data17 j19)) 2 i18 R R sz33 R R hg26.1 hg26.2 ?_ ?_
 exact fun I h s => (mS33).put I h ((sc A24 ((ix data17 j19).Key) D24), (sc A25 ((ix data17 j19).Weights) D25)) (ix data17 j19) s
 refine lN (ow (kT33).share 33 (.slice (ad g22 o23) data1.length D2) (data17.set i18.toNat (ix data17 j19)) :: _ :: _ :: _ :: _ :: V) ?_
 refine l_nil (q_draw (sL [4, 3, 2, 1, 0]) (dR 14 R (vIa sl24 sz33 R R hg21) (hS := (sL [4, 3, 2, 1, 0])) (d1 15 R (lM (ow _ _ _ _ :: rds _ _ _ :: rds _ _ _ :: rds _ _ _ :: rds _ _ _ :: rds _ _ _ :: rds _ _ _ :: V) (fun w s => (((s.d 3 R).d 5 R).e 7 [2, 1, 0, 3, 4, 5, 6])) ?_))))
 refine l_stx (K := (kT33).share) (x' := (ix data17 i18)) 2 j19 R R sz33 R R hg21.1 hg21.2 ?_ ?_
 exact fun I h s => (mS33).put I h ((sc A27 ((ix data17 i18).Key) D27), (sc A28 ((ix data17 i18).Weights) D28)) (ix data17 i18) s
 refine lN (ow (kT33).share 33 (.slice (ad g22 o23) data1.length D2) ((data17.set i18.toNat (ix data17 j19)).set j19.toNat (ix data17 i18)) :: _ :: _ :: _ :: _ :: V) ?_
 refine l_nil (q_draw (sL [4, 3, 2, 1, 0]) (dD ?_))
 exact qJ (fun w s => (s.e 5 [0]))
 rintro σ1
 obtain ⟨l29, hl30, hr⟩ := bd hr
 replace hl30 := Option.some.inj hl30
 refine qM (ow (kT33).share 33 (.slice A2 data1.length D2) l29 :: V) (fun w s => by rw [← hl30]; exact s) ?_
 refine q_next (c_seq (c_region (lI R (lO (vAd R R) (lI R (l_nil (q_next (c_region (lI R (lO (vSb R R) (lI R (l_nil (q_blockn ?_)))))))))))))
 obtain rfl := so hr
 exact qA () (fun w s => s)
 refine c_false R hb20 (c_exit (q_exit ?_))
 obtain rfl := so hr
 obtain rfl := he1 _ R
 have hr := hk1
 refine q_exit (q_block ?_)
 obtain rfl := so hr
 exact q_fin (vs := []) (.inr R) () R trivial R (fun w s => s)
theorem Z3_ok  {data1 : (List Row)} {a3 : Int} {b4 : Int} {r : Bool × (List Row)} (hr : Z3 data1 a3 b4 = some r) :
 FnOk Try.prog 96 [(.slice A2 N2 D2), (iv a3), (iv b4), (.func (.func 73) [].toArray [].toArray)] [ow (kT33).share 33 (.slice A2 N2 D2) data1] (fun (h : Unit) => ((.bool r.1), [ow (kT33).share 33 (.slice A2 N2 D2) r.2])) := by
 unfold Z3 at hr
 refine fn_ok Try.func96 R 141 R R fun C V => ?_
 refine cN (_ :: V) ?_
 refine cL 0 sees_sh ?_
 rintro rfl
 refine c_seq (c_region (lB R (l_nil (q_next (c_seq (c_region (lI R (lO (vAd R R) (lI R (l_nil (q_next (c_seq (c_cut (A := ((List Row)) × (Unit)) (fun a => Z3_J8 a.1 = some r) (fun a => []) (fun a => ow (kT33).share 33 (.slice A2 data1.length D2) a.1 :: V) ?_ ?_)))))))))))))
 refine c_seq (c_region (lI R (l_nil (q_next (c_block ?_)))))
 obtain ⟨e1, hl1, hk1⟩ := bd hr
 refine c_loop (A := Unit) hl1 (fun s a => [(0, (sc A2 data1 D2)), (1, (iv a3)), (2, (iv b4)), (3, (.func (.func 73) [].toArray [].toArray)), (9, (iv s.2.1)), (10, (iv s.2.2))]) (fun s a => ow (kT33).share 33 (.slice A2 data1.length D2) s.1 :: V) () (aS R) (fun w s => s) ?_
 rintro ⟨data138, i139, j140⟩ _ σ1 out1 hr he1
 replace hr : Z3_L1 data1 a3 b4 data138 i139 j140 = some out1 := hr
 unfold Z3_L1 at hr
 refine c_seq (c_seq (c_region (lI R (lO (vLt R R) (l_nil (q_next ?_))))))
 rcases bif_ hr with ⟨hb141, hr⟩ | ⟨hb141, hr⟩
 refine c_true R hb141 (c_skip (q_next (c_seq (c_cut (A := ((List Row) × Int) × (Unit)) (fun a => Z3_J7 j140 a.1.1 a.1.2 = some out1) (fun a => [(0, (sc A2 data1 D2)), (1, (iv a3)), (2, (iv b4)), (3, (.func (.func 73) [].toArray [].toArray)), (9, (iv a.1.2)), (10, (iv j140))]) (fun a => ow (kT33).share 33 (.slice A2 data1.length D2) a.1.1 :: V) ?_ ?_))))
 refine c_block (c_seq (c_cut (A := (Int) × (Unit)) (fun a => Z3_J5 data1 a3 b4 data138 j140 a.1 = some out1) (fun a => [(0, (sc A2 data1 D2)), (1, (iv a3)), (2, (iv b4)), (3, (.func (.func 73) [].toArray [].toArray)), (9, (iv a.1)), (10, (iv j140))]) (fun a => ow (kT33).share 33 (.slice A2 data1.length D2) data138 :: V) ?_ ?_))
 refine c_block ?_
 obtain ⟨e2, hl2, hk2⟩ := bd hr
 refine c_loop (A := Unit) hl2 (fun s a => [(0, (sc A2 data1 D2)), (1, (iv a3)), (2, (iv b4)), (3, (.func (.func 73) [].toArray [].toArray)), (9, (iv s)), (10, (iv j140))]) (fun s a => ow (kT33).share 33 (.slice A2 data1.length D2) data138 :: V) () (aS R) (fun w s => s) ?_
 rintro i154 _ σ1 out2 hr he2
 replace hr : Z3_L2 data1 b4 data138 i154 = some out2 := hr
 unfold Z3_L2 at hr
 refine c_seq (c_seq ?_)
 obtain ⟨hg155, hr⟩ := gd hr
 obtain ⟨hg160, hr⟩ := gd hr
 obtain ⟨r163, hx164, hr⟩ := bd hr
 refine cQ [(0, (sc A2 data1 D2)), (1, (iv a3)), (2, (iv b4)), (3, (.func (.func 73) [].toArray [].toArray)), (9, (iv i154)), (10, (iv j140)), (36, (.bool ((decide (i154 < b4)) && (!(decide (r163 < (0 : Int)))))))] (ow (kT33).share 33 (.slice A2 data1.length D2) data138 :: V) ?_ ?_
 rcases bo (decide (i154 < b4)) with hc165 | hc165
 refine c_some 0 sees_sh (show 0 < data1.length by have := (hg155 hc165); omega) (fun g156 o157 ha => ?_)
 subst ha
 refine cdr 18 [] mixo (fun ht hn => (dR 0 R (vI R) (dR 1 R (vI R) (dR 2 R (vLt R R) (dR 3 R (vB R) (dW 4 R (wnT hc165) (vp (.func (.func 73) [].toArray [].toArray) R) (dW 5 R (wnT hc165) (vS R) (dW 6 R (wnT hc165) (vI R) (dW 7 R (wnT hc165) (vIa sl24 sz33 R R (hg155 hc165)) (dW 9 R (wnT hc165) (vS R) (dW 10 R (wnT hc165) (vI R) (dW 11 R (wnT hc165) (vSb R R) (dW 12 R (wnT hc165) (vIa sl24 sz33 R R (hg160 hc165)) (d_all [8, 13] (by kernel_rfl) R ⟨?_, ?_, trivial⟩))))))))))))))
 refine l_ldo (K := (kT33).share) 0 i154 R (wnT hc165) ag33 sz33 dT33.own R R (hg155 hc165).1 (hg155 hc165).2 ?_
 rintro ⟨⟨A158, D158⟩, ⟨A159, D159⟩⟩
 refine lN (RR kT3 A158 D158 ((ix data138 i154).Key) :: RR kT3 A159 D159 ((ix data138 i154).Weights) :: ow (kT33).share 33 (.slice (ad g156 o157) data1.length D2) data138 :: V) ?_
 refine l_nil (q_draw (sL [1, 0]) (d1 13 R (l_ldo (K := (kT33).share) 2 (w64 (i154 - (1 : Int))) R (wnT hc165) ag33 sz33 dT33.own R R (hg160 hc165).1 (hg160 hc165).2 ?_)))
 rintro ⟨⟨A161, D161⟩, ⟨A162, D162⟩⟩
 refine lN (RR kT3 A161 D161 ((ix data138 (w64 (i154 - (1 : Int)))).Key) :: RR kT3 A162 D162 ((ix data138 (w64 (i154 - (1 : Int)))).Weights) :: _ :: _ :: _ :: V) ?_
 refine l_nil (q_draw (sL [3, 2, 1, 0]) (d1 14 R (lM (rds _ _ _ :: rds _ _ _ :: rds _ _ _ :: rds _ _ _ :: rds _ _ _ :: rds _ _ _ :: rds _ _ _ :: rds _ _ _ :: ow _ _ _ _ :: V) (fun w s => (((((s.d 2 R).d 4 R).d 2 R).d 4 R).e 9 [3, 2, 1, 0, 4, 5, 6, 7, 8])) ?_)))
 refine l_callvn (fs := []) (cs := []) 4 R (wnT hc165) cb73 R R (Z9_ok (gcall_t hx164 hc165)) R ?_
 rintro _
 refine lN (_ :: _ :: _ :: _ :: _ :: V) ?_
 refine l_nil (q_draw (sL [3, 2, 1, 0]) (dW 15 R (wnT hc165) (vLt R R) (hS := (sL [3, 2, 1, 0])) (dW 16 R (wnT hc165) (vNo R) (hS := (sL [3, 2, 1, 0])) (dR 17 R (pAT R hc165 R) (hS := (sL [3, 2, 1, 0])) (dD ?_)))))
 exact qJ (fun w s => (s.e 5 [4]))
 refine l_ldo (K := (kT33).share) 0 (w64 (i154 - (1 : Int))) R (wnT hc165) ag33 sz33 dT33.own R R (hg160 hc165).1 (hg160 hc165).2 ?_
 rintro ⟨⟨A161, D161⟩, ⟨A162, D162⟩⟩
 refine lN (_ :: _ :: _ :: V) ?_
 refine l_nil (q_draw (sL [1, 0]) (d1 8 R (l_ldo (K := (kT33).share) 2 i154 R (wnT hc165) ag33 sz33 dT33.own R R (hg155 hc165).1 (hg155 hc165).2 ?_)))
 rintro ⟨⟨A158, D158⟩, ⟨A159, D159⟩⟩
 refine lN (RR kT3 A158 D158 ((ix data138 i154).Key) :: RR kT3 A159 D159 ((ix data138 i154).Weights) :: _ :: _ :: _ :: V) ?_
 refine l_nil (q_draw (sL [3, 2, 1, 0]) (d1 14 R (lM (rds _ _ _ :: rds _ _ _ :: rds _ _ _ :: rds _ _ _ :: rds _ _ _ :: rds _ _ _ :: rds _ _ _ :: rds _ _ _ :: ow _ _ _ _ :: V) (fun w s => (((((s.d 0 R).d 2 R).d 4 R).d 6 R).e 9 [3, 2, 1, 0, 4, 5, 6, 7, 8])) ?_)))
 refine l_callvn (fs := []) (cs := []) 4 R (wnT hc165) cb73 R R (Z9_ok (gcall_t hx164 hc165)) R ?_
 rintro _
 refine lN (_ :: _ :: _ :: _ :: _ :: V) ?_
 refine l_nil (q_draw (sL [3, 2, 1, 0]) (dW 15 R (wnT hc165) (vLt R R) (hS := (sL [3, 2, 1, 0])) (dW 16 R (wnT hc165) (vNo R) (hS := (sL [3, 2, 1, 0])) (dR 17 R (pAT R hc165 R) (hS := (sL [3, 2, 1, 0])) (dD ?_)))))
 exact qJ (fun w s => (s.e 5 [4]))
 refine cdr 18 [] mixo (fun ht hn => (dR 0 R (vI R) (dR 1 R (vI R) (dR 2 R (vLt R R) (dR 3 R (vB R) (dF 4 R (wfF hc165) (dF 5 R (wfF hc165) (dF 6 R (wfF hc165) (dF 7 R (wfF hc165) (dF 8 R (wfF hc165) (dF 9 R (wfF hc165) (dF 10 R (wfF hc165) (dF 11 R (wfF hc165) (dF 12 R (wfF hc165) (dF 13 R (wfF hc165) (dF 14 R (wfF hc165) (dF 15 R (wfF hc165) (dF 16 R (wfF hc165) (dR 17 R (pAF (!(decide (r163 < (0 : Int)))) R hc165) (dD ?_))))))))))))))))))))
 exact qJ (fun w s => s)
 rintro σ1
 refine q_next ?_
 rcases bif_ hr with ⟨hb166, hr⟩ | ⟨hb166, hr⟩
 refine c_true R hb166 (c_skip (q_next (c_block (c_region (lI R (lO (vAd R R) (lI R (l_nil (q_blockn ?_)))))))))
 obtain rfl := so hr
 exact qA () (fun w s => s)
 refine c_false R hb166 (c_exit (q_exit ?_))
 obtain rfl := so hr
 obtain rfl := he2 _ R
 have hr := hk2
 refine q_exit (q_block ?_)
 exact qI (i154, ()) hr (fun w s => s)
 rintro ⟨i168, _⟩ σ1 hr
 replace hr : Z3_J5 data1 a3 b4 data138 j140 i168 = some out1 := hr
 unfold Z3_J5 at hr
 refine c_seq (c_seq (c_region (lI R (lI R (lO (vEq R R) (l_nil (q_next ?_)))))))
 rcases bif_ hr with ⟨hb169, hr⟩ | ⟨hb169, hr⟩
 refine c_true R hb169 (c_seq (c_region (lB R (l_nil (q_next (c_ret (q_ret (q_blockr (q_ret ?_)))))))))
 obtain rfl := so hr
 obtain rfl := he1 _ R
 have hr := hk1
 refine q_ret (q_blockr (q_ret ?_))
 obtain rfl := so hr
 exact qF () (fun w s => s)
 refine c_false R hb169 (c_skip (q_next (c_seq (c_seq (c_region (lI R (lI R (lO (vSb R R) (lO (vLt R R) (l_nil (q_next ?_)))))))))))
 rcases bif_ hr with ⟨hb170, hr⟩ | ⟨hb170, hr⟩
 refine c_true R hb170 (c_seq (c_region (lB R (l_nil (q_next (c_ret (q_ret (q_blockr (q_ret ?_)))))))))
 obtain rfl := so hr
 obtain rfl := he1 _ R
 have hr := hk1
 refine q_ret (q_blockr (q_ret ?_))
 obtain rfl := so hr
 exact qF () (fun w s => s)
 refine c_false R hb170 (c_skip (q_next (c_seq ?_)))
 obtain ⟨hg171, hr⟩ := gd hr
 obtain ⟨hg176, hr⟩ := gd hr
 refine cQ [(0, (sc A2 data1 D2)), (1, (iv a3)), (2, (iv b4)), (3, (.func (.func 73) [].toArray [].toArray)), (9, (iv i168)), (10, (iv j140))] (ow (kT33).share 33 (.slice A2 data1.length D2) ((data138.set i168.toNat (ix data138 (w64 (i168 - (1 : Int))))).set (w64 (i168 - (1 : Int))).toNat (ix data138 i168)) :: V) ?_ ?_
 refine c_some 0 sees_sh (show 0 < data1.length by have := hg171; omega) (fun g172 o173 ha => ?_)
 subst ha
 refine cdr 18 [0] mixo (fun ht hn => (dR 0 R (vS R) (hS := (sL [0])) (dR 1 R (vI R) (hS := (sL [0])) (dR 2 R (vS R) (hS := (sL [0])) (dR 3 R (vI R) (hS := (sL [0])) (dR 4 R (vSb R R) (hS := (sL [0])) (dR 5 R (vS R) (hS := (sL [0])) (dR 6 R (vI R) (hS := (sL [0])) (dR 7 R (vSb R R) (hS := (sL [0])) (dR 8 R (vIa sl24 sz33 R R hg171) (hS := (sL [0])) (dR 10 R (vS R) (hS := (sL [0])) (dR 11 R (vI R) (hS := (sL [0])) (dR 12 R (vIa sl24 sz33 R R hg176) (hS := (sL [0])) (d_all [9, 13] (by kernel_rfl) R ⟨?_, ?_, trivial⟩))))))))))))))
 refine l_ldo (K := (kT33).share) 0 (w64 (i168 - (1 : Int))) R R ag33 sz33 dT33.own R R hg171.1 hg171.2 ?_
 rintro ⟨⟨A174, D174⟩, ⟨A175, D175⟩⟩
 refine lN (RR kT3 A174 D174 ((ix data138 (w64 (i168 - (1 : Int)))).Key) :: RR kT3 A175 D175 ((ix data138 (w64 (i168 - (1 : Int)))).Weights) :: ow (kT33).share 33 (.slice (ad g172 o173) data1.length D2) data138 :: V) ?_
 refine l_nil (q_draw (sL [2, 1, 0]) (d1 13 R (l_ldo (K := (kT33).share) 2 i168 R R ag33 sz33 dT33.own R R hg176.1 hg176.2 ?_)))
 rintro ⟨⟨A177, D177⟩, ⟨A178, D178⟩⟩
 refine lN (RR kT3 A177 D177 ((ix data138 i168).Key) :: RR kT3 A178 D178 ((ix data138 i168).Weights) :: _ :: _ :: _ :: V) ?_
 refine l_nil (q_draw (sL [4, 3, 2, 1, 0]) (dR 14 R (vIa sl24 sz33 R R hg176) (hS := (sL [4, 3, 2, 1, 0])) (d1 15 R (lM (ow _ _ _ _ :: rds _ _ _ :: rds _ _ _ :: rds _ _ _ :: rds _ _ _ :: rds _ _ _ :: rds _ _ _ :: V) (fun w s => (((s.d 2 R).d 4 R).e 7 [6, 1, 0, 2, 3, 4, 5])) ?_))))
 refine l_stx (K := (kT33).share) (x' := (ix data138 (w64 (i168 - (1 : Int))))) 2 i168 R R sz33 R R hg176.1 hg176.2 ?_ ?_
 exact fun I h s => (mS33).put I h ((sc A174 ((ix data138 (w64 (i168 - (1 : Int)))).Key) D174), (sc A175 ((ix data138 (w64 (i168 - (1 : Int)))).Weights) D175)) (ix data138 (w64 (i168 - (1 : Int)))) s
 refine lN (ow (kT33).share 33 (.slice (ad g172 o173) data1.length D2) (data138.set i168.toNat (ix data138 (w64 (i168 - (1 : Int))))) :: _ :: _ :: _ :: _ :: V) ?_
 refine l_nil (q_draw (sL [4, 3, 2, 1, 0]) (dR 16 R (vIa sl24 sz33 R R hg171) (hS := (sL [4, 3, 2, 1, 0])) (d1 17 R (lM (ow _ _ _ _ :: rds _ _ _ :: rds _ _ _ :: rds _ _ _ :: rds _ _ _ :: rds _ _ _ :: rds _ _ _ :: V) (fun w s => (((s.d 1 R).d 3 R).e 7 [2, 1, 0, 3, 4, 5, 6])) ?_))))
 refine l_stx (K := (kT33).share) (x' := (ix data138 i168)) 2 (w64 (i168 - (1 : Int))) R R sz33 R R hg171.1 hg171.2 ?_ ?_
 exact fun I h s => (mS33).put I h ((sc A177 ((ix data138 i168).Key) D177), (sc A178 ((ix data138 i168).Weights) D178)) (ix data138 i168) s
 refine lN (ow (kT33).share 33 (.slice (ad g172 o173) data1.length D2) ((data138.set i168.toNat (ix data138 (w64 (i168 - (1 : Int))))).set (w64 (i168 - (1 : Int))).toNat (ix data138 i168)) :: _ :: _ :: _ :: _ :: V) ?_
 refine l_nil (q_draw (sL [4, 3, 2, 1, 0]) (dD ?_))
 exact qJ (fun w s => (s.e 5 [0]))
 refine l_ldo (K := (kT33).share) 0 i168 R R ag33 sz33 dT33.own R R hg176.1 hg176.2 ?_
 rintro ⟨⟨A177, D177⟩, ⟨A178, D178⟩⟩
 refine lN (_ :: _ :: ow (kT33).share 33 (.slice (ad g172 o173) data1.length D2) data138 :: V) ?_
 refine l_nil (q_draw (sL [2, 1, 0]) (d1 9 R (l_ldo (K := (kT33).share) 2 (w64 (i168 - (1 : Int))) R R ag33 sz33 dT33.own R R hg171.1 hg171.2 ?_)))
 rintro ⟨⟨A174, D174⟩, ⟨A175, D175⟩⟩
 refine lN (RR kT3 A174 D174 ((ix data138 (w64 (i168 - (1 : Int)))).Key) :: RR kT3 A175 D175 ((ix data138 (w64 (i168 - (1 : Int)))).Weights) :: _ :: _ :: _ :: V) ?_
 refine l_nil (q_draw (sL [4, 3, 2, 1, 0]) (dR 14 R (vIa sl24 sz33 R R hg176) (hS := (sL [4, 3, 2, 1, 0])) (d1 15 R (lM (ow _ _ _ _ :: rds _ _ _ :: rds _ _ _ :: rds _ _ _ :: rds _ _ _ :: rds _ _ _ :: rds _ _ _ :: V) (fun w s => (((s.d 0 R).d 2 R).e 7 [6, 1, 0, 2, 3, 4, 5])) ?_))))
 refine l_stx (K := (kT33).share) (x' := (ix data138 (w64 (i168 - (1 : Int))))) 2 i168 R R sz33 R R hg176.1 hg176.2 ?_ ?_
 exact fun I h s => (mS33).put I h ((sc A174 ((ix data138 (w64 (i168 - (1 : Int)))).Key) D174), (sc A175 ((ix data138 (w64 (i168 - (1 : Int)))).Weights) D175)) (ix data138 (w64 (i168 - (1 : Int)))) s
 refine lN (ow (kT33).share 33 (.slice (ad g172 o173) data1.length D2) (data138.set i168.toNat (ix data138 (w64 (i168 - (1 : Int))))) :: _ :: _ :: _ :: _ :: V) ?_
 refine l_nil (q_draw (sL [4, 3, 2, 1, 0]) (dR 16 R (vIa sl24 sz33 R R hg171) (hS := (sL [4, 3, 2, 1, 0])) (d1 17 R (lM (ow _ _ _ _ :: rds _ _ _ :: rds _ _ _ :: rds _ _ _ :: rds _ _ _ :: rds _ _ _ :: rds _ _ _ :: V) (fun w s => (((s.d 3 R).d 5 R).e 7 [2, 1, 0, 3, 4, 5, 6])) ?_))))
 refine l_stx (K := (kT33).share) (x' := (ix data138 i168)) 2 (w64 (i168 - (1 : Int))) R R sz33 R R hg171.1 hg171.2 ?_ ?_
 exact fun I h s => (mS33).put I h ((sc A177 ((ix data138 i168).Key) D177), (sc A178 ((ix data138 i168).Weights) D178)) (ix data138 i168) s
 refine lN (ow (kT33).share 33 (.slice (ad g172 o173) data1.length D2) ((data138.set i168.toNat (ix data138 (w64 (i168 - (1 : Int))))).set (w64 (i168 - (1 : Int))).toNat (ix data138 i168)) :: _ :: _ :: _ :: _ :: V) ?_
 refine l_nil (q_draw (sL [4, 3, 2, 1, 0]) (dD ?_))
 exact qJ (fun w s => (s.e 5 [0]))
 rintro σ1
 obtain ⟨l179, hl180, hr⟩ := bd hr
 replace hl180 := Option.some.inj hl180
 refine qM (ow (kT33).share 33 (.slice A2 data1.length D2) l179 :: V) (fun w s => by rw [← hl180]; exact s) ?_
 refine q_next (c_seq (c_cut (A := ((List Row)) × (Unit)) (fun a => Z3_J6 data1 b4 j140 i168 a.1 = some out1) (fun a => [(0, (sc A2 data1 D2)), (1, (iv a3)), (2, (iv b4)), (3, (.func (.func 73) [].toArray [].toArray)), (9, (iv i168)), (10, (iv j140))]) (fun a => ow (kT33).share 33 (.slice A2 data1.length D2) a.1 :: V) ?_ ?_))
 refine c_seq (c_region (lI R (lI R (lO (vSb R R) (lO (vGe R R) (l_nil (q_next ?_)))))))
 rcases bif_ hr with ⟨hb181, hr⟩ | ⟨hb181, hr⟩
 refine c_true R hb181 (c_seq (c_region (lI R (lO (vSb R R) (lI R (l_nil (q_next (c_block ?_))))))))
 obtain ⟨e3, hl3, hk3⟩ := bd hr
 refine c_loop (A := Unit) hl3 (fun s a => [(0, (sc A2 data1 D2)), (1, (iv a3)), (2, (iv b4)), (3, (.func (.func 73) [].toArray [].toArray)), (9, (iv i168)), (10, (iv j140)), (11, (iv s.2))]) (fun s a => ow (kT33).share 33 (.slice A2 data1.length D2) s.1 :: V) () (aS R) (fun w s => s) ?_
 rintro ⟨data201, j202⟩ _ σ1 out3 hr he3
 replace hr : Z3_L3 data1 data201 j202 = some out3 := hr
 unfold Z3_L3 at hr
 refine c_seq (c_seq (c_region (lI R (lO (vGe R R) (l_nil (q_next ?_))))))
 rcases bif_ hr with ⟨hb203, hr⟩ | ⟨hb203, hr⟩
 refine c_true R hb203 (c_skip (q_next (c_seq (c_block (c_seq (c_seq ?_))))))
 obtain ⟨hg204, hr⟩ := gd hr
 obtain ⟨hg209, hr⟩ := gd hr
 obtain ⟨r212, hx213, hr⟩ := bd hr
 refine cQ [(0, (sc A2 data1 D2)), (1, (iv a3)), (2, (iv b4)), (3, (.func (.func 73) [].toArray [].toArray)), (9, (iv i168)), (10, (iv j140)), (11, (iv j202)), (84, (.bool (!(decide (r212 < (0 : Int))))))] (ow (kT33).share 33 (.slice A2 data1.length D2) data201 :: V) ?_ ?_
 refine c_some 0 sees_sh (show 0 < data1.length by have := hg204; omega) (fun g205 o206 ha => ?_)
 subst ha
 refine cdr 13 [] mixo (fun ht hn => (dR 0 R (vp (.func (.func 73) [].toArray [].toArray) R) (dR 1 R (vS R) (dR 2 R (vI R) (dR 3 R (vIa sl24 sz33 R R hg204) (dR 5 R (vS R) (dR 6 R (vI R) (dR 7 R (vSb R R) (dR 8 R (vIa sl24 sz33 R R hg209) (d_all [4, 9] (by kernel_rfl) R ⟨?_, ?_, trivial⟩))))))))))
 refine l_ldo (K := (kT33).share) 0 j202 R R ag33 sz33 dT33.own R R hg204.1 hg204.2 ?_
 rintro ⟨⟨A207, D207⟩, ⟨A208, D208⟩⟩
 refine lN (RR kT3 A207 D207 ((ix data201 j202).Key) :: RR kT3 A208 D208 ((ix data201 j202).Weights) :: ow (kT33).share 33 (.slice (ad g205 o206) data1.length D2) data201 :: V) ?_
 refine l_nil (q_draw (sL [1, 0]) (d1 9 R (l_ldo (K := (kT33).share) 2 (w64 (j202 - (1 : Int))) R R ag33 sz33 dT33.own R R hg209.1 hg209.2 ?_)))
 rintro ⟨⟨A210, D210⟩, ⟨A211, D211⟩⟩
 refine lN (RR kT3 A210 D210 ((ix data201 (w64 (j202 - (1 : Int)))).Key) :: RR kT3 A211 D211 ((ix data201 (w64 (j202 - (1 : Int)))).Weights) :: _ :: _ :: _ :: V) ?_
 refine l_nil (q_draw (sL [3, 2, 1, 0]) (d1 10 R (lM (rds _ _ _ :: rds _ _ _ :: rds _ _ _ :: rds _ _ _ :: rds _ _ _ :: rds _ _ _ :: rds _ _ _ :: rds _ _ _ :: ow _ _ _ _ :: V) (fun w s => (((((s.d 2 R).d 4 R).d 2 R).d 4 R).e 9 [3, 2, 1, 0, 4, 5, 6, 7, 8])) ?_)))
 refine l_callvn (fs := []) (cs := []) 4 R R cb73 R R (Z9_ok hx213) R ?_
 rintro _
 refine lN (_ :: _ :: _ :: _ :: _ :: V) ?_
 refine l_nil (q_draw (sL [3, 2, 1, 0]) (dR 11 R (vLt R R) (hS := (sL [3, 2, 1, 0])) (dR 12 R (vNo R) (hS := (sL [3, 2, 1, 0])) (dD ?_))))
 exact qJ (fun w s => (s.e 5 [4]))
 refine l_ldo (K := (kT33).share) 0 (w64 (j202 - (1 : Int))) R R ag33 sz33 dT33.own R R hg209.1 hg209.2 ?_
 rintro ⟨⟨A210, D210⟩, ⟨A211, D211⟩⟩
 refine lN (_ :: _ :: _ :: V) ?_
 refine l_nil (q_draw (sL [1, 0]) (d1 4 R (l_ldo (K := (kT33).share) 2 j202 R R ag33 sz33 dT33.own R R hg204.1 hg204.2 ?_)))
 rintro ⟨⟨A207, D207⟩, ⟨A208, D208⟩⟩
 refine lN (RR kT3 A207 D207 ((ix data201 j202).Key) :: RR kT3 A208 D208 ((ix data201 j202).Weights) :: _ :: _ :: _ :: V) ?_
 refine l_nil (q_draw (sL [3, 2, 1, 0]) (d1 10 R (lM (rds _ _ _ :: rds _ _ _ :: rds _ _ _ :: rds _ _ _ :: rds _ _ _ :: rds _ _ _ :: rds _ _ _ :: rds _ _ _ :: ow _ _ _ _ :: V) (fun w s => (((((s.d 0 R).d 2 R).d 4 R).d 6 R).e 9 [3, 2, 1, 0, 4, 5, 6, 7, 8])) ?_)))
 refine l_callvn (fs := []) (cs := []) 4 R R cb73 R R (Z9_ok hx213) R ?_
 rintro _
 refine lN (_ :: _ :: _ :: _ :: _ :: V) ?_
 refine l_nil (q_draw (sL [3, 2, 1, 0]) (dR 11 R (vLt R R) (hS := (sL [3, 2, 1, 0])) (dR 12 R (vNo R) (hS := (sL [3, 2, 1, 0])) (dD ?_))))
 exact qJ (fun w s => (s.e 5 [4]))
 rintro σ1
 refine q_next ?_
 rcases bif_ hr with ⟨hb214, hr⟩ | ⟨hb214, hr⟩
 refine c_true R hb214 (c_exit (q_exit (q_pass R (q_exit ?_))))
 obtain rfl := so hr
 obtain rfl := he3 _ R
 have hr := hk3
 refine q_exit (q_block ?_)
 exact qI (data201, ()) hr (fun w s => s)
 refine c_false R hb214 (c_skip (q_next (cQ [(0, (sc A2 data1 D2)), (1, (iv a3)), (2, (iv b4)), (3, (.func (.func 73) [].toArray [].toArray)), (9, (iv i168)), (10, (iv j140)), (11, (iv j202))] (ow (kT33).share 33 (.slice A2 data1.length D2) ((data201.set j202.toNat (ix data201 (w64 (j202 - (1 : Int))))).set (w64 (j202 - (1 : Int))).toNat (ix data201 j202)) :: V) ?_ ?_)))
 refine c_some 0 sees_sh (show 0 < data1.length by have := hg209; omega) (fun g215 o216 ha => ?_)
 subst ha
 refine cdr 18 [0] mixo (fun ht hn => (dR 0 R (vS R) (hS := (sL [0])) (dR 1 R (vI R) (hS := (sL [0])) (dR 2 R (vS R) (hS := (sL [0])) (dR 3 R (vI R) (hS := (sL [0])) (dR 4 R (vSb R R) (hS := (sL [0])) (dR 5 R (vS R) (hS := (sL [0])) (dR 6 R (vI R) (hS := (sL [0])) (dR 7 R (vSb R R) (hS := (sL [0])) (dR 8 R (vIa sl24 sz33 R R hg209) (hS := (sL [0])) (dR 10 R (vS R) (hS := (sL [0])) (dR 11 R (vI R) (hS := (sL [0])) (dR 12 R (vIa sl24 sz33 R R hg204) (hS := (sL [0])) (d_all [9, 13] (by kernel_rfl) R ⟨?_, ?_, trivial⟩))))))))))))))
 refine l_ldo (K := (kT33).share) 0 (w64 (j202 - (1 : Int))) R R ag33 sz33 dT33.own R R hg209.1 hg209.2 ?_
 rintro ⟨⟨A217, D217⟩, ⟨A218, D218⟩⟩
 refine lN (RR kT3 A217 D217 ((ix data201 (w64 (j202 - (1 : Int)))).Key) :: RR kT3 A218 D218 ((ix data201 (w64 (j202 - (1 : Int)))).Weights) :: ow (kT33).share 33 (.slice (ad g215 o216) data1.length D2) data201 :: V) ?_
 refine l_nil (q_draw (sL [2, 1, 0]) (d1 13 R (l_ldo (K := (kT33).share) 2 j202 R R ag33 sz33 dT33.own R R hg204.1 hg204.2 ?_)))
 rintro ⟨⟨A219, D219⟩, ⟨A220, D220⟩⟩
 refine lN (RR kT3 A219 D219 ((ix data201 j202).Key) :: RR kT3 A220 D220 ((ix data201 j202).Weights) :: _ :: _ :: _ :: V) ?_
 refine l_nil (q_draw (sL [4, 3, 2, 1, 0]) (dR 14 R (vIa sl24 sz33 R R hg204) (hS := (sL [4, 3, 2, 1, 0])) (d1 15 R (lM (ow _ _ _ _ :: rds _ _ _ :: rds _ _ _ :: rds _ _ _ :: rds _ _ _ :: rds _ _ _ :: rds _ _ _ :: V) (fun w s => (((s.d 2 R).d 4 R).e 7 [6, 1, 0, 2, 3, 4, 5])) ?_))))
 refine l_stx (K := (kT33).share) (x' := (ix data201 (w64 (j202 - (1 : Int))))) 2 j202 R R sz33 R R hg204.1 hg204.2 ?_ ?_
 exact fun I h s => (mS33).put I h ((sc A217 ((ix data201 (w64 (j202 - (1 : Int)))).Key) D217), (sc A218 ((ix data201 (w64 (j202 - (1 : Int)))).Weights) D218)) (ix data201 (w64 (j202 - (1 : Int)))) s
 refine lN (ow (kT33).share 33 (.slice (ad g215 o216) data1.length D2) (data201.set j202.toNat (ix data201 (w64 (j202 - (1 : Int))))) :: _ :: _ :: _ :: _ :: V) ?_
 refine l_nil (q_draw (sL [4, 3, 2, 1, 0]) (dR 16 R (vIa sl24 sz33 R R hg209) (hS := (sL [4, 3, 2, 1, 0])) (d1 17 R (lM (ow _ _ _ _ :: rds _ _ _ :: rds _ _ _ :: rds _ _ _ :: rds _ _ _ :: rds _ _ _ :: rds _ _ _ :: V) (fun w s => (((s.d 1 R).d 3 R).e 7 [2, 1, 0, 3, 4, 5, 6])) ?_))))
 refine l_stx (K := (kT33).share) (x' := (ix data201 j202)) 2 (w64 (j202 - (1 : Int))) R R sz33 R R hg209.1 hg209.2 ?_ ?_
 exact fun I h s => (mS33).put I h ((sc A219 ((ix data201 j202).Key) D219), (sc A220 ((ix data201 j202).Weights) D220)) (ix data201 j202) s
 refine lN (ow (kT33).share 33 (.slice (ad g215 o216) data1.length D2) ((data201.set j202.toNat (ix data201 (w64 (j202 - (1 : Int))))).set (w64 (j202 - (1 : Int))).toNat (ix data201 j202)) :: _ :: _ :: _ :: _ :: V) ?_
 refine l_nil (q_draw (sL [4, 3, 2, 1, 0]) (dD ?_))
 exact qJ (fun w s => (s.e 5 [0]))
 refine l_ldo (K := (kT33).share) 0 j202 R R ag33 sz33 dT33.own R R hg204.1 hg204.2 ?_
 rintro ⟨⟨A219, D219⟩, ⟨A220, D220⟩⟩
 refine lN (_ :: _ :: ow (kT33).share 33 (.slice (ad g215 o216) data1.length D2) data201 :: V) ?_
 refine l_nil (q_draw (sL [2, 1, 0]) (d1 9 R (l_ldo (K := (kT33).share) 2 (w64 (j202 - (1 : Int))) R R ag33 sz33 dT33.own R R hg209.1 hg209.2 ?_)))
 rintro ⟨⟨A217, D217⟩, ⟨A218, D218⟩⟩
 refine lN (RR kT3 A217 D217 ((ix data201 (w64 (j202 - (1 : Int)))).Key) :: RR kT3 A218 D218 ((ix data201 (w64 (j202 - (1 : Int)))).Weights) :: _ :: _ :: _ :: V) ?_
 refine l_nil (q_draw (sL [4, 3, 2, 1, 0]) (dR 14 R (vIa sl24 sz33 R R hg204) (hS := (sL [4, 3, 2, 1, 0])) (d1 15 R (lM (ow _ _ _ _ :: rds _ _ _ :: rds _ _ _ :: rds _ _ _ :: rds _ _ _ :: rds _ _ _ :: rds _ _ _ :: V) (fun w s => (((s.d 0 R).d 2 R).e 7 [6, 1, 0, 2, 3, 4, 5])) ?_))))
 refine l_stx (K := (kT33).share) (x' := (ix data201 (w64 (j202 - (1 : Int))))) 2 j202 R R sz33 R R hg204.1 hg204.2 ?_ ?_
 exact fun I h s => (mS33).put I h ((sc A217 ((ix data201 (w64 (j202 - (1 : Int)))).Key) D217), (sc A218 ((ix data201 (w64 (j202 - (1 : Int)))).Weights) D218)) (ix data201 (w64 (j202 - (1 : Int)))) s
 refine lN (ow (kT33).share 33 (.slice (ad g215 o216) data1.length D2) (data201.set j202.toNat (ix data201 (w64 (j202 - (1 : Int))))) :: _ :: _ :: _ :: _ :: V) ?_
 refine l_nil (q_draw (sL [4, 3, 2, 1, 0]) (dR 16 R (vIa sl24 sz33 R R hg209) (hS := (sL [4, 3, 2, 1, 0])) (d1 17 R (lM (ow _ _ _ _ :: rds _ _ _ :: rds _ _ _ :: rds _ _ _ :: rds _ _ _ :: rds _ _ _ :: rds _ _ _ :: V) (fun w s => (((s.d 3 R).d 5 R).e 7 [2, 1, 0, 3, 4, 5, 6])) ?_))))
 refine l_stx (K := (kT33).share) (x' := (ix data201 j202)) 2 (w64 (j202 - (1 : Int))) R R sz33 R R hg209.1 hg209.2 ?_ ?_
 exact fun I h s => (mS33).put I h ((sc A219 ((ix data201 j202).Key) D219), (sc A220 ((ix data201 j202).Weights) D220)) (ix data201 j202) s
 refine lN (ow (kT33).share 33 (.slice (ad g215 o216) data1.length D2) ((data201.set j202.toNat (ix data201 (w64 (j202 - (1 : Int))))).set (w64 (j202 - (1 : Int))).toNat (ix data201 j202)) :: _ :: _ :: _ :: _ :: V) ?_
 refine l_nil (q_draw (sL [4, 3, 2, 1, 0]) (dD ?_))
 exact qJ (fun w s => (s.e 5 [0]))
 rintro σ1
 obtain ⟨l221, hl222, hr⟩ := bd hr
 replace hl222 := Option.some.inj hl222
 refine qM (ow (kT33).share 33 (.slice A2 data1.length D2) l221 :: V) (fun w s => by rw [← hl222]; exact s) ?_
 refine q_blockn (q_next (c_region (lI R (lO (vSb R R) (lI R (l_nil ?_))))))
 obtain rfl := so hr
 exact qA () (fun w s => s)
 refine c_false R hb203 (c_exit (q_exit ?_))
 obtain rfl := so hr
 obtain rfl := he3 _ R
 have hr := hk3
 refine q_exit (q_block ?_)
 exact qI (data201, ()) hr (fun w s => s)
 refine c_false R hb181 (c_skip ?_)
 exact qI (l179, ()) hr (fun w s => s)
 rintro ⟨data225, _⟩ σ1 hr
 replace hr : Z3_J6 data1 b4 j140 i168 data225 = some out1 := hr
 unfold Z3_J6 at hr
 refine c_seq (c_region (lI R (lI R (lO (vSb R R) (lO (vGe R R) (l_nil (q_next ?_)))))))
 rcases bif_ hr with ⟨hb226, hr⟩ | ⟨hb226, hr⟩
 refine c_true R hb226 (c_seq (c_region (lI R (lO (vAd R R) (lI R (l_nil (q_next (c_block ?_))))))))
 obtain ⟨e4, hl4, hk4⟩ := bd hr
 refine c_loop (A := Unit) hl4 (fun s a => [(0, (sc A2 data1 D2)), (1, (iv a3)), (2, (iv b4)), (3, (.func (.func 73) [].toArray [].toArray)), (9, (iv i168)), (10, (iv j140)), (12, (iv s.2))]) (fun s a => ow (kT33).share 33 (.slice A2 data1.length D2) s.1 :: V) () (aS R) (fun w s => s) ?_
 rintro ⟨data247, j248⟩ _ σ1 out4 hr he4
 replace hr : Z3_L4 data1 b4 i168 data247 j248 = some out4 := hr
 unfold Z3_L4 at hr
 refine c_seq (c_seq (c_region (lI R (lI R (lO (vLt R R) (l_nil (q_next ?_)))))))
 rcases bif_ hr with ⟨hb249, hr⟩ | ⟨hb249, hr⟩
 refine c_true R hb249 (c_skip (q_next (c_seq (c_block (c_seq (c_seq ?_))))))
 obtain ⟨hg250, hr⟩ := gd hr
 obtain ⟨hg255, hr⟩ := gd hr
 obtain ⟨r258, hx259, hr⟩ := bd hr
 refine cQ [(0, (sc A2 data1 D2)), (1, (iv a3)), (2, (iv b4)), (3, (.func (.func 73) [].toArray [].toArray)), (9, (iv i168)), (10, (iv j140)), (12, (iv j248)), (124, (.bool (!(decide (r258 < (0 : Int))))))] (ow (kT33).share 33 (.slice A2 data1.length D2) data247 :: V) ?_ ?_
 refine c_some 0 sees_sh (show 0 < data1.length by have := hg250; omega) (fun g251 o252 ha => ?_)
 subst ha
 refine cdr 13 [] mixo (fun ht hn => (dR 0 R (vp (.func (.func 73) [].toArray [].toArray) R) (dR 1 R (vS R) (dR 2 R (vI R) (dR 3 R (vIa sl24 sz33 R R hg250) (dR 5 R (vS R) (dR 6 R (vI R) (dR 7 R (vSb R R) (dR 8 R (vIa sl24 sz33 R R hg255) (d_all [4, 9] (by kernel_rfl) R ⟨?_, ?_, trivial⟩))))))))))
 refine l_ldo (K := (kT33).share) 0 j248 R R ag33 sz33 dT33.own R R hg250.1 hg250.2 ?_
 rintro ⟨⟨A253, D253⟩, ⟨A254, D254⟩⟩
 refine lN (RR kT3 A253 D253 ((ix data247 j248).Key) :: RR kT3 A254 D254 ((ix data247 j248).Weights) :: ow (kT33).share 33 (.slice (ad g251 o252) data1.length D2) data247 :: V) ?_
 refine l_nil (q_draw (sL [1, 0]) (d1 9 R (l_ldo (K := (kT33).share) 2 (w64 (j248 - (1 : Int))) R R ag33 sz33 dT33.own R R hg255.1 hg255.2 ?_)))
 rintro ⟨⟨A256, D256⟩, ⟨A257, D257⟩⟩
 refine lN (RR kT3 A256 D256 ((ix data247 (w64 (j248 - (1 : Int)))).Key) :: RR kT3 A257 D257 ((ix data247 (w64 (j248 - (1 : Int)))).Weights) :: _ :: _ :: _ :: V) ?_
 refine l_nil (q_draw (sL [3, 2, 1, 0]) (d1 10 R (lM (rds _ _ _ :: rds _ _ _ :: rds _ _ _ :: rds _ _ _ :: rds _ _ _ :: rds _ _ _ :: rds _ _ _ :: rds _ _ _ :: ow _ _ _ _ :: V) (fun w s => (((((s.d 2 R).d 4 R).d 2 R).d 4 R).e 9 [3, 2, 1, 0, 4, 5, 6, 7, 8])) ?_)))
 refine l_callvn (fs := []) (cs := []) 4 R R cb73 R R (Z9_ok hx259) R ?_
 rintro _
 refine lN (_ :: _ :: _ :: _ :: _ :: V) ?_
 refine l_nil (q_draw (sL [3, 2, 1, 0]) (dR 11 R (vLt R R) (hS := (sL [3, 2, 1, 0])) (dR 12 R (vNo R) (hS := (sL [3, 2, 1, 0])) (dD ?_))))
 exact qJ (fun w s => (s.e 5 [4]))
 refine l_ldo (K := (kT33).share) 0 (w64 (j248 - (1 : Int))) R R ag33 sz33 dT33.own R R hg255.1 hg255.2 ?_
 rintro ⟨⟨A256, D256⟩, ⟨A257, D257⟩⟩
 refine lN (_ :: _ :: _ :: V) ?_
 refine l_nil (q_draw (sL [1, 0]) (d1 4 R (l_ldo (K := (kT33).share) 2 j248 R R ag33 sz33 dT33.own R R hg250.1 hg250.2 ?_)))
 rintro ⟨⟨A253, D253⟩, ⟨A254, D254⟩⟩
 refine lN (RR kT3 A253 D253 ((ix data247 j248).Key) :: RR kT3 A254 D254 ((ix data247 j248).Weights) :: _ :: _ :: _ :: V) ?_
 refine l_nil (q_draw (sL [3, 2, 1, 0]) (d1 10 R (lM (rds _ _ _ :: rds _ _ _ :: rds _ _ _ :: rds _ _ _ :: rds _ _ _ :: rds _ _ _ :: rds _ _ _ :: rds _ _ _ :: ow _ _ _ _ :: V) (fun w s => (((((s.d 0 R).d 2 R).d 4 R).d 6 R).e 9 [3, 2, 1, 0, 4, 5, 6, 7, 8])) ?_)))
 refine l_callvn (fs := []) (cs := []) 4 R R cb73 R R (Z9_ok hx259) R ?_
 rintro _
 refine lN (_ :: _ :: _ :: _ :: _ :: V) ?_
 refine l_nil (q_draw (sL [3, 2, 1, 0]) (dR 11 R (vLt R R) (hS := (sL [3, 2, 1, 0])) (dR 12 R (vNo R) (hS := (sL [3, 2, 1, 0])) (dD ?_))))
 exact qJ (fun w s => (s.e 5 [4]))
 rintro σ1
 refine q_next ?_
 rcases bif_ hr with ⟨hb260, hr⟩ | ⟨hb260, hr⟩
 refine c_true R hb260 (c_exit (q_exit (q_pass R (q_exit ?_))))
 obtain rfl := so hr
 obtain rfl := he4 _ R
 have hr := hk4
 refine q_exit (q_block (q_blockn ?_))
 exact qI ((data247, i168), ()) hr (fun w s => s)
 refine c_false R hb260 (c_skip (q_next (cQ [(0, (sc A2 data1 D2)), (1, (iv a3)), (2, (iv b4)), (3, (.func (.func 73) [].toArray [].toArray)), (9, (iv i168)), (10, (iv j140)), (12, (iv j248))] (ow (kT33).share 33 (.slice A2 data1.length D2) ((data247.set j248.toNat (ix data247 (w64 (j248 - (1 : Int))))).set (w64 (j248 - (1 : Int))).toNat (ix data247 j248)) :: V) ?_ ?_)))
 refine c_some 0 sees_sh (show 0 < data1.length by have := hg255; omega) (fun g261 o262 ha => ?_)
 subst ha
 refine cdr 18 [0] mixo (fun ht hn => (dR 0 R (vS R) (hS := (sL [0])) (dR 1 R (vI R) (hS := (sL [0])) (dR 2 R (vS R) (hS := (sL [0])) (dR 3 R (vI R) (hS := (sL [0])) (dR 4 R (vSb R R) (hS := (sL [0])) (dR 5 R (vS R) (hS := (sL [0])) (dR 6 R (vI R) (hS := (sL [0])) (dR 7 R (vSb R R) (hS := (sL [0])) (dR 8 R (vIa sl24 sz33 R R hg255) (hS := (sL [0])) (dR 10 R (vS R) (hS := (sL [0])) (dR 11 R (vI R) (hS := (sL [0])) (dR 12 R (vIa sl24 sz33 R R hg250) (hS := (sL [0])) (d_all [9, 13] (by kernel_rfl) R ⟨?_, ?_, trivial⟩))))))))))))))
 refine l_ldo (K := (kT33).share) 0 (w64 (j248 - (1 : Int))) R R ag33 sz33 dT33.own R R hg255.1 hg255.2 ?_
 rintro ⟨⟨A263, D263⟩, ⟨A264, D264⟩⟩
 refine lN (RR kT3 A263 D263 ((ix data247 (w64 (j248 - (1 : Int)))).Key) :: RR kT3 A264 D264 ((ix data247 (w64 (j248 - (1 : Int)))).Weights) :: ow (kT33).share 33 (.slice (ad g261 o262) data1.length D2) data247 :: V) ?_
 refine l_nil (q_draw (sL [2, 1, 0]) (d1 13 R (l_ldo (K := (kT33).share) 2 j248 R R ag33 sz33 dT33.own R R hg250.1 hg250.2 ?_)))
 rintro ⟨⟨A265, D265⟩, ⟨A266, D266⟩⟩
 refine lN (RR kT3 A265 D265 ((ix data247 j248).Key) :: RR kT3 A266 D266 ((ix data247 j248).Weights) :: _ :: _ :: _ :: V) ?_
 refine l_nil (q_draw (sL [4, 3, 2, 1, 0]) (dR 14 R (vIa sl24 sz33 R R hg250) (hS := (sL [4, 3, 2, 1, 0])) (d1 15 R (lM (ow _ _ _ _ :: rds _ _ _ :: rds _ _ _ :: rds _ _ _ :: rds _ _ _ :: rds _ _ _ :: rds _ _ _ :: V) (fun w s => (((s.d 2 R).d 4 R).e 7 [6, 1, 0, 2, 3, 4, 5])) ?_))))
 refine l_stx (K := (kT33).share) (x' := (ix data247 (w64 (j248 - (1 : Int))))) 2 j248 R R sz33 R R hg250.1 hg250.2 ?_ ?_
 exact fun I h s => (mS33).put I h ((sc A263 ((ix data247 (w64 (j248 - (1 : Int)))).Key) D263), (sc A264 ((ix data247 (w64 (j248 - (1 : Int)))).Weights) D264)) (ix data247 (w64 (j248 - (1 : Int)))) s
 refine lN (ow (kT33).share 33 (.slice (ad g261 o262) data1.length D2) (data247.set j248.toNat (ix data247 (w64 (j248 - (1 : Int))))) :: _ :: _ :: _ :: _ :: V) ?_
 refine l_nil (q_draw (sL [4, 3, 2, 1, 0]) (dR 16 R (vIa sl24 sz33 R R hg255) (hS := (sL [4, 3, 2, 1, 0])) (d1 17 R (lM (ow _ _ _ _ :: rds _ _ _ :: rds _ _ _ :: rds _ _ _ :: rds _ _ _ :: rds _ _ _ :: rds _ _ _ :: V) (fun w s => (((s.d 1 R).d 3 R).e 7 [2, 1, 0, 3, 4, 5, 6])) ?_))))
 refine l_stx (K := (kT33).share) (x' := (ix data247 j248)) 2 (w64 (j248 - (1 : Int))) R R sz33 R R hg255.1 hg255.2 ?_ ?_
 exact fun I h s => (mS33).put I h ((sc A265 ((ix data247 j248).Key) D265), (sc A266 ((ix data247 j248).Weights) D266)) (ix data247 j248) s
 refine lN (ow (kT33).share 33 (.slice (ad g261 o262) data1.length D2) ((data247.set j248.toNat (ix data247 (w64 (j248 - (1 : Int))))).set (w64 (j248 - (1 : Int))).toNat (ix data247 j248)) :: _ :: _ :: _ :: _ :: V) ?_
 refine l_nil (q_draw (sL [4, 3, 2, 1, 0]) (dD ?_))
 exact qJ (fun w s => (s.e 5 [0]))
 refine l_ldo (K := (kT33).share) 0 j248 R R ag33 sz33 dT33.own R R hg250.1 hg250.2 ?_
 rintro ⟨⟨A265, D265⟩, ⟨A266, D266⟩⟩
 refine lN (_ :: _ :: ow (kT33).share 33 (.slice (ad g261 o262) data1.length D2) data247 :: V) ?_
 refine l_nil (q_draw (sL [2, 1, 0]) (d1 9 R (l_ldo (K := (kT33).share) 2 (w64 (j248 - (1 : Int))) R R ag33 sz33 dT33.own R R hg255.1 hg255.2 ?_)))
 rintro ⟨⟨A263, D263⟩, ⟨A264, D264⟩⟩
 refine lN (RR kT3 A263 D263 ((ix data247 (w64 (j248 - (1 : Int)))).Key) :: RR kT3 A264 D264 ((ix data247 (w64 (j248 - (1 : Int)))).Weights) :: _ :: _ :: _ :: V) ?_
 refine l_nil (q_draw (sL [4, 3, 2, 1, 0]) (dR 14 R (vIa sl24 sz33 R R hg250) (hS := (sL [4, 3, 2, 1, 0])) (d1 15 R (lM (ow _ _ _ _ :: rds _ _ _ :: rds _ _ _ :: rds _ _ _ :: rds _ _ _ :: rds _ _ _ :: rds _ _ _ :: V) (fun w s => (((s.d 0 R).d 2 R).e 7 [6, 1, 0, 2, 3, 4, 5])) ?_))))
 refine l_stx (K := (kT33).share) (x' := (ix data247 (w64 (j248 - (1 : Int))))) 2 j248 R R sz33 R R hg250.1 hg250.2 ?_ ?_
 exact fun I h s => (mS33).put I h ((sc A263 ((ix data247 (w64 (j248 - (1 : Int)))).Key) D263), (sc A264 ((ix data247 (w64 (j248 - (1 : Int)))).Weights) D264)) (ix data247 (w64 (j248 - (1 : Int)))) s
 refine lN (ow (kT33).share 33 (.slice (ad g261 o262) data1.length D2) (data247.set j248.toNat (ix data247 (w64 (j248 - (1 : Int))))) :: _ :: _ :: _ :: _ :: V) ?_
 refine l_nil (q_draw (sL [4, 3, 2, 1, 0]) (dR 16 R (vIa sl24 sz33 R R hg255) (hS := (sL [4, 3, 2, 1, 0])) (d1 17 R (lM (ow _ _ _ _ :: rds _ _ _ :: rds _ _ _ :: rds _ _ _ :: rds _ _ _ :: rds _ _ _ :: rds _ _ _ :: V) (fun w s => (((s.d 3 R).d 5 R).e 7 [2, 1, 0, 3, 4, 5, 6])) ?_))))
 refine l_stx (K := (kT33).share) (x' := (ix data247 j248)) 2 (w64 (j248 - (1 : Int))) R R sz33 R R hg255.1 hg255.2 ?_ ?_
 exact fun I h s => (mS33).put I h ((sc A265 ((ix data247 j248).Key) D265), (sc A266 ((ix data247 j248).Weights) D266)) (ix data247 j248) s
 refine lN (ow (kT33).share 33 (.slice (ad g261 o262) data1.length D2) ((data247.set j248.toNat (ix data247 (w64 (j248 - (1 : Int))))).set (w64 (j248 - (1 : Int))).toNat (ix data247 j248)) :: _ :: _ :: _ :: _ :: V) ?_
 refine l_nil (q_draw (sL [4, 3, 2, 1, 0]) (dD ?_))
 exact qJ (fun w s => (s.e 5 [0]))
 rintro σ1
 obtain ⟨l267, hl268, hr⟩ := bd hr
 replace hl268 := Option.some.inj hl268
 refine qM (ow (kT33).share 33 (.slice A2 data1.length D2) l267 :: V) (fun w s => by rw [← hl268]; exact s) ?_
 refine q_blockn (q_next (c_region (lI R (lO (vAd R R) (lI R (l_nil ?_))))))
 obtain rfl := so hr
 exact qA () (fun w s => s)
 refine c_false R hb249 (c_exit (q_exit ?_))
 obtain rfl := so hr
 obtain rfl := he4 _ R
 have hr := hk4
 refine q_exit (q_block (q_blockn ?_))
 exact qI ((data247, i168), ()) hr (fun w s => s)
 refine c_false R hb226 (c_skip (q_blockn ?_))
 exact qI ((data225, i168), ()) hr (fun w s => s)
 rintro ⟨⟨data271, i272⟩, _⟩ σ1 hr
 replace hr : Z3_J7 j140 data271 i272 = some out1 := hr
 unfold Z3_J7 at hr
 refine c_region (lI R (lO (vAd R R) (lI R (l_nil ?_))))
 obtain rfl := so hr
 exact qA () (fun w s => s)
 refine c_false R hb141 (c_exit (q_exit ?_))
 obtain rfl := so hr
 obtain rfl := he1 _ R
 have hr := hk1
 refine q_exit (q_block ?_)
 exact q_join (data138, ()) hr trivial (fun w s => s)
 rintro ⟨p276, _⟩ σ1 hr
 replace hr : Z3_J8 p276 = some r := hr
 unfold Z3_J8 at hr
 refine c_seq (c_region (lB R (l_nil (q_next (c_ret ?_)))))
 obtain rfl := so hr
 exact qF () (fun w s => s)
end Go.Proofs.Ytkfgngcfcoplpaa
