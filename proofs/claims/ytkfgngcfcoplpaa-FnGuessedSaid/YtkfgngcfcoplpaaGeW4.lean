import Derived.Test.YtkfgngcfcoplpaaGeW3
set_option linter.unusedVariables false
set_option maxRecDepth 20000
namespace Go.Proofs.Ytkfgngcfcoplpaa
open Go Go.Pg
variable {A2 A3 A4 A5 A6 A7 A8 A9 A10 A11 : Option Addr} {D2 D3 D4 D5 D6 D7 D8 D9 D10 D11 N2 N3 N4 N5 N6 N7 N8 N9 N10 N11 : Nat}
theorem Zt_ok  {m1 : Lm} {r : Bool} (hr : Zt m1 = some r) :
 FnOk Try.prog 30 [(.agg [(iv m1.Size), (.slice A2 N2 D2)].toArray)] [rds kT33 (.slice A2 N2 D2) m1.Rows] (fun (h : Unit) => ((.bool r), [])) := by
 unfold Zt at hr
 refine fn_ok Try.func30 R 83 R R fun C V => ?_
 refine cN (_ :: V) ?_
 refine cL 0 sees_rd ?_
 rintro rfl
 let W0 : List HP := RR kT33 A2 D2 m1.Rows :: V
 refine cN W0 ?_
 refine c_seq (c_region (lBx R (fun b3 => (lB R (l_nil ?_)))))
 let W1 : List HP := bxl b3 [(iv m1.Size), (sc A2 m1.Rows D2)] 26 :: W0
 refine qN W1 ?_
 refine q_next (c_seq (c_seq ?_))
 obtain ⟨r4, hx5, hr⟩ := bd hr
 refine cQ [(1, (pt b3 0)), (15, (.bool ((!r4) || (decide ((m1.Rows.length : Int) > (500 : Int))))))] (W1) ?_ ?_
 refine c_region (lO (vFa 0 fo26_0 R) (lO (vLd 0 ag3 R R R) (lC 0 cb31 R (Zx_ok hx5) R ?_)))
 rintro _
 refine lO (vNo R) (lB R ?_)
 rcases bo (!r4) with hc6 | hc6
 refine lf (wfT hc6) (lf (wfT hc6) (lf (wfT hc6) (lf (wfT hc6) (lO (pOT (decide ((m1.Rows.length : Int) > (500 : Int))) R hc6) (l_nil ?_)))))
 exact qJ (fun w s => s)
 refine lW (wnF hc6) (vFa 1 fo26_1 R) (lW (wnF hc6) (vLd 0 ag24 R R R) (lW (wnF hc6) (v_len sl24 R) (lW (wnF hc6) (vGt R R) (lO (pOF R hc6 R) (l_nil ?_)))))
 exact qJ (fun w s => s)
 rintro σ1
 refine q_next ?_
 rcases bif_ hr with ⟨hb7, hr⟩ | ⟨hb7, hr⟩
 refine c_true R hb7 (c_seq (c_region (lB R (l_nil (q_next (c_ret (q_ret ?_)))))))
 obtain rfl := so hr
 exact qF () (fun w s => (s.e 2 []))
 refine c_false R hb7 (c_skip (q_next (c_seq ?_)))
 obtain ⟨r8, hx9, hr⟩ := bd hr
 refine c_region (lO (vz (.agg [(iv m1.Size), (sc A2 m1.Rows D2)].toArray) (v_loadw 0 ag26 sz26 R R R R)) (lM (RR kT33 A2 D2 m1.Rows :: W1) (fun w s => (s.d 1 R)) ?_))
 refine lC 1 cb52 R (Z0w_ok hx9) R ?_
 rintro ⟨A10, N10, D10⟩
 refine lN (ow (kT33).share 33 (.slice A10 N10 D10) r8 :: W1) ?_
 refine l_len 0 sees_sh ?_
 rintro rfl
 refine lS R (l_nil (q_next (c_seq (c_cut (A := (Unit) × (HH)) (fun a => Zt_J1 r8 = some r) (fun a => [(3, (.slice a.2.1 a.2.2.1 a.2.2.2))]) (fun a => ow (kT33).share 33 (.slice a.2.1 a.2.2.1 a.2.2.2) r8 :: W1) ?_ ?_))))
 refine c_seq (c_region (lS R (lO (v_len sl24 R) (lI R (l_nil (q_next (c_block ?_)))))))
 obtain ⟨e1, hl1, hk1⟩ := bd hr
 refine c_loop (A := HH) hl1 (fun s a => [(1, (pt b3 0)), (3, (.slice a.1 a.2.1 a.2.2)), (18, (.slice a.1 a.2.1 a.2.2)), (19, (il r8)), (20, (iv s))]) (fun s a => ow (kT33).share 33 (.slice a.1 a.2.1 a.2.2) r8 :: W1) (A10, r8.length, D10) (aS R) (fun w s => s) ?_
 rintro x37 ⟨A36, N36, D36⟩ σ1 out1 hr he1
 replace hr : Zt_L1 m1 r8 x37 = some out1 := hr
 unfold Zt_L1 at hr
 refine c_len 0 sees_sh (fun (hn : N36 = r8.length) => ?_)
 subst hn
 refine c_seq (c_region (lO (vLt R R) (l_nil (q_next (c_seq ?_)))))
 rcases bif_ hr with ⟨hb38, hr⟩ | ⟨hb38, hr⟩
 refine c_true R hb38 (c_skip (q_next (c_seq (c_block (c_seq ?_)))))
 obtain ⟨hg39, hr⟩ := gd hr
 refine c_region (lI R (t_some 0 sees_sh (show 0 < r8.length by have := hg39; omega) (fun g40 o41 ha => ?_)))
 subst ha
 refine lO (vIa sl24 sz33 R R hg39) (l_ldo (K := (kT33).share) 0 x37 R R ag33 sz33 dT33.own R R hg39.1 hg39.2 ?_)
 rintro ⟨⟨A42, D42⟩, ⟨A43, D43⟩⟩
 refine lN (RR kT3 A42 D42 ((ix r8 x37).Key) :: RR kT3 A43 D43 ((ix r8 x37).Weights) :: OO (kT33).share 33 (ad g40 o41) D36 r8 :: W1) ?_
 refine l_alloc R R zc33 (fun b44 => (lI R (l_stores 0 R R sz33 R R R R R R (lN (bxl b44 [(sc A42 ((ix r8 x37).Key) D42), (sc A43 ((ix r8 x37).Weights) D43)] 33 :: _ :: _ :: _ :: W1) ?_))))
 refine l_nil (q_next (c_seq (c_seq ?_)))
 obtain ⟨r45, hx46, hr⟩ := bd hr
 obtain ⟨r47, hx48, hr⟩ := bd hr
 obtain ⟨r49, hx50, hr⟩ := bd hr
 refine cQ [(1, (pt b3 0)), (3, (sc (ad g40 o41) r8 D36)), (4, (iv x37)), (5, (pt b44 0)), (18, (sc (ad g40 o41) r8 D36)), (19, (il r8)), (20, (iv x37)), (56, (.bool (((((decide ((((ix r8 x37).Key).length : Int) > (4 : Int))) || (!r45)) || ((((ix r8 x37).Weights).length : Int) != m1.Size)) || (!r47)) || r49)))] (OO (kT33).share 33 (ad g40 o41) D36 r8 :: bxl b44 [(sc A42 ((ix r8 x37).Key) D42), (sc A43 ((ix r8 x37).Weights) D43)] 33 :: RR kT3 A42 D42 ((ix r8 x37).Key) :: RR kT3 A43 D43 ((ix r8 x37).Weights) :: W1) ?_ ?_
 refine c_region (lO (vFa 0 fo33_0 R) (lO (vLd 0 ag29 R R R) (lO (v_len sl29 R) (lO (vGt R R) (lB R ?_)))))
 rcases bo (decide ((((ix r8 x37).Key).length : Int) > (4 : Int))) with hc51 | hc51
 refine lf (wfT hc51) (lf (wfT hc51) (lf (wfT hc51) (lf (wfT hc51) (lf (wfT hc51) (lf (wfT hc51) (lf (wfT hc51) (lO (pOT (!r45) R hc51) (lB R (lf (wfT (oT hc51)) (lf (wfT (oT hc51)) (lf (wfT (oT hc51)) (lf (wfT (oT hc51)) (lf (wfT (oT hc51)) (lf (wfT (oT hc51)) (lO (pOT ((((ix r8 x37).Weights).length : Int) != m1.Size) R (oT hc51)) (lB R (lf (wfT (oT (oT hc51))) (lf (wfT (oT (oT hc51))) (lf (wfT (oT (oT hc51))) (lf (wfT (oT (oT hc51))) (lO (pOT (!r47) R (oT (oT hc51))) (lB R (lf (wfT (oT (oT (oT hc51)))) (lf (wfT (oT (oT (oT hc51)))) (lf (wfT (oT (oT (oT hc51)))) (lO (pOT r49 R (oT (oT (oT hc51)))) (l_nil ?_)))))))))))))))))))))))))))
 exact qJ (fun w s => (s.e 4 [3, 0, 1, 2]))
 refine lW (wnF hc51) (vFa 0 fo33_0 R) (lW (wnF hc51) (vLd 0 ag29 R R R) (lW (wnF hc51) (vFa 0 fo26_0 R) (lW (wnF hc51) (vLd 4 ag3 R R R) (lW (wnF hc51) (vSb R R) (lM (_ :: _ :: _ :: _ :: _ :: W1) (fun w s => (s.d 1 R)) ?_)))))
 refine l_calln 1 R (wnF hc51) cb51 R (Zw_ok (gcall_t hx46 (not_ff hc51))) R ?_
 rintro _
 refine lN (_ :: _ :: _ :: _ :: W1) ?_
 refine lW (wnF hc51) (vNo R) (lO (pOF R hc51 R) (lB R ?_))
 rcases bo ((decide ((((ix r8 x37).Key).length : Int) > (4 : Int))) || (!r45)) with hc52 | hc52
 refine lf (wfT hc52) (lf (wfT hc52) (lf (wfT hc52) (lf (wfT hc52) (lf (wfT hc52) (lf (wfT hc52) (lO (pOT ((((ix r8 x37).Weights).length : Int) != m1.Size) R hc52) (lB R (lf (wfT (oT hc52)) (lf (wfT (oT hc52)) (lf (wfT (oT hc52)) (lf (wfT (oT hc52)) (lO (pOT (!r47) R (oT hc52)) (lB R (lf (wfT (oT (oT hc52))) (lf (wfT (oT (oT hc52))) (lf (wfT (oT (oT hc52))) (lO (pOT r49 R (oT (oT hc52))) (l_nil ?_))))))))))))))))))
 exact qJ (fun w s => (s.e 4 [3, 0, 1, 2]))
 refine lW (wnF hc52) (vFa 1 fo33_1 R) (lW (wnF hc52) (vLd 0 ag29 R R R) (lW (wnF hc52) (v_len sl29 R) (lW (wnF hc52) (vFa 0 fo26_0 R) (lW (wnF hc52) (vLd 4 ag3 R R R) (lW (wnF hc52) (vNe R R) (lO (pOF R hc52 R) (lB R ?_)))))))
 rcases bo (((decide ((((ix r8 x37).Key).length : Int) > (4 : Int))) || (!r45)) || ((((ix r8 x37).Weights).length : Int) != m1.Size)) with hc53 | hc53
 refine lf (wfT hc53) (lf (wfT hc53) (lf (wfT hc53) (lf (wfT hc53) (lO (pOT (!r47) R hc53) (lB R (lf (wfT (oT hc53)) (lf (wfT (oT hc53)) (lf (wfT (oT hc53)) (lO (pOT r49 R (oT hc53)) (l_nil ?_))))))))))
 exact qJ (fun w s => (s.e 4 [3, 0, 1, 2]))
 refine lW (wnF hc53) (vFa 1 fo33_1 R) (lW (wnF hc53) (vLd 0 ag29 R R R) (lM (_ :: _ :: _ :: _ :: _ :: W1) (fun w s => (s.d 2 R)) ?_))
 refine l_calln 1 R (wnF hc53) cb51 R (Zw_ok (gcall_t hx48 (not_ff hc53))) R ?_
 rintro _
 refine lN (_ :: _ :: _ :: _ :: W1) ?_
 refine lW (wnF hc53) (vNo R) (lO (pOF R hc53 R) (lB R ?_))
 rcases bo ((((decide ((((ix r8 x37).Key).length : Int) > (4 : Int))) || (!r45)) || ((((ix r8 x37).Weights).length : Int) != m1.Size)) || (!r47)) with hc54 | hc54
 refine lf (wfT hc54) (lf (wfT hc54) (lf (wfT hc54) (lO (pOT r49 R hc54) (l_nil ?_))))
 exact qJ (fun w s => (s.e 4 [3, 0, 1, 2]))
 refine lW (wnF hc54) (vFa 1 fo33_1 R) (lW (wnF hc54) (vLd 0 ag29 R R R) (lM (_ :: _ :: _ :: _ :: _ :: W1) (fun w s => (s.d 2 R)) ?_))
 refine l_calln 1 R (wnF hc54) cb53 R (Z0c_ok (gcall_t hx50 (not_ff hc54))) R ?_
 rintro _
 refine lN (_ :: _ :: _ :: _ :: W1) ?_
 refine lO (pOF R hc54 R) (l_nil ?_)
 exact qJ (fun w s => (s.e 4 [3, 0, 1, 2]))
 rintro σ1
 refine q_next ?_
 rcases bif_ hr with ⟨hb55, hr⟩ | ⟨hb55, hr⟩
 refine c_true R hb55 (c_seq (c_region (lB R (l_nil (q_next (c_ret (q_ret (q_blockr (q_ret ?_)))))))))
 obtain rfl := so hr
 obtain rfl := he1 _ R
 have hr := hk1
 refine q_ret (q_blockr (q_ret ?_))
 obtain rfl := so hr
 exact qF () (fun w s => (s.e 6 []))
 refine c_false R hb55 (c_skip (q_next (c_seq ?_)))
 obtain ⟨hg56, hr⟩ := gd hr
 obtain ⟨r59, hx60, hr⟩ := bd hr
 refine cQ [(1, (pt b3 0)), (3, (sc (ad g40 o41) r8 D36)), (18, (sc (ad g40 o41) r8 D36)), (19, (il r8)), (20, (iv x37)), (70, (.bool ((decide (x37 > (0 : Int))) && (r59 == (0 : Int)))))] (OO (kT33).share 33 (ad g40 o41) D36 r8 :: W1) ?_ ?_
 rcases bo (decide (x37 > (0 : Int))) with hc61 | hc61
 refine cdr 14 [] mixo (fun ht hn => (dR 0 R (vI R) (dR 1 R (vGt R R) (dR 2 R (vB R) (dW 3 R (wnT hc61) (vS R) (dW 4 R (wnT hc61) (vI R) (dW 5 R (wnT hc61) (vSb R R) (dW 6 R (wnT hc61) (vIa sl24 sz33 R R (hg56 hc61)) (dW 7 R (wnT hc61) (vz (.pointer (some ⟨g40, o41 + (w64 (x37 - (1 : Int))).toNat * 2, none⟩)) (v_fa fo33_0 R R)) (dW 9 R (wnT hc61) (vFa 0 fo33_0 R) (dW 10 R (wnT hc61) (vLd 1 ag29 R R R) (d1 8 R (l_ldof (K := (kT33).share) (fo := 0) 0 (w64 (x37 - (1 : Int))) R (wnT hc61) ag29 dT33.own (fun _ _ => R) R R (hg56 hc61).1 (hg56 hc61).2 ?_)))))))))))))
 rintro ⟨⟨A57, D57⟩, ⟨A58, D58⟩⟩
 refine lN (RR kT3 A57 D57 ((ix r8 (w64 (x37 - (1 : Int)))).Key) :: RR kT3 A58 D58 ((ix r8 (w64 (x37 - (1 : Int)))).Weights) :: _ :: _ :: _ :: _ :: W1) ?_
 refine l_nil (q_draw (sL [1, 0]) (d1 11 R (lM (rds _ _ _ :: rds _ _ _ :: rds _ _ _ :: rds _ _ _ :: ow _ _ _ _ :: bxl _ _ _ :: rds _ _ _ :: rds _ _ _ :: W1) (fun w s => (((s.d 0 R).d 5 R).f 8 [1, 1, 0, 1, 2, 6])) ?_)))
 refine l_calln 2 R (wnT hc61) cb54 R (Z0u_ok (gcall_t hx60 hc61)) R ?_
 rintro _
 refine lN (_ :: _ :: _ :: _ :: _ :: _ :: W1) ?_
 refine l_nil (q_draw (sL [1, 0]) (dW 12 R (wnT hc61) (vEq R R) (hS := (sL [1, 0])) (dR 13 R (pAT R hc61 R) (hS := (sL [1, 0])) (dD ?_))))
 exact qJ (fun w s => (s.e 6 [2]))
 refine cdr 14 [] mixo (fun ht hn => (dR 0 R (vI R) (dR 1 R (vGt R R) (dR 2 R (vB R) (dF 3 R (wfF hc61) (dF 4 R (wfF hc61) (dF 5 R (wfF hc61) (dF 6 R (wfF hc61) (dF 7 R (wfF hc61) (dF 8 R (wfF hc61) (dF 9 R (wfF hc61) (dF 10 R (wfF hc61) (dF 11 R (wfF hc61) (dF 12 R (wfF hc61) (dR 13 R (pAF (r59 == (0 : Int)) R hc61) (dD ?_))))))))))))))))
 exact qJ (fun w s => (s.e 4 [0]))
 rintro σ1
 refine q_next ?_
 rcases bif_ hr with ⟨hb62, hr⟩ | ⟨hb62, hr⟩
 refine c_true R hb62 (c_seq (c_region (lB R (l_nil (q_next (c_ret (q_blockr (q_ret ?_))))))))
 obtain rfl := so hr
 obtain rfl := he1 _ R
 have hr := hk1
 refine q_ret (q_blockr (q_ret ?_))
 obtain rfl := so hr
 exact qF () (fun w s => (s.e 3 []))
 refine c_false R hb62 (c_skip (q_blockn (q_next (c_region (lO (vAd R R) (lI R (l_nil ?_)))))))
 obtain rfl := so hr
 exact qA ((ad g40 o41), r8.length, D36) (fun w s => s)
 refine c_false R hb38 (c_exit (q_exit ?_))
 obtain rfl := so hr
 obtain rfl := he1 _ R
 have hr := hk1
 refine q_exit (q_block ?_)
 exact qI ((), (A36, r8.length, D36)) hr (fun w s => s)
 rintro ⟨_, ⟨A65, N65, D65⟩⟩ σ1 hr
 replace hr : Zt_J1 r8 = some r := hr
 unfold Zt_J1 at hr
 refine c_len 0 sees_sh (fun (hn : N65 = r8.length) => ?_)
 subst hn
 refine c_seq ?_
 obtain ⟨hg66, hr⟩ := gd hr
 refine cQ [(2, (.bool ((decide ((r8.length : Int) > (0 : Int))) && ((((ix r8 (0 : Int)).Key).length : Int) == (0 : Int)))))] (W1) ?_ ?_
 refine c_region (lS R (lO (v_len sl24 R) (lO (vGt R R) (lB R ?_))))
 rcases bo (decide ((r8.length : Int) > (0 : Int))) with hc71 | hc71
 refine lW (wnT hc71) (vS R) (t_some 0 sees_sh (show 0 < r8.length by have := (hg66 hc71); omega) (fun g67 o68 ha => ?_))
 subst ha
 refine lW (wnT hc71) (vIa sl24 sz33 R R (hg66 hc71)) (lW (wnT hc71) (vz (.pointer (some ⟨g67, o68 + (0 : Int).toNat * 2, none⟩)) (v_fa fo33_0 R R)) (l_ldof (K := (kT33).share) (fo := 0) 0 (0 : Int) R (wnT hc71) ag29 dT33.own (fun _ _ => R) R R (hg66 hc71).1 (hg66 hc71).2 ?_))
 rintro ⟨⟨A69, D69⟩, ⟨A70, D70⟩⟩
 refine lN (RR kT3 A69 D69 ((ix r8 (0 : Int)).Key) :: RR kT3 A70 D70 ((ix r8 (0 : Int)).Weights) :: OO (kT33).share 33 (ad g67 o68) D65 r8 :: W1) ?_
 refine lW (wnT hc71) (v_len sl29 R) (lW (wnT hc71) (vEq R R) (lO (pAT R hc71 R) (lB R (l_nil ?_))))
 exact qJ (fun w s => (s.e 3 []))
 refine lf (wfF hc71) (lf (wfF hc71) (lf (wfF hc71) (lf (wfF hc71) (lf (wfF hc71) (lf (wfF hc71) (lO (pAF ((((ix r8 (0 : Int)).Key).length : Int) == (0 : Int)) R hc71) (lB R (l_nil ?_))))))))
 exact qJ (fun w s => (s.e 1 []))
 rintro σ1
 refine q_next (c_ret ?_)
 obtain rfl := so hr
 exact qF () (fun w s => (s.e 2 []))
theorem Z0z_ok  {m1 : Lm} {prompt3 : (List Int)} {n5 : Int} {r : Bool} (hr : Z0z m1 prompt3 n5 = some r) :
 FnOk Try.prog 27 [(.agg [(iv m1.Size), (.slice A2 N2 D2)].toArray), (.slice A4 N4 D4), (iv n5)] [rds kT33 (.slice A2 N2 D2) m1.Rows, rds kT3 (.slice A4 N4 D4) prompt3] (fun (h : Unit) => ((.bool r), [])) := by
 unfold Z0z at hr
 refine fn_ok Try.func27 R 25 R R fun C V => ?_
 refine cN (_ :: _ :: V) ?_
 refine cL 0 sees_rd ?_
 rintro rfl
 refine cL 1 sees_rd ?_
 rintro rfl
 let W0 : List HP := RR kT33 A2 D2 m1.Rows :: RR kT3 A4 D4 prompt3 :: V
 refine cN W0 ?_
 refine c_seq (c_region (lBx R (fun b6 => (lB R (l_nil ?_)))))
 let W1 : List HP := bxl b6 [(iv m1.Size), (sc A2 m1.Rows D2)] 26 :: W0
 refine qN W1 ?_
 refine q_next (c_seq ?_)
 obtain ⟨r7, hx8, hr⟩ := bd hr
 obtain ⟨r9, hx10, hr⟩ := bd hr
 obtain ⟨r11, hx12, hr⟩ := bd hr
 refine cQ [(6, (.bool (((r7 && (decide ((prompt3.length : Int) ≤ (1700 : Int)))) && r9) && r11)))] (W1) ?_ ?_
 refine c_region (lO (vz (.agg [(iv m1.Size), (sc A2 m1.Rows D2)].toArray) (v_loadw 0 ag26 sz26 R R R R)) (lM (RR kT33 A2 D2 m1.Rows :: W1) (fun w s => (s.d 1 R)) ?_))
 refine lC 1 cb30 R (Zt_ok hx8) R ?_
 rintro _
 refine lN W1 ?_
 refine lB R ?_
 rcases bo r7 with hc13 | hc13
 refine lW (wnT hc13) (vS R) (lW (wnT hc13) (v_len sl29 R) (lW (wnT hc13) (vLe R R) (lO (pAT R hc13 R) (lB R ?_))))
 rcases bo (r7 && (decide ((prompt3.length : Int) ≤ (1700 : Int)))) with hc14 | hc14
 refine lW (wnT hc14) (vS R) (lW (wnT hc14) (vFa 0 fo26_0 R) (lW (wnT hc14) (vLd 0 ag3 R R R) (lW (wnT hc14) (vSb R R) (lM (RR kT3 A4 D4 prompt3 :: W1) (fun w s => (s.d 2 R)) ?_))))
 refine l_calln 1 R (wnT hc14) cb51 R (Zw_ok (gcall_t hx10 hc14)) R ?_
 rintro _
 refine lN W1 ?_
 refine lO (pAT R hc14 R) (lB R ?_)
 rcases bo ((r7 && (decide ((prompt3.length : Int) ≤ (1700 : Int)))) && r9) with hc15 | hc15
 refine lW (wnT hc15) (vI R) (l_calln 0 R (wnT hc15) cb31 R (Zx_ok (gcall_t hx12 hc15)) R ?_)
 rintro _
 refine lO (pAT R hc15 R) (lB R (l_nil ?_))
 exact qJ (fun w s => s)
 refine lf (wfF hc15) (lf (wfF hc15) (lO (pAF r11 R hc15) (lB R (l_nil ?_))))
 exact qJ (fun w s => s)
 refine lf (wfF hc14) (lf (wfF hc14) (lf (wfF hc14) (lf (wfF hc14) (lf (wfF hc14) (lO (pAF r9 R hc14) (lB R (lf (wfF (aF hc14)) (lf (wfF (aF hc14)) (lO (pAF r11 R (aF hc14)) (lB R (l_nil ?_)))))))))))
 exact qJ (fun w s => s)
 refine lf (wfF hc13) (lf (wfF hc13) (lf (wfF hc13) (lO (pAF (decide ((prompt3.length : Int) ≤ (1700 : Int))) R hc13) (lB R (lf (wfF (aF hc13)) (lf (wfF (aF hc13)) (lf (wfF (aF hc13)) (lf (wfF (aF hc13)) (lf (wfF (aF hc13)) (lO (pAF r9 R (aF hc13)) (lB R (lf (wfF (aF (aF hc13))) (lf (wfF (aF (aF hc13))) (lO (pAF r11 R (aF (aF hc13))) (lB R (l_nil ?_))))))))))))))))
 exact qJ (fun w s => s)
 rintro σ1
 refine q_next (c_ret ?_)
 obtain rfl := so hr
 exact qF () (fun w s => (s.e 3 []))
theorem Z15_ok  {c1 : Choice} {r : Bool} (hr : Z15 c1 = some r) :
 FnOk Try.prog 28 [(.agg [(iv c1.Power), (iv c1.Cut), (iv c1.Mass)].toArray)] [] (fun (h : Unit) => ((.bool r), [])) := by
 unfold Z15 at hr
 refine fn_ok Try.func28 R 16 R R fun C V => ?_
 refine cN V ?_
 refine c_seq (c_region (lBx R (fun b2 => (lB R (l_nil ?_)))))
 let W1 : List HP := bxl b2 [(iv c1.Power), (iv c1.Cut), (iv c1.Mass)] 28 :: V
 refine qN W1 ?_
 refine q_next (c_seq ?_)
 obtain ⟨r3, hx4, hr⟩ := bd hr
 obtain ⟨r5, hx6, hr⟩ := bd hr
 obtain ⟨r7, hx8, hr⟩ := bd hr
 refine cQ [(2, (.bool ((r3 && r5) && r7)))] (W1) ?_ ?_
 refine c_region (lO (vFa 0 fo28_0 R) (lO (vLd 0 ag3 R R R) (lC 0 cb31 R (Zx_ok hx4) R ?_)))
 rintro _
 refine lB R ?_
 rcases bo r3 with hc9 | hc9
 refine lW (wnT hc9) (vFa 1 fo28_1 R) (lW (wnT hc9) (vLd 0 ag3 R R R) (l_calln 0 R (wnT hc9) cb31 R (Zx_ok (gcall_t hx6 hc9)) R ?_))
 rintro _
 refine lO (pAT R hc9 R) (lB R ?_)
 rcases bo (r3 && r5) with hc10 | hc10
 refine lW (wnT hc10) (vFa 2 fo28_2 R) (lW (wnT hc10) (vLd 0 ag3 R R R) (l_calln 0 R (wnT hc10) cb31 R (Zx_ok (gcall_t hx8 hc10)) R ?_))
 rintro _
 refine lO (pAT R hc10 R) (lB R (l_nil ?_))
 exact qJ (fun w s => s)
 refine lf (wfF hc10) (lf (wfF hc10) (lf (wfF hc10) (lO (pAF r7 R hc10) (lB R (l_nil ?_)))))
 exact qJ (fun w s => s)
 refine lf (wfF hc9) (lf (wfF hc9) (lf (wfF hc9) (lO (pAF r5 R hc9) (lB R (lf (wfF (aF hc9)) (lf (wfF (aF hc9)) (lf (wfF (aF hc9)) (lO (pAF r7 R (aF hc9)) (lB R (l_nil ?_))))))))))
 exact qJ (fun w s => s)
 rintro σ1
 refine q_next (c_ret ?_)
 obtain rfl := so hr
 exact qF () (fun w s => (s.e 1 []))
theorem Z0i_ok  {p1 : Int} {r : Bool} (hr : Z0i p1 = some r) :
 FnOk Try.prog 29 [(iv p1)] [] (fun (h : Unit) => ((.bool r), [])) := by
 unfold Z0i at hr
 refine fn_ok Try.func29 R 9 R R fun C V => ?_
 refine cN V ?_
 refine c_seq (c_region (lB R (l_nil (q_next (c_seq (cQ [(2, (.bool ((decide (p1 ≥ (0 : Int))) && (decide (p1 < (4294967296 : Int))))))] (V) ?_ ?_))))))
 refine c_region (lI R (lO (vGe R R) (lB R ?_)))
 rcases bo (decide (p1 ≥ (0 : Int))) with hc2 | hc2
 refine lW (wnT hc2) (vI R) (lW (wnT hc2) (vLt R R) (lO (pAT R hc2 R) (lB R (l_nil ?_))))
 exact qJ (fun w s => s)
 refine lf (wfF hc2) (lf (wfF hc2) (lO (pAF (decide (p1 < (4294967296 : Int))) R hc2) (lB R (l_nil ?_))))
 exact qJ (fun w s => s)
 rintro σ1
 refine q_next (c_ret ?_)
 obtain rfl := so hr
 exact qF () (fun w s => s)
theorem Z12_ok  {p1 : Int} {r : Int} (hr : Z12 p1 = some r) :
 FnOk Try.prog 55 [(iv p1)] [] (fun (h : Unit) => ((iv r), [])) := by
 unfold Z12 at hr
 refine fn_ok Try.func55 R 10 R R fun C V => ?_
 refine cN V ?_
 refine c_seq (c_region (lI R (l_nil (q_next (c_seq (c_seq ?_))))))
 obtain ⟨r2, hx3, hr⟩ := bd hr
 refine c_region (lI R (lC 0 cb29 R (Z0i_ok hx3) R ?_))
 rintro _
 refine lO (vNo R) (l_nil (q_next ?_))
 rcases bif_ hr with ⟨hb4, hr⟩ | ⟨hb4, hr⟩
 refine c_true R hb4 (c_seq (c_region (lI R (l_nil (q_next (c_ret (q_ret ?_)))))))
 obtain rfl := so hr
 exact qF () (fun w s => s)
 refine c_false R hb4 (c_skip (q_next (c_seq (c_region (lI R (lO (vMu R R) (lO (vAd R R) (lO (v_rem R R (by decide)) (lI R (l_nil (q_next (c_ret ?_))))))))))))
 obtain rfl := so hr
 exact qF () (fun w s => s)
theorem Zs_ok  {m1 : Lm} {c3 : Choice} {n4 : Int} {seed5 : Int} {r : talker} (hr : Zs m1 c3 n4 seed5 = some r) :
 FnOk Try.prog 32 [(.agg [(iv m1.Size), (.slice A2 N2 D2)].toArray), (.agg [(iv c3.Power), (iv c3.Cut), (iv c3.Mass)].toArray), (iv n4), (iv seed5)] [rds kT33 (.slice A2 N2 D2) m1.Rows] (fun (h : HH × HH × Nat) => ((pt h.2.2 0), [ow (kT33).share 33 (.slice h.1.1 h.1.2.1 h.1.2.2) r.rows, ow kT3 3 (.slice h.2.1.1 h.2.1.2.1 h.2.1.2.2) r.states, bxl h.2.2 [(.slice h.1.1 h.1.2.1 h.1.2.2), (iv r.choice.Power), (iv r.choice.Cut), (iv r.choice.Mass), (.slice h.2.1.1 h.2.1.2.1 h.2.1.2.2)] 79])) := by
 unfold Zs at hr
 refine fn_ok Try.func32 R 33 R R fun C V => ?_
 refine cN (_ :: V) ?_
 refine cL 0 sees_rd ?_
 rintro rfl
 let W0 : List HP := RR kT33 A2 D2 m1.Rows :: V
 refine cN W0 ?_
 refine c_seq (c_region (lBx R (fun b6 => (lBx R (fun b7 => (lO (vp (.pointer none) R) (l_nil ?_)))))))
 let W1 : List HP := bxl b7 [(iv c3.Power), (iv c3.Cut), (iv c3.Mass)] 28 :: bxl b6 [(iv m1.Size), (sc A2 m1.Rows D2)] 26 :: W0
 refine qN W1 ?_
 refine q_next (c_seq ?_)
 obtain ⟨r8, hx9, hr⟩ := bd hr
 refine c_cutq (A := (Unit) × (Nat × HH × HH)) (fun _ => True) (fun a => [(2, (iv n4)), (3, (iv seed5)), (9, (pt a.2.1 0))]) (fun a => bxl a.2.1 [(.slice a.2.2.1.1 a.2.2.1.2.1 a.2.2.1.2.2), (iv c3.Power), (iv c3.Cut), (iv c3.Mass), (.slice a.2.2.2.1 a.2.2.2.2.1 a.2.2.2.2.2)] 79 :: ow (kT33).share 33 (.slice a.2.2.1.1 a.2.2.1.2.1 a.2.2.1.2.2) r8 :: ow kT3 3 (.slice a.2.2.2.1 a.2.2.2.2.1 a.2.2.2.2.2) ([] : List Int) :: W1) ?_ ?_
 refine cdr 7 [] mixo (fun ht hn => (dR 0 R (vz (.agg [(iv m1.Size), (sc A2 m1.Rows D2)].toArray) (v_loadw 1 ag26 sz26 R R R R)) (dR 2 R (vz (.agg [(iv c3.Power), (iv c3.Cut), (iv c3.Mass)].toArray) (v_loadw 0 ag28 sz28 R R R R)) (d_all [1, 3] (by kernel_rfl) R ⟨?_, ?_, trivial⟩))))
 refine lM (RR kT33 A2 D2 m1.Rows :: W1) (fun w s => (s.d 2 R)) ?_
 refine lC 1 cb52 R (Z0w_ok hx9) R ?_
 rintro ⟨A10, N10, D10⟩
 refine lN (ow (kT33).share 33 (.slice A10 N10 D10) r8 :: W1) ?_
 refine l_len 0 sees_sh ?_
 rintro rfl
 refine l_nil (q_draw (sL [0]) (d1 3 R (l_build (K := kT3) (xs := ([] : List Int)) (vs := []) 0 R R sl29 sz3 zc3 R R R R R R ?_ R (fun A11 D11 => ?_))))
 exact fun I h s => (mO3).list [] I h s
 refine lN (OO kT3 3 A11 D11 ([] : List Int) :: _ :: W1) ?_
 refine l_nil (q_draw (sL [1, 0]) (dR 4 R (vz (.agg [(sc A10 r8 D10), (iv c3.Power), (iv c3.Cut), (iv c3.Mass), (sc A11 ([] : List Int) D11)].toArray) (v_build pl79 zc79 R R)) (hS := (sL [1, 0])) (d1 5 R (lBx R (fun b12 => (l_nil (q_draw (sL [2, 1, 0]) (dR 6 R (vP R) (hS := (sL [2, 1, 0])) (dD ?_)))))))))
 exact q_join ((), (b12, (A10, r8.length, D10), (A11, ([] : List Int).length, D11))) trivial (aS R) (fun w s => (s.e 3 [0, 2, 1]))
 refine l_build (K := kT3) (xs := ([] : List Int)) (vs := []) 0 R R sl29 sz3 zc3 R R R R R R ?_ R (fun A11 D11 => ?_)
 exact fun I h s => (mO3).list [] I h s
 refine lN (_ :: W1) ?_
 refine l_nil (q_draw (sL [0]) (d1 1 R (lM (RR kT33 A2 D2 m1.Rows :: _ :: W1) (fun w s => (s.d 3 R)) ?_)))
 refine lC 1 cb52 R (Z0w_ok hx9) R ?_
 rintro ⟨A10, N10, D10⟩
 refine lN (ow (kT33).share 33 (.slice A10 N10 D10) r8 :: _ :: W1) ?_
 refine l_len 0 sees_sh ?_
 rintro rfl
 refine l_nil (q_draw (sL [1, 0]) (dR 4 R (vz (.agg [(sc A10 r8 D10), (iv c3.Power), (iv c3.Cut), (iv c3.Mass), (sc A11 ([] : List Int) D11)].toArray) (v_build pl79 zc79 R R)) (hS := (sL [1, 0])) (d1 5 R (lBx R (fun b12 => (l_nil (q_draw (sL [2, 1, 0]) (dR 6 R (vP R) (hS := (sL [2, 1, 0])) (dD ?_)))))))))
 exact q_join ((), (b12, (A10, r8.length, D10), (A11, ([] : List Int).length, D11))) trivial (aS R) (fun w s => s)
 rintro ⟨_, ⟨b13, ⟨A14, N14, D14⟩, ⟨A15, N15, D15⟩⟩⟩ σ1 -
 refine q_len 1 sees_sh (fun (hn : N14 = r8.length) => ?_)
 subst hn
 refine q_len 2 sees_ow (fun (hn : N15 = ([] : List Int).length) => ?_)
 subst hn
 refine q_next (c_seq (c_cut (A := ((List Int)) × (HH)) (fun a => Zs_J1 c3 r8 a.1 = some r) (fun a => [(9, (pt b13 0))]) (fun a => bxl b13 [(sc A14 r8 D14), (iv c3.Power), (iv c3.Cut), (iv c3.Mass), (.slice a.2.1 a.2.2.1 a.2.2.2)] 79 :: OO (kT33).share 33 A14 D14 r8 :: ow kT3 3 (.slice a.2.1 a.2.2.1 a.2.2.2) a.1 :: W1) ?_ ?_))
 refine c_seq (c_region (lI R (lI R (l_nil (q_next (c_block ?_))))))
 obtain ⟨e1, hl1, hk1⟩ := bd hr
 refine c_loop (A := HH) hl1 (fun s a => [(3, (iv s.1)), (9, (pt b13 0)), (16, (iv n4)), (17, (iv s.2.2))]) (fun s a => bxl b13 [(sc A14 r8 D14), (iv c3.Power), (iv c3.Cut), (iv c3.Mass), (.slice a.1 a.2.1 a.2.2)] 79 :: OO (kT33).share 33 A14 D14 r8 :: ow kT3 3 (.slice a.1 a.2.1 a.2.2) s.2.1 :: W1) (A15, ([] : List Int).length, D15) (aS R) (fun w s => s) ?_
 rintro ⟨seed22, t23, x25⟩ ⟨A24, N24, D24⟩ σ1 out1 hr he1
 replace hr : Zs_L1 n4 seed22 t23 x25 = some out1 := hr
 unfold Zs_L1 at hr
 refine c_len 2 sees_ow (fun (hn : N24 = t23.length) => ?_)
 subst hn
 refine c_seq (c_region (lO (vLt R R) (l_nil (q_next (c_seq ?_)))))
 rcases bif_ hr with ⟨hb26, hr⟩ | ⟨hb26, hr⟩
 refine c_true R hb26 (c_skip (q_next (c_seq (c_block (c_seq ?_)))))
 obtain ⟨hg28, hr⟩ := gd hr
 refine c_region (lP R (lP R (lP R (lO (vFa 4 fo79_2 R) (lO (vLd 0 ag29 R R R) (lI R (l_build (K := kT3) (xs := ([seed22] : List Int)) (vs := [(iv seed22)]) 0 R R sl29 sz3 zc3 R R R R R R ?_ R (fun A27 D27 => ?_))))))))
 exact fun I h s => (mO3).list [((), seed22)] I h s
 refine lN (OO kT3 3 A27 D27 ([seed22] : List Int) :: bxl b13 [(sc A14 r8 D14), (iv c3.Power), (iv c3.Cut), (iv c3.Mass), (sc A24 t23 D24)] 79 :: OO (kT33).share 33 A14 D14 r8 :: OO kT3 3 A24 D24 t23 :: W1) ?_
 refine lM (ow _ _ _ _ :: ow _ _ _ _ :: bxl _ _ _ :: ow _ _ _ _ :: W1) (fun w s => (s.e 4 [3, 0, 1, 2])) ?_
 refine l_app (K := kT3) 17592186044416 R R sl29 sz3 by3 (Zr.zk zT3 zc3) R R R R R R src_ow hg28 (fun A29 D29 => (lN (OO kT3 3 A29 D29 (t23 ++ ([seed22] : List Int)) :: _ :: _ :: W1) ?_))
 refine lP R (lO (vFa 4 fo79_2 R) (l_store 1 R R sz29 R R R R R (lN (_ :: bxl b13 [(sc A14 r8 D14), (iv c3.Power), (iv c3.Cut), (iv c3.Mass), (sc A29 (t23 ++ ([seed22] : List Int)) D29)] 79 :: _ :: W1) ?_)))
 refine l_nil (q_next ?_)
 obtain ⟨r30, hx31, hr⟩ := bd hr
 refine c_region (lI R (lC 0 cb55 R (Z12_ok hx31) R ?_))
 rintro _
 refine lI R (l_nil (q_blockn (q_next (c_region (lO (vAd R R) (lI R (l_nil ?_)))))))
 obtain rfl := so hr
 exact qA (A29, (t23 ++ ([seed22] : List Int)).length, D29) (fun w s => (s.e 3 [1, 2, 0]))
 refine c_false R hb26 (c_exit (q_exit ?_))
 obtain rfl := so hr
 obtain rfl := he1 _ R
 have hr := hk1
 refine q_exit (q_block ?_)
 exact qI (t23, (A24, t23.length, D24)) hr (fun w s => s)
 rintro ⟨t36, ⟨A37, N37, D37⟩⟩ σ1 hr
 replace hr : Zs_J1 c3 r8 t36 = some r := hr
 unfold Zs_J1 at hr
 refine c_len 2 sees_ow (fun (hn : N37 = t36.length) => ?_)
 subst hn
 refine c_seq (c_region (lP R (lP R (l_nil (q_next (c_ret ?_))))))
 obtain rfl := so hr
 exact qF ((A14, r8.length, D14), (A37, t36.length, D37), b13) (fun w s => (s.e 6 [1, 2, 0]))
theorem Z0h_ok {s1 : List Int} {a_2 : Option Addr} {n_2 c_2 : Nat} {r : (List Int)} (hr : Z0h s1 = some r) :
    FnOk Try.prog 33 [(.slice a_2 n_2 c_2)] [rds kT3 (.slice a_2 n_2 c_2) s1] (fun (h : (Option Addr × Nat × Nat)) => ((.slice h.1 h.2.1 h.2.2), [ow kT3 3 (.slice h.1 h.2.1 h.2.2) r])) := by
  unfold Z0h at hr
  obtain ⟨hg, hr⟩ := gd hr
  obtain rfl := Option.some.inj hr
  refine fn_ok Try.func33 rfl 8 rfl rfl fun C V => (c_st (V' := rds kT3 (.slice a_2 n_2 c_2) s1 :: V) (fun w s => s) (c_len 0 sees_rd (fun (hn : n_2 = s1.length) => ?_)))
  subst hn
  refine c_seq (c_region (lS rfl (l_nil (q_next (c_seq (c_seq (c_region (lS rfl (l_v (.bool a_2.isNone) (v_snil sl29 rfl rfl) rfl rfl (l_nil (q_next ?_)))))))))))
  rcases Bool.eq_false_or_eq_true a_2.isNone with ha | ha
  · refine c_true rfl ha ?_
    refine c_nilx 0 sees_rd ha (fun (hx : s1 = []) => ?_)
    subst hx
    refine c_seq (c_region (lS rfl (l_nil (q_next (c_ret (q_ret ?_))))))
    exact q_fin (vs := [(.slice none 0 0)]) (.inl rfl) (none, 0, 0) rfl ⟨rfl, trivial⟩ rfl (fun w s => ((s.nilo kT3 3).sel 2 [0] rfl rfl))
  · refine c_false rfl ha (c_skip (q_next ?_))
    refine c_seq (c_region (l_build (K := kT3) (xs := ([] : List Int)) (vs := []) 0 rfl rfl sl29 sz3 zc3 rfl rfl rfl rfl rfl rfl ?_ rfl (fun a_3 c_3 => ?_)))
    · exact fun I h s => (mO3).list [] I h s
    refine lS rfl (l_app (K := kT3) 17592186044416 rfl rfl sl29 sz3 by3 (Zr.zk zT3 zc3) rfl rfl rfl rfl rfl rfl (src_rd (Kind.scal_flat _ _)) (by simpa using hg) (fun a_4 c_4 => (lS rfl (l_nil (q_next (c_ret ?_))))))
    exact q_fin (vs := [(.slice a_4 s1.length c_4)]) (.inl rfl) (a_4, s1.length, c_4) rfl ⟨rfl, trivial⟩ rfl (fun w s => s)
theorem Z0m_ok  {p1 : (List Int)} {p4 : (List Int)} {b2 : Nat} {b5 : Nat} {r : Int} (hr : Z0m p1 p4 = some r) :
 FnOk Try.prog 34 [(pt b2 0), (pt b5 0)] [rds kT3 (.slice A3 N3 D3) p1, bxl b2 [(.slice A3 N3 D3)] 29, rds kT3 (.slice A6 N6 D6) p4, bxl b5 [(.slice A6 N6 D6)] 29] (fun (h : Unit) => ((iv r), [bxl b2 [(.slice A3 N3 D3)] 29, bxl b5 [(.slice A6 N6 D6)] 29])) := by
 unfold Z0m at hr
 refine fn_ok Try.func34 R 8 R R fun C V => ?_
 refine cM (bxl _ _ _ :: bxl _ _ _ :: rds _ _ _ :: rds _ _ _ :: V) (fun w s => (s.e 4 [1, 3, 0, 2])) ?_
 refine cL 2 sees_rd ?_
 rintro rfl
 refine cL 3 sees_rd ?_
 rintro rfl
 let W0 : List HP := RR kT3 A3 D3 p1 :: RR kT3 A6 D6 p4 :: V
 refine cN (bxl b2 [(sc A3 p1 D3)] 29 :: bxl b5 [(sc A6 p4 D6)] 29 :: W0) ?_
 refine c_seq (c_region (lI R (l_nil ?_)))
 let W1 : List HP := bxl b2 [(sc A3 p1 D3)] 29 :: bxl b5 [(sc A6 p4 D6)] 29 :: W0
 refine qN W1 ?_
 refine q_next (c_seq (c_region (lO (vLd 0 ag29 R R R) (lO (v_len sl29 R) (lO (vLd 1 ag29 R R R) (lO (v_len sl29 R) (lO (vSb R R) (lI R (l_nil (q_next (c_ret ?_)))))))))))
 obtain rfl := so hr
 exact qF () (fun w s => (s.e 4 [0, 1]))
theorem Z14_ok  {r1 : Row} {k4 : (List Int)} {r : Int} (hr : Z14 r1 k4 = some r) :
 FnOk Try.prog 82 [(.agg [(.slice A2 N2 D2), (.slice A3 N3 D3)].toArray), (.slice A5 N5 D5)] [rds kT3 (.slice A2 N2 D2) r1.Key, rds kT3 (.slice A3 N3 D3) r1.Weights, rds kT3 (.slice A5 N5 D5) k4] (fun (h : Unit) => ((iv r), [])) := by
 unfold Z14 at hr
 refine fn_ok Try.func82 R 9 R R fun C V => ?_
 refine cN (_ :: _ :: _ :: V) ?_
 refine cL 0 sees_rd ?_
 rintro rfl
 refine cL 1 sees_rd ?_
 rintro rfl
 refine cL 2 sees_rd ?_
 rintro rfl
 let W0 : List HP := RR kT3 A2 D2 r1.Key :: RR kT3 A3 D3 r1.Weights :: RR kT3 A5 D5 k4 :: V
 refine cN W0 ?_
 refine c_seq (c_region (lBx R (fun b6 => (lI R (l_nil ?_)))))
 let W1 : List HP := bxl b6 [(sc A2 r1.Key D2), (sc A3 r1.Weights D3)] 33 :: W0
 refine qN W1 ?_
 refine q_next (c_seq ?_)
 obtain ⟨r7, hx8, hr⟩ := bd hr
 refine c_region (lO (vFa 0 fo33_0 R) (lO (vLd 0 ag29 R R R) (lS R (lM (RR kT3 A2 D2 r1.Key :: RR kT3 A5 D5 k4 :: W1) (fun w s => (((s.d 1 R).d 4 R).e 2 [1, 0])) ?_))))
 refine lC 2 cb54 R (Z0u_ok hx8) R ?_
 rintro _
 refine lN W1 ?_
 refine lI R (l_nil (q_next (c_ret ?_)))
 obtain rfl := so hr
 exact qF () (fun w s => (s.e 4 []))
theorem Zq_ok  {list1 : (List Row)} {key3 : (List Int)} {r : Int × Bool} (hr : Zq list1 key3 = some r) :
 FnOk Try.prog 81 [(.slice A2 N2 D2), (.slice A4 N4 D4), (.func (.func 82) [].toArray [].toArray)] [rds kT33 (.slice A2 N2 D2) list1, rds kT3 (.slice A4 N4 D4) key3] (fun (h : Unit) => ((.tuple [(iv r.1), (.bool r.2)].toArray), [])) := by
 unfold Zq at hr
 refine fn_ok Try.func81 R 46 R R fun C V => ?_
 refine cN (_ :: _ :: V) ?_
 refine cL 0 sees_rd ?_
 rintro rfl
 refine cL 1 sees_rd ?_
 rintro rfl
 let W0 : List HP := RR kT33 A2 D2 list1 :: RR kT3 A4 D4 key3 :: V
 refine cN W0 ?_
 refine c_seq (c_region (lI R (lB R (l_nil (q_next (c_seq (c_region (lS R (lO (v_len sl24 R) (lI R (lI R (l_nil (q_next (c_seq (c_cut (A := (Int) × (Unit)) (fun a => Zq_J1 list1 key3 a.1 = some r) (fun a => [(0, (sc A2 list1 D2)), (1, (sc A4 key3 D4)), (2, (.func (.func 82) [].toArray [].toArray)), (8, (iv a.1))]) (fun a => W0) ?_ ?_)))))))))))))))
 refine c_block ?_
 obtain ⟨e1, hl1, hk1⟩ := bd hr
 refine c_loop (A := Unit) hl1 (fun s a => [(0, (sc A2 list1 D2)), (1, (sc A4 key3 D4)), (2, (.func (.func 82) [].toArray [].toArray)), (8, (iv s.1)), (9, (iv s.2))]) (fun s a => W0) () (aS R) (fun w s => s) ?_
 rintro ⟨lo15, hi16⟩ _ σ1 out1 hr he1
 replace hr : Zq_L1 list1 key3 lo15 hi16 = some out1 := hr
 unfold Zq_L1 at hr
 refine c_seq (c_seq (c_region (lI R (lI R (lO (vLt R R) (l_nil (q_next ?_)))))))
 rcases bif_ hr with ⟨hb17, hr⟩ | ⟨hb17, hr⟩
 refine c_true R hb17 (c_skip (q_next (c_block (c_seq (c_region (lI R (lI R (lO (vAd R R) (lO (vz (iv (w64 ((w64 (lo15 + hi16)).tdiv (2 : Int)))) (v_quo R R (by decide))) (lI R (l_nil (q_next (c_seq ?_)))))))))))))
 obtain ⟨hg18, hr⟩ := gd hr
 obtain ⟨r23, hx24, hr⟩ := bd hr
 refine c_region (lO (vp (.func (.func 82) [].toArray [].toArray) R) (lS R (lI R (t_some 0 sees_rd (show 0 < list1.length by have := hg18; omega) (fun g19 o20 ha => ?_)))))
 subst ha
 refine lO (vIa sl24 sz33 R R hg18) (t_elem (K := kT33) 0 (w64 ((w64 (lo15 + hi16)).tdiv (2 : Int))) dT33.dec R hg18.1 hg18.2 ?_)
 rintro ⟨⟨A21, D21⟩, ⟨A22, D22⟩⟩
 refine lN (cl g19 (o20 + (w64 ((w64 (lo15 + hi16)).tdiv (2 : Int))).toNat * 2) [(sc A21 ((ix list1 (w64 ((w64 (lo15 + hi16)).tdiv (2 : Int)))).Key) D21), (sc A22 ((ix list1 (w64 ((w64 (lo15 + hi16)).tdiv (2 : Int)))).Weights) D22)] :: RR kT3 A21 D21 ((ix list1 (w64 ((w64 (lo15 + hi16)).tdiv (2 : Int)))).Key) :: RR kT3 A22 D22 ((ix list1 (w64 ((w64 (lo15 + hi16)).tdiv (2 : Int)))).Weights) :: W0) ?_
 refine lO (vz (.agg [(sc A21 ((ix list1 (w64 ((w64 (lo15 + hi16)).tdiv (2 : Int)))).Key) D21), (sc A22 ((ix list1 (w64 ((w64 (lo15 + hi16)).tdiv (2 : Int)))).Weights) D22)].toArray) (v_clfs (fo := 0) 0 ag33 sz33 R R R R)) (lS R (lM (rds _ _ _ :: rds _ _ _ :: RR kT3 A4 D4 key3 :: cl _ _ _ :: rds _ _ _ :: rds _ _ _ :: W0) (fun w s => ((((s.d 1 R).d 3 R).d 6 R).e 6 [2, 1, 0, 3, 4, 5])) ?_))
 refine l_callvn (fs := []) (cs := []) 3 R R cb82 R R (Z14_ok hx24) R ?_
 rintro _
 refine lN (_ :: _ :: _ :: W0) ?_
 refine lO (vLt R R) (l_nil (q_next ?_))
 rcases bif_ hr with ⟨hb25, hr⟩ | ⟨hb25, hr⟩
 refine c_true R hb25 (c_region (lI R (lO (vAd R R) (lI R (l_nil (q_blockn ?_))))))
 obtain rfl := so hr
 exact qA () (fun w s => (s.e 3 []))
 refine c_false R hb25 (c_region (lI R (lI R (l_nil (q_blockn ?_)))))
 obtain rfl := so hr
 exact qA () (fun w s => (s.e 3 []))
 refine c_false R hb17 (c_exit (q_exit ?_))
 obtain rfl := so hr
 obtain rfl := he1 _ R
 have hr := hk1
 refine q_exit (q_block ?_)
 exact qI (lo15, ()) hr (fun w s => s)
 rintro ⟨lo28, _⟩ σ1 hr
 replace hr : Zq_J1 list1 key3 lo28 = some r := hr
 unfold Zq_J1 at hr
 refine c_seq ?_
 obtain ⟨hg29, hr⟩ := gd hr
 obtain ⟨r34, hx35, hr⟩ := bd hr
 refine cQ [(6, (iv lo28)), (7, (.bool ((decide (lo28 < (list1.length : Int))) && (r34 == (0 : Int)))))] (W0) ?_ ?_
 refine c_region (lI R (lI R (lS R (lO (v_len sl24 R) (lO (vLt R R) (lB R ?_))))))
 rcases bo (decide (lo28 < (list1.length : Int))) with hc36 | hc36
 refine lW (wnT hc36) (vp (.func (.func 82) [].toArray [].toArray) R) (lW (wnT hc36) (vS R) (lW (wnT hc36) (vI R) (t_some 0 sees_rd (show 0 < list1.length by have := (hg29 hc36); omega) (fun g30 o31 ha => ?_))))
 subst ha
 refine lW (wnT hc36) (vIa sl24 sz33 R R (hg29 hc36)) (t_elem (K := kT33) 0 lo28 dT33.dec R (hg29 hc36).1 (hg29 hc36).2 ?_)
 rintro ⟨⟨A32, D32⟩, ⟨A33, D33⟩⟩
 refine lN (cl g30 (o31 + lo28.toNat * 2) [(sc A32 ((ix list1 lo28).Key) D32), (sc A33 ((ix list1 lo28).Weights) D33)] :: RR kT3 A32 D32 ((ix list1 lo28).Key) :: RR kT3 A33 D33 ((ix list1 lo28).Weights) :: W0) ?_
 refine lW (wnT hc36) (vz (.agg [(sc A32 ((ix list1 lo28).Key) D32), (sc A33 ((ix list1 lo28).Weights) D33)].toArray) (v_clfs (fo := 0) 0 ag33 sz33 R R R R)) (lW (wnT hc36) (vS R) (lM (rds _ _ _ :: rds _ _ _ :: RR kT3 A4 D4 key3 :: cl _ _ _ :: rds _ _ _ :: rds _ _ _ :: W0) (fun w s => ((((s.d 1 R).d 3 R).d 6 R).e 6 [2, 1, 0, 3, 4, 5])) ?_))
 refine l_callvn (fs := []) (cs := []) 3 R (wnT hc36) cb82 R R (Z14_ok (gcall_t hx35 hc36)) R ?_
 rintro _
 refine lN (_ :: _ :: _ :: W0) ?_
 refine lW (wnT hc36) (vEq R R) (lO (pAT R hc36 R) (lI R (lB R (l_nil ?_))))
 exact qJ (fun w s => (s.e 3 []))
 refine lf (wfF hc36) (lf (wfF hc36) (lf (wfF hc36) (lf (wfF hc36) (lf (wfF hc36) (lf (wfF hc36) (lf (wfF hc36) (lf (wfF hc36) (lO (pAF (r34 == (0 : Int)) R hc36) (lI R (lB R (l_nil ?_)))))))))))
 exact qJ (fun w s => s)
 rintro σ1
 refine q_next (c_ret ?_)
 obtain rfl := so hr
 exact q_fin (vs := [(iv lo28), (.bool ((decide (lo28 < (list1.length : Int))) && (r34 == (0 : Int))))]) (.inl R) () R ⟨R, R, trivial⟩ R (fun w s => (s.e 2 []))
theorem Zu_ok  {rows1 : (List Row)} {history3 : (List Int)} {r : (List Int)} (hr : Zu rows1 history3 = some r) :
 FnOk Try.prog 57 [(.slice A2 N2 D2), (.slice A4 N4 D4)] [rds kT33 (.slice A2 N2 D2) rows1, rds kT3 (.slice A4 N4 D4) history3] (fun (h : HH) => ((.slice h.1 h.2.1 h.2.2), [rds kT3 (.slice h.1 h.2.1 h.2.2) r])) := by
 unfold Zu at hr
 refine fn_ok Try.func57 R 38 R R fun C V => ?_
 refine cN (_ :: _ :: V) ?_
 refine cL 0 sees_rd ?_
 rintro rfl
 refine cL 1 sees_rd ?_
 rintro rfl
 let W0 : List HP := RR kT33 A2 D2 rows1 :: RR kT3 A4 D4 history3 :: V
 refine cN W0 ?_
 refine c_seq (c_region (lS R (l_nil (q_next (c_seq (c_cut (A := (Unit) × (Unit)) (fun a => Zu_J1 rows1 = some r) (fun a => [(0, (sc A2 rows1 D2))]) (fun a => W0) ?_ ?_))))))
 refine c_seq (c_region (lS R (lO (v_len sl29 R) (lO (vz (iv (if (history3.length : Int) < (4 : Int) then (history3.length : Int) else (4 : Int))) (v_min R R)) (lI R (l_nil (q_next (c_block ?_))))))))
 obtain ⟨e1, hl1, hk1⟩ := bd hr
 refine c_loop (A := Unit) hl1 (fun s a => [(0, (sc A2 rows1 D2)), (1, (sc A4 history3 D4)), (5, (iv s))]) (fun s a => W0) () (aS R) (fun w s => s) ?_
 rintro n16 _ σ1 out1 hr he1
 replace hr : Zu_L1 rows1 history3 n16 = some out1 := hr
 unfold Zu_L1 at hr
 refine c_seq (c_seq (c_region (lI R (lO (vGt R R) (l_nil (q_next ?_))))))
 rcases bif_ hr with ⟨hb17, hr⟩ | ⟨hb17, hr⟩
 refine c_true R hb17 (c_skip (q_next (c_seq (c_block (c_seq ?_)))))
 obtain ⟨hg18, hr⟩ := gd hr
 refine c_region (lS R (lS R (lO (v_len sl29 R) (lI R (lO (vSb R R) (l_cut (K := kT3) (w64 ((history3.length : Int) - n16)) (history3.length : Int) 1 R R sl29 sz3 R R R R hg18.1 hg18.2.1 hg18.2.2 (fun A19 D19 => (lS R (l_nil (q_next (c_seq ?_)))))))))))
 obtain ⟨r20, hx21, hr⟩ := bd hr
 refine c_region (lS R (lS R (lM (RR kT33 A2 D2 rows1 :: RR kT3 A19 D19 (sub history3 (w64 ((history3.length : Int) - n16)) (history3.length : Int)) :: RR kT3 A19 D19 (sub history3 (w64 ((history3.length : Int) - n16)) (history3.length : Int)) :: W0) (fun w s => (((s.d 1 R).d 1 R).e 3 [1, 0, 2])) ?_)))
 refine lC 2 cb81 R (Zq_ok hx21) R ?_
 rintro _
 refine lN (_ :: W0) ?_
 refine lO (vT R) (lI R (lB R (lI R (lB R (l_nil (q_next (c_seq (c_region (lB R (l_nil (q_next ?_)))))))))))
 rcases bif_ hr with ⟨hb22, hr⟩ | ⟨hb22, hr⟩
 refine c_true R hb22 (c_seq ?_)
 obtain ⟨hg23, hr⟩ := gd hr
 refine c_region (lS R (lI R (t_some 1 sees_rd (show 0 < rows1.length by have := hg23; omega) (fun g24 o25 ha => ?_))))
 subst ha
 refine lO (vIa sl24 sz33 R R hg23) (lO (vz (.pointer (some ⟨g24, o25 + r20.1.toNat * 2 + 1, none⟩)) (v_fa fo33_1 R R)) (t_elem (K := kT33) 1 r20.1 dT33.dec R hg23.1 hg23.2 ?_))
 rintro ⟨⟨A26, D26⟩, ⟨A27, D27⟩⟩
 refine lN (cl g24 (o25 + r20.1.toNat * 2) [(sc A26 ((ix rows1 r20.1).Key) D26), (sc A27 ((ix rows1 r20.1).Weights) D27)] :: RR kT3 A26 D26 ((ix rows1 r20.1).Key) :: RR kT3 A27 D27 ((ix rows1 r20.1).Weights) :: _ :: W0) ?_
 refine lO (v_clf (fo := 1) 0 ag29 R R R) (lS R (l_nil (q_next (c_ret (q_blockr (q_ret ?_))))))
 obtain rfl := so hr
 obtain rfl := he1 _ R
 have hr := hk1
 refine q_ret (q_blockr (q_ret ?_))
 obtain rfl := so hr
 exact qF (A27, ((ix rows1 r20.1).Weights).length, D27) (fun w s => (s.e 6 [2]))
 refine c_false R hb22 (c_skip (q_blockn (q_next (c_region (lI R (lO (vSb R R) (lI R (l_nil ?_))))))))
 obtain rfl := so hr
 exact qA () (fun w s => (s.e 1 []))
 refine c_false R hb17 (c_exit (q_exit ?_))
 obtain rfl := so hr
 obtain rfl := he1 _ R
 have hr := hk1
 refine q_exit (q_block ?_)
 exact qI ((), ()) hr (fun w s => s)
 rintro ⟨_, _⟩ σ1 hr
 replace hr : Zu_J1 rows1 = some r := hr
 unfold Zu_J1 at hr
 refine c_seq ?_
 obtain ⟨hg29, hr⟩ := gd hr
 refine c_region (lS R (t_some 0 sees_rd (show 0 < rows1.length by have := hg29; omega) (fun g30 o31 ha => ?_)))
 subst ha
 refine lO (vIa sl24 sz33 R R hg29) (lO (vz (.pointer (some ⟨g30, o31 + (0 : Int).toNat * 2 + 1, none⟩)) (v_fa fo33_1 R R)) (t_elem (K := kT33) 0 (0 : Int) dT33.dec R hg29.1 hg29.2 ?_))
 rintro ⟨⟨A32, D32⟩, ⟨A33, D33⟩⟩
 refine lN (cl g30 (o31 + (0 : Int).toNat * 2) [(sc A32 ((ix rows1 (0 : Int)).Key) D32), (sc A33 ((ix rows1 (0 : Int)).Weights) D33)] :: RR kT3 A32 D32 ((ix rows1 (0 : Int)).Key) :: RR kT3 A33 D33 ((ix rows1 (0 : Int)).Weights) :: W0) ?_
 refine lO (v_clf (fo := 1) 0 ag29 R R R) (lS R (l_nil (q_next (c_ret ?_))))
 obtain rfl := so hr
 exact qF (A33, ((ix rows1 (0 : Int)).Weights).length, D33) (fun w s => (s.e 5 [2]))
theorem Z1h_ok  {p1 : Int} {r : Int} (hr : Z1h p1 = some r) :
 FnOk Try.prog 78 [(iv p1)] [] (fun (h : Unit) => ((iv r), [])) := by
 unfold Z1h at hr
 refine fn_ok Try.func78 R 6 R R fun C V => ?_
 refine cN V ?_
 refine c_seq (c_region (lI R (l_nil (q_next (c_seq (c_region (lI R (lI R (lO (vMu R R) (lI R (l_nil (q_next (c_ret ?_)))))))))))))
 obtain rfl := so hr
 exact qF () (fun w s => s)
theorem Z0b_ok  {list1 : (List Int)} {r : (List Int)} (hr : Z0b list1 = some r) :
 FnOk Try.prog 77 [(.slice A2 N2 D2), (.func (.func 78) [].toArray [].toArray)] [rds kT3 (.slice A2 N2 D2) list1] (fun (h : HH) => ((.slice h.1 h.2.1 h.2.2), [ow kT3 3 (.slice h.1 h.2.1 h.2.2) r])) := by
 unfold Z0b at hr
 refine fn_ok Try.func77 R 26 R R fun C V => ?_
 refine cN (_ :: V) ?_
 refine cL 0 sees_rd ?_
 rintro rfl
 let W0 : List HP := RR kT3 A2 D2 list1 :: V
 refine cN W0 ?_
 refine c_seq (c_region (lS R (l_nil (q_next (c_seq ?_)))))
 obtain ⟨hg4, hr⟩ := gd hr
 refine c_region (lS R (lO (v_len sl29 R) (l_make (K := kT3) (m := (list1.length : Int)) (z := (0 : Int)) R R sl29 sz3 by3 (Zr.zk zT3 zc3) (by decide) R R hg4.1 hg4.2.1 hg4.2.2 (fun A5 D5 => (lS R (l_nil (q_next (c_seq (c_cut (A := ((List Int)) × (Unit)) (fun a => Z0b_J1 a.1 = some r) (fun a => [(5, (sc A5 (List.replicate (list1.length : Int).toNat (0 : Int)) D5))]) (fun a => ow kT3 3 (.slice A5 (List.replicate (list1.length : Int).toNat (0 : Int)).length D5) a.1 :: W0) ?_ ?_)))))))))
 refine c_seq (c_region (lS R (lO (v_len sl29 R) (lI R (l_nil (q_next (c_block ?_)))))))
 obtain ⟨e1, hl1, hk1⟩ := bd hr
 refine c_loop (A := Unit) hl1 (fun s a => [(1, (.func (.func 78) [].toArray [].toArray)), (5, (sc A5 (List.replicate (list1.length : Int).toNat (0 : Int)) D5)), (11, (sc A2 list1 D2)), (12, (il list1)), (13, (iv s.2))]) (fun s a => ow kT3 3 (.slice A5 (List.replicate (list1.length : Int).toNat (0 : Int)).length D5) s.1 :: W0) () (aS R) (fun w s => s) ?_
 rintro ⟨x17, x18⟩ _ σ1 out1 hr he1
 replace hr : Z0b_L1 list1 x17 x18 = some out1 := hr
 unfold Z0b_L1 at hr
 refine c_seq (c_region (lO (vLt R R) (l_nil (q_next (c_seq ?_)))))
 rcases bif_ hr with ⟨hb19, hr⟩ | ⟨hb19, hr⟩
 refine c_true R hb19 (c_skip (q_next (c_seq (c_block (c_seq ?_)))))
 obtain ⟨hg20, hr⟩ := gd hr
 refine c_region (lI R (t_some 1 sees_rd (show 0 < list1.length by have := hg20; omega) (fun g21 o22 ha => ?_)))
 subst ha
 refine lO (vIa sl29 sz3 R R hg20) (lO (vLi 1 ag3 sees_rd R hg20) (lI R (lI R (l_nil (q_next ?_)))))
 obtain ⟨r23, hx24, hr⟩ := bd hr
 obtain ⟨hg25, hr⟩ := gd hr
 refine c_region (lS R (lI R (lO (vp (.func (.func 78) [].toArray [].toArray) R) (lI R (l_callvn (fs := []) (cs := []) 0 R R cb78 R R (Z1h_ok hx24) R ?_)))))
 rintro _
 refine lN (ow kT3 3 (.slice A5 (List.replicate (list1.length : Int).toNat (0 : Int)).length D5) x17 :: W0) ?_
 refine t_some 0 sees_ow (show 0 < (List.replicate (list1.length : Int).toNat (0 : Int)).length by have := hg25; omega) (fun g26 o27 ha => ?_)
 subst ha
 refine lO (vIa sl29 sz3 R R hg25) (lN (ow kT3 3 (.slice (ad g26 o27) (List.replicate (list1.length : Int).toNat (0 : Int)).length D5) x17 :: W0) ?_)
 refine l_stx (K := kT3) (x' := r23) 0 x18 R R sz3 R R hg25.1 hg25.2 ?_ ?_
 exact fun I h s => (mO3).put I h () r23 s
 refine lN (ow kT3 3 (.slice (ad g26 o27) (List.replicate (list1.length : Int).toNat (0 : Int)).length D5) (x17.set x18.toNat r23) :: W0) ?_
 refine l_nil (q_blockn (q_next (c_region (lO (vAd R R) (lI R (l_nil ?_))))))
 obtain rfl := so hr
 exact qA () (fun w s => s)
 refine c_false R hb19 (c_exit (q_exit ?_))
 obtain rfl := so hr
 obtain rfl := he1 _ R
 have hr := hk1
 refine q_exit (q_block ?_)
 exact qI (x17, ()) hr (fun w s => s)
 rintro ⟨x30, _⟩ σ1 hr
 replace hr : Z0b_J1 x30 = some r := hr
 unfold Z0b_J1 at hr
 refine c_seq (c_region (lS R (lS R (l_nil (q_next (c_ret ?_))))))
 obtain rfl := so hr
 exact qF (A5, (List.replicate (list1.length : Int).toNat (0 : Int)).length, D5) (fun w s => (s.e 2 [0]))
theorem Z1f_ok  {a1 : Int} {b2 : Int} {r : Int} (hr : Z1f a1 b2 = some r) :
 FnOk Try.prog 80 [(iv a1), (iv b2)] [] (fun (h : Unit) => ((iv r), [])) := by
 unfold Z1f at hr
 refine fn_ok Try.func80 R 8 R R fun C V => ?_
 refine cN V ?_
 refine c_seq (c_region (lI R (l_nil (q_next (c_seq ?_)))))
 obtain ⟨r3, hx4, hr⟩ := bd hr
 refine c_region (lI R (lI R (lC 0 cb75 R (Z0r_ok hx4) R ?_)))
 rintro _
 refine lI R (l_nil (q_next (c_ret ?_)))
 obtain rfl := so hr
 exact qF () (fun w s => s)
theorem Z0n_ok  {i1 : Int} {j2 : Int} {p5 : (List Int)} {b4 : Nat} {b6 : Nat} {r : Int} (hr : Z0n i1 j2 p5 = some r) :
 FnOk Try.prog 90 [(iv i1), (iv j2), (pt b4 0), (pt b6 0)] [bxl b4 [(.func (.func 80) [].toArray [].toArray)] 97, rds kT3 (.slice A7 N7 D7) p5, bxl b6 [(.slice A7 N7 D7)] 29] (fun (h : Unit) => ((iv r), [bxl b4 [(.func (.func 80) [].toArray [].toArray)] 97, bxl b6 [(.slice A7 N7 D7)] 29])) := by
 unfold Z0n at hr
 refine fn_ok Try.func90 R 17 R R fun C V => ?_
 refine cM (bxl _ _ _ :: bxl _ _ _ :: rds _ _ _ :: V) (fun w s => (s.e 3 [0, 2, 1])) ?_
 refine cL 2 sees_rd ?_
 rintro rfl
 let W0 : List HP := RR kT3 A7 D7 p5 :: V
 refine cN (_ :: bxl b6 [(sc A7 p5 D7)] 29 :: W0) ?_
 refine c_seq (c_region (lI R (l_nil ?_)))
 let W1 : List HP := bxl b4 [(.func (.func 80) [].toArray [].toArray)] 97 :: bxl b6 [(sc A7 p5 D7)] 29 :: W0
 refine qN W1 ?_
 refine q_next (c_seq ?_)
 obtain ⟨hg8, hr⟩ := gd hr
 obtain ⟨hg11, hr⟩ := gd hr
 obtain ⟨r12, hx13, hr⟩ := bd hr
 refine c_some 2 sees_rd (show 0 < p5.length by have := hg8; omega) (fun g9 o10 ha => ?_)
 subst ha
 refine cdr 11 [] mixo (fun ht hn => (dR 0 R (vLd 0 ag97 R R R) (dR 1 R (vLd 1 ag29 R R R) (dR 2 R (vI R) (dR 3 R (vIa sl29 sz3 R R hg8) (dR 4 R (vLi 2 ag3 sees_rd R hg8) (dR 5 R (vLd 1 ag29 R R R) (dR 6 R (vI R) (dR 7 R (vIa sl29 sz3 R R hg11) (dR 8 R (vLi 2 ag3 sees_rd R hg11) (d1 9 R (l_callvn (fs := []) (cs := []) 0 R R cb80 R R (Z1f_ok hx13) R ?_))))))))))))
 rintro _
 refine l_nil (q_draw (sL []) (dR 10 R (vI R) (dD (q_next (c_ret ?_)))))
 obtain rfl := so hr
 exact qF () (fun w s => (s.e 3 [0, 1]))
theorem Z0a_ok  {data1 : (List Int)} {a3 : Int} {b4 : Int} {q8 : (List Int)} {b7 : Nat} {b9 : Nat} {r : (List Int)} (hr : Z0a data1 a3 b4 q8 = some r) :
 FnOk Try.prog 107 [(.slice A2 N2 D2), (iv a3), (iv b4), (.func (.func 90) [].toArray [(pt b7 0), (pt b9 0)].toArray)] [ow (kT3).share 3 (.slice A2 N2 D2) data1, bxl b7 [(.func (.func 80) [].toArray [].toArray)] 97, rds kT3 (.slice A10 N10 D10) q8, bxl b9 [(.slice A10 N10 D10)] 29] (fun (h : Unit) => ((.tuple [].toArray), [ow (kT3).share 3 (.slice A2 N2 D2) r, bxl b7 [(.func (.func 80) [].toArray [].toArray)] 97, bxl b9 [(.slice A10 N10 D10)] 29])) := by
 unfold Z0a at hr
 refine fn_ok Try.func107 R 53 R R fun C V => ?_
 refine cM (ow _ _ _ _ :: bxl _ _ _ :: bxl _ _ _ :: rds _ _ _ :: V) (fun w s => (s.e 4 [0, 1, 3, 2])) ?_
 refine cL 0 sees_sh ?_
 rintro rfl
 refine cL 3 sees_rd ?_
 rintro rfl
 let W0 : List HP := RR kT3 A10 D10 q8 :: V
 refine cN (_ :: _ :: bxl b9 [(sc A10 q8 D10)] 29 :: W0) ?_
 refine c_seq (c_region (lI R (lO (vAd R R) (lI R (l_nil (q_next (c_block ?_)))))))
 obtain ⟨e1, hl1, hk1⟩ := bd hr
 refine c_loop (A := Unit) hl1 (fun s a => [(0, (sc A2 data1 D2)), (1, (iv a3)), (2, (iv b4)), (3, (.func (.func 90) [].toArray [(pt b7 0), (pt b9 0)].toArray)), (8, (iv s.2))]) (fun s a => ow (kT3).share 3 (.slice A2 data1.length D2) s.1 :: bxl b7 [(.func (.func 80) [].toArray [].toArray)] 97 :: bxl b9 [(sc A10 q8 D10)] 29 :: W0) () (aS R) (fun w s => s) ?_
 rintro ⟨data45, i46⟩ _ σ1 out1 hr he1
 replace hr : Z0a_L1 data1 a3 b4 q8 data45 i46 = some out1 := hr
 unfold Z0a_L1 at hr
 refine c_seq (c_seq (c_region (lI R (lI R (lO (vLt R R) (l_nil (q_next ?_)))))))
 rcases bif_ hr with ⟨hb47, hr⟩ | ⟨hb47, hr⟩
 refine c_true R hb47 (c_skip (q_next (c_seq (c_cut (A := ((List Int)) × (Unit)) (fun a => Z0a_J2 i46 a.1 = some out1) (fun a => [(0, (sc A2 data1 D2)), (1, (iv a3)), (2, (iv b4)), (3, (.func (.func 90) [].toArray [(pt b7 0), (pt b9 0)].toArray)), (8, (iv i46))]) (fun a => ow (kT3).share 3 (.slice A2 data1.length D2) a.1 :: bxl b7 [(.func (.func 80) [].toArray [].toArray)] 97 :: bxl b9 [(sc A10 q8 D10)] 29 :: W0) ?_ ?_))))
 refine c_block (c_seq (c_region (lI R (lI R (l_nil (q_next (c_block ?_)))))))
 obtain ⟨e2, hl2, hk2⟩ := bd hr
 refine c_loop (A := Unit) hl2 (fun s a => [(0, (sc A2 data1 D2)), (1, (iv a3)), (2, (iv b4)), (3, (.func (.func 90) [].toArray [(pt b7 0), (pt b9 0)].toArray)), (8, (iv i46)), (9, (iv s.2))]) (fun s a => ow (kT3).share 3 (.slice A2 data1.length D2) s.1 :: bxl b7 [(.func (.func 80) [].toArray [].toArray)] 97 :: bxl b9 [(sc A10 q8 D10)] 29 :: W0) () (aS R) (fun w s => s) ?_
 rintro ⟨data62, j63⟩ _ σ1 out2 hr he2
 replace hr : Z0a_L2 data1 a3 q8 data62 j63 = some out2 := hr
 unfold Z0a_L2 at hr
 refine c_seq (c_seq ?_)
 obtain ⟨hg64, hr⟩ := gd hr
 obtain ⟨hg67, hr⟩ := gd hr
 obtain ⟨r68, hx69, hr⟩ := bd hr
 refine cQ [(0, (sc A2 data1 D2)), (1, (iv a3)), (2, (iv b4)), (3, (.func (.func 90) [].toArray [(pt b7 0), (pt b9 0)].toArray)), (8, (iv i46)), (9, (iv j63)), (34, (.bool ((decide (j63 > a3)) && (decide (r68 < (0 : Int))))))] (ow (kT3).share 3 (.slice A2 data1.length D2) data62 :: bxl b7 [(.func (.func 80) [].toArray [].toArray)] 97 :: bxl b9 [(sc A10 q8 D10)] 29 :: W0) ?_ ?_
 rcases bo (decide (j63 > a3)) with hc70 | hc70
 refine c_some 0 sees_sh (show 0 < data1.length by have := (hg64 hc70); omega) (fun g65 o66 ha => ?_)
 subst ha
 refine cdr 17 [] mixo (fun ht hn => (dR 0 R (vI R) (dR 1 R (vI R) (dR 2 R (vGt R R) (dR 3 R (vB R) (dW 4 R (wnT hc70) (vp (.func (.func 90) [].toArray [(pt b7 0), (pt b9 0)].toArray) R) (dW 5 R (wnT hc70) (vS R) (dW 6 R (wnT hc70) (vI R) (dW 7 R (wnT hc70) (vIa sl29 sz3 R R (hg64 hc70)) (dW 8 R (wnT hc70) (vLi 0 ag3 sees_sh R (hg64 hc70)) (dW 9 R (wnT hc70) (vS R) (dW 10 R (wnT hc70) (vI R) (dW 11 R (wnT hc70) (vSb R R) (dW 12 R (wnT hc70) (vIa sl29 sz3 R R (hg67 hc70)) (dW 13 R (wnT hc70) (vLi 0 ag3 sees_sh R (hg67 hc70)) (d1 14 R (lM (bxl _ _ _ :: RR kT3 A10 D10 q8 :: bxl _ _ _ :: ow (kT3).share 3 (.slice (ad g65 o66) data1.length D2) data62 :: W0) (fun w s => ((s.d 3 R).e 4 [2, 0, 3, 1])) ?_)))))))))))))))))
 refine l_callvn (fs := []) (cs := [(pt b7 0), (pt b9 0)]) 3 R (wnT hc70) cb90 R R (Z0n_ok (gcall_t hx69 hc70)) R ?_
 rintro _
 refine lN (_ :: _ :: _ :: W0) ?_
 refine l_nil (q_draw (fun w s => (s.e 3 [2, 0, 1])) (dW 15 R (wnT hc70) (vLt R R) (hS := (fun w s => (s.e 3 [2, 0, 1]))) (dR 16 R (pAT R hc70 R) (hS := (fun w s => (s.e 3 [2, 0, 1]))) (dD ?_))))
 exact qJ (fun w s => (s.e 3 [2, 0, 1]))
 refine cdr 17 [] mixo (fun ht hn => (dR 0 R (vI R) (dR 1 R (vI R) (dR 2 R (vGt R R) (dR 3 R (vB R) (dF 4 R (wfF hc70) (dF 5 R (wfF hc70) (dF 6 R (wfF hc70) (dF 7 R (wfF hc70) (dF 8 R (wfF hc70) (dF 9 R (wfF hc70) (dF 10 R (wfF hc70) (dF 11 R (wfF hc70) (dF 12 R (wfF hc70) (dF 13 R (wfF hc70) (dF 14 R (wfF hc70) (dF 15 R (wfF hc70) (dR 16 R (pAF (decide (r68 < (0 : Int))) R hc70) (dD ?_)))))))))))))))))))
 exact qJ (fun w s => s)
 rintro σ1
 refine q_next ?_
 rcases bif_ hr with ⟨hb71, hr⟩ | ⟨hb71, hr⟩
 refine c_true R hb71 (c_skip (q_next (c_seq (c_block ?_))))
 obtain ⟨hg72, hr⟩ := gd hr
 obtain ⟨hg75, hr⟩ := gd hr
 refine cQ [(0, (sc A2 data1 D2)), (1, (iv a3)), (2, (iv b4)), (3, (.func (.func 90) [].toArray [(pt b7 0), (pt b9 0)].toArray)), (8, (iv i46)), (9, (iv j63))] (ow (kT3).share 3 (.slice A2 data1.length D2) ((data62.set j63.toNat (ix data62 (w64 (j63 - (1 : Int))))).set (w64 (j63 - (1 : Int))).toNat (ix data62 j63)) :: bxl b7 [(.func (.func 80) [].toArray [].toArray)] 97 :: bxl b9 [(sc A10 q8 D10)] 29 :: W0) ?_ ?_
 refine c_some 0 sees_sh (show 0 < data1.length by have := hg72; omega) (fun g73 o74 ha => ?_)
 subst ha
 refine cdr 18 [0] mixo (fun ht hn => (dR 0 R (vS R) (hS := (sL [0])) (dR 1 R (vI R) (hS := (sL [0])) (dR 2 R (vS R) (hS := (sL [0])) (dR 3 R (vI R) (hS := (sL [0])) (dR 4 R (vSb R R) (hS := (sL [0])) (dR 5 R (vS R) (hS := (sL [0])) (dR 6 R (vI R) (hS := (sL [0])) (dR 7 R (vSb R R) (hS := (sL [0])) (dR 8 R (vIa sl29 sz3 R R hg72) (hS := (sL [0])) (dR 10 R (vS R) (hS := (sL [0])) (dR 11 R (vI R) (hS := (sL [0])) (dR 12 R (vIa sl29 sz3 R R hg75) (hS := (sL [0])) (d_all [9, 13] (by kernel_rfl) R ⟨?_, ?_, trivial⟩))))))))))))))
 refine lO (vLi 0 ag3 sees_sh R hg72) (l_nil (q_draw (sL [0]) (d1 13 R (lO (vLi 0 ag3 sees_sh R hg75) (l_nil (q_draw (sL [0]) (dR 14 R (vIa sl29 sz3 R R hg75) (hS := (sL [0])) (d1 15 R (lN (ow (kT3).share 3 (.slice (ad g73 o74) data1.length D2) data62 :: _ :: _ :: W0) ?_)))))))))
 refine l_stx (K := (kT3).share) (x' := (ix data62 (w64 (j63 - (1 : Int))))) 0 j63 R R sz3 R R hg75.1 hg75.2 ?_ ?_
 exact fun I h s => (mS3).put I h () (ix data62 (w64 (j63 - (1 : Int)))) s
 refine lN (ow (kT3).share 3 (.slice (ad g73 o74) data1.length D2) (data62.set j63.toNat (ix data62 (w64 (j63 - (1 : Int))))) :: _ :: _ :: W0) ?_
 refine l_nil (q_draw (sL [0]) (dR 16 R (vIa sl29 sz3 R R hg72) (hS := (sL [0])) (d1 17 R (l_stx (K := (kT3).share) (x' := (ix data62 j63)) 0 (w64 (j63 - (1 : Int))) R R sz3 R R hg72.1 hg72.2 ?_ ?_))))
 exact fun I h s => (mS3).put I h () (ix data62 j63) s
 refine lN (ow (kT3).share 3 (.slice (ad g73 o74) data1.length D2) ((data62.set j63.toNat (ix data62 (w64 (j63 - (1 : Int))))).set (w64 (j63 - (1 : Int))).toNat (ix data62 j63)) :: _ :: _ :: W0) ?_
 refine l_nil (q_draw (sL [0]) (dD ?_))
 exact qJ (fun w s => s)
 refine lO (vLi 0 ag3 sees_sh R hg75) (l_nil (q_draw (sL [0]) (d1 9 R (lO (vLi 0 ag3 sees_sh R hg72) (l_nil (q_draw (sL [0]) (dR 14 R (vIa sl29 sz3 R R hg75) (hS := (sL [0])) (d1 15 R (lN (ow (kT3).share 3 (.slice (ad g73 o74) data1.length D2) data62 :: _ :: _ :: W0) ?_)))))))))
 refine l_stx (K := (kT3).share) (x' := (ix data62 (w64 (j63 - (1 : Int))))) 0 j63 R R sz3 R R hg75.1 hg75.2 ?_ ?_
 exact fun I h s => (mS3).put I h () (ix data62 (w64 (j63 - (1 : Int)))) s
 refine lN (ow (kT3).share 3 (.slice (ad g73 o74) data1.length D2) (data62.set j63.toNat (ix data62 (w64 (j63 - (1 : Int))))) :: _ :: _ :: W0) ?_
 refine l_nil (q_draw (sL [0]) (dR 16 R (vIa sl29 sz3 R R hg72) (hS := (sL [0])) (d1 17 R (l_stx (K := (kT3).share) (x' := (ix data62 j63)) 0 (w64 (j63 - (1 : Int))) R R sz3 R R hg72.1 hg72.2 ?_ ?_))))
 exact fun I h s => (mS3).put I h () (ix data62 j63) s
 refine lN (ow (kT3).share 3 (.slice (ad g73 o74) data1.length D2) ((data62.set j63.toNat (ix data62 (w64 (j63 - (1 : Int))))).set (w64 (j63 - (1 : Int))).toNat (ix data62 j63)) :: _ :: _ :: W0) ?_
 refine l_nil (q_draw (sL [0]) (dD ?_))
 exact qJ (fun w s => s)
 rintro σ1
 obtain ⟨l76, hl77, hr⟩ := bd hr
 replace hl77 := Option.some.inj hl77
 refine qM (ow (kT3).share 3 (.slice A2 data1.length D2) l76 :: _ :: _ :: W0) (fun w s => by rw [← hl77]; exact s) ?_
 refine q_blockn (q_next (c_region (lI R (lO (vSb R R) (lI R (l_nil ?_))))))
 obtain rfl := so hr
 exact qA () (fun w s => s)
 refine c_false R hb71 (c_exit (q_exit ?_))
 obtain rfl := so hr
 obtain rfl := he2 _ R
 have hr := hk2
 refine q_exit (q_block (q_blockn ?_))
 exact qI (data62, ()) hr (fun w s => s)
 rintro ⟨data80, _⟩ σ1 hr
 replace hr : Z0a_J2 i46 data80 = some out1 := hr
 unfold Z0a_J2 at hr
 refine c_region (lI R (lO (vAd R R) (lI R (l_nil ?_))))
 obtain rfl := so hr
 exact qA () (fun w s => s)
 refine c_false R hb47 (c_exit (q_exit ?_))
 obtain rfl := so hr
 obtain rfl := he1 _ R
 have hr := hk1
 refine q_exit (q_block ?_)
 obtain rfl := so hr
 exact q_fin (vs := []) (.inr R) () R trivial R (fun w s => (s.f 4 [0, 3]))
theorem Z0q_ok  {data1 : (List Int)} {a3 : Int} {b4 : Int} {n5 : Int} {q9 : (List Int)} {b8 : Nat} {b10 : Nat} {r : (List Int)} (hr : Z0q data1 a3 b4 n5 q9 = some r) :
 FnOk Try.prog 111 [(.slice A2 N2 D2), (iv a3), (iv b4), (iv n5), (.func (.func 90) [].toArray [(pt b8 0), (pt b10 0)].toArray)] [ow (kT3).share 3 (.slice A2 N2 D2) data1, bxl b8 [(.func (.func 80) [].toArray [].toArray)] 97, rds kT3 (.slice A11 N11 D11) q9, bxl b10 [(.slice A11 N11 D11)] 29] (fun (h : Unit) => ((.tuple [].toArray), [ow (kT3).share 3 (.slice A2 N2 D2) r, bxl b8 [(.func (.func 80) [].toArray [].toArray)] 97, bxl b10 [(.slice A11 N11 D11)] 29])) := by
 unfold Z0q at hr
 refine fn_ok Try.func111 R 38 R R fun C V => ?_
 refine cM (ow _ _ _ _ :: bxl _ _ _ :: bxl _ _ _ :: rds _ _ _ :: V) (fun w s => (s.e 4 [0, 1, 3, 2])) ?_
 refine cL 0 sees_sh ?_
 rintro rfl
 refine cL 3 sees_rd ?_
 rintro rfl
 let W0 : List HP := RR kT3 A11 D11 q9 :: V
 refine cN (_ :: _ :: bxl b10 [(sc A11 q9 D11)] 29 :: W0) ?_
 refine c_seq (c_region (lI R (l_nil ?_)))
 let W1 : List HP := bxl b8 [(.func (.func 80) [].toArray [].toArray)] 97 :: bxl b10 [(sc A11 q9 D11)] 29 :: W0
 refine qN (_ :: W1) ?_
 refine q_next (c_block ?_)
 obtain ⟨e1, hl1, hk1⟩ := bd hr
 refine c_loop (A := Unit) hl1 (fun s a => [(0, (sc A2 data1 D2)), (1, (iv a3)), (2, (iv b4)), (3, (iv n5)), (10, (iv s.2))]) (fun s a => ow (kT3).share 3 (.slice A2 data1.length D2) s.1 :: W1) () (aS R) (fun w s => s) ?_
 rintro ⟨data19, i20⟩ _ σ1 out1 hr he1
 replace hr : Z0q_L1 data1 a3 b4 n5 data19 i20 = some out1 := hr
 unfold Z0q_L1 at hr
 refine c_seq (c_seq (c_region (lI R (lI R (lO (vLt R R) (l_nil (q_next ?_)))))))
 rcases bif_ hr with ⟨hb21, hr⟩ | ⟨hb21, hr⟩
 refine c_true R hb21 (c_skip (q_next (c_seq (c_block ?_))))
 obtain ⟨hg22, hr⟩ := gd hr
 obtain ⟨hg25, hr⟩ := gd hr
 refine cQ [(0, (sc A2 data1 D2)), (1, (iv a3)), (2, (iv b4)), (3, (iv n5)), (10, (iv i20))] (ow (kT3).share 3 (.slice A2 data1.length D2) ((data19.set (w64 (a3 + i20)).toNat (ix data19 (w64 (b4 + i20)))).set (w64 (b4 + i20)).toNat (ix data19 (w64 (a3 + i20)))) :: W1) ?_ ?_
 refine c_some 0 sees_sh (show 0 < data1.length by have := hg22; omega) (fun g23 o24 ha => ?_)
 subst ha
 refine cdr 24 [0] mixo (fun ht hn => (dR 0 R (vS R) (hS := (sL [0])) (dR 1 R (vI R) (hS := (sL [0])) (dR 2 R (vI R) (hS := (sL [0])) (dR 3 R (vAd R R) (hS := (sL [0])) (dR 4 R (vS R) (hS := (sL [0])) (dR 5 R (vI R) (hS := (sL [0])) (dR 6 R (vI R) (hS := (sL [0])) (dR 7 R (vAd R R) (hS := (sL [0])) (dR 8 R (vS R) (hS := (sL [0])) (dR 9 R (vI R) (hS := (sL [0])) (dR 10 R (vI R) (hS := (sL [0])) (dR 11 R (vAd R R) (hS := (sL [0])) (dR 12 R (vIa sl29 sz3 R R hg22) (hS := (sL [0])) (dR 14 R (vS R) (hS := (sL [0])) (dR 15 R (vI R) (hS := (sL [0])) (dR 16 R (vI R) (hS := (sL [0])) (dR 17 R (vAd R R) (hS := (sL [0])) (dR 18 R (vIa sl29 sz3 R R hg25) (hS := (sL [0])) (d_all [13, 19] (by kernel_rfl) R ⟨?_, ?_, trivial⟩))))))))))))))))))))
 refine lO (vLi 0 ag3 sees_sh R hg22) (l_nil (q_draw (sL [0]) (d1 19 R (lO (vLi 0 ag3 sees_sh R hg25) (l_nil (q_draw (sL [0]) (dR 20 R (vIa sl29 sz3 R R hg25) (hS := (sL [0])) (d1 21 R (lN (ow (kT3).share 3 (.slice (ad g23 o24) data1.length D2) data19 :: W1) ?_)))))))))
 refine l_stx (K := (kT3).share) (x' := (ix data19 (w64 (b4 + i20)))) 0 (w64 (a3 + i20)) R R sz3 R R hg25.1 hg25.2 ?_ ?_
 exact fun I h s => (mS3).put I h () (ix data19 (w64 (b4 + i20))) s
 refine lN (ow (kT3).share 3 (.slice (ad g23 o24) data1.length D2) (data19.set (w64 (a3 + i20)).toNat (ix data19 (w64 (b4 + i20)))) :: W1) ?_
 refine l_nil (q_draw (sL [0]) (dR 22 R (vIa sl29 sz3 R R hg22) (hS := (sL [0])) (d1 23 R (l_stx (K := (kT3).share) (x' := (ix data19 (w64 (a3 + i20)))) 0 (w64 (b4 + i20)) R R sz3 R R hg22.1 hg22.2 ?_ ?_))))
 exact fun I h s => (mS3).put I h () (ix data19 (w64 (a3 + i20))) s
 refine lN (ow (kT3).share 3 (.slice (ad g23 o24) data1.length D2) ((data19.set (w64 (a3 + i20)).toNat (ix data19 (w64 (b4 + i20)))).set (w64 (b4 + i20)).toNat (ix data19 (w64 (a3 + i20)))) :: W1) ?_
 refine l_nil (q_draw (sL [0]) (dD ?_))
 exact qJ (fun w s => s)
 refine lO (vLi 0 ag3 sees_sh R hg25) (l_nil (q_draw (sL [0]) (d1 13 R (lO (vLi 0 ag3 sees_sh R hg22) (l_nil (q_draw (sL [0]) (dR 20 R (vIa sl29 sz3 R R hg25) (hS := (sL [0])) (d1 21 R (lN (ow (kT3).share 3 (.slice (ad g23 o24) data1.length D2) data19 :: W1) ?_)))))))))
 refine l_stx (K := (kT3).share) (x' := (ix data19 (w64 (b4 + i20)))) 0 (w64 (a3 + i20)) R R sz3 R R hg25.1 hg25.2 ?_ ?_
 exact fun I h s => (mS3).put I h () (ix data19 (w64 (b4 + i20))) s
 refine lN (ow (kT3).share 3 (.slice (ad g23 o24) data1.length D2) (data19.set (w64 (a3 + i20)).toNat (ix data19 (w64 (b4 + i20)))) :: W1) ?_
 refine l_nil (q_draw (sL [0]) (dR 22 R (vIa sl29 sz3 R R hg22) (hS := (sL [0])) (d1 23 R (l_stx (K := (kT3).share) (x' := (ix data19 (w64 (a3 + i20)))) 0 (w64 (b4 + i20)) R R sz3 R R hg22.1 hg22.2 ?_ ?_))))
 exact fun I h s => (mS3).put I h () (ix data19 (w64 (a3 + i20))) s
 refine lN (ow (kT3).share 3 (.slice (ad g23 o24) data1.length D2) ((data19.set (w64 (a3 + i20)).toNat (ix data19 (w64 (b4 + i20)))).set (w64 (b4 + i20)).toNat (ix data19 (w64 (a3 + i20)))) :: W1) ?_
 refine l_nil (q_draw (sL [0]) (dD ?_))
 exact qJ (fun w s => s)
 rintro σ1
 obtain ⟨l26, hl27, hr⟩ := bd hr
 replace hl27 := Option.some.inj hl27
 refine qM (ow (kT3).share 3 (.slice A2 data1.length D2) l26 :: W1) (fun w s => by rw [← hl27]; exact s) ?_
 refine q_blockn (q_next (c_region (lI R (lO (vAd R R) (lI R (l_nil ?_))))))
 obtain rfl := so hr
 exact qA () (fun w s => s)
 refine c_false R hb21 (c_exit (q_exit ?_))
 obtain rfl := so hr
 obtain rfl := he1 _ R
 have hr := hk1
 refine q_exit (q_block ?_)
 obtain rfl := so hr
 exact q_fin (vs := []) (.inr R) () R trivial R (fun w s => (s.f 4 [0, 3]))
theorem Z0p_ok  {data1 : (List Int)} {a3 : Int} {m4 : Int} {b5 : Int} {q9 : (List Int)} {b8 : Nat} {b10 : Nat} {r : (List Int)} (hr : Z0p data1 a3 m4 b5 q9 = some r) :
 FnOk Try.prog 110 [(.slice A2 N2 D2), (iv a3), (iv m4), (iv b5), (.func (.func 90) [].toArray [(pt b8 0), (pt b10 0)].toArray)] [ow (kT3).share 3 (.slice A2 N2 D2) data1, bxl b8 [(.func (.func 80) [].toArray [].toArray)] 97, rds kT3 (.slice A11 N11 D11) q9, bxl b10 [(.slice A11 N11 D11)] 29] (fun (h : Unit) => ((.tuple [].toArray), [ow (kT3).share 3 (.slice A2 N2 D2) r, bxl b8 [(.func (.func 80) [].toArray [].toArray)] 97, bxl b10 [(.slice A11 N11 D11)] 29])) := by
 unfold Z0p at hr
 refine fn_ok Try.func110 R 58 R R fun C V => ?_
 refine cM (ow _ _ _ _ :: bxl _ _ _ :: bxl _ _ _ :: rds _ _ _ :: V) (fun w s => (s.e 4 [0, 1, 3, 2])) ?_
 refine cL 0 sees_sh ?_
 rintro rfl
 refine cL 3 sees_rd ?_
 rintro rfl
 let W0 : List HP := RR kT3 A11 D11 q9 :: V
 refine cN (_ :: _ :: bxl b10 [(sc A11 q9 D11)] 29 :: W0) ?_
 refine c_seq (c_region (lI R (lI R (lO (vSb R R) (lI R (l_nil (q_next (c_seq (c_region (lI R (lI R (lO (vSb R R) (lI R (l_nil (q_next (c_seq (c_cut (A := ((List Int) × Int) × (Unit)) (fun a => Z0p_J1 m4 q9 a.1.1 a.1.2 = some r) (fun a => [(0, (sc A2 data1 D2)), (2, (iv m4)), (4, (.func (.func 90) [].toArray [(pt b8 0), (pt b10 0)].toArray)), (10, (iv a.1.2))]) (fun a => ow (kT3).share 3 (.slice A2 data1.length D2) a.1.1 :: bxl b8 [(.func (.func 80) [].toArray [].toArray)] 97 :: bxl b10 [(sc A11 q9 D11)] 29 :: W0) ?_ ?_)))))))))))))))))
 refine c_block ?_
 obtain ⟨e1, hl1, hk1⟩ := bd hr
 refine c_loop (A := Unit) hl1 (fun s a => [(0, (sc A2 data1 D2)), (2, (iv m4)), (4, (.func (.func 90) [].toArray [(pt b8 0), (pt b10 0)].toArray)), (10, (iv s.2.1)), (11, (iv s.2.2))]) (fun s a => ow (kT3).share 3 (.slice A2 data1.length D2) s.1 :: bxl b8 [(.func (.func 80) [].toArray [].toArray)] 97 :: bxl b10 [(sc A11 q9 D11)] 29 :: W0) () (aS R) (fun w s => s) ?_
 rintro ⟨data18, i19, j20⟩ _ σ1 out1 hr he1
 replace hr : Z0p_L1 m4 q9 data18 i19 j20 = some out1 := hr
 unfold Z0p_L1 at hr
 refine c_seq (c_seq (c_region (lI R (lI R (lO (vNe R R) (l_nil (q_next ?_)))))))
 rcases bif_ hr with ⟨hb21, hr⟩ | ⟨hb21, hr⟩
 refine c_true R hb21 (c_skip (q_next (c_block (c_seq (c_region (lI R (lI R (lO (vGt R R) (l_nil (q_next ?_))))))))))
 rcases bif_ hr with ⟨hb22, hr⟩ | ⟨hb22, hr⟩
 refine c_true R hb22 (c_seq ?_)
 obtain ⟨r23, hx24, hr⟩ := bd hr
 refine c_region (lS R (lI R (lI R (lO (vSb R R) (lI R (lI R (lO (vp (.func (.func 90) [].toArray [(pt b8 0), (pt b10 0)].toArray) R) (lM (ow (kT3).share 3 (.slice A2 data1.length D2) data18 :: bxl _ _ _ :: RR kT3 A11 D11 q9 :: bxl _ _ _ :: W0) (fun w s => ((s.d 3 R).e 4 [1, 2, 0, 3])) ?_))))))))
 refine lC 4 cb111 R (Z0q_ok hx24) R ?_
 rintro _
 refine lN (ow (kT3).share 3 (.slice A2 data1.length D2) r23 :: _ :: _ :: W0) ?_
 refine l_nil (q_next (c_region (lI R (lI R (lO (vSb R R) (lI R (l_nil (q_blockn ?_))))))))
 obtain rfl := so hr
 exact qA () (fun w s => s)
 refine c_false R hb22 (c_seq ?_)
 obtain ⟨r25, hx26, hr⟩ := bd hr
 refine c_region (lS R (lI R (lI R (lO (vSb R R) (lI R (lI R (lO (vAd R R) (lI R (lO (vSb R R) (lI R (lO (vp (.func (.func 90) [].toArray [(pt b8 0), (pt b10 0)].toArray) R) (lM (ow (kT3).share 3 (.slice A2 data1.length D2) data18 :: bxl _ _ _ :: RR kT3 A11 D11 q9 :: bxl _ _ _ :: W0) (fun w s => ((s.d 3 R).e 4 [1, 2, 0, 3])) ?_))))))))))))
 refine lC 4 cb111 R (Z0q_ok hx26) R ?_
 rintro _
 refine lN (ow (kT3).share 3 (.slice A2 data1.length D2) r25 :: _ :: _ :: W0) ?_
 refine l_nil (q_next (c_region (lI R (lI R (lO (vSb R R) (lI R (l_nil (q_blockn ?_))))))))
 obtain rfl := so hr
 exact qA () (fun w s => s)
 refine c_false R hb21 (c_exit (q_exit ?_))
 obtain rfl := so hr
 obtain rfl := he1 _ R
 have hr := hk1
 refine q_exit (q_block ?_)
 exact qI ((data18, i19), ()) hr (fun w s => s)
 rintro ⟨⟨data30, i31⟩, _⟩ σ1 hr
 replace hr : Z0p_J1 m4 q9 data30 i31 = some r := hr
 unfold Z0p_J1 at hr
 obtain ⟨r32, hx33, hr⟩ := bd hr
 refine c_region (lS R (lI R (lI R (lO (vSb R R) (lI R (lI R (lO (vp (.func (.func 90) [].toArray [(pt b8 0), (pt b10 0)].toArray) R) (lM (ow (kT3).share 3 (.slice A2 data1.length D2) data30 :: bxl _ _ _ :: RR kT3 A11 D11 q9 :: bxl _ _ _ :: W0) (fun w s => ((s.d 3 R).e 4 [1, 2, 0, 3])) ?_))))))))
 refine lC 4 cb111 R (Z0q_ok hx33) R ?_
 rintro _
 refine lN (ow (kT3).share 3 (.slice A2 data1.length D2) r32 :: _ :: _ :: W0) ?_
 refine l_nil ?_
 obtain rfl := so hr
 exact q_fin (vs := []) (.inr R) () R trivial R (fun w s => (s.f 4 [0, 3]))
theorem Z1_S_ok {rf : (List Int) → Int → Int → Int → (List Int) → Option ((List Int))} (hrf : ∀ {data1 : (List Int)} {a3 : Int} {m4 : Int} {b5 : Int} {q9 : (List Int)} {b8 : Nat} {b10 : Nat} {A2 A11 : Option Addr} {N2 D2 N11 D11 : Nat} {r : (List Int)}, rf data1 a3 m4 b5 q9 = some r → FnOk Try.prog 108 [(.slice A2 N2 D2), (iv a3), (iv m4), (iv b5), (.func (.func 90) [].toArray [(pt b8 0), (pt b10 0)].toArray)] [ow (kT3).share 3 (.slice A2 N2 D2) data1, bxl b8 [(.func (.func 80) [].toArray [].toArray)] 97, rds kT3 (.slice A11 N11 D11) q9, bxl b10 [(.slice A11 N11 D11)] 29] (fun (h : Unit) => ((.tuple [].toArray), [ow (kT3).share 3 (.slice A2 N2 D2) r, bxl b8 [(.func (.func 80) [].toArray [].toArray)] 97, bxl b10 [(.slice A11 N11 D11)] 29]))) {data1 : (List Int)} {a3 : Int} {m4 : Int} {b5 : Int} {q9 : (List Int)} {b8 : Nat} {b10 : Nat} {r : (List Int)} (hr : Z1_S rf data1 a3 m4 b5 q9 = some r) :
 FnOk Try.prog 108 [(.slice A2 N2 D2), (iv a3), (iv m4), (iv b5), (.func (.func 90) [].toArray [(pt b8 0), (pt b10 0)].toArray)] [ow (kT3).share 3 (.slice A2 N2 D2) data1, bxl b8 [(.func (.func 80) [].toArray [].toArray)] 97, rds kT3 (.slice A11 N11 D11) q9, bxl b10 [(.slice A11 N11 D11)] 29] (fun (h : Unit) => ((.tuple [].toArray), [ow (kT3).share 3 (.slice A2 N2 D2) r, bxl b8 [(.func (.func 80) [].toArray [].toArray)] 97, bxl b10 [(.slice A11 N11 D11)] 29])) := by
 unfold Z1_S at hr
 refine fn_ok Try.func108 R 220 R R fun C V => ?_
 refine cM (ow _ _ _ _ :: bxl _ _ _ :: bxl _ _ _ :: rds _ _ _ :: V) (fun w s => (s.e 4 [0, 1, 3, 2])) ?_
 refine cL 0 sees_sh ?_
 rintro rfl
 refine cL 3 sees_rd ?_
 rintro rfl
 let W0 : List HP := RR kT3 A11 D11 q9 :: V
 refine cN (_ :: _ :: bxl b10 [(sc A11 q9 D11)] 29 :: W0) ?_
 refine c_seq (c_seq (c_region (lI R (lI R (lO (vSb R R) (lO (vEq R R) (l_nil (q_next ?_))))))))
 rcases bif_ hr with ⟨hb12, hr⟩ | ⟨hb12, hr⟩
 refine c_true R hb12 (c_seq (c_region (lI R (lI R (l_nil (q_next (c_seq (c_region (lI R (lI R (l_nil (q_next (c_seq (c_cut (A := (Int) × (Unit)) (fun a => Z1_J9 data1 a3 a.1 = some r) (fun a => [(0, (sc A2 data1 D2)), (1, (iv a3)), (10, (iv a.1))]) (fun a => OO (kT3).share 3 A2 D2 data1 :: bxl b8 [(.func (.func 80) [].toArray [].toArray)] 97 :: bxl b10 [(sc A11 q9 D11)] 29 :: W0) ?_ ?_))))))))))))))
 refine c_block ?_
 obtain ⟨e1, hl1, hk1⟩ := bd hr
 refine c_loop (A := Unit) hl1 (fun s a => [(0, (sc A2 data1 D2)), (1, (iv a3)), (4, (.func (.func 90) [].toArray [(pt b8 0), (pt b10 0)].toArray)), (10, (iv s.1)), (11, (iv s.2))]) (fun s a => OO (kT3).share 3 A2 D2 data1 :: bxl b8 [(.func (.func 80) [].toArray [].toArray)] 97 :: bxl b10 [(sc A11 q9 D11)] 29 :: W0) () (aS R) (fun w s => s) ?_
 rintro ⟨i21, j22⟩ _ σ1 out1 hr he1
 replace hr : Z1_L1 data1 a3 q9 i21 j22 = some out1 := hr
 unfold Z1_L1 at hr
 refine c_seq (c_seq (c_region (lI R (lI R (lO (vLt R R) (l_nil (q_next ?_)))))))
 rcases bif_ hr with ⟨hb23, hr⟩ | ⟨hb23, hr⟩
 refine c_true R hb23 (c_skip (q_next (c_block (c_seq (c_region (lI R (lI R (lO (vAd R R) (lO (vz (.int .u64 (IntKind.wrap .u64 ((w64 (i21 + j22))))) (v_conv un3 un92 R)) (lO (vz (.int .u64 ((IntKind.wrap .u64 ((w64 (i21 + j22)))) / 2 ^ (1 : Int).toNat)) (v_shr R R (by decide) (by decide))) (lO (vz (iv (w64 (((IntKind.wrap .u64 ((w64 (i21 + j22)))) / 2 ^ (1 : Int).toNat)))) (v_conv un92 un3 R)) (lI R (l_nil (q_next (c_seq ?_)))))))))))))))
 obtain ⟨hg24, hr⟩ := gd hr
 obtain ⟨hg27, hr⟩ := gd hr
 obtain ⟨r28, hx29, hr⟩ := bd hr
 refine c_some 0 sees_sh (show 0 < data1.length by have := hg24; omega) (fun g25 o26 ha => ?_)
 subst ha
 refine cdr 11 [] mixo (fun ht hn => (dR 0 R (vp (.func (.func 90) [].toArray [(pt b8 0), (pt b10 0)].toArray) R) (dR 1 R (vS R) (dR 2 R (vI R) (dR 3 R (vIa sl29 sz3 R R hg24) (dR 4 R (vLi 0 ag3 sees_sh R hg24) (dR 5 R (vS R) (dR 6 R (vI R) (dR 7 R (vIa sl29 sz3 R R hg27) (dR 8 R (vLi 0 ag3 sees_sh R hg27) (d1 9 R (lM (bxl _ _ _ :: RR kT3 A11 D11 q9 :: bxl _ _ _ :: OO (kT3).share 3 (ad g25 o26) D2 data1 :: W0) (fun w s => ((s.d 3 R).e 4 [2, 0, 3, 1])) ?_))))))))))))
 refine l_callvn (fs := []) (cs := [(pt b8 0), (pt b10 0)]) 3 R R cb90 R R (Z0n_ok hx29) R ?_
 rintro _
 refine lN (_ :: _ :: _ :: W0) ?_
 refine l_nil (q_draw (fun w s => (s.e 3 [2, 0, 1])) (dR 10 R (vLt R R) (hS := (fun w s => (s.e 3 [2, 0, 1]))) (dD (q_next ?_))))
 rcases bif_ hr with ⟨hb30, hr⟩ | ⟨hb30, hr⟩
 refine c_true R hb30 (c_region (lI R (lO (vAd R R) (lI R (l_nil (q_blockn ?_))))))
 obtain rfl := so hr
 exact qA () (fun w s => (s.e 3 [2, 0, 1]))
 refine c_false R hb30 (c_region (lI R (lI R (l_nil (q_blockn ?_)))))
 obtain rfl := so hr
 exact qA () (fun w s => (s.e 3 [2, 0, 1]))
 refine c_false R hb23 (c_exit (q_exit ?_))
 obtain rfl := so hr
 obtain rfl := he1 _ R
 have hr := hk1
 refine q_exit (q_block ?_)
 exact qI (i21, ()) hr (fun w s => s)
 rintro ⟨i33, _⟩ σ1 hr
 replace hr : Z1_J9 data1 a3 i33 = some r := hr
 unfold Z1_J9 at hr
 refine c_seq (c_cut (A := ((List Int)) × (Unit)) (fun a => Z1_J10 a.1 = some r) (fun a => []) (fun a => ow (kT3).share 3 (.slice A2 data1.length D2) a.1 :: bxl b8 [(.func (.func 80) [].toArray [].toArray)] 97 :: bxl b10 [(sc A11 q9 D11)] 29 :: W0) ?_ ?_)
 refine c_seq (c_region (lI R (lI R (l_nil (q_next (c_block ?_))))))
 obtain ⟨e2, hl2, hk2⟩ := bd hr
 refine c_loop (A := Unit) hl2 (fun s a => [(0, (sc A2 data1 D2)), (10, (iv i33)), (13, (iv s.2))]) (fun s a => ow (kT3).share 3 (.slice A2 data1.length D2) s.1 :: bxl b8 [(.func (.func 80) [].toArray [].toArray)] 97 :: bxl b10 [(sc A11 q9 D11)] 29 :: W0) () (aS R) (fun w s => s) ?_
 rintro ⟨data41, k42⟩ _ σ1 out2 hr he2
 replace hr : Z1_L2 data1 i33 data41 k42 = some out2 := hr
 unfold Z1_L2 at hr
 refine c_seq (c_seq (c_region (lI R (lI R (lO (vSb R R) (lO (vLt R R) (l_nil (q_next ?_))))))))
 rcases bif_ hr with ⟨hb43, hr⟩ | ⟨hb43, hr⟩
 refine c_true R hb43 (c_skip (q_next (c_seq (c_block ?_))))
 obtain ⟨hg44, hr⟩ := gd hr
 obtain ⟨hg47, hr⟩ := gd hr
 refine cQ [(0, (sc A2 data1 D2)), (10, (iv i33)), (13, (iv k42))] (ow (kT3).share 3 (.slice A2 data1.length D2) ((data41.set k42.toNat (ix data41 (w64 (k42 + (1 : Int))))).set (w64 (k42 + (1 : Int))).toNat (ix data41 k42)) :: bxl b8 [(.func (.func 80) [].toArray [].toArray)] 97 :: bxl b10 [(sc A11 q9 D11)] 29 :: W0) ?_ ?_
 refine c_some 0 sees_sh (show 0 < data1.length by have := hg44; omega) (fun g45 o46 ha => ?_)
 subst ha
 refine cdr 18 [0] mixo (fun ht hn => (dR 0 R (vS R) (hS := (sL [0])) (dR 1 R (vI R) (hS := (sL [0])) (dR 2 R (vS R) (hS := (sL [0])) (dR 3 R (vI R) (hS := (sL [0])) (dR 4 R (vAd R R) (hS := (sL [0])) (dR 5 R (vS R) (hS := (sL [0])) (dR 6 R (vI R) (hS := (sL [0])) (dR 7 R (vAd R R) (hS := (sL [0])) (dR 8 R (vIa sl29 sz3 R R hg44) (hS := (sL [0])) (dR 10 R (vS R) (hS := (sL [0])) (dR 11 R (vI R) (hS := (sL [0])) (dR 12 R (vIa sl29 sz3 R R hg47) (hS := (sL [0])) (d_all [9, 13] (by kernel_rfl) R ⟨?_, ?_, trivial⟩))))))))))))))
 refine lO (vLi 0 ag3 sees_sh R hg44) (l_nil (q_draw (sL [0]) (d1 13 R (lO (vLi 0 ag3 sees_sh R hg47) (l_nil (q_draw (sL [0]) (dR 14 R (vIa sl29 sz3 R R hg47) (hS := (sL [0])) (d1 15 R (lN (ow (kT3).share 3 (.slice (ad g45 o46) data1.length D2) data41 :: _ :: _ :: W0) ?_)))))))))
 refine l_stx (K := (kT3).share) (x' := (ix data41 (w64 (k42 + (1 : Int))))) 0 k42 R R sz3 R R hg47.1 hg47.2 ?_ ?_
 exact fun I h s => (mS3).put I h () (ix data41 (w64 (k42 + (1 : Int)))) s
 refine lN (ow (kT3).share 3 (.slice (ad g45 o46) data1.length D2) (data41.set k42.toNat (ix data41 (w64 (k42 + (1 : Int))))) :: _ :: _ :: W0) ?_
 refine l_nil (q_draw (sL [0]) (dR 16 R (vIa sl29 sz3 R R hg44) (hS := (sL [0])) (d1 17 R (l_stx (K := (kT3).share) (x' := (ix data41 k42)) 0 (w64 (k42 + (1 : Int))) R R sz3 R R hg44.1 hg44.2 ?_ ?_))))
 exact fun I h s => (mS3).put I h () (ix data41 k42) s
 refine lN (ow (kT3).share 3 (.slice (ad g45 o46) data1.length D2) ((data41.set k42.toNat (ix data41 (w64 (k42 + (1 : Int))))).set (w64 (k42 + (1 : Int))).toNat (ix data41 k42)) :: _ :: _ :: W0) ?_
 refine l_nil (q_draw (sL [0]) (dD ?_))
 exact qJ (fun w s => s)
 refine lO (vLi 0 ag3 sees_sh R hg47) (l_nil (q_draw (sL [0]) (d1 9 R (lO (vLi 0 ag3 sees_sh R hg44) (l_nil (q_draw (sL [0]) (dR 14 R (vIa sl29 sz3 R R hg47) (hS := (sL [0])) (d1 15 R (lN (ow (kT3).share 3 (.slice (ad g45 o46) data1.length D2) data41 :: _ :: _ :: W0) ?_)))))))))
 refine l_stx (K := (kT3).share) (x' := (ix data41 (w64 (k42 + (1 : Int))))) 0 k42 R R sz3 R R hg47.1 hg47.2 ?_ ?_
 exact fun I h s => (mS3).put I h () (ix data41 (w64 (k42 + (1 : Int)))) s
 refine lN (ow (kT3).share 3 (.slice (ad g45 o46) data1.length D2) (data41.set k42.toNat (ix data41 (w64 (k42 + (1 : Int))))) :: _ :: _ :: W0) ?_
 refine l_nil (q_draw (sL [0]) (dR 16 R (vIa sl29 sz3 R R hg44) (hS := (sL [0])) (d1 17 R (l_stx (K := (kT3).share) (x' := (ix data41 k42)) 0 (w64 (k42 + (1 : Int))) R R sz3 R R hg44.1 hg44.2 ?_ ?_))))
 exact fun I h s => (mS3).put I h () (ix data41 k42) s
 refine lN (ow (kT3).share 3 (.slice (ad g45 o46) data1.length D2) ((data41.set k42.toNat (ix data41 (w64 (k42 + (1 : Int))))).set (w64 (k42 + (1 : Int))).toNat (ix data41 k42)) :: _ :: _ :: W0) ?_
 refine l_nil (q_draw (sL [0]) (dD ?_))
 exact qJ (fun w s => s)
 rintro σ1
 obtain ⟨l48, hl49, hr⟩ := bd hr
 replace hl49 := Option.some.inj hl49
 refine qM (ow (kT3).share 3 (.slice A2 data1.length D2) l48 :: _ :: _ :: W0) (fun w s => by rw [← hl49]; exact s) ?_
 refine q_blockn (q_next (c_region (lI R (lO (vAd R R) (lI R (l_nil ?_))))))
 obtain rfl := so hr
 exact qA () (fun w s => s)
 refine c_false R hb43 (c_exit (q_exit ?_))
 obtain rfl := so hr
 obtain rfl := he2 _ R
 have hr := hk2
 refine q_exit (q_block ?_)
 exact q_join (data41, ()) hr trivial (fun w s => s)
 rintro ⟨p52, _⟩ σ1 hr
 replace hr : Z1_J10 p52 = some r := hr
 unfold Z1_J10 at hr
 refine c_ret (q_ret ?_)
 obtain rfl := so hr
 exact q_fin (vs := []) (.inl R) () R trivial R (fun w s => (s.f 4 [0, 3]))
 refine c_false R hb12 (c_skip (q_next (c_seq (c_seq (c_region (lI R (lI R (lO (vSb R R) (lO (vEq R R) (l_nil (q_next ?_)))))))))))
 rcases bif_ hr with ⟨hb53, hr⟩ | ⟨hb53, hr⟩
 refine c_true R hb53 (c_seq (c_region (lI R (lI R (l_nil (q_next (c_seq (c_region (lI R (lI R (l_nil (q_next (c_seq (c_cut (A := (Int) × (Unit)) (fun a => Z1_J11 data1 m4 a.1 = some r) (fun a => [(0, (sc A2 data1 D2)), (2, (iv m4)), (14, (iv a.1))]) (fun a => OO (kT3).share 3 A2 D2 data1 :: bxl b8 [(.func (.func 80) [].toArray [].toArray)] 97 :: bxl b10 [(sc A11 q9 D11)] 29 :: W0) ?_ ?_))))))))))))))
 refine c_block ?_
 obtain ⟨e3, hl3, hk3⟩ := bd hr
 refine c_loop (A := Unit) hl3 (fun s a => [(0, (sc A2 data1 D2)), (2, (iv m4)), (4, (.func (.func 90) [].toArray [(pt b8 0), (pt b10 0)].toArray)), (14, (iv s.1)), (15, (iv s.2))]) (fun s a => OO (kT3).share 3 A2 D2 data1 :: bxl b8 [(.func (.func 80) [].toArray [].toArray)] 97 :: bxl b10 [(sc A11 q9 D11)] 29 :: W0) () (aS R) (fun w s => s) ?_
 rintro ⟨i62, j63⟩ _ σ1 out3 hr he3
 replace hr : Z1_L3 data1 m4 q9 i62 j63 = some out3 := hr
 unfold Z1_L3 at hr
 refine c_seq (c_seq (c_region (lI R (lI R (lO (vLt R R) (l_nil (q_next ?_)))))))
 rcases bif_ hr with ⟨hb64, hr⟩ | ⟨hb64, hr⟩
 refine c_true R hb64 (c_skip (q_next (c_block (c_seq (c_region (lI R (lI R (lO (vAd R R) (lO (vz (.int .u64 (IntKind.wrap .u64 ((w64 (i62 + j63))))) (v_conv un3 un92 R)) (lO (vz (.int .u64 ((IntKind.wrap .u64 ((w64 (i62 + j63)))) / 2 ^ (1 : Int).toNat)) (v_shr R R (by decide) (by decide))) (lO (vz (iv (w64 (((IntKind.wrap .u64 ((w64 (i62 + j63)))) / 2 ^ (1 : Int).toNat)))) (v_conv un92 un3 R)) (lI R (l_nil (q_next (c_seq ?_)))))))))))))))
 obtain ⟨hg65, hr⟩ := gd hr
 obtain ⟨hg68, hr⟩ := gd hr
 obtain ⟨r69, hx70, hr⟩ := bd hr
 refine c_some 0 sees_sh (show 0 < data1.length by have := hg65; omega) (fun g66 o67 ha => ?_)
 subst ha
 refine cdr 12 [] mixo (fun ht hn => (dR 0 R (vp (.func (.func 90) [].toArray [(pt b8 0), (pt b10 0)].toArray) R) (dR 1 R (vS R) (dR 2 R (vI R) (dR 3 R (vIa sl29 sz3 R R hg65) (dR 4 R (vLi 0 ag3 sees_sh R hg65) (dR 5 R (vS R) (dR 6 R (vI R) (dR 7 R (vIa sl29 sz3 R R hg68) (dR 8 R (vLi 0 ag3 sees_sh R hg68) (d1 9 R (lM (bxl _ _ _ :: RR kT3 A11 D11 q9 :: bxl _ _ _ :: OO (kT3).share 3 (ad g66 o67) D2 data1 :: W0) (fun w s => ((s.d 3 R).e 4 [2, 0, 3, 1])) ?_))))))))))))
 refine l_callvn (fs := []) (cs := [(pt b8 0), (pt b10 0)]) 3 R R cb90 R R (Z0n_ok hx70) R ?_
 rintro _
 refine lN (_ :: _ :: _ :: W0) ?_
 refine l_nil (q_draw (fun w s => (s.e 3 [2, 0, 1])) (dR 10 R (vLt R R) (hS := (fun w s => (s.e 3 [2, 0, 1]))) (dR 11 R (vNo R) (hS := (fun w s => (s.e 3 [2, 0, 1]))) (dD (q_next ?_)))))
 rcases bif_ hr with ⟨hb71, hr⟩ | ⟨hb71, hr⟩
 refine c_true R hb71 (c_region (lI R (lO (vAd R R) (lI R (l_nil (q_blockn ?_))))))
 obtain rfl := so hr
 exact qA () (fun w s => (s.e 3 [2, 0, 1]))
 refine c_false R hb71 (c_region (lI R (lI R (l_nil (q_blockn ?_)))))
 obtain rfl := so hr
 exact qA () (fun w s => (s.e 3 [2, 0, 1]))
 refine c_false R hb64 (c_exit (q_exit ?_))
 obtain rfl := so hr
 obtain rfl := he3 _ R
 have hr := hk3
 refine q_exit (q_block ?_)
 exact qI (i62, ()) hr (fun w s => s)
 rintro ⟨i74, _⟩ σ1 hr
 replace hr : Z1_J11 data1 m4 i74 = some r := hr
 unfold Z1_J11 at hr
 refine c_seq (c_cut (A := ((List Int)) × (Unit)) (fun a => Z1_J12 a.1 = some r) (fun a => []) (fun a => ow (kT3).share 3 (.slice A2 data1.length D2) a.1 :: bxl b8 [(.func (.func 80) [].toArray [].toArray)] 97 :: bxl b10 [(sc A11 q9 D11)] 29 :: W0) ?_ ?_)
 refine c_seq (c_region (lI R (lI R (l_nil (q_next (c_block ?_))))))
 obtain ⟨e4, hl4, hk4⟩ := bd hr
 refine c_loop (A := Unit) hl4 (fun s a => [(0, (sc A2 data1 D2)), (14, (iv i74)), (17, (iv s.2))]) (fun s a => ow (kT3).share 3 (.slice A2 data1.length D2) s.1 :: bxl b8 [(.func (.func 80) [].toArray [].toArray)] 97 :: bxl b10 [(sc A11 q9 D11)] 29 :: W0) () (aS R) (fun w s => s) ?_
 rintro ⟨data82, k83⟩ _ σ1 out4 hr he4
 replace hr : Z1_L4 data1 i74 data82 k83 = some out4 := hr
 unfold Z1_L4 at hr
 refine c_seq (c_seq (c_region (lI R (lI R (lO (vGt R R) (l_nil (q_next ?_)))))))
 rcases bif_ hr with ⟨hb84, hr⟩ | ⟨hb84, hr⟩
 refine c_true R hb84 (c_skip (q_next (c_seq (c_block ?_))))
 obtain ⟨hg85, hr⟩ := gd hr
 obtain ⟨hg88, hr⟩ := gd hr
 refine cQ [(0, (sc A2 data1 D2)), (14, (iv i74)), (17, (iv k83))] (ow (kT3).share 3 (.slice A2 data1.length D2) ((data82.set k83.toNat (ix data82 (w64 (k83 - (1 : Int))))).set (w64 (k83 - (1 : Int))).toNat (ix data82 k83)) :: bxl b8 [(.func (.func 80) [].toArray [].toArray)] 97 :: bxl b10 [(sc A11 q9 D11)] 29 :: W0) ?_ ?_
 refine c_some 0 sees_sh (show 0 < data1.length by have := hg85; omega) (fun g86 o87 ha => ?_)
 subst ha
 refine cdr 18 [0] mixo (fun ht hn => (dR 0 R (vS R) (hS := (sL [0])) (dR 1 R (vI R) (hS := (sL [0])) (dR 2 R (vS R) (hS := (sL [0])) (dR 3 R (vI R) (hS := (sL [0])) (dR 4 R (vSb R R) (hS := (sL [0])) (dR 5 R (vS R) (hS := (sL [0])) (dR 6 R (vI R) (hS := (sL [0])) (dR 7 R (vSb R R) (hS := (sL [0])) (dR 8 R (vIa sl29 sz3 R R hg85) (hS := (sL [0])) (dR 10 R (vS R) (hS := (sL [0])) (dR 11 R (vI R) (hS := (sL [0])) (dR 12 R (vIa sl29 sz3 R R hg88) (hS := (sL [0])) (d_all [9, 13] (by kernel_rfl) R ⟨?_, ?_, trivial⟩))))))))))))))
 refine lO (vLi 0 ag3 sees_sh R hg85) (l_nil (q_draw (sL [0]) (d1 13 R (lO (vLi 0 ag3 sees_sh R hg88) (l_nil (q_draw (sL [0]) (dR 14 R (vIa sl29 sz3 R R hg88) (hS := (sL [0])) (d1 15 R (lN (ow (kT3).share 3 (.slice (ad g86 o87) data1.length D2) data82 :: _ :: _ :: W0) ?_)))))))))
 refine l_stx (K := (kT3).share) (x' := (ix data82 (w64 (k83 - (1 : Int))))) 0 k83 R R sz3 R R hg88.1 hg88.2 ?_ ?_
 exact fun I h s => (mS3).put I h () (ix data82 (w64 (k83 - (1 : Int)))) s
 refine lN (ow (kT3).share 3 (.slice (ad g86 o87) data1.length D2) (data82.set k83.toNat (ix data82 (w64 (k83 - (1 : Int))))) :: _ :: _ :: W0) ?_
 refine l_nil (q_draw (sL [0]) (dR 16 R (vIa sl29 sz3 R R hg85) (hS := (sL [0])) (d1 17 R (l_stx (K := (kT3).share) (x' := (ix data82 k83)) 0 (w64 (k83 - (1 : Int))) R R sz3 R R hg85.1 hg85.2 ?_ ?_))))
 exact fun I h s => (mS3).put I h () (ix data82 k83) s
 refine lN (ow (kT3).share 3 (.slice (ad g86 o87) data1.length D2) ((data82.set k83.toNat (ix data82 (w64 (k83 - (1 : Int))))).set (w64 (k83 - (1 : Int))).toNat (ix data82 k83)) :: _ :: _ :: W0) ?_
 refine l_nil (q_draw (sL [0]) (dD ?_))
 exact qJ (fun w s => s)
 refine lO (vLi 0 ag3 sees_sh R hg88) (l_nil (q_draw (sL [0]) (d1 9 R (lO (vLi 0 ag3 sees_sh R hg85) (l_nil (q_draw (sL [0]) (dR 14 R (vIa sl29 sz3 R R hg88) (hS := (sL [0])) (d1 15 R (lN (ow (kT3).share 3 (.slice (ad g86 o87) data1.length D2) data82 :: _ :: _ :: W0) ?_)))))))))
 refine l_stx (K := (kT3).share) (x' := (ix data82 (w64 (k83 - (1 : Int))))) 0 k83 R R sz3 R R hg88.1 hg88.2 ?_ ?_
 exact fun I h s => (mS3).put I h () (ix data82 (w64 (k83 - (1 : Int)))) s
 refine lN (ow (kT3).share 3 (.slice (ad g86 o87) data1.length D2) (data82.set k83.toNat (ix data82 (w64 (k83 - (1 : Int))))) :: _ :: _ :: W0) ?_
 refine l_nil (q_draw (sL [0]) (dR 16 R (vIa sl29 sz3 R R hg85) (hS := (sL [0])) (d1 17 R (l_stx (K := (kT3).share) (x' := (ix data82 k83)) 0 (w64 (k83 - (1 : Int))) R R sz3 R R hg85.1 hg85.2 ?_ ?_))))
 exact fun I h s => (mS3).put I h () (ix data82 k83) s
 refine lN (ow (kT3).share 3 (.slice (ad g86 o87) data1.length D2) ((data82.set k83.toNat (ix data82 (w64 (k83 - (1 : Int))))).set (w64 (k83 - (1 : Int))).toNat (ix data82 k83)) :: _ :: _ :: W0) ?_
 refine l_nil (q_draw (sL [0]) (dD ?_))
 exact qJ (fun w s => s)
 rintro σ1
 obtain ⟨l89, hl90, hr⟩ := bd hr
 replace hl90 := Option.some.inj hl90
 refine qM (ow (kT3).share 3 (.slice A2 data1.length D2) l89 :: _ :: _ :: W0) (fun w s => by rw [← hl90]; exact s) ?_
 refine q_blockn (q_next (c_region (lI R (lO (vSb R R) (lI R (l_nil ?_))))))
 obtain rfl := so hr
 exact qA () (fun w s => s)
 refine c_false R hb84 (c_exit (q_exit ?_))
 obtain rfl := so hr
 obtain rfl := he4 _ R
 have hr := hk4
 refine q_exit (q_block ?_)
 exact q_join (data82, ()) hr trivial (fun w s => s)
 rintro ⟨p93, _⟩ σ1 hr
 replace hr : Z1_J12 p93 = some r := hr
 unfold Z1_J12 at hr
 refine c_ret (q_ret ?_)
 obtain rfl := so hr
 exact q_fin (vs := []) (.inl R) () R trivial R (fun w s => (s.f 4 [0, 3]))
 refine c_false R hb53 (c_skip (q_next (c_seq (c_region (lI R (lI R (lO (vAd R R) (lO (vz (.int .u64 (IntKind.wrap .u64 ((w64 (a3 + b5))))) (v_conv un3 un92 R)) (lO (vz (.int .u64 ((IntKind.wrap .u64 ((w64 (a3 + b5)))) / 2 ^ (1 : Int).toNat)) (v_shr R R (by decide) (by decide))) (lO (vz (iv (w64 (((IntKind.wrap .u64 ((w64 (a3 + b5)))) / 2 ^ (1 : Int).toNat)))) (v_conv un92 un3 R)) (lI R (l_nil (q_next (c_seq (c_region (lI R (lI R (lO (vAd R R) (lI R (l_nil (q_next (c_seq (c_region (lI R (lI R (l_nil (q_next ?_)))))))))))))))))))))))))))
 refine c_seq (c_cut (A := (Int × Int) × (Unit)) (fun a => Z1_J13 data1 a3 m4 b5 q9 rf a.1.1 a.1.2 = some r) (fun a => [(0, (sc A2 data1 D2)), (1, (iv a3)), (2, (iv m4)), (3, (iv b5)), (4, (.func (.func 90) [].toArray [(pt b8 0), (pt b10 0)].toArray)), (18, (iv (w64 (((IntKind.wrap .u64 ((w64 (a3 + b5)))) / 2 ^ (1 : Int).toNat))))), (19, (iv (w64 ((w64 (((IntKind.wrap .u64 ((w64 (a3 + b5)))) / 2 ^ (1 : Int).toNat))) + m4)))), (20, (iv a.1.1)), (21, (iv a.1.2))]) (fun a => OO (kT3).share 3 A2 D2 data1 :: bxl b8 [(.func (.func 80) [].toArray [].toArray)] 97 :: bxl b10 [(sc A11 q9 D11)] 29 :: W0) ?_ ?_)
 refine c_seq (c_region (lI R (lI R (lO (vGt R R) (l_nil (q_next ?_))))))
 rcases bif_ hr with ⟨hb94, hr⟩ | ⟨hb94, hr⟩
 refine c_true R hb94 (c_seq (c_region (lI R (lI R (lO (vSb R R) (lI R (l_nil (q_next (c_region (lI R (lI R (l_nil ?_))))))))))))
 exact qI (((w64 ((w64 ((w64 (((IntKind.wrap .u64 ((w64 (a3 + b5)))) / 2 ^ (1 : Int).toNat))) + m4)) - b5)), (w64 (((IntKind.wrap .u64 ((w64 (a3 + b5)))) / 2 ^ (1 : Int).toNat)))), ()) hr (fun w s => s)
 refine c_false R hb94 (c_seq (c_region (lI R (lI R (l_nil (q_next (c_region (lI R (lI R (l_nil ?_))))))))))
 exact qI ((a3, m4), ()) hr (fun w s => s)
 rintro ⟨⟨start95, r96⟩, _⟩ σ1 hr
 replace hr : Z1_J13 data1 a3 m4 b5 q9 rf start95 r96 = some r := hr
 unfold Z1_J13 at hr
 refine c_seq (c_region (lI R (lO (vSb R R) (lI R (l_nil (q_next (c_seq (c_cut (A := (Int) × (Unit)) (fun a => Z1_J14 data1 a3 m4 b5 q9 rf a.1 = some r) (fun a => [(0, (sc A2 data1 D2)), (1, (iv a3)), (2, (iv m4)), (3, (iv b5)), (4, (.func (.func 90) [].toArray [(pt b8 0), (pt b10 0)].toArray)), (18, (iv (w64 (((IntKind.wrap .u64 ((w64 (a3 + b5)))) / 2 ^ (1 : Int).toNat))))), (19, (iv (w64 ((w64 (((IntKind.wrap .u64 ((w64 (a3 + b5)))) / 2 ^ (1 : Int).toNat))) + m4)))), (20, (iv a.1))]) (fun a => OO (kT3).share 3 A2 D2 data1 :: bxl b8 [(.func (.func 80) [].toArray [].toArray)] 97 :: bxl b10 [(sc A11 q9 D11)] 29 :: W0) ?_ ?_))))))))
 refine c_block ?_
 obtain ⟨e5, hl5, hk5⟩ := bd hr
 refine c_loop (A := Unit) hl5 (fun s a => [(0, (sc A2 data1 D2)), (1, (iv a3)), (2, (iv m4)), (3, (iv b5)), (4, (.func (.func 90) [].toArray [(pt b8 0), (pt b10 0)].toArray)), (18, (iv (w64 (((IntKind.wrap .u64 ((w64 (a3 + b5)))) / 2 ^ (1 : Int).toNat))))), (19, (iv (w64 ((w64 (((IntKind.wrap .u64 ((w64 (a3 + b5)))) / 2 ^ (1 : Int).toNat))) + m4)))), (20, (iv s.1)), (21, (iv s.2)), (22, (iv (w64 ((w64 ((w64 (((IntKind.wrap .u64 ((w64 (a3 + b5)))) / 2 ^ (1 : Int).toNat))) + m4)) - (1 : Int)))))]) (fun s a => OO (kT3).share 3 A2 D2 data1 :: bxl b8 [(.func (.func 80) [].toArray [].toArray)] 97 :: bxl b10 [(sc A11 q9 D11)] 29 :: W0) () (aS R) (fun w s => s) ?_
 rintro ⟨start105, r106⟩ _ σ1 out5 hr he5
 replace hr : Z1_L5 data1 a3 m4 b5 q9 start105 r106 = some out5 := hr
 unfold Z1_L5 at hr
 refine c_seq (c_seq (c_region (lI R (lI R (lO (vLt R R) (l_nil (q_next ?_)))))))
 rcases bif_ hr with ⟨hb107, hr⟩ | ⟨hb107, hr⟩
 refine c_true R hb107 (c_skip (q_next (c_block (c_seq (c_region (lI R (lI R (lO (vAd R R) (lO (vz (.int .u64 (IntKind.wrap .u64 ((w64 (start105 + r106))))) (v_conv un3 un92 R)) (lO (vz (.int .u64 ((IntKind.wrap .u64 ((w64 (start105 + r106)))) / 2 ^ (1 : Int).toNat)) (v_shr R R (by decide) (by decide))) (lO (vz (iv (w64 (((IntKind.wrap .u64 ((w64 (start105 + r106)))) / 2 ^ (1 : Int).toNat)))) (v_conv un92 un3 R)) (lI R (l_nil (q_next (c_seq ?_)))))))))))))))
 obtain ⟨hg108, hr⟩ := gd hr
 obtain ⟨hg111, hr⟩ := gd hr
 obtain ⟨r112, hx113, hr⟩ := bd hr
 refine c_some 0 sees_sh (show 0 < data1.length by have := hg108; omega) (fun g109 o110 ha => ?_)
 subst ha
 refine cdr 14 [] mixo (fun ht hn => (dR 0 R (vp (.func (.func 90) [].toArray [(pt b8 0), (pt b10 0)].toArray) R) (dR 1 R (vS R) (dR 2 R (vI R) (dR 3 R (vI R) (dR 4 R (vSb R R) (dR 5 R (vIa sl29 sz3 R R hg108) (dR 6 R (vLi 0 ag3 sees_sh R hg108) (dR 7 R (vS R) (dR 8 R (vI R) (dR 9 R (vIa sl29 sz3 R R hg111) (dR 10 R (vLi 0 ag3 sees_sh R hg111) (d1 11 R (lM (bxl _ _ _ :: RR kT3 A11 D11 q9 :: bxl _ _ _ :: OO (kT3).share 3 (ad g109 o110) D2 data1 :: W0) (fun w s => ((s.d 3 R).e 4 [2, 0, 3, 1])) ?_))))))))))))))
 refine l_callvn (fs := []) (cs := [(pt b8 0), (pt b10 0)]) 3 R R cb90 R R (Z0n_ok hx113) R ?_
 rintro _
 refine lN (_ :: _ :: _ :: W0) ?_
 refine l_nil (q_draw (fun w s => (s.e 3 [2, 0, 1])) (dR 12 R (vLt R R) (hS := (fun w s => (s.e 3 [2, 0, 1]))) (dR 13 R (vNo R) (hS := (fun w s => (s.e 3 [2, 0, 1]))) (dD (q_next ?_)))))
 rcases bif_ hr with ⟨hb114, hr⟩ | ⟨hb114, hr⟩
 refine c_true R hb114 (c_region (lI R (lO (vAd R R) (lI R (l_nil (q_blockn ?_))))))
 obtain rfl := so hr
 exact qA () (fun w s => (s.e 3 [2, 0, 1]))
 refine c_false R hb114 (c_region (lI R (lI R (l_nil (q_blockn ?_)))))
 obtain rfl := so hr
 exact qA () (fun w s => (s.e 3 [2, 0, 1]))
 refine c_false R hb107 (c_exit (q_exit ?_))
 obtain rfl := so hr
 obtain rfl := he5 _ R
 have hr := hk5
 refine q_exit (q_block ?_)
 exact qI (start105, ()) hr (fun w s => s)
 rintro ⟨start117, _⟩ σ1 hr
 replace hr : Z1_J14 data1 a3 m4 b5 q9 rf start117 = some r := hr
 unfold Z1_J14 at hr
 refine c_seq (c_region (lI R (lI R (lO (vSb R R) (lI R (l_nil (q_next (c_seq (c_cut (A := ((List Int)) × (Unit)) (fun a => Z1_J15 a3 m4 b5 q9 rf start117 a.1 = some r) (fun a => [(0, (sc A2 data1 D2)), (1, (iv a3)), (3, (iv b5)), (4, (.func (.func 90) [].toArray [(pt b8 0), (pt b10 0)].toArray)), (18, (iv (w64 (((IntKind.wrap .u64 ((w64 (a3 + b5)))) / 2 ^ (1 : Int).toNat))))), (20, (iv start117)), (24, (iv (w64 ((w64 ((w64 (((IntKind.wrap .u64 ((w64 (a3 + b5)))) / 2 ^ (1 : Int).toNat))) + m4)) - start117))))]) (fun a => ow (kT3).share 3 (.slice A2 data1.length D2) a.1 :: bxl b8 [(.func (.func 80) [].toArray [].toArray)] 97 :: bxl b10 [(sc A11 q9 D11)] 29 :: W0) ?_ ?_)))))))))
 refine c_seq (cQ [(0, (sc A2 data1 D2)), (1, (iv a3)), (2, (iv m4)), (3, (iv b5)), (4, (.func (.func 90) [].toArray [(pt b8 0), (pt b10 0)].toArray)), (18, (iv (w64 (((IntKind.wrap .u64 ((w64 (a3 + b5)))) / 2 ^ (1 : Int).toNat))))), (20, (iv start117)), (24, (iv (w64 ((w64 ((w64 (((IntKind.wrap .u64 ((w64 (a3 + b5)))) / 2 ^ (1 : Int).toNat))) + m4)) - start117)))), (185, (.bool ((decide (start117 < m4)) && (decide (m4 < (w64 ((w64 ((w64 (((IntKind.wrap .u64 ((w64 (a3 + b5)))) / 2 ^ (1 : Int).toNat))) + m4)) - start117)))))))] (OO (kT3).share 3 A2 D2 data1 :: bxl b8 [(.func (.func 80) [].toArray [].toArray)] 97 :: bxl b10 [(sc A11 q9 D11)] 29 :: W0) ?_ ?_)
 refine c_region (lI R (lI R (lO (vLt R R) (lB R ?_))))
 rcases bo (decide (start117 < m4)) with hc118 | hc118
 refine lW (wnT hc118) (vI R) (lW (wnT hc118) (vI R) (lW (wnT hc118) (vLt R R) (lO (pAT R hc118 R) (l_nil ?_))))
 exact qJ (fun w s => s)
 refine lf (wfF hc118) (lf (wfF hc118) (lf (wfF hc118) (lO (pAF (decide (m4 < (w64 ((w64 ((w64 (((IntKind.wrap .u64 ((w64 (a3 + b5)))) / 2 ^ (1 : Int).toNat))) + m4)) - start117)))) R hc118) (l_nil ?_))))
 exact qJ (fun w s => s)
 rintro σ1
 refine q_next ?_
 rcases bif_ hr with ⟨hb119, hr⟩ | ⟨hb119, hr⟩
 refine c_true R hb119 ?_
 obtain ⟨r120, hx121, hr⟩ := bd hr
 refine c_region (lS R (lI R (lI R (lI R (lO (vp (.func (.func 90) [].toArray [(pt b8 0), (pt b10 0)].toArray) R) (lM (OO (kT3).share 3 A2 D2 data1 :: bxl _ _ _ :: RR kT3 A11 D11 q9 :: bxl _ _ _ :: W0) (fun w s => ((s.d 3 R).e 4 [1, 2, 0, 3])) ?_))))))
 refine lC 4 cb110 R (Z0p_ok hx121) R ?_
 rintro _
 refine lN (ow (kT3).share 3 (.slice A2 data1.length D2) r120 :: _ :: _ :: W0) ?_
 refine l_nil ?_
 exact qI (r120, ()) hr (fun w s => s)
 refine c_false R hb119 (c_skip ?_)
 exact qI (data1, ()) hr (fun w s => s)
 rintro ⟨data122, _⟩ σ1 hr
 replace hr : Z1_J15 a3 m4 b5 q9 rf start117 data122 = some r := hr
 unfold Z1_J15 at hr
 refine c_seq (c_cut (A := ((List Int)) × (Unit)) (fun a => Z1_J16 a3 m4 b5 q9 rf start117 a.1 = some r) (fun a => [(0, (sc A2 data1 D2)), (3, (iv b5)), (4, (.func (.func 90) [].toArray [(pt b8 0), (pt b10 0)].toArray)), (18, (iv (w64 (((IntKind.wrap .u64 ((w64 (a3 + b5)))) / 2 ^ (1 : Int).toNat))))), (24, (iv (w64 ((w64 ((w64 (((IntKind.wrap .u64 ((w64 (a3 + b5)))) / 2 ^ (1 : Int).toNat))) + m4)) - start117))))]) (fun a => ow (kT3).share 3 (.slice A2 data1.length D2) a.1 :: bxl b8 [(.func (.func 80) [].toArray [].toArray)] 97 :: bxl b10 [(sc A11 q9 D11)] 29 :: W0) ?_ ?_)
 refine c_seq (cQ [(0, (sc A2 data1 D2)), (1, (iv a3)), (3, (iv b5)), (4, (.func (.func 90) [].toArray [(pt b8 0), (pt b10 0)].toArray)), (18, (iv (w64 (((IntKind.wrap .u64 ((w64 (a3 + b5)))) / 2 ^ (1 : Int).toNat))))), (20, (iv start117)), (24, (iv (w64 ((w64 ((w64 (((IntKind.wrap .u64 ((w64 (a3 + b5)))) / 2 ^ (1 : Int).toNat))) + m4)) - start117)))), (199, (.bool ((decide (a3 < start117)) && (decide (start117 < (w64 (((IntKind.wrap .u64 ((w64 (a3 + b5)))) / 2 ^ (1 : Int).toNat))))))))] (ow (kT3).share 3 (.slice A2 data1.length D2) data122 :: bxl b8 [(.func (.func 80) [].toArray [].toArray)] 97 :: bxl b10 [(sc A11 q9 D11)] 29 :: W0) ?_ ?_)
 refine c_region (lI R (lI R (lO (vLt R R) (lB R ?_))))
 rcases bo (decide (a3 < start117)) with hc123 | hc123
 refine lW (wnT hc123) (vI R) (lW (wnT hc123) (vI R) (lW (wnT hc123) (vLt R R) (lO (pAT R hc123 R) (l_nil ?_))))
 exact qJ (fun w s => s)
 refine lf (wfF hc123) (lf (wfF hc123) (lf (wfF hc123) (lO (pAF (decide (start117 < (w64 (((IntKind.wrap .u64 ((w64 (a3 + b5)))) / 2 ^ (1 : Int).toNat))))) R hc123) (l_nil ?_))))
 exact qJ (fun w s => s)
 rintro σ1
 refine q_next ?_
 rcases bif_ hr with ⟨hb124, hr⟩ | ⟨hb124, hr⟩
 refine c_true R hb124 ?_
 obtain ⟨r125, hx126, hr⟩ := bd hr
 refine c_region (lS R (lI R (lI R (lI R (lO (vp (.func (.func 90) [].toArray [(pt b8 0), (pt b10 0)].toArray) R) (lM (ow (kT3).share 3 (.slice A2 data1.length D2) data122 :: bxl _ _ _ :: RR kT3 A11 D11 q9 :: bxl _ _ _ :: W0) (fun w s => ((s.d 3 R).e 4 [1, 2, 0, 3])) ?_))))))
 refine lC 4 cb108 R (hrf hx126) R ?_
 rintro _
 refine lN (ow (kT3).share 3 (.slice A2 data1.length D2) r125 :: _ :: _ :: W0) ?_
 refine l_nil ?_
 exact qI (r125, ()) hr (fun w s => s)
 refine c_false R hb124 (c_skip ?_)
 exact qI (data122, ()) hr (fun w s => s)
 rintro ⟨data127, _⟩ σ1 hr
 replace hr : Z1_J16 a3 m4 b5 q9 rf start117 data127 = some r := hr
 unfold Z1_J16 at hr
 refine c_seq (cQ [(0, (sc A2 data1 D2)), (3, (iv b5)), (4, (.func (.func 90) [].toArray [(pt b8 0), (pt b10 0)].toArray)), (18, (iv (w64 (((IntKind.wrap .u64 ((w64 (a3 + b5)))) / 2 ^ (1 : Int).toNat))))), (24, (iv (w64 ((w64 ((w64 (((IntKind.wrap .u64 ((w64 (a3 + b5)))) / 2 ^ (1 : Int).toNat))) + m4)) - start117)))), (213, (.bool ((decide ((w64 (((IntKind.wrap .u64 ((w64 (a3 + b5)))) / 2 ^ (1 : Int).toNat))) < (w64 ((w64 ((w64 (((IntKind.wrap .u64 ((w64 (a3 + b5)))) / 2 ^ (1 : Int).toNat))) + m4)) - start117)))) && (decide ((w64 ((w64 ((w64 (((IntKind.wrap .u64 ((w64 (a3 + b5)))) / 2 ^ (1 : Int).toNat))) + m4)) - start117)) < b5)))))] (ow (kT3).share 3 (.slice A2 data1.length D2) data127 :: bxl b8 [(.func (.func 80) [].toArray [].toArray)] 97 :: bxl b10 [(sc A11 q9 D11)] 29 :: W0) ?_ ?_)
 refine c_region (lI R (lI R (lO (vLt R R) (lB R ?_))))
 rcases bo (decide ((w64 (((IntKind.wrap .u64 ((w64 (a3 + b5)))) / 2 ^ (1 : Int).toNat))) < (w64 ((w64 ((w64 (((IntKind.wrap .u64 ((w64 (a3 + b5)))) / 2 ^ (1 : Int).toNat))) + m4)) - start117)))) with hc128 | hc128
 refine lW (wnT hc128) (vI R) (lW (wnT hc128) (vI R) (lW (wnT hc128) (vLt R R) (lO (pAT R hc128 R) (l_nil ?_))))
 exact qJ (fun w s => s)
 refine lf (wfF hc128) (lf (wfF hc128) (lf (wfF hc128) (lO (pAF (decide ((w64 ((w64 ((w64 (((IntKind.wrap .u64 ((w64 (a3 + b5)))) / 2 ^ (1 : Int).toNat))) + m4)) - start117)) < b5)) R hc128) (l_nil ?_))))
 exact qJ (fun w s => s)
 rintro σ1
 refine q_next ?_
 rcases bif_ hr with ⟨hb129, hr⟩ | ⟨hb129, hr⟩
 refine c_true R hb129 ?_
 obtain ⟨r130, hx131, hr⟩ := bd hr
 refine c_region (lS R (lI R (lI R (lI R (lO (vp (.func (.func 90) [].toArray [(pt b8 0), (pt b10 0)].toArray) R) (lM (ow (kT3).share 3 (.slice A2 data1.length D2) data127 :: bxl _ _ _ :: RR kT3 A11 D11 q9 :: bxl _ _ _ :: W0) (fun w s => ((s.d 3 R).e 4 [1, 2, 0, 3])) ?_))))))
 refine lC 4 cb108 R (hrf hx131) R ?_
 rintro _
 refine lN (ow (kT3).share 3 (.slice A2 data1.length D2) r130 :: _ :: _ :: W0) ?_
 refine l_nil ?_
 obtain rfl := so hr
 exact q_fin (vs := []) (.inr R) () R trivial R (fun w s => (s.f 4 [0, 3]))
 refine c_false R hb129 (c_skip ?_)
 obtain rfl := so hr
 exact q_fin (vs := []) (.inr R) () R trivial R (fun w s => (s.f 4 [0, 3]))
theorem Z1_R_ok (n : Nat) : ∀ {data1 : (List Int)} {a3 : Int} {m4 : Int} {b5 : Int} {q9 : (List Int)} {b8 : Nat} {b10 : Nat} {A2 A11 : Option Addr} {N2 D2 N11 D11 : Nat} {r : (List Int)}, Z1_R n data1 a3 m4 b5 q9 = some r → FnOk Try.prog 108 [(.slice A2 N2 D2), (iv a3), (iv m4), (iv b5), (.func (.func 90) [].toArray [(pt b8 0), (pt b10 0)].toArray)] [ow (kT3).share 3 (.slice A2 N2 D2) data1, bxl b8 [(.func (.func 80) [].toArray [].toArray)] 97, rds kT3 (.slice A11 N11 D11) q9, bxl b10 [(.slice A11 N11 D11)] 29] (fun (h : Unit) => ((.tuple [].toArray), [ow (kT3).share 3 (.slice A2 N2 D2) r, bxl b8 [(.func (.func 80) [].toArray [].toArray)] 97, bxl b10 [(.slice A11 N11 D11)] 29])) := by
 induction n with
 | zero => intros; rename_i h; cases h
 | succ n ih => intros; rename_i h; exact Z1_S_ok ih h
theorem Z1_ok {data1 : (List Int)} {a3 : Int} {m4 : Int} {b5 : Int} {q9 : (List Int)} {b8 : Nat} {b10 : Nat} {A2 A11 : Option Addr} {N2 D2 N11 D11 : Nat} {r : (List Int)} (hr : Z1 data1 a3 m4 b5 q9 = some r) : FnOk Try.prog 108 [(.slice A2 N2 D2), (iv a3), (iv m4), (iv b5), (.func (.func 90) [].toArray [(pt b8 0), (pt b10 0)].toArray)] [ow (kT3).share 3 (.slice A2 N2 D2) data1, bxl b8 [(.func (.func 80) [].toArray [].toArray)] 97, rds kT3 (.slice A11 N11 D11) q9, bxl b10 [(.slice A11 N11 D11)] 29] (fun (h : Unit) => ((.tuple [].toArray), [ow (kT3).share 3 (.slice A2 N2 D2) r, bxl b8 [(.func (.func 80) [].toArray [].toArray)] 97, bxl b10 [(.slice A11 N11 D11)] 29])) := Z1_R_ok recFuel hr
theorem Zc_ok  {data1 : (List Int)} {n3 : Int} {q7 : (List Int)} {b6 : Nat} {b8 : Nat} {r : (List Int)} (hr : Zc data1 n3 q7 = some r) :
 FnOk Try.prog 101 [(.slice A2 N2 D2), (iv n3), (.func (.func 90) [].toArray [(pt b6 0), (pt b8 0)].toArray)] [ow (kT3).share 3 (.slice A2 N2 D2) data1, bxl b6 [(.func (.func 80) [].toArray [].toArray)] 97, rds kT3 (.slice A9 N9 D9) q7, bxl b8 [(.slice A9 N9 D9)] 29] (fun (h : Unit) => ((.tuple [].toArray), [ow (kT3).share 3 (.slice A2 N2 D2) r, bxl b6 [(.func (.func 80) [].toArray [].toArray)] 97, bxl b8 [(.slice A9 N9 D9)] 29])) := by
 unfold Zc at hr
 refine fn_ok Try.func101 R 63 R R fun C V => ?_
 refine cM (ow _ _ _ _ :: bxl _ _ _ :: bxl _ _ _ :: rds _ _ _ :: V) (fun w s => (s.e 4 [0, 1, 3, 2])) ?_
 refine cL 0 sees_sh ?_
 rintro rfl
 refine cL 3 sees_rd ?_
 rintro rfl
 let W0 : List HP := RR kT3 A9 D9 q7 :: V
 refine cN (_ :: _ :: bxl b8 [(sc A9 q7 D9)] 29 :: W0) ?_
 refine c_seq (c_region (lI R (l_nil (q_next (c_seq (c_region (lI R (lI R (lI R (l_nil (q_next (c_seq (c_cut (A := ((List Int) × Int) × (Unit)) (fun a => Zc_J1 n3 q7 a.1.1 a.1.2 = some r) (fun a => [(0, (sc A2 data1 D2)), (1, (iv n3)), (2, (.func (.func 90) [].toArray [(pt b6 0), (pt b8 0)].toArray)), (6, (iv 20)), (7, (iv a.1.2))]) (fun a => ow (kT3).share 3 (.slice A2 data1.length D2) a.1.1 :: bxl b6 [(.func (.func 80) [].toArray [].toArray)] 97 :: bxl b8 [(sc A9 q7 D9)] 29 :: W0) ?_ ?_)))))))))))))
 refine c_block ?_
 obtain ⟨e1, hl1, hk1⟩ := bd hr
 refine c_loop (A := Unit) hl1 (fun s a => [(0, (sc A2 data1 D2)), (1, (iv n3)), (2, (.func (.func 90) [].toArray [(pt b6 0), (pt b8 0)].toArray)), (6, (iv 20)), (7, (iv s.2.1)), (8, (iv s.2.2))]) (fun s a => ow (kT3).share 3 (.slice A2 data1.length D2) s.1 :: bxl b6 [(.func (.func 80) [].toArray [].toArray)] 97 :: bxl b8 [(sc A9 q7 D9)] 29 :: W0) () (aS R) (fun w s => s) ?_
 rintro ⟨data13, a14, b15⟩ _ σ1 out1 hr he1
 replace hr : Zc_L1 n3 q7 data13 a14 b15 = some out1 := hr
 unfold Zc_L1 at hr
 refine c_seq (c_seq (c_region (lI R (lI R (lO (vLe R R) (l_nil (q_next ?_)))))))
 rcases bif_ hr with ⟨hb16, hr⟩ | ⟨hb16, hr⟩
 refine c_true R hb16 (c_skip (q_next (c_block (c_seq ?_))))
 obtain ⟨r17, hx18, hr⟩ := bd hr
 refine c_region (lS R (lI R (lI R (lO (vp (.func (.func 90) [].toArray [(pt b6 0), (pt b8 0)].toArray) R) (lM (ow (kT3).share 3 (.slice A2 data1.length D2) data13 :: bxl _ _ _ :: RR kT3 A9 D9 q7 :: bxl _ _ _ :: W0) (fun w s => ((s.d 3 R).e 4 [1, 2, 0, 3])) ?_)))))
 refine lC 4 cb107 R (Z0a_ok hx18) R ?_
 rintro _
 refine lN (ow (kT3).share 3 (.slice A2 data1.length D2) r17 :: _ :: _ :: W0) ?_
 refine l_nil (q_next (c_seq (c_region (lI R (lI R (l_nil (q_next (c_region (lI R (lI R (lO (vAd R R) (lI R (l_nil (q_blockn ?_))))))))))))))
 obtain rfl := so hr
 exact qA () (fun w s => s)
 refine c_false R hb16 (c_exit (q_exit ?_))
 obtain rfl := so hr
 obtain rfl := he1 _ R
 have hr := hk1
 refine q_exit (q_block ?_)
 exact qI ((data13, a14), ()) hr (fun w s => s)
 rintro ⟨⟨data22, a23⟩, _⟩ σ1 hr
 replace hr : Zc_J1 n3 q7 data22 a23 = some r := hr
 unfold Zc_J1 at hr
 refine c_seq ?_
 obtain ⟨r24, hx25, hr⟩ := bd hr
 refine c_region (lS R (lI R (lI R (lO (vp (.func (.func 90) [].toArray [(pt b6 0), (pt b8 0)].toArray) R) (lM (ow (kT3).share 3 (.slice A2 data1.length D2) data22 :: bxl _ _ _ :: RR kT3 A9 D9 q7 :: bxl _ _ _ :: W0) (fun w s => ((s.d 3 R).e 4 [1, 2, 0, 3])) ?_)))))
 refine lC 4 cb107 R (Z0a_ok hx25) R ?_
 rintro _
 refine lN (ow (kT3).share 3 (.slice A2 data1.length D2) r24 :: _ :: _ :: W0) ?_
 refine l_nil (q_next (c_block ?_))
 obtain ⟨e2, hl2, hk2⟩ := bd hr
 refine c_loop (A := Unit) hl2 (fun s a => [(0, (sc A2 data1 D2)), (1, (iv n3)), (2, (.func (.func 90) [].toArray [(pt b6 0), (pt b8 0)].toArray)), (6, (iv s.2))]) (fun s a => ow (kT3).share 3 (.slice A2 data1.length D2) s.1 :: bxl b6 [(.func (.func 80) [].toArray [].toArray)] 97 :: bxl b8 [(sc A9 q7 D9)] 29 :: W0) () (aS R) (fun w s => s) ?_
 rintro ⟨data45, blockSize46⟩ _ σ1 out2 hr he2
 replace hr : Zc_L2 n3 q7 data45 blockSize46 = some out2 := hr
 unfold Zc_L2 at hr
 refine c_seq (c_seq (c_region (lI R (lI R (lO (vLt R R) (l_nil (q_next ?_)))))))
 rcases bif_ hr with ⟨hb47, hr⟩ | ⟨hb47, hr⟩
 refine c_true R hb47 (c_skip (q_next (c_block (c_seq (c_region (lI R (lO (vMu R R) (lI R (lI R (l_nil (q_next (c_seq (c_cut (A := ((List Int) × Int) × (Unit)) (fun a => Zc_J4 n3 q7 blockSize46 a.1.1 a.1.2 = some out2) (fun a => [(0, (sc A2 data1 D2)), (1, (iv n3)), (2, (.func (.func 90) [].toArray [(pt b6 0), (pt b8 0)].toArray)), (6, (iv blockSize46)), (7, (iv a.1.2))]) (fun a => ow (kT3).share 3 (.slice A2 data1.length D2) a.1.1 :: bxl b6 [(.func (.func 80) [].toArray [].toArray)] 97 :: bxl b8 [(sc A9 q7 D9)] 29 :: W0) ?_ ?_)))))))))))))
 refine c_block ?_
 obtain ⟨e3, hl3, hk3⟩ := bd hr
 refine c_loop (A := Unit) hl3 (fun s a => [(0, (sc A2 data1 D2)), (1, (iv n3)), (2, (.func (.func 90) [].toArray [(pt b6 0), (pt b8 0)].toArray)), (6, (iv blockSize46)), (7, (iv s.2.1)), (8, (iv s.2.2))]) (fun s a => ow (kT3).share 3 (.slice A2 data1.length D2) s.1 :: bxl b6 [(.func (.func 80) [].toArray [].toArray)] 97 :: bxl b8 [(sc A9 q7 D9)] 29 :: W0) () (aS R) (fun w s => s) ?_
 rintro ⟨data51, a52, b53⟩ _ σ1 out3 hr he3
 replace hr : Zc_L3 n3 q7 blockSize46 data51 a52 b53 = some out3 := hr
 unfold Zc_L3 at hr
 refine c_seq (c_seq (c_region (lI R (lI R (lO (vLe R R) (l_nil (q_next ?_)))))))
 rcases bif_ hr with ⟨hb54, hr⟩ | ⟨hb54, hr⟩
 refine c_true R hb54 (c_skip (q_next (c_block (c_seq ?_))))
 obtain ⟨r55, hx56, hr⟩ := bd hr
 refine c_region (lS R (lI R (lI R (lI R (lO (vAd R R) (lI R (lO (vp (.func (.func 90) [].toArray [(pt b6 0), (pt b8 0)].toArray) R) (lM (ow (kT3).share 3 (.slice A2 data1.length D2) data51 :: bxl _ _ _ :: RR kT3 A9 D9 q7 :: bxl _ _ _ :: W0) (fun w s => ((s.d 3 R).e 4 [1, 2, 0, 3])) ?_))))))))
 refine lC 4 cb108 R (Z1_ok hx56) R ?_
 rintro _
 refine lN (ow (kT3).share 3 (.slice A2 data1.length D2) r55 :: _ :: _ :: W0) ?_
 refine l_nil (q_next (c_seq (c_region (lI R (lI R (l_nil (q_next (c_region (lI R (lI R (lO (vMu R R) (lO (vAd R R) (lI R (l_nil (q_blockn ?_)))))))))))))))
 obtain rfl := so hr
 exact qA () (fun w s => s)
 refine c_false R hb54 (c_exit (q_exit ?_))
 obtain rfl := so hr
 obtain rfl := he3 _ R
 have hr := hk3
 refine q_exit (q_block ?_)
 exact qI ((data51, a52), ()) hr (fun w s => s)
 rintro ⟨⟨data60, a61⟩, _⟩ σ1 hr
 replace hr : Zc_J4 n3 q7 blockSize46 data60 a61 = some out2 := hr
 unfold Zc_J4 at hr
 refine c_seq (c_cut (A := ((List Int)) × (Unit)) (fun a => Zc_J5 blockSize46 a.1 = some out2) (fun a => [(0, (sc A2 data1 D2)), (1, (iv n3)), (2, (.func (.func 90) [].toArray [(pt b6 0), (pt b8 0)].toArray)), (6, (iv blockSize46))]) (fun a => ow (kT3).share 3 (.slice A2 data1.length D2) a.1 :: bxl b6 [(.func (.func 80) [].toArray [].toArray)] 97 :: bxl b8 [(sc A9 q7 D9)] 29 :: W0) ?_ ?_)
 refine c_seq (c_region (lI R (lI R (lO (vAd R R) (lI R (l_nil (q_next (c_seq (c_region (lI R (lI R (lO (vLt R R) (l_nil (q_next ?_))))))))))))))
 rcases bif_ hr with ⟨hb62, hr⟩ | ⟨hb62, hr⟩
 refine c_true R hb62 ?_
 obtain ⟨r63, hx64, hr⟩ := bd hr
 refine c_region (lS R (lI R (lI R (lI R (lO (vp (.func (.func 90) [].toArray [(pt b6 0), (pt b8 0)].toArray) R) (lM (ow (kT3).share 3 (.slice A2 data1.length D2) data60 :: bxl _ _ _ :: RR kT3 A9 D9 q7 :: bxl _ _ _ :: W0) (fun w s => ((s.d 3 R).e 4 [1, 2, 0, 3])) ?_))))))
 refine lC 4 cb108 R (Z1_ok hx64) R ?_
 rintro _
 refine lN (ow (kT3).share 3 (.slice A2 data1.length D2) r63 :: _ :: _ :: W0) ?_
 refine l_nil ?_
 exact qI (r63, ()) hr (fun w s => s)
 refine c_false R hb62 (c_skip ?_)
 exact qI (data60, ()) hr (fun w s => s)
 rintro ⟨data65, _⟩ σ1 hr
 replace hr : Zc_J5 blockSize46 data65 = some out2 := hr
 unfold Zc_J5 at hr
 refine c_region (lI R (lO (vMu R R) (lI R (l_nil (q_blockn ?_)))))
 obtain rfl := so hr
 exact qA () (fun w s => s)
 refine c_false R hb47 (c_exit (q_exit ?_))
 obtain rfl := so hr
 obtain rfl := he2 _ R
 have hr := hk2
 refine q_exit (q_block ?_)
 obtain rfl := so hr
 exact q_fin (vs := []) (.inr R) () R trivial R (fun w s => (s.f 4 [0, 3]))
theorem Z1c_ok  {p1 : (List Int)} {q6 : (List Int)} {b5 : Nat} {b7 : Nat} {r : (List Int)} (hr : Z1c p1 q6 = some r) :
 FnOk Try.prog 89 [(.slice A2 N2 D2), (.func (.func 90) [].toArray [(pt b5 0), (pt b7 0)].toArray)] [ow (kT3).share 3 (.slice A2 N2 D2) p1, bxl b5 [(.func (.func 80) [].toArray [].toArray)] 97, rds kT3 (.slice A8 N8 D8) q6, bxl b7 [(.slice A8 N8 D8)] 29] (fun (h : Unit) => ((.tuple [].toArray), [ow (kT3).share 3 (.slice A2 N2 D2) r, bxl b5 [(.func (.func 80) [].toArray [].toArray)] 97, bxl b7 [(.slice A8 N8 D8)] 29])) := by
 unfold Z1c at hr
 refine fn_ok Try.func89 R 9 R R fun C V => ?_
 refine cM (ow _ _ _ _ :: bxl _ _ _ :: bxl _ _ _ :: rds _ _ _ :: V) (fun w s => (s.e 4 [0, 1, 3, 2])) ?_
 refine cL 0 sees_sh ?_
 rintro rfl
 refine cL 3 sees_rd ?_
 rintro rfl
 let W0 : List HP := RR kT3 A8 D8 q6 :: V
 refine cN (_ :: _ :: bxl b7 [(sc A8 q6 D8)] 29 :: W0) ?_
 obtain ⟨r9, hx10, hr⟩ := bd hr
 refine c_region (lS R (lS R (lO (v_len sl29 R) (lO (vp (.func (.func 90) [].toArray [(pt b5 0), (pt b7 0)].toArray) R) (lM (ow _ _ _ _ :: bxl _ _ _ :: RR kT3 A8 D8 q6 :: bxl _ _ _ :: W0) (fun w s => ((s.d 3 R).e 4 [1, 2, 0, 3])) ?_)))))
 refine lC 4 cb101 R (Zc_ok hx10) R ?_
 rintro _
 refine lN (ow (kT3).share 3 (.slice A2 p1.length D2) r9 :: _ :: _ :: W0) ?_
 refine l_nil ?_
 let W1 : List HP := bxl b5 [(.func (.func 80) [].toArray [].toArray)] 97 :: bxl b7 [(sc A8 q6 D8)] 29 :: W0
 refine qN (_ :: W1) ?_
 obtain rfl := so hr
 exact q_fin (vs := []) (.inr R) () R trivial R (fun w s => (s.f 4 [0, 3]))
theorem Z02_ok  {list1 : (List Int)} {r : (List Int)} (hr : Z02 list1 = some r) :
 FnOk Try.prog 79 [(.slice A2 N2 D2), (.func (.func 80) [].toArray [].toArray)] [rds kT3 (.slice A2 N2 D2) list1] (fun (h : HH) => ((.slice h.1 h.2.1 h.2.2), [ow (kT3).share 3 (.slice h.1 h.2.1 h.2.2) r])) := by
 unfold Z02 at hr
 refine fn_ok Try.func79 R 24 R R fun C V => ?_
 refine cN (_ :: V) ?_
 refine cL 0 sees_rd ?_
 rintro rfl
 let W0 : List HP := RR kT3 A2 D2 list1 :: V
 refine cN W0 ?_
 refine c_seq (c_region (l_box (cs := [(sc A2 list1 D2)]) R R R (fun b4 => (l_box (cs := [(.func (.func 80) [].toArray [].toArray)]) R R R (fun b5 => (lS R (l_nil (q_next (c_seq ?_)))))))))
 obtain ⟨hg6, hr⟩ := gd hr
 refine c_region (lO (vLd 1 ag29 R R R) (lO (v_len sl29 R) (l_make (K := kT3) (m := (list1.length : Int)) (z := (0 : Int)) R R sl29 sz3 by3 (Zr.zk zT3 zc3) (by decide) R R hg6.1 hg6.2.1 hg6.2.2 (fun A7 D7 => (lS R (l_nil (q_next (c_seq (c_cut (A := ((List Int)) × (Unit)) (fun a => Z02_J1 list1 a.1 = some r) (fun a => [(2, (pt b4 0)), (3, (pt b5 0)), (5, (sc A7 (List.replicate (list1.length : Int).toNat (0 : Int)) D7))]) (fun a => bxl b4 [(sc A2 list1 D2)] 29 :: bxl b5 [(.func (.func 80) [].toArray [].toArray)] 97 :: ow kT3 3 (.slice A7 (List.replicate (list1.length : Int).toNat (0 : Int)).length D7) a.1 :: W0) ?_ ?_)))))))))
 refine c_seq (c_region (lS R (lO (v_len sl29 R) (lI R (l_nil (q_next (c_block ?_)))))))
 obtain ⟨e1, hl1, hk1⟩ := bd hr
 refine c_loop (A := Unit) hl1 (fun s a => [(2, (pt b4 0)), (3, (pt b5 0)), (5, (sc A7 (List.replicate (list1.length : Int).toNat (0 : Int)) D7)), (11, (il (List.replicate (list1.length : Int).toNat (0 : Int)))), (12, (iv s.2))]) (fun s a => bxl b4 [(sc A2 list1 D2)] 29 :: bxl b5 [(.func (.func 80) [].toArray [].toArray)] 97 :: ow kT3 3 (.slice A7 (List.replicate (list1.length : Int).toNat (0 : Int)).length D7) s.1 :: W0) () (aS R) (fun w s => (s.e 3 [2, 1, 0])) ?_
 rintro ⟨x14, x15⟩ _ σ1 out1 hr he1
 replace hr : Z02_L1 list1 x14 x15 = some out1 := hr
 unfold Z02_L1 at hr
 refine c_seq (c_region (lO (vLt R R) (l_nil (q_next (c_seq ?_)))))
 rcases bif_ hr with ⟨hb16, hr⟩ | ⟨hb16, hr⟩
 refine c_true R hb16 (c_skip (q_next (c_seq (c_block (c_seq (c_region (lI R (lI R (l_nil (q_next ?_))))))))))
 obtain ⟨hg17, hr⟩ := gd hr
 refine c_region (lS R (lI R (lI R (t_some 2 sees_ow (show 0 < (List.replicate (list1.length : Int).toNat (0 : Int)).length by have := hg17; omega) (fun g18 o19 ha => ?_)))))
 subst ha
 refine lO (vIa sl29 sz3 R R hg17) (lM (ow kT3 3 (.slice (ad g18 o19) (List.replicate (list1.length : Int).toNat (0 : Int)).length D7) x14 :: bxl _ _ _ :: bxl _ _ _ :: W0) (fun w s => (s.e 3 [2, 0, 1])) ?_)
 refine l_stx (K := kT3) (x' := x15) 0 x15 R R sz3 R R hg17.1 hg17.2 ?_ ?_
 exact fun I h s => (mO3).put I h () x15 s
 refine lN (ow kT3 3 (.slice (ad g18 o19) (List.replicate (list1.length : Int).toNat (0 : Int)).length D7) (x14.set x15.toNat x15) :: _ :: _ :: W0) ?_
 refine l_nil (q_blockn (q_next (c_region (lO (vAd R R) (lI R (l_nil ?_))))))
 obtain rfl := so hr
 exact qA () (fun w s => (s.e 3 [1, 2, 0]))
 refine c_false R hb16 (c_exit (q_exit ?_))
 obtain rfl := so hr
 obtain rfl := he1 _ R
 have hr := hk1
 refine q_exit (q_block ?_)
 exact qI (x14, ()) hr (fun w s => s)
 rintro ⟨x22, _⟩ σ1 hr
 replace hr : Z02_J1 list1 x22 = some r := hr
 unfold Z02_J1 at hr
 refine c_seq ?_
 obtain ⟨r23, hx24, hr⟩ := bd hr
 refine c_region (lS R (lO (vp (.func (.func 90) [].toArray [(pt b5 0), (pt b4 0)].toArray) R) (lM (ow (kT3).share 3 (.slice A7 (List.replicate (list1.length : Int).toNat (0 : Int)).length D7) x22 :: bxl _ _ _ :: RR kT3 A2 D2 list1 :: bxl _ _ _ :: W0) (fun w s => (((s.wk 2 R).d 3 R).e 4 [1, 3, 0, 2])) ?_)))
 refine lC 4 cb89 R (Z1c_ok hx24) R ?_
 rintro _
 refine lN (ow (kT3).share 3 (.slice A7 (List.replicate (list1.length : Int).toNat (0 : Int)).length D7) r23 :: _ :: _ :: W0) ?_
 refine l_nil (q_next (c_seq (c_region (lS R (lS R (l_nil (q_next (c_ret ?_))))))))
 obtain rfl := so hr
 exact qF (A7, (List.replicate (list1.length : Int).toNat (0 : Int)).length, D7) (fun w s => (s.e 4 [0]))
end Go.Proofs.Ytkfgngcfcoplpaa
