import Derived.Test.YtkfgngcfcoplpaaGeW2
set_option linter.unusedVariables false
set_option maxRecDepth 20000
namespace Go.Proofs.Ytkfgngcfcoplpaa
open Go Go.Pg
variable {A2 : Option Addr} {D2 N2 : Nat}
theorem Z8_ok  {data1 : (List Row)} {a3 : Int} {b4 : Int} {pivot5 : Int} {r : Int × (List Row)} (hr : Z8 data1 a3 b4 pivot5 = some r) :
 FnOk Try.prog 97 [(.slice A2 N2 D2), (iv a3), (iv b4), (iv pivot5), (.func (.func 73) [].toArray [].toArray)] [ow (kT33).share 33 (.slice A2 N2 D2) data1] (fun (h : Unit) => ((iv r.1), [ow (kT33).share 33 (.slice A2 N2 D2) r.2])) := by
 unfold Z8 at hr
 refine fn_ok Try.func97 R 90 R R fun C V => ?_
 refine cN (_ :: V) ?_
 refine cL 0 sees_sh ?_
 rintro rfl
 refine c_seq (c_region (lI R (l_nil (q_next (c_seq ?_)))))
 obtain ⟨hg7, hr⟩ := gd hr
 obtain ⟨hg12, hr⟩ := gd hr
 refine cQ [(0, (sc A2 data1 D2)), (1, (iv a3)), (2, (iv b4)), (4, (.func (.func 73) [].toArray [].toArray))] (ow (kT33).share 33 (.slice A2 data1.length D2) ((data1.set a3.toNat (ix data1 pivot5)).set pivot5.toNat (ix data1 a3)) :: V) ?_ ?_
 refine c_some 0 sees_sh (show 0 < data1.length by have := hg7; omega) (fun g8 o9 ha => ?_)
 subst ha
 refine cdr 16 [0] mixo (fun ht hn => (dR 0 R (vS R) (hS := (sL [0])) (dR 1 R (vI R) (hS := (sL [0])) (dR 2 R (vS R) (hS := (sL [0])) (dR 3 R (vI R) (hS := (sL [0])) (dR 4 R (vS R) (hS := (sL [0])) (dR 5 R (vI R) (hS := (sL [0])) (dR 6 R (vIa sl24 sz33 R R hg7) (hS := (sL [0])) (dR 8 R (vS R) (hS := (sL [0])) (dR 9 R (vI R) (hS := (sL [0])) (dR 10 R (vIa sl24 sz33 R R hg12) (hS := (sL [0])) (d_all [7, 11] (by kernel_rfl) R ⟨?_, ?_, trivial⟩))))))))))))
 refine l_ldo (K := (kT33).share) 0 pivot5 R R ag33 sz33 dT33.own R R hg7.1 hg7.2 ?_
 rintro ⟨⟨A10, D10⟩, ⟨A11, D11⟩⟩
 refine lN (RR kT3 A10 D10 ((ix data1 pivot5).Key) :: RR kT3 A11 D11 ((ix data1 pivot5).Weights) :: OO (kT33).share 33 (ad g8 o9) D2 data1 :: V) ?_
 refine l_nil (q_draw (sL [2, 1, 0]) (d1 11 R (l_ldo (K := (kT33).share) 2 a3 R R ag33 sz33 dT33.own R R hg12.1 hg12.2 ?_)))
 rintro ⟨⟨A13, D13⟩, ⟨A14, D14⟩⟩
 refine lN (RR kT3 A13 D13 ((ix data1 a3).Key) :: RR kT3 A14 D14 ((ix data1 a3).Weights) :: _ :: _ :: _ :: V) ?_
 refine l_nil (q_draw (sL [4, 3, 2, 1, 0]) (dR 12 R (vIa sl24 sz33 R R hg12) (hS := (sL [4, 3, 2, 1, 0])) (d1 13 R (lM (ow _ _ _ _ :: rds _ _ _ :: rds _ _ _ :: rds _ _ _ :: rds _ _ _ :: rds _ _ _ :: rds _ _ _ :: V) (fun w s => (((s.d 2 R).d 4 R).e 7 [6, 1, 0, 2, 3, 4, 5])) ?_))))
 refine l_stx (K := (kT33).share) (x' := (ix data1 pivot5)) 2 a3 R R sz33 R R hg12.1 hg12.2 ?_ ?_
 exact fun I h s => (mS33).put I h ((sc A10 ((ix data1 pivot5).Key) D10), (sc A11 ((ix data1 pivot5).Weights) D11)) (ix data1 pivot5) s
 refine lN (ow (kT33).share 33 (.slice (ad g8 o9) data1.length D2) (data1.set a3.toNat (ix data1 pivot5)) :: _ :: _ :: _ :: _ :: V) ?_
 refine l_nil (q_draw (sL [4, 3, 2, 1, 0]) (dR 14 R (vIa sl24 sz33 R R hg7) (hS := (sL [4, 3, 2, 1, 0])) (d1 15 R (lM (ow _ _ _ _ :: rds _ _ _ :: rds _ _ _ :: rds _ _ _ :: rds _ _ _ :: rds _ _ _ :: rds _ _ _ :: V) (fun w s => (((s.d 1 R).d 3 R).e 7 [2, 1, 0, 3, 4, 5, 6])) ?_))))
 refine l_stx (K := (kT33).share) (x' := (ix data1 a3)) 2 pivot5 R R sz33 R R hg7.1 hg7.2 ?_ ?_
 exact fun I h s => (mS33).put I h ((sc A13 ((ix data1 a3).Key) D13), (sc A14 ((ix data1 a3).Weights) D14)) (ix data1 a3) s
 refine lN (ow (kT33).share 33 (.slice (ad g8 o9) data1.length D2) ((data1.set a3.toNat (ix data1 pivot5)).set pivot5.toNat (ix data1 a3)) :: _ :: _ :: _ :: _ :: V) ?_
 refine l_nil (q_draw (sL [4, 3, 2, 1, 0]) (dD ?_))
 exact qJ (fun w s => (s.e 5 [0]))
 refine l_ldo (K := (kT33).share) 0 a3 R R ag33 sz33 dT33.own R R hg12.1 hg12.2 ?_
 rintro ⟨⟨A13, D13⟩, ⟨A14, D14⟩⟩
 refine lN (_ :: _ :: OO (kT33).share 33 (ad g8 o9) D2 data1 :: V) ?_
 refine l_nil (q_draw (sL [2, 1, 0]) (d1 7 R (l_ldo (K := (kT33).share) 2 pivot5 R R ag33 sz33 dT33.own R R hg7.1 hg7.2 ?_)))
 rintro ⟨⟨A10, D10⟩, ⟨A11, D11⟩⟩
 refine lN (RR kT3 A10 D10 ((ix data1 pivot5).Key) :: RR kT3 A11 D11 ((ix data1 pivot5).Weights) :: _ :: _ :: _ :: V) ?_
 refine l_nil (q_draw (sL [4, 3, 2, 1, 0]) (dR 12 R (vIa sl24 sz33 R R hg12) (hS := (sL [4, 3, 2, 1, 0])) (d1 13 R (lM (ow _ _ _ _ :: rds _ _ _ :: rds _ _ _ :: rds _ _ _ :: rds _ _ _ :: rds _ _ _ :: rds _ _ _ :: V) (fun w s => (((s.d 0 R).d 2 R).e 7 [6, 1, 0, 2, 3, 4, 5])) ?_))))
 refine l_stx (K := (kT33).share) (x' := (ix data1 pivot5)) 2 a3 R R sz33 R R hg12.1 hg12.2 ?_ ?_
 exact fun I h s => (mS33).put I h ((sc A10 ((ix data1 pivot5).Key) D10), (sc A11 ((ix data1 pivot5).Weights) D11)) (ix data1 pivot5) s
 refine lN (ow (kT33).share 33 (.slice (ad g8 o9) data1.length D2) (data1.set a3.toNat (ix data1 pivot5)) :: _ :: _ :: _ :: _ :: V) ?_
 refine l_nil (q_draw (sL [4, 3, 2, 1, 0]) (dR 14 R (vIa sl24 sz33 R R hg7) (hS := (sL [4, 3, 2, 1, 0])) (d1 15 R (lM (ow _ _ _ _ :: rds _ _ _ :: rds _ _ _ :: rds _ _ _ :: rds _ _ _ :: rds _ _ _ :: rds _ _ _ :: V) (fun w s => (((s.d 3 R).d 5 R).e 7 [2, 1, 0, 3, 4, 5, 6])) ?_))))
 refine l_stx (K := (kT33).share) (x' := (ix data1 a3)) 2 pivot5 R R sz33 R R hg7.1 hg7.2 ?_ ?_
 exact fun I h s => (mS33).put I h ((sc A13 ((ix data1 a3).Key) D13), (sc A14 ((ix data1 a3).Weights) D14)) (ix data1 a3) s
 refine lN (ow (kT33).share 33 (.slice (ad g8 o9) data1.length D2) ((data1.set a3.toNat (ix data1 pivot5)).set pivot5.toNat (ix data1 a3)) :: _ :: _ :: _ :: _ :: V) ?_
 refine l_nil (q_draw (sL [4, 3, 2, 1, 0]) (dD ?_))
 exact qJ (fun w s => (s.e 5 [0]))
 rintro σ1
 obtain ⟨l15, hl16, hr⟩ := bd hr
 replace hl16 := Option.some.inj hl16
 refine qM (ow (kT33).share 33 (.slice A2 data1.length D2) l15 :: V) (fun w s => by rw [← hl16]; exact s) ?_
 refine q_next (c_seq (c_region (lI R (lO (vAd R R) (lI R (lO (vSb R R) (lI R (lI R (l_nil (q_next (c_seq (c_cut (A := (Int × (List Row)) × (Unit)) (fun a => Z8_J5 a.1.1 a.1.2 = some r) (fun a => [(11, (iv a.1.1))]) (fun a => ow (kT33).share 33 (.slice A2 data1.length D2) a.1.2 :: V) ?_ ?_))))))))))))
 refine c_block ?_
 obtain ⟨e1, hl1, hk1⟩ := bd hr
 refine c_loop (A := Unit) hl1 (fun s a => [(0, (sc A2 data1 D2)), (1, (iv a3)), (4, (.func (.func 73) [].toArray [].toArray)), (11, (iv s.2.1)), (12, (iv s.2.2))]) (fun s a => ow (kT33).share 33 (.slice A2 data1.length D2) s.1 :: V) () (aS R) (fun w s => s) ?_
 rintro ⟨data78, i79, j80⟩ _ σ1 out1 hr he1
 replace hr : Z8_L1 data1 a3 data78 i79 j80 = some out1 := hr
 unfold Z8_L1 at hr
 refine c_block (c_seq (c_cut (A := (Int) × (Unit)) (fun a => Z8_J3 data1 a3 data78 j80 a.1 = some out1) (fun a => [(0, (sc A2 data1 D2)), (1, (iv a3)), (4, (.func (.func 73) [].toArray [].toArray)), (11, (iv a.1)), (12, (iv j80))]) (fun a => ow (kT33).share 33 (.slice A2 data1.length D2) data78 :: V) ?_ ?_))
 refine c_block ?_
 obtain ⟨e2, hl2, hk2⟩ := bd hr
 refine c_loop (A := Unit) hl2 (fun s a => [(0, (sc A2 data1 D2)), (1, (iv a3)), (4, (.func (.func 73) [].toArray [].toArray)), (11, (iv s)), (12, (iv j80))]) (fun s a => ow (kT33).share 33 (.slice A2 data1.length D2) data78 :: V) () (aS R) (fun w s => s) ?_
 rintro i92 _ σ1 out2 hr he2
 replace hr : Z8_L2 data1 a3 data78 j80 i92 = some out2 := hr
 unfold Z8_L2 at hr
 refine c_seq (c_seq ?_)
 obtain ⟨hg97, hr⟩ := gd hr
 obtain ⟨r100, hx101, hr⟩ := bd hr
 refine cQ [(0, (sc A2 data1 D2)), (1, (iv a3)), (4, (.func (.func 73) [].toArray [].toArray)), (11, (iv i92)), (12, (iv j80)), (47, (.bool ((decide (i92 ≤ j80)) && (!(decide (r100 < (0 : Int)))))))] (ow (kT33).share 33 (.slice A2 data1.length D2) data78 :: V) ?_ ?_
 rcases bo (decide (i92 ≤ j80)) with hc102 | hc102
 refine c_some 0 sees_sh (show 0 < data1.length by have := hg12; omega) (fun g93 o94 ha => ?_)
 subst ha
 refine cdr 17 [] mixo (fun ht hn => (dR 0 R (vI R) (dR 1 R (vI R) (dR 2 R (vLe R R) (dR 3 R (vB R) (dW 4 R (wnT hc102) (vp (.func (.func 73) [].toArray [].toArray) R) (dW 5 R (wnT hc102) (vS R) (dW 6 R (wnT hc102) (vI R) (dW 7 R (wnT hc102) (vIa sl24 sz33 R R hg12) (dW 9 R (wnT hc102) (vS R) (dW 10 R (wnT hc102) (vI R) (dW 11 R (wnT hc102) (vIa sl24 sz33 R R (hg97 hc102)) (d_all [8, 12] (by kernel_rfl) R ⟨?_, ?_, trivial⟩)))))))))))))
 refine l_ldo (K := (kT33).share) 0 a3 R (wnT hc102) ag33 sz33 dT33.own R R hg12.1 hg12.2 ?_
 rintro ⟨⟨A95, D95⟩, ⟨A96, D96⟩⟩
 refine lN (RR kT3 A95 D95 ((ix data78 a3).Key) :: RR kT3 A96 D96 ((ix data78 a3).Weights) :: ow (kT33).share 33 (.slice (ad g93 o94) data1.length D2) data78 :: V) ?_
 refine l_nil (q_draw (sL [1, 0]) (d1 12 R (l_ldo (K := (kT33).share) 2 i92 R (wnT hc102) ag33 sz33 dT33.own R R (hg97 hc102).1 (hg97 hc102).2 ?_)))
 rintro ⟨⟨A98, D98⟩, ⟨A99, D99⟩⟩
 refine lN (RR kT3 A98 D98 ((ix data78 i92).Key) :: RR kT3 A99 D99 ((ix data78 i92).Weights) :: _ :: _ :: _ :: V) ?_
 refine l_nil (q_draw (sL [3, 2, 1, 0]) (d1 13 R (lM (rds _ _ _ :: rds _ _ _ :: rds _ _ _ :: rds _ _ _ :: rds _ _ _ :: rds _ _ _ :: rds _ _ _ :: rds _ _ _ :: ow _ _ _ _ :: V) (fun w s => (((((s.d 2 R).d 4 R).d 2 R).d 4 R).e 9 [3, 2, 1, 0, 4, 5, 6, 7, 8])) ?_)))
 refine l_callvn (fs := []) (cs := []) 4 R (wnT hc102) cb73 R R (Z9_ok (gcall_t hx101 hc102)) R ?_
 rintro _
 refine lN (_ :: _ :: _ :: _ :: _ :: V) ?_
 refine l_nil (q_draw (sL [3, 2, 1, 0]) (dW 14 R (wnT hc102) (vLt R R) (hS := (sL [3, 2, 1, 0])) (dW 15 R (wnT hc102) (vNo R) (hS := (sL [3, 2, 1, 0])) (dR 16 R (pAT R hc102 R) (hS := (sL [3, 2, 1, 0])) (dD ?_)))))
 exact qJ (fun w s => (s.e 5 [4]))
 refine l_ldo (K := (kT33).share) 0 i92 R (wnT hc102) ag33 sz33 dT33.own R R (hg97 hc102).1 (hg97 hc102).2 ?_
 rintro ⟨⟨A98, D98⟩, ⟨A99, D99⟩⟩
 refine lN (_ :: _ :: _ :: V) ?_
 refine l_nil (q_draw (sL [1, 0]) (d1 8 R (l_ldo (K := (kT33).share) 2 a3 R (wnT hc102) ag33 sz33 dT33.own R R hg12.1 hg12.2 ?_)))
 rintro ⟨⟨A95, D95⟩, ⟨A96, D96⟩⟩
 refine lN (RR kT3 A95 D95 ((ix data78 a3).Key) :: RR kT3 A96 D96 ((ix data78 a3).Weights) :: _ :: _ :: _ :: V) ?_
 refine l_nil (q_draw (sL [3, 2, 1, 0]) (d1 13 R (lM (rds _ _ _ :: rds _ _ _ :: rds _ _ _ :: rds _ _ _ :: rds _ _ _ :: rds _ _ _ :: rds _ _ _ :: rds _ _ _ :: ow _ _ _ _ :: V) (fun w s => (((((s.d 0 R).d 2 R).d 4 R).d 6 R).e 9 [3, 2, 1, 0, 4, 5, 6, 7, 8])) ?_)))
 refine l_callvn (fs := []) (cs := []) 4 R (wnT hc102) cb73 R R (Z9_ok (gcall_t hx101 hc102)) R ?_
 rintro _
 refine lN (_ :: _ :: _ :: _ :: _ :: V) ?_
 refine l_nil (q_draw (sL [3, 2, 1, 0]) (dW 14 R (wnT hc102) (vLt R R) (hS := (sL [3, 2, 1, 0])) (dW 15 R (wnT hc102) (vNo R) (hS := (sL [3, 2, 1, 0])) (dR 16 R (pAT R hc102 R) (hS := (sL [3, 2, 1, 0])) (dD ?_)))))
 exact qJ (fun w s => (s.e 5 [4]))
 refine cdr 17 [] mixo (fun ht hn => (dR 0 R (vI R) (dR 1 R (vI R) (dR 2 R (vLe R R) (dR 3 R (vB R) (dF 4 R (wfF hc102) (dF 5 R (wfF hc102) (dF 6 R (wfF hc102) (dF 7 R (wfF hc102) (dF 8 R (wfF hc102) (dF 9 R (wfF hc102) (dF 10 R (wfF hc102) (dF 11 R (wfF hc102) (dF 12 R (wfF hc102) (dF 13 R (wfF hc102) (dF 14 R (wfF hc102) (dF 15 R (wfF hc102) (dR 16 R (pAF (!(decide (r100 < (0 : Int)))) R hc102) (dD ?_)))))))))))))))))))
 exact qJ (fun w s => s)
 rintro σ1
 refine q_next ?_
 rcases bif_ hr with ⟨hb103, hr⟩ | ⟨hb103, hr⟩
 refine c_true R hb103 (c_skip (q_next (c_block (c_region (lI R (lO (vAd R R) (lI R (l_nil (q_blockn ?_)))))))))
 obtain rfl := so hr
 exact qA () (fun w s => s)
 refine c_false R hb103 (c_exit (q_exit ?_))
 obtain rfl := so hr
 obtain rfl := he2 _ R
 have hr := hk2
 refine q_exit (q_block ?_)
 exact qI (i92, ()) hr (fun w s => s)
 rintro ⟨i105, _⟩ σ1 hr
 replace hr : Z8_J3 data1 a3 data78 j80 i105 = some out1 := hr
 unfold Z8_J3 at hr
 refine c_seq (c_cut (A := (Int) × (Unit)) (fun a => Z8_J4 data1 data78 i105 a.1 = some out1) (fun a => [(0, (sc A2 data1 D2)), (1, (iv a3)), (4, (.func (.func 73) [].toArray [].toArray)), (11, (iv i105)), (12, (iv a.1))]) (fun a => ow (kT33).share 33 (.slice A2 data1.length D2) data78 :: V) ?_ ?_)
 refine c_block ?_
 obtain ⟨e3, hl3, hk3⟩ := bd hr
 refine c_loop (A := Unit) hl3 (fun s a => [(0, (sc A2 data1 D2)), (1, (iv a3)), (4, (.func (.func 73) [].toArray [].toArray)), (11, (iv i105)), (12, (iv s))]) (fun s a => ow (kT33).share 33 (.slice A2 data1.length D2) data78 :: V) () (aS R) (fun w s => s) ?_
 rintro j117 _ σ1 out3 hr he3
 replace hr : Z8_L3 data1 a3 data78 i105 j117 = some out3 := hr
 unfold Z8_L3 at hr
 refine c_seq (c_seq ?_)
 obtain ⟨hg122, hr⟩ := gd hr
 obtain ⟨r125, hx126, hr⟩ := bd hr
 refine cQ [(0, (sc A2 data1 D2)), (1, (iv a3)), (4, (.func (.func 73) [].toArray [].toArray)), (11, (iv i105)), (12, (iv j117)), (65, (.bool ((decide (i105 ≤ j117)) && (decide (r125 < (0 : Int))))))] (ow (kT33).share 33 (.slice A2 data1.length D2) data78 :: V) ?_ ?_
 rcases bo (decide (i105 ≤ j117)) with hc127 | hc127
 refine c_some 0 sees_sh (show 0 < data1.length by have := hg12; omega) (fun g118 o119 ha => ?_)
 subst ha
 refine cdr 16 [] mixo (fun ht hn => (dR 0 R (vI R) (dR 1 R (vI R) (dR 2 R (vLe R R) (dR 3 R (vB R) (dW 4 R (wnT hc127) (vp (.func (.func 73) [].toArray [].toArray) R) (dW 5 R (wnT hc127) (vS R) (dW 6 R (wnT hc127) (vI R) (dW 7 R (wnT hc127) (vIa sl24 sz33 R R hg12) (dW 9 R (wnT hc127) (vS R) (dW 10 R (wnT hc127) (vI R) (dW 11 R (wnT hc127) (vIa sl24 sz33 R R (hg122 hc127)) (d_all [8, 12] (by kernel_rfl) R ⟨?_, ?_, trivial⟩)))))))))))))
 refine l_ldo (K := (kT33).share) 0 a3 R (wnT hc127) ag33 sz33 dT33.own R R hg12.1 hg12.2 ?_
 rintro ⟨⟨A120, D120⟩, ⟨A121, D121⟩⟩
 refine lN (RR kT3 A120 D120 ((ix data78 a3).Key) :: RR kT3 A121 D121 ((ix data78 a3).Weights) :: ow (kT33).share 33 (.slice (ad g118 o119) data1.length D2) data78 :: V) ?_
 refine l_nil (q_draw (sL [1, 0]) (d1 12 R (l_ldo (K := (kT33).share) 2 j117 R (wnT hc127) ag33 sz33 dT33.own R R (hg122 hc127).1 (hg122 hc127).2 ?_)))
 rintro ⟨⟨A123, D123⟩, ⟨A124, D124⟩⟩
 refine lN (RR kT3 A123 D123 ((ix data78 j117).Key) :: RR kT3 A124 D124 ((ix data78 j117).Weights) :: _ :: _ :: _ :: V) ?_
 refine l_nil (q_draw (sL [3, 2, 1, 0]) (d1 13 R (lM (rds _ _ _ :: rds _ _ _ :: rds _ _ _ :: rds _ _ _ :: rds _ _ _ :: rds _ _ _ :: rds _ _ _ :: rds _ _ _ :: ow _ _ _ _ :: V) (fun w s => (((((s.d 2 R).d 4 R).d 2 R).d 4 R).e 9 [3, 2, 1, 0, 4, 5, 6, 7, 8])) ?_)))
 refine l_callvn (fs := []) (cs := []) 4 R (wnT hc127) cb73 R R (Z9_ok (gcall_t hx126 hc127)) R ?_
 rintro _
 refine lN (_ :: _ :: _ :: _ :: _ :: V) ?_
 refine l_nil (q_draw (sL [3, 2, 1, 0]) (dW 14 R (wnT hc127) (vLt R R) (hS := (sL [3, 2, 1, 0])) (dR 15 R (pAT R hc127 R) (hS := (sL [3, 2, 1, 0])) (dD ?_))))
 exact qJ (fun w s => (s.e 5 [4]))
 refine l_ldo (K := (kT33).share) 0 j117 R (wnT hc127) ag33 sz33 dT33.own R R (hg122 hc127).1 (hg122 hc127).2 ?_
 rintro ⟨⟨A123, D123⟩, ⟨A124, D124⟩⟩
 refine lN (_ :: _ :: _ :: V) ?_
 refine l_nil (q_draw (sL [1, 0]) (d1 8 R (l_ldo (K := (kT33).share) 2 a3 R (wnT hc127) ag33 sz33 dT33.own R R hg12.1 hg12.2 ?_)))
 rintro ⟨⟨A120, D120⟩, ⟨A121, D121⟩⟩
 refine lN (RR kT3 A120 D120 ((ix data78 a3).Key) :: RR kT3 A121 D121 ((ix data78 a3).Weights) :: _ :: _ :: _ :: V) ?_
 refine l_nil (q_draw (sL [3, 2, 1, 0]) (d1 13 R (lM (rds _ _ _ :: rds _ _ _ :: rds _ _ _ :: rds _ _ _ :: rds _ _ _ :: rds _ _ _ :: rds _ _ _ :: rds _ _ _ :: ow _ _ _ _ :: V) (fun w s => (((((s.d 0 R).d 2 R).d 4 R).d 6 R).e 9 [3, 2, 1, 0, 4, 5, 6, 7, 8])) ?_)))
 refine l_callvn (fs := []) (cs := []) 4 R (wnT hc127) cb73 R R (Z9_ok (gcall_t hx126 hc127)) R ?_
 rintro _
 refine lN (_ :: _ :: _ :: _ :: _ :: V) ?_
 refine l_nil (q_draw (sL [3, 2, 1, 0]) (dW 14 R (wnT hc127) (vLt R R) (hS := (sL [3, 2, 1, 0])) (dR 15 R (pAT R hc127 R) (hS := (sL [3, 2, 1, 0])) (dD ?_))))
 exact qJ (fun w s => (s.e 5 [4]))
 refine cdr 16 [] mixo (fun ht hn => (dR 0 R (vI R) (dR 1 R (vI R) (dR 2 R (vLe R R) (dR 3 R (vB R) (dF 4 R (wfF hc127) (dF 5 R (wfF hc127) (dF 6 R (wfF hc127) (dF 7 R (wfF hc127) (dF 8 R (wfF hc127) (dF 9 R (wfF hc127) (dF 10 R (wfF hc127) (dF 11 R (wfF hc127) (dF 12 R (wfF hc127) (dF 13 R (wfF hc127) (dF 14 R (wfF hc127) (dR 15 R (pAF (decide (r125 < (0 : Int))) R hc127) (dD ?_))))))))))))))))))
 exact qJ (fun w s => s)
 rintro σ1
 refine q_next ?_
 rcases bif_ hr with ⟨hb128, hr⟩ | ⟨hb128, hr⟩
 refine c_true R hb128 (c_skip (q_next (c_block (c_region (lI R (lO (vSb R R) (lI R (l_nil (q_blockn ?_)))))))))
 obtain rfl := so hr
 exact qA () (fun w s => s)
 refine c_false R hb128 (c_exit (q_exit ?_))
 obtain rfl := so hr
 obtain rfl := he3 _ R
 have hr := hk3
 refine q_exit (q_block ?_)
 exact qI (j117, ()) hr (fun w s => s)
 rintro ⟨j130, _⟩ σ1 hr
 replace hr : Z8_J4 data1 data78 i105 j130 = some out1 := hr
 unfold Z8_J4 at hr
 refine c_seq (c_seq (c_region (lI R (lI R (lO (vGt R R) (l_nil (q_next ?_)))))))
 rcases bif_ hr with ⟨hb131, hr⟩ | ⟨hb131, hr⟩
 refine c_true R hb131 (c_exit (q_exit (q_pass R ?_)))
 obtain rfl := so hr
 obtain rfl := he1 _ R
 have hr := hk1
 refine q_exit (q_block ?_)
 exact qI ((i105, data78), ()) hr (fun w s => s)
 refine c_false R hb131 (c_skip (q_next (c_seq ?_)))
 obtain ⟨hg132, hr⟩ := gd hr
 obtain ⟨hg137, hr⟩ := gd hr
 refine cQ [(0, (sc A2 data1 D2)), (1, (iv a3)), (4, (.func (.func 73) [].toArray [].toArray)), (11, (iv i105)), (12, (iv j130))] (ow (kT33).share 33 (.slice A2 data1.length D2) ((data78.set i105.toNat (ix data78 j130)).set j130.toNat (ix data78 i105)) :: V) ?_ ?_
 refine c_some 0 sees_sh (show 0 < data1.length by have := hg132; omega) (fun g133 o134 ha => ?_)
 subst ha
 refine cdr 16 [0] mixo (fun ht hn => (dR 0 R (vS R) (hS := (sL [0])) (dR 1 R (vI R) (hS := (sL [0])) (dR 2 R (vS R) (hS := (sL [0])) (dR 3 R (vI R) (hS := (sL [0])) (dR 4 R (vS R) (hS := (sL [0])) (dR 5 R (vI R) (hS := (sL [0])) (dR 6 R (vIa sl24 sz33 R R hg132) (hS := (sL [0])) (dR 8 R (vS R) (hS := (sL [0])) (dR 9 R (vI R) (hS := (sL [0])) (dR 10 R (vIa sl24 sz33 R R hg137) (hS := (sL [0])) (d_all [7, 11] (by kernel_rfl) R ⟨?_, ?_, trivial⟩))))))))))))
 refine l_ldo (K := (kT33).share) 0 j130 R R ag33 sz33 dT33.own R R hg132.1 hg132.2 ?_
 rintro ⟨⟨A135, D135⟩, ⟨A136, D136⟩⟩
 refine lN (RR kT3 A135 D135 ((ix data78 j130).Key) :: RR kT3 A136 D136 ((ix data78 j130).Weights) :: ow (kT33).share 33 (.slice (ad g133 o134) data1.length D2) data78 :: V) ?_
 refine l_nil (q_draw (sL [2, 1, 0]) (d1 11 R (l_ldo (K := (kT33).share) 2 i105 R R ag33 sz33 dT33.own R R hg137.1 hg137.2 ?_)))
 rintro ⟨⟨A138, D138⟩, ⟨A139, D139⟩⟩
 refine lN (RR kT3 A138 D138 ((ix data78 i105).Key) :: RR kT3 A139 D139 ((ix data78 i105).Weights) :: _ :: _ :: _ :: V) ?_
 refine l_nil (q_draw (sL [4, 3, 2, 1, 0]) (dR 12 R (vIa sl24 sz33 R R hg137) (hS := (sL [4, 3, 2, 1, 0])) (d1 13 R (lM (ow _ _ _ _ :: rds _ _ _ :: rds _ _ _ :: rds _ _ _ :: rds _ _ _ :: rds _ _ _ :: rds _ _ _ :: V) (fun w s => (((s.d 2 R).d 4 R).e 7 [6, 1, 0, 2, 3, 4, 5])) ?_))))
 refine l_stx (K := (kT33).share) (x' := (ix data78 j130)) 2 i105 R R sz33 R R hg137.1 hg137.2 ?_ ?_
 exact fun I h s => (mS33).put I h ((sc A135 ((ix data78 j130).Key) D135), (sc A136 ((ix data78 j130).Weights) D136)) (ix data78 j130) s
 refine lN (ow (kT33).share 33 (.slice (ad g133 o134) data1.length D2) (data78.set i105.toNat (ix data78 j130)) :: _ :: _ :: _ :: _ :: V) ?_
 refine l_nil (q_draw (sL [4, 3, 2, 1, 0]) (dR 14 R (vIa sl24 sz33 R R hg132) (hS := (sL [4, 3, 2, 1, 0])) (d1 15 R (lM (ow _ _ _ _ :: rds _ _ _ :: rds _ _ _ :: rds _ _ _ :: rds _ _ _ :: rds _ _ _ :: rds _ _ _ :: V) (fun w s => (((s.d 1 R).d 3 R).e 7 [2, 1, 0, 3, 4, 5, 6])) ?_))))
 refine l_stx (K := (kT33).share) (x' := (ix data78 i105)) 2 j130 R R sz33 R R hg132.1 hg132.2 ?_ ?_
 exact fun I h s => (mS33).put I h ((sc A138 ((ix data78 i105).Key) D138), (sc A139 ((ix data78 i105).Weights) D139)) (ix data78 i105) s
 refine lN (ow (kT33).share 33 (.slice (ad g133 o134) data1.length D2) ((data78.set i105.toNat (ix data78 j130)).set j130.toNat (ix data78 i105)) :: _ :: _ :: _ :: _ :: V) ?_
 refine l_nil (q_draw (sL [4, 3, 2, 1, 0]) (dD ?_))
 exact qJ (fun w s => (s.e 5 [0]))
 refine l_ldo (K := (kT33).share) 0 i105 R R ag33 sz33 dT33.own R R hg137.1 hg137.2 ?_
 rintro ⟨⟨A138, D138⟩, ⟨A139, D139⟩⟩
 refine lN (_ :: _ :: ow (kT33).share 33 (.slice (ad g133 o134) data1.length D2) data78 :: V) ?_
 refine l_nil (q_draw (sL [2, 1, 0]) (d1 7 R (l_ldo (K := (kT33).share) 2 j130 R R ag33 sz33 dT33.own R R hg132.1 hg132.2 ?_)))
 rintro ⟨⟨A135, D135⟩, ⟨A136, D136⟩⟩
 refine lN (RR kT3 A135 D135 ((ix data78 j130).Key) :: RR kT3 A136 D136 ((ix data78 j130).Weights) :: _ :: _ :: _ :: V) ?_
 refine l_nil (q_draw (sL [4, 3, 2, 1, 0]) (dR 12 R (vIa sl24 sz33 R R hg137) (hS := (sL [4, 3, 2, 1, 0])) (d1 13 R (lM (ow _ _ _ _ :: rds _ _ _ :: rds _ _ _ :: rds _ _ _ :: rds _ _ _ :: rds _ _ _ :: rds _ _ _ :: V) (fun w s => (((s.d 0 R).d 2 R).e 7 [6, 1, 0, 2, 3, 4, 5])) ?_))))
 refine l_stx (K := (kT33).share) (x' := (ix data78 j130)) 2 i105 R R sz33 R R hg137.1 hg137.2 ?_ ?_
 exact fun I h s => (mS33).put I h ((sc A135 ((ix data78 j130).Key) D135), (sc A136 ((ix data78 j130).Weights) D136)) (ix data78 j130) s
 refine lN (ow (kT33).share 33 (.slice (ad g133 o134) data1.length D2) (data78.set i105.toNat (ix data78 j130)) :: _ :: _ :: _ :: _ :: V) ?_
 refine l_nil (q_draw (sL [4, 3, 2, 1, 0]) (dR 14 R (vIa sl24 sz33 R R hg132) (hS := (sL [4, 3, 2, 1, 0])) (d1 15 R (lM (ow _ _ _ _ :: rds _ _ _ :: rds _ _ _ :: rds _ _ _ :: rds _ _ _ :: rds _ _ _ :: rds _ _ _ :: V) (fun w s => (((s.d 3 R).d 5 R).e 7 [2, 1, 0, 3, 4, 5, 6])) ?_))))
 refine l_stx (K := (kT33).share) (x' := (ix data78 i105)) 2 j130 R R sz33 R R hg132.1 hg132.2 ?_ ?_
 exact fun I h s => (mS33).put I h ((sc A138 ((ix data78 i105).Key) D138), (sc A139 ((ix data78 i105).Weights) D139)) (ix data78 i105) s
 refine lN (ow (kT33).share 33 (.slice (ad g133 o134) data1.length D2) ((data78.set i105.toNat (ix data78 j130)).set j130.toNat (ix data78 i105)) :: _ :: _ :: _ :: _ :: V) ?_
 refine l_nil (q_draw (sL [4, 3, 2, 1, 0]) (dD ?_))
 exact qJ (fun w s => (s.e 5 [0]))
 rintro σ1
 obtain ⟨l140, hl141, hr⟩ := bd hr
 replace hl141 := Option.some.inj hl141
 refine qM (ow (kT33).share 33 (.slice A2 data1.length D2) l140 :: V) (fun w s => by rw [← hl141]; exact s) ?_
 refine q_next (c_seq (c_region (lI R (lO (vAd R R) (lI R (l_nil (q_next (c_region (lI R (lO (vSb R R) (lI R (l_nil (q_blockn ?_)))))))))))))
 obtain rfl := so hr
 exact qA () (fun w s => s)
 rintro ⟨⟨i145, p146⟩, _⟩ σ1 hr
 replace hr : Z8_J5 i145 p146 = some r := hr
 unfold Z8_J5 at hr
 refine c_seq (c_region (lI R (lI R (l_nil (q_next (c_ret ?_))))))
 obtain rfl := so hr
 exact qF () (fun w s => s)
theorem Z2_ok  {data1 : (List Row)} {a3 : Int} {b4 : Int} {pivot5 : Int} {r : Int × Bool × (List Row)} (hr : Z2 data1 a3 b4 pivot5 = some r) :
 FnOk Try.prog 98 [(.slice A2 N2 D2), (iv a3), (iv b4), (iv pivot5), (.func (.func 73) [].toArray [].toArray)] [ow (kT33).share 33 (.slice A2 N2 D2) data1] (fun (h : Unit) => ((.tuple [(iv r.1), (.bool r.2.1)].toArray), [ow (kT33).share 33 (.slice A2 N2 D2) r.2.2])) := by
 unfold Z2 at hr
 refine fn_ok Try.func98 R 178 R R fun C V => ?_
 refine cN (_ :: V) ?_
 refine cL 0 sees_sh ?_
 rintro rfl
 refine c_seq (c_region (lI R (lB R (l_nil (q_next (c_seq ?_))))))
 obtain ⟨hg7, hr⟩ := gd hr
 obtain ⟨hg12, hr⟩ := gd hr
 refine cQ [(0, (sc A2 data1 D2)), (1, (iv a3)), (2, (iv b4)), (4, (.func (.func 73) [].toArray [].toArray))] (ow (kT33).share 33 (.slice A2 data1.length D2) ((data1.set a3.toNat (ix data1 pivot5)).set pivot5.toNat (ix data1 a3)) :: V) ?_ ?_
 refine c_some 0 sees_sh (show 0 < data1.length by have := hg7; omega) (fun g8 o9 ha => ?_)
 subst ha
 refine cdr 16 [0] mixo (fun ht hn => (dR 0 R (vS R) (hS := (sL [0])) (dR 1 R (vI R) (hS := (sL [0])) (dR 2 R (vS R) (hS := (sL [0])) (dR 3 R (vI R) (hS := (sL [0])) (dR 4 R (vS R) (hS := (sL [0])) (dR 5 R (vI R) (hS := (sL [0])) (dR 6 R (vIa sl24 sz33 R R hg7) (hS := (sL [0])) (dR 8 R (vS R) (hS := (sL [0])) (dR 9 R (vI R) (hS := (sL [0])) (dR 10 R (vIa sl24 sz33 R R hg12) (hS := (sL [0])) (d_all [7, 11] (by kernel_rfl) R ⟨?_, ?_, trivial⟩))))))))))))
 refine l_ldo (K := (kT33).share) 0 pivot5 R R ag33 sz33 dT33.own R R hg7.1 hg7.2 ?_
 rintro ⟨⟨A10, D10⟩, ⟨A11, D11⟩⟩
 refine lN (RR kT3 A10 D10 ((ix data1 pivot5).Key) :: RR kT3 A11 D11 ((ix data1 pivot5).Weights) :: OO (kT33).share 33 (ad g8 o9) D2 data1 :: V) ?_
 refine l_nil (q_draw (sL [2, 1, 0]) (d1 11 R (l_ldo (K := (kT33).share) 2 a3 R R ag33 sz33 dT33.own R R hg12.1 hg12.2 ?_)))
 rintro ⟨⟨A13, D13⟩, ⟨A14, D14⟩⟩
 refine lN (RR kT3 A13 D13 ((ix data1 a3).Key) :: RR kT3 A14 D14 ((ix data1 a3).Weights) :: _ :: _ :: _ :: V) ?_
 refine l_nil (q_draw (sL [4, 3, 2, 1, 0]) (dR 12 R (vIa sl24 sz33 R R hg12) (hS := (sL [4, 3, 2, 1, 0])) (d1 13 R (lM (ow _ _ _ _ :: rds _ _ _ :: rds _ _ _ :: rds _ _ _ :: rds _ _ _ :: rds _ _ _ :: rds _ _ _ :: V) (fun w s => (((s.d 2 R).d 4 R).e 7 [6, 1, 0, 2, 3, 4, 5])) ?_))))
 refine l_stx (K := (kT33).share) (x' := (ix data1 pivot5)) 2 a3 R R sz33 R R hg12.1 hg12.2 ?_ ?_
 exact fun I h s => (mS33).put I h ((sc A10 ((ix data1 pivot5).Key) D10), (sc A11 ((ix data1 pivot5).Weights) D11)) (ix data1 pivot5) s
 refine lN (ow (kT33).share 33 (.slice (ad g8 o9) data1.length D2) (data1.set a3.toNat (ix data1 pivot5)) :: _ :: _ :: _ :: _ :: V) ?_
 refine l_nil (q_draw (sL [4, 3, 2, 1, 0]) (dR 14 R (vIa sl24 sz33 R R hg7) (hS := (sL [4, 3, 2, 1, 0])) (d1 15 R (lM (ow _ _ _ _ :: rds _ _ _ :: rds _ _ _ :: rds _ _ _ :: rds _ _ _ :: rds _ _ _ :: rds _ _ _ :: V) (fun w s => (((s.d 1 R).d 3 R).e 7 [2, 1, 0, 3, 4, 5, 6])) ?_))))
 refine l_stx (K := (kT33).share) (x' := (ix data1 a3)) 2 pivot5 R R sz33 R R hg7.1 hg7.2 ?_ ?_
 exact fun I h s => (mS33).put I h ((sc A13 ((ix data1 a3).Key) D13), (sc A14 ((ix data1 a3).Weights) D14)) (ix data1 a3) s
 refine lN (ow (kT33).share 33 (.slice (ad g8 o9) data1.length D2) ((data1.set a3.toNat (ix data1 pivot5)).set pivot5.toNat (ix data1 a3)) :: _ :: _ :: _ :: _ :: V) ?_
 refine l_nil (q_draw (sL [4, 3, 2, 1, 0]) (dD ?_))
 exact qJ (fun w s => (s.e 5 [0]))
 refine l_ldo (K := (kT33).share) 0 a3 R R ag33 sz33 dT33.own R R hg12.1 hg12.2 ?_
 rintro ⟨⟨A13, D13⟩, ⟨A14, D14⟩⟩
 refine lN (_ :: _ :: OO (kT33).share 33 (ad g8 o9) D2 data1 :: V) ?_
 refine l_nil (q_draw (sL [2, 1, 0]) (d1 7 R (l_ldo (K := (kT33).share) 2 pivot5 R R ag33 sz33 dT33.own R R hg7.1 hg7.2 ?_)))
 rintro ⟨⟨A10, D10⟩, ⟨A11, D11⟩⟩
 refine lN (RR kT3 A10 D10 ((ix data1 pivot5).Key) :: RR kT3 A11 D11 ((ix data1 pivot5).Weights) :: _ :: _ :: _ :: V) ?_
 refine l_nil (q_draw (sL [4, 3, 2, 1, 0]) (dR 12 R (vIa sl24 sz33 R R hg12) (hS := (sL [4, 3, 2, 1, 0])) (d1 13 R (lM (ow _ _ _ _ :: rds _ _ _ :: rds _ _ _ :: rds _ _ _ :: rds _ _ _ :: rds _ _ _ :: rds _ _ _ :: V) (fun w s => (((s.d 0 R).d 2 R).e 7 [6, 1, 0, 2, 3, 4, 5])) ?_))))
 refine l_stx (K := (kT33).share) (x' := (ix data1 pivot5)) 2 a3 R R sz33 R R hg12.1 hg12.2 ?_ ?_
 exact fun I h s => (mS33).put I h ((sc A10 ((ix data1 pivot5).Key) D10), (sc A11 ((ix data1 pivot5).Weights) D11)) (ix data1 pivot5) s
 refine lN (ow (kT33).share 33 (.slice (ad g8 o9) data1.length D2) (data1.set a3.toNat (ix data1 pivot5)) :: _ :: _ :: _ :: _ :: V) ?_
 refine l_nil (q_draw (sL [4, 3, 2, 1, 0]) (dR 14 R (vIa sl24 sz33 R R hg7) (hS := (sL [4, 3, 2, 1, 0])) (d1 15 R (lM (ow _ _ _ _ :: rds _ _ _ :: rds _ _ _ :: rds _ _ _ :: rds _ _ _ :: rds _ _ _ :: rds _ _ _ :: V) (fun w s => (((s.d 3 R).d 5 R).e 7 [2, 1, 0, 3, 4, 5, 6])) ?_))))
 refine l_stx (K := (kT33).share) (x' := (ix data1 a3)) 2 pivot5 R R sz33 R R hg7.1 hg7.2 ?_ ?_
 exact fun I h s => (mS33).put I h ((sc A13 ((ix data1 a3).Key) D13), (sc A14 ((ix data1 a3).Weights) D14)) (ix data1 a3) s
 refine lN (ow (kT33).share 33 (.slice (ad g8 o9) data1.length D2) ((data1.set a3.toNat (ix data1 pivot5)).set pivot5.toNat (ix data1 a3)) :: _ :: _ :: _ :: _ :: V) ?_
 refine l_nil (q_draw (sL [4, 3, 2, 1, 0]) (dD ?_))
 exact qJ (fun w s => (s.e 5 [0]))
 rintro σ1
 obtain ⟨l15, hl16, hr⟩ := bd hr
 replace hl16 := Option.some.inj hl16
 refine qM (ow (kT33).share 33 (.slice A2 data1.length D2) l15 :: V) (fun w s => by rw [← hl16]; exact s) ?_
 refine q_next (c_seq (c_region (lI R (lO (vAd R R) (lI R (lO (vSb R R) (lI R (lI R (l_nil (q_next (c_seq (c_cut (A := (Int) × (Unit)) (fun a => Z2_J1 data1 a3 b4 l15 a.1 = some r) (fun a => [(0, (sc A2 data1 D2)), (1, (iv a3)), (4, (.func (.func 73) [].toArray [].toArray)), (12, (iv a.1)), (13, (iv (w64 (b4 - (1 : Int)))))]) (fun a => ow (kT33).share 33 (.slice A2 data1.length D2) l15 :: V) ?_ ?_))))))))))))
 refine c_block ?_
 obtain ⟨e1, hl1, hk1⟩ := bd hr
 refine c_loop (A := Unit) hl1 (fun s a => [(0, (sc A2 data1 D2)), (1, (iv a3)), (4, (.func (.func 73) [].toArray [].toArray)), (12, (iv s)), (13, (iv (w64 (b4 - (1 : Int)))))]) (fun s a => ow (kT33).share 33 (.slice A2 data1.length D2) l15 :: V) () (aS R) (fun w s => s) ?_
 rintro i28 _ σ1 out1 hr he1
 replace hr : Z2_L1 data1 a3 b4 l15 i28 = some out1 := hr
 unfold Z2_L1 at hr
 refine c_seq (c_seq ?_)
 obtain ⟨hg29, hr⟩ := gd hr
 obtain ⟨r36, hx37, hr⟩ := bd hr
 refine cQ [(0, (sc A2 data1 D2)), (1, (iv a3)), (4, (.func (.func 73) [].toArray [].toArray)), (12, (iv i28)), (13, (iv (w64 (b4 - (1 : Int))))), (47, (.bool ((decide (i28 ≤ (w64 (b4 - (1 : Int))))) && (decide (r36 < (0 : Int))))))] (ow (kT33).share 33 (.slice A2 data1.length D2) l15 :: V) ?_ ?_
 rcases bo (decide (i28 ≤ (w64 (b4 - (1 : Int))))) with hc38 | hc38
 refine c_some 0 sees_sh (show 0 < data1.length by have := (hg29 hc38); omega) (fun g30 o31 ha => ?_)
 subst ha
 refine cdr 16 [] mixo (fun ht hn => (dR 0 R (vI R) (dR 1 R (vI R) (dR 2 R (vLe R R) (dR 3 R (vB R) (dW 4 R (wnT hc38) (vp (.func (.func 73) [].toArray [].toArray) R) (dW 5 R (wnT hc38) (vS R) (dW 6 R (wnT hc38) (vI R) (dW 7 R (wnT hc38) (vIa sl24 sz33 R R (hg29 hc38)) (dW 9 R (wnT hc38) (vS R) (dW 10 R (wnT hc38) (vI R) (dW 11 R (wnT hc38) (vIa sl24 sz33 R R hg12) (d_all [8, 12] (by kernel_rfl) R ⟨?_, ?_, trivial⟩)))))))))))))
 refine l_ldo (K := (kT33).share) 0 i28 R (wnT hc38) ag33 sz33 dT33.own R R (hg29 hc38).1 (hg29 hc38).2 ?_
 rintro ⟨⟨A32, D32⟩, ⟨A33, D33⟩⟩
 refine lN (RR kT3 A32 D32 ((ix l15 i28).Key) :: RR kT3 A33 D33 ((ix l15 i28).Weights) :: ow (kT33).share 33 (.slice (ad g30 o31) data1.length D2) l15 :: V) ?_
 refine l_nil (q_draw (sL [1, 0]) (d1 12 R (l_ldo (K := (kT33).share) 2 a3 R (wnT hc38) ag33 sz33 dT33.own R R hg12.1 hg12.2 ?_)))
 rintro ⟨⟨A34, D34⟩, ⟨A35, D35⟩⟩
 refine lN (RR kT3 A34 D34 ((ix l15 a3).Key) :: RR kT3 A35 D35 ((ix l15 a3).Weights) :: _ :: _ :: _ :: V) ?_
 refine l_nil (q_draw (sL [3, 2, 1, 0]) (d1 13 R (lM (rds _ _ _ :: rds _ _ _ :: rds _ _ _ :: rds _ _ _ :: rds _ _ _ :: rds _ _ _ :: rds _ _ _ :: rds _ _ _ :: ow _ _ _ _ :: V) (fun w s => (((((s.d 2 R).d 4 R).d 2 R).d 4 R).e 9 [3, 2, 1, 0, 4, 5, 6, 7, 8])) ?_)))
 refine l_callvn (fs := []) (cs := []) 4 R (wnT hc38) cb73 R R (Z9_ok (gcall_t hx37 hc38)) R ?_
 rintro _
 refine lN (_ :: _ :: _ :: _ :: _ :: V) ?_
 refine l_nil (q_draw (sL [3, 2, 1, 0]) (dW 14 R (wnT hc38) (vLt R R) (hS := (sL [3, 2, 1, 0])) (dR 15 R (pAT R hc38 R) (hS := (sL [3, 2, 1, 0])) (dD ?_))))
 exact qJ (fun w s => (s.e 5 [4]))
 refine l_ldo (K := (kT33).share) 0 a3 R (wnT hc38) ag33 sz33 dT33.own R R hg12.1 hg12.2 ?_
 rintro ⟨⟨A34, D34⟩, ⟨A35, D35⟩⟩
 refine lN (_ :: _ :: _ :: V) ?_
 refine l_nil (q_draw (sL [1, 0]) (d1 8 R (l_ldo (K := (kT33).share) 2 i28 R (wnT hc38) ag33 sz33 dT33.own R R (hg29 hc38).1 (hg29 hc38).2 ?_)))
 rintro ⟨⟨A32, D32⟩, ⟨A33, D33⟩⟩
 refine lN (RR kT3 A32 D32 ((ix l15 i28).Key) :: RR kT3 A33 D33 ((ix l15 i28).Weights) :: _ :: _ :: _ :: V) ?_
 refine l_nil (q_draw (sL [3, 2, 1, 0]) (d1 13 R (lM (rds _ _ _ :: rds _ _ _ :: rds _ _ _ :: rds _ _ _ :: rds _ _ _ :: rds _ _ _ :: rds _ _ _ :: rds _ _ _ :: ow _ _ _ _ :: V) (fun w s => (((((s.d 0 R).d 2 R).d 4 R).d 6 R).e 9 [3, 2, 1, 0, 4, 5, 6, 7, 8])) ?_)))
 refine l_callvn (fs := []) (cs := []) 4 R (wnT hc38) cb73 R R (Z9_ok (gcall_t hx37 hc38)) R ?_
 rintro _
 refine lN (_ :: _ :: _ :: _ :: _ :: V) ?_
 refine l_nil (q_draw (sL [3, 2, 1, 0]) (dW 14 R (wnT hc38) (vLt R R) (hS := (sL [3, 2, 1, 0])) (dR 15 R (pAT R hc38 R) (hS := (sL [3, 2, 1, 0])) (dD ?_))))
 exact qJ (fun w s => (s.e 5 [4]))
 refine cdr 16 [] mixo (fun ht hn => (dR 0 R (vI R) (dR 1 R (vI R) (dR 2 R (vLe R R) (dR 3 R (vB R) (dF 4 R (wfF hc38) (dF 5 R (wfF hc38) (dF 6 R (wfF hc38) (dF 7 R (wfF hc38) (dF 8 R (wfF hc38) (dF 9 R (wfF hc38) (dF 10 R (wfF hc38) (dF 11 R (wfF hc38) (dF 12 R (wfF hc38) (dF 13 R (wfF hc38) (dF 14 R (wfF hc38) (dR 15 R (pAF (decide (r36 < (0 : Int))) R hc38) (dD ?_))))))))))))))))))
 exact qJ (fun w s => s)
 rintro σ1
 refine q_next ?_
 rcases bif_ hr with ⟨hb39, hr⟩ | ⟨hb39, hr⟩
 refine c_true R hb39 (c_skip (q_next (c_block (c_region (lI R (lO (vAd R R) (lI R (l_nil (q_blockn ?_)))))))))
 obtain rfl := so hr
 exact qA () (fun w s => s)
 refine c_false R hb39 (c_exit (q_exit ?_))
 obtain rfl := so hr
 obtain rfl := he1 _ R
 have hr := hk1
 refine q_exit (q_block ?_)
 exact qI (i28, ()) hr (fun w s => s)
 rintro ⟨i41, _⟩ σ1 hr
 replace hr : Z2_J1 data1 a3 b4 l15 i41 = some r := hr
 unfold Z2_J1 at hr
 refine c_seq (c_cut (A := (Int) × (Unit)) (fun a => Z2_J2 data1 a3 l15 i41 a.1 = some r) (fun a => [(0, (sc A2 data1 D2)), (1, (iv a3)), (4, (.func (.func 73) [].toArray [].toArray)), (12, (iv i41)), (13, (iv a.1))]) (fun a => ow (kT33).share 33 (.slice A2 data1.length D2) l15 :: V) ?_ ?_)
 refine c_block ?_
 obtain ⟨e2, hl2, hk2⟩ := bd hr
 refine c_loop (A := Unit) hl2 (fun s a => [(0, (sc A2 data1 D2)), (1, (iv a3)), (4, (.func (.func 73) [].toArray [].toArray)), (12, (iv i41)), (13, (iv s))]) (fun s a => ow (kT33).share 33 (.slice A2 data1.length D2) l15 :: V) () (aS R) (fun w s => s) ?_
 rintro j53 _ σ1 out2 hr he2
 replace hr : Z2_L2 data1 a3 l15 i41 j53 = some out2 := hr
 unfold Z2_L2 at hr
 refine c_seq (c_seq ?_)
 obtain ⟨hg54, hr⟩ := gd hr
 obtain ⟨r61, hx62, hr⟩ := bd hr
 refine cQ [(0, (sc A2 data1 D2)), (1, (iv a3)), (4, (.func (.func 73) [].toArray [].toArray)), (12, (iv i41)), (13, (iv j53)), (66, (.bool ((decide (i41 ≤ j53)) && (!(decide (r61 < (0 : Int)))))))] (ow (kT33).share 33 (.slice A2 data1.length D2) l15 :: V) ?_ ?_
 rcases bo (decide (i41 ≤ j53)) with hc63 | hc63
 refine c_some 0 sees_sh (show 0 < data1.length by have := (hg54 hc63); omega) (fun g55 o56 ha => ?_)
 subst ha
 refine cdr 17 [] mixo (fun ht hn => (dR 0 R (vI R) (dR 1 R (vI R) (dR 2 R (vLe R R) (dR 3 R (vB R) (dW 4 R (wnT hc63) (vp (.func (.func 73) [].toArray [].toArray) R) (dW 5 R (wnT hc63) (vS R) (dW 6 R (wnT hc63) (vI R) (dW 7 R (wnT hc63) (vIa sl24 sz33 R R (hg54 hc63)) (dW 9 R (wnT hc63) (vS R) (dW 10 R (wnT hc63) (vI R) (dW 11 R (wnT hc63) (vIa sl24 sz33 R R hg12) (d_all [8, 12] (by kernel_rfl) R ⟨?_, ?_, trivial⟩)))))))))))))
 refine l_ldo (K := (kT33).share) 0 j53 R (wnT hc63) ag33 sz33 dT33.own R R (hg54 hc63).1 (hg54 hc63).2 ?_
 rintro ⟨⟨A57, D57⟩, ⟨A58, D58⟩⟩
 refine lN (RR kT3 A57 D57 ((ix l15 j53).Key) :: RR kT3 A58 D58 ((ix l15 j53).Weights) :: ow (kT33).share 33 (.slice (ad g55 o56) data1.length D2) l15 :: V) ?_
 refine l_nil (q_draw (sL [1, 0]) (d1 12 R (l_ldo (K := (kT33).share) 2 a3 R (wnT hc63) ag33 sz33 dT33.own R R hg12.1 hg12.2 ?_)))
 rintro ⟨⟨A59, D59⟩, ⟨A60, D60⟩⟩
 refine lN (RR kT3 A59 D59 ((ix l15 a3).Key) :: RR kT3 A60 D60 ((ix l15 a3).Weights) :: _ :: _ :: _ :: V) ?_
 refine l_nil (q_draw (sL [3, 2, 1, 0]) (d1 13 R (lM (rds _ _ _ :: rds _ _ _ :: rds _ _ _ :: rds _ _ _ :: rds _ _ _ :: rds _ _ _ :: rds _ _ _ :: rds _ _ _ :: ow _ _ _ _ :: V) (fun w s => (((((s.d 2 R).d 4 R).d 2 R).d 4 R).e 9 [3, 2, 1, 0, 4, 5, 6, 7, 8])) ?_)))
 refine l_callvn (fs := []) (cs := []) 4 R (wnT hc63) cb73 R R (Z9_ok (gcall_t hx62 hc63)) R ?_
 rintro _
 refine lN (_ :: _ :: _ :: _ :: _ :: V) ?_
 refine l_nil (q_draw (sL [3, 2, 1, 0]) (dW 14 R (wnT hc63) (vLt R R) (hS := (sL [3, 2, 1, 0])) (dW 15 R (wnT hc63) (vNo R) (hS := (sL [3, 2, 1, 0])) (dR 16 R (pAT R hc63 R) (hS := (sL [3, 2, 1, 0])) (dD ?_)))))
 exact qJ (fun w s => (s.e 5 [4]))
 refine l_ldo (K := (kT33).share) 0 a3 R (wnT hc63) ag33 sz33 dT33.own R R hg12.1 hg12.2 ?_
 rintro ⟨⟨A59, D59⟩, ⟨A60, D60⟩⟩
 refine lN (_ :: _ :: _ :: V) ?_
 refine l_nil (q_draw (sL [1, 0]) (d1 8 R (l_ldo (K := (kT33).share) 2 j53 R (wnT hc63) ag33 sz33 dT33.own R R (hg54 hc63).1 (hg54 hc63).2 ?_)))
 rintro ⟨⟨A57, D57⟩, ⟨A58, D58⟩⟩
 refine lN (RR kT3 A57 D57 ((ix l15 j53).Key) :: RR kT3 A58 D58 ((ix l15 j53).Weights) :: _ :: _ :: _ :: V) ?_
 refine l_nil (q_draw (sL [3, 2, 1, 0]) (d1 13 R (lM (rds _ _ _ :: rds _ _ _ :: rds _ _ _ :: rds _ _ _ :: rds _ _ _ :: rds _ _ _ :: rds _ _ _ :: rds _ _ _ :: ow _ _ _ _ :: V) (fun w s => (((((s.d 0 R).d 2 R).d 4 R).d 6 R).e 9 [3, 2, 1, 0, 4, 5, 6, 7, 8])) ?_)))
 refine l_callvn (fs := []) (cs := []) 4 R (wnT hc63) cb73 R R (Z9_ok (gcall_t hx62 hc63)) R ?_
 rintro _
 refine lN (_ :: _ :: _ :: _ :: _ :: V) ?_
 refine l_nil (q_draw (sL [3, 2, 1, 0]) (dW 14 R (wnT hc63) (vLt R R) (hS := (sL [3, 2, 1, 0])) (dW 15 R (wnT hc63) (vNo R) (hS := (sL [3, 2, 1, 0])) (dR 16 R (pAT R hc63 R) (hS := (sL [3, 2, 1, 0])) (dD ?_)))))
 exact qJ (fun w s => (s.e 5 [4]))
 refine cdr 17 [] mixo (fun ht hn => (dR 0 R (vI R) (dR 1 R (vI R) (dR 2 R (vLe R R) (dR 3 R (vB R) (dF 4 R (wfF hc63) (dF 5 R (wfF hc63) (dF 6 R (wfF hc63) (dF 7 R (wfF hc63) (dF 8 R (wfF hc63) (dF 9 R (wfF hc63) (dF 10 R (wfF hc63) (dF 11 R (wfF hc63) (dF 12 R (wfF hc63) (dF 13 R (wfF hc63) (dF 14 R (wfF hc63) (dF 15 R (wfF hc63) (dR 16 R (pAF (!(decide (r61 < (0 : Int)))) R hc63) (dD ?_)))))))))))))))))))
 exact qJ (fun w s => s)
 rintro σ1
 refine q_next ?_
 rcases bif_ hr with ⟨hb64, hr⟩ | ⟨hb64, hr⟩
 refine c_true R hb64 (c_skip (q_next (c_block (c_region (lI R (lO (vSb R R) (lI R (l_nil (q_blockn ?_)))))))))
 obtain rfl := so hr
 exact qA () (fun w s => s)
 refine c_false R hb64 (c_exit (q_exit ?_))
 obtain rfl := so hr
 obtain rfl := he2 _ R
 have hr := hk2
 refine q_exit (q_block ?_)
 exact qI (j53, ()) hr (fun w s => s)
 rintro ⟨j66, _⟩ σ1 hr
 replace hr : Z2_J2 data1 a3 l15 i41 j66 = some r := hr
 unfold Z2_J2 at hr
 refine c_seq (c_seq (c_region (lI R (lI R (lO (vGt R R) (l_nil (q_next ?_)))))))
 rcases bif_ hr with ⟨hb67, hr⟩ | ⟨hb67, hr⟩
 refine c_true R hb67 (c_seq ?_)
 obtain ⟨hg72, hr⟩ := gd hr
 refine cQ [(13, (iv j66))] (ow (kT33).share 33 (.slice A2 data1.length D2) ((l15.set j66.toNat (ix l15 a3)).set a3.toNat (ix l15 j66)) :: V) ?_ ?_
 refine c_some 0 sees_sh (show 0 < data1.length by have := hg12; omega) (fun g68 o69 ha => ?_)
 subst ha
 refine cdr 16 [0] mixo (fun ht hn => (dR 0 R (vS R) (hS := (sL [0])) (dR 1 R (vI R) (hS := (sL [0])) (dR 2 R (vS R) (hS := (sL [0])) (dR 3 R (vI R) (hS := (sL [0])) (dR 4 R (vS R) (hS := (sL [0])) (dR 5 R (vI R) (hS := (sL [0])) (dR 6 R (vIa sl24 sz33 R R hg12) (hS := (sL [0])) (dR 8 R (vS R) (hS := (sL [0])) (dR 9 R (vI R) (hS := (sL [0])) (dR 10 R (vIa sl24 sz33 R R hg72) (hS := (sL [0])) (d_all [7, 11] (by kernel_rfl) R ⟨?_, ?_, trivial⟩))))))))))))
 refine l_ldo (K := (kT33).share) 0 a3 R R ag33 sz33 dT33.own R R hg12.1 hg12.2 ?_
 rintro ⟨⟨A70, D70⟩, ⟨A71, D71⟩⟩
 refine lN (RR kT3 A70 D70 ((ix l15 a3).Key) :: RR kT3 A71 D71 ((ix l15 a3).Weights) :: ow (kT33).share 33 (.slice (ad g68 o69) data1.length D2) l15 :: V) ?_
 refine l_nil (q_draw (sL [2, 1, 0]) (d1 11 R (l_ldo (K := (kT33).share) 2 j66 R R ag33 sz33 dT33.own R R hg72.1 hg72.2 ?_)))
 rintro ⟨⟨A73, D73⟩, ⟨A74, D74⟩⟩
 refine lN (RR kT3 A73 D73 ((ix l15 j66).Key) :: RR kT3 A74 D74 ((ix l15 j66).Weights) :: _ :: _ :: _ :: V) ?_
 refine l_nil (q_draw (sL [4, 3, 2, 1, 0]) (dR 12 R (vIa sl24 sz33 R R hg72) (hS := (sL [4, 3, 2, 1, 0])) (d1 13 R (lM (ow _ _ _ _ :: rds _ _ _ :: rds _ _ _ :: rds _ _ _ :: rds _ _ _ :: rds _ _ _ :: rds _ _ _ :: V) (fun w s => (((s.d 2 R).d 4 R).e 7 [6, 1, 0, 2, 3, 4, 5])) ?_))))
 refine l_stx (K := (kT33).share) (x' := (ix l15 a3)) 2 j66 R R sz33 R R hg72.1 hg72.2 ?_ ?_
 exact fun I h s => (mS33).put I h ((sc A70 ((ix l15 a3).Key) D70), (sc A71 ((ix l15 a3).Weights) D71)) (ix l15 a3) s
 refine lN (ow (kT33).share 33 (.slice (ad g68 o69) data1.length D2) (l15.set j66.toNat (ix l15 a3)) :: _ :: _ :: _ :: _ :: V) ?_
 refine l_nil (q_draw (sL [4, 3, 2, 1, 0]) (dR 14 R (vIa sl24 sz33 R R hg12) (hS := (sL [4, 3, 2, 1, 0])) (d1 15 R (lM (ow _ _ _ _ :: rds _ _ _ :: rds _ _ _ :: rds _ _ _ :: rds _ _ _ :: rds _ _ _ :: rds _ _ _ :: V) (fun w s => (((s.d 1 R).d 3 R).e 7 [2, 1, 0, 3, 4, 5, 6])) ?_))))
 refine l_stx (K := (kT33).share) (x' := (ix l15 j66)) 2 a3 R R sz33 R R hg12.1 hg12.2 ?_ ?_
 exact fun I h s => (mS33).put I h ((sc A73 ((ix l15 j66).Key) D73), (sc A74 ((ix l15 j66).Weights) D74)) (ix l15 j66) s
 refine lN (ow (kT33).share 33 (.slice (ad g68 o69) data1.length D2) ((l15.set j66.toNat (ix l15 a3)).set a3.toNat (ix l15 j66)) :: _ :: _ :: _ :: _ :: V) ?_
 refine l_nil (q_draw (sL [4, 3, 2, 1, 0]) (dD ?_))
 exact qJ (fun w s => (s.e 5 [0]))
 refine l_ldo (K := (kT33).share) 0 j66 R R ag33 sz33 dT33.own R R hg72.1 hg72.2 ?_
 rintro ⟨⟨A73, D73⟩, ⟨A74, D74⟩⟩
 refine lN (_ :: _ :: ow (kT33).share 33 (.slice (ad g68 o69) data1.length D2) l15 :: V) ?_
 refine l_nil (q_draw (sL [2, 1, 0]) (d1 7 R (l_ldo (K := (kT33).share) 2 a3 R R ag33 sz33 dT33.own R R hg12.1 hg12.2 ?_)))
 rintro ⟨⟨A70, D70⟩, ⟨A71, D71⟩⟩
 refine lN (RR kT3 A70 D70 ((ix l15 a3).Key) :: RR kT3 A71 D71 ((ix l15 a3).Weights) :: _ :: _ :: _ :: V) ?_
 refine l_nil (q_draw (sL [4, 3, 2, 1, 0]) (dR 12 R (vIa sl24 sz33 R R hg72) (hS := (sL [4, 3, 2, 1, 0])) (d1 13 R (lM (ow _ _ _ _ :: rds _ _ _ :: rds _ _ _ :: rds _ _ _ :: rds _ _ _ :: rds _ _ _ :: rds _ _ _ :: V) (fun w s => (((s.d 0 R).d 2 R).e 7 [6, 1, 0, 2, 3, 4, 5])) ?_))))
 refine l_stx (K := (kT33).share) (x' := (ix l15 a3)) 2 j66 R R sz33 R R hg72.1 hg72.2 ?_ ?_
 exact fun I h s => (mS33).put I h ((sc A70 ((ix l15 a3).Key) D70), (sc A71 ((ix l15 a3).Weights) D71)) (ix l15 a3) s
 refine lN (ow (kT33).share 33 (.slice (ad g68 o69) data1.length D2) (l15.set j66.toNat (ix l15 a3)) :: _ :: _ :: _ :: _ :: V) ?_
 refine l_nil (q_draw (sL [4, 3, 2, 1, 0]) (dR 14 R (vIa sl24 sz33 R R hg12) (hS := (sL [4, 3, 2, 1, 0])) (d1 15 R (lM (ow _ _ _ _ :: rds _ _ _ :: rds _ _ _ :: rds _ _ _ :: rds _ _ _ :: rds _ _ _ :: rds _ _ _ :: V) (fun w s => (((s.d 3 R).d 5 R).e 7 [2, 1, 0, 3, 4, 5, 6])) ?_))))
 refine l_stx (K := (kT33).share) (x' := (ix l15 j66)) 2 a3 R R sz33 R R hg12.1 hg12.2 ?_ ?_
 exact fun I h s => (mS33).put I h ((sc A73 ((ix l15 j66).Key) D73), (sc A74 ((ix l15 j66).Weights) D74)) (ix l15 j66) s
 refine lN (ow (kT33).share 33 (.slice (ad g68 o69) data1.length D2) ((l15.set j66.toNat (ix l15 a3)).set a3.toNat (ix l15 j66)) :: _ :: _ :: _ :: _ :: V) ?_
 refine l_nil (q_draw (sL [4, 3, 2, 1, 0]) (dD ?_))
 exact qJ (fun w s => (s.e 5 [0]))
 rintro σ1
 refine q_next (c_seq (c_region (lI R (lI R (lB R (l_nil (q_next (c_ret (q_ret ?_)))))))))
 obtain rfl := so hr
 exact q_fin (vs := [(iv j66), (.bool true)]) (.inl R) () R ⟨R, R, trivial⟩ R (fun w s => s)
 refine c_false R hb67 (c_skip (q_next (c_seq ?_)))
 obtain ⟨hg75, hr⟩ := gd hr
 obtain ⟨hg80, hr⟩ := gd hr
 refine cQ [(0, (sc A2 data1 D2)), (1, (iv a3)), (4, (.func (.func 73) [].toArray [].toArray)), (12, (iv i41)), (13, (iv j66))] (ow (kT33).share 33 (.slice A2 data1.length D2) ((l15.set i41.toNat (ix l15 j66)).set j66.toNat (ix l15 i41)) :: V) ?_ ?_
 refine c_some 0 sees_sh (show 0 < data1.length by have := hg75; omega) (fun g76 o77 ha => ?_)
 subst ha
 refine cdr 16 [0] mixo (fun ht hn => (dR 0 R (vS R) (hS := (sL [0])) (dR 1 R (vI R) (hS := (sL [0])) (dR 2 R (vS R) (hS := (sL [0])) (dR 3 R (vI R) (hS := (sL [0])) (dR 4 R (vS R) (hS := (sL [0])) (dR 5 R (vI R) (hS := (sL [0])) (dR 6 R (vIa sl24 sz33 R R hg75) (hS := (sL [0])) (dR 8 R (vS R) (hS := (sL [0])) (dR 9 R (vI R) (hS := (sL [0])) (dR 10 R (vIa sl24 sz33 R R hg80) (hS := (sL [0])) (d_all [7, 11] (by kernel_rfl) R ⟨?_, ?_, trivial⟩))))))))))))
 refine l_ldo (K := (kT33).share) 0 j66 R R ag33 sz33 dT33.own R R hg75.1 hg75.2 ?_
 rintro ⟨⟨A78, D78⟩, ⟨A79, D79⟩⟩
 refine lN (RR kT3 A78 D78 ((ix l15 j66).Key) :: RR kT3 A79 D79 ((ix l15 j66).Weights) :: ow (kT33).share 33 (.slice (ad g76 o77) data1.length D2) l15 :: V) ?_
 refine l_nil (q_draw (sL [2, 1, 0]) (d1 11 R (l_ldo (K := (kT33).share) 2 i41 R R ag33 sz33 dT33.own R R hg80.1 hg80.2 ?_)))
 rintro ⟨⟨A81, D81⟩, ⟨A82, D82⟩⟩
 refine lN (RR kT3 A81 D81 ((ix l15 i41).Key) :: RR kT3 A82 D82 ((ix l15 i41).Weights) :: _ :: _ :: _ :: V) ?_
 refine l_nil (q_draw (sL [4, 3, 2, 1, 0]) (dR 12 R (vIa sl24 sz33 R R hg80) (hS := (sL [4, 3, 2, 1, 0])) (d1 13 R (lM (ow _ _ _ _ :: rds _ _ _ :: rds _ _ _ :: rds _ _ _ :: rds _ _ _ :: rds _ _ _ :: rds _ _ _ :: V) (fun w s => (((s.d 2 R).d 4 R).e 7 [6, 1, 0, 2, 3, 4, 5])) ?_))))
 refine l_stx (K := (kT33).share) (x' := (ix l15 j66)) 2 i41 R R sz33 R R hg80.1 hg80.2 ?_ ?_
 exact fun I h s => (mS33).put I h ((sc A78 ((ix l15 j66).Key) D78), (sc A79 ((ix l15 j66).Weights) D79)) (ix l15 j66) s
 refine lN (ow (kT33).share 33 (.slice (ad g76 o77) data1.length D2) (l15.set i41.toNat (ix l15 j66)) :: _ :: _ :: _ :: _ :: V) ?_
 refine l_nil (q_draw (sL [4, 3, 2, 1, 0]) (dR 14 R (vIa sl24 sz33 R R hg75) (hS := (sL [4, 3, 2, 1, 0])) (d1 15 R (lM (ow _ _ _ _ :: rds _ _ _ :: rds _ _ _ :: rds _ _ _ :: rds _ _ _ :: rds _ _ _ :: rds _ _ _ :: V) (fun w s => (((s.d 1 R).d 3 R).e 7 [2, 1, 0, 3, 4, 5, 6])) ?_))))
 refine l_stx (K := (kT33).share) (x' := (ix l15 i41)) 2 j66 R R sz33 R R hg75.1 hg75.2 ?_ ?_
 exact fun I h s => (mS33).put I h ((sc A81 ((ix l15 i41).Key) D81), (sc A82 ((ix l15 i41).Weights) D82)) (ix l15 i41) s
 refine lN (ow (kT33).share 33 (.slice (ad g76 o77) data1.length D2) ((l15.set i41.toNat (ix l15 j66)).set j66.toNat (ix l15 i41)) :: _ :: _ :: _ :: _ :: V) ?_
 refine l_nil (q_draw (sL [4, 3, 2, 1, 0]) (dD ?_))
 exact qJ (fun w s => (s.e 5 [0]))
 refine l_ldo (K := (kT33).share) 0 i41 R R ag33 sz33 dT33.own R R hg80.1 hg80.2 ?_
 rintro ⟨⟨A81, D81⟩, ⟨A82, D82⟩⟩
 refine lN (_ :: _ :: ow (kT33).share 33 (.slice (ad g76 o77) data1.length D2) l15 :: V) ?_
 refine l_nil (q_draw (sL [2, 1, 0]) (d1 7 R (l_ldo (K := (kT33).share) 2 j66 R R ag33 sz33 dT33.own R R hg75.1 hg75.2 ?_)))
 rintro ⟨⟨A78, D78⟩, ⟨A79, D79⟩⟩
 refine lN (RR kT3 A78 D78 ((ix l15 j66).Key) :: RR kT3 A79 D79 ((ix l15 j66).Weights) :: _ :: _ :: _ :: V) ?_
 refine l_nil (q_draw (sL [4, 3, 2, 1, 0]) (dR 12 R (vIa sl24 sz33 R R hg80) (hS := (sL [4, 3, 2, 1, 0])) (d1 13 R (lM (ow _ _ _ _ :: rds _ _ _ :: rds _ _ _ :: rds _ _ _ :: rds _ _ _ :: rds _ _ _ :: rds _ _ _ :: V) (fun w s => (((s.d 0 R).d 2 R).e 7 [6, 1, 0, 2, 3, 4, 5])) ?_))))
 refine l_stx (K := (kT33).share) (x' := (ix l15 j66)) 2 i41 R R sz33 R R hg80.1 hg80.2 ?_ ?_
 exact fun I h s => (mS33).put I h ((sc A78 ((ix l15 j66).Key) D78), (sc A79 ((ix l15 j66).Weights) D79)) (ix l15 j66) s
 refine lN (ow (kT33).share 33 (.slice (ad g76 o77) data1.length D2) (l15.set i41.toNat (ix l15 j66)) :: _ :: _ :: _ :: _ :: V) ?_
 refine l_nil (q_draw (sL [4, 3, 2, 1, 0]) (dR 14 R (vIa sl24 sz33 R R hg75) (hS := (sL [4, 3, 2, 1, 0])) (d1 15 R (lM (ow _ _ _ _ :: rds _ _ _ :: rds _ _ _ :: rds _ _ _ :: rds _ _ _ :: rds _ _ _ :: rds _ _ _ :: V) (fun w s => (((s.d 3 R).d 5 R).e 7 [2, 1, 0, 3, 4, 5, 6])) ?_))))
 refine l_stx (K := (kT33).share) (x' := (ix l15 i41)) 2 j66 R R sz33 R R hg75.1 hg75.2 ?_ ?_
 exact fun I h s => (mS33).put I h ((sc A81 ((ix l15 i41).Key) D81), (sc A82 ((ix l15 i41).Weights) D82)) (ix l15 i41) s
 refine lN (ow (kT33).share 33 (.slice (ad g76 o77) data1.length D2) ((l15.set i41.toNat (ix l15 j66)).set j66.toNat (ix l15 i41)) :: _ :: _ :: _ :: _ :: V) ?_
 refine l_nil (q_draw (sL [4, 3, 2, 1, 0]) (dD ?_))
 exact qJ (fun w s => (s.e 5 [0]))
 rintro σ1
 obtain ⟨l83, hl84, hr⟩ := bd hr
 replace hl84 := Option.some.inj hl84
 refine qM (ow (kT33).share 33 (.slice A2 data1.length D2) l83 :: V) (fun w s => by rw [← hl84]; exact s) ?_
 refine q_next (c_seq (c_region (lI R (lO (vAd R R) (lI R (l_nil (q_next (c_seq (c_region (lI R (lO (vSb R R) (lI R (l_nil (q_next (c_seq (c_cut (A := ((List Row) × Int) × (Unit)) (fun a => Z2_J7 data1 a3 a.1.1 a.1.2 = some r) (fun a => [(0, (sc A2 data1 D2)), (1, (iv a3)), (13, (iv a.1.2))]) (fun a => ow (kT33).share 33 (.slice A2 data1.length D2) a.1.1 :: V) ?_ ?_))))))))))))))))
 refine c_block ?_
 obtain ⟨e3, hl3, hk3⟩ := bd hr
 refine c_loop (A := Unit) hl3 (fun s a => [(0, (sc A2 data1 D2)), (1, (iv a3)), (4, (.func (.func 73) [].toArray [].toArray)), (12, (iv s.2.1)), (13, (iv s.2.2))]) (fun s a => ow (kT33).share 33 (.slice A2 data1.length D2) s.1 :: V) () (aS R) (fun w s => s) ?_
 rintro ⟨data146, i147, j148⟩ _ σ1 out3 hr he3
 replace hr : Z2_L3 data1 a3 data146 i147 j148 = some out3 := hr
 unfold Z2_L3 at hr
 refine c_block (c_seq (c_cut (A := (Int) × (Unit)) (fun a => Z2_J5 data1 a3 data146 j148 a.1 = some out3) (fun a => [(0, (sc A2 data1 D2)), (1, (iv a3)), (4, (.func (.func 73) [].toArray [].toArray)), (12, (iv a.1)), (13, (iv j148))]) (fun a => ow (kT33).share 33 (.slice A2 data1.length D2) data146 :: V) ?_ ?_))
 refine c_block ?_
 obtain ⟨e4, hl4, hk4⟩ := bd hr
 refine c_loop (A := Unit) hl4 (fun s a => [(0, (sc A2 data1 D2)), (1, (iv a3)), (4, (.func (.func 73) [].toArray [].toArray)), (12, (iv s)), (13, (iv j148))]) (fun s a => ow (kT33).share 33 (.slice A2 data1.length D2) data146 :: V) () (aS R) (fun w s => s) ?_
 rintro i160 _ σ1 out4 hr he4
 replace hr : Z2_L4 data1 a3 data146 j148 i160 = some out4 := hr
 unfold Z2_L4 at hr
 refine c_seq (c_seq ?_)
 obtain ⟨hg161, hr⟩ := gd hr
 obtain ⟨r168, hx169, hr⟩ := bd hr
 refine cQ [(0, (sc A2 data1 D2)), (1, (iv a3)), (4, (.func (.func 73) [].toArray [].toArray)), (12, (iv i160)), (13, (iv j148)), (120, (.bool ((decide (i160 ≤ j148)) && (decide (r168 < (0 : Int))))))] (ow (kT33).share 33 (.slice A2 data1.length D2) data146 :: V) ?_ ?_
 rcases bo (decide (i160 ≤ j148)) with hc170 | hc170
 refine c_some 0 sees_sh (show 0 < data1.length by have := (hg161 hc170); omega) (fun g162 o163 ha => ?_)
 subst ha
 refine cdr 16 [] mixo (fun ht hn => (dR 0 R (vI R) (dR 1 R (vI R) (dR 2 R (vLe R R) (dR 3 R (vB R) (dW 4 R (wnT hc170) (vp (.func (.func 73) [].toArray [].toArray) R) (dW 5 R (wnT hc170) (vS R) (dW 6 R (wnT hc170) (vI R) (dW 7 R (wnT hc170) (vIa sl24 sz33 R R (hg161 hc170)) (dW 9 R (wnT hc170) (vS R) (dW 10 R (wnT hc170) (vI R) (dW 11 R (wnT hc170) (vIa sl24 sz33 R R hg12) (d_all [8, 12] (by kernel_rfl) R ⟨?_, ?_, trivial⟩)))))))))))))
 refine l_ldo (K := (kT33).share) 0 i160 R (wnT hc170) ag33 sz33 dT33.own R R (hg161 hc170).1 (hg161 hc170).2 ?_
 rintro ⟨⟨A164, D164⟩, ⟨A165, D165⟩⟩
 refine lN (RR kT3 A164 D164 ((ix data146 i160).Key) :: RR kT3 A165 D165 ((ix data146 i160).Weights) :: ow (kT33).share 33 (.slice (ad g162 o163) data1.length D2) data146 :: V) ?_
 refine l_nil (q_draw (sL [1, 0]) (d1 12 R (l_ldo (K := (kT33).share) 2 a3 R (wnT hc170) ag33 sz33 dT33.own R R hg12.1 hg12.2 ?_)))
 rintro ⟨⟨A166, D166⟩, ⟨A167, D167⟩⟩
 refine lN (RR kT3 A166 D166 ((ix data146 a3).Key) :: RR kT3 A167 D167 ((ix data146 a3).Weights) :: _ :: _ :: _ :: V) ?_
 refine l_nil (q_draw (sL [3, 2, 1, 0]) (d1 13 R (lM (rds _ _ _ :: rds _ _ _ :: rds _ _ _ :: rds _ _ _ :: rds _ _ _ :: rds _ _ _ :: rds _ _ _ :: rds _ _ _ :: ow _ _ _ _ :: V) (fun w s => (((((s.d 2 R).d 4 R).d 2 R).d 4 R).e 9 [3, 2, 1, 0, 4, 5, 6, 7, 8])) ?_)))
 refine l_callvn (fs := []) (cs := []) 4 R (wnT hc170) cb73 R R (Z9_ok (gcall_t hx169 hc170)) R ?_
 rintro _
 refine lN (_ :: _ :: _ :: _ :: _ :: V) ?_
 refine l_nil (q_draw (sL [3, 2, 1, 0]) (dW 14 R (wnT hc170) (vLt R R) (hS := (sL [3, 2, 1, 0])) (dR 15 R (pAT R hc170 R) (hS := (sL [3, 2, 1, 0])) (dD ?_))))
 exact qJ (fun w s => (s.e 5 [4]))
 refine l_ldo (K := (kT33).share) 0 a3 R (wnT hc170) ag33 sz33 dT33.own R R hg12.1 hg12.2 ?_
 rintro ⟨⟨A166, D166⟩, ⟨A167, D167⟩⟩
 refine lN (_ :: _ :: _ :: V) ?_
 refine l_nil (q_draw (sL [1, 0]) (d1 8 R (l_ldo (K := (kT33).share) 2 i160 R (wnT hc170) ag33 sz33 dT33.own R R (hg161 hc170).1 (hg161 hc170).2 ?_)))
 rintro ⟨⟨A164, D164⟩, ⟨A165, D165⟩⟩
 refine lN (RR kT3 A164 D164 ((ix data146 i160).Key) :: RR kT3 A165 D165 ((ix data146 i160).Weights) :: _ :: _ :: _ :: V) ?_
 refine l_nil (q_draw (sL [3, 2, 1, 0]) (d1 13 R (lM (rds _ _ _ :: rds _ _ _ :: rds _ _ _ :: rds _ _ _ :: rds _ _ _ :: rds _ _ _ :: rds _ _ _ :: rds _ _ _ :: ow _ _ _ _ :: V) (fun w s => (((((s.d 0 R).d 2 R).d 4 R).d 6 R).e 9 [3, 2, 1, 0, 4, 5, 6, 7, 8])) ?_)))
 refine l_callvn (fs := []) (cs := []) 4 R (wnT hc170) cb73 R R (Z9_ok (gcall_t hx169 hc170)) R ?_
 rintro _
 refine lN (_ :: _ :: _ :: _ :: _ :: V) ?_
 refine l_nil (q_draw (sL [3, 2, 1, 0]) (dW 14 R (wnT hc170) (vLt R R) (hS := (sL [3, 2, 1, 0])) (dR 15 R (pAT R hc170 R) (hS := (sL [3, 2, 1, 0])) (dD ?_))))
 exact qJ (fun w s => (s.e 5 [4]))
 refine cdr 16 [] mixo (fun ht hn => (dR 0 R (vI R) (dR 1 R (vI R) (dR 2 R (vLe R R) (dR 3 R (vB R) (dF 4 R (wfF hc170) (dF 5 R (wfF hc170) (dF 6 R (wfF hc170) (dF 7 R (wfF hc170) (dF 8 R (wfF hc170) (dF 9 R (wfF hc170) (dF 10 R (wfF hc170) (dF 11 R (wfF hc170) (dF 12 R (wfF hc170) (dF 13 R (wfF hc170) (dF 14 R (wfF hc170) (dR 15 R (pAF (decide (r168 < (0 : Int))) R hc170) (dD ?_))))))))))))))))))
 exact qJ (fun w s => s)
 rintro σ1
 refine q_next ?_
 rcases bif_ hr with ⟨hb171, hr⟩ | ⟨hb171, hr⟩
 refine c_true R hb171 (c_skip (q_next (c_block (c_region (lI R (lO (vAd R R) (lI R (l_nil (q_blockn ?_)))))))))
 obtain rfl := so hr
 exact qA () (fun w s => s)
 refine c_false R hb171 (c_exit (q_exit ?_))
 obtain rfl := so hr
 obtain rfl := he4 _ R
 have hr := hk4
 refine q_exit (q_block ?_)
 exact qI (i160, ()) hr (fun w s => s)
 rintro ⟨i173, _⟩ σ1 hr
 replace hr : Z2_J5 data1 a3 data146 j148 i173 = some out3 := hr
 unfold Z2_J5 at hr
 refine c_seq (c_cut (A := (Int) × (Unit)) (fun a => Z2_J6 data1 data146 i173 a.1 = some out3) (fun a => [(0, (sc A2 data1 D2)), (1, (iv a3)), (4, (.func (.func 73) [].toArray [].toArray)), (12, (iv i173)), (13, (iv a.1))]) (fun a => ow (kT33).share 33 (.slice A2 data1.length D2) data146 :: V) ?_ ?_)
 refine c_block ?_
 obtain ⟨e5, hl5, hk5⟩ := bd hr
 refine c_loop (A := Unit) hl5 (fun s a => [(0, (sc A2 data1 D2)), (1, (iv a3)), (4, (.func (.func 73) [].toArray [].toArray)), (12, (iv i173)), (13, (iv s))]) (fun s a => ow (kT33).share 33 (.slice A2 data1.length D2) data146 :: V) () (aS R) (fun w s => s) ?_
 rintro j185 _ σ1 out5 hr he5
 replace hr : Z2_L5 data1 a3 data146 i173 j185 = some out5 := hr
 unfold Z2_L5 at hr
 refine c_seq (c_seq ?_)
 obtain ⟨hg186, hr⟩ := gd hr
 obtain ⟨r193, hx194, hr⟩ := bd hr
 refine cQ [(0, (sc A2 data1 D2)), (1, (iv a3)), (4, (.func (.func 73) [].toArray [].toArray)), (12, (iv i173)), (13, (iv j185)), (139, (.bool ((decide (i173 ≤ j185)) && (!(decide (r193 < (0 : Int)))))))] (ow (kT33).share 33 (.slice A2 data1.length D2) data146 :: V) ?_ ?_
 rcases bo (decide (i173 ≤ j185)) with hc195 | hc195
 refine c_some 0 sees_sh (show 0 < data1.length by have := (hg186 hc195); omega) (fun g187 o188 ha => ?_)
 subst ha
 refine cdr 17 [] mixo (fun ht hn => (dR 0 R (vI R) (dR 1 R (vI R) (dR 2 R (vLe R R) (dR 3 R (vB R) (dW 4 R (wnT hc195) (vp (.func (.func 73) [].toArray [].toArray) R) (dW 5 R (wnT hc195) (vS R) (dW 6 R (wnT hc195) (vI R) (dW 7 R (wnT hc195) (vIa sl24 sz33 R R (hg186 hc195)) (dW 9 R (wnT hc195) (vS R) (dW 10 R (wnT hc195) (vI R) (dW 11 R (wnT hc195) (vIa sl24 sz33 R R hg12) (d_all [8, 12] (by kernel_rfl) R ⟨?_, ?_, trivial⟩)))))))))))))
 refine l_ldo (K := (kT33).share) 0 j185 R (wnT hc195) ag33 sz33 dT33.own R R (hg186 hc195).1 (hg186 hc195).2 ?_
 rintro ⟨⟨A189, D189⟩, ⟨A190, D190⟩⟩
 refine lN (RR kT3 A189 D189 ((ix data146 j185).Key) :: RR kT3 A190 D190 ((ix data146 j185).Weights) :: ow (kT33).share 33 (.slice (ad g187 o188) data1.length D2) data146 :: V) ?_
 refine l_nil (q_draw (sL [1, 0]) (d1 12 R (l_ldo (K := (kT33).share) 2 a3 R (wnT hc195) ag33 sz33 dT33.own R R hg12.1 hg12.2 ?_)))
 rintro ⟨⟨A191, D191⟩, ⟨A192, D192⟩⟩
 refine lN (RR kT3 A191 D191 ((ix data146 a3).Key) :: RR kT3 A192 D192 ((ix data146 a3).Weights) :: _ :: _ :: _ :: V) ?_
 refine l_nil (q_draw (sL [3, 2, 1, 0]) (d1 13 R (lM (rds _ _ _ :: rds _ _ _ :: rds _ _ _ :: rds _ _ _ :: rds _ _ _ :: rds _ _ _ :: rds _ _ _ :: rds _ _ _ :: ow _ _ _ _ :: V) (fun w s => (((((s.d 2 R).d 4 R).d 2 R).d 4 R).e 9 [3, 2, 1, 0, 4, 5, 6, 7, 8])) ?_)))
 refine l_callvn (fs := []) (cs := []) 4 R (wnT hc195) cb73 R R (Z9_ok (gcall_t hx194 hc195)) R ?_
 rintro _
 refine lN (_ :: _ :: _ :: _ :: _ :: V) ?_
 refine l_nil (q_draw (sL [3, 2, 1, 0]) (dW 14 R (wnT hc195) (vLt R R) (hS := (sL [3, 2, 1, 0])) (dW 15 R (wnT hc195) (vNo R) (hS := (sL [3, 2, 1, 0])) (dR 16 R (pAT R hc195 R) (hS := (sL [3, 2, 1, 0])) (dD ?_)))))
 exact qJ (fun w s => (s.e 5 [4]))
 refine l_ldo (K := (kT33).share) 0 a3 R (wnT hc195) ag33 sz33 dT33.own R R hg12.1 hg12.2 ?_
 rintro ⟨⟨A191, D191⟩, ⟨A192, D192⟩⟩
 refine lN (_ :: _ :: _ :: V) ?_
 refine l_nil (q_draw (sL [1, 0]) (d1 8 R (l_ldo (K := (kT33).share) 2 j185 R (wnT hc195) ag33 sz33 dT33.own R R (hg186 hc195).1 (hg186 hc195).2 ?_)))
 rintro ⟨⟨A189, D189⟩, ⟨A190, D190⟩⟩
 refine lN (RR kT3 A189 D189 ((ix data146 j185).Key) :: RR kT3 A190 D190 ((ix data146 j185).Weights) :: _ :: _ :: _ :: V) ?_
 refine l_nil (q_draw (sL [3, 2, 1, 0]) (d1 13 R (lM (rds _ _ _ :: rds _ _ _ :: rds _ _ _ :: rds _ _ _ :: rds _ _ _ :: rds _ _ _ :: rds _ _ _ :: rds _ _ _ :: ow _ _ _ _ :: V) (fun w s => (((((s.d 0 R).d 2 R).d 4 R).d 6 R).e 9 [3, 2, 1, 0, 4, 5, 6, 7, 8])) ?_)))
 refine l_callvn (fs := []) (cs := []) 4 R (wnT hc195) cb73 R R (Z9_ok (gcall_t hx194 hc195)) R ?_
 rintro _
 refine lN (_ :: _ :: _ :: _ :: _ :: V) ?_
 refine l_nil (q_draw (sL [3, 2, 1, 0]) (dW 14 R (wnT hc195) (vLt R R) (hS := (sL [3, 2, 1, 0])) (dW 15 R (wnT hc195) (vNo R) (hS := (sL [3, 2, 1, 0])) (dR 16 R (pAT R hc195 R) (hS := (sL [3, 2, 1, 0])) (dD ?_)))))
 exact qJ (fun w s => (s.e 5 [4]))
 refine cdr 17 [] mixo (fun ht hn => (dR 0 R (vI R) (dR 1 R (vI R) (dR 2 R (vLe R R) (dR 3 R (vB R) (dF 4 R (wfF hc195) (dF 5 R (wfF hc195) (dF 6 R (wfF hc195) (dF 7 R (wfF hc195) (dF 8 R (wfF hc195) (dF 9 R (wfF hc195) (dF 10 R (wfF hc195) (dF 11 R (wfF hc195) (dF 12 R (wfF hc195) (dF 13 R (wfF hc195) (dF 14 R (wfF hc195) (dF 15 R (wfF hc195) (dR 16 R (pAF (!(decide (r193 < (0 : Int)))) R hc195) (dD ?_)))))))))))))))))))
 exact qJ (fun w s => s)
 rintro σ1
 refine q_next ?_
 rcases bif_ hr with ⟨hb196, hr⟩ | ⟨hb196, hr⟩
 refine c_true R hb196 (c_skip (q_next (c_block (c_region (lI R (lO (vSb R R) (lI R (l_nil (q_blockn ?_)))))))))
 obtain rfl := so hr
 exact qA () (fun w s => s)
 refine c_false R hb196 (c_exit (q_exit ?_))
 obtain rfl := so hr
 obtain rfl := he5 _ R
 have hr := hk5
 refine q_exit (q_block ?_)
 exact qI (j185, ()) hr (fun w s => s)
 rintro ⟨j198, _⟩ σ1 hr
 replace hr : Z2_J6 data1 data146 i173 j198 = some out3 := hr
 unfold Z2_J6 at hr
 refine c_seq (c_seq (c_region (lI R (lI R (lO (vGt R R) (l_nil (q_next ?_)))))))
 rcases bif_ hr with ⟨hb199, hr⟩ | ⟨hb199, hr⟩
 refine c_true R hb199 (c_exit (q_exit (q_pass R ?_)))
 obtain rfl := so hr
 obtain rfl := he3 _ R
 have hr := hk3
 refine q_exit (q_block ?_)
 exact qI ((data146, j198), ()) hr (fun w s => s)
 refine c_false R hb199 (c_skip (q_next (c_seq ?_)))
 obtain ⟨hg200, hr⟩ := gd hr
 obtain ⟨hg205, hr⟩ := gd hr
 refine cQ [(0, (sc A2 data1 D2)), (1, (iv a3)), (4, (.func (.func 73) [].toArray [].toArray)), (12, (iv i173)), (13, (iv j198))] (ow (kT33).share 33 (.slice A2 data1.length D2) ((data146.set i173.toNat (ix data146 j198)).set j198.toNat (ix data146 i173)) :: V) ?_ ?_
 refine c_some 0 sees_sh (show 0 < data1.length by have := hg200; omega) (fun g201 o202 ha => ?_)
 subst ha
 refine cdr 16 [0] mixo (fun ht hn => (dR 0 R (vS R) (hS := (sL [0])) (dR 1 R (vI R) (hS := (sL [0])) (dR 2 R (vS R) (hS := (sL [0])) (dR 3 R (vI R) (hS := (sL [0])) (dR 4 R (vS R) (hS := (sL [0])) (dR 5 R (vI R) (hS := (sL [0])) (dR 6 R (vIa sl24 sz33 R R hg200) (hS := (sL [0])) (dR 8 R (vS R) (hS := (sL [0])) (dR 9 R (vI R) (hS := (sL [0])) (dR 10 R (vIa sl24 sz33 R R hg205) (hS := (sL [0])) (d_all [7, 11] (by kernel_rfl) R ⟨?_, ?_, trivial⟩))))))))))))
 refine l_ldo (K := (kT33).share) 0 j198 R R ag33 sz33 dT33.own R R hg200.1 hg200.2 ?_
 rintro ⟨⟨A203, D203⟩, ⟨A204, D204⟩⟩
 refine lN (RR kT3 A203 D203 ((ix data146 j198).Key) :: RR kT3 A204 D204 ((ix data146 j198).Weights) :: ow (kT33).share 33 (.slice (ad g201 o202) data1.length D2) data146 :: V) ?_
 refine l_nil (q_draw (sL [2, 1, 0]) (d1 11 R (l_ldo (K := (kT33).share) 2 i173 R R ag33 sz33 dT33.own R R hg205.1 hg205.2 ?_)))
 rintro ⟨⟨A206, D206⟩, ⟨A207, D207⟩⟩
 refine lN (RR kT3 A206 D206 ((ix data146 i173).Key) :: RR kT3 A207 D207 ((ix data146 i173).Weights) :: _ :: _ :: _ :: V) ?_
 refine l_nil (q_draw (sL [4, 3, 2, 1, 0]) (dR 12 R (vIa sl24 sz33 R R hg205) (hS := (sL [4, 3, 2, 1, 0])) (d1 13 R (lM (ow _ _ _ _ :: rds _ _ _ :: rds _ _ _ :: rds _ _ _ :: rds _ _ _ :: rds _ _ _ :: rds _ _ _ :: V) (fun w s => (((s.d 2 R).d 4 R).e 7 [6, 1, 0, 2, 3, 4, 5])) ?_))))
 refine l_stx (K := (kT33).share) (x' := (ix data146 j198)) 2 i173 R R sz33 R R hg205.1 hg205.2 ?_ ?_
 exact fun I h s => (mS33).put I h ((sc A203 ((ix data146 j198).Key) D203), (sc A204 ((ix data146 j198).Weights) D204)) (ix data146 j198) s
 refine lN (ow (kT33).share 33 (.slice (ad g201 o202) data1.length D2) (data146.set i173.toNat (ix data146 j198)) :: _ :: _ :: _ :: _ :: V) ?_
 refine l_nil (q_draw (sL [4, 3, 2, 1, 0]) (dR 14 R (vIa sl24 sz33 R R hg200) (hS := (sL [4, 3, 2, 1, 0])) (d1 15 R (lM (ow _ _ _ _ :: rds _ _ _ :: rds _ _ _ :: rds _ _ _ :: rds _ _ _ :: rds _ _ _ :: rds _ _ _ :: V) (fun w s => (((s.d 1 R).d 3 R).e 7 [2, 1, 0, 3, 4, 5, 6])) ?_))))
 refine l_stx (K := (kT33).share) (x' := (ix data146 i173)) 2 j198 R R sz33 R R hg200.1 hg200.2 ?_ ?_
 exact fun I h s => (mS33).put I h ((sc A206 ((ix data146 i173).Key) D206), (sc A207 ((ix data146 i173).Weights) D207)) (ix data146 i173) s
 refine lN (ow (kT33).share 33 (.slice (ad g201 o202) data1.length D2) ((data146.set i173.toNat (ix data146 j198)).set j198.toNat (ix data146 i173)) :: _ :: _ :: _ :: _ :: V) ?_
 refine l_nil (q_draw (sL [4, 3, 2, 1, 0]) (dD ?_))
 exact qJ (fun w s => (s.e 5 [0]))
 refine l_ldo (K := (kT33).share) 0 i173 R R ag33 sz33 dT33.own R R hg205.1 hg205.2 ?_
 rintro ⟨⟨A206, D206⟩, ⟨A207, D207⟩⟩
 refine lN (_ :: _ :: ow (kT33).share 33 (.slice (ad g201 o202) data1.length D2) data146 :: V) ?_
 refine l_nil (q_draw (sL [2, 1, 0]) (d1 7 R (l_ldo (K := (kT33).share) 2 j198 R R ag33 sz33 dT33.own R R hg200.1 hg200.2 ?_)))
 rintro ⟨⟨A203, D203⟩, ⟨A204, D204⟩⟩
 refine lN (RR kT3 A203 D203 ((ix data146 j198).Key) :: RR kT3 A204 D204 ((ix data146 j198).Weights) :: _ :: _ :: _ :: V) ?_
 refine l_nil (q_draw (sL [4, 3, 2, 1, 0]) (dR 12 R (vIa sl24 sz33 R R hg205) (hS := (sL [4, 3, 2, 1, 0])) (d1 13 R (lM (ow _ _ _ _ :: rds _ _ _ :: rds _ _ _ :: rds _ _ _ :: rds _ _ _ :: rds _ _ _ :: rds _ _ _ :: V) (fun w s => (((s.d 0 R).d 2 R).e 7 [6, 1, 0, 2, 3, 4, 5])) ?_))))
 refine l_stx (K := (kT33).share) (x' := (ix data146 j198)) 2 i173 R R sz33 R R hg205.1 hg205.2 ?_ ?_
 exact fun I h s => (mS33).put I h ((sc A203 ((ix data146 j198).Key) D203), (sc A204 ((ix data146 j198).Weights) D204)) (ix data146 j198) s
 refine lN (ow (kT33).share 33 (.slice (ad g201 o202) data1.length D2) (data146.set i173.toNat (ix data146 j198)) :: _ :: _ :: _ :: _ :: V) ?_
 refine l_nil (q_draw (sL [4, 3, 2, 1, 0]) (dR 14 R (vIa sl24 sz33 R R hg200) (hS := (sL [4, 3, 2, 1, 0])) (d1 15 R (lM (ow _ _ _ _ :: rds _ _ _ :: rds _ _ _ :: rds _ _ _ :: rds _ _ _ :: rds _ _ _ :: rds _ _ _ :: V) (fun w s => (((s.d 3 R).d 5 R).e 7 [2, 1, 0, 3, 4, 5, 6])) ?_))))
 refine l_stx (K := (kT33).share) (x' := (ix data146 i173)) 2 j198 R R sz33 R R hg200.1 hg200.2 ?_ ?_
 exact fun I h s => (mS33).put I h ((sc A206 ((ix data146 i173).Key) D206), (sc A207 ((ix data146 i173).Weights) D207)) (ix data146 i173) s
 refine lN (ow (kT33).share 33 (.slice (ad g201 o202) data1.length D2) ((data146.set i173.toNat (ix data146 j198)).set j198.toNat (ix data146 i173)) :: _ :: _ :: _ :: _ :: V) ?_
 refine l_nil (q_draw (sL [4, 3, 2, 1, 0]) (dD ?_))
 exact qJ (fun w s => (s.e 5 [0]))
 rintro σ1
 obtain ⟨l208, hl209, hr⟩ := bd hr
 replace hl209 := Option.some.inj hl209
 refine qM (ow (kT33).share 33 (.slice A2 data1.length D2) l208 :: V) (fun w s => by rw [← hl209]; exact s) ?_
 refine q_next (c_seq (c_region (lI R (lO (vAd R R) (lI R (l_nil (q_next (c_region (lI R (lO (vSb R R) (lI R (l_nil (q_blockn ?_)))))))))))))
 obtain rfl := so hr
 exact qA () (fun w s => s)
 rintro ⟨⟨data213, j214⟩, _⟩ σ1 hr
 replace hr : Z2_J7 data1 a3 data213 j214 = some r := hr
 unfold Z2_J7 at hr
 refine c_seq ?_
 obtain ⟨hg219, hr⟩ := gd hr
 refine cQ [(13, (iv j214))] (ow (kT33).share 33 (.slice A2 data1.length D2) ((data213.set j214.toNat (ix data213 a3)).set a3.toNat (ix data213 j214)) :: V) ?_ ?_
 refine c_some 0 sees_sh (show 0 < data1.length by have := hg12; omega) (fun g215 o216 ha => ?_)
 subst ha
 refine cdr 16 [0] mixo (fun ht hn => (dR 0 R (vS R) (hS := (sL [0])) (dR 1 R (vI R) (hS := (sL [0])) (dR 2 R (vS R) (hS := (sL [0])) (dR 3 R (vI R) (hS := (sL [0])) (dR 4 R (vS R) (hS := (sL [0])) (dR 5 R (vI R) (hS := (sL [0])) (dR 6 R (vIa sl24 sz33 R R hg12) (hS := (sL [0])) (dR 8 R (vS R) (hS := (sL [0])) (dR 9 R (vI R) (hS := (sL [0])) (dR 10 R (vIa sl24 sz33 R R hg219) (hS := (sL [0])) (d_all [7, 11] (by kernel_rfl) R ⟨?_, ?_, trivial⟩))))))))))))
 refine l_ldo (K := (kT33).share) 0 a3 R R ag33 sz33 dT33.own R R hg12.1 hg12.2 ?_
 rintro ⟨⟨A217, D217⟩, ⟨A218, D218⟩⟩
 refine lN (RR kT3 A217 D217 ((ix data213 a3).Key) :: RR kT3 A218 D218 ((ix data213 a3).Weights) :: ow (kT33).share 33 (.slice (ad g215 o216) data1.length D2) data213 :: V) ?_
 refine l_nil (q_draw (sL [2, 1, 0]) (d1 11 R (l_ldo (K := (kT33).share) 2 j214 R R ag33 sz33 dT33.own R R hg219.1 hg219.2 ?_)))
 rintro ⟨⟨A220, D220⟩, ⟨A221, D221⟩⟩
 refine lN (RR kT3 A220 D220 ((ix data213 j214).Key) :: RR kT3 A221 D221 ((ix data213 j214).Weights) :: _ :: _ :: _ :: V) ?_
 refine l_nil (q_draw (sL [4, 3, 2, 1, 0]) (dR 12 R (vIa sl24 sz33 R R hg219) (hS := (sL [4, 3, 2, 1, 0])) (d1 13 R (lM (ow _ _ _ _ :: rds _ _ _ :: rds _ _ _ :: rds _ _ _ :: rds _ _ _ :: rds _ _ _ :: rds _ _ _ :: V) (fun w s => (((s.d 2 R).d 4 R).e 7 [6, 1, 0, 2, 3, 4, 5])) ?_))))
 refine l_stx (K := (kT33).share) (x' := (ix data213 a3)) 2 j214 R R sz33 R R hg219.1 hg219.2 ?_ ?_
 exact fun I h s => (mS33).put I h ((sc A217 ((ix data213 a3).Key) D217), (sc A218 ((ix data213 a3).Weights) D218)) (ix data213 a3) s
 refine lN (ow (kT33).share 33 (.slice (ad g215 o216) data1.length D2) (data213.set j214.toNat (ix data213 a3)) :: _ :: _ :: _ :: _ :: V) ?_
 refine l_nil (q_draw (sL [4, 3, 2, 1, 0]) (dR 14 R (vIa sl24 sz33 R R hg12) (hS := (sL [4, 3, 2, 1, 0])) (d1 15 R (lM (ow _ _ _ _ :: rds _ _ _ :: rds _ _ _ :: rds _ _ _ :: rds _ _ _ :: rds _ _ _ :: rds _ _ _ :: V) (fun w s => (((s.d 1 R).d 3 R).e 7 [2, 1, 0, 3, 4, 5, 6])) ?_))))
 refine l_stx (K := (kT33).share) (x' := (ix data213 j214)) 2 a3 R R sz33 R R hg12.1 hg12.2 ?_ ?_
 exact fun I h s => (mS33).put I h ((sc A220 ((ix data213 j214).Key) D220), (sc A221 ((ix data213 j214).Weights) D221)) (ix data213 j214) s
 refine lN (ow (kT33).share 33 (.slice (ad g215 o216) data1.length D2) ((data213.set j214.toNat (ix data213 a3)).set a3.toNat (ix data213 j214)) :: _ :: _ :: _ :: _ :: V) ?_
 refine l_nil (q_draw (sL [4, 3, 2, 1, 0]) (dD ?_))
 exact qJ (fun w s => (s.e 5 [0]))
 refine l_ldo (K := (kT33).share) 0 j214 R R ag33 sz33 dT33.own R R hg219.1 hg219.2 ?_
 rintro ⟨⟨A220, D220⟩, ⟨A221, D221⟩⟩
 refine lN (_ :: _ :: ow (kT33).share 33 (.slice (ad g215 o216) data1.length D2) data213 :: V) ?_
 refine l_nil (q_draw (sL [2, 1, 0]) (d1 7 R (l_ldo (K := (kT33).share) 2 a3 R R ag33 sz33 dT33.own R R hg12.1 hg12.2 ?_)))
 rintro ⟨⟨A217, D217⟩, ⟨A218, D218⟩⟩
 refine lN (RR kT3 A217 D217 ((ix data213 a3).Key) :: RR kT3 A218 D218 ((ix data213 a3).Weights) :: _ :: _ :: _ :: V) ?_
 refine l_nil (q_draw (sL [4, 3, 2, 1, 0]) (dR 12 R (vIa sl24 sz33 R R hg219) (hS := (sL [4, 3, 2, 1, 0])) (d1 13 R (lM (ow _ _ _ _ :: rds _ _ _ :: rds _ _ _ :: rds _ _ _ :: rds _ _ _ :: rds _ _ _ :: rds _ _ _ :: V) (fun w s => (((s.d 0 R).d 2 R).e 7 [6, 1, 0, 2, 3, 4, 5])) ?_))))
 refine l_stx (K := (kT33).share) (x' := (ix data213 a3)) 2 j214 R R sz33 R R hg219.1 hg219.2 ?_ ?_
 exact fun I h s => (mS33).put I h ((sc A217 ((ix data213 a3).Key) D217), (sc A218 ((ix data213 a3).Weights) D218)) (ix data213 a3) s
 refine lN (ow (kT33).share 33 (.slice (ad g215 o216) data1.length D2) (data213.set j214.toNat (ix data213 a3)) :: _ :: _ :: _ :: _ :: V) ?_
 refine l_nil (q_draw (sL [4, 3, 2, 1, 0]) (dR 14 R (vIa sl24 sz33 R R hg12) (hS := (sL [4, 3, 2, 1, 0])) (d1 15 R (lM (ow _ _ _ _ :: rds _ _ _ :: rds _ _ _ :: rds _ _ _ :: rds _ _ _ :: rds _ _ _ :: rds _ _ _ :: V) (fun w s => (((s.d 3 R).d 5 R).e 7 [2, 1, 0, 3, 4, 5, 6])) ?_))))
 refine l_stx (K := (kT33).share) (x' := (ix data213 j214)) 2 a3 R R sz33 R R hg12.1 hg12.2 ?_ ?_
 exact fun I h s => (mS33).put I h ((sc A220 ((ix data213 j214).Key) D220), (sc A221 ((ix data213 j214).Weights) D221)) (ix data213 j214) s
 refine lN (ow (kT33).share 33 (.slice (ad g215 o216) data1.length D2) ((data213.set j214.toNat (ix data213 a3)).set a3.toNat (ix data213 j214)) :: _ :: _ :: _ :: _ :: V) ?_
 refine l_nil (q_draw (sL [4, 3, 2, 1, 0]) (dD ?_))
 exact qJ (fun w s => (s.e 5 [0]))
 rintro σ1
 obtain ⟨l222, hl223, hr⟩ := bd hr
 replace hl223 := Option.some.inj hl223
 refine qM (ow (kT33).share 33 (.slice A2 data1.length D2) l222 :: V) (fun w s => by rw [← hl223]; exact s) ?_
 refine q_next (c_seq (c_region (lI R (lI R (lB R (l_nil (q_next (c_ret ?_))))))))
 obtain rfl := so hr
 exact q_fin (vs := [(iv j214), (.bool false)]) (.inl R) () R ⟨R, R, trivial⟩ R (fun w s => s)
theorem Z19_ok  {length1 : Int} {r : Int} (hr : Z19 length1 = some r) :
 FnOk Try.prog 103 [(iv length1)] [] (fun (h : Unit) => ((.int .u64 r), [])) := by
 unfold Z19 at hr
 refine fn_ok Try.func103 R 7 R R fun C V => ?_
 refine cN V ?_
 refine c_seq (c_region (lI R (l_nil (q_next (c_seq ?_)))))
 obtain ⟨r2, hx3, hr⟩ := bd hr
 obtain ⟨hg4, hr⟩ := gd hr
 refine c_region (lI R (lO (vz (.int .u64 (IntKind.wrap .u64 (length1))) (v_conv un3 un92 R)) (lC 0 cb87 R (Z10_ok hx3) R ?_)))
 rintro _
 refine lO (vz (.int .u64 (IntKind.wrap .u64 ((1 : Int) * 2 ^ r2.toNat))) (v_shl R R hg4.1 hg4.2)) (lI R (l_nil (q_next (c_ret ?_))))
 obtain rfl := so hr
 exact qF () (fun w s => s)
theorem Z1a_ok  {r1 : Int} {b2 : Nat} {r : Int × Int} (hr : Z1a r1 = some r) :
 FnOk Try.prog 104 [(pt b2 0)] [bxl b2 [(.int .u64 r1)] 120] (fun (h : Unit) => ((.int .u64 r.1), [bxl b2 [(.int .u64 r.2)] 120])) := by
 unfold Z1a at hr
 refine fn_ok Try.func104 R 33 R R fun C V => ?_
 refine cN (_ :: V) ?_
 refine c_seq (c_region (lI R (l_nil (q_next (c_seq (cQ [(0, (pt b2 0))] (bxl b2 [(.int .u64 (bits .xor .u64 r1 (IntKind.wrap .u64 (r1 * 2 ^ (13 : Int).toNat))))] 120 :: V) ?_ ?_))))))
 refine cdr 10 [0] mixo (fun ht hn => (dR 0 R (vP R) (hS := (sL [0])) (dR 1 R (vP R) (hS := (sL [0])) (dR 3 R (vP R) (hS := (sL [0])) (dR 4 R (vP R) (hS := (sL [0])) (d_all [2, 5] (by kernel_rfl) R ⟨?_, ?_, trivial⟩))))))
 refine lO (vLd 0 ag120 R R R) (l_nil (q_draw (sL [0]) (d1 5 R (lO (vLd 0 ag120 R R R) (l_nil (q_draw (sL [0]) (dR 6 R (vz (.int .u64 (IntKind.wrap .u64 (r1 * 2 ^ (13 : Int).toNat))) (v_shl R R (by decide) (by decide))) (hS := (sL [0])) (dR 7 R (vp (.int .u64 (bits .xor .u64 r1 (IntKind.wrap .u64 (r1 * 2 ^ (13 : Int).toNat)))) R) (hS := (sL [0])) (dR 8 R (vP R) (hS := (sL [0])) (d1 9 R (l_store 0 R R sz120 R R R R R (lN (bxl b2 [(.int .u64 (bits .xor .u64 r1 (IntKind.wrap .u64 (r1 * 2 ^ (13 : Int).toNat))))] 120 :: V) ?_))))))))))))
 refine l_nil (q_draw (sL [0]) (dD ?_))
 exact qJ (fun w s => s)
 refine lO (vLd 0 ag120 R R R) (l_nil (q_draw (sL [0]) (dR 6 R (vz (.int .u64 (IntKind.wrap .u64 (r1 * 2 ^ (13 : Int).toNat))) (v_shl R R (by decide) (by decide))) (hS := (sL [0])) (d1 2 R (lO (vLd 0 ag120 R R R) (l_nil (q_draw (sL [0]) (dR 7 R (vp (.int .u64 (bits .xor .u64 r1 (IntKind.wrap .u64 (r1 * 2 ^ (13 : Int).toNat)))) R) (hS := (sL [0])) (dR 8 R (vP R) (hS := (sL [0])) (d1 9 R (l_store 0 R R sz120 R R R R R (l_nil (q_draw (sL [0]) (dD ?_))))))))))))))
 exact qJ (fun w s => s)
 rintro σ1
 refine q_next (c_seq (cQ [(0, (pt b2 0))] (bxl b2 [(.int .u64 (bits .xor .u64 (bits .xor .u64 r1 (IntKind.wrap .u64 (r1 * 2 ^ (13 : Int).toNat))) ((bits .xor .u64 r1 (IntKind.wrap .u64 (r1 * 2 ^ (13 : Int).toNat))) / 2 ^ (7 : Int).toNat)))] 120 :: V) ?_ ?_))
 refine cdr 10 [0] mixo (fun ht hn => (dR 0 R (vP R) (hS := (sL [0])) (dR 1 R (vP R) (hS := (sL [0])) (dR 3 R (vP R) (hS := (sL [0])) (dR 4 R (vP R) (hS := (sL [0])) (d_all [2, 5] (by kernel_rfl) R ⟨?_, ?_, trivial⟩))))))
 refine lO (vLd 0 ag120 R R R) (l_nil (q_draw (sL [0]) (d1 5 R (lO (vLd 0 ag120 R R R) (l_nil (q_draw (sL [0]) (dR 6 R (vz (.int .u64 ((bits .xor .u64 r1 (IntKind.wrap .u64 (r1 * 2 ^ (13 : Int).toNat))) / 2 ^ (7 : Int).toNat)) (v_shr R R (by decide) (by decide))) (hS := (sL [0])) (dR 7 R (vp (.int .u64 (bits .xor .u64 (bits .xor .u64 r1 (IntKind.wrap .u64 (r1 * 2 ^ (13 : Int).toNat))) ((bits .xor .u64 r1 (IntKind.wrap .u64 (r1 * 2 ^ (13 : Int).toNat))) / 2 ^ (7 : Int).toNat))) R) (hS := (sL [0])) (dR 8 R (vP R) (hS := (sL [0])) (d1 9 R (l_store 0 R R sz120 R R R R R (lN (bxl b2 [(.int .u64 (bits .xor .u64 (bits .xor .u64 r1 (IntKind.wrap .u64 (r1 * 2 ^ (13 : Int).toNat))) ((bits .xor .u64 r1 (IntKind.wrap .u64 (r1 * 2 ^ (13 : Int).toNat))) / 2 ^ (7 : Int).toNat)))] 120 :: V) ?_))))))))))))
 refine l_nil (q_draw (sL [0]) (dD ?_))
 exact qJ (fun w s => s)
 refine lO (vLd 0 ag120 R R R) (l_nil (q_draw (sL [0]) (dR 6 R (vz (.int .u64 ((bits .xor .u64 r1 (IntKind.wrap .u64 (r1 * 2 ^ (13 : Int).toNat))) / 2 ^ (7 : Int).toNat)) (v_shr R R (by decide) (by decide))) (hS := (sL [0])) (d1 2 R (lO (vLd 0 ag120 R R R) (l_nil (q_draw (sL [0]) (dR 7 R (vp (.int .u64 (bits .xor .u64 (bits .xor .u64 r1 (IntKind.wrap .u64 (r1 * 2 ^ (13 : Int).toNat))) ((bits .xor .u64 r1 (IntKind.wrap .u64 (r1 * 2 ^ (13 : Int).toNat))) / 2 ^ (7 : Int).toNat))) R) (hS := (sL [0])) (dR 8 R (vP R) (hS := (sL [0])) (d1 9 R (l_store 0 R R sz120 R R R R R (l_nil (q_draw (sL [0]) (dD ?_))))))))))))))
 exact qJ (fun w s => s)
 rintro σ1
 refine q_next (c_seq (cQ [(0, (pt b2 0))] (bxl b2 [(.int .u64 (bits .xor .u64 (bits .xor .u64 (bits .xor .u64 r1 (IntKind.wrap .u64 (r1 * 2 ^ (13 : Int).toNat))) ((bits .xor .u64 r1 (IntKind.wrap .u64 (r1 * 2 ^ (13 : Int).toNat))) / 2 ^ (7 : Int).toNat)) (IntKind.wrap .u64 ((bits .xor .u64 (bits .xor .u64 r1 (IntKind.wrap .u64 (r1 * 2 ^ (13 : Int).toNat))) ((bits .xor .u64 r1 (IntKind.wrap .u64 (r1 * 2 ^ (13 : Int).toNat))) / 2 ^ (7 : Int).toNat)) * 2 ^ (17 : Int).toNat))))] 120 :: V) ?_ ?_))
 refine cdr 10 [0] mixo (fun ht hn => (dR 0 R (vP R) (hS := (sL [0])) (dR 1 R (vP R) (hS := (sL [0])) (dR 3 R (vP R) (hS := (sL [0])) (dR 4 R (vP R) (hS := (sL [0])) (d_all [2, 5] (by kernel_rfl) R ⟨?_, ?_, trivial⟩))))))
 refine lO (vLd 0 ag120 R R R) (l_nil (q_draw (sL [0]) (d1 5 R (lO (vLd 0 ag120 R R R) (l_nil (q_draw (sL [0]) (dR 6 R (vz (.int .u64 (IntKind.wrap .u64 ((bits .xor .u64 (bits .xor .u64 r1 (IntKind.wrap .u64 (r1 * 2 ^ (13 : Int).toNat))) ((bits .xor .u64 r1 (IntKind.wrap .u64 (r1 * 2 ^ (13 : Int).toNat))) / 2 ^ (7 : Int).toNat)) * 2 ^ (17 : Int).toNat))) (v_shl R R (by decide) (by decide))) (hS := (sL [0])) (dR 7 R (vp (.int .u64 (bits .xor .u64 (bits .xor .u64 (bits .xor .u64 r1 (IntKind.wrap .u64 (r1 * 2 ^ (13 : Int).toNat))) ((bits .xor .u64 r1 (IntKind.wrap .u64 (r1 * 2 ^ (13 : Int).toNat))) / 2 ^ (7 : Int).toNat)) (IntKind.wrap .u64 ((bits .xor .u64 (bits .xor .u64 r1 (IntKind.wrap .u64 (r1 * 2 ^ (13 : Int).toNat))) ((bits .xor .u64 r1 (IntKind.wrap .u64 (r1 * 2 ^ (13 : Int).toNat))) / 2 ^ (7 : Int).toNat)) * 2 ^ (17 : Int).toNat)))) R) (hS := (sL [0])) (dR 8 R (vP R) (hS := (sL [0])) (d1 9 R (l_store 0 R R sz120 R R R R R ?_)))))))))))
 refine lN (bxl b2 [(.int .u64 (bits .xor .u64 (bits .xor .u64 (bits .xor .u64 r1 (IntKind.wrap .u64 (r1 * 2 ^ (13 : Int).toNat))) ((bits .xor .u64 r1 (IntKind.wrap .u64 (r1 * 2 ^ (13 : Int).toNat))) / 2 ^ (7 : Int).toNat)) (IntKind.wrap .u64 ((bits .xor .u64 (bits .xor .u64 r1 (IntKind.wrap .u64 (r1 * 2 ^ (13 : Int).toNat))) ((bits .xor .u64 r1 (IntKind.wrap .u64 (r1 * 2 ^ (13 : Int).toNat))) / 2 ^ (7 : Int).toNat)) * 2 ^ (17 : Int).toNat))))] 120 :: V) ?_
 refine l_nil (q_draw (sL [0]) (dD ?_))
 exact qJ (fun w s => s)
 refine lO (vLd 0 ag120 R R R) (l_nil (q_draw (sL [0]) (dR 6 R (vz (.int .u64 (IntKind.wrap .u64 ((bits .xor .u64 (bits .xor .u64 r1 (IntKind.wrap .u64 (r1 * 2 ^ (13 : Int).toNat))) ((bits .xor .u64 r1 (IntKind.wrap .u64 (r1 * 2 ^ (13 : Int).toNat))) / 2 ^ (7 : Int).toNat)) * 2 ^ (17 : Int).toNat))) (v_shl R R (by decide) (by decide))) (hS := (sL [0])) (d1 2 R (lO (vLd 0 ag120 R R R) (l_nil (q_draw (sL [0]) (dR 7 R (vp (.int .u64 (bits .xor .u64 (bits .xor .u64 (bits .xor .u64 r1 (IntKind.wrap .u64 (r1 * 2 ^ (13 : Int).toNat))) ((bits .xor .u64 r1 (IntKind.wrap .u64 (r1 * 2 ^ (13 : Int).toNat))) / 2 ^ (7 : Int).toNat)) (IntKind.wrap .u64 ((bits .xor .u64 (bits .xor .u64 r1 (IntKind.wrap .u64 (r1 * 2 ^ (13 : Int).toNat))) ((bits .xor .u64 r1 (IntKind.wrap .u64 (r1 * 2 ^ (13 : Int).toNat))) / 2 ^ (7 : Int).toNat)) * 2 ^ (17 : Int).toNat)))) R) (hS := (sL [0])) (dR 8 R (vP R) (hS := (sL [0])) (d1 9 R (l_store 0 R R sz120 R R R R R (l_nil (q_draw (sL [0]) (dD ?_))))))))))))))
 exact qJ (fun w s => s)
 rintro σ1
 refine q_next (c_seq (c_region (lP R (lP R (lO (vLd 0 ag120 R R R) (lI R (l_nil (q_next (c_ret ?_)))))))))
 obtain rfl := so hr
 exact qF () (fun w s => s)
theorem Z00_ok  {data1 : (List Row)} {a3 : Int} {b4 : Int} {r : (List Row)} (hr : Z00 data1 a3 b4 = some r) :
 FnOk Try.prog 93 [(.slice A2 N2 D2), (iv a3), (iv b4), (.func (.func 73) [].toArray [].toArray)] [ow (kT33).share 33 (.slice A2 N2 D2) data1] (fun (h : Unit) => ((.tuple [].toArray), [ow (kT33).share 33 (.slice A2 N2 D2) r])) := by
 unfold Z00 at hr
 refine fn_ok Try.func93 R 67 R R fun C V => ?_
 refine cN (_ :: V) ?_
 refine cL 0 sees_sh ?_
 rintro rfl
 refine c_seq (c_region (lI R (lI R (lO (vSb R R) (lI R (l_nil (q_next (c_seq (c_region (lI R (lO (vGe R R) (l_nil (q_next ?_)))))))))))))
 rcases bif_ hr with ⟨hb6, hr⟩ | ⟨hb6, hr⟩
 refine c_true R hb6 (c_seq (c_region (lI R (lO (vz (.int .u64 (IntKind.wrap .u64 ((w64 (b4 - a3))))) (v_conv un3 un120 R)) (l_alloc R R zc120 (fun b7 => (l_store 0 R R sz120 R R R R R (lN (bxl b7 [(.int .u64 (IntKind.wrap .u64 ((w64 (b4 - a3)))))] 120 :: _ :: V) ?_))))))))
 refine l_nil (q_next (c_seq ?_))
 obtain ⟨r8, hx9, hr⟩ := bd hr
 refine c_region (lI R (lC 0 cb103 R (Z19_ok hx9) R ?_))
 rintro _
 refine lI R (l_nil (q_next (c_seq (c_region (lI R (lI R (lO (vz (iv (w64 ((w64 (b4 - a3)).tdiv (4 : Int)))) (v_quo R R (by decide))) (lO (vMu R R) (lO (vAd R R) (lO (vSb R R) (lI R (l_nil (q_next (c_block ?_))))))))))))))
 obtain ⟨e1, hl1, hk1⟩ := bd hr
 refine c_loop (A := Unit) hl1 (fun s a => [(0, (sc A2 data1 D2)), (1, (iv a3)), (8, (iv (w64 (b4 - a3)))), (9, (pt b7 0)), (10, (.int .u64 r8)), (11, (iv s.2.2))]) (fun s a => ow (kT33).share 33 (.slice A2 data1.length D2) s.1 :: bxl b7 [(.int .u64 s.2.1)] 120 :: V) () (aS R) (fun w s => (s.e 2 [1, 0])) ?_
 rintro ⟨data25, random26, idx27⟩ _ σ1 out1 hr he1
 replace hr : Z00_L1 data1 a3 b4 r8 data25 random26 idx27 = some out1 := hr
 unfold Z00_L1 at hr
 refine c_seq (c_seq (c_region (lI R (lI R (lI R (lO (vz (iv (w64 ((w64 (b4 - a3)).tdiv (4 : Int)))) (v_quo R R (by decide))) (lO (vMu R R) (lO (vAd R R) (lO (vAd R R) (lO (vLe R R) (l_nil (q_next ?_))))))))))))
 rcases bif_ hr with ⟨hb28, hr⟩ | ⟨hb28, hr⟩
 refine c_true R hb28 (c_skip (q_next (c_seq (c_block (c_seq ?_)))))
 obtain ⟨r29, hx30, hr⟩ := bd hr
 refine c_region (lM (bxl b7 [(.int .u64 random26)] 120 :: ow (kT33).share 33 (.slice A2 data1.length D2) data25 :: V) (fun w s => (s.e 2 [1, 0])) ?_)
 refine lC 1 cb104 R (Z1a_ok hx30) R ?_
 rintro _
 refine lN (bxl b7 [(.int .u64 r29.2)] 120 :: _ :: V) ?_
 refine lI R (lO (vp (.int .u64 (IntKind.wrap .u64 (r8 - (1 : Int)))) R) (lO (vp (.int .u64 (bits .and .u64 r29.1 (IntKind.wrap .u64 (r8 - (1 : Int))))) R) (lO (vz (iv (w64 ((bits .and .u64 r29.1 (IntKind.wrap .u64 (r8 - (1 : Int))))))) (v_conv un92 un3 R)) (lI R (l_nil (q_next (c_seq (c_cut (A := (Int) × (Unit)) (fun a => Z00_J3 data1 a3 data25 idx27 r29 a.1 = some out1) (fun a => [(0, (sc A2 data1 D2)), (1, (iv a3)), (8, (iv (w64 (b4 - a3)))), (9, (pt b7 0)), (10, (.int .u64 r8)), (11, (iv idx27)), (12, (iv a.1))]) (fun a => ow (kT33).share 33 (.slice A2 data1.length D2) data25 :: bxl b7 [(.int .u64 r29.2)] 120 :: V) ?_ ?_))))))))
 refine c_seq (c_region (lI R (lI R (lO (vGe R R) (l_nil (q_next ?_))))))
 rcases bif_ hr with ⟨hb31, hr⟩ | ⟨hb31, hr⟩
 refine c_true R hb31 (c_region (lI R (lI R (lO (vSb R R) (lI R (l_nil ?_))))))
 exact qI ((w64 ((w64 ((bits .and .u64 r29.1 (IntKind.wrap .u64 (r8 - (1 : Int)))))) - (w64 (b4 - a3)))), ()) hr (fun w s => (s.e 2 [1, 0]))
 refine c_false R hb31 (c_skip ?_)
 exact qI ((w64 ((bits .and .u64 r29.1 (IntKind.wrap .u64 (r8 - (1 : Int)))))), ()) hr (fun w s => (s.e 2 [1, 0]))
 rintro ⟨other32, _⟩ σ1 hr
 replace hr : Z00_J3 data1 a3 data25 idx27 r29 other32 = some out1 := hr
 unfold Z00_J3 at hr
 obtain ⟨hg33, hr⟩ := gd hr
 obtain ⟨hg38, hr⟩ := gd hr
 refine cQ [(0, (sc A2 data1 D2)), (1, (iv a3)), (8, (iv (w64 (b4 - a3)))), (9, (pt b7 0)), (10, (.int .u64 r8)), (11, (iv idx27))] (ow (kT33).share 33 (.slice A2 data1.length D2) ((data25.set idx27.toNat (ix data25 (w64 (a3 + other32)))).set (w64 (a3 + other32)).toNat (ix data25 idx27)) :: bxl b7 [(.int .u64 r29.2)] 120 :: V) ?_ ?_
 refine c_some 0 sees_sh (show 0 < data1.length by have := hg33; omega) (fun g34 o35 ha => ?_)
 subst ha
 refine cdr 20 [0] mixo (fun ht hn => (dR 0 R (vS R) (hS := (sL [0])) (dR 1 R (vI R) (hS := (sL [0])) (dR 2 R (vS R) (hS := (sL [0])) (dR 3 R (vI R) (hS := (sL [0])) (dR 4 R (vI R) (hS := (sL [0])) (dR 5 R (vAd R R) (hS := (sL [0])) (dR 6 R (vS R) (hS := (sL [0])) (dR 7 R (vI R) (hS := (sL [0])) (dR 8 R (vI R) (hS := (sL [0])) (dR 9 R (vAd R R) (hS := (sL [0])) (dR 10 R (vIa sl24 sz33 R R hg33) (hS := (sL [0])) (dR 12 R (vS R) (hS := (sL [0])) (dR 13 R (vI R) (hS := (sL [0])) (dR 14 R (vIa sl24 sz33 R R hg38) (hS := (sL [0])) (d_all [11, 15] (by kernel_rfl) R ⟨?_, ?_, trivial⟩))))))))))))))))
 refine l_ldo (K := (kT33).share) 0 (w64 (a3 + other32)) R R ag33 sz33 dT33.own R R hg33.1 hg33.2 ?_
 rintro ⟨⟨A36, D36⟩, ⟨A37, D37⟩⟩
 refine lN (RR kT3 A36 D36 ((ix data25 (w64 (a3 + other32))).Key) :: RR kT3 A37 D37 ((ix data25 (w64 (a3 + other32))).Weights) :: ow (kT33).share 33 (.slice (ad g34 o35) data1.length D2) data25 :: _ :: V) ?_
 refine l_nil (q_draw (sL [2, 1, 0]) (d1 15 R (l_ldo (K := (kT33).share) 2 idx27 R R ag33 sz33 dT33.own R R hg38.1 hg38.2 ?_)))
 rintro ⟨⟨A39, D39⟩, ⟨A40, D40⟩⟩
 refine lN (RR kT3 A39 D39 ((ix data25 idx27).Key) :: RR kT3 A40 D40 ((ix data25 idx27).Weights) :: _ :: _ :: _ :: _ :: V) ?_
 refine l_nil (q_draw (sL [4, 3, 2, 1, 0]) (dR 16 R (vIa sl24 sz33 R R hg38) (hS := (sL [4, 3, 2, 1, 0])) (d1 17 R (lM (ow _ _ _ _ :: rds _ _ _ :: rds _ _ _ :: rds _ _ _ :: rds _ _ _ :: rds _ _ _ :: rds _ _ _ :: bxl _ _ _ :: V) (fun w s => (((s.d 2 R).d 4 R).e 8 [6, 1, 0, 2, 3, 4, 5, 7])) ?_))))
 refine l_stx (K := (kT33).share) (x' := (ix data25 (w64 (a3 + other32)))) 2 idx27 R R sz33 R R hg38.1 hg38.2 ?_ ?_
 exact fun I h s => (mS33).put I h ((sc A36 ((ix data25 (w64 (a3 + other32))).Key) D36), (sc A37 ((ix data25 (w64 (a3 + other32))).Weights) D37)) (ix data25 (w64 (a3 + other32))) s
 refine lN (ow (kT33).share 33 (.slice (ad g34 o35) data1.length D2) (data25.set idx27.toNat (ix data25 (w64 (a3 + other32)))) :: _ :: _ :: _ :: _ :: _ :: V) ?_
 refine l_nil (q_draw (sL [4, 3, 2, 1, 0]) (dR 18 R (vIa sl24 sz33 R R hg33) (hS := (sL [4, 3, 2, 1, 0])) (d1 19 R (lM (ow _ _ _ _ :: rds _ _ _ :: rds _ _ _ :: rds _ _ _ :: rds _ _ _ :: rds _ _ _ :: rds _ _ _ :: bxl _ _ _ :: V) (fun w s => (((s.d 1 R).d 3 R).e 8 [2, 1, 0, 3, 4, 5, 6, 7])) ?_))))
 refine l_stx (K := (kT33).share) (x' := (ix data25 idx27)) 2 (w64 (a3 + other32)) R R sz33 R R hg33.1 hg33.2 ?_ ?_
 exact fun I h s => (mS33).put I h ((sc A39 ((ix data25 idx27).Key) D39), (sc A40 ((ix data25 idx27).Weights) D40)) (ix data25 idx27) s
 refine lN (ow (kT33).share 33 (.slice (ad g34 o35) data1.length D2) ((data25.set idx27.toNat (ix data25 (w64 (a3 + other32)))).set (w64 (a3 + other32)).toNat (ix data25 idx27)) :: _ :: _ :: _ :: _ :: _ :: V) ?_
 refine l_nil (q_draw (sL [4, 3, 2, 1, 0]) (dD ?_))
 exact qJ (fun w s => (s.e 6 [0, 5]))
 refine l_ldo (K := (kT33).share) 0 idx27 R R ag33 sz33 dT33.own R R hg38.1 hg38.2 ?_
 rintro ⟨⟨A39, D39⟩, ⟨A40, D40⟩⟩
 refine lN (_ :: _ :: ow (kT33).share 33 (.slice (ad g34 o35) data1.length D2) data25 :: _ :: V) ?_
 refine l_nil (q_draw (sL [2, 1, 0]) (d1 11 R (l_ldo (K := (kT33).share) 2 (w64 (a3 + other32)) R R ag33 sz33 dT33.own R R hg33.1 hg33.2 ?_)))
 rintro ⟨⟨A36, D36⟩, ⟨A37, D37⟩⟩
 refine lN (RR kT3 A36 D36 ((ix data25 (w64 (a3 + other32))).Key) :: RR kT3 A37 D37 ((ix data25 (w64 (a3 + other32))).Weights) :: _ :: _ :: _ :: _ :: V) ?_
 refine l_nil (q_draw (sL [4, 3, 2, 1, 0]) (dR 16 R (vIa sl24 sz33 R R hg38) (hS := (sL [4, 3, 2, 1, 0])) (d1 17 R (lM (ow _ _ _ _ :: rds _ _ _ :: rds _ _ _ :: rds _ _ _ :: rds _ _ _ :: rds _ _ _ :: rds _ _ _ :: bxl _ _ _ :: V) (fun w s => (((s.d 0 R).d 2 R).e 8 [6, 1, 0, 2, 3, 4, 5, 7])) ?_))))
 refine l_stx (K := (kT33).share) (x' := (ix data25 (w64 (a3 + other32)))) 2 idx27 R R sz33 R R hg38.1 hg38.2 ?_ ?_
 exact fun I h s => (mS33).put I h ((sc A36 ((ix data25 (w64 (a3 + other32))).Key) D36), (sc A37 ((ix data25 (w64 (a3 + other32))).Weights) D37)) (ix data25 (w64 (a3 + other32))) s
 refine lN (ow (kT33).share 33 (.slice (ad g34 o35) data1.length D2) (data25.set idx27.toNat (ix data25 (w64 (a3 + other32)))) :: _ :: _ :: _ :: _ :: _ :: V) ?_
 refine l_nil (q_draw (sL [4, 3, 2, 1, 0]) (dR 18 R (vIa sl24 sz33 R R hg33) (hS := (sL [4, 3, 2, 1, 0])) (d1 19 R (lM (ow _ _ _ _ :: rds _ _ _ :: rds _ _ _ :: rds _ _ _ :: rds _ _ _ :: rds _ _ _ :: rds _ _ _ :: bxl _ _ _ :: V) (fun w s => (((s.d 3 R).d 5 R).e 8 [2, 1, 0, 3, 4, 5, 6, 7])) ?_))))
 refine l_stx (K := (kT33).share) (x' := (ix data25 idx27)) 2 (w64 (a3 + other32)) R R sz33 R R hg33.1 hg33.2 ?_ ?_
 exact fun I h s => (mS33).put I h ((sc A39 ((ix data25 idx27).Key) D39), (sc A40 ((ix data25 idx27).Weights) D40)) (ix data25 idx27) s
 refine lN (ow (kT33).share 33 (.slice (ad g34 o35) data1.length D2) ((data25.set idx27.toNat (ix data25 (w64 (a3 + other32)))).set (w64 (a3 + other32)).toNat (ix data25 idx27)) :: _ :: _ :: _ :: _ :: _ :: V) ?_
 refine l_nil (q_draw (sL [4, 3, 2, 1, 0]) (dD ?_))
 exact qJ (fun w s => (s.e 6 [0, 5]))
 rintro σ1
 obtain ⟨l41, hl42, hr⟩ := bd hr
 replace hl42 := Option.some.inj hl42
 refine qM (ow (kT33).share 33 (.slice A2 data1.length D2) l41 :: _ :: V) (fun w s => by rw [← hl42]; exact s) ?_
 refine q_blockn (q_next (c_region (lI R (lO (vAd R R) (lI R (l_nil ?_))))))
 obtain rfl := so hr
 exact qA () (fun w s => s)
 refine c_false R hb28 (c_exit (q_exit ?_))
 obtain rfl := so hr
 obtain rfl := he1 _ R
 have hr := hk1
 refine q_exit (q_block ?_)
 obtain rfl := so hr
 exact q_fin (vs := []) (.inr R) () R trivial R (fun w s => (s.e 2 [0]))
 refine c_false R hb6 (c_skip ?_)
 obtain rfl := so hr
 exact q_fin (vs := []) (.inr R) () R trivial R (fun w s => s)
theorem Z6_S_ok {rf : (List Row) → Int → Int → Int → Option ((List Row))} (hrf : ∀ {data1 : (List Row)} {a3 : Int} {b4 : Int} {limit5 : Int} {A2 : Option Addr} {N2 D2 : Nat} {r : (List Row)}, rf data1 a3 b4 limit5 = some r → FnOk Try.prog 86 [(.slice A2 N2 D2), (iv a3), (iv b4), (iv limit5), (.func (.func 73) [].toArray [].toArray)] [ow (kT33).share 33 (.slice A2 N2 D2) data1] (fun (h : Unit) => ((.tuple [].toArray), [ow (kT33).share 33 (.slice A2 N2 D2) r]))) {data1 : (List Row)} {a3 : Int} {b4 : Int} {limit5 : Int} {r : (List Row)} (hr : Z6_S rf data1 a3 b4 limit5 = some r) :
 FnOk Try.prog 86 [(.slice A2 N2 D2), (iv a3), (iv b4), (iv limit5), (.func (.func 73) [].toArray [].toArray)] [ow (kT33).share 33 (.slice A2 N2 D2) data1] (fun (h : Unit) => ((.tuple [].toArray), [ow (kT33).share 33 (.slice A2 N2 D2) r])) := by
 unfold Z6_S at hr
 refine fn_ok Try.func86 R 148 R R fun C V => ?_
 refine cN (_ :: V) ?_
 refine cL 0 sees_sh ?_
 rintro rfl
 refine c_seq (c_region (lB R (l_nil (q_next (c_seq (c_region (lB R (l_nil (q_next (c_block ?_))))))))))
 obtain ⟨e1, hl1, hk1⟩ := bd hr
 refine c_loop (A := Unit) hl1 (fun s a => [(0, (sc A2 data1 D2)), (1, (iv s.2.1)), (2, (iv s.2.2.1)), (3, (iv s.2.2.2.1)), (4, (.func (.func 73) [].toArray [].toArray)), (10, (.bool s.2.2.2.2.1)), (11, (.bool s.2.2.2.2.2))]) (fun s a => ow (kT33).share 33 (.slice A2 data1.length D2) s.1 :: V) () (aS R) (fun w s => s) ?_
 rintro ⟨data99, a100, b101, limit102, wasBalanced103, wasPartitioned104⟩ _ σ1 out1 hr he1
 replace hr : Z6_L1 data1 rf data99 a100 b101 limit102 wasBalanced103 wasPartitioned104 = some out1 := hr
 unfold Z6_L1 at hr
 refine c_block (c_seq (c_region (lI R (lI R (lO (vSb R R) (lI R (l_nil (q_next (c_seq (c_seq (c_region (lI R (lO (vLe R R) (l_nil (q_next ?_)))))))))))))))
 rcases bif_ hr with ⟨hb105, hr⟩ | ⟨hb105, hr⟩
 refine c_true R hb105 (c_seq ?_)
 obtain ⟨r106, hx107, hr⟩ := bd hr
 refine c_region (lS R (lI R (lI R (lO (vp (.func (.func 73) [].toArray [].toArray) R) (lC 1 cb91 R (Zh_ok hx107) R ?_)))))
 rintro _
 refine lN (ow (kT33).share 33 (.slice A2 data1.length D2) r106 :: V) ?_
 refine l_nil (q_next (c_ret (q_ret (q_blockr ?_))))
 obtain rfl := so hr
 obtain rfl := he1 _ R
 have hr := hk1
 refine q_ret (q_blockr ?_)
 obtain rfl := so hr
 exact q_fin (vs := []) (.inl R) () R trivial R (fun w s => s)
 refine c_false R hb105 (c_skip (q_next (c_seq (c_seq (c_region (lI R (lO (vEq R R) (l_nil (q_next ?_)))))))))
 rcases bif_ hr with ⟨hb108, hr⟩ | ⟨hb108, hr⟩
 refine c_true R hb108 (c_seq ?_)
 obtain ⟨r109, hx110, hr⟩ := bd hr
 refine c_region (lS R (lI R (lI R (lO (vp (.func (.func 73) [].toArray [].toArray) R) (lC 1 cb92 R (Zi_ok hx110) R ?_)))))
 rintro _
 refine lN (ow (kT33).share 33 (.slice A2 data1.length D2) r109 :: V) ?_
 refine l_nil (q_next (c_ret (q_ret (q_blockr ?_))))
 obtain rfl := so hr
 obtain rfl := he1 _ R
 have hr := hk1
 refine q_ret (q_blockr ?_)
 obtain rfl := so hr
 exact q_fin (vs := []) (.inl R) () R trivial R (fun w s => s)
 refine c_false R hb108 (c_skip (q_next (c_seq (c_cut (A := ((List Row) × Int) × (Unit)) (fun a => Z6_J8 data1 rf a100 b101 wasBalanced103 wasPartitioned104 a.1.1 a.1.2 = some out1) (fun a => [(0, (sc A2 data1 D2)), (1, (iv a100)), (2, (iv b101)), (3, (iv a.1.2)), (4, (.func (.func 73) [].toArray [].toArray)), (10, (.bool wasBalanced103)), (11, (.bool wasPartitioned104)), (12, (iv (w64 (b101 - a100))))]) (fun a => ow (kT33).share 33 (.slice A2 data1.length D2) a.1.1 :: V) ?_ ?_))))
 refine c_seq (c_region (lB R (lO (vNo R) (l_nil (q_next ?_)))))
 rcases bif_ hr with ⟨hb111, hr⟩ | ⟨hb111, hr⟩
 refine c_true R hb111 (c_seq ?_)
 obtain ⟨r112, hx113, hr⟩ := bd hr
 refine c_region (lS R (lI R (lI R (lO (vp (.func (.func 73) [].toArray [].toArray) R) (lC 1 cb93 R (Z00_ok hx113) R ?_)))))
 rintro _
 refine lN (ow (kT33).share 33 (.slice A2 data1.length D2) r112 :: V) ?_
 refine l_nil (q_next (c_region (lI R (lO (vSb R R) (lI R (l_nil ?_))))))
 exact qI ((r112, (w64 (limit102 - (1 : Int)))), ()) hr (fun w s => s)
 refine c_false R hb111 (c_skip ?_)
 exact qI ((data99, limit102), ()) hr (fun w s => s)
 rintro ⟨⟨data114, limit115⟩, _⟩ σ1 hr
 replace hr : Z6_J8 data1 rf a100 b101 wasBalanced103 wasPartitioned104 data114 limit115 = some out1 := hr
 unfold Z6_J8 at hr
 refine c_seq ?_
 obtain ⟨r116, hx117, hr⟩ := bd hr
 refine c_region (lS R (lI R (lI R (lO (vp (.func (.func 73) [].toArray [].toArray) R) (lC 1 cb94 R (FnOk.lends (A' := [ow (kT33).share 33 (.slice A2 data1.length D2) data114]) (A := [rds kT33 (.slice A2 data1.length D2) data114]) (B := []) (Z03_ok hx117) ⟨lend_sh, trivial⟩ (fun _ => trivial)) R ?_)))))
 rintro _
 refine lN (ow (kT33).share 33 (.slice A2 data1.length D2) data114 :: V) ?_
 refine lO (vT R) (lI R (lI R (lI R (lI R (l_nil (q_next (c_seq (c_cut (A := ((List Row) × Int × Int) × (Unit)) (fun a => Z6_J9 data1 rf a100 b101 wasBalanced103 wasPartitioned104 limit115 a.1.1 a.1.2.1 a.1.2.2 = some out1) (fun a => [(0, (sc A2 data1 D2)), (1, (iv a100)), (2, (iv b101)), (3, (iv limit115)), (4, (.func (.func 73) [].toArray [].toArray)), (10, (.bool wasBalanced103)), (11, (.bool wasPartitioned104)), (12, (iv (w64 (b101 - a100)))), (13, (iv a.1.2.1)), (14, (iv a.1.2.2))]) (fun a => ow (kT33).share 33 (.slice A2 data1.length D2) a.1.1 :: V) ?_ ?_))))))))
 refine c_seq (c_region (lI R (lO (vEq R R) (l_nil (q_next ?_)))))
 rcases bif_ hr with ⟨hb118, hr⟩ | ⟨hb118, hr⟩
 refine c_true R hb118 (c_seq ?_)
 obtain ⟨r119, hx120, hr⟩ := bd hr
 refine c_region (lS R (lI R (lI R (lO (vp (.func (.func 73) [].toArray [].toArray) R) (lC 1 cb95 R (Z0d_ok hx120) R ?_)))))
 rintro _
 refine lN (ow (kT33).share 33 (.slice A2 data1.length D2) r119 :: V) ?_
 refine l_nil (q_next (c_seq (c_region (lI R (lO (vSb R R) (lI R (lI R (lO (vSb R R) (lO (vSb R R) (lI R (l_nil (q_next (c_region (lI R (l_nil ?_)))))))))))))))
 exact qI ((r119, (w64 ((w64 (b101 - (1 : Int))) - (w64 (r116.1 - a100)))), (1 : Int)), ()) hr (fun w s => s)
 refine c_false R hb118 (c_skip ?_)
 exact qI ((data114, r116.1, r116.2), ()) hr (fun w s => s)
 rintro ⟨⟨data121, pivot122, hint123⟩, _⟩ σ1 hr
 replace hr : Z6_J9 data1 rf a100 b101 wasBalanced103 wasPartitioned104 limit115 data121 pivot122 hint123 = some out1 := hr
 unfold Z6_J9 at hr
 refine c_seq (c_cut (A := ((List Row)) × (Unit)) (fun a => Z6_J10 data1 rf a100 b101 wasBalanced103 wasPartitioned104 limit115 pivot122 a.1 = some out1) (fun a => [(0, (sc A2 data1 D2)), (1, (iv a100)), (2, (iv b101)), (3, (iv limit115)), (4, (.func (.func 73) [].toArray [].toArray)), (10, (.bool wasBalanced103)), (11, (.bool wasPartitioned104)), (12, (iv (w64 (b101 - a100)))), (13, (iv pivot122))]) (fun a => ow (kT33).share 33 (.slice A2 data1.length D2) a.1 :: V) ?_ ?_)
 refine c_seq (cQ [(0, (sc A2 data1 D2)), (1, (iv a100)), (2, (iv b101)), (3, (iv limit115)), (4, (.func (.func 73) [].toArray [].toArray)), (10, (.bool wasBalanced103)), (11, (.bool wasPartitioned104)), (12, (iv (w64 (b101 - a100)))), (13, (iv pivot122)), (75, (.bool ((wasBalanced103 && wasPartitioned104) && (hint123 == (1 : Int)))))] (ow (kT33).share 33 (.slice A2 data1.length D2) data121 :: V) ?_ ?_)
 refine c_region (lB R (lB R ?_))
 rcases bo wasBalanced103 with hc124 | hc124
 refine lW (wnT hc124) (vB R) (lO (pAT R hc124 R) (lB R ?_))
 rcases bo (wasBalanced103 && wasPartitioned104) with hc125 | hc125
 refine lW (wnT hc125) (vI R) (lW (wnT hc125) (vEq R R) (lO (pAT R hc125 R) (l_nil ?_)))
 exact qJ (fun w s => s)
 refine lf (wfF hc125) (lf (wfF hc125) (lO (pAF (hint123 == (1 : Int)) R hc125) (l_nil ?_)))
 exact qJ (fun w s => s)
 refine lf (wfF hc124) (lO (pAF wasPartitioned104 R hc124) (lB R (lf (wfF (aF hc124)) (lf (wfF (aF hc124)) (lO (pAF (hint123 == (1 : Int)) R (aF hc124)) (l_nil ?_))))))
 exact qJ (fun w s => s)
 rintro σ1
 refine q_next ?_
 rcases bif_ hr with ⟨hb126, hr⟩ | ⟨hb126, hr⟩
 refine c_true R hb126 (c_seq ?_)
 obtain ⟨r127, hx128, hr⟩ := bd hr
 refine c_region (lS R (lI R (lI R (lO (vp (.func (.func 73) [].toArray [].toArray) R) (lC 1 cb96 R (Z3_ok hx128) R ?_)))))
 rintro _
 refine lN (ow (kT33).share 33 (.slice A2 data1.length D2) r127.2 :: V) ?_
 refine l_nil (q_next ?_)
 rcases bif_ hr with ⟨hb129, hr⟩ | ⟨hb129, hr⟩
 refine c_true R hb129 (c_ret (q_ret (q_blockr ?_)))
 obtain rfl := so hr
 obtain rfl := he1 _ R
 have hr := hk1
 refine q_ret (q_blockr ?_)
 obtain rfl := so hr
 exact q_fin (vs := []) (.inl R) () R trivial R (fun w s => s)
 refine c_false R hb129 (c_skip ?_)
 exact qI (r127.2, ()) hr (fun w s => s)
 refine c_false R hb126 (c_skip ?_)
 exact qI (data121, ()) hr (fun w s => s)
 rintro ⟨data130, _⟩ σ1 hr
 replace hr : Z6_J10 data1 rf a100 b101 wasBalanced103 wasPartitioned104 limit115 pivot122 data130 = some out1 := hr
 unfold Z6_J10 at hr
 refine c_seq (c_seq ?_)
 obtain ⟨hg131, hr⟩ := gd hr
 obtain ⟨hg136, hr⟩ := gd hr
 obtain ⟨r139, hx140, hr⟩ := bd hr
 refine cQ [(0, (sc A2 data1 D2)), (1, (iv a100)), (2, (iv b101)), (3, (iv limit115)), (4, (.func (.func 73) [].toArray [].toArray)), (10, (.bool wasBalanced103)), (11, (.bool wasPartitioned104)), (12, (iv (w64 (b101 - a100)))), (13, (iv pivot122)), (97, (.bool ((decide (a100 > (0 : Int))) && (!(decide (r139 < (0 : Int)))))))] (ow (kT33).share 33 (.slice A2 data1.length D2) data130 :: V) ?_ ?_
 rcases bo (decide (a100 > (0 : Int))) with hc141 | hc141
 refine c_some 0 sees_sh (show 0 < data1.length by have := (hg131 hc141); omega) (fun g132 o133 ha => ?_)
 subst ha
 refine cdr 17 [] mixo (fun ht hn => (dR 0 R (vI R) (dR 1 R (vGt R R) (dR 2 R (vB R) (dW 3 R (wnT hc141) (vp (.func (.func 73) [].toArray [].toArray) R) (dW 4 R (wnT hc141) (vS R) (dW 5 R (wnT hc141) (vI R) (dW 6 R (wnT hc141) (vSb R R) (dW 7 R (wnT hc141) (vIa sl24 sz33 R R (hg131 hc141)) (dW 9 R (wnT hc141) (vS R) (dW 10 R (wnT hc141) (vI R) (dW 11 R (wnT hc141) (vIa sl24 sz33 R R (hg136 hc141)) (d_all [8, 12] (by kernel_rfl) R ⟨?_, ?_, trivial⟩)))))))))))))
 refine l_ldo (K := (kT33).share) 0 (w64 (a100 - (1 : Int))) R (wnT hc141) ag33 sz33 dT33.own R R (hg131 hc141).1 (hg131 hc141).2 ?_
 rintro ⟨⟨A134, D134⟩, ⟨A135, D135⟩⟩
 refine lN (RR kT3 A134 D134 ((ix data130 (w64 (a100 - (1 : Int)))).Key) :: RR kT3 A135 D135 ((ix data130 (w64 (a100 - (1 : Int)))).Weights) :: ow (kT33).share 33 (.slice (ad g132 o133) data1.length D2) data130 :: V) ?_
 refine l_nil (q_draw (sL [1, 0]) (d1 12 R (l_ldo (K := (kT33).share) 2 pivot122 R (wnT hc141) ag33 sz33 dT33.own R R (hg136 hc141).1 (hg136 hc141).2 ?_)))
 rintro ⟨⟨A137, D137⟩, ⟨A138, D138⟩⟩
 refine lN (RR kT3 A137 D137 ((ix data130 pivot122).Key) :: RR kT3 A138 D138 ((ix data130 pivot122).Weights) :: _ :: _ :: _ :: V) ?_
 refine l_nil (q_draw (sL [3, 2, 1, 0]) (d1 13 R (lM (rds _ _ _ :: rds _ _ _ :: rds _ _ _ :: rds _ _ _ :: rds _ _ _ :: rds _ _ _ :: rds _ _ _ :: rds _ _ _ :: ow _ _ _ _ :: V) (fun w s => (((((s.d 2 R).d 4 R).d 2 R).d 4 R).e 9 [3, 2, 1, 0, 4, 5, 6, 7, 8])) ?_)))
 refine l_callvn (fs := []) (cs := []) 4 R (wnT hc141) cb73 R R (Z9_ok (gcall_t hx140 hc141)) R ?_
 rintro _
 refine lN (_ :: _ :: _ :: _ :: _ :: V) ?_
 refine l_nil (q_draw (sL [3, 2, 1, 0]) (dW 14 R (wnT hc141) (vLt R R) (hS := (sL [3, 2, 1, 0])) (dW 15 R (wnT hc141) (vNo R) (hS := (sL [3, 2, 1, 0])) (dR 16 R (pAT R hc141 R) (hS := (sL [3, 2, 1, 0])) (dD ?_)))))
 exact qJ (fun w s => (s.e 5 [4]))
 refine l_ldo (K := (kT33).share) 0 pivot122 R (wnT hc141) ag33 sz33 dT33.own R R (hg136 hc141).1 (hg136 hc141).2 ?_
 rintro ⟨⟨A137, D137⟩, ⟨A138, D138⟩⟩
 refine lN (_ :: _ :: _ :: V) ?_
 refine l_nil (q_draw (sL [1, 0]) (d1 8 R (l_ldo (K := (kT33).share) 2 (w64 (a100 - (1 : Int))) R (wnT hc141) ag33 sz33 dT33.own R R (hg131 hc141).1 (hg131 hc141).2 ?_)))
 rintro ⟨⟨A134, D134⟩, ⟨A135, D135⟩⟩
 refine lN (RR kT3 A134 D134 ((ix data130 (w64 (a100 - (1 : Int)))).Key) :: RR kT3 A135 D135 ((ix data130 (w64 (a100 - (1 : Int)))).Weights) :: _ :: _ :: _ :: V) ?_
 refine l_nil (q_draw (sL [3, 2, 1, 0]) (d1 13 R (lM (rds _ _ _ :: rds _ _ _ :: rds _ _ _ :: rds _ _ _ :: rds _ _ _ :: rds _ _ _ :: rds _ _ _ :: rds _ _ _ :: ow _ _ _ _ :: V) (fun w s => (((((s.d 0 R).d 2 R).d 4 R).d 6 R).e 9 [3, 2, 1, 0, 4, 5, 6, 7, 8])) ?_)))
 refine l_callvn (fs := []) (cs := []) 4 R (wnT hc141) cb73 R R (Z9_ok (gcall_t hx140 hc141)) R ?_
 rintro _
 refine lN (_ :: _ :: _ :: _ :: _ :: V) ?_
 refine l_nil (q_draw (sL [3, 2, 1, 0]) (dW 14 R (wnT hc141) (vLt R R) (hS := (sL [3, 2, 1, 0])) (dW 15 R (wnT hc141) (vNo R) (hS := (sL [3, 2, 1, 0])) (dR 16 R (pAT R hc141 R) (hS := (sL [3, 2, 1, 0])) (dD ?_)))))
 exact qJ (fun w s => (s.e 5 [4]))
 refine cdr 17 [] mixo (fun ht hn => (dR 0 R (vI R) (dR 1 R (vGt R R) (dR 2 R (vB R) (dF 3 R (wfF hc141) (dF 4 R (wfF hc141) (dF 5 R (wfF hc141) (dF 6 R (wfF hc141) (dF 7 R (wfF hc141) (dF 8 R (wfF hc141) (dF 9 R (wfF hc141) (dF 10 R (wfF hc141) (dF 11 R (wfF hc141) (dF 12 R (wfF hc141) (dF 13 R (wfF hc141) (dF 14 R (wfF hc141) (dF 15 R (wfF hc141) (dR 16 R (pAF (!(decide (r139 < (0 : Int)))) R hc141) (dD ?_)))))))))))))))))))
 exact qJ (fun w s => s)
 rintro σ1
 refine q_next ?_
 rcases bif_ hr with ⟨hb142, hr⟩ | ⟨hb142, hr⟩
 refine c_true R hb142 (c_seq ?_)
 obtain ⟨r143, hx144, hr⟩ := bd hr
 refine c_region (lS R (lI R (lI R (lI R (lO (vp (.func (.func 73) [].toArray [].toArray) R) (lC 1 cb97 R (Z8_ok hx144) R ?_))))))
 rintro _
 refine lN (ow (kT33).share 33 (.slice A2 data1.length D2) r143.2 :: V) ?_
 refine lI R (l_nil (q_next (c_seq (c_region (lI R (lI R (l_nil (q_next (c_exit (q_exit (q_block ?_)))))))))))
 obtain rfl := so hr
 exact qA () (fun w s => s)
 refine c_false R hb142 (c_skip (q_next (c_seq ?_)))
 obtain ⟨r145, hx146, hr⟩ := bd hr
 refine c_region (lS R (lI R (lI R (lI R (lO (vp (.func (.func 73) [].toArray [].toArray) R) (lC 1 cb98 R (Z2_ok hx146) R ?_))))))
 rintro _
 refine lN (ow (kT33).share 33 (.slice A2 data1.length D2) r145.2.2 :: V) ?_
 refine lO (vT R) (lI R (lB R (lI R (lB R (l_nil (q_next (c_seq (c_region (lB R (lB R (l_nil (q_next (c_seq (c_region (lI R (lI R (lO (vSb R R) (lI R (lI R (lO (vSb R R) (lI R (lI R (l_nil (q_next (c_seq (c_region (lI R (lO (vz (iv (w64 ((w64 (b101 - a100)).tdiv (8 : Int)))) (v_quo R R (by decide))) (lI R (l_nil (q_next (c_seq (c_region (lI R (lI R (lO (vLt R R) (l_nil (q_next ?_))))))))))))))))))))))))))))))))))))))
 rcases bif_ hr with ⟨hb147, hr⟩ | ⟨hb147, hr⟩
 refine c_true R hb147 (c_seq (c_region (lI R (lI R (lO (vGe R R) (lB R (l_nil (q_next (c_seq ?_)))))))))
 obtain ⟨r148, hx149, hr⟩ := bd hr
 refine c_region (lS R (lI R (lI R (lI R (lO (vp (.func (.func 73) [].toArray [].toArray) R) (lC 1 cb86 R (hrf hx149) R ?_))))))
 rintro _
 refine lN (ow (kT33).share 33 (.slice A2 data1.length D2) r148 :: V) ?_
 refine l_nil (q_next (c_region (lI R (lO (vAd R R) (lI R (l_nil (q_blockn ?_)))))))
 obtain rfl := so hr
 exact qA () (fun w s => s)
 refine c_false R hb147 (c_seq (c_region (lI R (lI R (lO (vGe R R) (lB R (l_nil (q_next (c_seq ?_)))))))))
 obtain ⟨r150, hx151, hr⟩ := bd hr
 refine c_region (lS R (lI R (lO (vAd R R) (lI R (lI R (lO (vp (.func (.func 73) [].toArray [].toArray) R) (lC 1 cb86 R (hrf hx151) R ?_)))))))
 rintro _
 refine lN (ow (kT33).share 33 (.slice A2 data1.length D2) r150 :: V) ?_
 refine l_nil (q_next (c_region (lI R (lI R (l_nil (q_blockn ?_))))))
 obtain rfl := so hr
 exact qA () (fun w s => s)
theorem Z6_R_ok (n : Nat) : ∀ {data1 : (List Row)} {a3 : Int} {b4 : Int} {limit5 : Int} {A2 : Option Addr} {N2 D2 : Nat} {r : (List Row)}, Z6_R n data1 a3 b4 limit5 = some r → FnOk Try.prog 86 [(.slice A2 N2 D2), (iv a3), (iv b4), (iv limit5), (.func (.func 73) [].toArray [].toArray)] [ow (kT33).share 33 (.slice A2 N2 D2) data1] (fun (h : Unit) => ((.tuple [].toArray), [ow (kT33).share 33 (.slice A2 N2 D2) r])) := by
 induction n with
 | zero => intros; rename_i h; cases h
 | succ n ih => intros; rename_i h; exact Z6_S_ok ih h
theorem Z6_ok {data1 : (List Row)} {a3 : Int} {b4 : Int} {limit5 : Int} {A2 : Option Addr} {N2 D2 : Nat} {r : (List Row)} (hr : Z6 data1 a3 b4 limit5 = some r) : FnOk Try.prog 86 [(.slice A2 N2 D2), (iv a3), (iv b4), (iv limit5), (.func (.func 73) [].toArray [].toArray)] [ow (kT33).share 33 (.slice A2 N2 D2) data1] (fun (h : Unit) => ((.tuple [].toArray), [ow (kT33).share 33 (.slice A2 N2 D2) r])) := Z6_R_ok recFuel hr
theorem Z1d_ok  {p1 : (List Row)} {r : (List Row)} (hr : Z1d p1 = some r) :
 FnOk Try.prog 72 [(.slice A2 N2 D2), (.func (.func 73) [].toArray [].toArray)] [ow (kT33).share 33 (.slice A2 N2 D2) p1] (fun (h : Unit) => ((.tuple [].toArray), [ow (kT33).share 33 (.slice A2 N2 D2) r])) := by
 unfold Z1d at hr
 refine fn_ok Try.func72 R 14 R R fun C V => ?_
 refine cN (_ :: V) ?_
 refine cL 0 sees_sh ?_
 rintro rfl
 refine c_seq (c_region (lS R (lO (v_len sl24 R) (lI R (l_nil (q_next ?_))))))
 obtain ⟨r4, hx5, hr⟩ := bd hr
 obtain ⟨r6, hx7, hr⟩ := bd hr
 refine c_region (lS R (lI R (lI R (lO (vz (.int .u64 (IntKind.wrap .u64 ((p1.length : Int)))) (v_conv un3 un92 R)) (lC 0 cb87 R (Z10_ok hx5) R ?_)))))
 rintro _
 refine lO (vp (.func (.func 73) [].toArray [].toArray) R) (lC 1 cb86 R (Z6_ok hx7) R ?_)
 rintro _
 refine lN (ow (kT33).share 33 (.slice A2 p1.length D2) r6 :: V) ?_
 refine l_nil ?_
 obtain rfl := so hr
 exact q_fin (vs := []) (.inr R) () R trivial R (fun w s => s)
theorem Z0w_ok  {m1 : Lm} {r : (List Row)} (hr : Z0w m1 = some r) :
 FnOk Try.prog 52 [(.agg [(iv m1.Size), (.slice A2 N2 D2)].toArray)] [rds kT33 (.slice A2 N2 D2) m1.Rows] (fun (h : HH) => ((.slice h.1 h.2.1 h.2.2), [ow (kT33).share 33 (.slice h.1 h.2.1 h.2.2) r])) := by
 unfold Z0w at hr
 refine fn_ok Try.func52 R 10 R R fun C V => ?_
 refine cN (_ :: V) ?_
 refine cL 0 sees_rd ?_
 rintro rfl
 let W0 : List HP := RR kT33 A2 D2 m1.Rows :: V
 refine cN W0 ?_
 refine c_seq (c_region (lBx R (fun b3 => (lS R (l_nil ?_)))))
 let W1 : List HP := bxl b3 [(iv m1.Size), (sc A2 m1.Rows D2)] 26 :: W0
 refine qN W1 ?_
 refine q_next (c_seq ?_)
 obtain ⟨r4, hx5, hr⟩ := bd hr
 refine c_region (lO (vFa 1 fo26_1 R) (lO (vLd 0 ag24 R R R) (lM (RR kT33 A2 D2 m1.Rows :: W1) (fun w s => (s.d 1 R)) ?_)))
 refine lC 1 cb71 R (Z1e_ok hx5) R ?_
 rintro ⟨A6, N6, D6⟩
 refine lN (ow (kT33).share 33 (.slice A6 N6 D6) r4 :: W1) ?_
 refine l_len 0 sees_sh ?_
 rintro rfl
 refine lS R (l_nil (q_next (c_seq ?_)))
 obtain ⟨r7, hx8, hr⟩ := bd hr
 refine c_region (lS R (lC 1 cb72 R (Z1d_ok hx8) R ?_))
 rintro _
 refine lN (ow (kT33).share 33 (.slice A6 r4.length D6) r7 :: W1) ?_
 refine l_nil (q_next (c_seq (c_region (lS R (lS R (l_nil (q_next (c_ret ?_))))))))
 obtain rfl := so hr
 exact qF (A6, r4.length, D6) (fun w s => (s.e 3 [0]))
theorem Zw_ok  {xs1 : (List Int)} {lo3 : Int} {hi4 : Int} {r : Bool} (hr : Zw xs1 lo3 hi4 = some r) :
 FnOk Try.prog 51 [(.slice A2 N2 D2), (iv lo3), (iv hi4)] [rds kT3 (.slice A2 N2 D2) xs1] (fun (h : Unit) => ((.bool r), [])) := by
 unfold Zw at hr
 refine fn_ok Try.func51 R 21 R R fun C V => ?_
 refine cN (_ :: V) ?_
 refine cL 0 sees_rd ?_
 rintro rfl
 let W0 : List HP := RR kT3 A2 D2 xs1 :: V
 refine cN W0 ?_
 refine c_seq (c_region (lB R (l_nil (q_next (c_seq (c_cut (A := (Unit) × (Unit)) (fun a => Zw_J1 = some r) (fun a => []) (fun a => W0) ?_ ?_))))))
 refine c_seq (c_region (lS R (lO (v_len sl29 R) (lI R (l_nil (q_next (c_block ?_)))))))
 obtain ⟨e1, hl1, hk1⟩ := bd hr
 refine c_loop (A := Unit) hl1 (fun s a => [(1, (iv lo3)), (2, (iv hi4)), (9, (sc A2 xs1 D2)), (10, (il xs1)), (11, (iv s))]) (fun s a => W0) () (aS R) (fun w s => s) ?_
 rintro x12 _ σ1 out1 hr he1
 replace hr : Zw_L1 xs1 lo3 hi4 x12 = some out1 := hr
 unfold Zw_L1 at hr
 refine c_seq (c_region (lO (vLt R R) (l_nil (q_next (c_seq ?_)))))
 rcases bif_ hr with ⟨hb13, hr⟩ | ⟨hb13, hr⟩
 refine c_true R hb13 (c_skip (q_next (c_seq (c_block (c_seq ?_)))))
 obtain ⟨hg14, hr⟩ := gd hr
 refine c_region (t_some 0 sees_rd (show 0 < xs1.length by have := hg14; omega) (fun g15 o16 ha => ?_))
 subst ha
 refine lO (vIa sl29 sz3 R R hg14) (lO (vLi 0 ag3 sees_rd R hg14) (lI R (l_nil (q_next (c_seq ?_)))))
 obtain ⟨r17, hx18, hr⟩ := bd hr
 refine c_region (lI R (lI R (lI R (lC 0 cb31 R (Zx_ok hx18) R ?_))))
 rintro _
 refine lO (vNo R) (l_nil (q_next ?_))
 rcases bif_ hr with ⟨hb19, hr⟩ | ⟨hb19, hr⟩
 refine c_true R hb19 (c_seq (c_region (lB R (l_nil (q_next (c_ret (q_blockr (q_ret ?_))))))))
 obtain rfl := so hr
 obtain rfl := he1 _ R
 have hr := hk1
 refine q_ret (q_blockr (q_ret ?_))
 obtain rfl := so hr
 exact qF () (fun w s => (s.e 1 []))
 refine c_false R hb19 (c_skip (q_blockn (q_next (c_region (lO (vAd R R) (lI R (l_nil ?_)))))))
 obtain rfl := so hr
 exact qA () (fun w s => s)
 refine c_false R hb13 (c_exit (q_exit ?_))
 obtain rfl := so hr
 obtain rfl := he1 _ R
 have hr := hk1
 refine q_exit (q_block ?_)
 exact q_join ((), ()) hr trivial (fun w s => s)
 rintro ⟨_, _⟩ σ1 hr
 replace hr : Zw_J1 = some r := hr
 unfold Zw_J1 at hr
 refine c_seq (c_region (lB R (l_nil (q_next (c_ret ?_)))))
 obtain rfl := so hr
 exact qF () (fun w s => (s.e 1 []))
theorem Z0c_ok  {xs1 : (List Int)} {p3 : Int} {r : Bool} (hr : Z0c xs1 p3 = some r) :
 FnOk Try.prog 53 [(.slice A2 N2 D2), (iv p3)] [rds kT3 (.slice A2 N2 D2) xs1] (fun (h : Unit) => ((.bool r), [])) := by
 unfold Z0c at hr
 refine fn_ok Try.func53 R 17 R R fun C V => ?_
 refine cN (_ :: V) ?_
 refine cL 0 sees_rd ?_
 rintro rfl
 let W0 : List HP := RR kT3 A2 D2 xs1 :: V
 refine cN W0 ?_
 refine c_seq (c_region (lB R (l_nil (q_next (c_seq (c_cut (A := (Unit) × (Unit)) (fun a => Z0c_J1 = some r) (fun a => []) (fun a => W0) ?_ ?_))))))
 refine c_seq (c_region (lS R (lO (v_len sl29 R) (lI R (l_nil (q_next (c_block ?_)))))))
 obtain ⟨e1, hl1, hk1⟩ := bd hr
 refine c_loop (A := Unit) hl1 (fun s a => [(1, (iv p3)), (7, (sc A2 xs1 D2)), (8, (il xs1)), (9, (iv s))]) (fun s a => W0) () (aS R) (fun w s => s) ?_
 rintro x9 _ σ1 out1 hr he1
 replace hr : Z0c_L1 xs1 p3 x9 = some out1 := hr
 unfold Z0c_L1 at hr
 refine c_seq (c_region (lO (vLt R R) (l_nil (q_next (c_seq ?_)))))
 rcases bif_ hr with ⟨hb10, hr⟩ | ⟨hb10, hr⟩
 refine c_true R hb10 (c_skip (q_next (c_seq (c_block (c_seq ?_)))))
 obtain ⟨hg11, hr⟩ := gd hr
 refine c_region (t_some 0 sees_rd (show 0 < xs1.length by have := hg11; omega) (fun g12 o13 ha => ?_))
 subst ha
 refine lO (vIa sl29 sz3 R R hg11) (lO (vLi 0 ag3 sees_rd R hg11) (lI R (l_nil (q_next (c_seq (c_region (lI R (lI R (lO (vNe R R) (l_nil (q_next ?_)))))))))))
 rcases bif_ hr with ⟨hb14, hr⟩ | ⟨hb14, hr⟩
 refine c_true R hb14 (c_seq (c_region (lB R (l_nil (q_next (c_ret (q_blockr (q_ret ?_))))))))
 obtain rfl := so hr
 obtain rfl := he1 _ R
 have hr := hk1
 refine q_ret (q_blockr (q_ret ?_))
 obtain rfl := so hr
 exact qF () (fun w s => (s.e 1 []))
 refine c_false R hb14 (c_skip (q_blockn (q_next (c_region (lO (vAd R R) (lI R (l_nil ?_)))))))
 obtain rfl := so hr
 exact qA () (fun w s => s)
 refine c_false R hb10 (c_exit (q_exit ?_))
 obtain rfl := so hr
 obtain rfl := he1 _ R
 have hr := hk1
 refine q_exit (q_block ?_)
 exact q_join ((), ()) hr trivial (fun w s => s)
 rintro ⟨_, _⟩ σ1 hr
 replace hr : Z0c_J1 = some r := hr
 unfold Z0c_J1 at hr
 refine c_seq (c_region (lB R (l_nil (q_next (c_ret ?_)))))
 obtain rfl := so hr
 exact qF () (fun w s => (s.e 1 []))
end Go.Proofs.Ytkfgngcfcoplpaa
