import Derived.Test.YtkfgngcfcoplpaaGuW2
set_option linter.unusedVariables false
set_option maxRecDepth 20000
namespace Go.Proofs.Ytkfgngcfcoplpaa
open Go Go.Pg
variable {A2 : Option Addr} {D2 N2 : Nat}
theorem Z2_ok  {data1 : (List Row)} {a3 : Int} {b4 : Int} {r : Bool × (List Row)} (hr : Z2 data1 a3 b4 = some r) :
 FnOk Try.prog 96 [(.slice A2 N2 D2), (iv a3), (iv b4), (.func (.func 73) [].toArray [].toArray)] [ow (kT33).share 33 (.slice A2 N2 D2) data1] (fun (h : Unit) => ((.bool r.1), [ow (kT33).share 33 (.slice A2 N2 D2) r.2])) := by
 unfold Z2 at hr
 refine fn_ok Try.func96 R 141 R R fun C V => ?_
 refine cN (_ :: V) ?_
 refine cL 0 sees_sh ?_
 rintro rfl
 refine c_seq (c_region (lB R (l_nil (q_next (c_seq (c_region (lI R (lO (vAd R R) (lI R (l_nil (q_next (c_seq (c_cut (A := ((List Row)) × (Unit)) (fun a => Z2_J8 a.1 = some r) (fun a => []) (fun a => ow (kT33).share 33 (.slice A2 data1.length D2) a.1 :: V) ?_ ?_)))))))))))))
 refine c_seq (c_region (lI R (l_nil (q_next (c_block ?_)))))
 obtain ⟨e1, hl1, hk1⟩ := bd hr
 refine c_loop (A := Unit) hl1 (fun s a => [(0, (sc A2 data1 D2)), (1, (iv a3)), (2, (iv b4)), (3, (.func (.func 73) [].toArray [].toArray)), (9, (iv s.2.1)), (10, (iv s.2.2))]) (fun s a => ow (kT33).share 33 (.slice A2 data1.length D2) s.1 :: V) () (aS R) (fun w s => s) ?_
 rintro ⟨data138, i139, j140⟩ _ σ1 out1 hr he1
 replace hr : Z2_L1 data1 a3 b4 data138 i139 j140 = some out1 := hr
 unfold Z2_L1 at hr
 refine c_seq (c_seq (c_region (lI R (lO (vLt R R) (l_nil (q_next ?_))))))
 rcases bif_ hr with ⟨hb141, hr⟩ | ⟨hb141, hr⟩
 refine c_true R hb141 (c_skip (q_next (c_seq (c_cut (A := ((List Row) × Int) × (Unit)) (fun a => Z2_J7 j140 a.1.1 a.1.2 = some out1) (fun a => [(0, (sc A2 data1 D2)), (1, (iv a3)), (2, (iv b4)), (3, (.func (.func 73) [].toArray [].toArray)), (9, (iv a.1.2)), (10, (iv j140))]) (fun a => ow (kT33).share 33 (.slice A2 data1.length D2) a.1.1 :: V) ?_ ?_))))
 refine c_block (c_seq (c_cut (A := (Int) × (Unit)) (fun a => Z2_J5 data1 a3 b4 data138 j140 a.1 = some out1) (fun a => [(0, (sc A2 data1 D2)), (1, (iv a3)), (2, (iv b4)), (3, (.func (.func 73) [].toArray [].toArray)), (9, (iv a.1)), (10, (iv j140))]) (fun a => ow (kT33).share 33 (.slice A2 data1.length D2) data138 :: V) ?_ ?_))
 refine c_block ?_
 obtain ⟨e2, hl2, hk2⟩ := bd hr
 refine c_loop (A := Unit) hl2 (fun s a => [(0, (sc A2 data1 D2)), (1, (iv a3)), (2, (iv b4)), (3, (.func (.func 73) [].toArray [].toArray)), (9, (iv s)), (10, (iv j140))]) (fun s a => ow (kT33).share 33 (.slice A2 data1.length D2) data138 :: V) () (aS R) (fun w s => s) ?_
 rintro i154 _ σ1 out2 hr he2
 replace hr : Z2_L2 data1 b4 data138 i154 = some out2 := hr
 unfold Z2_L2 at hr
 refine c_seq (c_seq ?_)
 obtain ⟨hg155, hr⟩ := gd hr
 obtain ⟨hg160, hr⟩ := gd hr
 obtain ⟨r163, hx164, hr⟩ := bd hr
 refine cQ [(0, (sc A2 data1 D2)), (1, (iv a3)), (2, (iv b4)), (3, (.func (.func 73) [].toArray [].toArray)), (9, (iv i154)), (10, (iv j140)), (36, (.bool ((decide (i154 < b4)) && (!(decide (r163 < (0 : Int)))))))] (ow (kT33).share 33 (.slice A2 data1.length D2) data138 :: V) ?_ ?_
 rcases bo (decide (i154 < b4)) with hc165 | hc165
 refine c_some 0 sees_sh (show 0 < data1.length by have := (hg155 hc165); omega) (fun g156 o157 ha => ?_)
 subst ha
 refine cdr 18 [] mixo (fun ht hn => (dR 0 R (vI R) (dR 1 R (vI R) (dR 2 R (vLt R R) (dR 3 R (vB R) (dW 4 R (wnT hc165) (vp (.func (.func 73) [].toArray [].toArray) R) (dW 5 R (wnT hc165) (vS R) (dW 6 R (wnT hc165) (vI R) (dW 7 R (wnT hc165) (vIa sl24 sz33 R R (hg155 hc165)) (dW 9 R (wnT hc165) (vS R) (dW 10 R (wnT hc165) (vI R) (dW 11 R (wnT hc165) (vSb R R) (dW 12 R (wnT hc165) (vIa sl24 sz33 R R (hg160 hc165)) (d_all [8, 13] (by kernel_rfl) R ⟨?_, ?_, trivial⟩))))))))))))))
 refine l_ldo (K := (kT33).share) 0 i154 R (wnT hc165) ag33 sz33 dT33.own R R (hg155 hc165).1 (hg155 hc165).2 ?_
 rintro ⟨⟨A158, D158⟩, ⟨A159, D159⟩⟩
 refine lN (RR kT3 A158 D158 ((ix data138 i154).Key) :: RR kT3 A159 D159 ((ix data138 i154).Weights) :: ow (kT33).share 33 (.slice (ad g156 o157) data1.length D2) data138 :: V) ?_
 refine l_nil (q_draw (sL [1, 0]) (d1 13 R (l_ldo (K := (kT33).share) 2 (w64 (i154 - (1 : Int))) R (wnT hc165) ag33 sz33 dT33.own R R (hg160 hc165).1 (hg160 hc165).2 ?_)))
 rintro ⟨⟨A161, D161⟩, ⟨A162, D162⟩⟩
 refine lN (RR kT3 A161 D161 ((ix data138 (w64 (i154 - (1 : Int)))).Key) :: RR kT3 A162 D162 ((ix data138 (w64 (i154 - (1 : Int)))).Weights) :: _ :: _ :: _ :: V) ?_
 refine l_nil (q_draw (sL [3, 2, 1, 0]) (d1 14 R (lM (rds _ _ _ :: rds _ _ _ :: rds _ _ _ :: rds _ _ _ :: rds _ _ _ :: rds _ _ _ :: rds _ _ _ :: rds _ _ _ :: ow _ _ _ _ :: V) (fun w s => (((((s.d 2 R).d 4 R).d 2 R).d 4 R).e 9 [3, 2, 1, 0, 4, 5, 6, 7, 8])) ?_)))
 refine l_callvn (fs := []) (cs := []) 4 R (wnT hc165) cb73 R R (Z8_ok (gcall_t hx164 hc165)) R ?_
 rintro _
 refine lN (_ :: _ :: _ :: _ :: _ :: V) ?_
 refine l_nil (q_draw (sL [3, 2, 1, 0]) (dW 15 R (wnT hc165) (vLt R R) (hS := (sL [3, 2, 1, 0])) (dW 16 R (wnT hc165) (vNo R) (hS := (sL [3, 2, 1, 0])) (dR 17 R (pAT R hc165 R) (hS := (sL [3, 2, 1, 0])) (dD ?_)))))
 exact qJ (fun w s => (s.e 5 [4]))
 refine l_ldo (K := (kT33).share) 0 (w64 (i154 - (1 : Int))) R (wnT hc165) ag33 sz33 dT33.own R R (hg160 hc165).1 (hg160 hc165).2 ?_
 rintro ⟨⟨A161, D161⟩, ⟨A162, D162⟩⟩
 refine lN (_ :: _ :: _ :: V) ?_
 refine l_nil (q_draw (sL [1, 0]) (d1 8 R (l_ldo (K := (kT33).share) 2 i154 R (wnT hc165) ag33 sz33 dT33.own R R (hg155 hc165).1 (hg155 hc165).2 ?_)))
 rintro ⟨⟨A158, D158⟩, ⟨A159, D159⟩⟩
 refine lN (RR kT3 A158 D158 ((ix data138 i154).Key) :: RR kT3 A159 D159 ((ix data138 i154).Weights) :: _ :: _ :: _ :: V) ?_
 refine l_nil (q_draw (sL [3, 2, 1, 0]) (d1 14 R (lM (rds _ _ _ :: rds _ _ _ :: rds _ _ _ :: rds _ _ _ :: rds _ _ _ :: rds _ _ _ :: rds _ _ _ :: rds _ _ _ :: ow _ _ _ _ :: V) (fun w s => (((((s.d 0 R).d 2 R).d 4 R).d 6 R).e 9 [3, 2, 1, 0, 4, 5, 6, 7, 8])) ?_)))
 refine l_callvn (fs := []) (cs := []) 4 R (wnT hc165) cb73 R R (Z8_ok (gcall_t hx164 hc165)) R ?_
 rintro _
 refine lN (_ :: _ :: _ :: _ :: _ :: V) ?_
 refine l_nil (q_draw (sL [3, 2, 1, 0]) (dW 15 R (wnT hc165) (vLt R R) (hS := (sL [3, 2, 1, 0])) (dW 16 R (wnT hc165) (vNo R) (hS := (sL [3, 2, 1, 0])) (dR 17 R (pAT R hc165 R) (hS := (sL [3, 2, 1, 0])) (dD ?_)))))
 exact qJ (fun w s => (s.e 5 [4]))
 refine cdr 18 [] mixo (fun ht hn => (dR 0 R (vI R) (dR 1 R (vI R) (dR 2 R (vLt R R) (dR 3 R (vB R) (dF 4 R (wfF hc165) (dF 5 R (wfF hc165) (dF 6 R (wfF hc165) (dF 7 R (wfF hc165) (dF 8 R (wfF hc165) (dF 9 R (wfF hc165) (dF 10 R (wfF hc165) (dF 11 R (wfF hc165) (dF 12 R (wfF hc165) (dF 13 R (wfF hc165) (dF 14 R (wfF hc165) (dF 15 R (wfF hc165) (dF 16 R (wfF hc165) (dR 17 R (pAF (!(decide (r163 < (0 : Int)))) R hc165) (dD ?_))))))))))))))))))))
 exact qJ (fun w s => s)
 rintro σ1
 refine q_next ?_
 rcases bif_ hr with ⟨hb166, hr⟩ | ⟨hb166, hr⟩
 refine c_true R hb166 (c_skip (q_next (c_block (c_region (lI R (lO (vAd R R) (lI R (l_nil (q_blockn ?_)))))))))
 obtain rfl := so hr
 exact qA () (fun w s => s)
 refine c_false R hb166 (c_exit (q_exit ?_))
 obtain rfl := so hr
 obtain rfl := he2 _ R
 have hr := hk2
 refine q_exit (q_block ?_)
 exact qI (i154, ()) hr (fun w s => s)
 rintro ⟨i168, _⟩ σ1 hr
 replace hr : Z2_J5 data1 a3 b4 data138 j140 i168 = some out1 := hr
 unfold Z2_J5 at hr
 refine c_seq (c_seq (c_region (lI R (lI R (lO (vEq R R) (l_nil (q_next ?_)))))))
 rcases bif_ hr with ⟨hb169, hr⟩ | ⟨hb169, hr⟩
 refine c_true R hb169 (c_seq (c_region (lB R (l_nil (q_next (c_ret (q_ret (q_blockr (q_ret ?_)))))))))
 obtain rfl := so hr
 obtain rfl := he1 _ R
 have hr := hk1
 refine q_ret (q_blockr (q_ret ?_))
 obtain rfl := so hr
 exact qF () (fun w s => s)
 refine c_false R hb169 (c_skip (q_next (c_seq (c_seq (c_region (lI R (lI R (lO (vSb R R) (lO (vLt R R) (l_nil (q_next ?_)))))))))))
 rcases bif_ hr with ⟨hb170, hr⟩ | ⟨hb170, hr⟩
 refine c_true R hb170 (c_seq (c_region (lB R (l_nil (q_next (c_ret (q_ret (q_blockr (q_ret ?_)))))))))
 obtain rfl := so hr
 obtain rfl := he1 _ R
 have hr := hk1
 refine q_ret (q_blockr (q_ret ?_))
 obtain rfl := so hr
 exact qF () (fun w s => s)
 refine c_false R hb170 (c_skip (q_next (c_seq ?_)))
 obtain ⟨hg171, hr⟩ := gd hr
 obtain ⟨hg176, hr⟩ := gd hr
 refine cQ [(0, (sc A2 data1 D2)), (1, (iv a3)), (2, (iv b4)), (3, (.func (.func 73) [].toArray [].toArray)), (9, (iv i168)), (10, (iv j140))] (ow (kT33).share 33 (.slice A2 data1.length D2) ((data138.set i168.toNat (ix data138 (w64 (i168 - (1 : Int))))).set (w64 (i168 - (1 : Int))).toNat (ix data138 i168)) :: V) ?_ ?_
 refine c_some 0 sees_sh (show 0 < data1.length by have := hg171; omega) (fun g172 o173 ha => ?_)
 subst ha
 refine cdr 18 [0] mixo (fun ht hn => (dR 0 R (vS R) (hS := (sL [0])) (dR 1 R (vI R) (hS := (sL [0])) (dR 2 R (vS R) (hS := (sL [0])) (dR 3 R (vI R) (hS := (sL [0])) (dR 4 R (vSb R R) (hS := (sL [0])) (dR 5 R (vS R) (hS := (sL [0])) (dR 6 R (vI R) (hS := (sL [0])) (dR 7 R (vSb R R) (hS := (sL [0])) (dR 8 R (vIa sl24 sz33 R R hg171) (hS := (sL [0])) (dR 10 R (vS R) (hS := (sL [0])) (dR 11 R (vI R) (hS := (sL [0])) (dR 12 R (vIa sl24 sz33 R R hg176) (hS := (sL [0])) (d_all [9, 13] (by kernel_rfl) R ⟨?_, ?_, trivial⟩))))))))))))))
 refine l_ldo (K := (kT33).share) 0 (w64 (i168 - (1 : Int))) R R ag33 sz33 dT33.own R R hg171.1 hg171.2 ?_
 rintro ⟨⟨A174, D174⟩, ⟨A175, D175⟩⟩
 refine lN (RR kT3 A174 D174 ((ix data138 (w64 (i168 - (1 : Int)))).Key) :: RR kT3 A175 D175 ((ix data138 (w64 (i168 - (1 : Int)))).Weights) :: ow (kT33).share 33 (.slice (ad g172 o173) data1.length D2) data138 :: V) ?_
 refine l_nil (q_draw (sL [2, 1, 0]) (d1 13 R (l_ldo (K := (kT33).share) 2 i168 R R ag33 sz33 dT33.own R R hg176.1 hg176.2 ?_)))
 rintro ⟨⟨A177, D177⟩, ⟨A178, D178⟩⟩
 refine lN (RR kT3 A177 D177 ((ix data138 i168).Key) :: RR kT3 A178 D178 ((ix data138 i168).Weights) :: _ :: _ :: _ :: V) ?_
 refine l_nil (q_draw (sL [4, 3, 2, 1, 0]) (dR 14 R (vIa sl24 sz33 R R hg176) (hS := (sL [4, 3, 2, 1, 0])) (d1 15 R (lM (ow _ _ _ _ :: rds _ _ _ :: rds _ _ _ :: rds _ _ _ :: rds _ _ _ :: rds _ _ _ :: rds _ _ _ :: V) (fun w s => (((s.d 2 R).d 4 R).e 7 [6, 1, 0, 2, 3, 4, 5])) ?_))))
 refine l_stx (K := (kT33).share) (x' := (ix data138 (w64 (i168 - (1 : Int))))) 2 i168 R R sz33 R R hg176.1 hg176.2 ?_ ?_
 exact fun I h s => (mS33).put I h ((sc A174 ((ix data138 (w64 (i168 - (1 : Int)))).Key) D174), (sc A175 ((ix data138 (w64 (i168 - (1 : Int)))).Weights) D175)) (ix data138 (w64 (i168 - (1 : Int)))) s
 refine lN (ow (kT33).share 33 (.slice (ad g172 o173) data1.length D2) (data138.set i168.toNat (ix data138 (w64 (i168 - (1 : Int))))) :: _ :: _ :: _ :: _ :: V) ?_
 refine l_nil (q_draw (sL [4, 3, 2, 1, 0]) (dR 16 R (vIa sl24 sz33 R R hg171) (hS := (sL [4, 3, 2, 1, 0])) (d1 17 R (lM (ow _ _ _ _ :: rds _ _ _ :: rds _ _ _ :: rds _ _ _ :: rds _ _ _ :: rds _ _ _ :: rds _ _ _ :: V) (fun w s => (((s.d 1 R).d 3 R).e 7 [2, 1, 0, 3, 4, 5, 6])) ?_))))
 refine l_stx (K := (kT33).share) (x' := (ix data138 i168)) 2 (w64 (i168 - (1 : Int))) R R sz33 R R hg171.1 hg171.2 ?_ ?_
 exact fun I h s => (mS33).put I h ((sc A177 ((ix data138 i168).Key) D177), (sc A178 ((ix data138 i168).Weights) D178)) (ix data138 i168) s
 refine lN (ow (kT33).share 33 (.slice (ad g172 o173) data1.length D2) ((data138.set i168.toNat (ix data138 (w64 (i168 - (1 : Int))))).set (w64 (i168 - (1 : Int))).toNat (ix data138 i168)) :: _ :: _ :: _ :: _ :: V) ?_
 refine l_nil (q_draw (sL [4, 3, 2, 1, 0]) (dD ?_))
 exact qJ (fun w s => (s.e 5 [0]))
 refine l_ldo (K := (kT33).share) 0 i168 R R ag33 sz33 dT33.own R R hg176.1 hg176.2 ?_
 rintro ⟨⟨A177, D177⟩, ⟨A178, D178⟩⟩
 refine lN (_ :: _ :: ow (kT33).share 33 (.slice (ad g172 o173) data1.length D2) data138 :: V) ?_
 refine l_nil (q_draw (sL [2, 1, 0]) (d1 9 R (l_ldo (K := (kT33).share) 2 (w64 (i168 - (1 : Int))) R R ag33 sz33 dT33.own R R hg171.1 hg171.2 ?_)))
 rintro ⟨⟨A174, D174⟩, ⟨A175, D175⟩⟩
 refine lN (RR kT3 A174 D174 ((ix data138 (w64 (i168 - (1 : Int)))).Key) :: RR kT3 A175 D175 ((ix data138 (w64 (i168 - (1 : Int)))).Weights) :: _ :: _ :: _ :: V) ?_
 refine l_nil (q_draw (sL [4, 3, 2, 1, 0]) (dR 14 R (vIa sl24 sz33 R R hg176) (hS := (sL [4, 3, 2, 1, 0])) (d1 15 R (lM (ow _ _ _ _ :: rds _ _ _ :: rds _ _ _ :: rds _ _ _ :: rds _ _ _ :: rds _ _ _ :: rds _ _ _ :: V) (fun w s => (((s.d 0 R).d 2 R).e 7 [6, 1, 0, 2, 3, 4, 5])) ?_))))
 refine l_stx (K := (kT33).share) (x' := (ix data138 (w64 (i168 - (1 : Int))))) 2 i168 R R sz33 R R hg176.1 hg176.2 ?_ ?_
 exact fun I h s => (mS33).put I h ((sc A174 ((ix data138 (w64 (i168 - (1 : Int)))).Key) D174), (sc A175 ((ix data138 (w64 (i168 - (1 : Int)))).Weights) D175)) (ix data138 (w64 (i168 - (1 : Int)))) s
 refine lN (ow (kT33).share 33 (.slice (ad g172 o173) data1.length D2) (data138.set i168.toNat (ix data138 (w64 (i168 - (1 : Int))))) :: _ :: _ :: _ :: _ :: V) ?_
 refine l_nil (q_draw (sL [4, 3, 2, 1, 0]) (dR 16 R (vIa sl24 sz33 R R hg171) (hS := (sL [4, 3, 2, 1, 0])) (d1 17 R (lM (ow _ _ _ _ :: rds _ _ _ :: rds _ _ _ :: rds _ _ _ :: rds _ _ _ :: rds _ _ _ :: rds _ _ _ :: V) (fun w s => (((s.d 3 R).d 5 R).e 7 [2, 1, 0, 3, 4, 5, 6])) ?_))))
 refine l_stx (K := (kT33).share) (x' := (ix data138 i168)) 2 (w64 (i168 - (1 : Int))) R R sz33 R R hg171.1 hg171.2 ?_ ?_
 exact fun I h s => (mS33).put I h ((sc A177 ((ix data138 i168).Key) D177), (sc A178 ((ix data138 i168).Weights) D178)) (ix data138 i168) s
 refine lN (ow (kT33).share 33 (.slice (ad g172 o173) data1.length D2) ((data138.set i168.toNat (ix data138 (w64 (i168 - (1 : Int))))).set (w64 (i168 - (1 : Int))).toNat (ix data138 i168)) :: _ :: _ :: _ :: _ :: V) ?_
 refine l_nil (q_draw (sL [4, 3, 2, 1, 0]) (dD ?_))
 exact qJ (fun w s => (s.e 5 [0]))
 rintro σ1
 obtain ⟨l179, hl180, hr⟩ := bd hr
 replace hl180 := Option.some.inj hl180
 refine qM (ow (kT33).share 33 (.slice A2 data1.length D2) l179 :: V) (fun w s => by rw [← hl180]; exact s) ?_
 refine q_next (c_seq (c_cut (A := ((List Row)) × (Unit)) (fun a => Z2_J6 data1 b4 j140 i168 a.1 = some out1) (fun a => [(0, (sc A2 data1 D2)), (1, (iv a3)), (2, (iv b4)), (3, (.func (.func 73) [].toArray [].toArray)), (9, (iv i168)), (10, (iv j140))]) (fun a => ow (kT33).share 33 (.slice A2 data1.length D2) a.1 :: V) ?_ ?_))
 refine c_seq (c_region (lI R (lI R (lO (vSb R R) (lO (vGe R R) (l_nil (q_next ?_)))))))
 rcases bif_ hr with ⟨hb181, hr⟩ | ⟨hb181, hr⟩
 refine c_true R hb181 (c_seq (c_region (lI R (lO (vSb R R) (lI R (l_nil (q_next (c_block ?_))))))))
 obtain ⟨e3, hl3, hk3⟩ := bd hr
 refine c_loop (A := Unit) hl3 (fun s a => [(0, (sc A2 data1 D2)), (1, (iv a3)), (2, (iv b4)), (3, (.func (.func 73) [].toArray [].toArray)), (9, (iv i168)), (10, (iv j140)), (11, (iv s.2))]) (fun s a => ow (kT33).share 33 (.slice A2 data1.length D2) s.1 :: V) () (aS R) (fun w s => s) ?_
 rintro ⟨data201, j202⟩ _ σ1 out3 hr he3
 replace hr : Z2_L3 data1 data201 j202 = some out3 := hr
 unfold Z2_L3 at hr
 refine c_seq (c_seq (c_region (lI R (lO (vGe R R) (l_nil (q_next ?_))))))
 rcases bif_ hr with ⟨hb203, hr⟩ | ⟨hb203, hr⟩
 refine c_true R hb203 (c_skip (q_next (c_seq (c_block (c_seq (c_seq ?_))))))
 obtain ⟨hg204, hr⟩ := gd hr
 obtain ⟨hg209, hr⟩ := gd hr
 obtain ⟨r212, hx213, hr⟩ := bd hr
 refine cQ [(0, (sc A2 data1 D2)), (1, (iv a3)), (2, (iv b4)), (3, (.func (.func 73) [].toArray [].toArray)), (9, (iv i168)), (10, (iv j140)), (11, (iv j202)), (84, (.bool (!(decide (r212 < (0 : Int))))))] (ow (kT33).share 33 (.slice A2 data1.length D2) data201 :: V) ?_ ?_
 refine c_some 0 sees_sh (show 0 < data1.length by have := hg204; omega) (fun g205 o206 ha => ?_)
 subst ha
 refine cdr 13 [] mixo (fun ht hn => (dR 0 R (vp (.func (.func 73) [].toArray [].toArray) R) (dR 1 R (vS R) (dR 2 R (vI R) (dR 3 R (vIa sl24 sz33 R R hg204) (dR 5 R (vS R) (dR 6 R (vI R) (dR 7 R (vSb R R) (dR 8 R (vIa sl24 sz33 R R hg209) (d_all [4, 9] (by kernel_rfl) R ⟨?_, ?_, trivial⟩))))))))))
 refine l_ldo (K := (kT33).share) 0 j202 R R ag33 sz33 dT33.own R R hg204.1 hg204.2 ?_
 rintro ⟨⟨A207, D207⟩, ⟨A208, D208⟩⟩
 refine lN (RR kT3 A207 D207 ((ix data201 j202).Key) :: RR kT3 A208 D208 ((ix data201 j202).Weights) :: ow (kT33).share 33 (.slice (ad g205 o206) data1.length D2) data201 :: V) ?_
 refine l_nil (q_draw (sL [1, 0]) (d1 9 R (l_ldo (K := (kT33).share) 2 (w64 (j202 - (1 : Int))) R R ag33 sz33 dT33.own R R hg209.1 hg209.2 ?_)))
 rintro ⟨⟨A210, D210⟩, ⟨A211, D211⟩⟩
 refine lN (RR kT3 A210 D210 ((ix data201 (w64 (j202 - (1 : Int)))).Key) :: RR kT3 A211 D211 ((ix data201 (w64 (j202 - (1 : Int)))).Weights) :: _ :: _ :: _ :: V) ?_
 refine l_nil (q_draw (sL [3, 2, 1, 0]) (d1 10 R (lM (rds _ _ _ :: rds _ _ _ :: rds _ _ _ :: rds _ _ _ :: rds _ _ _ :: rds _ _ _ :: rds _ _ _ :: rds _ _ _ :: ow _ _ _ _ :: V) (fun w s => (((((s.d 2 R).d 4 R).d 2 R).d 4 R).e 9 [3, 2, 1, 0, 4, 5, 6, 7, 8])) ?_)))
 refine l_callvn (fs := []) (cs := []) 4 R R cb73 R R (Z8_ok hx213) R ?_
 rintro _
 refine lN (_ :: _ :: _ :: _ :: _ :: V) ?_
 refine l_nil (q_draw (sL [3, 2, 1, 0]) (dR 11 R (vLt R R) (hS := (sL [3, 2, 1, 0])) (dR 12 R (vNo R) (hS := (sL [3, 2, 1, 0])) (dD ?_))))
 exact qJ (fun w s => (s.e 5 [4]))
 refine l_ldo (K := (kT33).share) 0 (w64 (j202 - (1 : Int))) R R ag33 sz33 dT33.own R R hg209.1 hg209.2 ?_
 rintro ⟨⟨A210, D210⟩, ⟨A211, D211⟩⟩
 refine lN (_ :: _ :: _ :: V) ?_
 refine l_nil (q_draw (sL [1, 0]) (d1 4 R (l_ldo (K := (kT33).share) 2 j202 R R ag33 sz33 dT33.own R R hg204.1 hg204.2 ?_)))
 rintro ⟨⟨A207, D207⟩, ⟨A208, D208⟩⟩
 refine lN (RR kT3 A207 D207 ((ix data201 j202).Key) :: RR kT3 A208 D208 ((ix data201 j202).Weights) :: _ :: _ :: _ :: V) ?_
 refine l_nil (q_draw (sL [3, 2, 1, 0]) (d1 10 R (lM (rds _ _ _ :: rds _ _ _ :: rds _ _ _ :: rds _ _ _ :: rds _ _ _ :: rds _ _ _ :: rds _ _ _ :: rds _ _ _ :: ow _ _ _ _ :: V) (fun w s => (((((s.d 0 R).d 2 R).d 4 R).d 6 R).e 9 [3, 2, 1, 0, 4, 5, 6, 7, 8])) ?_)))
 refine l_callvn (fs := []) (cs := []) 4 R R cb73 R R (Z8_ok hx213) R ?_
 rintro _
 refine lN (_ :: _ :: _ :: _ :: _ :: V) ?_
 refine l_nil (q_draw (sL [3, 2, 1, 0]) (dR 11 R (vLt R R) (hS := (sL [3, 2, 1, 0])) (dR 12 R (vNo R) (hS := (sL [3, 2, 1, 0])) (dD ?_))))
 exact qJ (fun w s => (s.e 5 [4]))
 rintro σ1
 refine q_next ?_
 rcases bif_ hr with ⟨hb214, hr⟩ | ⟨hb214, hr⟩
 refine c_true R hb214 (c_exit (q_exit (q_pass R (q_exit ?_))))
 obtain rfl := so hr
 obtain rfl := he3 _ R
 have hr := hk3
 refine q_exit (q_block ?_)
 exact qI (data201, ()) hr (fun w s => s)
 refine c_false R hb214 (c_skip (q_next (cQ [(0, (sc A2 data1 D2)), (1, (iv a3)), (2, (iv b4)), (3, (.func (.func 73) [].toArray [].toArray)), (9, (iv i168)), (10, (iv j140)), (11, (iv j202))] (ow (kT33).share 33 (.slice A2 data1.length D2) ((data201.set j202.toNat (ix data201 (w64 (j202 - (1 : Int))))).set (w64 (j202 - (1 : Int))).toNat (ix data201 j202)) :: V) ?_ ?_)))
 refine c_some 0 sees_sh (show 0 < data1.length by have := hg209; omega) (fun g215 o216 ha => ?_)
 subst ha
 refine cdr 18 [0] mixo (fun ht hn => (dR 0 R (vS R) (hS := (sL [0])) (dR 1 R (vI R) (hS := (sL [0])) (dR 2 R (vS R) (hS := (sL [0])) (dR 3 R (vI R) (hS := (sL [0])) (dR 4 R (vSb R R) (hS := (sL [0])) (dR 5 R (vS R) (hS := (sL [0])) (dR 6 R (vI R) (hS := (sL [0])) (dR 7 R (vSb R R) (hS := (sL [0])) (dR 8 R (vIa sl24 sz33 R R hg209) (hS := (sL [0])) (dR 10 R (vS R) (hS := (sL [0])) (dR 11 R (vI R) (hS := (sL [0])) (dR 12 R (vIa sl24 sz33 R R hg204) (hS := (sL [0])) (d_all [9, 13] (by kernel_rfl) R ⟨?_, ?_, trivial⟩))))))))))))))
 refine l_ldo (K := (kT33).share) 0 (w64 (j202 - (1 : Int))) R R ag33 sz33 dT33.own R R hg209.1 hg209.2 ?_
 rintro ⟨⟨A217, D217⟩, ⟨A218, D218⟩⟩
 refine lN (RR kT3 A217 D217 ((ix data201 (w64 (j202 - (1 : Int)))).Key) :: RR kT3 A218 D218 ((ix data201 (w64 (j202 - (1 : Int)))).Weights) :: ow (kT33).share 33 (.slice (ad g215 o216) data1.length D2) data201 :: V) ?_
 refine l_nil (q_draw (sL [2, 1, 0]) (d1 13 R (l_ldo (K := (kT33).share) 2 j202 R R ag33 sz33 dT33.own R R hg204.1 hg204.2 ?_)))
 rintro ⟨⟨A219, D219⟩, ⟨A220, D220⟩⟩
 refine lN (RR kT3 A219 D219 ((ix data201 j202).Key) :: RR kT3 A220 D220 ((ix data201 j202).Weights) :: _ :: _ :: _ :: V) ?_
 refine l_nil (q_draw (sL [4, 3, 2, 1, 0]) (dR 14 R (vIa sl24 sz33 R R hg204) (hS := (sL [4, 3, 2, 1, 0])) (d1 15 R (lM (ow _ _ _ _ :: rds _ _ _ :: rds _ _ _ :: rds _ _ _ :: rds _ _ _ :: rds _ _ _ :: rds _ _ _ :: V) (fun w s => (((s.d 2 R).d 4 R).e 7 [6, 1, 0, 2, 3, 4, 5])) ?_))))
 refine l_stx (K := (kT33).share) (x' := (ix data201 (w64 (j202 - (1 : Int))))) 2 j202 R R sz33 R R hg204.1 hg204.2 ?_ ?_
 exact fun I h s => (mS33).put I h ((sc A217 ((ix data201 (w64 (j202 - (1 : Int)))).Key) D217), (sc A218 ((ix data201 (w64 (j202 - (1 : Int)))).Weights) D218)) (ix data201 (w64 (j202 - (1 : Int)))) s
 refine lN (ow (kT33).share 33 (.slice (ad g215 o216) data1.length D2) (data201.set j202.toNat (ix data201 (w64 (j202 - (1 : Int))))) :: _ :: _ :: _ :: _ :: V) ?_
 refine l_nil (q_draw (sL [4, 3, 2, 1, 0]) (dR 16 R (vIa sl24 sz33 R R hg209) (hS := (sL [4, 3, 2, 1, 0])) (d1 17 R (lM (ow _ _ _ _ :: rds _ _ _ :: rds _ _ _ :: rds _ _ _ :: rds _ _ _ :: rds _ _ _ :: rds _ _ _ :: V) (fun w s => (((s.d 1 R).d 3 R).e 7 [2, 1, 0, 3, 4, 5, 6])) ?_))))
 refine l_stx (K := (kT33).share) (x' := (ix data201 j202)) 2 (w64 (j202 - (1 : Int))) R R sz33 R R hg209.1 hg209.2 ?_ ?_
 exact fun I h s => (mS33).put I h ((sc A219 ((ix data201 j202).Key) D219), (sc A220 ((ix data201 j202).Weights) D220)) (ix data201 j202) s
 refine lN (ow (kT33).share 33 (.slice (ad g215 o216) data1.length D2) ((data201.set j202.toNat (ix data201 (w64 (j202 - (1 : Int))))).set (w64 (j202 - (1 : Int))).toNat (ix data201 j202)) :: _ :: _ :: _ :: _ :: V) ?_
 refine l_nil (q_draw (sL [4, 3, 2, 1, 0]) (dD ?_))
 exact qJ (fun w s => (s.e 5 [0]))
 refine l_ldo (K := (kT33).share) 0 j202 R R ag33 sz33 dT33.own R R hg204.1 hg204.2 ?_
 rintro ⟨⟨A219, D219⟩, ⟨A220, D220⟩⟩
 refine lN (_ :: _ :: ow (kT33).share 33 (.slice (ad g215 o216) data1.length D2) data201 :: V) ?_
 refine l_nil (q_draw (sL [2, 1, 0]) (d1 9 R (l_ldo (K := (kT33).share) 2 (w64 (j202 - (1 : Int))) R R ag33 sz33 dT33.own R R hg209.1 hg209.2 ?_)))
 rintro ⟨⟨A217, D217⟩, ⟨A218, D218⟩⟩
 refine lN (RR kT3 A217 D217 ((ix data201 (w64 (j202 - (1 : Int)))).Key) :: RR kT3 A218 D218 ((ix data201 (w64 (j202 - (1 : Int)))).Weights) :: _ :: _ :: _ :: V) ?_
 refine l_nil (q_draw (sL [4, 3, 2, 1, 0]) (dR 14 R (vIa sl24 sz33 R R hg204) (hS := (sL [4, 3, 2, 1, 0])) (d1 15 R (lM (ow _ _ _ _ :: rds _ _ _ :: rds _ _ _ :: rds _ _ _ :: rds _ _ _ :: rds _ _ _ :: rds _ _ _ :: V) (fun w s => (((s.d 0 R).d 2 R).e 7 [6, 1, 0, 2, 3, 4, 5])) ?_))))
 refine l_stx (K := (kT33).share) (x' := (ix data201 (w64 (j202 - (1 : Int))))) 2 j202 R R sz33 R R hg204.1 hg204.2 ?_ ?_
 exact fun I h s => (mS33).put I h ((sc A217 ((ix data201 (w64 (j202 - (1 : Int)))).Key) D217), (sc A218 ((ix data201 (w64 (j202 - (1 : Int)))).Weights) D218)) (ix data201 (w64 (j202 - (1 : Int)))) s
 refine lN (ow (kT33).share 33 (.slice (ad g215 o216) data1.length D2) (data201.set j202.toNat (ix data201 (w64 (j202 - (1 : Int))))) :: _ :: _ :: _ :: _ :: V) ?_
 refine l_nil (q_draw (sL [4, 3, 2, 1, 0]) (dR 16 R (vIa sl24 sz33 R R hg209) (hS := (sL [4, 3, 2, 1, 0])) (d1 17 R (lM (ow _ _ _ _ :: rds _ _ _ :: rds _ _ _ :: rds _ _ _ :: rds _ _ _ :: rds _ _ _ :: rds _ _ _ :: V) (fun w s => (((s.d 3 R).d 5 R).e 7 [2, 1, 0, 3, 4, 5, 6])) ?_))))
 refine l_stx (K := (kT33).share) (x' := (ix data201 j202)) 2 (w64 (j202 - (1 : Int))) R R sz33 R R hg209.1 hg209.2 ?_ ?_
 exact fun I h s => (mS33).put I h ((sc A219 ((ix data201 j202).Key) D219), (sc A220 ((ix data201 j202).Weights) D220)) (ix data201 j202) s
 refine lN (ow (kT33).share 33 (.slice (ad g215 o216) data1.length D2) ((data201.set j202.toNat (ix data201 (w64 (j202 - (1 : Int))))).set (w64 (j202 - (1 : Int))).toNat (ix data201 j202)) :: _ :: _ :: _ :: _ :: V) ?_
 refine l_nil (q_draw (sL [4, 3, 2, 1, 0]) (dD ?_))
 exact qJ (fun w s => (s.e 5 [0]))
 rintro σ1
 obtain ⟨l221, hl222, hr⟩ := bd hr
 replace hl222 := Option.some.inj hl222
 refine qM (ow (kT33).share 33 (.slice A2 data1.length D2) l221 :: V) (fun w s => by rw [← hl222]; exact s) ?_
 refine q_blockn (q_next (c_region (lI R (lO (vSb R R) (lI R (l_nil ?_))))))
 obtain rfl := so hr
 exact qA () (fun w s => s)
 refine c_false R hb203 (c_exit (q_exit ?_))
 obtain rfl := so hr
 obtain rfl := he3 _ R
 have hr := hk3
 refine q_exit (q_block ?_)
 exact qI (data201, ()) hr (fun w s => s)
 refine c_false R hb181 (c_skip ?_)
 exact qI (l179, ()) hr (fun w s => s)
 rintro ⟨data225, _⟩ σ1 hr
 replace hr : Z2_J6 data1 b4 j140 i168 data225 = some out1 := hr
 unfold Z2_J6 at hr
 refine c_seq (c_region (lI R (lI R (lO (vSb R R) (lO (vGe R R) (l_nil (q_next ?_)))))))
 rcases bif_ hr with ⟨hb226, hr⟩ | ⟨hb226, hr⟩
 refine c_true R hb226 (c_seq (c_region (lI R (lO (vAd R R) (lI R (l_nil (q_next (c_block ?_))))))))
 obtain ⟨e4, hl4, hk4⟩ := bd hr
 refine c_loop (A := Unit) hl4 (fun s a => [(0, (sc A2 data1 D2)), (1, (iv a3)), (2, (iv b4)), (3, (.func (.func 73) [].toArray [].toArray)), (9, (iv i168)), (10, (iv j140)), (12, (iv s.2))]) (fun s a => ow (kT33).share 33 (.slice A2 data1.length D2) s.1 :: V) () (aS R) (fun w s => s) ?_
 rintro ⟨data247, j248⟩ _ σ1 out4 hr he4
 replace hr : Z2_L4 data1 b4 i168 data247 j248 = some out4 := hr
 unfold Z2_L4 at hr
 refine c_seq (c_seq (c_region (lI R (lI R (lO (vLt R R) (l_nil (q_next ?_)))))))
 rcases bif_ hr with ⟨hb249, hr⟩ | ⟨hb249, hr⟩
 refine c_true R hb249 (c_skip (q_next (c_seq (c_block (c_seq (c_seq ?_))))))
 obtain ⟨hg250, hr⟩ := gd hr
 obtain ⟨hg255, hr⟩ := gd hr
 obtain ⟨r258, hx259, hr⟩ := bd hr
 refine cQ [(0, (sc A2 data1 D2)), (1, (iv a3)), (2, (iv b4)), (3, (.func (.func 73) [].toArray [].toArray)), (9, (iv i168)), (10, (iv j140)), (12, (iv j248)), (124, (.bool (!(decide (r258 < (0 : Int))))))] (ow (kT33).share 33 (.slice A2 data1.length D2) data247 :: V) ?_ ?_
 refine c_some 0 sees_sh (show 0 < data1.length by have := hg250; omega) (fun g251 o252 ha => ?_)
 subst ha
 refine cdr 13 [] mixo (fun ht hn => (dR 0 R (vp (.func (.func 73) [].toArray [].toArray) R) (dR 1 R (vS R) (dR 2 R (vI R) (dR 3 R (vIa sl24 sz33 R R hg250) (dR 5 R (vS R) (dR 6 R (vI R) (dR 7 R (vSb R R) (dR 8 R (vIa sl24 sz33 R R hg255) (d_all [4, 9] (by kernel_rfl) R ⟨?_, ?_, trivial⟩))))))))))
 refine l_ldo (K := (kT33).share) 0 j248 R R ag33 sz33 dT33.own R R hg250.1 hg250.2 ?_
 rintro ⟨⟨A253, D253⟩, ⟨A254, D254⟩⟩
 refine lN (RR kT3 A253 D253 ((ix data247 j248).Key) :: RR kT3 A254 D254 ((ix data247 j248).Weights) :: ow (kT33).share 33 (.slice (ad g251 o252) data1.length D2) data247 :: V) ?_
 refine l_nil (q_draw (sL [1, 0]) (d1 9 R (l_ldo (K := (kT33).share) 2 (w64 (j248 - (1 : Int))) R R ag33 sz33 dT33.own R R hg255.1 hg255.2 ?_)))
 rintro ⟨⟨A256, D256⟩, ⟨A257, D257⟩⟩
 refine lN (RR kT3 A256 D256 ((ix data247 (w64 (j248 - (1 : Int)))).Key) :: RR kT3 A257 D257 ((ix data247 (w64 (j248 - (1 : Int)))).Weights) :: _ :: _ :: _ :: V) ?_
 refine l_nil (q_draw (sL [3, 2, 1, 0]) (d1 10 R (lM (rds _ _ _ :: rds _ _ _ :: rds _ _ _ :: rds _ _ _ :: rds _ _ _ :: rds _ _ _ :: rds _ _ _ :: rds _ _ _ :: ow _ _ _ _ :: V) (fun w s => (((((s.d 2 R).d 4 R).d 2 R).d 4 R).e 9 [3, 2, 1, 0, 4, 5, 6, 7, 8])) ?_)))
 refine l_callvn (fs := []) (cs := []) 4 R R cb73 R R (Z8_ok hx259) R ?_
 rintro _
 refine lN (_ :: _ :: _ :: _ :: _ :: V) ?_
 refine l_nil (q_draw (sL [3, 2, 1, 0]) (dR 11 R (vLt R R) (hS := (sL [3, 2, 1, 0])) (dR 12 R (vNo R) (hS := (sL [3, 2, 1, 0])) (dD ?_))))
 exact qJ (fun w s => (s.e 5 [4]))
 refine l_ldo (K := (kT33).share) 0 (w64 (j248 - (1 : Int))) R R ag33 sz33 dT33.own R R hg255.1 hg255.2 ?_
 rintro ⟨⟨A256, D256⟩, ⟨A257, D257⟩⟩
 refine lN (_ :: _ :: _ :: V) ?_
 refine l_nil (q_draw (sL [1, 0]) (d1 4 R (l_ldo (K := (kT33).share) 2 j248 R R ag33 sz33 dT33.own R R hg250.1 hg250.2 ?_)))
 rintro ⟨⟨A253, D253⟩, ⟨A254, D254⟩⟩
 refine lN (RR kT3 A253 D253 ((ix data247 j248).Key) :: RR kT3 A254 D254 ((ix data247 j248).Weights) :: _ :: _ :: _ :: V) ?_
 refine l_nil (q_draw (sL [3, 2, 1, 0]) (d1 10 R (lM (rds _ _ _ :: rds _ _ _ :: rds _ _ _ :: rds _ _ _ :: rds _ _ _ :: rds _ _ _ :: rds _ _ _ :: rds _ _ _ :: ow _ _ _ _ :: V) (fun w s => (((((s.d 0 R).d 2 R).d 4 R).d 6 R).e 9 [3, 2, 1, 0, 4, 5, 6, 7, 8])) ?_)))
 refine l_callvn (fs := []) (cs := []) 4 R R cb73 R R (Z8_ok hx259) R ?_
 rintro _
 refine lN (_ :: _ :: _ :: _ :: _ :: V) ?_
 refine l_nil (q_draw (sL [3, 2, 1, 0]) (dR 11 R (vLt R R) (hS := (sL [3, 2, 1, 0])) (dR 12 R (vNo R) (hS := (sL [3, 2, 1, 0])) (dD ?_))))
 exact qJ (fun w s => (s.e 5 [4]))
 rintro σ1
 refine q_next ?_
 rcases bif_ hr with ⟨hb260, hr⟩ | ⟨hb260, hr⟩
 refine c_true R hb260 (c_exit (q_exit (q_pass R (q_exit ?_))))
 obtain rfl := so hr
 obtain rfl := he4 _ R
 have hr := hk4
 refine q_exit (q_block (q_blockn ?_))
 exact qI ((data247, i168), ()) hr (fun w s => s)
 refine c_false R hb260 (c_skip (q_next (cQ [(0, (sc A2 data1 D2)), (1, (iv a3)), (2, (iv b4)), (3, (.func (.func 73) [].toArray [].toArray)), (9, (iv i168)), (10, (iv j140)), (12, (iv j248))] (ow (kT33).share 33 (.slice A2 data1.length D2) ((data247.set j248.toNat (ix data247 (w64 (j248 - (1 : Int))))).set (w64 (j248 - (1 : Int))).toNat (ix data247 j248)) :: V) ?_ ?_)))
 refine c_some 0 sees_sh (show 0 < data1.length by have := hg255; omega) (fun g261 o262 ha => ?_)
 subst ha
 refine cdr 18 [0] mixo (fun ht hn => (dR 0 R (vS R) (hS := (sL [0])) (dR 1 R (vI R) (hS := (sL [0])) (dR 2 R (vS R) (hS := (sL [0])) (dR 3 R (vI R) (hS := (sL [0])) (dR 4 R (vSb R R) (hS := (sL [0])) (dR 5 R (vS R) (hS := (sL [0])) (dR 6 R (vI R) (hS := (sL [0])) (dR 7 R (vSb R R) (hS := (sL [0])) (dR 8 R (vIa sl24 sz33 R R hg255) (hS := (sL [0])) (dR 10 R (vS R) (hS := (sL [0])) (dR 11 R (vI R) (hS := (sL [0])) (dR 12 R (vIa sl24 sz33 R R hg250) (hS := (sL [0])) (d_all [9, 13] (by kernel_rfl) R ⟨?_, ?_, trivial⟩))))))))))))))
 refine l_ldo (K := (kT33).share) 0 (w64 (j248 - (1 : Int))) R R ag33 sz33 dT33.own R R hg255.1 hg255.2 ?_
 rintro ⟨⟨A263, D263⟩, ⟨A264, D264⟩⟩
 refine lN (RR kT3 A263 D263 ((ix data247 (w64 (j248 - (1 : Int)))).Key) :: RR kT3 A264 D264 ((ix data247 (w64 (j248 - (1 : Int)))).Weights) :: ow (kT33).share 33 (.slice (ad g261 o262) data1.length D2) data247 :: V) ?_
 refine l_nil (q_draw (sL [2, 1, 0]) (d1 13 R (l_ldo (K := (kT33).share) 2 j248 R R ag33 sz33 dT33.own R R hg250.1 hg250.2 ?_)))
 rintro ⟨⟨A265, D265⟩, ⟨A266, D266⟩⟩
 refine lN (RR kT3 A265 D265 ((ix data247 j248).Key) :: RR kT3 A266 D266 ((ix data247 j248).Weights) :: _ :: _ :: _ :: V) ?_
 refine l_nil (q_draw (sL [4, 3, 2, 1, 0]) (dR 14 R (vIa sl24 sz33 R R hg250) (hS := (sL [4, 3, 2, 1, 0])) (d1 15 R (lM (ow _ _ _ _ :: rds _ _ _ :: rds _ _ _ :: rds _ _ _ :: rds _ _ _ :: rds _ _ _ :: rds _ _ _ :: V) (fun w s => (((s.d 2 R).d 4 R).e 7 [6, 1, 0, 2, 3, 4, 5])) ?_))))
 refine l_stx (K := (kT33).share) (x' := (ix data247 (w64 (j248 - (1 : Int))))) 2 j248 R R sz33 R R hg250.1 hg250.2 ?_ ?_
 exact fun I h s => (mS33).put I h ((sc A263 ((ix data247 (w64 (j248 - (1 : Int)))).Key) D263), (sc A264 ((ix data247 (w64 (j248 - (1 : Int)))).Weights) D264)) (ix data247 (w64 (j248 - (1 : Int)))) s
 refine lN (ow (kT33).share 33 (.slice (ad g261 o262) data1.length D2) (data247.set j248.toNat (ix data247 (w64 (j248 - (1 : Int))))) :: _ :: _ :: _ :: _ :: V) ?_
 refine l_nil (q_draw (sL [4, 3, 2, 1, 0]) (dR 16 R (vIa sl24 sz33 R R hg255) (hS := (sL [4, 3, 2, 1, 0])) (d1 17 R (lM (ow _ _ _ _ :: rds _ _ _ :: rds _ _ _ :: rds _ _ _ :: rds _ _ _ :: rds _ _ _ :: rds _ _ _ :: V) (fun w s => (((s.d 1 R).d 3 R).e 7 [2, 1, 0, 3, 4, 5, 6])) ?_))))
 refine l_stx (K := (kT33).share) (x' := (ix data247 j248)) 2 (w64 (j248 - (1 : Int))) R R sz33 R R hg255.1 hg255.2 ?_ ?_
 exact fun I h s => (mS33).put I h ((sc A265 ((ix data247 j248).Key) D265), (sc A266 ((ix data247 j248).Weights) D266)) (ix data247 j248) s
 refine lN (ow (kT33).share 33 (.slice (ad g261 o262) data1.length D2) ((data247.set j248.toNat (ix data247 (w64 (j248 - (1 : Int))))).set (w64 (j248 - (1 : Int))).toNat (ix data247 j248)) :: _ :: _ :: _ :: _ :: V) ?_
 refine l_nil (q_draw (sL [4, 3, 2, 1, 0]) (dD ?_))
 exact qJ (fun w s => (s.e 5 [0]))
 refine l_ldo (K := (kT33).share) 0 j248 R R ag33 sz33 dT33.own R R hg250.1 hg250.2 ?_
 rintro ⟨⟨A265, D265⟩, ⟨A266, D266⟩⟩
 refine lN (_ :: _ :: ow (kT33).share 33 (.slice (ad g261 o262) data1.length D2) data247 :: V) ?_
 refine l_nil (q_draw (sL [2, 1, 0]) (d1 9 R (l_ldo (K := (kT33).share) 2 (w64 (j248 - (1 : Int))) R R ag33 sz33 dT33.own R R hg255.1 hg255.2 ?_)))
 rintro ⟨⟨A263, D263⟩, ⟨A264, D264⟩⟩
 refine lN (RR kT3 A263 D263 ((ix data247 (w64 (j248 - (1 : Int)))).Key) :: RR kT3 A264 D264 ((ix data247 (w64 (j248 - (1 : Int)))).Weights) :: _ :: _ :: _ :: V) ?_
 refine l_nil (q_draw (sL [4, 3, 2, 1, 0]) (dR 14 R (vIa sl24 sz33 R R hg250) (hS := (sL [4, 3, 2, 1, 0])) (d1 15 R (lM (ow _ _ _ _ :: rds _ _ _ :: rds _ _ _ :: rds _ _ _ :: rds _ _ _ :: rds _ _ _ :: rds _ _ _ :: V) (fun w s => (((s.d 0 R).d 2 R).e 7 [6, 1, 0, 2, 3, 4, 5])) ?_))))
 refine l_stx (K := (kT33).share) (x' := (ix data247 (w64 (j248 - (1 : Int))))) 2 j248 R R sz33 R R hg250.1 hg250.2 ?_ ?_
 exact fun I h s => (mS33).put I h ((sc A263 ((ix data247 (w64 (j248 - (1 : Int)))).Key) D263), (sc A264 ((ix data247 (w64 (j248 - (1 : Int)))).Weights) D264)) (ix data247 (w64 (j248 - (1 : Int)))) s
 refine lN (ow (kT33).share 33 (.slice (ad g261 o262) data1.length D2) (data247.set j248.toNat (ix data247 (w64 (j248 - (1 : Int))))) :: _ :: _ :: _ :: _ :: V) ?_
 refine l_nil (q_draw (sL [4, 3, 2, 1, 0]) (dR 16 R (vIa sl24 sz33 R R hg255) (hS := (sL [4, 3, 2, 1, 0])) (d1 17 R (lM (ow _ _ _ _ :: rds _ _ _ :: rds _ _ _ :: rds _ _ _ :: rds _ _ _ :: rds _ _ _ :: rds _ _ _ :: V) (fun w s => (((s.d 3 R).d 5 R).e 7 [2, 1, 0, 3, 4, 5, 6])) ?_))))
 refine l_stx (K := (kT33).share) (x' := (ix data247 j248)) 2 (w64 (j248 - (1 : Int))) R R sz33 R R hg255.1 hg255.2 ?_ ?_
 exact fun I h s => (mS33).put I h ((sc A265 ((ix data247 j248).Key) D265), (sc A266 ((ix data247 j248).Weights) D266)) (ix data247 j248) s
 refine lN (ow (kT33).share 33 (.slice (ad g261 o262) data1.length D2) ((data247.set j248.toNat (ix data247 (w64 (j248 - (1 : Int))))).set (w64 (j248 - (1 : Int))).toNat (ix data247 j248)) :: _ :: _ :: _ :: _ :: V) ?_
 refine l_nil (q_draw (sL [4, 3, 2, 1, 0]) (dD ?_))
 exact qJ (fun w s => (s.e 5 [0]))
 rintro σ1
 obtain ⟨l267, hl268, hr⟩ := bd hr
 replace hl268 := Option.some.inj hl268
 refine qM (ow (kT33).share 33 (.slice A2 data1.length D2) l267 :: V) (fun w s => by rw [← hl268]; exact s) ?_
 refine q_blockn (q_next (c_region (lI R (lO (vAd R R) (lI R (l_nil ?_))))))
 obtain rfl := so hr
 exact qA () (fun w s => s)
 refine c_false R hb249 (c_exit (q_exit ?_))
 obtain rfl := so hr
 obtain rfl := he4 _ R
 have hr := hk4
 refine q_exit (q_block (q_blockn ?_))
 exact qI ((data247, i168), ()) hr (fun w s => s)
 refine c_false R hb226 (c_skip (q_blockn ?_))
 exact qI ((data225, i168), ()) hr (fun w s => s)
 rintro ⟨⟨data271, i272⟩, _⟩ σ1 hr
 replace hr : Z2_J7 j140 data271 i272 = some out1 := hr
 unfold Z2_J7 at hr
 refine c_region (lI R (lO (vAd R R) (lI R (l_nil ?_))))
 obtain rfl := so hr
 exact qA () (fun w s => s)
 refine c_false R hb141 (c_exit (q_exit ?_))
 obtain rfl := so hr
 obtain rfl := he1 _ R
 have hr := hk1
 refine q_exit (q_block ?_)
 exact q_join (data138, ()) hr trivial (fun w s => s)
 rintro ⟨p276, _⟩ σ1 hr
 replace hr : Z2_J8 p276 = some r := hr
 unfold Z2_J8 at hr
 refine c_seq (c_region (lB R (l_nil (q_next (c_ret ?_)))))
 obtain rfl := so hr
 exact qF () (fun w s => s)
theorem Z7_ok  {data1 : (List Row)} {a3 : Int} {b4 : Int} {pivot5 : Int} {r : Int × (List Row)} (hr : Z7 data1 a3 b4 pivot5 = some r) :
 FnOk Try.prog 97 [(.slice A2 N2 D2), (iv a3), (iv b4), (iv pivot5), (.func (.func 73) [].toArray [].toArray)] [ow (kT33).share 33 (.slice A2 N2 D2) data1] (fun (h : Unit) => ((iv r.1), [ow (kT33).share 33 (.slice A2 N2 D2) r.2])) := by
 unfold Z7 at hr
 refine fn_ok Try.func97 R 90 R R fun C V => ?_
 refine cN (_ :: V) ?_
 refine cL 0 sees_sh ?_
 rintro rfl
 refine c_seq (c_region (lI R (l_nil (q_next (c_seq ?_)))))
 obtain ⟨hg7, hr⟩ := gd hr
 obtain ⟨hg12, hr⟩ := gd hr
 refine cQ [(0, (sc A2 data1 D2)), (1, (iv a3)), (2, (iv b4)), (4, (.func (.func 73) [].toArray [].toArray))] (ow (kT33).share 33 (.slice A2 data1.length D2) ((data1.set a3.toNat (ix data1 pivot5)).set pivot5.toNat (ix data1 a3)) :: V) ?_ ?_
 refine c_some 0 sees_sh (show 0 < data1.length by have := hg7; omega) (fun g8 o9 ha => ?_)
 subst ha
 refine cdr 16 [0] mixo (fun ht hn => (dR 0 R (vS R) (hS := (sL [0])) (dR 1 R (vI R) (hS := (sL [0])) (dR 2 R (vS R) (hS := (sL [0])) (dR 3 R (vI R) (hS := (sL [0])) (dR 4 R (vS R) (hS := (sL [0])) (dR 5 R (vI R) (hS := (sL [0])) (dR 6 R (vIa sl24 sz33 R R hg7) (hS := (sL [0])) (dR 8 R (vS R) (hS := (sL [0])) (dR 9 R (vI R) (hS := (sL [0])) (dR 10 R (vIa sl24 sz33 R R hg12) (hS := (sL [0])) (d_all [7, 11] (by kernel_rfl) R ⟨?_, ?_, trivial⟩))))))))))))
 refine l_ldo (K := (kT33).share) 0 pivot5 R R ag33 sz33 dT33.own R R hg7.1 hg7.2 ?_
 rintro ⟨⟨A10, D10⟩, ⟨A11, D11⟩⟩
 refine lN (RR kT3 A10 D10 ((ix data1 pivot5).Key) :: RR kT3 A11 D11 ((ix data1 pivot5).Weights) :: OO (kT33).share 33 (ad g8 o9) D2 data1 :: V) ?_
 refine l_nil (q_draw (sL [2, 1, 0]) (d1 11 R (l_ldo (K := (kT33).share) 2 a3 R R ag33 sz33 dT33.own R R hg12.1 hg12.2 ?_)))
 rintro ⟨⟨A13, D13⟩, ⟨A14, D14⟩⟩
 refine lN (RR kT3 A13 D13 ((ix data1 a3).Key) :: RR kT3 A14 D14 ((ix data1 a3).Weights) :: _ :: _ :: _ :: V) ?_
 refine l_nil (q_draw (sL [4, 3, 2, 1, 0]) (dR 12 R (vIa sl24 sz33 R R hg12) (hS := (sL [4, 3, 2, 1, 0])) (d1 13 R (lM (ow _ _ _ _ :: rds _ _ _ :: rds _ _ _ :: rds _ _ _ :: rds _ _ _ :: rds _ _ _ :: rds _ _ _ :: V) (fun w s => (((s.d 2 R).d 4 R).e 7 [6, 1, 0, 2, 3, 4, 5])) ?_))))
 refine l_stx (K := (kT33).share) (x' := (ix data1 pivot5)) 2 a3 R R sz33 R R hg12.1 hg12.2 ?_ ?_
 exact fun I h s => (mS33).put I h ((sc A10 ((ix data1 pivot5).Key) D10), (sc A11 ((ix data1 pivot5).Weights) D11)) (ix data1 pivot5) s
 refine lN (ow (kT33).share 33 (.slice (ad g8 o9) data1.length D2) (data1.set a3.toNat (ix data1 pivot5)) :: _ :: _ :: _ :: _ :: V) ?_
 refine l_nil (q_draw (sL [4, 3, 2, 1, 0]) (dR 14 R (vIa sl24 sz33 R R hg7) (hS := (sL [4, 3, 2, 1, 0])) (d1 15 R (lM (ow _ _ _ _ :: rds _ _ _ :: rds _ _ _ :: rds _ _ _ :: rds _ _ _ :: rds _ _ _ :: rds _ _ _ :: V) (fun w s => (((s.d 1 R).d 3 R).e 7 [2, 1, 0, 3, 4, 5, 6])) ?_))))
 refine l_stx (K := (kT33).share) (x' := (ix data1 a3)) 2 pivot5 R R sz33 R R hg7.1 hg7.2 ?_ ?_
 exact fun I h s => (mS33).put I h ((sc A13 ((ix data1 a3).Key) D13), (sc A14 ((ix data1 a3).Weights) D14)) (ix data1 a3) s
 refine lN (ow (kT33).share 33 (.slice (ad g8 o9) data1.length D2) ((data1.set a3.toNat (ix data1 pivot5)).set pivot5.toNat (ix data1 a3)) :: _ :: _ :: _ :: _ :: V) ?_
 refine l_nil (q_draw (sL [4, 3, 2, 1, 0]) (dD ?_))
 exact qJ (fun w s => (s.e 5 [0]))
 refine l_ldo (K := (kT33).share) 0 a3 R R ag33 sz33 dT33.own R R hg12.1 hg12.2 ?_
 rintro ⟨⟨A13, D13⟩, ⟨A14, D14⟩⟩
 refine lN (_ :: _ :: OO (kT33).share 33 (ad g8 o9) D2 data1 :: V) ?_
 refine l_nil (q_draw (sL [2, 1, 0]) (d1 7 R (l_ldo (K := (kT33).share) 2 pivot5 R R ag33 sz33 dT33.own R R hg7.1 hg7.2 ?_)))
 rintro ⟨⟨A10, D10⟩, ⟨A11, D11⟩⟩
 refine lN (RR kT3 A10 D10 ((ix data1 pivot5).Key) :: RR kT3 A11 D11 ((ix data1 pivot5).Weights) :: _ :: _ :: _ :: V) ?_
 refine l_nil (q_draw (sL [4, 3, 2, 1, 0]) (dR 12 R (vIa sl24 sz33 R R hg12) (hS := (sL [4, 3, 2, 1, 0])) (d1 13 R (lM (ow _ _ _ _ :: rds _ _ _ :: rds _ _ _ :: rds _ _ _ :: rds _ _ _ :: rds _ _ _ :: rds _ _ _ :: V) (fun w s => (((s.d 0 R).d 2 R).e 7 [6, 1, 0, 2, 3, 4, 5])) ?_))))
 refine l_stx (K := (kT33).share) (x' := (ix data1 pivot5)) 2 a3 R R sz33 R R hg12.1 hg12.2 ?_ ?_
 exact fun I h s => (mS33).put I h ((sc A10 ((ix data1 pivot5).Key) D10), (sc A11 ((ix data1 pivot5).Weights) D11)) (ix data1 pivot5) s
 refine lN (ow (kT33).share 33 (.slice (ad g8 o9) data1.length D2) (data1.set a3.toNat (ix data1 pivot5)) :: _ :: _ :: _ :: _ :: V) ?_
 refine l_nil (q_draw (sL [4, 3, 2, 1, 0]) (dR 14 R (vIa sl24 sz33 R R hg7) (hS := (sL [4, 3, 2, 1, 0])) (d1 15 R (lM (ow _ _ _ _ :: rds _ _ _ :: rds _ _ _ :: rds _ _ _ :: rds _ _ _ :: rds _ _ _ :: rds _ _ _ :: V) (fun w s => (((s.d 3 R).d 5 R).e 7 [2, 1, 0, 3, 4, 5, 6])) ?_))))
 refine l_stx (K := (kT33).share) (x' := (ix data1 a3)) 2 pivot5 R R sz33 R R hg7.1 hg7.2 ?_ ?_
 exact fun I h s => (mS33).put I h ((sc A13 ((ix data1 a3).Key) D13), (sc A14 ((ix data1 a3).Weights) D14)) (ix data1 a3) s
 refine lN (ow (kT33).share 33 (.slice (ad g8 o9) data1.length D2) ((data1.set a3.toNat (ix data1 pivot5)).set pivot5.toNat (ix data1 a3)) :: _ :: _ :: _ :: _ :: V) ?_
 refine l_nil (q_draw (sL [4, 3, 2, 1, 0]) (dD ?_))
 exact qJ (fun w s => (s.e 5 [0]))
 rintro σ1
 obtain ⟨l15, hl16, hr⟩ := bd hr
 replace hl16 := Option.some.inj hl16
 refine qM (ow (kT33).share 33 (.slice A2 data1.length D2) l15 :: V) (fun w s => by rw [← hl16]; exact s) ?_
 refine q_next (c_seq (c_region (lI R (lO (vAd R R) (lI R (lO (vSb R R) (lI R (lI R (l_nil (q_next (c_seq (c_cut (A := (Int × (List Row)) × (Unit)) (fun a => Z7_J5 a.1.1 a.1.2 = some r) (fun a => [(11, (iv a.1.1))]) (fun a => ow (kT33).share 33 (.slice A2 data1.length D2) a.1.2 :: V) ?_ ?_))))))))))))
 refine c_block ?_
 obtain ⟨e1, hl1, hk1⟩ := bd hr
 refine c_loop (A := Unit) hl1 (fun s a => [(0, (sc A2 data1 D2)), (1, (iv a3)), (4, (.func (.func 73) [].toArray [].toArray)), (11, (iv s.2.1)), (12, (iv s.2.2))]) (fun s a => ow (kT33).share 33 (.slice A2 data1.length D2) s.1 :: V) () (aS R) (fun w s => s) ?_
 rintro ⟨data78, i79, j80⟩ _ σ1 out1 hr he1
 replace hr : Z7_L1 data1 a3 data78 i79 j80 = some out1 := hr
 unfold Z7_L1 at hr
 refine c_block (c_seq (c_cut (A := (Int) × (Unit)) (fun a => Z7_J3 data1 a3 data78 j80 a.1 = some out1) (fun a => [(0, (sc A2 data1 D2)), (1, (iv a3)), (4, (.func (.func 73) [].toArray [].toArray)), (11, (iv a.1)), (12, (iv j80))]) (fun a => ow (kT33).share 33 (.slice A2 data1.length D2) data78 :: V) ?_ ?_))
 refine c_block ?_
 obtain ⟨e2, hl2, hk2⟩ := bd hr
 refine c_loop (A := Unit) hl2 (fun s a => [(0, (sc A2 data1 D2)), (1, (iv a3)), (4, (.func (.func 73) [].toArray [].toArray)), (11, (iv s)), (12, (iv j80))]) (fun s a => ow (kT33).share 33 (.slice A2 data1.length D2) data78 :: V) () (aS R) (fun w s => s) ?_
 rintro i92 _ σ1 out2 hr he2
 replace hr : Z7_L2 data1 a3 data78 j80 i92 = some out2 := hr
 unfold Z7_L2 at hr
 refine c_seq (c_seq ?_)
 obtain ⟨hg97, hr⟩ := gd hr
 obtain ⟨r100, hx101, hr⟩ := bd hr
 refine cQ [(0, (sc A2 data1 D2)), (1, (iv a3)), (4, (.func (.func 73) [].toArray [].toArray)), (11, (iv i92)), (12, (iv j80)), (47, (.bool ((decide (i92 ≤ j80)) && (!(decide (r100 < (0 : Int)))))))] (ow (kT33).share 33 (.slice A2 data1.length D2) data78 :: V) ?_ ?_
 rcases bo (decide (i92 ≤ j80)) with hc102 | hc102
 refine c_some 0 sees_sh (show 0 < data1.length by have := hg12; omega) (fun g93 o94 ha => ?_)
 subst ha
 refine cdr 17 [] mixo (fun ht hn => (dR 0 R (vI R) (dR 1 R (vI R) (dR 2 R (vLe R R) (dR 3 R (vB R) (dW 4 R (wnT hc102) (vp (.func (.func 73) [].toArray [].toArray) R) (dW 5 R (wnT hc102) (vS R) (dW 6 R (wnT hc102) (vI R) (dW 7 R (wnT hc102) (vIa sl24 sz33 R R hg12) (dW 9 R (wnT hc102) (vS R) (dW 10 R (wnT hc102) (vI R) (dW 11 R (wnT hc102) (vIa sl24 sz33 R R (hg97 hc102)) (d_all [8, 12] (by kernel_rfl) R ⟨?_, ?_, trivial⟩)))))))))))))
 refine l_ldo (K := (kT33).share) 0 a3 R (wnT hc102) ag33 sz33 dT33.own R R hg12.1 hg12.2 ?_
 rintro ⟨⟨A95, D95⟩, ⟨A96, D96⟩⟩
 refine lN (RR kT3 A95 D95 ((ix data78 a3).Key) :: RR kT3 A96 D96 ((ix data78 a3).Weights) :: ow (kT33).share 33 (.slice (ad g93 o94) data1.length D2) data78 :: V) ?_
 refine l_nil (q_draw (sL [1, 0]) (d1 12 R (l_ldo (K := (kT33).share) 2 i92 R (wnT hc102) ag33 sz33 dT33.own R R (hg97 hc102).1 (hg97 hc102).2 ?_)))
 rintro ⟨⟨A98, D98⟩, ⟨A99, D99⟩⟩
 refine lN (RR kT3 A98 D98 ((ix data78 i92).Key) :: RR kT3 A99 D99 ((ix data78 i92).Weights) :: _ :: _ :: _ :: V) ?_
 refine l_nil (q_draw (sL [3, 2, 1, 0]) (d1 13 R (lM (rds _ _ _ :: rds _ _ _ :: rds _ _ _ :: rds _ _ _ :: rds _ _ _ :: rds _ _ _ :: rds _ _ _ :: rds _ _ _ :: ow _ _ _ _ :: V) (fun w s => (((((s.d 2 R).d 4 R).d 2 R).d 4 R).e 9 [3, 2, 1, 0, 4, 5, 6, 7, 8])) ?_)))
 refine l_callvn (fs := []) (cs := []) 4 R (wnT hc102) cb73 R R (Z8_ok (gcall_t hx101 hc102)) R ?_
 rintro _
 refine lN (_ :: _ :: _ :: _ :: _ :: V) ?_
 refine l_nil (q_draw (sL [3, 2, 1, 0]) (dW 14 R (wnT hc102) (vLt R R) (hS := (sL [3, 2, 1, 0])) (dW 15 R (wnT hc102) (vNo R) (hS := (sL [3, 2, 1, 0])) (dR 16 R (pAT R hc102 R) (hS := (sL [3, 2, 1, 0])) (dD ?_)))))
 exact qJ (fun w s => (s.e 5 [4]))
 refine l_ldo (K := (kT33).share) 0 i92 R (wnT hc102) ag33 sz33 dT33.own R R (hg97 hc102).1 (hg97 hc102).2 ?_
 rintro ⟨⟨A98, D98⟩, ⟨A99, D99⟩⟩
 refine lN (_ :: _ :: _ :: V) ?_
 refine l_nil (q_draw (sL [1, 0]) (d1 8 R (l_ldo (K := (kT33).share) 2 a3 R (wnT hc102) ag33 sz33 dT33.own R R hg12.1 hg12.2 ?_)))
 rintro ⟨⟨A95, D95⟩, ⟨A96, D96⟩⟩
 refine lN (RR kT3 A95 D95 ((ix data78 a3).Key) :: RR kT3 A96 D96 ((ix data78 a3).Weights) :: _ :: _ :: _ :: V) ?_
 refine l_nil (q_draw (sL [3, 2, 1, 0]) (d1 13 R (lM (rds _ _ _ :: rds _ _ _ :: rds _ _ _ :: rds _ _ _ :: rds _ _ _ :: rds _ _ _ :: rds _ _ _ :: rds _ _ _ :: ow _ _ _ _ :: V) (fun w s => (((((s.d 0 R).d 2 R).d 4 R).d 6 R).e 9 [3, 2, 1, 0, 4, 5, 6, 7, 8])) ?_)))
 refine l_callvn (fs := []) (cs := []) 4 R (wnT hc102) cb73 R R (Z8_ok (gcall_t hx101 hc102)) R ?_
 rintro _
 refine lN (_ :: _ :: _ :: _ :: _ :: V) ?_
 refine l_nil (q_draw (sL [3, 2, 1, 0]) (dW 14 R (wnT hc102) (vLt R R) (hS := (sL [3, 2, 1, 0])) (dW 15 R (wnT hc102) (vNo R) (hS := (sL [3, 2, 1, 0])) (dR 16 R (pAT R hc102 R) (hS := (sL [3, 2, 1, 0])) (dD ?_)))))
 exact qJ (fun w s => (s.e 5 [4]))
 refine cdr 17 [] mixo (fun ht hn => (dR 0 R (vI R) (dR 1 R (vI R) (dR 2 R (vLe R R) (dR 3 R (vB R) (dF 4 R (wfF hc102) (dF 5 R (wfF hc102) (dF 6 R (wfF hc102) (dF 7 R (wfF hc102) (dF 8 R (wfF hc102) (dF 9 R (wfF hc102) (dF 10 R (wfF hc102) (dF 11 R (wfF hc102) (dF 12 R (wfF hc102) (dF 13 R (wfF hc102) (dF 14 R (wfF hc102) (dF 15 R (wfF hc102) (dR 16 R (pAF (!(decide (r100 < (0 : Int)))) R hc102) (dD ?_)))))))))))))))))))
 exact qJ (fun w s => s)
 rintro σ1
 refine q_next ?_
 rcases bif_ hr with ⟨hb103, hr⟩ | ⟨hb103, hr⟩
 refine c_true R hb103 (c_skip (q_next (c_block (c_region (lI R (lO (vAd R R) (lI R (l_nil (q_blockn ?_)))))))))
 obtain rfl := so hr
 exact qA () (fun w s => s)
 refine c_false R hb103 (c_exit (q_exit ?_))
 obtain rfl := so hr
 obtain rfl := he2 _ R
 have hr := hk2
 refine q_exit (q_block ?_)
 exact qI (i92, ()) hr (fun w s => s)
 rintro ⟨i105, _⟩ σ1 hr
 replace hr : Z7_J3 data1 a3 data78 j80 i105 = some out1 := hr
 unfold Z7_J3 at hr
 refine c_seq (c_cut (A := (Int) × (Unit)) (fun a => Z7_J4 data1 data78 i105 a.1 = some out1) (fun a => [(0, (sc A2 data1 D2)), (1, (iv a3)), (4, (.func (.func 73) [].toArray [].toArray)), (11, (iv i105)), (12, (iv a.1))]) (fun a => ow (kT33).share 33 (.slice A2 data1.length D2) data78 :: V) ?_ ?_)
 refine c_block ?_
 obtain ⟨e3, hl3, hk3⟩ := bd hr
 refine c_loop (A := Unit) hl3 (fun s a => [(0, (sc A2 data1 D2)), (1, (iv a3)), (4, (.func (.func 73) [].toArray [].toArray)), (11, (iv i105)), (12, (iv s))]) (fun s a => ow (kT33).share 33 (.slice A2 data1.length D2) data78 :: V) () (aS R) (fun w s => s) ?_
 rintro j117 _ σ1 out3 hr he3
 replace hr : Z7_L3 data1 a3 data78 i105 j117 = some out3 := hr
 unfold Z7_L3 at hr
 refine c_seq (c_seq ?_)
 obtain ⟨hg122, hr⟩ := gd hr
 obtain ⟨r125, hx126, hr⟩ := bd hr
 refine cQ [(0, (sc A2 data1 D2)), (1, (iv a3)), (4, (.func (.func 73) [].toArray [].toArray)), (11, (iv i105)), (12, (iv j117)), (65, (.bool ((decide (i105 ≤ j117)) && (decide (r125 < (0 : Int))))))] (ow (kT33).share 33 (.slice A2 data1.length D2) data78 :: V) ?_ ?_
 rcases bo (decide (i105 ≤ j117)) with hc127 | hc127
 refine c_some 0 sees_sh (show 0 < data1.length by have := hg12; omega) (fun g118 o119 ha => ?_)
 subst ha
 refine cdr 16 [] mixo (fun ht hn => (dR 0 R (vI R) (dR 1 R (vI R) (dR 2 R (vLe R R) (dR 3 R (vB R) (dW 4 R (wnT hc127) (vp (.func (.func 73) [].toArray [].toArray) R) (dW 5 R (wnT hc127) (vS R) (dW 6 R (wnT hc127) (vI R) (dW 7 R (wnT hc127) (vIa sl24 sz33 R R hg12) (dW 9 R (wnT hc127) (vS R) (dW 10 R (wnT hc127) (vI R) (dW 11 R (wnT hc127) (vIa sl24 sz33 R R (hg122 hc127)) (d_all [8, 12] (by kernel_rfl) R ⟨?_, ?_, trivial⟩)))))))))))))
 refine l_ldo (K := (kT33).share) 0 a3 R (wnT hc127) ag33 sz33 dT33.own R R hg12.1 hg12.2 ?_
 rintro ⟨⟨A120, D120⟩, ⟨A121, D121⟩⟩
 refine lN (RR kT3 A120 D120 ((ix data78 a3).Key) :: RR kT3 A121 D121 ((ix data78 a3).Weights) :: ow (kT33).share 33 (.slice (ad g118 o119) data1.length D2) data78 :: V) ?_
 refine l_nil (q_draw (sL [1, 0]) (d1 12 R (l_ldo (K := (kT33).share) 2 j117 R (wnT hc127) ag33 sz33 dT33.own R R (hg122 hc127).1 (hg122 hc127).2 ?_)))
 rintro ⟨⟨A123, D123⟩, ⟨A124, D124⟩⟩
 refine lN (RR kT3 A123 D123 ((ix data78 j117).Key) :: RR kT3 A124 D124 ((ix data78 j117).Weights) :: _ :: _ :: _ :: V) ?_
 refine l_nil (q_draw (sL [3, 2, 1, 0]) (d1 13 R (lM (rds _ _ _ :: rds _ _ _ :: rds _ _ _ :: rds _ _ _ :: rds _ _ _ :: rds _ _ _ :: rds _ _ _ :: rds _ _ _ :: ow _ _ _ _ :: V) (fun w s => (((((s.d 2 R).d 4 R).d 2 R).d 4 R).e 9 [3, 2, 1, 0, 4, 5, 6, 7, 8])) ?_)))
 refine l_callvn (fs := []) (cs := []) 4 R (wnT hc127) cb73 R R (Z8_ok (gcall_t hx126 hc127)) R ?_
 rintro _
 refine lN (_ :: _ :: _ :: _ :: _ :: V) ?_
 refine l_nil (q_draw (sL [3, 2, 1, 0]) (dW 14 R (wnT hc127) (vLt R R) (hS := (sL [3, 2, 1, 0])) (dR 15 R (pAT R hc127 R) (hS := (sL [3, 2, 1, 0])) (dD ?_))))
 exact qJ (fun w s => (s.e 5 [4]))
 refine l_ldo (K := (kT33).share) 0 j117 R (wnT hc127) ag33 sz33 dT33.own R R (hg122 hc127).1 (hg122 hc127).2 ?_
 rintro ⟨⟨A123, D123⟩, ⟨A124, D124⟩⟩
 refine lN (_ :: _ :: _ :: V) ?_
 refine l_nil (q_draw (sL [1, 0]) (d1 8 R (l_ldo (K := (kT33).share) 2 a3 R (wnT hc127) ag33 sz33 dT33.own R R hg12.1 hg12.2 ?_)))
 rintro ⟨⟨A120, D120⟩, ⟨A121, D121⟩⟩
 refine lN (RR kT3 A120 D120 ((ix data78 a3).Key) :: RR kT3 A121 D121 ((ix data78 a3).Weights) :: _ :: _ :: _ :: V) ?_
 refine l_nil (q_draw (sL [3, 2, 1, 0]) (d1 13 R (lM (rds _ _ _ :: rds _ _ _ :: rds _ _ _ :: rds _ _ _ :: rds _ _ _ :: rds _ _ _ :: rds _ _ _ :: rds _ _ _ :: ow _ _ _ _ :: V) (fun w s => (((((s.d 0 R).d 2 R).d 4 R).d 6 R).e 9 [3, 2, 1, 0, 4, 5, 6, 7, 8])) ?_)))
 refine l_callvn (fs := []) (cs := []) 4 R (wnT hc127) cb73 R R (Z8_ok (gcall_t hx126 hc127)) R ?_
 rintro _
 refine lN (_ :: _ :: _ :: _ :: _ :: V) ?_
 refine l_nil (q_draw (sL [3, 2, 1, 0]) (dW 14 R (wnT hc127) (vLt R R) (hS := (sL [3, 2, 1, 0])) (dR 15 R (pAT R hc127 R) (hS := (sL [3, 2, 1, 0])) (dD ?_))))
 exact qJ (fun w s => (s.e 5 [4]))
 refine cdr 16 [] mixo (fun ht hn => (dR 0 R (vI R) (dR 1 R (vI R) (dR 2 R (vLe R R) (dR 3 R (vB R) (dF 4 R (wfF hc127) (dF 5 R (wfF hc127) (dF 6 R (wfF hc127) (dF 7 R (wfF hc127) (dF 8 R (wfF hc127) (dF 9 R (wfF hc127) (dF 10 R (wfF hc127) (dF 11 R (wfF hc127) (dF 12 R (wfF hc127) (dF 13 R (wfF hc127) (dF 14 R (wfF hc127) (dR 15 R (pAF (decide (r125 < (0 : Int))) R hc127) (dD ?_))))))))))))))))))
 exact qJ (fun w s => s)
 rintro σ1
 refine q_next ?_
 rcases bif_ hr with ⟨hb128, hr⟩ | ⟨hb128, hr⟩
 refine c_true R hb128 (c_skip (q_next (c_block (c_region (lI R (lO (vSb R R) (lI R (l_nil (q_blockn ?_)))))))))
 obtain rfl := so hr
 exact qA () (fun w s => s)
 refine c_false R hb128 (c_exit (q_exit ?_))
 obtain rfl := so hr
 obtain rfl := he3 _ R
 have hr := hk3
 refine q_exit (q_block ?_)
 exact qI (j117, ()) hr (fun w s => s)
 rintro ⟨j130, _⟩ σ1 hr
 replace hr : Z7_J4 data1 data78 i105 j130 = some out1 := hr
 unfold Z7_J4 at hr
 refine c_seq (c_seq (c_region (lI R (lI R (lO (vGt R R) (l_nil (q_next ?_)))))))
 rcases bif_ hr with ⟨hb131, hr⟩ | ⟨hb131, hr⟩
 refine c_true R hb131 (c_exit (q_exit (q_pass R ?_)))
 obtain rfl := so hr
 obtain rfl := he1 _ R
 have hr := hk1
 refine q_exit (q_block ?_)
 exact qI ((i105, data78), ()) hr (fun w s => s)
 refine c_false R hb131 (c_skip (q_next (c_seq ?_)))
 obtain ⟨hg132, hr⟩ := gd hr
 obtain ⟨hg137, hr⟩ := gd hr
 refine cQ [(0, (sc A2 data1 D2)), (1, (iv a3)), (4, (.func (.func 73) [].toArray [].toArray)), (11, (iv i105)), (12, (iv j130))] (ow (kT33).share 33 (.slice A2 data1.length D2) ((data78.set i105.toNat (ix data78 j130)).set j130.toNat (ix data78 i105)) :: V) ?_ ?_
 refine c_some 0 sees_sh (show 0 < data1.length by have := hg132; omega) (fun g133 o134 ha => ?_)
 subst ha
 refine cdr 16 [0] mixo (fun ht hn => (dR 0 R (vS R) (hS := (sL [0])) (dR 1 R (vI R) (hS := (sL [0])) (dR 2 R (vS R) (hS := (sL [0])) (dR 3 R (vI R) (hS := (sL [0])) (dR 4 R (vS R) (hS := (sL [0])) (dR 5 R (vI R) (hS := (sL [0])) (dR 6 R (vIa sl24 sz33 R R hg132) (hS := (sL [0])) (dR 8 R (vS R) (hS := (sL [0])) (dR 9 R (vI R) (hS := (sL [0])) (dR 10 R (vIa sl24 sz33 R R hg137) (hS := (sL [0])) (d_all [7, 11] (by kernel_rfl) R ⟨?_, ?_, trivial⟩))))))))))))
 refine l_ldo (K := (kT33).share) 0 j130 R R ag33 sz33 dT33.own R R hg132.1 hg132.2 ?_
 rintro ⟨⟨A135, D135⟩, ⟨A136, D136⟩⟩
 refine lN (RR kT3 A135 D135 ((ix data78 j130).Key) :: RR kT3 A136 D136 ((ix data78 j130).Weights) :: ow (kT33).share 33 (.slice (ad g133 o134) data1.length D2) data78 :: V) ?_
 refine l_nil (q_draw (sL [2, 1, 0]) (d1 11 R (l_ldo (K := (kT33).share) 2 i105 R R ag33 sz33 dT33.own R R hg137.1 hg137.2 ?_)))
 rintro ⟨⟨A138, D138⟩, ⟨A139, D139⟩⟩
 refine lN (RR kT3 A138 D138 ((ix data78 i105).Key) :: RR kT3 A139 D139 ((ix data78 i105).Weights) :: _ :: _ :: _ :: V) ?_
 refine l_nil (q_draw (sL [4, 3, 2, 1, 0]) (dR 12 R (vIa sl24 sz33 R R hg137) (hS := (sL [4, 3, 2, 1, 0])) (d1 13 R (lM (ow _ _ _ _ :: rds _ _ _ :: rds _ _ _ :: rds _ _ _ :: rds _ _ _ :: rds _ _ _ :: rds _ _ _ :: V) (fun w s => (((s.d 2 R).d 4 R).e 7 [6, 1, 0, 2, 3, 4, 5])) ?_))))
 refine l_stx (K := (kT33).share) (x' := (ix data78 j130)) 2 i105 R R sz33 R R hg137.1 hg137.2 ?_ ?_
 exact fun I h s => (mS33).put I h ((sc A135 ((ix data78 j130).Key) D135), (sc A136 ((ix data78 j130).Weights) D136)) (ix data78 j130) s
 refine lN (ow (kT33).share 33 (.slice (ad g133 o134) data1.length D2) (data78.set i105.toNat (ix data78 j130)) :: _ :: _ :: _ :: _ :: V) ?_
 refine l_nil (q_draw (sL [4, 3, 2, 1, 0]) (dR 14 R (vIa sl24 sz33 R R hg132) (hS := (sL [4, 3, 2, 1, 0])) (d1 15 R (lM (ow _ _ _ _ :: rds _ _ _ :: rds _ _ _ :: rds _ _ _ :: rds _ _ _ :: rds _ _ _ :: rds _ _ _ :: V) (fun w s => (((s.d 1 R).d 3 R).e 7 [2, 1, 0, 3, 4, 5, 6])) ?_))))
 refine l_stx (K := (kT33).share) (x' := (ix data78 i105)) 2 j130 R R sz33 R R hg132.1 hg132.2 ?_ ?_
 exact fun I h s => (mS33).put I h ((sc A138 ((ix data78 i105).Key) D138), (sc A139 ((ix data78 i105).Weights) D139)) (ix data78 i105) s
 refine lN (ow (kT33).share 33 (.slice (ad g133 o134) data1.length D2) ((data78.set i105.toNat (ix data78 j130)).set j130.toNat (ix data78 i105)) :: _ :: _ :: _ :: _ :: V) ?_
 refine l_nil (q_draw (sL [4, 3, 2, 1, 0]) (dD ?_))
 exact qJ (fun w s => (s.e 5 [0]))
 refine l_ldo (K := (kT33).share) 0 i105 R R ag33 sz33 dT33.own R R hg137.1 hg137.2 ?_
 rintro ⟨⟨A138, D138⟩, ⟨A139, D139⟩⟩
 refine lN (_ :: _ :: ow (kT33).share 33 (.slice (ad g133 o134) data1.length D2) data78 :: V) ?_
 refine l_nil (q_draw (sL [2, 1, 0]) (d1 7 R (l_ldo (K := (kT33).share) 2 j130 R R ag33 sz33 dT33.own R R hg132.1 hg132.2 ?_)))
 rintro ⟨⟨A135, D135⟩, ⟨A136, D136⟩⟩
 refine lN (RR kT3 A135 D135 ((ix data78 j130).Key) :: RR kT3 A136 D136 ((ix data78 j130).Weights) :: _ :: _ :: _ :: V) ?_
 refine l_nil (q_draw (sL [4, 3, 2, 1, 0]) (dR 12 R (vIa sl24 sz33 R R hg137) (hS := (sL [4, 3, 2, 1, 0])) (d1 13 R (lM (ow _ _ _ _ :: rds _ _ _ :: rds _ _ _ :: rds _ _ _ :: rds _ _ _ :: rds _ _ _ :: rds _ _ _ :: V) (fun w s => (((s.d 0 R).d 2 R).e 7 [6, 1, 0, 2, 3, 4, 5])) ?_))))
 refine l_stx (K := (kT33).share) (x' := (ix data78 j130)) 2 i105 R R sz33 R R hg137.1 hg137.2 ?_ ?_
 exact fun I h s => (mS33).put I h ((sc A135 ((ix data78 j130).Key) D135), (sc A136 ((ix data78 j130).Weights) D136)) (ix data78 j130) s
 refine lN (ow (kT33).share 33 (.slice (ad g133 o134) data1.length D2) (data78.set i105.toNat (ix data78 j130)) :: _ :: _ :: _ :: _ :: V) ?_
 refine l_nil (q_draw (sL [4, 3, 2, 1, 0]) (dR 14 R (vIa sl24 sz33 R R hg132) (hS := (sL [4, 3, 2, 1, 0])) (d1 15 R (lM (ow _ _ _ _ :: rds _ _ _ :: rds _ _ _ :: rds _ _ _ :: rds _ _ _ :: rds _ _ _ :: rds _ _ _ :: V) (fun w s => (((s.d 3 R).d 5 R).e 7 [2, 1, 0, 3, 4, 5, 6])) ?_))))
 refine l_stx (K := (kT33).share) (x' := (ix data78 i105)) 2 j130 R R sz33 R R hg132.1 hg132.2 ?_ ?_
 exact fun I h s => (mS33).put I h ((sc A138 ((ix data78 i105).Key) D138), (sc A139 ((ix data78 i105).Weights) D139)) (ix data78 i105) s
 refine lN (ow (kT33).share 33 (.slice (ad g133 o134) data1.length D2) ((data78.set i105.toNat (ix data78 j130)).set j130.toNat (ix data78 i105)) :: _ :: _ :: _ :: _ :: V) ?_
 refine l_nil (q_draw (sL [4, 3, 2, 1, 0]) (dD ?_))
 exact qJ (fun w s => (s.e 5 [0]))
 rintro σ1
 obtain ⟨l140, hl141, hr⟩ := bd hr
 replace hl141 := Option.some.inj hl141
 refine qM (ow (kT33).share 33 (.slice A2 data1.length D2) l140 :: V) (fun w s => by rw [← hl141]; exact s) ?_
 refine q_next (c_seq (c_region (lI R (lO (vAd R R) (lI R (l_nil (q_next (c_region (lI R (lO (vSb R R) (lI R (l_nil (q_blockn ?_)))))))))))))
 obtain rfl := so hr
 exact qA () (fun w s => s)
 rintro ⟨⟨i145, p146⟩, _⟩ σ1 hr
 replace hr : Z7_J5 i145 p146 = some r := hr
 unfold Z7_J5 at hr
 refine c_seq (c_region (lI R (lI R (l_nil (q_next (c_ret ?_))))))
 obtain rfl := so hr
 exact qF () (fun w s => s)
theorem Z1_ok  {data1 : (List Row)} {a3 : Int} {b4 : Int} {pivot5 : Int} {r : Int × Bool × (List Row)} (hr : Z1 data1 a3 b4 pivot5 = some r) :
 FnOk Try.prog 98 [(.slice A2 N2 D2), (iv a3), (iv b4), (iv pivot5), (.func (.func 73) [].toArray [].toArray)] [ow (kT33).share 33 (.slice A2 N2 D2) data1] (fun (h : Unit) => ((.tuple [(iv r.1), (.bool r.2.1)].toArray), [ow (kT33).share 33 (.slice A2 N2 D2) r.2.2])) := by
 unfold Z1 at hr
 refine fn_ok Try.func98 R 178 R R fun C V => ?_
 refine cN (_ :: V) ?_
 refine cL 0 sees_sh ?_
 rintro rfl
 refine c_seq (c_region (lI R (lB R (l_nil (q_next (c_seq ?_))))))
 obtain ⟨hg7, hr⟩ := gd hr
 obtain ⟨hg12, hr⟩ := gd hr
 refine cQ [(0, (sc A2 data1 D2)), (1, (iv a3)), (2, (iv b4)), (4, (.func (.func 73) [].toArray [].toArray))] (ow (kT33).share 33 (.slice A2 data1.length D2) ((data1.set a3.toNat (ix data1 pivot5)).set pivot5.toNat (ix data1 a3)) :: V) ?_ ?_
 refine c_some 0 sees_sh (show 0 < data1.length by have := hg7; omega) (fun g8 o9 ha => ?_)
 subst ha
 refine cdr 16 [0] mixo (fun ht hn => (dR 0 R (vS R) (hS := (sL [0])) (dR 1 R (vI R) (hS := (sL [0])) (dR 2 R (vS R) (hS := (sL [0])) (dR 3 R (vI R) (hS := (sL [0])) (dR 4 R (vS R) (hS := (sL [0])) (dR 5 R (vI R) (hS := (sL [0])) (dR 6 R (vIa sl24 sz33 R R hg7) (hS := (sL [0])) (dR 8 R (vS R) (hS := (sL [0])) (dR 9 R (vI R) (hS := (sL [0])) (dR 10 R (vIa sl24 sz33 R R hg12) (hS := (sL [0])) (d_all [7, 11] (by kernel_rfl) R ⟨?_, ?_, trivial⟩))))))))))))
 refine l_ldo (K := (kT33).share) 0 pivot5 R R ag33 sz33 dT33.own R R hg7.1 hg7.2 ?_
 rintro ⟨⟨A10, D10⟩, ⟨A11, D11⟩⟩
 refine lN (RR kT3 A10 D10 ((ix data1 pivot5).Key) :: RR kT3 A11 D11 ((ix data1 pivot5).Weights) :: OO (kT33).share 33 (ad g8 o9) D2 data1 :: V) ?_
 refine l_nil (q_draw (sL [2, 1, 0]) (d1 11 R (l_ldo (K := (kT33).share) 2 a3 R R ag33 sz33 dT33.own R R hg12.1 hg12.2 ?_)))
 rintro ⟨⟨A13, D13⟩, ⟨A14, D14⟩⟩
 refine lN (RR kT3 A13 D13 ((ix data1 a3).Key) :: RR kT3 A14 D14 ((ix data1 a3).Weights) :: _ :: _ :: _ :: V) ?_
 refine l_nil (q_draw (sL [4, 3, 2, 1, 0]) (dR 12 R (vIa sl24 sz33 R R hg12) (hS := (sL [4, 3, 2, 1, 0])) (d1 13 R (lM (ow _ _ _ _ :: rds _ _ _ :: rds _ _ _ :: rds _ _ _ :: rds _ _ _ :: rds _ _ _ :: rds _ _ _ :: V) (fun w s => (((s.d 2 R).d 4 R).e 7 [6, 1, 0, 2, 3, 4, 5])) ?_))))
 refine l_stx (K := (kT33).share) (x' := (ix data1 pivot5)) 2 a3 R R sz33 R R hg12.1 hg12.2 ?_ ?_
 exact fun I h s => (mS33).put I h ((sc A10 ((ix data1 pivot5).Key) D10), (sc A11 ((ix data1 pivot5).Weights) D11)) (ix data1 pivot5) s
 refine lN (ow (kT33).share 33 (.slice (ad g8 o9) data1.length D2) (data1.set a3.toNat (ix data1 pivot5)) :: _ :: _ :: _ :: _ :: V) ?_
 refine l_nil (q_draw (sL [4, 3, 2, 1, 0]) (dR 14 R (vIa sl24 sz33 R R hg7) (hS := (sL [4, 3, 2, 1, 0])) (d1 15 R (lM (ow _ _ _ _ :: rds _ _ _ :: rds _ _ _ :: rds _ _ _ :: rds _ _ _ :: rds _ _ _ :: rds _ _ _ :: V) (fun w s => (((s.d 1 R).d 3 R).e 7 [2, 1, 0, 3, 4, 5, 6])) ?_))))
 refine l_stx (K := (kT33).share) (x' := (ix data1 a3)) 2 pivot5 R R sz33 R R hg7.1 hg7.2 ?_ ?_
 exact fun I h s => (mS33).put I h ((sc A13 ((ix data1 a3).Key) D13), (sc A14 ((ix data1 a3).Weights) D14)) (ix data1 a3) s
 refine lN (ow (kT33).share 33 (.slice (ad g8 o9) data1.length D2) ((data1.set a3.toNat (ix data1 pivot5)).set pivot5.toNat (ix data1 a3)) :: _ :: _ :: _ :: _ :: V) ?_
 refine l_nil (q_draw (sL [4, 3, 2, 1, 0]) (dD ?_))
 exact qJ (fun w s => (s.e 5 [0]))
 refine l_ldo (K := (kT33).share) 0 a3 R R ag33 sz33 dT33.own R R hg12.1 hg12.2 ?_
 rintro ⟨⟨A13, D13⟩, ⟨A14, D14⟩⟩
 refine lN (_ :: _ :: OO (kT33).share 33 (ad g8 o9) D2 data1 :: V) ?_
 refine l_nil (q_draw (sL [2, 1, 0]) (d1 7 R (l_ldo (K := (kT33).share) 2 pivot5 R R ag33 sz33 dT33.own R R hg7.1 hg7.2 ?_)))
 rintro ⟨⟨A10, D10⟩, ⟨A11, D11⟩⟩
 refine lN (RR kT3 A10 D10 ((ix data1 pivot5).Key) :: RR kT3 A11 D11 ((ix data1 pivot5).Weights) :: _ :: _ :: _ :: V) ?_
 refine l_nil (q_draw (sL [4, 3, 2, 1, 0]) (dR 12 R (vIa sl24 sz33 R R hg12) (hS := (sL [4, 3, 2, 1, 0])) (d1 13 R (lM (ow _ _ _ _ :: rds _ _ _ :: rds _ _ _ :: rds _ _ _ :: rds _ _ _ :: rds _ _ _ :: rds _ _ _ :: V) (fun w s => (((s.d 0 R).d 2 R).e 7 [6, 1, 0, 2, 3, 4, 5])) ?_))))
 refine l_stx (K := (kT33).share) (x' := (ix data1 pivot5)) 2 a3 R R sz33 R R hg12.1 hg12.2 ?_ ?_
 exact fun I h s => (mS33).put I h ((sc A10 ((ix data1 pivot5).Key) D10), (sc A11 ((ix data1 pivot5).Weights) D11)) (ix data1 pivot5) s
 refine lN (ow (kT33).share 33 (.slice (ad g8 o9) data1.length D2) (data1.set a3.toNat (ix data1 pivot5)) :: _ :: _ :: _ :: _ :: V) ?_
 refine l_nil (q_draw (sL [4, 3, 2, 1, 0]) (dR 14 R (vIa sl24 sz33 R R hg7) (hS := (sL [4, 3, 2, 1, 0])) (d1 15 R (lM (ow _ _ _ _ :: rds _ _ _ :: rds _ _ _ :: rds _ _ _ :: rds _ _ _ :: rds _ _ _ :: rds _ _ _ :: V) (fun w s => (((s.d 3 R).d 5 R).e 7 [2, 1, 0, 3, 4, 5, 6])) ?_))))
 refine l_stx (K := (kT33).share) (x' := (ix data1 a3)) 2 pivot5 R R sz33 R R hg7.1 hg7.2 ?_ ?_
 exact fun I h s => (mS33).put I h ((sc A13 ((ix data1 a3).Key) D13), (sc A14 ((ix data1 a3).Weights) D14)) (ix data1 a3) s
 refine lN (ow (kT33).share 33 (.slice (ad g8 o9) data1.length D2) ((data1.set a3.toNat (ix data1 pivot5)).set pivot5.toNat (ix data1 a3)) :: _ :: _ :: _ :: _ :: V) ?_
 refine l_nil (q_draw (sL [4, 3, 2, 1, 0]) (dD ?_))
 exact qJ (fun w s => (s.e 5 [0]))
 rintro σ1
 obtain ⟨l15, hl16, hr⟩ := bd hr
 replace hl16 := Option.some.inj hl16
 refine qM (ow (kT33).share 33 (.slice A2 data1.length D2) l15 :: V) (fun w s => by rw [← hl16]; exact s) ?_
 refine q_next (c_seq (c_region (lI R (lO (vAd R R) (lI R (lO (vSb R R) (lI R (lI R (l_nil (q_next (c_seq (c_cut (A := (Int) × (Unit)) (fun a => Z1_J1 data1 a3 b4 l15 a.1 = some r) (fun a => [(0, (sc A2 data1 D2)), (1, (iv a3)), (4, (.func (.func 73) [].toArray [].toArray)), (12, (iv a.1)), (13, (iv (w64 (b4 - (1 : Int)))))]) (fun a => ow (kT33).share 33 (.slice A2 data1.length D2) l15 :: V) ?_ ?_))))))))))))
 refine c_block ?_
 obtain ⟨e1, hl1, hk1⟩ := bd hr
 refine c_loop (A := Unit) hl1 (fun s a => [(0, (sc A2 data1 D2)), (1, (iv a3)), (4, (.func (.func 73) [].toArray [].toArray)), (12, (iv s)), (13, (iv (w64 (b4 - (1 : Int)))))]) (fun s a => ow (kT33).share 33 (.slice A2 data1.length D2) l15 :: V) () (aS R) (fun w s => s) ?_
 rintro i28 _ σ1 out1 hr he1
 replace hr : Z1_L1 data1 a3 b4 l15 i28 = some out1 := hr
 unfold Z1_L1 at hr
 refine c_seq (c_seq ?_)
 obtain ⟨hg29, hr⟩ := gd hr
 obtain ⟨r36, hx37, hr⟩ := bd hr
 refine cQ [(0, (sc A2 data1 D2)), (1, (iv a3)), (4, (.func (.func 73) [].toArray [].toArray)), (12, (iv i28)), (13, (iv (w64 (b4 - (1 : Int))))), (47, (.bool ((decide (i28 ≤ (w64 (b4 - (1 : Int))))) && (decide (r36 < (0 : Int))))))] (ow (kT33).share 33 (.slice A2 data1.length D2) l15 :: V) ?_ ?_
 rcases bo (decide (i28 ≤ (w64 (b4 - (1 : Int))))) with hc38 | hc38
 refine c_some 0 sees_sh (show 0 < data1.length by have := (hg29 hc38); omega) (fun g30 o31 ha => ?_)
 subst ha
 refine cdr 16 [] mixo (fun ht hn => (dR 0 R (vI R) (dR 1 R (vI R) (dR 2 R (vLe R R) (dR 3 R (vB R) (dW 4 R (wnT hc38) (vp (.func (.func 73) [].toArray [].toArray) R) (dW 5 R (wnT hc38) (vS R) (dW 6 R (wnT hc38) (vI R) (dW 7 R (wnT hc38) (vIa sl24 sz33 R R (hg29 hc38)) (dW 9 R (wnT hc38) (vS R) (dW 10 R (wnT hc38) (vI R) (dW 11 R (wnT hc38) (vIa sl24 sz33 R R hg12) (d_all [8, 12] (by kernel_rfl) R ⟨?_, ?_, trivial⟩)))))))))))))
 refine l_ldo (K := (kT33).share) 0 i28 R (wnT hc38) ag33 sz33 dT33.own R R (hg29 hc38).1 (hg29 hc38).2 ?_
 rintro ⟨⟨A32, D32⟩, ⟨A33, D33⟩⟩
 refine lN (RR kT3 A32 D32 ((ix l15 i28).Key) :: RR kT3 A33 D33 ((ix l15 i28).Weights) :: ow (kT33).share 33 (.slice (ad g30 o31) data1.length D2) l15 :: V) ?_
 refine l_nil (q_draw (sL [1, 0]) (d1 12 R (l_ldo (K := (kT33).share) 2 a3 R (wnT hc38) ag33 sz33 dT33.own R R hg12.1 hg12.2 ?_)))
 rintro ⟨⟨A34, D34⟩, ⟨A35, D35⟩⟩
 refine lN (RR kT3 A34 D34 ((ix l15 a3).Key) :: RR kT3 A35 D35 ((ix l15 a3).Weights) :: _ :: _ :: _ :: V) ?_
 refine l_nil (q_draw (sL [3, 2, 1, 0]) (d1 13 R (lM (rds _ _ _ :: rds _ _ _ :: rds _ _ _ :: rds _ _ _ :: rds _ _ _ :: rds _ _ _ :: rds _ _ _ :: rds _ _ _ :: ow _ _ _ _ :: V) (fun w s => (((((s.d 2 R).d 4 R).d 2 R).d 4 R).e 9 [3, 2, 1, 0, 4, 5, 6, 7, 8])) ?_)))
 refine l_callvn (fs := []) (cs := []) 4 R (wnT hc38) cb73 R R (Z8_ok (gcall_t hx37 hc38)) R ?_
 rintro _
 refine lN (_ :: _ :: _ :: _ :: _ :: V) ?_
 refine l_nil (q_draw (sL [3, 2, 1, 0]) (dW 14 R (wnT hc38) (vLt R R) (hS := (sL [3, 2, 1, 0])) (dR 15 R (pAT R hc38 R) (hS := (sL [3, 2, 1, 0])) (dD ?_))))
 exact qJ (fun w s => (s.e 5 [4]))
 refine l_ldo (K := (kT33).share) 0 a3 R (wnT hc38) ag33 sz33 dT33.own R R hg12.1 hg12.2 ?_
 rintro ⟨⟨A34, D34⟩, ⟨A35, D35⟩⟩
 refine lN (_ :: _ :: _ :: V) ?_
 refine l_nil (q_draw (sL [1, 0]) (d1 8 R (l_ldo (K := (kT33).share) 2 i28 R (wnT hc38) ag33 sz33 dT33.own R R (hg29 hc38).1 (hg29 hc38).2 ?_)))
 rintro ⟨⟨A32, D32⟩, ⟨A33, D33⟩⟩
 refine lN (RR kT3 A32 D32 ((ix l15 i28).Key) :: RR kT3 A33 D33 ((ix l15 i28).Weights) :: _ :: _ :: _ :: V) ?_
 refine l_nil (q_draw (sL [3, 2, 1, 0]) (d1 13 R (lM (rds _ _ _ :: rds _ _ _ :: rds _ _ _ :: rds _ _ _ :: rds _ _ _ :: rds _ _ _ :: rds _ _ _ :: rds _ _ _ :: ow _ _ _ _ :: V) (fun w s => (((((s.d 0 R).d 2 R).d 4 R).d 6 R).e 9 [3, 2, 1, 0, 4, 5, 6, 7, 8])) ?_)))
 refine l_callvn (fs := []) (cs := []) 4 R (wnT hc38) cb73 R R (Z8_ok (gcall_t hx37 hc38)) R ?_
 rintro _
 refine lN (_ :: _ :: _ :: _ :: _ :: V) ?_
 refine l_nil (q_draw (sL [3, 2, 1, 0]) (dW 14 R (wnT hc38) (vLt R R) (hS := (sL [3, 2, 1, 0])) (dR 15 R (pAT R hc38 R) (hS := (sL [3, 2, 1, 0])) (dD ?_))))
 exact qJ (fun w s => (s.e 5 [4]))
 refine cdr 16 [] mixo (fun ht hn => (dR 0 R (vI R) (dR 1 R (vI R) (dR 2 R (vLe R R) (dR 3 R (vB R) (dF 4 R (wfF hc38) (dF 5 R (wfF hc38) (dF 6 R (wfF hc38) (dF 7 R (wfF hc38) (dF 8 R (wfF hc38) (dF 9 R (wfF hc38) (dF 10 R (wfF hc38) (dF 11 R (wfF hc38) (dF 12 R (wfF hc38) (dF 13 R (wfF hc38) (dF 14 R (wfF hc38) (dR 15 R (pAF (decide (r36 < (0 : Int))) R hc38) (dD ?_))))))))))))))))))
 exact qJ (fun w s => s)
 rintro σ1
 refine q_next ?_
 rcases bif_ hr with ⟨hb39, hr⟩ | ⟨hb39, hr⟩
 refine c_true R hb39 (c_skip (q_next (c_block (c_region (lI R (lO (vAd R R) (lI R (l_nil (q_blockn ?_)))))))))
 obtain rfl := so hr
 exact qA () (fun w s => s)
 refine c_false R hb39 (c_exit (q_exit ?_))
 obtain rfl := so hr
 obtain rfl := he1 _ R
 have hr := hk1
 refine q_exit (q_block ?_)
 exact qI (i28, ()) hr (fun w s => s)
 rintro ⟨i41, _⟩ σ1 hr
 replace hr : Z1_J1 data1 a3 b4 l15 i41 = some r := hr
 unfold Z1_J1 at hr
 refine c_seq (c_cut (A := (Int) × (Unit)) (fun a => Z1_J2 data1 a3 l15 i41 a.1 = some r) (fun a => [(0, (sc A2 data1 D2)), (1, (iv a3)), (4, (.func (.func 73) [].toArray [].toArray)), (12, (iv i41)), (13, (iv a.1))]) (fun a => ow (kT33).share 33 (.slice A2 data1.length D2) l15 :: V) ?_ ?_)
 refine c_block ?_
 obtain ⟨e2, hl2, hk2⟩ := bd hr
 refine c_loop (A := Unit) hl2 (fun s a => [(0, (sc A2 data1 D2)), (1, (iv a3)), (4, (.func (.func 73) [].toArray [].toArray)), (12, (iv i41)), (13, (iv s))]) (fun s a => ow (kT33).share 33 (.slice A2 data1.length D2) l15 :: V) () (aS R) (fun w s => s) ?_
 rintro j53 _ σ1 out2 hr he2
 replace hr : Z1_L2 data1 a3 l15 i41 j53 = some out2 := hr
 unfold Z1_L2 at hr
 refine c_seq (c_seq ?_)
 obtain ⟨hg54, hr⟩ := gd hr
 obtain ⟨r61, hx62, hr⟩ := bd hr
 refine cQ [(0, (sc A2 data1 D2)), (1, (iv a3)), (4, (.func (.func 73) [].toArray [].toArray)), (12, (iv i41)), (13, (iv j53)), (66, (.bool ((decide (i41 ≤ j53)) && (!(decide (r61 < (0 : Int)))))))] (ow (kT33).share 33 (.slice A2 data1.length D2) l15 :: V) ?_ ?_
 rcases bo (decide (i41 ≤ j53)) with hc63 | hc63
 refine c_some 0 sees_sh (show 0 < data1.length by have := (hg54 hc63); omega) (fun g55 o56 ha => ?_)
 subst ha
 refine cdr 17 [] mixo (fun ht hn => (dR 0 R (vI R) (dR 1 R (vI R) (dR 2 R (vLe R R) (dR 3 R (vB R) (dW 4 R (wnT hc63) (vp (.func (.func 73) [].toArray [].toArray) R) (dW 5 R (wnT hc63) (vS R) (dW 6 R (wnT hc63) (vI R) (dW 7 R (wnT hc63) (vIa sl24 sz33 R R (hg54 hc63)) (dW 9 R (wnT hc63) (vS R) (dW 10 R (wnT hc63) (vI R) (dW 11 R (wnT hc63) (vIa sl24 sz33 R R hg12) (d_all [8, 12] (by kernel_rfl) R ⟨?_, ?_, trivial⟩)))))))))))))
 refine l_ldo (K := (kT33).share) 0 j53 R (wnT hc63) ag33 sz33 dT33.own R R (hg54 hc63).1 (hg54 hc63).2 ?_
 rintro ⟨⟨A57, D57⟩, ⟨A58, D58⟩⟩
 refine lN (RR kT3 A57 D57 ((ix l15 j53).Key) :: RR kT3 A58 D58 ((ix l15 j53).Weights) :: ow (kT33).share 33 (.slice (ad g55 o56) data1.length D2) l15 :: V) ?_
 refine l_nil (q_draw (sL [1, 0]) (d1 12 R (l_ldo (K := (kT33).share) 2 a3 R (wnT hc63) ag33 sz33 dT33.own R R hg12.1 hg12.2 ?_)))
 rintro ⟨⟨A59, D59⟩, ⟨A60, D60⟩⟩
 refine lN (RR kT3 A59 D59 ((ix l15 a3).Key) :: RR kT3 A60 D60 ((ix l15 a3).Weights) :: _ :: _ :: _ :: V) ?_
 refine l_nil (q_draw (sL [3, 2, 1, 0]) (d1 13 R (lM (rds _ _ _ :: rds _ _ _ :: rds _ _ _ :: rds _ _ _ :: rds _ _ _ :: rds _ _ _ :: rds _ _ _ :: rds _ _ _ :: ow _ _ _ _ :: V) (fun w s => (((((s.d 2 R).d 4 R).d 2 R).d 4 R).e 9 [3, 2, 1, 0, 4, 5, 6, 7, 8])) ?_)))
 refine l_callvn (fs := []) (cs := []) 4 R (wnT hc63) cb73 R R (Z8_ok (gcall_t hx62 hc63)) R ?_
 rintro _
 refine lN (_ :: _ :: _ :: _ :: _ :: V) ?_
 refine l_nil (q_draw (sL [3, 2, 1, 0]) (dW 14 R (wnT hc63) (vLt R R) (hS := (sL [3, 2, 1, 0])) (dW 15 R (wnT hc63) (vNo R) (hS := (sL [3, 2, 1, 0])) (dR 16 R (pAT R hc63 R) (hS := (sL [3, 2, 1, 0])) (dD ?_)))))
 exact qJ (fun w s => (s.e 5 [4]))
 refine l_ldo (K := (kT33).share) 0 a3 R (wnT hc63) ag33 sz33 dT33.own R R hg12.1 hg12.2 ?_
 rintro ⟨⟨A59, D59⟩, ⟨A60, D60⟩⟩
 refine lN (_ :: _ :: _ :: V) ?_
 refine l_nil (q_draw (sL [1, 0]) (d1 8 R (l_ldo (K := (kT33).share) 2 j53 R (wnT hc63) ag33 sz33 dT33.own R R (hg54 hc63).1 (hg54 hc63).2 ?_)))
 rintro ⟨⟨A57, D57⟩, ⟨A58, D58⟩⟩
 refine lN (RR kT3 A57 D57 ((ix l15 j53).Key) :: RR kT3 A58 D58 ((ix l15 j53).Weights) :: _ :: _ :: _ :: V) ?_
 refine l_nil (q_draw (sL [3, 2, 1, 0]) (d1 13 R (lM (rds _ _ _ :: rds _ _ _ :: rds _ _ _ :: rds _ _ _ :: rds _ _ _ :: rds _ _ _ :: rds _ _ _ :: rds _ _ _ :: ow _ _ _ _ :: V) (fun w s => (((((s.d 0 R).d 2 R).d 4 R).d 6 R).e 9 [3, 2, 1, 0, 4, 5, 6, 7, 8])) ?_)))
 refine l_callvn (fs := []) (cs := []) 4 R (wnT hc63) cb73 R R (Z8_ok (gcall_t hx62 hc63)) R ?_
 rintro _
 refine lN (_ :: _ :: _ :: _ :: _ :: V) ?_
 refine l_nil (q_draw (sL [3, 2, 1, 0]) (dW 14 R (wnT hc63) (vLt R R) (hS := (sL [3, 2, 1, 0])) (dW 15 R (wnT hc63) (vNo R) (hS := (sL [3, 2, 1, 0])) (dR 16 R (pAT R hc63 R) (hS := (sL [3, 2, 1, 0])) (dD ?_)))))
 exact qJ (fun w s => (s.e 5 [4]))
 refine cdr 17 [] mixo (fun ht hn => (dR 0 R (vI R) (dR 1 R (vI R) (dR 2 R (vLe R R) (dR 3 R (vB R) (dF 4 R (wfF hc63) (dF 5 R (wfF hc63) (dF 6 R (wfF hc63) (dF 7 R (wfF hc63) (dF 8 R (wfF hc63) (dF 9 R (wfF hc63) (dF 10 R (wfF hc63) (dF 11 R (wfF hc63) (dF 12 R (wfF hc63) (dF 13 R (wfF hc63) (dF 14 R (wfF hc63) (dF 15 R (wfF hc63) (dR 16 R (pAF (!(decide (r61 < (0 : Int)))) R hc63) (dD ?_)))))))))))))))))))
 exact qJ (fun w s => s)
 rintro σ1
 refine q_next ?_
 rcases bif_ hr with ⟨hb64, hr⟩ | ⟨hb64, hr⟩
 refine c_true R hb64 (c_skip (q_next (c_block (c_region (lI R (lO (vSb R R) (lI R (l_nil (q_blockn ?_)))))))))
 obtain rfl := so hr
 exact qA () (fun w s => s)
 refine c_false R hb64 (c_exit (q_exit ?_))
 obtain rfl := so hr
 obtain rfl := he2 _ R
 have hr := hk2
 refine q_exit (q_block ?_)
 exact qI (j53, ()) hr (fun w s => s)
 rintro ⟨j66, _⟩ σ1 hr
 replace hr : Z1_J2 data1 a3 l15 i41 j66 = some r := hr
 unfold Z1_J2 at hr
 refine c_seq (c_seq (c_region (lI R (lI R (lO (vGt R R) (l_nil (q_next ?_)))))))
 rcases bif_ hr with ⟨hb67, hr⟩ | ⟨hb67, hr⟩
 refine c_true R hb67 (c_seq ?_)
 obtain ⟨hg72, hr⟩ := gd hr
 refine cQ [(13, (iv j66))] (ow (kT33).share 33 (.slice A2 data1.length D2) ((l15.set j66.toNat (ix l15 a3)).set a3.toNat (ix l15 j66)) :: V) ?_ ?_
 refine c_some 0 sees_sh (show 0 < data1.length by have := hg12; omega) (fun g68 o69 ha => ?_)
 subst ha
 refine cdr 16 [0] mixo (fun ht hn => (dR 0 R (vS R) (hS := (sL [0])) (dR 1 R (vI R) (hS := (sL [0])) (dR 2 R (vS R) (hS := (sL [0])) (dR 3 R (vI R) (hS := (sL [0])) (dR 4 R (vS R) (hS := (sL [0])) (dR 5 R (vI R) (hS := (sL [0])) (dR 6 R (vIa sl24 sz33 R R hg12) (hS := (sL [0])) (dR 8 R (vS R) (hS := (sL [0])) (dR 9 R (vI R) (hS := (sL [0])) (dR 10 R (vIa sl24 sz33 R R hg72) (hS := (sL [0])) (d_all [7, 11] (by kernel_rfl) R ⟨?_, ?_, trivial⟩))))))))))))
 refine l_ldo (K := (kT33).share) 0 a3 R R ag33 sz33 dT33.own R R hg12.1 hg12.2 ?_
 rintro ⟨⟨A70, D70⟩, ⟨A71, D71⟩⟩
 refine lN (RR kT3 A70 D70 ((ix l15 a3).Key) :: RR kT3 A71 D71 ((ix l15 a3).Weights) :: ow (kT33).share 33 (.slice (ad g68 o69) data1.length D2) l15 :: V) ?_
 refine l_nil (q_draw (sL [2, 1, 0]) (d1 11 R (l_ldo (K := (kT33).share) 2 j66 R R ag33 sz33 dT33.own R R hg72.1 hg72.2 ?_)))
 rintro ⟨⟨A73, D73⟩, ⟨A74, D74⟩⟩
 refine lN (RR kT3 A73 D73 ((ix l15 j66).Key) :: RR kT3 A74 D74 ((ix l15 j66).Weights) :: _ :: _ :: _ :: V) ?_
 refine l_nil (q_draw (sL [4, 3, 2, 1, 0]) (dR 12 R (vIa sl24 sz33 R R hg72) (hS := (sL [4, 3, 2, 1, 0])) (d1 13 R (lM (ow _ _ _ _ :: rds _ _ _ :: rds _ _ _ :: rds _ _ _ :: rds _ _ _ :: rds _ _ _ :: rds _ _ _ :: V) (fun w s => (((s.d 2 R).d 4 R).e 7 [6, 1, 0, 2, 3, 4, 5])) ?_))))
 refine l_stx (K := (kT33).share) (x' := (ix l15 a3)) 2 j66 R R sz33 R R hg72.1 hg72.2 ?_ ?_
 exact fun I h s => (mS33).put I h ((sc A70 ((ix l15 a3).Key) D70), (sc A71 ((ix l15 a3).Weights) D71)) (ix l15 a3) s
 refine lN (ow (kT33).share 33 (.slice (ad g68 o69) data1.length D2) (l15.set j66.toNat (ix l15 a3)) :: _ :: _ :: _ :: _ :: V) ?_
 refine l_nil (q_draw (sL [4, 3, 2, 1, 0]) (dR 14 R (vIa sl24 sz33 R R hg12) (hS := (sL [4, 3, 2, 1, 0])) (d1 15 R (lM (ow _ _ _ _ :: rds _ _ _ :: rds _ _ _ :: rds _ _ _ :: rds _ _ _ :: rds _ _ _ :: rds _ _ _ :: V) (fun w s => (((s.d 1 R).d 3 R).e 7 [2, 1, 0, 3, 4, 5, 6])) ?_))))
 refine l_stx (K := (kT33).share) (x' := (ix l15 j66)) 2 a3 R R sz33 R R hg12.1 hg12.2 ?_ ?_
 exact fun I h s => (mS33).put I h ((sc A73 ((ix l15 j66).Key) D73), (sc A74 ((ix l15 j66).Weights) D74)) (ix l15 j66) s
 refine lN (ow (kT33).share 33 (.slice (ad g68 o69) data1.length D2) ((l15.set j66.toNat (ix l15 a3)).set a3.toNat (ix l15 j66)) :: _ :: _ :: _ :: _ :: V) ?_
 refine l_nil (q_draw (sL [4, 3, 2, 1, 0]) (dD ?_))
 exact qJ (fun w s => (s.e 5 [0]))
 refine l_ldo (K := (kT33).share) 0 j66 R R ag33 sz33 dT33.own R R hg72.1 hg72.2 ?_
 rintro ⟨⟨A73, D73⟩, ⟨A74, D74⟩⟩
 refine lN (_ :: _ :: ow (kT33).share 33 (.slice (ad g68 o69) data1.length D2) l15 :: V) ?_
 refine l_nil (q_draw (sL [2, 1, 0]) (d1 7 R (l_ldo (K := (kT33).share) 2 a3 R R ag33 sz33 dT33.own R R hg12.1 hg12.2 ?_)))
 rintro ⟨⟨A70, D70⟩, ⟨A71, D71⟩⟩
 refine lN (RR kT3 A70 D70 ((ix l15 a3).Key) :: RR kT3 A71 D71 ((ix l15 a3).Weights) :: _ :: _ :: _ :: V) ?_
 refine l_nil (q_draw (sL [4, 3, 2, 1, 0]) (dR 12 R (vIa sl24 sz33 R R hg72) (hS := (sL [4, 3, 2, 1, 0])) (d1 13 R (lM (ow _ _ _ _ :: rds _ _ _ :: rds _ _ _ :: rds _ _ _ :: rds _ _ _ :: rds _ _ _ :: rds _ _ _ :: V) (fun w s => (((s.d 0 R).d 2 R).e 7 [6, 1, 0, 2, 3, 4, 5])) ?_))))
 refine l_stx (K := (kT33).share) (x' := (ix l15 a3)) 2 j66 R R sz33 R R hg72.1 hg72.2 ?_ ?_
 exact fun I h s => (mS33).put I h ((sc A70 ((ix l15 a3).Key) D70), (sc A71 ((ix l15 a3).Weights) D71)) (ix l15 a3) s
 refine lN (ow (kT33).share 33 (.slice (ad g68 o69) data1.length D2) (l15.set j66.toNat (ix l15 a3)) :: _ :: _ :: _ :: _ :: V) ?_
 refine l_nil (q_draw (sL [4, 3, 2, 1, 0]) (dR 14 R (vIa sl24 sz33 R R hg12) (hS := (sL [4, 3, 2, 1, 0])) (d1 15 R (lM (ow _ _ _ _ :: rds _ _ _ :: rds _ _ _ :: rds _ _ _ :: rds _ _ _ :: rds _ _ _ :: rds _ _ _ :: V) (fun w s => (((s.d 3 R).d 5 R).e 7 [2, 1, 0, 3, 4, 5, 6])) ?_))))
 refine l_stx (K := (kT33).share) (x' := (ix l15 j66)) 2 a3 R R sz33 R R hg12.1 hg12.2 ?_ ?_
 exact fun I h s => (mS33).put I h ((sc A73 ((ix l15 j66).Key) D73), (sc A74 ((ix l15 j66).Weights) D74)) (ix l15 j66) s
 refine lN (ow (kT33).share 33 (.slice (ad g68 o69) data1.length D2) ((l15.set j66.toNat (ix l15 a3)).set a3.toNat (ix l15 j66)) :: _ :: _ :: _ :: _ :: V) ?_
 refine l_nil (q_draw (sL [4, 3, 2, 1, 0]) (dD ?_))
 exact qJ (fun w s => (s.e 5 [0]))
 rintro σ1
 refine q_next (c_seq (c_region (lI R (lI R (lB R (l_nil (q_next (c_ret (q_ret ?_)))))))))
 obtain rfl := so hr
 exact q_fin (vs := [(iv j66), (.bool true)]) (.inl R) () R ⟨R, R, trivial⟩ R (fun w s => s)
 refine c_false R hb67 (c_skip (q_next (c_seq ?_)))
 obtain ⟨hg75, hr⟩ := gd hr
 obtain ⟨hg80, hr⟩ := gd hr
 refine cQ [(0, (sc A2 data1 D2)), (1, (iv a3)), (4, (.func (.func 73) [].toArray [].toArray)), (12, (iv i41)), (13, (iv j66))] (ow (kT33).share 33 (.slice A2 data1.length D2) ((l15.set i41.toNat (ix l15 j66)).set j66.toNat (ix l15 i41)) :: V) ?_ ?_
 refine c_some 0 sees_sh (show 0 < data1.length by have := hg75; omega) (fun g76 o77 ha => ?_)
 subst ha
 refine cdr 16 [0] mixo (fun ht hn => (dR 0 R (vS R) (hS := (sL [0])) (dR 1 R (vI R) (hS := (sL [0])) (dR 2 R (vS R) (hS := (sL [0])) (dR 3 R (vI R) (hS := (sL [0])) (dR 4 R (vS R) (hS := (sL [0])) (dR 5 R (vI R) (hS := (sL [0])) (dR 6 R (vIa sl24 sz33 R R hg75) (hS := (sL [0])) (dR 8 R (vS R) (hS := (sL [0])) (dR 9 R (vI R) (hS := (sL [0])) (dR 10 R (vIa sl24 sz33 R R hg80) (hS := (sL [0])) (d_all [7, 11] (by kernel_rfl) R ⟨?_, ?_, trivial⟩))))))))))))
 refine l_ldo (K := (kT33).share) 0 j66 R R ag33 sz33 dT33.own R R hg75.1 hg75.2 ?_
 rintro ⟨⟨A78, D78⟩, ⟨A79, D79⟩⟩
 refine lN (RR kT3 A78 D78 ((ix l15 j66).Key) :: RR kT3 A79 D79 ((ix l15 j66).Weights) :: ow (kT33).share 33 (.slice (ad g76 o77) data1.length D2) l15 :: V) ?_
 refine l_nil (q_draw (sL [2, 1, 0]) (d1 11 R (l_ldo (K := (kT33).share) 2 i41 R R ag33 sz33 dT33.own R R hg80.1 hg80.2 ?_)))
 rintro ⟨⟨A81, D81⟩, ⟨A82, D82⟩⟩
 refine lN (RR kT3 A81 D81 ((ix l15 i41).Key) :: RR kT3 A82 D82 ((ix l15 i41).Weights) :: _ :: _ :: _ :: V) ?_
 refine l_nil (q_draw (sL [4, 3, 2, 1, 0]) (dR 12 R (vIa sl24 sz33 R R hg80) (hS := (sL [4, 3, 2, 1, 0])) (d1 13 R (lM (ow _ _ _ _ :: rds _ _ _ :: rds _ _ _ :: rds _ _ _ :: rds _ _ _ :: rds _ _ _ :: rds _ _ _ :: V) (fun w s => (((s.d 2 R).d 4 R).e 7 [6, 1, 0, 2, 3, 4, 5])) ?_))))
 refine l_stx (K := (kT33).share) (x' := (ix l15 j66)) 2 i41 R R sz33 R R hg80.1 hg80.2 ?_ ?_
 exact fun I h s => (mS33).put I h ((sc A78 ((ix l15 j66).Key) D78), (sc A79 ((ix l15 j66).Weights) D79)) (ix l15 j66) s
 refine lN (ow (kT33).share 33 (.slice (ad g76 o77) data1.length D2) (l15.set i41.toNat (ix l15 j66)) :: _ :: _ :: _ :: _ :: V) ?_
 refine l_nil (q_draw (sL [4, 3, 2, 1, 0]) (dR 14 R (vIa sl24 sz33 R R hg75) (hS := (sL [4, 3, 2, 1, 0])) (d1 15 R (lM (ow _ _ _ _ :: rds _ _ _ :: rds _ _ _ :: rds _ _ _ :: rds _ _ _ :: rds _ _ _ :: rds _ _ _ :: V) (fun w s => (((s.d 1 R).d 3 R).e 7 [2, 1, 0, 3, 4, 5, 6])) ?_))))
 refine l_stx (K := (kT33).share) (x' := (ix l15 i41)) 2 j66 R R sz33 R R hg75.1 hg75.2 ?_ ?_
 exact fun I h s => (mS33).put I h ((sc A81 ((ix l15 i41).Key) D81), (sc A82 ((ix l15 i41).Weights) D82)) (ix l15 i41) s
 refine lN (ow (kT33).share 33 (.slice (ad g76 o77) data1.length D2) ((l15.set i41.toNat (ix l15 j66)).set j66.toNat (ix l15 i41)) :: _ :: _ :: _ :: _ :: V) ?_
 refine l_nil (q_draw (sL [4, 3, 2, 1, 0]) (dD ?_))
 exact qJ (fun w s => (s.e 5 [0]))
 refine l_ldo (K := (kT33).share) 0 i41 R R ag33 sz33 dT33.own R R hg80.1 hg80.2 ?_
 rintro ⟨⟨A81, D81⟩, ⟨A82, D82⟩⟩
 refine lN (_ :: _ :: ow (kT33).share 33 (.slice (ad g76 o77) data1.length D2) l15 :: V) ?_
 refine l_nil (q_draw (sL [2, 1, 0]) (d1 7 R (l_ldo (K := (kT33).share) 2 j66 R R ag33 sz33 dT33.own R R hg75.1 hg75.2 ?_)))
 rintro ⟨⟨A78, D78⟩, ⟨A79, D79⟩⟩
 refine lN (RR kT3 A78 D78 ((ix l15 j66).Key) :: RR kT3 A79 D79 ((ix l15 j66).Weights) :: _ :: _ :: _ :: V) ?_
 refine l_nil (q_draw (sL [4, 3, 2, 1, 0]) (dR 12 R (vIa sl24 sz33 R R hg80) (hS := (sL [4, 3, 2, 1, 0])) (d1 13 R (lM (ow _ _ _ _ :: rds _ _ _ :: rds _ _ _ :: rds _ _ _ :: rds _ _ _ :: rds _ _ _ :: rds _ _ _ :: V) (fun w s => (((s.d 0 R).d 2 R).e 7 [6, 1, 0, 2, 3, 4, 5])) ?_))))
 refine l_stx (K := (kT33).share) (x' := (ix l15 j66)) 2 i41 R R sz33 R R hg80.1 hg80.2 ?_ ?_
 exact fun I h s => (mS33).put I h ((sc A78 ((ix l15 j66).Key) D78), (sc A79 ((ix l15 j66).Weights) D79)) (ix l15 j66) s
 refine lN (ow (kT33).share 33 (.slice (ad g76 o77) data1.length D2) (l15.set i41.toNat (ix l15 j66)) :: _ :: _ :: _ :: _ :: V) ?_
 refine l_nil (q_draw (sL [4, 3, 2, 1, 0]) (dR 14 R (vIa sl24 sz33 R R hg75) (hS := (sL [4, 3, 2, 1, 0])) (d1 15 R (lM (ow _ _ _ _ :: rds _ _ _ :: rds _ _ _ :: rds _ _ _ :: rds _ _ _ :: rds _ _ _ :: rds _ _ _ :: V) (fun w s => (((s.d 3 R).d 5 R).e 7 [2, 1, 0, 3, 4, 5, 6])) ?_))))
 refine l_stx (K := (kT33).share) (x' := (ix l15 i41)) 2 j66 R R sz33 R R hg75.1 hg75.2 ?_ ?_
 exact fun I h s => (mS33).put I h ((sc A81 ((ix l15 i41).Key) D81), (sc A82 ((ix l15 i41).Weights) D82)) (ix l15 i41) s
 refine lN (ow (kT33).share 33 (.slice (ad g76 o77) data1.length D2) ((l15.set i41.toNat (ix l15 j66)).set j66.toNat (ix l15 i41)) :: _ :: _ :: _ :: _ :: V) ?_
 refine l_nil (q_draw (sL [4, 3, 2, 1, 0]) (dD ?_))
 exact qJ (fun w s => (s.e 5 [0]))
 rintro σ1
 obtain ⟨l83, hl84, hr⟩ := bd hr
 replace hl84 := Option.some.inj hl84
 refine qM (ow (kT33).share 33 (.slice A2 data1.length D2) l83 :: V) (fun w s => by rw [← hl84]; exact s) ?_
 refine q_next (c_seq (c_region (lI R (lO (vAd R R) (lI R (l_nil (q_next (c_seq (c_region (lI R (lO (vSb R R) (lI R (l_nil (q_next (c_seq (c_cut (A := ((List Row) × Int) × (Unit)) (fun a => Z1_J7 data1 a3 a.1.1 a.1.2 = some r) (fun a => [(0, (sc A2 data1 D2)), (1, (iv a3)), (13, (iv a.1.2))]) (fun a => ow (kT33).share 33 (.slice A2 data1.length D2) a.1.1 :: V) ?_ ?_))))))))))))))))
 refine c_block ?_
 obtain ⟨e3, hl3, hk3⟩ := bd hr
 refine c_loop (A := Unit) hl3 (fun s a => [(0, (sc A2 data1 D2)), (1, (iv a3)), (4, (.func (.func 73) [].toArray [].toArray)), (12, (iv s.2.1)), (13, (iv s.2.2))]) (fun s a => ow (kT33).share 33 (.slice A2 data1.length D2) s.1 :: V) () (aS R) (fun w s => s) ?_
 rintro ⟨data146, i147, j148⟩ _ σ1 out3 hr he3
 replace hr : Z1_L3 data1 a3 data146 i147 j148 = some out3 := hr
 unfold Z1_L3 at hr
 refine c_block (c_seq (c_cut (A := (Int) × (Unit)) (fun a => Z1_J5 data1 a3 data146 j148 a.1 = some out3) (fun a => [(0, (sc A2 data1 D2)), (1, (iv a3)), (4, (.func (.func 73) [].toArray [].toArray)), (12, (iv a.1)), (13, (iv j148))]) (fun a => ow (kT33).share 33 (.slice A2 data1.length D2) data146 :: V) ?_ ?_))
 refine c_block ?_
 obtain ⟨e4, hl4, hk4⟩ := bd hr
 refine c_loop (A := Unit) hl4 (fun s a => [(0, (sc A2 data1 D2)), (1, (iv a3)), (4, (.func (.func 73) [].toArray [].toArray)), (12, (iv s)), (13, (iv j148))]) (fun s a => ow (kT33).share 33 (.slice A2 data1.length D2) data146 :: V) () (aS R) (fun w s => s) ?_
 rintro i160 _ σ1 out4 hr he4
 replace hr : Z1_L4 data1 a3 data146 j148 i160 = some out4 := hr
 unfold Z1_L4 at hr
 refine c_seq (c_seq ?_)
 obtain ⟨hg161, hr⟩ := gd hr
 obtain ⟨r168, hx169, hr⟩ := bd hr
 refine cQ [(0, (sc A2 data1 D2)), (1, (iv a3)), (4, (.func (.func 73) [].toArray [].toArray)), (12, (iv i160)), (13, (iv j148)), (120, (.bool ((decide (i160 ≤ j148)) && (decide (r168 < (0 : Int))))))] (ow (kT33).share 33 (.slice A2 data1.length D2) data146 :: V) ?_ ?_
 rcases bo (decide (i160 ≤ j148)) with hc170 | hc170
 refine c_some 0 sees_sh (show 0 < data1.length by have := (hg161 hc170); omega) (fun g162 o163 ha => ?_)
 subst ha
 refine cdr 16 [] mixo (fun ht hn => (dR 0 R (vI R) (dR 1 R (vI R) (dR 2 R (vLe R R) (dR 3 R (vB R) (dW 4 R (wnT hc170) (vp (.func (.func 73) [].toArray [].toArray) R) (dW 5 R (wnT hc170) (vS R) (dW 6 R (wnT hc170) (vI R) (dW 7 R (wnT hc170) (vIa sl24 sz33 R R (hg161 hc170)) (dW 9 R (wnT hc170) (vS R) (dW 10 R (wnT hc170) (vI R) (dW 11 R (wnT hc170) (vIa sl24 sz33 R R hg12) (d_all [8, 12] (by kernel_rfl) R ⟨?_, ?_, trivial⟩)))))))))))))
 refine l_ldo (K := (kT33).share) 0 i160 R (wnT hc170) ag33 sz33 dT33.own R R (hg161 hc170).1 (hg161 hc170).2 ?_
 rintro ⟨⟨A164, D164⟩, ⟨A165, D165⟩⟩
 refine lN (RR kT3 A164 D164 ((ix data146 i160).Key) :: RR kT3 A165 D165 ((ix data146 i160).Weights) :: ow (kT33).share 33 (.slice (ad g162 o163) data1.length D2) data146 :: V) ?_
 refine l_nil (q_draw (sL [1, 0]) (d1 12 R (l_ldo (K := (kT33).share) 2 a3 R (wnT hc170) ag33 sz33 dT33.own R R hg12.1 hg12.2 ?_)))
 rintro ⟨⟨A166, D166⟩, ⟨A167, D167⟩⟩
 refine lN (RR kT3 A166 D166 ((ix data146 a3).Key) :: RR kT3 A167 D167 ((ix data146 a3).Weights) :: _ :: _ :: _ :: V) ?_
 refine l_nil (q_draw (sL [3, 2, 1, 0]) (d1 13 R (lM (rds _ _ _ :: rds _ _ _ :: rds _ _ _ :: rds _ _ _ :: rds _ _ _ :: rds _ _ _ :: rds _ _ _ :: rds _ _ _ :: ow _ _ _ _ :: V) (fun w s => (((((s.d 2 R).d 4 R).d 2 R).d 4 R).e 9 [3, 2, 1, 0, 4, 5, 6, 7, 8])) ?_)))
 refine l_callvn (fs := []) (cs := []) 4 R (wnT hc170) cb73 R R (Z8_ok (gcall_t hx169 hc170)) R ?_
 rintro _
 refine lN (_ :: _ :: _ :: _ :: _ :: V) ?_
 refine l_nil (q_draw (sL [3, 2, 1, 0]) (dW 14 R (wnT hc170) (vLt R R) (hS := (sL [3, 2, 1, 0])) (dR 15 R (pAT R hc170 R) (hS := (sL [3, 2, 1, 0])) (dD ?_))))
 exact qJ (fun w s => (s.e 5 [4]))
 refine l_ldo (K := (kT33).share) 0 a3 R (wnT hc170) ag33 sz33 dT33.own R R hg12.1 hg12.2 ?_
 rintro ⟨⟨A166, D166⟩, ⟨A167, D167⟩⟩
 refine lN (_ :: _ :: _ :: V) ?_
 refine l_nil (q_draw (sL [1, 0]) (d1 8 R (l_ldo (K := (kT33).share) 2 i160 R (wnT hc170) ag33 sz33 dT33.own R R (hg161 hc170).1 (hg161 hc170).2 ?_)))
 rintro ⟨⟨A164, D164⟩, ⟨A165, D165⟩⟩
 refine lN (RR kT3 A164 D164 ((ix data146 i160).Key) :: RR kT3 A165 D165 ((ix data146 i160).Weights) :: _ :: _ :: _ :: V) ?_
 refine l_nil (q_draw (sL [3, 2, 1, 0]) (d1 13 R (lM (rds _ _ _ :: rds _ _ _ :: rds _ _ _ :: rds _ _ _ :: rds _ _ _ :: rds _ _ _ :: rds _ _ _ :: rds _ _ _ :: ow _ _ _ _ :: V) (fun w s => (((((s.d 0 R).d 2 R).d 4 R).d 6 R).e 9 [3, 2, 1, 0, 4, 5, 6, 7, 8])) ?_)))
 refine l_callvn (fs := []) (cs := []) 4 R (wnT hc170) cb73 R R (Z8_ok (gcall_t hx169 hc170)) R ?_
 rintro _
 refine lN (_ :: _ :: _ :: _ :: _ :: V) ?_
 refine l_nil (q_draw (sL [3, 2, 1, 0]) (dW 14 R (wnT hc170) (vLt R R) (hS := (sL [3, 2, 1, 0])) (dR 15 R (pAT R hc170 R) (hS := (sL [3, 2, 1, 0])) (dD ?_))))
 exact qJ (fun w s => (s.e 5 [4]))
 refine cdr 16 [] mixo (fun ht hn => (dR 0 R (vI R) (dR 1 R (vI R) (dR 2 R (vLe R R) (dR 3 R (vB R) (dF 4 R (wfF hc170) (dF 5 R (wfF hc170) (dF 6 R (wfF hc170) (dF 7 R (wfF hc170) (dF 8 R (wfF hc170) (dF 9 R (wfF hc170) (dF 10 R (wfF hc170) (dF 11 R (wfF hc170) (dF 12 R (wfF hc170) (dF 13 R (wfF hc170) (dF 14 R (wfF hc170) (dR 15 R (pAF (decide (r168 < (0 : Int))) R hc170) (dD ?_))))))))))))))))))
 exact qJ (fun w s => s)
 rintro σ1
 refine q_next ?_
 rcases bif_ hr with ⟨hb171, hr⟩ | ⟨hb171, hr⟩
 refine c_true R hb171 (c_skip (q_next (c_block (c_region (lI R (lO (vAd R R) (lI R (l_nil (q_blockn ?_)))))))))
 obtain rfl := so hr
 exact qA () (fun w s => s)
 refine c_false R hb171 (c_exit (q_exit ?_))
 obtain rfl := so hr
 obtain rfl := he4 _ R
 have hr := hk4
 refine q_exit (q_block ?_)
 exact qI (i160, ()) hr (fun w s => s)
 rintro ⟨i173, _⟩ σ1 hr
 replace hr : Z1_J5 data1 a3 data146 j148 i173 = some out3 := hr
 unfold Z1_J5 at hr
 refine c_seq (c_cut (A := (Int) × (Unit)) (fun a => Z1_J6 data1 data146 i173 a.1 = some out3) (fun a => [(0, (sc A2 data1 D2)), (1, (iv a3)), (4, (.func (.func 73) [].toArray [].toArray)), (12, (iv i173)), (13, (iv a.1))]) (fun a => ow (kT33).share 33 (.slice A2 data1.length D2) data146 :: V) ?_ ?_)
 refine c_block ?_
 obtain ⟨e5, hl5, hk5⟩ := bd hr
 refine c_loop (A := Unit) hl5 (fun s a => [(0, (sc A2 data1 D2)), (1, (iv a3)), (4, (.func (.func 73) [].toArray [].toArray)), (12, (iv i173)), (13, (iv s))]) (fun s a => ow (kT33).share 33 (.slice A2 data1.length D2) data146 :: V) () (aS R) (fun w s => s) ?_
 rintro j185 _ σ1 out5 hr he5
 replace hr : Z1_L5 data1 a3 data146 i173 j185 = some out5 := hr
 unfold Z1_L5 at hr
 refine c_seq (c_seq ?_)
 obtain ⟨hg186, hr⟩ := gd hr
 obtain ⟨r193, hx194, hr⟩ := bd hr
 refine cQ [(0, (sc A2 data1 D2)), (1, (iv a3)), (4, (.func (.func 73) [].toArray [].toArray)), (12, (iv i173)), (13, (iv j185)), (139, (.bool ((decide (i173 ≤ j185)) && (!(decide (r193 < (0 : Int)))))))] (ow (kT33).share 33 (.slice A2 data1.length D2) data146 :: V) ?_ ?_
 rcases bo (decide (i173 ≤ j185)) with hc195 | hc195
 refine c_some 0 sees_sh (show 0 < data1.length by have := (hg186 hc195); omega) (fun g187 o188 ha => ?_)
 subst ha
 refine cdr 17 [] mixo (fun ht hn => (dR 0 R (vI R) (dR 1 R (vI R) (dR 2 R (vLe R R) (dR 3 R (vB R) (dW 4 R (wnT hc195) (vp (.func (.func 73) [].toArray [].toArray) R) (dW 5 R (wnT hc195) (vS R) (dW 6 R (wnT hc195) (vI R) (dW 7 R (wnT hc195) (vIa sl24 sz33 R R (hg186 hc195)) (dW 9 R (wnT hc195) (vS R) (dW 10 R (wnT hc195) (vI R) (dW 11 R (wnT hc195) (vIa sl24 sz33 R R hg12) (d_all [8, 12] (by kernel_rfl) R ⟨?_, ?_, trivial⟩)))))))))))))
 refine l_ldo (K := (kT33).share) 0 j185 R (wnT hc195) ag33 sz33 dT33.own R R (hg186 hc195).1 (hg186 hc195).2 ?_
 rintro ⟨⟨A189, D189⟩, ⟨A190, D190⟩⟩
 refine lN (RR kT3 A189 D189 ((ix data146 j185).Key) :: RR kT3 A190 D190 ((ix data146 j185).Weights) :: ow (kT33).share 33 (.slice (ad g187 o188) data1.length D2) data146 :: V) ?_
 refine l_nil (q_draw (sL [1, 0]) (d1 12 R (l_ldo (K := (kT33).share) 2 a3 R (wnT hc195) ag33 sz33 dT33.own R R hg12.1 hg12.2 ?_)))
 rintro ⟨⟨A191, D191⟩, ⟨A192, D192⟩⟩
 refine lN (RR kT3 A191 D191 ((ix data146 a3).Key) :: RR kT3 A192 D192 ((ix data146 a3).Weights) :: _ :: _ :: _ :: V) ?_
 refine l_nil (q_draw (sL [3, 2, 1, 0]) (d1 13 R (lM (rds _ _ _ :: rds _ _ _ :: rds _ _ _ :: rds _ _ _ :: rds _ _ _ :: rds _ _ _ :: rds _ _ _ :: rds _ _ _ :: ow _ _ _ _ :: V) (fun w s => (((((s.d 2 R).d 4 R).d 2 R).d 4 R).e 9 [3, 2, 1, 0, 4, 5, 6, 7, 8])) ?_)))
 refine l_callvn (fs := []) (cs := []) 4 R (wnT hc195) cb73 R R (Z8_ok (gcall_t hx194 hc195)) R ?_
 rintro _
 refine lN (_ :: _ :: _ :: _ :: _ :: V) ?_
 refine l_nil (q_draw (sL [3, 2, 1, 0]) (dW 14 R (wnT hc195) (vLt R R) (hS := (sL [3, 2, 1, 0])) (dW 15 R (wnT hc195) (vNo R) (hS := (sL [3, 2, 1, 0])) (dR 16 R (pAT R hc195 R) (hS := (sL [3, 2, 1, 0])) (dD ?_)))))
 exact qJ (fun w s => (s.e 5 [4]))
 refine l_ldo (K := (kT33).share) 0 a3 R (wnT hc195) ag33 sz33 dT33.own R R hg12.1 hg12.2 ?_
 rintro ⟨⟨A191, D191⟩, ⟨A192, D192⟩⟩
 refine lN (_ :: _ :: _ :: V) ?_
 refine l_nil (q_draw (sL [1, 0]) (d1 8 R (l_ldo (K := (kT33).share) 2 j185 R (wnT hc195) ag33 sz33 dT33.own R R (hg186 hc195).1 (hg186 hc195).2 ?_)))
 rintro ⟨⟨A189, D189⟩, ⟨A190, D190⟩⟩
 refine lN (RR kT3 A189 D189 ((ix data146 j185).Key) :: RR kT3 A190 D190 ((ix data146 j185).Weights) :: _ :: _ :: _ :: V) ?_
 refine l_nil (q_draw (sL [3, 2, 1, 0]) (d1 13 R (lM (rds _ _ _ :: rds _ _ _ :: rds _ _ _ :: rds _ _ _ :: rds _ _ _ :: rds _ _ _ :: rds _ _ _ :: rds _ _ _ :: ow _ _ _ _ :: V) (fun w s => (((((s.d 0 R).d 2 R).d 4 R).d 6 R).e 9 [3, 2, 1, 0, 4, 5, 6, 7, 8])) ?_)))
 refine l_callvn (fs := []) (cs := []) 4 R (wnT hc195) cb73 R R (Z8_ok (gcall_t hx194 hc195)) R ?_
 rintro _
 refine lN (_ :: _ :: _ :: _ :: _ :: V) ?_
 refine l_nil (q_draw (sL [3, 2, 1, 0]) (dW 14 R (wnT hc195) (vLt R R) (hS := (sL [3, 2, 1, 0])) (dW 15 R (wnT hc195) (vNo R) (hS := (sL [3, 2, 1, 0])) (dR 16 R (pAT R hc195 R) (hS := (sL [3, 2, 1, 0])) (dD ?_)))))
 exact qJ (fun w s => (s.e 5 [4]))
 refine cdr 17 [] mixo (fun ht hn => (dR 0 R (vI R) (dR 1 R (vI R) (dR 2 R (vLe R R) (dR 3 R (vB R) (dF 4 R (wfF hc195) (dF 5 R (wfF hc195) (dF 6 R (wfF hc195) (dF 7 R (wfF hc195) (dF 8 R (wfF hc195) (dF 9 R (wfF hc195) (dF 10 R (wfF hc195) (dF 11 R (wfF hc195) (dF 12 R (wfF hc195) (dF 13 R (wfF hc195) (dF 14 R (wfF hc195) (dF 15 R (wfF hc195) (dR 16 R (pAF (!(decide (r193 < (0 : Int)))) R hc195) (dD ?_)))))))))))))))))))
 exact qJ (fun w s => s)
 rintro σ1
 refine q_next ?_
 rcases bif_ hr with ⟨hb196, hr⟩ | ⟨hb196, hr⟩
 refine c_true R hb196 (c_skip (q_next (c_block (c_region (lI R (lO (vSb R R) (lI R (l_nil (q_blockn ?_)))))))))
 obtain rfl := so hr
 exact qA () (fun w s => s)
 refine c_false R hb196 (c_exit (q_exit ?_))
 obtain rfl := so hr
 obtain rfl := he5 _ R
 have hr := hk5
 refine q_exit (q_block ?_)
 exact qI (j185, ()) hr (fun w s => s)
 rintro ⟨j198, _⟩ σ1 hr
 replace hr : Z1_J6 data1 data146 i173 j198 = some out3 := hr
 unfold Z1_J6 at hr
 refine c_seq (c_seq (c_region (lI R (lI R (lO (vGt R R) (l_nil (q_next ?_)))))))
 rcases bif_ hr with ⟨hb199, hr⟩ | ⟨hb199, hr⟩
 refine c_true R hb199 (c_exit (q_exit (q_pass R ?_)))
 obtain rfl := so hr
 obtain rfl := he3 _ R
 have hr := hk3
 refine q_exit (q_block ?_)
 exact qI ((data146, j198), ()) hr (fun w s => s)
 refine c_false R hb199 (c_skip (q_next (c_seq ?_)))
 obtain ⟨hg200, hr⟩ := gd hr
 obtain ⟨hg205, hr⟩ := gd hr
 refine cQ [(0, (sc A2 data1 D2)), (1, (iv a3)), (4, (.func (.func 73) [].toArray [].toArray)), (12, (iv i173)), (13, (iv j198))] (ow (kT33).share 33 (.slice A2 data1.length D2) ((data146.set i173.toNat (ix data146 j198)).set j198.toNat (ix data146 i173)) :: V) ?_ ?_
 refine c_some 0 sees_sh (show 0 < data1.length by have := hg200; omega) (fun g201 o202 ha => ?_)
 subst ha
 refine cdr 16 [0] mixo (fun ht hn => (dR 0 R (vS R) (hS := (sL [0])) (dR 1 R (vI R) (hS := (sL [0])) (dR 2 R (vS R) (hS := (sL [0])) (dR 3 R (vI R) (hS := (sL [0])) (dR 4 R (vS R) (hS := (sL [0])) (dR 5 R (vI R) (hS := (sL [0])) (dR 6 R (vIa sl24 sz33 R R hg200) (hS := (sL [0])) (dR 8 R (vS R) (hS := (sL [0])) (dR 9 R (vI R) (hS := (sL [0])) (dR 10 R (vIa sl24 sz33 R R hg205) (hS := (sL [0])) (d_all [7, 11] (by kernel_rfl) R ⟨?_, ?_, trivial⟩))))))))))))
 refine l_ldo (K := (kT33).share) 0 j198 R R ag33 sz33 dT33.own R R hg200.1 hg200.2 ?_
 rintro ⟨⟨A203, D203⟩, ⟨A204, D204⟩⟩
 refine lN (RR kT3 A203 D203 ((ix data146 j198).Key) :: RR kT3 A204 D204 ((ix data146 j198).Weights) :: ow (kT33).share 33 (.slice (ad g201 o202) data1.length D2) data146 :: V) ?_
 refine l_nil (q_draw (sL [2, 1, 0]) (d1 11 R (l_ldo (K := (kT33).share) 2 i173 R R ag33 sz33 dT33.own R R hg205.1 hg205.2 ?_)))
 rintro ⟨⟨A206, D206⟩, ⟨A207, D207⟩⟩
 refine lN (RR kT3 A206 D206 ((ix data146 i173).Key) :: RR kT3 A207 D207 ((ix data146 i173).Weights) :: _ :: _ :: _ :: V) ?_
 refine l_nil (q_draw (sL [4, 3, 2, 1, 0]) (dR 12 R (vIa sl24 sz33 R R hg205) (hS := (sL [4, 3, 2, 1, 0])) (d1 13 R (lM (ow _ _ _ _ :: rds _ _ _ :: rds _ _ _ :: rds _ _ _ :: rds _ _ _ :: rds _ _ _ :: rds _ _ _ :: V) (fun w s => (((s.d 2 R).d 4 R).e 7 [6, 1, 0, 2, 3, 4, 5])) ?_))))
 refine l_stx (K := (kT33).share) (x' := (ix data146 j198)) 2 i173 R R sz33 R R hg205.1 hg205.2 ?_ ?_
 exact fun I h s => (mS33).put I h ((sc A203 ((ix data146 j198).Key) D203), (sc A204 ((ix data146 j198).Weights) D204)) (ix data146 j198) s
 refine lN (ow (kT33).share 33 (.slice (ad g201 o202) data1.length D2) (data146.set i173.toNat (ix data146 j198)) :: _ :: _ :: _ :: _ :: V) ?_
 refine l_nil (q_draw (sL [4, 3, 2, 1, 0]) (dR 14 R (vIa sl24 sz33 R R hg200) (hS := (sL [4, 3, 2, 1, 0])) (d1 15 R (lM (ow _ _ _ _ :: rds _ _ _ :: rds _ _ _ :: rds _ _ _ :: rds _ _ _ :: rds _ _ _ :: rds _ _ _ :: V) (fun w s => (((s.d 1 R).d 3 R).e 7 [2, 1, 0, 3, 4, 5, 6])) ?_))))
 refine l_stx (K := (kT33).share) (x' := (ix data146 i173)) 2 j198 R R sz33 R R hg200.1 hg200.2 ?_ ?_
 exact fun I h s => (mS33).put I h ((sc A206 ((ix data146 i173).Key) D206), (sc A207 ((ix data146 i173).Weights) D207)) (ix data146 i173) s
 refine lN (ow (kT33).share 33 (.slice (ad g201 o202) data1.length D2) ((data146.set i173.toNat (ix data146 j198)).set j198.toNat (ix data146 i173)) :: _ :: _ :: _ :: _ :: V) ?_
 refine l_nil (q_draw (sL [4, 3, 2, 1, 0]) (dD ?_))
 exact qJ (fun w s => (s.e 5 [0]))
 refine l_ldo (K := (kT33).share) 0 i173 R R ag33 sz33 dT33.own R R hg205.1 hg205.2 ?_
 rintro ⟨⟨A206, D206⟩, ⟨A207, D207⟩⟩
 refine lN (_ :: _ :: ow (kT33).share 33 (.slice (ad g201 o202) data1.length D2) data146 :: V) ?_
 refine l_nil (q_draw (sL [2, 1, 0]) (d1 7 R (l_ldo (K := (kT33).share) 2 j198 R R ag33 sz33 dT33.own R R hg200.1 hg200.2 ?_)))
 rintro ⟨⟨A203, D203⟩, ⟨A204, D204⟩⟩
 refine lN (RR kT3 A203 D203 ((ix data146 j198).Key) :: RR kT3 A204 D204 ((ix data146 j198).Weights) :: _ :: _ :: _ :: V) ?_
 refine l_nil (q_draw (sL [4, 3, 2, 1, 0]) (dR 12 R (vIa sl24 sz33 R R hg205) (hS := (sL [4, 3, 2, 1, 0])) (d1 13 R (lM (ow _ _ _ _ :: rds _ _ _ :: rds _ _ _ :: rds _ _ _ :: rds _ _ _ :: rds _ _ _ :: rds _ _ _ :: V) (fun w s => (((s.d 0 R).d 2 R).e 7 [6, 1, 0, 2, 3, 4, 5])) ?_))))
 refine l_stx (K := (kT33).share) (x' := (ix data146 j198)) 2 i173 R R sz33 R R hg205.1 hg205.2 ?_ ?_
 exact fun I h s => (mS33).put I h ((sc A203 ((ix data146 j198).Key) D203), (sc A204 ((ix data146 j198).Weights) D204)) (ix data146 j198) s
 refine lN (ow (kT33).share 33 (.slice (ad g201 o202) data1.length D2) (data146.set i173.toNat (ix data146 j198)) :: _ :: _ :: _ :: _ :: V) ?_
 refine l_nil (q_draw (sL [4, 3, 2, 1, 0]) (dR 14 R (vIa sl24 sz33 R R hg200) (hS := (sL [4, 3, 2, 1, 0])) (d1 15 R (lM (ow _ _ _ _ :: rds _ _ _ :: rds _ _ _ :: rds _ _ _ :: rds _ _ _ :: rds _ _ _ :: rds _ _ _ :: V) (fun w s => (((s.d 3 R).d 5 R).e 7 [2, 1, 0, 3, 4, 5, 6])) ?_))))
 refine l_stx (K := (kT33).share) (x' := (ix data146 i173)) 2 j198 R R sz33 R R hg200.1 hg200.2 ?_ ?_
 exact fun I h s => (mS33).put I h ((sc A206 ((ix data146 i173).Key) D206), (sc A207 ((ix data146 i173).Weights) D207)) (ix data146 i173) s
 refine lN (ow (kT33).share 33 (.slice (ad g201 o202) data1.length D2) ((data146.set i173.toNat (ix data146 j198)).set j198.toNat (ix data146 i173)) :: _ :: _ :: _ :: _ :: V) ?_
 refine l_nil (q_draw (sL [4, 3, 2, 1, 0]) (dD ?_))
 exact qJ (fun w s => (s.e 5 [0]))
 rintro σ1
 obtain ⟨l208, hl209, hr⟩ := bd hr
 replace hl209 := Option.some.inj hl209
 refine qM (ow (kT33).share 33 (.slice A2 data1.length D2) l208 :: V) (fun w s => by rw [← hl209]; exact s) ?_
 refine q_next (c_seq (c_region (lI R (lO (vAd R R) (lI R (l_nil (q_next (c_region (lI R (lO (vSb R R) (lI R (l_nil (q_blockn ?_)))))))))))))
 obtain rfl := so hr
 exact qA () (fun w s => s)
 rintro ⟨⟨data213, j214⟩, _⟩ σ1 hr
 replace hr : Z1_J7 data1 a3 data213 j214 = some r := hr
 unfold Z1_J7 at hr
 refine c_seq ?_
 obtain ⟨hg219, hr⟩ := gd hr
 refine cQ [(13, (iv j214))] (ow (kT33).share 33 (.slice A2 data1.length D2) ((data213.set j214.toNat (ix data213 a3)).set a3.toNat (ix data213 j214)) :: V) ?_ ?_
 refine c_some 0 sees_sh (show 0 < data1.length by have := hg12; omega) (fun g215 o216 ha => ?_)
 subst ha
 refine cdr 16 [0] mixo (fun ht hn => (dR 0 R (vS R) (hS := (sL [0])) (dR 1 R (vI R) (hS := (sL [0])) (dR 2 R (vS R) (hS := (sL [0])) (dR 3 R (vI R) (hS := (sL [0])) (dR 4 R (vS R) (hS := (sL [0])) (dR 5 R (vI R) (hS := (sL [0])) (dR 6 R (vIa sl24 sz33 R R hg12) (hS := (sL [0])) (dR 8 R (vS R) (hS := (sL [0])) (dR 9 R (vI R) (hS := (sL [0])) (dR 10 R (vIa sl24 sz33 R R hg219) (hS := (sL [0])) (d_all [7, 11] (by kernel_rfl) R ⟨?_, ?_, trivial⟩))))))))))))
 refine l_ldo (K := (kT33).share) 0 a3 R R ag33 sz33 dT33.own R R hg12.1 hg12.2 ?_
 rintro ⟨⟨A217, D217⟩, ⟨A218, D218⟩⟩
 refine lN (RR kT3 A217 D217 ((ix data213 a3).Key) :: RR kT3 A218 D218 ((ix data213 a3).Weights) :: ow (kT33).share 33 (.slice (ad g215 o216) data1.length D2) data213 :: V) ?_
 refine l_nil (q_draw (sL [2, 1, 0]) (d1 11 R (l_ldo (K := (kT33).share) 2 j214 R R ag33 sz33 dT33.own R R hg219.1 hg219.2 ?_)))
 rintro ⟨⟨A220, D220⟩, ⟨A221, D221⟩⟩
 refine lN (RR kT3 A220 D220 ((ix data213 j214).Key) :: RR kT3 A221 D221 ((ix data213 j214).Weights) :: _ :: _ :: _ :: V) ?_
 refine l_nil (q_draw (sL [4, 3, 2, 1, 0]) (dR 12 R (vIa sl24 sz33 R R hg219) (hS := (sL [4, 3, 2, 1, 0])) (d1 13 R (lM (ow _ _ _ _ :: rds _ _ _ :: rds _ _ _ :: rds _ _ _ :: rds _ _ _ :: rds _ _ _ :: rds _ _ _ :: V) (fun w s => (((s.d 2 R).d 4 R).e 7 [6, 1, 0, 2, 3, 4, 5])) ?_))))
 refine l_stx (K := (kT33).share) (x' := (ix data213 a3)) 2 j214 R R sz33 R R hg219.1 hg219.2 ?_ ?_
 exact fun I h s => (mS33).put I h ((sc A217 ((ix data213 a3).Key) D217), (sc A218 ((ix data213 a3).Weights) D218)) (ix data213 a3) s
 refine lN (ow (kT33).share 33 (.slice (ad g215 o216) data1.length D2) (data213.set j214.toNat (ix data213 a3)) :: _ :: _ :: _ :: _ :: V) ?_
 refine l_nil (q_draw (sL [4, 3, 2, 1, 0]) (dR 14 R (vIa sl24 sz33 R R hg12) (hS := (sL [4, 3, 2, 1, 0])) (d1 15 R (lM (ow _ _ _ _ :: rds _ _ _ :: rds _ _ _ :: rds _ _ _ :: rds _ _ _ :: rds _ _ _ :: rds _ _ _ :: V) (fun w s => (((s.d 1 R).d 3 R).e 7 [2, 1, 0, 3, 4, 5, 6])) ?_))))
 refine l_stx (K := (kT33).share) (x' := (ix data213 j214)) 2 a3 R R sz33 R R hg12.1 hg12.2 ?_ ?_
 exact fun I h s => (mS33).put I h ((sc A220 ((ix data213 j214).Key) D220), (sc A221 ((ix data213 j214).Weights) D221)) (ix data213 j214) s
 refine lN (ow (kT33).share 33 (.slice (ad g215 o216) data1.length D2) ((data213.set j214.toNat (ix data213 a3)).set a3.toNat (ix data213 j214)) :: _ :: _ :: _ :: _ :: V) ?_
 refine l_nil (q_draw (sL [4, 3, 2, 1, 0]) (dD ?_))
 exact qJ (fun w s => (s.e 5 [0]))
 refine l_ldo (K := (kT33).share) 0 j214 R R ag33 sz33 dT33.own R R hg219.1 hg219.2 ?_
 rintro ⟨⟨A220, D220⟩, ⟨A221, D221⟩⟩
 refine lN (_ :: _ :: ow (kT33).share 33 (.slice (ad g215 o216) data1.length D2) data213 :: V) ?_
 refine l_nil (q_draw (sL [2, 1, 0]) (d1 7 R (l_ldo (K := (kT33).share) 2 a3 R R ag33 sz33 dT33.own R R hg12.1 hg12.2 ?_)))
 rintro ⟨⟨A217, D217⟩, ⟨A218, D218⟩⟩
 refine lN (RR kT3 A217 D217 ((ix data213 a3).Key) :: RR kT3 A218 D218 ((ix data213 a3).Weights) :: _ :: _ :: _ :: V) ?_
 refine l_nil (q_draw (sL [4, 3, 2, 1, 0]) (dR 12 R (vIa sl24 sz33 R R hg219) (hS := (sL [4, 3, 2, 1, 0])) (d1 13 R (lM (ow _ _ _ _ :: rds _ _ _ :: rds _ _ _ :: rds _ _ _ :: rds _ _ _ :: rds _ _ _ :: rds _ _ _ :: V) (fun w s => (((s.d 0 R).d 2 R).e 7 [6, 1, 0, 2, 3, 4, 5])) ?_))))
 refine l_stx (K := (kT33).share) (x' := (ix data213 a3)) 2 j214 R R sz33 R R hg219.1 hg219.2 ?_ ?_
 exact fun I h s => (mS33).put I h ((sc A217 ((ix data213 a3).Key) D217), (sc A218 ((ix data213 a3).Weights) D218)) (ix data213 a3) s
 refine lN (ow (kT33).share 33 (.slice (ad g215 o216) data1.length D2) (data213.set j214.toNat (ix data213 a3)) :: _ :: _ :: _ :: _ :: V) ?_
 refine l_nil (q_draw (sL [4, 3, 2, 1, 0]) (dR 14 R (vIa sl24 sz33 R R hg12) (hS := (sL [4, 3, 2, 1, 0])) (d1 15 R (lM (ow _ _ _ _ :: rds _ _ _ :: rds _ _ _ :: rds _ _ _ :: rds _ _ _ :: rds _ _ _ :: rds _ _ _ :: V) (fun w s => (((s.d 3 R).d 5 R).e 7 [2, 1, 0, 3, 4, 5, 6])) ?_))))
 refine l_stx (K := (kT33).share) (x' := (ix data213 j214)) 2 a3 R R sz33 R R hg12.1 hg12.2 ?_ ?_
 exact fun I h s => (mS33).put I h ((sc A220 ((ix data213 j214).Key) D220), (sc A221 ((ix data213 j214).Weights) D221)) (ix data213 j214) s
 refine lN (ow (kT33).share 33 (.slice (ad g215 o216) data1.length D2) ((data213.set j214.toNat (ix data213 a3)).set a3.toNat (ix data213 j214)) :: _ :: _ :: _ :: _ :: V) ?_
 refine l_nil (q_draw (sL [4, 3, 2, 1, 0]) (dD ?_))
 exact qJ (fun w s => (s.e 5 [0]))
 rintro σ1
 obtain ⟨l222, hl223, hr⟩ := bd hr
 replace hl223 := Option.some.inj hl223
 refine qM (ow (kT33).share 33 (.slice A2 data1.length D2) l222 :: V) (fun w s => by rw [← hl223]; exact s) ?_
 refine q_next (c_seq (c_region (lI R (lI R (lB R (l_nil (q_next (c_ret ?_))))))))
 obtain rfl := so hr
 exact q_fin (vs := [(iv j214), (.bool false)]) (.inl R) () R ⟨R, R, trivial⟩ R (fun w s => s)
theorem Z1g_ok  {length1 : Int} {r : Int} (hr : Z1g length1 = some r) :
 FnOk Try.prog 103 [(iv length1)] [] (fun (h : Unit) => ((.int .u64 r), [])) := by
 unfold Z1g at hr
 refine fn_ok Try.func103 R 7 R R fun C V => ?_
 refine cN V ?_
 refine c_seq (c_region (lI R (l_nil (q_next (c_seq ?_)))))
 obtain ⟨r2, hx3, hr⟩ := bd hr
 obtain ⟨hg4, hr⟩ := gd hr
 refine c_region (lI R (lO (vz (.int .u64 (IntKind.wrap .u64 (length1))) (v_conv un3 un92 R)) (lC 0 cb87 R (Z15_ok hx3) R ?_)))
 rintro _
 refine lO (vz (.int .u64 (IntKind.wrap .u64 ((1 : Int) * 2 ^ r2.toNat))) (v_shl R R hg4.1 hg4.2)) (lI R (l_nil (q_next (c_ret ?_))))
 obtain rfl := so hr
 exact qF () (fun w s => s)
theorem Z1d_ok  {r1 : Int} {b2 : Nat} {r : Int × Int} (hr : Z1d r1 = some r) :
 FnOk Try.prog 104 [(pt b2 0)] [bxl b2 [(.int .u64 r1)] 120] (fun (h : Unit) => ((.int .u64 r.1), [bxl b2 [(.int .u64 r.2)] 120])) := by
 unfold Z1d at hr
 refine fn_ok Try.func104 R 33 R R fun C V => ?_
 refine cN (_ :: V) ?_
 refine c_seq (c_region (lI R (l_nil (q_next (c_seq (cQ [(0, (pt b2 0))] (bxl b2 [(.int .u64 (bits .xor .u64 r1 (IntKind.wrap .u64 (r1 * 2 ^ (13 : Int).toNat))))] 120 :: V) ?_ ?_))))))
 refine cdr 10 [0] mixo (fun ht hn => (dR 0 R (vP R) (hS := (sL [0])) (dR 1 R (vP R) (hS := (sL [0])) (dR 3 R (vP R) (hS := (sL [0])) (dR 4 R (vP R) (hS := (sL [0])) (d_all [2, 5] (by kernel_rfl) R ⟨?_, ?_, trivial⟩))))))
 refine lO (vLd 0 ag120 R R R) (l_nil (q_draw (sL [0]) (d1 5 R (lO (vLd 0 ag120 R R R) (l_nil (q_draw (sL [0]) (dR 6 R (vz (.int .u64 (IntKind.wrap .u64 (r1 * 2 ^ (13 : Int).toNat))) (v_shl R R (by decide) (by decide))) (hS := (sL [0])) (dR 7 R (vp (.int .u64 (bits .xor .u64 r1 (IntKind.wrap .u64 (r1 * 2 ^ (13 : Int).toNat)))) R) (hS := (sL [0])) (dR 8 R (vP R) (hS := (sL [0])) (d1 9 R (l_store 0 R R sz120 R R R R R (lN (bxl b2 [(.int .u64 (bits .xor .u64 r1 (IntKind.wrap .u64 (r1 * 2 ^ (13 : Int).toNat))))] 120 :: V) ?_))))))))))))
 refine l_nil (q_draw (sL [0]) (dD ?_))
 exact qJ (fun w s => s)
 refine lO (vLd 0 ag120 R R R) (l_nil (q_draw (sL [0]) (dR 6 R (vz (.int .u64 (IntKind.wrap .u64 (r1 * 2 ^ (13 : Int).toNat))) (v_shl R R (by decide) (by decide))) (hS := (sL [0])) (d1 2 R (lO (vLd 0 ag120 R R R) (l_nil (q_draw (sL [0]) (dR 7 R (vp (.int .u64 (bits .xor .u64 r1 (IntKind.wrap .u64 (r1 * 2 ^ (13 : Int).toNat)))) R) (hS := (sL [0])) (dR 8 R (vP R) (hS := (sL [0])) (d1 9 R (l_store 0 R R sz120 R R R R R (l_nil (q_draw (sL [0]) (dD ?_))))))))))))))
 exact qJ (fun w s => s)
 rintro σ1
 refine q_next (c_seq (cQ [(0, (pt b2 0))] (bxl b2 [(.int .u64 (bits .xor .u64 (bits .xor .u64 r1 (IntKind.wrap .u64 (r1 * 2 ^ (13 : Int).toNat))) ((bits .xor .u64 r1 (IntKind.wrap .u64 (r1 * 2 ^ (13 : Int).toNat))) / 2 ^ (7 : Int).toNat)))] 120 :: V) ?_ ?_))
 refine cdr 10 [0] mixo (fun ht hn => (dR 0 R (vP R) (hS := (sL [0])) (dR 1 R (vP R) (hS := (sL [0])) (dR 3 R (vP R) (hS := (sL [0])) (dR 4 R (vP R) (hS := (sL [0])) (d_all [2, 5] (by kernel_rfl) R ⟨?_, ?_, trivial⟩))))))
 refine lO (vLd 0 ag120 R R R) (l_nil (q_draw (sL [0]) (d1 5 R (lO (vLd 0 ag120 R R R) (l_nil (q_draw (sL [0]) (dR 6 R (vz (.int .u64 ((bits .xor .u64 r1 (IntKind.wrap .u64 (r1 * 2 ^ (13 : Int).toNat))) / 2 ^ (7 : Int).toNat)) (v_shr R R (by decide) (by decide))) (hS := (sL [0])) (dR 7 R (vp (.int .u64 (bits .xor .u64 (bits .xor .u64 r1 (IntKind.wrap .u64 (r1 * 2 ^ (13 : Int).toNat))) ((bits .xor .u64 r1 (IntKind.wrap .u64 (r1 * 2 ^ (13 : Int).toNat))) / 2 ^ (7 : Int).toNat))) R) (hS := (sL [0])) (dR 8 R (vP R) (hS := (sL [0])) (d1 9 R (l_store 0 R R sz120 R R R R R (lN (bxl b2 [(.int .u64 (bits .xor .u64 (bits .xor .u64 r1 (IntKind.wrap .u64 (r1 * 2 ^ (13 : Int).toNat))) ((bits .xor .u64 r1 (IntKind.wrap .u64 (r1 * 2 ^ (13 : Int).toNat))) / 2 ^ (7 : Int).toNat)))] 120 :: V) ?_))))))))))))
 refine l_nil (q_draw (sL [0]) (dD ?_))
 exact qJ (fun w s => s)
 refine lO (vLd 0 ag120 R R R) (l_nil (q_draw (sL [0]) (dR 6 R (vz (.int .u64 ((bits .xor .u64 r1 (IntKind.wrap .u64 (r1 * 2 ^ (13 : Int).toNat))) / 2 ^ (7 : Int).toNat)) (v_shr R R (by decide) (by decide))) (hS := (sL [0])) (d1 2 R (lO (vLd 0 ag120 R R R) (l_nil (q_draw (sL [0]) (dR 7 R (vp (.int .u64 (bits .xor .u64 (bits .xor .u64 r1 (IntKind.wrap .u64 (r1 * 2 ^ (13 : Int).toNat))) ((bits .xor .u64 r1 (IntKind.wrap .u64 (r1 * 2 ^ (13 : Int).toNat))) / 2 ^ (7 : Int).toNat))) R) (hS := (sL [0])) (dR 8 R (vP R) (hS := (sL [0])) (d1 9 R (l_store 0 R R sz120 R R R R R (l_nil (q_draw (sL [0]) (dD ?_))))))))))))))
 exact qJ (fun w s => s)
 rintro σ1
 refine q_next (c_seq (cQ [(0, (pt b2 0))] (bxl b2 [(.int .u64 (bits .xor .u64 (bits .xor .u64 (bits .xor .u64 r1 (IntKind.wrap .u64 (r1 * 2 ^ (13 : Int).toNat))) ((bits .xor .u64 r1 (IntKind.wrap .u64 (r1 * 2 ^ (13 : Int).toNat))) / 2 ^ (7 : Int).toNat)) (IntKind.wrap .u64 ((bits .xor .u64 (bits .xor .u64 r1 (IntKind.wrap .u64 (r1 * 2 ^ (13 : Int).toNat))) ((bits .xor .u64 r1 (IntKind.wrap .u64 (r1 * 2 ^ (13 : Int).toNat))) / 2 ^ (7 : Int).toNat)) * 2 ^ (17 : Int).toNat))))] 120 :: V) ?_ ?_))
 refine cdr 10 [0] mixo (fun ht hn => (dR 0 R (vP R) (hS := (sL [0])) (dR 1 R (vP R) (hS := (sL [0])) (dR 3 R (vP R) (hS := (sL [0])) (dR 4 R (vP R) (hS := (sL [0])) (d_all [2, 5] (by kernel_rfl) R ⟨?_, ?_, trivial⟩))))))
 refine lO (vLd 0 ag120 R R R) (l_nil (q_draw (sL [0]) (d1 5 R (lO (vLd 0 ag120 R R R) (l_nil (q_draw (sL [0]) (dR 6 R (vz (.int .u64 (IntKind.wrap .u64 ((bits .xor .u64 (bits .xor .u64 r1 (IntKind.wrap .u64 (r1 * 2 ^ (13 : Int).toNat))) ((bits .xor .u64 r1 (IntKind.wrap .u64 (r1 * 2 ^ (13 : Int).toNat))) / 2 ^ (7 : Int).toNat)) * 2 ^ (17 : Int).toNat))) (v_shl R R (by decide) (by decide))) (hS := (sL [0])) (dR 7 R (vp (.int .u64 (bits .xor .u64 (bits .xor .u64 (bits .xor .u64 r1 (IntKind.wrap .u64 (r1 * 2 ^ (13 : Int).toNat))) ((bits .xor .u64 r1 (IntKind.wrap .u64 (r1 * 2 ^ (13 : Int).toNat))) / 2 ^ (7 : Int).toNat)) (IntKind.wrap .u64 ((bits .xor .u64 (bits .xor .u64 r1 (IntKind.wrap .u64 (r1 * 2 ^ (13 : Int).toNat))) ((bits .xor .u64 r1 (IntKind.wrap .u64 (r1 * 2 ^ (13 : Int).toNat))) / 2 ^ (7 : Int).toNat)) * 2 ^ (17 : Int).toNat)))) R) (hS := (sL [0])) (dR 8 R (vP R) (hS := (sL [0])) (d1 9 R (l_store 0 R R sz120 R R R R R ?_)))))))))))
 refine lN (bxl b2 [(.int .u64 (bits .xor .u64 (bits .xor .u64 (bits .xor .u64 r1 (IntKind.wrap .u64 (r1 * 2 ^ (13 : Int).toNat))) ((bits .xor .u64 r1 (IntKind.wrap .u64 (r1 * 2 ^ (13 : Int).toNat))) / 2 ^ (7 : Int).toNat)) (IntKind.wrap .u64 ((bits .xor .u64 (bits .xor .u64 r1 (IntKind.wrap .u64 (r1 * 2 ^ (13 : Int).toNat))) ((bits .xor .u64 r1 (IntKind.wrap .u64 (r1 * 2 ^ (13 : Int).toNat))) / 2 ^ (7 : Int).toNat)) * 2 ^ (17 : Int).toNat))))] 120 :: V) ?_
 refine l_nil (q_draw (sL [0]) (dD ?_))
 exact qJ (fun w s => s)
 refine lO (vLd 0 ag120 R R R) (l_nil (q_draw (sL [0]) (dR 6 R (vz (.int .u64 (IntKind.wrap .u64 ((bits .xor .u64 (bits .xor .u64 r1 (IntKind.wrap .u64 (r1 * 2 ^ (13 : Int).toNat))) ((bits .xor .u64 r1 (IntKind.wrap .u64 (r1 * 2 ^ (13 : Int).toNat))) / 2 ^ (7 : Int).toNat)) * 2 ^ (17 : Int).toNat))) (v_shl R R (by decide) (by decide))) (hS := (sL [0])) (d1 2 R (lO (vLd 0 ag120 R R R) (l_nil (q_draw (sL [0]) (dR 7 R (vp (.int .u64 (bits .xor .u64 (bits .xor .u64 (bits .xor .u64 r1 (IntKind.wrap .u64 (r1 * 2 ^ (13 : Int).toNat))) ((bits .xor .u64 r1 (IntKind.wrap .u64 (r1 * 2 ^ (13 : Int).toNat))) / 2 ^ (7 : Int).toNat)) (IntKind.wrap .u64 ((bits .xor .u64 (bits .xor .u64 r1 (IntKind.wrap .u64 (r1 * 2 ^ (13 : Int).toNat))) ((bits .xor .u64 r1 (IntKind.wrap .u64 (r1 * 2 ^ (13 : Int).toNat))) / 2 ^ (7 : Int).toNat)) * 2 ^ (17 : Int).toNat)))) R) (hS := (sL [0])) (dR 8 R (vP R) (hS := (sL [0])) (d1 9 R (l_store 0 R R sz120 R R R R R (l_nil (q_draw (sL [0]) (dD ?_))))))))))))))
 exact qJ (fun w s => s)
 rintro σ1
 refine q_next (c_seq (c_region (lP R (lP R (lO (vLd 0 ag120 R R R) (lI R (l_nil (q_next (c_ret ?_)))))))))
 obtain rfl := so hr
 exact qF () (fun w s => s)
end Go.Proofs.Ytkfgngcfcoplpaa
