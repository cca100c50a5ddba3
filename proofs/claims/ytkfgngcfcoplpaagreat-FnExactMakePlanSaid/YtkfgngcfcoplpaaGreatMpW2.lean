import Derived.Test.YtkfgngcfcoplpaaGreatMpW1
set_option linter.unusedVariables false
set_option maxRecDepth 20000
namespace Go.Proofs.YtkfgngcfcoplpaaGreat
open Go Go.Pg
variable {A2 A3 A4 A5 A6 : Option Addr} {D2 D3 D4 D5 D6 N2 N3 N4 N5 N6 : Nat}
theorem Z3_ok  {l1 : Nest} {r : Bool} (hr : Z3 l1 = some r) :
 FnOk Tryz.prog 49 [(.agg [(.slice A2 N2 D2), (.slice A3 N3 D3), (.slice A4 N4 D4), (.slice A5 N5 D5), (.slice A6 N6 D6)].toArray)] [rds kT3 (.slice A2 N2 D2) l1.Sizes, rds kT3 (.slice A3 N3 D3) l1.Ins, rds kT57 (.slice A4 N4 D4) l1.Fixed, rds kT64 (.slice A5 N5 D5) l1.Kernels, rds kT3 (.slice A6 N6 D6) l1.Outs] (fun (h : Unit) => ((.bool r), [])) := by
 unfold Z3 at hr
 refine fn_ok Tryz.func49 R 198 R R fun C V => ?_
 refine cN (_ :: _ :: _ :: _ :: _ :: V) ?_
 refine cL 0 sees_rd ?_
 rintro rfl
 refine cL 1 sees_rd ?_
 rintro rfl
 refine cL 2 sees_rd ?_
 rintro rfl
 refine cL 3 sees_rd ?_
 rintro rfl
 refine cL 4 sees_rd ?_
 rintro rfl
 let W0 : List HP := RR kT3 A2 D2 l1.Sizes :: RR kT3 A3 D3 l1.Ins :: RR kT57 A4 D4 l1.Fixed :: RR kT64 A5 D5 l1.Kernels :: RR kT3 A6 D6 l1.Outs :: V
 refine cN W0 ?_
 refine c_seq (c_region (lBx R (fun b7 => (lB R (l_nil ?_)))))
 let W1 : List HP := bxl b7 [(sc A2 l1.Sizes D2), (sc A3 l1.Ins D3), (sc A4 l1.Fixed D4), (sc A5 l1.Kernels D5), (sc A6 l1.Outs D6)] 36 :: W0
 refine qN W1 ?_
 refine q_next (c_seq (c_seq ?_))
 obtain ⟨r8, hx9, hr⟩ := bd hr
 obtain ⟨r10, hx11, hr⟩ := bd hr
 refine cQ [(1, (pt b7 0)), (49, (.bool ((((((decide ((l1.Sizes.length : Int) > (200 : Int))) || (decide ((l1.Ins.length : Int) > (40 : Int)))) || (decide ((l1.Outs.length : Int) > (40 : Int)))) || (decide ((l1.Kernels.length : Int) > (400 : Int)))) || (!r8)) || (!r10))))] (W1) ?_ ?_
 refine c_region (lO (vFa 0 fo36_0 R) (lO (vLd 0 ag22 R R R) (lO (v_len sl22 R) (lO (vGt R R) (lB R ?_)))))
 rcases bo (decide ((l1.Sizes.length : Int) > (200 : Int))) with hc12 | hc12
 refine lf (wfT hc12) (lf (wfT hc12) (lf (wfT hc12) (lf (wfT hc12) (lO (pOT (decide ((l1.Ins.length : Int) > (40 : Int))) R hc12) (lB R (lf (wfT (oT hc12)) (lf (wfT (oT hc12)) (lf (wfT (oT hc12)) (lf (wfT (oT hc12)) (lO (pOT (decide ((l1.Outs.length : Int) > (40 : Int))) R (oT hc12)) (lB R (lf (wfT (oT (oT hc12))) (lf (wfT (oT (oT hc12))) (lf (wfT (oT (oT hc12))) (lf (wfT (oT (oT hc12))) (lO (pOT (decide ((l1.Kernels.length : Int) > (400 : Int))) R (oT (oT hc12))) (lB R (lf (wfT (oT (oT (oT hc12)))) (lf (wfT (oT (oT (oT hc12)))) (lf (wfT (oT (oT (oT hc12)))) (lf (wfT (oT (oT (oT hc12)))) (lf (wfT (oT (oT (oT hc12)))) (lf (wfT (oT (oT (oT hc12)))) (lf (wfT (oT (oT (oT hc12)))) (lO (pOT (!r8) R (oT (oT (oT hc12)))) (lB R (lf (wfT (oT (oT (oT (oT hc12))))) (lf (wfT (oT (oT (oT (oT hc12))))) (lf (wfT (oT (oT (oT (oT hc12))))) (lf (wfT (oT (oT (oT (oT hc12))))) (lf (wfT (oT (oT (oT (oT hc12))))) (lf (wfT (oT (oT (oT (oT hc12))))) (lf (wfT (oT (oT (oT (oT hc12))))) (lO (pOT (!r10) R (oT (oT (oT (oT hc12))))) (l_nil ?_)))))))))))))))))))))))))))))))))))
 exact qJ (fun w s => s)
 refine lW (wnF hc12) (vFa 1 fo36_1 R) (lW (wnF hc12) (vLd 0 ag22 R R R) (lW (wnF hc12) (v_len sl22 R) (lW (wnF hc12) (vGt R R) (lO (pOF R hc12 R) (lB R ?_)))))
 rcases bo ((decide ((l1.Sizes.length : Int) > (200 : Int))) || (decide ((l1.Ins.length : Int) > (40 : Int)))) with hc13 | hc13
 refine lf (wfT hc13) (lf (wfT hc13) (lf (wfT hc13) (lf (wfT hc13) (lO (pOT (decide ((l1.Outs.length : Int) > (40 : Int))) R hc13) (lB R (lf (wfT (oT hc13)) (lf (wfT (oT hc13)) (lf (wfT (oT hc13)) (lf (wfT (oT hc13)) (lO (pOT (decide ((l1.Kernels.length : Int) > (400 : Int))) R (oT hc13)) (lB R (lf (wfT (oT (oT hc13))) (lf (wfT (oT (oT hc13))) (lf (wfT (oT (oT hc13))) (lf (wfT (oT (oT hc13))) (lf (wfT (oT (oT hc13))) (lf (wfT (oT (oT hc13))) (lf (wfT (oT (oT hc13))) (lO (pOT (!r8) R (oT (oT hc13))) (lB R (lf (wfT (oT (oT (oT hc13)))) (lf (wfT (oT (oT (oT hc13)))) (lf (wfT (oT (oT (oT hc13)))) (lf (wfT (oT (oT (oT hc13)))) (lf (wfT (oT (oT (oT hc13)))) (lf (wfT (oT (oT (oT hc13)))) (lf (wfT (oT (oT (oT hc13)))) (lO (pOT (!r10) R (oT (oT (oT hc13)))) (l_nil ?_)))))))))))))))))))))))))))))
 exact qJ (fun w s => s)
 refine lW (wnF hc13) (vFa 4 fo36_4 R) (lW (wnF hc13) (vLd 0 ag22 R R R) (lW (wnF hc13) (v_len sl22 R) (lW (wnF hc13) (vGt R R) (lO (pOF R hc13 R) (lB R ?_)))))
 rcases bo (((decide ((l1.Sizes.length : Int) > (200 : Int))) || (decide ((l1.Ins.length : Int) > (40 : Int)))) || (decide ((l1.Outs.length : Int) > (40 : Int)))) with hc14 | hc14
 refine lf (wfT hc14) (lf (wfT hc14) (lf (wfT hc14) (lf (wfT hc14) (lO (pOT (decide ((l1.Kernels.length : Int) > (400 : Int))) R hc14) (lB R (lf (wfT (oT hc14)) (lf (wfT (oT hc14)) (lf (wfT (oT hc14)) (lf (wfT (oT hc14)) (lf (wfT (oT hc14)) (lf (wfT (oT hc14)) (lf (wfT (oT hc14)) (lO (pOT (!r8) R (oT hc14)) (lB R (lf (wfT (oT (oT hc14))) (lf (wfT (oT (oT hc14))) (lf (wfT (oT (oT hc14))) (lf (wfT (oT (oT hc14))) (lf (wfT (oT (oT hc14))) (lf (wfT (oT (oT hc14))) (lf (wfT (oT (oT hc14))) (lO (pOT (!r10) R (oT (oT hc14))) (l_nil ?_)))))))))))))))))))))))
 exact qJ (fun w s => s)
 refine lW (wnF hc14) (vFa 3 fo36_3 R) (lW (wnF hc14) (vLd 0 ag34 R R R) (lW (wnF hc14) (v_len sl34 R) (lW (wnF hc14) (vGt R R) (lO (pOF R hc14 R) (lB R ?_)))))
 rcases bo ((((decide ((l1.Sizes.length : Int) > (200 : Int))) || (decide ((l1.Ins.length : Int) > (40 : Int)))) || (decide ((l1.Outs.length : Int) > (40 : Int)))) || (decide ((l1.Kernels.length : Int) > (400 : Int)))) with hc15 | hc15
 refine lf (wfT hc15) (lf (wfT hc15) (lf (wfT hc15) (lf (wfT hc15) (lf (wfT hc15) (lf (wfT hc15) (lf (wfT hc15) (lO (pOT (!r8) R hc15) (lB R (lf (wfT (oT hc15)) (lf (wfT (oT hc15)) (lf (wfT (oT hc15)) (lf (wfT (oT hc15)) (lf (wfT (oT hc15)) (lf (wfT (oT hc15)) (lf (wfT (oT hc15)) (lO (pOT (!r10) R (oT hc15)) (l_nil ?_)))))))))))))))))
 exact qJ (fun w s => s)
 refine lW (wnF hc15) (vFa 1 fo36_1 R) (lW (wnF hc15) (vLd 0 ag22 R R R) (lW (wnF hc15) (vFa 0 fo36_0 R) (lW (wnF hc15) (vLd 0 ag22 R R R) (lW (wnF hc15) (v_len sl22 R) (lM (RR kT3 A3 D3 l1.Ins :: W1) (fun w s => (s.d 2 R)) ?_)))))
 refine l_calln 1 R (wnF hc15) cb86 R (Z05_ok (gcall_t hx9 (not_ff hc15))) R ?_
 rintro _
 refine lN W1 ?_
 refine lW (wnF hc15) (vNo R) (lO (pOF R hc15 R) (lB R ?_))
 rcases bo (((((decide ((l1.Sizes.length : Int) > (200 : Int))) || (decide ((l1.Ins.length : Int) > (40 : Int)))) || (decide ((l1.Outs.length : Int) > (40 : Int)))) || (decide ((l1.Kernels.length : Int) > (400 : Int)))) || (!r8)) with hc16 | hc16
 refine lf (wfT hc16) (lf (wfT hc16) (lf (wfT hc16) (lf (wfT hc16) (lf (wfT hc16) (lf (wfT hc16) (lf (wfT hc16) (lO (pOT (!r10) R hc16) (l_nil ?_))))))))
 exact qJ (fun w s => s)
 refine lW (wnF hc16) (vFa 4 fo36_4 R) (lW (wnF hc16) (vLd 0 ag22 R R R) (lW (wnF hc16) (vFa 0 fo36_0 R) (lW (wnF hc16) (vLd 0 ag22 R R R) (lW (wnF hc16) (v_len sl22 R) (lM (RR kT3 A6 D6 l1.Outs :: W1) (fun w s => (s.d 5 R)) ?_)))))
 refine l_calln 1 R (wnF hc16) cb86 R (Z05_ok (gcall_t hx11 (not_ff hc16))) R ?_
 rintro _
 refine lN W1 ?_
 refine lW (wnF hc16) (vNo R) (lO (pOF R hc16 R) (l_nil ?_))
 exact qJ (fun w s => s)
 rintro σ1
 refine q_next ?_
 rcases bif_ hr with ⟨hb17, hr⟩ | ⟨hb17, hr⟩
 refine c_true R hb17 (c_seq (c_region (lB R (l_nil (q_next (c_ret (q_ret ?_)))))))
 obtain rfl := so hr
 exact qF () (fun w s => (s.e 6 []))
 refine c_false R hb17 (c_skip (q_next (c_seq (c_cut (A := (Unit) × (Unit)) (fun a => Z3_J1 l1 = some r) (fun a => [(1, (pt b7 0))]) (fun a => W1) ?_ ?_))))
 refine c_seq (c_region (lI R (l_nil (q_next (c_block ?_)))))
 obtain ⟨e1, hl1, hk1⟩ := bd hr
 refine c_loop (A := Unit) hl1 (fun s a => [(1, (pt b7 0)), (3, (iv s))]) (fun s a => W1) () (aS R) (fun w s => s) ?_
 rintro i24 _ σ1 out1 hr he1
 replace hr : Z3_L1 l1 i24 = some out1 := hr
 unfold Z3_L1 at hr
 refine c_seq (c_seq (c_region (lI R (lO (vFa 0 fo36_0 R) (lO (vLd 0 ag22 R R R) (lO (v_len sl22 R) (lO (vLt R R) (l_nil (q_next ?_)))))))))
 rcases bif_ hr with ⟨hb25, hr⟩ | ⟨hb25, hr⟩
 refine c_true R hb25 (c_skip (q_next (c_seq (c_block (c_seq ?_)))))
 obtain ⟨hg26, hr⟩ := gd hr
 refine cQ [(1, (pt b7 0)), (3, (iv i24)), (70, (.bool ((decide ((ix l1.Sizes i24) < (0 : Int))) || (decide ((ix l1.Sizes i24) > (4096 : Int))))))] (W1) ?_ ?_
 refine c_region (lO (vFa 0 fo36_0 R) (lO (vLd 0 ag22 R R R) (lI R (t_some 1 sees_rd (show 0 < l1.Sizes.length by have := hg26; omega) (fun g27 o28 ha => ?_)))))
 subst ha
 refine lO (vIa sl22 sz3 R R hg26) (lO (vLi 1 ag3 sees_rd R hg26) (lO (vLt R R) (lB R ?_)))
 rcases bo (decide ((ix l1.Sizes i24) < (0 : Int))) with hc29 | hc29
 refine lf (wfT hc29) (lf (wfT hc29) (lf (wfT hc29) (lf (wfT hc29) (lf (wfT hc29) (lf (wfT hc29) (lO (pOT (decide ((ix l1.Sizes i24) > (4096 : Int))) R hc29) (l_nil ?_)))))))
 exact qJ (fun w s => s)
 refine lW (wnF hc29) (vFa 0 fo36_0 R) (lW (wnF hc29) (vLd 0 ag22 R R R) (lW (wnF hc29) (vI R) (lW (wnF hc29) (vIa sl22 sz3 R R hg26) (lW (wnF hc29) (vLi 1 ag3 sees_rd R hg26) (lW (wnF hc29) (vGt R R) (lO (pOF R hc29 R) (l_nil ?_)))))))
 exact qJ (fun w s => s)
 rintro σ1
 refine q_next ?_
 rcases bif_ hr with ⟨hb30, hr⟩ | ⟨hb30, hr⟩
 refine c_true R hb30 (c_seq (c_region (lB R (l_nil (q_next (c_ret (q_blockr (q_ret ?_))))))))
 obtain rfl := so hr
 obtain rfl := he1 _ R
 have hr := hk1
 refine q_ret (q_blockr (q_ret ?_))
 obtain rfl := so hr
 exact qF () (fun w s => (s.e 6 []))
 refine c_false R hb30 (c_skip (q_blockn (q_next (c_region (lI R (lO (vAd R R) (lI R (l_nil ?_))))))))
 obtain rfl := so hr
 exact qA () (fun w s => s)
 refine c_false R hb25 (c_exit (q_exit ?_))
 obtain rfl := so hr
 obtain rfl := he1 _ R
 have hr := hk1
 refine q_exit (q_block ?_)
 exact qI ((), ()) hr (fun w s => s)
 rintro ⟨_, _⟩ σ1 hr
 replace hr : Z3_J1 l1 = some r := hr
 unfold Z3_J1 at hr
 refine c_seq (c_region (l_build (K := kT3) (xs := ([] : List Int)) (vs := []) 0 R R sl22 sz3 zc3 R R R R R R ?_ R (fun A32 D32 => ?_)))
 exact fun I h s => (mO3).list [] I h s
 refine lN (OO kT3 3 A32 D32 ([] : List Int) :: W1) ?_
 refine lS R (l_nil (q_next (c_seq (c_cut (A := ((List Int)) × (HH)) (fun a => Z3_J2 l1 a.1 = some r) (fun a => [(1, (pt b7 0)), (4, (.slice a.2.1 a.2.2.1 a.2.2.2))]) (fun a => ow kT3 3 (.slice a.2.1 a.2.2.1 a.2.2.2) a.1 :: W1) ?_ ?_))))
 refine c_seq (c_region (lI R (l_nil (q_next (c_block ?_)))))
 obtain ⟨e2, hl2, hk2⟩ := bd hr
 refine c_loop (A := HH) hl2 (fun s a => [(1, (pt b7 0)), (4, (.slice a.1 a.2.1 a.2.2)), (5, (iv s.2))]) (fun s a => ow kT3 3 (.slice a.1 a.2.1 a.2.2) s.1 :: W1) (A32, ([] : List Int).length, D32) (aS R) (fun w s => s) ?_
 rintro ⟨given43, i45⟩ ⟨A44, N44, D44⟩ σ1 out2 hr he2
 replace hr : Z3_L2 l1 given43 i45 = some out2 := hr
 unfold Z3_L2 at hr
 refine c_len 0 sees_ow (fun (hn : N44 = given43.length) => ?_)
 subst hn
 refine c_seq (c_seq (c_region (lI R (lO (vFa 1 fo36_1 R) (lO (vLd 1 ag22 R R R) (lO (v_len sl22 R) (lO (vLt R R) (l_nil (q_next ?_)))))))))
 rcases bif_ hr with ⟨hb46, hr⟩ | ⟨hb46, hr⟩
 refine c_true R hb46 (c_skip (q_next (c_seq (c_block (c_seq (c_seq ?_))))))
 obtain ⟨hg47, hr⟩ := gd hr
 obtain ⟨r50, hx51, hr⟩ := bd hr
 refine c_region (lS R (lO (vFa 1 fo36_1 R) (lO (vLd 1 ag22 R R R) (lI R (t_some 3 sees_rd (show 0 < l1.Ins.length by have := hg47; omega) (fun g48 o49 ha => ?_))))))
 subst ha
 refine lO (vIa sl22 sz3 R R hg47) (lO (vLi 3 ag3 sees_rd R hg47) (lC 1 cb87 R (FnOk.lends (A' := [OO kT3 3 A44 D44 given43]) (A := [RR kT3 A44 D44 given43]) (B := []) (Zm_ok hx51) ⟨lend_ow, trivial⟩ (fun _ => trivial)) R ?_))
 rintro _
 refine lN (OO kT3 3 A44 D44 given43 :: W1) ?_
 refine l_nil (q_next ?_)
 rcases bif_ hr with ⟨hb52, hr⟩ | ⟨hb52, hr⟩
 refine c_true R hb52 (c_seq (c_region (lB R (l_nil (q_next (c_ret (q_ret (q_blockr (q_ret ?_)))))))))
 obtain rfl := so hr
 obtain rfl := he2 _ R
 have hr := hk2
 refine q_ret (q_blockr (q_ret ?_))
 obtain rfl := so hr
 exact qF () (fun w s => (s.e 7 []))
 refine c_false R hb52 (c_skip (q_next ?_))
 obtain ⟨hg54, hr⟩ := gd hr
 refine c_region (lS R (lO (vFa 1 fo36_1 R) (lO (vLd 1 ag22 R R R) (lI R (lO (vIa sl22 sz3 R R hg47) (lO (vLi 3 ag3 sees_rd R hg47) (l_build (K := kT3) (xs := ([(ix l1.Ins i45)] : List Int)) (vs := [(iv (ix l1.Ins i45))]) 0 R R sl22 sz3 zc3 R R R R R R ?_ R (fun A53 D53 => ?_))))))))
 exact fun I h s => (mO3).list [((), (ix l1.Ins i45))] I h s
 refine lN (OO kT3 3 A53 D53 ([(ix l1.Ins i45)] : List Int) :: _ :: W1) ?_
 refine lM (ow _ _ _ _ :: ow _ _ _ _ :: W1) (fun w s => (s.e 2 [1, 0])) ?_
 refine l_app (K := kT3) 17592186044416 R R sl22 sz3 by3 (Zr.zk zT3 zc3) R R R R R R src_ow hg54 (fun A55 D55 => (lN (OO kT3 3 A55 D55 (given43 ++ ([(ix l1.Ins i45)] : List Int)) :: W1) ?_))
 refine lS R (l_nil (q_blockn (q_next (c_region (lI R (lO (vAd R R) (lI R (l_nil ?_))))))))
 obtain rfl := so hr
 exact qA (A55, (given43 ++ ([(ix l1.Ins i45)] : List Int)).length, D55) (fun w s => s)
 refine c_false R hb46 (c_exit (q_exit ?_))
 obtain rfl := so hr
 obtain rfl := he2 _ R
 have hr := hk2
 refine q_exit (q_block ?_)
 exact qI (given43, (A44, given43.length, D44)) hr (fun w s => s)
 rintro ⟨given59, ⟨A60, N60, D60⟩⟩ σ1 hr
 replace hr : Z3_J2 l1 given59 = some r := hr
 unfold Z3_J2 at hr
 refine c_len 0 sees_ow (fun (hn : N60 = given59.length) => ?_)
 subst hn
 refine c_seq (c_cut (A := ((List Int)) × (HH)) (fun a => Z3_J3 l1 a.1 = some r) (fun a => [(1, (pt b7 0)), (4, (.slice a.2.1 a.2.2.1 a.2.2.2))]) (fun a => ow kT3 3 (.slice a.2.1 a.2.2.1 a.2.2.2) a.1 :: W1) ?_ ?_)
 refine c_seq (c_region (lI R (l_nil (q_next (c_block ?_)))))
 obtain ⟨e3, hl3, hk3⟩ := bd hr
 refine c_loop (A := HH) hl3 (fun s a => [(1, (pt b7 0)), (4, (.slice a.1 a.2.1 a.2.2)), (6, (iv s.2))]) (fun s a => ow kT3 3 (.slice a.1 a.2.1 a.2.2) s.1 :: W1) (A60, given59.length, D60) (aS R) (fun w s => s) ?_
 rintro ⟨given82, i84⟩ ⟨A83, N83, D83⟩ σ1 out3 hr he3
 replace hr : Z3_L3 l1 given82 i84 = some out3 := hr
 unfold Z3_L3 at hr
 refine c_len 0 sees_ow (fun (hn : N83 = given82.length) => ?_)
 subst hn
 refine c_seq (c_seq (c_region (lI R (lO (vFa 2 fo36_2 R) (lO (vLd 1 ag33 R R R) (lO (v_len sl33 R) (lO (vLt R R) (l_nil (q_next ?_)))))))))
 rcases bif_ hr with ⟨hb85, hr⟩ | ⟨hb85, hr⟩
 refine c_true R hb85 (c_skip (q_next (c_seq (c_block (c_seq ?_)))))
 obtain ⟨hg86, hr⟩ := gd hr
 refine c_region (lO (vFa 2 fo36_2 R) (lO (vLd 1 ag33 R R R) (lI R (t_some 4 sees_rd (show 0 < l1.Fixed.length by have := hg86; omega) (fun g87 o88 ha => ?_)))))
 subst ha
 refine lO (vIa sl33 sz57 R R hg86) (lO (vz (.pointer (some ⟨g87, o88 + i84.toNat * 2, none⟩)) (v_fa fo57_0 R R)) (lO (vz (iv (ix l1.Fixed i84).Buffer) (v_lde (K := kT57) (fo := 0) (pr := fun x => (iv x.Buffer)) 4 i84 ag3 (dT57.leaf fun _ _ => R) sees_rd R hg86.1 hg86.2)) (lI R (l_nil (q_next (c_seq (c_seq ?_)))))))
 obtain ⟨r89, hx90, hr⟩ := bd hr
 obtain ⟨hg92, hr⟩ := gd hr
 obtain ⟨r95, hx96, hr⟩ := bd hr
 refine cQ [(1, (pt b7 0)), (4, (sc A83 given82 D83)), (6, (iv i84)), (7, (iv (ix l1.Fixed i84).Buffer)), (155, (.bool (((((decide ((ix l1.Fixed i84).Buffer < (0 : Int))) || (decide ((ix l1.Fixed i84).Buffer ≥ (l1.Sizes.length : Int)))) || r89) || ((((ix l1.Fixed i84).Data).length : Int) != (ix l1.Sizes (ix l1.Fixed i84).Buffer))) || ((decide ((((ix l1.Fixed i84).Data).length : Int) > (0 : Int))) && (!r95)))))] (OO kT3 3 A83 D83 given82 :: W1) ?_ ?_
 rcases bo (decide ((ix l1.Fixed i84).Buffer < (0 : Int))) with hc97 | hc97
 refine cdr 49 [] mixo (fun ht hn => (dR 0 R (vI R) (dR 1 R (vLt R R) (dR 2 R (vB R) (dF 3 R (wfT hc97) (dF 4 R (wfT hc97) (dF 5 R (wfT hc97) (dF 6 R (wfT hc97) (dF 7 R (wfT hc97) (dR 8 R (pOT (decide ((ix l1.Fixed i84).Buffer ≥ (l1.Sizes.length : Int))) R hc97) (dR 9 R (vB R) (dF 10 R (wfT (oT hc97)) (dF 11 R (wfT (oT hc97)) (dF 12 R (wfT (oT hc97)) (dR 13 R (pOT r89 R (oT hc97)) (dR 14 R (vB R) (dF 15 R (wfT (oT (oT hc97))) (dF 16 R (wfT (oT (oT hc97))) (dF 17 R (wfT (oT (oT hc97))) (dF 18 R (wfT (oT (oT hc97))) (dF 19 R (wfT (oT (oT hc97))) (dF 20 R (wfT (oT (oT hc97))) (dF 21 R (wfT (oT (oT hc97))) (dF 22 R (wfT (oT (oT hc97))) (dF 23 R (wfT (oT (oT hc97))) (dF 24 R (wfT (oT (oT hc97))) (dF 25 R (wfT (oT (oT hc97))) (dF 26 R (wfT (oT (oT hc97))) (dF 27 R (wfT (oT (oT hc97))) (dR 28 R (pOT ((((ix l1.Fixed i84).Data).length : Int) != (ix l1.Sizes (ix l1.Fixed i84).Buffer)) R (oT (oT hc97))) (dR 29 R (vB R) (dF 30 R (wfT (oT (oT (oT hc97)))) (dF 31 R (wfT (oT (oT (oT hc97)))) (dF 32 R (wfT (oT (oT (oT hc97)))) (dF 33 R (wfT (oT (oT (oT hc97)))) (dF 34 R (wfT (oT (oT (oT hc97)))) (dF 35 R (wfT (oT (oT (oT hc97)))) ?_)))))))))))))))))))))))))))))))))))))
 refine dF 36 R (wfT (oT (oT (oT hc97)))) (dF 37 R (wfT (oT (oT (oT hc97)))) (dF 38 R (wfT (oT (oT (oT hc97)))) (dF 39 R R (dF 40 R R (dF 41 R R (dF 42 R R (dF 43 R R (dF 44 R R (dF 45 R R (dF 46 R R (dF 47 R (wfT (oT (oT (oT hc97)))) (dR 48 R (pOT ((decide ((((ix l1.Fixed i84).Data).length : Int) > (0 : Int))) && (!r95)) R (oT (oT (oT hc97)))) (dD ?_)))))))))))))
 exact qJ (fun w s => s)
 rcases bo ((decide ((ix l1.Fixed i84).Buffer < (0 : Int))) || (decide ((ix l1.Fixed i84).Buffer ≥ (l1.Sizes.length : Int)))) with hc98 | hc98
 refine cdr 49 [] mixo (fun ht hn => (dR 0 R (vI R) (dR 1 R (vLt R R) (dR 2 R (vB R) (dW 3 R (wnF hc97) (vI R) (dW 4 R (wnF hc97) (vFa 0 fo36_0 R) (dW 5 R (wnF hc97) (vLd 1 ag22 R R R) (dW 6 R (wnF hc97) (v_len sl22 R) (dW 7 R (wnF hc97) (vGe R R) (dR 8 R (pOF R hc97 R) (dR 9 R (vB R) (dF 10 R (wfT hc98) (dF 11 R (wfT hc98) (dF 12 R (wfT hc98) (dR 13 R (pOT r89 R hc98) (dR 14 R (vB R) (dF 15 R (wfT (oT hc98)) (dF 16 R (wfT (oT hc98)) (dF 17 R (wfT (oT hc98)) (dF 18 R (wfT (oT hc98)) (dF 19 R (wfT (oT hc98)) (dF 20 R (wfT (oT hc98)) (dF 21 R (wfT (oT hc98)) (dF 22 R (wfT (oT hc98)) (dF 23 R (wfT (oT hc98)) (dF 24 R (wfT (oT hc98)) (dF 25 R (wfT (oT hc98)) (dF 26 R (wfT (oT hc98)) (dF 27 R (wfT (oT hc98)) (dR 28 R (pOT ((((ix l1.Fixed i84).Data).length : Int) != (ix l1.Sizes (ix l1.Fixed i84).Buffer)) R (oT hc98)) (dR 29 R (vB R) (dF 30 R (wfT (oT (oT hc98))) (dF 31 R (wfT (oT (oT hc98))) (dF 32 R (wfT (oT (oT hc98))) (dF 33 R (wfT (oT (oT hc98))) (dF 34 R (wfT (oT (oT hc98))) (dF 35 R (wfT (oT (oT hc98))) (dF 36 R (wfT (oT (oT hc98))) (dF 37 R (wfT (oT (oT hc98))) (dF 38 R (wfT (oT (oT hc98))) (dF 39 R R (dF 40 R R ?_))))))))))))))))))))))))))))))))))))))))))
 refine dF 41 R R (dF 42 R R (dF 43 R R (dF 44 R R (dF 45 R R (dF 46 R R (dF 47 R (wfT (oT (oT hc98))) (dR 48 R (pOT ((decide ((((ix l1.Fixed i84).Data).length : Int) > (0 : Int))) && (!r95)) R (oT (oT hc98))) (dD ?_))))))))
 exact qJ (fun w s => s)
 rcases bo (((decide ((ix l1.Fixed i84).Buffer < (0 : Int))) || (decide ((ix l1.Fixed i84).Buffer ≥ (l1.Sizes.length : Int)))) || r89) with hc99 | hc99
 refine cdr 49 [] mixo (fun ht hn => (dR 0 R (vI R) (dR 1 R (vLt R R) (dR 2 R (vB R) (dW 3 R (wnF hc97) (vI R) (dW 4 R (wnF hc97) (vFa 0 fo36_0 R) (dW 5 R (wnF hc97) (vLd 1 ag22 R R R) (dW 6 R (wnF hc97) (v_len sl22 R) (dW 7 R (wnF hc97) (vGe R R) (dR 8 R (pOF R hc97 R) (dR 9 R (vB R) (dW 10 R (wnF hc98) (vS R) (dW 11 R (wnF hc98) (vI R) (d1 12 R (l_calln 1 R (wnF hc98) cb87 R (FnOk.lends (A' := [OO kT3 3 A83 D83 given82]) (A := [RR kT3 A83 D83 given82]) (B := []) (Zm_ok (gcall_t hx90 (not_ff hc98))) ⟨lend_ow, trivial⟩ (fun _ => trivial)) R ?_)))))))))))))))
 rintro _
 refine lN (OO kT3 3 A83 D83 given82 :: W1) ?_
 refine l_nil (q_draw (sL []) (dR 13 R (pOF R hc98 R) (dR 14 R (vB R) (dF 15 R (wfT hc99) (dF 16 R (wfT hc99) (dF 17 R (wfT hc99) (dF 18 R (wfT hc99) (dF 19 R (wfT hc99) (dF 20 R (wfT hc99) (dF 21 R (wfT hc99) (dF 22 R (wfT hc99) (dF 23 R (wfT hc99) (dF 24 R (wfT hc99) (dF 25 R (wfT hc99) (dF 26 R (wfT hc99) (dF 27 R (wfT hc99) (dR 28 R (pOT ((((ix l1.Fixed i84).Data).length : Int) != (ix l1.Sizes (ix l1.Fixed i84).Buffer)) R hc99) (dR 29 R (vB R) (dF 30 R (wfT (oT hc99)) (dF 31 R (wfT (oT hc99)) (dF 32 R (wfT (oT hc99)) (dF 33 R (wfT (oT hc99)) (dF 34 R (wfT (oT hc99)) (dF 35 R (wfT (oT hc99)) (dF 36 R (wfT (oT hc99)) (dF 37 R (wfT (oT hc99)) (dF 38 R (wfT (oT hc99)) (dF 39 R R (dF 40 R R (dF 41 R R (dF 42 R R (dF 43 R R (dF 44 R R (dF 45 R R (dF 46 R R (dF 47 R (wfT (oT hc99)) (dR 48 R (pOT ((decide ((((ix l1.Fixed i84).Data).length : Int) > (0 : Int))) && (!r95)) R (oT hc99)) (dD ?_))))))))))))))))))))))))))))))))))))))
 exact qJ (fun w s => s)
 rcases bo ((((decide ((ix l1.Fixed i84).Buffer < (0 : Int))) || (decide ((ix l1.Fixed i84).Buffer ≥ (l1.Sizes.length : Int)))) || r89) || ((((ix l1.Fixed i84).Data).length : Int) != (ix l1.Sizes (ix l1.Fixed i84).Buffer))) with hc100 | hc100
 refine c_elem (K := kT57) 4 i84 dT57.dec R hg86.1 hg86.2 ?_
 rintro ⟨-, ⟨A91, D91⟩⟩
 refine cN (cl g87 (o88 + i84.toNat * 2) [(iv (ix l1.Fixed i84).Buffer), (sc A91 ((ix l1.Fixed i84).Data) D91)] :: RR kT3 A91 D91 ((ix l1.Fixed i84).Data) :: _ :: W1) ?_
 refine c_some 4 sees_rd (show 0 < l1.Sizes.length by have := (hg92 hc99); omega) (fun g93 o94 ha => ?_)
 subst ha
 refine cdr 49 [] mixo (fun ht hn => (dR 0 R (vI R) (dR 1 R (vLt R R) (dR 2 R (vB R) (dW 3 R (wnF hc97) (vI R) (dW 4 R (wnF hc97) (vFa 0 fo36_0 R) (dW 5 R (wnF hc97) (vLd 3 ag22 R R R) (dW 6 R (wnF hc97) (v_len sl22 R) (dW 7 R (wnF hc97) (vGe R R) (dR 8 R (pOF R hc97 R) (dR 9 R (vB R) (dW 10 R (wnF hc98) (vS R) (dW 11 R (wnF hc98) (vI R) (d1 12 R (lM (ow _ _ _ _ :: cl _ _ _ :: rds _ _ _ :: W1) (fun w s => (s.e 3 [2, 0, 1])) ?_)))))))))))))))
 refine l_calln 1 R (wnF hc98) cb87 R (FnOk.lends (A' := [OO kT3 3 A83 D83 given82]) (A := [RR kT3 A83 D83 given82]) (B := []) (Zm_ok (gcall_t hx90 (not_ff hc98))) ⟨lend_ow, trivial⟩ (fun _ => trivial)) R ?_
 rintro _
 refine l_nil (q_draw (fun w s => (s.e 3 [1, 2, 0])) (dR 13 R (pOF R hc98 R) (hS := (fun w s => (s.e 3 [1, 2, 0]))) (dR 14 R (vB R) (hS := (fun w s => (s.e 3 [1, 2, 0]))) (dW 15 R (wnF hc99) (vFa 2 fo36_2 R) (hS := (fun w s => (s.e 3 [1, 2, 0]))) (dW 16 R (wnF hc99) (vLd 3 ag33 R R R) (hS := (fun w s => (s.e 3 [1, 2, 0]))) (dW 17 R (wnF hc99) (vI R) (hS := (fun w s => (s.e 3 [1, 2, 0]))) (dW 18 R (wnF hc99) (vIa sl33 sz57 R R hg86) (hS := (fun w s => (s.e 3 [1, 2, 0]))) (dW 19 R (wnF hc99) (vz (.pointer (some ⟨g87, o88 + i84.toNat * 2 + 1, none⟩)) (v_fa fo57_1 R R)) (hS := (fun w s => (s.e 3 [1, 2, 0]))) (dW 20 R (wnF hc99) (v_clf (fo := 1) 0 ag22 R R R) (hS := (fun w s => (s.e 3 [1, 2, 0]))) (dW 21 R (wnF hc99) (v_len sl22 R) (hS := (fun w s => (s.e 3 [1, 2, 0]))) (dW 22 R (wnF hc99) (vFa 0 fo36_0 R) (hS := (fun w s => (s.e 3 [1, 2, 0]))) (dW 23 R (wnF hc99) (vLd 3 ag22 R R R) (hS := (fun w s => (s.e 3 [1, 2, 0]))) (dW 24 R (wnF hc99) (vI R) (hS := (fun w s => (s.e 3 [1, 2, 0]))) (dW 25 R (wnF hc99) (vIa sl22 sz3 R R (hg92 hc99)) (hS := (fun w s => (s.e 3 [1, 2, 0]))) ?_))))))))))))))
 refine dW 26 R (wnF hc99) (vLi 4 ag3 sees_rd R (hg92 hc99)) (hS := (fun w s => (s.e 3 [1, 2, 0]))) (dW 27 R (wnF hc99) (vNe R R) (hS := (fun w s => (s.e 3 [1, 2, 0]))) (dR 28 R (pOF R hc99 R) (hS := (fun w s => (s.e 3 [1, 2, 0]))) (dR 29 R (vB R) (hS := (fun w s => (s.e 3 [1, 2, 0]))) (dF 30 R (wfT hc100) (hS := (fun w s => (s.e 3 [1, 2, 0]))) (dF 31 R (wfT hc100) (hS := (fun w s => (s.e 3 [1, 2, 0]))) (dF 32 R (wfT hc100) (hS := (fun w s => (s.e 3 [1, 2, 0]))) (dF 33 R (wfT hc100) (hS := (fun w s => (s.e 3 [1, 2, 0]))) (dF 34 R (wfT hc100) (hS := (fun w s => (s.e 3 [1, 2, 0]))) (dF 35 R (wfT hc100) (hS := (fun w s => (s.e 3 [1, 2, 0]))) (dF 36 R (wfT hc100) (hS := (fun w s => (s.e 3 [1, 2, 0]))) (dF 37 R (wfT hc100) (hS := (fun w s => (s.e 3 [1, 2, 0]))) (dF 38 R (wfT hc100) (hS := (fun w s => (s.e 3 [1, 2, 0]))) (dF 39 R R (hS := (fun w s => (s.e 3 [1, 2, 0]))) (dF 40 R R (hS := (fun w s => (s.e 3 [1, 2, 0]))) (dF 41 R R (hS := (fun w s => (s.e 3 [1, 2, 0]))) (dF 42 R R (hS := (fun w s => (s.e 3 [1, 2, 0]))) (dF 43 R R (hS := (fun w s => (s.e 3 [1, 2, 0]))) (dF 44 R R (hS := (fun w s => (s.e 3 [1, 2, 0]))) ?_))))))))))))))))))
 refine dF 45 R R (hS := (fun w s => (s.e 3 [1, 2, 0]))) (dF 46 R R (hS := (fun w s => (s.e 3 [1, 2, 0]))) (dF 47 R (wfT hc100) (hS := (fun w s => (s.e 3 [1, 2, 0]))) (dR 48 R (pOT ((decide ((((ix l1.Fixed i84).Data).length : Int) > (0 : Int))) && (!r95)) R hc100) (hS := (fun w s => (s.e 3 [1, 2, 0]))) (dD ?_))))
 exact qJ (fun w s => (s.e 3 [0]))
 rcases bo (decide ((((ix l1.Fixed i84).Data).length : Int) > (0 : Int))) with hc101 | hc101
 refine c_elem (K := kT57) 4 i84 dT57.dec R hg86.1 hg86.2 ?_
 rintro ⟨-, ⟨A91, D91⟩⟩
 refine c_some 4 sees_rd (show 0 < l1.Sizes.length by have := (hg92 hc99); omega) (fun g93 o94 ha => ?_)
 subst ha
 refine cdr 49 [] mixo (fun ht hn => (dR 0 R (vI R) (dR 1 R (vLt R R) (dR 2 R (vB R) (dW 3 R (wnF hc97) (vI R) (dW 4 R (wnF hc97) (vFa 0 fo36_0 R) (dW 5 R (wnF hc97) (vLd 3 ag22 R R R) (dW 6 R (wnF hc97) (v_len sl22 R) (dW 7 R (wnF hc97) (vGe R R) (dR 8 R (pOF R hc97 R) (dR 9 R (vB R) (dW 10 R (wnF hc98) (vS R) (dW 11 R (wnF hc98) (vI R) (d1 12 R (lM (ow _ _ _ _ :: cl _ _ _ :: rds _ _ _ :: W1) (fun w s => (s.e 3 [2, 0, 1])) ?_)))))))))))))))
 refine l_calln 1 R (wnF hc98) cb87 R (FnOk.lends (A' := [OO kT3 3 A83 D83 given82]) (A := [RR kT3 A83 D83 given82]) (B := []) (Zm_ok (gcall_t hx90 (not_ff hc98))) ⟨lend_ow, trivial⟩ (fun _ => trivial)) R ?_
 rintro _
 refine l_nil (q_draw (fun w s => (s.e 3 [1, 2, 0])) (dR 13 R (pOF R hc98 R) (hS := (fun w s => (s.e 3 [1, 2, 0]))) (dR 14 R (vB R) (hS := (fun w s => (s.e 3 [1, 2, 0]))) (dW 15 R (wnF hc99) (vFa 2 fo36_2 R) (hS := (fun w s => (s.e 3 [1, 2, 0]))) (dW 16 R (wnF hc99) (vLd 3 ag33 R R R) (hS := (fun w s => (s.e 3 [1, 2, 0]))) (dW 17 R (wnF hc99) (vI R) (hS := (fun w s => (s.e 3 [1, 2, 0]))) (dW 18 R (wnF hc99) (vIa sl33 sz57 R R hg86) (hS := (fun w s => (s.e 3 [1, 2, 0]))) (dW 19 R (wnF hc99) (vz (.pointer (some ⟨g87, o88 + i84.toNat * 2 + 1, none⟩)) (v_fa fo57_1 R R)) (hS := (fun w s => (s.e 3 [1, 2, 0]))) (dW 20 R (wnF hc99) (v_clf (fo := 1) 0 ag22 R R R) (hS := (fun w s => (s.e 3 [1, 2, 0]))) (dW 21 R (wnF hc99) (v_len sl22 R) (hS := (fun w s => (s.e 3 [1, 2, 0]))) (dW 22 R (wnF hc99) (vFa 0 fo36_0 R) (hS := (fun w s => (s.e 3 [1, 2, 0]))) (dW 23 R (wnF hc99) (vLd 3 ag22 R R R) (hS := (fun w s => (s.e 3 [1, 2, 0]))) (dW 24 R (wnF hc99) (vI R) (hS := (fun w s => (s.e 3 [1, 2, 0]))) (dW 25 R (wnF hc99) (vIa sl22 sz3 R R (hg92 hc99)) (hS := (fun w s => (s.e 3 [1, 2, 0]))) ?_))))))))))))))
 refine dW 26 R (wnF hc99) (vLi 4 ag3 sees_rd R (hg92 hc99)) (hS := (fun w s => (s.e 3 [1, 2, 0]))) (dW 27 R (wnF hc99) (vNe R R) (hS := (fun w s => (s.e 3 [1, 2, 0]))) (dR 28 R (pOF R hc99 R) (hS := (fun w s => (s.e 3 [1, 2, 0]))) (dR 29 R (vB R) (hS := (fun w s => (s.e 3 [1, 2, 0]))) (dW 30 R (wnF hc100) (vFa 2 fo36_2 R) (hS := (fun w s => (s.e 3 [1, 2, 0]))) (dW 31 R (wnF hc100) (vLd 3 ag33 R R R) (hS := (fun w s => (s.e 3 [1, 2, 0]))) (dW 32 R (wnF hc100) (vI R) (hS := (fun w s => (s.e 3 [1, 2, 0]))) (dW 33 R (wnF hc100) (vIa sl33 sz57 R R hg86) (hS := (fun w s => (s.e 3 [1, 2, 0]))) (dW 34 R (wnF hc100) (vz (.pointer (some ⟨g87, o88 + i84.toNat * 2 + 1, none⟩)) (v_fa fo57_1 R R)) (hS := (fun w s => (s.e 3 [1, 2, 0]))) (dW 35 R (wnF hc100) (v_clf (fo := 1) 0 ag22 R R R) (hS := (fun w s => (s.e 3 [1, 2, 0]))) (dW 36 R (wnF hc100) (v_len sl22 R) (hS := (fun w s => (s.e 3 [1, 2, 0]))) (dW 37 R (wnF hc100) (vGt R R) (hS := (fun w s => (s.e 3 [1, 2, 0]))) (dW 38 R (wnF hc100) (vB R) (hS := (fun w s => (s.e 3 [1, 2, 0]))) (dW 39 R (wnT hc101) (vFa 2 fo36_2 R) (hS := (fun w s => (s.e 3 [1, 2, 0]))) ?_)))))))))))))
 refine dW 40 R (wnT hc101) (vLd 3 ag33 R R R) (hS := (fun w s => (s.e 3 [1, 2, 0]))) (dW 41 R (wnT hc101) (vI R) (hS := (fun w s => (s.e 3 [1, 2, 0]))) (dW 42 R (wnT hc101) (vIa sl33 sz57 R R hg86) (hS := (fun w s => (s.e 3 [1, 2, 0]))) (dW 43 R (wnT hc101) (vz (.pointer (some ⟨g87, o88 + i84.toNat * 2 + 1, none⟩)) (v_fa fo57_1 R R)) (hS := (fun w s => (s.e 3 [1, 2, 0]))) (dW 44 R (wnT hc101) (v_clf (fo := 1) 0 ag22 R R R) (hS := (fun w s => (s.e 3 [1, 2, 0]))) (d1 45 R (lM (_ :: _ :: _ :: _ :: W1) (fun w s => (s.d 2 R)) ?_))))))
 refine l_calln 1 R (wnT hc101) cb25 R (Z0j_ok (gcall_t hx96 (and_tt (not_ff hc100) hc101))) R ?_
 rintro _
 refine lN (_ :: _ :: _ :: W1) ?_
 refine l_nil (q_draw (fun w s => (s.e 3 [1, 2, 0])) (dW 46 R (wnT hc101) (vNo R) (hS := (fun w s => (s.e 3 [1, 2, 0]))) (dW 47 R (wnF hc100) (pAT R hc101 R) (hS := (fun w s => (s.e 3 [1, 2, 0]))) (dR 48 R (pOF R hc100 R) (hS := (fun w s => (s.e 3 [1, 2, 0]))) (dD ?_)))))
 exact qJ (fun w s => (s.e 3 [0]))
 refine c_elem (K := kT57) 4 i84 dT57.dec R hg86.1 hg86.2 ?_
 rintro ⟨-, ⟨A91, D91⟩⟩
 refine c_some 4 sees_rd (show 0 < l1.Sizes.length by have := (hg92 hc99); omega) (fun g93 o94 ha => ?_)
 subst ha
 refine cdr 49 [] mixo (fun ht hn => (dR 0 R (vI R) (dR 1 R (vLt R R) (dR 2 R (vB R) (dW 3 R (wnF hc97) (vI R) (dW 4 R (wnF hc97) (vFa 0 fo36_0 R) (dW 5 R (wnF hc97) (vLd 3 ag22 R R R) (dW 6 R (wnF hc97) (v_len sl22 R) (dW 7 R (wnF hc97) (vGe R R) (dR 8 R (pOF R hc97 R) (dR 9 R (vB R) (dW 10 R (wnF hc98) (vS R) (dW 11 R (wnF hc98) (vI R) (d1 12 R (lM (ow _ _ _ _ :: cl _ _ _ :: rds _ _ _ :: W1) (fun w s => (s.e 3 [2, 0, 1])) ?_)))))))))))))))
 refine l_calln 1 R (wnF hc98) cb87 R (FnOk.lends (A' := [OO kT3 3 A83 D83 given82]) (A := [RR kT3 A83 D83 given82]) (B := []) (Zm_ok (gcall_t hx90 (not_ff hc98))) ⟨lend_ow, trivial⟩ (fun _ => trivial)) R ?_
 rintro _
 refine l_nil (q_draw (fun w s => (s.e 3 [1, 2, 0])) (dR 13 R (pOF R hc98 R) (hS := (fun w s => (s.e 3 [1, 2, 0]))) (dR 14 R (vB R) (hS := (fun w s => (s.e 3 [1, 2, 0]))) (dW 15 R (wnF hc99) (vFa 2 fo36_2 R) (hS := (fun w s => (s.e 3 [1, 2, 0]))) (dW 16 R (wnF hc99) (vLd 3 ag33 R R R) (hS := (fun w s => (s.e 3 [1, 2, 0]))) (dW 17 R (wnF hc99) (vI R) (hS := (fun w s => (s.e 3 [1, 2, 0]))) (dW 18 R (wnF hc99) (vIa sl33 sz57 R R hg86) (hS := (fun w s => (s.e 3 [1, 2, 0]))) (dW 19 R (wnF hc99) (vz (.pointer (some ⟨g87, o88 + i84.toNat * 2 + 1, none⟩)) (v_fa fo57_1 R R)) (hS := (fun w s => (s.e 3 [1, 2, 0]))) (dW 20 R (wnF hc99) (v_clf (fo := 1) 0 ag22 R R R) (hS := (fun w s => (s.e 3 [1, 2, 0]))) (dW 21 R (wnF hc99) (v_len sl22 R) (hS := (fun w s => (s.e 3 [1, 2, 0]))) (dW 22 R (wnF hc99) (vFa 0 fo36_0 R) (hS := (fun w s => (s.e 3 [1, 2, 0]))) (dW 23 R (wnF hc99) (vLd 3 ag22 R R R) (hS := (fun w s => (s.e 3 [1, 2, 0]))) (dW 24 R (wnF hc99) (vI R) (hS := (fun w s => (s.e 3 [1, 2, 0]))) (dW 25 R (wnF hc99) (vIa sl22 sz3 R R (hg92 hc99)) (hS := (fun w s => (s.e 3 [1, 2, 0]))) ?_))))))))))))))
 refine dW 26 R (wnF hc99) (vLi 4 ag3 sees_rd R (hg92 hc99)) (hS := (fun w s => (s.e 3 [1, 2, 0]))) (dW 27 R (wnF hc99) (vNe R R) (hS := (fun w s => (s.e 3 [1, 2, 0]))) (dR 28 R (pOF R hc99 R) (hS := (fun w s => (s.e 3 [1, 2, 0]))) (dR 29 R (vB R) (hS := (fun w s => (s.e 3 [1, 2, 0]))) (dW 30 R (wnF hc100) (vFa 2 fo36_2 R) (hS := (fun w s => (s.e 3 [1, 2, 0]))) (dW 31 R (wnF hc100) (vLd 3 ag33 R R R) (hS := (fun w s => (s.e 3 [1, 2, 0]))) (dW 32 R (wnF hc100) (vI R) (hS := (fun w s => (s.e 3 [1, 2, 0]))) (dW 33 R (wnF hc100) (vIa sl33 sz57 R R hg86) (hS := (fun w s => (s.e 3 [1, 2, 0]))) (dW 34 R (wnF hc100) (vz (.pointer (some ⟨g87, o88 + i84.toNat * 2 + 1, none⟩)) (v_fa fo57_1 R R)) (hS := (fun w s => (s.e 3 [1, 2, 0]))) (dW 35 R (wnF hc100) (v_clf (fo := 1) 0 ag22 R R R) (hS := (fun w s => (s.e 3 [1, 2, 0]))) (dW 36 R (wnF hc100) (v_len sl22 R) (hS := (fun w s => (s.e 3 [1, 2, 0]))) (dW 37 R (wnF hc100) (vGt R R) (hS := (fun w s => (s.e 3 [1, 2, 0]))) (dW 38 R (wnF hc100) (vB R) (hS := (fun w s => (s.e 3 [1, 2, 0]))) (dF 39 R (wfF hc101) (hS := (fun w s => (s.e 3 [1, 2, 0]))) (dF 40 R (wfF hc101) (hS := (fun w s => (s.e 3 [1, 2, 0]))) ?_))))))))))))))
 refine dF 41 R (wfF hc101) (hS := (fun w s => (s.e 3 [1, 2, 0]))) (dF 42 R (wfF hc101) (hS := (fun w s => (s.e 3 [1, 2, 0]))) (dF 43 R (wfF hc101) (hS := (fun w s => (s.e 3 [1, 2, 0]))) (dF 44 R (wfF hc101) (hS := (fun w s => (s.e 3 [1, 2, 0]))) (dF 45 R (wfF hc101) (hS := (fun w s => (s.e 3 [1, 2, 0]))) (dF 46 R (wfF hc101) (hS := (fun w s => (s.e 3 [1, 2, 0]))) (dW 47 R (wnF hc100) (pAF (!r95) R hc101) (hS := (fun w s => (s.e 3 [1, 2, 0]))) (dR 48 R (pOF R hc100 R) (hS := (fun w s => (s.e 3 [1, 2, 0]))) (dD ?_))))))))
 exact qJ (fun w s => (s.e 3 [0]))
 rintro σ1
 refine q_next ?_
 rcases bif_ hr with ⟨hb102, hr⟩ | ⟨hb102, hr⟩
 refine c_true R hb102 (c_seq (c_region (lB R (l_nil (q_next (c_ret (q_ret (q_blockr (q_ret ?_)))))))))
 obtain rfl := so hr
 obtain rfl := he3 _ R
 have hr := hk3
 refine q_ret (q_blockr (q_ret ?_))
 obtain rfl := so hr
 exact qF () (fun w s => (s.e 7 []))
 refine c_false R hb102 (c_skip (q_next ?_))
 obtain ⟨hg104, hr⟩ := gd hr
 refine c_region (lS R (lI R (l_build (K := kT3) (xs := ([(ix l1.Fixed i84).Buffer] : List Int)) (vs := [(iv (ix l1.Fixed i84).Buffer)]) 0 R R sl22 sz3 zc3 R R R R R R ?_ R (fun A103 D103 => ?_))))
 exact fun I h s => (mO3).list [((), (ix l1.Fixed i84).Buffer)] I h s
 refine lN (OO kT3 3 A103 D103 ([(ix l1.Fixed i84).Buffer] : List Int) :: _ :: W1) ?_
 refine lM (ow _ _ _ _ :: ow _ _ _ _ :: W1) (fun w s => (s.e 2 [1, 0])) ?_
 refine l_app (K := kT3) 17592186044416 R R sl22 sz3 by3 (Zr.zk zT3 zc3) R R R R R R src_ow hg104 (fun A105 D105 => (lN (OO kT3 3 A105 D105 (given82 ++ ([(ix l1.Fixed i84).Buffer] : List Int)) :: W1) ?_))
 refine lS R (l_nil (q_blockn (q_next (c_region (lI R (lO (vAd R R) (lI R (l_nil ?_))))))))
 obtain rfl := so hr
 exact qA (A105, (given82 ++ ([(ix l1.Fixed i84).Buffer] : List Int)).length, D105) (fun w s => s)
 refine c_false R hb85 (c_exit (q_exit ?_))
 obtain rfl := so hr
 obtain rfl := he3 _ R
 have hr := hk3
 refine q_exit (q_block ?_)
 exact qI (given82, (A83, given82.length, D83)) hr (fun w s => s)
 rintro ⟨given109, ⟨A110, N110, D110⟩⟩ σ1 hr
 replace hr : Z3_J3 l1 given109 = some r := hr
 unfold Z3_J3 at hr
 refine c_len 0 sees_ow (fun (hn : N110 = given109.length) => ?_)
 subst hn
 refine c_seq (c_region (lI R (l_nil (q_next (c_seq (c_cut (A := (Int) × (Unit)) (fun a => Z3_J4 a.1 = some r) (fun a => [(8, (iv a.1))]) (fun a => W1) ?_ ?_))))))
 refine c_seq (c_region (lI R (l_nil (q_next (c_block ?_)))))
 obtain ⟨e4, hl4, hk4⟩ := bd hr
 refine c_loop (A := Unit) hl4 (fun s a => [(1, (pt b7 0)), (4, (sc A110 given109 D110)), (8, (iv s.1)), (9, (iv s.2))]) (fun s a => OO kT3 3 A110 D110 given109 :: W1) () (aS R) (fun w s => s) ?_
 rintro ⟨all133, i134⟩ _ σ1 out4 hr he4
 replace hr : Z3_L4 l1 given109 all133 i134 = some out4 := hr
 unfold Z3_L4 at hr
 refine c_seq (c_seq (c_region (lI R (lO (vFa 3 fo36_3 R) (lO (vLd 1 ag34 R R R) (lO (v_len sl34 R) (lO (vLt R R) (l_nil (q_next ?_)))))))))
 rcases bif_ hr with ⟨hb135, hr⟩ | ⟨hb135, hr⟩
 refine c_true R hb135 (c_skip (q_next (c_seq (c_block (c_seq (c_seq ?_))))))
 obtain ⟨hg136, hr⟩ := gd hr
 obtain ⟨r143, hx144, hr⟩ := bd hr
 obtain ⟨r145, hx146, hr⟩ := bd hr
 refine cQ [(1, (pt b7 0)), (4, (sc A110 given109 D110)), (8, (iv all133)), (9, (iv i134)), (186, (.bool ((!r143) || r145)))] (OO kT3 3 A110 D110 given109 :: W1) ?_ ?_
 rcases bo (!r143) with hc147 | hc147
 refine c_some 5 sees_rd (show 0 < l1.Kernels.length by have := hg136; omega) (fun g137 o138 ha => ?_)
 subst ha
 refine c_elem (K := kT64) 5 i134 dT64.dec R hg136.1 hg136.2 ?_
 rintro ⟨⟨A139, D139⟩, ⟨A140, D140⟩, ⟨-, -, ⟨A141, D141⟩⟩, -, ⟨A142, D142⟩⟩
 refine cN (cl g137 (o138 + i134.toNat * 7) [(sc A139 ((ix l1.Kernels i134).Loops) D139), (sc A140 ((ix l1.Kernels i134).Loads) D140), (iv (ix l1.Kernels i134).Store.Buffer), (iv (ix l1.Kernels i134).Store.Offset), (sc A141 ((ix l1.Kernels i134).Store.Steps) D141), (.bool (ix l1.Kernels i134).Sum), (sc A142 ((ix l1.Kernels i134).Code) D142)] :: RR kT3 A139 D139 ((ix l1.Kernels i134).Loops) :: RR kT61 A140 D140 ((ix l1.Kernels i134).Loads) :: RR kT3 A141 D141 ((ix l1.Kernels i134).Store.Steps) :: RR kT101 A142 D142 ((ix l1.Kernels i134).Code) :: OO kT3 3 A110 D110 given109 :: W1) ?_
 refine cdr 20 [] mixo (fun ht hn => (dR 0 R (vFa 3 fo36_3 R) (dR 1 R (vLd 6 ag34 R R R) (dR 2 R (vI R) (dR 3 R (vIa sl34 sz64 R R hg136) (dR 4 R (vz (.agg [(sc A139 ((ix l1.Kernels i134).Loops) D139), (sc A140 ((ix l1.Kernels i134).Loads) D140), (iv (ix l1.Kernels i134).Store.Buffer), (iv (ix l1.Kernels i134).Store.Offset), (sc A141 ((ix l1.Kernels i134).Store.Steps) D141), (.bool (ix l1.Kernels i134).Sum), (sc A142 ((ix l1.Kernels i134).Code) D142)].toArray) (v_clfs (fo := 0) 0 ag64 sz64 R R R R)) (dR 5 R (vFa 0 fo36_0 R) (dR 6 R (vLd 6 ag22 R R R) (d1 7 R (lM (rds _ _ _ :: rds _ _ _ :: rds _ _ _ :: rds _ _ _ :: RR kT3 A2 D2 l1.Sizes :: cl _ _ _ :: rds _ _ _ :: rds _ _ _ :: rds _ _ _ :: rds _ _ _ :: ow _ _ _ _ :: W1) (fun w s => ((((((s.d 1 R).d 3 R).d 5 R).d 7 R).d 11 R).e 11 [4, 3, 2, 1, 0, 5, 6, 7, 8, 9, 10])) ?_))))))))))
 refine lC 5 cb88 R (Z0l_ok hx144) R ?_
 rintro _
 refine lN (_ :: _ :: _ :: _ :: _ :: _ :: W1) ?_
 refine l_nil (q_draw (sL []) (dR 8 R (vNo R) (dR 9 R (vB R) (dF 10 R (wfT hc147) (dF 11 R (wfT hc147) (dF 12 R (wfT hc147) (dF 13 R (wfT hc147) (dF 14 R (wfT hc147) (dF 15 R (wfT hc147) (dF 16 R (wfT hc147) (dF 17 R (wfT hc147) (dF 18 R (wfT hc147) (dR 19 R (pOT r145 R hc147) (dD ?_))))))))))))))
 exact qJ (fun w s => (s.e 6 [5]))
 refine c_some 5 sees_rd (show 0 < l1.Kernels.length by have := hg136; omega) (fun g137 o138 ha => ?_)
 subst ha
 refine c_elem (K := kT64) 5 i134 dT64.dec R hg136.1 hg136.2 ?_
 rintro ⟨⟨A139, D139⟩, ⟨A140, D140⟩, ⟨-, -, ⟨A141, D141⟩⟩, -, ⟨A142, D142⟩⟩
 refine cdr 20 [] mixo (fun ht hn => (dR 0 R (vFa 3 fo36_3 R) (dR 1 R (vLd 6 ag34 R R R) (dR 2 R (vI R) (dR 3 R (vIa sl34 sz64 R R hg136) (dR 4 R (vz (.agg [(sc A139 ((ix l1.Kernels i134).Loops) D139), (sc A140 ((ix l1.Kernels i134).Loads) D140), (iv (ix l1.Kernels i134).Store.Buffer), (iv (ix l1.Kernels i134).Store.Offset), (sc A141 ((ix l1.Kernels i134).Store.Steps) D141), (.bool (ix l1.Kernels i134).Sum), (sc A142 ((ix l1.Kernels i134).Code) D142)].toArray) (v_clfs (fo := 0) 0 ag64 sz64 R R R R)) (dR 5 R (vFa 0 fo36_0 R) (dR 6 R (vLd 6 ag22 R R R) (d1 7 R (lM (rds _ _ _ :: rds _ _ _ :: rds _ _ _ :: rds _ _ _ :: RR kT3 A2 D2 l1.Sizes :: cl _ _ _ :: rds _ _ _ :: rds _ _ _ :: rds _ _ _ :: rds _ _ _ :: ow _ _ _ _ :: W1) (fun w s => ((((((s.d 1 R).d 3 R).d 5 R).d 7 R).d 11 R).e 11 [4, 3, 2, 1, 0, 5, 6, 7, 8, 9, 10])) ?_))))))))))
 refine lC 5 cb88 R (Z0l_ok hx144) R ?_
 rintro _
 refine lN (_ :: _ :: _ :: _ :: _ :: _ :: W1) ?_
 refine l_nil (q_draw (sL []) (dR 8 R (vNo R) (dR 9 R (vB R) (dW 10 R (wnF hc147) (vS R) (dW 11 R (wnF hc147) (vFa 3 fo36_3 R) (dW 12 R (wnF hc147) (vLd 6 ag34 R R R) (dW 13 R (wnF hc147) (vI R) (dW 14 R (wnF hc147) (vIa sl34 sz64 R R hg136) (dW 15 R (wnF hc147) (vz (.pointer (some ⟨g137, o138 + i134.toNat * 7 + 2, none⟩)) (v_fa fo64_2 R R)) (dW 16 R (wnF hc147) (vz (.pointer (some ⟨g137, o138 + i134.toNat * 7 + 2, none⟩)) (v_fa fo61_0 R R)) (dW 17 R (wnF hc147) (vz (iv (ix l1.Kernels i134).Store.Buffer) (v_lde (K := kT64) (fo := 2) (pr := fun x => (iv x.Store.Buffer)) 10 i134 ag3 (dT64.leaf fun _ _ => R) sees_rd R hg136.1 hg136.2)) (d1 18 R (lM (ow _ _ _ _ :: cl _ _ _ :: rds _ _ _ :: rds _ _ _ :: rds _ _ _ :: rds _ _ _ :: W1) (fun w s => (s.f 6 [5, 1, 0, 5])) ?_)))))))))))))
 refine l_calln 1 R (wnF hc147) cb87 R (FnOk.lends (A' := [OO kT3 3 A110 D110 given109]) (A := [RR kT3 A110 D110 given109]) (B := []) (Zm_ok (gcall_t hx146 (not_ff hc147))) ⟨lend_ow, trivial⟩ (fun _ => trivial)) R ?_
 rintro _
 refine l_nil (q_draw (fun w s => (s.f 6 [1, 5, 0, 1])) (dR 19 R (pOF R hc147 R) (hS := (fun w s => (s.f 6 [1, 5, 0, 1]))) (dD ?_)))
 exact qJ (fun w s => (s.e 6 [0]))
 rintro σ1
 refine q_next ?_
 rcases bif_ hr with ⟨hb148, hr⟩ | ⟨hb148, hr⟩
 refine c_true R hb148 (c_seq (c_region (lB R (l_nil (q_next (c_ret (q_ret (q_blockr (q_ret ?_)))))))))
 obtain rfl := so hr
 obtain rfl := he4 _ R
 have hr := hk4
 refine q_ret (q_blockr (q_ret ?_))
 obtain rfl := so hr
 exact qF () (fun w s => (s.e 7 []))
 refine c_false R hb148 (c_skip (q_next ?_))
 obtain ⟨r155, hx156, hr⟩ := bd hr
 refine c_region (lI R (lO (vFa 3 fo36_3 R) (lO (vLd 1 ag34 R R R) (lI R (t_some 5 sees_rd (show 0 < l1.Kernels.length by have := hg136; omega) (fun g149 o150 ha => ?_))))))
 subst ha
 refine lO (vIa sl34 sz64 R R hg136) (lO (vz (.pointer (some ⟨g149, o150 + i134.toNat * 7, none⟩)) (v_fa fo64_0 R R)) (t_elem (K := kT64) 5 i134 dT64.dec R hg136.1 hg136.2 ?_))
 rintro ⟨⟨A151, D151⟩, ⟨A152, D152⟩, ⟨-, -, ⟨A153, D153⟩⟩, -, ⟨A154, D154⟩⟩
 refine lN (cl g149 (o150 + i134.toNat * 7) [(sc A151 ((ix l1.Kernels i134).Loops) D151), (sc A152 ((ix l1.Kernels i134).Loads) D152), (iv (ix l1.Kernels i134).Store.Buffer), (iv (ix l1.Kernels i134).Store.Offset), (sc A153 ((ix l1.Kernels i134).Store.Steps) D153), (.bool (ix l1.Kernels i134).Sum), (sc A154 ((ix l1.Kernels i134).Code) D154)] :: RR kT3 A151 D151 ((ix l1.Kernels i134).Loops) :: RR kT61 A152 D152 ((ix l1.Kernels i134).Loads) :: RR kT3 A153 D153 ((ix l1.Kernels i134).Store.Steps) :: RR kT101 A154 D154 ((ix l1.Kernels i134).Code) :: _ :: W1) ?_
 refine lO (v_clf (fo := 0) 0 ag22 R R R) (lM (_ :: _ :: _ :: _ :: _ :: _ :: _ :: W1) (fun w s => (s.d 1 R)) ?_)
 refine lC 1 cb28 R (Zs_ok hx156) R ?_
 rintro _
 refine lN (_ :: _ :: _ :: _ :: _ :: _ :: W1) ?_
 refine lO (vAd R R) (lI R (l_nil (q_blockn (q_next (c_region (lI R (lO (vAd R R) (lI R (l_nil ?_)))))))))
 obtain rfl := so hr
 exact qA () (fun w s => (s.e 6 [5]))
 refine c_false R hb135 (c_exit (q_exit ?_))
 obtain rfl := so hr
 obtain rfl := he4 _ R
 have hr := hk4
 refine q_exit (q_block ?_)
 exact qI (all133, ()) hr (fun w s => (s.e 1 []))
 rintro ⟨all159, _⟩ σ1 hr
 replace hr : Z3_J4 all159 = some r := hr
 unfold Z3_J4 at hr
 refine c_seq (c_region (lI R (lO (vLe R R) (lB R (l_nil (q_next (c_ret ?_)))))))
 obtain rfl := so hr
 exact qF () (fun w s => (s.e 6 []))
theorem Zc_ok  {a1 : (List Int)} {r : (List Int)} (hr : Zc a1 = some r) :
 FnOk Tryz.prog 34 [(.slice A2 N2 D2)] [rds kT3 (.slice A2 N2 D2) a1] (fun (h : HH) => ((.slice h.1 h.2.1 h.2.2), [ow kT3 3 (.slice h.1 h.2.1 h.2.2) r])) := by
 unfold Zc at hr
 refine fn_ok Tryz.func34 R 6 R R fun C V => ?_
 refine cN (_ :: V) ?_
 refine cL 0 sees_rd ?_
 rintro rfl
 let W0 : List HP := RR kT3 A2 D2 a1 :: V
 refine cN W0 ?_
 refine c_seq (c_region (lS R (l_nil (q_next (c_seq ?_)))))
 obtain ⟨hg4, hr⟩ := gd hr
 refine c_region (l_build (K := kT3) (xs := ([] : List Int)) (vs := []) 0 R R sl22 sz3 zc3 R R R R R R ?_ R (fun A3 D3 => ?_))
 exact fun I h s => (mO3).list [] I h s
 refine lN (OO kT3 3 A3 D3 ([] : List Int) :: W0) ?_
 refine lS R (lM (_ :: RR kT3 A2 D2 a1 :: W0) (fun w s => ((s.dup 1 R).mv 1)) ?_)
 refine l_app (K := kT3) 17592186044416 R R sl22 sz3 by3 (Zr.zk zT3 zc3) R R R R R R (src_rd (Kind.scal_flat _ _)) hg4 (fun A5 D5 => (lN (OO kT3 3 A5 D5 (([] : List Int) ++ a1) :: W0) ?_))
 refine lS R (l_nil (q_next (c_ret ?_)))
 obtain rfl := so hr
 exact qF (A5, (([] : List Int) ++ a1).length, D5) (fun w s => (s.e 2 [0]))
theorem Z01_ok  {k1 : Kernel} {r : Kernel} (hr : Z01 k1 = some r) :
 FnOk Tryz.prog 89 [(.agg [(.slice A2 N2 D2), (.slice A3 N3 D3), (iv k1.Store.Buffer), (iv k1.Store.Offset), (.slice A4 N4 D4), (.bool k1.Sum), (.slice A5 N5 D5)].toArray)] [rds kT3 (.slice A2 N2 D2) k1.Loops, rds kT61 (.slice A3 N3 D3) k1.Loads, rds kT3 (.slice A4 N4 D4) k1.Store.Steps, rds kT101 (.slice A5 N5 D5) k1.Code] (fun (h : HH × HH × HH × HH) => ((.agg [(.slice h.1.1 h.1.2.1 h.1.2.2), (.slice h.2.1.1 h.2.1.2.1 h.2.1.2.2), (iv r.Store.Buffer), (iv r.Store.Offset), (.slice h.2.2.1.1 h.2.2.1.2.1 h.2.2.1.2.2), (.bool r.Sum), (.slice h.2.2.2.1 h.2.2.2.2.1 h.2.2.2.2.2)].toArray), [ow kT3 3 (.slice h.1.1 h.1.2.1 h.1.2.2) r.Loops, ow kT61 61 (.slice h.2.1.1 h.2.1.2.1 h.2.1.2.2) r.Loads, ow kT3 3 (.slice h.2.2.1.1 h.2.2.1.2.1 h.2.2.1.2.2) r.Store.Steps, ow kT101 101 (.slice h.2.2.2.1 h.2.2.2.2.1 h.2.2.2.2.2) r.Code])) := by
 unfold Z01 at hr
 refine fn_ok Tryz.func89 R 59 R R fun C V => ?_
 refine cN (_ :: _ :: _ :: _ :: V) ?_
 refine cL 0 sees_rd ?_
 rintro rfl
 refine cL 1 sees_rd ?_
 rintro rfl
 refine cL 2 sees_rd ?_
 rintro rfl
 refine cL 3 sees_rd ?_
 rintro rfl
 let W0 : List HP := RR kT3 A2 D2 k1.Loops :: RR kT61 A3 D3 k1.Loads :: RR kT3 A4 D4 k1.Store.Steps :: RR kT101 A5 D5 k1.Code :: V
 refine cN W0 ?_
 refine c_seq (c_region (lBx R (fun b6 => (l_alloc R R zc64 (fun b7 => (l_nil ?_))))))
 let W1 : List HP := bxl b6 [(sc A2 k1.Loops D2), (sc A3 k1.Loads D3), (iv k1.Store.Buffer), (iv k1.Store.Offset), (sc A4 k1.Store.Steps D4), (.bool k1.Sum), (sc A5 k1.Code D5)] 64 :: W0
 refine qN (_ :: W1) ?_
 refine q_next (c_seq ?_)
 obtain ⟨r8, hx9, hr⟩ := bd hr
 obtain ⟨r11, hx12, hr⟩ := bd hr
 obtain ⟨hg15, hr⟩ := gd hr
 refine c_cutq (A := (Unit) × (Nat × HH × HH × HH)) (fun _ => True) (fun a => [(1, (pt b6 0)), (2, (pt b7 0)), (3, (pt a.2.1 0))]) (fun a => bxl b7 [(.slice none 0 0), (.slice none 0 0), (iv 0), (iv 0), (.slice none 0 0), (.bool false), (.slice none 0 0)] 64 :: bxl a.2.1 [(.slice a.2.2.1.1 a.2.2.1.2.1 a.2.2.1.2.2), (.slice none 0 0), (iv k1.Store.Buffer), (iv k1.Store.Offset), (.slice a.2.2.2.1.1 a.2.2.2.1.2.1 a.2.2.2.1.2.2), (.bool k1.Sum), (.slice a.2.2.2.2.1 a.2.2.2.2.2.1 a.2.2.2.2.2.2)] 64 :: ow kT3 3 (.slice a.2.2.1.1 a.2.2.1.2.1 a.2.2.1.2.2) r8 :: ow kT3 3 (.slice a.2.2.2.1.1 a.2.2.2.1.2.1 a.2.2.2.1.2.2) r11 :: ow kT101 101 (.slice a.2.2.2.2.1 a.2.2.2.2.2.1 a.2.2.2.2.2.2) (([] : List Calc) ++ k1.Code) :: W1) ?_ ?_
 refine cdr 23 [] mixo (fun ht hn => (dR 0 R (vFa 0 fo64_0 R) (dR 1 R (vLd 1 ag22 R R R) (dR 3 R (vFa 2 fo64_2 R) (dR 4 R (vFa 2 fo61_0 R) (dR 5 R (vLd 1 ag3 R R R) (dR 6 R (vFa 2 fo64_2 R) (dR 7 R (vFa 3 fo61_1 R) (dR 8 R (vLd 1 ag3 R R R) (dR 9 R (vFa 2 fo64_2 R) (dR 10 R (vFa 4 fo61_2 R) (dR 11 R (vLd 1 ag22 R R R) (dR 14 R (vFa 5 fo64_3 R) (dR 15 R (vLd 1 ag4 R R R) (dR 17 R (vFa 6 fo64_4 R) (dR 18 R (vLd 1 ag62 R R R) (d_all [2, 16, 21] (by kernel_rfl) R ⟨?_, ?_, ?_, trivial⟩)))))))))))))))))
 refine lM (RR kT3 A2 D2 k1.Loops :: _ :: W1) (fun w s => (s.d 2 R)) ?_
 refine lC 1 cb34 R (Zc_ok hx9) R ?_
 rintro ⟨A10, N10, D10⟩
 refine lN (ow kT3 3 (.slice A10 N10 D10) r8 :: _ :: W1) ?_
 refine l_len 0 sees_ow ?_
 rintro rfl
 refine l_nil (q_draw (sL [0]) (d_all [12, 16, 21] (by kernel_rfl) R ⟨?_, ?_, ?_, trivial⟩))
 refine lM (RR kT3 A4 D4 k1.Store.Steps :: _ :: _ :: W1) (fun w s => (s.d 5 R)) ?_
 refine lC 1 cb34 R (Zc_ok hx12) R ?_
 rintro ⟨A13, N13, D13⟩
 refine lN (ow kT3 3 (.slice A13 N13 D13) r11 :: _ :: _ :: W1) ?_
 refine l_len 0 sees_ow ?_
 rintro rfl
 refine l_nil (q_draw (sL [1, 0]) (dR 13 R (vz (.agg [(iv k1.Store.Buffer), (iv k1.Store.Offset), (sc A13 r11 D13)].toArray) (v_build pl61 zc61 R R)) (hS := (sL [1, 0])) (d_all [16, 21] (by kernel_rfl) R ⟨?_, ?_, trivial⟩)))
 refine l_build (K := kT101) (xs := ([] : List Calc)) (vs := []) 0 R R sl62 sz101 zc101 R R R R R R ?_ R (fun A14 D14 => ?_)
 exact fun I h s => (mO101).list [] I h s
 refine lN (OO kT101 101 A14 D14 ([] : List Calc) :: _ :: _ :: _ :: W1) ?_
 refine l_nil (q_draw (sL [2, 1, 0]) (d_all [19, 21] (by kernel_rfl) R ⟨?_, ?_, trivial⟩))
 refine lM (_ :: RR kT101 A5 D5 k1.Code :: _ :: _ :: _ :: W1) (fun w s => ((s.dup 8 R).mv 1)) ?_
 refine l_app (K := kT101) 5864062014805 R R sl62 sz101 by101 (Zr.zk zT101 zc101) R R R R R R (src_rd (Kind.iso_flat (Kind.pair_flat (Kind.scal_flat _ _) (Kind.pair_flat (Kind.scal_flat _ _) (Kind.scal_flat _ _))) _)) hg15 (fun A16 D16 => (lN (OO kT101 101 A16 D16 (([] : List Calc) ++ k1.Code) :: _ :: _ :: _ :: W1) ?_))
 refine l_nil (q_draw (sL [2, 1, 0]) (dR 20 R (vz (.agg [(sc A10 r8 D10), (.slice none 0 0), (iv k1.Store.Buffer), (iv k1.Store.Offset), (sc A13 r11 D13), (.bool k1.Sum), (sc A16 (([] : List Calc) ++ k1.Code) D16)].toArray) (v_build pl64 zc64 R R)) (hS := (sL [2, 1, 0])) (d1 21 R (l_alloc R R zc64 (fun b17 => (l_nil (q_draw (sL [3, 2, 1, 0]) (d1 22 R (l_stores 0 R R sz64 R R R R R R (lN (bxl b17 [(sc A10 r8 D10), (.slice none 0 0), (iv k1.Store.Buffer), (iv k1.Store.Offset), (sc A13 r11 D13), (.bool k1.Sum), (sc A16 (([] : List Calc) ++ k1.Code) D16)] 64 :: _ :: _ :: _ :: _ :: W1) ?_))))))))))
 refine l_nil (q_draw (sL [3, 2, 1, 0]) (dD ?_))
 exact q_join ((), (b17, (A10, r8.length, D10), (A13, r11.length, D13), (A16, (([] : List Calc) ++ k1.Code).length, D16))) trivial (aS R) (fun w s => (s.e 5 [4, 0, 3, 2, 1]))
 refine l_alloc R R zc64 (fun b17 => (l_nil (q_draw (sL [3, 2, 1, 0]) (d1 19 R (lM (OO kT101 101 A14 D14 ([] : List Calc) :: RR kT101 A5 D5 k1.Code :: _ :: _ :: _ :: _ :: W1) (fun w s => ((s.dup 9 R).mv 2)) ?_)))))
 refine l_app (K := kT101) 5864062014805 R R sl62 sz101 by101 (Zr.zk zT101 zc101) R R R R R R (src_rd (Kind.iso_flat (Kind.pair_flat (Kind.scal_flat _ _) (Kind.pair_flat (Kind.scal_flat _ _) (Kind.scal_flat _ _))) _)) hg15 (fun A16 D16 => (lN (OO kT101 101 A16 D16 (([] : List Calc) ++ k1.Code) :: _ :: _ :: _ :: _ :: W1) ?_))
 refine l_nil (q_draw (sL [3, 2, 1, 0]) (dR 20 R (vz (.agg [(sc A10 r8 D10), (.slice none 0 0), (iv k1.Store.Buffer), (iv k1.Store.Offset), (sc A13 r11 D13), (.bool k1.Sum), (sc A16 (([] : List Calc) ++ k1.Code) D16)].toArray) (v_build pl64 zc64 R R)) (hS := (sL [3, 2, 1, 0])) (d1 22 R (l_stores 1 R R sz64 R R R R R R (lN (_ :: bxl b17 [(sc A10 r8 D10), (.slice none 0 0), (iv k1.Store.Buffer), (iv k1.Store.Offset), (sc A13 r11 D13), (.bool k1.Sum), (sc A16 (([] : List Calc) ++ k1.Code) D16)] 64 :: _ :: _ :: _ :: W1) ?_)))))
 refine l_nil (q_draw (sL [3, 2, 1, 0]) (dD ?_))
 exact q_join ((), (b17, (A10, r8.length, D10), (A13, r11.length, D13), (A16, (([] : List Calc) ++ k1.Code).length, D16))) trivial (aS R) (fun w s => (s.e 5 [4, 1, 3, 2, 0]))
 refine l_alloc R R zc64 (fun b17 => (l_nil (q_draw (sL [2, 1, 0]) (d1 16 R (l_build (K := kT101) (xs := ([] : List Calc)) (vs := []) 0 R R sl62 sz101 zc101 R R R R R R ?_ R (fun A14 D14 => ?_))))))
 exact fun I h s => (mO101).list [] I h s
 refine lN (OO kT101 101 A14 D14 ([] : List Calc) :: _ :: _ :: _ :: _ :: W1) ?_
 refine l_nil (q_draw (sL [3, 2, 1, 0]) (d1 19 R (lM (_ :: RR kT101 A5 D5 k1.Code :: _ :: _ :: _ :: _ :: W1) (fun w s => ((s.dup 9 R).mv 1)) ?_)))
 refine l_app (K := kT101) 5864062014805 R R sl62 sz101 by101 (Zr.zk zT101 zc101) R R R R R R (src_rd (Kind.iso_flat (Kind.pair_flat (Kind.scal_flat _ _) (Kind.pair_flat (Kind.scal_flat _ _) (Kind.scal_flat _ _))) _)) hg15 (fun A16 D16 => (lN (OO kT101 101 A16 D16 (([] : List Calc) ++ k1.Code) :: _ :: _ :: _ :: _ :: W1) ?_))
 refine l_nil (q_draw (sL [3, 2, 1, 0]) (dR 20 R (vz (.agg [(sc A10 r8 D10), (.slice none 0 0), (iv k1.Store.Buffer), (iv k1.Store.Offset), (sc A13 r11 D13), (.bool k1.Sum), (sc A16 (([] : List Calc) ++ k1.Code) D16)].toArray) (v_build pl64 zc64 R R)) (hS := (sL [3, 2, 1, 0])) (d1 22 R (l_stores 1 R R sz64 R R R R R R (lN (_ :: bxl b17 [(sc A10 r8 D10), (.slice none 0 0), (iv k1.Store.Buffer), (iv k1.Store.Offset), (sc A13 r11 D13), (.bool k1.Sum), (sc A16 (([] : List Calc) ++ k1.Code) D16)] 64 :: _ :: _ :: _ :: W1) ?_)))))
 refine l_nil (q_draw (sL [3, 2, 1, 0]) (dD ?_))
 exact q_join ((), (b17, (A10, r8.length, D10), (A13, r11.length, D13), (A16, (([] : List Calc) ++ k1.Code).length, D16))) trivial (aS R) (fun w s => (s.e 5 [4, 1, 3, 2, 0]))
 refine l_build (K := kT101) (xs := ([] : List Calc)) (vs := []) 0 R R sl62 sz101 zc101 R R R R R R ?_ R (fun A14 D14 => ?_)
 exact fun I h s => (mO101).list [] I h s
 refine lN (OO kT101 101 A14 D14 ([] : List Calc) :: _ :: _ :: W1) ?_
 refine l_nil (q_draw (sL [1, 0]) (d_all [12, 21] (by kernel_rfl) R ⟨?_, ?_, trivial⟩))
 refine lM (RR kT3 A4 D4 k1.Store.Steps :: _ :: _ :: _ :: W1) (fun w s => (s.d 6 R)) ?_
 refine lC 1 cb34 R (Zc_ok hx12) R ?_
 rintro ⟨A13, N13, D13⟩
 refine lN (ow kT3 3 (.slice A13 N13 D13) r11 :: _ :: _ :: _ :: W1) ?_
 refine l_len 0 sees_ow ?_
 rintro rfl
 refine l_nil (q_draw (sL [2, 1, 0]) (dR 13 R (vz (.agg [(iv k1.Store.Buffer), (iv k1.Store.Offset), (sc A13 r11 D13)].toArray) (v_build pl61 zc61 R R)) (hS := (sL [2, 1, 0])) (d_all [19, 21] (by kernel_rfl) R ⟨?_, ?_, trivial⟩)))
 refine lM (_ :: RR kT101 A5 D5 k1.Code :: _ :: _ :: _ :: W1) (fun w s => ((s.dup 8 R).mv 2)) ?_
 refine l_app (K := kT101) 5864062014805 R R sl62 sz101 by101 (Zr.zk zT101 zc101) R R R R R R (src_rd (Kind.iso_flat (Kind.pair_flat (Kind.scal_flat _ _) (Kind.pair_flat (Kind.scal_flat _ _) (Kind.scal_flat _ _))) _)) hg15 (fun A16 D16 => (lN (OO kT101 101 A16 D16 (([] : List Calc) ++ k1.Code) :: _ :: _ :: _ :: W1) ?_))
 refine l_nil (q_draw (sL [2, 1, 0]) (dR 20 R (vz (.agg [(sc A10 r8 D10), (.slice none 0 0), (iv k1.Store.Buffer), (iv k1.Store.Offset), (sc A13 r11 D13), (.bool k1.Sum), (sc A16 (([] : List Calc) ++ k1.Code) D16)].toArray) (v_build pl64 zc64 R R)) (hS := (sL [2, 1, 0])) (d1 21 R (l_alloc R R zc64 (fun b17 => (l_nil (q_draw (sL [3, 2, 1, 0]) (d1 22 R (l_stores 0 R R sz64 R R R R R R (lN (bxl b17 [(sc A10 r8 D10), (.slice none 0 0), (iv k1.Store.Buffer), (iv k1.Store.Offset), (sc A13 r11 D13), (.bool k1.Sum), (sc A16 (([] : List Calc) ++ k1.Code) D16)] 64 :: _ :: _ :: _ :: _ :: W1) ?_))))))))))
 refine l_nil (q_draw (sL [3, 2, 1, 0]) (dD ?_))
 exact q_join ((), (b17, (A10, r8.length, D10), (A13, r11.length, D13), (A16, (([] : List Calc) ++ k1.Code).length, D16))) trivial (aS R) (fun w s => (s.e 5 [4, 0, 3, 2, 1]))
 refine l_alloc R R zc64 (fun b17 => (l_nil (q_draw (sL [3, 2, 1, 0]) (d1 19 R (lM (OO kT101 101 A14 D14 ([] : List Calc) :: RR kT101 A5 D5 k1.Code :: _ :: _ :: _ :: _ :: W1) (fun w s => ((s.dup 9 R).mv 3)) ?_)))))
 refine l_app (K := kT101) 5864062014805 R R sl62 sz101 by101 (Zr.zk zT101 zc101) R R R R R R (src_rd (Kind.iso_flat (Kind.pair_flat (Kind.scal_flat _ _) (Kind.pair_flat (Kind.scal_flat _ _) (Kind.scal_flat _ _))) _)) hg15 (fun A16 D16 => (lN (OO kT101 101 A16 D16 (([] : List Calc) ++ k1.Code) :: _ :: _ :: _ :: _ :: W1) ?_))
 refine l_nil (q_draw (sL [3, 2, 1, 0]) (dR 20 R (vz (.agg [(sc A10 r8 D10), (.slice none 0 0), (iv k1.Store.Buffer), (iv k1.Store.Offset), (sc A13 r11 D13), (.bool k1.Sum), (sc A16 (([] : List Calc) ++ k1.Code) D16)].toArray) (v_build pl64 zc64 R R)) (hS := (sL [3, 2, 1, 0])) (d1 22 R (l_stores 1 R R sz64 R R R R R R (lN (_ :: bxl b17 [(sc A10 r8 D10), (.slice none 0 0), (iv k1.Store.Buffer), (iv k1.Store.Offset), (sc A13 r11 D13), (.bool k1.Sum), (sc A16 (([] : List Calc) ++ k1.Code) D16)] 64 :: _ :: _ :: _ :: W1) ?_)))))
 refine l_nil (q_draw (sL [3, 2, 1, 0]) (dD ?_))
 exact q_join ((), (b17, (A10, r8.length, D10), (A13, r11.length, D13), (A16, (([] : List Calc) ++ k1.Code).length, D16))) trivial (aS R) (fun w s => (s.e 5 [4, 1, 3, 2, 0]))
 refine l_alloc R R zc64 (fun b17 => (l_nil (q_draw (sL [2, 1, 0]) (d1 12 R (lM (RR kT3 A4 D4 k1.Store.Steps :: _ :: OO kT101 101 A14 D14 ([] : List Calc) :: _ :: _ :: W1) (fun w s => (s.d 7 R)) ?_)))))
 refine lC 1 cb34 R (Zc_ok hx12) R ?_
 rintro ⟨A13, N13, D13⟩
 refine lN (ow kT3 3 (.slice A13 N13 D13) r11 :: _ :: _ :: _ :: _ :: W1) ?_
 refine l_len 0 sees_ow ?_
 rintro rfl
 refine l_nil (q_draw (sL [3, 2, 1, 0]) (dR 13 R (vz (.agg [(iv k1.Store.Buffer), (iv k1.Store.Offset), (sc A13 r11 D13)].toArray) (v_build pl61 zc61 R R)) (hS := (sL [3, 2, 1, 0])) (d1 19 R (lM (_ :: RR kT101 A5 D5 k1.Code :: _ :: _ :: _ :: _ :: W1) (fun w s => ((s.dup 9 R).mv 3)) ?_))))
 refine l_app (K := kT101) 5864062014805 R R sl62 sz101 by101 (Zr.zk zT101 zc101) R R R R R R (src_rd (Kind.iso_flat (Kind.pair_flat (Kind.scal_flat _ _) (Kind.pair_flat (Kind.scal_flat _ _) (Kind.scal_flat _ _))) _)) hg15 (fun A16 D16 => (lN (OO kT101 101 A16 D16 (([] : List Calc) ++ k1.Code) :: _ :: _ :: _ :: _ :: W1) ?_))
 refine l_nil (q_draw (sL [3, 2, 1, 0]) (dR 20 R (vz (.agg [(sc A10 r8 D10), (.slice none 0 0), (iv k1.Store.Buffer), (iv k1.Store.Offset), (sc A13 r11 D13), (.bool k1.Sum), (sc A16 (([] : List Calc) ++ k1.Code) D16)].toArray) (v_build pl64 zc64 R R)) (hS := (sL [3, 2, 1, 0])) (d1 22 R (l_stores 2 R R sz64 R R R R R R (lN (_ :: _ :: bxl b17 [(sc A10 r8 D10), (.slice none 0 0), (iv k1.Store.Buffer), (iv k1.Store.Offset), (sc A13 r11 D13), (.bool k1.Sum), (sc A16 (([] : List Calc) ++ k1.Code) D16)] 64 :: _ :: _ :: W1) ?_)))))
 refine l_nil (q_draw (sL [3, 2, 1, 0]) (dD ?_))
 exact q_join ((), (b17, (A10, r8.length, D10), (A13, r11.length, D13), (A16, (([] : List Calc) ++ k1.Code).length, D16))) trivial (aS R) (fun w s => (s.e 5 [4, 2, 3, 1, 0]))
 refine l_alloc R R zc64 (fun b17 => (l_nil (q_draw (sL [1, 0]) (d_all [12, 16] (by kernel_rfl) R ⟨?_, ?_, trivial⟩))))
 refine lM (RR kT3 A4 D4 k1.Store.Steps :: _ :: _ :: _ :: W1) (fun w s => (s.d 6 R)) ?_
 refine lC 1 cb34 R (Zc_ok hx12) R ?_
 rintro ⟨A13, N13, D13⟩
 refine lN (ow kT3 3 (.slice A13 N13 D13) r11 :: _ :: _ :: _ :: W1) ?_
 refine l_len 0 sees_ow ?_
 rintro rfl
 refine l_nil (q_draw (sL [2, 1, 0]) (dR 13 R (vz (.agg [(iv k1.Store.Buffer), (iv k1.Store.Offset), (sc A13 r11 D13)].toArray) (v_build pl61 zc61 R R)) (hS := (sL [2, 1, 0])) (d1 16 R (l_build (K := kT101) (xs := ([] : List Calc)) (vs := []) 0 R R sl62 sz101 zc101 R R R R R R ?_ R (fun A14 D14 => ?_)))))
 exact fun I h s => (mO101).list [] I h s
 refine lN (OO kT101 101 A14 D14 ([] : List Calc) :: _ :: _ :: _ :: _ :: W1) ?_
 refine l_nil (q_draw (sL [3, 2, 1, 0]) (d1 19 R (lM (_ :: RR kT101 A5 D5 k1.Code :: _ :: _ :: _ :: _ :: W1) (fun w s => ((s.dup 9 R).mv 1)) ?_)))
 refine l_app (K := kT101) 5864062014805 R R sl62 sz101 by101 (Zr.zk zT101 zc101) R R R R R R (src_rd (Kind.iso_flat (Kind.pair_flat (Kind.scal_flat _ _) (Kind.pair_flat (Kind.scal_flat _ _) (Kind.scal_flat _ _))) _)) hg15 (fun A16 D16 => (lN (OO kT101 101 A16 D16 (([] : List Calc) ++ k1.Code) :: _ :: _ :: _ :: _ :: W1) ?_))
 refine l_nil (q_draw (sL [3, 2, 1, 0]) (dR 20 R (vz (.agg [(sc A10 r8 D10), (.slice none 0 0), (iv k1.Store.Buffer), (iv k1.Store.Offset), (sc A13 r11 D13), (.bool k1.Sum), (sc A16 (([] : List Calc) ++ k1.Code) D16)].toArray) (v_build pl64 zc64 R R)) (hS := (sL [3, 2, 1, 0])) (d1 22 R (l_stores 2 R R sz64 R R R R R R (lN (_ :: _ :: bxl b17 [(sc A10 r8 D10), (.slice none 0 0), (iv k1.Store.Buffer), (iv k1.Store.Offset), (sc A13 r11 D13), (.bool k1.Sum), (sc A16 (([] : List Calc) ++ k1.Code) D16)] 64 :: _ :: _ :: W1) ?_)))))
 refine l_nil (q_draw (sL [3, 2, 1, 0]) (dD ?_))
 exact q_join ((), (b17, (A10, r8.length, D10), (A13, r11.length, D13), (A16, (([] : List Calc) ++ k1.Code).length, D16))) trivial (aS R) (fun w s => (s.e 5 [4, 2, 3, 1, 0]))
 refine l_build (K := kT101) (xs := ([] : List Calc)) (vs := []) 0 R R sl62 sz101 zc101 R R R R R R ?_ R (fun A14 D14 => ?_)
 exact fun I h s => (mO101).list [] I h s
 refine lN (OO kT101 101 A14 D14 ([] : List Calc) :: bxl b17 [(.slice none 0 0), (.slice none 0 0), (iv 0), (iv 0), (.slice none 0 0), (.bool false), (.slice none 0 0)] 64 :: _ :: _ :: W1) ?_
 refine l_nil (q_draw (sL [2, 1, 0]) (d1 12 R (lM (RR kT3 A4 D4 k1.Store.Steps :: _ :: _ :: _ :: _ :: W1) (fun w s => (s.d 7 R)) ?_)))
 refine lC 1 cb34 R (Zc_ok hx12) R ?_
 rintro ⟨A13, N13, D13⟩
 refine lN (ow kT3 3 (.slice A13 N13 D13) r11 :: _ :: _ :: _ :: _ :: W1) ?_
 refine l_len 0 sees_ow ?_
 rintro rfl
 refine l_nil (q_draw (sL [3, 2, 1, 0]) (dR 13 R (vz (.agg [(iv k1.Store.Buffer), (iv k1.Store.Offset), (sc A13 r11 D13)].toArray) (v_build pl61 zc61 R R)) (hS := (sL [3, 2, 1, 0])) (d1 19 R (lM (_ :: RR kT101 A5 D5 k1.Code :: _ :: _ :: _ :: _ :: W1) (fun w s => ((s.dup 9 R).mv 2)) ?_))))
 refine l_app (K := kT101) 5864062014805 R R sl62 sz101 by101 (Zr.zk zT101 zc101) R R R R R R (src_rd (Kind.iso_flat (Kind.pair_flat (Kind.scal_flat _ _) (Kind.pair_flat (Kind.scal_flat _ _) (Kind.scal_flat _ _))) _)) hg15 (fun A16 D16 => (lN (OO kT101 101 A16 D16 (([] : List Calc) ++ k1.Code) :: _ :: _ :: _ :: _ :: W1) ?_))
 refine l_nil (q_draw (sL [3, 2, 1, 0]) (dR 20 R (vz (.agg [(sc A10 r8 D10), (.slice none 0 0), (iv k1.Store.Buffer), (iv k1.Store.Offset), (sc A13 r11 D13), (.bool k1.Sum), (sc A16 (([] : List Calc) ++ k1.Code) D16)].toArray) (v_build pl64 zc64 R R)) (hS := (sL [3, 2, 1, 0])) (d1 22 R (l_stores 2 R R sz64 R R R R R R (lN (_ :: _ :: bxl b17 [(sc A10 r8 D10), (.slice none 0 0), (iv k1.Store.Buffer), (iv k1.Store.Offset), (sc A13 r11 D13), (.bool k1.Sum), (sc A16 (([] : List Calc) ++ k1.Code) D16)] 64 :: _ :: _ :: W1) ?_)))))
 refine l_nil (q_draw (sL [3, 2, 1, 0]) (dD ?_))
 exact q_join ((), (b17, (A10, r8.length, D10), (A13, r11.length, D13), (A16, (([] : List Calc) ++ k1.Code).length, D16))) trivial (aS R) (fun w s => (s.e 5 [4, 2, 3, 1, 0]))
 refine l_build (K := kT101) (xs := ([] : List Calc)) (vs := []) 0 R R sl62 sz101 zc101 R R R R R R ?_ R (fun A14 D14 => ?_)
 exact fun I h s => (mO101).list [] I h s
 refine lN (OO kT101 101 A14 D14 ([] : List Calc) :: _ :: W1) ?_
 refine l_nil (q_draw (sL [0]) (d_all [2, 21] (by kernel_rfl) R ⟨?_, ?_, trivial⟩))
 refine lM (RR kT3 A2 D2 k1.Loops :: _ :: _ :: W1) (fun w s => (s.d 3 R)) ?_
 refine lC 1 cb34 R (Zc_ok hx9) R ?_
 rintro ⟨A10, N10, D10⟩
 refine lN (ow kT3 3 (.slice A10 N10 D10) r8 :: _ :: _ :: W1) ?_
 refine l_len 0 sees_ow ?_
 rintro rfl
 refine l_nil (q_draw (sL [1, 0]) (d_all [12, 21] (by kernel_rfl) R ⟨?_, ?_, trivial⟩))
 refine lM (RR kT3 A4 D4 k1.Store.Steps :: _ :: _ :: _ :: W1) (fun w s => (s.d 6 R)) ?_
 refine lC 1 cb34 R (Zc_ok hx12) R ?_
 rintro ⟨A13, N13, D13⟩
 refine lN (ow kT3 3 (.slice A13 N13 D13) r11 :: _ :: _ :: _ :: W1) ?_
 refine l_len 0 sees_ow ?_
 rintro rfl
 refine l_nil (q_draw (sL [2, 1, 0]) (dR 13 R (vz (.agg [(iv k1.Store.Buffer), (iv k1.Store.Offset), (sc A13 r11 D13)].toArray) (v_build pl61 zc61 R R)) (hS := (sL [2, 1, 0])) (d_all [19, 21] (by kernel_rfl) R ⟨?_, ?_, trivial⟩)))
 refine lM (_ :: RR kT101 A5 D5 k1.Code :: _ :: _ :: _ :: W1) (fun w s => ((s.dup 8 R).mv 3)) ?_
 refine l_app (K := kT101) 5864062014805 R R sl62 sz101 by101 (Zr.zk zT101 zc101) R R R R R R (src_rd (Kind.iso_flat (Kind.pair_flat (Kind.scal_flat _ _) (Kind.pair_flat (Kind.scal_flat _ _) (Kind.scal_flat _ _))) _)) hg15 (fun A16 D16 => (lN (OO kT101 101 A16 D16 (([] : List Calc) ++ k1.Code) :: _ :: _ :: _ :: W1) ?_))
 refine l_nil (q_draw (sL [2, 1, 0]) (dR 20 R (vz (.agg [(sc A10 r8 D10), (.slice none 0 0), (iv k1.Store.Buffer), (iv k1.Store.Offset), (sc A13 r11 D13), (.bool k1.Sum), (sc A16 (([] : List Calc) ++ k1.Code) D16)].toArray) (v_build pl64 zc64 R R)) (hS := (sL [2, 1, 0])) (d1 21 R (l_alloc R R zc64 (fun b17 => (l_nil (q_draw (sL [3, 2, 1, 0]) (d1 22 R (l_stores 0 R R sz64 R R R R R R (lN (bxl b17 [(sc A10 r8 D10), (.slice none 0 0), (iv k1.Store.Buffer), (iv k1.Store.Offset), (sc A13 r11 D13), (.bool k1.Sum), (sc A16 (([] : List Calc) ++ k1.Code) D16)] 64 :: _ :: _ :: _ :: _ :: W1) ?_))))))))))
 refine l_nil (q_draw (sL [3, 2, 1, 0]) (dD ?_))
 exact q_join ((), (b17, (A10, r8.length, D10), (A13, r11.length, D13), (A16, (([] : List Calc) ++ k1.Code).length, D16))) trivial (aS R) (fun w s => (s.e 5 [4, 0, 3, 2, 1]))
 refine l_alloc R R zc64 (fun b17 => (l_nil (q_draw (sL [3, 2, 1, 0]) (d1 19 R (lM (OO kT101 101 A14 D14 ([] : List Calc) :: RR kT101 A5 D5 k1.Code :: _ :: _ :: _ :: _ :: W1) (fun w s => ((s.dup 9 R).mv 4)) ?_)))))
 refine l_app (K := kT101) 5864062014805 R R sl62 sz101 by101 (Zr.zk zT101 zc101) R R R R R R (src_rd (Kind.iso_flat (Kind.pair_flat (Kind.scal_flat _ _) (Kind.pair_flat (Kind.scal_flat _ _) (Kind.scal_flat _ _))) _)) hg15 (fun A16 D16 => (lN (OO kT101 101 A16 D16 (([] : List Calc) ++ k1.Code) :: _ :: _ :: _ :: _ :: W1) ?_))
 refine l_nil (q_draw (sL [3, 2, 1, 0]) (dR 20 R (vz (.agg [(sc A10 r8 D10), (.slice none 0 0), (iv k1.Store.Buffer), (iv k1.Store.Offset), (sc A13 r11 D13), (.bool k1.Sum), (sc A16 (([] : List Calc) ++ k1.Code) D16)].toArray) (v_build pl64 zc64 R R)) (hS := (sL [3, 2, 1, 0])) (d1 22 R (l_stores 1 R R sz64 R R R R R R (lN (_ :: bxl b17 [(sc A10 r8 D10), (.slice none 0 0), (iv k1.Store.Buffer), (iv k1.Store.Offset), (sc A13 r11 D13), (.bool k1.Sum), (sc A16 (([] : List Calc) ++ k1.Code) D16)] 64 :: _ :: _ :: _ :: W1) ?_)))))
 refine l_nil (q_draw (sL [3, 2, 1, 0]) (dD ?_))
 exact q_join ((), (b17, (A10, r8.length, D10), (A13, r11.length, D13), (A16, (([] : List Calc) ++ k1.Code).length, D16))) trivial (aS R) (fun w s => (s.e 5 [4, 1, 3, 2, 0]))
 refine l_alloc R R zc64 (fun b17 => (l_nil (q_draw (sL [2, 1, 0]) (d1 12 R (lM (RR kT3 A4 D4 k1.Store.Steps :: _ :: _ :: OO kT101 101 A14 D14 ([] : List Calc) :: _ :: W1) (fun w s => (s.d 7 R)) ?_)))))
 refine lC 1 cb34 R (Zc_ok hx12) R ?_
 rintro ⟨A13, N13, D13⟩
 refine lN (ow kT3 3 (.slice A13 N13 D13) r11 :: _ :: _ :: _ :: _ :: W1) ?_
 refine l_len 0 sees_ow ?_
 rintro rfl
 refine l_nil (q_draw (sL [3, 2, 1, 0]) (dR 13 R (vz (.agg [(iv k1.Store.Buffer), (iv k1.Store.Offset), (sc A13 r11 D13)].toArray) (v_build pl61 zc61 R R)) (hS := (sL [3, 2, 1, 0])) (d1 19 R (lM (_ :: RR kT101 A5 D5 k1.Code :: _ :: _ :: _ :: _ :: W1) (fun w s => ((s.dup 9 R).mv 4)) ?_))))
 refine l_app (K := kT101) 5864062014805 R R sl62 sz101 by101 (Zr.zk zT101 zc101) R R R R R R (src_rd (Kind.iso_flat (Kind.pair_flat (Kind.scal_flat _ _) (Kind.pair_flat (Kind.scal_flat _ _) (Kind.scal_flat _ _))) _)) hg15 (fun A16 D16 => (lN (OO kT101 101 A16 D16 (([] : List Calc) ++ k1.Code) :: _ :: _ :: _ :: _ :: W1) ?_))
 refine l_nil (q_draw (sL [3, 2, 1, 0]) (dR 20 R (vz (.agg [(sc A10 r8 D10), (.slice none 0 0), (iv k1.Store.Buffer), (iv k1.Store.Offset), (sc A13 r11 D13), (.bool k1.Sum), (sc A16 (([] : List Calc) ++ k1.Code) D16)].toArray) (v_build pl64 zc64 R R)) (hS := (sL [3, 2, 1, 0])) (d1 22 R (l_stores 2 R R sz64 R R R R R R (lN (_ :: _ :: bxl b17 [(sc A10 r8 D10), (.slice none 0 0), (iv k1.Store.Buffer), (iv k1.Store.Offset), (sc A13 r11 D13), (.bool k1.Sum), (sc A16 (([] : List Calc) ++ k1.Code) D16)] 64 :: _ :: _ :: W1) ?_)))))
 refine l_nil (q_draw (sL [3, 2, 1, 0]) (dD ?_))
 exact q_join ((), (b17, (A10, r8.length, D10), (A13, r11.length, D13), (A16, (([] : List Calc) ++ k1.Code).length, D16))) trivial (aS R) (fun w s => (s.e 5 [4, 2, 3, 1, 0]))
 refine l_alloc R R zc64 (fun b17 => (l_nil (q_draw (sL [1, 0]) (d1 2 R (lM (RR kT3 A2 D2 k1.Loops :: _ :: OO kT101 101 A14 D14 ([] : List Calc) :: _ :: W1) (fun w s => (s.d 4 R)) ?_)))))
 refine lC 1 cb34 R (Zc_ok hx9) R ?_
 rintro ⟨A10, N10, D10⟩
 refine lN (ow kT3 3 (.slice A10 N10 D10) r8 :: _ :: _ :: _ :: W1) ?_
 refine l_len 0 sees_ow ?_
 rintro rfl
 refine l_nil (q_draw (sL [2, 1, 0]) (d1 12 R (lM (RR kT3 A4 D4 k1.Store.Steps :: _ :: _ :: _ :: _ :: W1) (fun w s => (s.d 7 R)) ?_)))
 refine lC 1 cb34 R (Zc_ok hx12) R ?_
 rintro ⟨A13, N13, D13⟩
 refine lN (ow kT3 3 (.slice A13 N13 D13) r11 :: _ :: _ :: _ :: _ :: W1) ?_
 refine l_len 0 sees_ow ?_
 rintro rfl
 refine l_nil (q_draw (sL [3, 2, 1, 0]) (dR 13 R (vz (.agg [(iv k1.Store.Buffer), (iv k1.Store.Offset), (sc A13 r11 D13)].toArray) (v_build pl61 zc61 R R)) (hS := (sL [3, 2, 1, 0])) (d1 19 R (lM (_ :: RR kT101 A5 D5 k1.Code :: _ :: _ :: _ :: _ :: W1) (fun w s => ((s.dup 9 R).mv 4)) ?_))))
 refine l_app (K := kT101) 5864062014805 R R sl62 sz101 by101 (Zr.zk zT101 zc101) R R R R R R (src_rd (Kind.iso_flat (Kind.pair_flat (Kind.scal_flat _ _) (Kind.pair_flat (Kind.scal_flat _ _) (Kind.scal_flat _ _))) _)) hg15 (fun A16 D16 => (lN (OO kT101 101 A16 D16 (([] : List Calc) ++ k1.Code) :: _ :: _ :: _ :: _ :: W1) ?_))
 refine l_nil (q_draw (sL [3, 2, 1, 0]) (dR 20 R (vz (.agg [(sc A10 r8 D10), (.slice none 0 0), (iv k1.Store.Buffer), (iv k1.Store.Offset), (sc A13 r11 D13), (.bool k1.Sum), (sc A16 (([] : List Calc) ++ k1.Code) D16)].toArray) (v_build pl64 zc64 R R)) (hS := (sL [3, 2, 1, 0])) (d1 22 R (l_stores 3 R R sz64 R R R R R R (lN (_ :: _ :: _ :: bxl b17 [(sc A10 r8 D10), (.slice none 0 0), (iv k1.Store.Buffer), (iv k1.Store.Offset), (sc A13 r11 D13), (.bool k1.Sum), (sc A16 (([] : List Calc) ++ k1.Code) D16)] 64 :: _ :: W1) ?_)))))
 refine l_nil (q_draw (sL [3, 2, 1, 0]) (dD ?_))
 exact q_join ((), (b17, (A10, r8.length, D10), (A13, r11.length, D13), (A16, (([] : List Calc) ++ k1.Code).length, D16))) trivial (aS R) (fun w s => (s.e 5 [4, 3, 2, 1, 0]))
 refine l_alloc R R zc64 (fun b17 => (l_nil (q_draw (sL [0]) (d_all [2, 16] (by kernel_rfl) R ⟨?_, ?_, trivial⟩))))
 refine lM (RR kT3 A2 D2 k1.Loops :: _ :: _ :: W1) (fun w s => (s.d 3 R)) ?_
 refine lC 1 cb34 R (Zc_ok hx9) R ?_
 rintro ⟨A10, N10, D10⟩
 refine lN (ow kT3 3 (.slice A10 N10 D10) r8 :: _ :: _ :: W1) ?_
 refine l_len 0 sees_ow ?_
 rintro rfl
 refine l_nil (q_draw (sL [1, 0]) (d_all [12, 16] (by kernel_rfl) R ⟨?_, ?_, trivial⟩))
 refine lM (RR kT3 A4 D4 k1.Store.Steps :: _ :: _ :: _ :: W1) (fun w s => (s.d 6 R)) ?_
 refine lC 1 cb34 R (Zc_ok hx12) R ?_
 rintro ⟨A13, N13, D13⟩
 refine lN (ow kT3 3 (.slice A13 N13 D13) r11 :: _ :: _ :: _ :: W1) ?_
 refine l_len 0 sees_ow ?_
 rintro rfl
 refine l_nil (q_draw (sL [2, 1, 0]) (dR 13 R (vz (.agg [(iv k1.Store.Buffer), (iv k1.Store.Offset), (sc A13 r11 D13)].toArray) (v_build pl61 zc61 R R)) (hS := (sL [2, 1, 0])) (d1 16 R (l_build (K := kT101) (xs := ([] : List Calc)) (vs := []) 0 R R sl62 sz101 zc101 R R R R R R ?_ R (fun A14 D14 => ?_)))))
 exact fun I h s => (mO101).list [] I h s
 refine lN (OO kT101 101 A14 D14 ([] : List Calc) :: _ :: _ :: _ :: _ :: W1) ?_
 refine l_nil (q_draw (sL [3, 2, 1, 0]) (d1 19 R (lM (_ :: RR kT101 A5 D5 k1.Code :: _ :: _ :: _ :: _ :: W1) (fun w s => ((s.dup 9 R).mv 1)) ?_)))
 refine l_app (K := kT101) 5864062014805 R R sl62 sz101 by101 (Zr.zk zT101 zc101) R R R R R R (src_rd (Kind.iso_flat (Kind.pair_flat (Kind.scal_flat _ _) (Kind.pair_flat (Kind.scal_flat _ _) (Kind.scal_flat _ _))) _)) hg15 (fun A16 D16 => (lN (OO kT101 101 A16 D16 (([] : List Calc) ++ k1.Code) :: _ :: _ :: _ :: _ :: W1) ?_))
 refine l_nil (q_draw (sL [3, 2, 1, 0]) (dR 20 R (vz (.agg [(sc A10 r8 D10), (.slice none 0 0), (iv k1.Store.Buffer), (iv k1.Store.Offset), (sc A13 r11 D13), (.bool k1.Sum), (sc A16 (([] : List Calc) ++ k1.Code) D16)].toArray) (v_build pl64 zc64 R R)) (hS := (sL [3, 2, 1, 0])) (d1 22 R (l_stores 3 R R sz64 R R R R R R (lN (_ :: _ :: _ :: bxl b17 [(sc A10 r8 D10), (.slice none 0 0), (iv k1.Store.Buffer), (iv k1.Store.Offset), (sc A13 r11 D13), (.bool k1.Sum), (sc A16 (([] : List Calc) ++ k1.Code) D16)] 64 :: _ :: W1) ?_)))))
 refine l_nil (q_draw (sL [3, 2, 1, 0]) (dD ?_))
 exact q_join ((), (b17, (A10, r8.length, D10), (A13, r11.length, D13), (A16, (([] : List Calc) ++ k1.Code).length, D16))) trivial (aS R) (fun w s => (s.e 5 [4, 3, 2, 1, 0]))
 refine l_build (K := kT101) (xs := ([] : List Calc)) (vs := []) 0 R R sl62 sz101 zc101 R R R R R R ?_ R (fun A14 D14 => ?_)
 exact fun I h s => (mO101).list [] I h s
 refine lN (OO kT101 101 A14 D14 ([] : List Calc) :: _ :: bxl b17 [(.slice none 0 0), (.slice none 0 0), (iv 0), (iv 0), (.slice none 0 0), (.bool false), (.slice none 0 0)] 64 :: _ :: W1) ?_
 refine l_nil (q_draw (sL [2, 1, 0]) (d1 12 R (lM (RR kT3 A4 D4 k1.Store.Steps :: _ :: _ :: _ :: _ :: W1) (fun w s => (s.d 7 R)) ?_)))
 refine lC 1 cb34 R (Zc_ok hx12) R ?_
 rintro ⟨A13, N13, D13⟩
 refine lN (ow kT3 3 (.slice A13 N13 D13) r11 :: _ :: _ :: _ :: _ :: W1) ?_
 refine l_len 0 sees_ow ?_
 rintro rfl
 refine l_nil (q_draw (sL [3, 2, 1, 0]) (dR 13 R (vz (.agg [(iv k1.Store.Buffer), (iv k1.Store.Offset), (sc A13 r11 D13)].toArray) (v_build pl61 zc61 R R)) (hS := (sL [3, 2, 1, 0])) (d1 19 R (lM (_ :: RR kT101 A5 D5 k1.Code :: _ :: _ :: _ :: _ :: W1) (fun w s => ((s.dup 9 R).mv 2)) ?_))))
 refine l_app (K := kT101) 5864062014805 R R sl62 sz101 by101 (Zr.zk zT101 zc101) R R R R R R (src_rd (Kind.iso_flat (Kind.pair_flat (Kind.scal_flat _ _) (Kind.pair_flat (Kind.scal_flat _ _) (Kind.scal_flat _ _))) _)) hg15 (fun A16 D16 => (lN (OO kT101 101 A16 D16 (([] : List Calc) ++ k1.Code) :: _ :: _ :: _ :: _ :: W1) ?_))
 refine l_nil (q_draw (sL [3, 2, 1, 0]) (dR 20 R (vz (.agg [(sc A10 r8 D10), (.slice none 0 0), (iv k1.Store.Buffer), (iv k1.Store.Offset), (sc A13 r11 D13), (.bool k1.Sum), (sc A16 (([] : List Calc) ++ k1.Code) D16)].toArray) (v_build pl64 zc64 R R)) (hS := (sL [3, 2, 1, 0])) (d1 22 R (l_stores 3 R R sz64 R R R R R R (lN (_ :: _ :: _ :: bxl b17 [(sc A10 r8 D10), (.slice none 0 0), (iv k1.Store.Buffer), (iv k1.Store.Offset), (sc A13 r11 D13), (.bool k1.Sum), (sc A16 (([] : List Calc) ++ k1.Code) D16)] 64 :: _ :: W1) ?_)))))
 refine l_nil (q_draw (sL [3, 2, 1, 0]) (dD ?_))
 exact q_join ((), (b17, (A10, r8.length, D10), (A13, r11.length, D13), (A16, (([] : List Calc) ++ k1.Code).length, D16))) trivial (aS R) (fun w s => (s.e 5 [4, 3, 2, 1, 0]))
 refine l_build (K := kT101) (xs := ([] : List Calc)) (vs := []) 0 R R sl62 sz101 zc101 R R R R R R ?_ R (fun A14 D14 => ?_)
 exact fun I h s => (mO101).list [] I h s
 refine lN (OO kT101 101 A14 D14 ([] : List Calc) :: bxl b17 [(.slice none 0 0), (.slice none 0 0), (iv 0), (iv 0), (.slice none 0 0), (.bool false), (.slice none 0 0)] 64 :: _ :: W1) ?_
 refine l_nil (q_draw (sL [1, 0]) (d1 2 R (lM (RR kT3 A2 D2 k1.Loops :: _ :: _ :: _ :: W1) (fun w s => (s.d 4 R)) ?_)))
 refine lC 1 cb34 R (Zc_ok hx9) R ?_
 rintro ⟨A10, N10, D10⟩
 refine lN (ow kT3 3 (.slice A10 N10 D10) r8 :: _ :: _ :: _ :: W1) ?_
 refine l_len 0 sees_ow ?_
 rintro rfl
 refine l_nil (q_draw (sL [2, 1, 0]) (d1 12 R (lM (RR kT3 A4 D4 k1.Store.Steps :: _ :: _ :: _ :: _ :: W1) (fun w s => (s.d 7 R)) ?_)))
 refine lC 1 cb34 R (Zc_ok hx12) R ?_
 rintro ⟨A13, N13, D13⟩
 refine lN (ow kT3 3 (.slice A13 N13 D13) r11 :: _ :: _ :: _ :: _ :: W1) ?_
 refine l_len 0 sees_ow ?_
 rintro rfl
 refine l_nil (q_draw (sL [3, 2, 1, 0]) (dR 13 R (vz (.agg [(iv k1.Store.Buffer), (iv k1.Store.Offset), (sc A13 r11 D13)].toArray) (v_build pl61 zc61 R R)) (hS := (sL [3, 2, 1, 0])) (d1 19 R (lM (_ :: RR kT101 A5 D5 k1.Code :: _ :: _ :: _ :: _ :: W1) (fun w s => ((s.dup 9 R).mv 3)) ?_))))
 refine l_app (K := kT101) 5864062014805 R R sl62 sz101 by101 (Zr.zk zT101 zc101) R R R R R R (src_rd (Kind.iso_flat (Kind.pair_flat (Kind.scal_flat _ _) (Kind.pair_flat (Kind.scal_flat _ _) (Kind.scal_flat _ _))) _)) hg15 (fun A16 D16 => (lN (OO kT101 101 A16 D16 (([] : List Calc) ++ k1.Code) :: _ :: _ :: _ :: _ :: W1) ?_))
 refine l_nil (q_draw (sL [3, 2, 1, 0]) (dR 20 R (vz (.agg [(sc A10 r8 D10), (.slice none 0 0), (iv k1.Store.Buffer), (iv k1.Store.Offset), (sc A13 r11 D13), (.bool k1.Sum), (sc A16 (([] : List Calc) ++ k1.Code) D16)].toArray) (v_build pl64 zc64 R R)) (hS := (sL [3, 2, 1, 0])) (d1 22 R (l_stores 3 R R sz64 R R R R R R (lN (_ :: _ :: _ :: bxl b17 [(sc A10 r8 D10), (.slice none 0 0), (iv k1.Store.Buffer), (iv k1.Store.Offset), (sc A13 r11 D13), (.bool k1.Sum), (sc A16 (([] : List Calc) ++ k1.Code) D16)] 64 :: _ :: W1) ?_)))))
 refine l_nil (q_draw (sL [3, 2, 1, 0]) (dD ?_))
 exact q_join ((), (b17, (A10, r8.length, D10), (A13, r11.length, D13), (A16, (([] : List Calc) ++ k1.Code).length, D16))) trivial (aS R) (fun w s => (s.e 5 [4, 3, 2, 1, 0]))
 rintro ⟨_, ⟨b18, ⟨A19, N19, D19⟩, ⟨A20, N20, D20⟩, ⟨A21, N21, D21⟩⟩⟩ σ1 -
 refine q_len 2 sees_ow (fun (hn : N19 = r8.length) => ?_)
 subst hn
 refine q_len 3 sees_ow (fun (hn : N20 = r11.length) => ?_)
 subst hn
 refine q_len 4 sees_ow (fun (hn : N21 = (([] : List Calc) ++ k1.Code).length) => ?_)
 subst hn
 refine q_next (c_seq (c_cut (A := ((List Access)) × (HH)) (fun a => Z01_J1 k1 r8 r11 a.1 = some r) (fun a => [(2, (pt b7 0)), (3, (pt b18 0))]) (fun a => bxl b7 [(.slice none 0 0), (.slice none 0 0), (iv 0), (iv 0), (.slice none 0 0), (.bool false), (.slice none 0 0)] 64 :: bxl b18 [(sc A19 r8 D19), (.slice a.2.1 a.2.2.1 a.2.2.2), (iv k1.Store.Buffer), (iv k1.Store.Offset), (sc A20 r11 D20), (.bool k1.Sum), (sc A21 (([] : List Calc) ++ k1.Code) D21)] 64 :: OO kT3 3 A19 D19 r8 :: ow kT61 61 (.slice a.2.1 a.2.2.1 a.2.2.2) a.1 :: OO kT3 3 A20 D20 r11 :: OO kT101 101 A21 D21 (([] : List Calc) ++ k1.Code) :: W1) ?_ ?_))
 refine c_seq (c_region (lI R (l_nil (q_next (c_block ?_)))))
 obtain ⟨e1, hl1, hk1⟩ := bd hr
 refine c_loop (A := HH) hl1 (fun s a => [(1, (pt b6 0)), (2, (pt b7 0)), (3, (pt b18 0)), (4, (iv s.2))]) (fun s a => bxl b7 [(.slice none 0 0), (.slice none 0 0), (iv 0), (iv 0), (.slice none 0 0), (.bool false), (.slice none 0 0)] 64 :: bxl b18 [(sc A19 r8 D19), (.slice a.1 a.2.1 a.2.2), (iv k1.Store.Buffer), (iv k1.Store.Offset), (sc A20 r11 D20), (.bool k1.Sum), (sc A21 (([] : List Calc) ++ k1.Code) D21)] 64 :: OO kT3 3 A19 D19 r8 :: ow kT61 61 (.slice a.1 a.2.1 a.2.2) s.1 :: OO kT3 3 A20 D20 r11 :: OO kT101 101 A21 D21 (([] : List Calc) ++ k1.Code) :: W1) (none, 0, 0) (aS R) (fun w s => ((s.nilo kT61 61).e 6 [1, 2, 3, 0, 4, 5])) ?_
 rintro ⟨x33, i35⟩ ⟨A34, N34, D34⟩ σ1 out1 hr he1
 replace hr : Z01_L1 k1 x33 i35 = some out1 := hr
 unfold Z01_L1 at hr
 refine c_len 3 sees_ow (fun (hn : N34 = x33.length) => ?_)
 subst hn
 refine c_seq (c_seq (c_region (lI R (lO (vFa 1 fo64_1 R) (lO (vLd 6 ag59 R R R) (lO (v_len sl59 R) (lO (vLt R R) (l_nil (q_next ?_)))))))))
 rcases bif_ hr with ⟨hb36, hr⟩ | ⟨hb36, hr⟩
 refine c_true R hb36 (c_skip (q_next (c_seq (c_block ?_))))
 obtain ⟨hg37, hr⟩ := gd hr
 obtain ⟨r41, hx42, hr⟩ := bd hr
 obtain ⟨hg45, hr⟩ := gd hr
 refine c_some 8 sees_rd (show 0 < k1.Loads.length by have := hg37; omega) (fun g38 o39 ha => ?_)
 subst ha
 refine c_elem (K := kT61) 8 i35 dT61.dec R hg37.1 hg37.2 ?_
 rintro ⟨-, -, ⟨A40, D40⟩⟩
 refine cN (cl g38 (o39 + i35.toNat * 3) [(iv (ix k1.Loads i35).Buffer), (iv (ix k1.Loads i35).Offset), (sc A40 ((ix k1.Loads i35).Steps) D40)] :: RR kT3 A40 D40 ((ix k1.Loads i35).Steps) :: _ :: bxl b18 [(sc A19 r8 D19), (sc A34 x33 D34), (iv k1.Store.Buffer), (iv k1.Store.Offset), (sc A20 r11 D20), (.bool k1.Sum), (sc A21 (([] : List Calc) ++ k1.Code) D21)] 64 :: OO kT3 3 A19 D19 r8 :: OO kT61 61 A34 D34 x33 :: OO kT3 3 A20 D20 r11 :: OO kT101 101 A21 D21 (([] : List Calc) ++ k1.Code) :: W1) ?_
 refine cdr 23 [] mixo (fun ht hn => (dR 0 R (vFa 1 fo64_1 R) (dR 1 R (vLd 3 ag59 R R R) (dR 2 R (vFa 1 fo64_1 R) (dR 3 R (vLd 8 ag59 R R R) (dR 4 R (vI R) (dR 5 R (vIa sl59 sz61 R R hg37) (dR 6 R (vz (.pointer (some ⟨g38, o39 + i35.toNat * 3, none⟩)) (v_fa fo61_0 R R)) (dR 7 R (vz (iv (ix k1.Loads i35).Buffer) (v_lde (K := kT61) (fo := 0) (pr := fun x => (iv x.Buffer)) 10 i35 ag3 (dT61.leaf fun _ _ => R) sees_rd R hg37.1 hg37.2)) (dR 8 R (vFa 1 fo64_1 R) (dR 9 R (vLd 8 ag59 R R R) (dR 10 R (vI R) (dR 11 R (vIa sl59 sz61 R R hg37) (dR 12 R (vz (.pointer (some ⟨g38, o39 + i35.toNat * 3 + 1, none⟩)) (v_fa fo61_1 R R)) (dR 13 R (vz (iv (ix k1.Loads i35).Offset) (v_lde (K := kT61) (fo := 1) (pr := fun x => (iv x.Offset)) 10 i35 ag3 (dT61.leaf fun _ _ => R) sees_rd R hg37.1 hg37.2)) (dR 14 R (vFa 1 fo64_1 R) (dR 15 R (vLd 8 ag59 R R R) (dR 16 R (vI R) (dR 17 R (vIa sl59 sz61 R R hg37) (dR 18 R (vz (.pointer (some ⟨g38, o39 + i35.toNat * 3 + 2, none⟩)) (v_fa fo61_2 R R)) (dR 19 R (v_clf (fo := 2) 0 ag22 R R R) (d1 20 R (lM (_ :: _ :: _ :: _ :: _ :: _ :: _ :: _ :: _ :: W1) (fun w s => (s.d 1 R)) ?_)))))))))))))))))))))))
 refine lC 1 cb34 R (Zc_ok hx42) R ?_
 rintro ⟨A43, N43, D43⟩
 refine lN (ow kT3 3 (.slice A43 N43 D43) r41 :: _ :: _ :: _ :: _ :: _ :: _ :: _ :: _ :: W1) ?_
 refine l_len 0 sees_ow ?_
 rintro rfl
 refine l_nil (q_draw (sL [0]) (dR 21 R (vz (.agg [(iv (ix k1.Loads i35).Buffer), (iv (ix k1.Loads i35).Offset), (sc A43 r41 D43)].toArray) (v_build pl61 zc61 R R)) (hS := (sL [0])) (d1 22 R (l_build (K := kT61) (xs := ([(⟨(ix k1.Loads i35).Buffer, (ix k1.Loads i35).Offset, r41⟩ : Access)] : List Access)) (vs := [(.agg [(iv (ix k1.Loads i35).Buffer), (iv (ix k1.Loads i35).Offset), (sc A43 r41 D43)].toArray)]) 1 R R sl59 sz61 zc61 R R R R R R ?_ R (fun A44 D44 => ?_)))))
 exact fun I h s => (mO61).list [(((), (), (sc A43 r41 D43)), (⟨(ix k1.Loads i35).Buffer, (ix k1.Loads i35).Offset, r41⟩ : Access))] I h s
 refine lN (OO kT61 61 A44 D44 ([(⟨(ix k1.Loads i35).Buffer, (ix k1.Loads i35).Offset, r41⟩ : Access)] : List Access) :: _ :: _ :: _ :: _ :: _ :: _ :: _ :: _ :: W1) ?_
 refine l_nil (q_draw (sL [0]) (d1 23 R (lM (ow _ _ _ _ :: ow _ _ _ _ :: cl _ _ _ :: rds _ _ _ :: bxl _ _ _ :: bxl _ _ _ :: ow _ _ _ _ :: ow _ _ _ _ :: ow _ _ _ _ :: W1) (fun w s => (s.f 9 [6, 1, 0, 6, 7, 2])) ?_)))
 refine l_app (K := kT61) 3518437208883 R R sl59 sz61 by61 (Zr.zk zT61 zc61) R R R R R R src_ow hg45 (fun A46 D46 => (lN (OO kT61 61 A46 D46 (x33 ++ ([(⟨(ix k1.Loads i35).Buffer, (ix k1.Loads i35).Offset, r41⟩ : Access)] : List Access)) :: _ :: _ :: _ :: _ :: _ :: _ :: _ :: W1) ?_))
 refine l_nil (qE (d1 24 R (lO (vFa 1 fo64_1 R) (l_nil (qE (d1 25 R (l_store 4 R R sz59 R R R R R (lN (_ :: _ :: _ :: _ :: bxl b18 [(sc A19 r8 D19), (sc A46 (x33 ++ ([(⟨(ix k1.Loads i35).Buffer, (ix k1.Loads i35).Offset, r41⟩ : Access)] : List Access)) D46), (iv k1.Store.Buffer), (iv k1.Store.Offset), (sc A20 r11 D20), (.bool k1.Sum), (sc A21 (([] : List Calc) ++ k1.Code) D21)] 64 :: _ :: _ :: _ :: W1) ?_))))))))
 refine l_nil (qE (dD (q_blockn (q_next (c_region (lI R (lO (vAd R R) (lI R (l_nil ?_)))))))))
 obtain rfl := so hr
 exact qA (A46, (x33 ++ ([(⟨(ix k1.Loads i35).Buffer, (ix k1.Loads i35).Offset, r41⟩ : Access)] : List Access)).length, D46) (fun w s => (s.e 8 [3, 4, 5, 0, 6, 7]))
 refine c_false R hb36 (c_exit (q_exit ?_))
 obtain rfl := so hr
 obtain rfl := he1 _ R
 have hr := hk1
 refine q_exit (q_block ?_)
 exact qI (x33, (A34, x33.length, D34)) hr (fun w s => s)
 rintro ⟨x50, ⟨A51, N51, D51⟩⟩ σ1 hr
 replace hr : Z01_J1 k1 r8 r11 x50 = some r := hr
 unfold Z01_J1 at hr
 refine c_len 3 sees_ow (fun (hn : N51 = x50.length) => ?_)
 subst hn
 refine c_seq (c_region (lO (vz (.agg [(sc A19 r8 D19), (sc A51 x50 D51), (iv k1.Store.Buffer), (iv k1.Store.Offset), (sc A20 r11 D20), (.bool k1.Sum), (sc A21 (([] : List Calc) ++ k1.Code) D21)].toArray) (v_loadw 1 ag64 sz64 R R R R)) (l_stores 0 R R sz64 R R R R R R (lN (bxl b7 [(sc A19 r8 D19), (sc A51 x50 D51), (iv k1.Store.Buffer), (iv k1.Store.Offset), (sc A20 r11 D20), (.bool k1.Sum), (sc A21 (([] : List Calc) ++ k1.Code) D21)] 64 :: bxl b18 [(sc A19 r8 D19), (sc A51 x50 D51), (iv k1.Store.Buffer), (iv k1.Store.Offset), (sc A20 r11 D20), (.bool k1.Sum), (sc A21 (([] : List Calc) ++ k1.Code) D21)] 64 :: _ :: OO kT61 61 A51 D51 x50 :: _ :: _ :: W1) ?_))))
 refine l_nil (q_next (c_ret ?_))
 obtain rfl := so hr
 exact q_fin (vs := [(.agg [(sc A19 r8 D19), (sc A51 x50 D51), (iv k1.Store.Buffer), (iv k1.Store.Offset), (sc A20 r11 D20), (.bool k1.Sum), (sc A21 (([] : List Calc) ++ k1.Code) D21)].toArray)]) (.inl R) ((A19, r8.length, D19), (A51, x50.length, D51), (A20, r11.length, D20), (A21, (([] : List Calc) ++ k1.Code).length, D21)) R ⟨⟨0, b7, _, _, R, R, .inl ⟨ag64, sz64, R⟩⟩, trivial⟩ R (fun w s => (s.f 11 [2, 4]))
theorem Zg_ok  {l1 : Nest} {r : Nest} (hr : Zg l1 = some r) :
 FnOk Tryz.prog 50 [(.agg [(.slice A2 N2 D2), (.slice A3 N3 D3), (.slice A4 N4 D4), (.slice A5 N5 D5), (.slice A6 N6 D6)].toArray)] [rds kT3 (.slice A2 N2 D2) l1.Sizes, rds kT3 (.slice A3 N3 D3) l1.Ins, rds kT57 (.slice A4 N4 D4) l1.Fixed, rds kT64 (.slice A5 N5 D5) l1.Kernels, rds kT3 (.slice A6 N6 D6) l1.Outs] (fun (h : HH × HH × HH × HH × HH) => ((.agg [(.slice h.1.1 h.1.2.1 h.1.2.2), (.slice h.2.1.1 h.2.1.2.1 h.2.1.2.2), (.slice h.2.2.1.1 h.2.2.1.2.1 h.2.2.1.2.2), (.slice h.2.2.2.1.1 h.2.2.2.1.2.1 h.2.2.2.1.2.2), (.slice h.2.2.2.2.1 h.2.2.2.2.2.1 h.2.2.2.2.2.2)].toArray), [ow kT3 3 (.slice h.1.1 h.1.2.1 h.1.2.2) r.Sizes, ow kT3 3 (.slice h.2.1.1 h.2.1.2.1 h.2.1.2.2) r.Ins, ow kT57 57 (.slice h.2.2.1.1 h.2.2.1.2.1 h.2.2.1.2.2) r.Fixed, ow kT64 64 (.slice h.2.2.2.1.1 h.2.2.2.1.2.1 h.2.2.2.1.2.2) r.Kernels, ow kT3 3 (.slice h.2.2.2.2.1 h.2.2.2.2.2.1 h.2.2.2.2.2.2) r.Outs])) := by
 unfold Zg at hr
 refine fn_ok Tryz.func50 R 61 R R fun C V => ?_
 refine cN (_ :: _ :: _ :: _ :: _ :: V) ?_
 refine cL 0 sees_rd ?_
 rintro rfl
 refine cL 1 sees_rd ?_
 rintro rfl
 refine cL 2 sees_rd ?_
 rintro rfl
 refine cL 3 sees_rd ?_
 rintro rfl
 refine cL 4 sees_rd ?_
 rintro rfl
 let W0 : List HP := RR kT3 A2 D2 l1.Sizes :: RR kT3 A3 D3 l1.Ins :: RR kT57 A4 D4 l1.Fixed :: RR kT64 A5 D5 l1.Kernels :: RR kT3 A6 D6 l1.Outs :: V
 refine cN W0 ?_
 refine c_seq (c_region (lBx R (fun b7 => (l_alloc R R zc36 (fun b8 => (l_nil ?_))))))
 let W1 : List HP := bxl b7 [(sc A2 l1.Sizes D2), (sc A3 l1.Ins D3), (sc A4 l1.Fixed D4), (sc A5 l1.Kernels D5), (sc A6 l1.Outs D6)] 36 :: W0
 refine qN (_ :: W1) ?_
 refine q_next (c_seq ?_)
 obtain ⟨r9, hx10, hr⟩ := bd hr
 obtain ⟨r12, hx13, hr⟩ := bd hr
 obtain ⟨r15, hx16, hr⟩ := bd hr
 refine c_cutq (A := (Unit) × (Nat × HH × HH × HH)) (fun _ => True) (fun a => [(1, (pt b7 0)), (2, (pt b8 0)), (3, (pt a.2.1 0))]) (fun a => bxl b8 [(.slice none 0 0), (.slice none 0 0), (.slice none 0 0), (.slice none 0 0), (.slice none 0 0)] 36 :: bxl a.2.1 [(.slice a.2.2.1.1 a.2.2.1.2.1 a.2.2.1.2.2), (.slice a.2.2.2.1.1 a.2.2.2.1.2.1 a.2.2.2.1.2.2), (.slice none 0 0), (.slice none 0 0), (.slice a.2.2.2.2.1 a.2.2.2.2.2.1 a.2.2.2.2.2.2)] 36 :: ow kT3 3 (.slice a.2.2.1.1 a.2.2.1.2.1 a.2.2.1.2.2) r9 :: ow kT3 3 (.slice a.2.2.2.1.1 a.2.2.2.1.2.1 a.2.2.2.1.2.2) r12 :: ow kT3 3 (.slice a.2.2.2.2.1 a.2.2.2.2.2.1 a.2.2.2.2.2.2) r15 :: W1) ?_ ?_
 refine cdr 12 [] mixo (fun ht hn => (dR 0 R (vFa 0 fo36_0 R) (dR 1 R (vLd 1 ag22 R R R) (dR 3 R (vFa 1 fo36_1 R) (dR 4 R (vLd 1 ag22 R R R) (dR 6 R (vFa 4 fo36_4 R) (dR 7 R (vLd 1 ag22 R R R) (d_all [2, 10] (by kernel_rfl) R ⟨?_, ?_, trivial⟩))))))))
 refine lM (RR kT3 A2 D2 l1.Sizes :: _ :: W1) (fun w s => (s.d 2 R)) ?_
 refine lC 1 cb34 R (Zc_ok hx10) R ?_
 rintro ⟨A11, N11, D11⟩
 refine lN (ow kT3 3 (.slice A11 N11 D11) r9 :: _ :: W1) ?_
 refine l_len 0 sees_ow ?_
 rintro rfl
 refine l_nil (q_draw (sL [0]) (d_all [5, 10] (by kernel_rfl) R ⟨?_, ?_, trivial⟩))
 refine lM (RR kT3 A3 D3 l1.Ins :: _ :: _ :: W1) (fun w s => (s.d 4 R)) ?_
 refine lC 1 cb34 R (Zc_ok hx13) R ?_
 rintro ⟨A14, N14, D14⟩
 refine lN (ow kT3 3 (.slice A14 N14 D14) r12 :: _ :: _ :: W1) ?_
 refine l_len 0 sees_ow ?_
 rintro rfl
 refine l_nil (q_draw (sL [1, 0]) (d_all [8, 10] (by kernel_rfl) R ⟨?_, ?_, trivial⟩))
 refine lM (RR kT3 A6 D6 l1.Outs :: _ :: _ :: _ :: W1) (fun w s => (s.d 8 R)) ?_
 refine lC 1 cb34 R (Zc_ok hx16) R ?_
 rintro ⟨A17, N17, D17⟩
 refine lN (ow kT3 3 (.slice A17 N17 D17) r15 :: _ :: _ :: _ :: W1) ?_
 refine l_len 0 sees_ow ?_
 rintro rfl
 refine l_nil (q_draw (sL [2, 1, 0]) (dR 9 R (vz (.agg [(sc A11 r9 D11), (sc A14 r12 D14), (.slice none 0 0), (.slice none 0 0), (sc A17 r15 D17)].toArray) (v_build pl36 zc36 R R)) (hS := (sL [2, 1, 0])) (d1 10 R (l_alloc R R zc36 (fun b18 => (l_nil (q_draw (sL [3, 2, 1, 0]) (d1 11 R (l_stores 0 R R sz36 R R R R R R (lN (bxl b18 [(sc A11 r9 D11), (sc A14 r12 D14), (.slice none 0 0), (.slice none 0 0), (sc A17 r15 D17)] 36 :: _ :: _ :: _ :: _ :: W1) ?_))))))))))
 refine l_nil (q_draw (sL [3, 2, 1, 0]) (dD ?_))
 exact q_join ((), (b18, (A11, r9.length, D11), (A14, r12.length, D14), (A17, r15.length, D17))) trivial (aS R) (fun w s => (s.e 5 [4, 0, 3, 2, 1]))
 refine l_alloc R R zc36 (fun b18 => (l_nil (q_draw (sL [2, 1, 0]) (d1 8 R (lM (RR kT3 A6 D6 l1.Outs :: _ :: _ :: _ :: _ :: W1) (fun w s => (s.d 9 R)) ?_)))))
 refine lC 1 cb34 R (Zc_ok hx16) R ?_
 rintro ⟨A17, N17, D17⟩
 refine lN (ow kT3 3 (.slice A17 N17 D17) r15 :: _ :: _ :: _ :: _ :: W1) ?_
 refine l_len 0 sees_ow ?_
 rintro rfl
 refine l_nil (q_draw (sL [3, 2, 1, 0]) (dR 9 R (vz (.agg [(sc A11 r9 D11), (sc A14 r12 D14), (.slice none 0 0), (.slice none 0 0), (sc A17 r15 D17)].toArray) (v_build pl36 zc36 R R)) (hS := (sL [3, 2, 1, 0])) (d1 11 R (l_stores 1 R R sz36 R R R R R R (lN (_ :: bxl b18 [(sc A11 r9 D11), (sc A14 r12 D14), (.slice none 0 0), (.slice none 0 0), (sc A17 r15 D17)] 36 :: _ :: _ :: _ :: W1) ?_)))))
 refine l_nil (q_draw (sL [3, 2, 1, 0]) (dD ?_))
 exact q_join ((), (b18, (A11, r9.length, D11), (A14, r12.length, D14), (A17, r15.length, D17))) trivial (aS R) (fun w s => (s.e 5 [4, 1, 3, 2, 0]))
 refine l_alloc R R zc36 (fun b18 => (l_nil (q_draw (sL [1, 0]) (d1 5 R (lM (RR kT3 A3 D3 l1.Ins :: _ :: _ :: _ :: W1) (fun w s => (s.d 5 R)) ?_)))))
 refine lC 1 cb34 R (Zc_ok hx13) R ?_
 rintro ⟨A14, N14, D14⟩
 refine lN (ow kT3 3 (.slice A14 N14 D14) r12 :: _ :: _ :: _ :: W1) ?_
 refine l_len 0 sees_ow ?_
 rintro rfl
 refine l_nil (q_draw (sL [2, 1, 0]) (d1 8 R (lM (RR kT3 A6 D6 l1.Outs :: _ :: _ :: _ :: _ :: W1) (fun w s => (s.d 9 R)) ?_)))
 refine lC 1 cb34 R (Zc_ok hx16) R ?_
 rintro ⟨A17, N17, D17⟩
 refine lN (ow kT3 3 (.slice A17 N17 D17) r15 :: _ :: _ :: _ :: _ :: W1) ?_
 refine l_len 0 sees_ow ?_
 rintro rfl
 refine l_nil (q_draw (sL [3, 2, 1, 0]) (dR 9 R (vz (.agg [(sc A11 r9 D11), (sc A14 r12 D14), (.slice none 0 0), (.slice none 0 0), (sc A17 r15 D17)].toArray) (v_build pl36 zc36 R R)) (hS := (sL [3, 2, 1, 0])) (d1 11 R (l_stores 2 R R sz36 R R R R R R (lN (_ :: _ :: bxl b18 [(sc A11 r9 D11), (sc A14 r12 D14), (.slice none 0 0), (.slice none 0 0), (sc A17 r15 D17)] 36 :: _ :: _ :: W1) ?_)))))
 refine l_nil (q_draw (sL [3, 2, 1, 0]) (dD ?_))
 exact q_join ((), (b18, (A11, r9.length, D11), (A14, r12.length, D14), (A17, r15.length, D17))) trivial (aS R) (fun w s => (s.e 5 [4, 2, 3, 1, 0]))
 refine l_alloc R R zc36 (fun b18 => (l_nil (q_draw (sL [0]) (d1 2 R (lM (RR kT3 A2 D2 l1.Sizes :: _ :: _ :: W1) (fun w s => (s.d 3 R)) ?_)))))
 refine lC 1 cb34 R (Zc_ok hx10) R ?_
 rintro ⟨A11, N11, D11⟩
 refine lN (ow kT3 3 (.slice A11 N11 D11) r9 :: _ :: _ :: W1) ?_
 refine l_len 0 sees_ow ?_
 rintro rfl
 refine l_nil (q_draw (sL [1, 0]) (d1 5 R (lM (RR kT3 A3 D3 l1.Ins :: _ :: _ :: _ :: W1) (fun w s => (s.d 5 R)) ?_)))
 refine lC 1 cb34 R (Zc_ok hx13) R ?_
 rintro ⟨A14, N14, D14⟩
 refine lN (ow kT3 3 (.slice A14 N14 D14) r12 :: _ :: _ :: _ :: W1) ?_
 refine l_len 0 sees_ow ?_
 rintro rfl
 refine l_nil (q_draw (sL [2, 1, 0]) (d1 8 R (lM (RR kT3 A6 D6 l1.Outs :: _ :: _ :: _ :: _ :: W1) (fun w s => (s.d 9 R)) ?_)))
 refine lC 1 cb34 R (Zc_ok hx16) R ?_
 rintro ⟨A17, N17, D17⟩
 refine lN (ow kT3 3 (.slice A17 N17 D17) r15 :: _ :: _ :: _ :: _ :: W1) ?_
 refine l_len 0 sees_ow ?_
 rintro rfl
 refine l_nil (q_draw (sL [3, 2, 1, 0]) (dR 9 R (vz (.agg [(sc A11 r9 D11), (sc A14 r12 D14), (.slice none 0 0), (.slice none 0 0), (sc A17 r15 D17)].toArray) (v_build pl36 zc36 R R)) (hS := (sL [3, 2, 1, 0])) (d1 11 R (l_stores 3 R R sz36 R R R R R R (lN (_ :: _ :: _ :: bxl b18 [(sc A11 r9 D11), (sc A14 r12 D14), (.slice none 0 0), (.slice none 0 0), (sc A17 r15 D17)] 36 :: _ :: W1) ?_)))))
 refine l_nil (q_draw (sL [3, 2, 1, 0]) (dD ?_))
 exact q_join ((), (b18, (A11, r9.length, D11), (A14, r12.length, D14), (A17, r15.length, D17))) trivial (aS R) (fun w s => (s.e 5 [4, 3, 2, 1, 0]))
 rintro ⟨_, ⟨b19, ⟨A20, N20, D20⟩, ⟨A21, N21, D21⟩, ⟨A22, N22, D22⟩⟩⟩ σ1 -
 refine q_len 2 sees_ow (fun (hn : N20 = r9.length) => ?_)
 subst hn
 refine q_len 3 sees_ow (fun (hn : N21 = r12.length) => ?_)
 subst hn
 refine q_len 4 sees_ow (fun (hn : N22 = r15.length) => ?_)
 subst hn
 refine q_next (c_seq (c_cut (A := ((List Fix)) × (HH)) (fun a => Zg_J1 l1 r9 r12 r15 a.1 = some r) (fun a => [(1, (pt b7 0)), (2, (pt b8 0)), (3, (pt b19 0))]) (fun a => bxl b8 [(.slice none 0 0), (.slice none 0 0), (.slice none 0 0), (.slice none 0 0), (.slice none 0 0)] 36 :: bxl b19 [(sc A20 r9 D20), (sc A21 r12 D21), (.slice a.2.1 a.2.2.1 a.2.2.2), (.slice none 0 0), (sc A22 r15 D22)] 36 :: OO kT3 3 A20 D20 r9 :: OO kT3 3 A21 D21 r12 :: ow kT57 57 (.slice a.2.1 a.2.2.1 a.2.2.2) a.1 :: OO kT3 3 A22 D22 r15 :: W1) ?_ ?_))
 refine c_seq (c_region (lI R (l_nil (q_next (c_block ?_)))))
 obtain ⟨e1, hl1, hk1⟩ := bd hr
 refine c_loop (A := HH) hl1 (fun s a => [(1, (pt b7 0)), (2, (pt b8 0)), (3, (pt b19 0)), (4, (iv s.2))]) (fun s a => bxl b8 [(.slice none 0 0), (.slice none 0 0), (.slice none 0 0), (.slice none 0 0), (.slice none 0 0)] 36 :: bxl b19 [(sc A20 r9 D20), (sc A21 r12 D21), (.slice a.1 a.2.1 a.2.2), (.slice none 0 0), (sc A22 r15 D22)] 36 :: OO kT3 3 A20 D20 r9 :: OO kT3 3 A21 D21 r12 :: ow kT57 57 (.slice a.1 a.2.1 a.2.2) s.1 :: OO kT3 3 A22 D22 r15 :: W1) (none, 0, 0) (aS R) (fun w s => ((s.nilo kT57 57).e 6 [1, 2, 3, 4, 0, 5])) ?_
 rintro ⟨x34, i36⟩ ⟨A35, N35, D35⟩ σ1 out1 hr he1
 replace hr : Zg_L1 l1 x34 i36 = some out1 := hr
 unfold Zg_L1 at hr
 refine c_len 4 sees_ow (fun (hn : N35 = x34.length) => ?_)
 subst hn
 refine c_seq (c_seq (c_region (lI R (lO (vFa 2 fo36_2 R) (lO (vLd 6 ag33 R R R) (lO (v_len sl33 R) (lO (vLt R R) (l_nil (q_next ?_)))))))))
 rcases bif_ hr with ⟨hb37, hr⟩ | ⟨hb37, hr⟩
 refine c_true R hb37 (c_skip (q_next (c_seq (c_block ?_))))
 obtain ⟨hg38, hr⟩ := gd hr
 obtain ⟨r42, hx43, hr⟩ := bd hr
 obtain ⟨hg46, hr⟩ := gd hr
 refine c_some 9 sees_rd (show 0 < l1.Fixed.length by have := hg38; omega) (fun g39 o40 ha => ?_)
 subst ha
 refine c_elem (K := kT57) 9 i36 dT57.dec R hg38.1 hg38.2 ?_
 rintro ⟨-, ⟨A41, D41⟩⟩
 refine cN (cl g39 (o40 + i36.toNat * 2) [(iv (ix l1.Fixed i36).Buffer), (sc A41 ((ix l1.Fixed i36).Data) D41)] :: RR kT3 A41 D41 ((ix l1.Fixed i36).Data) :: _ :: bxl b19 [(sc A20 r9 D20), (sc A21 r12 D21), (sc A35 x34 D35), (.slice none 0 0), (sc A22 r15 D22)] 36 :: OO kT3 3 A20 D20 r9 :: OO kT3 3 A21 D21 r12 :: OO kT57 57 A35 D35 x34 :: OO kT3 3 A22 D22 r15 :: W1) ?_
 refine cdr 17 [] mixo (fun ht hn => (dR 0 R (vFa 2 fo36_2 R) (dR 1 R (vLd 3 ag33 R R R) (dR 2 R (vFa 2 fo36_2 R) (dR 3 R (vLd 8 ag33 R R R) (dR 4 R (vI R) (dR 5 R (vIa sl33 sz57 R R hg38) (dR 6 R (vz (.pointer (some ⟨g39, o40 + i36.toNat * 2, none⟩)) (v_fa fo57_0 R R)) (dR 7 R (vz (iv (ix l1.Fixed i36).Buffer) (v_lde (K := kT57) (fo := 0) (pr := fun x => (iv x.Buffer)) 11 i36 ag3 (dT57.leaf fun _ _ => R) sees_rd R hg38.1 hg38.2)) (dR 8 R (vFa 2 fo36_2 R) (dR 9 R (vLd 8 ag33 R R R) (dR 10 R (vI R) (dR 11 R (vIa sl33 sz57 R R hg38) (dR 12 R (vz (.pointer (some ⟨g39, o40 + i36.toNat * 2 + 1, none⟩)) (v_fa fo57_1 R R)) (dR 13 R (v_clf (fo := 1) 0 ag22 R R R) (d1 14 R (lM (_ :: _ :: _ :: _ :: _ :: _ :: _ :: _ :: _ :: W1) (fun w s => (s.d 1 R)) ?_)))))))))))))))))
 refine lC 1 cb34 R (Zc_ok hx43) R ?_
 rintro ⟨A44, N44, D44⟩
 refine lN (ow kT3 3 (.slice A44 N44 D44) r42 :: _ :: _ :: _ :: _ :: _ :: _ :: _ :: _ :: W1) ?_
 refine l_len 0 sees_ow ?_
 rintro rfl
 refine l_nil (q_draw (sL [0]) (dR 15 R (vz (.agg [(iv (ix l1.Fixed i36).Buffer), (sc A44 r42 D44)].toArray) (v_build pl57 zc57 R R)) (hS := (sL [0])) (d1 16 R (l_build (K := kT57) (xs := ([(⟨(ix l1.Fixed i36).Buffer, r42⟩ : Fix)] : List Fix)) (vs := [(.agg [(iv (ix l1.Fixed i36).Buffer), (sc A44 r42 D44)].toArray)]) 1 R R sl33 sz57 zc57 R R R R R R ?_ R (fun A45 D45 => ?_)))))
 exact fun I h s => (mO57).list [(((), (sc A44 r42 D44)), (⟨(ix l1.Fixed i36).Buffer, r42⟩ : Fix))] I h s
 refine lN (OO kT57 57 A45 D45 ([(⟨(ix l1.Fixed i36).Buffer, r42⟩ : Fix)] : List Fix) :: _ :: _ :: _ :: _ :: _ :: _ :: _ :: _ :: W1) ?_
 refine l_nil (q_draw (sL [0]) (d1 17 R (lM (ow _ _ _ _ :: ow _ _ _ _ :: cl _ _ _ :: rds _ _ _ :: bxl _ _ _ :: bxl _ _ _ :: ow _ _ _ _ :: ow _ _ _ _ :: ow _ _ _ _ :: W1) (fun w s => (s.f 9 [7, 1, 0, 7, 8, 1])) ?_)))
 refine l_app (K := kT57) 4398046511104 R R sl33 sz57 by57 (Zr.zk zT57 zc57) R R R R R R src_ow hg46 (fun A47 D47 => (lN (OO kT57 57 A47 D47 (x34 ++ ([(⟨(ix l1.Fixed i36).Buffer, r42⟩ : Fix)] : List Fix)) :: _ :: _ :: _ :: _ :: _ :: _ :: _ :: W1) ?_))
 refine l_nil (qE (d1 18 R (lO (vFa 2 fo36_2 R) (l_nil (qE (d1 19 R (l_store 4 R R sz33 R R R R R (lN (_ :: _ :: _ :: _ :: bxl b19 [(sc A20 r9 D20), (sc A21 r12 D21), (sc A47 (x34 ++ ([(⟨(ix l1.Fixed i36).Buffer, r42⟩ : Fix)] : List Fix)) D47), (.slice none 0 0), (sc A22 r15 D22)] 36 :: _ :: _ :: _ :: W1) ?_))))))))
 refine l_nil (qE (dD (q_blockn (q_next (c_region (lI R (lO (vAd R R) (lI R (l_nil ?_)))))))))
 obtain rfl := so hr
 exact qA (A47, (x34 ++ ([(⟨(ix l1.Fixed i36).Buffer, r42⟩ : Fix)] : List Fix)).length, D47) (fun w s => (s.e 8 [3, 4, 5, 6, 0, 7]))
 refine c_false R hb37 (c_exit (q_exit ?_))
 obtain rfl := so hr
 obtain rfl := he1 _ R
 have hr := hk1
 refine q_exit (q_block ?_)
 exact qI (x34, (A35, x34.length, D35)) hr (fun w s => s)
 rintro ⟨x51, ⟨A52, N52, D52⟩⟩ σ1 hr
 replace hr : Zg_J1 l1 r9 r12 r15 x51 = some r := hr
 unfold Zg_J1 at hr
 refine c_len 4 sees_ow (fun (hn : N52 = x51.length) => ?_)
 subst hn
 refine c_seq (c_cut (A := ((List Kernel)) × (HH)) (fun a => Zg_J2 r9 r12 r15 x51 a.1 = some r) (fun a => [(2, (pt b8 0)), (3, (pt b19 0))]) (fun a => bxl b8 [(.slice none 0 0), (.slice none 0 0), (.slice none 0 0), (.slice none 0 0), (.slice none 0 0)] 36 :: bxl b19 [(sc A20 r9 D20), (sc A21 r12 D21), (sc A52 x51 D52), (.slice a.2.1 a.2.2.1 a.2.2.2), (sc A22 r15 D22)] 36 :: OO kT3 3 A20 D20 r9 :: OO kT3 3 A21 D21 r12 :: OO kT57 57 A52 D52 x51 :: ow kT64 64 (.slice a.2.1 a.2.2.1 a.2.2.2) a.1 :: OO kT3 3 A22 D22 r15 :: W1) ?_ ?_)
 refine c_seq (c_region (lI R (l_nil (q_next (c_block ?_)))))
 obtain ⟨e2, hl2, hk2⟩ := bd hr
 refine c_loop (A := HH) hl2 (fun s a => [(1, (pt b7 0)), (2, (pt b8 0)), (3, (pt b19 0)), (5, (iv s.2))]) (fun s a => bxl b8 [(.slice none 0 0), (.slice none 0 0), (.slice none 0 0), (.slice none 0 0), (.slice none 0 0)] 36 :: bxl b19 [(sc A20 r9 D20), (sc A21 r12 D21), (sc A52 x51 D52), (.slice a.1 a.2.1 a.2.2), (sc A22 r15 D22)] 36 :: OO kT3 3 A20 D20 r9 :: OO kT3 3 A21 D21 r12 :: OO kT57 57 A52 D52 x51 :: ow kT64 64 (.slice a.1 a.2.1 a.2.2) s.1 :: OO kT3 3 A22 D22 r15 :: W1) (none, 0, 0) (aS R) (fun w s => ((s.nilo kT64 64).f 7 [1, 5, 0, 1, 6, 1])) ?_
 rintro ⟨x70, i72⟩ ⟨A71, N71, D71⟩ σ1 out2 hr he2
 replace hr : Zg_L2 l1 x70 i72 = some out2 := hr
 unfold Zg_L2 at hr
 refine c_len 5 sees_ow (fun (hn : N71 = x70.length) => ?_)
 subst hn
 refine c_seq (c_seq (c_region (lI R (lO (vFa 3 fo36_3 R) (lO (vLd 7 ag34 R R R) (lO (v_len sl34 R) (lO (vLt R R) (l_nil (q_next ?_)))))))))
 rcases bif_ hr with ⟨hb73, hr⟩ | ⟨hb73, hr⟩
 refine c_true R hb73 (c_skip (q_next (c_seq (c_block ?_))))
 obtain ⟨hg74, hr⟩ := gd hr
 obtain ⟨r81, hx82, hr⟩ := bd hr
 obtain ⟨hg88, hr⟩ := gd hr
 refine c_some 11 sees_rd (show 0 < l1.Kernels.length by have := hg74; omega) (fun g75 o76 ha => ?_)
 subst ha
 refine c_elem (K := kT64) 11 i72 dT64.dec R hg74.1 hg74.2 ?_
 rintro ⟨⟨A77, D77⟩, ⟨A78, D78⟩, ⟨-, -, ⟨A79, D79⟩⟩, -, ⟨A80, D80⟩⟩
 refine cN (cl g75 (o76 + i72.toNat * 7) [(sc A77 ((ix l1.Kernels i72).Loops) D77), (sc A78 ((ix l1.Kernels i72).Loads) D78), (iv (ix l1.Kernels i72).Store.Buffer), (iv (ix l1.Kernels i72).Store.Offset), (sc A79 ((ix l1.Kernels i72).Store.Steps) D79), (.bool (ix l1.Kernels i72).Sum), (sc A80 ((ix l1.Kernels i72).Code) D80)] :: RR kT3 A77 D77 ((ix l1.Kernels i72).Loops) :: RR kT61 A78 D78 ((ix l1.Kernels i72).Loads) :: RR kT3 A79 D79 ((ix l1.Kernels i72).Store.Steps) :: RR kT101 A80 D80 ((ix l1.Kernels i72).Code) :: _ :: bxl b19 [(sc A20 r9 D20), (sc A21 r12 D21), (sc A52 x51 D52), (sc A71 x70 D71), (sc A22 r15 D22)] 36 :: _ :: _ :: OO kT57 57 A52 D52 x51 :: OO kT64 64 A71 D71 x70 :: _ :: W1) ?_
 refine cdr 9 [] mixo (fun ht hn => (dR 0 R (vFa 3 fo36_3 R) (dR 1 R (vLd 6 ag34 R R R) (dR 2 R (vFa 3 fo36_3 R) (dR 3 R (vLd 12 ag34 R R R) (dR 4 R (vI R) (dR 5 R (vIa sl34 sz64 R R hg74) (dR 6 R (vz (.agg [(sc A77 ((ix l1.Kernels i72).Loops) D77), (sc A78 ((ix l1.Kernels i72).Loads) D78), (iv (ix l1.Kernels i72).Store.Buffer), (iv (ix l1.Kernels i72).Store.Offset), (sc A79 ((ix l1.Kernels i72).Store.Steps) D79), (.bool (ix l1.Kernels i72).Sum), (sc A80 ((ix l1.Kernels i72).Code) D80)].toArray) (v_clfs (fo := 0) 0 ag64 sz64 R R R R)) (d1 7 R (lM (rds _ _ _ :: rds _ _ _ :: rds _ _ _ :: rds _ _ _ :: cl _ _ _ :: rds _ _ _ :: rds _ _ _ :: rds _ _ _ :: rds _ _ _ :: bxl _ _ _ :: bxl _ _ _ :: ow _ _ _ _ :: ow _ _ _ _ :: ow _ _ _ _ :: ow _ _ _ _ :: ow _ _ _ _ :: W1) (fun w s => (((((s.d 1 R).d 3 R).d 5 R).d 7 R).f 16 [3, 1, 2, 1, 1, 1, 0, 1, 4, 12])) ?_))))))))))
 refine lC 4 cb89 R (Z01_ok hx82) R ?_
 rintro ⟨⟨A83, N83, D83⟩, ⟨A84, N84, D84⟩, ⟨A85, N85, D85⟩, ⟨A86, N86, D86⟩⟩
 refine lN (ow kT3 3 (.slice A83 N83 D83) r81.Loops :: ow kT61 61 (.slice A84 N84 D84) r81.Loads :: ow kT3 3 (.slice A85 N85 D85) r81.Store.Steps :: ow kT101 101 (.slice A86 N86 D86) r81.Code :: _ :: _ :: _ :: _ :: _ :: _ :: _ :: _ :: _ :: _ :: _ :: _ :: W1) ?_
 refine l_len 0 sees_ow ?_
 rintro rfl
 refine l_len 1 sees_ow ?_
 rintro rfl
 refine l_len 2 sees_ow ?_
 rintro rfl
 refine l_len 3 sees_ow ?_
 rintro rfl
 refine l_nil (q_draw (sL [3, 2, 1, 0]) (d1 8 R (l_build (K := kT64) (xs := ([r81] : List Kernel)) (vs := [(.agg [(sc A83 r81.Loops D83), (sc A84 r81.Loads D84), (iv r81.Store.Buffer), (iv r81.Store.Offset), (sc A85 r81.Store.Steps D85), (.bool r81.Sum), (sc A86 r81.Code D86)].toArray)]) 4 R R sl34 sz64 zc64 R R R R R R ?_ R (fun A87 D87 => ?_))))
 exact fun I h s => (mO64).list [(((sc A83 r81.Loops D83), (sc A84 r81.Loads D84), ((), (), (sc A85 r81.Store.Steps D85)), (), (sc A86 r81.Code D86)), r81)] I h s
 refine lN (OO kT64 64 A87 D87 ([r81] : List Kernel) :: _ :: _ :: _ :: _ :: _ :: _ :: _ :: _ :: _ :: _ :: _ :: _ :: W1) ?_
 refine l_nil (q_draw (sL [0]) (d1 9 R (lM (ow _ _ _ _ :: ow _ _ _ _ :: cl _ _ _ :: rds _ _ _ :: rds _ _ _ :: rds _ _ _ :: rds _ _ _ :: bxl _ _ _ :: bxl _ _ _ :: ow _ _ _ _ :: ow _ _ _ _ :: ow _ _ _ _ :: ow _ _ _ _ :: W1) (fun w s => (s.f 13 [11, 1, 0, 11, 12, 1])) ?_)))
 refine l_app (K := kT64) 1172812402961 R R sl34 sz64 by64 (Zr.zk zT64 zc64) R R R R R R src_ow hg88 (fun A89 D89 => (lN (OO kT64 64 A89 D89 (x70 ++ ([r81] : List Kernel)) :: _ :: _ :: _ :: _ :: _ :: _ :: _ :: _ :: _ :: _ :: _ :: W1) ?_))
 refine l_nil (qE (d1 10 R (lO (vFa 3 fo36_3 R) (l_nil (qE (d1 11 R (l_store 7 R R sz34 R R R R R (lN (_ :: _ :: _ :: _ :: _ :: _ :: _ :: bxl b19 [(sc A20 r9 D20), (sc A21 r12 D21), (sc A52 x51 D52), (sc A89 (x70 ++ ([r81] : List Kernel)) D89), (sc A22 r15 D22)] 36 :: _ :: _ :: _ :: _ :: W1) ?_))))))))
 refine l_nil (qE (dD (q_blockn (q_next (c_region (lI R (lO (vAd R R) (lI R (l_nil ?_)))))))))
 obtain rfl := so hr
 exact qA (A89, (x70 ++ ([r81] : List Kernel)).length, D89) (fun w s => (s.f 12 [6, 5, 0, 1, 11, 1]))
 refine c_false R hb73 (c_exit (q_exit ?_))
 obtain rfl := so hr
 obtain rfl := he2 _ R
 have hr := hk2
 refine q_exit (q_block ?_)
 exact qI (x70, (A71, x70.length, D71)) hr (fun w s => s)
 rintro ⟨x93, ⟨A94, N94, D94⟩⟩ σ1 hr
 replace hr : Zg_J2 r9 r12 r15 x51 x93 = some r := hr
 unfold Zg_J2 at hr
 refine c_len 5 sees_ow (fun (hn : N94 = x93.length) => ?_)
 subst hn
 refine c_seq (c_region (lO (vz (.agg [(sc A20 r9 D20), (sc A21 r12 D21), (sc A52 x51 D52), (sc A94 x93 D94), (sc A22 r15 D22)].toArray) (v_loadw 1 ag36 sz36 R R R R)) (l_stores 0 R R sz36 R R R R R R (lN (bxl b8 [(sc A20 r9 D20), (sc A21 r12 D21), (sc A52 x51 D52), (sc A94 x93 D94), (sc A22 r15 D22)] 36 :: bxl b19 [(sc A20 r9 D20), (sc A21 r12 D21), (sc A52 x51 D52), (sc A94 x93 D94), (sc A22 r15 D22)] 36 :: _ :: _ :: _ :: OO kT64 64 A94 D94 x93 :: _ :: W1) ?_))))
 refine l_nil (q_next (c_ret ?_))
 obtain rfl := so hr
 exact q_fin (vs := [(.agg [(sc A20 r9 D20), (sc A21 r12 D21), (sc A52 x51 D52), (sc A94 x93 D94), (sc A22 r15 D22)].toArray)]) (.inl R) ((A20, r9.length, D20), (A21, r12.length, D21), (A52, x51.length, D52), (A94, x93.length, D94), (A22, r15.length, D22)) R ⟨⟨0, b8, _, _, R, R, .inl ⟨ag36, sz36, R⟩⟩, trivial⟩ R (fun w s => (s.f 13 [2, 5]))
theorem Zo_ok  {k1 : Kernel} {b6 : Int} {r : (List Int)} (hr : Zo k1 b6 = some r) :
 FnOk Tryz.prog 163 [(.agg [(.slice A2 N2 D2), (.slice A3 N3 D3), (iv k1.Store.Buffer), (iv k1.Store.Offset), (.slice A4 N4 D4), (.bool k1.Sum), (.slice A5 N5 D5)].toArray), (iv b6)] [rds kT3 (.slice A2 N2 D2) k1.Loops, rds kT61 (.slice A3 N3 D3) k1.Loads, rds kT3 (.slice A4 N4 D4) k1.Store.Steps, rds kT101 (.slice A5 N5 D5) k1.Code] (fun (h : HH) => ((.slice h.1 h.2.1 h.2.2), [ow kT3 3 (.slice h.1 h.2.1 h.2.2) r])) := by
 unfold Zo at hr
 refine fn_ok Tryz.func163 R 28 R R fun C V => ?_
 refine cN (_ :: _ :: _ :: _ :: V) ?_
 refine cL 0 sees_rd ?_
 rintro rfl
 refine cL 1 sees_rd ?_
 rintro rfl
 refine cL 2 sees_rd ?_
 rintro rfl
 refine cL 3 sees_rd ?_
 rintro rfl
 let W0 : List HP := RR kT3 A2 D2 k1.Loops :: RR kT61 A3 D3 k1.Loads :: RR kT3 A4 D4 k1.Store.Steps :: RR kT101 A5 D5 k1.Code :: V
 refine cN W0 ?_
 refine c_seq (c_region (lBx R (fun b7 => (lS R (l_nil ?_)))))
 let W1 : List HP := bxl b7 [(sc A2 k1.Loops D2), (sc A3 k1.Loads D3), (iv k1.Store.Buffer), (iv k1.Store.Offset), (sc A4 k1.Store.Steps D4), (.bool k1.Sum), (sc A5 k1.Code D5)] 64 :: W0
 refine qN W1 ?_
 refine q_next (c_seq (c_region (l_build (K := kT3) (xs := ([] : List Int)) (vs := []) 0 R R sl22 sz3 zc3 R R R R R R ?_ R (fun A8 D8 => ?_))))
 exact fun I h s => (mO3).list [] I h s
 refine lN (OO kT3 3 A8 D8 ([] : List Int) :: W1) ?_
 refine lS R (l_nil (q_next (c_seq (c_cut (A := ((List Int)) × (HH)) (fun a => Zo_J3 a.1 = some r) (fun a => [(5, (.slice a.2.1 a.2.2.1 a.2.2.2))]) (fun a => ow kT3 3 (.slice a.2.1 a.2.2.1 a.2.2.2) a.1 :: W1) ?_ ?_))))
 refine c_seq (c_region (lI R (l_nil (q_next (c_block ?_)))))
 obtain ⟨e1, hl1, hk1⟩ := bd hr
 refine c_loop (A := HH) hl1 (fun s a => [(1, (iv b6)), (2, (pt b7 0)), (5, (.slice a.1 a.2.1 a.2.2)), (6, (iv s.2))]) (fun s a => ow kT3 3 (.slice a.1 a.2.1 a.2.2) s.1 :: W1) (A8, ([] : List Int).length, D8) (aS R) (fun w s => s) ?_
 rintro ⟨x19, i21⟩ ⟨A20, N20, D20⟩ σ1 out1 hr he1
 replace hr : Zo_L1 k1 b6 x19 i21 = some out1 := hr
 unfold Zo_L1 at hr
 refine c_len 0 sees_ow (fun (hn : N20 = x19.length) => ?_)
 subst hn
 refine c_seq (c_seq (c_region (lI R (lO (vFa 1 fo64_1 R) (lO (vLd 1 ag59 R R R) (lO (v_len sl59 R) (lO (vLt R R) (l_nil (q_next ?_)))))))))
 rcases bif_ hr with ⟨hb22, hr⟩ | ⟨hb22, hr⟩
 refine c_true R hb22 (c_skip (q_next (c_seq (c_cut (A := ((List Int)) × (HH)) (fun a => Zo_J2 i21 a.1 = some out1) (fun a => [(1, (iv b6)), (2, (pt b7 0)), (5, (.slice a.2.1 a.2.2.1 a.2.2.2)), (6, (iv i21))]) (fun a => ow kT3 3 (.slice a.2.1 a.2.2.1 a.2.2.2) a.1 :: W1) ?_ ?_))))
 refine c_block (c_seq ?_)
 obtain ⟨hg23, hr⟩ := gd hr
 refine c_region (lO (vFa 1 fo64_1 R) (lO (vLd 1 ag59 R R R) (lI R (t_some 3 sees_rd (show 0 < k1.Loads.length by have := hg23; omega) (fun g24 o25 ha => ?_)))))
 subst ha
 refine lO (vIa sl59 sz61 R R hg23) (lO (vz (.pointer (some ⟨g24, o25 + i21.toNat * 3, none⟩)) (v_fa fo61_0 R R)) (lO (vz (iv (ix k1.Loads i21).Buffer) (v_lde (K := kT61) (fo := 0) (pr := fun x => (iv x.Buffer)) 3 i21 ag3 (dT61.leaf fun _ _ => R) sees_rd R hg23.1 hg23.2)) (lI R (lO (vEq R R) (l_nil (q_next ?_))))))
 rcases bif_ hr with ⟨hb26, hr⟩ | ⟨hb26, hr⟩
 refine c_true R hb26 ?_
 obtain ⟨hg28, hr⟩ := gd hr
 refine c_region (lS R (lI R (l_build (K := kT3) (xs := ([i21] : List Int)) (vs := [(iv i21)]) 0 R R sl22 sz3 zc3 R R R R R R ?_ R (fun A27 D27 => ?_))))
 exact fun I h s => (mO3).list [((), i21)] I h s
 refine lN (OO kT3 3 A27 D27 ([i21] : List Int) :: OO kT3 3 A20 D20 x19 :: W1) ?_
 refine lM (ow _ _ _ _ :: ow _ _ _ _ :: W1) (fun w s => (s.e 2 [1, 0])) ?_
 refine l_app (K := kT3) 17592186044416 R R sl22 sz3 by3 (Zr.zk zT3 zc3) R R R R R R src_ow hg28 (fun A29 D29 => (lN (OO kT3 3 A29 D29 (x19 ++ ([i21] : List Int)) :: W1) ?_))
 refine lS R (l_nil (q_blockn ?_))
 exact qI ((x19 ++ ([i21] : List Int)), (A29, (x19 ++ ([i21] : List Int)).length, D29)) hr (fun w s => s)
 refine c_false R hb26 (c_skip (q_blockn ?_))
 exact qI (x19, (A20, x19.length, D20)) hr (fun w s => s)
 rintro ⟨x30, ⟨A31, N31, D31⟩⟩ σ1 hr
 replace hr : Zo_J2 i21 x30 = some out1 := hr
 unfold Zo_J2 at hr
 refine c_len 0 sees_ow (fun (hn : N31 = x30.length) => ?_)
 subst hn
 refine c_region (lI R (lO (vAd R R) (lI R (l_nil ?_))))
 obtain rfl := so hr
 exact qA (A31, x30.length, D31) (fun w s => s)
 refine c_false R hb22 (c_exit (q_exit ?_))
 obtain rfl := so hr
 obtain rfl := he1 _ R
 have hr := hk1
 refine q_exit (q_block ?_)
 exact qI (x19, (A20, x19.length, D20)) hr (fun w s => s)
 rintro ⟨x35, ⟨A36, N36, D36⟩⟩ σ1 hr
 replace hr : Zo_J3 x35 = some r := hr
 unfold Zo_J3 at hr
 refine c_len 0 sees_ow (fun (hn : N36 = x35.length) => ?_)
 subst hn
 refine c_seq (c_region (lS R (lS R (l_nil (q_next (c_ret ?_))))))
 obtain rfl := so hr
 exact qF (A36, x35.length, D36) (fun w s => (s.e 6 [0]))
theorem Z1v_ok  {k1 : Kernel} {b6 : Int} {r : Bool} (hr : Z1v k1 b6 = some r) :
 FnOk Tryz.prog 118 [(.agg [(.slice A2 N2 D2), (.slice A3 N3 D3), (iv k1.Store.Buffer), (iv k1.Store.Offset), (.slice A4 N4 D4), (.bool k1.Sum), (.slice A5 N5 D5)].toArray), (iv b6)] [rds kT3 (.slice A2 N2 D2) k1.Loops, rds kT61 (.slice A3 N3 D3) k1.Loads, rds kT3 (.slice A4 N4 D4) k1.Store.Steps, rds kT101 (.slice A5 N5 D5) k1.Code] (fun (h : Unit) => ((.bool r), [])) := by
 unfold Z1v at hr
 refine fn_ok Tryz.func118 R 17 R R fun C V => ?_
 refine cN (_ :: _ :: _ :: _ :: V) ?_
 refine cL 0 sees_rd ?_
 rintro rfl
 refine cL 1 sees_rd ?_
 rintro rfl
 refine cL 2 sees_rd ?_
 rintro rfl
 refine cL 3 sees_rd ?_
 rintro rfl
 let W0 : List HP := RR kT3 A2 D2 k1.Loops :: RR kT61 A3 D3 k1.Loads :: RR kT3 A4 D4 k1.Store.Steps :: RR kT101 A5 D5 k1.Code :: V
 refine cN W0 ?_
 refine c_seq (c_region (lBx R (fun b7 => (lB R (l_nil ?_)))))
 let W1 : List HP := bxl b7 [(sc A2 k1.Loops D2), (sc A3 k1.Loads D3), (iv k1.Store.Buffer), (iv k1.Store.Offset), (sc A4 k1.Store.Steps D4), (.bool k1.Sum), (sc A5 k1.Code D5)] 64 :: W0
 refine qN W1 ?_
 refine q_next (c_seq ?_)
 obtain ⟨r8, hx9, hr⟩ := bd hr
 refine cQ [(4, (.bool ((k1.Store.Buffer == b6) || (decide ((r8.length : Int) > (0 : Int))))))] (W1) ?_ ?_
 refine c_region (lO (vFa 2 fo64_2 R) (lO (vFa 2 fo61_0 R) (lO (vLd 0 ag3 R R R) (lI R (lO (vEq R R) (lB R ?_))))))
 rcases bo (k1.Store.Buffer == b6) with hc11 | hc11
 refine lf (wfT hc11) (lf (wfT hc11) (lf (wfT hc11) (lf (wfT hc11) (lf (wfT hc11) (lO (pOT (decide ((r8.length : Int) > (0 : Int))) R hc11) (lB R (l_nil ?_)))))))
 exact qJ (fun w s => s)
 refine lW (wnF hc11) (vz (.agg [(sc A2 k1.Loops D2), (sc A3 k1.Loads D3), (iv k1.Store.Buffer), (iv k1.Store.Offset), (sc A4 k1.Store.Steps D4), (.bool k1.Sum), (sc A5 k1.Code D5)].toArray) (v_loadw 0 ag64 sz64 R R R R)) (lW (wnF hc11) (vI R) (lM (RR kT3 A2 D2 k1.Loops :: RR kT61 A3 D3 k1.Loads :: RR kT3 A4 D4 k1.Store.Steps :: RR kT101 A5 D5 k1.Code :: W1) (fun w s => (((((s.d 1 R).d 3 R).d 5 R).d 7 R).e 4 [3, 2, 1, 0])) ?_))
 refine l_calln 4 R (wnF hc11) cb163 R (Zo_ok (gcall_t hx9 (not_ff hc11))) R ?_
 rintro ⟨A10, N10, D10⟩
 refine lN (ow kT3 3 (.slice A10 N10 D10) r8 :: W1) ?_
 refine l_len 0 sees_ow ?_
 rintro rfl
 refine lW (wnF hc11) (v_len sl22 R) (lW (wnF hc11) (vGt R R) (lO (pOF R hc11 R) (lB R (l_nil ?_))))
 exact qJ (fun w s => (s.e 1 []))
 rintro σ1
 refine q_next (c_ret ?_)
 obtain rfl := so hr
 exact qF () (fun w s => (s.e 5 []))
theorem Zx_ok  {l1 : Nest} {b7 : Int} {r : Bool} (hr : Zx l1 b7 = some r) :
 FnOk Tryz.prog 67 [(.agg [(.slice A2 N2 D2), (.slice A3 N3 D3), (.slice A4 N4 D4), (.slice A5 N5 D5), (.slice A6 N6 D6)].toArray), (iv b7)] [rds kT3 (.slice A2 N2 D2) l1.Sizes, rds kT3 (.slice A3 N3 D3) l1.Ins, rds kT57 (.slice A4 N4 D4) l1.Fixed, rds kT64 (.slice A5 N5 D5) l1.Kernels, rds kT3 (.slice A6 N6 D6) l1.Outs] (fun (h : Unit) => ((.bool r), [])) := by
 unfold Zx at hr
 refine fn_ok Tryz.func67 R 25 R R fun C V => ?_
 refine cN (_ :: _ :: _ :: _ :: _ :: V) ?_
 refine cL 0 sees_rd ?_
 rintro rfl
 refine cL 1 sees_rd ?_
 rintro rfl
 refine cL 2 sees_rd ?_
 rintro rfl
 refine cL 3 sees_rd ?_
 rintro rfl
 refine cL 4 sees_rd ?_
 rintro rfl
 let W0 : List HP := RR kT3 A2 D2 l1.Sizes :: RR kT3 A3 D3 l1.Ins :: RR kT57 A4 D4 l1.Fixed :: RR kT64 A5 D5 l1.Kernels :: RR kT3 A6 D6 l1.Outs :: V
 refine cN W0 ?_
 refine c_seq (c_region (lBx R (fun b8 => (lB R (l_nil ?_)))))
 let W1 : List HP := bxl b8 [(sc A2 l1.Sizes D2), (sc A3 l1.Ins D3), (sc A4 l1.Fixed D4), (sc A5 l1.Kernels D5), (sc A6 l1.Outs D6)] 36 :: W0
 refine qN W1 ?_
 refine q_next (c_seq (c_cut (A := (Unit) × (Unit)) (fun a => Zx_J1 l1 b7 = some r) (fun a => [(1, (iv b7)), (2, (pt b8 0))]) (fun a => W1) ?_ ?_))
 refine c_seq (c_region (lI R (l_nil (q_next (c_block ?_)))))
 obtain ⟨e1, hl1, hk1⟩ := bd hr
 refine c_loop (A := Unit) hl1 (fun s a => [(1, (iv b7)), (2, (pt b8 0)), (5, (iv s))]) (fun s a => W1) () (aS R) (fun w s => s) ?_
 rintro i14 _ σ1 out1 hr he1
 replace hr : Zx_L1 l1 b7 i14 = some out1 := hr
 unfold Zx_L1 at hr
 refine c_seq (c_seq (c_region (lI R (lO (vFa 2 fo36_2 R) (lO (vLd 0 ag33 R R R) (lO (v_len sl33 R) (lO (vLt R R) (l_nil (q_next ?_)))))))))
 rcases bif_ hr with ⟨hb15, hr⟩ | ⟨hb15, hr⟩
 refine c_true R hb15 (c_skip (q_next (c_seq (c_block (c_seq ?_)))))
 obtain ⟨hg16, hr⟩ := gd hr
 refine c_region (lO (vFa 2 fo36_2 R) (lO (vLd 0 ag33 R R R) (lI R (t_some 3 sees_rd (show 0 < l1.Fixed.length by have := hg16; omega) (fun g17 o18 ha => ?_)))))
 subst ha
 refine lO (vIa sl33 sz57 R R hg16) (lO (vz (.pointer (some ⟨g17, o18 + i14.toNat * 2, none⟩)) (v_fa fo57_0 R R)) (lO (vz (iv (ix l1.Fixed i14).Buffer) (v_lde (K := kT57) (fo := 0) (pr := fun x => (iv x.Buffer)) 3 i14 ag3 (dT57.leaf fun _ _ => R) sees_rd R hg16.1 hg16.2)) (lI R (lO (vEq R R) (l_nil (q_next ?_))))))
 rcases bif_ hr with ⟨hb19, hr⟩ | ⟨hb19, hr⟩
 refine c_true R hb19 (c_seq (c_region (lB R (l_nil (q_next (c_ret (q_blockr (q_ret ?_))))))))
 obtain rfl := so hr
 obtain rfl := he1 _ R
 have hr := hk1
 refine q_ret (q_blockr (q_ret ?_))
 obtain rfl := so hr
 exact qF () (fun w s => (s.e 6 []))
 refine c_false R hb19 (c_skip (q_blockn (q_next (c_region (lI R (lO (vAd R R) (lI R (l_nil ?_))))))))
 obtain rfl := so hr
 exact qA () (fun w s => s)
 refine c_false R hb15 (c_exit (q_exit ?_))
 obtain rfl := so hr
 obtain rfl := he1 _ R
 have hr := hk1
 refine q_exit (q_block ?_)
 exact qI ((), ()) hr (fun w s => s)
 rintro ⟨_, _⟩ σ1 hr
 replace hr : Zx_J1 l1 b7 = some r := hr
 unfold Zx_J1 at hr
 refine c_seq ?_
 obtain ⟨r21, hx22, hr⟩ := bd hr
 refine c_region (lO (vFa 1 fo36_1 R) (lO (vLd 0 ag22 R R R) (lI R (lM (RR kT3 A3 D3 l1.Ins :: W1) (fun w s => (s.d 2 R)) ?_))))
 refine lC 1 cb87 R (Zm_ok hx22) R ?_
 rintro _
 refine lN W1 ?_
 refine lB R (l_nil (q_next (c_ret ?_)))
 obtain rfl := so hr
 exact qF () (fun w s => (s.e 6 []))
end Go.Proofs.YtkfgngcfcoplpaaGreat
