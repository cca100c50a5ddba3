import Derived.Test.YtbdchgofcejiiaaFuW1
set_option linter.unusedVariables false
set_option maxRecDepth 20000
namespace Go.Proofs.Ytbdchgofcejiiaa
open Go Go.Pg
variable {A2 A3 A4 A5 A6 A7 A8 A9 A10 A12 : Option Addr} {D2 D3 D4 D5 D6 D7 D8 D9 D10 D12 N2 N3 N4 N5 N6 N7 N8 N9 N10 N12 : Nat}
theorem spec_NestOk_ok {l1 : Nest} {r : Bool} (hr : spec_NestOk l1 = some r) :
 FnOk Try.prog 69 [(.agg [(.slice A2 N2 D2), (.slice A3 N3 D3), (.slice A4 N4 D4), (.slice A5 N5 D5), (.slice A6 N6 D6)].toArray)] [rds kT3 (.slice A2 N2 D2) l1.Sizes, rds kT3 (.slice A3 N3 D3) l1.Ins, rds kT159 (.slice A4 N4 D4) l1.Fixed, rds kT127 (.slice A5 N5 D5) l1.Kernels, rds kT3 (.slice A6 N6 D6) l1.Outs] (fun (h : Unit) => ((.bool r), [])) := by
 unfold spec_NestOk at hr
 refine fn_ok Try.func69 R 198 R R fun C V => ?_
 refine cN (_ :: _ :: _ :: _ :: _ :: V) ?_
 refine cL 0 sees_rd ?_
 rintro rfl
 refine cL 1 sees_rd ?_
 rintro rfl
 refine cL 2 sees_rd ?_
 rintro rfl
 refine cL 3 sees_rd ?_
 rintro rfl
 refine cL 4 sees_rd ?_
 rintro rfl
 let W0 : List HP := RR kT3 A2 D2 l1.Sizes :: RR kT3 A3 D3 l1.Ins :: RR kT159 A4 D4 l1.Fixed :: RR kT127 A5 D5 l1.Kernels :: RR kT3 A6 D6 l1.Outs :: V
 refine cN W0 ?_
 refine c_seq (c_region (lBx R (fun b7 => (lB R (l_nil ?_)))))
 let W1 : List HP := bxl b7 [(sc A2 l1.Sizes D2), (sc A3 l1.Ins D3), (sc A4 l1.Fixed D4), (sc A5 l1.Kernels D5), (sc A6 l1.Outs D6)] 58 :: W0
 refine qN W1 ?_
 refine q_next (c_seq (c_seq ?_))
 obtain ⟨r8, hx9, hr⟩ := bd hr
 obtain ⟨r10, hx11, hr⟩ := bd hr
 refine cQ [(1, (pt b7 0)), (49, (.bool ((((((decide ((l1.Sizes.length : Int) > (200 : Int))) || (decide ((l1.Ins.length : Int) > (40 : Int)))) || (decide ((l1.Outs.length : Int) > (40 : Int)))) || (decide ((l1.Kernels.length : Int) > (400 : Int)))) || (!r8)) || (!r10))))] (W1) ?_ ?_
 refine c_region (lO (vFa 0 fo58_0 R) (lO (vLd 0 ag29 R R R) (lO (v_len sl29 R) (lO (vGt R R) (lB R ?_)))))
 rcases bo (decide ((l1.Sizes.length : Int) > (200 : Int))) with hc12 | hc12
 refine lf (wfT hc12) (lf (wfT hc12) (lf (wfT hc12) (lf (wfT hc12) (lO (pOT (decide ((l1.Ins.length : Int) > (40 : Int))) R hc12) (lB R (lf (wfT (oT hc12)) (lf (wfT (oT hc12)) (lf (wfT (oT hc12)) (lf (wfT (oT hc12)) (lO (pOT (decide ((l1.Outs.length : Int) > (40 : Int))) R (oT hc12)) (lB R (lf (wfT (oT (oT hc12))) (lf (wfT (oT (oT hc12))) (lf (wfT (oT (oT hc12))) (lf (wfT (oT (oT hc12))) (lO (pOT (decide ((l1.Kernels.length : Int) > (400 : Int))) R (oT (oT hc12))) (lB R (lf (wfT (oT (oT (oT hc12)))) (lf (wfT (oT (oT (oT hc12)))) (lf (wfT (oT (oT (oT hc12)))) (lf (wfT (oT (oT (oT hc12)))) (lf (wfT (oT (oT (oT hc12)))) (lf (wfT (oT (oT (oT hc12)))) (lf (wfT (oT (oT (oT hc12)))) (lO (pOT (!r8) R (oT (oT (oT hc12)))) (lB R (lf (wfT (oT (oT (oT (oT hc12))))) (lf (wfT (oT (oT (oT (oT hc12))))) (lf (wfT (oT (oT (oT (oT hc12))))) (lf (wfT (oT (oT (oT (oT hc12))))) (lf (wfT (oT (oT (oT (oT hc12))))) (lf (wfT (oT (oT (oT (oT hc12))))) (lf (wfT (oT (oT (oT (oT hc12))))) (lO (pOT (!r10) R (oT (oT (oT (oT hc12))))) (l_nil ?_)))))))))))))))))))))))))))))))))))
 exact qJ (fun w s => s)
 refine lW (wnF hc12) (vFa 1 fo58_1 R) (lW (wnF hc12) (vLd 0 ag29 R R R) (lW (wnF hc12) (v_len sl29 R) (lW (wnF hc12) (vGt R R) (lO (pOF R hc12 R) (lB R ?_)))))
 rcases bo ((decide ((l1.Sizes.length : Int) > (200 : Int))) || (decide ((l1.Ins.length : Int) > (40 : Int)))) with hc13 | hc13
 refine lf (wfT hc13) (lf (wfT hc13) (lf (wfT hc13) (lf (wfT hc13) (lO (pOT (decide ((l1.Outs.length : Int) > (40 : Int))) R hc13) (lB R (lf (wfT (oT hc13)) (lf (wfT (oT hc13)) (lf (wfT (oT hc13)) (lf (wfT (oT hc13)) (lO (pOT (decide ((l1.Kernels.length : Int) > (400 : Int))) R (oT hc13)) (lB R (lf (wfT (oT (oT hc13))) (lf (wfT (oT (oT hc13))) (lf (wfT (oT (oT hc13))) (lf (wfT (oT (oT hc13))) (lf (wfT (oT (oT hc13))) (lf (wfT (oT (oT hc13))) (lf (wfT (oT (oT hc13))) (lO (pOT (!r8) R (oT (oT hc13))) (lB R (lf (wfT (oT (oT (oT hc13)))) (lf (wfT (oT (oT (oT hc13)))) (lf (wfT (oT (oT (oT hc13)))) (lf (wfT (oT (oT (oT hc13)))) (lf (wfT (oT (oT (oT hc13)))) (lf (wfT (oT (oT (oT hc13)))) (lf (wfT (oT (oT (oT hc13)))) (lO (pOT (!r10) R (oT (oT (oT hc13)))) (l_nil ?_)))))))))))))))))))))))))))))
 exact qJ (fun w s => s)
 refine lW (wnF hc13) (vFa 4 fo58_4 R) (lW (wnF hc13) (vLd 0 ag29 R R R) (lW (wnF hc13) (v_len sl29 R) (lW (wnF hc13) (vGt R R) (lO (pOF R hc13 R) (lB R ?_)))))
 rcases bo (((decide ((l1.Sizes.length : Int) > (200 : Int))) || (decide ((l1.Ins.length : Int) > (40 : Int)))) || (decide ((l1.Outs.length : Int) > (40 : Int)))) with hc14 | hc14
 refine lf (wfT hc14) (lf (wfT hc14) (lf (wfT hc14) (lf (wfT hc14) (lO (pOT (decide ((l1.Kernels.length : Int) > (400 : Int))) R hc14) (lB R (lf (wfT (oT hc14)) (lf (wfT (oT hc14)) (lf (wfT (oT hc14)) (lf (wfT (oT hc14)) (lf (wfT (oT hc14)) (lf (wfT (oT hc14)) (lf (wfT (oT hc14)) (lO (pOT (!r8) R (oT hc14)) (lB R (lf (wfT (oT (oT hc14))) (lf (wfT (oT (oT hc14))) (lf (wfT (oT (oT hc14))) (lf (wfT (oT (oT hc14))) (lf (wfT (oT (oT hc14))) (lf (wfT (oT (oT hc14))) (lf (wfT (oT (oT hc14))) (lO (pOT (!r10) R (oT (oT hc14))) (l_nil ?_)))))))))))))))))))))))
 exact qJ (fun w s => s)
 refine lW (wnF hc14) (vFa 3 fo58_3 R) (lW (wnF hc14) (vLd 0 ag56 R R R) (lW (wnF hc14) (v_len sl56 R) (lW (wnF hc14) (vGt R R) (lO (pOF R hc14 R) (lB R ?_)))))
 rcases bo ((((decide ((l1.Sizes.length : Int) > (200 : Int))) || (decide ((l1.Ins.length : Int) > (40 : Int)))) || (decide ((l1.Outs.length : Int) > (40 : Int)))) || (decide ((l1.Kernels.length : Int) > (400 : Int)))) with hc15 | hc15
 refine lf (wfT hc15) (lf (wfT hc15) (lf (wfT hc15) (lf (wfT hc15) (lf (wfT hc15) (lf (wfT hc15) (lf (wfT hc15) (lO (pOT (!r8) R hc15) (lB R (lf (wfT (oT hc15)) (lf (wfT (oT hc15)) (lf (wfT (oT hc15)) (lf (wfT (oT hc15)) (lf (wfT (oT hc15)) (lf (wfT (oT hc15)) (lf (wfT (oT hc15)) (lO (pOT (!r10) R (oT hc15)) (l_nil ?_)))))))))))))))))
 exact qJ (fun w s => s)
 refine lW (wnF hc15) (vFa 1 fo58_1 R) (lW (wnF hc15) (vLd 0 ag29 R R R) (lW (wnF hc15) (vFa 0 fo58_0 R) (lW (wnF hc15) (vLd 0 ag29 R R R) (lW (wnF hc15) (v_len sl29 R) (lM (RR kT3 A3 D3 l1.Ins :: W1) (fun w s => (s.d 2 R)) ?_)))))
 refine l_calln 1 R (wnF hc15) cb116 R (spec_l4Within_ok (gcall_t hx9 (not_ff hc15))) R ?_
 rintro _
 refine lN W1 ?_
 refine lW (wnF hc15) (vNo R) (lO (pOF R hc15 R) (lB R ?_))
 rcases bo (((((decide ((l1.Sizes.length : Int) > (200 : Int))) || (decide ((l1.Ins.length : Int) > (40 : Int)))) || (decide ((l1.Outs.length : Int) > (40 : Int)))) || (decide ((l1.Kernels.length : Int) > (400 : Int)))) || (!r8)) with hc16 | hc16
 refine lf (wfT hc16) (lf (wfT hc16) (lf (wfT hc16) (lf (wfT hc16) (lf (wfT hc16) (lf (wfT hc16) (lf (wfT hc16) (lO (pOT (!r10) R hc16) (l_nil ?_))))))))
 exact qJ (fun w s => s)
 refine lW (wnF hc16) (vFa 4 fo58_4 R) (lW (wnF hc16) (vLd 0 ag29 R R R) (lW (wnF hc16) (vFa 0 fo58_0 R) (lW (wnF hc16) (vLd 0 ag29 R R R) (lW (wnF hc16) (v_len sl29 R) (lM (RR kT3 A6 D6 l1.Outs :: W1) (fun w s => (s.d 5 R)) ?_)))))
 refine l_calln 1 R (wnF hc16) cb116 R (spec_l4Within_ok (gcall_t hx11 (not_ff hc16))) R ?_
 rintro _
 refine lN W1 ?_
 refine lW (wnF hc16) (vNo R) (lO (pOF R hc16 R) (l_nil ?_))
 exact qJ (fun w s => s)
 rintro σ1
 refine q_next ?_
 rcases bif_ hr with ⟨hb17, hr⟩ | ⟨hb17, hr⟩
 refine c_true R hb17 (c_seq (c_region (lB R (l_nil (q_next (c_ret (q_ret ?_)))))))
 obtain rfl := so hr
 exact qF () (fun w s => (s.e 6 []))
 refine c_false R hb17 (c_skip (q_next (c_seq (c_cut (A := (Unit) × (Unit)) (fun a => spec_NestOk_J1 l1 = some r) (fun a => [(1, (pt b7 0))]) (fun a => W1) ?_ ?_))))
 refine c_seq (c_region (lI R (l_nil (q_next (c_block ?_)))))
 obtain ⟨e1, hl1, hk1⟩ := bd hr
 refine c_loop (A := Unit) hl1 (fun s a => [(1, (pt b7 0)), (3, (iv s))]) (fun s a => W1) () (aS R) (fun w s => s) ?_
 rintro i24 _ σ1 out1 hr he1
 replace hr : spec_NestOk_L1 l1 i24 = some out1 := hr
 unfold spec_NestOk_L1 at hr
 refine c_seq (c_seq (c_region (lI R (lO (vFa 0 fo58_0 R) (lO (vLd 0 ag29 R R R) (lO (v_len sl29 R) (lO (vLt R R) (l_nil (q_next ?_)))))))))
 rcases bif_ hr with ⟨hb25, hr⟩ | ⟨hb25, hr⟩
 refine c_true R hb25 (c_skip (q_next (c_seq (c_block (c_seq ?_)))))
 obtain ⟨hg26, hr⟩ := gd hr
 refine cQ [(1, (pt b7 0)), (3, (iv i24)), (70, (.bool ((decide ((ix l1.Sizes i24) < (0 : Int))) || (decide ((ix l1.Sizes i24) > (4096 : Int))))))] (W1) ?_ ?_
 refine c_region (lO (vFa 0 fo58_0 R) (lO (vLd 0 ag29 R R R) (lI R (t_some 1 sees_rd (show 0 < l1.Sizes.length by have := hg26; omega) (fun g27 o28 ha => ?_)))))
 subst ha
 refine lO (vIa sl29 sz3 R R hg26) (lO (vLi 1 ag3 sees_rd R hg26) (lO (vLt R R) (lB R ?_)))
 rcases bo (decide ((ix l1.Sizes i24) < (0 : Int))) with hc29 | hc29
 refine lf (wfT hc29) (lf (wfT hc29) (lf (wfT hc29) (lf (wfT hc29) (lf (wfT hc29) (lf (wfT hc29) (lO (pOT (decide ((ix l1.Sizes i24) > (4096 : Int))) R hc29) (l_nil ?_)))))))
 exact qJ (fun w s => s)
 refine lW (wnF hc29) (vFa 0 fo58_0 R) (lW (wnF hc29) (vLd 0 ag29 R R R) (lW (wnF hc29) (vI R) (lW (wnF hc29) (vIa sl29 sz3 R R hg26) (lW (wnF hc29) (vLi 1 ag3 sees_rd R hg26) (lW (wnF hc29) (vGt R R) (lO (pOF R hc29 R) (l_nil ?_)))))))
 exact qJ (fun w s => s)
 rintro σ1
 refine q_next ?_
 rcases bif_ hr with ⟨hb30, hr⟩ | ⟨hb30, hr⟩
 refine c_true R hb30 (c_seq (c_region (lB R (l_nil (q_next (c_ret (q_blockr (q_ret ?_))))))))
 obtain rfl := so hr
 obtain rfl := he1 _ R
 have hr := hk1
 refine q_ret (q_blockr (q_ret ?_))
 obtain rfl := so hr
 exact qF () (fun w s => (s.e 6 []))
 refine c_false R hb30 (c_skip (q_blockn (q_next (c_region (lI R (lO (vAd R R) (lI R (l_nil ?_))))))))
 obtain rfl := so hr
 exact qA () (fun w s => s)
 refine c_false R hb25 (c_exit (q_exit ?_))
 obtain rfl := so hr
 obtain rfl := he1 _ R
 have hr := hk1
 refine q_exit (q_block ?_)
 exact qI ((), ()) hr (fun w s => s)
 rintro ⟨_, _⟩ σ1 hr
 replace hr : spec_NestOk_J1 l1 = some r := hr
 unfold spec_NestOk_J1 at hr
 refine c_seq (c_region (l_build (K := kT3) (xs := ([] : List Int)) (vs := []) 0 R R sl29 sz3 zc3 R R R R R R ?_ R (fun A32 D32 => ?_)))
 exact fun I h s => (mO3).list [] I h s
 refine lN (OO kT3 3 A32 D32 ([] : List Int) :: W1) ?_
 refine lS R (l_nil (q_next (c_seq (c_cut (A := ((List Int)) × (HH)) (fun a => spec_NestOk_J2 l1 a.1 = some r) (fun a => [(1, (pt b7 0)), (4, (.slice a.2.1 a.2.2.1 a.2.2.2))]) (fun a => ow kT3 3 (.slice a.2.1 a.2.2.1 a.2.2.2) a.1 :: W1) ?_ ?_))))
 refine c_seq (c_region (lI R (l_nil (q_next (c_block ?_)))))
 obtain ⟨e2, hl2, hk2⟩ := bd hr
 refine c_loop (A := HH) hl2 (fun s a => [(1, (pt b7 0)), (4, (.slice a.1 a.2.1 a.2.2)), (5, (iv s.2))]) (fun s a => ow kT3 3 (.slice a.1 a.2.1 a.2.2) s.1 :: W1) (A32, ([] : List Int).length, D32) (aS R) (fun w s => s) ?_
 rintro ⟨given43, i45⟩ ⟨A44, N44, D44⟩ σ1 out2 hr he2
 replace hr : spec_NestOk_L2 l1 given43 i45 = some out2 := hr
 unfold spec_NestOk_L2 at hr
 refine c_len 0 sees_ow (fun (hn : N44 = given43.length) => ?_)
 subst hn
 refine c_seq (c_seq (c_region (lI R (lO (vFa 1 fo58_1 R) (lO (vLd 1 ag29 R R R) (lO (v_len sl29 R) (lO (vLt R R) (l_nil (q_next ?_)))))))))
 rcases bif_ hr with ⟨hb46, hr⟩ | ⟨hb46, hr⟩
 refine c_true R hb46 (c_skip (q_next (c_seq (c_block (c_seq (c_seq ?_))))))
 obtain ⟨hg47, hr⟩ := gd hr
 obtain ⟨r50, hx51, hr⟩ := bd hr
 refine c_region (lS R (lO (vFa 1 fo58_1 R) (lO (vLd 1 ag29 R R R) (lI R (t_some 3 sees_rd (show 0 < l1.Ins.length by have := hg47; omega) (fun g48 o49 ha => ?_))))))
 subst ha
 refine lO (vIa sl29 sz3 R R hg47) (lO (vLi 3 ag3 sees_rd R hg47) (lC 1 cb117 R (FnOk.lends (A' := [OO kT3 3 A44 D44 given43]) (A := [RR kT3 A44 D44 given43]) (B := []) (spec_l7Has_ok hx51) ⟨lend_ow, trivial⟩ (fun _ => trivial)) R ?_))
 rintro _
 refine lN (OO kT3 3 A44 D44 given43 :: W1) ?_
 refine l_nil (q_next ?_)
 rcases bif_ hr with ⟨hb52, hr⟩ | ⟨hb52, hr⟩
 refine c_true R hb52 (c_seq (c_region (lB R (l_nil (q_next (c_ret (q_ret (q_blockr (q_ret ?_)))))))))
 obtain rfl := so hr
 obtain rfl := he2 _ R
 have hr := hk2
 refine q_ret (q_blockr (q_ret ?_))
 obtain rfl := so hr
 exact qF () (fun w s => (s.e 7 []))
 refine c_false R hb52 (c_skip (q_next ?_))
 obtain ⟨hg54, hr⟩ := gd hr
 refine c_region (lS R (lO (vFa 1 fo58_1 R) (lO (vLd 1 ag29 R R R) (lI R (lO (vIa sl29 sz3 R R hg47) (lO (vLi 3 ag3 sees_rd R hg47) (l_build (K := kT3) (xs := ([(ix l1.Ins i45)] : List Int)) (vs := [(iv (ix l1.Ins i45))]) 0 R R sl29 sz3 zc3 R R R R R R ?_ R (fun A53 D53 => ?_))))))))
 exact fun I h s => (mO3).list [((), (ix l1.Ins i45))] I h s
 refine lN (OO kT3 3 A53 D53 ([(ix l1.Ins i45)] : List Int) :: _ :: W1) ?_
 refine lM (ow _ _ _ _ :: ow _ _ _ _ :: W1) (fun w s => (s.e 2 [1, 0])) ?_
 refine l_app (K := kT3) 17592186044416 R R sl29 sz3 by3 (Zr.zk zT3 zc3) R R R R R R src_ow hg54 (fun A55 D55 => (lN (OO kT3 3 A55 D55 (given43 ++ ([(ix l1.Ins i45)] : List Int)) :: W1) ?_))
 refine lS R (l_nil (q_blockn (q_next (c_region (lI R (lO (vAd R R) (lI R (l_nil ?_))))))))
 obtain rfl := so hr
 exact qA (A55, (given43 ++ ([(ix l1.Ins i45)] : List Int)).length, D55) (fun w s => s)
 refine c_false R hb46 (c_exit (q_exit ?_))
 obtain rfl := so hr
 obtain rfl := he2 _ R
 have hr := hk2
 refine q_exit (q_block ?_)
 exact qI (given43, (A44, given43.length, D44)) hr (fun w s => s)
 rintro ⟨given59, ⟨A60, N60, D60⟩⟩ σ1 hr
 replace hr : spec_NestOk_J2 l1 given59 = some r := hr
 unfold spec_NestOk_J2 at hr
 refine c_len 0 sees_ow (fun (hn : N60 = given59.length) => ?_)
 subst hn
 refine c_seq (c_cut (A := ((List Int)) × (HH)) (fun a => spec_NestOk_J3 l1 a.1 = some r) (fun a => [(1, (pt b7 0)), (4, (.slice a.2.1 a.2.2.1 a.2.2.2))]) (fun a => ow kT3 3 (.slice a.2.1 a.2.2.1 a.2.2.2) a.1 :: W1) ?_ ?_)
 refine c_seq (c_region (lI R (l_nil (q_next (c_block ?_)))))
 obtain ⟨e3, hl3, hk3⟩ := bd hr
 refine c_loop (A := HH) hl3 (fun s a => [(1, (pt b7 0)), (4, (.slice a.1 a.2.1 a.2.2)), (6, (iv s.2))]) (fun s a => ow kT3 3 (.slice a.1 a.2.1 a.2.2) s.1 :: W1) (A60, given59.length, D60) (aS R) (fun w s => s) ?_
 rintro ⟨given82, i84⟩ ⟨A83, N83, D83⟩ σ1 out3 hr he3
 replace hr : spec_NestOk_L3 l1 given82 i84 = some out3 := hr
 unfold spec_NestOk_L3 at hr
 refine c_len 0 sees_ow (fun (hn : N83 = given82.length) => ?_)
 subst hn
 refine c_seq (c_seq (c_region (lI R (lO (vFa 2 fo58_2 R) (lO (vLd 1 ag55 R R R) (lO (v_len sl55 R) (lO (vLt R R) (l_nil (q_next ?_)))))))))
 rcases bif_ hr with ⟨hb85, hr⟩ | ⟨hb85, hr⟩
 refine c_true R hb85 (c_skip (q_next (c_seq (c_block (c_seq ?_)))))
 obtain ⟨hg86, hr⟩ := gd hr
 refine c_region (lO (vFa 2 fo58_2 R) (lO (vLd 1 ag55 R R R) (lI R (t_some 4 sees_rd (show 0 < l1.Fixed.length by have := hg86; omega) (fun g87 o88 ha => ?_)))))
 subst ha
 refine lO (vIa sl55 sz159 R R hg86) (lO (vz (.pointer (some ⟨g87, o88 + i84.toNat * 2, none⟩)) (v_fa fo159_0 R R)) (lO (vz (iv (ix l1.Fixed i84).Buffer) (v_lde (K := kT159) (fo := 0) (pr := fun x => (iv x.Buffer)) 4 i84 ag3 (dT159.leaf fun _ _ => R) sees_rd R hg86.1 hg86.2)) (lI R (l_nil (q_next (c_seq (c_seq ?_)))))))
 obtain ⟨r89, hx90, hr⟩ := bd hr
 obtain ⟨hg92, hr⟩ := gd hr
 obtain ⟨r95, hx96, hr⟩ := bd hr
 refine cQ [(1, (pt b7 0)), (4, (sc A83 given82 D83)), (6, (iv i84)), (7, (iv (ix l1.Fixed i84).Buffer)), (155, (.bool (((((decide ((ix l1.Fixed i84).Buffer < (0 : Int))) || (decide ((ix l1.Fixed i84).Buffer ≥ (l1.Sizes.length : Int)))) || r89) || ((((ix l1.Fixed i84).Data).length : Int) != (ix l1.Sizes (ix l1.Fixed i84).Buffer))) || ((decide ((((ix l1.Fixed i84).Data).length : Int) > (0 : Int))) && (!r95)))))] (OO kT3 3 A83 D83 given82 :: W1) ?_ ?_
 rcases bo (decide ((ix l1.Fixed i84).Buffer < (0 : Int))) with hc97 | hc97
 refine cdr 49 [] mixo (fun ht hn => (dR 0 R (vI R) (dR 1 R (vLt R R) (dR 2 R (vB R) (dF 3 R (wfT hc97) (dF 4 R (wfT hc97) (dF 5 R (wfT hc97) (dF 6 R (wfT hc97) (dF 7 R (wfT hc97) (dR 8 R (pOT (decide ((ix l1.Fixed i84).Buffer ≥ (l1.Sizes.length : Int))) R hc97) (dR 9 R (vB R) (dF 10 R (wfT (oT hc97)) (dF 11 R (wfT (oT hc97)) (dF 12 R (wfT (oT hc97)) (dR 13 R (pOT r89 R (oT hc97)) (dR 14 R (vB R) (dF 15 R (wfT (oT (oT hc97))) (dF 16 R (wfT (oT (oT hc97))) (dF 17 R (wfT (oT (oT hc97))) (dF 18 R (wfT (oT (oT hc97))) (dF 19 R (wfT (oT (oT hc97))) (dF 20 R (wfT (oT (oT hc97))) (dF 21 R (wfT (oT (oT hc97))) (dF 22 R (wfT (oT (oT hc97))) (dF 23 R (wfT (oT (oT hc97))) (dF 24 R (wfT (oT (oT hc97))) (dF 25 R (wfT (oT (oT hc97))) (dF 26 R (wfT (oT (oT hc97))) (dF 27 R (wfT (oT (oT hc97))) (dR 28 R (pOT ((((ix l1.Fixed i84).Data).length : Int) != (ix l1.Sizes (ix l1.Fixed i84).Buffer)) R (oT (oT hc97))) (dR 29 R (vB R) (dF 30 R (wfT (oT (oT (oT hc97)))) (dF 31 R (wfT (oT (oT (oT hc97)))) (dF 32 R (wfT (oT (oT (oT hc97)))) (dF 33 R (wfT (oT (oT (oT hc97)))) (dF 34 R (wfT (oT (oT (oT hc97)))) (dF 35 R (wfT (oT (oT (oT hc97)))) ?_)))))))))))))))))))))))))))))))))))))
 refine dF 36 R (wfT (oT (oT (oT hc97)))) (dF 37 R (wfT (oT (oT (oT hc97)))) (dF 38 R (wfT (oT (oT (oT hc97)))) (dF 39 R R (dF 40 R R (dF 41 R R (dF 42 R R (dF 43 R R (dF 44 R R (dF 45 R R (dF 46 R R (dF 47 R (wfT (oT (oT (oT hc97)))) (dR 48 R (pOT ((decide ((((ix l1.Fixed i84).Data).length : Int) > (0 : Int))) && (!r95)) R (oT (oT (oT hc97)))) (d_done (by kernel_rfl) ?_)))))))))))))
 exact qJ (fun w s => s)
 rcases bo ((decide ((ix l1.Fixed i84).Buffer < (0 : Int))) || (decide ((ix l1.Fixed i84).Buffer ≥ (l1.Sizes.length : Int)))) with hc98 | hc98
 refine cdr 49 [] mixo (fun ht hn => (dR 0 R (vI R) (dR 1 R (vLt R R) (dR 2 R (vB R) (dW 3 R (wnF hc97) (vI R) (dW 4 R (wnF hc97) (vFa 0 fo58_0 R) (dW 5 R (wnF hc97) (vLd 1 ag29 R R R) (dW 6 R (wnF hc97) (v_len sl29 R) (dW 7 R (wnF hc97) (vGe R R) (dR 8 R (pOF R hc97 R) (dR 9 R (vB R) (dF 10 R (wfT hc98) (dF 11 R (wfT hc98) (dF 12 R (wfT hc98) (dR 13 R (pOT r89 R hc98) (dR 14 R (vB R) (dF 15 R (wfT (oT hc98)) (dF 16 R (wfT (oT hc98)) (dF 17 R (wfT (oT hc98)) (dF 18 R (wfT (oT hc98)) (dF 19 R (wfT (oT hc98)) (dF 20 R (wfT (oT hc98)) (dF 21 R (wfT (oT hc98)) (dF 22 R (wfT (oT hc98)) (dF 23 R (wfT (oT hc98)) (dF 24 R (wfT (oT hc98)) (dF 25 R (wfT (oT hc98)) (dF 26 R (wfT (oT hc98)) (dF 27 R (wfT (oT hc98)) (dR 28 R (pOT ((((ix l1.Fixed i84).Data).length : Int) != (ix l1.Sizes (ix l1.Fixed i84).Buffer)) R (oT hc98)) (dR 29 R (vB R) (dF 30 R (wfT (oT (oT hc98))) (dF 31 R (wfT (oT (oT hc98))) (dF 32 R (wfT (oT (oT hc98))) (dF 33 R (wfT (oT (oT hc98))) (dF 34 R (wfT (oT (oT hc98))) (dF 35 R (wfT (oT (oT hc98))) (dF 36 R (wfT (oT (oT hc98))) (dF 37 R (wfT (oT (oT hc98))) (dF 38 R (wfT (oT (oT hc98))) (dF 39 R R (dF 40 R R ?_))))))))))))))))))))))))))))))))))))))))))
 refine dF 41 R R (dF 42 R R (dF 43 R R (dF 44 R R (dF 45 R R (dF 46 R R (dF 47 R (wfT (oT (oT hc98))) (dR 48 R (pOT ((decide ((((ix l1.Fixed i84).Data).length : Int) > (0 : Int))) && (!r95)) R (oT (oT hc98))) (d_done (by kernel_rfl) ?_))))))))
 exact qJ (fun w s => s)
 rcases bo (((decide ((ix l1.Fixed i84).Buffer < (0 : Int))) || (decide ((ix l1.Fixed i84).Buffer ≥ (l1.Sizes.length : Int)))) || r89) with hc99 | hc99
 refine cdr 49 [] mixo (fun ht hn => (dR 0 R (vI R) (dR 1 R (vLt R R) (dR 2 R (vB R) (dW 3 R (wnF hc97) (vI R) (dW 4 R (wnF hc97) (vFa 0 fo58_0 R) (dW 5 R (wnF hc97) (vLd 1 ag29 R R R) (dW 6 R (wnF hc97) (v_len sl29 R) (dW 7 R (wnF hc97) (vGe R R) (dR 8 R (pOF R hc97 R) (dR 9 R (vB R) (dW 10 R (wnF hc98) (vS R) (dW 11 R (wnF hc98) (vI R) (d_one 12 (by kernel_rfl) R (l_calln 1 R (wnF hc98) cb117 R (FnOk.lends (A' := [OO kT3 3 A83 D83 given82]) (A := [RR kT3 A83 D83 given82]) (B := []) (spec_l7Has_ok (gcall_t hx90 (not_ff hc98))) ⟨lend_ow, trivial⟩ (fun _ => trivial)) R ?_)))))))))))))))
 rintro _
 refine lN (OO kT3 3 A83 D83 given82 :: W1) ?_
 refine l_nil (q_draw (sL []) (dR 13 R (pOF R hc98 R) (dR 14 R (vB R) (dF 15 R (wfT hc99) (dF 16 R (wfT hc99) (dF 17 R (wfT hc99) (dF 18 R (wfT hc99) (dF 19 R (wfT hc99) (dF 20 R (wfT hc99) (dF 21 R (wfT hc99) (dF 22 R (wfT hc99) (dF 23 R (wfT hc99) (dF 24 R (wfT hc99) (dF 25 R (wfT hc99) (dF 26 R (wfT hc99) (dF 27 R (wfT hc99) (dR 28 R (pOT ((((ix l1.Fixed i84).Data).length : Int) != (ix l1.Sizes (ix l1.Fixed i84).Buffer)) R hc99) (dR 29 R (vB R) (dF 30 R (wfT (oT hc99)) (dF 31 R (wfT (oT hc99)) (dF 32 R (wfT (oT hc99)) (dF 33 R (wfT (oT hc99)) (dF 34 R (wfT (oT hc99)) (dF 35 R (wfT (oT hc99)) (dF 36 R (wfT (oT hc99)) (dF 37 R (wfT (oT hc99)) (dF 38 R (wfT (oT hc99)) (dF 39 R R (dF 40 R R (dF 41 R R (dF 42 R R (dF 43 R R (dF 44 R R (dF 45 R R (dF 46 R R (dF 47 R (wfT (oT hc99)) (dR 48 R (pOT ((decide ((((ix l1.Fixed i84).Data).length : Int) > (0 : Int))) && (!r95)) R (oT hc99)) (d_done (by kernel_rfl) ?_))))))))))))))))))))))))))))))))))))))
 exact qJ (fun w s => s)
 rcases bo ((((decide ((ix l1.Fixed i84).Buffer < (0 : Int))) || (decide ((ix l1.Fixed i84).Buffer ≥ (l1.Sizes.length : Int)))) || r89) || ((((ix l1.Fixed i84).Data).length : Int) != (ix l1.Sizes (ix l1.Fixed i84).Buffer))) with hc100 | hc100
 refine c_elem (K := kT159) 4 i84 dT159.dec R hg86.1 hg86.2 ?_
 rintro ⟨-, ⟨A91, D91⟩⟩
 refine cN (cl g87 (o88 + i84.toNat * 2) [(iv (ix l1.Fixed i84).Buffer), (sc A91 ((ix l1.Fixed i84).Data) D91)] :: RR kT3 A91 D91 ((ix l1.Fixed i84).Data) :: _ :: W1) ?_
 refine c_some 4 sees_rd (show 0 < l1.Sizes.length by have := (hg92 hc99); omega) (fun g93 o94 ha => ?_)
 subst ha
 refine cdr 49 [] mixo (fun ht hn => (dR 0 R (vI R) (dR 1 R (vLt R R) (dR 2 R (vB R) (dW 3 R (wnF hc97) (vI R) (dW 4 R (wnF hc97) (vFa 0 fo58_0 R) (dW 5 R (wnF hc97) (vLd 3 ag29 R R R) (dW 6 R (wnF hc97) (v_len sl29 R) (dW 7 R (wnF hc97) (vGe R R) (dR 8 R (pOF R hc97 R) (dR 9 R (vB R) (dW 10 R (wnF hc98) (vS R) (dW 11 R (wnF hc98) (vI R) (d_one 12 (by kernel_rfl) R (lM (ow _ _ _ _ :: cl _ _ _ :: rds _ _ _ :: W1) (fun w s => (s.e 3 [2, 0, 1])) ?_)))))))))))))))
 refine l_calln 1 R (wnF hc98) cb117 R (FnOk.lends (A' := [OO kT3 3 A83 D83 given82]) (A := [RR kT3 A83 D83 given82]) (B := []) (spec_l7Has_ok (gcall_t hx90 (not_ff hc98))) ⟨lend_ow, trivial⟩ (fun _ => trivial)) R ?_
 rintro _
 refine l_nil (q_draw (fun w s => (s.e 3 [1, 2, 0])) (dR 13 R (pOF R hc98 R) (hS := (fun w s => (s.e 3 [1, 2, 0]))) (dR 14 R (vB R) (hS := (fun w s => (s.e 3 [1, 2, 0]))) (dW 15 R (wnF hc99) (vFa 2 fo58_2 R) (hS := (fun w s => (s.e 3 [1, 2, 0]))) (dW 16 R (wnF hc99) (vLd 3 ag55 R R R) (hS := (fun w s => (s.e 3 [1, 2, 0]))) (dW 17 R (wnF hc99) (vI R) (hS := (fun w s => (s.e 3 [1, 2, 0]))) (dW 18 R (wnF hc99) (vIa sl55 sz159 R R hg86) (hS := (fun w s => (s.e 3 [1, 2, 0]))) (dW 19 R (wnF hc99) (vz (.pointer (some ⟨g87, o88 + i84.toNat * 2 + 1, none⟩)) (v_fa fo159_1 R R)) (hS := (fun w s => (s.e 3 [1, 2, 0]))) (dW 20 R (wnF hc99) (v_clf (fo := 1) 0 ag29 R R R) (hS := (fun w s => (s.e 3 [1, 2, 0]))) (dW 21 R (wnF hc99) (v_len sl29 R) (hS := (fun w s => (s.e 3 [1, 2, 0]))) (dW 22 R (wnF hc99) (vFa 0 fo58_0 R) (hS := (fun w s => (s.e 3 [1, 2, 0]))) (dW 23 R (wnF hc99) (vLd 3 ag29 R R R) (hS := (fun w s => (s.e 3 [1, 2, 0]))) (dW 24 R (wnF hc99) (vI R) (hS := (fun w s => (s.e 3 [1, 2, 0]))) (dW 25 R (wnF hc99) (vIa sl29 sz3 R R (hg92 hc99)) (hS := (fun w s => (s.e 3 [1, 2, 0]))) ?_))))))))))))))
 refine dW 26 R (wnF hc99) (vLi 4 ag3 sees_rd R (hg92 hc99)) (hS := (fun w s => (s.e 3 [1, 2, 0]))) (dW 27 R (wnF hc99) (vNe R R) (hS := (fun w s => (s.e 3 [1, 2, 0]))) (dR 28 R (pOF R hc99 R) (hS := (fun w s => (s.e 3 [1, 2, 0]))) (dR 29 R (vB R) (hS := (fun w s => (s.e 3 [1, 2, 0]))) (dF 30 R (wfT hc100) (hS := (fun w s => (s.e 3 [1, 2, 0]))) (dF 31 R (wfT hc100) (hS := (fun w s => (s.e 3 [1, 2, 0]))) (dF 32 R (wfT hc100) (hS := (fun w s => (s.e 3 [1, 2, 0]))) (dF 33 R (wfT hc100) (hS := (fun w s => (s.e 3 [1, 2, 0]))) (dF 34 R (wfT hc100) (hS := (fun w s => (s.e 3 [1, 2, 0]))) (dF 35 R (wfT hc100) (hS := (fun w s => (s.e 3 [1, 2, 0]))) (dF 36 R (wfT hc100) (hS := (fun w s => (s.e 3 [1, 2, 0]))) (dF 37 R (wfT hc100) (hS := (fun w s => (s.e 3 [1, 2, 0]))) (dF 38 R (wfT hc100) (hS := (fun w s => (s.e 3 [1, 2, 0]))) (dF 39 R R (hS := (fun w s => (s.e 3 [1, 2, 0]))) (dF 40 R R (hS := (fun w s => (s.e 3 [1, 2, 0]))) (dF 41 R R (hS := (fun w s => (s.e 3 [1, 2, 0]))) (dF 42 R R (hS := (fun w s => (s.e 3 [1, 2, 0]))) (dF 43 R R (hS := (fun w s => (s.e 3 [1, 2, 0]))) (dF 44 R R (hS := (fun w s => (s.e 3 [1, 2, 0]))) ?_))))))))))))))))))
 refine dF 45 R R (hS := (fun w s => (s.e 3 [1, 2, 0]))) (dF 46 R R (hS := (fun w s => (s.e 3 [1, 2, 0]))) (dF 47 R (wfT hc100) (hS := (fun w s => (s.e 3 [1, 2, 0]))) (dR 48 R (pOT ((decide ((((ix l1.Fixed i84).Data).length : Int) > (0 : Int))) && (!r95)) R hc100) (hS := (fun w s => (s.e 3 [1, 2, 0]))) (d_done (by kernel_rfl) ?_))))
 exact qJ (fun w s => (s.e 3 [0]))
 rcases bo (decide ((((ix l1.Fixed i84).Data).length : Int) > (0 : Int))) with hc101 | hc101
 refine c_elem (K := kT159) 4 i84 dT159.dec R hg86.1 hg86.2 ?_
 rintro ⟨-, ⟨A91, D91⟩⟩
 refine c_some 4 sees_rd (show 0 < l1.Sizes.length by have := (hg92 hc99); omega) (fun g93 o94 ha => ?_)
 subst ha
 refine cdr 49 [] mixo (fun ht hn => (dR 0 R (vI R) (dR 1 R (vLt R R) (dR 2 R (vB R) (dW 3 R (wnF hc97) (vI R) (dW 4 R (wnF hc97) (vFa 0 fo58_0 R) (dW 5 R (wnF hc97) (vLd 3 ag29 R R R) (dW 6 R (wnF hc97) (v_len sl29 R) (dW 7 R (wnF hc97) (vGe R R) (dR 8 R (pOF R hc97 R) (dR 9 R (vB R) (dW 10 R (wnF hc98) (vS R) (dW 11 R (wnF hc98) (vI R) (d_one 12 (by kernel_rfl) R (lM (ow _ _ _ _ :: cl _ _ _ :: rds _ _ _ :: W1) (fun w s => (s.e 3 [2, 0, 1])) ?_)))))))))))))))
 refine l_calln 1 R (wnF hc98) cb117 R (FnOk.lends (A' := [OO kT3 3 A83 D83 given82]) (A := [RR kT3 A83 D83 given82]) (B := []) (spec_l7Has_ok (gcall_t hx90 (not_ff hc98))) ⟨lend_ow, trivial⟩ (fun _ => trivial)) R ?_
 rintro _
 refine l_nil (q_draw (fun w s => (s.e 3 [1, 2, 0])) (dR 13 R (pOF R hc98 R) (hS := (fun w s => (s.e 3 [1, 2, 0]))) (dR 14 R (vB R) (hS := (fun w s => (s.e 3 [1, 2, 0]))) (dW 15 R (wnF hc99) (vFa 2 fo58_2 R) (hS := (fun w s => (s.e 3 [1, 2, 0]))) (dW 16 R (wnF hc99) (vLd 3 ag55 R R R) (hS := (fun w s => (s.e 3 [1, 2, 0]))) (dW 17 R (wnF hc99) (vI R) (hS := (fun w s => (s.e 3 [1, 2, 0]))) (dW 18 R (wnF hc99) (vIa sl55 sz159 R R hg86) (hS := (fun w s => (s.e 3 [1, 2, 0]))) (dW 19 R (wnF hc99) (vz (.pointer (some ⟨g87, o88 + i84.toNat * 2 + 1, none⟩)) (v_fa fo159_1 R R)) (hS := (fun w s => (s.e 3 [1, 2, 0]))) (dW 20 R (wnF hc99) (v_clf (fo := 1) 0 ag29 R R R) (hS := (fun w s => (s.e 3 [1, 2, 0]))) (dW 21 R (wnF hc99) (v_len sl29 R) (hS := (fun w s => (s.e 3 [1, 2, 0]))) (dW 22 R (wnF hc99) (vFa 0 fo58_0 R) (hS := (fun w s => (s.e 3 [1, 2, 0]))) (dW 23 R (wnF hc99) (vLd 3 ag29 R R R) (hS := (fun w s => (s.e 3 [1, 2, 0]))) (dW 24 R (wnF hc99) (vI R) (hS := (fun w s => (s.e 3 [1, 2, 0]))) (dW 25 R (wnF hc99) (vIa sl29 sz3 R R (hg92 hc99)) (hS := (fun w s => (s.e 3 [1, 2, 0]))) ?_))))))))))))))
 refine dW 26 R (wnF hc99) (vLi 4 ag3 sees_rd R (hg92 hc99)) (hS := (fun w s => (s.e 3 [1, 2, 0]))) (dW 27 R (wnF hc99) (vNe R R) (hS := (fun w s => (s.e 3 [1, 2, 0]))) (dR 28 R (pOF R hc99 R) (hS := (fun w s => (s.e 3 [1, 2, 0]))) (dR 29 R (vB R) (hS := (fun w s => (s.e 3 [1, 2, 0]))) (dW 30 R (wnF hc100) (vFa 2 fo58_2 R) (hS := (fun w s => (s.e 3 [1, 2, 0]))) (dW 31 R (wnF hc100) (vLd 3 ag55 R R R) (hS := (fun w s => (s.e 3 [1, 2, 0]))) (dW 32 R (wnF hc100) (vI R) (hS := (fun w s => (s.e 3 [1, 2, 0]))) (dW 33 R (wnF hc100) (vIa sl55 sz159 R R hg86) (hS := (fun w s => (s.e 3 [1, 2, 0]))) (dW 34 R (wnF hc100) (vz (.pointer (some ⟨g87, o88 + i84.toNat * 2 + 1, none⟩)) (v_fa fo159_1 R R)) (hS := (fun w s => (s.e 3 [1, 2, 0]))) (dW 35 R (wnF hc100) (v_clf (fo := 1) 0 ag29 R R R) (hS := (fun w s => (s.e 3 [1, 2, 0]))) (dW 36 R (wnF hc100) (v_len sl29 R) (hS := (fun w s => (s.e 3 [1, 2, 0]))) (dW 37 R (wnF hc100) (vGt R R) (hS := (fun w s => (s.e 3 [1, 2, 0]))) (dW 38 R (wnF hc100) (vB R) (hS := (fun w s => (s.e 3 [1, 2, 0]))) (dW 39 R (wnT hc101) (vFa 2 fo58_2 R) (hS := (fun w s => (s.e 3 [1, 2, 0]))) ?_)))))))))))))
 refine dW 40 R (wnT hc101) (vLd 3 ag55 R R R) (hS := (fun w s => (s.e 3 [1, 2, 0]))) (dW 41 R (wnT hc101) (vI R) (hS := (fun w s => (s.e 3 [1, 2, 0]))) (dW 42 R (wnT hc101) (vIa sl55 sz159 R R hg86) (hS := (fun w s => (s.e 3 [1, 2, 0]))) (dW 43 R (wnT hc101) (vz (.pointer (some ⟨g87, o88 + i84.toNat * 2 + 1, none⟩)) (v_fa fo159_1 R R)) (hS := (fun w s => (s.e 3 [1, 2, 0]))) (dW 44 R (wnT hc101) (v_clf (fo := 1) 0 ag29 R R R) (hS := (fun w s => (s.e 3 [1, 2, 0]))) (d_one 45 (by kernel_rfl) R (lM (_ :: _ :: _ :: _ :: W1) (fun w s => (s.d 2 R)) ?_))))))
 refine l_calln 1 R (wnT hc101) cb118 R (spec_l5RowOk_ok (gcall_t hx96 (and_tt (not_ff hc100) hc101))) R ?_
 rintro _
 refine lN (_ :: _ :: _ :: W1) ?_
 refine l_nil (q_draw (fun w s => (s.e 3 [1, 2, 0])) (dW 46 R (wnT hc101) (vNo R) (hS := (fun w s => (s.e 3 [1, 2, 0]))) (dW 47 R (wnF hc100) (pAT R hc101 R) (hS := (fun w s => (s.e 3 [1, 2, 0]))) (dR 48 R (pOF R hc100 R) (hS := (fun w s => (s.e 3 [1, 2, 0]))) (d_done (by kernel_rfl) ?_)))))
 exact qJ (fun w s => (s.e 3 [0]))
 refine c_elem (K := kT159) 4 i84 dT159.dec R hg86.1 hg86.2 ?_
 rintro ⟨-, ⟨A91, D91⟩⟩
 refine c_some 4 sees_rd (show 0 < l1.Sizes.length by have := (hg92 hc99); omega) (fun g93 o94 ha => ?_)
 subst ha
 refine cdr 49 [] mixo (fun ht hn => (dR 0 R (vI R) (dR 1 R (vLt R R) (dR 2 R (vB R) (dW 3 R (wnF hc97) (vI R) (dW 4 R (wnF hc97) (vFa 0 fo58_0 R) (dW 5 R (wnF hc97) (vLd 3 ag29 R R R) (dW 6 R (wnF hc97) (v_len sl29 R) (dW 7 R (wnF hc97) (vGe R R) (dR 8 R (pOF R hc97 R) (dR 9 R (vB R) (dW 10 R (wnF hc98) (vS R) (dW 11 R (wnF hc98) (vI R) (d_one 12 (by kernel_rfl) R (lM (ow _ _ _ _ :: cl _ _ _ :: rds _ _ _ :: W1) (fun w s => (s.e 3 [2, 0, 1])) ?_)))))))))))))))
 refine l_calln 1 R (wnF hc98) cb117 R (FnOk.lends (A' := [OO kT3 3 A83 D83 given82]) (A := [RR kT3 A83 D83 given82]) (B := []) (spec_l7Has_ok (gcall_t hx90 (not_ff hc98))) ⟨lend_ow, trivial⟩ (fun _ => trivial)) R ?_
 rintro _
 refine l_nil (q_draw (fun w s => (s.e 3 [1, 2, 0])) (dR 13 R (pOF R hc98 R) (hS := (fun w s => (s.e 3 [1, 2, 0]))) (dR 14 R (vB R) (hS := (fun w s => (s.e 3 [1, 2, 0]))) (dW 15 R (wnF hc99) (vFa 2 fo58_2 R) (hS := (fun w s => (s.e 3 [1, 2, 0]))) (dW 16 R (wnF hc99) (vLd 3 ag55 R R R) (hS := (fun w s => (s.e 3 [1, 2, 0]))) (dW 17 R (wnF hc99) (vI R) (hS := (fun w s => (s.e 3 [1, 2, 0]))) (dW 18 R (wnF hc99) (vIa sl55 sz159 R R hg86) (hS := (fun w s => (s.e 3 [1, 2, 0]))) (dW 19 R (wnF hc99) (vz (.pointer (some ⟨g87, o88 + i84.toNat * 2 + 1, none⟩)) (v_fa fo159_1 R R)) (hS := (fun w s => (s.e 3 [1, 2, 0]))) (dW 20 R (wnF hc99) (v_clf (fo := 1) 0 ag29 R R R) (hS := (fun w s => (s.e 3 [1, 2, 0]))) (dW 21 R (wnF hc99) (v_len sl29 R) (hS := (fun w s => (s.e 3 [1, 2, 0]))) (dW 22 R (wnF hc99) (vFa 0 fo58_0 R) (hS := (fun w s => (s.e 3 [1, 2, 0]))) (dW 23 R (wnF hc99) (vLd 3 ag29 R R R) (hS := (fun w s => (s.e 3 [1, 2, 0]))) (dW 24 R (wnF hc99) (vI R) (hS := (fun w s => (s.e 3 [1, 2, 0]))) (dW 25 R (wnF hc99) (vIa sl29 sz3 R R (hg92 hc99)) (hS := (fun w s => (s.e 3 [1, 2, 0]))) ?_))))))))))))))
 refine dW 26 R (wnF hc99) (vLi 4 ag3 sees_rd R (hg92 hc99)) (hS := (fun w s => (s.e 3 [1, 2, 0]))) (dW 27 R (wnF hc99) (vNe R R) (hS := (fun w s => (s.e 3 [1, 2, 0]))) (dR 28 R (pOF R hc99 R) (hS := (fun w s => (s.e 3 [1, 2, 0]))) (dR 29 R (vB R) (hS := (fun w s => (s.e 3 [1, 2, 0]))) (dW 30 R (wnF hc100) (vFa 2 fo58_2 R) (hS := (fun w s => (s.e 3 [1, 2, 0]))) (dW 31 R (wnF hc100) (vLd 3 ag55 R R R) (hS := (fun w s => (s.e 3 [1, 2, 0]))) (dW 32 R (wnF hc100) (vI R) (hS := (fun w s => (s.e 3 [1, 2, 0]))) (dW 33 R (wnF hc100) (vIa sl55 sz159 R R hg86) (hS := (fun w s => (s.e 3 [1, 2, 0]))) (dW 34 R (wnF hc100) (vz (.pointer (some ⟨g87, o88 + i84.toNat * 2 + 1, none⟩)) (v_fa fo159_1 R R)) (hS := (fun w s => (s.e 3 [1, 2, 0]))) (dW 35 R (wnF hc100) (v_clf (fo := 1) 0 ag29 R R R) (hS := (fun w s => (s.e 3 [1, 2, 0]))) (dW 36 R (wnF hc100) (v_len sl29 R) (hS := (fun w s => (s.e 3 [1, 2, 0]))) (dW 37 R (wnF hc100) (vGt R R) (hS := (fun w s => (s.e 3 [1, 2, 0]))) (dW 38 R (wnF hc100) (vB R) (hS := (fun w s => (s.e 3 [1, 2, 0]))) (dF 39 R (wfF hc101) (hS := (fun w s => (s.e 3 [1, 2, 0]))) (dF 40 R (wfF hc101) (hS := (fun w s => (s.e 3 [1, 2, 0]))) ?_))))))))))))))
 refine dF 41 R (wfF hc101) (hS := (fun w s => (s.e 3 [1, 2, 0]))) (dF 42 R (wfF hc101) (hS := (fun w s => (s.e 3 [1, 2, 0]))) (dF 43 R (wfF hc101) (hS := (fun w s => (s.e 3 [1, 2, 0]))) (dF 44 R (wfF hc101) (hS := (fun w s => (s.e 3 [1, 2, 0]))) (dF 45 R (wfF hc101) (hS := (fun w s => (s.e 3 [1, 2, 0]))) (dF 46 R (wfF hc101) (hS := (fun w s => (s.e 3 [1, 2, 0]))) (dW 47 R (wnF hc100) (pAF (!r95) R hc101) (hS := (fun w s => (s.e 3 [1, 2, 0]))) (dR 48 R (pOF R hc100 R) (hS := (fun w s => (s.e 3 [1, 2, 0]))) (d_done (by kernel_rfl) ?_))))))))
 exact qJ (fun w s => (s.e 3 [0]))
 rintro σ1
 refine q_next ?_
 rcases bif_ hr with ⟨hb102, hr⟩ | ⟨hb102, hr⟩
 refine c_true R hb102 (c_seq (c_region (lB R (l_nil (q_next (c_ret (q_ret (q_blockr (q_ret ?_)))))))))
 obtain rfl := so hr
 obtain rfl := he3 _ R
 have hr := hk3
 refine q_ret (q_blockr (q_ret ?_))
 obtain rfl := so hr
 exact qF () (fun w s => (s.e 7 []))
 refine c_false R hb102 (c_skip (q_next ?_))
 obtain ⟨hg104, hr⟩ := gd hr
 refine c_region (lS R (lI R (l_build (K := kT3) (xs := ([(ix l1.Fixed i84).Buffer] : List Int)) (vs := [(iv (ix l1.Fixed i84).Buffer)]) 0 R R sl29 sz3 zc3 R R R R R R ?_ R (fun A103 D103 => ?_))))
 exact fun I h s => (mO3).list [((), (ix l1.Fixed i84).Buffer)] I h s
 refine lN (OO kT3 3 A103 D103 ([(ix l1.Fixed i84).Buffer] : List Int) :: _ :: W1) ?_
 refine lM (ow _ _ _ _ :: ow _ _ _ _ :: W1) (fun w s => (s.e 2 [1, 0])) ?_
 refine l_app (K := kT3) 17592186044416 R R sl29 sz3 by3 (Zr.zk zT3 zc3) R R R R R R src_ow hg104 (fun A105 D105 => (lN (OO kT3 3 A105 D105 (given82 ++ ([(ix l1.Fixed i84).Buffer] : List Int)) :: W1) ?_))
 refine lS R (l_nil (q_blockn (q_next (c_region (lI R (lO (vAd R R) (lI R (l_nil ?_))))))))
 obtain rfl := so hr
 exact qA (A105, (given82 ++ ([(ix l1.Fixed i84).Buffer] : List Int)).length, D105) (fun w s => s)
 refine c_false R hb85 (c_exit (q_exit ?_))
 obtain rfl := so hr
 obtain rfl := he3 _ R
 have hr := hk3
 refine q_exit (q_block ?_)
 exact qI (given82, (A83, given82.length, D83)) hr (fun w s => s)
 rintro ⟨given109, ⟨A110, N110, D110⟩⟩ σ1 hr
 replace hr : spec_NestOk_J3 l1 given109 = some r := hr
 unfold spec_NestOk_J3 at hr
 refine c_len 0 sees_ow (fun (hn : N110 = given109.length) => ?_)
 subst hn
 refine c_seq (c_region (lI R (l_nil (q_next (c_seq (c_cut (A := (Int) × (Unit)) (fun a => spec_NestOk_J4 a.1 = some r) (fun a => [(8, (iv a.1))]) (fun a => W1) ?_ ?_))))))
 refine c_seq (c_region (lI R (l_nil (q_next (c_block ?_)))))
 obtain ⟨e4, hl4, hk4⟩ := bd hr
 refine c_loop (A := Unit) hl4 (fun s a => [(1, (pt b7 0)), (4, (sc A110 given109 D110)), (8, (iv s.1)), (9, (iv s.2))]) (fun s a => OO kT3 3 A110 D110 given109 :: W1) () (aS R) (fun w s => s) ?_
 rintro ⟨all133, i134⟩ _ σ1 out4 hr he4
 replace hr : spec_NestOk_L4 l1 given109 all133 i134 = some out4 := hr
 unfold spec_NestOk_L4 at hr
 refine c_seq (c_seq (c_region (lI R (lO (vFa 3 fo58_3 R) (lO (vLd 1 ag56 R R R) (lO (v_len sl56 R) (lO (vLt R R) (l_nil (q_next ?_)))))))))
 rcases bif_ hr with ⟨hb135, hr⟩ | ⟨hb135, hr⟩
 refine c_true R hb135 (c_skip (q_next (c_seq (c_block (c_seq (c_seq ?_))))))
 obtain ⟨hg136, hr⟩ := gd hr
 obtain ⟨r143, hx144, hr⟩ := bd hr
 obtain ⟨r145, hx146, hr⟩ := bd hr
 refine cQ [(1, (pt b7 0)), (4, (sc A110 given109 D110)), (8, (iv all133)), (9, (iv i134)), (186, (.bool ((!r143) || r145)))] (OO kT3 3 A110 D110 given109 :: W1) ?_ ?_
 rcases bo (!r143) with hc147 | hc147
 refine c_some 5 sees_rd (show 0 < l1.Kernels.length by have := hg136; omega) (fun g137 o138 ha => ?_)
 subst ha
 refine c_elem (K := kT127) 5 i134 dT127.dec R hg136.1 hg136.2 ?_
 rintro ⟨⟨A139, D139⟩, ⟨A140, D140⟩, ⟨-, -, ⟨A141, D141⟩⟩, -, ⟨A142, D142⟩⟩
 refine cN (cl g137 (o138 + i134.toNat * 7) [(sc A139 ((ix l1.Kernels i134).Loops) D139), (sc A140 ((ix l1.Kernels i134).Loads) D140), (iv (ix l1.Kernels i134).Store.Buffer), (iv (ix l1.Kernels i134).Store.Offset), (sc A141 ((ix l1.Kernels i134).Store.Steps) D141), (.bool (ix l1.Kernels i134).Sum), (sc A142 ((ix l1.Kernels i134).Code) D142)] :: RR kT3 A139 D139 ((ix l1.Kernels i134).Loops) :: RR kT124 A140 D140 ((ix l1.Kernels i134).Loads) :: RR kT3 A141 D141 ((ix l1.Kernels i134).Store.Steps) :: RR kT216 A142 D142 ((ix l1.Kernels i134).Code) :: OO kT3 3 A110 D110 given109 :: W1) ?_
 refine cdr 20 [] mixo (fun ht hn => (dR 0 R (vFa 3 fo58_3 R) (dR 1 R (vLd 6 ag56 R R R) (dR 2 R (vI R) (dR 3 R (vIa sl56 sz127 R R hg136) (dR 4 R (vz (.agg [(sc A139 ((ix l1.Kernels i134).Loops) D139), (sc A140 ((ix l1.Kernels i134).Loads) D140), (iv (ix l1.Kernels i134).Store.Buffer), (iv (ix l1.Kernels i134).Store.Offset), (sc A141 ((ix l1.Kernels i134).Store.Steps) D141), (.bool (ix l1.Kernels i134).Sum), (sc A142 ((ix l1.Kernels i134).Code) D142)].toArray) (v_clfs (fo := 0) 0 ag127 sz127 R R R R)) (dR 5 R (vFa 0 fo58_0 R) (dR 6 R (vLd 6 ag29 R R R) (d_one 7 (by kernel_rfl) R (lM (rds _ _ _ :: rds _ _ _ :: rds _ _ _ :: rds _ _ _ :: RR kT3 A2 D2 l1.Sizes :: cl _ _ _ :: rds _ _ _ :: rds _ _ _ :: rds _ _ _ :: rds _ _ _ :: ow _ _ _ _ :: W1) (fun w s => ((((((s.d 1 R).d 3 R).d 5 R).d 7 R).d 11 R).e 11 [4, 3, 2, 1, 0, 5, 6, 7, 8, 9, 10])) ?_))))))))))
 refine lC 5 cb119 R (spec_l11Kernel_ok hx144) R ?_
 rintro _
 refine lN (_ :: _ :: _ :: _ :: _ :: _ :: W1) ?_
 refine l_nil (q_draw (sL []) (dR 8 R (vNo R) (dR 9 R (vB R) (dF 10 R (wfT hc147) (dF 11 R (wfT hc147) (dF 12 R (wfT hc147) (dF 13 R (wfT hc147) (dF 14 R (wfT hc147) (dF 15 R (wfT hc147) (dF 16 R (wfT hc147) (dF 17 R (wfT hc147) (dF 18 R (wfT hc147) (dR 19 R (pOT r145 R hc147) (d_done (by kernel_rfl) ?_))))))))))))))
 exact qJ (fun w s => (s.e 6 [5]))
 refine c_some 5 sees_rd (show 0 < l1.Kernels.length by have := hg136; omega) (fun g137 o138 ha => ?_)
 subst ha
 refine c_elem (K := kT127) 5 i134 dT127.dec R hg136.1 hg136.2 ?_
 rintro ⟨⟨A139, D139⟩, ⟨A140, D140⟩, ⟨-, -, ⟨A141, D141⟩⟩, -, ⟨A142, D142⟩⟩
 refine cdr 20 [] mixo (fun ht hn => (dR 0 R (vFa 3 fo58_3 R) (dR 1 R (vLd 6 ag56 R R R) (dR 2 R (vI R) (dR 3 R (vIa sl56 sz127 R R hg136) (dR 4 R (vz (.agg [(sc A139 ((ix l1.Kernels i134).Loops) D139), (sc A140 ((ix l1.Kernels i134).Loads) D140), (iv (ix l1.Kernels i134).Store.Buffer), (iv (ix l1.Kernels i134).Store.Offset), (sc A141 ((ix l1.Kernels i134).Store.Steps) D141), (.bool (ix l1.Kernels i134).Sum), (sc A142 ((ix l1.Kernels i134).Code) D142)].toArray) (v_clfs (fo := 0) 0 ag127 sz127 R R R R)) (dR 5 R (vFa 0 fo58_0 R) (dR 6 R (vLd 6 ag29 R R R) (d_one 7 (by kernel_rfl) R (lM (rds _ _ _ :: rds _ _ _ :: rds _ _ _ :: rds _ _ _ :: RR kT3 A2 D2 l1.Sizes :: cl _ _ _ :: rds _ _ _ :: rds _ _ _ :: rds _ _ _ :: rds _ _ _ :: ow _ _ _ _ :: W1) (fun w s => ((((((s.d 1 R).d 3 R).d 5 R).d 7 R).d 11 R).e 11 [4, 3, 2, 1, 0, 5, 6, 7, 8, 9, 10])) ?_))))))))))
 refine lC 5 cb119 R (spec_l11Kernel_ok hx144) R ?_
 rintro _
 refine lN (_ :: _ :: _ :: _ :: _ :: _ :: W1) ?_
 refine l_nil (q_draw (sL []) (dR 8 R (vNo R) (dR 9 R (vB R) (dW 10 R (wnF hc147) (vS R) (dW 11 R (wnF hc147) (vFa 3 fo58_3 R) (dW 12 R (wnF hc147) (vLd 6 ag56 R R R) (dW 13 R (wnF hc147) (vI R) (dW 14 R (wnF hc147) (vIa sl56 sz127 R R hg136) (dW 15 R (wnF hc147) (vz (.pointer (some ⟨g137, o138 + i134.toNat * 7 + 2, none⟩)) (v_fa fo127_2 R R)) (dW 16 R (wnF hc147) (vz (.pointer (some ⟨g137, o138 + i134.toNat * 7 + 2, none⟩)) (v_fa fo124_0 R R)) (dW 17 R (wnF hc147) (vz (iv (ix l1.Kernels i134).Store.Buffer) (v_lde (K := kT127) (fo := 2) (pr := fun x => (iv x.Store.Buffer)) 10 i134 ag3 (dT127.leaf fun _ _ => R) sees_rd R hg136.1 hg136.2)) (d_one 18 (by kernel_rfl) R (lM (ow _ _ _ _ :: cl _ _ _ :: rds _ _ _ :: rds _ _ _ :: rds _ _ _ :: rds _ _ _ :: W1) (fun w s => (s.f 6 [5, 1, 0, 5])) ?_)))))))))))))
 refine l_calln 1 R (wnF hc147) cb117 R (FnOk.lends (A' := [OO kT3 3 A110 D110 given109]) (A := [RR kT3 A110 D110 given109]) (B := []) (spec_l7Has_ok (gcall_t hx146 (not_ff hc147))) ⟨lend_ow, trivial⟩ (fun _ => trivial)) R ?_
 rintro _
 refine l_nil (q_draw (fun w s => (s.f 6 [1, 5, 0, 1])) (dR 19 R (pOF R hc147 R) (hS := (fun w s => (s.f 6 [1, 5, 0, 1]))) (d_done (by kernel_rfl) ?_)))
 exact qJ (fun w s => (s.e 6 [0]))
 rintro σ1
 refine q_next ?_
 rcases bif_ hr with ⟨hb148, hr⟩ | ⟨hb148, hr⟩
 refine c_true R hb148 (c_seq (c_region (lB R (l_nil (q_next (c_ret (q_ret (q_blockr (q_ret ?_)))))))))
 obtain rfl := so hr
 obtain rfl := he4 _ R
 have hr := hk4
 refine q_ret (q_blockr (q_ret ?_))
 obtain rfl := so hr
 exact qF () (fun w s => (s.e 7 []))
 refine c_false R hb148 (c_skip (q_next ?_))
 obtain ⟨r155, hx156, hr⟩ := bd hr
 refine c_region (lI R (lO (vFa 3 fo58_3 R) (lO (vLd 1 ag56 R R R) (lI R (t_some 5 sees_rd (show 0 < l1.Kernels.length by have := hg136; omega) (fun g149 o150 ha => ?_))))))
 subst ha
 refine lO (vIa sl56 sz127 R R hg136) (lO (vz (.pointer (some ⟨g149, o150 + i134.toNat * 7, none⟩)) (v_fa fo127_0 R R)) (t_elem (K := kT127) 5 i134 dT127.dec R hg136.1 hg136.2 ?_))
 rintro ⟨⟨A151, D151⟩, ⟨A152, D152⟩, ⟨-, -, ⟨A153, D153⟩⟩, -, ⟨A154, D154⟩⟩
 refine lN (cl g149 (o150 + i134.toNat * 7) [(sc A151 ((ix l1.Kernels i134).Loops) D151), (sc A152 ((ix l1.Kernels i134).Loads) D152), (iv (ix l1.Kernels i134).Store.Buffer), (iv (ix l1.Kernels i134).Store.Offset), (sc A153 ((ix l1.Kernels i134).Store.Steps) D153), (.bool (ix l1.Kernels i134).Sum), (sc A154 ((ix l1.Kernels i134).Code) D154)] :: RR kT3 A151 D151 ((ix l1.Kernels i134).Loops) :: RR kT124 A152 D152 ((ix l1.Kernels i134).Loads) :: RR kT3 A153 D153 ((ix l1.Kernels i134).Store.Steps) :: RR kT216 A154 D154 ((ix l1.Kernels i134).Code) :: _ :: W1) ?_
 refine lO (v_clf (fo := 0) 0 ag29 R R R) (lM (_ :: _ :: _ :: _ :: _ :: _ :: _ :: W1) (fun w s => (s.d 1 R)) ?_)
 refine lC 1 cb120 R (spec_l11Product_ok hx156) R ?_
 rintro _
 refine lN (_ :: _ :: _ :: _ :: _ :: _ :: W1) ?_
 refine lO (vAd R R) (lI R (l_nil (q_blockn (q_next (c_region (lI R (lO (vAd R R) (lI R (l_nil ?_)))))))))
 obtain rfl := so hr
 exact qA () (fun w s => (s.e 6 [5]))
 refine c_false R hb135 (c_exit (q_exit ?_))
 obtain rfl := so hr
 obtain rfl := he4 _ R
 have hr := hk4
 refine q_exit (q_block ?_)
 exact qI (all133, ()) hr (fun w s => (s.e 1 []))
 rintro ⟨all159, _⟩ σ1 hr
 replace hr : spec_NestOk_J4 all159 = some r := hr
 unfold spec_NestOk_J4 at hr
 refine c_seq (c_region (lI R (lO (vLe R R) (lB R (l_nil (q_next (c_ret ?_)))))))
 obtain rfl := so hr
 exact qF () (fun w s => (s.e 6 []))
theorem spec_l11Uses_ok {k1 : Kernel} {b6 : Int} {r : (List Int)} (hr : spec_l11Uses k1 b6 = some r) :
 FnOk Try.prog 123 [(.agg [(.slice A2 N2 D2), (.slice A3 N3 D3), (iv k1.Store.Buffer), (iv k1.Store.Offset), (.slice A4 N4 D4), (.bool k1.Sum), (.slice A5 N5 D5)].toArray), (iv b6)] [rds kT3 (.slice A2 N2 D2) k1.Loops, rds kT124 (.slice A3 N3 D3) k1.Loads, rds kT3 (.slice A4 N4 D4) k1.Store.Steps, rds kT216 (.slice A5 N5 D5) k1.Code] (fun (h : HH) => ((.slice h.1 h.2.1 h.2.2), [ow kT3 3 (.slice h.1 h.2.1 h.2.2) r])) := by
 unfold spec_l11Uses at hr
 refine fn_ok Try.func123 R 28 R R fun C V => ?_
 refine cN (_ :: _ :: _ :: _ :: V) ?_
 refine cL 0 sees_rd ?_
 rintro rfl
 refine cL 1 sees_rd ?_
 rintro rfl
 refine cL 2 sees_rd ?_
 rintro rfl
 refine cL 3 sees_rd ?_
 rintro rfl
 let W0 : List HP := RR kT3 A2 D2 k1.Loops :: RR kT124 A3 D3 k1.Loads :: RR kT3 A4 D4 k1.Store.Steps :: RR kT216 A5 D5 k1.Code :: V
 refine cN W0 ?_
 refine c_seq (c_region (lBx R (fun b7 => (lS R (l_nil ?_)))))
 let W1 : List HP := bxl b7 [(sc A2 k1.Loops D2), (sc A3 k1.Loads D3), (iv k1.Store.Buffer), (iv k1.Store.Offset), (sc A4 k1.Store.Steps D4), (.bool k1.Sum), (sc A5 k1.Code D5)] 127 :: W0
 refine qN W1 ?_
 refine q_next (c_seq (c_region (l_build (K := kT3) (xs := ([] : List Int)) (vs := []) 0 R R sl29 sz3 zc3 R R R R R R ?_ R (fun A8 D8 => ?_))))
 exact fun I h s => (mO3).list [] I h s
 refine lN (OO kT3 3 A8 D8 ([] : List Int) :: W1) ?_
 refine lS R (l_nil (q_next (c_seq (c_cut (A := ((List Int)) × (HH)) (fun a => spec_l11Uses_J3 a.1 = some r) (fun a => [(5, (.slice a.2.1 a.2.2.1 a.2.2.2))]) (fun a => ow kT3 3 (.slice a.2.1 a.2.2.1 a.2.2.2) a.1 :: W1) ?_ ?_))))
 refine c_seq (c_region (lI R (l_nil (q_next (c_block ?_)))))
 obtain ⟨e1, hl1, hk1⟩ := bd hr
 refine c_loop (A := HH) hl1 (fun s a => [(1, (iv b6)), (2, (pt b7 0)), (5, (.slice a.1 a.2.1 a.2.2)), (6, (iv s.2))]) (fun s a => ow kT3 3 (.slice a.1 a.2.1 a.2.2) s.1 :: W1) (A8, ([] : List Int).length, D8) (aS R) (fun w s => s) ?_
 rintro ⟨x19, i21⟩ ⟨A20, N20, D20⟩ σ1 out1 hr he1
 replace hr : spec_l11Uses_L1 k1 b6 x19 i21 = some out1 := hr
 unfold spec_l11Uses_L1 at hr
 refine c_len 0 sees_ow (fun (hn : N20 = x19.length) => ?_)
 subst hn
 refine c_seq (c_seq (c_region (lI R (lO (vFa 1 fo127_1 R) (lO (vLd 1 ag122 R R R) (lO (v_len sl122 R) (lO (vLt R R) (l_nil (q_next ?_)))))))))
 rcases bif_ hr with ⟨hb22, hr⟩ | ⟨hb22, hr⟩
 refine c_true R hb22 (c_skip (q_next (c_seq (c_cut (A := ((List Int)) × (HH)) (fun a => spec_l11Uses_J2 i21 a.1 = some out1) (fun a => [(1, (iv b6)), (2, (pt b7 0)), (5, (.slice a.2.1 a.2.2.1 a.2.2.2)), (6, (iv i21))]) (fun a => ow kT3 3 (.slice a.2.1 a.2.2.1 a.2.2.2) a.1 :: W1) ?_ ?_))))
 refine c_block (c_seq ?_)
 obtain ⟨hg23, hr⟩ := gd hr
 refine c_region (lO (vFa 1 fo127_1 R) (lO (vLd 1 ag122 R R R) (lI R (t_some 3 sees_rd (show 0 < k1.Loads.length by have := hg23; omega) (fun g24 o25 ha => ?_)))))
 subst ha
 refine lO (vIa sl122 sz124 R R hg23) (lO (vz (.pointer (some ⟨g24, o25 + i21.toNat * 3, none⟩)) (v_fa fo124_0 R R)) (lO (vz (iv (ix k1.Loads i21).Buffer) (v_lde (K := kT124) (fo := 0) (pr := fun x => (iv x.Buffer)) 3 i21 ag3 (dT124.leaf fun _ _ => R) sees_rd R hg23.1 hg23.2)) (lI R (lO (vEq R R) (l_nil (q_next ?_))))))
 rcases bif_ hr with ⟨hb26, hr⟩ | ⟨hb26, hr⟩
 refine c_true R hb26 ?_
 obtain ⟨hg28, hr⟩ := gd hr
 refine c_region (lS R (lI R (l_build (K := kT3) (xs := ([i21] : List Int)) (vs := [(iv i21)]) 0 R R sl29 sz3 zc3 R R R R R R ?_ R (fun A27 D27 => ?_))))
 exact fun I h s => (mO3).list [((), i21)] I h s
 refine lN (OO kT3 3 A27 D27 ([i21] : List Int) :: OO kT3 3 A20 D20 x19 :: W1) ?_
 refine lM (ow _ _ _ _ :: ow _ _ _ _ :: W1) (fun w s => (s.e 2 [1, 0])) ?_
 refine l_app (K := kT3) 17592186044416 R R sl29 sz3 by3 (Zr.zk zT3 zc3) R R R R R R src_ow hg28 (fun A29 D29 => (lN (OO kT3 3 A29 D29 (x19 ++ ([i21] : List Int)) :: W1) ?_))
 refine lS R (l_nil (q_blockn ?_))
 exact qI ((x19 ++ ([i21] : List Int)), (A29, (x19 ++ ([i21] : List Int)).length, D29)) hr (fun w s => s)
 refine c_false R hb26 (c_skip (q_blockn ?_))
 exact qI (x19, (A20, x19.length, D20)) hr (fun w s => s)
 rintro ⟨x30, ⟨A31, N31, D31⟩⟩ σ1 hr
 replace hr : spec_l11Uses_J2 i21 x30 = some out1 := hr
 unfold spec_l11Uses_J2 at hr
 refine c_len 0 sees_ow (fun (hn : N31 = x30.length) => ?_)
 subst hn
 refine c_region (lI R (lO (vAd R R) (lI R (l_nil ?_))))
 obtain rfl := so hr
 exact qA (A31, x30.length, D31) (fun w s => s)
 refine c_false R hb22 (c_exit (q_exit ?_))
 obtain rfl := so hr
 obtain rfl := he1 _ R
 have hr := hk1
 refine q_exit (q_block ?_)
 exact qI (x19, (A20, x19.length, D20)) hr (fun w s => s)
 rintro ⟨x35, ⟨A36, N36, D36⟩⟩ σ1 hr
 replace hr : spec_l11Uses_J3 x35 = some r := hr
 unfold spec_l11Uses_J3 at hr
 refine c_len 0 sees_ow (fun (hn : N36 = x35.length) => ?_)
 subst hn
 refine c_seq (c_region (lS R (lS R (l_nil (q_next (c_ret ?_))))))
 obtain rfl := so hr
 exact qF (A36, x35.length, D36) (fun w s => (s.e 6 [0]))
theorem spec_l11Reader_ok {ks1 : (List Kernel)} {b3 : Int} {r : Int} (hr : spec_l11Reader ks1 b3 = some r) :
 FnOk Try.prog 121 [(.slice A2 N2 D2), (iv b3)] [rds kT127 (.slice A2 N2 D2) ks1] (fun (h : Unit) => ((iv r), [])) := by
 unfold spec_l11Reader at hr
 refine fn_ok Try.func121 R 25 R R fun C V => ?_
 refine cN (_ :: V) ?_
 refine cL 0 sees_rd ?_
 rintro rfl
 let W0 : List HP := RR kT127 A2 D2 ks1 :: V
 refine cN W0 ?_
 refine c_seq (c_region (lI R (l_nil (q_next (c_seq (c_region (lI R (l_nil (q_next (c_seq (c_cut (A := (Int) × (Unit)) (fun a => spec_l11Reader_J3 a.1 = some r) (fun a => [(5, (iv a.1))]) (fun a => W0) ?_ ?_)))))))))))
 refine c_seq (c_region (lI R (l_nil (q_next (c_block ?_)))))
 obtain ⟨e1, hl1, hk1⟩ := bd hr
 refine c_loop (A := Unit) hl1 (fun s a => [(0, (sc A2 ks1 D2)), (1, (iv b3)), (5, (iv s.1)), (6, (iv s.2))]) (fun s a => W0) () (aS R) (fun w s => s) ?_
 rintro ⟨x18, i19⟩ _ σ1 out1 hr he1
 replace hr : spec_l11Reader_L1 ks1 b3 x18 i19 = some out1 := hr
 unfold spec_l11Reader_L1 at hr
 refine c_seq (c_seq (c_region (lI R (lS R (lO (v_len sl56 R) (lO (vLt R R) (l_nil (q_next ?_))))))))
 rcases bif_ hr with ⟨hb20, hr⟩ | ⟨hb20, hr⟩
 refine c_true R hb20 (c_skip (q_next (c_seq (c_cut (A := (Int) × (Unit)) (fun a => spec_l11Reader_J2 i19 a.1 = some out1) (fun a => [(0, (sc A2 ks1 D2)), (1, (iv b3)), (5, (iv a.1)), (6, (iv i19))]) (fun a => W0) ?_ ?_))))
 refine c_block (c_seq (c_seq ?_))
 obtain ⟨hg21, hr⟩ := gd hr
 obtain ⟨r28, hx29, hr⟩ := bd hr
 refine c_region (lS R (lI R (t_some 0 sees_rd (show 0 < ks1.length by have := hg21; omega) (fun g22 o23 ha => ?_))))
 subst ha
 refine lO (vIa sl56 sz127 R R hg21) (t_elem (K := kT127) 0 i19 dT127.dec R hg21.1 hg21.2 ?_)
 rintro ⟨⟨A24, D24⟩, ⟨A25, D25⟩, ⟨-, -, ⟨A26, D26⟩⟩, -, ⟨A27, D27⟩⟩
 refine lN (cl g22 (o23 + i19.toNat * 7) [(sc A24 ((ix ks1 i19).Loops) D24), (sc A25 ((ix ks1 i19).Loads) D25), (iv (ix ks1 i19).Store.Buffer), (iv (ix ks1 i19).Store.Offset), (sc A26 ((ix ks1 i19).Store.Steps) D26), (.bool (ix ks1 i19).Sum), (sc A27 ((ix ks1 i19).Code) D27)] :: RR kT3 A24 D24 ((ix ks1 i19).Loops) :: RR kT124 A25 D25 ((ix ks1 i19).Loads) :: RR kT3 A26 D26 ((ix ks1 i19).Store.Steps) :: RR kT216 A27 D27 ((ix ks1 i19).Code) :: W0) ?_
 refine lO (vz (.agg [(sc A24 ((ix ks1 i19).Loops) D24), (sc A25 ((ix ks1 i19).Loads) D25), (iv (ix ks1 i19).Store.Buffer), (iv (ix ks1 i19).Store.Offset), (sc A26 ((ix ks1 i19).Store.Steps) D26), (.bool (ix ks1 i19).Sum), (sc A27 ((ix ks1 i19).Code) D27)].toArray) (v_clfs (fo := 0) 0 ag127 sz127 R R R R)) (lI R (lM (rds _ _ _ :: rds _ _ _ :: rds _ _ _ :: rds _ _ _ :: cl _ _ _ :: rds _ _ _ :: rds _ _ _ :: rds _ _ _ :: rds _ _ _ :: W0) (fun w s => (((((s.d 1 R).d 3 R).d 5 R).d 7 R).e 9 [3, 2, 1, 0, 4, 5, 6, 7, 8])) ?_))
 refine lC 4 cb123 R (spec_l11Uses_ok hx29) R ?_
 rintro ⟨A30, N30, D30⟩
 refine lN (ow kT3 3 (.slice A30 N30 D30) r28 :: _ :: _ :: _ :: _ :: _ :: W0) ?_
 refine l_len 0 sees_ow ?_
 rintro rfl
 refine lO (v_len sl29 R) (lO (vEq R R) (l_nil (q_next ?_)))
 rcases bif_ hr with ⟨hb31, hr⟩ | ⟨hb31, hr⟩
 refine c_true R hb31 (c_exit (q_exit (q_block ?_)))
 exact qI (x18, ()) hr (fun w s => (s.e 6 []))
 refine c_false R hb31 (c_skip (q_next (c_seq (c_seq (c_region (lI R (lO (vGe R R) (l_nil (q_next ?_)))))))))
 rcases bif_ hr with ⟨hb32, hr⟩ | ⟨hb32, hr⟩
 refine c_true R hb32 (c_seq (c_region (lI R (l_nil (q_next (c_ret (q_ret (q_blockr (q_ret ?_)))))))))
 obtain rfl := so hr
 obtain rfl := he1 _ R
 have hr := hk1
 refine q_ret (q_blockr (q_ret ?_))
 obtain rfl := so hr
 exact qF () (fun w s => (s.e 7 []))
 refine c_false R hb32 (c_skip (q_next (c_region (lI R (lI R (l_nil (q_blockn ?_)))))))
 exact qI (i19, ()) hr (fun w s => (s.e 6 []))
 rintro ⟨x33, _⟩ σ1 hr
 replace hr : spec_l11Reader_J2 i19 x33 = some out1 := hr
 unfold spec_l11Reader_J2 at hr
 refine c_region (lI R (lO (vAd R R) (lI R (l_nil ?_))))
 obtain rfl := so hr
 exact qA () (fun w s => s)
 refine c_false R hb20 (c_exit (q_exit ?_))
 obtain rfl := so hr
 obtain rfl := he1 _ R
 have hr := hk1
 refine q_exit (q_block ?_)
 exact qI (x18, ()) hr (fun w s => s)
 rintro ⟨x36, _⟩ σ1 hr
 replace hr : spec_l11Reader_J3 x36 = some r := hr
 unfold spec_l11Reader_J3 at hr
 refine c_seq (c_region (lI R (lI R (l_nil (q_next (c_ret ?_))))))
 obtain rfl := so hr
 exact qF () (fun w s => (s.e 1 []))
theorem spec_l11Strides_ok {loops1 : (List Int)} {r : (List Int)} (hr : spec_l11Strides loops1 = some r) :
 FnOk Try.prog 176 [(.slice A2 N2 D2)] [rds kT3 (.slice A2 N2 D2) loops1] (fun (h : HH) => ((.slice h.1 h.2.1 h.2.2), [ow kT3 3 (.slice h.1 h.2.1 h.2.2) r])) := by
 unfold spec_l11Strides at hr
 refine fn_ok Try.func176 R 32 R R fun C V => ?_
 refine cN (_ :: V) ?_
 refine cL 0 sees_rd ?_
 rintro rfl
 let W0 : List HP := RR kT3 A2 D2 loops1 :: V
 refine cN W0 ?_
 refine c_seq (c_region (lS R (l_nil (q_next (c_seq ?_)))))
 obtain ⟨hg3, hr⟩ := gd hr
 refine c_region (lS R (lO (v_len sl29 R) (l_make (K := kT3) (m := (loops1.length : Int)) (z := (0 : Int)) R R sl29 sz3 by3 (Zr.zk zT3 zc3) (by decide) R R hg3.1 hg3.2.1 hg3.2.2 (fun A4 D4 => (lS R (l_nil (q_next (c_seq (c_region (lI R (l_nil (q_next (c_seq (c_cut (A := ((List Int)) × (Unit)) (fun a => spec_l11Strides_J3 a.1 = some r) (fun a => [(3, (sc A4 (List.replicate (loops1.length : Int).toNat (0 : Int)) D4))]) (fun a => ow kT3 3 (.slice A4 (List.replicate (loops1.length : Int).toNat (0 : Int)).length D4) a.1 :: W0) ?_ ?_))))))))))))))
 refine c_seq (c_region (lS R (lO (v_len sl29 R) (lO (vSb R R) (lI R (l_nil (q_next (c_block ?_))))))))
 obtain ⟨e1, hl1, hk1⟩ := bd hr
 refine c_loop (A := Unit) hl1 (fun s a => [(0, (sc A2 loops1 D2)), (3, (sc A4 (List.replicate (loops1.length : Int).toNat (0 : Int)) D4)), (4, (iv s.2.1)), (5, (iv s.2.2))]) (fun s a => ow kT3 3 (.slice A4 (List.replicate (loops1.length : Int).toNat (0 : Int)).length D4) s.1 :: W0) () (aS R) (fun w s => s) ?_
 rintro ⟨x19, x20, i21⟩ _ σ1 out1 hr he1
 replace hr : spec_l11Strides_L1 loops1 x19 x20 i21 = some out1 := hr
 unfold spec_l11Strides_L1 at hr
 refine c_seq (c_seq (c_region (lI R (lO (vGe R R) (l_nil (q_next ?_))))))
 rcases bif_ hr with ⟨hb22, hr⟩ | ⟨hb22, hr⟩
 refine c_true R hb22 (c_skip (q_next (c_seq (c_block (c_seq (c_cut (A := ((List Int)) × (Unit)) (fun a => spec_l11Strides_J2 loops1 x20 i21 a.1 = some out1) (fun a => [(0, (sc A2 loops1 D2)), (3, (sc A4 (List.replicate (loops1.length : Int).toNat (0 : Int)) D4)), (4, (iv x20)), (5, (iv i21))]) (fun a => ow kT3 3 (.slice A4 (List.replicate (loops1.length : Int).toNat (0 : Int)).length D4) a.1 :: W0) ?_ ?_))))))
 refine c_seq ?_
 obtain ⟨hg23, hr⟩ := gd hr
 refine c_region (lS R (lI R (t_some 1 sees_rd (show 0 < loops1.length by have := hg23; omega) (fun g24 o25 ha => ?_))))
 subst ha
 refine lO (vIa sl29 sz3 R R hg23) (lO (vLi 1 ag3 sees_rd R hg23) (lO (vGt R R) (l_nil (q_next ?_))))
 rcases bif_ hr with ⟨hb26, hr⟩ | ⟨hb26, hr⟩
 refine c_true R hb26 ?_
 obtain ⟨hg27, hr⟩ := gd hr
 refine c_region (lS R (lI R (lI R (t_some 0 sees_ow (show 0 < (List.replicate (loops1.length : Int).toNat (0 : Int)).length by have := hg27; omega) (fun g28 o29 ha => ?_)))))
 subst ha
 refine lO (vIa sl29 sz3 R R hg27) (lN (ow kT3 3 (.slice (ad g28 o29) (List.replicate (loops1.length : Int).toNat (0 : Int)).length D4) x19 :: W0) ?_)
 refine l_stx (K := kT3) (x' := x20) 0 i21 R R sz3 R R hg27.1 hg27.2 ?_ ?_
 exact fun I h s => (mO3).put I h () x20 s
 refine lN (ow kT3 3 (.slice (ad g28 o29) (List.replicate (loops1.length : Int).toNat (0 : Int)).length D4) (x19.set i21.toNat x20) :: W0) ?_
 refine l_nil ?_
 exact qI ((x19.set i21.toNat x20), ()) hr (fun w s => s)
 refine c_false R hb26 (c_skip ?_)
 exact qI (x19, ()) hr (fun w s => s)
 rintro ⟨x30, _⟩ σ1 hr
 replace hr : spec_l11Strides_J2 loops1 x20 i21 x30 = some out1 := hr
 unfold spec_l11Strides_J2 at hr
 obtain ⟨hg31, hr⟩ := gd hr
 refine c_region (lI R (lS R (lI R (t_some 1 sees_rd (show 0 < loops1.length by have := hg31; omega) (fun g32 o33 ha => ?_)))))
 subst ha
 refine lO (vIa sl29 sz3 R R hg31) (lO (vLi 1 ag3 sees_rd R hg31) (lO (vMu R R) (lI R (l_nil (q_blockn (q_next (c_region (lI R (lO (vSb R R) (lI R (l_nil ?_)))))))))))
 obtain rfl := so hr
 exact qA () (fun w s => s)
 refine c_false R hb22 (c_exit (q_exit ?_))
 obtain rfl := so hr
 obtain rfl := he1 _ R
 have hr := hk1
 refine q_exit (q_block ?_)
 exact qI (x19, ()) hr (fun w s => s)
 rintro ⟨x37, _⟩ σ1 hr
 replace hr : spec_l11Strides_J3 x37 = some r := hr
 unfold spec_l11Strides_J3 at hr
 refine c_seq (c_region (lS R (lS R (l_nil (q_next (c_ret ?_))))))
 obtain rfl := so hr
 exact qF (A4, (List.replicate (loops1.length : Int).toNat (0 : Int)).length, D4) (fun w s => (s.e 2 [0]))
theorem spec_l3SameInts_ok {a1 : (List Int)} {b3 : (List Int)} {r : Bool} (hr : spec_l3SameInts a1 b3 = some r) :
 FnOk Try.prog 93 [(.slice A2 N2 D2), (.slice A4 N4 D4)] [rds kT3 (.slice A2 N2 D2) a1, rds kT3 (.slice A4 N4 D4) b3] (fun (h : Unit) => ((.bool r), [])) := by
 unfold spec_l3SameInts at hr
 refine fn_ok Try.func93 R 26 R R fun C V => ?_
 refine cN (_ :: _ :: V) ?_
 refine cL 0 sees_rd ?_
 rintro rfl
 refine cL 1 sees_rd ?_
 rintro rfl
 let W0 : List HP := RR kT3 A2 D2 a1 :: RR kT3 A4 D4 b3 :: V
 refine cN W0 ?_
 refine c_seq (c_region (lB R (l_nil (q_next (c_seq (c_seq (c_region (lS R (lO (v_len sl29 R) (lS R (lO (v_len sl29 R) (lO (vNe R R) (l_nil (q_next ?_))))))))))))))
 rcases bif_ hr with ⟨hb5, hr⟩ | ⟨hb5, hr⟩
 refine c_true R hb5 (c_seq (c_region (lB R (l_nil (q_next (c_ret (q_ret ?_)))))))
 obtain rfl := so hr
 exact qF () (fun w s => (s.e 2 []))
 refine c_false R hb5 (c_skip (q_next (c_seq (c_cut (A := (Unit) × (Unit)) (fun a => spec_l3SameInts_J1 = some r) (fun a => []) (fun a => W0) ?_ ?_))))
 refine c_seq (c_region (lI R (l_nil (q_next (c_block ?_)))))
 obtain ⟨e1, hl1, hk1⟩ := bd hr
 refine c_loop (A := Unit) hl1 (fun s a => [(0, (sc A2 a1 D2)), (1, (sc A4 b3 D4)), (5, (iv s))]) (fun s a => W0) () (aS R) (fun w s => s) ?_
 rintro i14 _ σ1 out1 hr he1
 replace hr : spec_l3SameInts_L1 a1 b3 i14 = some out1 := hr
 unfold spec_l3SameInts_L1 at hr
 refine c_seq (c_seq (c_region (lI R (lS R (lO (v_len sl29 R) (lO (vLt R R) (l_nil (q_next ?_))))))))
 rcases bif_ hr with ⟨hb15, hr⟩ | ⟨hb15, hr⟩
 refine c_true R hb15 (c_skip (q_next (c_seq (c_block (c_seq ?_)))))
 obtain ⟨hg16, hr⟩ := gd hr
 obtain ⟨hg19, hr⟩ := gd hr
 refine c_some 0 sees_rd (show 0 < a1.length by have := hg16; omega) (fun g17 o18 ha => ?_)
 subst ha
 refine c_some 1 sees_rd (show 0 < b3.length by have := hg19; omega) (fun g20 o21 ha => ?_)
 subst ha
 refine cdr 9 [] mixo (fun ht hn => (dR 0 R (vS R) (dR 1 R (vI R) (dR 2 R (vIa sl29 sz3 R R hg16) (dR 3 R (vLi 0 ag3 sees_rd R hg16) (dR 4 R (vS R) (dR 5 R (vI R) (dR 6 R (vIa sl29 sz3 R R hg19) (dR 7 R (vLi 1 ag3 sees_rd R hg19) (dR 8 R (vNe R R) (d_done (by kernel_rfl) (q_next ?_))))))))))))
 rcases bif_ hr with ⟨hb22, hr⟩ | ⟨hb22, hr⟩
 refine c_true R hb22 (c_seq (c_region (lB R (l_nil (q_next (c_ret (q_blockr (q_ret ?_))))))))
 obtain rfl := so hr
 obtain rfl := he1 _ R
 have hr := hk1
 refine q_ret (q_blockr (q_ret ?_))
 obtain rfl := so hr
 exact qF () (fun w s => (s.e 2 []))
 refine c_false R hb22 (c_skip (q_blockn (q_next (c_region (lI R (lO (vAd R R) (lI R (l_nil ?_))))))))
 obtain rfl := so hr
 exact qA () (fun w s => s)
 refine c_false R hb15 (c_exit (q_exit ?_))
 obtain rfl := so hr
 obtain rfl := he1 _ R
 have hr := hk1
 refine q_exit (q_block ?_)
 exact q_join ((), ()) hr trivial (fun w s => s)
 rintro ⟨_, _⟩ σ1 hr
 replace hr : spec_l3SameInts_J1 = some r := hr
 unfold spec_l3SameInts_J1 at hr
 refine c_seq (c_region (lB R (l_nil (q_next (c_ret ?_)))))
 obtain rfl := so hr
 exact qF () (fun w s => (s.e 2 []))
theorem spec_l11Whole_ok {l1 : Nest} {p7 : Int} {r : Bool} (hr : spec_l11Whole l1 p7 = some r) :
 FnOk Try.prog 122 [(.agg [(.slice A2 N2 D2), (.slice A3 N3 D3), (.slice A4 N4 D4), (.slice A5 N5 D5), (.slice A6 N6 D6)].toArray), (iv p7)] [rds kT3 (.slice A2 N2 D2) l1.Sizes, rds kT3 (.slice A3 N3 D3) l1.Ins, rds kT159 (.slice A4 N4 D4) l1.Fixed, rds kT127 (.slice A5 N5 D5) l1.Kernels, rds kT3 (.slice A6 N6 D6) l1.Outs] (fun (h : Unit) => ((.bool r), [])) := by
 unfold spec_l11Whole at hr
 refine fn_ok Try.func122 R 90 R R fun C V => ?_
 refine cN (_ :: _ :: _ :: _ :: _ :: V) ?_
 refine cL 0 sees_rd ?_
 rintro rfl
 refine cL 1 sees_rd ?_
 rintro rfl
 refine cL 2 sees_rd ?_
 rintro rfl
 refine cL 3 sees_rd ?_
 rintro rfl
 refine cL 4 sees_rd ?_
 rintro rfl
 let W0 : List HP := RR kT3 A2 D2 l1.Sizes :: RR kT3 A3 D3 l1.Ins :: RR kT159 A4 D4 l1.Fixed :: RR kT127 A5 D5 l1.Kernels :: RR kT3 A6 D6 l1.Outs :: V
 refine cN W0 ?_
 refine c_seq (c_region (lBx R (fun b8 => (lB R (l_nil ?_)))))
 let W1 : List HP := bxl b8 [(sc A2 l1.Sizes D2), (sc A3 l1.Ins D3), (sc A4 l1.Fixed D4), (sc A5 l1.Kernels D5), (sc A6 l1.Outs D6)] 58 :: W0
 refine qN W1 ?_
 refine q_next (c_seq ?_)
 obtain ⟨hg9, hr⟩ := gd hr
 refine c_region (lO (vFa 3 fo58_3 R) (lO (vLd 0 ag56 R R R) (lI R (t_some 4 sees_rd (show 0 < l1.Kernels.length by have := hg9; omega) (fun g10 o11 ha => ?_)))))
 subst ha
 refine lO (vIa sl56 sz127 R R hg9) (t_elem (K := kT127) 4 p7 dT127.dec R hg9.1 hg9.2 ?_)
 rintro ⟨⟨A12, D12⟩, ⟨A13, D13⟩, ⟨-, -, ⟨A14, D14⟩⟩, -, ⟨A15, D15⟩⟩
 refine lN (cl g10 (o11 + p7.toNat * 7) [(sc A12 ((ix l1.Kernels p7).Loops) D12), (sc A13 ((ix l1.Kernels p7).Loads) D13), (iv (ix l1.Kernels p7).Store.Buffer), (iv (ix l1.Kernels p7).Store.Offset), (sc A14 ((ix l1.Kernels p7).Store.Steps) D14), (.bool (ix l1.Kernels p7).Sum), (sc A15 ((ix l1.Kernels p7).Code) D15)] :: RR kT3 A12 D12 ((ix l1.Kernels p7).Loops) :: RR kT124 A13 D13 ((ix l1.Kernels p7).Loads) :: RR kT3 A14 D14 ((ix l1.Kernels p7).Store.Steps) :: RR kT216 A15 D15 ((ix l1.Kernels p7).Code) :: W1) ?_
 refine lO (vz (.agg [(sc A12 ((ix l1.Kernels p7).Loops) D12), (sc A13 ((ix l1.Kernels p7).Loads) D13), (iv (ix l1.Kernels p7).Store.Buffer), (iv (ix l1.Kernels p7).Store.Offset), (sc A14 ((ix l1.Kernels p7).Store.Steps) D14), (.bool (ix l1.Kernels p7).Sum), (sc A15 ((ix l1.Kernels p7).Code) D15)].toArray) (v_clfs (fo := 0) 0 ag127 sz127 R R R R)) (l_alloc R R zc127 (fun b16 => (l_stores 0 R R sz127 R R R R R R (lN (bxl b16 [(sc A12 ((ix l1.Kernels p7).Loops) D12), (sc A13 ((ix l1.Kernels p7).Loads) D13), (iv (ix l1.Kernels p7).Store.Buffer), (iv (ix l1.Kernels p7).Store.Offset), (sc A14 ((ix l1.Kernels p7).Store.Steps) D14), (.bool (ix l1.Kernels p7).Sum), (sc A15 ((ix l1.Kernels p7).Code) D15)] 127 :: _ :: _ :: _ :: _ :: _ :: W1) ?_))))
 refine l_nil (q_next (c_seq (c_region (lO (vFa 2 fo127_2 R) (lO (vFa 2 fo124_0 R) (lO (vLd 0 ag3 R R R) (lI R (l_nil (q_next (c_seq (c_seq ?_)))))))))))
 obtain ⟨r17, hx18, hr⟩ := bd hr
 obtain ⟨r20, hx21, hr⟩ := bd hr
 obtain ⟨r22, hx23, hr⟩ := bd hr
 obtain ⟨hg24, hr⟩ := gd hr
 obtain ⟨r27, hx28, hr⟩ := bd hr
 refine cQ [(1, (iv p7)), (2, (pt b8 0)), (5, (pt b16 0)), (6, (iv (ix l1.Kernels p7).Store.Buffer)), (50, (.bool (((((ix l1.Kernels p7).Sum || ((ix l1.Kernels p7).Store.Offset != (0 : Int))) || (!r20)) || (r22 != (ix l1.Sizes (ix l1.Kernels p7).Store.Buffer))) || r27)))] (bxl b16 [(sc A12 ((ix l1.Kernels p7).Loops) D12), (sc A13 ((ix l1.Kernels p7).Loads) D13), (iv (ix l1.Kernels p7).Store.Buffer), (iv (ix l1.Kernels p7).Store.Offset), (sc A14 ((ix l1.Kernels p7).Store.Steps) D14), (.bool (ix l1.Kernels p7).Sum), (sc A15 ((ix l1.Kernels p7).Code) D15)] 127 :: RR kT3 A12 D12 ((ix l1.Kernels p7).Loops) :: RR kT124 A13 D13 ((ix l1.Kernels p7).Loads) :: RR kT3 A14 D14 ((ix l1.Kernels p7).Store.Steps) :: RR kT216 A15 D15 ((ix l1.Kernels p7).Code) :: W1) ?_ ?_
 rcases bo ((ix l1.Kernels p7).Sum) with hc29 | hc29
 refine cdr 35 [] mixo (fun ht hn => (dR 0 R (vFa 5 fo127_3 R) (dR 1 R (vLd 0 ag4 R R R) (dR 2 R (vB R) (dF 3 R (wfT hc29) (dF 4 R (wfT hc29) (dF 5 R (wfT hc29) (dF 6 R (wfT hc29) (dR 7 R (pOT ((ix l1.Kernels p7).Store.Offset != (0 : Int)) R hc29) (dR 8 R (vB R) (dF 9 R (wfT (oT hc29)) (dF 10 R (wfT (oT hc29)) (dF 11 R (wfT (oT hc29)) (dF 12 R (wfT (oT hc29)) (dF 13 R (wfT (oT hc29)) (dF 14 R (wfT (oT hc29)) (dF 15 R (wfT (oT hc29)) (dF 16 R (wfT (oT hc29)) (dR 17 R (pOT (!r20) R (oT hc29)) (dR 18 R (vB R) (dF 19 R (wfT (oT (oT hc29))) (dF 20 R (wfT (oT (oT hc29))) (dF 21 R (wfT (oT (oT hc29))) (dF 22 R (wfT (oT (oT hc29))) (dF 23 R (wfT (oT (oT hc29))) (dF 24 R (wfT (oT (oT hc29))) (dF 25 R (wfT (oT (oT hc29))) (dF 26 R (wfT (oT (oT hc29))) (dF 27 R (wfT (oT (oT hc29))) (dR 28 R (pOT (r22 != (ix l1.Sizes (ix l1.Kernels p7).Store.Buffer)) R (oT (oT hc29))) (dR 29 R (vB R) (dF 30 R (wfT (oT (oT (oT hc29)))) (dF 31 R (wfT (oT (oT (oT hc29)))) (dF 32 R (wfT (oT (oT (oT hc29)))) (dF 33 R (wfT (oT (oT (oT hc29)))) (dR 34 R (pOT r27 R (oT (oT (oT hc29)))) (d_done (by kernel_rfl) ?_)))))))))))))))))))))))))))))))))))))
 exact qJ (fun w s => (s.f 6 [0, 1, 2, 4]))
 rcases bo ((ix l1.Kernels p7).Sum || ((ix l1.Kernels p7).Store.Offset != (0 : Int))) with hc30 | hc30
 refine cdr 35 [] mixo (fun ht hn => (dR 0 R (vFa 5 fo127_3 R) (dR 1 R (vLd 0 ag4 R R R) (dR 2 R (vB R) (dW 3 R (wnF hc29) (vFa 2 fo127_2 R) (dW 4 R (wnF hc29) (vFa 3 fo124_1 R) (dW 5 R (wnF hc29) (vLd 0 ag3 R R R) (dW 6 R (wnF hc29) (vNe R R) (dR 7 R (pOF R hc29 R) (dR 8 R (vB R) (dF 9 R (wfT hc30) (dF 10 R (wfT hc30) (dF 11 R (wfT hc30) (dF 12 R (wfT hc30) (dF 13 R (wfT hc30) (dF 14 R (wfT hc30) (dF 15 R (wfT hc30) (dF 16 R (wfT hc30) (dR 17 R (pOT (!r20) R hc30) (dR 18 R (vB R) (dF 19 R (wfT (oT hc30)) (dF 20 R (wfT (oT hc30)) (dF 21 R (wfT (oT hc30)) (dF 22 R (wfT (oT hc30)) (dF 23 R (wfT (oT hc30)) (dF 24 R (wfT (oT hc30)) (dF 25 R (wfT (oT hc30)) (dF 26 R (wfT (oT hc30)) (dF 27 R (wfT (oT hc30)) (dR 28 R (pOT (r22 != (ix l1.Sizes (ix l1.Kernels p7).Store.Buffer)) R (oT hc30)) (dR 29 R (vB R) (dF 30 R (wfT (oT (oT hc30))) (dF 31 R (wfT (oT (oT hc30))) (dF 32 R (wfT (oT (oT hc30))) (dF 33 R (wfT (oT (oT hc30))) (dR 34 R (pOT r27 R (oT (oT hc30))) (d_done (by kernel_rfl) ?_)))))))))))))))))))))))))))))))))))))
 exact qJ (fun w s => (s.f 6 [0, 1, 2, 4]))
 rcases bo (((ix l1.Kernels p7).Sum || ((ix l1.Kernels p7).Store.Offset != (0 : Int))) || (!r20)) with hc31 | hc31
 refine cdr 35 [] mixo (fun ht hn => (dR 0 R (vFa 5 fo127_3 R) (dR 1 R (vLd 0 ag4 R R R) (dR 2 R (vB R) (dW 3 R (wnF hc29) (vFa 2 fo127_2 R) (dW 4 R (wnF hc29) (vFa 3 fo124_1 R) (dW 5 R (wnF hc29) (vLd 0 ag3 R R R) (dW 6 R (wnF hc29) (vNe R R) (dR 7 R (pOF R hc29 R) (dR 8 R (vB R) (dW 9 R (wnF hc30) (vFa 2 fo127_2 R) (dW 10 R (wnF hc30) (vFa 4 fo124_2 R) (dW 11 R (wnF hc30) (vLd 0 ag29 R R R) (dW 12 R (wnF hc30) (vFa 0 fo127_0 R) (dW 13 R (wnF hc30) (vLd 0 ag29 R R R) (d_one 14 (by kernel_rfl) R (lM (_ :: _ :: _ :: _ :: _ :: _ :: _ :: W1) (fun w s => (s.d 2 R)) ?_)))))))))))))))))
 refine l_calln 1 R (wnF hc30) cb176 R (spec_l11Strides_ok (gcall_t hx18 (not_ff hc30))) R ?_
 rintro ⟨A19, N19, D19⟩
 refine lN (ow kT3 3 (.slice A19 N19 D19) r17 :: _ :: _ :: _ :: _ :: _ :: _ :: W1) ?_
 refine l_len 0 sees_ow ?_
 rintro rfl
 refine l_nil (q_draw (sL [0]) (d_one 15 (by kernel_rfl) R (lM (ow _ _ _ _ :: rds _ _ _ :: bxl _ _ _ :: cl _ _ _ :: rds _ _ _ :: rds _ _ _ :: rds _ _ _ :: rds _ _ _ :: W1) (fun w s => ((s.d 5 R).f 8 [1, 1, 0, 1, 2, 6])) ?_)))
 refine l_calln 2 R (wnF hc30) cb93 R (FnOk.lends (A' := [OO kT3 3 A19 D19 r17]) (A := [RR kT3 A19 D19 r17]) (B := [RR kT3 A14 D14 ((ix l1.Kernels p7).Store.Steps)]) (FnOk.perm (spec_l3SameInts_ok (gcall_t hx21 (not_ff hc30))) (Pre' := [RR kT3 A19 D19 r17, RR kT3 A14 D14 ((ix l1.Kernels p7).Store.Steps)]) (fun _ _ _ s => (s.e 2 [1, 0]))) ⟨lend_ow, trivial⟩ (fun _ => trivial)) R ?_
 rintro _
 refine lN (_ :: _ :: _ :: _ :: _ :: _ :: _ :: W1) ?_
 refine l_nil (q_draw (sL [0]) (dW 16 R (wnF hc30) (vNo R) (hS := (sL [0])) (dR 17 R (pOF R hc30 R) (hS := (sL [0])) (dR 18 R (vB R) (hS := (sL [0])) (dF 19 R (wfT hc31) (hS := (sL [0])) (dF 20 R (wfT hc31) (hS := (sL [0])) (dF 21 R (wfT hc31) (hS := (sL [0])) (dF 22 R (wfT hc31) (hS := (sL [0])) (dF 23 R (wfT hc31) (hS := (sL [0])) (dF 24 R (wfT hc31) (hS := (sL [0])) (dF 25 R (wfT hc31) (hS := (sL [0])) (dF 26 R (wfT hc31) (hS := (sL [0])) (dF 27 R (wfT hc31) (hS := (sL [0])) (dR 28 R (pOT (r22 != (ix l1.Sizes (ix l1.Kernels p7).Store.Buffer)) R hc31) (hS := (sL [0])) (dR 29 R (vB R) (hS := (sL [0])) (dF 30 R (wfT (oT hc31)) (hS := (sL [0])) (dF 31 R (wfT (oT hc31)) (hS := (sL [0])) (dF 32 R (wfT (oT hc31)) (hS := (sL [0])) (dF 33 R (wfT (oT hc31)) (hS := (sL [0])) (dR 34 R (pOT r27 R (oT hc31)) (hS := (sL [0])) (d_done (by kernel_rfl) ?_)))))))))))))))))))))
 exact qJ (fun w s => (s.f 7 [1, 1, 3, 4]))
 rcases bo ((((ix l1.Kernels p7).Sum || ((ix l1.Kernels p7).Store.Offset != (0 : Int))) || (!r20)) || (r22 != (ix l1.Sizes (ix l1.Kernels p7).Store.Buffer))) with hc32 | hc32
 refine c_some 7 sees_rd (show 0 < l1.Sizes.length by have := (hg24 hc31); omega) (fun g25 o26 ha => ?_)
 subst ha
 refine cdr 35 [] mixo (fun ht hn => (dR 0 R (vFa 5 fo127_3 R) (dR 1 R (vLd 0 ag4 R R R) (dR 2 R (vB R) (dW 3 R (wnF hc29) (vFa 2 fo127_2 R) (dW 4 R (wnF hc29) (vFa 3 fo124_1 R) (dW 5 R (wnF hc29) (vLd 0 ag3 R R R) (dW 6 R (wnF hc29) (vNe R R) (dR 7 R (pOF R hc29 R) (dR 8 R (vB R) (dW 9 R (wnF hc30) (vFa 2 fo127_2 R) (dW 10 R (wnF hc30) (vFa 4 fo124_2 R) (dW 11 R (wnF hc30) (vLd 0 ag29 R R R) (dW 12 R (wnF hc30) (vFa 0 fo127_0 R) (dW 13 R (wnF hc30) (vLd 0 ag29 R R R) (d_one 14 (by kernel_rfl) R (lM (_ :: _ :: _ :: _ :: _ :: _ :: _ :: W1) (fun w s => (s.d 2 R)) ?_)))))))))))))))))
 refine l_calln 1 R (wnF hc30) cb176 R (spec_l11Strides_ok (gcall_t hx18 (not_ff hc30))) R ?_
 rintro ⟨A19, N19, D19⟩
 refine lN (ow kT3 3 (.slice A19 N19 D19) r17 :: _ :: _ :: _ :: _ :: _ :: _ :: W1) ?_
 refine l_len 0 sees_ow ?_
 rintro rfl
 refine l_nil (q_draw (sL [0]) (d_one 15 (by kernel_rfl) R (lM (ow _ _ _ _ :: rds _ _ _ :: bxl _ _ _ :: cl _ _ _ :: rds _ _ _ :: rds _ _ _ :: rds _ _ _ :: rds _ _ _ :: W1) (fun w s => ((s.d 5 R).f 8 [1, 1, 0, 1, 2, 6])) ?_)))
 refine l_calln 2 R (wnF hc30) cb93 R (FnOk.lends (A' := [OO kT3 3 A19 D19 r17]) (A := [RR kT3 A19 D19 r17]) (B := [RR kT3 A14 D14 ((ix l1.Kernels p7).Store.Steps)]) (FnOk.perm (spec_l3SameInts_ok (gcall_t hx21 (not_ff hc30))) (Pre' := [RR kT3 A19 D19 r17, RR kT3 A14 D14 ((ix l1.Kernels p7).Store.Steps)]) (fun _ _ _ s => (s.e 2 [1, 0]))) ⟨lend_ow, trivial⟩ (fun _ => trivial)) R ?_
 rintro _
 refine lN (_ :: _ :: _ :: _ :: _ :: _ :: _ :: W1) ?_
 refine l_nil (q_draw (sL [0]) (dW 16 R (wnF hc30) (vNo R) (hS := (sL [0])) (dR 17 R (pOF R hc30 R) (hS := (sL [0])) (dR 18 R (vB R) (hS := (sL [0])) (dW 19 R (wnF hc31) (vFa 0 fo127_0 R) (hS := (sL [0])) (dW 20 R (wnF hc31) (vLd 0 ag29 R R R) (hS := (sL [0])) (dW 22 R (wnF hc31) (vFa 0 fo58_0 R) (hS := (sL [0])) (dW 23 R (wnF hc31) (vLd 6 ag29 R R R) (hS := (sL [0])) (dW 24 R (wnF hc31) (vI R) (hS := (sL [0])) (dW 25 R (wnF hc31) (vIa sl29 sz3 R R (hg24 hc31)) (hS := (sL [0])) (dW 26 R (wnF hc31) (vLi 7 ag3 sees_rd R (hg24 hc31)) (hS := (sL [0])) (d_one 21 (by kernel_rfl) R (lM (_ :: _ :: _ :: _ :: _ :: _ :: _ :: _ :: W1) (fun w s => (s.d 3 R)) ?_)))))))))))))
 refine l_calln 1 R (wnF hc31) cb120 R (spec_l11Product_ok (gcall_t hx23 (not_ff hc31))) R ?_
 rintro _
 refine lN (_ :: _ :: _ :: _ :: _ :: _ :: _ :: W1) ?_
 refine l_nil (q_draw (sL [0]) (dW 27 R (wnF hc31) (vNe R R) (hS := (sL [0])) (dR 28 R (pOF R hc31 R) (hS := (sL [0])) (dR 29 R (vB R) (hS := (sL [0])) (dF 30 R (wfT hc32) (hS := (sL [0])) (dF 31 R (wfT hc32) (hS := (sL [0])) (dF 32 R (wfT hc32) (hS := (sL [0])) (dF 33 R (wfT hc32) (hS := (sL [0])) (dR 34 R (pOT r27 R hc32) (hS := (sL [0])) (d_done (by kernel_rfl) ?_))))))))))
 exact qJ (fun w s => (s.f 7 [1, 1, 3, 4]))
 refine c_some 7 sees_rd (show 0 < l1.Sizes.length by have := (hg24 hc31); omega) (fun g25 o26 ha => ?_)
 subst ha
 refine cdr 35 [] mixo (fun ht hn => (dR 0 R (vFa 5 fo127_3 R) (dR 1 R (vLd 0 ag4 R R R) (dR 2 R (vB R) (dW 3 R (wnF hc29) (vFa 2 fo127_2 R) (dW 4 R (wnF hc29) (vFa 3 fo124_1 R) (dW 5 R (wnF hc29) (vLd 0 ag3 R R R) (dW 6 R (wnF hc29) (vNe R R) (dR 7 R (pOF R hc29 R) (dR 8 R (vB R) (dW 9 R (wnF hc30) (vFa 2 fo127_2 R) (dW 10 R (wnF hc30) (vFa 4 fo124_2 R) (dW 11 R (wnF hc30) (vLd 0 ag29 R R R) (dW 12 R (wnF hc30) (vFa 0 fo127_0 R) (dW 13 R (wnF hc30) (vLd 0 ag29 R R R) (d_one 14 (by kernel_rfl) R (lM (_ :: _ :: _ :: _ :: _ :: _ :: _ :: W1) (fun w s => (s.d 2 R)) ?_)))))))))))))))))
 refine l_calln 1 R (wnF hc30) cb176 R (spec_l11Strides_ok (gcall_t hx18 (not_ff hc30))) R ?_
 rintro ⟨A19, N19, D19⟩
 refine lN (ow kT3 3 (.slice A19 N19 D19) r17 :: _ :: _ :: _ :: _ :: _ :: _ :: W1) ?_
 refine l_len 0 sees_ow ?_
 rintro rfl
 refine l_nil (q_draw (sL [0]) (d_one 15 (by kernel_rfl) R (lM (ow _ _ _ _ :: rds _ _ _ :: bxl _ _ _ :: cl _ _ _ :: rds _ _ _ :: rds _ _ _ :: rds _ _ _ :: rds _ _ _ :: W1) (fun w s => ((s.d 5 R).f 8 [1, 1, 0, 1, 2, 6])) ?_)))
 refine l_calln 2 R (wnF hc30) cb93 R (FnOk.lends (A' := [OO kT3 3 A19 D19 r17]) (A := [RR kT3 A19 D19 r17]) (B := [RR kT3 A14 D14 ((ix l1.Kernels p7).Store.Steps)]) (FnOk.perm (spec_l3SameInts_ok (gcall_t hx21 (not_ff hc30))) (Pre' := [RR kT3 A19 D19 r17, RR kT3 A14 D14 ((ix l1.Kernels p7).Store.Steps)]) (fun _ _ _ s => (s.e 2 [1, 0]))) ⟨lend_ow, trivial⟩ (fun _ => trivial)) R ?_
 rintro _
 refine lN (_ :: _ :: _ :: _ :: _ :: _ :: _ :: W1) ?_
 refine l_nil (q_draw (sL [0]) (dW 16 R (wnF hc30) (vNo R) (hS := (sL [0])) (dR 17 R (pOF R hc30 R) (hS := (sL [0])) (dR 18 R (vB R) (hS := (sL [0])) (dW 19 R (wnF hc31) (vFa 0 fo127_0 R) (hS := (sL [0])) (dW 20 R (wnF hc31) (vLd 0 ag29 R R R) (hS := (sL [0])) (dW 22 R (wnF hc31) (vFa 0 fo58_0 R) (hS := (sL [0])) (dW 23 R (wnF hc31) (vLd 6 ag29 R R R) (hS := (sL [0])) (dW 24 R (wnF hc31) (vI R) (hS := (sL [0])) (dW 25 R (wnF hc31) (vIa sl29 sz3 R R (hg24 hc31)) (hS := (sL [0])) (dW 26 R (wnF hc31) (vLi 7 ag3 sees_rd R (hg24 hc31)) (hS := (sL [0])) (d_one 21 (by kernel_rfl) R (lM (_ :: _ :: _ :: _ :: _ :: _ :: _ :: _ :: W1) (fun w s => (s.d 3 R)) ?_)))))))))))))
 refine l_calln 1 R (wnF hc31) cb120 R (spec_l11Product_ok (gcall_t hx23 (not_ff hc31))) R ?_
 rintro _
 refine lN (_ :: _ :: _ :: _ :: _ :: _ :: _ :: W1) ?_
 refine l_nil (q_draw (sL [0]) (dW 27 R (wnF hc31) (vNe R R) (hS := (sL [0])) (dR 28 R (pOF R hc31 R) (hS := (sL [0])) (dR 29 R (vB R) (hS := (sL [0])) (dW 30 R (wnF hc32) (vFa 4 fo58_4 R) (hS := (sL [0])) (dW 31 R (wnF hc32) (vLd 6 ag29 R R R) (hS := (sL [0])) (dW 32 R (wnF hc32) (vI R) (hS := (sL [0])) (d_one 33 (by kernel_rfl) R (lM (RR kT3 A6 D6 l1.Outs :: _ :: _ :: _ :: _ :: _ :: _ :: _ :: W1) (fun w s => (s.d 12 R)) ?_)))))))))
 refine l_calln 1 R (wnF hc32) cb117 R (spec_l7Has_ok (gcall_t hx28 (not_ff hc32))) R ?_
 rintro _
 refine lN (_ :: _ :: _ :: _ :: _ :: _ :: _ :: W1) ?_
 refine l_nil (q_draw (sL [0]) (dR 34 R (pOF R hc32 R) (hS := (sL [0])) (d_done (by kernel_rfl) ?_)))
 exact qJ (fun w s => (s.f 7 [1, 1, 3, 4]))
 rintro σ1
 refine q_next ?_
 rcases bif_ hr with ⟨hb33, hr⟩ | ⟨hb33, hr⟩
 refine c_true R hb33 (c_seq (c_region (lB R (l_nil (q_next (c_ret (q_ret ?_)))))))
 obtain rfl := so hr
 exact qF () (fun w s => (s.e 11 []))
 refine c_false R hb33 (c_skip (q_next (c_seq (c_cut (A := (Unit) × (Unit)) (fun a => spec_l11Whole_J1 = some r) (fun a => []) (fun a => W1) ?_ ?_))))
 refine c_seq (c_region (lI R (l_nil (q_next (c_block ?_)))))
 obtain ⟨e1, hl1, hk1⟩ := bd hr
 refine c_loop (A := Unit) hl1 (fun s a => [(1, (iv p7)), (2, (pt b8 0)), (5, (pt b16 0)), (6, (iv (ix l1.Kernels p7).Store.Buffer)), (7, (iv s))]) (fun s a => bxl b16 [(sc A12 ((ix l1.Kernels p7).Loops) D12), (sc A13 ((ix l1.Kernels p7).Loads) D13), (iv (ix l1.Kernels p7).Store.Buffer), (iv (ix l1.Kernels p7).Store.Offset), (sc A14 ((ix l1.Kernels p7).Store.Steps) D14), (.bool (ix l1.Kernels p7).Sum), (sc A15 ((ix l1.Kernels p7).Code) D15)] 127 :: RR kT3 A12 D12 ((ix l1.Kernels p7).Loops) :: RR kT124 A13 D13 ((ix l1.Kernels p7).Loads) :: RR kT3 A14 D14 ((ix l1.Kernels p7).Store.Steps) :: RR kT216 A15 D15 ((ix l1.Kernels p7).Code) :: W1) () (aS R) (fun w s => s) ?_
 rintro i45 _ σ1 out1 hr he1
 replace hr : spec_l11Whole_L1 l1 p7 i45 = some out1 := hr
 unfold spec_l11Whole_L1 at hr
 refine c_seq (c_seq (c_region (lI R (lO (vFa 3 fo58_3 R) (lO (vLd 5 ag56 R R R) (lO (v_len sl56 R) (lO (vLt R R) (l_nil (q_next ?_)))))))))
 rcases bif_ hr with ⟨hb46, hr⟩ | ⟨hb46, hr⟩
 refine c_true R hb46 (c_skip (q_next (c_seq (c_block (c_seq ?_)))))
 obtain ⟨hg47, hr⟩ := gd hr
 obtain ⟨hg48, hr⟩ := gd hr
 obtain ⟨r49, hx50, hr⟩ := bd hr
 refine cQ [(1, (iv p7)), (2, (pt b8 0)), (5, (pt b16 0)), (6, (iv (ix l1.Kernels p7).Store.Buffer)), (7, (iv i45)), (89, (.bool (((i45 != p7) && ((ix l1.Kernels i45).Store.Buffer == (ix l1.Kernels p7).Store.Buffer)) || ((decide (i45 ≥ p7)) && (decide ((r49.length : Int) > (0 : Int)))))))] (bxl b16 [(sc A12 ((ix l1.Kernels p7).Loops) D12), (sc A13 ((ix l1.Kernels p7).Loads) D13), (iv (ix l1.Kernels p7).Store.Buffer), (iv (ix l1.Kernels p7).Store.Offset), (sc A14 ((ix l1.Kernels p7).Store.Steps) D14), (.bool (ix l1.Kernels p7).Sum), (sc A15 ((ix l1.Kernels p7).Code) D15)] 127 :: RR kT3 A12 D12 ((ix l1.Kernels p7).Loops) :: RR kT124 A13 D13 ((ix l1.Kernels p7).Loads) :: RR kT3 A14 D14 ((ix l1.Kernels p7).Store.Steps) :: RR kT216 A15 D15 ((ix l1.Kernels p7).Code) :: W1) ?_ ?_
 rcases bo (i45 != p7) with hc52 | hc52
 rcases bo ((i45 != p7) && ((ix l1.Kernels i45).Store.Buffer == (ix l1.Kernels p7).Store.Buffer)) with hc53 | hc53
 refine cdr 32 [] mixo (fun ht hn => (dR 0 R (vI R) (dR 1 R (vI R) (dR 2 R (vNe R R) (dR 3 R (vB R) (dW 4 R (wnT hc52) (vFa 3 fo58_3 R) (dW 5 R (wnT hc52) (vLd 5 ag56 R R R) (dW 6 R (wnT hc52) (vI R) (dW 7 R (wnT hc52) (vIa sl56 sz127 R R (hg47 hc52)) (dW 8 R (wnT hc52) (vz (.pointer (some ⟨g10, o11 + i45.toNat * 7 + 2, none⟩)) (v_fa fo127_2 R R)) (dW 9 R (wnT hc52) (vz (.pointer (some ⟨g10, o11 + i45.toNat * 7 + 2, none⟩)) (v_fa fo124_0 R R)) (dW 10 R (wnT hc52) (vz (iv (ix l1.Kernels i45).Store.Buffer) (v_lde (K := kT127) (fo := 2) (pr := fun x => (iv x.Store.Buffer)) 9 i45 ag3 (dT127.leaf fun _ _ => R) sees_rd R (hg47 hc52).1 (hg47 hc52).2)) (dW 11 R (wnT hc52) (vI R) (dW 12 R (wnT hc52) (vEq R R) (dR 13 R (pAT R hc52 R) (dR 14 R (vB R) (dF 15 R (wfT hc53) (dF 16 R (wfT hc53) (dF 17 R (wfT hc53) (dF 18 R (wfT hc53) (dF 19 R R (dF 20 R R (dF 21 R R (dF 22 R R (dF 23 R R (dF 24 R R (dF 25 R R (dF 26 R R (dF 27 R R (dF 28 R R (dF 29 R R (dF 30 R (wfT hc53) (dR 31 R (pOT ((decide (i45 ≥ p7)) && (decide ((r49.length : Int) > (0 : Int)))) R hc53) (d_done (by kernel_rfl) ?_))))))))))))))))))))))))))))))))))
 exact qJ (fun w s => s)
 rcases bo (decide (i45 ≥ p7)) with hc54 | hc54
 refine cdr 32 [] mixo (fun ht hn => (dR 0 R (vI R) (dR 1 R (vI R) (dR 2 R (vNe R R) (dR 3 R (vB R) (dW 4 R (wnT hc52) (vFa 3 fo58_3 R) (dW 5 R (wnT hc52) (vLd 5 ag56 R R R) (dW 6 R (wnT hc52) (vI R) (dW 7 R (wnT hc52) (vIa sl56 sz127 R R (hg47 hc52)) (dW 8 R (wnT hc52) (vz (.pointer (some ⟨g10, o11 + i45.toNat * 7 + 2, none⟩)) (v_fa fo127_2 R R)) (dW 9 R (wnT hc52) (vz (.pointer (some ⟨g10, o11 + i45.toNat * 7 + 2, none⟩)) (v_fa fo124_0 R R)) (dW 10 R (wnT hc52) (vz (iv (ix l1.Kernels i45).Store.Buffer) (v_lde (K := kT127) (fo := 2) (pr := fun x => (iv x.Store.Buffer)) 9 i45 ag3 (dT127.leaf fun _ _ => R) sees_rd R (hg47 hc52).1 (hg47 hc52).2)) (dW 11 R (wnT hc52) (vI R) (dW 12 R (wnT hc52) (vEq R R) (dR 13 R (pAT R hc52 R) (dR 14 R (vB R) (dW 15 R (wnF hc53) (vI R) (dW 16 R (wnF hc53) (vI R) (dW 17 R (wnF hc53) (vGe R R) (dW 18 R (wnF hc53) (vB R) ?_))))))))))))))))))))
 refine dW 19 R (wnT hc54) (vz (.agg [(sc A12 ((ix l1.Kernels p7).Loops) D12), (sc A13 ((ix l1.Kernels p7).Loads) D13), (iv (ix l1.Kernels p7).Store.Buffer), (iv (ix l1.Kernels p7).Store.Offset), (sc A14 ((ix l1.Kernels p7).Store.Steps) D14), (.bool (ix l1.Kernels p7).Sum), (sc A15 ((ix l1.Kernels p7).Code) D15)].toArray) (v_loadw 0 ag127 sz127 R R R R)) (dW 20 R (wnT hc54) (vFa 3 fo58_3 R) (dW 21 R (wnT hc54) (vLd 5 ag56 R R R) (dW 22 R (wnT hc54) (vI R) (dW 23 R (wnT hc54) (vIa sl56 sz127 R R (hg48 hc53 hc54)) (dW 24 R (wnT hc54) (vz (.pointer (some ⟨g10, o11 + i45.toNat * 7 + 2, none⟩)) (v_fa fo127_2 R R)) (dW 25 R (wnT hc54) (vz (.pointer (some ⟨g10, o11 + i45.toNat * 7 + 2, none⟩)) (v_fa fo124_0 R R)) (dW 26 R (wnT hc54) (vz (iv (ix l1.Kernels i45).Store.Buffer) (v_lde (K := kT127) (fo := 2) (pr := fun x => (iv x.Store.Buffer)) 9 i45 ag3 (dT127.leaf fun _ _ => R) sees_rd R (hg48 hc53 hc54).1 (hg48 hc53 hc54).2)) (d_one 27 (by kernel_rfl) R ?_))))))))
 refine lM (rds _ _ _ :: rds _ _ _ :: rds _ _ _ :: rds _ _ _ :: bxl _ _ _ :: rds _ _ _ :: rds _ _ _ :: rds _ _ _ :: rds _ _ _ :: W1) (fun w s => (((((s.d 1 R).d 3 R).d 5 R).d 7 R).e 9 [3, 2, 1, 0, 4, 5, 6, 7, 8])) ?_
 refine l_calln 4 R (wnT hc54) cb123 R (spec_l11Uses_ok (gcall_t hx50 (and_tt (not_ff hc53) hc54))) R ?_
 rintro ⟨A51, N51, D51⟩
 refine lN (ow kT3 3 (.slice A51 N51 D51) r49 :: _ :: _ :: _ :: _ :: _ :: W1) ?_
 refine l_len 0 sees_ow ?_
 rintro rfl
 refine l_nil (q_draw (sL [0]) (dW 28 R (wnT hc54) (v_len sl29 R) (hS := (sL [0])) (dW 29 R (wnT hc54) (vGt R R) (hS := (sL [0])) (dW 30 R (wnF hc53) (pAT R hc54 R) (hS := (sL [0])) (dR 31 R (pOF R hc53 R) (hS := (sL [0])) (d_done (by kernel_rfl) ?_))))))
 exact qJ (fun w s => (s.f 6 [1, 5]))
 refine cdr 32 [] mixo (fun ht hn => (dR 0 R (vI R) (dR 1 R (vI R) (dR 2 R (vNe R R) (dR 3 R (vB R) (dW 4 R (wnT hc52) (vFa 3 fo58_3 R) (dW 5 R (wnT hc52) (vLd 5 ag56 R R R) (dW 6 R (wnT hc52) (vI R) (dW 7 R (wnT hc52) (vIa sl56 sz127 R R (hg47 hc52)) (dW 8 R (wnT hc52) (vz (.pointer (some ⟨g10, o11 + i45.toNat * 7 + 2, none⟩)) (v_fa fo127_2 R R)) (dW 9 R (wnT hc52) (vz (.pointer (some ⟨g10, o11 + i45.toNat * 7 + 2, none⟩)) (v_fa fo124_0 R R)) (dW 10 R (wnT hc52) (vz (iv (ix l1.Kernels i45).Store.Buffer) (v_lde (K := kT127) (fo := 2) (pr := fun x => (iv x.Store.Buffer)) 9 i45 ag3 (dT127.leaf fun _ _ => R) sees_rd R (hg47 hc52).1 (hg47 hc52).2)) (dW 11 R (wnT hc52) (vI R) (dW 12 R (wnT hc52) (vEq R R) (dR 13 R (pAT R hc52 R) (dR 14 R (vB R) (dW 15 R (wnF hc53) (vI R) (dW 16 R (wnF hc53) (vI R) (dW 17 R (wnF hc53) (vGe R R) (dW 18 R (wnF hc53) (vB R) (dF 19 R (wfF hc54) (dF 20 R (wfF hc54) (dF 21 R (wfF hc54) (dF 22 R (wfF hc54) (dF 23 R (wfF hc54) (dF 24 R (wfF hc54) (dF 25 R (wfF hc54) (dF 26 R (wfF hc54) (dF 27 R (wfF hc54) (dF 28 R (wfF hc54) (dF 29 R (wfF hc54) ?_)))))))))))))))))))))))))))))))
 refine dW 30 R (wnF hc53) (pAF (decide ((r49.length : Int) > (0 : Int))) R hc54) (dR 31 R (pOF R hc53 R) (d_done (by kernel_rfl) ?_))
 exact qJ (fun w s => s)
 rcases bo (decide (i45 ≥ p7)) with hc55 | hc55
 refine cdr 32 [] mixo (fun ht hn => (dR 0 R (vI R) (dR 1 R (vI R) (dR 2 R (vNe R R) (dR 3 R (vB R) (dF 4 R (wfF hc52) (dF 5 R (wfF hc52) (dF 6 R (wfF hc52) (dF 7 R (wfF hc52) (dF 8 R (wfF hc52) (dF 9 R (wfF hc52) (dF 10 R (wfF hc52) (dF 11 R (wfF hc52) (dF 12 R (wfF hc52) (dR 13 R (pAF ((ix l1.Kernels i45).Store.Buffer == (ix l1.Kernels p7).Store.Buffer) R hc52) (dR 14 R (vB R) (dW 15 R (wnF (aF hc52)) (vI R) (dW 16 R (wnF (aF hc52)) (vI R) (dW 17 R (wnF (aF hc52)) (vGe R R) (dW 18 R (wnF (aF hc52)) (vB R) (dW 19 R (wnT hc55) (vz (.agg [(sc A12 ((ix l1.Kernels p7).Loops) D12), (sc A13 ((ix l1.Kernels p7).Loads) D13), (iv (ix l1.Kernels p7).Store.Buffer), (iv (ix l1.Kernels p7).Store.Offset), (sc A14 ((ix l1.Kernels p7).Store.Steps) D14), (.bool (ix l1.Kernels p7).Sum), (sc A15 ((ix l1.Kernels p7).Code) D15)].toArray) (v_loadw 0 ag127 sz127 R R R R)) (dW 20 R (wnT hc55) (vFa 3 fo58_3 R) (dW 21 R (wnT hc55) (vLd 5 ag56 R R R) (dW 22 R (wnT hc55) (vI R) (dW 23 R (wnT hc55) (vIa sl56 sz127 R R (hg48 (aF hc52) hc55)) (dW 24 R (wnT hc55) (vz (.pointer (some ⟨g10, o11 + i45.toNat * 7 + 2, none⟩)) (v_fa fo127_2 R R)) ?_))))))))))))))))))))))))))
 refine dW 25 R (wnT hc55) (vz (.pointer (some ⟨g10, o11 + i45.toNat * 7 + 2, none⟩)) (v_fa fo124_0 R R)) (dW 26 R (wnT hc55) (vz (iv (ix l1.Kernels i45).Store.Buffer) (v_lde (K := kT127) (fo := 2) (pr := fun x => (iv x.Store.Buffer)) 9 i45 ag3 (dT127.leaf fun _ _ => R) sees_rd R (hg48 (aF hc52) hc55).1 (hg48 (aF hc52) hc55).2)) (d_one 27 (by kernel_rfl) R (lM (rds _ _ _ :: rds _ _ _ :: rds _ _ _ :: rds _ _ _ :: bxl _ _ _ :: rds _ _ _ :: rds _ _ _ :: rds _ _ _ :: rds _ _ _ :: W1) (fun w s => (((((s.d 1 R).d 3 R).d 5 R).d 7 R).e 9 [3, 2, 1, 0, 4, 5, 6, 7, 8])) ?_)))
 refine l_calln 4 R (wnT hc55) cb123 R (spec_l11Uses_ok (gcall_t hx50 (and_tt (not_ff (aF hc52)) hc55))) R ?_
 rintro ⟨A51, N51, D51⟩
 refine lN (ow kT3 3 (.slice A51 N51 D51) r49 :: _ :: _ :: _ :: _ :: _ :: W1) ?_
 refine l_len 0 sees_ow ?_
 rintro rfl
 refine l_nil (q_draw (sL [0]) (dW 28 R (wnT hc55) (v_len sl29 R) (hS := (sL [0])) (dW 29 R (wnT hc55) (vGt R R) (hS := (sL [0])) (dW 30 R (wnF (aF hc52)) (pAT R hc55 R) (hS := (sL [0])) (dR 31 R (pOF R (aF hc52) R) (hS := (sL [0])) (d_done (by kernel_rfl) ?_))))))
 exact qJ (fun w s => (s.f 6 [1, 5]))
 refine cdr 32 [] mixo (fun ht hn => (dR 0 R (vI R) (dR 1 R (vI R) (dR 2 R (vNe R R) (dR 3 R (vB R) (dF 4 R (wfF hc52) (dF 5 R (wfF hc52) (dF 6 R (wfF hc52) (dF 7 R (wfF hc52) (dF 8 R (wfF hc52) (dF 9 R (wfF hc52) (dF 10 R (wfF hc52) (dF 11 R (wfF hc52) (dF 12 R (wfF hc52) (dR 13 R (pAF ((ix l1.Kernels i45).Store.Buffer == (ix l1.Kernels p7).Store.Buffer) R hc52) (dR 14 R (vB R) (dW 15 R (wnF (aF hc52)) (vI R) (dW 16 R (wnF (aF hc52)) (vI R) (dW 17 R (wnF (aF hc52)) (vGe R R) (dW 18 R (wnF (aF hc52)) (vB R) (dF 19 R (wfF hc55) (dF 20 R (wfF hc55) (dF 21 R (wfF hc55) (dF 22 R (wfF hc55) (dF 23 R (wfF hc55) (dF 24 R (wfF hc55) (dF 25 R (wfF hc55) (dF 26 R (wfF hc55) (dF 27 R (wfF hc55) (dF 28 R (wfF hc55) (dF 29 R (wfF hc55) (dW 30 R (wnF (aF hc52)) (pAF (decide ((r49.length : Int) > (0 : Int))) R hc55) (dR 31 R (pOF R (aF hc52) R) (d_done (by kernel_rfl) ?_))))))))))))))))))))))))))))))))))
 exact qJ (fun w s => s)
 rintro σ1
 refine q_next ?_
 rcases bif_ hr with ⟨hb56, hr⟩ | ⟨hb56, hr⟩
 refine c_true R hb56 (c_seq (c_region (lB R (l_nil (q_next (c_ret (q_blockr (q_ret ?_))))))))
 obtain rfl := so hr
 obtain rfl := he1 _ R
 have hr := hk1
 refine q_ret (q_blockr (q_ret ?_))
 obtain rfl := so hr
 exact qF () (fun w s => (s.e 11 []))
 refine c_false R hb56 (c_skip (q_blockn (q_next (c_region (lI R (lO (vAd R R) (lI R (l_nil ?_))))))))
 obtain rfl := so hr
 exact qA () (fun w s => s)
 refine c_false R hb46 (c_exit (q_exit ?_))
 obtain rfl := so hr
 obtain rfl := he1 _ R
 have hr := hk1
 refine q_exit (q_block ?_)
 exact q_join ((), ()) hr trivial (fun w s => (s.e 5 []))
 rintro ⟨_, _⟩ σ1 hr
 replace hr : spec_l11Whole_J1 = some r := hr
 unfold spec_l11Whole_J1 at hr
 refine c_seq (c_region (lB R (l_nil (q_next (c_ret ?_)))))
 obtain rfl := so hr
 exact qF () (fun w s => (s.e 6 []))
theorem spec_l11Partners_ok {p1 : Kernel} {c6 : Kernel} {a11 : Access} {r : (List Int) × Bool} (hr : spec_l11Partners p1 c6 a11 = some r) :
 FnOk Try.prog 124 [(.agg [(.slice A2 N2 D2), (.slice A3 N3 D3), (iv p1.Store.Buffer), (iv p1.Store.Offset), (.slice A4 N4 D4), (.bool p1.Sum), (.slice A5 N5 D5)].toArray), (.agg [(.slice A7 N7 D7), (.slice A8 N8 D8), (iv c6.Store.Buffer), (iv c6.Store.Offset), (.slice A9 N9 D9), (.bool c6.Sum), (.slice A10 N10 D10)].toArray), (.agg [(iv a11.Buffer), (iv a11.Offset), (.slice A12 N12 D12)].toArray)] [rds kT3 (.slice A2 N2 D2) p1.Loops, rds kT124 (.slice A3 N3 D3) p1.Loads, rds kT3 (.slice A4 N4 D4) p1.Store.Steps, rds kT216 (.slice A5 N5 D5) p1.Code, rds kT3 (.slice A7 N7 D7) c6.Loops, rds kT124 (.slice A8 N8 D8) c6.Loads, rds kT3 (.slice A9 N9 D9) c6.Store.Steps, rds kT216 (.slice A10 N10 D10) c6.Code, rds kT3 (.slice A12 N12 D12) a11.Steps] (fun (h : HH) => ((.tuple [(.slice h.1 h.2.1 h.2.2), (.bool r.2)].toArray), [ow kT3 3 (.slice h.1 h.2.1 h.2.2) r.1])) := by
 unfold spec_l11Partners at hr
 refine fn_ok Try.func124 R 93 R R fun C V => ?_
 refine cN (_ :: _ :: _ :: _ :: _ :: _ :: _ :: _ :: _ :: V) ?_
 refine cL 0 sees_rd ?_
 rintro rfl
 refine cL 1 sees_rd ?_
 rintro rfl
 refine cL 2 sees_rd ?_
 rintro rfl
 refine cL 3 sees_rd ?_
 rintro rfl
 refine cL 4 sees_rd ?_
 rintro rfl
 refine cL 5 sees_rd ?_
 rintro rfl
 refine cL 6 sees_rd ?_
 rintro rfl
 refine cL 7 sees_rd ?_
 rintro rfl
 refine cL 8 sees_rd ?_
 rintro rfl
 let W0 : List HP := RR kT3 A2 D2 p1.Loops :: RR kT124 A3 D3 p1.Loads :: RR kT3 A4 D4 p1.Store.Steps :: RR kT216 A5 D5 p1.Code :: RR kT3 A7 D7 c6.Loops :: RR kT124 A8 D8 c6.Loads :: RR kT3 A9 D9 c6.Store.Steps :: RR kT216 A10 D10 c6.Code :: RR kT3 A12 D12 a11.Steps :: V
 refine cN W0 ?_
 refine c_seq (c_region (lBx R (fun b13 => (lBx R (fun b14 => (lBx R (fun b15 => (lS R (lB R (l_nil ?_))))))))))
 let W1 : List HP := bxl b15 [(iv a11.Buffer), (iv a11.Offset), (sc A12 a11.Steps D12)] 124 :: bxl b14 [(sc A7 c6.Loops D7), (sc A8 c6.Loads D8), (iv c6.Store.Buffer), (iv c6.Store.Offset), (sc A9 c6.Store.Steps D9), (.bool c6.Sum), (sc A10 c6.Code D10)] 127 :: bxl b13 [(sc A2 p1.Loops D2), (sc A3 p1.Loads D3), (iv p1.Store.Buffer), (iv p1.Store.Offset), (sc A4 p1.Store.Steps D4), (.bool p1.Sum), (sc A5 p1.Code D5)] 127 :: W0
 refine qN W1 ?_
 refine q_next (c_seq (c_region (l_build (K := kT3) (xs := ([] : List Int)) (vs := []) 0 R R sl29 sz3 zc3 R R R R R R ?_ R (fun A16 D16 => ?_))))
 exact fun I h s => (mO3).list [] I h s
 refine lN (OO kT3 3 A16 D16 ([] : List Int) :: W1) ?_
 refine lS R (l_nil (q_next (c_seq (c_cut (A := ((List Int)) × (HH)) (fun a => spec_l11Partners_J3 c6 a11 a.1 = some r) (fun a => [(4, (pt b14 0)), (5, (pt b15 0)), (8, (.slice a.2.1 a.2.2.1 a.2.2.2))]) (fun a => ow kT3 3 (.slice a.2.1 a.2.2.1 a.2.2.2) a.1 :: W1) ?_ ?_))))
 refine c_seq (c_region (lI R (l_nil (q_next (c_block ?_)))))
 obtain ⟨e1, hl1, hk1⟩ := bd hr
 refine c_loop (A := HH) hl1 (fun s a => [(3, (pt b13 0)), (4, (pt b14 0)), (5, (pt b15 0)), (8, (.slice a.1 a.2.1 a.2.2)), (9, (iv s.2))]) (fun s a => ow kT3 3 (.slice a.1 a.2.1 a.2.2) s.1 :: W1) (A16, ([] : List Int).length, D16) (aS R) (fun w s => s) ?_
 rintro ⟨x61, i63⟩ ⟨A62, N62, D62⟩ σ1 out1 hr he1
 replace hr : spec_l11Partners_L1 p1 c6 a11 x61 i63 = some out1 := hr
 unfold spec_l11Partners_L1 at hr
 refine c_len 0 sees_ow (fun (hn : N62 = x61.length) => ?_)
 subst hn
 refine c_seq (c_seq (c_region (lI R (lO (vFa 0 fo127_0 R) (lO (vLd 3 ag29 R R R) (lO (v_len sl29 R) (lO (vLt R R) (l_nil (q_next ?_)))))))))
 rcases bif_ hr with ⟨hb64, hr⟩ | ⟨hb64, hr⟩
 refine c_true R hb64 (c_skip (q_next (c_seq (c_block (c_seq (c_region (lI R (l_nil (q_next (c_seq (c_cut (A := (Int) × (Unit)) (fun a => spec_l11Partners_J2 c6 x61 i63 a.1 = some out1) (fun a => [(3, (pt b13 0)), (4, (pt b14 0)), (5, (pt b15 0)), (8, (sc A62 x61 D62)), (9, (iv i63)), (10, (iv a.1))]) (fun a => OO kT3 3 A62 D62 x61 :: W1) ?_ ?_)))))))))))
 refine c_block ?_
 obtain ⟨e2, hl2, hk2⟩ := bd hr
 refine c_loop (A := Unit) hl2 (fun s a => [(3, (pt b13 0)), (4, (pt b14 0)), (5, (pt b15 0)), (8, (sc A62 x61 D62)), (9, (iv i63)), (10, (iv s))]) (fun s a => OO kT3 3 A62 D62 x61 :: W1) () (aS R) (fun w s => s) ?_
 rintro m83 _ σ1 out2 hr he2
 replace hr : spec_l11Partners_L2 p1 c6 a11 x61 i63 m83 = some out2 := hr
 unfold spec_l11Partners_L2 at hr
 refine c_seq (c_seq ?_)
 obtain ⟨r84, hx85, hr⟩ := bd hr
 obtain ⟨hg86, hr⟩ := gd hr
 obtain ⟨hg89, hr⟩ := gd hr
 obtain ⟨hg92, hr⟩ := gd hr
 obtain ⟨hg95, hr⟩ := gd hr
 refine cQ [(3, (pt b13 0)), (4, (pt b14 0)), (5, (pt b15 0)), (8, (sc A62 x61 D62)), (9, (iv i63)), (10, (iv m83)), (56, (.bool ((decide (m83 < (c6.Loops.length : Int))) && ((r84 || ((ix c6.Loops m83) != (ix p1.Loops i63))) || ((ix a11.Steps m83) != (ix p1.Store.Steps i63))))))] (OO kT3 3 A62 D62 x61 :: W1) ?_ ?_
 rcases bo (decide (m83 < (c6.Loops.length : Int))) with hc98 | hc98
 rcases bo r84 with hc99 | hc99
 refine cdr 37 [] mixo (fun ht hn => (dR 0 R (vI R) (dR 1 R (vFa 0 fo127_0 R) (dR 2 R (vLd 2 ag29 R R R) (dR 3 R (v_len sl29 R) (dR 4 R (vLt R R) (dR 5 R (vB R) (dW 6 R (wnT hc98) (vS R) (dW 7 R (wnT hc98) (vI R) (d_one 8 (by kernel_rfl) R (l_calln 1 R (wnT hc98) cb117 R (FnOk.lends (A' := [OO kT3 3 A62 D62 x61]) (A := [RR kT3 A62 D62 x61]) (B := []) (spec_l7Has_ok (gcall_t hx85 hc98)) ⟨lend_ow, trivial⟩ (fun _ => trivial)) R ?_)))))))))))
 rintro _
 refine lN (OO kT3 3 A62 D62 x61 :: W1) ?_
 refine l_nil (q_draw (sL []) (dW 9 R (wnT hc98) (vB R) (dF 10 R (wfT hc99) (dF 11 R (wfT hc99) (dF 12 R (wfT hc99) (dF 13 R (wfT hc99) (dF 14 R (wfT hc99) (dF 15 R (wfT hc99) (dF 16 R (wfT hc99) (dF 17 R (wfT hc99) (dF 18 R (wfT hc99) (dF 19 R (wfT hc99) (dF 20 R (wfT hc99) (dW 21 R (wnT hc98) (pOT ((ix c6.Loops m83) != (ix p1.Loops i63)) R hc99) (dW 22 R (wnT hc98) (vB R) (dF 23 R (wfT (oT hc99)) (dF 24 R (wfT (oT hc99)) (dF 25 R (wfT (oT hc99)) (dF 26 R (wfT (oT hc99)) (dF 27 R (wfT (oT hc99)) (dF 28 R (wfT (oT hc99)) (dF 29 R (wfT (oT hc99)) (dF 30 R (wfT (oT hc99)) (dF 31 R (wfT (oT hc99)) (dF 32 R (wfT (oT hc99)) (dF 33 R (wfT (oT hc99)) (dF 34 R (wfT (oT hc99)) (dW 35 R (wnT hc98) (pOT ((ix a11.Steps m83) != (ix p1.Store.Steps i63)) R (oT hc99)) (dR 36 R (pAT R hc98 R) (d_done (by kernel_rfl) ?_))))))))))))))))))))))))))))))
 exact qJ (fun w s => s)
 rcases bo (r84 || ((ix c6.Loops m83) != (ix p1.Loops i63))) with hc100 | hc100
 refine c_some 8 sees_rd (show 0 < c6.Loops.length by have := (hg86 hc98 hc99); omega) (fun g87 o88 ha => ?_)
 subst ha
 refine c_some 4 sees_rd (show 0 < p1.Loops.length by have := (hg89 hc98 hc99); omega) (fun g90 o91 ha => ?_)
 subst ha
 refine cdr 37 [] mixo (fun ht hn => (dR 0 R (vI R) (dR 1 R (vFa 0 fo127_0 R) (dR 2 R (vLd 2 ag29 R R R) (dR 3 R (v_len sl29 R) (dR 4 R (vLt R R) (dR 5 R (vB R) (dW 6 R (wnT hc98) (vS R) (dW 7 R (wnT hc98) (vI R) (d_one 8 (by kernel_rfl) R (l_calln 1 R (wnT hc98) cb117 R (FnOk.lends (A' := [OO kT3 3 A62 D62 x61]) (A := [RR kT3 A62 D62 x61]) (B := []) (spec_l7Has_ok (gcall_t hx85 hc98)) ⟨lend_ow, trivial⟩ (fun _ => trivial)) R ?_)))))))))))
 rintro _
 refine l_nil (q_draw (sL []) (dW 9 R (wnT hc98) (vB R) (dW 10 R (wnF hc99) (vFa 0 fo127_0 R) (dW 11 R (wnF hc99) (vLd 2 ag29 R R R) (dW 12 R (wnF hc99) (vI R) (dW 13 R (wnF hc99) (vIa sl29 sz3 R R (hg86 hc98 hc99)) (dW 14 R (wnF hc99) (vLi 8 ag3 sees_rd R (hg86 hc98 hc99)) (dW 15 R (wnF hc99) (vFa 0 fo127_0 R) (dW 16 R (wnF hc99) (vLd 3 ag29 R R R) (dW 17 R (wnF hc99) (vI R) (dW 18 R (wnF hc99) (vIa sl29 sz3 R R (hg89 hc98 hc99)) (dW 19 R (wnF hc99) (vLi 4 ag3 sees_rd R (hg89 hc98 hc99)) (dW 20 R (wnF hc99) (vNe R R) (dW 21 R (wnT hc98) (pOF R hc99 R) (dW 22 R (wnT hc98) (vB R) (dF 23 R (wfT hc100) (dF 24 R (wfT hc100) (dF 25 R (wfT hc100) (dF 26 R (wfT hc100) (dF 27 R (wfT hc100) (dF 28 R (wfT hc100) (dF 29 R (wfT hc100) (dF 30 R (wfT hc100) (dF 31 R (wfT hc100) (dF 32 R (wfT hc100) (dF 33 R (wfT hc100) (dF 34 R (wfT hc100) (dW 35 R (wnT hc98) (pOT ((ix a11.Steps m83) != (ix p1.Store.Steps i63)) R hc100) (dR 36 R (pAT R hc98 R) (d_done (by kernel_rfl) ?_))))))))))))))))))))))))))))))
 exact qJ (fun w s => s)
 refine c_some 8 sees_rd (show 0 < c6.Loops.length by have := (hg86 hc98 hc99); omega) (fun g87 o88 ha => ?_)
 subst ha
 refine c_some 4 sees_rd (show 0 < p1.Loops.length by have := (hg89 hc98 hc99); omega) (fun g90 o91 ha => ?_)
 subst ha
 refine c_some 12 sees_rd (show 0 < a11.Steps.length by have := (hg92 hc98 hc100); omega) (fun g93 o94 ha => ?_)
 subst ha
 refine c_some 6 sees_rd (show 0 < p1.Store.Steps.length by have := (hg95 hc98 hc100); omega) (fun g96 o97 ha => ?_)
 subst ha
 refine cdr 37 [] mixo (fun ht hn => (dR 0 R (vI R) (dR 1 R (vFa 0 fo127_0 R) (dR 2 R (vLd 2 ag29 R R R) (dR 3 R (v_len sl29 R) (dR 4 R (vLt R R) (dR 5 R (vB R) (dW 6 R (wnT hc98) (vS R) (dW 7 R (wnT hc98) (vI R) (d_one 8 (by kernel_rfl) R (l_calln 1 R (wnT hc98) cb117 R (FnOk.lends (A' := [OO kT3 3 A62 D62 x61]) (A := [RR kT3 A62 D62 x61]) (B := []) (spec_l7Has_ok (gcall_t hx85 hc98)) ⟨lend_ow, trivial⟩ (fun _ => trivial)) R ?_)))))))))))
 rintro _
 refine l_nil (q_draw (sL []) (dW 9 R (wnT hc98) (vB R) (dW 10 R (wnF hc99) (vFa 0 fo127_0 R) (dW 11 R (wnF hc99) (vLd 2 ag29 R R R) (dW 12 R (wnF hc99) (vI R) (dW 13 R (wnF hc99) (vIa sl29 sz3 R R (hg86 hc98 hc99)) (dW 14 R (wnF hc99) (vLi 8 ag3 sees_rd R (hg86 hc98 hc99)) (dW 15 R (wnF hc99) (vFa 0 fo127_0 R) (dW 16 R (wnF hc99) (vLd 3 ag29 R R R) (dW 17 R (wnF hc99) (vI R) (dW 18 R (wnF hc99) (vIa sl29 sz3 R R (hg89 hc98 hc99)) (dW 19 R (wnF hc99) (vLi 4 ag3 sees_rd R (hg89 hc98 hc99)) (dW 20 R (wnF hc99) (vNe R R) (dW 21 R (wnT hc98) (pOF R hc99 R) (dW 22 R (wnT hc98) (vB R) (dW 23 R (wnF hc100) (vFa 2 fo124_2 R) (dW 24 R (wnF hc100) (vLd 1 ag29 R R R) (dW 25 R (wnF hc100) (vI R) (dW 26 R (wnF hc100) (vIa sl29 sz3 R R (hg92 hc98 hc100)) (dW 27 R (wnF hc100) (vLi 12 ag3 sees_rd R (hg92 hc98 hc100)) (dW 28 R (wnF hc100) (vFa 2 fo127_2 R) (dW 29 R (wnF hc100) (vFa 4 fo124_2 R) (dW 30 R (wnF hc100) (vLd 3 ag29 R R R) (dW 31 R (wnF hc100) (vI R) (dW 32 R (wnF hc100) (vIa sl29 sz3 R R (hg95 hc98 hc100)) (dW 33 R (wnF hc100) (vLi 6 ag3 sees_rd R (hg95 hc98 hc100)) (dW 34 R (wnF hc100) (vNe R R) (dW 35 R (wnT hc98) (pOF R hc100 R) ?_))))))))))))))))))))))))))))
 refine dR 36 R (pAT R hc98 R) (d_done (by kernel_rfl) ?_)
 exact qJ (fun w s => s)
 refine cdr 37 [] mixo (fun ht hn => (dR 0 R (vI R) (dR 1 R (vFa 0 fo127_0 R) (dR 2 R (vLd 2 ag29 R R R) (dR 3 R (v_len sl29 R) (dR 4 R (vLt R R) (dR 5 R (vB R) (dF 6 R (wfF hc98) (dF 7 R (wfF hc98) (dF 8 R (wfF hc98) (dF 9 R (wfF hc98) (dF 10 R R (dF 11 R R (dF 12 R R (dF 13 R R (dF 14 R R (dF 15 R R (dF 16 R R (dF 17 R R (dF 18 R R (dF 19 R R (dF 20 R R (dF 21 R (wfF hc98) (dF 22 R (wfF hc98) (dF 23 R R (dF 24 R R (dF 25 R R (dF 26 R R (dF 27 R R (dF 28 R R (dF 29 R R (dF 30 R R (dF 31 R R (dF 32 R R (dF 33 R R (dF 34 R R (dF 35 R (wfF hc98) (dR 36 R (pAF ((r84 || ((ix c6.Loops m83) != (ix p1.Loops i63))) || ((ix a11.Steps m83) != (ix p1.Store.Steps i63))) R hc98) (d_done (by kernel_rfl) ?_)))))))))))))))))))))))))))))))))))))))
 exact qJ (fun w s => s)
 rintro σ1
 refine q_next ?_
 rcases bif_ hr with ⟨hb101, hr⟩ | ⟨hb101, hr⟩
 refine c_true R hb101 (c_skip (q_next (c_block (c_region (lI R (lO (vAd R R) (lI R (l_nil (q_blockn ?_)))))))))
 obtain rfl := so hr
 exact qA () (fun w s => s)
 refine c_false R hb101 (c_exit (q_exit ?_))
 obtain rfl := so hr
 obtain rfl := he2 _ R
 have hr := hk2
 refine q_exit (q_block ?_)
 exact qI (m83, ()) hr (fun w s => s)
 rintro ⟨m103, _⟩ σ1 hr
 replace hr : spec_l11Partners_J2 c6 x61 i63 m103 = some out1 := hr
 unfold spec_l11Partners_J2 at hr
 refine c_seq (c_seq (c_region (lI R (lO (vFa 0 fo127_0 R) (lO (vLd 2 ag29 R R R) (lO (v_len sl29 R) (lO (vEq R R) (l_nil (q_next ?_)))))))))
 rcases bif_ hr with ⟨hb104, hr⟩ | ⟨hb104, hr⟩
 refine c_true R hb104 (c_seq (c_region (lS R (lS R (lB R (l_nil (q_next (c_ret (q_ret (q_blockr (q_ret ?_)))))))))))
 obtain rfl := so hr
 obtain rfl := he1 _ R
 have hr := hk1
 refine q_ret (q_blockr (q_ret ?_))
 obtain rfl := so hr
 exact q_fin (vs := [(sc A62 x61 D62), (.bool false)]) (.inl R) (A62, x61.length, D62) R ⟨R, R, trivial⟩ R (fun w s => (s.e 13 [0]))
 refine c_false R hb104 (c_skip (q_next ?_))
 obtain ⟨hg106, hr⟩ := gd hr
 refine c_region (lS R (lI R (l_build (K := kT3) (xs := ([m103] : List Int)) (vs := [(iv m103)]) 0 R R sl29 sz3 zc3 R R R R R R ?_ R (fun A105 D105 => ?_))))
 exact fun I h s => (mO3).list [((), m103)] I h s
 refine lN (OO kT3 3 A105 D105 ([m103] : List Int) :: _ :: W1) ?_
 refine lM (ow _ _ _ _ :: ow _ _ _ _ :: W1) (fun w s => (s.e 2 [1, 0])) ?_
 refine l_app (K := kT3) 17592186044416 R R sl29 sz3 by3 (Zr.zk zT3 zc3) R R R R R R src_ow hg106 (fun A107 D107 => (lN (OO kT3 3 A107 D107 (x61 ++ ([m103] : List Int)) :: W1) ?_))
 refine lS R (l_nil (q_blockn (q_next (c_region (lI R (lO (vAd R R) (lI R (l_nil ?_))))))))
 obtain rfl := so hr
 exact qA (A107, (x61 ++ ([m103] : List Int)).length, D107) (fun w s => s)
 refine c_false R hb64 (c_exit (q_exit ?_))
 obtain rfl := so hr
 obtain rfl := he1 _ R
 have hr := hk1
 refine q_exit (q_block ?_)
 exact qI (x61, (A62, x61.length, D62)) hr (fun w s => s)
 rintro ⟨x111, ⟨A112, N112, D112⟩⟩ σ1 hr
 replace hr : spec_l11Partners_J3 c6 a11 x111 = some r := hr
 unfold spec_l11Partners_J3 at hr
 refine c_len 0 sees_ow (fun (hn : N112 = x111.length) => ?_)
 subst hn
 refine c_seq (c_cut (A := (Unit) × (Unit)) (fun a => spec_l11Partners_J4 a11 x111 = some r) (fun a => [(5, (pt b15 0)), (8, (sc A112 x111 D112))]) (fun a => OO kT3 3 A112 D112 x111 :: W1) ?_ ?_)
 refine c_seq (c_region (lI R (l_nil (q_next (c_block ?_)))))
 obtain ⟨e3, hl3, hk3⟩ := bd hr
 refine c_loop (A := Unit) hl3 (fun s a => [(4, (pt b14 0)), (5, (pt b15 0)), (8, (sc A112 x111 D112)), (11, (iv s))]) (fun s a => OO kT3 3 A112 D112 x111 :: W1) () (aS R) (fun w s => s) ?_
 rintro m121 _ σ1 out3 hr he3
 replace hr : spec_l11Partners_L3 c6 a11 x111 m121 = some out3 := hr
 unfold spec_l11Partners_L3 at hr
 refine c_seq (c_seq (c_region (lI R (lO (vFa 0 fo127_0 R) (lO (vLd 2 ag29 R R R) (lO (v_len sl29 R) (lO (vLt R R) (l_nil (q_next ?_)))))))))
 rcases bif_ hr with ⟨hb122, hr⟩ | ⟨hb122, hr⟩
 refine c_true R hb122 (c_skip (q_next (c_seq (c_block (c_seq ?_)))))
 obtain ⟨r123, hx124, hr⟩ := bd hr
 obtain ⟨hg125, hr⟩ := gd hr
 refine cQ [(4, (pt b14 0)), (5, (pt b15 0)), (8, (sc A112 x111 D112)), (11, (iv m121)), (87, (.bool ((!r123) && ((ix a11.Steps m121) != (0 : Int)))))] (OO kT3 3 A112 D112 x111 :: W1) ?_ ?_
 refine c_region (lS R (lI R (lC 1 cb117 R (FnOk.lends (A' := [OO kT3 3 A112 D112 x111]) (A := [RR kT3 A112 D112 x111]) (B := []) (spec_l7Has_ok hx124) ⟨lend_ow, trivial⟩ (fun _ => trivial)) R ?_)))
 rintro _
 refine lN (OO kT3 3 A112 D112 x111 :: W1) ?_
 refine lO (vNo R) (lB R ?_)
 rcases bo (!r123) with hc128 | hc128
 refine lW (wnT hc128) (vFa 2 fo124_2 R) (lW (wnT hc128) (vLd 1 ag29 R R R) (lW (wnT hc128) (vI R) (t_some 12 sees_rd (show 0 < a11.Steps.length by have := (hg125 hc128); omega) (fun g126 o127 ha => ?_))))
 subst ha
 refine lW (wnT hc128) (vIa sl29 sz3 R R (hg125 hc128)) (lW (wnT hc128) (vLi 12 ag3 sees_rd R (hg125 hc128)) (lW (wnT hc128) (vNe R R) (lO (pAT R hc128 R) (l_nil ?_))))
 exact qJ (fun w s => s)
 refine lf (wfF hc128) (lf (wfF hc128) (lf (wfF hc128) (lf (wfF hc128) (lf (wfF hc128) (lf (wfF hc128) (lO (pAF ((ix a11.Steps m121) != (0 : Int)) R hc128) (l_nil ?_)))))))
 exact qJ (fun w s => s)
 rintro σ1
 refine q_next ?_
 rcases bif_ hr with ⟨hb129, hr⟩ | ⟨hb129, hr⟩
 refine c_true R hb129 (c_seq (c_region (lS R (lS R (lB R (l_nil (q_next (c_ret (q_blockr (q_ret ?_))))))))))
 obtain rfl := so hr
 obtain rfl := he3 _ R
 have hr := hk3
 refine q_ret (q_blockr (q_ret ?_))
 obtain rfl := so hr
 exact q_fin (vs := [(sc A112 x111 D112), (.bool false)]) (.inl R) (A112, x111.length, D112) R ⟨R, R, trivial⟩ R (fun w s => (s.e 13 [0]))
 refine c_false R hb129 (c_skip (q_blockn (q_next (c_region (lI R (lO (vAd R R) (lI R (l_nil ?_))))))))
 obtain rfl := so hr
 exact qA () (fun w s => s)
 refine c_false R hb122 (c_exit (q_exit ?_))
 obtain rfl := so hr
 obtain rfl := he3 _ R
 have hr := hk3
 refine q_exit (q_block ?_)
 exact qI ((), ()) hr (fun w s => s)
 rintro ⟨_, _⟩ σ1 hr
 replace hr : spec_l11Partners_J4 a11 x111 = some r := hr
 unfold spec_l11Partners_J4 at hr
 refine c_seq (cdr 6 [] mixo (fun ht hn => (dR 0 R (vS R) (dR 1 R (vFa 1 fo124_1 R) (dR 2 R (vLd 1 ag3 R R R) (dR 3 R (vEq R R) (dR 4 R (vS R) (dR 5 R (vB R) (d_done (by kernel_rfl) (q_next (c_ret ?_)))))))))))
 obtain rfl := so hr
 exact q_fin (vs := [(sc A112 x111 D112), (.bool (a11.Offset == (0 : Int)))]) (.inl R) (A112, x111.length, D112) R ⟨R, R, trivial⟩ R (fun w s => (s.e 13 [0]))
theorem spec_l3Ints_ok {a1 : (List Int)} {r : (List Int)} (hr : spec_l3Ints a1 = some r) :
 FnOk Try.prog 60 [(.slice A2 N2 D2)] [rds kT3 (.slice A2 N2 D2) a1] (fun (h : HH) => ((.slice h.1 h.2.1 h.2.2), [ow kT3 3 (.slice h.1 h.2.1 h.2.2) r])) := by
 unfold spec_l3Ints at hr
 refine fn_ok Try.func60 R 6 R R fun C V => ?_
 refine cN (_ :: V) ?_
 refine cL 0 sees_rd ?_
 rintro rfl
 let W0 : List HP := RR kT3 A2 D2 a1 :: V
 refine cN W0 ?_
 refine c_seq (c_region (lS R (l_nil (q_next (c_seq ?_)))))
 obtain ⟨hg4, hr⟩ := gd hr
 refine c_region (l_build (K := kT3) (xs := ([] : List Int)) (vs := []) 0 R R sl29 sz3 zc3 R R R R R R ?_ R (fun A3 D3 => ?_))
 exact fun I h s => (mO3).list [] I h s
 refine lN (OO kT3 3 A3 D3 ([] : List Int) :: W0) ?_
 refine lS R (lM (_ :: RR kT3 A2 D2 a1 :: W0) (fun w s => ((s.dup 1 R).mv 1)) ?_)
 refine l_app (K := kT3) 17592186044416 R R sl29 sz3 by3 (Zr.zk zT3 zc3) R R R R R R (src_rd (Kind.scal_flat _ _)) hg4 (fun A5 D5 => (lN (OO kT3 3 A5 D5 (([] : List Int) ++ a1) :: W0) ?_))
 refine lS R (l_nil (q_next (c_ret ?_)))
 obtain rfl := so hr
 exact qF (A5, (([] : List Int) ++ a1).length, D5) (fun w s => (s.e 2 [0]))
end Go.Proofs.Ytbdchgofcejiiaa
