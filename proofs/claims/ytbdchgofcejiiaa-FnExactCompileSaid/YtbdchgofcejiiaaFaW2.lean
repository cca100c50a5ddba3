import Derived.Test.YtbdchgofcejiiaaFaW1
set_option linter.unusedVariables false
set_option maxRecDepth 20000
namespace Go.Proofs.Ytbdchgofcejiiaa
open Go Go.Pg
variable {A2 A3 A4 A5 A6 A7 : Option Addr} {D2 D3 D4 D5 D6 D7 N2 N3 N4 N5 N6 N7 : Nat}
theorem spec_l11Kernel_ok {k1 : Kernel} {sizes6 : (List Int)} {r : Bool} (hr : spec_l11Kernel k1 sizes6 = some r) :
 FnOk Try.prog 119 [(.agg [(.slice A2 N2 D2), (.slice A3 N3 D3), (iv k1.Store.Buffer), (iv k1.Store.Offset), (.slice A4 N4 D4), (.bool k1.Sum), (.slice A5 N5 D5)].toArray), (.slice A7 N7 D7)] [rds kT3 (.slice A2 N2 D2) k1.Loops, rds kT124 (.slice A3 N3 D3) k1.Loads, rds kT3 (.slice A4 N4 D4) k1.Store.Steps, rds kT216 (.slice A5 N5 D5) k1.Code, rds kT3 (.slice A7 N7 D7) sizes6] (fun (h : Unit) => ((.bool r), [])) := by
 unfold spec_l11Kernel at hr
 refine fn_ok Try.func119 R 69 R R fun C V => ?_
 refine cN (_ :: _ :: _ :: _ :: _ :: V) ?_
 refine cL 0 sees_rd ?_
 rintro rfl
 refine cL 1 sees_rd ?_
 rintro rfl
 refine cL 2 sees_rd ?_
 rintro rfl
 refine cL 3 sees_rd ?_
 rintro rfl
 refine cL 4 sees_rd ?_
 rintro rfl
 let W0 : List HP := RR kT3 A2 D2 k1.Loops :: RR kT124 A3 D3 k1.Loads :: RR kT3 A4 D4 k1.Store.Steps :: RR kT216 A5 D5 k1.Code :: RR kT3 A7 D7 sizes6 :: V
 refine cN W0 ?_
 refine c_seq (c_region (lBx R (fun b8 => (lB R (l_nil ?_)))))
 let W1 : List HP := bxl b8 [(sc A2 k1.Loops D2), (sc A3 k1.Loads D3), (iv k1.Store.Buffer), (iv k1.Store.Offset), (sc A4 k1.Store.Steps D4), (.bool k1.Sum), (sc A5 k1.Code D5)] 127 :: W0
 refine qN W1 ?_
 refine q_next (c_seq (c_seq ?_))
 obtain ⟨r9, hx10, hr⟩ := bd hr
 obtain ⟨r11, hx12, hr⟩ := bd hr
 obtain ⟨r13, hx14, hr⟩ := bd hr
 refine cQ [(1, (sc A7 sizes6 D7)), (2, (pt b8 0)), (39, (.bool (((((decide ((k1.Loops.length : Int) > (12 : Int))) || (decide ((k1.Loads.length : Int) > (30 : Int)))) || (r9 == (0 : Int))) || (!r11)) || (!r13))))] (W1) ?_ ?_
 refine c_region (lO (vFa 0 fo127_0 R) (lO (vLd 0 ag29 R R R) (lO (v_len sl29 R) (lO (vGt R R) (lB R ?_)))))
 rcases bo (decide ((k1.Loops.length : Int) > (12 : Int))) with hc15 | hc15
 refine lf (wfT hc15) (lf (wfT hc15) (lf (wfT hc15) (lf (wfT hc15) (lO (pOT (decide ((k1.Loads.length : Int) > (30 : Int))) R hc15) (lB R (lf (wfT (oT hc15)) (lf (wfT (oT hc15)) (lf (wfT (oT hc15)) (lf (wfT (oT hc15)) (lO (pOT (r9 == (0 : Int)) R (oT hc15)) (lB R (lf (wfT (oT (oT hc15))) (lf (wfT (oT (oT hc15))) (lf (wfT (oT (oT hc15))) (lf (wfT (oT (oT hc15))) (lf (wfT (oT (oT hc15))) (lf (wfT (oT (oT hc15))) (lf (wfT (oT (oT hc15))) (lO (pOT (!r11) R (oT (oT hc15))) (lB R (lf (wfT (oT (oT (oT hc15)))) (lf (wfT (oT (oT (oT hc15)))) (lf (wfT (oT (oT (oT hc15)))) (lf (wfT (oT (oT (oT hc15)))) (lf (wfT (oT (oT (oT hc15)))) (lf (wfT (oT (oT (oT hc15)))) (lf (wfT (oT (oT (oT hc15)))) (lO (pOT (!r13) R (oT (oT (oT hc15)))) (l_nil ?_)))))))))))))))))))))))))))))
 exact qJ (fun w s => s)
 refine lW (wnF hc15) (vFa 1 fo127_1 R) (lW (wnF hc15) (vLd 0 ag122 R R R) (lW (wnF hc15) (v_len sl122 R) (lW (wnF hc15) (vGt R R) (lO (pOF R hc15 R) (lB R ?_)))))
 rcases bo ((decide ((k1.Loops.length : Int) > (12 : Int))) || (decide ((k1.Loads.length : Int) > (30 : Int)))) with hc16 | hc16
 refine lf (wfT hc16) (lf (wfT hc16) (lf (wfT hc16) (lf (wfT hc16) (lO (pOT (r9 == (0 : Int)) R hc16) (lB R (lf (wfT (oT hc16)) (lf (wfT (oT hc16)) (lf (wfT (oT hc16)) (lf (wfT (oT hc16)) (lf (wfT (oT hc16)) (lf (wfT (oT hc16)) (lf (wfT (oT hc16)) (lO (pOT (!r11) R (oT hc16)) (lB R (lf (wfT (oT (oT hc16))) (lf (wfT (oT (oT hc16))) (lf (wfT (oT (oT hc16))) (lf (wfT (oT (oT hc16))) (lf (wfT (oT (oT hc16))) (lf (wfT (oT (oT hc16))) (lf (wfT (oT (oT hc16))) (lO (pOT (!r13) R (oT (oT hc16))) (l_nil ?_)))))))))))))))))))))))
 exact qJ (fun w s => s)
 refine lW (wnF hc16) (vFa 0 fo127_0 R) (lW (wnF hc16) (vLd 0 ag29 R R R) (lM (RR kT3 A2 D2 k1.Loops :: W1) (fun w s => (s.d 1 R)) ?_))
 refine l_calln 1 R (wnF hc16) cb120 R (spec_l11Product_ok (gcall_t hx10 (not_ff hc16))) R ?_
 rintro _
 refine lN W1 ?_
 refine lW (wnF hc16) (vEq R R) (lO (pOF R hc16 R) (lB R ?_))
 rcases bo (((decide ((k1.Loops.length : Int) > (12 : Int))) || (decide ((k1.Loads.length : Int) > (30 : Int)))) || (r9 == (0 : Int))) with hc17 | hc17
 refine lf (wfT hc17) (lf (wfT hc17) (lf (wfT hc17) (lf (wfT hc17) (lf (wfT hc17) (lf (wfT hc17) (lf (wfT hc17) (lO (pOT (!r11) R hc17) (lB R (lf (wfT (oT hc17)) (lf (wfT (oT hc17)) (lf (wfT (oT hc17)) (lf (wfT (oT hc17)) (lf (wfT (oT hc17)) (lf (wfT (oT hc17)) (lf (wfT (oT hc17)) (lO (pOT (!r13) R (oT hc17)) (l_nil ?_)))))))))))))))))
 exact qJ (fun w s => s)
 refine lW (wnF hc17) (vFa 6 fo127_4 R) (lW (wnF hc17) (vLd 0 ag125 R R R) (lW (wnF hc17) (vFa 1 fo127_1 R) (lW (wnF hc17) (vLd 0 ag122 R R R) (lW (wnF hc17) (v_len sl122 R) (lM (RR kT216 A5 D5 k1.Code :: W1) (fun w s => (s.d 4 R)) ?_)))))
 refine l_calln 1 R (wnF hc17) cb174 R (spec_l11Code_ok (gcall_t hx12 (not_ff hc17))) R ?_
 rintro _
 refine lN W1 ?_
 refine lW (wnF hc17) (vNo R) (lO (pOF R hc17 R) (lB R ?_))
 rcases bo ((((decide ((k1.Loops.length : Int) > (12 : Int))) || (decide ((k1.Loads.length : Int) > (30 : Int)))) || (r9 == (0 : Int))) || (!r11)) with hc18 | hc18
 refine lf (wfT hc18) (lf (wfT hc18) (lf (wfT hc18) (lf (wfT hc18) (lf (wfT hc18) (lf (wfT hc18) (lf (wfT hc18) (lO (pOT (!r13) R hc18) (l_nil ?_))))))))
 exact qJ (fun w s => s)
 refine lW (wnF hc18) (vFa 2 fo127_2 R) (lW (wnF hc18) (vz (.agg [(iv k1.Store.Buffer), (iv k1.Store.Offset), (sc A4 k1.Store.Steps D4)].toArray) (v_loadw 0 ag124 sz124 R R R R)) (lW (wnF hc18) (vFa 0 fo127_0 R) (lW (wnF hc18) (vLd 0 ag29 R R R) (lW (wnF hc18) (vS R) (lM (RR kT3 A4 D4 k1.Store.Steps :: RR kT3 A2 D2 k1.Loops :: RR kT3 A7 D7 sizes6 :: W1) (fun w s => ((((s.d 3 R).d 2 R).d 7 R).e 3 [2, 1, 0])) ?_)))))
 refine l_calln 3 R (wnF hc18) cb175 R (spec_l11Access_ok (gcall_t hx14 (not_ff hc18))) R ?_
 rintro _
 refine lN W1 ?_
 refine lW (wnF hc18) (vNo R) (lO (pOF R hc18 R) (l_nil ?_))
 exact qJ (fun w s => s)
 rintro σ1
 refine q_next ?_
 rcases bif_ hr with ⟨hb19, hr⟩ | ⟨hb19, hr⟩
 refine c_true R hb19 (c_seq (c_region (lB R (l_nil (q_next (c_ret (q_ret ?_)))))))
 obtain rfl := so hr
 exact qF () (fun w s => (s.e 6 []))
 refine c_false R hb19 (c_skip (q_next (c_seq (c_cut (A := (Unit) × (Unit)) (fun a => spec_l11Kernel_J1 = some r) (fun a => []) (fun a => W1) ?_ ?_))))
 refine c_seq (c_region (lI R (l_nil (q_next (c_block ?_)))))
 obtain ⟨e1, hl1, hk1⟩ := bd hr
 refine c_loop (A := Unit) hl1 (fun s a => [(1, (sc A7 sizes6 D7)), (2, (pt b8 0)), (5, (iv s))]) (fun s a => W1) () (aS R) (fun w s => s) ?_
 rintro i29 _ σ1 out1 hr he1
 replace hr : spec_l11Kernel_L1 k1 sizes6 i29 = some out1 := hr
 unfold spec_l11Kernel_L1 at hr
 refine c_seq (c_seq (c_region (lI R (lO (vFa 1 fo127_1 R) (lO (vLd 0 ag122 R R R) (lO (v_len sl122 R) (lO (vLt R R) (l_nil (q_next ?_)))))))))
 rcases bif_ hr with ⟨hb30, hr⟩ | ⟨hb30, hr⟩
 refine c_true R hb30 (c_skip (q_next (c_seq (c_block (c_seq ?_)))))
 obtain ⟨hg31, hr⟩ := gd hr
 obtain ⟨r35, hx36, hr⟩ := bd hr
 refine cQ [(1, (sc A7 sizes6 D7)), (2, (pt b8 0)), (5, (iv i29)), (68, (.bool ((!r35) || ((ix k1.Loads i29).Buffer == k1.Store.Buffer))))] (W1) ?_ ?_
 rcases bo (!r35) with hc37 | hc37
 refine c_some 2 sees_rd (show 0 < k1.Loads.length by have := hg31; omega) (fun g32 o33 ha => ?_)
 subst ha
 refine c_elem (K := kT124) 2 i29 dT124.dec R hg31.1 hg31.2 ?_
 rintro ⟨-, -, ⟨A34, D34⟩⟩
 refine cN (cl g32 (o33 + i29.toNat * 3) [(iv (ix k1.Loads i29).Buffer), (iv (ix k1.Loads i29).Offset), (sc A34 ((ix k1.Loads i29).Steps) D34)] :: RR kT3 A34 D34 ((ix k1.Loads i29).Steps) :: W1) ?_
 refine cdr 22 [] mixo (fun ht hn => (dR 0 R (vFa 1 fo127_1 R) (dR 1 R (vLd 2 ag122 R R R) (dR 2 R (vI R) (dR 3 R (vIa sl122 sz124 R R hg31) (dR 4 R (vz (.agg [(iv (ix k1.Loads i29).Buffer), (iv (ix k1.Loads i29).Offset), (sc A34 ((ix k1.Loads i29).Steps) D34)].toArray) (v_clfs (fo := 0) 0 ag124 sz124 R R R R)) (dR 5 R (vFa 0 fo127_0 R) (dR 6 R (vLd 2 ag29 R R R) (dR 7 R (vS R) (d_one 8 (by kernel_rfl) R (lM (rds _ _ _ :: RR kT3 A2 D2 k1.Loops :: RR kT3 A7 D7 sizes6 :: cl _ _ _ :: rds _ _ _ :: W1) (fun w s => ((((s.d 1 R).d 4 R).d 9 R).e 5 [2, 1, 0, 3, 4])) ?_)))))))))))
 refine lC 3 cb175 R (spec_l11Access_ok hx36) R ?_
 rintro _
 refine lN (_ :: _ :: W1) ?_
 refine l_nil (q_draw (sL []) (dR 9 R (vNo R) (dR 10 R (vB R) (dF 11 R (wfT hc37) (dF 12 R (wfT hc37) (dF 13 R (wfT hc37) (dF 14 R (wfT hc37) (dF 15 R (wfT hc37) (dF 16 R (wfT hc37) (dF 17 R (wfT hc37) (dF 18 R (wfT hc37) (dF 19 R (wfT hc37) (dF 20 R (wfT hc37) (dR 21 R (pOT ((ix k1.Loads i29).Buffer == k1.Store.Buffer) R hc37) (d_done (by kernel_rfl) ?_)))))))))))))))
 exact qJ (fun w s => (s.e 2 []))
 refine c_some 2 sees_rd (show 0 < k1.Loads.length by have := hg31; omega) (fun g32 o33 ha => ?_)
 subst ha
 refine c_elem (K := kT124) 2 i29 dT124.dec R hg31.1 hg31.2 ?_
 rintro ⟨-, -, ⟨A34, D34⟩⟩
 refine cdr 22 [] mixo (fun ht hn => (dR 0 R (vFa 1 fo127_1 R) (dR 1 R (vLd 2 ag122 R R R) (dR 2 R (vI R) (dR 3 R (vIa sl122 sz124 R R hg31) (dR 4 R (vz (.agg [(iv (ix k1.Loads i29).Buffer), (iv (ix k1.Loads i29).Offset), (sc A34 ((ix k1.Loads i29).Steps) D34)].toArray) (v_clfs (fo := 0) 0 ag124 sz124 R R R R)) (dR 5 R (vFa 0 fo127_0 R) (dR 6 R (vLd 2 ag29 R R R) (dR 7 R (vS R) (d_one 8 (by kernel_rfl) R (lM (rds _ _ _ :: RR kT3 A2 D2 k1.Loops :: RR kT3 A7 D7 sizes6 :: cl _ _ _ :: rds _ _ _ :: W1) (fun w s => ((((s.d 1 R).d 4 R).d 9 R).e 5 [2, 1, 0, 3, 4])) ?_)))))))))))
 refine lC 3 cb175 R (spec_l11Access_ok hx36) R ?_
 rintro _
 refine lN (_ :: _ :: W1) ?_
 refine l_nil (q_draw (sL []) (dR 9 R (vNo R) (dR 10 R (vB R) (dW 11 R (wnF hc37) (vFa 1 fo127_1 R) (dW 12 R (wnF hc37) (vLd 2 ag122 R R R) (dW 13 R (wnF hc37) (vI R) (dW 14 R (wnF hc37) (vIa sl122 sz124 R R hg31) (dW 15 R (wnF hc37) (vz (.pointer (some ⟨g32, o33 + i29.toNat * 3, none⟩)) (v_fa fo124_0 R R)) (dW 16 R (wnF hc37) (vz (iv (ix k1.Loads i29).Buffer) (v_lde (K := kT124) (fo := 0) (pr := fun x => (iv x.Buffer)) 4 i29 ag3 (dT124.leaf fun _ _ => R) sees_rd R hg31.1 hg31.2)) (dW 17 R (wnF hc37) (vFa 2 fo127_2 R) (dW 18 R (wnF hc37) (vFa 2 fo124_0 R) (dW 19 R (wnF hc37) (vLd 2 ag3 R R R) (dW 20 R (wnF hc37) (vEq R R) (dR 21 R (pOF R hc37 R) (d_done (by kernel_rfl) ?_)))))))))))))))
 exact qJ (fun w s => (s.e 2 []))
 rintro σ1
 refine q_next ?_
 rcases bif_ hr with ⟨hb38, hr⟩ | ⟨hb38, hr⟩
 refine c_true R hb38 (c_seq (c_region (lB R (l_nil (q_next (c_ret (q_blockr (q_ret ?_))))))))
 obtain rfl := so hr
 obtain rfl := he1 _ R
 have hr := hk1
 refine q_ret (q_blockr (q_ret ?_))
 obtain rfl := so hr
 exact qF () (fun w s => (s.e 6 []))
 refine c_false R hb38 (c_skip (q_blockn (q_next (c_region (lI R (lO (vAd R R) (lI R (l_nil ?_))))))))
 obtain rfl := so hr
 exact qA () (fun w s => s)
 refine c_false R hb30 (c_exit (q_exit ?_))
 obtain rfl := so hr
 obtain rfl := he1 _ R
 have hr := hk1
 refine q_exit (q_block ?_)
 exact q_join ((), ()) hr trivial (fun w s => s)
 rintro ⟨_, _⟩ σ1 hr
 replace hr : spec_l11Kernel_J1 = some r := hr
 unfold spec_l11Kernel_J1 at hr
 refine c_seq (c_region (lB R (l_nil (q_next (c_ret ?_)))))
 obtain rfl := so hr
 exact qF () (fun w s => (s.e 6 []))
theorem spec_NestOk_ok {l1 : Nest} {r : Bool} (hr : spec_NestOk l1 = some r) :
 FnOk Try.prog 69 [(.agg [(.slice A2 N2 D2), (.slice A3 N3 D3), (.slice A4 N4 D4), (.slice A5 N5 D5), (.slice A6 N6 D6)].toArray)] [rds kT3 (.slice A2 N2 D2) l1.Sizes, rds kT3 (.slice A3 N3 D3) l1.Ins, rds kT159 (.slice A4 N4 D4) l1.Fixed, rds kT127 (.slice A5 N5 D5) l1.Kernels, rds kT3 (.slice A6 N6 D6) l1.Outs] (fun (h : Unit) => ((.bool r), [])) := by
 unfold spec_NestOk at hr
 refine fn_ok Try.func69 R 198 R R fun C V => ?_
 refine cN (_ :: _ :: _ :: _ :: _ :: V) ?_
 refine cL 0 sees_rd ?_
 rintro rfl
 refine cL 1 sees_rd ?_
 rintro rfl
 refine cL 2 sees_rd ?_
 rintro rfl
 refine cL 3 sees_rd ?_
 rintro rfl
 refine cL 4 sees_rd ?_
 rintro rfl
 let W0 : List HP := RR kT3 A2 D2 l1.Sizes :: RR kT3 A3 D3 l1.Ins :: RR kT159 A4 D4 l1.Fixed :: RR kT127 A5 D5 l1.Kernels :: RR kT3 A6 D6 l1.Outs :: V
 refine cN W0 ?_
 refine c_seq (c_region (lBx R (fun b7 => (lB R (l_nil ?_)))))
 let W1 : List HP := bxl b7 [(sc A2 l1.Sizes D2), (sc A3 l1.Ins D3), (sc A4 l1.Fixed D4), (sc A5 l1.Kernels D5), (sc A6 l1.Outs D6)] 58 :: W0
 refine qN W1 ?_
 refine q_next (c_seq (c_seq ?_))
 obtain ⟨r8, hx9, hr⟩ := bd hr
 obtain ⟨r10, hx11, hr⟩ := bd hr
 refine cQ [(1, (pt b7 0)), (49, (.bool ((((((decide ((l1.Sizes.length : Int) > (200 : Int))) || (decide ((l1.Ins.length : Int) > (40 : Int)))) || (decide ((l1.Outs.length : Int) > (40 : Int)))) || (decide ((l1.Kernels.length : Int) > (400 : Int)))) || (!r8)) || (!r10))))] (W1) ?_ ?_
 refine c_region (lO (vFa 0 fo58_0 R) (lO (vLd 0 ag29 R R R) (lO (v_len sl29 R) (lO (vGt R R) (lB R ?_)))))
 rcases bo (decide ((l1.Sizes.length : Int) > (200 : Int))) with hc12 | hc12
 refine lf (wfT hc12) (lf (wfT hc12) (lf (wfT hc12) (lf (wfT hc12) (lO (pOT (decide ((l1.Ins.length : Int) > (40 : Int))) R hc12) (lB R (lf (wfT (oT hc12)) (lf (wfT (oT hc12)) (lf (wfT (oT hc12)) (lf (wfT (oT hc12)) (lO (pOT (decide ((l1.Outs.length : Int) > (40 : Int))) R (oT hc12)) (lB R (lf (wfT (oT (oT hc12))) (lf (wfT (oT (oT hc12))) (lf (wfT (oT (oT hc12))) (lf (wfT (oT (oT hc12))) (lO (pOT (decide ((l1.Kernels.length : Int) > (400 : Int))) R (oT (oT hc12))) (lB R (lf (wfT (oT (oT (oT hc12)))) (lf (wfT (oT (oT (oT hc12)))) (lf (wfT (oT (oT (oT hc12)))) (lf (wfT (oT (oT (oT hc12)))) (lf (wfT (oT (oT (oT hc12)))) (lf (wfT (oT (oT (oT hc12)))) (lf (wfT (oT (oT (oT hc12)))) (lO (pOT (!r8) R (oT (oT (oT hc12)))) (lB R (lf (wfT (oT (oT (oT (oT hc12))))) (lf (wfT (oT (oT (oT (oT hc12))))) (lf (wfT (oT (oT (oT (oT hc12))))) (lf (wfT (oT (oT (oT (oT hc12))))) (lf (wfT (oT (oT (oT (oT hc12))))) (lf (wfT (oT (oT (oT (oT hc12))))) (lf (wfT (oT (oT (oT (oT hc12))))) (lO (pOT (!r10) R (oT (oT (oT (oT hc12))))) (l_nil ?_)))))))))))))))))))))))))))))))))))
 exact qJ (fun w s => s)
 refine lW (wnF hc12) (vFa 1 fo58_1 R) (lW (wnF hc12) (vLd 0 ag29 R R R) (lW (wnF hc12) (v_len sl29 R) (lW (wnF hc12) (vGt R R) (lO (pOF R hc12 R) (lB R ?_)))))
 rcases bo ((decide ((l1.Sizes.length : Int) > (200 : Int))) || (decide ((l1.Ins.length : Int) > (40 : Int)))) with hc13 | hc13
 refine lf (wfT hc13) (lf (wfT hc13) (lf (wfT hc13) (lf (wfT hc13) (lO (pOT (decide ((l1.Outs.length : Int) > (40 : Int))) R hc13) (lB R (lf (wfT (oT hc13)) (lf (wfT (oT hc13)) (lf (wfT (oT hc13)) (lf (wfT (oT hc13)) (lO (pOT (decide ((l1.Kernels.length : Int) > (400 : Int))) R (oT hc13)) (lB R (lf (wfT (oT (oT hc13))) (lf (wfT (oT (oT hc13))) (lf (wfT (oT (oT hc13))) (lf (wfT (oT (oT hc13))) (lf (wfT (oT (oT hc13))) (lf (wfT (oT (oT hc13))) (lf (wfT (oT (oT hc13))) (lO (pOT (!r8) R (oT (oT hc13))) (lB R (lf (wfT (oT (oT (oT hc13)))) (lf (wfT (oT (oT (oT hc13)))) (lf (wfT (oT (oT (oT hc13)))) (lf (wfT (oT (oT (oT hc13)))) (lf (wfT (oT (oT (oT hc13)))) (lf (wfT (oT (oT (oT hc13)))) (lf (wfT (oT (oT (oT hc13)))) (lO (pOT (!r10) R (oT (oT (oT hc13)))) (l_nil ?_)))))))))))))))))))))))))))))
 exact qJ (fun w s => s)
 refine lW (wnF hc13) (vFa 4 fo58_4 R) (lW (wnF hc13) (vLd 0 ag29 R R R) (lW (wnF hc13) (v_len sl29 R) (lW (wnF hc13) (vGt R R) (lO (pOF R hc13 R) (lB R ?_)))))
 rcases bo (((decide ((l1.Sizes.length : Int) > (200 : Int))) || (decide ((l1.Ins.length : Int) > (40 : Int)))) || (decide ((l1.Outs.length : Int) > (40 : Int)))) with hc14 | hc14
 refine lf (wfT hc14) (lf (wfT hc14) (lf (wfT hc14) (lf (wfT hc14) (lO (pOT (decide ((l1.Kernels.length : Int) > (400 : Int))) R hc14) (lB R (lf (wfT (oT hc14)) (lf (wfT (oT hc14)) (lf (wfT (oT hc14)) (lf (wfT (oT hc14)) (lf (wfT (oT hc14)) (lf (wfT (oT hc14)) (lf (wfT (oT hc14)) (lO (pOT (!r8) R (oT hc14)) (lB R (lf (wfT (oT (oT hc14))) (lf (wfT (oT (oT hc14))) (lf (wfT (oT (oT hc14))) (lf (wfT (oT (oT hc14))) (lf (wfT (oT (oT hc14))) (lf (wfT (oT (oT hc14))) (lf (wfT (oT (oT hc14))) (lO (pOT (!r10) R (oT (oT hc14))) (l_nil ?_)))))))))))))))))))))))
 exact qJ (fun w s => s)
 refine lW (wnF hc14) (vFa 3 fo58_3 R) (lW (wnF hc14) (vLd 0 ag56 R R R) (lW (wnF hc14) (v_len sl56 R) (lW (wnF hc14) (vGt R R) (lO (pOF R hc14 R) (lB R ?_)))))
 rcases bo ((((decide ((l1.Sizes.length : Int) > (200 : Int))) || (decide ((l1.Ins.length : Int) > (40 : Int)))) || (decide ((l1.Outs.length : Int) > (40 : Int)))) || (decide ((l1.Kernels.length : Int) > (400 : Int)))) with hc15 | hc15
 refine lf (wfT hc15) (lf (wfT hc15) (lf (wfT hc15) (lf (wfT hc15) (lf (wfT hc15) (lf (wfT hc15) (lf (wfT hc15) (lO (pOT (!r8) R hc15) (lB R (lf (wfT (oT hc15)) (lf (wfT (oT hc15)) (lf (wfT (oT hc15)) (lf (wfT (oT hc15)) (lf (wfT (oT hc15)) (lf (wfT (oT hc15)) (lf (wfT (oT hc15)) (lO (pOT (!r10) R (oT hc15)) (l_nil ?_)))))))))))))))))
 exact qJ (fun w s => s)
 refine lW (wnF hc15) (vFa 1 fo58_1 R) (lW (wnF hc15) (vLd 0 ag29 R R R) (lW (wnF hc15) (vFa 0 fo58_0 R) (lW (wnF hc15) (vLd 0 ag29 R R R) (lW (wnF hc15) (v_len sl29 R) (lM (RR kT3 A3 D3 l1.Ins :: W1) (fun w s => (s.d 2 R)) ?_)))))
 refine l_calln 1 R (wnF hc15) cb116 R (spec_l4Within_ok (gcall_t hx9 (not_ff hc15))) R ?_
 rintro _
 refine lN W1 ?_
 refine lW (wnF hc15) (vNo R) (lO (pOF R hc15 R) (lB R ?_))
 rcases bo (((((decide ((l1.Sizes.length : Int) > (200 : Int))) || (decide ((l1.Ins.length : Int) > (40 : Int)))) || (decide ((l1.Outs.length : Int) > (40 : Int)))) || (decide ((l1.Kernels.length : Int) > (400 : Int)))) || (!r8)) with hc16 | hc16
 refine lf (wfT hc16) (lf (wfT hc16) (lf (wfT hc16) (lf (wfT hc16) (lf (wfT hc16) (lf (wfT hc16) (lf (wfT hc16) (lO (pOT (!r10) R hc16) (l_nil ?_))))))))
 exact qJ (fun w s => s)
 refine lW (wnF hc16) (vFa 4 fo58_4 R) (lW (wnF hc16) (vLd 0 ag29 R R R) (lW (wnF hc16) (vFa 0 fo58_0 R) (lW (wnF hc16) (vLd 0 ag29 R R R) (lW (wnF hc16) (v_len sl29 R) (lM (RR kT3 A6 D6 l1.Outs :: W1) (fun w s => (s.d 5 R)) ?_)))))
 refine l_calln 1 R (wnF hc16) cb116 R (spec_l4Within_ok (gcall_t hx11 (not_ff hc16))) R ?_
 rintro _
 refine lN W1 ?_
 refine lW (wnF hc16) (vNo R) (lO (pOF R hc16 R) (l_nil ?_))
 exact qJ (fun w s => s)
 rintro σ1
 refine q_next ?_
 rcases bif_ hr with ⟨hb17, hr⟩ | ⟨hb17, hr⟩
 refine c_true R hb17 (c_seq (c_region (lB R (l_nil (q_next (c_ret (q_ret ?_)))))))
 obtain rfl := so hr
 exact qF () (fun w s => (s.e 6 []))
 refine c_false R hb17 (c_skip (q_next (c_seq (c_cut (A := (Unit) × (Unit)) (fun a => spec_NestOk_J1 l1 = some r) (fun a => [(1, (pt b7 0))]) (fun a => W1) ?_ ?_))))
 refine c_seq (c_region (lI R (l_nil (q_next (c_block ?_)))))
 obtain ⟨e1, hl1, hk1⟩ := bd hr
 refine c_loop (A := Unit) hl1 (fun s a => [(1, (pt b7 0)), (3, (iv s))]) (fun s a => W1) () (aS R) (fun w s => s) ?_
 rintro i24 _ σ1 out1 hr he1
 replace hr : spec_NestOk_L1 l1 i24 = some out1 := hr
 unfold spec_NestOk_L1 at hr
 refine c_seq (c_seq (c_region (lI R (lO (vFa 0 fo58_0 R) (lO (vLd 0 ag29 R R R) (lO (v_len sl29 R) (lO (vLt R R) (l_nil (q_next ?_)))))))))
 rcases bif_ hr with ⟨hb25, hr⟩ | ⟨hb25, hr⟩
 refine c_true R hb25 (c_skip (q_next (c_seq (c_block (c_seq ?_)))))
 obtain ⟨hg26, hr⟩ := gd hr
 refine cQ [(1, (pt b7 0)), (3, (iv i24)), (70, (.bool ((decide ((ix l1.Sizes i24) < (0 : Int))) || (decide ((ix l1.Sizes i24) > (4096 : Int))))))] (W1) ?_ ?_
 refine c_region (lO (vFa 0 fo58_0 R) (lO (vLd 0 ag29 R R R) (lI R (t_some 1 sees_rd (show 0 < l1.Sizes.length by have := hg26; omega) (fun g27 o28 ha => ?_)))))
 subst ha
 refine lO (vIa sl29 sz3 R R hg26) (lO (vLi 1 ag3 sees_rd R hg26) (lO (vLt R R) (lB R ?_)))
 rcases bo (decide ((ix l1.Sizes i24) < (0 : Int))) with hc29 | hc29
 refine lf (wfT hc29) (lf (wfT hc29) (lf (wfT hc29) (lf (wfT hc29) (lf (wfT hc29) (lf (wfT hc29) (lO (pOT (decide ((ix l1.Sizes i24) > (4096 : Int))) R hc29) (l_nil ?_)))))))
 exact qJ (fun w s => s)
 refine lW (wnF hc29) (vFa 0 fo58_0 R) (lW (wnF hc29) (vLd 0 ag29 R R R) (lW (wnF hc29) (vI R) (lW (wnF hc29) (vIa sl29 sz3 R R hg26) (lW (wnF hc29) (vLi 1 ag3 sees_rd R hg26) (lW (wnF hc29) (vGt R R) (lO (pOF R hc29 R) (l_nil ?_)))))))
 exact qJ (fun w s => s)
 rintro σ1
 refine q_next ?_
 rcases bif_ hr with ⟨hb30, hr⟩ | ⟨hb30, hr⟩
 refine c_true R hb30 (c_seq (c_region (lB R (l_nil (q_next (c_ret (q_blockr (q_ret ?_))))))))
 obtain rfl := so hr
 obtain rfl := he1 _ R
 have hr := hk1
 refine q_ret (q_blockr (q_ret ?_))
 obtain rfl := so hr
 exact qF () (fun w s => (s.e 6 []))
 refine c_false R hb30 (c_skip (q_blockn (q_next (c_region (lI R (lO (vAd R R) (lI R (l_nil ?_))))))))
 obtain rfl := so hr
 exact qA () (fun w s => s)
 refine c_false R hb25 (c_exit (q_exit ?_))
 obtain rfl := so hr
 obtain rfl := he1 _ R
 have hr := hk1
 refine q_exit (q_block ?_)
 exact qI ((), ()) hr (fun w s => s)
 rintro ⟨_, _⟩ σ1 hr
 replace hr : spec_NestOk_J1 l1 = some r := hr
 unfold spec_NestOk_J1 at hr
 refine c_seq (c_region (l_build (K := kT3) (xs := ([] : List Int)) (vs := []) 0 R R sl29 sz3 zc3 R R R R R R ?_ R (fun A32 D32 => ?_)))
 exact fun I h s => (mO3).list [] I h s
 refine lN (OO kT3 3 A32 D32 ([] : List Int) :: W1) ?_
 refine lS R (l_nil (q_next (c_seq (c_cut (A := ((List Int)) × (HH)) (fun a => spec_NestOk_J2 l1 a.1 = some r) (fun a => [(1, (pt b7 0)), (4, (.slice a.2.1 a.2.2.1 a.2.2.2))]) (fun a => ow kT3 3 (.slice a.2.1 a.2.2.1 a.2.2.2) a.1 :: W1) ?_ ?_))))
 refine c_seq (c_region (lI R (l_nil (q_next (c_block ?_)))))
 obtain ⟨e2, hl2, hk2⟩ := bd hr
 refine c_loop (A := HH) hl2 (fun s a => [(1, (pt b7 0)), (4, (.slice a.1 a.2.1 a.2.2)), (5, (iv s.2))]) (fun s a => ow kT3 3 (.slice a.1 a.2.1 a.2.2) s.1 :: W1) (A32, ([] : List Int).length, D32) (aS R) (fun w s => s) ?_
 rintro ⟨given43, i45⟩ ⟨A44, N44, D44⟩ σ1 out2 hr he2
 replace hr : spec_NestOk_L2 l1 given43 i45 = some out2 := hr
 unfold spec_NestOk_L2 at hr
 refine c_len 0 sees_ow (fun (hn : N44 = given43.length) => ?_)
 subst hn
 refine c_seq (c_seq (c_region (lI R (lO (vFa 1 fo58_1 R) (lO (vLd 1 ag29 R R R) (lO (v_len sl29 R) (lO (vLt R R) (l_nil (q_next ?_)))))))))
 rcases bif_ hr with ⟨hb46, hr⟩ | ⟨hb46, hr⟩
 refine c_true R hb46 (c_skip (q_next (c_seq (c_block (c_seq (c_seq ?_))))))
 obtain ⟨hg47, hr⟩ := gd hr
 obtain ⟨r50, hx51, hr⟩ := bd hr
 refine c_region (lS R (lO (vFa 1 fo58_1 R) (lO (vLd 1 ag29 R R R) (lI R (t_some 3 sees_rd (show 0 < l1.Ins.length by have := hg47; omega) (fun g48 o49 ha => ?_))))))
 subst ha
 refine lO (vIa sl29 sz3 R R hg47) (lO (vLi 3 ag3 sees_rd R hg47) (lC 1 cb117 R (FnOk.lends (A' := [OO kT3 3 A44 D44 given43]) (A := [RR kT3 A44 D44 given43]) (B := []) (spec_l7Has_ok hx51) ⟨lend_ow, trivial⟩ (fun _ => trivial)) R ?_))
 rintro _
 refine lN (OO kT3 3 A44 D44 given43 :: W1) ?_
 refine l_nil (q_next ?_)
 rcases bif_ hr with ⟨hb52, hr⟩ | ⟨hb52, hr⟩
 refine c_true R hb52 (c_seq (c_region (lB R (l_nil (q_next (c_ret (q_ret (q_blockr (q_ret ?_)))))))))
 obtain rfl := so hr
 obtain rfl := he2 _ R
 have hr := hk2
 refine q_ret (q_blockr (q_ret ?_))
 obtain rfl := so hr
 exact qF () (fun w s => (s.e 7 []))
 refine c_false R hb52 (c_skip (q_next ?_))
 obtain ⟨hg54, hr⟩ := gd hr
 refine c_region (lS R (lO (vFa 1 fo58_1 R) (lO (vLd 1 ag29 R R R) (lI R (lO (vIa sl29 sz3 R R hg47) (lO (vLi 3 ag3 sees_rd R hg47) (l_build (K := kT3) (xs := ([(ix l1.Ins i45)] : List Int)) (vs := [(iv (ix l1.Ins i45))]) 0 R R sl29 sz3 zc3 R R R R R R ?_ R (fun A53 D53 => ?_))))))))
 exact fun I h s => (mO3).list [((), (ix l1.Ins i45))] I h s
 refine lN (OO kT3 3 A53 D53 ([(ix l1.Ins i45)] : List Int) :: _ :: W1) ?_
 refine lM (ow _ _ _ _ :: ow _ _ _ _ :: W1) (fun w s => (s.e 2 [1, 0])) ?_
 refine l_app (K := kT3) 17592186044416 R R sl29 sz3 by3 (Zr.zk zT3 zc3) R R R R R R src_ow hg54 (fun A55 D55 => (lN (OO kT3 3 A55 D55 (given43 ++ ([(ix l1.Ins i45)] : List Int)) :: W1) ?_))
 refine lS R (l_nil (q_blockn (q_next (c_region (lI R (lO (vAd R R) (lI R (l_nil ?_))))))))
 obtain rfl := so hr
 exact qA (A55, (given43 ++ ([(ix l1.Ins i45)] : List Int)).length, D55) (fun w s => s)
 refine c_false R hb46 (c_exit (q_exit ?_))
 obtain rfl := so hr
 obtain rfl := he2 _ R
 have hr := hk2
 refine q_exit (q_block ?_)
 exact qI (given43, (A44, given43.length, D44)) hr (fun w s => s)
 rintro ⟨given59, ⟨A60, N60, D60⟩⟩ σ1 hr
 replace hr : spec_NestOk_J2 l1 given59 = some r := hr
 unfold spec_NestOk_J2 at hr
 refine c_len 0 sees_ow (fun (hn : N60 = given59.length) => ?_)
 subst hn
 refine c_seq (c_cut (A := ((List Int)) × (HH)) (fun a => spec_NestOk_J3 l1 a.1 = some r) (fun a => [(1, (pt b7 0)), (4, (.slice a.2.1 a.2.2.1 a.2.2.2))]) (fun a => ow kT3 3 (.slice a.2.1 a.2.2.1 a.2.2.2) a.1 :: W1) ?_ ?_)
 refine c_seq (c_region (lI R (l_nil (q_next (c_block ?_)))))
 obtain ⟨e3, hl3, hk3⟩ := bd hr
 refine c_loop (A := HH) hl3 (fun s a => [(1, (pt b7 0)), (4, (.slice a.1 a.2.1 a.2.2)), (6, (iv s.2))]) (fun s a => ow kT3 3 (.slice a.1 a.2.1 a.2.2) s.1 :: W1) (A60, given59.length, D60) (aS R) (fun w s => s) ?_
 rintro ⟨given82, i84⟩ ⟨A83, N83, D83⟩ σ1 out3 hr he3
 replace hr : spec_NestOk_L3 l1 given82 i84 = some out3 := hr
 unfold spec_NestOk_L3 at hr
 refine c_len 0 sees_ow (fun (hn : N83 = given82.length) => ?_)
 subst hn
 refine c_seq (c_seq (c_region (lI R (lO (vFa 2 fo58_2 R) (lO (vLd 1 ag55 R R R) (lO (v_len sl55 R) (lO (vLt R R) (l_nil (q_next ?_)))))))))
 rcases bif_ hr with ⟨hb85, hr⟩ | ⟨hb85, hr⟩
 refine c_true R hb85 (c_skip (q_next (c_seq (c_block (c_seq ?_)))))
 obtain ⟨hg86, hr⟩ := gd hr
 refine c_region (lO (vFa 2 fo58_2 R) (lO (vLd 1 ag55 R R R) (lI R (t_some 4 sees_rd (show 0 < l1.Fixed.length by have := hg86; omega) (fun g87 o88 ha => ?_)))))
 subst ha
 refine lO (vIa sl55 sz159 R R hg86) (lO (vz (.pointer (some ⟨g87, o88 + i84.toNat * 2, none⟩)) (v_fa fo159_0 R R)) (lO (vz (iv (ix l1.Fixed i84).Buffer) (v_lde (K := kT159) (fo := 0) (pr := fun x => (iv x.Buffer)) 4 i84 ag3 (dT159.leaf fun _ _ => R) sees_rd R hg86.1 hg86.2)) (lI R (l_nil (q_next (c_seq (c_seq ?_)))))))
 obtain ⟨r89, hx90, hr⟩ := bd hr
 obtain ⟨hg92, hr⟩ := gd hr
 obtain ⟨r95, hx96, hr⟩ := bd hr
 refine cQ [(1, (pt b7 0)), (4, (sc A83 given82 D83)), (6, (iv i84)), (7, (iv (ix l1.Fixed i84).Buffer)), (155, (.bool (((((decide ((ix l1.Fixed i84).Buffer < (0 : Int))) || (decide ((ix l1.Fixed i84).Buffer ≥ (l1.Sizes.length : Int)))) || r89) || ((((ix l1.Fixed i84).Data).length : Int) != (ix l1.Sizes (ix l1.Fixed i84).Buffer))) || ((decide ((((ix l1.Fixed i84).Data).length : Int) > (0 : Int))) && (!r95)))))] (OO kT3 3 A83 D83 given82 :: W1) ?_ ?_
 rcases bo (decide ((ix l1.Fixed i84).Buffer < (0 : Int))) with hc97 | hc97
 refine cdr 49 [] mixo (fun ht hn => (dR 0 R (vI R) (dR 1 R (vLt R R) (dR 2 R (vB R) (dF 3 R (wfT hc97) (dF 4 R (wfT hc97) (dF 5 R (wfT hc97) (dF 6 R (wfT hc97) (dF 7 R (wfT hc97) (dR 8 R (pOT (decide ((ix l1.Fixed i84).Buffer ≥ (l1.Sizes.length : Int))) R hc97) (dR 9 R (vB R) (dF 10 R (wfT (oT hc97)) (dF 11 R (wfT (oT hc97)) (dF 12 R (wfT (oT hc97)) (dR 13 R (pOT r89 R (oT hc97)) (dR 14 R (vB R) (dF 15 R (wfT (oT (oT hc97))) (dF 16 R (wfT (oT (oT hc97))) (dF 17 R (wfT (oT (oT hc97))) (dF 18 R (wfT (oT (oT hc97))) (dF 19 R (wfT (oT (oT hc97))) (dF 20 R (wfT (oT (oT hc97))) (dF 21 R (wfT (oT (oT hc97))) (dF 22 R (wfT (oT (oT hc97))) (dF 23 R (wfT (oT (oT hc97))) (dF 24 R (wfT (oT (oT hc97))) (dF 25 R (wfT (oT (oT hc97))) (dF 26 R (wfT (oT (oT hc97))) (dF 27 R (wfT (oT (oT hc97))) (dR 28 R (pOT ((((ix l1.Fixed i84).Data).length : Int) != (ix l1.Sizes (ix l1.Fixed i84).Buffer)) R (oT (oT hc97))) (dR 29 R (vB R) (dF 30 R (wfT (oT (oT (oT hc97)))) (dF 31 R (wfT (oT (oT (oT hc97)))) (dF 32 R (wfT (oT (oT (oT hc97)))) (dF 33 R (wfT (oT (oT (oT hc97)))) (dF 34 R (wfT (oT (oT (oT hc97)))) (dF 35 R (wfT (oT (oT (oT hc97)))) ?_)))))))))))))))))))))))))))))))))))))
 refine dF 36 R (wfT (oT (oT (oT hc97)))) (dF 37 R (wfT (oT (oT (oT hc97)))) (dF 38 R (wfT (oT (oT (oT hc97)))) (dF 39 R R (dF 40 R R (dF 41 R R (dF 42 R R (dF 43 R R (dF 44 R R (dF 45 R R (dF 46 R R (dF 47 R (wfT (oT (oT (oT hc97)))) (dR 48 R (pOT ((decide ((((ix l1.Fixed i84).Data).length : Int) > (0 : Int))) && (!r95)) R (oT (oT (oT hc97)))) (d_done (by kernel_rfl) ?_)))))))))))))
 exact qJ (fun w s => s)
 rcases bo ((decide ((ix l1.Fixed i84).Buffer < (0 : Int))) || (decide ((ix l1.Fixed i84).Buffer ≥ (l1.Sizes.length : Int)))) with hc98 | hc98
 refine cdr 49 [] mixo (fun ht hn => (dR 0 R (vI R) (dR 1 R (vLt R R) (dR 2 R (vB R) (dW 3 R (wnF hc97) (vI R) (dW 4 R (wnF hc97) (vFa 0 fo58_0 R) (dW 5 R (wnF hc97) (vLd 1 ag29 R R R) (dW 6 R (wnF hc97) (v_len sl29 R) (dW 7 R (wnF hc97) (vGe R R) (dR 8 R (pOF R hc97 R) (dR 9 R (vB R) (dF 10 R (wfT hc98) (dF 11 R (wfT hc98) (dF 12 R (wfT hc98) (dR 13 R (pOT r89 R hc98) (dR 14 R (vB R) (dF 15 R (wfT (oT hc98)) (dF 16 R (wfT (oT hc98)) (dF 17 R (wfT (oT hc98)) (dF 18 R (wfT (oT hc98)) (dF 19 R (wfT (oT hc98)) (dF 20 R (wfT (oT hc98)) (dF 21 R (wfT (oT hc98)) (dF 22 R (wfT (oT hc98)) (dF 23 R (wfT (oT hc98)) (dF 24 R (wfT (oT hc98)) (dF 25 R (wfT (oT hc98)) (dF 26 R (wfT (oT hc98)) (dF 27 R (wfT (oT hc98)) (dR 28 R (pOT ((((ix l1.Fixed i84).Data).length : Int) != (ix l1.Sizes (ix l1.Fixed i84).Buffer)) R (oT hc98)) (dR 29 R (vB R) (dF 30 R (wfT (oT (oT hc98))) (dF 31 R (wfT (oT (oT hc98))) (dF 32 R (wfT (oT (oT hc98))) (dF 33 R (wfT (oT (oT hc98))) (dF 34 R (wfT (oT (oT hc98))) (dF 35 R (wfT (oT (oT hc98))) (dF 36 R (wfT (oT (oT hc98))) (dF 37 R (wfT (oT (oT hc98))) (dF 38 R (wfT (oT (oT hc98))) (dF 39 R R (dF 40 R R ?_))))))))))))))))))))))))))))))))))))))))))
 refine dF 41 R R (dF 42 R R (dF 43 R R (dF 44 R R (dF 45 R R (dF 46 R R (dF 47 R (wfT (oT (oT hc98))) (dR 48 R (pOT ((decide ((((ix l1.Fixed i84).Data).length : Int) > (0 : Int))) && (!r95)) R (oT (oT hc98))) (d_done (by kernel_rfl) ?_))))))))
 exact qJ (fun w s => s)
 rcases bo (((decide ((ix l1.Fixed i84).Buffer < (0 : Int))) || (decide ((ix l1.Fixed i84).Buffer ≥ (l1.Sizes.length : Int)))) || r89) with hc99 | hc99
 refine cdr 49 [] mixo (fun ht hn => (dR 0 R (vI R) (dR 1 R (vLt R R) (dR 2 R (vB R) (dW 3 R (wnF hc97) (vI R) (dW 4 R (wnF hc97) (vFa 0 fo58_0 R) (dW 5 R (wnF hc97) (vLd 1 ag29 R R R) (dW 6 R (wnF hc97) (v_len sl29 R) (dW 7 R (wnF hc97) (vGe R R) (dR 8 R (pOF R hc97 R) (dR 9 R (vB R) (dW 10 R (wnF hc98) (vS R) (dW 11 R (wnF hc98) (vI R) (d_one 12 (by kernel_rfl) R (l_calln 1 R (wnF hc98) cb117 R (FnOk.lends (A' := [OO kT3 3 A83 D83 given82]) (A := [RR kT3 A83 D83 given82]) (B := []) (spec_l7Has_ok (gcall_t hx90 (not_ff hc98))) ⟨lend_ow, trivial⟩ (fun _ => trivial)) R ?_)))))))))))))))
 rintro _
 refine lN (OO kT3 3 A83 D83 given82 :: W1) ?_
 refine l_nil (q_draw (sL []) (dR 13 R (pOF R hc98 R) (dR 14 R (vB R) (dF 15 R (wfT hc99) (dF 16 R (wfT hc99) (dF 17 R (wfT hc99) (dF 18 R (wfT hc99) (dF 19 R (wfT hc99) (dF 20 R (wfT hc99) (dF 21 R (wfT hc99) (dF 22 R (wfT hc99) (dF 23 R (wfT hc99) (dF 24 R (wfT hc99) (dF 25 R (wfT hc99) (dF 26 R (wfT hc99) (dF 27 R (wfT hc99) (dR 28 R (pOT ((((ix l1.Fixed i84).Data).length : Int) != (ix l1.Sizes (ix l1.Fixed i84).Buffer)) R hc99) (dR 29 R (vB R) (dF 30 R (wfT (oT hc99)) (dF 31 R (wfT (oT hc99)) (dF 32 R (wfT (oT hc99)) (dF 33 R (wfT (oT hc99)) (dF 34 R (wfT (oT hc99)) (dF 35 R (wfT (oT hc99)) (dF 36 R (wfT (oT hc99)) (dF 37 R (wfT (oT hc99)) (dF 38 R (wfT (oT hc99)) (dF 39 R R (dF 40 R R (dF 41 R R (dF 42 R R (dF 43 R R (dF 44 R R (dF 45 R R (dF 46 R R (dF 47 R (wfT (oT hc99)) (dR 48 R (pOT ((decide ((((ix l1.Fixed i84).Data).length : Int) > (0 : Int))) && (!r95)) R (oT hc99)) (d_done (by kernel_rfl) ?_))))))))))))))))))))))))))))))))))))))
 exact qJ (fun w s => s)
 rcases bo ((((decide ((ix l1.Fixed i84).Buffer < (0 : Int))) || (decide ((ix l1.Fixed i84).Buffer ≥ (l1.Sizes.length : Int)))) || r89) || ((((ix l1.Fixed i84).Data).length : Int) != (ix l1.Sizes (ix l1.Fixed i84).Buffer))) with hc100 | hc100
 refine c_elem (K := kT159) 4 i84 dT159.dec R hg86.1 hg86.2 ?_
 rintro ⟨-, ⟨A91, D91⟩⟩
 refine cN (cl g87 (o88 + i84.toNat * 2) [(iv (ix l1.Fixed i84).Buffer), (sc A91 ((ix l1.Fixed i84).Data) D91)] :: RR kT3 A91 D91 ((ix l1.Fixed i84).Data) :: _ :: W1) ?_
 refine c_some 4 sees_rd (show 0 < l1.Sizes.length by have := (hg92 hc99); omega) (fun g93 o94 ha => ?_)
 subst ha
 refine cdr 49 [] mixo (fun ht hn => (dR 0 R (vI R) (dR 1 R (vLt R R) (dR 2 R (vB R) (dW 3 R (wnF hc97) (vI R) (dW 4 R (wnF hc97) (vFa 0 fo58_0 R) (dW 5 R (wnF hc97) (vLd 3 ag29 R R R) (dW 6 R (wnF hc97) (v_len sl29 R) (dW 7 R (wnF hc97) (vGe R R) (dR 8 R (pOF R hc97 R) (dR 9 R (vB R) (dW 10 R (wnF hc98) (vS R) (dW 11 R (wnF hc98) (vI R) (d_one 12 (by kernel_rfl) R (lM (ow _ _ _ _ :: cl _ _ _ :: rds _ _ _ :: W1) (fun w s => (s.e 3 [2, 0, 1])) ?_)))))))))))))))
 refine l_calln 1 R (wnF hc98) cb117 R (FnOk.lends (A' := [OO kT3 3 A83 D83 given82]) (A := [RR kT3 A83 D83 given82]) (B := []) (spec_l7Has_ok (gcall_t hx90 (not_ff hc98))) ⟨lend_ow, trivial⟩ (fun _ => trivial)) R ?_
 rintro _
 refine l_nil (q_draw (fun w s => (s.e 3 [1, 2, 0])) (dR 13 R (pOF R hc98 R) (hS := (fun w s => (s.e 3 [1, 2, 0]))) (dR 14 R (vB R) (hS := (fun w s => (s.e 3 [1, 2, 0]))) (dW 15 R (wnF hc99) (vFa 2 fo58_2 R) (hS := (fun w s => (s.e 3 [1, 2, 0]))) (dW 16 R (wnF hc99) (vLd 3 ag55 R R R) (hS := (fun w s => (s.e 3 [1, 2, 0]))) (dW 17 R (wnF hc99) (vI R) (hS := (fun w s => (s.e 3 [1, 2, 0]))) (dW 18 R (wnF hc99) (vIa sl55 sz159 R R hg86) (hS := (fun w s => (s.e 3 [1, 2, 0]))) (dW 19 R (wnF hc99) (vz (.pointer (some ⟨g87, o88 + i84.toNat * 2 + 1, none⟩)) (v_fa fo159_1 R R)) (hS := (fun w s => (s.e 3 [1, 2, 0]))) (dW 20 R (wnF hc99) (v_clf (fo := 1) 0 ag29 R R R) (hS := (fun w s => (s.e 3 [1, 2, 0]))) (dW 21 R (wnF hc99) (v_len sl29 R) (hS := (fun w s => (s.e 3 [1, 2, 0]))) (dW 22 R (wnF hc99) (vFa 0 fo58_0 R) (hS := (fun w s => (s.e 3 [1, 2, 0]))) (dW 23 R (wnF hc99) (vLd 3 ag29 R R R) (hS := (fun w s => (s.e 3 [1, 2, 0]))) (dW 24 R (wnF hc99) (vI R) (hS := (fun w s => (s.e 3 [1, 2, 0]))) (dW 25 R (wnF hc99) (vIa sl29 sz3 R R (hg92 hc99)) (hS := (fun w s => (s.e 3 [1, 2, 0]))) ?_))))))))))))))
 refine dW 26 R (wnF hc99) (vLi 4 ag3 sees_rd R (hg92 hc99)) (hS := (fun w s => (s.e 3 [1, 2, 0]))) (dW 27 R (wnF hc99) (vNe R R) (hS := (fun w s => (s.e 3 [1, 2, 0]))) (dR 28 R (pOF R hc99 R) (hS := (fun w s => (s.e 3 [1, 2, 0]))) (dR 29 R (vB R) (hS := (fun w s => (s.e 3 [1, 2, 0]))) (dF 30 R (wfT hc100) (hS := (fun w s => (s.e 3 [1, 2, 0]))) (dF 31 R (wfT hc100) (hS := (fun w s => (s.e 3 [1, 2, 0]))) (dF 32 R (wfT hc100) (hS := (fun w s => (s.e 3 [1, 2, 0]))) (dF 33 R (wfT hc100) (hS := (fun w s => (s.e 3 [1, 2, 0]))) (dF 34 R (wfT hc100) (hS := (fun w s => (s.e 3 [1, 2, 0]))) (dF 35 R (wfT hc100) (hS := (fun w s => (s.e 3 [1, 2, 0]))) (dF 36 R (wfT hc100) (hS := (fun w s => (s.e 3 [1, 2, 0]))) (dF 37 R (wfT hc100) (hS := (fun w s => (s.e 3 [1, 2, 0]))) (dF 38 R (wfT hc100) (hS := (fun w s => (s.e 3 [1, 2, 0]))) (dF 39 R R (hS := (fun w s => (s.e 3 [1, 2, 0]))) (dF 40 R R (hS := (fun w s => (s.e 3 [1, 2, 0]))) (dF 41 R R (hS := (fun w s => (s.e 3 [1, 2, 0]))) (dF 42 R R (hS := (fun w s => (s.e 3 [1, 2, 0]))) (dF 43 R R (hS := (fun w s => (s.e 3 [1, 2, 0]))) (dF 44 R R (hS := (fun w s => (s.e 3 [1, 2, 0]))) ?_))))))))))))))))))
 refine dF 45 R R (hS := (fun w s => (s.e 3 [1, 2, 0]))) (dF 46 R R (hS := (fun w s => (s.e 3 [1, 2, 0]))) (dF 47 R (wfT hc100) (hS := (fun w s => (s.e 3 [1, 2, 0]))) (dR 48 R (pOT ((decide ((((ix l1.Fixed i84).Data).length : Int) > (0 : Int))) && (!r95)) R hc100) (hS := (fun w s => (s.e 3 [1, 2, 0]))) (d_done (by kernel_rfl) ?_))))
 exact qJ (fun w s => (s.e 3 [0]))
 rcases bo (decide ((((ix l1.Fixed i84).Data).length : Int) > (0 : Int))) with hc101 | hc101
 refine c_elem (K := kT159) 4 i84 dT159.dec R hg86.1 hg86.2 ?_
 rintro ⟨-, ⟨A91, D91⟩⟩
 refine c_some 4 sees_rd (show 0 < l1.Sizes.length by have := (hg92 hc99); omega) (fun g93 o94 ha => ?_)
 subst ha
 refine cdr 49 [] mixo (fun ht hn => (dR 0 R (vI R) (dR 1 R (vLt R R) (dR 2 R (vB R) (dW 3 R (wnF hc97) (vI R) (dW 4 R (wnF hc97) (vFa 0 fo58_0 R) (dW 5 R (wnF hc97) (vLd 3 ag29 R R R) (dW 6 R (wnF hc97) (v_len sl29 R) (dW 7 R (wnF hc97) (vGe R R) (dR 8 R (pOF R hc97 R) (dR 9 R (vB R) (dW 10 R (wnF hc98) (vS R) (dW 11 R (wnF hc98) (vI R) (d_one 12 (by kernel_rfl) R (lM (ow _ _ _ _ :: cl _ _ _ :: rds _ _ _ :: W1) (fun w s => (s.e 3 [2, 0, 1])) ?_)))))))))))))))
 refine l_calln 1 R (wnF hc98) cb117 R (FnOk.lends (A' := [OO kT3 3 A83 D83 given82]) (A := [RR kT3 A83 D83 given82]) (B := []) (spec_l7Has_ok (gcall_t hx90 (not_ff hc98))) ⟨lend_ow, trivial⟩ (fun _ => trivial)) R ?_
 rintro _
 refine l_nil (q_draw (fun w s => (s.e 3 [1, 2, 0])) (dR 13 R (pOF R hc98 R) (hS := (fun w s => (s.e 3 [1, 2, 0]))) (dR 14 R (vB R) (hS := (fun w s => (s.e 3 [1, 2, 0]))) (dW 15 R (wnF hc99) (vFa 2 fo58_2 R) (hS := (fun w s => (s.e 3 [1, 2, 0]))) (dW 16 R (wnF hc99) (vLd 3 ag55 R R R) (hS := (fun w s => (s.e 3 [1, 2, 0]))) (dW 17 R (wnF hc99) (vI R) (hS := (fun w s => (s.e 3 [1, 2, 0]))) (dW 18 R (wnF hc99) (vIa sl55 sz159 R R hg86) (hS := (fun w s => (s.e 3 [1, 2, 0]))) (dW 19 R (wnF hc99) (vz (.pointer (some ⟨g87, o88 + i84.toNat * 2 + 1, none⟩)) (v_fa fo159_1 R R)) (hS := (fun w s => (s.e 3 [1, 2, 0]))) (dW 20 R (wnF hc99) (v_clf (fo := 1) 0 ag29 R R R) (hS := (fun w s => (s.e 3 [1, 2, 0]))) (dW 21 R (wnF hc99) (v_len sl29 R) (hS := (fun w s => (s.e 3 [1, 2, 0]))) (dW 22 R (wnF hc99) (vFa 0 fo58_0 R) (hS := (fun w s => (s.e 3 [1, 2, 0]))) (dW 23 R (wnF hc99) (vLd 3 ag29 R R R) (hS := (fun w s => (s.e 3 [1, 2, 0]))) (dW 24 R (wnF hc99) (vI R) (hS := (fun w s => (s.e 3 [1, 2, 0]))) (dW 25 R (wnF hc99) (vIa sl29 sz3 R R (hg92 hc99)) (hS := (fun w s => (s.e 3 [1, 2, 0]))) ?_))))))))))))))
 refine dW 26 R (wnF hc99) (vLi 4 ag3 sees_rd R (hg92 hc99)) (hS := (fun w s => (s.e 3 [1, 2, 0]))) (dW 27 R (wnF hc99) (vNe R R) (hS := (fun w s => (s.e 3 [1, 2, 0]))) (dR 28 R (pOF R hc99 R) (hS := (fun w s => (s.e 3 [1, 2, 0]))) (dR 29 R (vB R) (hS := (fun w s => (s.e 3 [1, 2, 0]))) (dW 30 R (wnF hc100) (vFa 2 fo58_2 R) (hS := (fun w s => (s.e 3 [1, 2, 0]))) (dW 31 R (wnF hc100) (vLd 3 ag55 R R R) (hS := (fun w s => (s.e 3 [1, 2, 0]))) (dW 32 R (wnF hc100) (vI R) (hS := (fun w s => (s.e 3 [1, 2, 0]))) (dW 33 R (wnF hc100) (vIa sl55 sz159 R R hg86) (hS := (fun w s => (s.e 3 [1, 2, 0]))) (dW 34 R (wnF hc100) (vz (.pointer (some ⟨g87, o88 + i84.toNat * 2 + 1, none⟩)) (v_fa fo159_1 R R)) (hS := (fun w s => (s.e 3 [1, 2, 0]))) (dW 35 R (wnF hc100) (v_clf (fo := 1) 0 ag29 R R R) (hS := (fun w s => (s.e 3 [1, 2, 0]))) (dW 36 R (wnF hc100) (v_len sl29 R) (hS := (fun w s => (s.e 3 [1, 2, 0]))) (dW 37 R (wnF hc100) (vGt R R) (hS := (fun w s => (s.e 3 [1, 2, 0]))) (dW 38 R (wnF hc100) (vB R) (hS := (fun w s => (s.e 3 [1, 2, 0]))) (dW 39 R (wnT hc101) (vFa 2 fo58_2 R) (hS := (fun w s => (s.e 3 [1, 2, 0]))) ?_)))))))))))))
 refine dW 40 R (wnT hc101) (vLd 3 ag55 R R R) (hS := (fun w s => (s.e 3 [1, 2, 0]))) (dW 41 R (wnT hc101) (vI R) (hS := (fun w s => (s.e 3 [1, 2, 0]))) (dW 42 R (wnT hc101) (vIa sl55 sz159 R R hg86) (hS := (fun w s => (s.e 3 [1, 2, 0]))) (dW 43 R (wnT hc101) (vz (.pointer (some ⟨g87, o88 + i84.toNat * 2 + 1, none⟩)) (v_fa fo159_1 R R)) (hS := (fun w s => (s.e 3 [1, 2, 0]))) (dW 44 R (wnT hc101) (v_clf (fo := 1) 0 ag29 R R R) (hS := (fun w s => (s.e 3 [1, 2, 0]))) (d_one 45 (by kernel_rfl) R (lM (_ :: _ :: _ :: _ :: W1) (fun w s => (s.d 2 R)) ?_))))))
 refine l_calln 1 R (wnT hc101) cb118 R (spec_l5RowOk_ok (gcall_t hx96 (and_tt (not_ff hc100) hc101))) R ?_
 rintro _
 refine lN (_ :: _ :: _ :: W1) ?_
 refine l_nil (q_draw (fun w s => (s.e 3 [1, 2, 0])) (dW 46 R (wnT hc101) (vNo R) (hS := (fun w s => (s.e 3 [1, 2, 0]))) (dW 47 R (wnF hc100) (pAT R hc101 R) (hS := (fun w s => (s.e 3 [1, 2, 0]))) (dR 48 R (pOF R hc100 R) (hS := (fun w s => (s.e 3 [1, 2, 0]))) (d_done (by kernel_rfl) ?_)))))
 exact qJ (fun w s => (s.e 3 [0]))
 refine c_elem (K := kT159) 4 i84 dT159.dec R hg86.1 hg86.2 ?_
 rintro ⟨-, ⟨A91, D91⟩⟩
 refine c_some 4 sees_rd (show 0 < l1.Sizes.length by have := (hg92 hc99); omega) (fun g93 o94 ha => ?_)
 subst ha
 refine cdr 49 [] mixo (fun ht hn => (dR 0 R (vI R) (dR 1 R (vLt R R) (dR 2 R (vB R) (dW 3 R (wnF hc97) (vI R) (dW 4 R (wnF hc97) (vFa 0 fo58_0 R) (dW 5 R (wnF hc97) (vLd 3 ag29 R R R) (dW 6 R (wnF hc97) (v_len sl29 R) (dW 7 R (wnF hc97) (vGe R R) (dR 8 R (pOF R hc97 R) (dR 9 R (vB R) (dW 10 R (wnF hc98) (vS R) (dW 11 R (wnF hc98) (vI R) (d_one 12 (by kernel_rfl) R (lM (ow _ _ _ _ :: cl _ _ _ :: rds _ _ _ :: W1) (fun w s => (s.e 3 [2, 0, 1])) ?_)))))))))))))))
 refine l_calln 1 R (wnF hc98) cb117 R (FnOk.lends (A' := [OO kT3 3 A83 D83 given82]) (A := [RR kT3 A83 D83 given82]) (B := []) (spec_l7Has_ok (gcall_t hx90 (not_ff hc98))) ⟨lend_ow, trivial⟩ (fun _ => trivial)) R ?_
 rintro _
 refine l_nil (q_draw (fun w s => (s.e 3 [1, 2, 0])) (dR 13 R (pOF R hc98 R) (hS := (fun w s => (s.e 3 [1, 2, 0]))) (dR 14 R (vB R) (hS := (fun w s => (s.e 3 [1, 2, 0]))) (dW 15 R (wnF hc99) (vFa 2 fo58_2 R) (hS := (fun w s => (s.e 3 [1, 2, 0]))) (dW 16 R (wnF hc99) (vLd 3 ag55 R R R) (hS := (fun w s => (s.e 3 [1, 2, 0]))) (dW 17 R (wnF hc99) (vI R) (hS := (fun w s => (s.e 3 [1, 2, 0]))) (dW 18 R (wnF hc99) (vIa sl55 sz159 R R hg86) (hS := (fun w s => (s.e 3 [1, 2, 0]))) (dW 19 R (wnF hc99) (vz (.pointer (some ⟨g87, o88 + i84.toNat * 2 + 1, none⟩)) (v_fa fo159_1 R R)) (hS := (fun w s => (s.e 3 [1, 2, 0]))) (dW 20 R (wnF hc99) (v_clf (fo := 1) 0 ag29 R R R) (hS := (fun w s => (s.e 3 [1, 2, 0]))) (dW 21 R (wnF hc99) (v_len sl29 R) (hS := (fun w s => (s.e 3 [1, 2, 0]))) (dW 22 R (wnF hc99) (vFa 0 fo58_0 R) (hS := (fun w s => (s.e 3 [1, 2, 0]))) (dW 23 R (wnF hc99) (vLd 3 ag29 R R R) (hS := (fun w s => (s.e 3 [1, 2, 0]))) (dW 24 R (wnF hc99) (vI R) (hS := (fun w s => (s.e 3 [1, 2, 0]))) (dW 25 R (wnF hc99) (vIa sl29 sz3 R R (hg92 hc99)) (hS := (fun w s => (s.e 3 [1, 2, 0]))) ?_))))))))))))))
 refine dW 26 R (wnF hc99) (vLi 4 ag3 sees_rd R (hg92 hc99)) (hS := (fun w s => (s.e 3 [1, 2, 0]))) (dW 27 R (wnF hc99) (vNe R R) (hS := (fun w s => (s.e 3 [1, 2, 0]))) (dR 28 R (pOF R hc99 R) (hS := (fun w s => (s.e 3 [1, 2, 0]))) (dR 29 R (vB R) (hS := (fun w s => (s.e 3 [1, 2, 0]))) (dW 30 R (wnF hc100) (vFa 2 fo58_2 R) (hS := (fun w s => (s.e 3 [1, 2, 0]))) (dW 31 R (wnF hc100) (vLd 3 ag55 R R R) (hS := (fun w s => (s.e 3 [1, 2, 0]))) (dW 32 R (wnF hc100) (vI R) (hS := (fun w s => (s.e 3 [1, 2, 0]))) (dW 33 R (wnF hc100) (vIa sl55 sz159 R R hg86) (hS := (fun w s => (s.e 3 [1, 2, 0]))) (dW 34 R (wnF hc100) (vz (.pointer (some ⟨g87, o88 + i84.toNat * 2 + 1, none⟩)) (v_fa fo159_1 R R)) (hS := (fun w s => (s.e 3 [1, 2, 0]))) (dW 35 R (wnF hc100) (v_clf (fo := 1) 0 ag29 R R R) (hS := (fun w s => (s.e 3 [1, 2, 0]))) (dW 36 R (wnF hc100) (v_len sl29 R) (hS := (fun w s => (s.e 3 [1, 2, 0]))) (dW 37 R (wnF hc100) (vGt R R) (hS := (fun w s => (s.e 3 [1, 2, 0]))) (dW 38 R (wnF hc100) (vB R) (hS := (fun w s => (s.e 3 [1, 2, 0]))) (dF 39 R (wfF hc101) (hS := (fun w s => (s.e 3 [1, 2, 0]))) (dF 40 R (wfF hc101) (hS := (fun w s => (s.e 3 [1, 2, 0]))) ?_))))))))))))))
 refine dF 41 R (wfF hc101) (hS := (fun w s => (s.e 3 [1, 2, 0]))) (dF 42 R (wfF hc101) (hS := (fun w s => (s.e 3 [1, 2, 0]))) (dF 43 R (wfF hc101) (hS := (fun w s => (s.e 3 [1, 2, 0]))) (dF 44 R (wfF hc101) (hS := (fun w s => (s.e 3 [1, 2, 0]))) (dF 45 R (wfF hc101) (hS := (fun w s => (s.e 3 [1, 2, 0]))) (dF 46 R (wfF hc101) (hS := (fun w s => (s.e 3 [1, 2, 0]))) (dW 47 R (wnF hc100) (pAF (!r95) R hc101) (hS := (fun w s => (s.e 3 [1, 2, 0]))) (dR 48 R (pOF R hc100 R) (hS := (fun w s => (s.e 3 [1, 2, 0]))) (d_done (by kernel_rfl) ?_))))))))
 exact qJ (fun w s => (s.e 3 [0]))
 rintro σ1
 refine q_next ?_
 rcases bif_ hr with ⟨hb102, hr⟩ | ⟨hb102, hr⟩
 refine c_true R hb102 (c_seq (c_region (lB R (l_nil (q_next (c_ret (q_ret (q_blockr (q_ret ?_)))))))))
 obtain rfl := so hr
 obtain rfl := he3 _ R
 have hr := hk3
 refine q_ret (q_blockr (q_ret ?_))
 obtain rfl := so hr
 exact qF () (fun w s => (s.e 7 []))
 refine c_false R hb102 (c_skip (q_next ?_))
 obtain ⟨hg104, hr⟩ := gd hr
 refine c_region (lS R (lI R (l_build (K := kT3) (xs := ([(ix l1.Fixed i84).Buffer] : List Int)) (vs := [(iv (ix l1.Fixed i84).Buffer)]) 0 R R sl29 sz3 zc3 R R R R R R ?_ R (fun A103 D103 => ?_))))
 exact fun I h s => (mO3).list [((), (ix l1.Fixed i84).Buffer)] I h s
 refine lN (OO kT3 3 A103 D103 ([(ix l1.Fixed i84).Buffer] : List Int) :: _ :: W1) ?_
 refine lM (ow _ _ _ _ :: ow _ _ _ _ :: W1) (fun w s => (s.e 2 [1, 0])) ?_
 refine l_app (K := kT3) 17592186044416 R R sl29 sz3 by3 (Zr.zk zT3 zc3) R R R R R R src_ow hg104 (fun A105 D105 => (lN (OO kT3 3 A105 D105 (given82 ++ ([(ix l1.Fixed i84).Buffer] : List Int)) :: W1) ?_))
 refine lS R (l_nil (q_blockn (q_next (c_region (lI R (lO (vAd R R) (lI R (l_nil ?_))))))))
 obtain rfl := so hr
 exact qA (A105, (given82 ++ ([(ix l1.Fixed i84).Buffer] : List Int)).length, D105) (fun w s => s)
 refine c_false R hb85 (c_exit (q_exit ?_))
 obtain rfl := so hr
 obtain rfl := he3 _ R
 have hr := hk3
 refine q_exit (q_block ?_)
 exact qI (given82, (A83, given82.length, D83)) hr (fun w s => s)
 rintro ⟨given109, ⟨A110, N110, D110⟩⟩ σ1 hr
 replace hr : spec_NestOk_J3 l1 given109 = some r := hr
 unfold spec_NestOk_J3 at hr
 refine c_len 0 sees_ow (fun (hn : N110 = given109.length) => ?_)
 subst hn
 refine c_seq (c_region (lI R (l_nil (q_next (c_seq (c_cut (A := (Int) × (Unit)) (fun a => spec_NestOk_J4 a.1 = some r) (fun a => [(8, (iv a.1))]) (fun a => W1) ?_ ?_))))))
 refine c_seq (c_region (lI R (l_nil (q_next (c_block ?_)))))
 obtain ⟨e4, hl4, hk4⟩ := bd hr
 refine c_loop (A := Unit) hl4 (fun s a => [(1, (pt b7 0)), (4, (sc A110 given109 D110)), (8, (iv s.1)), (9, (iv s.2))]) (fun s a => OO kT3 3 A110 D110 given109 :: W1) () (aS R) (fun w s => s) ?_
 rintro ⟨all133, i134⟩ _ σ1 out4 hr he4
 replace hr : spec_NestOk_L4 l1 given109 all133 i134 = some out4 := hr
 unfold spec_NestOk_L4 at hr
 refine c_seq (c_seq (c_region (lI R (lO (vFa 3 fo58_3 R) (lO (vLd 1 ag56 R R R) (lO (v_len sl56 R) (lO (vLt R R) (l_nil (q_next ?_)))))))))
 rcases bif_ hr with ⟨hb135, hr⟩ | ⟨hb135, hr⟩
 refine c_true R hb135 (c_skip (q_next (c_seq (c_block (c_seq (c_seq ?_))))))
 obtain ⟨hg136, hr⟩ := gd hr
 obtain ⟨r143, hx144, hr⟩ := bd hr
 obtain ⟨r145, hx146, hr⟩ := bd hr
 refine cQ [(1, (pt b7 0)), (4, (sc A110 given109 D110)), (8, (iv all133)), (9, (iv i134)), (186, (.bool ((!r143) || r145)))] (OO kT3 3 A110 D110 given109 :: W1) ?_ ?_
 rcases bo (!r143) with hc147 | hc147
 refine c_some 5 sees_rd (show 0 < l1.Kernels.length by have := hg136; omega) (fun g137 o138 ha => ?_)
 subst ha
 refine c_elem (K := kT127) 5 i134 dT127.dec R hg136.1 hg136.2 ?_
 rintro ⟨⟨A139, D139⟩, ⟨A140, D140⟩, ⟨-, -, ⟨A141, D141⟩⟩, -, ⟨A142, D142⟩⟩
 refine cN (cl g137 (o138 + i134.toNat * 7) [(sc A139 ((ix l1.Kernels i134).Loops) D139), (sc A140 ((ix l1.Kernels i134).Loads) D140), (iv (ix l1.Kernels i134).Store.Buffer), (iv (ix l1.Kernels i134).Store.Offset), (sc A141 ((ix l1.Kernels i134).Store.Steps) D141), (.bool (ix l1.Kernels i134).Sum), (sc A142 ((ix l1.Kernels i134).Code) D142)] :: RR kT3 A139 D139 ((ix l1.Kernels i134).Loops) :: RR kT124 A140 D140 ((ix l1.Kernels i134).Loads) :: RR kT3 A141 D141 ((ix l1.Kernels i134).Store.Steps) :: RR kT216 A142 D142 ((ix l1.Kernels i134).Code) :: OO kT3 3 A110 D110 given109 :: W1) ?_
 refine cdr 20 [] mixo (fun ht hn => (dR 0 R (vFa 3 fo58_3 R) (dR 1 R (vLd 6 ag56 R R R) (dR 2 R (vI R) (dR 3 R (vIa sl56 sz127 R R hg136) (dR 4 R (vz (.agg [(sc A139 ((ix l1.Kernels i134).Loops) D139), (sc A140 ((ix l1.Kernels i134).Loads) D140), (iv (ix l1.Kernels i134).Store.Buffer), (iv (ix l1.Kernels i134).Store.Offset), (sc A141 ((ix l1.Kernels i134).Store.Steps) D141), (.bool (ix l1.Kernels i134).Sum), (sc A142 ((ix l1.Kernels i134).Code) D142)].toArray) (v_clfs (fo := 0) 0 ag127 sz127 R R R R)) (dR 5 R (vFa 0 fo58_0 R) (dR 6 R (vLd 6 ag29 R R R) (d_one 7 (by kernel_rfl) R (lM (rds _ _ _ :: rds _ _ _ :: rds _ _ _ :: rds _ _ _ :: RR kT3 A2 D2 l1.Sizes :: cl _ _ _ :: rds _ _ _ :: rds _ _ _ :: rds _ _ _ :: rds _ _ _ :: ow _ _ _ _ :: W1) (fun w s => ((((((s.d 1 R).d 3 R).d 5 R).d 7 R).d 11 R).e 11 [4, 3, 2, 1, 0, 5, 6, 7, 8, 9, 10])) ?_))))))))))
 refine lC 5 cb119 R (spec_l11Kernel_ok hx144) R ?_
 rintro _
 refine lN (_ :: _ :: _ :: _ :: _ :: _ :: W1) ?_
 refine l_nil (q_draw (sL []) (dR 8 R (vNo R) (dR 9 R (vB R) (dF 10 R (wfT hc147) (dF 11 R (wfT hc147) (dF 12 R (wfT hc147) (dF 13 R (wfT hc147) (dF 14 R (wfT hc147) (dF 15 R (wfT hc147) (dF 16 R (wfT hc147) (dF 17 R (wfT hc147) (dF 18 R (wfT hc147) (dR 19 R (pOT r145 R hc147) (d_done (by kernel_rfl) ?_))))))))))))))
 exact qJ (fun w s => (s.e 6 [5]))
 refine c_some 5 sees_rd (show 0 < l1.Kernels.length by have := hg136; omega) (fun g137 o138 ha => ?_)
 subst ha
 refine c_elem (K := kT127) 5 i134 dT127.dec R hg136.1 hg136.2 ?_
 rintro ⟨⟨A139, D139⟩, ⟨A140, D140⟩, ⟨-, -, ⟨A141, D141⟩⟩, -, ⟨A142, D142⟩⟩
 refine cdr 20 [] mixo (fun ht hn => (dR 0 R (vFa 3 fo58_3 R) (dR 1 R (vLd 6 ag56 R R R) (dR 2 R (vI R) (dR 3 R (vIa sl56 sz127 R R hg136) (dR 4 R (vz (.agg [(sc A139 ((ix l1.Kernels i134).Loops) D139), (sc A140 ((ix l1.Kernels i134).Loads) D140), (iv (ix l1.Kernels i134).Store.Buffer), (iv (ix l1.Kernels i134).Store.Offset), (sc A141 ((ix l1.Kernels i134).Store.Steps) D141), (.bool (ix l1.Kernels i134).Sum), (sc A142 ((ix l1.Kernels i134).Code) D142)].toArray) (v_clfs (fo := 0) 0 ag127 sz127 R R R R)) (dR 5 R (vFa 0 fo58_0 R) (dR 6 R (vLd 6 ag29 R R R) (d_one 7 (by kernel_rfl) R (lM (rds _ _ _ :: rds _ _ _ :: rds _ _ _ :: rds _ _ _ :: RR kT3 A2 D2 l1.Sizes :: cl _ _ _ :: rds _ _ _ :: rds _ _ _ :: rds _ _ _ :: rds _ _ _ :: ow _ _ _ _ :: W1) (fun w s => ((((((s.d 1 R).d 3 R).d 5 R).d 7 R).d 11 R).e 11 [4, 3, 2, 1, 0, 5, 6, 7, 8, 9, 10])) ?_))))))))))
 refine lC 5 cb119 R (spec_l11Kernel_ok hx144) R ?_
 rintro _
 refine lN (_ :: _ :: _ :: _ :: _ :: _ :: W1) ?_
 refine l_nil (q_draw (sL []) (dR 8 R (vNo R) (dR 9 R (vB R) (dW 10 R (wnF hc147) (vS R) (dW 11 R (wnF hc147) (vFa 3 fo58_3 R) (dW 12 R (wnF hc147) (vLd 6 ag56 R R R) (dW 13 R (wnF hc147) (vI R) (dW 14 R (wnF hc147) (vIa sl56 sz127 R R hg136) (dW 15 R (wnF hc147) (vz (.pointer (some ⟨g137, o138 + i134.toNat * 7 + 2, none⟩)) (v_fa fo127_2 R R)) (dW 16 R (wnF hc147) (vz (.pointer (some ⟨g137, o138 + i134.toNat * 7 + 2, none⟩)) (v_fa fo124_0 R R)) (dW 17 R (wnF hc147) (vz (iv (ix l1.Kernels i134).Store.Buffer) (v_lde (K := kT127) (fo := 2) (pr := fun x => (iv x.Store.Buffer)) 10 i134 ag3 (dT127.leaf fun _ _ => R) sees_rd R hg136.1 hg136.2)) (d_one 18 (by kernel_rfl) R (lM (ow _ _ _ _ :: cl _ _ _ :: rds _ _ _ :: rds _ _ _ :: rds _ _ _ :: rds _ _ _ :: W1) (fun w s => (s.f 6 [5, 1, 0, 5])) ?_)))))))))))))
 refine l_calln 1 R (wnF hc147) cb117 R (FnOk.lends (A' := [OO kT3 3 A110 D110 given109]) (A := [RR kT3 A110 D110 given109]) (B := []) (spec_l7Has_ok (gcall_t hx146 (not_ff hc147))) ⟨lend_ow, trivial⟩ (fun _ => trivial)) R ?_
 rintro _
 refine l_nil (q_draw (fun w s => (s.f 6 [1, 5, 0, 1])) (dR 19 R (pOF R hc147 R) (hS := (fun w s => (s.f 6 [1, 5, 0, 1]))) (d_done (by kernel_rfl) ?_)))
 exact qJ (fun w s => (s.e 6 [0]))
 rintro σ1
 refine q_next ?_
 rcases bif_ hr with ⟨hb148, hr⟩ | ⟨hb148, hr⟩
 refine c_true R hb148 (c_seq (c_region (lB R (l_nil (q_next (c_ret (q_ret (q_blockr (q_ret ?_)))))))))
 obtain rfl := so hr
 obtain rfl := he4 _ R
 have hr := hk4
 refine q_ret (q_blockr (q_ret ?_))
 obtain rfl := so hr
 exact qF () (fun w s => (s.e 7 []))
 refine c_false R hb148 (c_skip (q_next ?_))
 obtain ⟨r155, hx156, hr⟩ := bd hr
 refine c_region (lI R (lO (vFa 3 fo58_3 R) (lO (vLd 1 ag56 R R R) (lI R (t_some 5 sees_rd (show 0 < l1.Kernels.length by have := hg136; omega) (fun g149 o150 ha => ?_))))))
 subst ha
 refine lO (vIa sl56 sz127 R R hg136) (lO (vz (.pointer (some ⟨g149, o150 + i134.toNat * 7, none⟩)) (v_fa fo127_0 R R)) (t_elem (K := kT127) 5 i134 dT127.dec R hg136.1 hg136.2 ?_))
 rintro ⟨⟨A151, D151⟩, ⟨A152, D152⟩, ⟨-, -, ⟨A153, D153⟩⟩, -, ⟨A154, D154⟩⟩
 refine lN (cl g149 (o150 + i134.toNat * 7) [(sc A151 ((ix l1.Kernels i134).Loops) D151), (sc A152 ((ix l1.Kernels i134).Loads) D152), (iv (ix l1.Kernels i134).Store.Buffer), (iv (ix l1.Kernels i134).Store.Offset), (sc A153 ((ix l1.Kernels i134).Store.Steps) D153), (.bool (ix l1.Kernels i134).Sum), (sc A154 ((ix l1.Kernels i134).Code) D154)] :: RR kT3 A151 D151 ((ix l1.Kernels i134).Loops) :: RR kT124 A152 D152 ((ix l1.Kernels i134).Loads) :: RR kT3 A153 D153 ((ix l1.Kernels i134).Store.Steps) :: RR kT216 A154 D154 ((ix l1.Kernels i134).Code) :: _ :: W1) ?_
 refine lO (v_clf (fo := 0) 0 ag29 R R R) (lM (_ :: _ :: _ :: _ :: _ :: _ :: _ :: W1) (fun w s => (s.d 1 R)) ?_)
 refine lC 1 cb120 R (spec_l11Product_ok hx156) R ?_
 rintro _
 refine lN (_ :: _ :: _ :: _ :: _ :: _ :: W1) ?_
 refine lO (vAd R R) (lI R (l_nil (q_blockn (q_next (c_region (lI R (lO (vAd R R) (lI R (l_nil ?_)))))))))
 obtain rfl := so hr
 exact qA () (fun w s => (s.e 6 [5]))
 refine c_false R hb135 (c_exit (q_exit ?_))
 obtain rfl := so hr
 obtain rfl := he4 _ R
 have hr := hk4
 refine q_exit (q_block ?_)
 exact qI (all133, ()) hr (fun w s => (s.e 1 []))
 rintro ⟨all159, _⟩ σ1 hr
 replace hr : spec_NestOk_J4 all159 = some r := hr
 unfold spec_NestOk_J4 at hr
 refine c_seq (c_region (lI R (lO (vLe R R) (lB R (l_nil (q_next (c_ret ?_)))))))
 obtain rfl := so hr
 exact qF () (fun w s => (s.e 6 []))
theorem spec_l11Uses_ok {k1 : Kernel} {b6 : Int} {r : (List Int)} (hr : spec_l11Uses k1 b6 = some r) :
 FnOk Try.prog 123 [(.agg [(.slice A2 N2 D2), (.slice A3 N3 D3), (iv k1.Store.Buffer), (iv k1.Store.Offset), (.slice A4 N4 D4), (.bool k1.Sum), (.slice A5 N5 D5)].toArray), (iv b6)] [rds kT3 (.slice A2 N2 D2) k1.Loops, rds kT124 (.slice A3 N3 D3) k1.Loads, rds kT3 (.slice A4 N4 D4) k1.Store.Steps, rds kT216 (.slice A5 N5 D5) k1.Code] (fun (h : HH) => ((.slice h.1 h.2.1 h.2.2), [ow kT3 3 (.slice h.1 h.2.1 h.2.2) r])) := by
 unfold spec_l11Uses at hr
 refine fn_ok Try.func123 R 28 R R fun C V => ?_
 refine cN (_ :: _ :: _ :: _ :: V) ?_
 refine cL 0 sees_rd ?_
 rintro rfl
 refine cL 1 sees_rd ?_
 rintro rfl
 refine cL 2 sees_rd ?_
 rintro rfl
 refine cL 3 sees_rd ?_
 rintro rfl
 let W0 : List HP := RR kT3 A2 D2 k1.Loops :: RR kT124 A3 D3 k1.Loads :: RR kT3 A4 D4 k1.Store.Steps :: RR kT216 A5 D5 k1.Code :: V
 refine cN W0 ?_
 refine c_seq (c_region (lBx R (fun b7 => (lS R (l_nil ?_)))))
 let W1 : List HP := bxl b7 [(sc A2 k1.Loops D2), (sc A3 k1.Loads D3), (iv k1.Store.Buffer), (iv k1.Store.Offset), (sc A4 k1.Store.Steps D4), (.bool k1.Sum), (sc A5 k1.Code D5)] 127 :: W0
 refine qN W1 ?_
 refine q_next (c_seq (c_region (l_build (K := kT3) (xs := ([] : List Int)) (vs := []) 0 R R sl29 sz3 zc3 R R R R R R ?_ R (fun A8 D8 => ?_))))
 exact fun I h s => (mO3).list [] I h s
 refine lN (OO kT3 3 A8 D8 ([] : List Int) :: W1) ?_
 refine lS R (l_nil (q_next (c_seq (c_cut (A := ((List Int)) × (HH)) (fun a => spec_l11Uses_J3 a.1 = some r) (fun a => [(5, (.slice a.2.1 a.2.2.1 a.2.2.2))]) (fun a => ow kT3 3 (.slice a.2.1 a.2.2.1 a.2.2.2) a.1 :: W1) ?_ ?_))))
 refine c_seq (c_region (lI R (l_nil (q_next (c_block ?_)))))
 obtain ⟨e1, hl1, hk1⟩ := bd hr
 refine c_loop (A := HH) hl1 (fun s a => [(1, (iv b6)), (2, (pt b7 0)), (5, (.slice a.1 a.2.1 a.2.2)), (6, (iv s.2))]) (fun s a => ow kT3 3 (.slice a.1 a.2.1 a.2.2) s.1 :: W1) (A8, ([] : List Int).length, D8) (aS R) (fun w s => s) ?_
 rintro ⟨x19, i21⟩ ⟨A20, N20, D20⟩ σ1 out1 hr he1
 replace hr : spec_l11Uses_L1 k1 b6 x19 i21 = some out1 := hr
 unfold spec_l11Uses_L1 at hr
 refine c_len 0 sees_ow (fun (hn : N20 = x19.length) => ?_)
 subst hn
 refine c_seq (c_seq (c_region (lI R (lO (vFa 1 fo127_1 R) (lO (vLd 1 ag122 R R R) (lO (v_len sl122 R) (lO (vLt R R) (l_nil (q_next ?_)))))))))
 rcases bif_ hr with ⟨hb22, hr⟩ | ⟨hb22, hr⟩
 refine c_true R hb22 (c_skip (q_next (c_seq (c_cut (A := ((List Int)) × (HH)) (fun a => spec_l11Uses_J2 i21 a.1 = some out1) (fun a => [(1, (iv b6)), (2, (pt b7 0)), (5, (.slice a.2.1 a.2.2.1 a.2.2.2)), (6, (iv i21))]) (fun a => ow kT3 3 (.slice a.2.1 a.2.2.1 a.2.2.2) a.1 :: W1) ?_ ?_))))
 refine c_block (c_seq ?_)
 obtain ⟨hg23, hr⟩ := gd hr
 refine c_region (lO (vFa 1 fo127_1 R) (lO (vLd 1 ag122 R R R) (lI R (t_some 3 sees_rd (show 0 < k1.Loads.length by have := hg23; omega) (fun g24 o25 ha => ?_)))))
 subst ha
 refine lO (vIa sl122 sz124 R R hg23) (lO (vz (.pointer (some ⟨g24, o25 + i21.toNat * 3, none⟩)) (v_fa fo124_0 R R)) (lO (vz (iv (ix k1.Loads i21).Buffer) (v_lde (K := kT124) (fo := 0) (pr := fun x => (iv x.Buffer)) 3 i21 ag3 (dT124.leaf fun _ _ => R) sees_rd R hg23.1 hg23.2)) (lI R (lO (vEq R R) (l_nil (q_next ?_))))))
 rcases bif_ hr with ⟨hb26, hr⟩ | ⟨hb26, hr⟩
 refine c_true R hb26 ?_
 obtain ⟨hg28, hr⟩ := gd hr
 refine c_region (lS R (lI R (l_build (K := kT3) (xs := ([i21] : List Int)) (vs := [(iv i21)]) 0 R R sl29 sz3 zc3 R R R R R R ?_ R (fun A27 D27 => ?_))))
 exact fun I h s => (mO3).list [((), i21)] I h s
 refine lN (OO kT3 3 A27 D27 ([i21] : List Int) :: OO kT3 3 A20 D20 x19 :: W1) ?_
 refine lM (ow _ _ _ _ :: ow _ _ _ _ :: W1) (fun w s => (s.e 2 [1, 0])) ?_
 refine l_app (K := kT3) 17592186044416 R R sl29 sz3 by3 (Zr.zk zT3 zc3) R R R R R R src_ow hg28 (fun A29 D29 => (lN (OO kT3 3 A29 D29 (x19 ++ ([i21] : List Int)) :: W1) ?_))
 refine lS R (l_nil (q_blockn ?_))
 exact qI ((x19 ++ ([i21] : List Int)), (A29, (x19 ++ ([i21] : List Int)).length, D29)) hr (fun w s => s)
 refine c_false R hb26 (c_skip (q_blockn ?_))
 exact qI (x19, (A20, x19.length, D20)) hr (fun w s => s)
 rintro ⟨x30, ⟨A31, N31, D31⟩⟩ σ1 hr
 replace hr : spec_l11Uses_J2 i21 x30 = some out1 := hr
 unfold spec_l11Uses_J2 at hr
 refine c_len 0 sees_ow (fun (hn : N31 = x30.length) => ?_)
 subst hn
 refine c_region (lI R (lO (vAd R R) (lI R (l_nil ?_))))
 obtain rfl := so hr
 exact qA (A31, x30.length, D31) (fun w s => s)
 refine c_false R hb22 (c_exit (q_exit ?_))
 obtain rfl := so hr
 obtain rfl := he1 _ R
 have hr := hk1
 refine q_exit (q_block ?_)
 exact qI (x19, (A20, x19.length, D20)) hr (fun w s => s)
 rintro ⟨x35, ⟨A36, N36, D36⟩⟩ σ1 hr
 replace hr : spec_l11Uses_J3 x35 = some r := hr
 unfold spec_l11Uses_J3 at hr
 refine c_len 0 sees_ow (fun (hn : N36 = x35.length) => ?_)
 subst hn
 refine c_seq (c_region (lS R (lS R (l_nil (q_next (c_ret ?_))))))
 obtain rfl := so hr
 exact qF (A36, x35.length, D36) (fun w s => (s.e 6 [0]))
theorem spec_l12Touches_ok {k1 : Kernel} {b6 : Int} {r : Bool} (hr : spec_l12Touches k1 b6 = some r) :
 FnOk Try.prog 146 [(.agg [(.slice A2 N2 D2), (.slice A3 N3 D3), (iv k1.Store.Buffer), (iv k1.Store.Offset), (.slice A4 N4 D4), (.bool k1.Sum), (.slice A5 N5 D5)].toArray), (iv b6)] [rds kT3 (.slice A2 N2 D2) k1.Loops, rds kT124 (.slice A3 N3 D3) k1.Loads, rds kT3 (.slice A4 N4 D4) k1.Store.Steps, rds kT216 (.slice A5 N5 D5) k1.Code] (fun (h : Unit) => ((.bool r), [])) := by
 unfold spec_l12Touches at hr
 refine fn_ok Try.func146 R 17 R R fun C V => ?_
 refine cN (_ :: _ :: _ :: _ :: V) ?_
 refine cL 0 sees_rd ?_
 rintro rfl
 refine cL 1 sees_rd ?_
 rintro rfl
 refine cL 2 sees_rd ?_
 rintro rfl
 refine cL 3 sees_rd ?_
 rintro rfl
 let W0 : List HP := RR kT3 A2 D2 k1.Loops :: RR kT124 A3 D3 k1.Loads :: RR kT3 A4 D4 k1.Store.Steps :: RR kT216 A5 D5 k1.Code :: V
 refine cN W0 ?_
 refine c_seq (c_region (lBx R (fun b7 => (lB R (l_nil ?_)))))
 let W1 : List HP := bxl b7 [(sc A2 k1.Loops D2), (sc A3 k1.Loads D3), (iv k1.Store.Buffer), (iv k1.Store.Offset), (sc A4 k1.Store.Steps D4), (.bool k1.Sum), (sc A5 k1.Code D5)] 127 :: W0
 refine qN W1 ?_
 refine q_next (c_seq ?_)
 obtain ⟨r8, hx9, hr⟩ := bd hr
 refine cQ [(4, (.bool ((k1.Store.Buffer == b6) || (decide ((r8.length : Int) > (0 : Int))))))] (W1) ?_ ?_
 refine c_region (lO (vFa 2 fo127_2 R) (lO (vFa 2 fo124_0 R) (lO (vLd 0 ag3 R R R) (lI R (lO (vEq R R) (lB R ?_))))))
 rcases bo (k1.Store.Buffer == b6) with hc11 | hc11
 refine lf (wfT hc11) (lf (wfT hc11) (lf (wfT hc11) (lf (wfT hc11) (lf (wfT hc11) (lO (pOT (decide ((r8.length : Int) > (0 : Int))) R hc11) (lB R (l_nil ?_)))))))
 exact qJ (fun w s => s)
 refine lW (wnF hc11) (vz (.agg [(sc A2 k1.Loops D2), (sc A3 k1.Loads D3), (iv k1.Store.Buffer), (iv k1.Store.Offset), (sc A4 k1.Store.Steps D4), (.bool k1.Sum), (sc A5 k1.Code D5)].toArray) (v_loadw 0 ag127 sz127 R R R R)) (lW (wnF hc11) (vI R) (lM (RR kT3 A2 D2 k1.Loops :: RR kT124 A3 D3 k1.Loads :: RR kT3 A4 D4 k1.Store.Steps :: RR kT216 A5 D5 k1.Code :: W1) (fun w s => (((((s.d 1 R).d 3 R).d 5 R).d 7 R).e 4 [3, 2, 1, 0])) ?_))
 refine l_calln 4 R (wnF hc11) cb123 R (spec_l11Uses_ok (gcall_t hx9 (not_ff hc11))) R ?_
 rintro ⟨A10, N10, D10⟩
 refine lN (ow kT3 3 (.slice A10 N10 D10) r8 :: W1) ?_
 refine l_len 0 sees_ow ?_
 rintro rfl
 refine lW (wnF hc11) (v_len sl29 R) (lW (wnF hc11) (vGt R R) (lO (pOF R hc11 R) (lB R (l_nil ?_))))
 exact qJ (fun w s => (s.e 1 []))
 rintro σ1
 refine q_next (c_ret ?_)
 obtain rfl := so hr
 exact qF () (fun w s => (s.e 5 []))
theorem spec_l12Given_ok {l1 : Nest} {b7 : Int} {r : Bool} (hr : spec_l12Given l1 b7 = some r) :
 FnOk Try.prog 85 [(.agg [(.slice A2 N2 D2), (.slice A3 N3 D3), (.slice A4 N4 D4), (.slice A5 N5 D5), (.slice A6 N6 D6)].toArray), (iv b7)] [rds kT3 (.slice A2 N2 D2) l1.Sizes, rds kT3 (.slice A3 N3 D3) l1.Ins, rds kT159 (.slice A4 N4 D4) l1.Fixed, rds kT127 (.slice A5 N5 D5) l1.Kernels, rds kT3 (.slice A6 N6 D6) l1.Outs] (fun (h : Unit) => ((.bool r), [])) := by
 unfold spec_l12Given at hr
 refine fn_ok Try.func85 R 25 R R fun C V => ?_
 refine cN (_ :: _ :: _ :: _ :: _ :: V) ?_
 refine cL 0 sees_rd ?_
 rintro rfl
 refine cL 1 sees_rd ?_
 rintro rfl
 refine cL 2 sees_rd ?_
 rintro rfl
 refine cL 3 sees_rd ?_
 rintro rfl
 refine cL 4 sees_rd ?_
 rintro rfl
 let W0 : List HP := RR kT3 A2 D2 l1.Sizes :: RR kT3 A3 D3 l1.Ins :: RR kT159 A4 D4 l1.Fixed :: RR kT127 A5 D5 l1.Kernels :: RR kT3 A6 D6 l1.Outs :: V
 refine cN W0 ?_
 refine c_seq (c_region (lBx R (fun b8 => (lB R (l_nil ?_)))))
 let W1 : List HP := bxl b8 [(sc A2 l1.Sizes D2), (sc A3 l1.Ins D3), (sc A4 l1.Fixed D4), (sc A5 l1.Kernels D5), (sc A6 l1.Outs D6)] 58 :: W0
 refine qN W1 ?_
 refine q_next (c_seq (c_cut (A := (Unit) × (Unit)) (fun a => spec_l12Given_J1 l1 b7 = some r) (fun a => [(1, (iv b7)), (2, (pt b8 0))]) (fun a => W1) ?_ ?_))
 refine c_seq (c_region (lI R (l_nil (q_next (c_block ?_)))))
 obtain ⟨e1, hl1, hk1⟩ := bd hr
 refine c_loop (A := Unit) hl1 (fun s a => [(1, (iv b7)), (2, (pt b8 0)), (5, (iv s))]) (fun s a => W1) () (aS R) (fun w s => s) ?_
 rintro i14 _ σ1 out1 hr he1
 replace hr : spec_l12Given_L1 l1 b7 i14 = some out1 := hr
 unfold spec_l12Given_L1 at hr
 refine c_seq (c_seq (c_region (lI R (lO (vFa 2 fo58_2 R) (lO (vLd 0 ag55 R R R) (lO (v_len sl55 R) (lO (vLt R R) (l_nil (q_next ?_)))))))))
 rcases bif_ hr with ⟨hb15, hr⟩ | ⟨hb15, hr⟩
 refine c_true R hb15 (c_skip (q_next (c_seq (c_block (c_seq ?_)))))
 obtain ⟨hg16, hr⟩ := gd hr
 refine c_region (lO (vFa 2 fo58_2 R) (lO (vLd 0 ag55 R R R) (lI R (t_some 3 sees_rd (show 0 < l1.Fixed.length by have := hg16; omega) (fun g17 o18 ha => ?_)))))
 subst ha
 refine lO (vIa sl55 sz159 R R hg16) (lO (vz (.pointer (some ⟨g17, o18 + i14.toNat * 2, none⟩)) (v_fa fo159_0 R R)) (lO (vz (iv (ix l1.Fixed i14).Buffer) (v_lde (K := kT159) (fo := 0) (pr := fun x => (iv x.Buffer)) 3 i14 ag3 (dT159.leaf fun _ _ => R) sees_rd R hg16.1 hg16.2)) (lI R (lO (vEq R R) (l_nil (q_next ?_))))))
 rcases bif_ hr with ⟨hb19, hr⟩ | ⟨hb19, hr⟩
 refine c_true R hb19 (c_seq (c_region (lB R (l_nil (q_next (c_ret (q_blockr (q_ret ?_))))))))
 obtain rfl := so hr
 obtain rfl := he1 _ R
 have hr := hk1
 refine q_ret (q_blockr (q_ret ?_))
 obtain rfl := so hr
 exact qF () (fun w s => (s.e 6 []))
 refine c_false R hb19 (c_skip (q_blockn (q_next (c_region (lI R (lO (vAd R R) (lI R (l_nil ?_))))))))
 obtain rfl := so hr
 exact qA () (fun w s => s)
 refine c_false R hb15 (c_exit (q_exit ?_))
 obtain rfl := so hr
 obtain rfl := he1 _ R
 have hr := hk1
 refine q_exit (q_block ?_)
 exact qI ((), ()) hr (fun w s => s)
 rintro ⟨_, _⟩ σ1 hr
 replace hr : spec_l12Given_J1 l1 b7 = some r := hr
 unfold spec_l12Given_J1 at hr
 refine c_seq ?_
 obtain ⟨r21, hx22, hr⟩ := bd hr
 refine c_region (lO (vFa 1 fo58_1 R) (lO (vLd 0 ag29 R R R) (lI R (lM (RR kT3 A3 D3 l1.Ins :: W1) (fun w s => (s.d 2 R)) ?_))))
 refine lC 1 cb117 R (spec_l7Has_ok hx22) R ?_
 rintro _
 refine lN W1 ?_
 refine lB R (l_nil (q_next (c_ret ?_)))
 obtain rfl := so hr
 exact qF () (fun w s => (s.e 6 []))
theorem spec_l12Life_ok {l1 : Nest} {b7 : Int} {r : Life × Bool} (hr : spec_l12Life l1 b7 = some r) :
 FnOk Try.prog 84 [(.agg [(.slice A2 N2 D2), (.slice A3 N3 D3), (.slice A4 N4 D4), (.slice A5 N5 D5), (.slice A6 N6 D6)].toArray), (iv b7)] [rds kT3 (.slice A2 N2 D2) l1.Sizes, rds kT3 (.slice A3 N3 D3) l1.Ins, rds kT159 (.slice A4 N4 D4) l1.Fixed, rds kT127 (.slice A5 N5 D5) l1.Kernels, rds kT3 (.slice A6 N6 D6) l1.Outs] (fun (h : Unit) => ((.tuple [(.agg [(iv r.1.Buffer), (iv r.1.Size), (iv r.1.From), (iv r.1.To)].toArray), (.bool r.2)].toArray), [])) := by
 unfold spec_l12Life at hr
 refine fn_ok Try.func84 R 71 R R fun C V => ?_
 refine cN (_ :: _ :: _ :: _ :: _ :: V) ?_
 refine cL 0 sees_rd ?_
 rintro rfl
 refine cL 1 sees_rd ?_
 rintro rfl
 refine cL 2 sees_rd ?_
 rintro rfl
 refine cL 3 sees_rd ?_
 rintro rfl
 refine cL 4 sees_rd ?_
 rintro rfl
 let W0 : List HP := RR kT3 A2 D2 l1.Sizes :: RR kT3 A3 D3 l1.Ins :: RR kT159 A4 D4 l1.Fixed :: RR kT127 A5 D5 l1.Kernels :: RR kT3 A6 D6 l1.Outs :: V
 refine cN W0 ?_
 refine c_seq (c_region (lBx R (fun b8 => (l_alloc R R zc114 (fun b9 => (lB R (l_nil ?_)))))))
 let W1 : List HP := bxl b8 [(sc A2 l1.Sizes D2), (sc A3 l1.Ins D3), (sc A4 l1.Fixed D4), (sc A5 l1.Kernels D5), (sc A6 l1.Outs D6)] 58 :: W0
 refine qN (_ :: W1) ?_
 refine q_next (c_seq ?_)
 obtain ⟨hg10, hr⟩ := gd hr
 refine c_region (lI R (lO (vFa 0 fo58_0 R) (lO (vLd 1 ag29 R R R) (lI R (t_some 2 sees_rd (show 0 < l1.Sizes.length by have := hg10; omega) (fun g11 o12 ha => ?_))))))
 subst ha
 refine lO (vIa sl29 sz3 R R hg10) (lO (vLi 2 ag3 sees_rd R hg10) (lO (vz (.agg [(iv b7), (iv (ix l1.Sizes b7)), (iv 0), (iv 0)].toArray) (v_build pl114 zc114 R R)) (l_alloc R R zc114 (fun b13 => (l_stores 0 R R sz114 R R R R R R (lN (bxl b13 [(iv b7), (iv (ix l1.Sizes b7)), (iv 0), (iv 0)] 114 :: _ :: W1) ?_))))))
 refine l_nil (q_next (c_seq (c_region (lI R (l_nil (q_next (c_seq (c_cut (A := (Int × Int) × (Unit)) (fun a => spec_l12Life_J4 l1 b7 a.1.1 a.1.2 = some r) (fun a => [(1, (iv b7)), (2, (pt b8 0)), (4, (pt b9 0)), (6, (pt b13 0)), (7, (iv a.1.2))]) (fun a => bxl b9 [(iv 0), (iv 0), (iv 0), (iv 0)] 114 :: bxl b13 [(iv b7), (iv (ix l1.Sizes b7)), (iv 0), (iv a.1.1)] 114 :: W1) ?_ ?_))))))))
 refine c_seq (c_region (lI R (l_nil (q_next (c_block ?_)))))
 obtain ⟨e1, hl1, hk1⟩ := bd hr
 refine c_loop (A := Unit) hl1 (fun s a => [(1, (iv b7)), (2, (pt b8 0)), (4, (pt b9 0)), (6, (pt b13 0)), (7, (iv s.2.1)), (8, (iv s.2.2))]) (fun s a => bxl b9 [(iv 0), (iv 0), (iv 0), (iv 0)] 114 :: bxl b13 [(iv b7), (iv (ix l1.Sizes b7)), (iv 0), (iv s.1)] 114 :: W1) () (aS R) (fun w s => (s.e 2 [1, 0])) ?_
 rintro ⟨x43, first44, i45⟩ _ σ1 out1 hr he1
 replace hr : spec_l12Life_L1 l1 b7 x43 first44 i45 = some out1 := hr
 unfold spec_l12Life_L1 at hr
 refine c_seq (c_seq (c_region (lI R (lO (vFa 3 fo58_3 R) (lO (vLd 2 ag56 R R R) (lO (v_len sl56 R) (lO (vLt R R) (l_nil (q_next ?_)))))))))
 rcases bif_ hr with ⟨hb46, hr⟩ | ⟨hb46, hr⟩
 refine c_true R hb46 (c_skip (q_next (c_seq (c_cut (A := (Int × Int) × (Unit)) (fun a => spec_l12Life_J3 i45 a.1.1 a.1.2 = some out1) (fun a => [(1, (iv b7)), (2, (pt b8 0)), (4, (pt b9 0)), (6, (pt b13 0)), (7, (iv a.1.2)), (8, (iv i45))]) (fun a => bxl b9 [(iv 0), (iv 0), (iv 0), (iv 0)] 114 :: bxl b13 [(iv b7), (iv (ix l1.Sizes b7)), (iv 0), (iv a.1.1)] 114 :: W1) ?_ ?_))))
 refine c_block (c_seq ?_)
 obtain ⟨hg47, hr⟩ := gd hr
 obtain ⟨r54, hx55, hr⟩ := bd hr
 refine c_region (lO (vFa 3 fo58_3 R) (lO (vLd 2 ag56 R R R) (lI R (t_some 6 sees_rd (show 0 < l1.Kernels.length by have := hg47; omega) (fun g48 o49 ha => ?_)))))
 subst ha
 refine lO (vIa sl56 sz127 R R hg47) (t_elem (K := kT127) 6 i45 dT127.dec R hg47.1 hg47.2 ?_)
 rintro ⟨⟨A50, D50⟩, ⟨A51, D51⟩, ⟨-, -, ⟨A52, D52⟩⟩, -, ⟨A53, D53⟩⟩
 refine lN (cl g48 (o49 + i45.toNat * 7) [(sc A50 ((ix l1.Kernels i45).Loops) D50), (sc A51 ((ix l1.Kernels i45).Loads) D51), (iv (ix l1.Kernels i45).Store.Buffer), (iv (ix l1.Kernels i45).Store.Offset), (sc A52 ((ix l1.Kernels i45).Store.Steps) D52), (.bool (ix l1.Kernels i45).Sum), (sc A53 ((ix l1.Kernels i45).Code) D53)] :: RR kT3 A50 D50 ((ix l1.Kernels i45).Loops) :: RR kT124 A51 D51 ((ix l1.Kernels i45).Loads) :: RR kT3 A52 D52 ((ix l1.Kernels i45).Store.Steps) :: RR kT216 A53 D53 ((ix l1.Kernels i45).Code) :: _ :: bxl b13 [(iv b7), (iv (ix l1.Sizes b7)), (iv 0), (iv x43)] 114 :: W1) ?_
 refine lO (vz (.agg [(sc A50 ((ix l1.Kernels i45).Loops) D50), (sc A51 ((ix l1.Kernels i45).Loads) D51), (iv (ix l1.Kernels i45).Store.Buffer), (iv (ix l1.Kernels i45).Store.Offset), (sc A52 ((ix l1.Kernels i45).Store.Steps) D52), (.bool (ix l1.Kernels i45).Sum), (sc A53 ((ix l1.Kernels i45).Code) D53)].toArray) (v_clfs (fo := 0) 0 ag127 sz127 R R R R)) (lI R (lM (rds _ _ _ :: rds _ _ _ :: rds _ _ _ :: rds _ _ _ :: cl _ _ _ :: rds _ _ _ :: rds _ _ _ :: rds _ _ _ :: rds _ _ _ :: bxl _ _ _ :: bxl _ _ _ :: W1) (fun w s => (((((s.d 1 R).d 3 R).d 5 R).d 7 R).f 11 [3, 1, 2, 1, 1, 1, 0, 1, 4, 7])) ?_))
 refine lC 4 cb146 R (spec_l12Touches_ok hx55) R ?_
 rintro _
 refine lN (_ :: _ :: _ :: _ :: _ :: _ :: _ :: W1) ?_
 refine l_nil (q_next ?_)
 rcases bif_ hr with ⟨hb56, hr⟩ | ⟨hb56, hr⟩
 refine c_true R hb56 (c_seq (c_region (lI R (lO (vFa 3 fo114_3 R) (l_store 6 R R sz3 R R R R R (lN (_ :: _ :: _ :: _ :: _ :: _ :: bxl b13 [(iv b7), (iv (ix l1.Sizes b7)), (iv 0), (iv i45)] 114 :: W1) ?_))))))
 refine l_nil (q_next (c_seq (c_region (lI R (lO (vLt R R) (l_nil (q_next ?_)))))))
 rcases bif_ hr with ⟨hb57, hr⟩ | ⟨hb57, hr⟩
 refine c_true R hb57 (c_region (lI R (lI R (l_nil (q_blockn ?_)))))
 exact qI ((i45, i45), ()) hr (fun w s => (s.e 7 [5, 6]))
 refine c_false R hb57 (c_skip (q_blockn ?_))
 exact qI ((i45, first44), ()) hr (fun w s => (s.e 7 [5, 6]))
 refine c_false R hb56 (c_skip (q_blockn ?_))
 exact qI ((x43, first44), ()) hr (fun w s => (s.e 7 [5, 6]))
 rintro ⟨⟨x58, first59⟩, _⟩ σ1 hr
 replace hr : spec_l12Life_J3 i45 x58 first59 = some out1 := hr
 unfold spec_l12Life_J3 at hr
 refine c_region (lI R (lO (vAd R R) (lI R (l_nil ?_))))
 obtain rfl := so hr
 exact qA () (fun w s => s)
 refine c_false R hb46 (c_exit (q_exit ?_))
 obtain rfl := so hr
 obtain rfl := he1 _ R
 have hr := hk1
 refine q_exit (q_block ?_)
 exact qI ((x43, first44), ()) hr (fun w s => s)
 rintro ⟨⟨x63, first64⟩, _⟩ σ1 hr
 replace hr : spec_l12Life_J4 l1 b7 x63 first64 = some r := hr
 unfold spec_l12Life_J4 at hr
 refine c_seq ?_
 obtain ⟨r65, hx66, hr⟩ := bd hr
 refine c_region (lO (vFa 4 fo58_4 R) (lO (vLd 2 ag29 R R R) (lI R (lM (RR kT3 A6 D6 l1.Outs :: _ :: bxl b13 [(iv b7), (iv (ix l1.Sizes b7)), (iv 0), (iv x63)] 114 :: W1) (fun w s => (s.d 7 R)) ?_))))
 refine lC 1 cb117 R (spec_l7Has_ok hx66) R ?_
 rintro _
 refine lN (_ :: _ :: W1) ?_
 refine lB R (l_nil (q_next (c_seq ?_)))
 obtain ⟨r67, hx68, hr⟩ := bd hr
 refine c_region (lO (vz (.agg [(sc (ad g11 o12) l1.Sizes D2), (sc A3 l1.Ins D3), (sc A4 l1.Fixed D4), (sc A5 l1.Kernels D5), (sc A6 l1.Outs D6)].toArray) (v_loadw 2 ag58 sz58 R R R R)) (lI R (lM (RR kT3 (ad g11 o12) D2 l1.Sizes :: RR kT3 A3 D3 l1.Ins :: RR kT159 A4 D4 l1.Fixed :: RR kT127 A5 D5 l1.Kernels :: RR kT3 A6 D6 l1.Outs :: bxl _ _ _ :: bxl _ _ _ :: W1) (fun w s => ((((((s.d 3 R).d 5 R).d 7 R).d 9 R).d 11 R).e 7 [4, 3, 2, 1, 0, 5, 6])) ?_)))
 refine lC 5 cb85 R (spec_l12Given_ok hx68) R ?_
 rintro _
 refine lN (_ :: _ :: W1) ?_
 refine lB R (l_nil (q_next (c_seq (c_cut (A := (Int) × (Unit)) (fun a => spec_l12Life_J5 l1 b7 x63 first64 r65 r67 a.1 = some r) (fun a => [(2, (pt b8 0)), (4, (pt b9 0)), (6, (pt b13 0)), (7, (iv first64)), (9, (.bool r65)), (10, (.bool r67))]) (fun a => bxl b9 [(iv 0), (iv 0), (iv 0), (iv 0)] 114 :: bxl b13 [(iv b7), (iv (ix l1.Sizes b7)), (iv a.1), (iv x63)] 114 :: W1) ?_ ?_))))
 refine c_seq (cQ [(2, (pt b8 0)), (4, (pt b9 0)), (6, (pt b13 0)), (7, (iv first64)), (9, (.bool r65)), (10, (.bool r67)), (49, (.bool ((!r67) && (decide (first64 > (0 : Int))))))] (bxl b9 [(iv 0), (iv 0), (iv 0), (iv 0)] 114 :: bxl b13 [(iv b7), (iv (ix l1.Sizes b7)), (iv 0), (iv x63)] 114 :: W1) ?_ ?_)
 refine c_region (lB R (lO (vNo R) (lB R ?_)))
 rcases bo (!r67) with hc69 | hc69
 refine lW (wnT hc69) (vI R) (lW (wnT hc69) (vGt R R) (lO (pAT R hc69 R) (l_nil ?_)))
 exact qJ (fun w s => s)
 refine lf (wfF hc69) (lf (wfF hc69) (lO (pAF (decide (first64 > (0 : Int))) R hc69) (l_nil ?_)))
 exact qJ (fun w s => s)
 rintro σ1
 refine q_next ?_
 rcases bif_ hr with ⟨hb70, hr⟩ | ⟨hb70, hr⟩
 refine c_true R hb70 (c_region (lI R (lO (vFa 2 fo114_2 R) (l_store 1 R R sz3 R R R R R (lN (_ :: bxl b13 [(iv b7), (iv (ix l1.Sizes b7)), (iv first64), (iv x63)] 114 :: W1) ?_)))))
 refine l_nil ?_
 exact qI (first64, ()) hr (fun w s => s)
 refine c_false R hb70 (c_skip ?_)
 exact qI ((0 : Int), ()) hr (fun w s => s)
 rintro ⟨x71, _⟩ σ1 hr
 replace hr : spec_l12Life_J5 l1 b7 x63 first64 r65 r67 x71 = some r := hr
 unfold spec_l12Life_J5 at hr
 refine c_seq (c_cut (A := (Int) × (Unit)) (fun a => spec_l12Life_J6 l1 b7 first64 r65 r67 x71 a.1 = some r) (fun a => [(4, (pt b9 0)), (6, (pt b13 0)), (7, (iv first64)), (9, (.bool r65)), (10, (.bool r67))]) (fun a => bxl b9 [(iv 0), (iv 0), (iv 0), (iv 0)] 114 :: bxl b13 [(iv b7), (iv (ix l1.Sizes b7)), (iv x71), (iv a.1)] 114 :: W1) ?_ ?_)
 refine c_seq (c_region (lB R (l_nil (q_next ?_))))
 rcases bif_ hr with ⟨hb72, hr⟩ | ⟨hb72, hr⟩
 refine c_true R hb72 (c_region (lO (vFa 3 fo58_3 R) (lO (vLd 2 ag56 R R R) (lO (v_len sl56 R) (lO (vFa 3 fo114_3 R) (l_store 1 R R sz3 R R R R R (lN (_ :: bxl b13 [(iv b7), (iv (ix l1.Sizes b7)), (iv x71), (il l1.Kernels)] 114 :: W1) ?_)))))))
 refine l_nil ?_
 exact qI ((l1.Kernels.length : Int), ()) hr (fun w s => s)
 refine c_false R hb72 (c_skip ?_)
 exact qI (x63, ()) hr (fun w s => s)
 rintro ⟨x73, _⟩ σ1 hr
 replace hr : spec_l12Life_J6 l1 b7 first64 r65 r67 x71 x73 = some r := hr
 unfold spec_l12Life_J6 at hr
 refine c_seq (cQ [(4, (pt b9 0)), (5, (.bool ((decide ((ix l1.Sizes b7) > (0 : Int))) && ((r67 || r65) || (decide (first64 ≥ (0 : Int)))))))] (bxl b9 [(iv b7), (iv (ix l1.Sizes b7)), (iv x71), (iv x73)] 114 :: W1) ?_ ?_)
 refine c_region (lO (vz (.agg [(iv b7), (iv (ix l1.Sizes b7)), (iv x71), (iv x73)].toArray) (v_loadw 1 ag114 sz114 R R R R)) (lO (vFa 1 fo114_1 R) (lO (vLd 1 ag3 R R R) (lO (vGt R R) (lB R ?_)))))
 rcases bo (decide ((ix l1.Sizes b7) > (0 : Int))) with hc74 | hc74
 refine lW (wnT hc74) (vB R) (lW (wnT hc74) (vB R) ?_)
 rcases bo r67 with hc75 | hc75
 refine lf (wfT hc75) (lW (wnT hc74) (pOT r65 R hc75) (lW (wnT hc74) (vB R) (lf (wfT (oT hc75)) (lf (wfT (oT hc75)) (lW (wnT hc74) (pOT (decide (first64 ≥ (0 : Int))) R (oT hc75)) (lO (pAT R hc74 R) (l_stores 0 R R sz114 R R R R R R (lN (bxl b9 [(iv b7), (iv (ix l1.Sizes b7)), (iv x71), (iv x73)] 114 :: bxl b13 [(iv b7), (iv (ix l1.Sizes b7)), (iv x71), (iv x73)] 114 :: W1) ?_))))))))
 refine lB R (l_nil ?_)
 exact qJ (fun w s => (s.e 2 [0]))
 refine lW (wnF hc75) (vB R) (lW (wnT hc74) (pOF R hc75 R) (lW (wnT hc74) (vB R) ?_))
 rcases bo (r67 || r65) with hc76 | hc76
 refine lf (wfT hc76) (lf (wfT hc76) (lW (wnT hc74) (pOT (decide (first64 ≥ (0 : Int))) R hc76) (lO (pAT R hc74 R) (l_stores 0 R R sz114 R R R R R R (lB R (l_nil ?_))))))
 exact qJ (fun w s => (s.e 2 [0]))
 refine lW (wnF hc76) (vI R) (lW (wnF hc76) (vGe R R) (lW (wnT hc74) (pOF R hc76 R) (lO (pAT R hc74 R) (l_stores 0 R R sz114 R R R R R R (lB R (l_nil ?_))))))
 exact qJ (fun w s => (s.e 2 [0]))
 refine lf (wfF hc74) (lf (wfF hc74) (lf R (lf (wfF hc74) (lf (wfF hc74) (lf R (lf R (lf (wfF hc74) (lO (pAF ((r67 || r65) || (decide (first64 ≥ (0 : Int)))) R hc74) (l_stores 0 R R sz114 R R R R R R (lB R (l_nil ?_)))))))))))
 exact qJ (fun w s => (s.e 2 [0]))
 rintro σ1
 refine q_next (c_ret ?_)
 obtain rfl := so hr
 exact q_fin (vs := [(.agg [(iv b7), (iv (ix l1.Sizes b7)), (iv x71), (iv x73)].toArray), (.bool ((decide ((ix l1.Sizes b7) > (0 : Int))) && ((r67 || r65) || (decide (first64 ≥ (0 : Int))))))]) (.inl R) () R ⟨⟨0, b9, _, _, R, R, .inl ⟨ag114, sz114, R⟩⟩, R, trivial⟩ R (fun w s => (s.e 7 []))
theorem spec_Lives_ok {l1 : Nest} {r : (List Life)} (hr : spec_Lives l1 = some r) :
 FnOk Try.prog 144 [(.agg [(.slice A2 N2 D2), (.slice A3 N3 D3), (.slice A4 N4 D4), (.slice A5 N5 D5), (.slice A6 N6 D6)].toArray)] [rds kT3 (.slice A2 N2 D2) l1.Sizes, rds kT3 (.slice A3 N3 D3) l1.Ins, rds kT159 (.slice A4 N4 D4) l1.Fixed, rds kT127 (.slice A5 N5 D5) l1.Kernels, rds kT3 (.slice A6 N6 D6) l1.Outs] (fun (h : HH) => ((.slice h.1 h.2.1 h.2.2), [ow kT114 114 (.slice h.1 h.2.1 h.2.2) r])) := by
 unfold spec_Lives at hr
 refine fn_ok Try.func144 R 31 R R fun C V => ?_
 refine cN (_ :: _ :: _ :: _ :: _ :: V) ?_
 refine cL 0 sees_rd ?_
 rintro rfl
 refine cL 1 sees_rd ?_
 rintro rfl
 refine cL 2 sees_rd ?_
 rintro rfl
 refine cL 3 sees_rd ?_
 rintro rfl
 refine cL 4 sees_rd ?_
 rintro rfl
 let W0 : List HP := RR kT3 A2 D2 l1.Sizes :: RR kT3 A3 D3 l1.Ins :: RR kT159 A4 D4 l1.Fixed :: RR kT127 A5 D5 l1.Kernels :: RR kT3 A6 D6 l1.Outs :: V
 refine cN W0 ?_
 refine c_seq (c_region (lBx R (fun b7 => (lS R (l_nil ?_)))))
 let W1 : List HP := bxl b7 [(sc A2 l1.Sizes D2), (sc A3 l1.Ins D3), (sc A4 l1.Fixed D4), (sc A5 l1.Kernels D5), (sc A6 l1.Outs D6)] 58 :: W0
 refine qN W1 ?_
 refine q_next (c_seq (c_region (l_build (K := kT114) (xs := ([] : List Life)) (vs := []) 0 R R sl183 sz114 zc114 R R R R R R ?_ R (fun A8 D8 => ?_))))
 exact fun I h s => (mO114).list [] I h s
 refine lN (OO kT114 114 A8 D8 ([] : List Life) :: W1) ?_
 refine lS R (l_nil (q_next (c_seq (c_seq ?_))))
 obtain ⟨r9, hx10, hr⟩ := bd hr
 refine c_region (lO (vz (.agg [(sc A2 l1.Sizes D2), (sc A3 l1.Ins D3), (sc A4 l1.Fixed D4), (sc A5 l1.Kernels D5), (sc A6 l1.Outs D6)].toArray) (v_loadw 1 ag58 sz58 R R R R)) (lM (RR kT3 A2 D2 l1.Sizes :: RR kT3 A3 D3 l1.Ins :: RR kT159 A4 D4 l1.Fixed :: RR kT127 A5 D5 l1.Kernels :: RR kT3 A6 D6 l1.Outs :: ow _ _ _ _ :: W1) (fun w s => ((((((s.d 2 R).d 4 R).d 6 R).d 8 R).d 10 R).e 6 [4, 3, 2, 1, 0, 5])) ?_))
 refine lC 5 cb69 R (spec_NestOk_ok hx10) R ?_
 rintro _
 refine lN (_ :: W1) ?_
 refine lO (vNo R) (l_nil (q_next ?_))
 rcases bif_ hr with ⟨hb11, hr⟩ | ⟨hb11, hr⟩
 refine c_true R hb11 (c_seq (c_region (lS R (lS R (l_nil (q_next (c_ret (q_ret ?_))))))))
 obtain rfl := so hr
 exact qF (A8, ([] : List Life).length, D8) (fun w s => (s.e 7 [0]))
 refine c_false R hb11 (c_skip (q_next (c_seq (c_cut (A := ((List Life)) × (HH)) (fun a => spec_Lives_J3 a.1 = some r) (fun a => [(3, (.slice a.2.1 a.2.2.1 a.2.2.2))]) (fun a => ow kT114 114 (.slice a.2.1 a.2.2.1 a.2.2.2) a.1 :: W1) ?_ ?_))))
 refine c_seq (c_region (lI R (l_nil (q_next (c_block ?_)))))
 obtain ⟨e1, hl1, hk1⟩ := bd hr
 refine c_loop (A := HH) hl1 (fun s a => [(1, (pt b7 0)), (3, (.slice a.1 a.2.1 a.2.2)), (4, (iv s.2))]) (fun s a => ow kT114 114 (.slice a.1 a.2.1 a.2.2) s.1 :: W1) (A8, ([] : List Life).length, D8) (aS R) (fun w s => s) ?_
 rintro ⟨x22, b24⟩ ⟨A23, N23, D23⟩ σ1 out1 hr he1
 replace hr : spec_Lives_L1 l1 x22 b24 = some out1 := hr
 unfold spec_Lives_L1 at hr
 refine c_len 0 sees_ow (fun (hn : N23 = x22.length) => ?_)
 subst hn
 refine c_seq (c_seq (c_region (lI R (lO (vFa 0 fo58_0 R) (lO (vLd 1 ag29 R R R) (lO (v_len sl29 R) (lO (vLt R R) (l_nil (q_next ?_)))))))))
 rcases bif_ hr with ⟨hb25, hr⟩ | ⟨hb25, hr⟩
 refine c_true R hb25 (c_skip (q_next (c_seq (c_cut (A := ((List Life)) × (HH)) (fun a => spec_Lives_J2 b24 a.1 = some out1) (fun a => [(1, (pt b7 0)), (3, (.slice a.2.1 a.2.2.1 a.2.2.2)), (4, (iv b24))]) (fun a => ow kT114 114 (.slice a.2.1 a.2.2.1 a.2.2.2) a.1 :: W1) ?_ ?_))))
 refine c_block (c_seq ?_)
 obtain ⟨r26, hx27, hr⟩ := bd hr
 refine c_region (lO (vz (.agg [(sc A2 l1.Sizes D2), (sc A3 l1.Ins D3), (sc A4 l1.Fixed D4), (sc A5 l1.Kernels D5), (sc A6 l1.Outs D6)].toArray) (v_loadw 1 ag58 sz58 R R R R)) (lI R (lM (RR kT3 A2 D2 l1.Sizes :: RR kT3 A3 D3 l1.Ins :: RR kT159 A4 D4 l1.Fixed :: RR kT127 A5 D5 l1.Kernels :: RR kT3 A6 D6 l1.Outs :: OO kT114 114 A23 D23 x22 :: W1) (fun w s => ((((((s.d 2 R).d 4 R).d 6 R).d 8 R).d 10 R).e 6 [4, 3, 2, 1, 0, 5])) ?_)))
 refine lC 5 cb84 R (spec_l12Life_ok hx27) R ?_
 rintro _
 refine lN (_ :: W1) ?_
 refine lO (vT R) (lO (vA R) (lB R (l_alloc R R zc114 (fun b28 => (l_stores 0 R R sz114 R R R R R R (lN (bxl b28 [(iv r26.1.Buffer), (iv r26.1.Size), (iv r26.1.From), (iv r26.1.To)] 114 :: _ :: W1) ?_))))))
 refine lB R (l_nil (q_next (c_seq (c_region (lB R (l_nil (q_next ?_)))))))
 rcases bif_ hr with ⟨hb29, hr⟩ | ⟨hb29, hr⟩
 refine c_true R hb29 ?_
 obtain ⟨hg31, hr⟩ := gd hr
 refine c_region (lS R (lO (vz (.agg [(iv r26.1.Buffer), (iv r26.1.Size), (iv r26.1.From), (iv r26.1.To)].toArray) (v_loadw 0 ag114 sz114 R R R R)) (l_build (K := kT114) (xs := ([r26.1] : List Life)) (vs := [(.agg [(iv r26.1.Buffer), (iv r26.1.Size), (iv r26.1.From), (iv r26.1.To)].toArray)]) 0 R R sl183 sz114 zc114 R R R R R R ?_ R (fun A30 D30 => ?_))))
 exact fun I h s => (mO114).list [(((), (), (), ()), r26.1)] I h s
 refine lN (OO kT114 114 A30 D30 ([r26.1] : List Life) :: _ :: _ :: W1) ?_
 refine lM (ow _ _ _ _ :: ow _ _ _ _ :: bxl _ _ _ :: W1) (fun w s => (s.e 3 [2, 0, 1])) ?_
 refine l_app (K := kT114) 4398046511104 R R sl183 sz114 by114 (Zr.zk zT114 zc114) R R R R R R src_ow hg31 (fun A32 D32 => (lN (OO kT114 114 A32 D32 (x22 ++ ([r26.1] : List Life)) :: _ :: W1) ?_))
 refine lS R (l_nil (q_blockn ?_))
 exact qI ((x22 ++ ([r26.1] : List Life)), (A32, (x22 ++ ([r26.1] : List Life)).length, D32)) hr (fun w s => (s.e 2 [0]))
 refine c_false R hb29 (c_skip (q_blockn ?_))
 exact qI (x22, (A23, x22.length, D23)) hr (fun w s => (s.e 2 [1]))
 rintro ⟨x33, ⟨A34, N34, D34⟩⟩ σ1 hr
 replace hr : spec_Lives_J2 b24 x33 = some out1 := hr
 unfold spec_Lives_J2 at hr
 refine c_len 0 sees_ow (fun (hn : N34 = x33.length) => ?_)
 subst hn
 refine c_region (lI R (lO (vAd R R) (lI R (l_nil ?_))))
 obtain rfl := so hr
 exact qA (A34, x33.length, D34) (fun w s => s)
 refine c_false R hb25 (c_exit (q_exit ?_))
 obtain rfl := so hr
 obtain rfl := he1 _ R
 have hr := hk1
 refine q_exit (q_block ?_)
 exact qI (x22, (A23, x22.length, D23)) hr (fun w s => s)
 rintro ⟨x38, ⟨A39, N39, D39⟩⟩ σ1 hr
 replace hr : spec_Lives_J3 x38 = some r := hr
 unfold spec_Lives_J3 at hr
 refine c_len 0 sees_ow (fun (hn : N39 = x38.length) => ?_)
 subst hn
 refine c_seq (c_region (lS R (lS R (l_nil (q_next (c_ret ?_))))))
 obtain rfl := so hr
 exact qF (A39, x38.length, D39) (fun w s => (s.e 7 [0]))
theorem spec_l12Ok_ok {lives1 : (List Life)} {r : Bool} (hr : spec_l12Ok lives1 = some r) :
 FnOk Try.prog 197 [(.slice A2 N2 D2)] [rds kT114 (.slice A2 N2 D2) lives1] (fun (h : Unit) => ((.bool r), [])) := by
 unfold spec_l12Ok at hr
 refine fn_ok Try.func197 R 43 R R fun C V => ?_
 refine cN (_ :: V) ?_
 refine cL 0 sees_rd ?_
 rintro rfl
 let W0 : List HP := RR kT114 A2 D2 lives1 :: V
 refine cN W0 ?_
 refine c_seq (c_region (lB R (l_nil (q_next (c_seq (c_seq (c_region (lS R (lO (v_len sl183 R) (lO (vGt R R) (l_nil (q_next ?_))))))))))))
 rcases bif_ hr with ⟨hb3, hr⟩ | ⟨hb3, hr⟩
 refine c_true R hb3 (c_seq (c_region (lB R (l_nil (q_next (c_ret (q_ret ?_)))))))
 obtain rfl := so hr
 exact qF () (fun w s => (s.e 1 []))
 refine c_false R hb3 (c_skip (q_next (c_seq (c_cut (A := (Unit) × (Unit)) (fun a => spec_l12Ok_J1 = some r) (fun a => []) (fun a => W0) ?_ ?_))))
 refine c_seq (c_region (lI R (l_nil (q_next (c_block ?_)))))
 obtain ⟨e1, hl1, hk1⟩ := bd hr
 refine c_loop (A := HH) hl1 (fun s a => [(0, (.slice a.1 a.2.1 a.2.2)), (3, (iv s))]) (fun s a => rds kT114 (.slice a.1 a.2.1 a.2.2) lives1 :: W0) (A2, lives1.length, D2) (aS R) (fun w s => (s.d 0 R)) ?_
 rintro i15 ⟨A14, N14, D14⟩ σ1 out1 hr he1
 replace hr : spec_l12Ok_L1 lives1 i15 = some out1 := hr
 unfold spec_l12Ok_L1 at hr
 refine c_len 0 sees_rd (fun (hn : N14 = lives1.length) => ?_)
 subst hn
 refine c_seq (c_seq (c_region (lI R (lS R (lO (v_len sl183 R) (lO (vLt R R) (l_nil (q_next ?_))))))))
 rcases bif_ hr with ⟨hb16, hr⟩ | ⟨hb16, hr⟩
 refine c_true R hb16 (c_skip (q_next (c_seq (c_block (c_seq ?_)))))
 obtain ⟨hg17, hr⟩ := gd hr
 refine c_region (lS R (lI R (t_some 0 sees_rd (show 0 < lives1.length by have := hg17; omega) (fun g18 o19 ha => ?_))))
 subst ha
 refine lO (vIa sl183 sz114 R R hg17) (l_v (.agg [(iv (ix lives1 i15).Buffer), (iv (ix lives1 i15).Size), (iv (ix lives1 i15).From), (iv (ix lives1 i15).To)].toArray) ?_ R R ?_)
 exact (v_ldef (K := kT114) (cells := fun x => [(iv x.Buffer), (iv x.Size), (iv x.From), (iv x.To)]) 0 i15 ag114 sz114 (DecK.flat dT114 fun _ _ => R) sees_rd R hg17.1 hg17.2)
 refine l_alloc R R zc114 (fun b20 => (l_stores 0 R R sz114 R R R R R R (lN (bxl b20 [(iv (ix lives1 i15).Buffer), (iv (ix lives1 i15).Size), (iv (ix lives1 i15).From), (iv (ix lives1 i15).To)] 114 :: RR kT114 (ad g18 o19) D14 lives1 :: W0) ?_)))
 refine l_nil (q_next (c_seq (cQ [(0, (sc (ad g18 o19) lives1 D14)), (3, (iv i15)), (42, (.bool (((((decide ((ix lives1 i15).Size < (1 : Int))) || (decide ((ix lives1 i15).Size > (4096 : Int)))) || (decide ((ix lives1 i15).From < (0 : Int)))) || (decide ((ix lives1 i15).From > (ix lives1 i15).To))) || (decide ((ix lives1 i15).To > (400 : Int))))))] (RR kT114 (ad g18 o19) D14 lives1 :: W0) ?_ ?_)))
 refine c_region (lO (vFa 1 fo114_1 R) (lO (vLd 0 ag3 R R R) (lO (vLt R R) (lB R ?_))))
 rcases bo (decide ((ix lives1 i15).Size < (1 : Int))) with hc21 | hc21
 refine lf (wfT hc21) (lf (wfT hc21) (lf (wfT hc21) (lO (pOT (decide ((ix lives1 i15).Size > (4096 : Int))) R hc21) (lB R (lf (wfT (oT hc21)) (lf (wfT (oT hc21)) (lf (wfT (oT hc21)) (lO (pOT (decide ((ix lives1 i15).From < (0 : Int))) R (oT hc21)) (lB R (lf (wfT (oT (oT hc21))) (lf (wfT (oT (oT hc21))) (lf (wfT (oT (oT hc21))) (lf (wfT (oT (oT hc21))) (lf (wfT (oT (oT hc21))) (lO (pOT (decide ((ix lives1 i15).From > (ix lives1 i15).To)) R (oT (oT hc21))) (lB R (lf (wfT (oT (oT (oT hc21)))) (lf (wfT (oT (oT (oT hc21)))) (lf (wfT (oT (oT (oT hc21)))) (lO (pOT (decide ((ix lives1 i15).To > (400 : Int))) R (oT (oT (oT hc21)))) (l_nil ?_)))))))))))))))))))))
 exact qJ (fun w s => (s.e 2 [1]))
 refine lW (wnF hc21) (vFa 1 fo114_1 R) (lW (wnF hc21) (vLd 0 ag3 R R R) (lW (wnF hc21) (vGt R R) (lO (pOF R hc21 R) (lB R ?_))))
 rcases bo ((decide ((ix lives1 i15).Size < (1 : Int))) || (decide ((ix lives1 i15).Size > (4096 : Int)))) with hc22 | hc22
 refine lf (wfT hc22) (lf (wfT hc22) (lf (wfT hc22) (lO (pOT (decide ((ix lives1 i15).From < (0 : Int))) R hc22) (lB R (lf (wfT (oT hc22)) (lf (wfT (oT hc22)) (lf (wfT (oT hc22)) (lf (wfT (oT hc22)) (lf (wfT (oT hc22)) (lO (pOT (decide ((ix lives1 i15).From > (ix lives1 i15).To)) R (oT hc22)) (lB R (lf (wfT (oT (oT hc22))) (lf (wfT (oT (oT hc22))) (lf (wfT (oT (oT hc22))) (lO (pOT (decide ((ix lives1 i15).To > (400 : Int))) R (oT (oT hc22))) (l_nil ?_))))))))))))))))
 exact qJ (fun w s => (s.e 2 [1]))
 refine lW (wnF hc22) (vFa 2 fo114_2 R) (lW (wnF hc22) (vLd 0 ag3 R R R) (lW (wnF hc22) (vLt R R) (lO (pOF R hc22 R) (lB R ?_))))
 rcases bo (((decide ((ix lives1 i15).Size < (1 : Int))) || (decide ((ix lives1 i15).Size > (4096 : Int)))) || (decide ((ix lives1 i15).From < (0 : Int)))) with hc23 | hc23
 refine lf (wfT hc23) (lf (wfT hc23) (lf (wfT hc23) (lf (wfT hc23) (lf (wfT hc23) (lO (pOT (decide ((ix lives1 i15).From > (ix lives1 i15).To)) R hc23) (lB R (lf (wfT (oT hc23)) (lf (wfT (oT hc23)) (lf (wfT (oT hc23)) (lO (pOT (decide ((ix lives1 i15).To > (400 : Int))) R (oT hc23)) (l_nil ?_)))))))))))
 exact qJ (fun w s => (s.e 2 [1]))
 refine lW (wnF hc23) (vFa 2 fo114_2 R) (lW (wnF hc23) (vLd 0 ag3 R R R) (lW (wnF hc23) (vFa 3 fo114_3 R) (lW (wnF hc23) (vLd 0 ag3 R R R) (lW (wnF hc23) (vGt R R) (lO (pOF R hc23 R) (lB R ?_))))))
 rcases bo ((((decide ((ix lives1 i15).Size < (1 : Int))) || (decide ((ix lives1 i15).Size > (4096 : Int)))) || (decide ((ix lives1 i15).From < (0 : Int)))) || (decide ((ix lives1 i15).From > (ix lives1 i15).To))) with hc24 | hc24
 refine lf (wfT hc24) (lf (wfT hc24) (lf (wfT hc24) (lO (pOT (decide ((ix lives1 i15).To > (400 : Int))) R hc24) (l_nil ?_))))
 exact qJ (fun w s => (s.e 2 [1]))
 refine lW (wnF hc24) (vFa 3 fo114_3 R) (lW (wnF hc24) (vLd 0 ag3 R R R) (lW (wnF hc24) (vGt R R) (lO (pOF R hc24 R) (l_nil ?_))))
 exact qJ (fun w s => (s.e 2 [1]))
 rintro σ1
 refine q_next ?_
 rcases bif_ hr with ⟨hb25, hr⟩ | ⟨hb25, hr⟩
 refine c_true R hb25 (c_seq (c_region (lB R (l_nil (q_next (c_ret (q_blockr (q_ret ?_))))))))
 obtain rfl := so hr
 obtain rfl := he1 _ R
 have hr := hk1
 refine q_ret (q_blockr (q_ret ?_))
 obtain rfl := so hr
 exact qF () (fun w s => (s.e 2 []))
 refine c_false R hb25 (c_skip (q_blockn (q_next (c_region (lI R (lO (vAd R R) (lI R (l_nil ?_))))))))
 obtain rfl := so hr
 exact qA ((ad g18 o19), lives1.length, D14) (fun w s => s)
 refine c_false R hb16 (c_exit (q_exit ?_))
 obtain rfl := so hr
 obtain rfl := he1 _ R
 have hr := hk1
 refine q_exit (q_block ?_)
 exact q_join ((), ()) hr trivial (fun w s => (s.e 1 []))
 rintro ⟨_, _⟩ σ1 hr
 replace hr : spec_l12Ok_J1 = some r := hr
 unfold spec_l12Ok_J1 at hr
 refine c_seq (c_region (lB R (l_nil (q_next (c_ret ?_)))))
 obtain rfl := so hr
 exact qF () (fun w s => (s.e 1 []))
theorem spec_l12Meet_ok {a1 : Life} {b2 : Life} {r : Bool} (hr : spec_l12Meet a1 b2 = some r) :
 FnOk Try.prog 215 [(.agg [(iv a1.Buffer), (iv a1.Size), (iv a1.From), (iv a1.To)].toArray), (.agg [(iv b2.Buffer), (iv b2.Size), (iv b2.From), (iv b2.To)].toArray)] [] (fun (h : Unit) => ((.bool r), [])) := by
 unfold spec_l12Meet at hr
 refine fn_ok Try.func215 R 17 R R fun C V => ?_
 refine cN V ?_
 refine c_seq (c_region (lBx R (fun b3 => (lBx R (fun b4 => (lB R (l_nil ?_)))))))
 let W1 : List HP := bxl b4 [(iv b2.Buffer), (iv b2.Size), (iv b2.From), (iv b2.To)] 114 :: bxl b3 [(iv a1.Buffer), (iv a1.Size), (iv a1.From), (iv a1.To)] 114 :: V
 refine qN W1 ?_
 refine q_next (c_seq (cQ [(4, (.bool ((decide (a1.From ≤ b2.To)) && (decide (b2.From ≤ a1.To)))))] (W1) ?_ ?_))
 refine c_region (lO (vFa 2 fo114_2 R) (lO (vLd 1 ag3 R R R) (lO (vFa 3 fo114_3 R) (lO (vLd 0 ag3 R R R) (lO (vLe R R) (lB R ?_))))))
 rcases bo (decide (a1.From ≤ b2.To)) with hc5 | hc5
 refine lW (wnT hc5) (vFa 2 fo114_2 R) (lW (wnT hc5) (vLd 0 ag3 R R R) (lW (wnT hc5) (vFa 3 fo114_3 R) (lW (wnT hc5) (vLd 1 ag3 R R R) (lW (wnT hc5) (vLe R R) (lO (pAT R hc5 R) (lB R (l_nil ?_)))))))
 exact qJ (fun w s => s)
 refine lf (wfF hc5) (lf (wfF hc5) (lf (wfF hc5) (lf (wfF hc5) (lf (wfF hc5) (lO (pAF (decide (b2.From ≤ a1.To)) R hc5) (lB R (l_nil ?_)))))))
 exact qJ (fun w s => s)
 rintro σ1
 refine q_next (c_ret ?_)
 obtain rfl := so hr
 exact qF () (fun w s => (s.e 2 []))
theorem spec_l12Free_ok {lives1 : (List Life)} {offsets3 : (List Int)} {i5 : Int} {p6 : Int} {r : Bool} (hr : spec_l12Free lives1 offsets3 i5 p6 = some r) :
 FnOk Try.prog 198 [(.slice A2 N2 D2), (.slice A4 N4 D4), (iv i5), (iv p6)] [rds kT114 (.slice A2 N2 D2) lives1, rds kT3 (.slice A4 N4 D4) offsets3] (fun (h : Unit) => ((.bool r), [])) := by
 unfold spec_l12Free at hr
 refine fn_ok Try.func198 R 64 R R fun C V => ?_
 refine cN (_ :: _ :: V) ?_
 refine cL 0 sees_rd ?_
 rintro rfl
 refine cL 1 sees_rd ?_
 rintro rfl
 let W0 : List HP := RR kT114 A2 D2 lives1 :: RR kT3 A4 D4 offsets3 :: V
 refine cN W0 ?_
 refine c_seq (c_region (lB R (l_nil (q_next (c_seq (c_cut (A := (Unit) × (Unit)) (fun a => spec_l12Free_J3 = some r) (fun a => []) (fun a => W0) ?_ ?_))))))
 refine c_seq (c_region (lI R (l_nil (q_next (c_block ?_)))))
 obtain ⟨e1, hl1, hk1⟩ := bd hr
 refine c_loop (A := Unit) hl1 (fun s a => [(0, (sc A2 lives1 D2)), (1, (sc A4 offsets3 D4)), (2, (iv i5)), (3, (iv p6)), (9, (iv s))]) (fun s a => W0) () (aS R) (fun w s => s) ?_
 rintro k29 _ σ1 out1 hr he1
 replace hr : spec_l12Free_L1 lives1 offsets3 i5 p6 k29 = some out1 := hr
 unfold spec_l12Free_L1 at hr
 refine c_seq (c_seq (c_region (lI R (lS R (lO (v_len sl183 R) (lO (vLt R R) (l_nil (q_next ?_))))))))
 rcases bif_ hr with ⟨hb30, hr⟩ | ⟨hb30, hr⟩
 refine c_true R hb30 (c_skip (q_next (c_seq (c_cut (A := (Unit) × (Unit)) (fun a => spec_l12Free_J2 k29 = some out1) (fun a => [(0, (sc A2 lives1 D2)), (1, (sc A4 offsets3 D4)), (2, (iv i5)), (3, (iv p6)), (9, (iv k29))]) (fun a => W0) ?_ ?_))))
 refine c_block (c_seq (c_seq ?_))
 obtain ⟨hg31, hr⟩ := gd hr
 obtain ⟨hg34, hr⟩ := gd hr
 obtain ⟨hg37, hr⟩ := gd hr
 obtain ⟨r38, hx39, hr⟩ := bd hr
 refine cQ [(0, (sc A2 lives1 D2)), (1, (sc A4 offsets3 D4)), (2, (iv i5)), (3, (iv p6)), (9, (iv k29)), (37, (.bool (((k29 == i5) || (decide ((ix offsets3 k29) < (0 : Int)))) || (!r38))))] (W0) ?_ ?_
 rcases bo (k29 == i5) with hc40 | hc40
 refine cdr 22 [] mixo (fun ht hn => (dR 0 R (vI R) (dR 1 R (vI R) (dR 2 R (vEq R R) (dR 3 R (vB R) (dF 4 R (wfT hc40) (dF 5 R (wfT hc40) (dF 6 R (wfT hc40) (dF 7 R (wfT hc40) (dF 8 R (wfT hc40) (dR 9 R (pOT (decide ((ix offsets3 k29) < (0 : Int))) R hc40) (dR 10 R (vB R) (dF 11 R (wfT (oT hc40)) (dF 12 R (wfT (oT hc40)) (dF 13 R (wfT (oT hc40)) (dF 14 R (wfT (oT hc40)) (dF 15 R (wfT (oT hc40)) (dF 16 R (wfT (oT hc40)) (dF 17 R (wfT (oT hc40)) (dF 18 R (wfT (oT hc40)) (dF 19 R (wfT (oT hc40)) (dF 20 R (wfT (oT hc40)) (dR 21 R (pOT (!r38) R (oT hc40)) (d_done (by kernel_rfl) ?_))))))))))))))))))))))))
 exact qJ (fun w s => s)
 rcases bo ((k29 == i5) || (decide ((ix offsets3 k29) < (0 : Int)))) with hc41 | hc41
 refine c_some 1 sees_rd (show 0 < offsets3.length by have := (hg31 hc40); omega) (fun g32 o33 ha => ?_)
 subst ha
 refine cdr 22 [] mixo (fun ht hn => (dR 0 R (vI R) (dR 1 R (vI R) (dR 2 R (vEq R R) (dR 3 R (vB R) (dW 4 R (wnF hc40) (vS R) (dW 5 R (wnF hc40) (vI R) (dW 6 R (wnF hc40) (vIa sl29 sz3 R R (hg31 hc40)) (dW 7 R (wnF hc40) (vLi 1 ag3 sees_rd R (hg31 hc40)) (dW 8 R (wnF hc40) (vLt R R) (dR 9 R (pOF R hc40 R) (dR 10 R (vB R) (dF 11 R (wfT hc41) (dF 12 R (wfT hc41) (dF 13 R (wfT hc41) (dF 14 R (wfT hc41) (dF 15 R (wfT hc41) (dF 16 R (wfT hc41) (dF 17 R (wfT hc41) (dF 18 R (wfT hc41) (dF 19 R (wfT hc41) (dF 20 R (wfT hc41) (dR 21 R (pOT (!r38) R hc41) (d_done (by kernel_rfl) ?_))))))))))))))))))))))))
 exact qJ (fun w s => s)
 refine c_some 1 sees_rd (show 0 < offsets3.length by have := (hg31 hc40); omega) (fun g32 o33 ha => ?_)
 subst ha
 refine c_some 0 sees_rd (show 0 < lives1.length by have := (hg34 hc41); omega) (fun g35 o36 ha => ?_)
 subst ha
 refine cdr 22 [] mixo (fun ht hn => (dR 0 R (vI R) (dR 1 R (vI R) (dR 2 R (vEq R R) (dR 3 R (vB R) (dW 4 R (wnF hc40) (vS R) (dW 5 R (wnF hc40) (vI R) (dW 6 R (wnF hc40) (vIa sl29 sz3 R R (hg31 hc40)) (dW 7 R (wnF hc40) (vLi 1 ag3 sees_rd R (hg31 hc40)) (dW 8 R (wnF hc40) (vLt R R) (dR 9 R (pOF R hc40 R) (dR 10 R (vB R) (dW 11 R (wnF hc41) (vS R) (dW 12 R (wnF hc41) (vI R) (dW 13 R (wnF hc41) (vIa sl183 sz114 R R (hg34 hc41)) (d_v 14 (.agg [(iv (ix lives1 i5).Buffer), (iv (ix lives1 i5).Size), (iv (ix lives1 i5).From), (iv (ix lives1 i5).To)].toArray) R ?_ (wnF hc41) R R ht hn (by kernel_rfl) (sL []) ?_))))))))))))))))
 exact (v_ldef (K := kT114) (cells := fun x => [(iv x.Buffer), (iv x.Size), (iv x.From), (iv x.To)]) 0 i5 ag114 sz114 (DecK.flat dT114 fun _ _ => R) sees_rd R (hg34 hc41).1 (hg34 hc41).2)
 refine dW 15 R (wnF hc41) (vS R) (dW 16 R (wnF hc41) (vI R) (dW 17 R (wnF hc41) (vIa sl183 sz114 R R (hg37 hc41)) (d_v 18 (.agg [(iv (ix lives1 k29).Buffer), (iv (ix lives1 k29).Size), (iv (ix lives1 k29).From), (iv (ix lives1 k29).To)].toArray) R ?_ (wnF hc41) R R ht hn (by kernel_rfl) (sL []) ?_)))
 exact (v_ldef (K := kT114) (cells := fun x => [(iv x.Buffer), (iv x.Size), (iv x.From), (iv x.To)]) 0 k29 ag114 sz114 (DecK.flat dT114 fun _ _ => R) sees_rd R (hg37 hc41).1 (hg37 hc41).2)
 refine d_one 19 (by kernel_rfl) R (l_calln 0 R (wnF hc41) cb215 R (spec_l12Meet_ok (gcall_t hx39 (not_ff hc41))) R ?_)
 rintro _
 refine l_nil (q_draw (sL []) (dW 20 R (wnF hc41) (vNo R) (dR 21 R (pOF R hc41 R) (d_done (by kernel_rfl) ?_))))
 exact qJ (fun w s => s)
 rintro σ1
 refine q_next ?_
 rcases bif_ hr with ⟨hb42, hr⟩ | ⟨hb42, hr⟩
 refine c_true R hb42 (c_exit (q_exit (q_block ?_)))
 exact qI ((), ()) hr (fun w s => s)
 refine c_false R hb42 (c_skip (q_next (c_seq ?_)))
 obtain ⟨hg43, hr⟩ := gd hr
 obtain ⟨hg46, hr⟩ := gd hr
 obtain ⟨hg49, hr⟩ := gd hr
 refine cQ [(0, (sc A2 lives1 D2)), (1, (sc A4 offsets3 D4)), (2, (iv i5)), (3, (iv p6)), (9, (iv k29)), (63, (.bool ((decide (p6 < (w64 ((ix offsets3 k29) + (ix lives1 k29).Size)))) && (decide ((ix offsets3 k29) < (w64 (p6 + (ix lives1 i5).Size)))))))] (W0) ?_ ?_
 rcases bo (decide (p6 < (w64 ((ix offsets3 k29) + (ix lives1 k29).Size)))) with hc50 | hc50
 refine c_some 1 sees_rd (show 0 < offsets3.length by have := hg43; omega) (fun g44 o45 ha => ?_)
 subst ha
 refine c_some 0 sees_rd (show 0 < lives1.length by have := hg46; omega) (fun g47 o48 ha => ?_)
 subst ha
 refine cdr 26 [] mixo (fun ht hn => (dR 0 R (vI R) (dR 1 R (vS R) (dR 2 R (vI R) (dR 3 R (vIa sl29 sz3 R R hg43) (dR 4 R (vLi 1 ag3 sees_rd R hg43) (dR 5 R (vS R) (dR 6 R (vI R) (dR 7 R (vIa sl183 sz114 R R hg46) (dR 8 R (vz (.pointer (some ⟨g47, o48 + k29.toNat * 4 + 1, none⟩)) (v_fa fo114_1 R R)) (dR 9 R (vz (iv (ix lives1 k29).Size) (v_lde (K := kT114) (fo := 1) (pr := fun x => (iv x.Size)) 0 k29 ag3 (dT114.leaf fun _ _ => R) sees_rd R hg46.1 hg46.2)) (dR 10 R (vAd R R) (dR 11 R (vLt R R) (dR 12 R (vB R) (dW 13 R (wnT hc50) (vS R) (dW 14 R (wnT hc50) (vI R) (dW 15 R (wnT hc50) (vIa sl29 sz3 R R hg43) (dW 16 R (wnT hc50) (vLi 1 ag3 sees_rd R hg43) (dW 17 R (wnT hc50) (vI R) (dW 18 R (wnT hc50) (vS R) (dW 19 R (wnT hc50) (vI R) (dW 20 R (wnT hc50) (vIa sl183 sz114 R R (hg49 hc50)) (dW 21 R (wnT hc50) (vz (.pointer (some ⟨g47, o48 + i5.toNat * 4 + 1, none⟩)) (v_fa fo114_1 R R)) (dW 22 R (wnT hc50) (vz (iv (ix lives1 i5).Size) (v_lde (K := kT114) (fo := 1) (pr := fun x => (iv x.Size)) 0 i5 ag3 (dT114.leaf fun _ _ => R) sees_rd R (hg49 hc50).1 (hg49 hc50).2)) (dW 23 R (wnT hc50) (vAd R R) (dW 24 R (wnT hc50) (vLt R R) ?_))))))))))))))))))))))))))
 refine dR 25 R (pAT R hc50 R) (d_done (by kernel_rfl) ?_)
 exact qJ (fun w s => s)
 refine c_some 1 sees_rd (show 0 < offsets3.length by have := hg43; omega) (fun g44 o45 ha => ?_)
 subst ha
 refine c_some 0 sees_rd (show 0 < lives1.length by have := hg46; omega) (fun g47 o48 ha => ?_)
 subst ha
 refine cdr 26 [] mixo (fun ht hn => (dR 0 R (vI R) (dR 1 R (vS R) (dR 2 R (vI R) (dR 3 R (vIa sl29 sz3 R R hg43) (dR 4 R (vLi 1 ag3 sees_rd R hg43) (dR 5 R (vS R) (dR 6 R (vI R) (dR 7 R (vIa sl183 sz114 R R hg46) (dR 8 R (vz (.pointer (some ⟨g47, o48 + k29.toNat * 4 + 1, none⟩)) (v_fa fo114_1 R R)) (dR 9 R (vz (iv (ix lives1 k29).Size) (v_lde (K := kT114) (fo := 1) (pr := fun x => (iv x.Size)) 0 k29 ag3 (dT114.leaf fun _ _ => R) sees_rd R hg46.1 hg46.2)) (dR 10 R (vAd R R) (dR 11 R (vLt R R) (dR 12 R (vB R) (dF 13 R (wfF hc50) (dF 14 R (wfF hc50) (dF 15 R (wfF hc50) (dF 16 R (wfF hc50) (dF 17 R (wfF hc50) (dF 18 R (wfF hc50) (dF 19 R (wfF hc50) (dF 20 R (wfF hc50) (dF 21 R (wfF hc50) (dF 22 R (wfF hc50) (dF 23 R (wfF hc50) (dF 24 R (wfF hc50) (dR 25 R (pAF (decide ((ix offsets3 k29) < (w64 (p6 + (ix lives1 i5).Size)))) R hc50) (d_done (by kernel_rfl) ?_))))))))))))))))))))))))))))
 exact qJ (fun w s => s)
 rintro σ1
 refine q_next ?_
 rcases bif_ hr with ⟨hb51, hr⟩ | ⟨hb51, hr⟩
 refine c_true R hb51 (c_seq (c_region (lB R (l_nil (q_next (c_ret (q_blockr (q_ret ?_))))))))
 obtain rfl := so hr
 obtain rfl := he1 _ R
 have hr := hk1
 refine q_ret (q_blockr (q_ret ?_))
 obtain rfl := so hr
 exact qF () (fun w s => (s.e 2 []))
 refine c_false R hb51 (c_skip (q_blockn ?_))
 exact qI ((), ()) hr (fun w s => s)
 rintro ⟨_, _⟩ σ1 hr
 replace hr : spec_l12Free_J2 k29 = some out1 := hr
 unfold spec_l12Free_J2 at hr
 refine c_region (lI R (lO (vAd R R) (lI R (l_nil ?_))))
 obtain rfl := so hr
 exact qA () (fun w s => s)
 refine c_false R hb30 (c_exit (q_exit ?_))
 obtain rfl := so hr
 obtain rfl := he1 _ R
 have hr := hk1
 refine q_exit (q_block ?_)
 exact q_join ((), ()) hr trivial (fun w s => s)
 rintro ⟨_, _⟩ σ1 hr
 replace hr : spec_l12Free_J3 = some r := hr
 unfold spec_l12Free_J3 at hr
 refine c_seq (c_region (lB R (l_nil (q_next (c_ret ?_)))))
 obtain rfl := so hr
 exact qF () (fun w s => (s.e 2 []))
theorem spec_PackOk_ok {lives1 : (List Life)} {offsets3 : (List Int)} {r : Bool} (hr : spec_PackOk lives1 offsets3 = some r) :
 FnOk Try.prog 145 [(.slice A2 N2 D2), (.slice A4 N4 D4)] [rds kT114 (.slice A2 N2 D2) lives1, rds kT3 (.slice A4 N4 D4) offsets3] (fun (h : Unit) => ((.bool r), [])) := by
 unfold spec_PackOk at hr
 refine fn_ok Try.func145 R 50 R R fun C V => ?_
 refine cN (_ :: _ :: V) ?_
 refine cL 0 sees_rd ?_
 rintro rfl
 refine cL 1 sees_rd ?_
 rintro rfl
 let W0 : List HP := RR kT114 A2 D2 lives1 :: RR kT3 A4 D4 offsets3 :: V
 refine cN W0 ?_
 refine c_seq (c_region (lB R (l_nil (q_next (c_seq (c_seq ?_))))))
 obtain ⟨r5, hx6, hr⟩ := bd hr
 refine cQ [(0, (sc A2 lives1 D2)), (1, (sc A4 offsets3 D4)), (16, (.bool ((!r5) || ((offsets3.length : Int) != (lives1.length : Int)))))] (W0) ?_ ?_
 refine c_region (lS R (lM (RR kT114 A2 D2 lives1 :: W0) (fun w s => (s.d 0 R)) ?_))
 refine lC 1 cb197 R (spec_l12Ok_ok hx6) R ?_
 rintro _
 refine lN W0 ?_
 refine lO (vNo R) (lB R ?_)
 rcases bo (!r5) with hc7 | hc7
 refine lf (wfT hc7) (lf (wfT hc7) (lf (wfT hc7) (lf (wfT hc7) (lf (wfT hc7) (lO (pOT ((offsets3.length : Int) != (lives1.length : Int)) R hc7) (l_nil ?_))))))
 exact qJ (fun w s => s)
 refine lW (wnF hc7) (vS R) (lW (wnF hc7) (v_len sl29 R) (lW (wnF hc7) (vS R) (lW (wnF hc7) (v_len sl183 R) (lW (wnF hc7) (vNe R R) (lO (pOF R hc7 R) (l_nil ?_))))))
 exact qJ (fun w s => s)
 rintro σ1
 refine q_next ?_
 rcases bif_ hr with ⟨hb8, hr⟩ | ⟨hb8, hr⟩
 refine c_true R hb8 (c_seq (c_region (lB R (l_nil (q_next (c_ret (q_ret ?_)))))))
 obtain rfl := so hr
 exact qF () (fun w s => (s.e 2 []))
 refine c_false R hb8 (c_skip (q_next (c_seq (c_cut (A := (Unit) × (Unit)) (fun a => spec_PackOk_J1 lives1 offsets3 = some r) (fun a => [(0, (sc A2 lives1 D2)), (1, (sc A4 offsets3 D4))]) (fun a => W0) ?_ ?_))))
 refine c_seq (c_region (lI R (l_nil (q_next (c_block ?_)))))
 obtain ⟨e1, hl1, hk1⟩ := bd hr
 refine c_loop (A := Unit) hl1 (fun s a => [(0, (sc A2 lives1 D2)), (1, (sc A4 offsets3 D4)), (5, (iv s))]) (fun s a => W0) () (aS R) (fun w s => s) ?_
 rintro i15 _ σ1 out1 hr he1
 replace hr : spec_PackOk_L1 lives1 offsets3 i15 = some out1 := hr
 unfold spec_PackOk_L1 at hr
 refine c_seq (c_seq (c_region (lI R (lS R (lO (v_len sl183 R) (lO (vLt R R) (l_nil (q_next ?_))))))))
 rcases bif_ hr with ⟨hb16, hr⟩ | ⟨hb16, hr⟩
 refine c_true R hb16 (c_skip (q_next (c_seq (c_block (c_seq ?_)))))
 obtain ⟨hg17, hr⟩ := gd hr
 refine cQ [(0, (sc A2 lives1 D2)), (1, (sc A4 offsets3 D4)), (5, (iv i15)), (34, (.bool ((decide ((ix offsets3 i15) < (0 : Int))) || (decide ((ix offsets3 i15) > (1000000 : Int))))))] (W0) ?_ ?_
 refine c_region (lS R (lI R (t_some 1 sees_rd (show 0 < offsets3.length by have := hg17; omega) (fun g18 o19 ha => ?_))))
 subst ha
 refine lO (vIa sl29 sz3 R R hg17) (lO (vLi 1 ag3 sees_rd R hg17) (lO (vLt R R) (lB R ?_)))
 rcases bo (decide ((ix offsets3 i15) < (0 : Int))) with hc20 | hc20
 refine lf (wfT hc20) (lf (wfT hc20) (lf (wfT hc20) (lf (wfT hc20) (lf (wfT hc20) (lO (pOT (decide ((ix offsets3 i15) > (1000000 : Int))) R hc20) (l_nil ?_))))))
 exact qJ (fun w s => s)
 refine lW (wnF hc20) (vS R) (lW (wnF hc20) (vI R) (lW (wnF hc20) (vIa sl29 sz3 R R hg17) (lW (wnF hc20) (vLi 1 ag3 sees_rd R hg17) (lW (wnF hc20) (vGt R R) (lO (pOF R hc20 R) (l_nil ?_))))))
 exact qJ (fun w s => s)
 rintro σ1
 refine q_next ?_
 rcases bif_ hr with ⟨hb21, hr⟩ | ⟨hb21, hr⟩
 refine c_true R hb21 (c_seq (c_region (lB R (l_nil (q_next (c_ret (q_blockr (q_ret ?_))))))))
 obtain rfl := so hr
 obtain rfl := he1 _ R
 have hr := hk1
 refine q_ret (q_blockr (q_ret ?_))
 obtain rfl := so hr
 exact qF () (fun w s => (s.e 2 []))
 refine c_false R hb21 (c_skip (q_blockn (q_next (c_region (lI R (lO (vAd R R) (lI R (l_nil ?_))))))))
 obtain rfl := so hr
 exact qA () (fun w s => s)
 refine c_false R hb16 (c_exit (q_exit ?_))
 obtain rfl := so hr
 obtain rfl := he1 _ R
 have hr := hk1
 refine q_exit (q_block ?_)
 exact qI ((), ()) hr (fun w s => s)
 rintro ⟨_, _⟩ σ1 hr
 replace hr : spec_PackOk_J1 lives1 offsets3 = some r := hr
 unfold spec_PackOk_J1 at hr
 refine c_seq (c_cut (A := (Unit) × (Unit)) (fun a => spec_PackOk_J2 = some r) (fun a => []) (fun a => W0) ?_ ?_)
 refine c_seq (c_region (lI R (l_nil (q_next (c_block ?_)))))
 obtain ⟨e2, hl2, hk2⟩ := bd hr
 refine c_loop (A := Unit) hl2 (fun s a => [(0, (sc A2 lives1 D2)), (1, (sc A4 offsets3 D4)), (6, (iv s))]) (fun s a => W0) () (aS R) (fun w s => s) ?_
 rintro i30 _ σ1 out2 hr he2
 replace hr : spec_PackOk_L2 lives1 offsets3 i30 = some out2 := hr
 unfold spec_PackOk_L2 at hr
 refine c_seq (c_seq (c_region (lI R (lS R (lO (v_len sl183 R) (lO (vLt R R) (l_nil (q_next ?_))))))))
 rcases bif_ hr with ⟨hb31, hr⟩ | ⟨hb31, hr⟩
 refine c_true R hb31 (c_skip (q_next (c_seq (c_block (c_seq ?_)))))
 obtain ⟨hg32, hr⟩ := gd hr
 obtain ⟨r35, hx36, hr⟩ := bd hr
 refine c_region (lS R (lS R (lI R (lS R (lI R (t_some 1 sees_rd (show 0 < offsets3.length by have := hg32; omega) (fun g33 o34 ha => ?_)))))))
 subst ha
 refine lO (vIa sl29 sz3 R R hg32) (lO (vLi 1 ag3 sees_rd R hg32) (lM (RR kT114 A2 D2 lives1 :: RR kT3 (ad g33 o34) D4 offsets3 :: W0) (fun w s => (((s.d 0 R).d 2 R).e 2 [1, 0])) ?_))
 refine lC 2 cb198 R (spec_l12Free_ok hx36) R ?_
 rintro _
 refine lN W0 ?_
 refine lO (vNo R) (l_nil (q_next ?_))
 rcases bif_ hr with ⟨hb37, hr⟩ | ⟨hb37, hr⟩
 refine c_true R hb37 (c_seq (c_region (lB R (l_nil (q_next (c_ret (q_blockr (q_ret ?_))))))))
 obtain rfl := so hr
 obtain rfl := he2 _ R
 have hr := hk2
 refine q_ret (q_blockr (q_ret ?_))
 obtain rfl := so hr
 exact qF () (fun w s => (s.e 2 []))
 refine c_false R hb37 (c_skip (q_blockn (q_next (c_region (lI R (lO (vAd R R) (lI R (l_nil ?_))))))))
 obtain rfl := so hr
 exact qA () (fun w s => s)
 refine c_false R hb31 (c_exit (q_exit ?_))
 obtain rfl := so hr
 obtain rfl := he2 _ R
 have hr := hk2
 refine q_exit (q_block ?_)
 exact q_join ((), ()) hr trivial (fun w s => s)
 rintro ⟨_, _⟩ σ1 hr
 replace hr : spec_PackOk_J2 = some r := hr
 unfold spec_PackOk_J2 at hr
 refine c_seq (c_region (lB R (l_nil (q_next (c_ret ?_)))))
 obtain rfl := so hr
 exact qF () (fun w s => (s.e 2 []))
end Go.Proofs.Ytbdchgofcejiiaa
