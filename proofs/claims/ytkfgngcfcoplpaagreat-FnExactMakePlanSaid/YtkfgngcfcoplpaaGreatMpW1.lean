import Derived.Test.YtkfgngcfcoplpaaGreatMpF
set_option linter.unusedVariables false
set_option maxRecDepth 20000
namespace Go.Proofs.YtkfgngcfcoplpaaGreat
open Go Go.Pg
variable {A2 A3 A4 A5 A6 A7 : Option Addr} {D2 D3 D4 D5 D6 D7 N2 N3 N4 N5 N6 N7 : Nat}
theorem Z0w_ok  {a1 : (List Int)} {left3 : Int} {r : Int} (hr : Z0w a1 left3 = some r) :
 FnOk Tryz.prog 23 [(.slice A2 N2 D2), (iv left3)] [rds kT3 (.slice A2 N2 D2) a1] (fun (h : Unit) => ((iv r), [])) := by
 unfold Z0w at hr
 refine fn_ok Tryz.func23 R 12 R R fun C V => ?_
 refine cN (_ :: V) ?_
 refine cL 0 sees_rd ?_
 rintro rfl
 let W0 : List HP := RR kT3 A2 D2 a1 :: V
 refine cN W0 ?_
 refine c_seq (c_region (lI R (l_nil (q_next (c_seq (c_region (lI R (lS R (lO (v_len sl22 R) (lO (vSb R R) (lI R (l_nil (q_next (c_seq (c_seq (c_region (lI R (lO (vLt R R) (l_nil (q_next ?_))))))))))))))))))))
 rcases bif_ hr with ⟨hb4, hr⟩ | ⟨hb4, hr⟩
 refine c_true R hb4 (c_seq (c_region (lI R (l_nil (q_next (c_ret (q_ret ?_)))))))
 obtain rfl := so hr
 exact qF () (fun w s => (s.e 1 []))
 refine c_false R hb4 (c_skip (q_next (c_seq (c_region (lI R (lI R (l_nil (q_next (c_ret ?_)))))))))
 obtain rfl := so hr
 exact qF () (fun w s => (s.e 1 []))
theorem Z1h_ok  {a1 : Fix} {left3 : Int} {r : Int} (hr : Z1h a1 left3 = some r) :
 FnOk Tryz.prog 84 [(.agg [(iv a1.Buffer), (.slice A2 N2 D2)].toArray), (iv left3)] [rds kT3 (.slice A2 N2 D2) a1.Data] (fun (h : Unit) => ((iv r), [])) := by
 unfold Z1h at hr
 refine fn_ok Tryz.func84 R 12 R R fun C V => ?_
 refine cN (_ :: V) ?_
 refine cL 0 sees_rd ?_
 rintro rfl
 let W0 : List HP := RR kT3 A2 D2 a1.Data :: V
 refine cN W0 ?_
 refine c_seq (c_region (lBx R (fun b4 => (lI R (l_nil ?_)))))
 let W1 : List HP := bxl b4 [(iv a1.Buffer), (sc A2 a1.Data D2)] 115 :: W0
 refine qN W1 ?_
 refine q_next (c_seq ?_)
 obtain ⟨r5, hx6, hr⟩ := bd hr
 refine c_region (lO (vFa 1 fo115_1 R) (lO (vLd 0 ag22 R R R) (lI R (lM (RR kT3 A2 D2 a1.Data :: W1) (fun w s => (s.d 1 R)) ?_))))
 refine lC 1 cb23 R (Z0w_ok hx6) R ?_
 rintro _
 refine lN W1 ?_
 refine lI R (l_nil (q_next (c_seq (c_seq (c_region (lI R (lO (vLt R R) (l_nil (q_next ?_)))))))))
 rcases bif_ hr with ⟨hb7, hr⟩ | ⟨hb7, hr⟩
 refine c_true R hb7 (c_seq (c_region (lI R (l_nil (q_next (c_ret (q_ret ?_)))))))
 obtain rfl := so hr
 exact qF () (fun w s => (s.e 2 []))
 refine c_false R hb7 (c_skip (q_next (c_seq (c_region (lI R (lI R (l_nil (q_next (c_ret ?_)))))))))
 obtain rfl := so hr
 exact qF () (fun w s => (s.e 2 []))
theorem Z0q_ok  {a1 : (List Fix)} {left3 : Int} {r : Int} (hr : Z0q a1 left3 = some r) :
 FnOk Tryz.prog 47 [(.slice A2 N2 D2), (iv left3)] [rds kT115 (.slice A2 N2 D2) a1] (fun (h : Unit) => ((iv r), [])) := by
 unfold Z0q at hr
 refine fn_ok Tryz.func47 R 27 R R fun C V => ?_
 refine cN (_ :: V) ?_
 refine cL 0 sees_rd ?_
 rintro rfl
 let W0 : List HP := RR kT115 A2 D2 a1 :: V
 refine cN W0 ?_
 refine c_seq (c_region (lI R (l_nil (q_next (c_seq (c_region (lI R (lS R (lO (v_len sl23 R) (lO (vSb R R) (lI R (l_nil (q_next (c_seq (c_seq (c_region (lI R (lO (vLt R R) (l_nil (q_next ?_))))))))))))))))))))
 rcases bif_ hr with ⟨hb4, hr⟩ | ⟨hb4, hr⟩
 refine c_true R hb4 (c_seq (c_region (lI R (l_nil (q_next (c_ret (q_ret ?_)))))))
 obtain rfl := so hr
 exact qF () (fun w s => (s.e 1 []))
 refine c_false R hb4 (c_skip (q_next (c_seq (c_cut (A := (Int) × (Unit)) (fun a => Z0q_J1 a.1 = some r) (fun a => [(1, (iv a.1))]) (fun a => W0) ?_ ?_))))
 refine c_seq (c_region (lI R (l_nil (q_next (c_block ?_)))))
 obtain ⟨e1, hl1, hk1⟩ := bd hr
 refine c_loop (A := Unit) hl1 (fun s a => [(0, (sc A2 a1 D2)), (1, (iv s.1)), (5, (iv s.2))]) (fun s a => W0) () (aS R) (fun w s => s) ?_
 rintro ⟨left13, i14⟩ _ σ1 out1 hr he1
 replace hr : Z0q_L1 a1 left13 i14 = some out1 := hr
 unfold Z0q_L1 at hr
 refine c_seq (c_seq (c_region (lI R (lS R (lO (v_len sl23 R) (lO (vLt R R) (l_nil (q_next ?_))))))))
 rcases bif_ hr with ⟨hb15, hr⟩ | ⟨hb15, hr⟩
 refine c_true R hb15 (c_skip (q_next (c_seq (c_block (c_seq ?_)))))
 obtain ⟨hg16, hr⟩ := gd hr
 obtain ⟨r20, hx21, hr⟩ := bd hr
 refine c_region (lS R (lI R (t_some 0 sees_rd (show 0 < a1.length by have := hg16; omega) (fun g17 o18 ha => ?_))))
 subst ha
 refine lO (vIa sl23 sz115 R R hg16) (t_elem (K := kT115) 0 i14 dT115.dec R hg16.1 hg16.2 ?_)
 rintro ⟨-, ⟨A19, D19⟩⟩
 refine lN (cl g17 (o18 + i14.toNat * 2) [(iv (ix a1 i14).Buffer), (sc A19 ((ix a1 i14).Data) D19)] :: RR kT3 A19 D19 ((ix a1 i14).Data) :: W0) ?_
 refine lO (vz (.agg [(iv (ix a1 i14).Buffer), (sc A19 ((ix a1 i14).Data) D19)].toArray) (v_clfs (fo := 0) 0 ag115 sz115 R R R R)) (lI R (lM (_ :: _ :: _ :: W0) (fun w s => (s.d 1 R)) ?_))
 refine lC 1 cb84 R (Z1h_ok hx21) R ?_
 rintro _
 refine lN (_ :: _ :: W0) ?_
 refine lI R (l_nil (q_next (c_seq (c_region (lI R (lO (vLt R R) (l_nil (q_next ?_))))))))
 rcases bif_ hr with ⟨hb22, hr⟩ | ⟨hb22, hr⟩
 refine c_true R hb22 (c_seq (c_region (lI R (l_nil (q_next (c_ret (q_blockr (q_ret ?_))))))))
 obtain rfl := so hr
 obtain rfl := he1 _ R
 have hr := hk1
 refine q_ret (q_blockr (q_ret ?_))
 obtain rfl := so hr
 exact qF () (fun w s => (s.e 3 []))
 refine c_false R hb22 (c_skip (q_blockn (q_next (c_region (lI R (lO (vAd R R) (lI R (l_nil ?_))))))))
 obtain rfl := so hr
 exact qA () (fun w s => (s.e 2 []))
 refine c_false R hb15 (c_exit (q_exit ?_))
 obtain rfl := so hr
 obtain rfl := he1 _ R
 have hr := hk1
 refine q_exit (q_block ?_)
 exact qI (left13, ()) hr (fun w s => s)
 rintro ⟨left25, _⟩ σ1 hr
 replace hr : Z0q_J1 left25 = some r := hr
 unfold Z0q_J1 at hr
 refine c_seq (c_region (lI R (lI R (l_nil (q_next (c_ret ?_))))))
 obtain rfl := so hr
 exact qF () (fun w s => (s.e 1 []))
theorem Z16_ok  {a1 : Access} {left3 : Int} {r : Int} (hr : Z16 a1 left3 = some r) :
 FnOk Tryz.prog 135 [(.agg [(iv a1.Buffer), (iv a1.Offset), (.slice A2 N2 D2)].toArray), (iv left3)] [rds kT3 (.slice A2 N2 D2) a1.Steps] (fun (h : Unit) => ((iv r), [])) := by
 unfold Z16 at hr
 refine fn_ok Tryz.func135 R 12 R R fun C V => ?_
 refine cN (_ :: V) ?_
 refine cL 0 sees_rd ?_
 rintro rfl
 let W0 : List HP := RR kT3 A2 D2 a1.Steps :: V
 refine cN W0 ?_
 refine c_seq (c_region (lBx R (fun b4 => (lI R (l_nil ?_)))))
 let W1 : List HP := bxl b4 [(iv a1.Buffer), (iv a1.Offset), (sc A2 a1.Steps D2)] 118 :: W0
 refine qN W1 ?_
 refine q_next (c_seq ?_)
 obtain ⟨r5, hx6, hr⟩ := bd hr
 refine c_region (lO (vFa 2 fo118_2 R) (lO (vLd 0 ag22 R R R) (lI R (lM (RR kT3 A2 D2 a1.Steps :: W1) (fun w s => (s.d 1 R)) ?_))))
 refine lC 1 cb23 R (Z0w_ok hx6) R ?_
 rintro _
 refine lN W1 ?_
 refine lI R (l_nil (q_next (c_seq (c_seq (c_region (lI R (lO (vLt R R) (l_nil (q_next ?_)))))))))
 rcases bif_ hr with ⟨hb7, hr⟩ | ⟨hb7, hr⟩
 refine c_true R hb7 (c_seq (c_region (lI R (l_nil (q_next (c_ret (q_ret ?_)))))))
 obtain rfl := so hr
 exact qF () (fun w s => (s.e 2 []))
 refine c_false R hb7 (c_skip (q_next (c_seq (c_region (lI R (lI R (l_nil (q_next (c_ret ?_)))))))))
 obtain rfl := so hr
 exact qF () (fun w s => (s.e 2 []))
theorem Z0p_ok  {a1 : (List Access)} {left3 : Int} {r : Int} (hr : Z0p a1 left3 = some r) :
 FnOk Tryz.prog 134 [(.slice A2 N2 D2), (iv left3)] [rds kT118 (.slice A2 N2 D2) a1] (fun (h : Unit) => ((iv r), [])) := by
 unfold Z0p at hr
 refine fn_ok Tryz.func134 R 27 R R fun C V => ?_
 refine cN (_ :: V) ?_
 refine cL 0 sees_rd ?_
 rintro rfl
 let W0 : List HP := RR kT118 A2 D2 a1 :: V
 refine cN W0 ?_
 refine c_seq (c_region (lI R (l_nil (q_next (c_seq (c_region (lI R (lS R (lO (v_len sl117 R) (lO (vSb R R) (lI R (l_nil (q_next (c_seq (c_seq (c_region (lI R (lO (vLt R R) (l_nil (q_next ?_))))))))))))))))))))
 rcases bif_ hr with ⟨hb4, hr⟩ | ⟨hb4, hr⟩
 refine c_true R hb4 (c_seq (c_region (lI R (l_nil (q_next (c_ret (q_ret ?_)))))))
 obtain rfl := so hr
 exact qF () (fun w s => (s.e 1 []))
 refine c_false R hb4 (c_skip (q_next (c_seq (c_cut (A := (Int) × (Unit)) (fun a => Z0p_J1 a.1 = some r) (fun a => [(1, (iv a.1))]) (fun a => W0) ?_ ?_))))
 refine c_seq (c_region (lI R (l_nil (q_next (c_block ?_)))))
 obtain ⟨e1, hl1, hk1⟩ := bd hr
 refine c_loop (A := Unit) hl1 (fun s a => [(0, (sc A2 a1 D2)), (1, (iv s.1)), (5, (iv s.2))]) (fun s a => W0) () (aS R) (fun w s => s) ?_
 rintro ⟨left13, i14⟩ _ σ1 out1 hr he1
 replace hr : Z0p_L1 a1 left13 i14 = some out1 := hr
 unfold Z0p_L1 at hr
 refine c_seq (c_seq (c_region (lI R (lS R (lO (v_len sl117 R) (lO (vLt R R) (l_nil (q_next ?_))))))))
 rcases bif_ hr with ⟨hb15, hr⟩ | ⟨hb15, hr⟩
 refine c_true R hb15 (c_skip (q_next (c_seq (c_block (c_seq ?_)))))
 obtain ⟨hg16, hr⟩ := gd hr
 obtain ⟨r20, hx21, hr⟩ := bd hr
 refine c_region (lS R (lI R (t_some 0 sees_rd (show 0 < a1.length by have := hg16; omega) (fun g17 o18 ha => ?_))))
 subst ha
 refine lO (vIa sl117 sz118 R R hg16) (t_elem (K := kT118) 0 i14 dT118.dec R hg16.1 hg16.2 ?_)
 rintro ⟨-, -, ⟨A19, D19⟩⟩
 refine lN (cl g17 (o18 + i14.toNat * 3) [(iv (ix a1 i14).Buffer), (iv (ix a1 i14).Offset), (sc A19 ((ix a1 i14).Steps) D19)] :: RR kT3 A19 D19 ((ix a1 i14).Steps) :: W0) ?_
 refine lO (vz (.agg [(iv (ix a1 i14).Buffer), (iv (ix a1 i14).Offset), (sc A19 ((ix a1 i14).Steps) D19)].toArray) (v_clfs (fo := 0) 0 ag118 sz118 R R R R)) (lI R (lM (_ :: _ :: _ :: W0) (fun w s => (s.d 1 R)) ?_))
 refine lC 1 cb135 R (Z16_ok hx21) R ?_
 rintro _
 refine lN (_ :: _ :: W0) ?_
 refine lI R (l_nil (q_next (c_seq (c_region (lI R (lO (vLt R R) (l_nil (q_next ?_))))))))
 rcases bif_ hr with ⟨hb22, hr⟩ | ⟨hb22, hr⟩
 refine c_true R hb22 (c_seq (c_region (lI R (l_nil (q_next (c_ret (q_blockr (q_ret ?_))))))))
 obtain rfl := so hr
 obtain rfl := he1 _ R
 have hr := hk1
 refine q_ret (q_blockr (q_ret ?_))
 obtain rfl := so hr
 exact qF () (fun w s => (s.e 3 []))
 refine c_false R hb22 (c_skip (q_blockn (q_next (c_region (lI R (lO (vAd R R) (lI R (l_nil ?_))))))))
 obtain rfl := so hr
 exact qA () (fun w s => (s.e 2 []))
 refine c_false R hb15 (c_exit (q_exit ?_))
 obtain rfl := so hr
 obtain rfl := he1 _ R
 have hr := hk1
 refine q_exit (q_block ?_)
 exact qI (left13, ()) hr (fun w s => s)
 rintro ⟨left25, _⟩ σ1 hr
 replace hr : Z0p_J1 left25 = some r := hr
 unfold Z0p_J1 at hr
 refine c_seq (c_region (lI R (lI R (l_nil (q_next (c_ret ?_))))))
 obtain rfl := so hr
 exact qF () (fun w s => (s.e 1 []))
theorem Z22_ok  {a1 : (List Calc)} {left3 : Int} {r : Int} (hr : Z22 a1 left3 = some r) :
 FnOk Tryz.prog 136 [(.slice A2 N2 D2), (iv left3)] [rds kT187 (.slice A2 N2 D2) a1] (fun (h : Unit) => ((iv r), [])) := by
 unfold Z22 at hr
 refine fn_ok Tryz.func136 R 12 R R fun C V => ?_
 refine cN (_ :: V) ?_
 refine cL 0 sees_rd ?_
 rintro rfl
 let W0 : List HP := RR kT187 A2 D2 a1 :: V
 refine cN W0 ?_
 refine c_seq (c_region (lI R (l_nil (q_next (c_seq (c_region (lI R (lS R (lO (v_len sl119 R) (lO (vSb R R) (lI R (l_nil (q_next (c_seq (c_seq (c_region (lI R (lO (vLt R R) (l_nil (q_next ?_))))))))))))))))))))
 rcases bif_ hr with ⟨hb4, hr⟩ | ⟨hb4, hr⟩
 refine c_true R hb4 (c_seq (c_region (lI R (l_nil (q_next (c_ret (q_ret ?_)))))))
 obtain rfl := so hr
 exact qF () (fun w s => (s.e 1 []))
 refine c_false R hb4 (c_skip (q_next (c_seq (c_region (lI R (lI R (l_nil (q_next (c_ret ?_)))))))))
 obtain rfl := so hr
 exact qF () (fun w s => (s.e 1 []))
theorem Z1k_ok  {a1 : Kernel} {left6 : Int} {r : Int} (hr : Z1k a1 left6 = some r) :
 FnOk Tryz.prog 85 [(.agg [(.slice A2 N2 D2), (.slice A3 N3 D3), (iv a1.Store.Buffer), (iv a1.Store.Offset), (.slice A4 N4 D4), (.bool a1.Sum), (.slice A5 N5 D5)].toArray), (iv left6)] [rds kT3 (.slice A2 N2 D2) a1.Loops, rds kT118 (.slice A3 N3 D3) a1.Loads, rds kT3 (.slice A4 N4 D4) a1.Store.Steps, rds kT187 (.slice A5 N5 D5) a1.Code] (fun (h : Unit) => ((iv r), [])) := by
 unfold Z1k at hr
 refine fn_ok Tryz.func85 R 30 R R fun C V => ?_
 refine cN (_ :: _ :: _ :: _ :: V) ?_
 refine cL 0 sees_rd ?_
 rintro rfl
 refine cL 1 sees_rd ?_
 rintro rfl
 refine cL 2 sees_rd ?_
 rintro rfl
 refine cL 3 sees_rd ?_
 rintro rfl
 let W0 : List HP := RR kT3 A2 D2 a1.Loops :: RR kT118 A3 D3 a1.Loads :: RR kT3 A4 D4 a1.Store.Steps :: RR kT187 A5 D5 a1.Code :: V
 refine cN W0 ?_
 refine c_seq (c_region (lBx R (fun b7 => (lI R (l_nil ?_)))))
 let W1 : List HP := bxl b7 [(sc A2 a1.Loops D2), (sc A3 a1.Loads D3), (iv a1.Store.Buffer), (iv a1.Store.Offset), (sc A4 a1.Store.Steps D4), (.bool a1.Sum), (sc A5 a1.Code D5)] 121 :: W0
 refine qN W1 ?_
 refine q_next (c_seq ?_)
 obtain ⟨r8, hx9, hr⟩ := bd hr
 refine c_region (lO (vFa 0 fo121_0 R) (lO (vLd 0 ag22 R R R) (lI R (lM (RR kT3 A2 D2 a1.Loops :: W1) (fun w s => (s.d 1 R)) ?_))))
 refine lC 1 cb23 R (Z0w_ok hx9) R ?_
 rintro _
 refine lN W1 ?_
 refine lI R (l_nil (q_next (c_seq (c_seq (c_region (lI R (lO (vLt R R) (l_nil (q_next ?_)))))))))
 rcases bif_ hr with ⟨hb10, hr⟩ | ⟨hb10, hr⟩
 refine c_true R hb10 (c_seq (c_region (lI R (l_nil (q_next (c_ret (q_ret ?_)))))))
 obtain rfl := so hr
 exact qF () (fun w s => (s.e 5 []))
 refine c_false R hb10 (c_skip (q_next (c_seq ?_)))
 obtain ⟨r11, hx12, hr⟩ := bd hr
 refine c_region (lO (vFa 1 fo121_1 R) (lO (vLd 0 ag117 R R R) (lI R (lM (RR kT118 A3 D3 a1.Loads :: W1) (fun w s => (s.d 2 R)) ?_))))
 refine lC 1 cb134 R (Z0p_ok hx12) R ?_
 rintro _
 refine lN W1 ?_
 refine lI R (l_nil (q_next (c_seq (c_seq (c_region (lI R (lO (vLt R R) (l_nil (q_next ?_)))))))))
 rcases bif_ hr with ⟨hb13, hr⟩ | ⟨hb13, hr⟩
 refine c_true R hb13 (c_seq (c_region (lI R (l_nil (q_next (c_ret (q_ret ?_)))))))
 obtain rfl := so hr
 exact qF () (fun w s => (s.e 5 []))
 refine c_false R hb13 (c_skip (q_next (c_seq ?_)))
 obtain ⟨r14, hx15, hr⟩ := bd hr
 refine c_region (lO (vFa 2 fo121_2 R) (lO (vz (.agg [(iv a1.Store.Buffer), (iv a1.Store.Offset), (sc A4 a1.Store.Steps D4)].toArray) (v_loadw 0 ag118 sz118 R R R R)) (lI R (lM (RR kT3 A4 D4 a1.Store.Steps :: W1) (fun w s => (s.d 3 R)) ?_))))
 refine lC 1 cb135 R (Z16_ok hx15) R ?_
 rintro _
 refine lN W1 ?_
 refine lI R (l_nil (q_next (c_seq (c_seq (c_region (lI R (lO (vLt R R) (l_nil (q_next ?_)))))))))
 rcases bif_ hr with ⟨hb16, hr⟩ | ⟨hb16, hr⟩
 refine c_true R hb16 (c_seq (c_region (lI R (l_nil (q_next (c_ret (q_ret ?_)))))))
 obtain rfl := so hr
 exact qF () (fun w s => (s.e 5 []))
 refine c_false R hb16 (c_skip (q_next (c_seq ?_)))
 obtain ⟨r17, hx18, hr⟩ := bd hr
 refine c_region (lO (vFa 6 fo121_4 R) (lO (vLd 0 ag119 R R R) (lI R (lM (RR kT187 A5 D5 a1.Code :: W1) (fun w s => (s.d 4 R)) ?_))))
 refine lC 1 cb136 R (Z22_ok hx18) R ?_
 rintro _
 refine lN W1 ?_
 refine lI R (l_nil (q_next (c_seq (c_seq (c_region (lI R (lO (vLt R R) (l_nil (q_next ?_)))))))))
 rcases bif_ hr with ⟨hb19, hr⟩ | ⟨hb19, hr⟩
 refine c_true R hb19 (c_seq (c_region (lI R (l_nil (q_next (c_ret (q_ret ?_)))))))
 obtain rfl := so hr
 exact qF () (fun w s => (s.e 5 []))
 refine c_false R hb19 (c_skip (q_next (c_seq (c_region (lI R (lI R (l_nil (q_next (c_ret ?_)))))))))
 obtain rfl := so hr
 exact qF () (fun w s => (s.e 5 []))
theorem Z0o_ok  {a1 : (List Kernel)} {left3 : Int} {r : Int} (hr : Z0o a1 left3 = some r) :
 FnOk Tryz.prog 48 [(.slice A2 N2 D2), (iv left3)] [rds kT121 (.slice A2 N2 D2) a1] (fun (h : Unit) => ((iv r), [])) := by
 unfold Z0o at hr
 refine fn_ok Tryz.func48 R 27 R R fun C V => ?_
 refine cN (_ :: V) ?_
 refine cL 0 sees_rd ?_
 rintro rfl
 let W0 : List HP := RR kT121 A2 D2 a1 :: V
 refine cN W0 ?_
 refine c_seq (c_region (lI R (l_nil (q_next (c_seq (c_region (lI R (lS R (lO (v_len sl24 R) (lO (vSb R R) (lI R (l_nil (q_next (c_seq (c_seq (c_region (lI R (lO (vLt R R) (l_nil (q_next ?_))))))))))))))))))))
 rcases bif_ hr with ⟨hb4, hr⟩ | ⟨hb4, hr⟩
 refine c_true R hb4 (c_seq (c_region (lI R (l_nil (q_next (c_ret (q_ret ?_)))))))
 obtain rfl := so hr
 exact qF () (fun w s => (s.e 1 []))
 refine c_false R hb4 (c_skip (q_next (c_seq (c_cut (A := (Int) × (Unit)) (fun a => Z0o_J1 a.1 = some r) (fun a => [(1, (iv a.1))]) (fun a => W0) ?_ ?_))))
 refine c_seq (c_region (lI R (l_nil (q_next (c_block ?_)))))
 obtain ⟨e1, hl1, hk1⟩ := bd hr
 refine c_loop (A := Unit) hl1 (fun s a => [(0, (sc A2 a1 D2)), (1, (iv s.1)), (5, (iv s.2))]) (fun s a => W0) () (aS R) (fun w s => s) ?_
 rintro ⟨left16, i17⟩ _ σ1 out1 hr he1
 replace hr : Z0o_L1 a1 left16 i17 = some out1 := hr
 unfold Z0o_L1 at hr
 refine c_seq (c_seq (c_region (lI R (lS R (lO (v_len sl24 R) (lO (vLt R R) (l_nil (q_next ?_))))))))
 rcases bif_ hr with ⟨hb18, hr⟩ | ⟨hb18, hr⟩
 refine c_true R hb18 (c_skip (q_next (c_seq (c_block (c_seq ?_)))))
 obtain ⟨hg19, hr⟩ := gd hr
 obtain ⟨r26, hx27, hr⟩ := bd hr
 refine c_region (lS R (lI R (t_some 0 sees_rd (show 0 < a1.length by have := hg19; omega) (fun g20 o21 ha => ?_))))
 subst ha
 refine lO (vIa sl24 sz121 R R hg19) (t_elem (K := kT121) 0 i17 dT121.dec R hg19.1 hg19.2 ?_)
 rintro ⟨⟨A22, D22⟩, ⟨A23, D23⟩, ⟨-, -, ⟨A24, D24⟩⟩, -, ⟨A25, D25⟩⟩
 refine lN (cl g20 (o21 + i17.toNat * 7) [(sc A22 ((ix a1 i17).Loops) D22), (sc A23 ((ix a1 i17).Loads) D23), (iv (ix a1 i17).Store.Buffer), (iv (ix a1 i17).Store.Offset), (sc A24 ((ix a1 i17).Store.Steps) D24), (.bool (ix a1 i17).Sum), (sc A25 ((ix a1 i17).Code) D25)] :: RR kT3 A22 D22 ((ix a1 i17).Loops) :: RR kT118 A23 D23 ((ix a1 i17).Loads) :: RR kT3 A24 D24 ((ix a1 i17).Store.Steps) :: RR kT187 A25 D25 ((ix a1 i17).Code) :: W0) ?_
 refine lO (vz (.agg [(sc A22 ((ix a1 i17).Loops) D22), (sc A23 ((ix a1 i17).Loads) D23), (iv (ix a1 i17).Store.Buffer), (iv (ix a1 i17).Store.Offset), (sc A24 ((ix a1 i17).Store.Steps) D24), (.bool (ix a1 i17).Sum), (sc A25 ((ix a1 i17).Code) D25)].toArray) (v_clfs (fo := 0) 0 ag121 sz121 R R R R)) (lI R (lM (rds _ _ _ :: rds _ _ _ :: rds _ _ _ :: rds _ _ _ :: cl _ _ _ :: rds _ _ _ :: rds _ _ _ :: rds _ _ _ :: rds _ _ _ :: W0) (fun w s => (((((s.d 1 R).d 3 R).d 5 R).d 7 R).e 9 [3, 2, 1, 0, 4, 5, 6, 7, 8])) ?_))
 refine lC 4 cb85 R (Z1k_ok hx27) R ?_
 rintro _
 refine lN (_ :: _ :: _ :: _ :: _ :: W0) ?_
 refine lI R (l_nil (q_next (c_seq (c_region (lI R (lO (vLt R R) (l_nil (q_next ?_))))))))
 rcases bif_ hr with ⟨hb28, hr⟩ | ⟨hb28, hr⟩
 refine c_true R hb28 (c_seq (c_region (lI R (l_nil (q_next (c_ret (q_blockr (q_ret ?_))))))))
 obtain rfl := so hr
 obtain rfl := he1 _ R
 have hr := hk1
 refine q_ret (q_blockr (q_ret ?_))
 obtain rfl := so hr
 exact qF () (fun w s => (s.e 6 []))
 refine c_false R hb28 (c_skip (q_blockn (q_next (c_region (lI R (lO (vAd R R) (lI R (l_nil ?_))))))))
 obtain rfl := so hr
 exact qA () (fun w s => (s.e 5 []))
 refine c_false R hb18 (c_exit (q_exit ?_))
 obtain rfl := so hr
 obtain rfl := he1 _ R
 have hr := hk1
 refine q_exit (q_block ?_)
 exact qI (left16, ()) hr (fun w s => s)
 rintro ⟨left31, _⟩ σ1 hr
 replace hr : Z0o_J1 left31 = some r := hr
 unfold Z0o_J1 at hr
 refine c_seq (c_region (lI R (lI R (l_nil (q_next (c_ret ?_))))))
 obtain rfl := so hr
 exact qF () (fun w s => (s.e 1 []))
theorem Z1s_ok  {a1 : Nest} {left7 : Int} {r : Int} (hr : Z1s a1 left7 = some r) :
 FnOk Tryz.prog 16 [(.agg [(.slice A2 N2 D2), (.slice A3 N3 D3), (.slice A4 N4 D4), (.slice A5 N5 D5), (.slice A6 N6 D6)].toArray), (iv left7)] [rds kT3 (.slice A2 N2 D2) a1.Sizes, rds kT3 (.slice A3 N3 D3) a1.Ins, rds kT115 (.slice A4 N4 D4) a1.Fixed, rds kT121 (.slice A5 N5 D5) a1.Kernels, rds kT3 (.slice A6 N6 D6) a1.Outs] (fun (h : Unit) => ((iv r), [])) := by
 unfold Z1s at hr
 refine fn_ok Tryz.func16 R 36 R R fun C V => ?_
 refine cN (_ :: _ :: _ :: _ :: _ :: V) ?_
 refine cL 0 sees_rd ?_
 rintro rfl
 refine cL 1 sees_rd ?_
 rintro rfl
 refine cL 2 sees_rd ?_
 rintro rfl
 refine cL 3 sees_rd ?_
 rintro rfl
 refine cL 4 sees_rd ?_
 rintro rfl
 let W0 : List HP := RR kT3 A2 D2 a1.Sizes :: RR kT3 A3 D3 a1.Ins :: RR kT115 A4 D4 a1.Fixed :: RR kT121 A5 D5 a1.Kernels :: RR kT3 A6 D6 a1.Outs :: V
 refine cN W0 ?_
 refine c_seq (c_region (lBx R (fun b8 => (lI R (l_nil ?_)))))
 let W1 : List HP := bxl b8 [(sc A2 a1.Sizes D2), (sc A3 a1.Ins D3), (sc A4 a1.Fixed D4), (sc A5 a1.Kernels D5), (sc A6 a1.Outs D6)] 26 :: W0
 refine qN W1 ?_
 refine q_next (c_seq ?_)
 obtain ⟨r9, hx10, hr⟩ := bd hr
 refine c_region (lO (vFa 0 fo26_0 R) (lO (vLd 0 ag22 R R R) (lI R (lM (RR kT3 A2 D2 a1.Sizes :: W1) (fun w s => (s.d 1 R)) ?_))))
 refine lC 1 cb23 R (Z0w_ok hx10) R ?_
 rintro _
 refine lN W1 ?_
 refine lI R (l_nil (q_next (c_seq (c_seq (c_region (lI R (lO (vLt R R) (l_nil (q_next ?_)))))))))
 rcases bif_ hr with ⟨hb11, hr⟩ | ⟨hb11, hr⟩
 refine c_true R hb11 (c_seq (c_region (lI R (l_nil (q_next (c_ret (q_ret ?_)))))))
 obtain rfl := so hr
 exact qF () (fun w s => (s.e 6 []))
 refine c_false R hb11 (c_skip (q_next (c_seq ?_)))
 obtain ⟨r12, hx13, hr⟩ := bd hr
 refine c_region (lO (vFa 1 fo26_1 R) (lO (vLd 0 ag22 R R R) (lI R (lM (RR kT3 A3 D3 a1.Ins :: W1) (fun w s => (s.d 2 R)) ?_))))
 refine lC 1 cb23 R (Z0w_ok hx13) R ?_
 rintro _
 refine lN W1 ?_
 refine lI R (l_nil (q_next (c_seq (c_seq (c_region (lI R (lO (vLt R R) (l_nil (q_next ?_)))))))))
 rcases bif_ hr with ⟨hb14, hr⟩ | ⟨hb14, hr⟩
 refine c_true R hb14 (c_seq (c_region (lI R (l_nil (q_next (c_ret (q_ret ?_)))))))
 obtain rfl := so hr
 exact qF () (fun w s => (s.e 6 []))
 refine c_false R hb14 (c_skip (q_next (c_seq ?_)))
 obtain ⟨r15, hx16, hr⟩ := bd hr
 refine c_region (lO (vFa 2 fo26_2 R) (lO (vLd 0 ag23 R R R) (lI R (lM (RR kT115 A4 D4 a1.Fixed :: W1) (fun w s => (s.d 3 R)) ?_))))
 refine lC 1 cb47 R (Z0q_ok hx16) R ?_
 rintro _
 refine lN W1 ?_
 refine lI R (l_nil (q_next (c_seq (c_seq (c_region (lI R (lO (vLt R R) (l_nil (q_next ?_)))))))))
 rcases bif_ hr with ⟨hb17, hr⟩ | ⟨hb17, hr⟩
 refine c_true R hb17 (c_seq (c_region (lI R (l_nil (q_next (c_ret (q_ret ?_)))))))
 obtain rfl := so hr
 exact qF () (fun w s => (s.e 6 []))
 refine c_false R hb17 (c_skip (q_next (c_seq ?_)))
 obtain ⟨r18, hx19, hr⟩ := bd hr
 refine c_region (lO (vFa 3 fo26_3 R) (lO (vLd 0 ag24 R R R) (lI R (lM (RR kT121 A5 D5 a1.Kernels :: W1) (fun w s => (s.d 4 R)) ?_))))
 refine lC 1 cb48 R (Z0o_ok hx19) R ?_
 rintro _
 refine lN W1 ?_
 refine lI R (l_nil (q_next (c_seq (c_seq (c_region (lI R (lO (vLt R R) (l_nil (q_next ?_)))))))))
 rcases bif_ hr with ⟨hb20, hr⟩ | ⟨hb20, hr⟩
 refine c_true R hb20 (c_seq (c_region (lI R (l_nil (q_next (c_ret (q_ret ?_)))))))
 obtain rfl := so hr
 exact qF () (fun w s => (s.e 6 []))
 refine c_false R hb20 (c_skip (q_next (c_seq ?_)))
 obtain ⟨r21, hx22, hr⟩ := bd hr
 refine c_region (lO (vFa 4 fo26_4 R) (lO (vLd 0 ag22 R R R) (lI R (lM (RR kT3 A6 D6 a1.Outs :: W1) (fun w s => (s.d 5 R)) ?_))))
 refine lC 1 cb23 R (Z0w_ok hx22) R ?_
 rintro _
 refine lN W1 ?_
 refine lI R (l_nil (q_next (c_seq (c_seq (c_region (lI R (lO (vLt R R) (l_nil (q_next ?_)))))))))
 rcases bif_ hr with ⟨hb23, hr⟩ | ⟨hb23, hr⟩
 refine c_true R hb23 (c_seq (c_region (lI R (l_nil (q_next (c_ret (q_ret ?_)))))))
 obtain rfl := so hr
 exact qF () (fun w s => (s.e 6 []))
 refine c_false R hb23 (c_skip (q_next (c_seq (c_region (lI R (lI R (l_nil (q_next (c_ret ?_)))))))))
 obtain rfl := so hr
 exact qF () (fun w s => (s.e 6 []))
theorem Zl_ok  {a1 : (List Int)} {r : (List Int)} (hr : Zl a1 = some r) :
 FnOk Tryz.prog 35 [(.slice A2 N2 D2)] [rds kT3 (.slice A2 N2 D2) a1] (fun (h : HH) => ((.slice h.1 h.2.1 h.2.2), [ow kT3 3 (.slice h.1 h.2.1 h.2.2) r])) := by
 unfold Zl at hr
 refine fn_ok Tryz.func35 R 22 R R fun C V => ?_
 refine cN (_ :: V) ?_
 refine cL 0 sees_rd ?_
 rintro rfl
 let W0 : List HP := RR kT3 A2 D2 a1 :: V
 refine cN W0 ?_
 refine c_seq (c_region (lS R (l_nil (q_next (c_seq ?_)))))
 obtain ⟨hg3, hr⟩ := gd hr
 refine c_region (lS R (lO (v_len sl22 R) (l_make (K := kT3) (m := (a1.length : Int)) (z := (0 : Int)) R R sl22 sz3 by3 (Zr.zk zT3 zc3) (by decide) R R hg3.1 hg3.2.1 hg3.2.2 (fun A4 D4 => (lS R (l_nil (q_next (c_seq (c_cut (A := ((List Int)) × (Unit)) (fun a => Zl_J1 a.1 = some r) (fun a => [(3, (sc A4 (List.replicate (a1.length : Int).toNat (0 : Int)) D4))]) (fun a => ow kT3 3 (.slice A4 (List.replicate (a1.length : Int).toNat (0 : Int)).length D4) a.1 :: W0) ?_ ?_)))))))))
 refine c_seq (c_region (lI R (l_nil (q_next (c_block ?_)))))
 obtain ⟨e1, hl1, hk1⟩ := bd hr
 refine c_loop (A := Unit) hl1 (fun s a => [(0, (sc A2 a1 D2)), (3, (sc A4 (List.replicate (a1.length : Int).toNat (0 : Int)) D4)), (4, (iv s.2))]) (fun s a => ow kT3 3 (.slice A4 (List.replicate (a1.length : Int).toNat (0 : Int)).length D4) s.1 :: W0) () (aS R) (fun w s => s) ?_
 rintro ⟨x14, i15⟩ _ σ1 out1 hr he1
 replace hr : Zl_L1 a1 x14 i15 = some out1 := hr
 unfold Zl_L1 at hr
 refine c_seq (c_seq (c_region (lI R (lS R (lO (v_len sl22 R) (lO (vLt R R) (l_nil (q_next ?_))))))))
 rcases bif_ hr with ⟨hb16, hr⟩ | ⟨hb16, hr⟩
 refine c_true R hb16 (c_skip (q_next (c_seq (c_block ?_))))
 obtain ⟨hg17, hr⟩ := gd hr
 obtain ⟨hg20, hr⟩ := gd hr
 refine c_region (lS R (lI R (lS R (lI R (t_some 1 sees_rd (show 0 < a1.length by have := hg17; omega) (fun g18 o19 ha => ?_))))))
 subst ha
 refine lO (vIa sl22 sz3 R R hg17) (lO (vLi 1 ag3 sees_rd R hg17) (t_some 0 sees_ow (show 0 < (List.replicate (a1.length : Int).toNat (0 : Int)).length by have := hg20; omega) (fun g21 o22 ha => ?_)))
 subst ha
 refine lO (vIa sl22 sz3 R R hg20) (lN (ow kT3 3 (.slice (ad g21 o22) (List.replicate (a1.length : Int).toNat (0 : Int)).length D4) x14 :: W0) ?_)
 refine l_stx (K := kT3) (x' := (ix a1 i15)) 0 i15 R R sz3 R R hg20.1 hg20.2 ?_ ?_
 exact fun I h s => (mO3).put I h () (ix a1 i15) s
 refine lN (ow kT3 3 (.slice (ad g21 o22) (List.replicate (a1.length : Int).toNat (0 : Int)).length D4) (x14.set i15.toNat (ix a1 i15)) :: W0) ?_
 refine l_nil (q_blockn (q_next (c_region (lI R (lO (vAd R R) (lI R (l_nil ?_)))))))
 obtain rfl := so hr
 exact qA () (fun w s => s)
 refine c_false R hb16 (c_exit (q_exit ?_))
 obtain rfl := so hr
 obtain rfl := he1 _ R
 have hr := hk1
 refine q_exit (q_block ?_)
 exact qI (x14, ()) hr (fun w s => s)
 rintro ⟨x25, _⟩ σ1 hr
 replace hr : Zl_J1 x25 = some r := hr
 unfold Zl_J1 at hr
 refine c_seq (c_region (lS R (lS R (l_nil (q_next (c_ret ?_))))))
 obtain rfl := so hr
 exact qF (A4, (List.replicate (a1.length : Int).toNat (0 : Int)).length, D4) (fun w s => (s.e 2 [0]))
theorem Z1u_ok  {a1 : Fix} {r : Fix} (hr : Z1u a1 = some r) :
 FnOk Tryz.prog 93 [(.agg [(iv a1.Buffer), (.slice A2 N2 D2)].toArray)] [rds kT3 (.slice A2 N2 D2) a1.Data] (fun (h : HH) => ((.agg [(iv r.Buffer), (.slice h.1 h.2.1 h.2.2)].toArray), [ow kT3 3 (.slice h.1 h.2.1 h.2.2) r.Data])) := by
 unfold Z1u at hr
 refine fn_ok Tryz.func93 R 12 R R fun C V => ?_
 refine cN (_ :: V) ?_
 refine cL 0 sees_rd ?_
 rintro rfl
 let W0 : List HP := RR kT3 A2 D2 a1.Data :: V
 refine cN W0 ?_
 refine c_seq (c_region (lBx R (fun b3 => (l_alloc R R zc57 (fun b4 => (l_nil ?_))))))
 let W1 : List HP := bxl b3 [(iv a1.Buffer), (sc A2 a1.Data D2)] 115 :: W0
 refine qN (_ :: W1) ?_
 refine q_next (c_seq (c_region (l_alloc R R zc57 (fun b5 => (l_nil (q_next (c_seq (c_region (lO (vFa 0 fo115_0 R) (lO (vLd 2 ag3 R R R) (lO (vFa 0 fo57_0 R) (l_store 0 R R sz3 R R R R R (lN (bxl b5 [(iv a1.Buffer), (.slice none 0 0)] 57 :: _ :: W1) ?_)))))))))))))
 refine l_nil (q_next (c_seq ?_))
 obtain ⟨r6, hx7, hr⟩ := bd hr
 refine c_region (lO (vFa 1 fo115_1 R) (lO (vLd 2 ag22 R R R) (lM (RR kT3 A2 D2 a1.Data :: _ :: _ :: W1) (fun w s => (s.d 3 R)) ?_)))
 refine lC 1 cb35 R (Zl_ok hx7) R ?_
 rintro ⟨A8, N8, D8⟩
 refine lN (ow kT3 3 (.slice A8 N8 D8) r6 :: _ :: _ :: W1) ?_
 refine l_len 0 sees_ow ?_
 rintro rfl
 refine lO (vFa 1 fo57_1 R) (l_store 1 R R sz22 R R R R R (lN (_ :: bxl b5 [(iv a1.Buffer), (sc A8 r6 D8)] 57 :: _ :: W1) ?_))
 refine l_nil (q_next (c_seq (c_region (lO (vz (.agg [(iv a1.Buffer), (sc A8 r6 D8)].toArray) (v_loadw 1 ag57 sz57 R R R R)) (l_stores 2 R R sz57 R R R R R R (lN (_ :: _ :: bxl b4 [(iv a1.Buffer), (sc A8 r6 D8)] 57 :: W1) ?_))))))
 refine l_nil (q_next (c_ret ?_))
 obtain rfl := so hr
 exact q_fin (vs := [(.agg [(iv a1.Buffer), (sc A8 r6 D8)].toArray)]) (.inl R) (A8, r6.length, D8) R ⟨⟨2, b4, _, _, R, R, .inl ⟨ag57, sz57, R⟩⟩, trivial⟩ R (fun w s => (s.e 5 [0]))
theorem Z0a_ok  {a1 : (List Fix)} {r : (List Fix)} (hr : Z0a a1 = some r) :
 FnOk Tryz.prog 53 [(.slice A2 N2 D2)] [rds kT115 (.slice A2 N2 D2) a1] (fun (h : HH) => ((.slice h.1 h.2.1 h.2.2), [ow kT57 57 (.slice h.1 h.2.1 h.2.2) r])) := by
 unfold Z0a at hr
 refine fn_ok Tryz.func53 R 23 R R fun C V => ?_
 refine cN (_ :: V) ?_
 refine cL 0 sees_rd ?_
 rintro rfl
 let W0 : List HP := RR kT115 A2 D2 a1 :: V
 refine cN W0 ?_
 refine c_seq (c_region (lS R (l_nil (q_next (c_seq ?_)))))
 obtain ⟨hg3, hr⟩ := gd hr
 refine c_region (lS R (lO (v_len sl23 R) (l_make (K := kT57) (m := (a1.length : Int)) (z := zT57.z) R R sl33 sz57 by57 (Zr.zk zT57 zc57) (by decide) R R hg3.1 hg3.2.1 hg3.2.2 (fun A4 D4 => (lS R (l_nil (q_next (c_seq (c_cut (A := ((List Fix)) × (Unit)) (fun a => Z0a_J1 a.1 = some r) (fun a => [(3, (sc A4 (List.replicate (a1.length : Int).toNat zT57.z) D4))]) (fun a => ow kT57 57 (.slice A4 (List.replicate (a1.length : Int).toNat zT57.z).length D4) a.1 :: W0) ?_ ?_)))))))))
 refine c_seq (c_region (lI R (l_nil (q_next (c_block ?_)))))
 obtain ⟨e1, hl1, hk1⟩ := bd hr
 refine c_loop (A := Unit) hl1 (fun s a => [(0, (sc A2 a1 D2)), (3, (sc A4 (List.replicate (a1.length : Int).toNat zT57.z) D4)), (4, (iv s.2))]) (fun s a => ow kT57 57 (.slice A4 (List.replicate (a1.length : Int).toNat zT57.z).length D4) s.1 :: W0) () (aS R) (fun w s => s) ?_
 rintro ⟨x18, i19⟩ _ σ1 out1 hr he1
 replace hr : Z0a_L1 a1 x18 i19 = some out1 := hr
 unfold Z0a_L1 at hr
 refine c_seq (c_seq (c_region (lI R (lS R (lO (v_len sl23 R) (lO (vLt R R) (l_nil (q_next ?_))))))))
 rcases bif_ hr with ⟨hb20, hr⟩ | ⟨hb20, hr⟩
 refine c_true R hb20 (c_skip (q_next (c_seq (c_block ?_))))
 obtain ⟨hg21, hr⟩ := gd hr
 obtain ⟨r25, hx26, hr⟩ := bd hr
 obtain ⟨hg28, hr⟩ := gd hr
 refine c_region (lS R (lI R (lS R (lI R (t_some 1 sees_rd (show 0 < a1.length by have := hg21; omega) (fun g22 o23 ha => ?_))))))
 subst ha
 refine lO (vIa sl23 sz115 R R hg21) (t_elem (K := kT115) 1 i19 dT115.dec R hg21.1 hg21.2 ?_)
 rintro ⟨-, ⟨A24, D24⟩⟩
 refine lN (cl g22 (o23 + i19.toNat * 2) [(iv (ix a1 i19).Buffer), (sc A24 ((ix a1 i19).Data) D24)] :: RR kT3 A24 D24 ((ix a1 i19).Data) :: ow kT57 57 (.slice A4 (List.replicate (a1.length : Int).toNat zT57.z).length D4) x18 :: W0) ?_
 refine lO (vz (.agg [(iv (ix a1 i19).Buffer), (sc A24 ((ix a1 i19).Data) D24)].toArray) (v_clfs (fo := 0) 0 ag115 sz115 R R R R)) (lM (_ :: _ :: _ :: _ :: W0) (fun w s => (s.d 1 R)) ?_)
 refine lC 1 cb93 R (Z1u_ok hx26) R ?_
 rintro ⟨A27, N27, D27⟩
 refine lN (ow kT3 3 (.slice A27 N27 D27) r25.Data :: _ :: _ :: _ :: W0) ?_
 refine l_len 0 sees_ow ?_
 rintro rfl
 refine t_some 3 sees_ow (show 0 < (List.replicate (a1.length : Int).toNat zT57.z).length by have := hg28; omega) (fun g29 o30 ha => ?_)
 subst ha
 refine lO (vIa sl33 sz57 R R hg28) (lM (ow kT57 57 (.slice (ad g29 o30) (List.replicate (a1.length : Int).toNat zT57.z).length D4) x18 :: ow _ _ _ _ :: cl _ _ _ :: rds _ _ _ :: W0) (fun w s => (s.e 4 [3, 0, 1, 2])) ?_)
 refine l_stx (K := kT57) (x' := r25) 1 i19 R R sz57 R R hg28.1 hg28.2 ?_ ?_
 exact fun I h s => (mO57).put I h ((), (sc A27 r25.Data D27)) r25 s
 refine lN (ow kT57 57 (.slice (ad g29 o30) (List.replicate (a1.length : Int).toNat zT57.z).length D4) (x18.set i19.toNat r25) :: _ :: _ :: W0) ?_
 refine l_nil (q_blockn (q_next (c_region (lI R (lO (vAd R R) (lI R (l_nil ?_)))))))
 obtain rfl := so hr
 exact qA () (fun w s => (s.e 3 [0]))
 refine c_false R hb20 (c_exit (q_exit ?_))
 obtain rfl := so hr
 obtain rfl := he1 _ R
 have hr := hk1
 refine q_exit (q_block ?_)
 exact qI (x18, ()) hr (fun w s => s)
 rintro ⟨x33, _⟩ σ1 hr
 replace hr : Z0a_J1 x33 = some r := hr
 unfold Z0a_J1 at hr
 refine c_seq (c_region (lS R (lS R (l_nil (q_next (c_ret ?_))))))
 obtain rfl := so hr
 exact qF (A4, (List.replicate (a1.length : Int).toNat zT57.z).length, D4) (fun w s => (s.e 2 [0]))
theorem Z1e_ok  {a1 : Access} {r : Access} (hr : Z1e a1 = some r) :
 FnOk Tryz.prog 141 [(.agg [(iv a1.Buffer), (iv a1.Offset), (.slice A2 N2 D2)].toArray)] [rds kT3 (.slice A2 N2 D2) a1.Steps] (fun (h : HH) => ((.agg [(iv r.Buffer), (iv r.Offset), (.slice h.1 h.2.1 h.2.2)].toArray), [ow kT3 3 (.slice h.1 h.2.1 h.2.2) r.Steps])) := by
 unfold Z1e at hr
 refine fn_ok Tryz.func141 R 15 R R fun C V => ?_
 refine cN (_ :: V) ?_
 refine cL 0 sees_rd ?_
 rintro rfl
 let W0 : List HP := RR kT3 A2 D2 a1.Steps :: V
 refine cN W0 ?_
 refine c_seq (c_region (lBx R (fun b3 => (l_alloc R R zc61 (fun b4 => (l_nil ?_))))))
 let W1 : List HP := bxl b3 [(iv a1.Buffer), (iv a1.Offset), (sc A2 a1.Steps D2)] 118 :: W0
 refine qN (_ :: W1) ?_
 refine q_next (c_seq (c_region (l_alloc R R zc61 (fun b5 => (l_nil (q_next (c_seq (c_region (lO (vFa 0 fo118_0 R) (lO (vLd 2 ag3 R R R) (lO (vFa 0 fo61_0 R) (l_store 0 R R sz3 R R R R R (lN (bxl b5 [(iv a1.Buffer), (iv 0), (.slice none 0 0)] 61 :: _ :: W1) ?_)))))))))))))
 refine l_nil (q_next (c_seq (c_region (lO (vFa 1 fo118_1 R) (lO (vLd 2 ag3 R R R) (lO (vFa 1 fo61_1 R) (l_store 0 R R sz3 R R R R R (lN (bxl b5 [(iv a1.Buffer), (iv a1.Offset), (.slice none 0 0)] 61 :: _ :: W1) ?_))))))))
 refine l_nil (q_next (c_seq ?_))
 obtain ⟨r6, hx7, hr⟩ := bd hr
 refine c_region (lO (vFa 2 fo118_2 R) (lO (vLd 2 ag22 R R R) (lM (RR kT3 A2 D2 a1.Steps :: _ :: _ :: W1) (fun w s => (s.d 3 R)) ?_)))
 refine lC 1 cb35 R (Zl_ok hx7) R ?_
 rintro ⟨A8, N8, D8⟩
 refine lN (ow kT3 3 (.slice A8 N8 D8) r6 :: _ :: _ :: W1) ?_
 refine l_len 0 sees_ow ?_
 rintro rfl
 refine lO (vFa 2 fo61_2 R) (l_store 1 R R sz22 R R R R R (lN (_ :: bxl b5 [(iv a1.Buffer), (iv a1.Offset), (sc A8 r6 D8)] 61 :: _ :: W1) ?_))
 refine l_nil (q_next (c_seq (c_region (lO (vz (.agg [(iv a1.Buffer), (iv a1.Offset), (sc A8 r6 D8)].toArray) (v_loadw 1 ag61 sz61 R R R R)) (l_stores 2 R R sz61 R R R R R R (lN (_ :: _ :: bxl b4 [(iv a1.Buffer), (iv a1.Offset), (sc A8 r6 D8)] 61 :: W1) ?_))))))
 refine l_nil (q_next (c_ret ?_))
 obtain rfl := so hr
 exact q_fin (vs := [(.agg [(iv a1.Buffer), (iv a1.Offset), (sc A8 r6 D8)].toArray)]) (.inl R) (A8, r6.length, D8) R ⟨⟨2, b4, _, _, R, R, .inl ⟨ag61, sz61, R⟩⟩, trivial⟩ R (fun w s => (s.e 5 [0]))
theorem Z07_ok  {a1 : (List Access)} {r : (List Access)} (hr : Z07 a1 = some r) :
 FnOk Tryz.prog 140 [(.slice A2 N2 D2)] [rds kT118 (.slice A2 N2 D2) a1] (fun (h : HH) => ((.slice h.1 h.2.1 h.2.2), [ow kT61 61 (.slice h.1 h.2.1 h.2.2) r])) := by
 unfold Z07 at hr
 refine fn_ok Tryz.func140 R 23 R R fun C V => ?_
 refine cN (_ :: V) ?_
 refine cL 0 sees_rd ?_
 rintro rfl
 let W0 : List HP := RR kT118 A2 D2 a1 :: V
 refine cN W0 ?_
 refine c_seq (c_region (lS R (l_nil (q_next (c_seq ?_)))))
 obtain ⟨hg3, hr⟩ := gd hr
 refine c_region (lS R (lO (v_len sl117 R) (l_make (K := kT61) (m := (a1.length : Int)) (z := zT61.z) R R sl59 sz61 by61 (Zr.zk zT61 zc61) (by decide) R R hg3.1 hg3.2.1 hg3.2.2 (fun A4 D4 => (lS R (l_nil (q_next (c_seq (c_cut (A := ((List Access)) × (Unit)) (fun a => Z07_J1 a.1 = some r) (fun a => [(3, (sc A4 (List.replicate (a1.length : Int).toNat zT61.z) D4))]) (fun a => ow kT61 61 (.slice A4 (List.replicate (a1.length : Int).toNat zT61.z).length D4) a.1 :: W0) ?_ ?_)))))))))
 refine c_seq (c_region (lI R (l_nil (q_next (c_block ?_)))))
 obtain ⟨e1, hl1, hk1⟩ := bd hr
 refine c_loop (A := Unit) hl1 (fun s a => [(0, (sc A2 a1 D2)), (3, (sc A4 (List.replicate (a1.length : Int).toNat zT61.z) D4)), (4, (iv s.2))]) (fun s a => ow kT61 61 (.slice A4 (List.replicate (a1.length : Int).toNat zT61.z).length D4) s.1 :: W0) () (aS R) (fun w s => s) ?_
 rintro ⟨x18, i19⟩ _ σ1 out1 hr he1
 replace hr : Z07_L1 a1 x18 i19 = some out1 := hr
 unfold Z07_L1 at hr
 refine c_seq (c_seq (c_region (lI R (lS R (lO (v_len sl117 R) (lO (vLt R R) (l_nil (q_next ?_))))))))
 rcases bif_ hr with ⟨hb20, hr⟩ | ⟨hb20, hr⟩
 refine c_true R hb20 (c_skip (q_next (c_seq (c_block ?_))))
 obtain ⟨hg21, hr⟩ := gd hr
 obtain ⟨r25, hx26, hr⟩ := bd hr
 obtain ⟨hg28, hr⟩ := gd hr
 refine c_region (lS R (lI R (lS R (lI R (t_some 1 sees_rd (show 0 < a1.length by have := hg21; omega) (fun g22 o23 ha => ?_))))))
 subst ha
 refine lO (vIa sl117 sz118 R R hg21) (t_elem (K := kT118) 1 i19 dT118.dec R hg21.1 hg21.2 ?_)
 rintro ⟨-, -, ⟨A24, D24⟩⟩
 refine lN (cl g22 (o23 + i19.toNat * 3) [(iv (ix a1 i19).Buffer), (iv (ix a1 i19).Offset), (sc A24 ((ix a1 i19).Steps) D24)] :: RR kT3 A24 D24 ((ix a1 i19).Steps) :: ow kT61 61 (.slice A4 (List.replicate (a1.length : Int).toNat zT61.z).length D4) x18 :: W0) ?_
 refine lO (vz (.agg [(iv (ix a1 i19).Buffer), (iv (ix a1 i19).Offset), (sc A24 ((ix a1 i19).Steps) D24)].toArray) (v_clfs (fo := 0) 0 ag118 sz118 R R R R)) (lM (_ :: _ :: _ :: _ :: W0) (fun w s => (s.d 1 R)) ?_)
 refine lC 1 cb141 R (Z1e_ok hx26) R ?_
 rintro ⟨A27, N27, D27⟩
 refine lN (ow kT3 3 (.slice A27 N27 D27) r25.Steps :: _ :: _ :: _ :: W0) ?_
 refine l_len 0 sees_ow ?_
 rintro rfl
 refine t_some 3 sees_ow (show 0 < (List.replicate (a1.length : Int).toNat zT61.z).length by have := hg28; omega) (fun g29 o30 ha => ?_)
 subst ha
 refine lO (vIa sl59 sz61 R R hg28) (lM (ow kT61 61 (.slice (ad g29 o30) (List.replicate (a1.length : Int).toNat zT61.z).length D4) x18 :: ow _ _ _ _ :: cl _ _ _ :: rds _ _ _ :: W0) (fun w s => (s.e 4 [3, 0, 1, 2])) ?_)
 refine l_stx (K := kT61) (x' := r25) 1 i19 R R sz61 R R hg28.1 hg28.2 ?_ ?_
 exact fun I h s => (mO61).put I h ((), (), (sc A27 r25.Steps D27)) r25 s
 refine lN (ow kT61 61 (.slice (ad g29 o30) (List.replicate (a1.length : Int).toNat zT61.z).length D4) (x18.set i19.toNat r25) :: _ :: _ :: W0) ?_
 refine l_nil (q_blockn (q_next (c_region (lI R (lO (vAd R R) (lI R (l_nil ?_)))))))
 obtain rfl := so hr
 exact qA () (fun w s => (s.e 3 [0]))
 refine c_false R hb20 (c_exit (q_exit ?_))
 obtain rfl := so hr
 obtain rfl := he1 _ R
 have hr := hk1
 refine q_exit (q_block ?_)
 exact qI (x18, ()) hr (fun w s => s)
 rintro ⟨x33, _⟩ σ1 hr
 replace hr : Z07_J1 x33 = some r := hr
 unfold Z07_J1 at hr
 refine c_seq (c_region (lS R (lS R (l_nil (q_next (c_ret ?_))))))
 obtain rfl := so hr
 exact qF (A4, (List.replicate (a1.length : Int).toNat zT61.z).length, D4) (fun w s => (s.e 2 [0]))
theorem Z1z_ok  {a1 : Calc} {r : Calc} (hr : Z1z a1 = some r) :
 FnOk Tryz.prog 170 [(.agg [(iv a1.Op), (iv a1.A), (iv a1.B)].toArray)] [] (fun (h : Unit) => ((.agg [(iv r.Op), (iv r.A), (iv r.B)].toArray), [])) := by
 unfold Z1z at hr
 refine fn_ok Tryz.func170 R 14 R R fun C V => ?_
 refine cN V ?_
 refine c_seq (c_region (lBx R (fun b2 => (l_alloc R R zc101 (fun b3 => (l_nil ?_))))))
 let W1 : List HP := bxl b2 [(iv a1.Op), (iv a1.A), (iv a1.B)] 187 :: V
 refine qN (_ :: W1) ?_
 refine q_next (c_seq (c_region (l_alloc R R zc101 (fun b4 => (l_nil (q_next (c_seq (c_region (lO (vFa 0 fo187_0 R) (lO (vLd 2 ag3 R R R) (lO (vFa 0 fo101_0 R) (l_store 0 R R sz3 R R R R R (lN (bxl b4 [(iv a1.Op), (iv 0), (iv 0)] 101 :: _ :: W1) ?_)))))))))))))
 refine l_nil (q_next (c_seq (c_region (lO (vFa 1 fo187_1 R) (lO (vLd 2 ag3 R R R) (lO (vFa 1 fo101_1 R) (l_store 0 R R sz3 R R R R R (lN (bxl b4 [(iv a1.Op), (iv a1.A), (iv 0)] 101 :: _ :: W1) ?_))))))))
 refine l_nil (q_next (c_seq (c_region (lO (vFa 2 fo187_2 R) (lO (vLd 2 ag3 R R R) (lO (vFa 2 fo101_2 R) (l_store 0 R R sz3 R R R R R (lN (bxl b4 [(iv a1.Op), (iv a1.A), (iv a1.B)] 101 :: _ :: W1) ?_))))))))
 refine l_nil (q_next (c_seq (c_region (lO (vz (.agg [(iv a1.Op), (iv a1.A), (iv a1.B)].toArray) (v_loadw 0 ag101 sz101 R R R R)) (l_stores 1 R R sz101 R R R R R R (lN (_ :: bxl b3 [(iv a1.Op), (iv a1.A), (iv a1.B)] 101 :: W1) ?_))))))
 refine l_nil (q_next (c_ret ?_))
 obtain rfl := so hr
 exact q_fin (vs := [(.agg [(iv a1.Op), (iv a1.A), (iv a1.B)].toArray)]) (.inl R) () R ⟨⟨1, b3, _, _, R, R, .inl ⟨ag101, sz101, R⟩⟩, trivial⟩ R (fun w s => (s.e 3 []))
theorem Z04_ok  {a1 : (List Calc)} {r : (List Calc)} (hr : Z04 a1 = some r) :
 FnOk Tryz.prog 142 [(.slice A2 N2 D2)] [rds kT187 (.slice A2 N2 D2) a1] (fun (h : HH) => ((.slice h.1 h.2.1 h.2.2), [ow kT101 101 (.slice h.1 h.2.1 h.2.2) r])) := by
 unfold Z04 at hr
 refine fn_ok Tryz.func142 R 23 R R fun C V => ?_
 refine cN (_ :: V) ?_
 refine cL 0 sees_rd ?_
 rintro rfl
 let W0 : List HP := RR kT187 A2 D2 a1 :: V
 refine cN W0 ?_
 refine c_seq (c_region (lS R (l_nil (q_next (c_seq ?_)))))
 obtain ⟨hg3, hr⟩ := gd hr
 refine c_region (lS R (lO (v_len sl119 R) (l_make (K := kT101) (m := (a1.length : Int)) (z := zT101.z) R R sl62 sz101 by101 (Zr.zk zT101 zc101) (by decide) R R hg3.1 hg3.2.1 hg3.2.2 (fun A4 D4 => (lS R (l_nil (q_next (c_seq (c_cut (A := ((List Calc)) × (Unit)) (fun a => Z04_J1 a.1 = some r) (fun a => [(3, (sc A4 (List.replicate (a1.length : Int).toNat zT101.z) D4))]) (fun a => ow kT101 101 (.slice A4 (List.replicate (a1.length : Int).toNat zT101.z).length D4) a.1 :: W0) ?_ ?_)))))))))
 refine c_seq (c_region (lI R (l_nil (q_next (c_block ?_)))))
 obtain ⟨e1, hl1, hk1⟩ := bd hr
 refine c_loop (A := Unit) hl1 (fun s a => [(0, (sc A2 a1 D2)), (3, (sc A4 (List.replicate (a1.length : Int).toNat zT101.z) D4)), (4, (iv s.2))]) (fun s a => ow kT101 101 (.slice A4 (List.replicate (a1.length : Int).toNat zT101.z).length D4) s.1 :: W0) () (aS R) (fun w s => s) ?_
 rintro ⟨x16, i17⟩ _ σ1 out1 hr he1
 replace hr : Z04_L1 a1 x16 i17 = some out1 := hr
 unfold Z04_L1 at hr
 refine c_seq (c_seq (c_region (lI R (lS R (lO (v_len sl119 R) (lO (vLt R R) (l_nil (q_next ?_))))))))
 rcases bif_ hr with ⟨hb18, hr⟩ | ⟨hb18, hr⟩
 refine c_true R hb18 (c_skip (q_next (c_seq (c_block ?_))))
 obtain ⟨hg19, hr⟩ := gd hr
 obtain ⟨r22, hx23, hr⟩ := bd hr
 obtain ⟨hg24, hr⟩ := gd hr
 refine c_region (lS R (lI R (lS R (lI R (t_some 1 sees_rd (show 0 < a1.length by have := hg19; omega) (fun g20 o21 ha => ?_))))))
 subst ha
 refine lO (vIa sl119 sz187 R R hg19) (l_v (.agg [(iv (ix a1 i17).Op), (iv (ix a1 i17).A), (iv (ix a1 i17).B)].toArray) ?_ R R ?_)
 exact (v_ldef (K := kT187) (cells := fun x => [(iv x.Op), (iv x.A), (iv x.B)]) 1 i17 ag187 sz187 (DecK.flat dT187 fun _ _ => R) sees_rd R hg19.1 hg19.2)
 refine lC 0 cb170 R (Z1z_ok hx23) R ?_
 rintro _
 refine lN (ow kT101 101 (.slice A4 (List.replicate (a1.length : Int).toNat zT101.z).length D4) x16 :: W0) ?_
 refine t_some 0 sees_ow (show 0 < (List.replicate (a1.length : Int).toNat zT101.z).length by have := hg24; omega) (fun g25 o26 ha => ?_)
 subst ha
 refine lO (vIa sl62 sz101 R R hg24) (lN (ow kT101 101 (.slice (ad g25 o26) (List.replicate (a1.length : Int).toNat zT101.z).length D4) x16 :: W0) ?_)
 refine l_stx (K := kT101) (x' := r22) 0 i17 R R sz101 R R hg24.1 hg24.2 ?_ ?_
 exact fun I h s => (mO101).put I h ((), (), ()) r22 s
 refine lN (ow kT101 101 (.slice (ad g25 o26) (List.replicate (a1.length : Int).toNat zT101.z).length D4) (x16.set i17.toNat r22) :: W0) ?_
 refine l_nil (q_blockn (q_next (c_region (lI R (lO (vAd R R) (lI R (l_nil ?_)))))))
 obtain rfl := so hr
 exact qA () (fun w s => s)
 refine c_false R hb18 (c_exit (q_exit ?_))
 obtain rfl := so hr
 obtain rfl := he1 _ R
 have hr := hk1
 refine q_exit (q_block ?_)
 exact qI (x16, ()) hr (fun w s => s)
 rintro ⟨x29, _⟩ σ1 hr
 replace hr : Z04_J1 x29 = some r := hr
 unfold Z04_J1 at hr
 refine c_seq (c_region (lS R (lS R (l_nil (q_next (c_ret ?_))))))
 obtain rfl := so hr
 exact qF (A4, (List.replicate (a1.length : Int).toNat zT101.z).length, D4) (fun w s => (s.e 2 [0]))
theorem Z1p_ok  {a1 : Kernel} {r : Kernel} (hr : Z1p a1 = some r) :
 FnOk Tryz.prog 94 [(.agg [(.slice A2 N2 D2), (.slice A3 N3 D3), (iv a1.Store.Buffer), (iv a1.Store.Offset), (.slice A4 N4 D4), (.bool a1.Sum), (.slice A5 N5 D5)].toArray)] [rds kT3 (.slice A2 N2 D2) a1.Loops, rds kT118 (.slice A3 N3 D3) a1.Loads, rds kT3 (.slice A4 N4 D4) a1.Store.Steps, rds kT187 (.slice A5 N5 D5) a1.Code] (fun (h : HH × HH × HH × HH) => ((.agg [(.slice h.1.1 h.1.2.1 h.1.2.2), (.slice h.2.1.1 h.2.1.2.1 h.2.1.2.2), (iv r.Store.Buffer), (iv r.Store.Offset), (.slice h.2.2.1.1 h.2.2.1.2.1 h.2.2.1.2.2), (.bool r.Sum), (.slice h.2.2.2.1 h.2.2.2.2.1 h.2.2.2.2.2)].toArray), [ow kT3 3 (.slice h.1.1 h.1.2.1 h.1.2.2) r.Loops, ow kT61 61 (.slice h.2.1.1 h.2.1.2.1 h.2.1.2.2) r.Loads, ow kT3 3 (.slice h.2.2.1.1 h.2.2.1.2.1 h.2.2.1.2.2) r.Store.Steps, ow kT101 101 (.slice h.2.2.2.1 h.2.2.2.2.1 h.2.2.2.2.2) r.Code])) := by
 unfold Z1p at hr
 refine fn_ok Tryz.func94 R 24 R R fun C V => ?_
 refine cN (_ :: _ :: _ :: _ :: V) ?_
 refine cL 0 sees_rd ?_
 rintro rfl
 refine cL 1 sees_rd ?_
 rintro rfl
 refine cL 2 sees_rd ?_
 rintro rfl
 refine cL 3 sees_rd ?_
 rintro rfl
 let W0 : List HP := RR kT3 A2 D2 a1.Loops :: RR kT118 A3 D3 a1.Loads :: RR kT3 A4 D4 a1.Store.Steps :: RR kT187 A5 D5 a1.Code :: V
 refine cN W0 ?_
 refine c_seq (c_region (lBx R (fun b6 => (l_alloc R R zc64 (fun b7 => (l_nil ?_))))))
 let W1 : List HP := bxl b6 [(sc A2 a1.Loops D2), (sc A3 a1.Loads D3), (iv a1.Store.Buffer), (iv a1.Store.Offset), (sc A4 a1.Store.Steps D4), (.bool a1.Sum), (sc A5 a1.Code D5)] 121 :: W0
 refine qN (_ :: W1) ?_
 refine q_next (c_seq (c_region (l_alloc R R zc64 (fun b8 => (l_nil (q_next (c_seq ?_)))))))
 obtain ⟨r9, hx10, hr⟩ := bd hr
 refine c_region (lO (vFa 0 fo121_0 R) (lO (vLd 2 ag22 R R R) (lM (RR kT3 A2 D2 a1.Loops :: _ :: _ :: W1) (fun w s => (s.d 3 R)) ?_)))
 refine lC 1 cb35 R (Zl_ok hx10) R ?_
 rintro ⟨A11, N11, D11⟩
 refine lN (ow kT3 3 (.slice A11 N11 D11) r9 :: _ :: _ :: W1) ?_
 refine l_len 0 sees_ow ?_
 rintro rfl
 refine lO (vFa 0 fo64_0 R) (l_store 1 R R sz22 R R R R R (lN (_ :: bxl b8 [(sc A11 r9 D11), (.slice none 0 0), (iv 0), (iv 0), (.slice none 0 0), (.bool false), (.slice none 0 0)] 64 :: _ :: W1) ?_))
 refine l_nil (q_next (c_seq ?_))
 obtain ⟨r12, hx13, hr⟩ := bd hr
 refine c_region (lO (vFa 1 fo121_1 R) (lO (vLd 3 ag117 R R R) (lM (RR kT118 A3 D3 a1.Loads :: _ :: _ :: _ :: W1) (fun w s => (s.d 5 R)) ?_)))
 refine lC 1 cb140 R (Z07_ok hx13) R ?_
 rintro ⟨A14, N14, D14⟩
 refine lN (ow kT61 61 (.slice A14 N14 D14) r12 :: _ :: _ :: _ :: W1) ?_
 refine l_len 0 sees_ow ?_
 rintro rfl
 refine lO (vFa 1 fo64_1 R) (l_store 2 R R sz59 R R R R R (lN (_ :: _ :: bxl b8 [(sc A11 r9 D11), (sc A14 r12 D14), (iv 0), (iv 0), (.slice none 0 0), (.bool false), (.slice none 0 0)] 64 :: _ :: W1) ?_))
 refine l_nil (q_next (c_seq ?_))
 obtain ⟨r15, hx16, hr⟩ := bd hr
 refine c_region (lO (vFa 2 fo121_2 R) (lO (vz (.agg [(iv a1.Store.Buffer), (iv a1.Store.Offset), (sc A4 a1.Store.Steps D4)].toArray) (v_loadw 4 ag118 sz118 R R R R)) (lM (RR kT3 A4 D4 a1.Store.Steps :: _ :: _ :: _ :: _ :: W1) (fun w s => (s.d 7 R)) ?_)))
 refine lC 1 cb141 R (Z1e_ok hx16) R ?_
 rintro ⟨A17, N17, D17⟩
 refine lN (ow kT3 3 (.slice A17 N17 D17) r15.Steps :: _ :: _ :: _ :: _ :: W1) ?_
 refine l_len 0 sees_ow ?_
 rintro rfl
 refine lO (vFa 2 fo64_2 R) (l_stores 3 R R sz61 R R R R R R (lN (_ :: _ :: _ :: bxl b8 [(sc A11 r9 D11), (sc A14 r12 D14), (iv r15.Buffer), (iv r15.Offset), (sc A17 r15.Steps D17), (.bool false), (.slice none 0 0)] 64 :: _ :: W1) ?_))
 refine l_nil (q_next (c_seq (c_region (lO (vFa 5 fo121_3 R) (lO (vLd 5 ag4 R R R) (lO (vFa 5 fo64_3 R) (l_store 3 R R sz4 R R R R R (lN (_ :: _ :: _ :: bxl b8 [(sc A11 r9 D11), (sc A14 r12 D14), (iv r15.Buffer), (iv r15.Offset), (sc A17 r15.Steps D17), (.bool a1.Sum), (.slice none 0 0)] 64 :: _ :: W1) ?_))))))))
 refine l_nil (q_next (c_seq ?_))
 obtain ⟨r18, hx19, hr⟩ := bd hr
 refine c_region (lO (vFa 6 fo121_4 R) (lO (vLd 5 ag119 R R R) (lM (RR kT187 A5 D5 a1.Code :: _ :: _ :: _ :: _ :: _ :: W1) (fun w s => (s.d 9 R)) ?_)))
 refine lC 1 cb142 R (Z04_ok hx19) R ?_
 rintro ⟨A20, N20, D20⟩
 refine lN (ow kT101 101 (.slice A20 N20 D20) r18 :: _ :: _ :: _ :: _ :: _ :: W1) ?_
 refine l_len 0 sees_ow ?_
 rintro rfl
 refine lO (vFa 6 fo64_4 R) (l_store 4 R R sz62 R R R R R (lN (_ :: _ :: _ :: _ :: bxl b8 [(sc A11 r9 D11), (sc A14 r12 D14), (iv r15.Buffer), (iv r15.Offset), (sc A17 r15.Steps D17), (.bool a1.Sum), (sc A20 r18 D20)] 64 :: _ :: W1) ?_))
 refine l_nil (q_next (c_seq (c_region (lO (vz (.agg [(sc A11 r9 D11), (sc A14 r12 D14), (iv r15.Buffer), (iv r15.Offset), (sc A17 r15.Steps D17), (.bool a1.Sum), (sc A20 r18 D20)].toArray) (v_loadw 4 ag64 sz64 R R R R)) (l_stores 5 R R sz64 R R R R R R (lN (_ :: _ :: _ :: _ :: _ :: bxl b7 [(sc A11 r9 D11), (sc A14 r12 D14), (iv r15.Buffer), (iv r15.Offset), (sc A17 r15.Steps D17), (.bool a1.Sum), (sc A20 r18 D20)] 64 :: W1) ?_))))))
 refine l_nil (q_next (c_ret ?_))
 obtain rfl := so hr
 exact q_fin (vs := [(.agg [(sc A11 r9 D11), (sc A14 r12 D14), (iv r15.Buffer), (iv r15.Offset), (sc A17 r15.Steps D17), (.bool a1.Sum), (sc A20 r18 D20)].toArray)]) (.inl R) ((A11, r9.length, D11), (A14, r12.length, D14), (A17, r15.Steps.length, D17), (A20, r18.length, D20)) R ⟨⟨5, b7, _, _, R, R, .inl ⟨ag64, sz64, R⟩⟩, trivial⟩ R (fun w s => (s.e 11 [3, 2, 1, 0]))
theorem Z0b_ok  {a1 : (List Kernel)} {r : (List Kernel)} (hr : Z0b a1 = some r) :
 FnOk Tryz.prog 54 [(.slice A2 N2 D2)] [rds kT121 (.slice A2 N2 D2) a1] (fun (h : HH) => ((.slice h.1 h.2.1 h.2.2), [ow kT64 64 (.slice h.1 h.2.1 h.2.2) r])) := by
 unfold Z0b at hr
 refine fn_ok Tryz.func54 R 23 R R fun C V => ?_
 refine cN (_ :: V) ?_
 refine cL 0 sees_rd ?_
 rintro rfl
 let W0 : List HP := RR kT121 A2 D2 a1 :: V
 refine cN W0 ?_
 refine c_seq (c_region (lS R (l_nil (q_next (c_seq ?_)))))
 obtain ⟨hg3, hr⟩ := gd hr
 refine c_region (lS R (lO (v_len sl24 R) (l_make (K := kT64) (m := (a1.length : Int)) (z := zT64.z) R R sl34 sz64 by64 (Zr.zk zT64 zc64) (by decide) R R hg3.1 hg3.2.1 hg3.2.2 (fun A4 D4 => (lS R (l_nil (q_next (c_seq (c_cut (A := ((List Kernel)) × (Unit)) (fun a => Z0b_J1 a.1 = some r) (fun a => [(3, (sc A4 (List.replicate (a1.length : Int).toNat zT64.z) D4))]) (fun a => ow kT64 64 (.slice A4 (List.replicate (a1.length : Int).toNat zT64.z).length D4) a.1 :: W0) ?_ ?_)))))))))
 refine c_seq (c_region (lI R (l_nil (q_next (c_block ?_)))))
 obtain ⟨e1, hl1, hk1⟩ := bd hr
 refine c_loop (A := Unit) hl1 (fun s a => [(0, (sc A2 a1 D2)), (3, (sc A4 (List.replicate (a1.length : Int).toNat zT64.z) D4)), (4, (iv s.2))]) (fun s a => ow kT64 64 (.slice A4 (List.replicate (a1.length : Int).toNat zT64.z).length D4) s.1 :: W0) () (aS R) (fun w s => s) ?_
 rintro ⟨x24, i25⟩ _ σ1 out1 hr he1
 replace hr : Z0b_L1 a1 x24 i25 = some out1 := hr
 unfold Z0b_L1 at hr
 refine c_seq (c_seq (c_region (lI R (lS R (lO (v_len sl24 R) (lO (vLt R R) (l_nil (q_next ?_))))))))
 rcases bif_ hr with ⟨hb26, hr⟩ | ⟨hb26, hr⟩
 refine c_true R hb26 (c_skip (q_next (c_seq (c_block ?_))))
 obtain ⟨hg27, hr⟩ := gd hr
 obtain ⟨r34, hx35, hr⟩ := bd hr
 obtain ⟨hg40, hr⟩ := gd hr
 refine c_region (lS R (lI R (lS R (lI R (t_some 1 sees_rd (show 0 < a1.length by have := hg27; omega) (fun g28 o29 ha => ?_))))))
 subst ha
 refine lO (vIa sl24 sz121 R R hg27) (t_elem (K := kT121) 1 i25 dT121.dec R hg27.1 hg27.2 ?_)
 rintro ⟨⟨A30, D30⟩, ⟨A31, D31⟩, ⟨-, -, ⟨A32, D32⟩⟩, -, ⟨A33, D33⟩⟩
 refine lN (cl g28 (o29 + i25.toNat * 7) [(sc A30 ((ix a1 i25).Loops) D30), (sc A31 ((ix a1 i25).Loads) D31), (iv (ix a1 i25).Store.Buffer), (iv (ix a1 i25).Store.Offset), (sc A32 ((ix a1 i25).Store.Steps) D32), (.bool (ix a1 i25).Sum), (sc A33 ((ix a1 i25).Code) D33)] :: RR kT3 A30 D30 ((ix a1 i25).Loops) :: RR kT118 A31 D31 ((ix a1 i25).Loads) :: RR kT3 A32 D32 ((ix a1 i25).Store.Steps) :: RR kT187 A33 D33 ((ix a1 i25).Code) :: ow kT64 64 (.slice A4 (List.replicate (a1.length : Int).toNat zT64.z).length D4) x24 :: W0) ?_
 refine lO (vz (.agg [(sc A30 ((ix a1 i25).Loops) D30), (sc A31 ((ix a1 i25).Loads) D31), (iv (ix a1 i25).Store.Buffer), (iv (ix a1 i25).Store.Offset), (sc A32 ((ix a1 i25).Store.Steps) D32), (.bool (ix a1 i25).Sum), (sc A33 ((ix a1 i25).Code) D33)].toArray) (v_clfs (fo := 0) 0 ag121 sz121 R R R R)) (lM (rds _ _ _ :: rds _ _ _ :: rds _ _ _ :: rds _ _ _ :: cl _ _ _ :: rds _ _ _ :: rds _ _ _ :: rds _ _ _ :: rds _ _ _ :: ow _ _ _ _ :: W0) (fun w s => (((((s.d 1 R).d 3 R).d 5 R).d 7 R).e 10 [3, 2, 1, 0, 4, 5, 6, 7, 8, 9])) ?_)
 refine lC 4 cb94 R (Z1p_ok hx35) R ?_
 rintro ⟨⟨A36, N36, D36⟩, ⟨A37, N37, D37⟩, ⟨A38, N38, D38⟩, ⟨A39, N39, D39⟩⟩
 refine lN (ow kT3 3 (.slice A36 N36 D36) r34.Loops :: ow kT61 61 (.slice A37 N37 D37) r34.Loads :: ow kT3 3 (.slice A38 N38 D38) r34.Store.Steps :: ow kT101 101 (.slice A39 N39 D39) r34.Code :: _ :: _ :: _ :: _ :: _ :: _ :: W0) ?_
 refine l_len 0 sees_ow ?_
 rintro rfl
 refine l_len 1 sees_ow ?_
 rintro rfl
 refine l_len 2 sees_ow ?_
 rintro rfl
 refine l_len 3 sees_ow ?_
 rintro rfl
 refine t_some 9 sees_ow (show 0 < (List.replicate (a1.length : Int).toNat zT64.z).length by have := hg40; omega) (fun g41 o42 ha => ?_)
 subst ha
 refine lO (vIa sl34 sz64 R R hg40) (lM (ow kT64 64 (.slice (ad g41 o42) (List.replicate (a1.length : Int).toNat zT64.z).length D4) x24 :: ow _ _ _ _ :: ow _ _ _ _ :: ow _ _ _ _ :: ow _ _ _ _ :: cl _ _ _ :: rds _ _ _ :: rds _ _ _ :: rds _ _ _ :: rds _ _ _ :: W0) (fun w s => (s.f 10 [9, 1, 0, 9])) ?_)
 refine l_stx (K := kT64) (x' := r34) 4 i25 R R sz64 R R hg40.1 hg40.2 ?_ ?_
 exact fun I h s => (mO64).put I h ((sc A36 r34.Loops D36), (sc A37 r34.Loads D37), ((), (), (sc A38 r34.Store.Steps D38)), (), (sc A39 r34.Code D39)) r34 s
 refine lN (ow kT64 64 (.slice (ad g41 o42) (List.replicate (a1.length : Int).toNat zT64.z).length D4) (x24.set i25.toNat r34) :: _ :: _ :: _ :: _ :: _ :: W0) ?_
 refine l_nil (q_blockn (q_next (c_region (lI R (lO (vAd R R) (lI R (l_nil ?_)))))))
 obtain rfl := so hr
 exact qA () (fun w s => (s.e 6 [0]))
 refine c_false R hb26 (c_exit (q_exit ?_))
 obtain rfl := so hr
 obtain rfl := he1 _ R
 have hr := hk1
 refine q_exit (q_block ?_)
 exact qI (x24, ()) hr (fun w s => s)
 rintro ⟨x45, _⟩ σ1 hr
 replace hr : Z0b_J1 x45 = some r := hr
 unfold Z0b_J1 at hr
 refine c_seq (c_region (lS R (lS R (l_nil (q_next (c_ret ?_))))))
 obtain rfl := so hr
 exact qF (A4, (List.replicate (a1.length : Int).toNat zT64.z).length, D4) (fun w s => (s.e 2 [0]))
theorem Z11_ok  {a1 : Nest} {r : Nest} (hr : Z11 a1 = some r) :
 FnOk Tryz.prog 18 [(.agg [(.slice A2 N2 D2), (.slice A3 N3 D3), (.slice A4 N4 D4), (.slice A5 N5 D5), (.slice A6 N6 D6)].toArray)] [rds kT3 (.slice A2 N2 D2) a1.Sizes, rds kT3 (.slice A3 N3 D3) a1.Ins, rds kT115 (.slice A4 N4 D4) a1.Fixed, rds kT121 (.slice A5 N5 D5) a1.Kernels, rds kT3 (.slice A6 N6 D6) a1.Outs] (fun (h : HH × HH × HH × HH × HH) => ((.agg [(.slice h.1.1 h.1.2.1 h.1.2.2), (.slice h.2.1.1 h.2.1.2.1 h.2.1.2.2), (.slice h.2.2.1.1 h.2.2.1.2.1 h.2.2.1.2.2), (.slice h.2.2.2.1.1 h.2.2.2.1.2.1 h.2.2.2.1.2.2), (.slice h.2.2.2.2.1 h.2.2.2.2.2.1 h.2.2.2.2.2.2)].toArray), [ow kT3 3 (.slice h.1.1 h.1.2.1 h.1.2.2) r.Sizes, ow kT3 3 (.slice h.2.1.1 h.2.1.2.1 h.2.1.2.2) r.Ins, ow kT57 57 (.slice h.2.2.1.1 h.2.2.1.2.1 h.2.2.1.2.2) r.Fixed, ow kT64 64 (.slice h.2.2.2.1.1 h.2.2.2.1.2.1 h.2.2.2.1.2.2) r.Kernels, ow kT3 3 (.slice h.2.2.2.2.1 h.2.2.2.2.2.1 h.2.2.2.2.2.2) r.Outs])) := by
 unfold Z11 at hr
 refine fn_ok Tryz.func18 R 25 R R fun C V => ?_
 refine cN (_ :: _ :: _ :: _ :: _ :: V) ?_
 refine cL 0 sees_rd ?_
 rintro rfl
 refine cL 1 sees_rd ?_
 rintro rfl
 refine cL 2 sees_rd ?_
 rintro rfl
 refine cL 3 sees_rd ?_
 rintro rfl
 refine cL 4 sees_rd ?_
 rintro rfl
 let W0 : List HP := RR kT3 A2 D2 a1.Sizes :: RR kT3 A3 D3 a1.Ins :: RR kT115 A4 D4 a1.Fixed :: RR kT121 A5 D5 a1.Kernels :: RR kT3 A6 D6 a1.Outs :: V
 refine cN W0 ?_
 refine c_seq (c_region (lBx R (fun b7 => (l_alloc R R zc36 (fun b8 => (l_nil ?_))))))
 let W1 : List HP := bxl b7 [(sc A2 a1.Sizes D2), (sc A3 a1.Ins D3), (sc A4 a1.Fixed D4), (sc A5 a1.Kernels D5), (sc A6 a1.Outs D6)] 26 :: W0
 refine qN (_ :: W1) ?_
 refine q_next (c_seq (c_region (l_alloc R R zc36 (fun b9 => (l_nil (q_next (c_seq ?_)))))))
 obtain ⟨r10, hx11, hr⟩ := bd hr
 refine c_region (lO (vFa 0 fo26_0 R) (lO (vLd 2 ag22 R R R) (lM (RR kT3 A2 D2 a1.Sizes :: _ :: _ :: W1) (fun w s => (s.d 3 R)) ?_)))
 refine lC 1 cb35 R (Zl_ok hx11) R ?_
 rintro ⟨A12, N12, D12⟩
 refine lN (ow kT3 3 (.slice A12 N12 D12) r10 :: _ :: _ :: W1) ?_
 refine l_len 0 sees_ow ?_
 rintro rfl
 refine lO (vFa 0 fo36_0 R) (l_store 1 R R sz22 R R R R R (lN (_ :: bxl b9 [(sc A12 r10 D12), (.slice none 0 0), (.slice none 0 0), (.slice none 0 0), (.slice none 0 0)] 36 :: _ :: W1) ?_))
 refine l_nil (q_next (c_seq ?_))
 obtain ⟨r13, hx14, hr⟩ := bd hr
 refine c_region (lO (vFa 1 fo26_1 R) (lO (vLd 3 ag22 R R R) (lM (RR kT3 A3 D3 a1.Ins :: _ :: _ :: _ :: W1) (fun w s => (s.d 5 R)) ?_)))
 refine lC 1 cb35 R (Zl_ok hx14) R ?_
 rintro ⟨A15, N15, D15⟩
 refine lN (ow kT3 3 (.slice A15 N15 D15) r13 :: _ :: _ :: _ :: W1) ?_
 refine l_len 0 sees_ow ?_
 rintro rfl
 refine lO (vFa 1 fo36_1 R) (l_store 2 R R sz22 R R R R R (lN (_ :: _ :: bxl b9 [(sc A12 r10 D12), (sc A15 r13 D15), (.slice none 0 0), (.slice none 0 0), (.slice none 0 0)] 36 :: _ :: W1) ?_))
 refine l_nil (q_next (c_seq ?_))
 obtain ⟨r16, hx17, hr⟩ := bd hr
 refine c_region (lO (vFa 2 fo26_2 R) (lO (vLd 4 ag23 R R R) (lM (RR kT115 A4 D4 a1.Fixed :: _ :: _ :: _ :: _ :: W1) (fun w s => (s.d 7 R)) ?_)))
 refine lC 1 cb53 R (Z0a_ok hx17) R ?_
 rintro ⟨A18, N18, D18⟩
 refine lN (ow kT57 57 (.slice A18 N18 D18) r16 :: _ :: _ :: _ :: _ :: W1) ?_
 refine l_len 0 sees_ow ?_
 rintro rfl
 refine lO (vFa 2 fo36_2 R) (l_store 3 R R sz33 R R R R R (lN (_ :: _ :: _ :: bxl b9 [(sc A12 r10 D12), (sc A15 r13 D15), (sc A18 r16 D18), (.slice none 0 0), (.slice none 0 0)] 36 :: _ :: W1) ?_))
 refine l_nil (q_next (c_seq ?_))
 obtain ⟨r19, hx20, hr⟩ := bd hr
 refine c_region (lO (vFa 3 fo26_3 R) (lO (vLd 5 ag24 R R R) (lM (RR kT121 A5 D5 a1.Kernels :: _ :: _ :: _ :: _ :: _ :: W1) (fun w s => (s.d 9 R)) ?_)))
 refine lC 1 cb54 R (Z0b_ok hx20) R ?_
 rintro ⟨A21, N21, D21⟩
 refine lN (ow kT64 64 (.slice A21 N21 D21) r19 :: _ :: _ :: _ :: _ :: _ :: W1) ?_
 refine l_len 0 sees_ow ?_
 rintro rfl
 refine lO (vFa 3 fo36_3 R) (l_store 4 R R sz34 R R R R R (lN (_ :: _ :: _ :: _ :: bxl b9 [(sc A12 r10 D12), (sc A15 r13 D15), (sc A18 r16 D18), (sc A21 r19 D21), (.slice none 0 0)] 36 :: _ :: W1) ?_))
 refine l_nil (q_next (c_seq ?_))
 obtain ⟨r22, hx23, hr⟩ := bd hr
 refine c_region (lO (vFa 4 fo26_4 R) (lO (vLd 6 ag22 R R R) (lM (RR kT3 A6 D6 a1.Outs :: _ :: _ :: _ :: _ :: _ :: _ :: W1) (fun w s => (s.d 11 R)) ?_)))
 refine lC 1 cb35 R (Zl_ok hx23) R ?_
 rintro ⟨A24, N24, D24⟩
 refine lN (ow kT3 3 (.slice A24 N24 D24) r22 :: _ :: _ :: _ :: _ :: _ :: _ :: W1) ?_
 refine l_len 0 sees_ow ?_
 rintro rfl
 refine lO (vFa 4 fo36_4 R) (l_store 5 R R sz22 R R R R R (lN (_ :: _ :: _ :: _ :: _ :: bxl b9 [(sc A12 r10 D12), (sc A15 r13 D15), (sc A18 r16 D18), (sc A21 r19 D21), (sc A24 r22 D24)] 36 :: _ :: W1) ?_))
 refine l_nil (q_next (c_seq (c_region (lO (vz (.agg [(sc A12 r10 D12), (sc A15 r13 D15), (sc A18 r16 D18), (sc A21 r19 D21), (sc A24 r22 D24)].toArray) (v_loadw 5 ag36 sz36 R R R R)) (l_stores 6 R R sz36 R R R R R R (lN (_ :: _ :: _ :: _ :: _ :: _ :: bxl b8 [(sc A12 r10 D12), (sc A15 r13 D15), (sc A18 r16 D18), (sc A21 r19 D21), (sc A24 r22 D24)] 36 :: W1) ?_))))))
 refine l_nil (q_next (c_ret ?_))
 obtain rfl := so hr
 exact q_fin (vs := [(.agg [(sc A12 r10 D12), (sc A15 r13 D15), (sc A18 r16 D18), (sc A21 r19 D21), (sc A24 r22 D24)].toArray)]) (.inl R) ((A12, r10.length, D12), (A15, r13.length, D15), (A18, r16.length, D18), (A21, r19.length, D21), (A24, r22.length, D24)) R ⟨⟨6, b8, _, _, R, R, .inl ⟨ag36, sz36, R⟩⟩, trivial⟩ R (fun w s => (s.e 13 [4, 3, 2, 1, 0]))
theorem Z05_ok  {index1 : (List Int)} {n3 : Int} {r : Bool} (hr : Z05 index1 n3 = some r) :
 FnOk Tryz.prog 86 [(.slice A2 N2 D2), (iv n3)] [rds kT3 (.slice A2 N2 D2) index1] (fun (h : Unit) => ((.bool r), [])) := by
 unfold Z05 at hr
 refine fn_ok Tryz.func86 R 25 R R fun C V => ?_
 refine cN (_ :: V) ?_
 refine cL 0 sees_rd ?_
 rintro rfl
 let W0 : List HP := RR kT3 A2 D2 index1 :: V
 refine cN W0 ?_
 refine c_seq (c_region (lB R (l_nil (q_next (c_seq (c_cut (A := (Unit) × (Unit)) (fun a => Z05_J1 = some r) (fun a => []) (fun a => W0) ?_ ?_))))))
 refine c_seq (c_region (lI R (l_nil (q_next (c_block ?_)))))
 obtain ⟨e1, hl1, hk1⟩ := bd hr
 refine c_loop (A := Unit) hl1 (fun s a => [(0, (sc A2 index1 D2)), (1, (iv n3)), (5, (iv s))]) (fun s a => W0) () (aS R) (fun w s => s) ?_
 rintro i10 _ σ1 out1 hr he1
 replace hr : Z05_L1 index1 n3 i10 = some out1 := hr
 unfold Z05_L1 at hr
 refine c_seq (c_seq (c_region (lI R (lS R (lO (v_len sl22 R) (lO (vLt R R) (l_nil (q_next ?_))))))))
 rcases bif_ hr with ⟨hb11, hr⟩ | ⟨hb11, hr⟩
 refine c_true R hb11 (c_skip (q_next (c_seq (c_block (c_seq ?_)))))
 obtain ⟨hg12, hr⟩ := gd hr
 refine cQ [(0, (sc A2 index1 D2)), (1, (iv n3)), (5, (iv i10)), (24, (.bool ((decide ((ix index1 i10) < (0 : Int))) || (decide ((ix index1 i10) ≥ n3)))))] (W0) ?_ ?_
 refine c_region (lS R (lI R (t_some 0 sees_rd (show 0 < index1.length by have := hg12; omega) (fun g13 o14 ha => ?_))))
 subst ha
 refine lO (vIa sl22 sz3 R R hg12) (lO (vLi 0 ag3 sees_rd R hg12) (lO (vLt R R) (lB R ?_)))
 rcases bo (decide ((ix index1 i10) < (0 : Int))) with hc15 | hc15
 refine lf (wfT hc15) (lf (wfT hc15) (lf (wfT hc15) (lf (wfT hc15) (lf (wfT hc15) (lf (wfT hc15) (lO (pOT (decide ((ix index1 i10) ≥ n3)) R hc15) (l_nil ?_)))))))
 exact qJ (fun w s => s)
 refine lW (wnF hc15) (vS R) (lW (wnF hc15) (vI R) (lW (wnF hc15) (vIa sl22 sz3 R R hg12) (lW (wnF hc15) (vLi 0 ag3 sees_rd R hg12) (lW (wnF hc15) (vI R) (lW (wnF hc15) (vGe R R) (lO (pOF R hc15 R) (l_nil ?_)))))))
 exact qJ (fun w s => s)
 rintro σ1
 refine q_next ?_
 rcases bif_ hr with ⟨hb16, hr⟩ | ⟨hb16, hr⟩
 refine c_true R hb16 (c_seq (c_region (lB R (l_nil (q_next (c_ret (q_blockr (q_ret ?_))))))))
 obtain rfl := so hr
 obtain rfl := he1 _ R
 have hr := hk1
 refine q_ret (q_blockr (q_ret ?_))
 obtain rfl := so hr
 exact qF () (fun w s => (s.e 1 []))
 refine c_false R hb16 (c_skip (q_blockn (q_next (c_region (lI R (lO (vAd R R) (lI R (l_nil ?_))))))))
 obtain rfl := so hr
 exact qA () (fun w s => s)
 refine c_false R hb11 (c_exit (q_exit ?_))
 obtain rfl := so hr
 obtain rfl := he1 _ R
 have hr := hk1
 refine q_exit (q_block ?_)
 exact q_join ((), ()) hr trivial (fun w s => s)
 rintro ⟨_, _⟩ σ1 hr
 replace hr : Z05_J1 = some r := hr
 unfold Z05_J1 at hr
 refine c_seq (c_region (lB R (l_nil (q_next (c_ret ?_)))))
 obtain rfl := so hr
 exact qF () (fun w s => (s.e 1 []))
theorem Zm_ok  {list1 : (List Int)} {p3 : Int} {r : Bool} (hr : Zm list1 p3 = some r) :
 FnOk Tryz.prog 87 [(.slice A2 N2 D2), (iv p3)] [rds kT3 (.slice A2 N2 D2) list1] (fun (h : Unit) => ((.bool r), [])) := by
 unfold Zm at hr
 refine fn_ok Tryz.func87 R 18 R R fun C V => ?_
 refine cN (_ :: V) ?_
 refine cL 0 sees_rd ?_
 rintro rfl
 let W0 : List HP := RR kT3 A2 D2 list1 :: V
 refine cN W0 ?_
 refine c_seq (c_region (lB R (l_nil (q_next (c_seq (c_cut (A := (Unit) × (Unit)) (fun a => Zm_J1 = some r) (fun a => []) (fun a => W0) ?_ ?_))))))
 refine c_seq (c_region (lI R (l_nil (q_next (c_block ?_)))))
 obtain ⟨e1, hl1, hk1⟩ := bd hr
 refine c_loop (A := Unit) hl1 (fun s a => [(0, (sc A2 list1 D2)), (1, (iv p3)), (5, (iv s))]) (fun s a => W0) () (aS R) (fun w s => s) ?_
 rintro i9 _ σ1 out1 hr he1
 replace hr : Zm_L1 list1 p3 i9 = some out1 := hr
 unfold Zm_L1 at hr
 refine c_seq (c_seq (c_region (lI R (lS R (lO (v_len sl22 R) (lO (vLt R R) (l_nil (q_next ?_))))))))
 rcases bif_ hr with ⟨hb10, hr⟩ | ⟨hb10, hr⟩
 refine c_true R hb10 (c_skip (q_next (c_seq (c_block (c_seq ?_)))))
 obtain ⟨hg11, hr⟩ := gd hr
 refine c_region (lS R (lI R (t_some 0 sees_rd (show 0 < list1.length by have := hg11; omega) (fun g12 o13 ha => ?_))))
 subst ha
 refine lO (vIa sl22 sz3 R R hg11) (lO (vLi 0 ag3 sees_rd R hg11) (lI R (lO (vEq R R) (l_nil (q_next ?_)))))
 rcases bif_ hr with ⟨hb14, hr⟩ | ⟨hb14, hr⟩
 refine c_true R hb14 (c_seq (c_region (lB R (l_nil (q_next (c_ret (q_blockr (q_ret ?_))))))))
 obtain rfl := so hr
 obtain rfl := he1 _ R
 have hr := hk1
 refine q_ret (q_blockr (q_ret ?_))
 obtain rfl := so hr
 exact qF () (fun w s => (s.e 1 []))
 refine c_false R hb14 (c_skip (q_blockn (q_next (c_region (lI R (lO (vAd R R) (lI R (l_nil ?_))))))))
 obtain rfl := so hr
 exact qA () (fun w s => s)
 refine c_false R hb10 (c_exit (q_exit ?_))
 obtain rfl := so hr
 obtain rfl := he1 _ R
 have hr := hk1
 refine q_exit (q_block ?_)
 exact q_join ((), ()) hr trivial (fun w s => s)
 rintro ⟨_, _⟩ σ1 hr
 replace hr : Zm_J1 = some r := hr
 unfold Zm_J1 at hr
 refine c_seq (c_region (lB R (l_nil (q_next (c_ret ?_)))))
 obtain rfl := so hr
 exact qF () (fun w s => (s.e 1 []))
theorem Z0j_ok  {r1 : (List Int)} {r : Bool} (hr : Z0j r1 = some r) :
 FnOk Tryz.prog 25 [(.slice A2 N2 D2)] [rds kT3 (.slice A2 N2 D2) r1] (fun (h : Unit) => ((.bool r), [])) := by
 unfold Z0j at hr
 refine fn_ok Tryz.func25 R 30 R R fun C V => ?_
 refine cN (_ :: V) ?_
 refine cL 0 sees_rd ?_
 rintro rfl
 let W0 : List HP := RR kT3 A2 D2 r1 :: V
 refine cN W0 ?_
 refine c_seq (c_region (lB R (l_nil (q_next (c_seq (c_cut (A := (Unit) × (Unit)) (fun a => Z0j_J1 r1 = some r) (fun a => [(0, (sc A2 r1 D2))]) (fun a => W0) ?_ ?_))))))
 refine c_seq (c_region (lI R (l_nil (q_next (c_block ?_)))))
 obtain ⟨e1, hl1, hk1⟩ := bd hr
 refine c_loop (A := Unit) hl1 (fun s a => [(0, (sc A2 r1 D2)), (3, (iv s))]) (fun s a => W0) () (aS R) (fun w s => s) ?_
 rintro i9 _ σ1 out1 hr he1
 replace hr : Z0j_L1 r1 i9 = some out1 := hr
 unfold Z0j_L1 at hr
 refine c_seq (c_seq (c_region (lI R (lS R (lO (v_len sl22 R) (lO (vLt R R) (l_nil (q_next ?_))))))))
 rcases bif_ hr with ⟨hb10, hr⟩ | ⟨hb10, hr⟩
 refine c_true R hb10 (c_skip (q_next (c_seq (c_block (c_seq ?_)))))
 obtain ⟨hg11, hr⟩ := gd hr
 refine cQ [(0, (sc A2 r1 D2)), (3, (iv i9)), (21, (.bool ((decide ((ix r1 i9) < (0 : Int))) || (decide ((ix r1 i9) ≥ (2147483647 : Int))))))] (W0) ?_ ?_
 refine c_region (lS R (lI R (t_some 0 sees_rd (show 0 < r1.length by have := hg11; omega) (fun g12 o13 ha => ?_))))
 subst ha
 refine lO (vIa sl22 sz3 R R hg11) (lO (vLi 0 ag3 sees_rd R hg11) (lO (vLt R R) (lB R ?_)))
 rcases bo (decide ((ix r1 i9) < (0 : Int))) with hc14 | hc14
 refine lf (wfT hc14) (lf (wfT hc14) (lf (wfT hc14) (lf (wfT hc14) (lf (wfT hc14) (lO (pOT (decide ((ix r1 i9) ≥ (2147483647 : Int))) R hc14) (l_nil ?_))))))
 exact qJ (fun w s => s)
 refine lW (wnF hc14) (vS R) (lW (wnF hc14) (vI R) (lW (wnF hc14) (vIa sl22 sz3 R R hg11) (lW (wnF hc14) (vLi 0 ag3 sees_rd R hg11) (lW (wnF hc14) (vGe R R) (lO (pOF R hc14 R) (l_nil ?_))))))
 exact qJ (fun w s => s)
 rintro σ1
 refine q_next ?_
 rcases bif_ hr with ⟨hb15, hr⟩ | ⟨hb15, hr⟩
 refine c_true R hb15 (c_seq (c_region (lB R (l_nil (q_next (c_ret (q_blockr (q_ret ?_))))))))
 obtain rfl := so hr
 obtain rfl := he1 _ R
 have hr := hk1
 refine q_ret (q_blockr (q_ret ?_))
 obtain rfl := so hr
 exact qF () (fun w s => (s.e 1 []))
 refine c_false R hb15 (c_skip (q_blockn (q_next (c_region (lI R (lO (vAd R R) (lI R (l_nil ?_))))))))
 obtain rfl := so hr
 exact qA () (fun w s => s)
 refine c_false R hb10 (c_exit (q_exit ?_))
 obtain rfl := so hr
 obtain rfl := he1 _ R
 have hr := hk1
 refine q_exit (q_block ?_)
 exact qI ((), ()) hr (fun w s => s)
 rintro ⟨_, _⟩ σ1 hr
 replace hr : Z0j_J1 r1 = some r := hr
 unfold Z0j_J1 at hr
 refine c_seq (cQ [(2, (.bool ((decide ((r1.length : Int) > (0 : Int))) && (decide ((r1.length : Int) ≤ (4096 : Int))))))] (W0) ?_ ?_)
 refine c_region (lS R (lO (v_len sl22 R) (lO (vGt R R) (lB R ?_))))
 rcases bo (decide ((r1.length : Int) > (0 : Int))) with hc17 | hc17
 refine lW (wnT hc17) (vS R) (lW (wnT hc17) (v_len sl22 R) (lW (wnT hc17) (vLe R R) (lO (pAT R hc17 R) (lB R (l_nil ?_)))))
 exact qJ (fun w s => s)
 refine lf (wfF hc17) (lf (wfF hc17) (lf (wfF hc17) (lO (pAF (decide ((r1.length : Int) ≤ (4096 : Int))) R hc17) (lB R (l_nil ?_)))))
 exact qJ (fun w s => s)
 rintro σ1
 refine q_next (c_ret ?_)
 obtain rfl := so hr
 exact qF () (fun w s => (s.e 1 []))
theorem Zs_ok  {a1 : (List Int)} {r : Int} (hr : Zs a1 = some r) :
 FnOk Tryz.prog 28 [(.slice A2 N2 D2)] [rds kT3 (.slice A2 N2 D2) a1] (fun (h : Unit) => ((iv r), [])) := by
 unfold Zs at hr
 refine fn_ok Tryz.func28 R 39 R R fun C V => ?_
 refine cN (_ :: V) ?_
 refine cL 0 sees_rd ?_
 rintro rfl
 let W0 : List HP := RR kT3 A2 D2 a1 :: V
 refine cN W0 ?_
 refine c_seq (c_region (lI R (l_nil (q_next (c_seq (c_region (lI R (l_nil (q_next (c_seq (c_cut (A := (Int) × (Unit)) (fun a => Zs_J1 a.1 = some r) (fun a => [(3, (iv a.1))]) (fun a => W0) ?_ ?_)))))))))))
 refine c_seq (c_region (lI R (l_nil (q_next (c_block ?_)))))
 obtain ⟨e1, hl1, hk1⟩ := bd hr
 refine c_loop (A := Unit) hl1 (fun s a => [(0, (sc A2 a1 D2)), (3, (iv s.1)), (4, (iv s.2))]) (fun s a => W0) () (aS R) (fun w s => s) ?_
 rintro ⟨n12, i13⟩ _ σ1 out1 hr he1
 replace hr : Zs_L1 a1 n12 i13 = some out1 := hr
 unfold Zs_L1 at hr
 refine c_seq (c_seq (c_region (lI R (lS R (lO (v_len sl22 R) (lO (vLt R R) (l_nil (q_next ?_))))))))
 rcases bif_ hr with ⟨hb14, hr⟩ | ⟨hb14, hr⟩
 refine c_true R hb14 (c_skip (q_next (c_seq (c_block (c_seq (c_seq ?_))))))
 obtain ⟨hg15, hr⟩ := gd hr
 refine cQ [(0, (sc A2 a1 D2)), (3, (iv n12)), (4, (iv i13)), (31, (.bool (((decide ((ix a1 i13) < (1 : Int))) || (decide ((ix a1 i13) > (65536 : Int)))) || (decide ((w64 (n12 * (ix a1 i13))) > (65536 : Int))))))] (W0) ?_ ?_
 refine c_region (lS R (lI R (t_some 0 sees_rd (show 0 < a1.length by have := hg15; omega) (fun g16 o17 ha => ?_))))
 subst ha
 refine lO (vIa sl22 sz3 R R hg15) (lO (vLi 0 ag3 sees_rd R hg15) (lO (vLt R R) (lB R ?_)))
 rcases bo (decide ((ix a1 i13) < (1 : Int))) with hc18 | hc18
 refine lf (wfT hc18) (lf (wfT hc18) (lf (wfT hc18) (lf (wfT hc18) (lf (wfT hc18) (lO (pOT (decide ((ix a1 i13) > (65536 : Int))) R hc18) (lB R (lf (wfT (oT hc18)) (lf (wfT (oT hc18)) (lf (wfT (oT hc18)) (lf (wfT (oT hc18)) (lf (wfT (oT hc18)) (lf (wfT (oT hc18)) (lf (wfT (oT hc18)) (lO (pOT (decide ((w64 (n12 * (ix a1 i13))) > (65536 : Int))) R (oT hc18)) (l_nil ?_)))))))))))))))
 exact qJ (fun w s => s)
 refine lW (wnF hc18) (vS R) (lW (wnF hc18) (vI R) (lW (wnF hc18) (vIa sl22 sz3 R R hg15) (lW (wnF hc18) (vLi 0 ag3 sees_rd R hg15) (lW (wnF hc18) (vGt R R) (lO (pOF R hc18 R) (lB R ?_))))))
 rcases bo ((decide ((ix a1 i13) < (1 : Int))) || (decide ((ix a1 i13) > (65536 : Int)))) with hc19 | hc19
 refine lf (wfT hc19) (lf (wfT hc19) (lf (wfT hc19) (lf (wfT hc19) (lf (wfT hc19) (lf (wfT hc19) (lf (wfT hc19) (lO (pOT (decide ((w64 (n12 * (ix a1 i13))) > (65536 : Int))) R hc19) (l_nil ?_))))))))
 exact qJ (fun w s => s)
 refine lW (wnF hc19) (vI R) (lW (wnF hc19) (vS R) (lW (wnF hc19) (vI R) (lW (wnF hc19) (vIa sl22 sz3 R R hg15) (lW (wnF hc19) (vLi 0 ag3 sees_rd R hg15) (lW (wnF hc19) (vMu R R) (lW (wnF hc19) (vGt R R) (lO (pOF R hc19 R) (l_nil ?_))))))))
 exact qJ (fun w s => s)
 rintro σ1
 refine q_next ?_
 rcases bif_ hr with ⟨hb20, hr⟩ | ⟨hb20, hr⟩
 refine c_true R hb20 (c_seq (c_region (lI R (l_nil (q_next (c_ret (q_ret (q_blockr (q_ret ?_)))))))))
 obtain rfl := so hr
 obtain rfl := he1 _ R
 have hr := hk1
 refine q_ret (q_blockr (q_ret ?_))
 obtain rfl := so hr
 exact qF () (fun w s => (s.e 1 []))
 refine c_false R hb20 (c_skip (q_next (c_region (lI R (lS R (lI R (t_some 0 sees_rd (show 0 < a1.length by have := hg15; omega) (fun g21 o22 ha => ?_))))))))
 subst ha
 refine lO (vIa sl22 sz3 R R hg15) (lO (vLi 0 ag3 sees_rd R hg15) (lO (vMu R R) (lI R (l_nil (q_blockn (q_next (c_region (lI R (lO (vAd R R) (lI R (l_nil ?_)))))))))))
 obtain rfl := so hr
 exact qA () (fun w s => s)
 refine c_false R hb14 (c_exit (q_exit ?_))
 obtain rfl := so hr
 obtain rfl := he1 _ R
 have hr := hk1
 refine q_exit (q_block ?_)
 exact qI (n12, ()) hr (fun w s => s)
 rintro ⟨n25, _⟩ σ1 hr
 replace hr : Zs_J1 n25 = some r := hr
 unfold Zs_J1 at hr
 refine c_seq (c_region (lI R (lI R (l_nil (q_next (c_ret ?_))))))
 obtain rfl := so hr
 exact qF () (fun w s => (s.e 1 []))
theorem Z5_ok  {code1 : (List Calc)} {loads3 : Int} {r : Bool} (hr : Z5 code1 loads3 = some r) :
 FnOk Tryz.prog 137 [(.slice A2 N2 D2), (iv loads3)] [rds kT101 (.slice A2 N2 D2) code1] (fun (h : Unit) => ((.bool r), [])) := by
 unfold Z5 at hr
 refine fn_ok Tryz.func137 R 104 R R fun C V => ?_
 refine cN (_ :: V) ?_
 refine cL 0 sees_rd ?_
 rintro rfl
 let W0 : List HP := RR kT101 A2 D2 code1 :: V
 refine cN W0 ?_
 refine c_seq (c_region (lB R (l_nil (q_next (c_seq (c_seq (cQ [(0, (sc A2 code1 D2)), (1, (iv loads3)), (15, (.bool ((decide ((code1.length : Int) < (1 : Int))) || (decide ((code1.length : Int) > (60 : Int))))))] (W0) ?_ ?_)))))))
 refine c_region (lS R (lO (v_len sl62 R) (lO (vLt R R) (lB R ?_))))
 rcases bo (decide ((code1.length : Int) < (1 : Int))) with hc4 | hc4
 refine lf (wfT hc4) (lf (wfT hc4) (lf (wfT hc4) (lO (pOT (decide ((code1.length : Int) > (60 : Int))) R hc4) (l_nil ?_))))
 exact qJ (fun w s => s)
 refine lW (wnF hc4) (vS R) (lW (wnF hc4) (v_len sl62 R) (lW (wnF hc4) (vGt R R) (lO (pOF R hc4 R) (l_nil ?_))))
 exact qJ (fun w s => s)
 rintro σ1
 refine q_next ?_
 rcases bif_ hr with ⟨hb5, hr⟩ | ⟨hb5, hr⟩
 refine c_true R hb5 (c_seq (c_region (lB R (l_nil (q_next (c_ret (q_ret ?_)))))))
 obtain rfl := so hr
 exact qF () (fun w s => (s.e 1 []))
 refine c_false R hb5 (c_skip (q_next (c_seq (c_cut (A := (Unit) × (Unit)) (fun a => Z5_J7 = some r) (fun a => []) (fun a => W0) ?_ ?_))))
 refine c_seq (c_region (lI R (l_nil (q_next (c_block ?_)))))
 obtain ⟨e1, hl1, hk1⟩ := bd hr
 refine c_loop (A := HH) hl1 (fun s a => [(0, (.slice a.1 a.2.1 a.2.2)), (1, (iv loads3)), (5, (iv s))]) (fun s a => rds kT101 (.slice a.1 a.2.1 a.2.2) code1 :: W0) (A2, code1.length, D2) (aS R) (fun w s => (s.d 0 R)) ?_
 rintro i34 ⟨A33, N33, D33⟩ σ1 out1 hr he1
 replace hr : Z5_L1 code1 loads3 i34 = some out1 := hr
 unfold Z5_L1 at hr
 refine c_len 0 sees_rd (fun (hn : N33 = code1.length) => ?_)
 subst hn
 refine c_seq (c_seq (c_region (lI R (lS R (lO (v_len sl62 R) (lO (vLt R R) (l_nil (q_next ?_))))))))
 rcases bif_ hr with ⟨hb35, hr⟩ | ⟨hb35, hr⟩
 refine c_true R hb35 (c_skip (q_next (c_seq (c_block (c_seq ?_)))))
 obtain ⟨hg36, hr⟩ := gd hr
 refine c_region (lS R (lI R (t_some 0 sees_rd (show 0 < code1.length by have := hg36; omega) (fun g37 o38 ha => ?_))))
 subst ha
 refine lO (vIa sl62 sz101 R R hg36) (l_v (.agg [(iv (ix code1 i34).Op), (iv (ix code1 i34).A), (iv (ix code1 i34).B)].toArray) ?_ R R ?_)
 exact (v_ldef (K := kT101) (cells := fun x => [(iv x.Op), (iv x.A), (iv x.B)]) 0 i34 ag101 sz101 (DecK.flat dT101 fun _ _ => R) sees_rd R hg36.1 hg36.2)
 refine l_alloc R R zc101 (fun b39 => (l_stores 0 R R sz101 R R R R R R (lN (bxl b39 [(iv (ix code1 i34).Op), (iv (ix code1 i34).A), (iv (ix code1 i34).B)] 101 :: RR kT101 (ad g37 o38) D33 code1 :: W0) ?_)))
 refine l_nil (q_next (c_seq (c_region (lB R (l_nil (q_next (c_seq (c_cut (A := (Bool) × (Unit)) (fun a => Z5_J6 i34 a.1 = some out1) (fun a => [(0, (sc (ad g37 o38) code1 D33)), (1, (iv loads3)), (5, (iv i34)), (7, (.bool a.1))]) (fun a => RR kT101 (ad g37 o38) D33 code1 :: W0) ?_ ?_))))))))
 refine c_seq (c_region (lO (vFa 0 fo101_0 R) (lO (vLd 0 ag3 R R R) (l_nil (q_next (c_block (c_seq (c_region (lO (vEq R R) (lB R (l_nil (q_next ?_))))))))))))
 rcases bif_ hr with ⟨hb40, hr⟩ | ⟨hb40, hr⟩
 refine c_true R hb40 (cQ [(0, (sc (ad g37 o38) code1 D33)), (1, (iv loads3)), (5, (iv i34)), (7, (.bool (((decide ((ix code1 i34).A ≥ (0 : Int))) && (decide ((ix code1 i34).A < loads3))) && ((ix code1 i34).B == (0 : Int)))))] (RR kT101 (ad g37 o38) D33 code1 :: W0) ?_ ?_)
 refine c_region (lO (vFa 1 fo101_1 R) (lO (vLd 0 ag3 R R R) (lO (vGe R R) (lB R ?_))))
 rcases bo (decide ((ix code1 i34).A ≥ (0 : Int))) with hc41 | hc41
 refine lW (wnT hc41) (vFa 1 fo101_1 R) (lW (wnT hc41) (vLd 0 ag3 R R R) (lW (wnT hc41) (vI R) (lW (wnT hc41) (vLt R R) (lO (pAT R hc41 R) (lB R ?_)))))
 rcases bo ((decide ((ix code1 i34).A ≥ (0 : Int))) && (decide ((ix code1 i34).A < loads3))) with hc42 | hc42
 refine lW (wnT hc42) (vFa 2 fo101_2 R) (lW (wnT hc42) (vLd 0 ag3 R R R) (lW (wnT hc42) (vEq R R) (lO (pAT R hc42 R) (lB R (l_nil ?_)))))
 exact qJ (fun w s => (s.e 2 [1]))
 refine lf (wfF hc42) (lf (wfF hc42) (lf (wfF hc42) (lO (pAF ((ix code1 i34).B == (0 : Int)) R hc42) (lB R (l_nil ?_)))))
 exact qJ (fun w s => (s.e 2 [1]))
 refine lf (wfF hc41) (lf (wfF hc41) (lf (wfF hc41) (lf (wfF hc41) (lO (pAF (decide ((ix code1 i34).A < loads3)) R hc41) (lB R (lf (wfF (aF hc41)) (lf (wfF (aF hc41)) (lf (wfF (aF hc41)) (lO (pAF ((ix code1 i34).B == (0 : Int)) R (aF hc41)) (lB R (l_nil ?_)))))))))))
 exact qJ (fun w s => (s.e 2 [1]))
 rintro σ1
 refine q_blockn ?_
 exact qI ((((decide ((ix code1 i34).A ≥ (0 : Int))) && (decide ((ix code1 i34).A < loads3))) && ((ix code1 i34).B == (0 : Int))), ()) hr (fun w s => s)
 refine c_false R hb40 (c_seq (c_region (lO (vEq R R) (lB R (l_nil (q_next ?_))))))
 rcases bif_ hr with ⟨hb43, hr⟩ | ⟨hb43, hr⟩
 refine c_true R hb43 (cQ [(0, (sc (ad g37 o38) code1 D33)), (1, (iv loads3)), (5, (iv i34)), (7, (.bool (((decide ((ix code1 i34).A ≥ (0 : Int))) && (decide ((ix code1 i34).A < (2147483647 : Int)))) && ((ix code1 i34).B == (0 : Int)))))] (RR kT101 (ad g37 o38) D33 code1 :: W0) ?_ ?_)
 refine c_region (lO (vFa 1 fo101_1 R) (lO (vLd 0 ag3 R R R) (lO (vGe R R) (lB R ?_))))
 rcases bo (decide ((ix code1 i34).A ≥ (0 : Int))) with hc44 | hc44
 refine lW (wnT hc44) (vFa 1 fo101_1 R) (lW (wnT hc44) (vLd 0 ag3 R R R) (lW (wnT hc44) (vLt R R) (lO (pAT R hc44 R) (lB R ?_))))
 rcases bo ((decide ((ix code1 i34).A ≥ (0 : Int))) && (decide ((ix code1 i34).A < (2147483647 : Int)))) with hc45 | hc45
 refine lW (wnT hc45) (vFa 2 fo101_2 R) (lW (wnT hc45) (vLd 0 ag3 R R R) (lW (wnT hc45) (vEq R R) (lO (pAT R hc45 R) (lB R (l_nil ?_)))))
 exact qJ (fun w s => (s.e 2 [1]))
 refine lf (wfF hc45) (lf (wfF hc45) (lf (wfF hc45) (lO (pAF ((ix code1 i34).B == (0 : Int)) R hc45) (lB R (l_nil ?_)))))
 exact qJ (fun w s => (s.e 2 [1]))
 refine lf (wfF hc44) (lf (wfF hc44) (lf (wfF hc44) (lO (pAF (decide ((ix code1 i34).A < (2147483647 : Int))) R hc44) (lB R (lf (wfF (aF hc44)) (lf (wfF (aF hc44)) (lf (wfF (aF hc44)) (lO (pAF ((ix code1 i34).B == (0 : Int)) R (aF hc44)) (lB R (l_nil ?_))))))))))
 exact qJ (fun w s => (s.e 2 [1]))
 rintro σ1
 refine q_blockn ?_
 exact qI ((((decide ((ix code1 i34).A ≥ (0 : Int))) && (decide ((ix code1 i34).A < (2147483647 : Int)))) && ((ix code1 i34).B == (0 : Int))), ()) hr (fun w s => s)
 refine c_false R hb43 (c_seq (c_cut (A := (Bool) × (Unit)) (fun a => Z5_J4 code1 i34 a.1 = some out1) (fun a => [(0, (sc (ad g37 o38) code1 D33)), (1, (iv loads3)), (5, (iv i34)), (6, (pt b39 0)), (7, (.bool false)), (27, (iv (ix code1 i34).Op)), (59, (.bool a.1))]) (fun a => RR kT101 (ad g37 o38) D33 code1 :: bxl b39 [(iv (ix code1 i34).Op), (iv (ix code1 i34).A), (iv (ix code1 i34).B)] 101 :: W0) ?_ ?_))
 refine c_seq (c_region (lO (vEq R R) (lB R (l_nil (q_next ?_)))))
 rcases bif_ hr with ⟨hb46, hr⟩ | ⟨hb46, hr⟩
 refine c_true R hb46 (c_skip ?_)
 exact qI (((ix code1 i34).Op == (3 : Int)), ()) hr (fun w s => (s.e 2 [1, 0]))
 refine c_false R hb46 (c_seq (c_region (lO (vEq R R) (lB R (l_nil (q_next ?_))))))
 rcases bif_ hr with ⟨hb47, hr⟩ | ⟨hb47, hr⟩
 refine c_true R hb47 (c_skip ?_)
 exact qI (((ix code1 i34).Op == (4 : Int)), ()) hr (fun w s => (s.e 2 [1, 0]))
 refine c_false R hb47 (c_region (lO (vEq R R) (lB R (l_nil ?_))))
 exact qI (((ix code1 i34).Op == (5 : Int)), ()) hr (fun w s => (s.e 2 [1, 0]))
 rintro ⟨x48, _⟩ σ1 hr
 replace hr : Z5_J4 code1 i34 x48 = some out1 := hr
 unfold Z5_J4 at hr
 rcases bif_ hr with ⟨hb49, hr⟩ | ⟨hb49, hr⟩
 refine c_true R hb49 (cQ [(0, (sc (ad g37 o38) code1 D33)), (1, (iv loads3)), (5, (iv i34)), (7, (.bool ((((decide ((ix code1 i34).A ≥ (0 : Int))) && (decide ((ix code1 i34).A < i34))) && (decide ((ix code1 i34).B ≥ (0 : Int)))) && (decide ((ix code1 i34).B < i34)))))] (RR kT101 (ad g37 o38) D33 code1 :: W0) ?_ ?_)
 refine c_region (lO (vFa 1 fo101_1 R) (lO (vLd 1 ag3 R R R) (lO (vGe R R) (lB R ?_))))
 rcases bo (decide ((ix code1 i34).A ≥ (0 : Int))) with hc50 | hc50
 refine lW (wnT hc50) (vFa 1 fo101_1 R) (lW (wnT hc50) (vLd 1 ag3 R R R) (lW (wnT hc50) (vI R) (lW (wnT hc50) (vLt R R) (lO (pAT R hc50 R) (lB R ?_)))))
 rcases bo ((decide ((ix code1 i34).A ≥ (0 : Int))) && (decide ((ix code1 i34).A < i34))) with hc51 | hc51
 refine lW (wnT hc51) (vFa 2 fo101_2 R) (lW (wnT hc51) (vLd 1 ag3 R R R) (lW (wnT hc51) (vGe R R) (lO (pAT R hc51 R) (lB R ?_))))
 rcases bo (((decide ((ix code1 i34).A ≥ (0 : Int))) && (decide ((ix code1 i34).A < i34))) && (decide ((ix code1 i34).B ≥ (0 : Int)))) with hc52 | hc52
 refine lW (wnT hc52) (vFa 2 fo101_2 R) (lW (wnT hc52) (vLd 1 ag3 R R R) (lW (wnT hc52) (vI R) (lW (wnT hc52) (vLt R R) (lO (pAT R hc52 R) (lB R (l_nil ?_))))))
 exact qJ (fun w s => (s.e 2 [0]))
 refine lf (wfF hc52) (lf (wfF hc52) (lf (wfF hc52) (lf (wfF hc52) (lO (pAF (decide ((ix code1 i34).B < i34)) R hc52) (lB R (l_nil ?_))))))
 exact qJ (fun w s => (s.e 2 [0]))
 refine lf (wfF hc51) (lf (wfF hc51) (lf (wfF hc51) (lO (pAF (decide ((ix code1 i34).B ≥ (0 : Int))) R hc51) (lB R (lf (wfF (aF hc51)) (lf (wfF (aF hc51)) (lf (wfF (aF hc51)) (lf (wfF (aF hc51)) (lO (pAF (decide ((ix code1 i34).B < i34)) R (aF hc51)) (lB R (l_nil ?_)))))))))))
 exact qJ (fun w s => (s.e 2 [0]))
 refine lf (wfF hc50) (lf (wfF hc50) (lf (wfF hc50) (lf (wfF hc50) (lO (pAF (decide ((ix code1 i34).A < i34)) R hc50) (lB R (lf (wfF (aF hc50)) (lf (wfF (aF hc50)) (lf (wfF (aF hc50)) (lO (pAF (decide ((ix code1 i34).B ≥ (0 : Int))) R (aF hc50)) (lB R (lf (wfF (aF (aF hc50))) (lf (wfF (aF (aF hc50))) (lf (wfF (aF (aF hc50))) (lf (wfF (aF (aF hc50))) (lO (pAF (decide ((ix code1 i34).B < i34)) R (aF (aF hc50))) (lB R (l_nil ?_)))))))))))))))))
 exact qJ (fun w s => (s.e 2 [0]))
 rintro σ1
 refine q_blockn ?_
 exact qI (((((decide ((ix code1 i34).A ≥ (0 : Int))) && (decide ((ix code1 i34).A < i34))) && (decide ((ix code1 i34).B ≥ (0 : Int)))) && (decide ((ix code1 i34).B < i34))), ()) hr (fun w s => s)
 refine c_false R hb49 (c_seq (c_cut (A := (Bool) × (Unit)) (fun a => Z5_J5 code1 i34 a.1 = some out1) (fun a => [(0, (sc (ad g37 o38) code1 D33)), (1, (iv loads3)), (5, (iv i34)), (6, (pt b39 0)), (7, (.bool false)), (83, (.bool a.1))]) (fun a => RR kT101 (ad g37 o38) D33 code1 :: bxl b39 [(iv (ix code1 i34).Op), (iv (ix code1 i34).A), (iv (ix code1 i34).B)] 101 :: W0) ?_ ?_))
 refine c_seq (c_region (lO (vEq R R) (lB R (l_nil (q_next ?_)))))
 rcases bif_ hr with ⟨hb53, hr⟩ | ⟨hb53, hr⟩
 refine c_true R hb53 (c_skip ?_)
 exact qI (((ix code1 i34).Op == (6 : Int)), ()) hr (fun w s => s)
 refine c_false R hb53 (c_seq (c_region (lO (vEq R R) (lB R (l_nil (q_next ?_))))))
 rcases bif_ hr with ⟨hb54, hr⟩ | ⟨hb54, hr⟩
 refine c_true R hb54 (c_skip ?_)
 exact qI (((ix code1 i34).Op == (7 : Int)), ()) hr (fun w s => s)
 refine c_false R hb54 (c_seq (c_region (lO (vEq R R) (lB R (l_nil (q_next ?_))))))
 rcases bif_ hr with ⟨hb55, hr⟩ | ⟨hb55, hr⟩
 refine c_true R hb55 (c_skip ?_)
 exact qI (((ix code1 i34).Op == (8 : Int)), ()) hr (fun w s => s)
 refine c_false R hb55 (c_region (lO (vEq R R) (lB R (l_nil ?_))))
 exact qI (((ix code1 i34).Op == (9 : Int)), ()) hr (fun w s => s)
 rintro ⟨x56, _⟩ σ1 hr
 replace hr : Z5_J5 code1 i34 x56 = some out1 := hr
 unfold Z5_J5 at hr
 rcases bif_ hr with ⟨hb57, hr⟩ | ⟨hb57, hr⟩
 refine c_true R hb57 (cQ [(0, (sc (ad g37 o38) code1 D33)), (1, (iv loads3)), (5, (iv i34)), (7, (.bool (((decide ((ix code1 i34).A ≥ (0 : Int))) && (decide ((ix code1 i34).A < i34))) && ((ix code1 i34).B == (0 : Int)))))] (RR kT101 (ad g37 o38) D33 code1 :: W0) ?_ ?_)
 refine c_region (lO (vFa 1 fo101_1 R) (lO (vLd 1 ag3 R R R) (lO (vGe R R) (lB R ?_))))
 rcases bo (decide ((ix code1 i34).A ≥ (0 : Int))) with hc58 | hc58
 refine lW (wnT hc58) (vFa 1 fo101_1 R) (lW (wnT hc58) (vLd 1 ag3 R R R) (lW (wnT hc58) (vI R) (lW (wnT hc58) (vLt R R) (lO (pAT R hc58 R) (lB R ?_)))))
 rcases bo ((decide ((ix code1 i34).A ≥ (0 : Int))) && (decide ((ix code1 i34).A < i34))) with hc59 | hc59
 refine lW (wnT hc59) (vFa 2 fo101_2 R) (lW (wnT hc59) (vLd 1 ag3 R R R) (lW (wnT hc59) (vEq R R) (lO (pAT R hc59 R) (lB R (l_nil ?_)))))
 exact qJ (fun w s => (s.e 2 [0]))
 refine lf (wfF hc59) (lf (wfF hc59) (lf (wfF hc59) (lO (pAF ((ix code1 i34).B == (0 : Int)) R hc59) (lB R (l_nil ?_)))))
 exact qJ (fun w s => (s.e 2 [0]))
 refine lf (wfF hc58) (lf (wfF hc58) (lf (wfF hc58) (lf (wfF hc58) (lO (pAF (decide ((ix code1 i34).A < i34)) R hc58) (lB R (lf (wfF (aF hc58)) (lf (wfF (aF hc58)) (lf (wfF (aF hc58)) (lO (pAF ((ix code1 i34).B == (0 : Int)) R (aF hc58)) (lB R (l_nil ?_)))))))))))
 exact qJ (fun w s => (s.e 2 [0]))
 rintro σ1
 refine q_blockn ?_
 exact qI ((((decide ((ix code1 i34).A ≥ (0 : Int))) && (decide ((ix code1 i34).A < i34))) && ((ix code1 i34).B == (0 : Int))), ()) hr (fun w s => s)
 refine c_false R hb57 (c_skip (q_blockn ?_))
 exact qI (false, ()) hr (fun w s => (s.e 2 [0]))
 rintro ⟨ok60, _⟩ σ1 hr
 replace hr : Z5_J6 i34 ok60 = some out1 := hr
 unfold Z5_J6 at hr
 refine c_seq (c_region (lB R (lO (vNo R) (l_nil (q_next ?_)))))
 rcases bif_ hr with ⟨hb61, hr⟩ | ⟨hb61, hr⟩
 refine c_true R hb61 (c_seq (c_region (lB R (l_nil (q_next (c_ret (q_blockr (q_ret ?_))))))))
 obtain rfl := so hr
 obtain rfl := he1 _ R
 have hr := hk1
 refine q_ret (q_blockr (q_ret ?_))
 obtain rfl := so hr
 exact qF () (fun w s => (s.e 2 []))
 refine c_false R hb61 (c_skip (q_blockn (q_next (c_region (lI R (lO (vAd R R) (lI R (l_nil ?_))))))))
 obtain rfl := so hr
 exact qA ((ad g37 o38), code1.length, D33) (fun w s => s)
 refine c_false R hb35 (c_exit (q_exit ?_))
 obtain rfl := so hr
 obtain rfl := he1 _ R
 have hr := hk1
 refine q_exit (q_block ?_)
 exact q_join ((), ()) hr trivial (fun w s => (s.e 1 []))
 rintro ⟨_, _⟩ σ1 hr
 replace hr : Z5_J7 = some r := hr
 unfold Z5_J7 at hr
 refine c_seq (c_region (lB R (l_nil (q_next (c_ret ?_)))))
 obtain rfl := so hr
 exact qF () (fun w s => (s.e 1 []))
theorem Zi_ok  {a1 : Access} {loops3 : (List Int)} {sizes5 : (List Int)} {r : Bool} (hr : Zi a1 loops3 sizes5 = some r) :
 FnOk Tryz.prog 138 [(.agg [(iv a1.Buffer), (iv a1.Offset), (.slice A2 N2 D2)].toArray), (.slice A4 N4 D4), (.slice A6 N6 D6)] [rds kT3 (.slice A2 N2 D2) a1.Steps, rds kT3 (.slice A4 N4 D4) loops3, rds kT3 (.slice A6 N6 D6) sizes5] (fun (h : Unit) => ((.bool r), [])) := by
 unfold Zi at hr
 refine fn_ok Tryz.func138 R 112 R R fun C V => ?_
 refine cN (_ :: _ :: _ :: V) ?_
 refine cL 0 sees_rd ?_
 rintro rfl
 refine cL 1 sees_rd ?_
 rintro rfl
 refine cL 2 sees_rd ?_
 rintro rfl
 let W0 : List HP := RR kT3 A2 D2 a1.Steps :: RR kT3 A4 D4 loops3 :: RR kT3 A6 D6 sizes5 :: V
 refine cN W0 ?_
 refine c_seq (c_region (lBx R (fun b7 => (lB R (l_nil ?_)))))
 let W1 : List HP := bxl b7 [(iv a1.Buffer), (iv a1.Offset), (sc A2 a1.Steps D2)] 61 :: W0
 refine qN W1 ?_
 refine q_next (c_seq (c_seq ?_))
 obtain ⟨hg8, hr⟩ := gd hr
 refine cQ [(1, (sc A4 loops3 D4)), (2, (sc A6 sizes5 D6)), (3, (pt b7 0)), (43, (.bool (((((decide (a1.Buffer < (0 : Int))) || (decide (a1.Buffer ≥ (sizes5.length : Int)))) || ((a1.Steps.length : Int) != (loops3.length : Int))) || (decide (a1.Offset < (0 : Int)))) || (decide (a1.Offset ≥ (ix sizes5 a1.Buffer))))))] (W1) ?_ ?_
 rcases bo (decide (a1.Buffer < (0 : Int))) with hc11 | hc11
 refine cdr 33 [] mixo (fun ht hn => (dR 0 R (vFa 0 fo61_0 R) (dR 1 R (vLd 0 ag3 R R R) (dR 2 R (vLt R R) (dR 3 R (vB R) (dF 4 R (wfT hc11) (dF 5 R (wfT hc11) (dF 6 R (wfT hc11) (dF 7 R (wfT hc11) (dF 8 R (wfT hc11) (dR 9 R (pOT (decide (a1.Buffer ≥ (sizes5.length : Int))) R hc11) (dR 10 R (vB R) (dF 11 R (wfT (oT hc11)) (dF 12 R (wfT (oT hc11)) (dF 13 R (wfT (oT hc11)) (dF 14 R (wfT (oT hc11)) (dF 15 R (wfT (oT hc11)) (dF 16 R (wfT (oT hc11)) (dR 17 R (pOT ((a1.Steps.length : Int) != (loops3.length : Int)) R (oT hc11)) (dR 18 R (vB R) (dF 19 R (wfT (oT (oT hc11))) (dF 20 R (wfT (oT (oT hc11))) (dF 21 R (wfT (oT (oT hc11))) (dR 22 R (pOT (decide (a1.Offset < (0 : Int))) R (oT (oT hc11))) (dR 23 R (vB R) (dF 24 R (wfT (oT (oT (oT hc11)))) (dF 25 R (wfT (oT (oT (oT hc11)))) (dF 26 R (wfT (oT (oT (oT hc11)))) (dF 27 R (wfT (oT (oT (oT hc11)))) (dF 28 R (wfT (oT (oT (oT hc11)))) (dF 29 R (wfT (oT (oT (oT hc11)))) (dF 30 R (wfT (oT (oT (oT hc11)))) (dF 31 R (wfT (oT (oT (oT hc11)))) (dR 32 R (pOT (decide (a1.Offset ≥ (ix sizes5 a1.Buffer))) R (oT (oT (oT hc11)))) (dD ?_)))))))))))))))))))))))))))))))))))
 exact qJ (fun w s => s)
 rcases bo ((decide (a1.Buffer < (0 : Int))) || (decide (a1.Buffer ≥ (sizes5.length : Int)))) with hc12 | hc12
 refine cdr 33 [] mixo (fun ht hn => (dR 0 R (vFa 0 fo61_0 R) (dR 1 R (vLd 0 ag3 R R R) (dR 2 R (vLt R R) (dR 3 R (vB R) (dW 4 R (wnF hc11) (vFa 0 fo61_0 R) (dW 5 R (wnF hc11) (vLd 0 ag3 R R R) (dW 6 R (wnF hc11) (vS R) (dW 7 R (wnF hc11) (v_len sl22 R) (dW 8 R (wnF hc11) (vGe R R) (dR 9 R (pOF R hc11 R) (dR 10 R (vB R) (dF 11 R (wfT hc12) (dF 12 R (wfT hc12) (dF 13 R (wfT hc12) (dF 14 R (wfT hc12) (dF 15 R (wfT hc12) (dF 16 R (wfT hc12) (dR 17 R (pOT ((a1.Steps.length : Int) != (loops3.length : Int)) R hc12) (dR 18 R (vB R) (dF 19 R (wfT (oT hc12)) (dF 20 R (wfT (oT hc12)) (dF 21 R (wfT (oT hc12)) (dR 22 R (pOT (decide (a1.Offset < (0 : Int))) R (oT hc12)) (dR 23 R (vB R) (dF 24 R (wfT (oT (oT hc12))) (dF 25 R (wfT (oT (oT hc12))) (dF 26 R (wfT (oT (oT hc12))) (dF 27 R (wfT (oT (oT hc12))) (dF 28 R (wfT (oT (oT hc12))) (dF 29 R (wfT (oT (oT hc12))) (dF 30 R (wfT (oT (oT hc12))) (dF 31 R (wfT (oT (oT hc12))) (dR 32 R (pOT (decide (a1.Offset ≥ (ix sizes5 a1.Buffer))) R (oT (oT hc12))) (dD ?_)))))))))))))))))))))))))))))))))))
 exact qJ (fun w s => s)
 rcases bo (((decide (a1.Buffer < (0 : Int))) || (decide (a1.Buffer ≥ (sizes5.length : Int)))) || ((a1.Steps.length : Int) != (loops3.length : Int))) with hc13 | hc13
 refine cdr 33 [] mixo (fun ht hn => (dR 0 R (vFa 0 fo61_0 R) (dR 1 R (vLd 0 ag3 R R R) (dR 2 R (vLt R R) (dR 3 R (vB R) (dW 4 R (wnF hc11) (vFa 0 fo61_0 R) (dW 5 R (wnF hc11) (vLd 0 ag3 R R R) (dW 6 R (wnF hc11) (vS R) (dW 7 R (wnF hc11) (v_len sl22 R) (dW 8 R (wnF hc11) (vGe R R) (dR 9 R (pOF R hc11 R) (dR 10 R (vB R) (dW 11 R (wnF hc12) (vFa 2 fo61_2 R) (dW 12 R (wnF hc12) (vLd 0 ag22 R R R) (dW 13 R (wnF hc12) (v_len sl22 R) (dW 14 R (wnF hc12) (vS R) (dW 15 R (wnF hc12) (v_len sl22 R) (dW 16 R (wnF hc12) (vNe R R) (dR 17 R (pOF R hc12 R) (dR 18 R (vB R) (dF 19 R (wfT hc13) (dF 20 R (wfT hc13) (dF 21 R (wfT hc13) (dR 22 R (pOT (decide (a1.Offset < (0 : Int))) R hc13) (dR 23 R (vB R) (dF 24 R (wfT (oT hc13)) (dF 25 R (wfT (oT hc13)) (dF 26 R (wfT (oT hc13)) (dF 27 R (wfT (oT hc13)) (dF 28 R (wfT (oT hc13)) (dF 29 R (wfT (oT hc13)) (dF 30 R (wfT (oT hc13)) (dF 31 R (wfT (oT hc13)) (dR 32 R (pOT (decide (a1.Offset ≥ (ix sizes5 a1.Buffer))) R (oT hc13)) (dD ?_)))))))))))))))))))))))))))))))))))
 exact qJ (fun w s => s)
 rcases bo ((((decide (a1.Buffer < (0 : Int))) || (decide (a1.Buffer ≥ (sizes5.length : Int)))) || ((a1.Steps.length : Int) != (loops3.length : Int))) || (decide (a1.Offset < (0 : Int)))) with hc14 | hc14
 refine cdr 33 [] mixo (fun ht hn => (dR 0 R (vFa 0 fo61_0 R) (dR 1 R (vLd 0 ag3 R R R) (dR 2 R (vLt R R) (dR 3 R (vB R) (dW 4 R (wnF hc11) (vFa 0 fo61_0 R) (dW 5 R (wnF hc11) (vLd 0 ag3 R R R) (dW 6 R (wnF hc11) (vS R) (dW 7 R (wnF hc11) (v_len sl22 R) (dW 8 R (wnF hc11) (vGe R R) (dR 9 R (pOF R hc11 R) (dR 10 R (vB R) (dW 11 R (wnF hc12) (vFa 2 fo61_2 R) (dW 12 R (wnF hc12) (vLd 0 ag22 R R R) (dW 13 R (wnF hc12) (v_len sl22 R) (dW 14 R (wnF hc12) (vS R) (dW 15 R (wnF hc12) (v_len sl22 R) (dW 16 R (wnF hc12) (vNe R R) (dR 17 R (pOF R hc12 R) (dR 18 R (vB R) (dW 19 R (wnF hc13) (vFa 1 fo61_1 R) (dW 20 R (wnF hc13) (vLd 0 ag3 R R R) (dW 21 R (wnF hc13) (vLt R R) (dR 22 R (pOF R hc13 R) (dR 23 R (vB R) (dF 24 R (wfT hc14) (dF 25 R (wfT hc14) (dF 26 R (wfT hc14) (dF 27 R (wfT hc14) (dF 28 R (wfT hc14) (dF 29 R (wfT hc14) (dF 30 R (wfT hc14) (dF 31 R (wfT hc14) (dR 32 R (pOT (decide (a1.Offset ≥ (ix sizes5 a1.Buffer))) R hc14) (dD ?_)))))))))))))))))))))))))))))))))))
 exact qJ (fun w s => s)
 refine c_some 3 sees_rd (show 0 < sizes5.length by have := (hg8 hc14); omega) (fun g9 o10 ha => ?_)
 subst ha
 refine cdr 33 [] mixo (fun ht hn => (dR 0 R (vFa 0 fo61_0 R) (dR 1 R (vLd 0 ag3 R R R) (dR 2 R (vLt R R) (dR 3 R (vB R) (dW 4 R (wnF hc11) (vFa 0 fo61_0 R) (dW 5 R (wnF hc11) (vLd 0 ag3 R R R) (dW 6 R (wnF hc11) (vS R) (dW 7 R (wnF hc11) (v_len sl22 R) (dW 8 R (wnF hc11) (vGe R R) (dR 9 R (pOF R hc11 R) (dR 10 R (vB R) (dW 11 R (wnF hc12) (vFa 2 fo61_2 R) (dW 12 R (wnF hc12) (vLd 0 ag22 R R R) (dW 13 R (wnF hc12) (v_len sl22 R) (dW 14 R (wnF hc12) (vS R) (dW 15 R (wnF hc12) (v_len sl22 R) (dW 16 R (wnF hc12) (vNe R R) (dR 17 R (pOF R hc12 R) (dR 18 R (vB R) (dW 19 R (wnF hc13) (vFa 1 fo61_1 R) (dW 20 R (wnF hc13) (vLd 0 ag3 R R R) (dW 21 R (wnF hc13) (vLt R R) (dR 22 R (pOF R hc13 R) (dR 23 R (vB R) (dW 24 R (wnF hc14) (vFa 1 fo61_1 R) (dW 25 R (wnF hc14) (vLd 0 ag3 R R R) (dW 26 R (wnF hc14) (vS R) (dW 27 R (wnF hc14) (vFa 0 fo61_0 R) (dW 28 R (wnF hc14) (vLd 0 ag3 R R R) (dW 29 R (wnF hc14) (vIa sl22 sz3 R R (hg8 hc14)) (dW 30 R (wnF hc14) (vLi 3 ag3 sees_rd R (hg8 hc14)) (dW 31 R (wnF hc14) (vGe R R) (dR 32 R (pOF R hc14 R) (dD ?_)))))))))))))))))))))))))))))))))))
 exact qJ (fun w s => s)
 rintro σ1
 refine q_next ?_
 rcases bif_ hr with ⟨hb15, hr⟩ | ⟨hb15, hr⟩
 refine c_true R hb15 (c_seq (c_region (lB R (l_nil (q_next (c_ret (q_ret ?_)))))))
 obtain rfl := so hr
 exact qF () (fun w s => (s.e 4 []))
 refine c_false R hb15 (c_skip (q_next (c_seq (c_region (lO (vFa 1 fo61_1 R) (lO (vLd 0 ag3 R R R) (lI R (l_nil (q_next (c_seq (c_region (lO (vFa 1 fo61_1 R) (lO (vLd 0 ag3 R R R) (lI R (l_nil (q_next (c_seq (c_cut (A := (Int × Int) × (Unit)) (fun a => Zi_J3 a1 sizes5 a.1.1 a.1.2 = some r) (fun a => [(2, (sc A6 sizes5 D6)), (3, (pt b7 0)), (7, (iv a.1.1)), (8, (iv a.1.2))]) (fun a => W1) ?_ ?_))))))))))))))))))
 refine c_seq (c_region (lI R (l_nil (q_next (c_block ?_)))))
 obtain ⟨e1, hl1, hk1⟩ := bd hr
 refine c_loop (A := Unit) hl1 (fun s a => [(1, (sc A4 loops3 D4)), (2, (sc A6 sizes5 D6)), (3, (pt b7 0)), (7, (iv s.1)), (8, (iv s.2.1)), (9, (iv s.2.2))]) (fun s a => W1) () (aS R) (fun w s => s) ?_
 rintro ⟨low37, high38, i39⟩ _ σ1 out1 hr he1
 replace hr : Zi_L1 a1 loops3 low37 high38 i39 = some out1 := hr
 unfold Zi_L1 at hr
 refine c_seq (c_seq (c_region (lI R (lS R (lO (v_len sl22 R) (lO (vLt R R) (l_nil (q_next ?_))))))))
 rcases bif_ hr with ⟨hb40, hr⟩ | ⟨hb40, hr⟩
 refine c_true R hb40 (c_skip (q_next (c_seq (c_cut (A := (Int × Int) × (Unit)) (fun a => Zi_J2 i39 a.1.1 a.1.2 = some out1) (fun a => [(1, (sc A4 loops3 D4)), (2, (sc A6 sizes5 D6)), (3, (pt b7 0)), (7, (iv a.1.1)), (8, (iv a.1.2)), (9, (iv i39))]) (fun a => W1) ?_ ?_))))
 refine c_block (c_seq ?_)
 obtain ⟨hg41, hr⟩ := gd hr
 refine c_region (lO (vFa 2 fo61_2 R) (lO (vLd 0 ag22 R R R) (lI R (t_some 1 sees_rd (show 0 < a1.Steps.length by have := hg41; omega) (fun g42 o43 ha => ?_)))))
 subst ha
 refine lO (vIa sl22 sz3 R R hg41) (lO (vLi 1 ag3 sees_rd R hg41) (lI R (l_nil (q_next (c_seq (c_seq ?_))))))
 obtain ⟨hg44, hr⟩ := gd hr
 refine cQ [(1, (sc A4 loops3 D4)), (2, (sc A6 sizes5 D6)), (3, (pt b7 0)), (7, (iv low37)), (8, (iv high38)), (9, (iv i39)), (10, (iv (ix a1.Steps i39))), (67, (.bool (((ix loops3 i39) == (1 : Int)) && ((ix a1.Steps i39) == (0 : Int)))))] (W1) ?_ ?_
 refine c_region (lS R (lI R (t_some 2 sees_rd (show 0 < loops3.length by have := hg44; omega) (fun g45 o46 ha => ?_))))
 subst ha
 refine lO (vIa sl22 sz3 R R hg44) (lO (vLi 2 ag3 sees_rd R hg44) (lO (vEq R R) (lB R ?_)))
 rcases bo ((ix loops3 i39) == (1 : Int)) with hc47 | hc47
 refine lW (wnT hc47) (vI R) (lW (wnT hc47) (vEq R R) (lO (pAT R hc47 R) (l_nil ?_)))
 exact qJ (fun w s => s)
 refine lf (wfF hc47) (lf (wfF hc47) (lO (pAF ((ix a1.Steps i39) == (0 : Int)) R hc47) (l_nil ?_)))
 exact qJ (fun w s => s)
 rintro σ1
 refine q_next ?_
 rcases bif_ hr with ⟨hb48, hr⟩ | ⟨hb48, hr⟩
 refine c_true R hb48 (c_exit (q_exit (q_block ?_)))
 exact qI ((low37, high38), ()) hr (fun w s => s)
 refine c_false R hb48 (c_skip (q_next (c_seq (c_seq (cQ [(1, (sc A4 loops3 D4)), (2, (sc A6 sizes5 D6)), (3, (pt b7 0)), (7, (iv low37)), (8, (iv high38)), (9, (iv i39)), (10, (iv (ix a1.Steps i39))), (80, (.bool ((((ix loops3 i39) == (1 : Int)) || (decide ((ix a1.Steps i39) < (-4096 : Int)))) || (decide ((ix a1.Steps i39) > (4096 : Int))))))] (W1) ?_ ?_)))))
 refine c_region (lS R (lI R (t_some 2 sees_rd (show 0 < loops3.length by have := hg44; omega) (fun g49 o50 ha => ?_))))
 subst ha
 refine lO (vIa sl22 sz3 R R hg44) (lO (vLi 2 ag3 sees_rd R hg44) (lO (vEq R R) (lB R ?_)))
 rcases bo ((ix loops3 i39) == (1 : Int)) with hc51 | hc51
 refine lf (wfT hc51) (lf (wfT hc51) (lO (pOT (decide ((ix a1.Steps i39) < (-4096 : Int))) R hc51) (lB R (lf (wfT (oT hc51)) (lf (wfT (oT hc51)) (lO (pOT (decide ((ix a1.Steps i39) > (4096 : Int))) R (oT hc51)) (l_nil ?_)))))))
 exact qJ (fun w s => s)
 refine lW (wnF hc51) (vI R) (lW (wnF hc51) (vLt R R) (lO (pOF R hc51 R) (lB R ?_)))
 rcases bo (((ix loops3 i39) == (1 : Int)) || (decide ((ix a1.Steps i39) < (-4096 : Int)))) with hc52 | hc52
 refine lf (wfT hc52) (lf (wfT hc52) (lO (pOT (decide ((ix a1.Steps i39) > (4096 : Int))) R hc52) (l_nil ?_)))
 exact qJ (fun w s => s)
 refine lW (wnF hc52) (vI R) (lW (wnF hc52) (vGt R R) (lO (pOF R hc52 R) (l_nil ?_)))
 exact qJ (fun w s => s)
 rintro σ1
 refine q_next ?_
 rcases bif_ hr with ⟨hb53, hr⟩ | ⟨hb53, hr⟩
 refine c_true R hb53 (c_seq (c_region (lB R (l_nil (q_next (c_ret (q_ret (q_blockr (q_ret ?_)))))))))
 obtain rfl := so hr
 obtain rfl := he1 _ R
 have hr := hk1
 refine q_ret (q_blockr (q_ret ?_))
 obtain rfl := so hr
 exact qF () (fun w s => (s.e 4 []))
 refine c_false R hb53 (c_skip (q_next (c_seq (c_region (lI R (lO (vLt R R) (l_nil (q_next ?_))))))))
 rcases bif_ hr with ⟨hb54, hr⟩ | ⟨hb54, hr⟩
 refine c_true R hb54 (c_region (lI R (lI R (lS R (lI R (t_some 2 sees_rd (show 0 < loops3.length by have := hg44; omega) (fun g55 o56 ha => ?_)))))))
 subst ha
 refine lO (vIa sl22 sz3 R R hg44) (lO (vLi 2 ag3 sees_rd R hg44) (lO (vSb R R) (lO (vMu R R) (lO (vAd R R) (lI R (l_nil (q_blockn ?_)))))))
 exact qI (((w64 (low37 + (w64 ((ix a1.Steps i39) * (w64 ((ix loops3 i39) - (1 : Int))))))), high38), ()) hr (fun w s => s)
 refine c_false R hb54 (c_region (lI R (lI R (lS R (lI R (t_some 2 sees_rd (show 0 < loops3.length by have := hg44; omega) (fun g57 o58 ha => ?_)))))))
 subst ha
 refine lO (vIa sl22 sz3 R R hg44) (lO (vLi 2 ag3 sees_rd R hg44) (lO (vSb R R) (lO (vMu R R) (lO (vAd R R) (lI R (l_nil (q_blockn ?_)))))))
 exact qI ((low37, (w64 (high38 + (w64 ((ix a1.Steps i39) * (w64 ((ix loops3 i39) - (1 : Int)))))))), ()) hr (fun w s => s)
 rintro ⟨⟨low59, high60⟩, _⟩ σ1 hr
 replace hr : Zi_J2 i39 low59 high60 = some out1 := hr
 unfold Zi_J2 at hr
 refine c_region (lI R (lO (vAd R R) (lI R (l_nil ?_))))
 obtain rfl := so hr
 exact qA () (fun w s => s)
 refine c_false R hb40 (c_exit (q_exit ?_))
 obtain rfl := so hr
 obtain rfl := he1 _ R
 have hr := hk1
 refine q_exit (q_block ?_)
 exact qI ((low37, high38), ()) hr (fun w s => s)
 rintro ⟨⟨low64, high65⟩, _⟩ σ1 hr
 replace hr : Zi_J3 a1 sizes5 low64 high65 = some r := hr
 unfold Zi_J3 at hr
 refine c_seq ?_
 obtain ⟨hg66, hr⟩ := gd hr
 refine cQ [(6, (.bool ((decide (low64 ≥ (0 : Int))) && (decide (high65 < (ix sizes5 a1.Buffer))))))] (W1) ?_ ?_
 refine c_region (lI R (lO (vGe R R) (lB R ?_)))
 rcases bo (decide (low64 ≥ (0 : Int))) with hc69 | hc69
 refine lW (wnT hc69) (vI R) (lW (wnT hc69) (vS R) (lW (wnT hc69) (vFa 0 fo61_0 R) (lW (wnT hc69) (vLd 0 ag3 R R R) (t_some 3 sees_rd (show 0 < sizes5.length by have := (hg66 hc69); omega) (fun g67 o68 ha => ?_)))))
 subst ha
 refine lW (wnT hc69) (vIa sl22 sz3 R R (hg66 hc69)) (lW (wnT hc69) (vLi 3 ag3 sees_rd R (hg66 hc69)) (lW (wnT hc69) (vLt R R) (lO (pAT R hc69 R) (lB R (l_nil ?_)))))
 exact qJ (fun w s => s)
 refine lf (wfF hc69) (lf (wfF hc69) (lf (wfF hc69) (lf (wfF hc69) (lf (wfF hc69) (lf (wfF hc69) (lf (wfF hc69) (lO (pAF (decide (high65 < (ix sizes5 a1.Buffer))) R hc69) (lB R (l_nil ?_)))))))))
 exact qJ (fun w s => s)
 rintro σ1
 refine q_next (c_ret ?_)
 obtain rfl := so hr
 exact qF () (fun w s => (s.e 4 []))
theorem Z0l_ok  {k1 : Kernel} {sizes6 : (List Int)} {r : Bool} (hr : Z0l k1 sizes6 = some r) :
 FnOk Tryz.prog 88 [(.agg [(.slice A2 N2 D2), (.slice A3 N3 D3), (iv k1.Store.Buffer), (iv k1.Store.Offset), (.slice A4 N4 D4), (.bool k1.Sum), (.slice A5 N5 D5)].toArray), (.slice A7 N7 D7)] [rds kT3 (.slice A2 N2 D2) k1.Loops, rds kT61 (.slice A3 N3 D3) k1.Loads, rds kT3 (.slice A4 N4 D4) k1.Store.Steps, rds kT101 (.slice A5 N5 D5) k1.Code, rds kT3 (.slice A7 N7 D7) sizes6] (fun (h : Unit) => ((.bool r), [])) := by
 unfold Z0l at hr
 refine fn_ok Tryz.func88 R 69 R R fun C V => ?_
 refine cN (_ :: _ :: _ :: _ :: _ :: V) ?_
 refine cL 0 sees_rd ?_
 rintro rfl
 refine cL 1 sees_rd ?_
 rintro rfl
 refine cL 2 sees_rd ?_
 rintro rfl
 refine cL 3 sees_rd ?_
 rintro rfl
 refine cL 4 sees_rd ?_
 rintro rfl
 let W0 : List HP := RR kT3 A2 D2 k1.Loops :: RR kT61 A3 D3 k1.Loads :: RR kT3 A4 D4 k1.Store.Steps :: RR kT101 A5 D5 k1.Code :: RR kT3 A7 D7 sizes6 :: V
 refine cN W0 ?_
 refine c_seq (c_region (lBx R (fun b8 => (lB R (l_nil ?_)))))
 let W1 : List HP := bxl b8 [(sc A2 k1.Loops D2), (sc A3 k1.Loads D3), (iv k1.Store.Buffer), (iv k1.Store.Offset), (sc A4 k1.Store.Steps D4), (.bool k1.Sum), (sc A5 k1.Code D5)] 64 :: W0
 refine qN W1 ?_
 refine q_next (c_seq (c_seq ?_))
 obtain ⟨r9, hx10, hr⟩ := bd hr
 obtain ⟨r11, hx12, hr⟩ := bd hr
 obtain ⟨r13, hx14, hr⟩ := bd hr
 refine cQ [(1, (sc A7 sizes6 D7)), (2, (pt b8 0)), (39, (.bool (((((decide ((k1.Loops.length : Int) > (12 : Int))) || (decide ((k1.Loads.length : Int) > (30 : Int)))) || (r9 == (0 : Int))) || (!r11)) || (!r13))))] (W1) ?_ ?_
 refine c_region (lO (vFa 0 fo64_0 R) (lO (vLd 0 ag22 R R R) (lO (v_len sl22 R) (lO (vGt R R) (lB R ?_)))))
 rcases bo (decide ((k1.Loops.length : Int) > (12 : Int))) with hc15 | hc15
 refine lf (wfT hc15) (lf (wfT hc15) (lf (wfT hc15) (lf (wfT hc15) (lO (pOT (decide ((k1.Loads.length : Int) > (30 : Int))) R hc15) (lB R (lf (wfT (oT hc15)) (lf (wfT (oT hc15)) (lf (wfT (oT hc15)) (lf (wfT (oT hc15)) (lO (pOT (r9 == (0 : Int)) R (oT hc15)) (lB R (lf (wfT (oT (oT hc15))) (lf (wfT (oT (oT hc15))) (lf (wfT (oT (oT hc15))) (lf (wfT (oT (oT hc15))) (lf (wfT (oT (oT hc15))) (lf (wfT (oT (oT hc15))) (lf (wfT (oT (oT hc15))) (lO (pOT (!r11) R (oT (oT hc15))) (lB R (lf (wfT (oT (oT (oT hc15)))) (lf (wfT (oT (oT (oT hc15)))) (lf (wfT (oT (oT (oT hc15)))) (lf (wfT (oT (oT (oT hc15)))) (lf (wfT (oT (oT (oT hc15)))) (lf (wfT (oT (oT (oT hc15)))) (lf (wfT (oT (oT (oT hc15)))) (lO (pOT (!r13) R (oT (oT (oT hc15)))) (l_nil ?_)))))))))))))))))))))))))))))
 exact qJ (fun w s => s)
 refine lW (wnF hc15) (vFa 1 fo64_1 R) (lW (wnF hc15) (vLd 0 ag59 R R R) (lW (wnF hc15) (v_len sl59 R) (lW (wnF hc15) (vGt R R) (lO (pOF R hc15 R) (lB R ?_)))))
 rcases bo ((decide ((k1.Loops.length : Int) > (12 : Int))) || (decide ((k1.Loads.length : Int) > (30 : Int)))) with hc16 | hc16
 refine lf (wfT hc16) (lf (wfT hc16) (lf (wfT hc16) (lf (wfT hc16) (lO (pOT (r9 == (0 : Int)) R hc16) (lB R (lf (wfT (oT hc16)) (lf (wfT (oT hc16)) (lf (wfT (oT hc16)) (lf (wfT (oT hc16)) (lf (wfT (oT hc16)) (lf (wfT (oT hc16)) (lf (wfT (oT hc16)) (lO (pOT (!r11) R (oT hc16)) (lB R (lf (wfT (oT (oT hc16))) (lf (wfT (oT (oT hc16))) (lf (wfT (oT (oT hc16))) (lf (wfT (oT (oT hc16))) (lf (wfT (oT (oT hc16))) (lf (wfT (oT (oT hc16))) (lf (wfT (oT (oT hc16))) (lO (pOT (!r13) R (oT (oT hc16))) (l_nil ?_)))))))))))))))))))))))
 exact qJ (fun w s => s)
 refine lW (wnF hc16) (vFa 0 fo64_0 R) (lW (wnF hc16) (vLd 0 ag22 R R R) (lM (RR kT3 A2 D2 k1.Loops :: W1) (fun w s => (s.d 1 R)) ?_))
 refine l_calln 1 R (wnF hc16) cb28 R (Zs_ok (gcall_t hx10 (not_ff hc16))) R ?_
 rintro _
 refine lN W1 ?_
 refine lW (wnF hc16) (vEq R R) (lO (pOF R hc16 R) (lB R ?_))
 rcases bo (((decide ((k1.Loops.length : Int) > (12 : Int))) || (decide ((k1.Loads.length : Int) > (30 : Int)))) || (r9 == (0 : Int))) with hc17 | hc17
 refine lf (wfT hc17) (lf (wfT hc17) (lf (wfT hc17) (lf (wfT hc17) (lf (wfT hc17) (lf (wfT hc17) (lf (wfT hc17) (lO (pOT (!r11) R hc17) (lB R (lf (wfT (oT hc17)) (lf (wfT (oT hc17)) (lf (wfT (oT hc17)) (lf (wfT (oT hc17)) (lf (wfT (oT hc17)) (lf (wfT (oT hc17)) (lf (wfT (oT hc17)) (lO (pOT (!r13) R (oT hc17)) (l_nil ?_)))))))))))))))))
 exact qJ (fun w s => s)
 refine lW (wnF hc17) (vFa 6 fo64_4 R) (lW (wnF hc17) (vLd 0 ag62 R R R) (lW (wnF hc17) (vFa 1 fo64_1 R) (lW (wnF hc17) (vLd 0 ag59 R R R) (lW (wnF hc17) (v_len sl59 R) (lM (RR kT101 A5 D5 k1.Code :: W1) (fun w s => (s.d 4 R)) ?_)))))
 refine l_calln 1 R (wnF hc17) cb137 R (Z5_ok (gcall_t hx12 (not_ff hc17))) R ?_
 rintro _
 refine lN W1 ?_
 refine lW (wnF hc17) (vNo R) (lO (pOF R hc17 R) (lB R ?_))
 rcases bo ((((decide ((k1.Loops.length : Int) > (12 : Int))) || (decide ((k1.Loads.length : Int) > (30 : Int)))) || (r9 == (0 : Int))) || (!r11)) with hc18 | hc18
 refine lf (wfT hc18) (lf (wfT hc18) (lf (wfT hc18) (lf (wfT hc18) (lf (wfT hc18) (lf (wfT hc18) (lf (wfT hc18) (lO (pOT (!r13) R hc18) (l_nil ?_))))))))
 exact qJ (fun w s => s)
 refine lW (wnF hc18) (vFa 2 fo64_2 R) (lW (wnF hc18) (vz (.agg [(iv k1.Store.Buffer), (iv k1.Store.Offset), (sc A4 k1.Store.Steps D4)].toArray) (v_loadw 0 ag61 sz61 R R R R)) (lW (wnF hc18) (vFa 0 fo64_0 R) (lW (wnF hc18) (vLd 0 ag22 R R R) (lW (wnF hc18) (vS R) (lM (RR kT3 A4 D4 k1.Store.Steps :: RR kT3 A2 D2 k1.Loops :: RR kT3 A7 D7 sizes6 :: W1) (fun w s => ((((s.d 3 R).d 2 R).d 7 R).e 3 [2, 1, 0])) ?_)))))
 refine l_calln 3 R (wnF hc18) cb138 R (Zi_ok (gcall_t hx14 (not_ff hc18))) R ?_
 rintro _
 refine lN W1 ?_
 refine lW (wnF hc18) (vNo R) (lO (pOF R hc18 R) (l_nil ?_))
 exact qJ (fun w s => s)
 rintro σ1
 refine q_next ?_
 rcases bif_ hr with ⟨hb19, hr⟩ | ⟨hb19, hr⟩
 refine c_true R hb19 (c_seq (c_region (lB R (l_nil (q_next (c_ret (q_ret ?_)))))))
 obtain rfl := so hr
 exact qF () (fun w s => (s.e 6 []))
 refine c_false R hb19 (c_skip (q_next (c_seq (c_cut (A := (Unit) × (Unit)) (fun a => Z0l_J1 = some r) (fun a => []) (fun a => W1) ?_ ?_))))
 refine c_seq (c_region (lI R (l_nil (q_next (c_block ?_)))))
 obtain ⟨e1, hl1, hk1⟩ := bd hr
 refine c_loop (A := Unit) hl1 (fun s a => [(1, (sc A7 sizes6 D7)), (2, (pt b8 0)), (5, (iv s))]) (fun s a => W1) () (aS R) (fun w s => s) ?_
 rintro i29 _ σ1 out1 hr he1
 replace hr : Z0l_L1 k1 sizes6 i29 = some out1 := hr
 unfold Z0l_L1 at hr
 refine c_seq (c_seq (c_region (lI R (lO (vFa 1 fo64_1 R) (lO (vLd 0 ag59 R R R) (lO (v_len sl59 R) (lO (vLt R R) (l_nil (q_next ?_)))))))))
 rcases bif_ hr with ⟨hb30, hr⟩ | ⟨hb30, hr⟩
 refine c_true R hb30 (c_skip (q_next (c_seq (c_block (c_seq ?_)))))
 obtain ⟨hg31, hr⟩ := gd hr
 obtain ⟨r35, hx36, hr⟩ := bd hr
 refine cQ [(1, (sc A7 sizes6 D7)), (2, (pt b8 0)), (5, (iv i29)), (68, (.bool ((!r35) || ((ix k1.Loads i29).Buffer == k1.Store.Buffer))))] (W1) ?_ ?_
 rcases bo (!r35) with hc37 | hc37
 refine c_some 2 sees_rd (show 0 < k1.Loads.length by have := hg31; omega) (fun g32 o33 ha => ?_)
 subst ha
 refine c_elem (K := kT61) 2 i29 dT61.dec R hg31.1 hg31.2 ?_
 rintro ⟨-, -, ⟨A34, D34⟩⟩
 refine cN (cl g32 (o33 + i29.toNat * 3) [(iv (ix k1.Loads i29).Buffer), (iv (ix k1.Loads i29).Offset), (sc A34 ((ix k1.Loads i29).Steps) D34)] :: RR kT3 A34 D34 ((ix k1.Loads i29).Steps) :: W1) ?_
 refine cdr 22 [] mixo (fun ht hn => (dR 0 R (vFa 1 fo64_1 R) (dR 1 R (vLd 2 ag59 R R R) (dR 2 R (vI R) (dR 3 R (vIa sl59 sz61 R R hg31) (dR 4 R (vz (.agg [(iv (ix k1.Loads i29).Buffer), (iv (ix k1.Loads i29).Offset), (sc A34 ((ix k1.Loads i29).Steps) D34)].toArray) (v_clfs (fo := 0) 0 ag61 sz61 R R R R)) (dR 5 R (vFa 0 fo64_0 R) (dR 6 R (vLd 2 ag22 R R R) (dR 7 R (vS R) (d1 8 R (lM (rds _ _ _ :: RR kT3 A2 D2 k1.Loops :: RR kT3 A7 D7 sizes6 :: cl _ _ _ :: rds _ _ _ :: W1) (fun w s => ((((s.d 1 R).d 4 R).d 9 R).e 5 [2, 1, 0, 3, 4])) ?_)))))))))))
 refine lC 3 cb138 R (Zi_ok hx36) R ?_
 rintro _
 refine lN (_ :: _ :: W1) ?_
 refine l_nil (q_draw (sL []) (dR 9 R (vNo R) (dR 10 R (vB R) (dF 11 R (wfT hc37) (dF 12 R (wfT hc37) (dF 13 R (wfT hc37) (dF 14 R (wfT hc37) (dF 15 R (wfT hc37) (dF 16 R (wfT hc37) (dF 17 R (wfT hc37) (dF 18 R (wfT hc37) (dF 19 R (wfT hc37) (dF 20 R (wfT hc37) (dR 21 R (pOT ((ix k1.Loads i29).Buffer == k1.Store.Buffer) R hc37) (dD ?_)))))))))))))))
 exact qJ (fun w s => (s.e 2 []))
 refine c_some 2 sees_rd (show 0 < k1.Loads.length by have := hg31; omega) (fun g32 o33 ha => ?_)
 subst ha
 refine c_elem (K := kT61) 2 i29 dT61.dec R hg31.1 hg31.2 ?_
 rintro ⟨-, -, ⟨A34, D34⟩⟩
 refine cdr 22 [] mixo (fun ht hn => (dR 0 R (vFa 1 fo64_1 R) (dR 1 R (vLd 2 ag59 R R R) (dR 2 R (vI R) (dR 3 R (vIa sl59 sz61 R R hg31) (dR 4 R (vz (.agg [(iv (ix k1.Loads i29).Buffer), (iv (ix k1.Loads i29).Offset), (sc A34 ((ix k1.Loads i29).Steps) D34)].toArray) (v_clfs (fo := 0) 0 ag61 sz61 R R R R)) (dR 5 R (vFa 0 fo64_0 R) (dR 6 R (vLd 2 ag22 R R R) (dR 7 R (vS R) (d1 8 R (lM (rds _ _ _ :: RR kT3 A2 D2 k1.Loops :: RR kT3 A7 D7 sizes6 :: cl _ _ _ :: rds _ _ _ :: W1) (fun w s => ((((s.d 1 R).d 4 R).d 9 R).e 5 [2, 1, 0, 3, 4])) ?_)))))))))))
 refine lC 3 cb138 R (Zi_ok hx36) R ?_
 rintro _
 refine lN (_ :: _ :: W1) ?_
 refine l_nil (q_draw (sL []) (dR 9 R (vNo R) (dR 10 R (vB R) (dW 11 R (wnF hc37) (vFa 1 fo64_1 R) (dW 12 R (wnF hc37) (vLd 2 ag59 R R R) (dW 13 R (wnF hc37) (vI R) (dW 14 R (wnF hc37) (vIa sl59 sz61 R R hg31) (dW 15 R (wnF hc37) (vz (.pointer (some ⟨g32, o33 + i29.toNat * 3, none⟩)) (v_fa fo61_0 R R)) (dW 16 R (wnF hc37) (vz (iv (ix k1.Loads i29).Buffer) (v_lde (K := kT61) (fo := 0) (pr := fun x => (iv x.Buffer)) 4 i29 ag3 (dT61.leaf fun _ _ => R) sees_rd R hg31.1 hg31.2)) (dW 17 R (wnF hc37) (vFa 2 fo64_2 R) (dW 18 R (wnF hc37) (vFa 2 fo61_0 R) (dW 19 R (wnF hc37) (vLd 2 ag3 R R R) (dW 20 R (wnF hc37) (vEq R R) (dR 21 R (pOF R hc37 R) (dD ?_)))))))))))))))
 exact qJ (fun w s => (s.e 2 []))
 rintro σ1
 refine q_next ?_
 rcases bif_ hr with ⟨hb38, hr⟩ | ⟨hb38, hr⟩
 refine c_true R hb38 (c_seq (c_region (lB R (l_nil (q_next (c_ret (q_blockr (q_ret ?_))))))))
 obtain rfl := so hr
 obtain rfl := he1 _ R
 have hr := hk1
 refine q_ret (q_blockr (q_ret ?_))
 obtain rfl := so hr
 exact qF () (fun w s => (s.e 6 []))
 refine c_false R hb38 (c_skip (q_blockn (q_next (c_region (lI R (lO (vAd R R) (lI R (l_nil ?_))))))))
 obtain rfl := so hr
 exact qA () (fun w s => s)
 refine c_false R hb30 (c_exit (q_exit ?_))
 obtain rfl := so hr
 obtain rfl := he1 _ R
 have hr := hk1
 refine q_exit (q_block ?_)
 exact q_join ((), ()) hr trivial (fun w s => s)
 rintro ⟨_, _⟩ σ1 hr
 replace hr : Z0l_J1 = some r := hr
 unfold Z0l_J1 at hr
 refine c_seq (c_region (lB R (l_nil (q_next (c_ret ?_)))))
 obtain rfl := so hr
 exact qF () (fun w s => (s.e 6 []))
end Go.Proofs.YtkfgngcfcoplpaaGreat
