import Derived.Test.YtbdchgofcejiiaaFuW7
set_option linter.unusedVariables false
set_option maxRecDepth 20000
namespace Go.Proofs.Ytbdchgofcejiiaa
open Go Go.Pg
variable {A2 A3 A4 A5 A6 : Option Addr} {D2 D3 D4 D5 D6 N2 N3 N4 N5 N6 : Nat}
theorem laws_heldKernelS_ok {a1 : (List Kernel)} {k3 : Int} {r : Int} (hr : laws_heldKernelS a1 k3 = some r) :
 FnOk Try.prog 82 [(.slice A2 N2 D2), (iv k3)] [rds kT127 (.slice A2 N2 D2) a1] (fun (h : Unit) => ((iv r), [])) := by
 unfold laws_heldKernelS at hr
 refine fn_ok Try.func82 R 81 R R fun C V => ?_
 refine cN (_ :: V) ?_
 refine cL 0 sees_rd ?_
 rintro rfl
 let W0 : List HP := RR kT127 A2 D2 a1 :: V
 refine cN W0 ?_
 refine c_seq (c_region (lI R (l_nil (q_next (c_seq (c_cut (A := (Int) × (Unit)) (fun a => laws_heldKernelS_J1 a.1 = some r) (fun a => [(1, (iv a.1))]) (fun a => W0) ?_ ?_))))))
 refine c_seq (c_region (lI R (l_nil (q_next (c_block ?_)))))
 obtain ⟨e1, hl1, hk1⟩ := bd hr
 refine c_loop (A := Unit) hl1 (fun s a => [(0, (sc A2 a1 D2)), (1, (iv s.1)), (5, (iv s.2))]) (fun s a => W0) () (aS R) (fun w s => s) ?_
 rintro ⟨k27, i28⟩ _ σ1 out1 hr he1
 replace hr : laws_heldKernelS_L1 a1 k27 i28 = some out1 := hr
 unfold laws_heldKernelS_L1 at hr
 refine c_seq (c_seq (c_region (lI R (lS R (lO (v_len sl56 R) (lO (vLt R R) (l_nil (q_next ?_))))))))
 rcases bif_ hr with ⟨hb29, hr⟩ | ⟨hb29, hr⟩
 refine c_true R hb29 (c_skip (q_next (c_seq (c_block (c_seq ?_)))))
 obtain ⟨hg30, hr⟩ := gd hr
 obtain ⟨r37, hx38, hr⟩ := bd hr
 refine c_region (lS R (lI R (t_some 0 sees_rd (show 0 < a1.length by have := hg30; omega) (fun g31 o32 ha => ?_))))
 subst ha
 refine lO (vIa sl56 sz127 R R hg30) (lO (vz (.pointer (some ⟨g31, o32 + i28.toNat * 7, none⟩)) (v_fa fo127_0 R R)) (t_elem (K := kT127) 0 i28 dT127.dec R hg30.1 hg30.2 ?_))
 rintro ⟨⟨A33, D33⟩, ⟨A34, D34⟩, ⟨-, -, ⟨A35, D35⟩⟩, -, ⟨A36, D36⟩⟩
 refine lN (cl g31 (o32 + i28.toNat * 7) [(sc A33 ((ix a1 i28).Loops) D33), (sc A34 ((ix a1 i28).Loads) D34), (iv (ix a1 i28).Store.Buffer), (iv (ix a1 i28).Store.Offset), (sc A35 ((ix a1 i28).Store.Steps) D35), (.bool (ix a1 i28).Sum), (sc A36 ((ix a1 i28).Code) D36)] :: RR kT3 A33 D33 ((ix a1 i28).Loops) :: RR kT124 A34 D34 ((ix a1 i28).Loads) :: RR kT3 A35 D35 ((ix a1 i28).Store.Steps) :: RR kT216 A36 D36 ((ix a1 i28).Code) :: W0) ?_
 refine lO (v_clf (fo := 0) 0 ag29 R R R) (lI R (lM (_ :: _ :: _ :: _ :: _ :: _ :: W0) (fun w s => (s.d 1 R)) ?_))
 refine lC 1 cb21 R (laws_heldIntS_ok hx38) R ?_
 rintro _
 refine lN (_ :: _ :: _ :: _ :: _ :: W0) ?_
 refine lI R (l_nil (q_next (c_seq (c_seq (c_region (lI R (lO (vLt R R) (l_nil (q_next ?_)))))))))
 rcases bif_ hr with ⟨hb39, hr⟩ | ⟨hb39, hr⟩
 refine c_true R hb39 (c_seq (c_region (lI R (l_nil (q_next (c_ret (q_ret (q_blockr (q_ret ?_)))))))))
 obtain rfl := so hr
 obtain rfl := he1 _ R
 have hr := hk1
 refine q_ret (q_blockr (q_ret ?_))
 obtain rfl := so hr
 exact qF () (fun w s => (s.e 6 []))
 refine c_false R hb39 (c_skip (q_next (c_seq ?_)))
 obtain ⟨r40, hx41, hr⟩ := bd hr
 refine c_region (lS R (lI R (lO (vIa sl56 sz127 R R hg30) (lO (vz (.pointer (some ⟨g31, o32 + i28.toNat * 7 + 1, none⟩)) (v_fa fo127_1 R R)) (lO (v_clf (fo := 1) 0 ag122 R R R) (lI R (lM (_ :: _ :: _ :: _ :: _ :: _ :: W0) (fun w s => (s.d 2 R)) ?_)))))))
 refine lC 1 cb142 R (laws_heldAccessS_ok hx41) R ?_
 rintro _
 refine lN (_ :: _ :: _ :: _ :: _ :: W0) ?_
 refine lI R (l_nil (q_next (c_seq (c_seq (c_region (lI R (lO (vLt R R) (l_nil (q_next ?_)))))))))
 rcases bif_ hr with ⟨hb42, hr⟩ | ⟨hb42, hr⟩
 refine c_true R hb42 (c_seq (c_region (lI R (l_nil (q_next (c_ret (q_ret (q_blockr (q_ret ?_)))))))))
 obtain rfl := so hr
 obtain rfl := he1 _ R
 have hr := hk1
 refine q_ret (q_blockr (q_ret ?_))
 obtain rfl := so hr
 exact qF () (fun w s => (s.e 6 []))
 refine c_false R hb42 (c_skip (q_next (c_seq (c_seq (c_region (lS R (lI R (lO (vIa sl56 sz127 R R hg30) (lO (vz (.pointer (some ⟨g31, o32 + i28.toNat * 7 + 2, none⟩)) (v_fa fo127_2 R R)) (lO (vz (.pointer (some ⟨g31, o32 + i28.toNat * 7 + 2, none⟩)) (v_fa fo124_0 R R)) (lO (vz (iv (ix a1 i28).Store.Buffer) (v_lde (K := kT127) (fo := 2) (pr := fun x => (iv x.Store.Buffer)) 5 i28 ag3 (dT127.leaf fun _ _ => R) sees_rd R hg30.1 hg30.2)) (lI R (lO (vNe R R) (l_nil (q_next ?_)))))))))))))))
 rcases bif_ hr with ⟨hb43, hr⟩ | ⟨hb43, hr⟩
 refine c_true R hb43 (c_seq (c_region (lI R (l_nil (q_next (c_ret (q_ret (q_blockr (q_ret ?_)))))))))
 obtain rfl := so hr
 obtain rfl := he1 _ R
 have hr := hk1
 refine q_ret (q_blockr (q_ret ?_))
 obtain rfl := so hr
 exact qF () (fun w s => (s.e 6 []))
 refine c_false R hb43 (c_skip (q_next (c_seq (c_region (lI R (lO (vAd R R) (lI R (l_nil (q_next (c_seq (c_seq (c_region (lS R (lI R (lO (vIa sl56 sz127 R R hg30) (lO (vz (.pointer (some ⟨g31, o32 + i28.toNat * 7 + 2, none⟩)) (v_fa fo127_2 R R)) (lO (vz (.pointer (some ⟨g31, o32 + i28.toNat * 7 + 3, none⟩)) (v_fa fo124_1 R R)) (lO (vz (iv (ix a1 i28).Store.Offset) (v_lde (K := kT127) (fo := 3) (pr := fun x => (iv x.Store.Offset)) 5 i28 ag3 (dT127.leaf fun _ _ => R) sees_rd R hg30.1 hg30.2)) (lI R (lO (vNe R R) (l_nil (q_next ?_))))))))))))))))))))))
 rcases bif_ hr with ⟨hb44, hr⟩ | ⟨hb44, hr⟩
 refine c_true R hb44 (c_seq (c_region (lI R (l_nil (q_next (c_ret (q_ret (q_blockr (q_ret ?_)))))))))
 obtain rfl := so hr
 obtain rfl := he1 _ R
 have hr := hk1
 refine q_ret (q_blockr (q_ret ?_))
 obtain rfl := so hr
 exact qF () (fun w s => (s.e 6 []))
 refine c_false R hb44 (c_skip (q_next (c_seq (c_region (lI R (lO (vAd R R) (lI R (l_nil (q_next (c_seq ?_))))))))))
 obtain ⟨r45, hx46, hr⟩ := bd hr
 refine c_region (lS R (lI R (lO (vIa sl56 sz127 R R hg30) (lO (vz (.pointer (some ⟨g31, o32 + i28.toNat * 7 + 2, none⟩)) (v_fa fo127_2 R R)) (lO (vz (.pointer (some ⟨g31, o32 + i28.toNat * 7 + 4, none⟩)) (v_fa fo124_2 R R)) (lO (v_clf (fo := 4) 0 ag29 R R R) (lI R (lM (_ :: _ :: _ :: _ :: _ :: _ :: W0) (fun w s => (s.d 3 R)) ?_))))))))
 refine lC 1 cb21 R (laws_heldIntS_ok hx46) R ?_
 rintro _
 refine lN (_ :: _ :: _ :: _ :: _ :: W0) ?_
 refine lI R (l_nil (q_next (c_seq (c_seq (c_region (lI R (lO (vLt R R) (l_nil (q_next ?_)))))))))
 rcases bif_ hr with ⟨hb47, hr⟩ | ⟨hb47, hr⟩
 refine c_true R hb47 (c_seq (c_region (lI R (l_nil (q_next (c_ret (q_ret (q_blockr (q_ret ?_)))))))))
 obtain rfl := so hr
 obtain rfl := he1 _ R
 have hr := hk1
 refine q_ret (q_blockr (q_ret ?_))
 obtain rfl := so hr
 exact qF () (fun w s => (s.e 6 []))
 refine c_false R hb47 (c_skip (q_next (c_seq (c_seq (c_region (lS R (lI R (lO (vIa sl56 sz127 R R hg30) (lO (vz (.pointer (some ⟨g31, o32 + i28.toNat * 7 + 5, none⟩)) (v_fa fo127_3 R R)) (lO (vz (.bool (ix a1 i28).Sum) (v_lde (K := kT127) (fo := 5) (pr := fun x => (.bool x.Sum)) 5 i28 ag4 (dT127.leaf fun _ _ => R) sees_rd R hg30.1 hg30.2)) (lI R (lO (v_rem R R (by decide)) (lO (vEq R R) (lO (v_bne un4 R R) (l_nil (q_next ?_))))))))))))))))
 rcases bif_ hr with ⟨hb48, hr⟩ | ⟨hb48, hr⟩
 refine c_true R hb48 (c_seq (c_region (lI R (l_nil (q_next (c_ret (q_ret (q_blockr (q_ret ?_)))))))))
 obtain rfl := so hr
 obtain rfl := he1 _ R
 have hr := hk1
 refine q_ret (q_blockr (q_ret ?_))
 obtain rfl := so hr
 exact qF () (fun w s => (s.e 6 []))
 refine c_false R hb48 (c_skip (q_next (c_seq (c_region (lI R (lO (vAd R R) (lI R (l_nil (q_next (c_seq ?_))))))))))
 obtain ⟨r49, hx50, hr⟩ := bd hr
 refine c_region (lS R (lI R (lO (vIa sl56 sz127 R R hg30) (lO (vz (.pointer (some ⟨g31, o32 + i28.toNat * 7 + 6, none⟩)) (v_fa fo127_4 R R)) (lO (v_clf (fo := 6) 0 ag125 R R R) (lI R (lM (_ :: _ :: _ :: _ :: _ :: _ :: W0) (fun w s => (s.d 4 R)) ?_)))))))
 refine lC 1 cb143 R (laws_heldCalcS_ok hx50) R ?_
 rintro _
 refine lN (_ :: _ :: _ :: _ :: _ :: W0) ?_
 refine lI R (l_nil (q_next (c_seq (c_region (lI R (lO (vLt R R) (l_nil (q_next ?_))))))))
 rcases bif_ hr with ⟨hb51, hr⟩ | ⟨hb51, hr⟩
 refine c_true R hb51 (c_seq (c_region (lI R (l_nil (q_next (c_ret (q_blockr (q_ret ?_))))))))
 obtain rfl := so hr
 obtain rfl := he1 _ R
 have hr := hk1
 refine q_ret (q_blockr (q_ret ?_))
 obtain rfl := so hr
 exact qF () (fun w s => (s.e 6 []))
 refine c_false R hb51 (c_skip (q_blockn (q_next (c_region (lI R (lO (vAd R R) (lI R (l_nil ?_))))))))
 obtain rfl := so hr
 exact qA () (fun w s => (s.e 5 []))
 refine c_false R hb29 (c_exit (q_exit ?_))
 obtain rfl := so hr
 obtain rfl := he1 _ R
 have hr := hk1
 refine q_exit (q_block ?_)
 exact qI (k27, ()) hr (fun w s => s)
 rintro ⟨k54, _⟩ σ1 hr
 replace hr : laws_heldKernelS_J1 k54 = some r := hr
 unfold laws_heldKernelS_J1 at hr
 refine c_seq (c_region (lI R (lI R (l_nil (q_next (c_ret ?_))))))
 obtain rfl := so hr
 exact qF () (fun w s => (s.e 1 []))
theorem laws_heldNest_ok {a1 : Nest} {k7 : Int} {r : Int} (hr : laws_heldNest a1 k7 = some r) :
 FnOk Try.prog 28 [(.agg [(.slice A2 N2 D2), (.slice A3 N3 D3), (.slice A4 N4 D4), (.slice A5 N5 D5), (.slice A6 N6 D6)].toArray), (iv k7)] [rds kT3 (.slice A2 N2 D2) a1.Sizes, rds kT3 (.slice A3 N3 D3) a1.Ins, rds kT159 (.slice A4 N4 D4) a1.Fixed, rds kT127 (.slice A5 N5 D5) a1.Kernels, rds kT3 (.slice A6 N6 D6) a1.Outs] (fun (h : Unit) => ((iv r), [])) := by
 unfold laws_heldNest at hr
 refine fn_ok Try.func28 R 36 R R fun C V => ?_
 refine cN (_ :: _ :: _ :: _ :: _ :: V) ?_
 refine cL 0 sees_rd ?_
 rintro rfl
 refine cL 1 sees_rd ?_
 rintro rfl
 refine cL 2 sees_rd ?_
 rintro rfl
 refine cL 3 sees_rd ?_
 rintro rfl
 refine cL 4 sees_rd ?_
 rintro rfl
 let W0 : List HP := RR kT3 A2 D2 a1.Sizes :: RR kT3 A3 D3 a1.Ins :: RR kT159 A4 D4 a1.Fixed :: RR kT127 A5 D5 a1.Kernels :: RR kT3 A6 D6 a1.Outs :: V
 refine cN W0 ?_
 refine c_seq (c_region (lBx R (fun b8 => (lI R (l_nil ?_)))))
 let W1 : List HP := bxl b8 [(sc A2 a1.Sizes D2), (sc A3 a1.Ins D3), (sc A4 a1.Fixed D4), (sc A5 a1.Kernels D5), (sc A6 a1.Outs D6)] 58 :: W0
 refine qN W1 ?_
 refine q_next (c_seq ?_)
 obtain ⟨r9, hx10, hr⟩ := bd hr
 refine c_region (lO (vFa 0 fo58_0 R) (lO (vLd 0 ag29 R R R) (lI R (lM (RR kT3 A2 D2 a1.Sizes :: W1) (fun w s => (s.d 1 R)) ?_))))
 refine lC 1 cb21 R (laws_heldIntS_ok hx10) R ?_
 rintro _
 refine lN W1 ?_
 refine lI R (l_nil (q_next (c_seq (c_seq (c_region (lI R (lO (vLt R R) (l_nil (q_next ?_)))))))))
 rcases bif_ hr with ⟨hb11, hr⟩ | ⟨hb11, hr⟩
 refine c_true R hb11 (c_seq (c_region (lI R (l_nil (q_next (c_ret (q_ret ?_)))))))
 obtain rfl := so hr
 exact qF () (fun w s => (s.e 6 []))
 refine c_false R hb11 (c_skip (q_next (c_seq ?_)))
 obtain ⟨r12, hx13, hr⟩ := bd hr
 refine c_region (lO (vFa 1 fo58_1 R) (lO (vLd 0 ag29 R R R) (lI R (lM (RR kT3 A3 D3 a1.Ins :: W1) (fun w s => (s.d 2 R)) ?_))))
 refine lC 1 cb21 R (laws_heldIntS_ok hx13) R ?_
 rintro _
 refine lN W1 ?_
 refine lI R (l_nil (q_next (c_seq (c_seq (c_region (lI R (lO (vLt R R) (l_nil (q_next ?_)))))))))
 rcases bif_ hr with ⟨hb14, hr⟩ | ⟨hb14, hr⟩
 refine c_true R hb14 (c_seq (c_region (lI R (l_nil (q_next (c_ret (q_ret ?_)))))))
 obtain rfl := so hr
 exact qF () (fun w s => (s.e 6 []))
 refine c_false R hb14 (c_skip (q_next (c_seq ?_)))
 obtain ⟨r15, hx16, hr⟩ := bd hr
 refine c_region (lO (vFa 2 fo58_2 R) (lO (vLd 0 ag55 R R R) (lI R (lM (RR kT159 A4 D4 a1.Fixed :: W1) (fun w s => (s.d 3 R)) ?_))))
 refine lC 1 cb81 R (laws_heldFixS_ok hx16) R ?_
 rintro _
 refine lN W1 ?_
 refine lI R (l_nil (q_next (c_seq (c_seq (c_region (lI R (lO (vLt R R) (l_nil (q_next ?_)))))))))
 rcases bif_ hr with ⟨hb17, hr⟩ | ⟨hb17, hr⟩
 refine c_true R hb17 (c_seq (c_region (lI R (l_nil (q_next (c_ret (q_ret ?_)))))))
 obtain rfl := so hr
 exact qF () (fun w s => (s.e 6 []))
 refine c_false R hb17 (c_skip (q_next (c_seq ?_)))
 obtain ⟨r18, hx19, hr⟩ := bd hr
 refine c_region (lO (vFa 3 fo58_3 R) (lO (vLd 0 ag56 R R R) (lI R (lM (RR kT127 A5 D5 a1.Kernels :: W1) (fun w s => (s.d 4 R)) ?_))))
 refine lC 1 cb82 R (laws_heldKernelS_ok hx19) R ?_
 rintro _
 refine lN W1 ?_
 refine lI R (l_nil (q_next (c_seq (c_seq (c_region (lI R (lO (vLt R R) (l_nil (q_next ?_)))))))))
 rcases bif_ hr with ⟨hb20, hr⟩ | ⟨hb20, hr⟩
 refine c_true R hb20 (c_seq (c_region (lI R (l_nil (q_next (c_ret (q_ret ?_)))))))
 obtain rfl := so hr
 exact qF () (fun w s => (s.e 6 []))
 refine c_false R hb20 (c_skip (q_next (c_seq ?_)))
 obtain ⟨r21, hx22, hr⟩ := bd hr
 refine c_region (lO (vFa 4 fo58_4 R) (lO (vLd 0 ag29 R R R) (lI R (lM (RR kT3 A6 D6 a1.Outs :: W1) (fun w s => (s.d 5 R)) ?_))))
 refine lC 1 cb21 R (laws_heldIntS_ok hx22) R ?_
 rintro _
 refine lN W1 ?_
 refine lI R (l_nil (q_next (c_seq (c_seq (c_region (lI R (lO (vLt R R) (l_nil (q_next ?_)))))))))
 rcases bif_ hr with ⟨hb23, hr⟩ | ⟨hb23, hr⟩
 refine c_true R hb23 (c_seq (c_region (lI R (l_nil (q_next (c_ret (q_ret ?_)))))))
 obtain rfl := so hr
 exact qF () (fun w s => (s.e 6 []))
 refine c_false R hb23 (c_skip (q_next (c_seq (c_region (lI R (lI R (l_nil (q_next (c_ret ?_)))))))))
 obtain rfl := so hr
 exact qF () (fun w s => (s.e 6 []))
theorem laws_FnExactFuse_ok {aL1 : Nest} {r : Bool} (hr : laws_FnExactFuse aL1 = some r) :
 FnOk Try.prog 5 [(.agg [(.slice A2 N2 D2), (.slice A3 N3 D3), (.slice A4 N4 D4), (.slice A5 N5 D5), (.slice A6 N6 D6)].toArray)] [rds kT3 (.slice A2 N2 D2) aL1.Sizes, rds kT3 (.slice A3 N3 D3) aL1.Ins, rds kT152 (.slice A4 N4 D4) aL1.Fixed, rds kT158 (.slice A5 N5 D5) aL1.Kernels, rds kT3 (.slice A6 N6 D6) aL1.Outs] (fun (h : Unit) => ((.bool r), [])) := by
 unfold laws_FnExactFuse at hr
 refine fn_ok Try.func5 R 69 R R fun C V => ?_
 refine cN (_ :: _ :: _ :: _ :: _ :: V) ?_
 refine cL 0 sees_rd ?_
 rintro rfl
 refine cL 1 sees_rd ?_
 rintro rfl
 refine cL 2 sees_rd ?_
 rintro rfl
 refine cL 3 sees_rd ?_
 rintro rfl
 refine cL 4 sees_rd ?_
 rintro rfl
 let W0 : List HP := RR kT3 A2 D2 aL1.Sizes :: RR kT3 A3 D3 aL1.Ins :: RR kT152 A4 D4 aL1.Fixed :: RR kT158 A5 D5 aL1.Kernels :: RR kT3 A6 D6 aL1.Outs :: V
 refine cN W0 ?_
 refine c_seq (c_region (lBx R (fun b7 => (lB R (l_nil ?_)))))
 let W1 : List HP := bxl b7 [(sc A2 aL1.Sizes D2), (sc A3 aL1.Ins D3), (sc A4 aL1.Fixed D4), (sc A5 aL1.Kernels D5), (sc A6 aL1.Outs D6)] 53 :: W0
 refine qN W1 ?_
 refine q_next (c_seq (c_region (lI R (l_nil (q_next (c_seq ?_))))))
 obtain ⟨r8, hx9, hr⟩ := bd hr
 refine c_region (lO (vz (.agg [(sc A2 aL1.Sizes D2), (sc A3 aL1.Ins D3), (sc A4 aL1.Fixed D4), (sc A5 aL1.Kernels D5), (sc A6 aL1.Outs D6)].toArray) (v_loadw 0 ag53 sz53 R R R R)) (lI R (lM (RR kT3 A2 D2 aL1.Sizes :: RR kT3 A3 D3 aL1.Ins :: RR kT152 A4 D4 aL1.Fixed :: RR kT158 A5 D5 aL1.Kernels :: RR kT3 A6 D6 aL1.Outs :: W1) (fun w s => ((((((s.d 1 R).d 3 R).d 5 R).d 7 R).d 9 R).e 5 [4, 3, 2, 1, 0])) ?_)))
 refine lC 5 cb22 R (laws_szNest_ok hx9) R ?_
 rintro _
 refine lN W1 ?_
 refine lI R (l_nil (q_next (c_seq (c_seq (c_region (lI R (lO (vLt R R) (l_nil (q_next ?_)))))))))
 rcases bif_ hr with ⟨hb10, hr⟩ | ⟨hb10, hr⟩
 refine c_true R hb10 (c_seq (c_region (lB R (l_nil (q_next (c_ret (q_ret ?_)))))))
 obtain rfl := so hr
 exact qF () (fun w s => (s.e 6 []))
 refine c_false R hb10 (c_skip (q_next (c_seq ?_)))
 obtain ⟨r11, hx12, hr⟩ := bd hr
 obtain ⟨r18, hx19, hr⟩ := bd hr
 refine c_region (lO (vz (.agg [(sc A2 aL1.Sizes D2), (sc A3 aL1.Ins D3), (sc A4 aL1.Fixed D4), (sc A5 aL1.Kernels D5), (sc A6 aL1.Outs D6)].toArray) (v_loadw 0 ag53 sz53 R R R R)) (lM (RR kT3 A2 D2 aL1.Sizes :: RR kT3 A3 D3 aL1.Ins :: RR kT152 A4 D4 aL1.Fixed :: RR kT158 A5 D5 aL1.Kernels :: RR kT3 A6 D6 aL1.Outs :: W1) (fun w s => ((((((s.d 1 R).d 3 R).d 5 R).d 7 R).d 9 R).e 5 [4, 3, 2, 1, 0])) ?_))
 refine lC 5 cb24 R (laws_toNest_ok hx12) R ?_
 rintro ⟨⟨A13, N13, D13⟩, ⟨A14, N14, D14⟩, ⟨A15, N15, D15⟩, ⟨A16, N16, D16⟩, ⟨A17, N17, D17⟩⟩
 refine lN (ow kT3 3 (.slice A13 N13 D13) r11.Sizes :: ow kT3 3 (.slice A14 N14 D14) r11.Ins :: ow kT159 159 (.slice A15 N15 D15) r11.Fixed :: ow kT127 127 (.slice A16 N16 D16) r11.Kernels :: ow kT3 3 (.slice A17 N17 D17) r11.Outs :: W1) ?_
 refine l_len 0 sees_ow ?_
 rintro rfl
 refine l_len 1 sees_ow ?_
 rintro rfl
 refine l_len 2 sees_ow ?_
 rintro rfl
 refine l_len 3 sees_ow ?_
 rintro rfl
 refine l_len 4 sees_ow ?_
 rintro rfl
 refine lC 5 cb23 R (FnOk.lends (A' := [OO kT3 3 A13 D13 r11.Sizes, OO kT3 3 A14 D14 r11.Ins, OO kT159 159 A15 D15 r11.Fixed, OO kT127 127 A16 D16 r11.Kernels, OO kT3 3 A17 D17 r11.Outs]) (A := [RR kT3 A13 D13 r11.Sizes, RR kT3 A14 D14 r11.Ins, RR kT159 A15 D15 r11.Fixed, RR kT127 A16 D16 r11.Kernels, RR kT3 A17 D17 r11.Outs]) (B := []) (spec_Fuse_ok hx19) ⟨lend_ow, lend_ow, lend_ow, lend_ow, lend_ow, trivial⟩ (fun _ => ⟨(closed_ow cT3), (closed_ow cT3), (closed_ow cT159), (closed_ow cT127), (closed_ow cT3), trivial⟩)) R ?_
 rintro ⟨⟨A20, N20, D20⟩, ⟨A21, N21, D21⟩, ⟨A22, N22, D22⟩, ⟨A23, N23, D23⟩, ⟨A24, N24, D24⟩⟩
 refine lN (_ :: _ :: _ :: _ :: _ :: ow kT3 3 (.slice A20 N20 D20) r18.Sizes :: ow kT3 3 (.slice A21 N21 D21) r18.Ins :: ow kT159 159 (.slice A22 N22 D22) r18.Fixed :: ow kT127 127 (.slice A23 N23 D23) r18.Kernels :: ow kT3 3 (.slice A24 N24 D24) r18.Outs :: W1) ?_
 refine l_len 5 sees_ow ?_
 rintro rfl
 refine l_len 6 sees_ow ?_
 rintro rfl
 refine l_len 7 sees_ow ?_
 rintro rfl
 refine l_len 8 sees_ow ?_
 rintro rfl
 refine l_len 9 sees_ow ?_
 rintro rfl
 refine l_alloc R R zc58 (fun b25 => (l_stores 0 R R sz58 R R R R R R (lN (bxl b25 [(sc A20 r18.Sizes D20), (sc A21 r18.Ins D21), (sc A22 r18.Fixed D22), (sc A23 r18.Kernels D23), (sc A24 r18.Outs D24)] 58 :: _ :: _ :: _ :: _ :: _ :: _ :: _ :: _ :: _ :: _ :: W1) ?_)))
 refine l_nil (q_next (c_seq ?_))
 obtain ⟨r26, hx27, hr⟩ := bd hr
 refine c_region (lO (vz (.agg [(sc A2 aL1.Sizes D2), (sc A3 aL1.Ins D3), (sc A4 aL1.Fixed D4), (sc A5 aL1.Kernels D5), (sc A6 aL1.Outs D6)].toArray) (v_loadw 11 ag53 sz53 R R R R)) (lM (RR kT3 A2 D2 aL1.Sizes :: RR kT3 A3 D3 aL1.Ins :: RR kT152 A4 D4 aL1.Fixed :: RR kT158 A5 D5 aL1.Kernels :: RR kT3 A6 D6 aL1.Outs :: bxl _ _ _ :: ow _ _ _ _ :: ow _ _ _ _ :: ow _ _ _ _ :: ow _ _ _ _ :: ow _ _ _ _ :: ow _ _ _ _ :: ow _ _ _ _ :: ow _ _ _ _ :: ow _ _ _ _ :: ow _ _ _ _ :: W1) (fun w s => ((((((s.d 12 R).d 14 R).d 16 R).d 18 R).d 20 R).f 16 [4, 1, 3, 1, 2, 1, 1, 1, 0, 1, 5, 11])) ?_))
 refine lC 5 cb24 R (laws_toNest_ok hx27) R ?_
 rintro ⟨⟨A28, N28, D28⟩, ⟨A29, N29, D29⟩, ⟨A30, N30, D30⟩, ⟨A31, N31, D31⟩, ⟨A32, N32, D32⟩⟩
 refine lN (ow kT3 3 (.slice A28 N28 D28) r26.Sizes :: ow kT3 3 (.slice A29 N29 D29) r26.Ins :: ow kT159 159 (.slice A30 N30 D30) r26.Fixed :: ow kT127 127 (.slice A31 N31 D31) r26.Kernels :: ow kT3 3 (.slice A32 N32 D32) r26.Outs :: _ :: _ :: _ :: _ :: _ :: _ :: _ :: _ :: _ :: _ :: _ :: W1) ?_
 refine l_len 0 sees_ow ?_
 rintro rfl
 refine l_len 1 sees_ow ?_
 rintro rfl
 refine l_len 2 sees_ow ?_
 rintro rfl
 refine l_len 3 sees_ow ?_
 rintro rfl
 refine l_len 4 sees_ow ?_
 rintro rfl
 refine l_alloc R R zc58 (fun b33 => (l_stores 0 R R sz58 R R R R R R (lN (bxl b33 [(sc A28 r26.Sizes D28), (sc A29 r26.Ins D29), (sc A30 r26.Fixed D30), (sc A31 r26.Kernels D31), (sc A32 r26.Outs D32)] 58 :: _ :: _ :: _ :: _ :: _ :: _ :: _ :: _ :: _ :: _ :: _ :: _ :: _ :: _ :: _ :: _ :: W1) ?_)))
 refine l_nil (q_next (c_seq ?_))
 obtain ⟨r34, hx35, hr⟩ := bd hr
 refine c_region (lO (vz (.agg [(sc A28 r26.Sizes D28), (sc A29 r26.Ins D29), (sc A30 r26.Fixed D30), (sc A31 r26.Kernels D31), (sc A32 r26.Outs D32)].toArray) (v_loadw 0 ag58 sz58 R R R R)) (lM (ow _ _ _ _ :: ow _ _ _ _ :: ow _ _ _ _ :: ow _ _ _ _ :: ow _ _ _ _ :: bxl _ _ _ :: bxl _ _ _ :: ow _ _ _ _ :: ow _ _ _ _ :: ow _ _ _ _ :: ow _ _ _ _ :: ow _ _ _ _ :: ow _ _ _ _ :: ow _ _ _ _ :: ow _ _ _ _ :: ow _ _ _ _ :: ow _ _ _ _ :: W1) (fun w s => (s.f 17 [1, 5, 0, 1, 6, 11])) ?_))
 refine lC 5 cb25 R (FnOk.lends (A' := [OO kT3 3 A28 D28 r26.Sizes, OO kT3 3 A29 D29 r26.Ins, OO kT159 159 A30 D30 r26.Fixed, OO kT127 127 A31 D31 r26.Kernels, OO kT3 3 A32 D32 r26.Outs]) (A := [RR kT3 A28 D28 r26.Sizes, RR kT3 A29 D29 r26.Ins, RR kT159 A30 D30 r26.Fixed, RR kT127 A31 D31 r26.Kernels, RR kT3 A32 D32 r26.Outs]) (B := []) (impl_Fuse_ok hx35) ⟨lend_ow, lend_ow, lend_ow, lend_ow, lend_ow, trivial⟩ (fun _ => ⟨(closed_ow cT3), (closed_ow cT3), (closed_ow cT159), (closed_ow cT127), (closed_ow cT3), trivial⟩)) R ?_
 rintro ⟨⟨A36, N36, D36⟩, ⟨A37, N37, D37⟩, ⟨A38, N38, D38⟩, ⟨A39, N39, D39⟩, ⟨A40, N40, D40⟩⟩
 refine lN (_ :: _ :: _ :: _ :: _ :: ow kT3 3 (.slice A36 N36 D36) r34.Sizes :: ow kT3 3 (.slice A37 N37 D37) r34.Ins :: ow kT159 159 (.slice A38 N38 D38) r34.Fixed :: ow kT127 127 (.slice A39 N39 D39) r34.Kernels :: ow kT3 3 (.slice A40 N40 D40) r34.Outs :: _ :: _ :: _ :: _ :: _ :: _ :: _ :: _ :: _ :: _ :: _ :: _ :: W1) ?_
 refine l_len 5 sees_ow ?_
 rintro rfl
 refine l_len 6 sees_ow ?_
 rintro rfl
 refine l_len 7 sees_ow ?_
 rintro rfl
 refine l_len 8 sees_ow ?_
 rintro rfl
 refine l_len 9 sees_ow ?_
 rintro rfl
 refine l_alloc R R zc58 (fun b41 => (l_stores 0 R R sz58 R R R R R R (lN (bxl b41 [(sc A36 r34.Sizes D36), (sc A37 r34.Ins D37), (sc A38 r34.Fixed D38), (sc A39 r34.Kernels D39), (sc A40 r34.Outs D40)] 58 :: _ :: _ :: _ :: _ :: _ :: _ :: _ :: _ :: _ :: _ :: _ :: _ :: _ :: _ :: _ :: _ :: _ :: _ :: _ :: _ :: _ :: _ :: W1) ?_)))
 refine l_nil (q_next (c_seq (c_seq ?_)))
 obtain ⟨r42, hx43, hr⟩ := bd hr
 refine c_region (lO (vz (.agg [(sc A36 r34.Sizes D36), (sc A37 r34.Ins D37), (sc A38 r34.Fixed D38), (sc A39 r34.Kernels D39), (sc A40 r34.Outs D40)].toArray) (v_loadw 0 ag58 sz58 R R R R)) (lO (vz (.agg [(sc A20 r18.Sizes D20), (sc A21 r18.Ins D21), (sc A22 r18.Fixed D22), (sc A23 r18.Kernels D23), (sc A24 r18.Outs D24)].toArray) (v_loadw 12 ag58 sz58 R R R R)) (lM (ow _ _ _ _ :: ow _ _ _ _ :: ow _ _ _ _ :: ow _ _ _ _ :: ow _ _ _ _ :: ow _ _ _ _ :: ow _ _ _ _ :: ow _ _ _ _ :: ow _ _ _ _ :: ow _ _ _ _ :: bxl _ _ _ :: ow _ _ _ _ :: ow _ _ _ _ :: ow _ _ _ _ :: ow _ _ _ _ :: ow _ _ _ _ :: bxl _ _ _ :: bxl _ _ _ :: ow _ _ _ _ :: ow _ _ _ _ :: ow _ _ _ _ :: ow _ _ _ _ :: ow _ _ _ _ :: W1) (fun w s => (s.f 23 [6, 5, 18, 5, 0, 6, 11, 7])) ?_)))
 refine lC 10 cb26 R (FnOk.lends (A' := [OO kT3 3 A36 D36 r34.Sizes, OO kT3 3 A37 D37 r34.Ins, OO kT159 159 A38 D38 r34.Fixed, OO kT127 127 A39 D39 r34.Kernels, OO kT3 3 A40 D40 r34.Outs, OO kT3 3 A20 D20 r18.Sizes, OO kT3 3 A21 D21 r18.Ins, OO kT159 159 A22 D22 r18.Fixed, OO kT127 127 A23 D23 r18.Kernels, OO kT3 3 A24 D24 r18.Outs]) (A := [RR kT3 A36 D36 r34.Sizes, RR kT3 A37 D37 r34.Ins, RR kT159 A38 D38 r34.Fixed, RR kT127 A39 D39 r34.Kernels, RR kT3 A40 D40 r34.Outs, RR kT3 A20 D20 r18.Sizes, RR kT3 A21 D21 r18.Ins, RR kT159 A22 D22 r18.Fixed, RR kT127 A23 D23 r18.Kernels, RR kT3 A24 D24 r18.Outs]) (B := []) (laws_eqNest_ok hx43) ⟨lend_ow, lend_ow, lend_ow, lend_ow, lend_ow, lend_ow, lend_ow, lend_ow, lend_ow, lend_ow, trivial⟩ (fun _ => trivial)) R ?_
 rintro _
 refine lO (vNo R) (l_nil (q_next ?_))
 rcases bif_ hr with ⟨hb44, hr⟩ | ⟨hb44, hr⟩
 refine c_true R hb44 (c_seq (c_region (lB R (l_nil (q_next (c_ret (q_ret ?_)))))))
 obtain rfl := so hr
 exact qF () (fun w s => (s.e 29 []))
 refine c_false R hb44 (c_skip (q_next (c_seq (c_seq ?_))))
 obtain ⟨r45, hx46, hr⟩ := bd hr
 obtain ⟨r52, hx53, hr⟩ := bd hr
 refine cdr 5 [] mixo (fun ht hn => (dR 0 R (vz (.agg [(sc A28 r26.Sizes D28), (sc A29 r26.Ins D29), (sc A30 r26.Fixed D30), (sc A31 r26.Kernels D31), (sc A32 r26.Outs D32)].toArray) (v_loadw 16 ag58 sz58 R R R R)) (dR 1 R (vz (.agg [(sc A2 aL1.Sizes D2), (sc A3 aL1.Ins D3), (sc A4 aL1.Fixed D4), (sc A5 aL1.Kernels D5), (sc A6 aL1.Outs D6)].toArray) (v_loadw 23 ag53 sz53 R R R R)) (d_one 2 (by kernel_rfl) R (lM (RR kT3 A2 D2 aL1.Sizes :: RR kT3 A3 D3 aL1.Ins :: RR kT152 A4 D4 aL1.Fixed :: RR kT158 A5 D5 aL1.Kernels :: RR kT3 A6 D6 aL1.Outs :: ow _ _ _ _ :: ow _ _ _ _ :: ow _ _ _ _ :: ow _ _ _ _ :: ow _ _ _ _ :: ow _ _ _ _ :: ow _ _ _ _ :: ow _ _ _ _ :: ow _ _ _ _ :: ow _ _ _ _ :: bxl _ _ _ :: ow _ _ _ _ :: ow _ _ _ _ :: ow _ _ _ _ :: ow _ _ _ _ :: ow _ _ _ _ :: bxl _ _ _ :: bxl _ _ _ :: ow _ _ _ _ :: ow _ _ _ _ :: ow _ _ _ _ :: ow _ _ _ _ :: ow _ _ _ _ :: W1) (fun w s => ((((((s.d 24 R).d 26 R).d 28 R).d 30 R).d 32 R).f 28 [4, 1, 3, 1, 2, 1, 1, 1, 0, 1, 5, 23])) ?_)))))
 refine lC 5 cb24 R (laws_toNest_ok hx46) R ?_
 rintro ⟨⟨A47, N47, D47⟩, ⟨A48, N48, D48⟩, ⟨A49, N49, D49⟩, ⟨A50, N50, D50⟩, ⟨A51, N51, D51⟩⟩
 refine lN (ow kT3 3 (.slice A47 N47 D47) r45.Sizes :: ow kT3 3 (.slice A48 N48 D48) r45.Ins :: ow kT159 159 (.slice A49 N49 D49) r45.Fixed :: ow kT127 127 (.slice A50 N50 D50) r45.Kernels :: ow kT3 3 (.slice A51 N51 D51) r45.Outs :: _ :: _ :: _ :: _ :: _ :: _ :: _ :: _ :: _ :: _ :: _ :: _ :: _ :: _ :: _ :: _ :: _ :: _ :: _ :: _ :: _ :: _ :: _ :: W1) ?_
 refine l_len 0 sees_ow ?_
 rintro rfl
 refine l_len 1 sees_ow ?_
 rintro rfl
 refine l_len 2 sees_ow ?_
 rintro rfl
 refine l_len 3 sees_ow ?_
 rintro rfl
 refine l_len 4 sees_ow ?_
 rintro rfl
 refine l_nil (q_draw (sL [4, 3, 2, 1, 0]) (d_one 3 (by kernel_rfl) R (lM (ow _ _ _ _ :: ow _ _ _ _ :: ow _ _ _ _ :: ow _ _ _ _ :: ow _ _ _ _ :: ow _ _ _ _ :: ow _ _ _ _ :: ow _ _ _ _ :: ow _ _ _ _ :: ow _ _ _ _ :: ow _ _ _ _ :: ow _ _ _ _ :: ow _ _ _ _ :: ow _ _ _ _ :: ow _ _ _ _ :: ow _ _ _ _ :: ow _ _ _ _ :: ow _ _ _ _ :: ow _ _ _ _ :: ow _ _ _ _ :: bxl _ _ _ :: bxl _ _ _ :: bxl _ _ _ :: ow _ _ _ _ :: ow _ _ _ _ :: ow _ _ _ _ :: ow _ _ _ _ :: ow _ _ _ _ :: W1) (fun w s => (s.f 28 [16, 5, 0, 16, 21, 7])) ?_)))
 refine lC 10 cb26 R (FnOk.lends (A' := [OO kT3 3 A28 D28 r26.Sizes, OO kT3 3 A29 D29 r26.Ins, OO kT159 159 A30 D30 r26.Fixed, OO kT127 127 A31 D31 r26.Kernels, OO kT3 3 A32 D32 r26.Outs, OO kT3 3 A47 D47 r45.Sizes, OO kT3 3 A48 D48 r45.Ins, OO kT159 159 A49 D49 r45.Fixed, OO kT127 127 A50 D50 r45.Kernels, OO kT3 3 A51 D51 r45.Outs]) (A := [RR kT3 A28 D28 r26.Sizes, RR kT3 A29 D29 r26.Ins, RR kT159 A30 D30 r26.Fixed, RR kT127 A31 D31 r26.Kernels, RR kT3 A32 D32 r26.Outs, RR kT3 A47 D47 r45.Sizes, RR kT3 A48 D48 r45.Ins, RR kT159 A49 D49 r45.Fixed, RR kT127 A50 D50 r45.Kernels, RR kT3 A51 D51 r45.Outs]) (B := []) (laws_eqNest_ok hx53) ⟨lend_ow, lend_ow, lend_ow, lend_ow, lend_ow, lend_ow, lend_ow, lend_ow, lend_ow, lend_ow, trivial⟩ (fun _ => trivial)) R ?_
 rintro _
 refine l_nil (q_draw (fun w s => (s.f 28 [10, 11, 0, 5, 21, 7])) (dR 4 R (vNo R) (hS := (fun w s => (s.f 28 [10, 11, 0, 5, 21, 7]))) (d_done (by kernel_rfl) (q_next ?_))))
 rcases bif_ hr with ⟨hb54, hr⟩ | ⟨hb54, hr⟩
 refine c_true R hb54 (c_seq (c_region (lB R (l_nil (q_next (c_ret (q_ret ?_)))))))
 obtain rfl := so hr
 exact qF () (fun w s => (s.e 34 []))
 refine c_false R hb54 (c_skip (q_next (c_seq (c_region (lI R (l_nil (q_next (c_seq ?_))))))))
 obtain ⟨r55, hx56, hr⟩ := bd hr
 refine c_region (lO (vz (.agg [(sc A28 r26.Sizes D28), (sc A29 r26.Ins D29), (sc A30 r26.Fixed D30), (sc A31 r26.Kernels D31), (sc A32 r26.Outs D32)].toArray) (v_loadw 21 ag58 sz58 R R R R)) (lI R (lC 5 cb27 R (laws_markNest_ok hx56) R ?_)))
 rintro _
 refine lN (ow kT3 3 (.slice A28 r26.Sizes.length D28) r55.2.1 :: ow kT3 3 (.slice A29 r26.Ins.length D29) r55.2.2.1 :: ow kT159 159 (.slice A30 r26.Fixed.length D30) r55.2.2.2.1 :: ow kT127 127 (.slice A31 r26.Kernels.length D31) r55.2.2.2.2.1 :: ow kT3 3 (.slice A32 r26.Outs.length D32) r55.2.2.2.2.2 :: _ :: _ :: _ :: _ :: _ :: _ :: _ :: _ :: _ :: _ :: _ :: _ :: _ :: _ :: _ :: _ :: _ :: _ :: _ :: _ :: _ :: _ :: _ :: W1) ?_
 refine lI R (l_nil (q_next (c_seq (c_seq ?_))))
 obtain ⟨r57, hx58, hr⟩ := bd hr
 refine cQ [(1, (pt b7 0)), (4, (pt b25 0)), (6, (pt b41 0)), (42, (.bool ((decide (r55.1 < (0 : Int))) || (!r57))))] (bxl b25 [(sc A20 r18.Sizes D20), (sc A21 r18.Ins D21), (sc A22 r18.Fixed D22), (sc A23 r18.Kernels D23), (sc A24 r18.Outs D24)] 58 :: OO kT3 3 A20 D20 r18.Sizes :: OO kT3 3 A21 D21 r18.Ins :: OO kT159 159 A22 D22 r18.Fixed :: OO kT127 127 A23 D23 r18.Kernels :: OO kT3 3 A24 D24 r18.Outs :: bxl b41 [(sc A36 r34.Sizes D36), (sc A37 r34.Ins D37), (sc A38 r34.Fixed D38), (sc A39 r34.Kernels D39), (sc A40 r34.Outs D40)] 58 :: OO kT3 3 A36 D36 r34.Sizes :: OO kT3 3 A37 D37 r34.Ins :: OO kT159 159 A38 D38 r34.Fixed :: OO kT127 127 A39 D39 r34.Kernels :: OO kT3 3 A40 D40 r34.Outs :: W1) ?_ ?_
 refine c_region (lI R (lO (vLt R R) (lB R ?_)))
 rcases bo (decide (r55.1 < (0 : Int))) with hc59 | hc59
 refine lf (wfT hc59) (lf (wfT hc59) (lf (wfT hc59) (lf (wfT hc59) (lO (pOT (!r57) R hc59) (l_nil ?_)))))
 exact qJ (fun w s => (s.f 28 [22, 1, 15, 6, 10, 5]))
 refine lW (wnF hc59) (vz (.agg [(sc A36 r34.Sizes D36), (sc A37 r34.Ins D37), (sc A38 r34.Fixed D38), (sc A39 r34.Kernels D39), (sc A40 r34.Outs D40)].toArray) (v_loadw 20 ag58 sz58 R R R R)) (lW (wnF hc59) (vz (.agg [(sc A20 r18.Sizes D20), (sc A21 r18.Ins D21), (sc A22 r18.Fixed D22), (sc A23 r18.Kernels D23), (sc A24 r18.Outs D24)].toArray) (v_loadw 22 ag58 sz58 R R R R)) (lM (ow _ _ _ _ :: ow _ _ _ _ :: ow _ _ _ _ :: ow _ _ _ _ :: ow _ _ _ _ :: ow _ _ _ _ :: ow _ _ _ _ :: ow _ _ _ _ :: ow _ _ _ _ :: ow _ _ _ _ :: ow _ _ _ _ :: ow _ _ _ _ :: ow _ _ _ _ :: ow _ _ _ _ :: ow _ _ _ _ :: ow _ _ _ _ :: ow _ _ _ _ :: ow _ _ _ _ :: ow _ _ _ _ :: ow _ _ _ _ :: bxl _ _ _ :: bxl _ _ _ :: bxl _ _ _ :: ow _ _ _ _ :: ow _ _ _ _ :: ow _ _ _ _ :: ow _ _ _ _ :: ow _ _ _ _ :: W1) (fun w s => (s.f 28 [10, 10, 0, 10, 20, 8])) ?_))
 refine l_calln 10 R (wnF hc59) cb26 R (FnOk.lends (A' := [OO kT3 3 A36 D36 r34.Sizes, OO kT3 3 A37 D37 r34.Ins, OO kT159 159 A38 D38 r34.Fixed, OO kT127 127 A39 D39 r34.Kernels, OO kT3 3 A40 D40 r34.Outs, OO kT3 3 A20 D20 r18.Sizes, OO kT3 3 A21 D21 r18.Ins, OO kT159 159 A22 D22 r18.Fixed, OO kT127 127 A23 D23 r18.Kernels, OO kT3 3 A24 D24 r18.Outs]) (A := [RR kT3 A36 D36 r34.Sizes, RR kT3 A37 D37 r34.Ins, RR kT159 A38 D38 r34.Fixed, RR kT127 A39 D39 r34.Kernels, RR kT3 A40 D40 r34.Outs, RR kT3 A20 D20 r18.Sizes, RR kT3 A21 D21 r18.Ins, RR kT159 A22 D22 r18.Fixed, RR kT127 A23 D23 r18.Kernels, RR kT3 A24 D24 r18.Outs]) (B := []) (laws_eqNest_ok (gcall_t hx58 (not_ff hc59))) ⟨lend_ow, lend_ow, lend_ow, lend_ow, lend_ow, lend_ow, lend_ow, lend_ow, lend_ow, lend_ow, trivial⟩ (fun _ => trivial)) R ?_
 rintro _
 refine lW (wnF hc59) (vNo R) (lO (pOF R hc59 R) (l_nil ?_))
 exact qJ (fun w s => (s.f 28 [22, 1, 5, 5, 20, 1, 0, 5]))
 rintro σ1
 refine q_next ?_
 rcases bif_ hr with ⟨hb60, hr⟩ | ⟨hb60, hr⟩
 refine c_true R hb60 (c_seq (c_region (lB R (l_nil (q_next (c_ret (q_ret ?_)))))))
 obtain rfl := so hr
 exact qF () (fun w s => (s.e 18 []))
 refine c_false R hb60 (c_skip (q_next (c_seq (c_region (lI R (l_nil (q_next (c_seq ?_))))))))
 obtain ⟨r61, hx62, hr⟩ := bd hr
 refine c_region (lO (vz (.agg [(sc A36 r34.Sizes D36), (sc A37 r34.Ins D37), (sc A38 r34.Fixed D38), (sc A39 r34.Kernels D39), (sc A40 r34.Outs D40)].toArray) (v_loadw 6 ag58 sz58 R R R R)) (lI R (lM (ow _ _ _ _ :: ow _ _ _ _ :: ow _ _ _ _ :: ow _ _ _ _ :: ow _ _ _ _ :: bxl _ _ _ :: ow _ _ _ _ :: ow _ _ _ _ :: ow _ _ _ _ :: ow _ _ _ _ :: ow _ _ _ _ :: bxl _ _ _ :: W1) (fun w s => (s.f 12 [7, 5, 0, 7])) ?_)))
 refine lC 5 cb27 R (laws_markNest_ok hx62) R ?_
 rintro _
 refine lN (ow kT3 3 (.slice A36 r34.Sizes.length D36) r61.2.1 :: ow kT3 3 (.slice A37 r34.Ins.length D37) r61.2.2.1 :: ow kT159 159 (.slice A38 r34.Fixed.length D38) r61.2.2.2.1 :: ow kT127 127 (.slice A39 r34.Kernels.length D39) r61.2.2.2.2.1 :: ow kT3 3 (.slice A40 r34.Outs.length D40) r61.2.2.2.2.2 :: _ :: _ :: _ :: _ :: _ :: _ :: _ :: W1) ?_
 refine lI R (l_nil (q_next (c_seq (c_region (lI R (l_nil (q_next (c_seq ?_))))))))
 obtain ⟨r63, hx64, hr⟩ := bd hr
 refine c_region (lO (vz (.agg [(sc A36 r34.Sizes D36), (sc A37 r34.Ins D37), (sc A38 r34.Fixed D38), (sc A39 r34.Kernels D39), (sc A40 r34.Outs D40)].toArray) (v_loadw 11 ag58 sz58 R R R R)) (lI R (lC 5 cb28 R (FnOk.lends (A' := [ow kT3 3 (.slice A36 r34.Sizes.length D36) r61.2.1, ow kT3 3 (.slice A37 r34.Ins.length D37) r61.2.2.1, ow kT159 159 (.slice A38 r34.Fixed.length D38) r61.2.2.2.1, ow kT127 127 (.slice A39 r34.Kernels.length D39) r61.2.2.2.2.1, ow kT3 3 (.slice A40 r34.Outs.length D40) r61.2.2.2.2.2]) (A := [rds kT3 (.slice A36 r34.Sizes.length D36) r61.2.1, rds kT3 (.slice A37 r34.Ins.length D37) r61.2.2.1, rds kT159 (.slice A38 r34.Fixed.length D38) r61.2.2.2.1, rds kT127 (.slice A39 r34.Kernels.length D39) r61.2.2.2.2.1, rds kT3 (.slice A40 r34.Outs.length D40) r61.2.2.2.2.2]) (B := []) (laws_heldNest_ok hx64) ⟨lend_ow, lend_ow, lend_ow, lend_ow, lend_ow, trivial⟩ (fun _ => trivial)) R ?_)))
 rintro _
 refine lI R (l_nil (q_next (c_seq (c_seq (c_region (lI R (lO (vLt R R) (l_nil (q_next ?_)))))))))
 rcases bif_ hr with ⟨hb65, hr⟩ | ⟨hb65, hr⟩
 refine c_true R hb65 (c_seq (c_region (lB R (l_nil (q_next (c_ret (q_ret ?_)))))))
 obtain rfl := so hr
 exact qF () (fun w s => (s.e 18 []))
 refine c_false R hb65 (c_skip (q_next (c_seq (c_seq (c_region (lI R (lI R (lO (vNe R R) (l_nil (q_next ?_))))))))))
 rcases bif_ hr with ⟨hb66, hr⟩ | ⟨hb66, hr⟩
 refine c_true R hb66 (c_seq (c_region (lB R (l_nil (q_next (c_ret (q_ret ?_)))))))
 obtain rfl := so hr
 exact qF () (fun w s => (s.e 18 []))
 refine c_false R hb66 (c_skip (q_next (c_seq ?_)))
 obtain ⟨r67, hx68, hr⟩ := bd hr
 obtain ⟨r74, hx75, hr⟩ := bd hr
 refine c_region (lO (vz (.agg [(sc A2 aL1.Sizes D2), (sc A3 aL1.Ins D3), (sc A4 aL1.Fixed D4), (sc A5 aL1.Kernels D5), (sc A6 aL1.Outs D6)].toArray) (v_loadw 12 ag53 sz53 R R R R)) (lM (RR kT3 A2 D2 aL1.Sizes :: RR kT3 A3 D3 aL1.Ins :: RR kT152 A4 D4 aL1.Fixed :: RR kT158 A5 D5 aL1.Kernels :: RR kT3 A6 D6 aL1.Outs :: ow _ _ _ _ :: ow _ _ _ _ :: ow _ _ _ _ :: ow _ _ _ _ :: ow _ _ _ _ :: bxl _ _ _ :: ow _ _ _ _ :: ow _ _ _ _ :: ow _ _ _ _ :: ow _ _ _ _ :: ow _ _ _ _ :: bxl _ _ _ :: W1) (fun w s => ((((((s.d 13 R).d 15 R).d 17 R).d 19 R).d 21 R).f 17 [4, 1, 3, 1, 2, 1, 1, 1, 0, 1, 5, 12])) ?_))
 refine lC 5 cb24 R (laws_toNest_ok hx68) R ?_
 rintro ⟨⟨A69, N69, D69⟩, ⟨A70, N70, D70⟩, ⟨A71, N71, D71⟩, ⟨A72, N72, D72⟩, ⟨A73, N73, D73⟩⟩
 refine lN (ow kT3 3 (.slice A69 N69 D69) r67.Sizes :: ow kT3 3 (.slice A70 N70 D70) r67.Ins :: ow kT159 159 (.slice A71 N71 D71) r67.Fixed :: ow kT127 127 (.slice A72 N72 D72) r67.Kernels :: ow kT3 3 (.slice A73 N73 D73) r67.Outs :: _ :: _ :: _ :: _ :: _ :: _ :: _ :: _ :: _ :: _ :: _ :: _ :: W1) ?_
 refine l_len 0 sees_ow ?_
 rintro rfl
 refine l_len 1 sees_ow ?_
 rintro rfl
 refine l_len 2 sees_ow ?_
 rintro rfl
 refine l_len 3 sees_ow ?_
 rintro rfl
 refine l_len 4 sees_ow ?_
 rintro rfl
 refine lC 5 cb25 R (FnOk.lends (A' := [OO kT3 3 A69 D69 r67.Sizes, OO kT3 3 A70 D70 r67.Ins, OO kT159 159 A71 D71 r67.Fixed, OO kT127 127 A72 D72 r67.Kernels, OO kT3 3 A73 D73 r67.Outs]) (A := [RR kT3 A69 D69 r67.Sizes, RR kT3 A70 D70 r67.Ins, RR kT159 A71 D71 r67.Fixed, RR kT127 A72 D72 r67.Kernels, RR kT3 A73 D73 r67.Outs]) (B := []) (impl_Fuse_ok hx75) ⟨lend_ow, lend_ow, lend_ow, lend_ow, lend_ow, trivial⟩ (fun _ => ⟨(closed_ow cT3), (closed_ow cT3), (closed_ow cT159), (closed_ow cT127), (closed_ow cT3), trivial⟩)) R ?_
 rintro ⟨⟨A76, N76, D76⟩, ⟨A77, N77, D77⟩, ⟨A78, N78, D78⟩, ⟨A79, N79, D79⟩, ⟨A80, N80, D80⟩⟩
 refine lN (_ :: _ :: _ :: _ :: _ :: ow kT3 3 (.slice A76 N76 D76) r74.Sizes :: ow kT3 3 (.slice A77 N77 D77) r74.Ins :: ow kT159 159 (.slice A78 N78 D78) r74.Fixed :: ow kT127 127 (.slice A79 N79 D79) r74.Kernels :: ow kT3 3 (.slice A80 N80 D80) r74.Outs :: _ :: _ :: _ :: _ :: _ :: _ :: _ :: _ :: _ :: _ :: _ :: _ :: W1) ?_
 refine l_len 5 sees_ow ?_
 rintro rfl
 refine l_len 6 sees_ow ?_
 rintro rfl
 refine l_len 7 sees_ow ?_
 rintro rfl
 refine l_len 8 sees_ow ?_
 rintro rfl
 refine l_len 9 sees_ow ?_
 rintro rfl
 refine l_alloc R R zc58 (fun b81 => (l_stores 0 R R sz58 R R R R R R (lN (bxl b81 [(sc A76 r74.Sizes D76), (sc A77 r74.Ins D77), (sc A78 r74.Fixed D78), (sc A79 r74.Kernels D79), (sc A80 r74.Outs D80)] 58 :: _ :: _ :: _ :: _ :: _ :: _ :: _ :: _ :: _ :: _ :: _ :: _ :: _ :: _ :: _ :: _ :: _ :: _ :: _ :: _ :: _ :: _ :: W1) ?_)))
 refine l_nil (q_next (c_seq (c_seq ?_)))
 obtain ⟨r82, hx83, hr⟩ := bd hr
 refine c_region (lO (vz (.agg [(sc A76 r74.Sizes D76), (sc A77 r74.Ins D77), (sc A78 r74.Fixed D78), (sc A79 r74.Kernels D79), (sc A80 r74.Outs D80)].toArray) (v_loadw 0 ag58 sz58 R R R R)) (lO (vz (.agg [(sc A20 r18.Sizes D20), (sc A21 r18.Ins D21), (sc A22 r18.Fixed D22), (sc A23 r18.Kernels D23), (sc A24 r18.Outs D24)].toArray) (v_loadw 16 ag58 sz58 R R R R)) (lM (ow _ _ _ _ :: ow _ _ _ _ :: ow _ _ _ _ :: ow _ _ _ _ :: ow _ _ _ _ :: ow _ _ _ _ :: ow _ _ _ _ :: ow _ _ _ _ :: ow _ _ _ _ :: ow _ _ _ _ :: bxl _ _ _ :: ow _ _ _ _ :: ow _ _ _ _ :: ow _ _ _ _ :: ow _ _ _ _ :: ow _ _ _ _ :: ow _ _ _ _ :: ow _ _ _ _ :: ow _ _ _ _ :: ow _ _ _ _ :: ow _ _ _ _ :: bxl _ _ _ :: bxl _ _ _ :: W1) (fun w s => (s.f 23 [6, 5, 17, 5, 0, 6, 11, 6, 22, 1])) ?_)))
 refine lC 10 cb26 R (FnOk.lends (A' := [OO kT3 3 A76 D76 r74.Sizes, OO kT3 3 A77 D77 r74.Ins, OO kT159 159 A78 D78 r74.Fixed, OO kT127 127 A79 D79 r74.Kernels, OO kT3 3 A80 D80 r74.Outs, OO kT3 3 A20 D20 r18.Sizes, OO kT3 3 A21 D21 r18.Ins, OO kT159 159 A22 D22 r18.Fixed, OO kT127 127 A23 D23 r18.Kernels, OO kT3 3 A24 D24 r18.Outs]) (A := [RR kT3 A76 D76 r74.Sizes, RR kT3 A77 D77 r74.Ins, RR kT159 A78 D78 r74.Fixed, RR kT127 A79 D79 r74.Kernels, RR kT3 A80 D80 r74.Outs, RR kT3 A20 D20 r18.Sizes, RR kT3 A21 D21 r18.Ins, RR kT159 A22 D22 r18.Fixed, RR kT127 A23 D23 r18.Kernels, RR kT3 A24 D24 r18.Outs]) (B := []) (laws_eqNest_ok hx83) ⟨lend_ow, lend_ow, lend_ow, lend_ow, lend_ow, lend_ow, lend_ow, lend_ow, lend_ow, lend_ow, trivial⟩ (fun _ => trivial)) R ?_
 rintro _
 refine lO (vNo R) (l_nil (q_next ?_))
 rcases bif_ hr with ⟨hb84, hr⟩ | ⟨hb84, hr⟩
 refine c_true R hb84 (c_seq (c_region (lB R (l_nil (q_next (c_ret (q_ret ?_)))))))
 obtain rfl := so hr
 exact qF () (fun w s => (s.e 29 []))
 refine c_false R hb84 (c_skip (q_next (c_seq (c_region (lI R (l_nil (q_next (c_seq ?_))))))))
 obtain ⟨r85, hx86, hr⟩ := bd hr
 refine c_region (lO (vz (.agg [(sc A36 r34.Sizes D36), (sc A37 r34.Ins D37), (sc A38 r34.Fixed D38), (sc A39 r34.Kernels D39), (sc A40 r34.Outs D40)].toArray) (v_loadw 22 ag58 sz58 R R R R)) (lI R (lM (ow _ _ _ _ :: ow _ _ _ _ :: ow _ _ _ _ :: ow _ _ _ _ :: ow _ _ _ _ :: ow _ _ _ _ :: ow _ _ _ _ :: ow _ _ _ _ :: ow _ _ _ _ :: ow _ _ _ _ :: ow _ _ _ _ :: ow _ _ _ _ :: ow _ _ _ _ :: ow _ _ _ _ :: ow _ _ _ _ :: bxl _ _ _ :: ow _ _ _ _ :: ow _ _ _ _ :: ow _ _ _ _ :: ow _ _ _ _ :: ow _ _ _ _ :: bxl _ _ _ :: bxl _ _ _ :: W1) (fun w s => (s.f 23 [16, 5, 0, 16, 21, 2])) ?_)))
 refine lC 5 cb28 R (FnOk.lends (A' := [ow kT3 3 (.slice A36 r34.Sizes.length D36) r61.2.1, ow kT3 3 (.slice A37 r34.Ins.length D37) r61.2.2.1, ow kT159 159 (.slice A38 r34.Fixed.length D38) r61.2.2.2.1, ow kT127 127 (.slice A39 r34.Kernels.length D39) r61.2.2.2.2.1, ow kT3 3 (.slice A40 r34.Outs.length D40) r61.2.2.2.2.2]) (A := [rds kT3 (.slice A36 r34.Sizes.length D36) r61.2.1, rds kT3 (.slice A37 r34.Ins.length D37) r61.2.2.1, rds kT159 (.slice A38 r34.Fixed.length D38) r61.2.2.2.1, rds kT127 (.slice A39 r34.Kernels.length D39) r61.2.2.2.2.1, rds kT3 (.slice A40 r34.Outs.length D40) r61.2.2.2.2.2]) (B := []) (laws_heldNest_ok hx86) ⟨lend_ow, lend_ow, lend_ow, lend_ow, lend_ow, trivial⟩ (fun _ => trivial)) R ?_
 rintro _
 refine lI R (l_nil (q_next (c_seq (c_seq (c_region (lI R (lO (vLt R R) (l_nil (q_next ?_)))))))))
 rcases bif_ hr with ⟨hb87, hr⟩ | ⟨hb87, hr⟩
 refine c_true R hb87 (c_seq (c_region (lB R (l_nil (q_next (c_ret (q_ret ?_)))))))
 obtain rfl := so hr
 exact qF () (fun w s => (s.e 29 []))
 refine c_false R hb87 (c_skip (q_next (c_seq (c_seq (c_region (lI R (lI R (lO (vNe R R) (l_nil (q_next ?_))))))))))
 rcases bif_ hr with ⟨hb88, hr⟩ | ⟨hb88, hr⟩
 refine c_true R hb88 (c_seq (c_region (lB R (l_nil (q_next (c_ret (q_ret ?_)))))))
 obtain rfl := so hr
 exact qF () (fun w s => (s.e 29 []))
 refine c_false R hb88 (c_skip (q_next (c_seq (c_region (lB R (l_nil (q_next (c_ret ?_))))))))
 obtain rfl := so hr
 exact qF () (fun w s => (s.e 29 []))
end Go.Proofs.Ytbdchgofcejiiaa
