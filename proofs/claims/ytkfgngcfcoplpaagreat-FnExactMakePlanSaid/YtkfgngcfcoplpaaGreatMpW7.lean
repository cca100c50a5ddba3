import Derived.Test.YtkfgngcfcoplpaaGreatMpW6
set_option linter.unusedVariables false
set_option maxRecDepth 20000
namespace Go.Proofs.YtkfgngcfcoplpaaGreat
open Go Go.Pg
variable {A2 A3 A4 A5 A6 A7 : Option Addr} {D2 D3 D4 D5 D6 D7 N2 N3 N4 N5 N6 N7 : Nat}
theorem Zf_ok  {a1 : (List Int)} {k3 : Int} {r : Int × (List Int)} (hr : Zf a1 k3 = some r) :
 FnOk Tryz.prog 45 [(.slice A2 N2 D2), (iv k3)] [ow kT3 3 (.slice A2 N2 D2) a1] (fun (h : Unit) => ((iv r.1), [ow kT3 3 (.slice A2 N2 D2) r.2])) := by
 unfold Zf at hr
 refine fn_ok Tryz.func45 R 19 R R fun C V => ?_
 refine cN (_ :: V) ?_
 refine cL 0 sees_ow ?_
 rintro rfl
 refine c_seq (c_region (lI R (l_nil (q_next (c_seq (c_cut (A := (Int × (List Int)) × (Unit)) (fun a => Zf_J1 a.1.1 a.1.2 = some r) (fun a => [(1, (iv a.1.1))]) (fun a => ow kT3 3 (.slice A2 a1.length D2) a.1.2 :: V) ?_ ?_))))))
 refine c_seq (c_region (lI R (l_nil (q_next (c_block ?_)))))
 obtain ⟨e1, hl1, hk1⟩ := bd hr
 refine c_loop (A := Unit) hl1 (fun s a => [(0, (sc A2 a1 D2)), (1, (iv s.2.1)), (5, (iv s.2.2))]) (fun s a => ow kT3 3 (.slice A2 a1.length D2) s.1 :: V) () (aS R) (fun w s => s) ?_
 rintro ⟨a8, k9, i10⟩ _ σ1 out1 hr he1
 replace hr : Zf_L1 a1 a8 k9 i10 = some out1 := hr
 unfold Zf_L1 at hr
 refine c_seq (c_seq (c_region (lI R (lS R (lO (v_len sl22 R) (lO (vLt R R) (l_nil (q_next ?_))))))))
 rcases bif_ hr with ⟨hb11, hr⟩ | ⟨hb11, hr⟩
 refine c_true R hb11 (c_skip (q_next (c_seq (c_block (c_seq ?_)))))
 obtain ⟨hg12, hr⟩ := gd hr
 refine c_region (lS R (lI R (lI R (t_some 0 sees_ow (show 0 < a1.length by have := hg12; omega) (fun g13 o14 ha => ?_)))))
 subst ha
 refine lO (vIa sl22 sz3 R R hg12) (lN (ow kT3 3 (.slice (ad g13 o14) a1.length D2) a8 :: V) ?_)
 refine l_stx (K := kT3) (x' := k9) 0 i10 R R sz3 R R hg12.1 hg12.2 ?_ ?_
 exact fun I h s => (mO3).put I h () k9 s
 refine lN (ow kT3 3 (.slice (ad g13 o14) a1.length D2) (a8.set i10.toNat k9) :: V) ?_
 refine l_nil (q_next (c_region (lI R (lO (vAd R R) (lI R (l_nil (q_blockn (q_next (c_region (lI R (lO (vAd R R) (lI R (l_nil ?_)))))))))))))
 obtain rfl := so hr
 exact qA () (fun w s => s)
 refine c_false R hb11 (c_exit (q_exit ?_))
 obtain rfl := so hr
 obtain rfl := he1 _ R
 have hr := hk1
 refine q_exit (q_block ?_)
 exact qI ((k9, a8), ()) hr (fun w s => s)
 rintro ⟨⟨k18, p19⟩, _⟩ σ1 hr
 replace hr : Zf_J1 k18 p19 = some r := hr
 unfold Zf_J1 at hr
 refine c_seq (c_region (lI R (lI R (l_nil (q_next (c_ret ?_))))))
 obtain rfl := so hr
 exact qF () (fun w s => s)
theorem Zw_ok  {a1 : (List Fix)} {k3 : Int} {r : Int × (List Fix)} (hr : Zw a1 k3 = some r) :
 FnOk Tryz.prog 62 [(.slice A2 N2 D2), (iv k3)] [ow kT57 57 (.slice A2 N2 D2) a1] (fun (h : Unit) => ((iv r.1), [ow kT57 57 (.slice A2 N2 D2) r.2])) := by
 unfold Zw at hr
 refine fn_ok Tryz.func62 R 27 R R fun C V => ?_
 refine cN (_ :: V) ?_
 refine cL 0 sees_ow ?_
 rintro rfl
 refine c_seq (c_region (lI R (l_nil (q_next (c_seq (c_cut (A := (Int × (List Fix)) × (Unit)) (fun a => Zw_J1 a.1.1 a.1.2 = some r) (fun a => [(1, (iv a.1.1))]) (fun a => ow kT57 57 (.slice A2 a1.length D2) a.1.2 :: V) ?_ ?_))))))
 refine c_seq (c_region (lI R (l_nil (q_next (c_block ?_)))))
 obtain ⟨e1, hl1, hk1⟩ := bd hr
 refine c_loop (A := Unit) hl1 (fun s a => [(0, (sc A2 a1 D2)), (1, (iv s.2.1)), (5, (iv s.2.2))]) (fun s a => ow kT57 57 (.slice A2 a1.length D2) s.1 :: V) () (aS R) (fun w s => s) ?_
 rintro ⟨a15, k16, i17⟩ _ σ1 out1 hr he1
 replace hr : Zw_L1 a1 a15 k16 i17 = some out1 := hr
 unfold Zw_L1 at hr
 refine c_seq (c_seq (c_region (lI R (lS R (lO (v_len sl33 R) (lO (vLt R R) (l_nil (q_next ?_))))))))
 rcases bif_ hr with ⟨hb18, hr⟩ | ⟨hb18, hr⟩
 refine c_true R hb18 (c_skip (q_next (c_seq (c_block (c_seq ?_)))))
 obtain ⟨hg19, hr⟩ := gd hr
 refine c_region (lS R (lI R (lI R (t_some 0 sees_ow (show 0 < a1.length by have := hg19; omega) (fun g20 o21 ha => ?_)))))
 subst ha
 refine lO (vIa sl33 sz57 R R hg19) (lO (vz (.pointer (some ⟨g20, o21 + i17.toNat * 2, none⟩)) (v_fa fo57_0 R R)) (l_ste (K := kT57) (fo := 0) (v := (iv k16)) (f := (fun x : Fix => (⟨k16, x.Data⟩ : Fix))) 0 i17 R R sz3 ?_ R R R R hg19.1 hg19.2 ?_))
 exact SetL.deep sP57 mO57 (fun a x => ((), (.slice a.2.1 x.Data.length a.2.2))) R (fun _ _ => R) (fun _ _ => R)
 refine lN (ow kT57 57 (.slice (ad g20 o21) a1.length D2) (a15.set i17.toNat (⟨k16, (ix a15 i17).Data⟩ : Fix)) :: V) ?_
 refine l_nil (q_next (c_seq (c_region (lI R (lO (vAd R R) (lI R (l_nil (q_next ?_))))))))
 obtain ⟨r23, hx24, hr⟩ := bd hr
 refine c_region (lS R (lI R (lO (vIa sl33 sz57 R R hg19) (lO (vz (.pointer (some ⟨g20, o21 + i17.toNat * 2 + 1, none⟩)) (v_fa fo57_1 R R)) (t_focus (K := kT57) sP57 0 i17 R hg19.1 hg19.2 ?_)))))
 rintro ⟨-, ⟨A22, D22⟩⟩
 refine lN (hol kT57 57 (.slice (ad g20 o21) a1.length D2) (a15.set i17.toNat (⟨k16, (ix a15 i17).Data⟩ : Fix)) i17.toNat [(iv (ix (a15.set i17.toNat (⟨k16, (ix a15 i17).Data⟩ : Fix)) i17).Buffer), (sc A22 ((ix (a15.set i17.toNat (⟨k16, (ix a15 i17).Data⟩ : Fix)) i17).Data) D22)] :: OO kT3 3 A22 D22 ((ix (a15.set i17.toNat (⟨k16, (ix a15 i17).Data⟩ : Fix)) i17).Data) :: V) ?_
 refine lO (v_holf (fo := 1) 0 ag22 R R R) (lI R (lM (ow _ _ _ _ :: hol _ _ _ _ _ _ :: V) (fun w s => (s.e 2 [1, 0])) ?_))
 refine lC 1 cb45 R (Zf_ok hx24) R ?_
 rintro _
 refine lN (ow kT3 3 (.slice A22 ((ix (a15.set i17.toNat (⟨k16, (ix a15 i17).Data⟩ : Fix)) i17).Data).length D22) r23.2 :: _ :: V) ?_
 refine lI R (l_nil (qM (ow kT57 57 (.slice (ad g20 o21) a1.length D2) ((a15.set i17.toNat (⟨k16, (ix a15 i17).Data⟩ : Fix)).set i17.toNat (⟨(ix (a15.set i17.toNat (⟨k16, (ix a15 i17).Data⟩ : Fix)) i17).Buffer, r23.2⟩ : Fix)) :: V) (fun w s => St.unfocus (E := [ow kT3 3 (.slice A22 ((ix (a15.set i17.toNat (⟨k16, (ix a15 i17).Data⟩ : Fix)) i17).Data).length D22) r23.2]) (⟨(ix (a15.set i17.toNat (⟨k16, (ix a15 i17).Data⟩ : Fix)) i17).Buffer, r23.2⟩ : Fix) (s.e 2 [1, 0]) ?_) ?_))
 exact fun I h s => (mO57).put I h ((), (sc A22 ((ix (a15.set i17.toNat (⟨k16, (ix a15 i17).Data⟩ : Fix)) i17).Data) D22)) (⟨(ix (a15.set i17.toNat (⟨k16, (ix a15 i17).Data⟩ : Fix)) i17).Buffer, r23.2⟩ : Fix) s
 obtain ⟨l25, hl26, hr⟩ := bd hr
 replace hl26 := Option.some.inj hl26
 refine qM (ow kT57 57 (.slice (ad g20 o21) a1.length D2) l25 :: V) (fun w s => by rw [← hl26]; exact s) ?_
 refine q_blockn (q_next (c_region (lI R (lO (vAd R R) (lI R (l_nil ?_))))))
 obtain rfl := so hr
 exact qA () (fun w s => s)
 refine c_false R hb18 (c_exit (q_exit ?_))
 obtain rfl := so hr
 obtain rfl := he1 _ R
 have hr := hk1
 refine q_exit (q_block ?_)
 exact qI ((k16, a15), ()) hr (fun w s => s)
 rintro ⟨⟨k30, p31⟩, _⟩ σ1 hr
 replace hr : Zw_J1 k30 p31 = some r := hr
 unfold Zw_J1 at hr
 refine c_seq (c_region (lI R (lI R (l_nil (q_next (c_ret ?_))))))
 obtain rfl := so hr
 exact qF () (fun w s => s)
theorem Zv_ok  {a1 : (List Access)} {k3 : Int} {r : Int × (List Access)} (hr : Zv a1 k3 = some r) :
 FnOk Tryz.prog 114 [(.slice A2 N2 D2), (iv k3)] [ow kT61 61 (.slice A2 N2 D2) a1] (fun (h : Unit) => ((iv r.1), [ow kT61 61 (.slice A2 N2 D2) r.2])) := by
 unfold Zv at hr
 refine fn_ok Tryz.func114 R 34 R R fun C V => ?_
 refine cN (_ :: V) ?_
 refine cL 0 sees_ow ?_
 rintro rfl
 refine c_seq (c_region (lI R (l_nil (q_next (c_seq (c_cut (A := (Int × (List Access)) × (Unit)) (fun a => Zv_J1 a.1.1 a.1.2 = some r) (fun a => [(1, (iv a.1.1))]) (fun a => ow kT61 61 (.slice A2 a1.length D2) a.1.2 :: V) ?_ ?_))))))
 refine c_seq (c_region (lI R (l_nil (q_next (c_block ?_)))))
 obtain ⟨e1, hl1, hk1⟩ := bd hr
 refine c_loop (A := Unit) hl1 (fun s a => [(0, (sc A2 a1 D2)), (1, (iv s.2.1)), (5, (iv s.2.2))]) (fun s a => ow kT61 61 (.slice A2 a1.length D2) s.1 :: V) () (aS R) (fun w s => s) ?_
 rintro ⟨a17, k18, i19⟩ _ σ1 out1 hr he1
 replace hr : Zv_L1 a1 a17 k18 i19 = some out1 := hr
 unfold Zv_L1 at hr
 refine c_seq (c_seq (c_region (lI R (lS R (lO (v_len sl59 R) (lO (vLt R R) (l_nil (q_next ?_))))))))
 rcases bif_ hr with ⟨hb20, hr⟩ | ⟨hb20, hr⟩
 refine c_true R hb20 (c_skip (q_next (c_seq (c_block (c_seq ?_)))))
 obtain ⟨hg21, hr⟩ := gd hr
 refine c_region (lS R (lI R (lI R (t_some 0 sees_ow (show 0 < a1.length by have := hg21; omega) (fun g22 o23 ha => ?_)))))
 subst ha
 refine lO (vIa sl59 sz61 R R hg21) (lO (vz (.pointer (some ⟨g22, o23 + i19.toNat * 3, none⟩)) (v_fa fo61_0 R R)) (l_ste (K := kT61) (fo := 0) (v := (iv k18)) (f := (fun x : Access => (⟨k18, x.Offset, x.Steps⟩ : Access))) 0 i19 R R sz3 ?_ R R R R hg21.1 hg21.2 ?_))
 exact SetL.deep sP61 mO61 (fun a x => ((), (), (.slice a.2.2.1 x.Steps.length a.2.2.2))) R (fun _ _ => R) (fun _ _ => R)
 refine lN (ow kT61 61 (.slice (ad g22 o23) a1.length D2) (a17.set i19.toNat (⟨k18, (ix a17 i19).Offset, (ix a17 i19).Steps⟩ : Access)) :: V) ?_
 refine l_nil ?_
 obtain ⟨l24, hl25, hr⟩ := bd hr
 replace hl25 := Option.some.inj hl25
 refine qM (ow kT61 61 (.slice (ad g22 o23) a1.length D2) l24 :: V) (fun w s => by rw [← hl25]; exact s) ?_
 refine q_next (c_seq (c_region (lI R (lO (vAd R R) (lI R (l_nil (q_next (c_seq (c_region (lS R (lI R (lI R (lO (vIa sl59 sz61 R R hg21) (lO (vz (.pointer (some ⟨g22, o23 + i19.toNat * 3 + 1, none⟩)) (v_fa fo61_1 R R)) (l_ste (K := kT61) (fo := 1) (v := (iv (w64 (k18 + (1 : Int))))) (f := (fun x : Access => (⟨x.Buffer, (w64 (k18 + (1 : Int))), x.Steps⟩ : Access))) 0 i19 R R sz3 ?_ R R R R hg21.1 hg21.2 ?_)))))))))))))))
 exact SetL.deep sP61 mO61 (fun a x => ((), (), (.slice a.2.2.1 x.Steps.length a.2.2.2))) R (fun _ _ => R) (fun _ _ => R)
 refine lN (ow kT61 61 (.slice (ad g22 o23) a1.length D2) (l24.set i19.toNat (⟨(ix l24 i19).Buffer, (w64 (k18 + (1 : Int))), (ix l24 i19).Steps⟩ : Access)) :: V) ?_
 refine l_nil ?_
 obtain ⟨l26, hl27, hr⟩ := bd hr
 replace hl27 := Option.some.inj hl27
 refine qM (ow kT61 61 (.slice (ad g22 o23) a1.length D2) l26 :: V) (fun w s => by rw [← hl27]; exact s) ?_
 refine q_next (c_seq (c_region (lI R (lO (vAd R R) (lI R (l_nil (q_next ?_)))))))
 obtain ⟨r29, hx30, hr⟩ := bd hr
 refine c_region (lS R (lI R (lO (vIa sl59 sz61 R R hg21) (lO (vz (.pointer (some ⟨g22, o23 + i19.toNat * 3 + 2, none⟩)) (v_fa fo61_2 R R)) (t_focus (K := kT61) sP61 0 i19 R hg21.1 hg21.2 ?_)))))
 rintro ⟨-, -, ⟨A28, D28⟩⟩
 refine lN (hol kT61 61 (.slice (ad g22 o23) a1.length D2) l26 i19.toNat [(iv (ix l26 i19).Buffer), (iv (ix l26 i19).Offset), (sc A28 ((ix l26 i19).Steps) D28)] :: OO kT3 3 A28 D28 ((ix l26 i19).Steps) :: V) ?_
 refine lO (v_holf (fo := 2) 0 ag22 R R R) (lI R (lM (ow _ _ _ _ :: hol _ _ _ _ _ _ :: V) (fun w s => (s.e 2 [1, 0])) ?_))
 refine lC 1 cb45 R (Zf_ok hx30) R ?_
 rintro _
 refine lN (ow kT3 3 (.slice A28 ((ix l26 i19).Steps).length D28) r29.2 :: _ :: V) ?_
 refine lI R (l_nil (qM (ow kT61 61 (.slice (ad g22 o23) a1.length D2) (l26.set i19.toNat (⟨(ix l26 i19).Buffer, (ix l26 i19).Offset, r29.2⟩ : Access)) :: V) (fun w s => St.unfocus (E := [ow kT3 3 (.slice A28 ((ix l26 i19).Steps).length D28) r29.2]) (⟨(ix l26 i19).Buffer, (ix l26 i19).Offset, r29.2⟩ : Access) (s.e 2 [1, 0]) ?_) ?_))
 exact fun I h s => (mO61).put I h ((), (), (sc A28 ((ix l26 i19).Steps) D28)) (⟨(ix l26 i19).Buffer, (ix l26 i19).Offset, r29.2⟩ : Access) s
 obtain ⟨l31, hl32, hr⟩ := bd hr
 replace hl32 := Option.some.inj hl32
 refine qM (ow kT61 61 (.slice (ad g22 o23) a1.length D2) l31 :: V) (fun w s => by rw [← hl32]; exact s) ?_
 refine q_blockn (q_next (c_region (lI R (lO (vAd R R) (lI R (l_nil ?_))))))
 obtain rfl := so hr
 exact qA () (fun w s => s)
 refine c_false R hb20 (c_exit (q_exit ?_))
 obtain rfl := so hr
 obtain rfl := he1 _ R
 have hr := hk1
 refine q_exit (q_block ?_)
 exact qI ((k18, a17), ()) hr (fun w s => s)
 rintro ⟨⟨k36, p37⟩, _⟩ σ1 hr
 replace hr : Zv_J1 k36 p37 = some r := hr
 unfold Zv_J1 at hr
 refine c_seq (c_region (lI R (lI R (l_nil (q_next (c_ret ?_))))))
 obtain rfl := so hr
 exact qF () (fun w s => s)
theorem Zy_ok  {a1 : (List Calc)} {k3 : Int} {r : Int × (List Calc)} (hr : Zy a1 k3 = some r) :
 FnOk Tryz.prog 115 [(.slice A2 N2 D2), (iv k3)] [ow kT101 101 (.slice A2 N2 D2) a1] (fun (h : Unit) => ((iv r.1), [ow kT101 101 (.slice A2 N2 D2) r.2])) := by
 unfold Zy at hr
 refine fn_ok Tryz.func115 R 34 R R fun C V => ?_
 refine cN (_ :: V) ?_
 refine cL 0 sees_ow ?_
 rintro rfl
 refine c_seq (c_region (lI R (l_nil (q_next (c_seq (c_cut (A := (Int × (List Calc)) × (Unit)) (fun a => Zy_J1 a.1.1 a.1.2 = some r) (fun a => [(1, (iv a.1.1))]) (fun a => ow kT101 101 (.slice A2 a1.length D2) a.1.2 :: V) ?_ ?_))))))
 refine c_seq (c_region (lI R (l_nil (q_next (c_block ?_)))))
 obtain ⟨e1, hl1, hk1⟩ := bd hr
 refine c_loop (A := Unit) hl1 (fun s a => [(0, (sc A2 a1 D2)), (1, (iv s.2.1)), (5, (iv s.2.2))]) (fun s a => ow kT101 101 (.slice A2 a1.length D2) s.1 :: V) () (aS R) (fun w s => s) ?_
 rintro ⟨a14, k15, i16⟩ _ σ1 out1 hr he1
 replace hr : Zy_L1 a1 a14 k15 i16 = some out1 := hr
 unfold Zy_L1 at hr
 refine c_seq (c_seq (c_region (lI R (lS R (lO (v_len sl62 R) (lO (vLt R R) (l_nil (q_next ?_))))))))
 rcases bif_ hr with ⟨hb17, hr⟩ | ⟨hb17, hr⟩
 refine c_true R hb17 (c_skip (q_next (c_seq (c_block (c_seq ?_)))))
 obtain ⟨hg18, hr⟩ := gd hr
 refine c_region (lS R (lI R (lI R (t_some 0 sees_ow (show 0 < a1.length by have := hg18; omega) (fun g19 o20 ha => ?_)))))
 subst ha
 refine lO (vIa sl62 sz101 R R hg18) (lO (vz (.pointer (some ⟨g19, o20 + i16.toNat * 3, none⟩)) (v_fa fo101_0 R R)) (l_ste (K := kT101) (fo := 0) (v := (iv k15)) (f := (fun x : Calc => (⟨k15, x.A, x.B⟩ : Calc))) 0 i16 R R sz3 ?_ R R R R hg18.1 hg18.2 ?_))
 exact SetL.flat sP101 mO101 ((), (), ()) R (fun _ _ => R) (fun _ => R) (fun _ _ => R)
 refine lN (ow kT101 101 (.slice (ad g19 o20) a1.length D2) (a14.set i16.toNat (⟨k15, (ix a14 i16).A, (ix a14 i16).B⟩ : Calc)) :: V) ?_
 refine l_nil ?_
 obtain ⟨l21, hl22, hr⟩ := bd hr
 replace hl22 := Option.some.inj hl22
 refine qM (ow kT101 101 (.slice (ad g19 o20) a1.length D2) l21 :: V) (fun w s => by rw [← hl22]; exact s) ?_
 refine q_next (c_seq (c_region (lI R (lO (vAd R R) (lI R (l_nil (q_next (c_seq (c_region (lS R (lI R (lI R (lO (vIa sl62 sz101 R R hg18) (lO (vz (.pointer (some ⟨g19, o20 + i16.toNat * 3 + 1, none⟩)) (v_fa fo101_1 R R)) (l_ste (K := kT101) (fo := 1) (v := (iv (w64 (k15 + (1 : Int))))) (f := (fun x : Calc => (⟨x.Op, (w64 (k15 + (1 : Int))), x.B⟩ : Calc))) 0 i16 R R sz3 ?_ R R R R hg18.1 hg18.2 ?_)))))))))))))))
 exact SetL.flat sP101 mO101 ((), (), ()) R (fun _ _ => R) (fun _ => R) (fun _ _ => R)
 refine lN (ow kT101 101 (.slice (ad g19 o20) a1.length D2) (l21.set i16.toNat (⟨(ix l21 i16).Op, (w64 (k15 + (1 : Int))), (ix l21 i16).B⟩ : Calc)) :: V) ?_
 refine l_nil ?_
 obtain ⟨l23, hl24, hr⟩ := bd hr
 replace hl24 := Option.some.inj hl24
 refine qM (ow kT101 101 (.slice (ad g19 o20) a1.length D2) l23 :: V) (fun w s => by rw [← hl24]; exact s) ?_
 refine q_next (c_seq (c_region (lI R (lO (vAd R R) (lI R (l_nil (q_next (c_seq (c_region (lS R (lI R (lI R (lO (vIa sl62 sz101 R R hg18) (lO (vz (.pointer (some ⟨g19, o20 + i16.toNat * 3 + 2, none⟩)) (v_fa fo101_2 R R)) (l_ste (K := kT101) (fo := 2) (v := (iv (w64 ((w64 (k15 + (1 : Int))) + (1 : Int))))) (f := (fun x : Calc => (⟨x.Op, x.A, (w64 ((w64 (k15 + (1 : Int))) + (1 : Int)))⟩ : Calc))) 0 i16 R R sz3 ?_ R R R R hg18.1 hg18.2 ?_)))))))))))))))
 exact SetL.flat sP101 mO101 ((), (), ()) R (fun _ _ => R) (fun _ => R) (fun _ _ => R)
 refine lN (ow kT101 101 (.slice (ad g19 o20) a1.length D2) (l23.set i16.toNat (⟨(ix l23 i16).Op, (ix l23 i16).A, (w64 ((w64 (k15 + (1 : Int))) + (1 : Int)))⟩ : Calc)) :: V) ?_
 refine l_nil ?_
 obtain ⟨l25, hl26, hr⟩ := bd hr
 replace hl26 := Option.some.inj hl26
 refine qM (ow kT101 101 (.slice (ad g19 o20) a1.length D2) l25 :: V) (fun w s => by rw [← hl26]; exact s) ?_
 refine q_next (c_region (lI R (lO (vAd R R) (lI R (l_nil (q_blockn (q_next (c_region (lI R (lO (vAd R R) (lI R (l_nil ?_))))))))))))
 obtain rfl := so hr
 exact qA () (fun w s => s)
 refine c_false R hb17 (c_exit (q_exit ?_))
 obtain rfl := so hr
 obtain rfl := he1 _ R
 have hr := hk1
 refine q_exit (q_block ?_)
 exact qI ((k15, a14), ()) hr (fun w s => s)
 rintro ⟨⟨k30, p31⟩, _⟩ σ1 hr
 replace hr : Zy_J1 k30 p31 = some r := hr
 unfold Zy_J1 at hr
 refine c_seq (c_region (lI R (lI R (l_nil (q_next (c_ret ?_))))))
 obtain rfl := so hr
 exact qF () (fun w s => s)
theorem Zu_ok  {a1 : (List Kernel)} {k3 : Int} {r : Int × (List Kernel)} (hr : Zu a1 k3 = some r) :
 FnOk Tryz.prog 63 [(.slice A2 N2 D2), (iv k3)] [ow kT64 64 (.slice A2 N2 D2) a1] (fun (h : Unit) => ((iv r.1), [ow kT64 64 (.slice A2 N2 D2) r.2])) := by
 unfold Zu at hr
 refine fn_ok Tryz.func63 R 67 R R fun C V => ?_
 refine cN (_ :: V) ?_
 refine cL 0 sees_ow ?_
 rintro rfl
 refine c_seq (c_region (lI R (l_nil (q_next (c_seq (c_cut (A := (Int × (List Kernel)) × (Unit)) (fun a => Zu_J1 a.1.1 a.1.2 = some r) (fun a => [(1, (iv a.1.1))]) (fun a => ow kT64 64 (.slice A2 a1.length D2) a.1.2 :: V) ?_ ?_))))))
 refine c_seq (c_region (lI R (l_nil (q_next (c_block ?_)))))
 obtain ⟨e1, hl1, hk1⟩ := bd hr
 refine c_loop (A := Unit) hl1 (fun s a => [(0, (sc A2 a1 D2)), (1, (iv s.2.1)), (5, (iv s.2.2))]) (fun s a => ow kT64 64 (.slice A2 a1.length D2) s.1 :: V) () (aS R) (fun w s => s) ?_
 rintro ⟨a46, k47, i48⟩ _ σ1 out1 hr he1
 replace hr : Zu_L1 a1 a46 k47 i48 = some out1 := hr
 unfold Zu_L1 at hr
 refine c_seq (c_seq (c_region (lI R (lS R (lO (v_len sl34 R) (lO (vLt R R) (l_nil (q_next ?_))))))))
 rcases bif_ hr with ⟨hb49, hr⟩ | ⟨hb49, hr⟩
 refine c_true R hb49 (c_skip (q_next (c_seq (c_block (c_seq ?_)))))
 obtain ⟨hg50, hr⟩ := gd hr
 obtain ⟨r57, hx58, hr⟩ := bd hr
 refine c_region (lS R (lI R (t_some 0 sees_ow (show 0 < a1.length by have := hg50; omega) (fun g51 o52 ha => ?_))))
 subst ha
 refine lO (vIa sl34 sz64 R R hg50) (lO (vz (.pointer (some ⟨g51, o52 + i48.toNat * 7, none⟩)) (v_fa fo64_0 R R)) (t_focus (K := kT64) sP64 0 i48 R hg50.1 hg50.2 ?_))
 rintro ⟨⟨A53, D53⟩, ⟨A54, D54⟩, ⟨-, -, ⟨A55, D55⟩⟩, -, ⟨A56, D56⟩⟩
 refine lN (hol kT64 64 (.slice (ad g51 o52) a1.length D2) a46 i48.toNat [(sc A53 ((ix a46 i48).Loops) D53), (sc A54 ((ix a46 i48).Loads) D54), (iv (ix a46 i48).Store.Buffer), (iv (ix a46 i48).Store.Offset), (sc A55 ((ix a46 i48).Store.Steps) D55), (.bool (ix a46 i48).Sum), (sc A56 ((ix a46 i48).Code) D56)] :: OO kT3 3 A53 D53 ((ix a46 i48).Loops) :: OO kT61 61 A54 D54 ((ix a46 i48).Loads) :: OO kT3 3 A55 D55 ((ix a46 i48).Store.Steps) :: OO kT101 101 A56 D56 ((ix a46 i48).Code) :: V) ?_
 refine lO (v_holf (fo := 0) 0 ag22 R R R) (lI R (lM (ow _ _ _ _ :: hol _ _ _ _ _ _ :: ow _ _ _ _ :: ow _ _ _ _ :: ow _ _ _ _ :: V) (fun w s => (s.e 5 [1, 0, 2, 3, 4])) ?_))
 refine lC 1 cb45 R (Zf_ok hx58) R ?_
 rintro _
 refine lN (ow kT3 3 (.slice A53 ((ix a46 i48).Loops).length D53) r57.2 :: _ :: _ :: _ :: _ :: V) ?_
 refine lI R (l_nil (qM (ow kT64 64 (.slice (ad g51 o52) a1.length D2) (a46.set i48.toNat (⟨r57.2, (ix a46 i48).Loads, (ix a46 i48).Store, (ix a46 i48).Sum, (ix a46 i48).Code⟩ : Kernel)) :: V) (fun w s => St.unfocus (E := [ow kT3 3 (.slice A53 ((ix a46 i48).Loops).length D53) r57.2, OO kT61 61 A54 D54 ((ix a46 i48).Loads), OO kT3 3 A55 D55 ((ix a46 i48).Store.Steps), OO kT101 101 A56 D56 ((ix a46 i48).Code)]) (⟨r57.2, (ix a46 i48).Loads, (ix a46 i48).Store, (ix a46 i48).Sum, (ix a46 i48).Code⟩ : Kernel) (s.e 5 [1, 0, 2, 3, 4]) ?_) ?_))
 exact fun I h s => (mO64).put I h ((sc A53 ((ix a46 i48).Loops) D53), (sc A54 ((ix a46 i48).Loads) D54), ((), (), (sc A55 ((ix a46 i48).Store.Steps) D55)), (), (sc A56 ((ix a46 i48).Code) D56)) (⟨r57.2, (ix a46 i48).Loads, (ix a46 i48).Store, (ix a46 i48).Sum, (ix a46 i48).Code⟩ : Kernel) s
 obtain ⟨l59, hl60, hr⟩ := bd hr
 replace hl60 := Option.some.inj hl60
 refine qM (ow kT64 64 (.slice (ad g51 o52) a1.length D2) l59 :: V) (fun w s => by rw [← hl60]; exact s) ?_
 refine q_next (c_seq ?_)
 obtain ⟨r65, hx66, hr⟩ := bd hr
 refine c_region (lS R (lI R (lO (vIa sl34 sz64 R R hg50) (lO (vz (.pointer (some ⟨g51, o52 + i48.toNat * 7 + 1, none⟩)) (v_fa fo64_1 R R)) (t_focus (K := kT64) sP64 0 i48 R hg50.1 hg50.2 ?_)))))
 rintro ⟨⟨A61, D61⟩, ⟨A62, D62⟩, ⟨-, -, ⟨A63, D63⟩⟩, -, ⟨A64, D64⟩⟩
 refine lN (hol kT64 64 (.slice (ad g51 o52) a1.length D2) l59 i48.toNat [(sc A61 ((ix l59 i48).Loops) D61), (sc A62 ((ix l59 i48).Loads) D62), (iv (ix l59 i48).Store.Buffer), (iv (ix l59 i48).Store.Offset), (sc A63 ((ix l59 i48).Store.Steps) D63), (.bool (ix l59 i48).Sum), (sc A64 ((ix l59 i48).Code) D64)] :: OO kT3 3 A61 D61 ((ix l59 i48).Loops) :: OO kT61 61 A62 D62 ((ix l59 i48).Loads) :: OO kT3 3 A63 D63 ((ix l59 i48).Store.Steps) :: OO kT101 101 A64 D64 ((ix l59 i48).Code) :: V) ?_
 refine lO (v_holf (fo := 1) 0 ag59 R R R) (lI R (lM (ow _ _ _ _ :: hol _ _ _ _ _ _ :: ow _ _ _ _ :: ow _ _ _ _ :: ow _ _ _ _ :: V) (fun w s => (s.e 5 [2, 0, 1, 3, 4])) ?_))
 refine lC 1 cb114 R (Zv_ok hx66) R ?_
 rintro _
 refine lN (ow kT61 61 (.slice A62 ((ix l59 i48).Loads).length D62) r65.2 :: _ :: _ :: _ :: _ :: V) ?_
 refine lI R (l_nil (qM (ow kT64 64 (.slice (ad g51 o52) a1.length D2) (l59.set i48.toNat (⟨(ix l59 i48).Loops, r65.2, (ix l59 i48).Store, (ix l59 i48).Sum, (ix l59 i48).Code⟩ : Kernel)) :: V) (fun w s => St.unfocus (E := [OO kT3 3 A61 D61 ((ix l59 i48).Loops), ow kT61 61 (.slice A62 ((ix l59 i48).Loads).length D62) r65.2, OO kT3 3 A63 D63 ((ix l59 i48).Store.Steps), OO kT101 101 A64 D64 ((ix l59 i48).Code)]) (⟨(ix l59 i48).Loops, r65.2, (ix l59 i48).Store, (ix l59 i48).Sum, (ix l59 i48).Code⟩ : Kernel) (s.e 5 [1, 2, 0, 3, 4]) ?_) ?_))
 exact fun I h s => (mO64).put I h ((sc A61 ((ix l59 i48).Loops) D61), (sc A62 ((ix l59 i48).Loads) D62), ((), (), (sc A63 ((ix l59 i48).Store.Steps) D63)), (), (sc A64 ((ix l59 i48).Code) D64)) (⟨(ix l59 i48).Loops, r65.2, (ix l59 i48).Store, (ix l59 i48).Sum, (ix l59 i48).Code⟩ : Kernel) s
 obtain ⟨l67, hl68, hr⟩ := bd hr
 replace hl68 := Option.some.inj hl68
 refine qM (ow kT64 64 (.slice (ad g51 o52) a1.length D2) l67 :: V) (fun w s => by rw [← hl68]; exact s) ?_
 refine q_next (c_seq (c_region (lS R (lI R (lI R (lO (vIa sl34 sz64 R R hg50) (lO (vz (.pointer (some ⟨g51, o52 + i48.toNat * 7 + 2, none⟩)) (v_fa fo64_2 R R)) (lO (vz (.pointer (some ⟨g51, o52 + i48.toNat * 7 + 2, none⟩)) (v_fa fo61_0 R R)) (l_ste (K := kT64) (fo := 2) (v := (iv r65.1)) (f := (fun x : Kernel => (⟨x.Loops, x.Loads, (⟨r65.1, x.Store.Offset, x.Store.Steps⟩ : Access), x.Sum, x.Code⟩ : Kernel))) 0 i48 R R sz3 ?_ R R R R hg50.1 hg50.2 ?_)))))))))
 exact SetL.deep sP64 mO64 (fun a x => ((.slice a.1.1 x.Loops.length a.1.2), (.slice a.2.1.1 x.Loads.length a.2.1.2), ((), (), (.slice a.2.2.1.2.2.1 x.Store.Steps.length a.2.2.1.2.2.2)), (), (.slice a.2.2.2.2.1 x.Code.length a.2.2.2.2.2))) R (fun _ _ => R) (fun _ _ => R)
 refine lN (ow kT64 64 (.slice (ad g51 o52) a1.length D2) (l67.set i48.toNat (⟨(ix l67 i48).Loops, (ix l67 i48).Loads, (⟨r65.1, (ix l67 i48).Store.Offset, (ix l67 i48).Store.Steps⟩ : Access), (ix l67 i48).Sum, (ix l67 i48).Code⟩ : Kernel)) :: V) ?_
 refine l_nil ?_
 obtain ⟨l69, hl70, hr⟩ := bd hr
 replace hl70 := Option.some.inj hl70
 refine qM (ow kT64 64 (.slice (ad g51 o52) a1.length D2) l69 :: V) (fun w s => by rw [← hl70]; exact s) ?_
 refine q_next (c_seq (c_region (lI R (lO (vAd R R) (lI R (l_nil (q_next (c_seq (c_region (lS R (lI R (lI R (lO (vIa sl34 sz64 R R hg50) (lO (vz (.pointer (some ⟨g51, o52 + i48.toNat * 7 + 2, none⟩)) (v_fa fo64_2 R R)) (lO (vz (.pointer (some ⟨g51, o52 + i48.toNat * 7 + 3, none⟩)) (v_fa fo61_1 R R)) (l_ste (K := kT64) (fo := 3) (v := (iv (w64 (r65.1 + (1 : Int))))) (f := (fun x : Kernel => (⟨x.Loops, x.Loads, (⟨x.Store.Buffer, (w64 (r65.1 + (1 : Int))), x.Store.Steps⟩ : Access), x.Sum, x.Code⟩ : Kernel))) 0 i48 R R sz3 ?_ R R R R hg50.1 hg50.2 ?_))))))))))))))))
 exact SetL.deep sP64 mO64 (fun a x => ((.slice a.1.1 x.Loops.length a.1.2), (.slice a.2.1.1 x.Loads.length a.2.1.2), ((), (), (.slice a.2.2.1.2.2.1 x.Store.Steps.length a.2.2.1.2.2.2)), (), (.slice a.2.2.2.2.1 x.Code.length a.2.2.2.2.2))) R (fun _ _ => R) (fun _ _ => R)
 refine lN (ow kT64 64 (.slice (ad g51 o52) a1.length D2) (l69.set i48.toNat (⟨(ix l69 i48).Loops, (ix l69 i48).Loads, (⟨(ix l69 i48).Store.Buffer, (w64 (r65.1 + (1 : Int))), (ix l69 i48).Store.Steps⟩ : Access), (ix l69 i48).Sum, (ix l69 i48).Code⟩ : Kernel)) :: V) ?_
 refine l_nil ?_
 obtain ⟨l71, hl72, hr⟩ := bd hr
 replace hl72 := Option.some.inj hl72
 refine qM (ow kT64 64 (.slice (ad g51 o52) a1.length D2) l71 :: V) (fun w s => by rw [← hl72]; exact s) ?_
 refine q_next (c_seq (c_region (lI R (lO (vAd R R) (lI R (l_nil (q_next (c_seq ?_))))))))
 obtain ⟨r77, hx78, hr⟩ := bd hr
 refine c_region (lS R (lI R (lO (vIa sl34 sz64 R R hg50) (lO (vz (.pointer (some ⟨g51, o52 + i48.toNat * 7 + 2, none⟩)) (v_fa fo64_2 R R)) (lO (vz (.pointer (some ⟨g51, o52 + i48.toNat * 7 + 4, none⟩)) (v_fa fo61_2 R R)) (t_focus (K := kT64) sP64 0 i48 R hg50.1 hg50.2 ?_))))))
 rintro ⟨⟨A73, D73⟩, ⟨A74, D74⟩, ⟨-, -, ⟨A75, D75⟩⟩, -, ⟨A76, D76⟩⟩
 refine lN (hol kT64 64 (.slice (ad g51 o52) a1.length D2) l71 i48.toNat [(sc A73 ((ix l71 i48).Loops) D73), (sc A74 ((ix l71 i48).Loads) D74), (iv (ix l71 i48).Store.Buffer), (iv (ix l71 i48).Store.Offset), (sc A75 ((ix l71 i48).Store.Steps) D75), (.bool (ix l71 i48).Sum), (sc A76 ((ix l71 i48).Code) D76)] :: OO kT3 3 A73 D73 ((ix l71 i48).Loops) :: OO kT61 61 A74 D74 ((ix l71 i48).Loads) :: OO kT3 3 A75 D75 ((ix l71 i48).Store.Steps) :: OO kT101 101 A76 D76 ((ix l71 i48).Code) :: V) ?_
 refine lO (v_holf (fo := 4) 0 ag22 R R R) (lI R (lM (ow _ _ _ _ :: hol _ _ _ _ _ _ :: ow _ _ _ _ :: ow _ _ _ _ :: ow _ _ _ _ :: V) (fun w s => (s.e 5 [3, 0, 1, 2, 4])) ?_))
 refine lC 1 cb45 R (Zf_ok hx78) R ?_
 rintro _
 refine lN (ow kT3 3 (.slice A75 ((ix l71 i48).Store.Steps).length D75) r77.2 :: _ :: _ :: _ :: _ :: V) ?_
 refine lI R (l_nil (qM (ow kT64 64 (.slice (ad g51 o52) a1.length D2) (l71.set i48.toNat (⟨(ix l71 i48).Loops, (ix l71 i48).Loads, (⟨(ix l71 i48).Store.Buffer, (ix l71 i48).Store.Offset, r77.2⟩ : Access), (ix l71 i48).Sum, (ix l71 i48).Code⟩ : Kernel)) :: V) (fun w s => St.unfocus (E := [OO kT3 3 A73 D73 ((ix l71 i48).Loops), OO kT61 61 A74 D74 ((ix l71 i48).Loads), ow kT3 3 (.slice A75 ((ix l71 i48).Store.Steps).length D75) r77.2, OO kT101 101 A76 D76 ((ix l71 i48).Code)]) (⟨(ix l71 i48).Loops, (ix l71 i48).Loads, (⟨(ix l71 i48).Store.Buffer, (ix l71 i48).Store.Offset, r77.2⟩ : Access), (ix l71 i48).Sum, (ix l71 i48).Code⟩ : Kernel) (s.e 5 [1, 2, 3, 0, 4]) ?_) ?_))
 exact fun I h s => (mO64).put I h ((sc A73 ((ix l71 i48).Loops) D73), (sc A74 ((ix l71 i48).Loads) D74), ((), (), (sc A75 ((ix l71 i48).Store.Steps) D75)), (), (sc A76 ((ix l71 i48).Code) D76)) (⟨(ix l71 i48).Loops, (ix l71 i48).Loads, (⟨(ix l71 i48).Store.Buffer, (ix l71 i48).Store.Offset, r77.2⟩ : Access), (ix l71 i48).Sum, (ix l71 i48).Code⟩ : Kernel) s
 obtain ⟨l79, hl80, hr⟩ := bd hr
 replace hl80 := Option.some.inj hl80
 refine qM (ow kT64 64 (.slice (ad g51 o52) a1.length D2) l79 :: V) (fun w s => by rw [← hl80]; exact s) ?_
 refine q_next (c_seq (c_region (lS R (lI R (lI R (lO (v_rem R R (by decide)) (lO (vEq R R) (lO (vIa sl34 sz64 R R hg50) (lO (vz (.pointer (some ⟨g51, o52 + i48.toNat * 7 + 5, none⟩)) (v_fa fo64_3 R R)) (l_ste (K := kT64) (fo := 5) (v := (.bool ((r77.1.tmod (3 : Int)) == (0 : Int)))) (f := (fun x : Kernel => (⟨x.Loops, x.Loads, x.Store, ((r77.1.tmod (3 : Int)) == (0 : Int)), x.Code⟩ : Kernel))) 0 i48 R R sz4 ?_ R R R R hg50.1 hg50.2 ?_))))))))))
 exact SetL.deep sP64 mO64 (fun a x => ((.slice a.1.1 x.Loops.length a.1.2), (.slice a.2.1.1 x.Loads.length a.2.1.2), ((), (), (.slice a.2.2.1.2.2.1 x.Store.Steps.length a.2.2.1.2.2.2)), (), (.slice a.2.2.2.2.1 x.Code.length a.2.2.2.2.2))) R (fun _ _ => R) (fun _ _ => R)
 refine lN (ow kT64 64 (.slice (ad g51 o52) a1.length D2) (l79.set i48.toNat (⟨(ix l79 i48).Loops, (ix l79 i48).Loads, (ix l79 i48).Store, ((r77.1.tmod (3 : Int)) == (0 : Int)), (ix l79 i48).Code⟩ : Kernel)) :: V) ?_
 refine l_nil ?_
 obtain ⟨l81, hl82, hr⟩ := bd hr
 replace hl82 := Option.some.inj hl82
 refine qM (ow kT64 64 (.slice (ad g51 o52) a1.length D2) l81 :: V) (fun w s => by rw [← hl82]; exact s) ?_
 refine q_next (c_seq (c_region (lI R (lO (vAd R R) (lI R (l_nil (q_next ?_)))))))
 obtain ⟨r87, hx88, hr⟩ := bd hr
 refine c_region (lS R (lI R (lO (vIa sl34 sz64 R R hg50) (lO (vz (.pointer (some ⟨g51, o52 + i48.toNat * 7 + 6, none⟩)) (v_fa fo64_4 R R)) (t_focus (K := kT64) sP64 0 i48 R hg50.1 hg50.2 ?_)))))
 rintro ⟨⟨A83, D83⟩, ⟨A84, D84⟩, ⟨-, -, ⟨A85, D85⟩⟩, -, ⟨A86, D86⟩⟩
 refine lN (hol kT64 64 (.slice (ad g51 o52) a1.length D2) l81 i48.toNat [(sc A83 ((ix l81 i48).Loops) D83), (sc A84 ((ix l81 i48).Loads) D84), (iv (ix l81 i48).Store.Buffer), (iv (ix l81 i48).Store.Offset), (sc A85 ((ix l81 i48).Store.Steps) D85), (.bool (ix l81 i48).Sum), (sc A86 ((ix l81 i48).Code) D86)] :: OO kT3 3 A83 D83 ((ix l81 i48).Loops) :: OO kT61 61 A84 D84 ((ix l81 i48).Loads) :: OO kT3 3 A85 D85 ((ix l81 i48).Store.Steps) :: OO kT101 101 A86 D86 ((ix l81 i48).Code) :: V) ?_
 refine lO (v_holf (fo := 6) 0 ag62 R R R) (lI R (lM (ow _ _ _ _ :: hol _ _ _ _ _ _ :: ow _ _ _ _ :: ow _ _ _ _ :: ow _ _ _ _ :: V) (fun w s => (s.f 5 [4, 1, 0, 4])) ?_))
 refine lC 1 cb115 R (Zy_ok hx88) R ?_
 rintro _
 refine lN (ow kT101 101 (.slice A86 ((ix l81 i48).Code).length D86) r87.2 :: _ :: _ :: _ :: _ :: V) ?_
 refine lI R (l_nil (qM (ow kT64 64 (.slice (ad g51 o52) a1.length D2) (l81.set i48.toNat (⟨(ix l81 i48).Loops, (ix l81 i48).Loads, (ix l81 i48).Store, (ix l81 i48).Sum, r87.2⟩ : Kernel)) :: V) (fun w s => St.unfocus (E := [OO kT3 3 A83 D83 ((ix l81 i48).Loops), OO kT61 61 A84 D84 ((ix l81 i48).Loads), OO kT3 3 A85 D85 ((ix l81 i48).Store.Steps), ow kT101 101 (.slice A86 ((ix l81 i48).Code).length D86) r87.2]) (⟨(ix l81 i48).Loops, (ix l81 i48).Loads, (ix l81 i48).Store, (ix l81 i48).Sum, r87.2⟩ : Kernel) (s.f 5 [1, 4, 0, 1]) ?_) ?_))
 exact fun I h s => (mO64).put I h ((sc A83 ((ix l81 i48).Loops) D83), (sc A84 ((ix l81 i48).Loads) D84), ((), (), (sc A85 ((ix l81 i48).Store.Steps) D85)), (), (sc A86 ((ix l81 i48).Code) D86)) (⟨(ix l81 i48).Loops, (ix l81 i48).Loads, (ix l81 i48).Store, (ix l81 i48).Sum, r87.2⟩ : Kernel) s
 obtain ⟨l89, hl90, hr⟩ := bd hr
 replace hl90 := Option.some.inj hl90
 refine qM (ow kT64 64 (.slice (ad g51 o52) a1.length D2) l89 :: V) (fun w s => by rw [← hl90]; exact s) ?_
 refine q_blockn (q_next (c_region (lI R (lO (vAd R R) (lI R (l_nil ?_))))))
 obtain rfl := so hr
 exact qA () (fun w s => s)
 refine c_false R hb49 (c_exit (q_exit ?_))
 obtain rfl := so hr
 obtain rfl := he1 _ R
 have hr := hk1
 refine q_exit (q_block ?_)
 exact qI ((k47, a46), ()) hr (fun w s => s)
 rintro ⟨⟨k94, p95⟩, _⟩ σ1 hr
 replace hr : Zu_J1 k94 p95 = some r := hr
 unfold Zu_J1 at hr
 refine c_seq (c_region (lI R (lI R (l_nil (q_next (c_ret ?_))))))
 obtain rfl := so hr
 exact qF () (fun w s => s)
theorem Z18_ok  {a1 : Nest} {k7 : Int} {r : Int × (List Int) × (List Int) × (List Fix) × (List Kernel) × (List Int)} (hr : Z18 a1 k7 = some r) :
 FnOk Tryz.prog 21 [(.agg [(.slice A2 N2 D2), (.slice A3 N3 D3), (.slice A4 N4 D4), (.slice A5 N5 D5), (.slice A6 N6 D6)].toArray), (iv k7)] [ow kT3 3 (.slice A2 N2 D2) a1.Sizes, ow kT3 3 (.slice A3 N3 D3) a1.Ins, ow kT57 57 (.slice A4 N4 D4) a1.Fixed, ow kT64 64 (.slice A5 N5 D5) a1.Kernels, ow kT3 3 (.slice A6 N6 D6) a1.Outs] (fun (h : Unit) => ((iv r.1), [ow kT3 3 (.slice A2 N2 D2) r.2.1, ow kT3 3 (.slice A3 N3 D3) r.2.2.1, ow kT57 57 (.slice A4 N4 D4) r.2.2.2.1, ow kT64 64 (.slice A5 N5 D5) r.2.2.2.2.1, ow kT3 3 (.slice A6 N6 D6) r.2.2.2.2.2])) := by
 unfold Z18 at hr
 refine fn_ok Tryz.func21 R 26 R R fun C V => ?_
 refine cN (_ :: _ :: _ :: _ :: _ :: V) ?_
 refine cL 0 sees_ow ?_
 rintro rfl
 refine cL 1 sees_ow ?_
 rintro rfl
 refine cL 2 sees_ow ?_
 rintro rfl
 refine cL 3 sees_ow ?_
 rintro rfl
 refine cL 4 sees_ow ?_
 rintro rfl
 refine c_seq (c_region (lBx R (fun b8 => (lI R (l_nil (qM (ow _ _ _ _ :: ow _ _ _ _ :: ow _ _ _ _ :: ow _ _ _ _ :: ow _ _ _ _ :: bxl _ _ _ :: V) (fun w s => (s.f 6 [1, 5, 0, 1])) ?_))))))
 let W1 : List HP := bxl b8 [(sc A2 a1.Sizes D2), (sc A3 a1.Ins D3), (sc A4 a1.Fixed D4), (sc A5 a1.Kernels D5), (sc A6 a1.Outs D6)] 36 :: V
 refine qN (_ :: _ :: _ :: _ :: _ :: W1) ?_
 refine q_next (c_seq ?_)
 obtain ⟨r9, hx10, hr⟩ := bd hr
 refine c_region (lO (vFa 0 fo36_0 R) (lO (vLd 5 ag22 R R R) (lI R (lC 1 cb45 R (Zf_ok hx10) R ?_))))
 rintro _
 refine lN (ow kT3 3 (.slice A2 a1.Sizes.length D2) r9.2 :: _ :: _ :: _ :: _ :: W1) ?_
 refine lI R (l_nil (q_next (c_seq ?_)))
 obtain ⟨r11, hx12, hr⟩ := bd hr
 refine c_region (lO (vFa 1 fo36_1 R) (lO (vLd 5 ag22 R R R) (lI R (lM (ow _ _ _ _ :: ow _ _ _ _ :: ow _ _ _ _ :: ow _ _ _ _ :: ow _ _ _ _ :: W1) (fun w s => (s.e 5 [1, 0, 2, 3, 4])) ?_))))
 refine lC 1 cb45 R (Zf_ok hx12) R ?_
 rintro _
 refine lN (ow kT3 3 (.slice A3 a1.Ins.length D3) r11.2 :: _ :: _ :: _ :: _ :: W1) ?_
 refine lI R (l_nil (q_next (c_seq ?_)))
 obtain ⟨r13, hx14, hr⟩ := bd hr
 refine c_region (lO (vFa 2 fo36_2 R) (lO (vLd 5 ag33 R R R) (lI R (lM (ow _ _ _ _ :: ow _ _ _ _ :: ow _ _ _ _ :: ow _ _ _ _ :: ow _ _ _ _ :: W1) (fun w s => (s.e 5 [2, 0, 1, 3, 4])) ?_))))
 refine lC 1 cb62 R (Zw_ok hx14) R ?_
 rintro _
 refine lN (ow kT57 57 (.slice A4 a1.Fixed.length D4) r13.2 :: _ :: _ :: _ :: _ :: W1) ?_
 refine lI R (l_nil (q_next (c_seq ?_)))
 obtain ⟨r15, hx16, hr⟩ := bd hr
 refine c_region (lO (vFa 3 fo36_3 R) (lO (vLd 5 ag34 R R R) (lI R (lM (ow _ _ _ _ :: ow _ _ _ _ :: ow _ _ _ _ :: ow _ _ _ _ :: ow _ _ _ _ :: W1) (fun w s => (s.e 5 [3, 0, 1, 2, 4])) ?_))))
 refine lC 1 cb63 R (Zu_ok hx16) R ?_
 rintro _
 refine lN (ow kT64 64 (.slice A5 a1.Kernels.length D5) r15.2 :: _ :: _ :: _ :: _ :: W1) ?_
 refine lI R (l_nil (q_next (c_seq ?_)))
 obtain ⟨r17, hx18, hr⟩ := bd hr
 refine c_region (lO (vFa 4 fo36_4 R) (lO (vLd 5 ag22 R R R) (lI R (lM (ow _ _ _ _ :: ow _ _ _ _ :: ow _ _ _ _ :: ow _ _ _ _ :: ow _ _ _ _ :: W1) (fun w s => (s.f 5 [4, 1, 0, 4])) ?_))))
 refine lC 1 cb45 R (Zf_ok hx18) R ?_
 rintro _
 refine lN (ow kT3 3 (.slice A6 a1.Outs.length D6) r17.2 :: _ :: _ :: _ :: _ :: W1) ?_
 refine lI R (l_nil (q_next (c_seq (c_region (lI R (lI R (l_nil (q_next (c_ret ?_)))))))))
 obtain rfl := so hr
 exact qF () (fun w s => (s.e 6 [4, 3, 2, 1, 0]))
theorem Z1x_ok  {a1 : Plan} {k8 : Int} {r : Int × (List Int) × (List Int) × (List Fix) × (List Kernel) × (List Int) × (List Int)} (hr : Z1x a1 k8 = some r) :
 FnOk Tryz.prog 13 [(.agg [(.slice A2 N2 D2), (.slice A3 N3 D3), (.slice A4 N4 D4), (.slice A5 N5 D5), (.slice A6 N6 D6), (.slice A7 N7 D7), (iv a1.Arena)].toArray), (iv k8)] [ow kT3 3 (.slice A2 N2 D2) a1.Nest.Sizes, ow kT3 3 (.slice A3 N3 D3) a1.Nest.Ins, ow kT57 57 (.slice A4 N4 D4) a1.Nest.Fixed, ow kT64 64 (.slice A5 N5 D5) a1.Nest.Kernels, ow kT3 3 (.slice A6 N6 D6) a1.Nest.Outs, ow kT3 3 (.slice A7 N7 D7) a1.Offsets] (fun (h : Unit) => ((iv r.1), [ow kT3 3 (.slice A2 N2 D2) r.2.1, ow kT3 3 (.slice A3 N3 D3) r.2.2.1, ow kT57 57 (.slice A4 N4 D4) r.2.2.2.1, ow kT64 64 (.slice A5 N5 D5) r.2.2.2.2.1, ow kT3 3 (.slice A6 N6 D6) r.2.2.2.2.2.1, ow kT3 3 (.slice A7 N7 D7) r.2.2.2.2.2.2])) := by
 unfold Z1x at hr
 refine fn_ok Tryz.func13 R 14 R R fun C V => ?_
 refine cN (_ :: _ :: _ :: _ :: _ :: _ :: V) ?_
 refine cL 0 sees_ow ?_
 rintro rfl
 refine cL 1 sees_ow ?_
 rintro rfl
 refine cL 2 sees_ow ?_
 rintro rfl
 refine cL 3 sees_ow ?_
 rintro rfl
 refine cL 4 sees_ow ?_
 rintro rfl
 refine cL 5 sees_ow ?_
 rintro rfl
 refine c_seq (c_region (lBx R (fun b9 => (lI R (l_nil (qM (ow _ _ _ _ :: ow _ _ _ _ :: ow _ _ _ _ :: ow _ _ _ _ :: ow _ _ _ _ :: ow _ _ _ _ :: bxl _ _ _ :: V) (fun w s => (s.f 7 [1, 6, 0, 1])) ?_))))))
 let W1 : List HP := bxl b9 [(sc A2 a1.Nest.Sizes D2), (sc A3 a1.Nest.Ins D3), (sc A4 a1.Nest.Fixed D4), (sc A5 a1.Nest.Kernels D5), (sc A6 a1.Nest.Outs D6), (sc A7 a1.Offsets D7), (iv a1.Arena)] 38 :: V
 refine qN (_ :: _ :: _ :: _ :: _ :: _ :: W1) ?_
 refine q_next (c_seq ?_)
 obtain ⟨r10, hx11, hr⟩ := bd hr
 refine c_region (lO (vFa 0 fo38_0 R) (lO (vz (.agg [(sc A2 a1.Nest.Sizes D2), (sc A3 a1.Nest.Ins D3), (sc A4 a1.Nest.Fixed D4), (sc A5 a1.Nest.Kernels D5), (sc A6 a1.Nest.Outs D6)].toArray) (v_loadw 6 ag36 sz36 R R R R)) (lI R (lC 5 cb21 R (Z18_ok hx11) R ?_))))
 rintro _
 refine lN (ow kT3 3 (.slice A2 a1.Nest.Sizes.length D2) r10.2.1 :: ow kT3 3 (.slice A3 a1.Nest.Ins.length D3) r10.2.2.1 :: ow kT57 57 (.slice A4 a1.Nest.Fixed.length D4) r10.2.2.2.1 :: ow kT64 64 (.slice A5 a1.Nest.Kernels.length D5) r10.2.2.2.2.1 :: ow kT3 3 (.slice A6 a1.Nest.Outs.length D6) r10.2.2.2.2.2 :: _ :: W1) ?_
 refine lI R (l_nil (q_next (c_seq ?_)))
 obtain ⟨r12, hx13, hr⟩ := bd hr
 refine c_region (lO (vFa 5 fo38_1 R) (lO (vLd 6 ag22 R R R) (lI R (lM (ow _ _ _ _ :: ow _ _ _ _ :: ow _ _ _ _ :: ow _ _ _ _ :: ow _ _ _ _ :: ow _ _ _ _ :: W1) (fun w s => (s.f 6 [5, 1, 0, 5])) ?_))))
 refine lC 1 cb45 R (Zf_ok hx13) R ?_
 rintro _
 refine lN (ow kT3 3 (.slice A7 a1.Offsets.length D7) r12.2 :: _ :: _ :: _ :: _ :: _ :: W1) ?_
 refine lI R (l_nil (q_next (c_seq (c_region (lI R (lI R (l_nil (q_next (c_ret ?_)))))))))
 obtain rfl := so hr
 exact qF () (fun w s => (s.f 7 [1, 5, 0, 1]))
theorem Zh_ok  {a1 : (List Int)} {k3 : Int} {r : Int} (hr : Zh a1 k3 = some r) :
 FnOk Tryz.prog 46 [(.slice A2 N2 D2), (iv k3)] [rds kT3 (.slice A2 N2 D2) a1] (fun (h : Unit) => ((iv r), [])) := by
 unfold Zh at hr
 refine fn_ok Tryz.func46 R 21 R R fun C V => ?_
 refine cN (_ :: V) ?_
 refine cL 0 sees_rd ?_
 rintro rfl
 let W0 : List HP := RR kT3 A2 D2 a1 :: V
 refine cN W0 ?_
 refine c_seq (c_region (lI R (l_nil (q_next (c_seq (c_cut (A := (Int) × (Unit)) (fun a => Zh_J1 a.1 = some r) (fun a => [(1, (iv a.1))]) (fun a => W0) ?_ ?_))))))
 refine c_seq (c_region (lI R (l_nil (q_next (c_block ?_)))))
 obtain ⟨e1, hl1, hk1⟩ := bd hr
 refine c_loop (A := Unit) hl1 (fun s a => [(0, (sc A2 a1 D2)), (1, (iv s.1)), (5, (iv s.2))]) (fun s a => W0) () (aS R) (fun w s => s) ?_
 rintro ⟨k9, i10⟩ _ σ1 out1 hr he1
 replace hr : Zh_L1 a1 k9 i10 = some out1 := hr
 unfold Zh_L1 at hr
 refine c_seq (c_seq (c_region (lI R (lS R (lO (v_len sl22 R) (lO (vLt R R) (l_nil (q_next ?_))))))))
 rcases bif_ hr with ⟨hb11, hr⟩ | ⟨hb11, hr⟩
 refine c_true R hb11 (c_skip (q_next (c_seq (c_block (c_seq (c_seq ?_))))))
 obtain ⟨hg12, hr⟩ := gd hr
 refine c_region (lS R (lI R (t_some 0 sees_rd (show 0 < a1.length by have := hg12; omega) (fun g13 o14 ha => ?_))))
 subst ha
 refine lO (vIa sl22 sz3 R R hg12) (lO (vLi 0 ag3 sees_rd R hg12) (lI R (lO (vNe R R) (l_nil (q_next ?_)))))
 rcases bif_ hr with ⟨hb15, hr⟩ | ⟨hb15, hr⟩
 refine c_true R hb15 (c_seq (c_region (lI R (l_nil (q_next (c_ret (q_ret (q_blockr (q_ret ?_)))))))))
 obtain rfl := so hr
 obtain rfl := he1 _ R
 have hr := hk1
 refine q_ret (q_blockr (q_ret ?_))
 obtain rfl := so hr
 exact qF () (fun w s => (s.e 1 []))
 refine c_false R hb15 (c_skip (q_next (c_region (lI R (lO (vAd R R) (lI R (l_nil (q_blockn (q_next (c_region (lI R (lO (vAd R R) (lI R (l_nil ?_))))))))))))))
 obtain rfl := so hr
 exact qA () (fun w s => s)
 refine c_false R hb11 (c_exit (q_exit ?_))
 obtain rfl := so hr
 obtain rfl := he1 _ R
 have hr := hk1
 refine q_exit (q_block ?_)
 exact qI (k9, ()) hr (fun w s => s)
 rintro ⟨k18, _⟩ σ1 hr
 replace hr : Zh_J1 k18 = some r := hr
 unfold Zh_J1 at hr
 refine c_seq (c_region (lI R (lI R (l_nil (q_next (c_ret ?_))))))
 obtain rfl := so hr
 exact qF () (fun w s => (s.e 1 []))
theorem Z06_ok  {a1 : (List Fix)} {k3 : Int} {r : Int} (hr : Z06 a1 k3 = some r) :
 FnOk Tryz.prog 116 [(.slice A2 N2 D2), (iv k3)] [rds kT57 (.slice A2 N2 D2) a1] (fun (h : Unit) => ((iv r), [])) := by
 unfold Z06 at hr
 refine fn_ok Tryz.func116 R 31 R R fun C V => ?_
 refine cN (_ :: V) ?_
 refine cL 0 sees_rd ?_
 rintro rfl
 let W0 : List HP := RR kT57 A2 D2 a1 :: V
 refine cN W0 ?_
 refine c_seq (c_region (lI R (l_nil (q_next (c_seq (c_cut (A := (Int) × (Unit)) (fun a => Z06_J1 a.1 = some r) (fun a => [(1, (iv a.1))]) (fun a => W0) ?_ ?_))))))
 refine c_seq (c_region (lI R (l_nil (q_next (c_block ?_)))))
 obtain ⟨e1, hl1, hk1⟩ := bd hr
 refine c_loop (A := Unit) hl1 (fun s a => [(0, (sc A2 a1 D2)), (1, (iv s.1)), (5, (iv s.2))]) (fun s a => W0) () (aS R) (fun w s => s) ?_
 rintro ⟨k13, i14⟩ _ σ1 out1 hr he1
 replace hr : Z06_L1 a1 k13 i14 = some out1 := hr
 unfold Z06_L1 at hr
 refine c_seq (c_seq (c_region (lI R (lS R (lO (v_len sl33 R) (lO (vLt R R) (l_nil (q_next ?_))))))))
 rcases bif_ hr with ⟨hb15, hr⟩ | ⟨hb15, hr⟩
 refine c_true R hb15 (c_skip (q_next (c_seq (c_block (c_seq (c_seq ?_))))))
 obtain ⟨hg16, hr⟩ := gd hr
 refine c_region (lS R (lI R (t_some 0 sees_rd (show 0 < a1.length by have := hg16; omega) (fun g17 o18 ha => ?_))))
 subst ha
 refine lO (vIa sl33 sz57 R R hg16) (lO (vz (.pointer (some ⟨g17, o18 + i14.toNat * 2, none⟩)) (v_fa fo57_0 R R)) (lO (vz (iv (ix a1 i14).Buffer) (v_lde (K := kT57) (fo := 0) (pr := fun x => (iv x.Buffer)) 0 i14 ag3 (dT57.leaf fun _ _ => R) sees_rd R hg16.1 hg16.2)) (lI R (lO (vNe R R) (l_nil (q_next ?_))))))
 rcases bif_ hr with ⟨hb19, hr⟩ | ⟨hb19, hr⟩
 refine c_true R hb19 (c_seq (c_region (lI R (l_nil (q_next (c_ret (q_ret (q_blockr (q_ret ?_)))))))))
 obtain rfl := so hr
 obtain rfl := he1 _ R
 have hr := hk1
 refine q_ret (q_blockr (q_ret ?_))
 obtain rfl := so hr
 exact qF () (fun w s => (s.e 1 []))
 refine c_false R hb19 (c_skip (q_next (c_seq (c_region (lI R (lO (vAd R R) (lI R (l_nil (q_next (c_seq ?_))))))))))
 obtain ⟨r21, hx22, hr⟩ := bd hr
 refine c_region (lS R (lI R (lO (vIa sl33 sz57 R R hg16) (lO (vz (.pointer (some ⟨g17, o18 + i14.toNat * 2 + 1, none⟩)) (v_fa fo57_1 R R)) (t_elem (K := kT57) 0 i14 dT57.dec R hg16.1 hg16.2 ?_)))))
 rintro ⟨-, ⟨A20, D20⟩⟩
 refine lN (cl g17 (o18 + i14.toNat * 2) [(iv (ix a1 i14).Buffer), (sc A20 ((ix a1 i14).Data) D20)] :: RR kT3 A20 D20 ((ix a1 i14).Data) :: W0) ?_
 refine lO (v_clf (fo := 1) 0 ag22 R R R) (lI R (lM (_ :: _ :: _ :: W0) (fun w s => (s.d 1 R)) ?_))
 refine lC 1 cb46 R (Zh_ok hx22) R ?_
 rintro _
 refine lN (_ :: _ :: W0) ?_
 refine lI R (l_nil (q_next (c_seq (c_region (lI R (lO (vLt R R) (l_nil (q_next ?_))))))))
 rcases bif_ hr with ⟨hb23, hr⟩ | ⟨hb23, hr⟩
 refine c_true R hb23 (c_seq (c_region (lI R (l_nil (q_next (c_ret (q_blockr (q_ret ?_))))))))
 obtain rfl := so hr
 obtain rfl := he1 _ R
 have hr := hk1
 refine q_ret (q_blockr (q_ret ?_))
 obtain rfl := so hr
 exact qF () (fun w s => (s.e 3 []))
 refine c_false R hb23 (c_skip (q_blockn (q_next (c_region (lI R (lO (vAd R R) (lI R (l_nil ?_))))))))
 obtain rfl := so hr
 exact qA () (fun w s => (s.e 2 []))
 refine c_false R hb15 (c_exit (q_exit ?_))
 obtain rfl := so hr
 obtain rfl := he1 _ R
 have hr := hk1
 refine q_exit (q_block ?_)
 exact qI (k13, ()) hr (fun w s => s)
 rintro ⟨k26, _⟩ σ1 hr
 replace hr : Z06_J1 k26 = some r := hr
 unfold Z06_J1 at hr
 refine c_seq (c_region (lI R (lI R (l_nil (q_next (c_ret ?_))))))
 obtain rfl := so hr
 exact qF () (fun w s => (s.e 1 []))
theorem Z0g_ok  {a1 : (List Access)} {k3 : Int} {r : Int} (hr : Z0g a1 k3 = some r) :
 FnOk Tryz.prog 161 [(.slice A2 N2 D2), (iv k3)] [rds kT61 (.slice A2 N2 D2) a1] (fun (h : Unit) => ((iv r), [])) := by
 unfold Z0g at hr
 refine fn_ok Tryz.func161 R 40 R R fun C V => ?_
 refine cN (_ :: V) ?_
 refine cL 0 sees_rd ?_
 rintro rfl
 let W0 : List HP := RR kT61 A2 D2 a1 :: V
 refine cN W0 ?_
 refine c_seq (c_region (lI R (l_nil (q_next (c_seq (c_cut (A := (Int) × (Unit)) (fun a => Z0g_J1 a.1 = some r) (fun a => [(1, (iv a.1))]) (fun a => W0) ?_ ?_))))))
 refine c_seq (c_region (lI R (l_nil (q_next (c_block ?_)))))
 obtain ⟨e1, hl1, hk1⟩ := bd hr
 refine c_loop (A := Unit) hl1 (fun s a => [(0, (sc A2 a1 D2)), (1, (iv s.1)), (5, (iv s.2))]) (fun s a => W0) () (aS R) (fun w s => s) ?_
 rintro ⟨k14, i15⟩ _ σ1 out1 hr he1
 replace hr : Z0g_L1 a1 k14 i15 = some out1 := hr
 unfold Z0g_L1 at hr
 refine c_seq (c_seq (c_region (lI R (lS R (lO (v_len sl59 R) (lO (vLt R R) (l_nil (q_next ?_))))))))
 rcases bif_ hr with ⟨hb16, hr⟩ | ⟨hb16, hr⟩
 refine c_true R hb16 (c_skip (q_next (c_seq (c_block (c_seq (c_seq ?_))))))
 obtain ⟨hg17, hr⟩ := gd hr
 refine c_region (lS R (lI R (t_some 0 sees_rd (show 0 < a1.length by have := hg17; omega) (fun g18 o19 ha => ?_))))
 subst ha
 refine lO (vIa sl59 sz61 R R hg17) (lO (vz (.pointer (some ⟨g18, o19 + i15.toNat * 3, none⟩)) (v_fa fo61_0 R R)) (lO (vz (iv (ix a1 i15).Buffer) (v_lde (K := kT61) (fo := 0) (pr := fun x => (iv x.Buffer)) 0 i15 ag3 (dT61.leaf fun _ _ => R) sees_rd R hg17.1 hg17.2)) (lI R (lO (vNe R R) (l_nil (q_next ?_))))))
 rcases bif_ hr with ⟨hb20, hr⟩ | ⟨hb20, hr⟩
 refine c_true R hb20 (c_seq (c_region (lI R (l_nil (q_next (c_ret (q_ret (q_blockr (q_ret ?_)))))))))
 obtain rfl := so hr
 obtain rfl := he1 _ R
 have hr := hk1
 refine q_ret (q_blockr (q_ret ?_))
 obtain rfl := so hr
 exact qF () (fun w s => (s.e 1 []))
 refine c_false R hb20 (c_skip (q_next (c_seq (c_region (lI R (lO (vAd R R) (lI R (l_nil (q_next (c_seq (c_seq (c_region (lS R (lI R (lO (vIa sl59 sz61 R R hg17) (lO (vz (.pointer (some ⟨g18, o19 + i15.toNat * 3 + 1, none⟩)) (v_fa fo61_1 R R)) (lO (vz (iv (ix a1 i15).Offset) (v_lde (K := kT61) (fo := 1) (pr := fun x => (iv x.Offset)) 0 i15 ag3 (dT61.leaf fun _ _ => R) sees_rd R hg17.1 hg17.2)) (lI R (lO (vNe R R) (l_nil (q_next ?_)))))))))))))))))))))
 rcases bif_ hr with ⟨hb21, hr⟩ | ⟨hb21, hr⟩
 refine c_true R hb21 (c_seq (c_region (lI R (l_nil (q_next (c_ret (q_ret (q_blockr (q_ret ?_)))))))))
 obtain rfl := so hr
 obtain rfl := he1 _ R
 have hr := hk1
 refine q_ret (q_blockr (q_ret ?_))
 obtain rfl := so hr
 exact qF () (fun w s => (s.e 1 []))
 refine c_false R hb21 (c_skip (q_next (c_seq (c_region (lI R (lO (vAd R R) (lI R (l_nil (q_next (c_seq ?_))))))))))
 obtain ⟨r23, hx24, hr⟩ := bd hr
 refine c_region (lS R (lI R (lO (vIa sl59 sz61 R R hg17) (lO (vz (.pointer (some ⟨g18, o19 + i15.toNat * 3 + 2, none⟩)) (v_fa fo61_2 R R)) (t_elem (K := kT61) 0 i15 dT61.dec R hg17.1 hg17.2 ?_)))))
 rintro ⟨-, -, ⟨A22, D22⟩⟩
 refine lN (cl g18 (o19 + i15.toNat * 3) [(iv (ix a1 i15).Buffer), (iv (ix a1 i15).Offset), (sc A22 ((ix a1 i15).Steps) D22)] :: RR kT3 A22 D22 ((ix a1 i15).Steps) :: W0) ?_
 refine lO (v_clf (fo := 2) 0 ag22 R R R) (lI R (lM (_ :: _ :: _ :: W0) (fun w s => (s.d 1 R)) ?_))
 refine lC 1 cb46 R (Zh_ok hx24) R ?_
 rintro _
 refine lN (_ :: _ :: W0) ?_
 refine lI R (l_nil (q_next (c_seq (c_region (lI R (lO (vLt R R) (l_nil (q_next ?_))))))))
 rcases bif_ hr with ⟨hb25, hr⟩ | ⟨hb25, hr⟩
 refine c_true R hb25 (c_seq (c_region (lI R (l_nil (q_next (c_ret (q_blockr (q_ret ?_))))))))
 obtain rfl := so hr
 obtain rfl := he1 _ R
 have hr := hk1
 refine q_ret (q_blockr (q_ret ?_))
 obtain rfl := so hr
 exact qF () (fun w s => (s.e 3 []))
 refine c_false R hb25 (c_skip (q_blockn (q_next (c_region (lI R (lO (vAd R R) (lI R (l_nil ?_))))))))
 obtain rfl := so hr
 exact qA () (fun w s => (s.e 2 []))
 refine c_false R hb16 (c_exit (q_exit ?_))
 obtain rfl := so hr
 obtain rfl := he1 _ R
 have hr := hk1
 refine q_exit (q_block ?_)
 exact qI (k14, ()) hr (fun w s => s)
 rintro ⟨k28, _⟩ σ1 hr
 replace hr : Z0g_J1 k28 = some r := hr
 unfold Z0g_J1 at hr
 refine c_seq (c_region (lI R (lI R (l_nil (q_next (c_ret ?_))))))
 obtain rfl := so hr
 exact qF () (fun w s => (s.e 1 []))
theorem Z0h_ok  {a1 : (List Calc)} {k3 : Int} {r : Int} (hr : Z0h a1 k3 = some r) :
 FnOk Tryz.prog 162 [(.slice A2 N2 D2), (iv k3)] [rds kT101 (.slice A2 N2 D2) a1] (fun (h : Unit) => ((iv r), [])) := by
 unfold Z0h at hr
 refine fn_ok Tryz.func162 R 40 R R fun C V => ?_
 refine cN (_ :: V) ?_
 refine cL 0 sees_rd ?_
 rintro rfl
 let W0 : List HP := RR kT101 A2 D2 a1 :: V
 refine cN W0 ?_
 refine c_seq (c_region (lI R (l_nil (q_next (c_seq (c_cut (A := (Int) × (Unit)) (fun a => Z0h_J1 a.1 = some r) (fun a => [(1, (iv a.1))]) (fun a => W0) ?_ ?_))))))
 refine c_seq (c_region (lI R (l_nil (q_next (c_block ?_)))))
 obtain ⟨e1, hl1, hk1⟩ := bd hr
 refine c_loop (A := Unit) hl1 (fun s a => [(0, (sc A2 a1 D2)), (1, (iv s.1)), (5, (iv s.2))]) (fun s a => W0) () (aS R) (fun w s => s) ?_
 rintro ⟨k11, i12⟩ _ σ1 out1 hr he1
 replace hr : Z0h_L1 a1 k11 i12 = some out1 := hr
 unfold Z0h_L1 at hr
 refine c_seq (c_seq (c_region (lI R (lS R (lO (v_len sl62 R) (lO (vLt R R) (l_nil (q_next ?_))))))))
 rcases bif_ hr with ⟨hb13, hr⟩ | ⟨hb13, hr⟩
 refine c_true R hb13 (c_skip (q_next (c_seq (c_block (c_seq (c_seq ?_))))))
 obtain ⟨hg14, hr⟩ := gd hr
 refine c_region (lS R (lI R (t_some 0 sees_rd (show 0 < a1.length by have := hg14; omega) (fun g15 o16 ha => ?_))))
 subst ha
 refine lO (vIa sl62 sz101 R R hg14) (lO (vz (.pointer (some ⟨g15, o16 + i12.toNat * 3, none⟩)) (v_fa fo101_0 R R)) (lO (vz (iv (ix a1 i12).Op) (v_lde (K := kT101) (fo := 0) (pr := fun x => (iv x.Op)) 0 i12 ag3 (dT101.leaf fun _ _ => R) sees_rd R hg14.1 hg14.2)) (lI R (lO (vNe R R) (l_nil (q_next ?_))))))
 rcases bif_ hr with ⟨hb17, hr⟩ | ⟨hb17, hr⟩
 refine c_true R hb17 (c_seq (c_region (lI R (l_nil (q_next (c_ret (q_ret (q_blockr (q_ret ?_)))))))))
 obtain rfl := so hr
 obtain rfl := he1 _ R
 have hr := hk1
 refine q_ret (q_blockr (q_ret ?_))
 obtain rfl := so hr
 exact qF () (fun w s => (s.e 1 []))
 refine c_false R hb17 (c_skip (q_next (c_seq (c_region (lI R (lO (vAd R R) (lI R (l_nil (q_next (c_seq (c_seq (c_region (lS R (lI R (lO (vIa sl62 sz101 R R hg14) (lO (vz (.pointer (some ⟨g15, o16 + i12.toNat * 3 + 1, none⟩)) (v_fa fo101_1 R R)) (lO (vz (iv (ix a1 i12).A) (v_lde (K := kT101) (fo := 1) (pr := fun x => (iv x.A)) 0 i12 ag3 (dT101.leaf fun _ _ => R) sees_rd R hg14.1 hg14.2)) (lI R (lO (vNe R R) (l_nil (q_next ?_)))))))))))))))))))))
 rcases bif_ hr with ⟨hb18, hr⟩ | ⟨hb18, hr⟩
 refine c_true R hb18 (c_seq (c_region (lI R (l_nil (q_next (c_ret (q_ret (q_blockr (q_ret ?_)))))))))
 obtain rfl := so hr
 obtain rfl := he1 _ R
 have hr := hk1
 refine q_ret (q_blockr (q_ret ?_))
 obtain rfl := so hr
 exact qF () (fun w s => (s.e 1 []))
 refine c_false R hb18 (c_skip (q_next (c_seq (c_region (lI R (lO (vAd R R) (lI R (l_nil (q_next (c_seq (c_seq (c_region (lS R (lI R (lO (vIa sl62 sz101 R R hg14) (lO (vz (.pointer (some ⟨g15, o16 + i12.toNat * 3 + 2, none⟩)) (v_fa fo101_2 R R)) (lO (vz (iv (ix a1 i12).B) (v_lde (K := kT101) (fo := 2) (pr := fun x => (iv x.B)) 0 i12 ag3 (dT101.leaf fun _ _ => R) sees_rd R hg14.1 hg14.2)) (lI R (lO (vNe R R) (l_nil (q_next ?_)))))))))))))))))))))
 rcases bif_ hr with ⟨hb19, hr⟩ | ⟨hb19, hr⟩
 refine c_true R hb19 (c_seq (c_region (lI R (l_nil (q_next (c_ret (q_ret (q_blockr (q_ret ?_)))))))))
 obtain rfl := so hr
 obtain rfl := he1 _ R
 have hr := hk1
 refine q_ret (q_blockr (q_ret ?_))
 obtain rfl := so hr
 exact qF () (fun w s => (s.e 1 []))
 refine c_false R hb19 (c_skip (q_next (c_region (lI R (lO (vAd R R) (lI R (l_nil (q_blockn (q_next (c_region (lI R (lO (vAd R R) (lI R (l_nil ?_))))))))))))))
 obtain rfl := so hr
 exact qA () (fun w s => s)
 refine c_false R hb13 (c_exit (q_exit ?_))
 obtain rfl := so hr
 obtain rfl := he1 _ R
 have hr := hk1
 refine q_exit (q_block ?_)
 exact qI (k11, ()) hr (fun w s => s)
 rintro ⟨k22, _⟩ σ1 hr
 replace hr : Z0h_J1 k22 = some r := hr
 unfold Z0h_J1 at hr
 refine c_seq (c_region (lI R (lI R (l_nil (q_next (c_ret ?_))))))
 obtain rfl := so hr
 exact qF () (fun w s => (s.e 1 []))
theorem Z0c_ok  {a1 : (List Kernel)} {k3 : Int} {r : Int} (hr : Z0c a1 k3 = some r) :
 FnOk Tryz.prog 117 [(.slice A2 N2 D2), (iv k3)] [rds kT64 (.slice A2 N2 D2) a1] (fun (h : Unit) => ((iv r), [])) := by
 unfold Z0c at hr
 refine fn_ok Tryz.func117 R 81 R R fun C V => ?_
 refine cN (_ :: V) ?_
 refine cL 0 sees_rd ?_
 rintro rfl
 let W0 : List HP := RR kT64 A2 D2 a1 :: V
 refine cN W0 ?_
 refine c_seq (c_region (lI R (l_nil (q_next (c_seq (c_cut (A := (Int) × (Unit)) (fun a => Z0c_J1 a.1 = some r) (fun a => [(1, (iv a.1))]) (fun a => W0) ?_ ?_))))))
 refine c_seq (c_region (lI R (l_nil (q_next (c_block ?_)))))
 obtain ⟨e1, hl1, hk1⟩ := bd hr
 refine c_loop (A := Unit) hl1 (fun s a => [(0, (sc A2 a1 D2)), (1, (iv s.1)), (5, (iv s.2))]) (fun s a => W0) () (aS R) (fun w s => s) ?_
 rintro ⟨k27, i28⟩ _ σ1 out1 hr he1
 replace hr : Z0c_L1 a1 k27 i28 = some out1 := hr
 unfold Z0c_L1 at hr
 refine c_seq (c_seq (c_region (lI R (lS R (lO (v_len sl34 R) (lO (vLt R R) (l_nil (q_next ?_))))))))
 rcases bif_ hr with ⟨hb29, hr⟩ | ⟨hb29, hr⟩
 refine c_true R hb29 (c_skip (q_next (c_seq (c_block (c_seq ?_)))))
 obtain ⟨hg30, hr⟩ := gd hr
 obtain ⟨r37, hx38, hr⟩ := bd hr
 refine c_region (lS R (lI R (t_some 0 sees_rd (show 0 < a1.length by have := hg30; omega) (fun g31 o32 ha => ?_))))
 subst ha
 refine lO (vIa sl34 sz64 R R hg30) (lO (vz (.pointer (some ⟨g31, o32 + i28.toNat * 7, none⟩)) (v_fa fo64_0 R R)) (t_elem (K := kT64) 0 i28 dT64.dec R hg30.1 hg30.2 ?_))
 rintro ⟨⟨A33, D33⟩, ⟨A34, D34⟩, ⟨-, -, ⟨A35, D35⟩⟩, -, ⟨A36, D36⟩⟩
 refine lN (cl g31 (o32 + i28.toNat * 7) [(sc A33 ((ix a1 i28).Loops) D33), (sc A34 ((ix a1 i28).Loads) D34), (iv (ix a1 i28).Store.Buffer), (iv (ix a1 i28).Store.Offset), (sc A35 ((ix a1 i28).Store.Steps) D35), (.bool (ix a1 i28).Sum), (sc A36 ((ix a1 i28).Code) D36)] :: RR kT3 A33 D33 ((ix a1 i28).Loops) :: RR kT61 A34 D34 ((ix a1 i28).Loads) :: RR kT3 A35 D35 ((ix a1 i28).Store.Steps) :: RR kT101 A36 D36 ((ix a1 i28).Code) :: W0) ?_
 refine lO (v_clf (fo := 0) 0 ag22 R R R) (lI R (lM (_ :: _ :: _ :: _ :: _ :: _ :: W0) (fun w s => (s.d 1 R)) ?_))
 refine lC 1 cb46 R (Zh_ok hx38) R ?_
 rintro _
 refine lN (_ :: _ :: _ :: _ :: _ :: W0) ?_
 refine lI R (l_nil (q_next (c_seq (c_seq (c_region (lI R (lO (vLt R R) (l_nil (q_next ?_)))))))))
 rcases bif_ hr with ⟨hb39, hr⟩ | ⟨hb39, hr⟩
 refine c_true R hb39 (c_seq (c_region (lI R (l_nil (q_next (c_ret (q_ret (q_blockr (q_ret ?_)))))))))
 obtain rfl := so hr
 obtain rfl := he1 _ R
 have hr := hk1
 refine q_ret (q_blockr (q_ret ?_))
 obtain rfl := so hr
 exact qF () (fun w s => (s.e 6 []))
 refine c_false R hb39 (c_skip (q_next (c_seq ?_)))
 obtain ⟨r40, hx41, hr⟩ := bd hr
 refine c_region (lS R (lI R (lO (vIa sl34 sz64 R R hg30) (lO (vz (.pointer (some ⟨g31, o32 + i28.toNat * 7 + 1, none⟩)) (v_fa fo64_1 R R)) (lO (v_clf (fo := 1) 0 ag59 R R R) (lI R (lM (_ :: _ :: _ :: _ :: _ :: _ :: W0) (fun w s => (s.d 2 R)) ?_)))))))
 refine lC 1 cb161 R (Z0g_ok hx41) R ?_
 rintro _
 refine lN (_ :: _ :: _ :: _ :: _ :: W0) ?_
 refine lI R (l_nil (q_next (c_seq (c_seq (c_region (lI R (lO (vLt R R) (l_nil (q_next ?_)))))))))
 rcases bif_ hr with ⟨hb42, hr⟩ | ⟨hb42, hr⟩
 refine c_true R hb42 (c_seq (c_region (lI R (l_nil (q_next (c_ret (q_ret (q_blockr (q_ret ?_)))))))))
 obtain rfl := so hr
 obtain rfl := he1 _ R
 have hr := hk1
 refine q_ret (q_blockr (q_ret ?_))
 obtain rfl := so hr
 exact qF () (fun w s => (s.e 6 []))
 refine c_false R hb42 (c_skip (q_next (c_seq (c_seq (c_region (lS R (lI R (lO (vIa sl34 sz64 R R hg30) (lO (vz (.pointer (some ⟨g31, o32 + i28.toNat * 7 + 2, none⟩)) (v_fa fo64_2 R R)) (lO (vz (.pointer (some ⟨g31, o32 + i28.toNat * 7 + 2, none⟩)) (v_fa fo61_0 R R)) (lO (vz (iv (ix a1 i28).Store.Buffer) (v_lde (K := kT64) (fo := 2) (pr := fun x => (iv x.Store.Buffer)) 5 i28 ag3 (dT64.leaf fun _ _ => R) sees_rd R hg30.1 hg30.2)) (lI R (lO (vNe R R) (l_nil (q_next ?_)))))))))))))))
 rcases bif_ hr with ⟨hb43, hr⟩ | ⟨hb43, hr⟩
 refine c_true R hb43 (c_seq (c_region (lI R (l_nil (q_next (c_ret (q_ret (q_blockr (q_ret ?_)))))))))
 obtain rfl := so hr
 obtain rfl := he1 _ R
 have hr := hk1
 refine q_ret (q_blockr (q_ret ?_))
 obtain rfl := so hr
 exact qF () (fun w s => (s.e 6 []))
 refine c_false R hb43 (c_skip (q_next (c_seq (c_region (lI R (lO (vAd R R) (lI R (l_nil (q_next (c_seq (c_seq (c_region (lS R (lI R (lO (vIa sl34 sz64 R R hg30) (lO (vz (.pointer (some ⟨g31, o32 + i28.toNat * 7 + 2, none⟩)) (v_fa fo64_2 R R)) (lO (vz (.pointer (some ⟨g31, o32 + i28.toNat * 7 + 3, none⟩)) (v_fa fo61_1 R R)) (lO (vz (iv (ix a1 i28).Store.Offset) (v_lde (K := kT64) (fo := 3) (pr := fun x => (iv x.Store.Offset)) 5 i28 ag3 (dT64.leaf fun _ _ => R) sees_rd R hg30.1 hg30.2)) (lI R (lO (vNe R R) (l_nil (q_next ?_))))))))))))))))))))))
 rcases bif_ hr with ⟨hb44, hr⟩ | ⟨hb44, hr⟩
 refine c_true R hb44 (c_seq (c_region (lI R (l_nil (q_next (c_ret (q_ret (q_blockr (q_ret ?_)))))))))
 obtain rfl := so hr
 obtain rfl := he1 _ R
 have hr := hk1
 refine q_ret (q_blockr (q_ret ?_))
 obtain rfl := so hr
 exact qF () (fun w s => (s.e 6 []))
 refine c_false R hb44 (c_skip (q_next (c_seq (c_region (lI R (lO (vAd R R) (lI R (l_nil (q_next (c_seq ?_))))))))))
 obtain ⟨r45, hx46, hr⟩ := bd hr
 refine c_region (lS R (lI R (lO (vIa sl34 sz64 R R hg30) (lO (vz (.pointer (some ⟨g31, o32 + i28.toNat * 7 + 2, none⟩)) (v_fa fo64_2 R R)) (lO (vz (.pointer (some ⟨g31, o32 + i28.toNat * 7 + 4, none⟩)) (v_fa fo61_2 R R)) (lO (v_clf (fo := 4) 0 ag22 R R R) (lI R (lM (_ :: _ :: _ :: _ :: _ :: _ :: W0) (fun w s => (s.d 3 R)) ?_))))))))
 refine lC 1 cb46 R (Zh_ok hx46) R ?_
 rintro _
 refine lN (_ :: _ :: _ :: _ :: _ :: W0) ?_
 refine lI R (l_nil (q_next (c_seq (c_seq (c_region (lI R (lO (vLt R R) (l_nil (q_next ?_)))))))))
 rcases bif_ hr with ⟨hb47, hr⟩ | ⟨hb47, hr⟩
 refine c_true R hb47 (c_seq (c_region (lI R (l_nil (q_next (c_ret (q_ret (q_blockr (q_ret ?_)))))))))
 obtain rfl := so hr
 obtain rfl := he1 _ R
 have hr := hk1
 refine q_ret (q_blockr (q_ret ?_))
 obtain rfl := so hr
 exact qF () (fun w s => (s.e 6 []))
 refine c_false R hb47 (c_skip (q_next (c_seq (c_seq (c_region (lS R (lI R (lO (vIa sl34 sz64 R R hg30) (lO (vz (.pointer (some ⟨g31, o32 + i28.toNat * 7 + 5, none⟩)) (v_fa fo64_3 R R)) (lO (vz (.bool (ix a1 i28).Sum) (v_lde (K := kT64) (fo := 5) (pr := fun x => (.bool x.Sum)) 5 i28 ag4 (dT64.leaf fun _ _ => R) sees_rd R hg30.1 hg30.2)) (lI R (lO (v_rem R R (by decide)) (lO (vEq R R) (lO (v_bne un4 R R) (l_nil (q_next ?_))))))))))))))))
 rcases bif_ hr with ⟨hb48, hr⟩ | ⟨hb48, hr⟩
 refine c_true R hb48 (c_seq (c_region (lI R (l_nil (q_next (c_ret (q_ret (q_blockr (q_ret ?_)))))))))
 obtain rfl := so hr
 obtain rfl := he1 _ R
 have hr := hk1
 refine q_ret (q_blockr (q_ret ?_))
 obtain rfl := so hr
 exact qF () (fun w s => (s.e 6 []))
 refine c_false R hb48 (c_skip (q_next (c_seq (c_region (lI R (lO (vAd R R) (lI R (l_nil (q_next (c_seq ?_))))))))))
 obtain ⟨r49, hx50, hr⟩ := bd hr
 refine c_region (lS R (lI R (lO (vIa sl34 sz64 R R hg30) (lO (vz (.pointer (some ⟨g31, o32 + i28.toNat * 7 + 6, none⟩)) (v_fa fo64_4 R R)) (lO (v_clf (fo := 6) 0 ag62 R R R) (lI R (lM (_ :: _ :: _ :: _ :: _ :: _ :: W0) (fun w s => (s.d 4 R)) ?_)))))))
 refine lC 1 cb162 R (Z0h_ok hx50) R ?_
 rintro _
 refine lN (_ :: _ :: _ :: _ :: _ :: W0) ?_
 refine lI R (l_nil (q_next (c_seq (c_region (lI R (lO (vLt R R) (l_nil (q_next ?_))))))))
 rcases bif_ hr with ⟨hb51, hr⟩ | ⟨hb51, hr⟩
 refine c_true R hb51 (c_seq (c_region (lI R (l_nil (q_next (c_ret (q_blockr (q_ret ?_))))))))
 obtain rfl := so hr
 obtain rfl := he1 _ R
 have hr := hk1
 refine q_ret (q_blockr (q_ret ?_))
 obtain rfl := so hr
 exact qF () (fun w s => (s.e 6 []))
 refine c_false R hb51 (c_skip (q_blockn (q_next (c_region (lI R (lO (vAd R R) (lI R (l_nil ?_))))))))
 obtain rfl := so hr
 exact qA () (fun w s => (s.e 5 []))
 refine c_false R hb29 (c_exit (q_exit ?_))
 obtain rfl := so hr
 obtain rfl := he1 _ R
 have hr := hk1
 refine q_exit (q_block ?_)
 exact qI (k27, ()) hr (fun w s => s)
 rintro ⟨k54, _⟩ σ1 hr
 replace hr : Z0c_J1 k54 = some r := hr
 unfold Z0c_J1 at hr
 refine c_seq (c_region (lI R (lI R (l_nil (q_next (c_ret ?_))))))
 obtain rfl := so hr
 exact qF () (fun w s => (s.e 1 []))
theorem Z1r_ok  {a1 : Nest} {k7 : Int} {r : Int} (hr : Z1r a1 k7 = some r) :
 FnOk Tryz.prog 64 [(.agg [(.slice A2 N2 D2), (.slice A3 N3 D3), (.slice A4 N4 D4), (.slice A5 N5 D5), (.slice A6 N6 D6)].toArray), (iv k7)] [rds kT3 (.slice A2 N2 D2) a1.Sizes, rds kT3 (.slice A3 N3 D3) a1.Ins, rds kT57 (.slice A4 N4 D4) a1.Fixed, rds kT64 (.slice A5 N5 D5) a1.Kernels, rds kT3 (.slice A6 N6 D6) a1.Outs] (fun (h : Unit) => ((iv r), [])) := by
 unfold Z1r at hr
 refine fn_ok Tryz.func64 R 36 R R fun C V => ?_
 refine cN (_ :: _ :: _ :: _ :: _ :: V) ?_
 refine cL 0 sees_rd ?_
 rintro rfl
 refine cL 1 sees_rd ?_
 rintro rfl
 refine cL 2 sees_rd ?_
 rintro rfl
 refine cL 3 sees_rd ?_
 rintro rfl
 refine cL 4 sees_rd ?_
 rintro rfl
 let W0 : List HP := RR kT3 A2 D2 a1.Sizes :: RR kT3 A3 D3 a1.Ins :: RR kT57 A4 D4 a1.Fixed :: RR kT64 A5 D5 a1.Kernels :: RR kT3 A6 D6 a1.Outs :: V
 refine cN W0 ?_
 refine c_seq (c_region (lBx R (fun b8 => (lI R (l_nil ?_)))))
 let W1 : List HP := bxl b8 [(sc A2 a1.Sizes D2), (sc A3 a1.Ins D3), (sc A4 a1.Fixed D4), (sc A5 a1.Kernels D5), (sc A6 a1.Outs D6)] 36 :: W0
 refine qN W1 ?_
 refine q_next (c_seq ?_)
 obtain ⟨r9, hx10, hr⟩ := bd hr
 refine c_region (lO (vFa 0 fo36_0 R) (lO (vLd 0 ag22 R R R) (lI R (lM (RR kT3 A2 D2 a1.Sizes :: W1) (fun w s => (s.d 1 R)) ?_))))
 refine lC 1 cb46 R (Zh_ok hx10) R ?_
 rintro _
 refine lN W1 ?_
 refine lI R (l_nil (q_next (c_seq (c_seq (c_region (lI R (lO (vLt R R) (l_nil (q_next ?_)))))))))
 rcases bif_ hr with ⟨hb11, hr⟩ | ⟨hb11, hr⟩
 refine c_true R hb11 (c_seq (c_region (lI R (l_nil (q_next (c_ret (q_ret ?_)))))))
 obtain rfl := so hr
 exact qF () (fun w s => (s.e 6 []))
 refine c_false R hb11 (c_skip (q_next (c_seq ?_)))
 obtain ⟨r12, hx13, hr⟩ := bd hr
 refine c_region (lO (vFa 1 fo36_1 R) (lO (vLd 0 ag22 R R R) (lI R (lM (RR kT3 A3 D3 a1.Ins :: W1) (fun w s => (s.d 2 R)) ?_))))
 refine lC 1 cb46 R (Zh_ok hx13) R ?_
 rintro _
 refine lN W1 ?_
 refine lI R (l_nil (q_next (c_seq (c_seq (c_region (lI R (lO (vLt R R) (l_nil (q_next ?_)))))))))
 rcases bif_ hr with ⟨hb14, hr⟩ | ⟨hb14, hr⟩
 refine c_true R hb14 (c_seq (c_region (lI R (l_nil (q_next (c_ret (q_ret ?_)))))))
 obtain rfl := so hr
 exact qF () (fun w s => (s.e 6 []))
 refine c_false R hb14 (c_skip (q_next (c_seq ?_)))
 obtain ⟨r15, hx16, hr⟩ := bd hr
 refine c_region (lO (vFa 2 fo36_2 R) (lO (vLd 0 ag33 R R R) (lI R (lM (RR kT57 A4 D4 a1.Fixed :: W1) (fun w s => (s.d 3 R)) ?_))))
 refine lC 1 cb116 R (Z06_ok hx16) R ?_
 rintro _
 refine lN W1 ?_
 refine lI R (l_nil (q_next (c_seq (c_seq (c_region (lI R (lO (vLt R R) (l_nil (q_next ?_)))))))))
 rcases bif_ hr with ⟨hb17, hr⟩ | ⟨hb17, hr⟩
 refine c_true R hb17 (c_seq (c_region (lI R (l_nil (q_next (c_ret (q_ret ?_)))))))
 obtain rfl := so hr
 exact qF () (fun w s => (s.e 6 []))
 refine c_false R hb17 (c_skip (q_next (c_seq ?_)))
 obtain ⟨r18, hx19, hr⟩ := bd hr
 refine c_region (lO (vFa 3 fo36_3 R) (lO (vLd 0 ag34 R R R) (lI R (lM (RR kT64 A5 D5 a1.Kernels :: W1) (fun w s => (s.d 4 R)) ?_))))
 refine lC 1 cb117 R (Z0c_ok hx19) R ?_
 rintro _
 refine lN W1 ?_
 refine lI R (l_nil (q_next (c_seq (c_seq (c_region (lI R (lO (vLt R R) (l_nil (q_next ?_)))))))))
 rcases bif_ hr with ⟨hb20, hr⟩ | ⟨hb20, hr⟩
 refine c_true R hb20 (c_seq (c_region (lI R (l_nil (q_next (c_ret (q_ret ?_)))))))
 obtain rfl := so hr
 exact qF () (fun w s => (s.e 6 []))
 refine c_false R hb20 (c_skip (q_next (c_seq ?_)))
 obtain ⟨r21, hx22, hr⟩ := bd hr
 refine c_region (lO (vFa 4 fo36_4 R) (lO (vLd 0 ag22 R R R) (lI R (lM (RR kT3 A6 D6 a1.Outs :: W1) (fun w s => (s.d 5 R)) ?_))))
 refine lC 1 cb46 R (Zh_ok hx22) R ?_
 rintro _
 refine lN W1 ?_
 refine lI R (l_nil (q_next (c_seq (c_seq (c_region (lI R (lO (vLt R R) (l_nil (q_next ?_)))))))))
 rcases bif_ hr with ⟨hb23, hr⟩ | ⟨hb23, hr⟩
 refine c_true R hb23 (c_seq (c_region (lI R (l_nil (q_next (c_ret (q_ret ?_)))))))
 obtain rfl := so hr
 exact qF () (fun w s => (s.e 6 []))
 refine c_false R hb23 (c_skip (q_next (c_seq (c_region (lI R (lI R (l_nil (q_next (c_ret ?_)))))))))
 obtain rfl := so hr
 exact qF () (fun w s => (s.e 6 []))
theorem Z1d_ok  {a1 : Plan} {k8 : Int} {r : Int} (hr : Z1d a1 k8 = some r) :
 FnOk Tryz.prog 22 [(.agg [(.slice A2 N2 D2), (.slice A3 N3 D3), (.slice A4 N4 D4), (.slice A5 N5 D5), (.slice A6 N6 D6), (.slice A7 N7 D7), (iv a1.Arena)].toArray), (iv k8)] [rds kT3 (.slice A2 N2 D2) a1.Nest.Sizes, rds kT3 (.slice A3 N3 D3) a1.Nest.Ins, rds kT57 (.slice A4 N4 D4) a1.Nest.Fixed, rds kT64 (.slice A5 N5 D5) a1.Nest.Kernels, rds kT3 (.slice A6 N6 D6) a1.Nest.Outs, rds kT3 (.slice A7 N7 D7) a1.Offsets] (fun (h : Unit) => ((iv r), [])) := by
 unfold Z1d at hr
 refine fn_ok Tryz.func22 R 18 R R fun C V => ?_
 refine cN (_ :: _ :: _ :: _ :: _ :: _ :: V) ?_
 refine cL 0 sees_rd ?_
 rintro rfl
 refine cL 1 sees_rd ?_
 rintro rfl
 refine cL 2 sees_rd ?_
 rintro rfl
 refine cL 3 sees_rd ?_
 rintro rfl
 refine cL 4 sees_rd ?_
 rintro rfl
 refine cL 5 sees_rd ?_
 rintro rfl
 let W0 : List HP := RR kT3 A2 D2 a1.Nest.Sizes :: RR kT3 A3 D3 a1.Nest.Ins :: RR kT57 A4 D4 a1.Nest.Fixed :: RR kT64 A5 D5 a1.Nest.Kernels :: RR kT3 A6 D6 a1.Nest.Outs :: RR kT3 A7 D7 a1.Offsets :: V
 refine cN W0 ?_
 refine c_seq (c_region (lBx R (fun b9 => (lI R (l_nil ?_)))))
 let W1 : List HP := bxl b9 [(sc A2 a1.Nest.Sizes D2), (sc A3 a1.Nest.Ins D3), (sc A4 a1.Nest.Fixed D4), (sc A5 a1.Nest.Kernels D5), (sc A6 a1.Nest.Outs D6), (sc A7 a1.Offsets D7), (iv a1.Arena)] 38 :: W0
 refine qN W1 ?_
 refine q_next (c_seq ?_)
 obtain ⟨r10, hx11, hr⟩ := bd hr
 refine c_region (lO (vFa 0 fo38_0 R) (lO (vz (.agg [(sc A2 a1.Nest.Sizes D2), (sc A3 a1.Nest.Ins D3), (sc A4 a1.Nest.Fixed D4), (sc A5 a1.Nest.Kernels D5), (sc A6 a1.Nest.Outs D6)].toArray) (v_loadw 0 ag36 sz36 R R R R)) (lI R (lM (RR kT3 A2 D2 a1.Nest.Sizes :: RR kT3 A3 D3 a1.Nest.Ins :: RR kT57 A4 D4 a1.Nest.Fixed :: RR kT64 A5 D5 a1.Nest.Kernels :: RR kT3 A6 D6 a1.Nest.Outs :: W1) (fun w s => ((((((s.d 1 R).d 3 R).d 5 R).d 7 R).d 9 R).e 5 [4, 3, 2, 1, 0])) ?_))))
 refine lC 5 cb64 R (Z1r_ok hx11) R ?_
 rintro _
 refine lN W1 ?_
 refine lI R (l_nil (q_next (c_seq (c_seq (c_region (lI R (lO (vLt R R) (l_nil (q_next ?_)))))))))
 rcases bif_ hr with ⟨hb12, hr⟩ | ⟨hb12, hr⟩
 refine c_true R hb12 (c_seq (c_region (lI R (l_nil (q_next (c_ret (q_ret ?_)))))))
 obtain rfl := so hr
 exact qF () (fun w s => (s.e 7 []))
 refine c_false R hb12 (c_skip (q_next (c_seq ?_)))
 obtain ⟨r13, hx14, hr⟩ := bd hr
 refine c_region (lO (vFa 5 fo38_1 R) (lO (vLd 0 ag22 R R R) (lI R (lM (RR kT3 A7 D7 a1.Offsets :: W1) (fun w s => (s.d 6 R)) ?_))))
 refine lC 1 cb46 R (Zh_ok hx14) R ?_
 rintro _
 refine lN W1 ?_
 refine lI R (l_nil (q_next (c_seq (c_seq (c_region (lI R (lO (vLt R R) (l_nil (q_next ?_)))))))))
 rcases bif_ hr with ⟨hb15, hr⟩ | ⟨hb15, hr⟩
 refine c_true R hb15 (c_seq (c_region (lI R (l_nil (q_next (c_ret (q_ret ?_)))))))
 obtain rfl := so hr
 exact qF () (fun w s => (s.e 7 []))
 refine c_false R hb15 (c_skip (q_next (c_seq (c_region (lI R (lI R (l_nil (q_next (c_ret ?_)))))))))
 obtain rfl := so hr
 exact qF () (fun w s => (s.e 7 []))
theorem Z21_ok  {aL1 : Nest} {r : Bool} (hr : Z21 aL1 = some r) :
 FnOk Tryz.prog 4 [(.agg [(.slice A2 N2 D2), (.slice A3 N3 D3), (.slice A4 N4 D4), (.slice A5 N5 D5), (.slice A6 N6 D6)].toArray)] [rds kT3 (.slice A2 N2 D2) aL1.Sizes, rds kT3 (.slice A3 N3 D3) aL1.Ins, rds kT115 (.slice A4 N4 D4) aL1.Fixed, rds kT121 (.slice A5 N5 D5) aL1.Kernels, rds kT3 (.slice A6 N6 D6) aL1.Outs] (fun (h : Unit) => ((.bool r), [])) := by
 unfold Z21 at hr
 refine fn_ok Tryz.func4 R 96 R R fun C V => ?_
 refine cN (_ :: _ :: _ :: _ :: _ :: V) ?_
 refine cL 0 sees_rd ?_
 rintro rfl
 refine cL 1 sees_rd ?_
 rintro rfl
 refine cL 2 sees_rd ?_
 rintro rfl
 refine cL 3 sees_rd ?_
 rintro rfl
 refine cL 4 sees_rd ?_
 rintro rfl
 let W0 : List HP := RR kT3 A2 D2 aL1.Sizes :: RR kT3 A3 D3 aL1.Ins :: RR kT115 A4 D4 aL1.Fixed :: RR kT121 A5 D5 aL1.Kernels :: RR kT3 A6 D6 aL1.Outs :: V
 refine cN W0 ?_
 refine c_seq (c_region (lBx R (fun b7 => (lB R (l_nil ?_)))))
 let W1 : List HP := bxl b7 [(sc A2 aL1.Sizes D2), (sc A3 aL1.Ins D3), (sc A4 aL1.Fixed D4), (sc A5 aL1.Kernels D5), (sc A6 aL1.Outs D6)] 26 :: W0
 refine qN W1 ?_
 refine q_next (c_seq (c_region (lI R (l_nil (q_next (c_seq ?_))))))
 obtain ⟨r8, hx9, hr⟩ := bd hr
 refine c_region (lO (vz (.agg [(sc A2 aL1.Sizes D2), (sc A3 aL1.Ins D3), (sc A4 aL1.Fixed D4), (sc A5 aL1.Kernels D5), (sc A6 aL1.Outs D6)].toArray) (v_loadw 0 ag26 sz26 R R R R)) (lI R (lM (RR kT3 A2 D2 aL1.Sizes :: RR kT3 A3 D3 aL1.Ins :: RR kT115 A4 D4 aL1.Fixed :: RR kT121 A5 D5 aL1.Kernels :: RR kT3 A6 D6 aL1.Outs :: W1) (fun w s => ((((((s.d 1 R).d 3 R).d 5 R).d 7 R).d 9 R).e 5 [4, 3, 2, 1, 0])) ?_)))
 refine lC 5 cb16 R (Z1s_ok hx9) R ?_
 rintro _
 refine lN W1 ?_
 refine lI R (l_nil (q_next (c_seq (c_seq (c_region (lI R (lO (vLt R R) (l_nil (q_next ?_)))))))))
 rcases bif_ hr with ⟨hb10, hr⟩ | ⟨hb10, hr⟩
 refine c_true R hb10 (c_seq (c_region (lB R (l_nil (q_next (c_ret (q_ret ?_)))))))
 obtain rfl := so hr
 exact qF () (fun w s => (s.e 6 []))
 refine c_false R hb10 (c_skip (q_next (c_seq ?_)))
 obtain ⟨r11, hx12, hr⟩ := bd hr
 obtain ⟨r18, hx19, hr⟩ := bd hr
 refine c_region (lO (vz (.agg [(sc A2 aL1.Sizes D2), (sc A3 aL1.Ins D3), (sc A4 aL1.Fixed D4), (sc A5 aL1.Kernels D5), (sc A6 aL1.Outs D6)].toArray) (v_loadw 0 ag26 sz26 R R R R)) (lM (RR kT3 A2 D2 aL1.Sizes :: RR kT3 A3 D3 aL1.Ins :: RR kT115 A4 D4 aL1.Fixed :: RR kT121 A5 D5 aL1.Kernels :: RR kT3 A6 D6 aL1.Outs :: W1) (fun w s => ((((((s.d 1 R).d 3 R).d 5 R).d 7 R).d 9 R).e 5 [4, 3, 2, 1, 0])) ?_))
 refine lC 5 cb18 R (Z11_ok hx12) R ?_
 rintro ⟨⟨A13, N13, D13⟩, ⟨A14, N14, D14⟩, ⟨A15, N15, D15⟩, ⟨A16, N16, D16⟩, ⟨A17, N17, D17⟩⟩
 refine lN (ow kT3 3 (.slice A13 N13 D13) r11.Sizes :: ow kT3 3 (.slice A14 N14 D14) r11.Ins :: ow kT57 57 (.slice A15 N15 D15) r11.Fixed :: ow kT64 64 (.slice A16 N16 D16) r11.Kernels :: ow kT3 3 (.slice A17 N17 D17) r11.Outs :: W1) ?_
 refine l_len 0 sees_ow ?_
 rintro rfl
 refine l_len 1 sees_ow ?_
 rintro rfl
 refine l_len 2 sees_ow ?_
 rintro rfl
 refine l_len 3 sees_ow ?_
 rintro rfl
 refine l_len 4 sees_ow ?_
 rintro rfl
 refine lC 5 cb17 R (FnOk.lends (A' := [OO kT3 3 A13 D13 r11.Sizes, OO kT3 3 A14 D14 r11.Ins, OO kT57 57 A15 D15 r11.Fixed, OO kT64 64 A16 D16 r11.Kernels, OO kT3 3 A17 D17 r11.Outs]) (A := [RR kT3 A13 D13 r11.Sizes, RR kT3 A14 D14 r11.Ins, RR kT57 A15 D15 r11.Fixed, RR kT64 A16 D16 r11.Kernels, RR kT3 A17 D17 r11.Outs]) (B := []) (Ze_ok hx19) ⟨lend_ow, lend_ow, lend_ow, lend_ow, lend_ow, trivial⟩ (fun _ => ⟨(closed_ow cT3), (closed_ow cT3), (closed_ow cT57), (closed_ow cT64), (closed_ow cT3), (closed_ow cT3), trivial⟩)) R ?_
 rintro ⟨⟨A20, N20, D20⟩, ⟨A21, N21, D21⟩, ⟨A22, N22, D22⟩, ⟨A23, N23, D23⟩, ⟨A24, N24, D24⟩, ⟨A25, N25, D25⟩⟩
 refine lN (_ :: _ :: _ :: _ :: _ :: ow kT3 3 (.slice A20 N20 D20) r18.1.Nest.Sizes :: ow kT3 3 (.slice A21 N21 D21) r18.1.Nest.Ins :: ow kT57 57 (.slice A22 N22 D22) r18.1.Nest.Fixed :: ow kT64 64 (.slice A23 N23 D23) r18.1.Nest.Kernels :: ow kT3 3 (.slice A24 N24 D24) r18.1.Nest.Outs :: ow kT3 3 (.slice A25 N25 D25) r18.1.Offsets :: W1) ?_
 refine l_len 5 sees_ow ?_
 rintro rfl
 refine l_len 6 sees_ow ?_
 rintro rfl
 refine l_len 7 sees_ow ?_
 rintro rfl
 refine l_len 8 sees_ow ?_
 rintro rfl
 refine l_len 9 sees_ow ?_
 rintro rfl
 refine l_len 10 sees_ow ?_
 rintro rfl
 refine lO (vT R) (lO (vA R) (lB R (l_alloc R R zc38 (fun b26 => (l_stores 0 R R sz38 R R R R R R (lN (bxl b26 [(sc A20 r18.1.Nest.Sizes D20), (sc A21 r18.1.Nest.Ins D21), (sc A22 r18.1.Nest.Fixed D22), (sc A23 r18.1.Nest.Kernels D23), (sc A24 r18.1.Nest.Outs D24), (sc A25 r18.1.Offsets D25), (iv r18.1.Arena)] 38 :: _ :: _ :: _ :: _ :: _ :: _ :: _ :: _ :: _ :: _ :: _ :: W1) ?_))))))
 refine lB R (l_nil (q_next (c_seq ?_)))
 obtain ⟨r27, hx28, hr⟩ := bd hr
 refine c_region (lO (vz (.agg [(sc A2 aL1.Sizes D2), (sc A3 aL1.Ins D3), (sc A4 aL1.Fixed D4), (sc A5 aL1.Kernels D5), (sc A6 aL1.Outs D6)].toArray) (v_loadw 12 ag26 sz26 R R R R)) (lM (RR kT3 A2 D2 aL1.Sizes :: RR kT3 A3 D3 aL1.Ins :: RR kT115 A4 D4 aL1.Fixed :: RR kT121 A5 D5 aL1.Kernels :: RR kT3 A6 D6 aL1.Outs :: bxl _ _ _ :: ow _ _ _ _ :: ow _ _ _ _ :: ow _ _ _ _ :: ow _ _ _ _ :: ow _ _ _ _ :: ow _ _ _ _ :: ow _ _ _ _ :: ow _ _ _ _ :: ow _ _ _ _ :: ow _ _ _ _ :: ow _ _ _ _ :: W1) (fun w s => ((((((s.d 13 R).d 15 R).d 17 R).d 19 R).d 21 R).f 17 [4, 1, 3, 1, 2, 1, 1, 1, 0, 1, 5, 12])) ?_))
 refine lC 5 cb18 R (Z11_ok hx28) R ?_
 rintro ⟨⟨A29, N29, D29⟩, ⟨A30, N30, D30⟩, ⟨A31, N31, D31⟩, ⟨A32, N32, D32⟩, ⟨A33, N33, D33⟩⟩
 refine lN (ow kT3 3 (.slice A29 N29 D29) r27.Sizes :: ow kT3 3 (.slice A30 N30 D30) r27.Ins :: ow kT57 57 (.slice A31 N31 D31) r27.Fixed :: ow kT64 64 (.slice A32 N32 D32) r27.Kernels :: ow kT3 3 (.slice A33 N33 D33) r27.Outs :: _ :: _ :: _ :: _ :: _ :: _ :: _ :: _ :: _ :: _ :: _ :: _ :: W1) ?_
 refine l_len 0 sees_ow ?_
 rintro rfl
 refine l_len 1 sees_ow ?_
 rintro rfl
 refine l_len 2 sees_ow ?_
 rintro rfl
 refine l_len 3 sees_ow ?_
 rintro rfl
 refine l_len 4 sees_ow ?_
 rintro rfl
 refine l_alloc R R zc36 (fun b34 => (l_stores 0 R R sz36 R R R R R R (lN (bxl b34 [(sc A29 r27.Sizes D29), (sc A30 r27.Ins D30), (sc A31 r27.Fixed D31), (sc A32 r27.Kernels D32), (sc A33 r27.Outs D33)] 36 :: _ :: _ :: _ :: _ :: _ :: _ :: _ :: _ :: _ :: _ :: _ :: _ :: _ :: _ :: _ :: _ :: _ :: W1) ?_)))
 refine l_nil (q_next (c_seq ?_))
 obtain ⟨r35, hx36, hr⟩ := bd hr
 refine c_region (lO (vz (.agg [(sc A29 r27.Sizes D29), (sc A30 r27.Ins D30), (sc A31 r27.Fixed D31), (sc A32 r27.Kernels D32), (sc A33 r27.Outs D33)].toArray) (v_loadw 0 ag36 sz36 R R R R)) (lM (ow _ _ _ _ :: ow _ _ _ _ :: ow _ _ _ _ :: ow _ _ _ _ :: ow _ _ _ _ :: bxl _ _ _ :: bxl _ _ _ :: ow _ _ _ _ :: ow _ _ _ _ :: ow _ _ _ _ :: ow _ _ _ _ :: ow _ _ _ _ :: ow _ _ _ _ :: ow _ _ _ _ :: ow _ _ _ _ :: ow _ _ _ _ :: ow _ _ _ _ :: ow _ _ _ _ :: W1) (fun w s => (s.f 18 [1, 5, 0, 1, 6, 12])) ?_))
 refine lC 5 cb19 R (FnOk.lends (A' := [OO kT3 3 A29 D29 r27.Sizes, OO kT3 3 A30 D30 r27.Ins, OO kT57 57 A31 D31 r27.Fixed, OO kT64 64 A32 D32 r27.Kernels, OO kT3 3 A33 D33 r27.Outs]) (A := [RR kT3 A29 D29 r27.Sizes, RR kT3 A30 D30 r27.Ins, RR kT57 A31 D31 r27.Fixed, RR kT64 A32 D32 r27.Kernels, RR kT3 A33 D33 r27.Outs]) (B := []) (Zt_ok hx36) ⟨lend_ow, lend_ow, lend_ow, lend_ow, lend_ow, trivial⟩ (fun _ => ⟨(closed_ow cT3), (closed_ow cT3), (closed_ow cT57), (closed_ow cT64), (closed_ow cT3), (closed_ow cT3), trivial⟩)) R ?_
 rintro ⟨⟨A37, N37, D37⟩, ⟨A38, N38, D38⟩, ⟨A39, N39, D39⟩, ⟨A40, N40, D40⟩, ⟨A41, N41, D41⟩, ⟨A42, N42, D42⟩⟩
 refine lN (_ :: _ :: _ :: _ :: _ :: ow kT3 3 (.slice A37 N37 D37) r35.1.Nest.Sizes :: ow kT3 3 (.slice A38 N38 D38) r35.1.Nest.Ins :: ow kT57 57 (.slice A39 N39 D39) r35.1.Nest.Fixed :: ow kT64 64 (.slice A40 N40 D40) r35.1.Nest.Kernels :: ow kT3 3 (.slice A41 N41 D41) r35.1.Nest.Outs :: ow kT3 3 (.slice A42 N42 D42) r35.1.Offsets :: _ :: _ :: _ :: _ :: _ :: _ :: _ :: _ :: _ :: _ :: _ :: _ :: _ :: W1) ?_
 refine l_len 5 sees_ow ?_
 rintro rfl
 refine l_len 6 sees_ow ?_
 rintro rfl
 refine l_len 7 sees_ow ?_
 rintro rfl
 refine l_len 8 sees_ow ?_
 rintro rfl
 refine l_len 9 sees_ow ?_
 rintro rfl
 refine l_len 10 sees_ow ?_
 rintro rfl
 refine lO (vT R) (lO (vA R) (lB R (l_alloc R R zc38 (fun b43 => (l_stores 0 R R sz38 R R R R R R (lN (bxl b43 [(sc A37 r35.1.Nest.Sizes D37), (sc A38 r35.1.Nest.Ins D38), (sc A39 r35.1.Nest.Fixed D39), (sc A40 r35.1.Nest.Kernels D40), (sc A41 r35.1.Nest.Outs D41), (sc A42 r35.1.Offsets D42), (iv r35.1.Arena)] 38 :: _ :: _ :: _ :: _ :: _ :: _ :: _ :: _ :: _ :: _ :: _ :: _ :: _ :: _ :: _ :: _ :: _ :: _ :: _ :: _ :: _ :: _ :: _ :: _ :: W1) ?_))))))
 refine lB R (l_nil (q_next (c_seq (c_seq ?_))))
 obtain ⟨r44, hx45, hr⟩ := bd hr
 refine cQ [(1, (pt b7 0)), (4, (pt b26 0)), (5, (.bool r18.2)), (6, (pt b34 0)), (7, (pt b43 0)), (8, (.bool r35.2)), (40, (.bool ((!r44) || (!(r35.2 == r18.2)))))] (bxl b26 [(sc A20 r18.1.Nest.Sizes D20), (sc A21 r18.1.Nest.Ins D21), (sc A22 r18.1.Nest.Fixed D22), (sc A23 r18.1.Nest.Kernels D23), (sc A24 r18.1.Nest.Outs D24), (sc A25 r18.1.Offsets D25), (iv r18.1.Arena)] 38 :: OO kT3 3 A20 D20 r18.1.Nest.Sizes :: OO kT3 3 A21 D21 r18.1.Nest.Ins :: OO kT57 57 A22 D22 r18.1.Nest.Fixed :: OO kT64 64 A23 D23 r18.1.Nest.Kernels :: OO kT3 3 A24 D24 r18.1.Nest.Outs :: OO kT3 3 A25 D25 r18.1.Offsets :: bxl b34 [(sc A29 r27.Sizes D29), (sc A30 r27.Ins D30), (sc A31 r27.Fixed D31), (sc A32 r27.Kernels D32), (sc A33 r27.Outs D33)] 36 :: OO kT3 3 A29 D29 r27.Sizes :: OO kT3 3 A30 D30 r27.Ins :: OO kT57 57 A31 D31 r27.Fixed :: OO kT64 64 A32 D32 r27.Kernels :: OO kT3 3 A33 D33 r27.Outs :: bxl b43 [(sc A37 r35.1.Nest.Sizes D37), (sc A38 r35.1.Nest.Ins D38), (sc A39 r35.1.Nest.Fixed D39), (sc A40 r35.1.Nest.Kernels D40), (sc A41 r35.1.Nest.Outs D41), (sc A42 r35.1.Offsets D42), (iv r35.1.Arena)] 38 :: OO kT3 3 A37 D37 r35.1.Nest.Sizes :: OO kT3 3 A38 D38 r35.1.Nest.Ins :: OO kT57 57 A39 D39 r35.1.Nest.Fixed :: OO kT64 64 A40 D40 r35.1.Nest.Kernels :: OO kT3 3 A41 D41 r35.1.Nest.Outs :: OO kT3 3 A42 D42 r35.1.Offsets :: W1) ?_ ?_
 refine c_region (lO (vz (.agg [(sc A37 r35.1.Nest.Sizes D37), (sc A38 r35.1.Nest.Ins D38), (sc A39 r35.1.Nest.Fixed D39), (sc A40 r35.1.Nest.Kernels D40), (sc A41 r35.1.Nest.Outs D41), (sc A42 r35.1.Offsets D42), (iv r35.1.Arena)].toArray) (v_loadw 0 ag38 sz38 R R R R)) (lO (vz (.agg [(sc A20 r18.1.Nest.Sizes D20), (sc A21 r18.1.Nest.Ins D21), (sc A22 r18.1.Nest.Fixed D22), (sc A23 r18.1.Nest.Kernels D23), (sc A24 r18.1.Nest.Outs D24), (sc A25 r18.1.Offsets D25), (iv r18.1.Arena)].toArray) (v_loadw 13 ag38 sz38 R R R R)) (lM (ow _ _ _ _ :: ow _ _ _ _ :: ow _ _ _ _ :: ow _ _ _ _ :: ow _ _ _ _ :: ow _ _ _ _ :: ow _ _ _ _ :: ow _ _ _ _ :: ow _ _ _ _ :: ow _ _ _ _ :: ow _ _ _ _ :: ow _ _ _ _ :: bxl _ _ _ :: ow _ _ _ _ :: ow _ _ _ _ :: ow _ _ _ _ :: ow _ _ _ _ :: ow _ _ _ _ :: bxl _ _ _ :: bxl _ _ _ :: ow _ _ _ _ :: ow _ _ _ _ :: ow _ _ _ _ :: ow _ _ _ _ :: ow _ _ _ _ :: W1) (fun w s => (s.f 25 [6, 6, 19, 6, 0, 6, 12, 7])) ?_)))
 refine lC 12 cb12 R (FnOk.lends (A' := [OO kT3 3 A37 D37 r35.1.Nest.Sizes, OO kT3 3 A38 D38 r35.1.Nest.Ins, OO kT57 57 A39 D39 r35.1.Nest.Fixed, OO kT64 64 A40 D40 r35.1.Nest.Kernels, OO kT3 3 A41 D41 r35.1.Nest.Outs, OO kT3 3 A42 D42 r35.1.Offsets, OO kT3 3 A20 D20 r18.1.Nest.Sizes, OO kT3 3 A21 D21 r18.1.Nest.Ins, OO kT57 57 A22 D22 r18.1.Nest.Fixed, OO kT64 64 A23 D23 r18.1.Nest.Kernels, OO kT3 3 A24 D24 r18.1.Nest.Outs, OO kT3 3 A25 D25 r18.1.Offsets]) (A := [RR kT3 A37 D37 r35.1.Nest.Sizes, RR kT3 A38 D38 r35.1.Nest.Ins, RR kT57 A39 D39 r35.1.Nest.Fixed, RR kT64 A40 D40 r35.1.Nest.Kernels, RR kT3 A41 D41 r35.1.Nest.Outs, RR kT3 A42 D42 r35.1.Offsets, RR kT3 A20 D20 r18.1.Nest.Sizes, RR kT3 A21 D21 r18.1.Nest.Ins, RR kT57 A22 D22 r18.1.Nest.Fixed, RR kT64 A23 D23 r18.1.Nest.Kernels, RR kT3 A24 D24 r18.1.Nest.Outs, RR kT3 A25 D25 r18.1.Offsets]) (B := []) (Z14_ok hx45) ⟨lend_ow, lend_ow, lend_ow, lend_ow, lend_ow, lend_ow, lend_ow, lend_ow, lend_ow, lend_ow, lend_ow, lend_ow, trivial⟩ (fun _ => trivial)) R ?_
 rintro _
 refine lO (vNo R) (lB R ?_)
 rcases bo (!r44) with hc46 | hc46
 refine lf (wfT hc46) (lf (wfT hc46) (lf (wfT hc46) (lO (pOT (!(r35.2 == r18.2)) R hc46) (l_nil ?_))))
 exact qJ (fun w s => (s.f 25 [19, 1, 6, 6, 18, 1, 13, 5, 12, 1, 0, 6]))
 refine lW (wnF hc46) (vB R) (lW (wnF hc46) (vB R) (lW (wnF hc46) (v_bne un4 R R) (lO (pOF R hc46 R) (l_nil ?_))))
 exact qJ (fun w s => (s.f 25 [19, 1, 6, 6, 18, 1, 13, 5, 12, 1, 0, 6]))
 rintro σ1
 refine q_next ?_
 rcases bif_ hr with ⟨hb47, hr⟩ | ⟨hb47, hr⟩
 refine c_true R hb47 (c_seq (c_region (lB R (l_nil (q_next (c_ret (q_ret ?_)))))))
 obtain rfl := so hr
 exact qF () (fun w s => (s.e 26 []))
 refine c_false R hb47 (c_skip (q_next (c_seq (c_seq ?_))))
 obtain ⟨r48, hx49, hr⟩ := bd hr
 obtain ⟨r55, hx56, hr⟩ := bd hr
 refine cdr 5 [] mixo (fun ht hn => (dR 0 R (vz (.agg [(sc A29 r27.Sizes D29), (sc A30 r27.Ins D30), (sc A31 r27.Fixed D31), (sc A32 r27.Kernels D32), (sc A33 r27.Outs D33)].toArray) (v_loadw 7 ag36 sz36 R R R R)) (dR 1 R (vz (.agg [(sc A2 aL1.Sizes D2), (sc A3 aL1.Ins D3), (sc A4 aL1.Fixed D4), (sc A5 aL1.Kernels D5), (sc A6 aL1.Outs D6)].toArray) (v_loadw 20 ag26 sz26 R R R R)) (d1 2 R (lM (RR kT3 A2 D2 aL1.Sizes :: RR kT3 A3 D3 aL1.Ins :: RR kT115 A4 D4 aL1.Fixed :: RR kT121 A5 D5 aL1.Kernels :: RR kT3 A6 D6 aL1.Outs :: bxl _ _ _ :: ow _ _ _ _ :: ow _ _ _ _ :: ow _ _ _ _ :: ow _ _ _ _ :: ow _ _ _ _ :: ow _ _ _ _ :: bxl _ _ _ :: ow _ _ _ _ :: ow _ _ _ _ :: ow _ _ _ _ :: ow _ _ _ _ :: ow _ _ _ _ :: bxl _ _ _ :: ow _ _ _ _ :: ow _ _ _ _ :: ow _ _ _ _ :: ow _ _ _ _ :: ow _ _ _ _ :: ow _ _ _ _ :: W1) (fun w s => ((((((s.d 21 R).d 23 R).d 25 R).d 27 R).d 29 R).f 25 [4, 1, 3, 1, 2, 1, 1, 1, 0, 1, 5, 20])) ?_)))))
 refine lC 5 cb18 R (Z11_ok hx49) R ?_
 rintro ⟨⟨A50, N50, D50⟩, ⟨A51, N51, D51⟩, ⟨A52, N52, D52⟩, ⟨A53, N53, D53⟩, ⟨A54, N54, D54⟩⟩
 refine lN (ow kT3 3 (.slice A50 N50 D50) r48.Sizes :: ow kT3 3 (.slice A51 N51 D51) r48.Ins :: ow kT57 57 (.slice A52 N52 D52) r48.Fixed :: ow kT64 64 (.slice A53 N53 D53) r48.Kernels :: ow kT3 3 (.slice A54 N54 D54) r48.Outs :: _ :: _ :: _ :: _ :: _ :: _ :: _ :: _ :: _ :: _ :: _ :: _ :: _ :: _ :: _ :: _ :: _ :: _ :: _ :: _ :: W1) ?_
 refine l_len 0 sees_ow ?_
 rintro rfl
 refine l_len 1 sees_ow ?_
 rintro rfl
 refine l_len 2 sees_ow ?_
 rintro rfl
 refine l_len 3 sees_ow ?_
 rintro rfl
 refine l_len 4 sees_ow ?_
 rintro rfl
 refine l_nil (q_draw (sL [4, 3, 2, 1, 0]) (d1 3 R (lM (ow _ _ _ _ :: ow _ _ _ _ :: ow _ _ _ _ :: ow _ _ _ _ :: ow _ _ _ _ :: ow _ _ _ _ :: ow _ _ _ _ :: ow _ _ _ _ :: ow _ _ _ _ :: ow _ _ _ _ :: bxl _ _ _ :: ow _ _ _ _ :: ow _ _ _ _ :: ow _ _ _ _ :: ow _ _ _ _ :: ow _ _ _ _ :: ow _ _ _ _ :: bxl _ _ _ :: bxl _ _ _ :: ow _ _ _ _ :: ow _ _ _ _ :: ow _ _ _ _ :: ow _ _ _ _ :: ow _ _ _ _ :: ow _ _ _ _ :: W1) (fun w s => (s.f 25 [13, 5, 0, 13, 18, 7])) ?_)))
 refine lC 10 cb20 R (FnOk.lends (A' := [OO kT3 3 A29 D29 r27.Sizes, OO kT3 3 A30 D30 r27.Ins, OO kT57 57 A31 D31 r27.Fixed, OO kT64 64 A32 D32 r27.Kernels, OO kT3 3 A33 D33 r27.Outs, OO kT3 3 A50 D50 r48.Sizes, OO kT3 3 A51 D51 r48.Ins, OO kT57 57 A52 D52 r48.Fixed, OO kT64 64 A53 D53 r48.Kernels, OO kT3 3 A54 D54 r48.Outs]) (A := [RR kT3 A29 D29 r27.Sizes, RR kT3 A30 D30 r27.Ins, RR kT57 A31 D31 r27.Fixed, RR kT64 A32 D32 r27.Kernels, RR kT3 A33 D33 r27.Outs, RR kT3 A50 D50 r48.Sizes, RR kT3 A51 D51 r48.Ins, RR kT57 A52 D52 r48.Fixed, RR kT64 A53 D53 r48.Kernels, RR kT3 A54 D54 r48.Outs]) (B := []) (Z1c_ok hx56) ⟨lend_ow, lend_ow, lend_ow, lend_ow, lend_ow, lend_ow, lend_ow, lend_ow, lend_ow, lend_ow, trivial⟩ (fun _ => trivial)) R ?_
 rintro _
 refine l_nil (q_draw (fun w s => (s.f 25 [10, 8, 0, 5, 18, 7])) (dR 4 R (vNo R) (hS := (fun w s => (s.f 25 [10, 8, 0, 5, 18, 7]))) (dD (q_next ?_))))
 rcases bif_ hr with ⟨hb57, hr⟩ | ⟨hb57, hr⟩
 refine c_true R hb57 (c_seq (c_region (lB R (l_nil (q_next (c_ret (q_ret ?_)))))))
 obtain rfl := so hr
 exact qF () (fun w s => (s.e 31 []))
 refine c_false R hb57 (c_skip (q_next (c_seq (c_region (lI R (l_nil (q_next (c_seq ?_))))))))
 obtain ⟨r58, hx59, hr⟩ := bd hr
 refine c_region (lO (vz (.agg [(sc A29 r27.Sizes D29), (sc A30 r27.Ins D30), (sc A31 r27.Fixed D31), (sc A32 r27.Kernels D32), (sc A33 r27.Outs D33)].toArray) (v_loadw 17 ag36 sz36 R R R R)) (lI R (lC 5 cb21 R (Z18_ok hx59) R ?_)))
 rintro _
 refine lN (ow kT3 3 (.slice A29 r27.Sizes.length D29) r58.2.1 :: ow kT3 3 (.slice A30 r27.Ins.length D30) r58.2.2.1 :: ow kT57 57 (.slice A31 r27.Fixed.length D31) r58.2.2.2.1 :: ow kT64 64 (.slice A32 r27.Kernels.length D32) r58.2.2.2.2.1 :: ow kT3 3 (.slice A33 r27.Outs.length D33) r58.2.2.2.2.2 :: _ :: _ :: _ :: _ :: _ :: _ :: _ :: _ :: _ :: _ :: _ :: _ :: _ :: _ :: _ :: _ :: _ :: _ :: _ :: _ :: W1) ?_
 refine lI R (l_nil (q_next (c_seq (c_seq ?_))))
 obtain ⟨r60, hx61, hr⟩ := bd hr
 refine cQ [(1, (pt b7 0)), (4, (pt b26 0)), (5, (.bool r18.2)), (7, (pt b43 0)), (61, (.bool (((decide (r58.1 < (0 : Int))) || (!r60)) || (!(r35.2 == r18.2)))))] (bxl b26 [(sc A20 r18.1.Nest.Sizes D20), (sc A21 r18.1.Nest.Ins D21), (sc A22 r18.1.Nest.Fixed D22), (sc A23 r18.1.Nest.Kernels D23), (sc A24 r18.1.Nest.Outs D24), (sc A25 r18.1.Offsets D25), (iv r18.1.Arena)] 38 :: OO kT3 3 A20 D20 r18.1.Nest.Sizes :: OO kT3 3 A21 D21 r18.1.Nest.Ins :: OO kT57 57 A22 D22 r18.1.Nest.Fixed :: OO kT64 64 A23 D23 r18.1.Nest.Kernels :: OO kT3 3 A24 D24 r18.1.Nest.Outs :: OO kT3 3 A25 D25 r18.1.Offsets :: bxl b43 [(sc A37 r35.1.Nest.Sizes D37), (sc A38 r35.1.Nest.Ins D38), (sc A39 r35.1.Nest.Fixed D39), (sc A40 r35.1.Nest.Kernels D40), (sc A41 r35.1.Nest.Outs D41), (sc A42 r35.1.Offsets D42), (iv r35.1.Arena)] 38 :: OO kT3 3 A37 D37 r35.1.Nest.Sizes :: OO kT3 3 A38 D38 r35.1.Nest.Ins :: OO kT57 57 A39 D39 r35.1.Nest.Fixed :: OO kT64 64 A40 D40 r35.1.Nest.Kernels :: OO kT3 3 A41 D41 r35.1.Nest.Outs :: OO kT3 3 A42 D42 r35.1.Offsets :: W1) ?_ ?_
 refine c_region (lI R (lO (vLt R R) (lB R ?_)))
 rcases bo (decide (r58.1 < (0 : Int))) with hc62 | hc62
 refine lf (wfT hc62) (lf (wfT hc62) (lf (wfT hc62) (lf (wfT hc62) (lO (pOT (!r60) R hc62) (lB R (lf (wfT (oT hc62)) (lf (wfT (oT hc62)) (lf (wfT (oT hc62)) (lO (pOT (!(r35.2 == r18.2)) R (oT hc62)) (l_nil ?_))))))))))
 exact qJ (fun w s => (s.f 25 [10, 7, 18, 7]))
 refine lW (wnF hc62) (vz (.agg [(sc A37 r35.1.Nest.Sizes D37), (sc A38 r35.1.Nest.Ins D38), (sc A39 r35.1.Nest.Fixed D39), (sc A40 r35.1.Nest.Kernels D40), (sc A41 r35.1.Nest.Outs D41), (sc A42 r35.1.Offsets D42), (iv r35.1.Arena)].toArray) (v_loadw 18 ag38 sz38 R R R R)) (lW (wnF hc62) (vz (.agg [(sc A20 r18.1.Nest.Sizes D20), (sc A21 r18.1.Nest.Ins D21), (sc A22 r18.1.Nest.Fixed D22), (sc A23 r18.1.Nest.Kernels D23), (sc A24 r18.1.Nest.Outs D24), (sc A25 r18.1.Offsets D25), (iv r18.1.Arena)].toArray) (v_loadw 10 ag38 sz38 R R R R)) (lM (ow _ _ _ _ :: ow _ _ _ _ :: ow _ _ _ _ :: ow _ _ _ _ :: ow _ _ _ _ :: ow _ _ _ _ :: ow _ _ _ _ :: ow _ _ _ _ :: ow _ _ _ _ :: ow _ _ _ _ :: ow _ _ _ _ :: ow _ _ _ _ :: ow _ _ _ _ :: ow _ _ _ _ :: ow _ _ _ _ :: ow _ _ _ _ :: ow _ _ _ _ :: ow _ _ _ _ :: ow _ _ _ _ :: ow _ _ _ _ :: ow _ _ _ _ :: ow _ _ _ _ :: bxl _ _ _ :: bxl _ _ _ :: bxl _ _ _ :: W1) (fun w s => (s.f 25 [19, 6, 11, 6, 0, 11, 17, 2])) ?_))
 refine l_calln 12 R (wnF hc62) cb12 R (FnOk.lends (A' := [OO kT3 3 A37 D37 r35.1.Nest.Sizes, OO kT3 3 A38 D38 r35.1.Nest.Ins, OO kT57 57 A39 D39 r35.1.Nest.Fixed, OO kT64 64 A40 D40 r35.1.Nest.Kernels, OO kT3 3 A41 D41 r35.1.Nest.Outs, OO kT3 3 A42 D42 r35.1.Offsets, OO kT3 3 A20 D20 r18.1.Nest.Sizes, OO kT3 3 A21 D21 r18.1.Nest.Ins, OO kT57 57 A22 D22 r18.1.Nest.Fixed, OO kT64 64 A23 D23 r18.1.Nest.Kernels, OO kT3 3 A24 D24 r18.1.Nest.Outs, OO kT3 3 A25 D25 r18.1.Offsets]) (A := [RR kT3 A37 D37 r35.1.Nest.Sizes, RR kT3 A38 D38 r35.1.Nest.Ins, RR kT57 A39 D39 r35.1.Nest.Fixed, RR kT64 A40 D40 r35.1.Nest.Kernels, RR kT3 A41 D41 r35.1.Nest.Outs, RR kT3 A42 D42 r35.1.Offsets, RR kT3 A20 D20 r18.1.Nest.Sizes, RR kT3 A21 D21 r18.1.Nest.Ins, RR kT57 A22 D22 r18.1.Nest.Fixed, RR kT64 A23 D23 r18.1.Nest.Kernels, RR kT3 A24 D24 r18.1.Nest.Outs, RR kT3 A25 D25 r18.1.Offsets]) (B := []) (Z14_ok (gcall_t hx61 (not_ff hc62))) ⟨lend_ow, lend_ow, lend_ow, lend_ow, lend_ow, lend_ow, lend_ow, lend_ow, lend_ow, lend_ow, lend_ow, lend_ow, trivial⟩ (fun _ => trivial)) R ?_
 rintro _
 refine lW (wnF hc62) (vNo R) (lO (pOF R hc62 R) (lB R ?_))
 rcases bo ((decide (r58.1 < (0 : Int))) || (!r60)) with hc63 | hc63
 refine lf (wfT hc63) (lf (wfT hc63) (lf (wfT hc63) (lO (pOT (!(r35.2 == r18.2)) R hc63) (l_nil ?_))))
 exact qJ (fun w s => (s.f 25 [22, 1, 6, 6, 24, 1, 0, 6]))
 refine lW (wnF hc63) (vB R) (lW (wnF hc63) (vB R) (lW (wnF hc63) (v_bne un4 R R) (lO (pOF R hc63 R) (l_nil ?_))))
 exact qJ (fun w s => (s.f 25 [22, 1, 6, 6, 24, 1, 0, 6]))
 rintro σ1
 refine q_next ?_
 rcases bif_ hr with ⟨hb64, hr⟩ | ⟨hb64, hr⟩
 refine c_true R hb64 (c_seq (c_region (lB R (l_nil (q_next (c_ret (q_ret ?_)))))))
 obtain rfl := so hr
 exact qF () (fun w s => (s.e 20 []))
 refine c_false R hb64 (c_skip (q_next (c_seq (c_region (lI R (l_nil (q_next (c_seq ?_))))))))
 obtain ⟨r65, hx66, hr⟩ := bd hr
 refine c_region (lO (vz (.agg [(sc A37 r35.1.Nest.Sizes D37), (sc A38 r35.1.Nest.Ins D38), (sc A39 r35.1.Nest.Fixed D39), (sc A40 r35.1.Nest.Kernels D40), (sc A41 r35.1.Nest.Outs D41), (sc A42 r35.1.Offsets D42), (iv r35.1.Arena)].toArray) (v_loadw 7 ag38 sz38 R R R R)) (lI R (lM (ow _ _ _ _ :: ow _ _ _ _ :: ow _ _ _ _ :: ow _ _ _ _ :: ow _ _ _ _ :: ow _ _ _ _ :: bxl _ _ _ :: ow _ _ _ _ :: ow _ _ _ _ :: ow _ _ _ _ :: ow _ _ _ _ :: ow _ _ _ _ :: ow _ _ _ _ :: bxl _ _ _ :: W1) (fun w s => (s.f 14 [8, 6, 0, 8])) ?_)))
 refine lC 6 cb13 R (Z1x_ok hx66) R ?_
 rintro _
 refine lN (ow kT3 3 (.slice A37 r35.1.Nest.Sizes.length D37) r65.2.1 :: ow kT3 3 (.slice A38 r35.1.Nest.Ins.length D38) r65.2.2.1 :: ow kT57 57 (.slice A39 r35.1.Nest.Fixed.length D39) r65.2.2.2.1 :: ow kT64 64 (.slice A40 r35.1.Nest.Kernels.length D40) r65.2.2.2.2.1 :: ow kT3 3 (.slice A41 r35.1.Nest.Outs.length D41) r65.2.2.2.2.2.1 :: ow kT3 3 (.slice A42 r35.1.Offsets.length D42) r65.2.2.2.2.2.2 :: _ :: _ :: _ :: _ :: _ :: _ :: _ :: _ :: W1) ?_
 refine lI R (l_nil (q_next (c_seq (c_region (lI R (l_nil (q_next (c_seq ?_))))))))
 obtain ⟨r67, hx68, hr⟩ := bd hr
 refine c_region (lO (vz (.agg [(sc A37 r35.1.Nest.Sizes D37), (sc A38 r35.1.Nest.Ins D38), (sc A39 r35.1.Nest.Fixed D39), (sc A40 r35.1.Nest.Kernels D40), (sc A41 r35.1.Nest.Outs D41), (sc A42 r35.1.Offsets D42), (iv r35.1.Arena)].toArray) (v_loadw 13 ag38 sz38 R R R R)) (lI R ?_))
 refine lC 6 cb22 R (FnOk.lends (A' := [ow kT3 3 (.slice A37 r35.1.Nest.Sizes.length D37) r65.2.1, ow kT3 3 (.slice A38 r35.1.Nest.Ins.length D38) r65.2.2.1, ow kT57 57 (.slice A39 r35.1.Nest.Fixed.length D39) r65.2.2.2.1, ow kT64 64 (.slice A40 r35.1.Nest.Kernels.length D40) r65.2.2.2.2.1, ow kT3 3 (.slice A41 r35.1.Nest.Outs.length D41) r65.2.2.2.2.2.1, ow kT3 3 (.slice A42 r35.1.Offsets.length D42) r65.2.2.2.2.2.2]) (A := [rds kT3 (.slice A37 r35.1.Nest.Sizes.length D37) r65.2.1, rds kT3 (.slice A38 r35.1.Nest.Ins.length D38) r65.2.2.1, rds kT57 (.slice A39 r35.1.Nest.Fixed.length D39) r65.2.2.2.1, rds kT64 (.slice A40 r35.1.Nest.Kernels.length D40) r65.2.2.2.2.1, rds kT3 (.slice A41 r35.1.Nest.Outs.length D41) r65.2.2.2.2.2.1, rds kT3 (.slice A42 r35.1.Offsets.length D42) r65.2.2.2.2.2.2]) (B := []) (Z1d_ok hx68) ⟨lend_ow, lend_ow, lend_ow, lend_ow, lend_ow, lend_ow, trivial⟩ (fun _ => trivial)) R ?_
 rintro _
 refine lI R (l_nil (q_next (c_seq (c_seq (c_region (lI R (lO (vLt R R) (l_nil (q_next ?_)))))))))
 rcases bif_ hr with ⟨hb69, hr⟩ | ⟨hb69, hr⟩
 refine c_true R hb69 (c_seq (c_region (lB R (l_nil (q_next (c_ret (q_ret ?_)))))))
 obtain rfl := so hr
 exact qF () (fun w s => (s.e 20 []))
 refine c_false R hb69 (c_skip (q_next (c_seq (c_seq (c_region (lI R (lI R (lO (vNe R R) (l_nil (q_next ?_))))))))))
 rcases bif_ hr with ⟨hb70, hr⟩ | ⟨hb70, hr⟩
 refine c_true R hb70 (c_seq (c_region (lB R (l_nil (q_next (c_ret (q_ret ?_)))))))
 obtain rfl := so hr
 exact qF () (fun w s => (s.e 20 []))
 refine c_false R hb70 (c_skip (q_next (c_seq ?_)))
 obtain ⟨r71, hx72, hr⟩ := bd hr
 obtain ⟨r78, hx79, hr⟩ := bd hr
 refine c_region (lO (vz (.agg [(sc A2 aL1.Sizes D2), (sc A3 aL1.Ins D3), (sc A4 aL1.Fixed D4), (sc A5 aL1.Kernels D5), (sc A6 aL1.Outs D6)].toArray) (v_loadw 14 ag26 sz26 R R R R)) (lM (RR kT3 A2 D2 aL1.Sizes :: RR kT3 A3 D3 aL1.Ins :: RR kT115 A4 D4 aL1.Fixed :: RR kT121 A5 D5 aL1.Kernels :: RR kT3 A6 D6 aL1.Outs :: ow _ _ _ _ :: ow _ _ _ _ :: ow _ _ _ _ :: ow _ _ _ _ :: ow _ _ _ _ :: ow _ _ _ _ :: bxl _ _ _ :: ow _ _ _ _ :: ow _ _ _ _ :: ow _ _ _ _ :: ow _ _ _ _ :: ow _ _ _ _ :: ow _ _ _ _ :: bxl _ _ _ :: W1) (fun w s => ((((((s.d 15 R).d 17 R).d 19 R).d 21 R).d 23 R).f 19 [4, 1, 3, 1, 2, 1, 1, 1, 0, 1, 5, 14])) ?_))
 refine lC 5 cb18 R (Z11_ok hx72) R ?_
 rintro ⟨⟨A73, N73, D73⟩, ⟨A74, N74, D74⟩, ⟨A75, N75, D75⟩, ⟨A76, N76, D76⟩, ⟨A77, N77, D77⟩⟩
 refine lN (ow kT3 3 (.slice A73 N73 D73) r71.Sizes :: ow kT3 3 (.slice A74 N74 D74) r71.Ins :: ow kT57 57 (.slice A75 N75 D75) r71.Fixed :: ow kT64 64 (.slice A76 N76 D76) r71.Kernels :: ow kT3 3 (.slice A77 N77 D77) r71.Outs :: _ :: _ :: _ :: _ :: _ :: _ :: _ :: _ :: _ :: _ :: _ :: _ :: _ :: _ :: W1) ?_
 refine l_len 0 sees_ow ?_
 rintro rfl
 refine l_len 1 sees_ow ?_
 rintro rfl
 refine l_len 2 sees_ow ?_
 rintro rfl
 refine l_len 3 sees_ow ?_
 rintro rfl
 refine l_len 4 sees_ow ?_
 rintro rfl
 refine lC 5 cb19 R (FnOk.lends (A' := [OO kT3 3 A73 D73 r71.Sizes, OO kT3 3 A74 D74 r71.Ins, OO kT57 57 A75 D75 r71.Fixed, OO kT64 64 A76 D76 r71.Kernels, OO kT3 3 A77 D77 r71.Outs]) (A := [RR kT3 A73 D73 r71.Sizes, RR kT3 A74 D74 r71.Ins, RR kT57 A75 D75 r71.Fixed, RR kT64 A76 D76 r71.Kernels, RR kT3 A77 D77 r71.Outs]) (B := []) (Zt_ok hx79) ⟨lend_ow, lend_ow, lend_ow, lend_ow, lend_ow, trivial⟩ (fun _ => ⟨(closed_ow cT3), (closed_ow cT3), (closed_ow cT57), (closed_ow cT64), (closed_ow cT3), (closed_ow cT3), trivial⟩)) R ?_
 rintro ⟨⟨A80, N80, D80⟩, ⟨A81, N81, D81⟩, ⟨A82, N82, D82⟩, ⟨A83, N83, D83⟩, ⟨A84, N84, D84⟩, ⟨A85, N85, D85⟩⟩
 refine lN (_ :: _ :: _ :: _ :: _ :: ow kT3 3 (.slice A80 N80 D80) r78.1.Nest.Sizes :: ow kT3 3 (.slice A81 N81 D81) r78.1.Nest.Ins :: ow kT57 57 (.slice A82 N82 D82) r78.1.Nest.Fixed :: ow kT64 64 (.slice A83 N83 D83) r78.1.Nest.Kernels :: ow kT3 3 (.slice A84 N84 D84) r78.1.Nest.Outs :: ow kT3 3 (.slice A85 N85 D85) r78.1.Offsets :: _ :: _ :: _ :: _ :: _ :: _ :: _ :: _ :: _ :: _ :: _ :: _ :: _ :: _ :: W1) ?_
 refine l_len 5 sees_ow ?_
 rintro rfl
 refine l_len 6 sees_ow ?_
 rintro rfl
 refine l_len 7 sees_ow ?_
 rintro rfl
 refine l_len 8 sees_ow ?_
 rintro rfl
 refine l_len 9 sees_ow ?_
 rintro rfl
 refine l_len 10 sees_ow ?_
 rintro rfl
 refine lO (vT R) (lO (vA R) (lB R (l_alloc R R zc38 (fun b86 => (l_stores 0 R R sz38 R R R R R R (lN (bxl b86 [(sc A80 r78.1.Nest.Sizes D80), (sc A81 r78.1.Nest.Ins D81), (sc A82 r78.1.Nest.Fixed D82), (sc A83 r78.1.Nest.Kernels D83), (sc A84 r78.1.Nest.Outs D84), (sc A85 r78.1.Offsets D85), (iv r78.1.Arena)] 38 :: _ :: _ :: _ :: _ :: _ :: _ :: _ :: _ :: _ :: _ :: _ :: _ :: _ :: _ :: _ :: _ :: _ :: _ :: _ :: _ :: _ :: _ :: _ :: _ :: _ :: W1) ?_))))))
 refine lB R (l_nil (q_next (c_seq (c_seq ?_))))
 obtain ⟨r87, hx88, hr⟩ := bd hr
 refine cQ [(7, (pt b43 0)), (10, (iv r65.1)), (87, (.bool ((!r87) || (!(r78.2 == r18.2)))))] (bxl b43 [(sc A37 r35.1.Nest.Sizes D37), (sc A38 r35.1.Nest.Ins D38), (sc A39 r35.1.Nest.Fixed D39), (sc A40 r35.1.Nest.Kernels D40), (sc A41 r35.1.Nest.Outs D41), (sc A42 r35.1.Offsets D42), (iv r35.1.Arena)] 38 :: ow kT3 3 (.slice A37 r35.1.Nest.Sizes.length D37) r65.2.1 :: ow kT3 3 (.slice A38 r35.1.Nest.Ins.length D38) r65.2.2.1 :: ow kT57 57 (.slice A39 r35.1.Nest.Fixed.length D39) r65.2.2.2.1 :: ow kT64 64 (.slice A40 r35.1.Nest.Kernels.length D40) r65.2.2.2.2.1 :: ow kT3 3 (.slice A41 r35.1.Nest.Outs.length D41) r65.2.2.2.2.2.1 :: ow kT3 3 (.slice A42 r35.1.Offsets.length D42) r65.2.2.2.2.2.2 :: W1) ?_ ?_
 refine c_region (lO (vz (.agg [(sc A80 r78.1.Nest.Sizes D80), (sc A81 r78.1.Nest.Ins D81), (sc A82 r78.1.Nest.Fixed D82), (sc A83 r78.1.Nest.Kernels D83), (sc A84 r78.1.Nest.Outs D84), (sc A85 r78.1.Offsets D85), (iv r78.1.Arena)].toArray) (v_loadw 0 ag38 sz38 R R R R)) (lO (vz (.agg [(sc A20 r18.1.Nest.Sizes D20), (sc A21 r18.1.Nest.Ins D21), (sc A22 r18.1.Nest.Fixed D22), (sc A23 r18.1.Nest.Kernels D23), (sc A24 r18.1.Nest.Outs D24), (sc A25 r18.1.Offsets D25), (iv r18.1.Arena)].toArray) (v_loadw 18 ag38 sz38 R R R R)) (lM (ow _ _ _ _ :: ow _ _ _ _ :: ow _ _ _ _ :: ow _ _ _ _ :: ow _ _ _ _ :: ow _ _ _ _ :: ow _ _ _ _ :: ow _ _ _ _ :: ow _ _ _ _ :: ow _ _ _ _ :: ow _ _ _ _ :: ow _ _ _ _ :: bxl _ _ _ :: ow _ _ _ _ :: ow _ _ _ _ :: ow _ _ _ _ :: ow _ _ _ _ :: ow _ _ _ _ :: ow _ _ _ _ :: ow _ _ _ _ :: ow _ _ _ _ :: ow _ _ _ _ :: ow _ _ _ _ :: ow _ _ _ _ :: bxl _ _ _ :: bxl _ _ _ :: W1) (fun w s => (s.f 26 [6, 6, 19, 6, 0, 6, 12, 7, 25, 1])) ?_)))
 refine lC 12 cb12 R (FnOk.lends (A' := [OO kT3 3 A80 D80 r78.1.Nest.Sizes, OO kT3 3 A81 D81 r78.1.Nest.Ins, OO kT57 57 A82 D82 r78.1.Nest.Fixed, OO kT64 64 A83 D83 r78.1.Nest.Kernels, OO kT3 3 A84 D84 r78.1.Nest.Outs, OO kT3 3 A85 D85 r78.1.Offsets, OO kT3 3 A20 D20 r18.1.Nest.Sizes, OO kT3 3 A21 D21 r18.1.Nest.Ins, OO kT57 57 A22 D22 r18.1.Nest.Fixed, OO kT64 64 A23 D23 r18.1.Nest.Kernels, OO kT3 3 A24 D24 r18.1.Nest.Outs, OO kT3 3 A25 D25 r18.1.Offsets]) (A := [RR kT3 A80 D80 r78.1.Nest.Sizes, RR kT3 A81 D81 r78.1.Nest.Ins, RR kT57 A82 D82 r78.1.Nest.Fixed, RR kT64 A83 D83 r78.1.Nest.Kernels, RR kT3 A84 D84 r78.1.Nest.Outs, RR kT3 A85 D85 r78.1.Offsets, RR kT3 A20 D20 r18.1.Nest.Sizes, RR kT3 A21 D21 r18.1.Nest.Ins, RR kT57 A22 D22 r18.1.Nest.Fixed, RR kT64 A23 D23 r18.1.Nest.Kernels, RR kT3 A24 D24 r18.1.Nest.Outs, RR kT3 A25 D25 r18.1.Offsets]) (B := []) (Z14_ok hx88) ⟨lend_ow, lend_ow, lend_ow, lend_ow, lend_ow, lend_ow, lend_ow, lend_ow, lend_ow, lend_ow, lend_ow, lend_ow, trivial⟩ (fun _ => trivial)) R ?_
 rintro _
 refine lO (vNo R) (lB R ?_)
 rcases bo (!r87) with hc89 | hc89
 refine lf (wfT hc89) (lf (wfT hc89) (lf (wfT hc89) (lO (pOT (!(r78.2 == r18.2)) R hc89) (l_nil ?_))))
 exact qJ (fun w s => (s.f 26 [25, 1, 18, 6]))
 refine lW (wnF hc89) (vB R) (lW (wnF hc89) (vB R) (lW (wnF hc89) (v_bne un4 R R) (lO (pOF R hc89 R) (l_nil ?_))))
 exact qJ (fun w s => (s.f 26 [25, 1, 18, 6]))
 rintro σ1
 refine q_next ?_
 rcases bif_ hr with ⟨hb90, hr⟩ | ⟨hb90, hr⟩
 refine c_true R hb90 (c_seq (c_region (lB R (l_nil (q_next (c_ret (q_ret ?_)))))))
 obtain rfl := so hr
 exact qF () (fun w s => (s.e 13 []))
 refine c_false R hb90 (c_skip (q_next (c_seq (c_region (lI R (l_nil (q_next (c_seq ?_))))))))
 obtain ⟨r91, hx92, hr⟩ := bd hr
 refine c_region (lO (vz (.agg [(sc A37 r35.1.Nest.Sizes D37), (sc A38 r35.1.Nest.Ins D38), (sc A39 r35.1.Nest.Fixed D39), (sc A40 r35.1.Nest.Kernels D40), (sc A41 r35.1.Nest.Outs D41), (sc A42 r35.1.Offsets D42), (iv r35.1.Arena)].toArray) (v_loadw 0 ag38 sz38 R R R R)) (lI R (lM (ow _ _ _ _ :: ow _ _ _ _ :: ow _ _ _ _ :: ow _ _ _ _ :: ow _ _ _ _ :: ow _ _ _ _ :: bxl _ _ _ :: W1) (fun w s => (s.f 7 [1, 6, 0, 1])) ?_)))
 refine lC 6 cb22 R (FnOk.lends (A' := [ow kT3 3 (.slice A37 r35.1.Nest.Sizes.length D37) r65.2.1, ow kT3 3 (.slice A38 r35.1.Nest.Ins.length D38) r65.2.2.1, ow kT57 57 (.slice A39 r35.1.Nest.Fixed.length D39) r65.2.2.2.1, ow kT64 64 (.slice A40 r35.1.Nest.Kernels.length D40) r65.2.2.2.2.1, ow kT3 3 (.slice A41 r35.1.Nest.Outs.length D41) r65.2.2.2.2.2.1, ow kT3 3 (.slice A42 r35.1.Offsets.length D42) r65.2.2.2.2.2.2]) (A := [rds kT3 (.slice A37 r35.1.Nest.Sizes.length D37) r65.2.1, rds kT3 (.slice A38 r35.1.Nest.Ins.length D38) r65.2.2.1, rds kT57 (.slice A39 r35.1.Nest.Fixed.length D39) r65.2.2.2.1, rds kT64 (.slice A40 r35.1.Nest.Kernels.length D40) r65.2.2.2.2.1, rds kT3 (.slice A41 r35.1.Nest.Outs.length D41) r65.2.2.2.2.2.1, rds kT3 (.slice A42 r35.1.Offsets.length D42) r65.2.2.2.2.2.2]) (B := []) (Z1d_ok hx92) ⟨lend_ow, lend_ow, lend_ow, lend_ow, lend_ow, lend_ow, trivial⟩ (fun _ => trivial)) R ?_
 rintro _
 refine lI R (l_nil (q_next (c_seq (c_seq (c_region (lI R (lO (vLt R R) (l_nil (q_next ?_)))))))))
 rcases bif_ hr with ⟨hb93, hr⟩ | ⟨hb93, hr⟩
 refine c_true R hb93 (c_seq (c_region (lB R (l_nil (q_next (c_ret (q_ret ?_)))))))
 obtain rfl := so hr
 exact qF () (fun w s => (s.e 13 []))
 refine c_false R hb93 (c_skip (q_next (c_seq (c_seq (c_region (lI R (lI R (lO (vNe R R) (l_nil (q_next ?_))))))))))
 rcases bif_ hr with ⟨hb94, hr⟩ | ⟨hb94, hr⟩
 refine c_true R hb94 (c_seq (c_region (lB R (l_nil (q_next (c_ret (q_ret ?_)))))))
 obtain rfl := so hr
 exact qF () (fun w s => (s.e 13 []))
 refine c_false R hb94 (c_skip (q_next (c_seq (c_region (lB R (l_nil (q_next (c_ret ?_))))))))
 obtain rfl := so hr
 exact qF () (fun w s => (s.e 13 []))
end Go.Proofs.YtkfgngcfcoplpaaGreat
