import Derived.Test.YtkfgngcfcoplpaaGuF
set_option linter.unusedVariables false
set_option maxRecDepth 20000
namespace Go.Proofs.Ytkfgngcfcoplpaa
open Go Go.Pg
variable {A2 A3 A4 A5 : Option Addr} {D2 D3 D4 D5 N2 N3 N4 N5 : Nat}
theorem Z1a_ok  {a1 : (List Int)} {left3 : Int} {r : Int} (hr : Z1a a1 left3 = some r) :
 FnOk Try.prog 85 [(.slice A2 N2 D2), (iv left3)] [rds kT3 (.slice A2 N2 D2) a1] (fun (h : Unit) => ((iv r), [])) := by
 unfold Z1a at hr
 refine fn_ok Try.func85 R 12 R R fun C V => ?_
 refine cN (_ :: V) ?_
 refine cL 0 sees_rd ?_
 rintro rfl
 let W0 : List HP := RR kT3 A2 D2 a1 :: V
 refine cN W0 ?_
 refine c_seq (c_region (lI R (l_nil (q_next (c_seq (c_region (lI R (lS R (lO (v_len sl29 R) (lO (vSb R R) (lI R (l_nil (q_next (c_seq (c_seq (c_region (lI R (lO (vLt R R) (l_nil (q_next ?_))))))))))))))))))))
 rcases bif_ hr with ⟨hb4, hr⟩ | ⟨hb4, hr⟩
 refine c_true R hb4 (c_seq (c_region (lI R (l_nil (q_next (c_ret (q_ret ?_)))))))
 obtain rfl := so hr
 exact qF () (fun w s => (s.e 1 []))
 refine c_false R hb4 (c_skip (q_next (c_seq (c_region (lI R (lI R (l_nil (q_next (c_ret ?_)))))))))
 obtain rfl := so hr
 exact qF () (fun w s => (s.e 1 []))
theorem Z18_ok  {a1 : Row} {left4 : Int} {r : Int} (hr : Z18 a1 left4 = some r) :
 FnOk Try.prog 68 [(.agg [(.slice A2 N2 D2), (.slice A3 N3 D3)].toArray), (iv left4)] [rds kT3 (.slice A2 N2 D2) a1.Key, rds kT3 (.slice A3 N3 D3) a1.Weights] (fun (h : Unit) => ((iv r), [])) := by
 unfold Z18 at hr
 refine fn_ok Try.func68 R 18 R R fun C V => ?_
 refine cN (_ :: _ :: V) ?_
 refine cL 0 sees_rd ?_
 rintro rfl
 refine cL 1 sees_rd ?_
 rintro rfl
 let W0 : List HP := RR kT3 A2 D2 a1.Key :: RR kT3 A3 D3 a1.Weights :: V
 refine cN W0 ?_
 refine c_seq (c_region (lBx R (fun b5 => (lI R (l_nil ?_)))))
 let W1 : List HP := bxl b5 [(sc A2 a1.Key D2), (sc A3 a1.Weights D3)] 89 :: W0
 refine qN W1 ?_
 refine q_next (c_seq ?_)
 obtain ⟨r6, hx7, hr⟩ := bd hr
 refine c_region (lO (vFa 0 fo89_0 R) (lO (vLd 0 ag29 R R R) (lI R (lM (RR kT3 A2 D2 a1.Key :: W1) (fun w s => (s.d 1 R)) ?_))))
 refine lC 1 cb85 R (Z1a_ok hx7) R ?_
 rintro _
 refine lN W1 ?_
 refine lI R (l_nil (q_next (c_seq (c_seq (c_region (lI R (lO (vLt R R) (l_nil (q_next ?_)))))))))
 rcases bif_ hr with ⟨hb8, hr⟩ | ⟨hb8, hr⟩
 refine c_true R hb8 (c_seq (c_region (lI R (l_nil (q_next (c_ret (q_ret ?_)))))))
 obtain rfl := so hr
 exact qF () (fun w s => (s.e 3 []))
 refine c_false R hb8 (c_skip (q_next (c_seq ?_)))
 obtain ⟨r9, hx10, hr⟩ := bd hr
 refine c_region (lO (vFa 1 fo89_1 R) (lO (vLd 0 ag29 R R R) (lI R (lM (RR kT3 A3 D3 a1.Weights :: W1) (fun w s => (s.d 2 R)) ?_))))
 refine lC 1 cb85 R (Z1a_ok hx10) R ?_
 rintro _
 refine lN W1 ?_
 refine lI R (l_nil (q_next (c_seq (c_seq (c_region (lI R (lO (vLt R R) (l_nil (q_next ?_)))))))))
 rcases bif_ hr with ⟨hb11, hr⟩ | ⟨hb11, hr⟩
 refine c_true R hb11 (c_seq (c_region (lI R (l_nil (q_next (c_ret (q_ret ?_)))))))
 obtain rfl := so hr
 exact qF () (fun w s => (s.e 3 []))
 refine c_false R hb11 (c_skip (q_next (c_seq (c_region (lI R (lI R (l_nil (q_next (c_ret ?_)))))))))
 obtain rfl := so hr
 exact qF () (fun w s => (s.e 3 []))
theorem Z0f_ok  {a1 : (List Row)} {left3 : Int} {r : Int} (hr : Z0f a1 left3 = some r) :
 FnOk Try.prog 44 [(.slice A2 N2 D2), (iv left3)] [rds kT89 (.slice A2 N2 D2) a1] (fun (h : Unit) => ((iv r), [])) := by
 unfold Z0f at hr
 refine fn_ok Try.func44 R 27 R R fun C V => ?_
 refine cN (_ :: V) ?_
 refine cL 0 sees_rd ?_
 rintro rfl
 let W0 : List HP := RR kT89 A2 D2 a1 :: V
 refine cN W0 ?_
 refine c_seq (c_region (lI R (l_nil (q_next (c_seq (c_region (lI R (lS R (lO (v_len sl38 R) (lO (vSb R R) (lI R (l_nil (q_next (c_seq (c_seq (c_region (lI R (lO (vLt R R) (l_nil (q_next ?_))))))))))))))))))))
 rcases bif_ hr with ⟨hb4, hr⟩ | ⟨hb4, hr⟩
 refine c_true R hb4 (c_seq (c_region (lI R (l_nil (q_next (c_ret (q_ret ?_)))))))
 obtain rfl := so hr
 exact qF () (fun w s => (s.e 1 []))
 refine c_false R hb4 (c_skip (q_next (c_seq (c_cut (A := (Int) × (Unit)) (fun a => Z0f_J1 a.1 = some r) (fun a => [(1, (iv a.1))]) (fun a => W0) ?_ ?_))))
 refine c_seq (c_region (lI R (l_nil (q_next (c_block ?_)))))
 obtain ⟨e1, hl1, hk1⟩ := bd hr
 refine c_loop (A := Unit) hl1 (fun s a => [(0, (sc A2 a1 D2)), (1, (iv s.1)), (5, (iv s.2))]) (fun s a => W0) () (aS R) (fun w s => s) ?_
 rintro ⟨left14, i15⟩ _ σ1 out1 hr he1
 replace hr : Z0f_L1 a1 left14 i15 = some out1 := hr
 unfold Z0f_L1 at hr
 refine c_seq (c_seq (c_region (lI R (lS R (lO (v_len sl38 R) (lO (vLt R R) (l_nil (q_next ?_))))))))
 rcases bif_ hr with ⟨hb16, hr⟩ | ⟨hb16, hr⟩
 refine c_true R hb16 (c_skip (q_next (c_seq (c_block (c_seq ?_)))))
 obtain ⟨hg17, hr⟩ := gd hr
 obtain ⟨r22, hx23, hr⟩ := bd hr
 refine c_region (lS R (lI R (t_some 0 sees_rd (show 0 < a1.length by have := hg17; omega) (fun g18 o19 ha => ?_))))
 subst ha
 refine lO (vIa sl38 sz89 R R hg17) (t_elem (K := kT89) 0 i15 dT89.dec R hg17.1 hg17.2 ?_)
 rintro ⟨⟨A20, D20⟩, ⟨A21, D21⟩⟩
 refine lN (cl g18 (o19 + i15.toNat * 2) [(sc A20 ((ix a1 i15).Key) D20), (sc A21 ((ix a1 i15).Weights) D21)] :: RR kT3 A20 D20 ((ix a1 i15).Key) :: RR kT3 A21 D21 ((ix a1 i15).Weights) :: W0) ?_
 refine lO (vz (.agg [(sc A20 ((ix a1 i15).Key) D20), (sc A21 ((ix a1 i15).Weights) D21)].toArray) (v_clfs (fo := 0) 0 ag89 sz89 R R R R)) (lI R (lM (rds _ _ _ :: rds _ _ _ :: cl _ _ _ :: rds _ _ _ :: rds _ _ _ :: W0) (fun w s => (((s.d 1 R).d 3 R).e 5 [1, 0, 2, 3, 4])) ?_))
 refine lC 2 cb68 R (Z18_ok hx23) R ?_
 rintro _
 refine lN (_ :: _ :: _ :: W0) ?_
 refine lI R (l_nil (q_next (c_seq (c_region (lI R (lO (vLt R R) (l_nil (q_next ?_))))))))
 rcases bif_ hr with ⟨hb24, hr⟩ | ⟨hb24, hr⟩
 refine c_true R hb24 (c_seq (c_region (lI R (l_nil (q_next (c_ret (q_blockr (q_ret ?_))))))))
 obtain rfl := so hr
 obtain rfl := he1 _ R
 have hr := hk1
 refine q_ret (q_blockr (q_ret ?_))
 obtain rfl := so hr
 exact qF () (fun w s => (s.e 4 []))
 refine c_false R hb24 (c_skip (q_blockn (q_next (c_region (lI R (lO (vAd R R) (lI R (l_nil ?_))))))))
 obtain rfl := so hr
 exact qA () (fun w s => (s.e 3 []))
 refine c_false R hb16 (c_exit (q_exit ?_))
 obtain rfl := so hr
 obtain rfl := he1 _ R
 have hr := hk1
 refine q_exit (q_block ?_)
 exact qI (left14, ()) hr (fun w s => s)
 rintro ⟨left27, _⟩ σ1 hr
 replace hr : Z0f_J1 left27 = some r := hr
 unfold Z0f_J1 at hr
 refine c_seq (c_region (lI R (lI R (l_nil (q_next (c_ret ?_))))))
 obtain rfl := so hr
 exact qF () (fun w s => (s.e 1 []))
theorem Z0z_ok  {a1 : Lm} {left3 : Int} {r : Int} (hr : Z0z a1 left3 = some r) :
 FnOk Try.prog 11 [(.agg [(iv a1.Size), (.slice A2 N2 D2)].toArray), (iv left3)] [rds kT89 (.slice A2 N2 D2) a1.Rows] (fun (h : Unit) => ((iv r), [])) := by
 unfold Z0z at hr
 refine fn_ok Try.func11 R 12 R R fun C V => ?_
 refine cN (_ :: V) ?_
 refine cL 0 sees_rd ?_
 rintro rfl
 let W0 : List HP := RR kT89 A2 D2 a1.Rows :: V
 refine cN W0 ?_
 refine c_seq (c_region (lBx R (fun b4 => (lI R (l_nil ?_)))))
 let W1 : List HP := bxl b4 [(iv a1.Size), (sc A2 a1.Rows D2)] 40 :: W0
 refine qN W1 ?_
 refine q_next (c_seq ?_)
 obtain ⟨r5, hx6, hr⟩ := bd hr
 refine c_region (lO (vFa 1 fo40_1 R) (lO (vLd 0 ag38 R R R) (lI R (lM (RR kT89 A2 D2 a1.Rows :: W1) (fun w s => (s.d 1 R)) ?_))))
 refine lC 1 cb44 R (Z0f_ok hx6) R ?_
 rintro _
 refine lN W1 ?_
 refine lI R (l_nil (q_next (c_seq (c_seq (c_region (lI R (lO (vLt R R) (l_nil (q_next ?_)))))))))
 rcases bif_ hr with ⟨hb7, hr⟩ | ⟨hb7, hr⟩
 refine c_true R hb7 (c_seq (c_region (lI R (l_nil (q_next (c_ret (q_ret ?_)))))))
 obtain rfl := so hr
 exact qF () (fun w s => (s.e 2 []))
 refine c_false R hb7 (c_skip (q_next (c_seq (c_region (lI R (lI R (l_nil (q_next (c_ret ?_)))))))))
 obtain rfl := so hr
 exact qF () (fun w s => (s.e 2 []))
theorem Zg_ok  {a1 : (List Int)} {r : (List Int)} (hr : Zg a1 = some r) :
 FnOk Try.prog 14 [(.slice A2 N2 D2)] [rds kT3 (.slice A2 N2 D2) a1] (fun (h : HH) => ((.slice h.1 h.2.1 h.2.2), [ow kT3 3 (.slice h.1 h.2.1 h.2.2) r])) := by
 unfold Zg at hr
 refine fn_ok Try.func14 R 22 R R fun C V => ?_
 refine cN (_ :: V) ?_
 refine cL 0 sees_rd ?_
 rintro rfl
 let W0 : List HP := RR kT3 A2 D2 a1 :: V
 refine cN W0 ?_
 refine c_seq (c_region (lS R (l_nil (q_next (c_seq ?_)))))
 obtain ⟨hg3, hr⟩ := gd hr
 refine c_region (lS R (lO (v_len sl29 R) (l_make (K := kT3) (m := (a1.length : Int)) (z := (0 : Int)) R R sl29 sz3 by3 (Zr.zk zT3 zc3) (by decide) R R hg3.1 hg3.2.1 hg3.2.2 (fun A4 D4 => (lS R (l_nil (q_next (c_seq (c_cut (A := ((List Int)) × (Unit)) (fun a => Zg_J1 a.1 = some r) (fun a => [(3, (sc A4 (List.replicate (a1.length : Int).toNat (0 : Int)) D4))]) (fun a => ow kT3 3 (.slice A4 (List.replicate (a1.length : Int).toNat (0 : Int)).length D4) a.1 :: W0) ?_ ?_)))))))))
 refine c_seq (c_region (lI R (l_nil (q_next (c_block ?_)))))
 obtain ⟨e1, hl1, hk1⟩ := bd hr
 refine c_loop (A := Unit) hl1 (fun s a => [(0, (sc A2 a1 D2)), (3, (sc A4 (List.replicate (a1.length : Int).toNat (0 : Int)) D4)), (4, (iv s.2))]) (fun s a => ow kT3 3 (.slice A4 (List.replicate (a1.length : Int).toNat (0 : Int)).length D4) s.1 :: W0) () (aS R) (fun w s => s) ?_
 rintro ⟨x14, i15⟩ _ σ1 out1 hr he1
 replace hr : Zg_L1 a1 x14 i15 = some out1 := hr
 unfold Zg_L1 at hr
 refine c_seq (c_seq (c_region (lI R (lS R (lO (v_len sl29 R) (lO (vLt R R) (l_nil (q_next ?_))))))))
 rcases bif_ hr with ⟨hb16, hr⟩ | ⟨hb16, hr⟩
 refine c_true R hb16 (c_skip (q_next (c_seq (c_block ?_))))
 obtain ⟨hg17, hr⟩ := gd hr
 obtain ⟨hg20, hr⟩ := gd hr
 refine c_region (lS R (lI R (lS R (lI R (t_some 1 sees_rd (show 0 < a1.length by have := hg17; omega) (fun g18 o19 ha => ?_))))))
 subst ha
 refine lO (vIa sl29 sz3 R R hg17) (lO (vLi 1 ag3 sees_rd R hg17) (t_some 0 sees_ow (show 0 < (List.replicate (a1.length : Int).toNat (0 : Int)).length by have := hg20; omega) (fun g21 o22 ha => ?_)))
 subst ha
 refine lO (vIa sl29 sz3 R R hg20) (lN (ow kT3 3 (.slice (ad g21 o22) (List.replicate (a1.length : Int).toNat (0 : Int)).length D4) x14 :: W0) ?_)
 refine l_stx (K := kT3) (x' := (ix a1 i15)) 0 i15 R R sz3 R R hg20.1 hg20.2 ?_ ?_
 exact fun I h s => (mO3).put I h () (ix a1 i15) s
 refine lN (ow kT3 3 (.slice (ad g21 o22) (List.replicate (a1.length : Int).toNat (0 : Int)).length D4) (x14.set i15.toNat (ix a1 i15)) :: W0) ?_
 refine l_nil (q_blockn (q_next (c_region (lI R (lO (vAd R R) (lI R (l_nil ?_)))))))
 obtain rfl := so hr
 exact qA () (fun w s => s)
 refine c_false R hb16 (c_exit (q_exit ?_))
 obtain rfl := so hr
 obtain rfl := he1 _ R
 have hr := hk1
 refine q_exit (q_block ?_)
 exact qI (x14, ()) hr (fun w s => s)
 rintro ⟨x25, _⟩ σ1 hr
 replace hr : Zg_J1 x25 = some r := hr
 unfold Zg_J1 at hr
 refine c_seq (c_region (lS R (lS R (l_nil (q_next (c_ret ?_))))))
 obtain rfl := so hr
 exact qF (A4, (List.replicate (a1.length : Int).toNat (0 : Int)).length, D4) (fun w s => (s.e 2 [0]))
theorem Z1b_ok  {a1 : Row} {r : Row} (hr : Z1b a1 = some r) :
 FnOk Try.prog 69 [(.agg [(.slice A2 N2 D2), (.slice A3 N3 D3)].toArray)] [rds kT3 (.slice A2 N2 D2) a1.Key, rds kT3 (.slice A3 N3 D3) a1.Weights] (fun (h : HH × HH) => ((.agg [(.slice h.1.1 h.1.2.1 h.1.2.2), (.slice h.2.1 h.2.2.1 h.2.2.2)].toArray), [ow kT3 3 (.slice h.1.1 h.1.2.1 h.1.2.2) r.Key, ow kT3 3 (.slice h.2.1 h.2.2.1 h.2.2.2) r.Weights])) := by
 unfold Z1b at hr
 refine fn_ok Try.func69 R 13 R R fun C V => ?_
 refine cN (_ :: _ :: V) ?_
 refine cL 0 sees_rd ?_
 rintro rfl
 refine cL 1 sees_rd ?_
 rintro rfl
 let W0 : List HP := RR kT3 A2 D2 a1.Key :: RR kT3 A3 D3 a1.Weights :: V
 refine cN W0 ?_
 refine c_seq (c_region (lBx R (fun b4 => (l_alloc R R zc33 (fun b5 => (l_nil ?_))))))
 let W1 : List HP := bxl b4 [(sc A2 a1.Key D2), (sc A3 a1.Weights D3)] 89 :: W0
 refine qN (_ :: W1) ?_
 refine q_next (c_seq (c_region (l_alloc R R zc33 (fun b6 => (l_nil (q_next (c_seq ?_)))))))
 obtain ⟨r7, hx8, hr⟩ := bd hr
 refine c_region (lO (vFa 0 fo89_0 R) (lO (vLd 2 ag29 R R R) (lM (RR kT3 A2 D2 a1.Key :: _ :: _ :: W1) (fun w s => (s.d 3 R)) ?_)))
 refine lC 1 cb14 R (Zg_ok hx8) R ?_
 rintro ⟨A9, N9, D9⟩
 refine lN (ow kT3 3 (.slice A9 N9 D9) r7 :: _ :: _ :: W1) ?_
 refine l_len 0 sees_ow ?_
 rintro rfl
 refine lO (vFa 0 fo33_0 R) (l_store 1 R R sz29 R R R R R (lN (_ :: bxl b6 [(sc A9 r7 D9), (.slice none 0 0)] 33 :: _ :: W1) ?_))
 refine l_nil (q_next (c_seq ?_))
 obtain ⟨r10, hx11, hr⟩ := bd hr
 refine c_region (lO (vFa 1 fo89_1 R) (lO (vLd 3 ag29 R R R) (lM (RR kT3 A3 D3 a1.Weights :: _ :: _ :: _ :: W1) (fun w s => (s.d 5 R)) ?_)))
 refine lC 1 cb14 R (Zg_ok hx11) R ?_
 rintro ⟨A12, N12, D12⟩
 refine lN (ow kT3 3 (.slice A12 N12 D12) r10 :: _ :: _ :: _ :: W1) ?_
 refine l_len 0 sees_ow ?_
 rintro rfl
 refine lO (vFa 1 fo33_1 R) (l_store 2 R R sz29 R R R R R (lN (_ :: _ :: bxl b6 [(sc A9 r7 D9), (sc A12 r10 D12)] 33 :: _ :: W1) ?_))
 refine l_nil (q_next (c_seq (c_region (lO (vz (.agg [(sc A9 r7 D9), (sc A12 r10 D12)].toArray) (v_loadw 2 ag33 sz33 R R R R)) (l_stores 3 R R sz33 R R R R R R (lN (_ :: _ :: _ :: bxl b5 [(sc A9 r7 D9), (sc A12 r10 D12)] 33 :: W1) ?_))))))
 refine l_nil (q_next (c_ret ?_))
 obtain rfl := so hr
 exact q_fin (vs := [(.agg [(sc A9 r7 D9), (sc A12 r10 D12)].toArray)]) (.inl R) ((A9, r7.length, D9), (A12, r10.length, D12)) R ⟨⟨3, b5, _, _, R, R, .inl ⟨ag33, sz33, R⟩⟩, trivial⟩ R (fun w s => (s.e 7 [1, 0]))
theorem Z0b_ok  {a1 : (List Row)} {r : (List Row)} (hr : Z0b a1 = some r) :
 FnOk Try.prog 45 [(.slice A2 N2 D2)] [rds kT89 (.slice A2 N2 D2) a1] (fun (h : HH) => ((.slice h.1 h.2.1 h.2.2), [ow kT33 33 (.slice h.1 h.2.1 h.2.2) r])) := by
 unfold Z0b at hr
 refine fn_ok Try.func45 R 23 R R fun C V => ?_
 refine cN (_ :: V) ?_
 refine cL 0 sees_rd ?_
 rintro rfl
 let W0 : List HP := RR kT89 A2 D2 a1 :: V
 refine cN W0 ?_
 refine c_seq (c_region (lS R (l_nil (q_next (c_seq ?_)))))
 obtain ⟨hg3, hr⟩ := gd hr
 refine c_region (lS R (lO (v_len sl38 R) (l_make (K := kT33) (m := (a1.length : Int)) (z := zT33.z) R R sl24 sz33 by33 (Zr.zk zT33 zc33) (by decide) R R hg3.1 hg3.2.1 hg3.2.2 (fun A4 D4 => (lS R (l_nil (q_next (c_seq (c_cut (A := ((List Row)) × (Unit)) (fun a => Z0b_J1 a.1 = some r) (fun a => [(3, (sc A4 (List.replicate (a1.length : Int).toNat zT33.z) D4))]) (fun a => ow kT33 33 (.slice A4 (List.replicate (a1.length : Int).toNat zT33.z).length D4) a.1 :: W0) ?_ ?_)))))))))
 refine c_seq (c_region (lI R (l_nil (q_next (c_block ?_)))))
 obtain ⟨e1, hl1, hk1⟩ := bd hr
 refine c_loop (A := Unit) hl1 (fun s a => [(0, (sc A2 a1 D2)), (3, (sc A4 (List.replicate (a1.length : Int).toNat zT33.z) D4)), (4, (iv s.2))]) (fun s a => ow kT33 33 (.slice A4 (List.replicate (a1.length : Int).toNat zT33.z).length D4) s.1 :: W0) () (aS R) (fun w s => s) ?_
 rintro ⟨x20, i21⟩ _ σ1 out1 hr he1
 replace hr : Z0b_L1 a1 x20 i21 = some out1 := hr
 unfold Z0b_L1 at hr
 refine c_seq (c_seq (c_region (lI R (lS R (lO (v_len sl38 R) (lO (vLt R R) (l_nil (q_next ?_))))))))
 rcases bif_ hr with ⟨hb22, hr⟩ | ⟨hb22, hr⟩
 refine c_true R hb22 (c_skip (q_next (c_seq (c_block ?_))))
 obtain ⟨hg23, hr⟩ := gd hr
 obtain ⟨r28, hx29, hr⟩ := bd hr
 obtain ⟨hg32, hr⟩ := gd hr
 refine c_region (lS R (lI R (lS R (lI R (t_some 1 sees_rd (show 0 < a1.length by have := hg23; omega) (fun g24 o25 ha => ?_))))))
 subst ha
 refine lO (vIa sl38 sz89 R R hg23) (t_elem (K := kT89) 1 i21 dT89.dec R hg23.1 hg23.2 ?_)
 rintro ⟨⟨A26, D26⟩, ⟨A27, D27⟩⟩
 refine lN (cl g24 (o25 + i21.toNat * 2) [(sc A26 ((ix a1 i21).Key) D26), (sc A27 ((ix a1 i21).Weights) D27)] :: RR kT3 A26 D26 ((ix a1 i21).Key) :: RR kT3 A27 D27 ((ix a1 i21).Weights) :: ow kT33 33 (.slice A4 (List.replicate (a1.length : Int).toNat zT33.z).length D4) x20 :: W0) ?_
 refine lO (vz (.agg [(sc A26 ((ix a1 i21).Key) D26), (sc A27 ((ix a1 i21).Weights) D27)].toArray) (v_clfs (fo := 0) 0 ag89 sz89 R R R R)) (lM (rds _ _ _ :: rds _ _ _ :: cl _ _ _ :: rds _ _ _ :: rds _ _ _ :: ow _ _ _ _ :: W0) (fun w s => (((s.d 1 R).d 3 R).e 6 [1, 0, 2, 3, 4, 5])) ?_)
 refine lC 2 cb69 R (Z1b_ok hx29) R ?_
 rintro ⟨⟨A30, N30, D30⟩, ⟨A31, N31, D31⟩⟩
 refine lN (ow kT3 3 (.slice A30 N30 D30) r28.Key :: ow kT3 3 (.slice A31 N31 D31) r28.Weights :: _ :: _ :: _ :: _ :: W0) ?_
 refine l_len 0 sees_ow ?_
 rintro rfl
 refine l_len 1 sees_ow ?_
 rintro rfl
 refine t_some 5 sees_ow (show 0 < (List.replicate (a1.length : Int).toNat zT33.z).length by have := hg32; omega) (fun g33 o34 ha => ?_)
 subst ha
 refine lO (vIa sl24 sz33 R R hg32) (lM (ow kT33 33 (.slice (ad g33 o34) (List.replicate (a1.length : Int).toNat zT33.z).length D4) x20 :: ow _ _ _ _ :: ow _ _ _ _ :: cl _ _ _ :: rds _ _ _ :: rds _ _ _ :: W0) (fun w s => (s.f 6 [5, 1, 0, 5])) ?_)
 refine l_stx (K := kT33) (x' := r28) 2 i21 R R sz33 R R hg32.1 hg32.2 ?_ ?_
 exact fun I h s => (mO33).put I h ((sc A30 r28.Key D30), (sc A31 r28.Weights D31)) r28 s
 refine lN (ow kT33 33 (.slice (ad g33 o34) (List.replicate (a1.length : Int).toNat zT33.z).length D4) (x20.set i21.toNat r28) :: _ :: _ :: _ :: W0) ?_
 refine l_nil (q_blockn (q_next (c_region (lI R (lO (vAd R R) (lI R (l_nil ?_)))))))
 obtain rfl := so hr
 exact qA () (fun w s => (s.e 4 [0]))
 refine c_false R hb22 (c_exit (q_exit ?_))
 obtain rfl := so hr
 obtain rfl := he1 _ R
 have hr := hk1
 refine q_exit (q_block ?_)
 exact qI (x20, ()) hr (fun w s => s)
 rintro ⟨x37, _⟩ σ1 hr
 replace hr : Z0b_J1 x37 = some r := hr
 unfold Z0b_J1 at hr
 refine c_seq (c_region (lS R (lS R (l_nil (q_next (c_ret ?_))))))
 obtain rfl := so hr
 exact qF (A4, (List.replicate (a1.length : Int).toNat zT33.z).length, D4) (fun w s => (s.e 2 [0]))
theorem Z08_ok  {a1 : Lm} {r : Lm} (hr : Z08 a1 = some r) :
 FnOk Try.prog 12 [(.agg [(iv a1.Size), (.slice A2 N2 D2)].toArray)] [rds kT89 (.slice A2 N2 D2) a1.Rows] (fun (h : HH) => ((.agg [(iv r.Size), (.slice h.1 h.2.1 h.2.2)].toArray), [ow kT33 33 (.slice h.1 h.2.1 h.2.2) r.Rows])) := by
 unfold Z08 at hr
 refine fn_ok Try.func12 R 12 R R fun C V => ?_
 refine cN (_ :: V) ?_
 refine cL 0 sees_rd ?_
 rintro rfl
 let W0 : List HP := RR kT89 A2 D2 a1.Rows :: V
 refine cN W0 ?_
 refine c_seq (c_region (lBx R (fun b3 => (l_alloc R R zc26 (fun b4 => (l_nil ?_))))))
 let W1 : List HP := bxl b3 [(iv a1.Size), (sc A2 a1.Rows D2)] 40 :: W0
 refine qN (_ :: W1) ?_
 refine q_next (c_seq (c_region (l_alloc R R zc26 (fun b5 => (l_nil (q_next (c_seq (c_region (lO (vFa 0 fo40_0 R) (lO (vLd 2 ag3 R R R) (lO (vFa 0 fo26_0 R) (l_store 0 R R sz3 R R R R R (lN (bxl b5 [(iv a1.Size), (.slice none 0 0)] 26 :: _ :: W1) ?_)))))))))))))
 refine l_nil (q_next (c_seq ?_))
 obtain ⟨r6, hx7, hr⟩ := bd hr
 refine c_region (lO (vFa 1 fo40_1 R) (lO (vLd 2 ag38 R R R) (lM (RR kT89 A2 D2 a1.Rows :: _ :: _ :: W1) (fun w s => (s.d 3 R)) ?_)))
 refine lC 1 cb45 R (Z0b_ok hx7) R ?_
 rintro ⟨A8, N8, D8⟩
 refine lN (ow kT33 33 (.slice A8 N8 D8) r6 :: _ :: _ :: W1) ?_
 refine l_len 0 sees_ow ?_
 rintro rfl
 refine lO (vFa 1 fo26_1 R) (l_store 1 R R sz24 R R R R R (lN (_ :: bxl b5 [(iv a1.Size), (sc A8 r6 D8)] 26 :: _ :: W1) ?_))
 refine l_nil (q_next (c_seq (c_region (lO (vz (.agg [(iv a1.Size), (sc A8 r6 D8)].toArray) (v_loadw 1 ag26 sz26 R R R R)) (l_stores 2 R R sz26 R R R R R R (lN (_ :: _ :: bxl b4 [(iv a1.Size), (sc A8 r6 D8)] 26 :: W1) ?_))))))
 refine l_nil (q_next (c_ret ?_))
 obtain rfl := so hr
 exact q_fin (vs := [(.agg [(iv a1.Size), (sc A8 r6 D8)].toArray)]) (.inl R) (A8, r6.length, D8) R ⟨⟨2, b4, _, _, R, R, .inl ⟨ag26, sz26, R⟩⟩, trivial⟩ R (fun w s => (s.e 5 [0]))
theorem Z0u_ok  {a1 : Choice} {r : Choice} (hr : Z0u a1 = some r) :
 FnOk Try.prog 13 [(.agg [(iv a1.Power), (iv a1.Cut), (iv a1.Mass)].toArray)] [] (fun (h : Unit) => ((.agg [(iv r.Power), (iv r.Cut), (iv r.Mass)].toArray), [])) := by
 unfold Z0u at hr
 refine fn_ok Try.func13 R 14 R R fun C V => ?_
 refine cN V ?_
 refine c_seq (c_region (lBx R (fun b2 => (l_alloc R R zc28 (fun b3 => (l_nil ?_))))))
 let W1 : List HP := bxl b2 [(iv a1.Power), (iv a1.Cut), (iv a1.Mass)] 41 :: V
 refine qN (_ :: W1) ?_
 refine q_next (c_seq (c_region (l_alloc R R zc28 (fun b4 => (l_nil (q_next (c_seq (c_region (lO (vFa 0 fo41_0 R) (lO (vLd 2 ag3 R R R) (lO (vFa 0 fo28_0 R) (l_store 0 R R sz3 R R R R R (lN (bxl b4 [(iv a1.Power), (iv 0), (iv 0)] 28 :: _ :: W1) ?_)))))))))))))
 refine l_nil (q_next (c_seq (c_region (lO (vFa 1 fo41_1 R) (lO (vLd 2 ag3 R R R) (lO (vFa 1 fo28_1 R) (l_store 0 R R sz3 R R R R R (lN (bxl b4 [(iv a1.Power), (iv a1.Cut), (iv 0)] 28 :: _ :: W1) ?_))))))))
 refine l_nil (q_next (c_seq (c_region (lO (vFa 2 fo41_2 R) (lO (vLd 2 ag3 R R R) (lO (vFa 2 fo28_2 R) (l_store 0 R R sz3 R R R R R (lN (bxl b4 [(iv a1.Power), (iv a1.Cut), (iv a1.Mass)] 28 :: _ :: W1) ?_))))))))
 refine l_nil (q_next (c_seq (c_region (lO (vz (.agg [(iv a1.Power), (iv a1.Cut), (iv a1.Mass)].toArray) (v_loadw 0 ag28 sz28 R R R R)) (l_stores 1 R R sz28 R R R R R R (lN (_ :: bxl b3 [(iv a1.Power), (iv a1.Cut), (iv a1.Mass)] 28 :: W1) ?_))))))
 refine l_nil (q_next (c_ret ?_))
 obtain rfl := so hr
 exact q_fin (vs := [(.agg [(iv a1.Power), (iv a1.Cut), (iv a1.Mass)].toArray)]) (.inl R) () R ⟨⟨1, b3, _, _, R, R, .inl ⟨ag28, sz28, R⟩⟩, trivial⟩ R (fun w s => (s.e 3 []))
theorem Zd_ok  {p1 : Int} {low2 : Int} {high3 : Int} {r : Bool} (hr : Zd p1 low2 high3 = some r) :
 FnOk Try.prog 40 [(iv p1), (iv low2), (iv high3)] [] (fun (h : Unit) => ((.bool r), [])) := by
 unfold Zd at hr
 refine fn_ok Try.func40 R 15 R R fun C V => ?_
 refine cN V ?_
 refine c_seq (c_region (lB R (l_nil (q_next (c_seq (cQ [(6, (.bool ((decide (p1 ≥ low2)) && (decide (p1 ≤ high3)))))] (V) ?_ ?_))))))
 refine c_region (lI R (lI R (lO (vGe R R) (lB R ?_))))
 rcases bo (decide (p1 ≥ low2)) with hc4 | hc4
 refine lW (wnT hc4) (vI R) (lW (wnT hc4) (vI R) (lW (wnT hc4) (vLe R R) (lO (pAT R hc4 R) (lB R (l_nil ?_)))))
 exact qJ (fun w s => s)
 refine lf (wfF hc4) (lf (wfF hc4) (lf (wfF hc4) (lO (pAF (decide (p1 ≤ high3)) R hc4) (lB R (l_nil ?_)))))
 exact qJ (fun w s => s)
 rintro σ1
 refine q_next (c_ret ?_)
 obtain rfl := so hr
 exact qF () (fun w s => s)
theorem Z07_ok  {list1 : (List Int)} {size3 : Int} {r : Bool} (hr : Z07 list1 size3 = some r) :
 FnOk Try.prog 60 [(.slice A2 N2 D2), (iv size3)] [rds kT3 (.slice A2 N2 D2) list1] (fun (h : Unit) => ((.bool r), [])) := by
 unfold Z07 at hr
 refine fn_ok Try.func60 R 20 R R fun C V => ?_
 refine cN (_ :: V) ?_
 refine cL 0 sees_rd ?_
 rintro rfl
 let W0 : List HP := RR kT3 A2 D2 list1 :: V
 refine cN W0 ?_
 refine c_seq (c_region (lB R (l_nil (q_next (c_seq (c_cut (A := (Unit) × (Unit)) (fun a => Z07_J1 = some r) (fun a => []) (fun a => W0) ?_ ?_))))))
 refine c_seq (c_region (lI R (l_nil (q_next (c_block ?_)))))
 obtain ⟨e1, hl1, hk1⟩ := bd hr
 refine c_loop (A := Unit) hl1 (fun s a => [(0, (sc A2 list1 D2)), (1, (iv size3)), (5, (iv s))]) (fun s a => W0) () (aS R) (fun w s => s) ?_
 rintro i11 _ σ1 out1 hr he1
 replace hr : Z07_L1 list1 size3 i11 = some out1 := hr
 unfold Z07_L1 at hr
 refine c_seq (c_seq (c_region (lI R (lS R (lO (v_len sl29 R) (lO (vLt R R) (l_nil (q_next ?_))))))))
 rcases bif_ hr with ⟨hb12, hr⟩ | ⟨hb12, hr⟩
 refine c_true R hb12 (c_skip (q_next (c_seq (c_block (c_seq ?_)))))
 obtain ⟨hg13, hr⟩ := gd hr
 obtain ⟨r16, hx17, hr⟩ := bd hr
 refine c_region (lS R (lI R (t_some 0 sees_rd (show 0 < list1.length by have := hg13; omega) (fun g14 o15 ha => ?_))))
 subst ha
 refine lO (vIa sl29 sz3 R R hg13) (lO (vLi 0 ag3 sees_rd R hg13) (lI R (lO (vSb R R) (lC 0 cb40 R (Zd_ok hx17) R ?_))))
 rintro _
 refine lO (vNo R) (l_nil (q_next ?_))
 rcases bif_ hr with ⟨hb18, hr⟩ | ⟨hb18, hr⟩
 refine c_true R hb18 (c_seq (c_region (lB R (l_nil (q_next (c_ret (q_blockr (q_ret ?_))))))))
 obtain rfl := so hr
 obtain rfl := he1 _ R
 have hr := hk1
 refine q_ret (q_blockr (q_ret ?_))
 obtain rfl := so hr
 exact qF () (fun w s => (s.e 1 []))
 refine c_false R hb18 (c_skip (q_blockn (q_next (c_region (lI R (lO (vAd R R) (lI R (l_nil ?_))))))))
 obtain rfl := so hr
 exact qA () (fun w s => s)
 refine c_false R hb12 (c_exit (q_exit ?_))
 obtain rfl := so hr
 obtain rfl := he1 _ R
 have hr := hk1
 refine q_exit (q_block ?_)
 exact q_join ((), ()) hr trivial (fun w s => s)
 rintro ⟨_, _⟩ σ1 hr
 replace hr : Z07_J1 = some r := hr
 unfold Z07_J1 at hr
 refine c_seq (c_region (lB R (l_nil (q_next (c_ret ?_)))))
 obtain rfl := so hr
 exact qF () (fun w s => (s.e 1 []))
theorem Zw_ok  {p1 : (List Int)} {r : Int} (hr : Zw p1 = some r) :
 FnOk Try.prog 66 [(.slice A2 N2 D2)] [rds kT3 (.slice A2 N2 D2) p1] (fun (h : Unit) => ((iv r), [])) := by
 unfold Zw at hr
 refine fn_ok Try.func66 R 18 R R fun C V => ?_
 refine cN (_ :: V) ?_
 refine cL 0 sees_rd ?_
 rintro rfl
 let W0 : List HP := RR kT3 A2 D2 p1 :: V
 refine cN W0 ?_
 refine c_seq (c_region (lI R (l_nil (q_next (c_seq (c_region (lI R (l_nil (q_next (c_seq (c_cut (A := (Int) × (Unit)) (fun a => Zw_J1 a.1 = some r) (fun a => [(3, (iv a.1))]) (fun a => W0) ?_ ?_)))))))))))
 refine c_seq (c_region (lI R (l_nil (q_next (c_block ?_)))))
 obtain ⟨e1, hl1, hk1⟩ := bd hr
 refine c_loop (A := Unit) hl1 (fun s a => [(0, (sc A2 p1 D2)), (3, (iv s.1)), (4, (iv s.2))]) (fun s a => W0) () (aS R) (fun w s => s) ?_
 rintro ⟨x7, i8⟩ _ σ1 out1 hr he1
 replace hr : Zw_L1 p1 x7 i8 = some out1 := hr
 unfold Zw_L1 at hr
 refine c_seq (c_seq (c_region (lI R (lS R (lO (v_len sl29 R) (lO (vLt R R) (l_nil (q_next ?_))))))))
 rcases bif_ hr with ⟨hb9, hr⟩ | ⟨hb9, hr⟩
 refine c_true R hb9 (c_skip (q_next (c_seq (c_block ?_))))
 obtain ⟨hg10, hr⟩ := gd hr
 refine c_region (lI R (lS R (lI R (t_some 0 sees_rd (show 0 < p1.length by have := hg10; omega) (fun g11 o12 ha => ?_)))))
 subst ha
 refine lO (vIa sl29 sz3 R R hg10) (lO (vLi 0 ag3 sees_rd R hg10) (lO (vAd R R) (lI R (l_nil (q_blockn (q_next (c_region (lI R (lO (vAd R R) (lI R (l_nil ?_)))))))))))
 obtain rfl := so hr
 exact qA () (fun w s => s)
 refine c_false R hb9 (c_exit (q_exit ?_))
 obtain rfl := so hr
 obtain rfl := he1 _ R
 have hr := hk1
 refine q_exit (q_block ?_)
 exact qI (x7, ()) hr (fun w s => s)
 rintro ⟨x15, _⟩ σ1 hr
 replace hr : Zw_J1 x15 = some r := hr
 unfold Zw_J1 at hr
 refine c_seq (c_region (lI R (lI R (l_nil (q_next (c_ret ?_))))))
 obtain rfl := so hr
 exact qF () (fun w s => (s.e 1 []))
theorem Zz_ok  {p1 : (List Int)} {r : Bool} (hr : Zz p1 = some r) :
 FnOk Try.prog 61 [(.slice A2 N2 D2)] [rds kT3 (.slice A2 N2 D2) p1] (fun (h : Unit) => ((.bool r), [])) := by
 unfold Zz at hr
 refine fn_ok Try.func61 R 19 R R fun C V => ?_
 refine cN (_ :: V) ?_
 refine cL 0 sees_rd ?_
 rintro rfl
 let W0 : List HP := RR kT3 A2 D2 p1 :: V
 refine cN W0 ?_
 refine c_seq (c_region (lB R (l_nil (q_next (c_seq (c_cut (A := (Unit) × (Unit)) (fun a => Zz_J1 p1 = some r) (fun a => [(0, (sc A2 p1 D2))]) (fun a => W0) ?_ ?_))))))
 refine c_seq (c_region (lI R (l_nil (q_next (c_block ?_)))))
 obtain ⟨e1, hl1, hk1⟩ := bd hr
 refine c_loop (A := Unit) hl1 (fun s a => [(0, (sc A2 p1 D2)), (3, (iv s))]) (fun s a => W0) () (aS R) (fun w s => s) ?_
 rintro i10 _ σ1 out1 hr he1
 replace hr : Zz_L1 p1 i10 = some out1 := hr
 unfold Zz_L1 at hr
 refine c_seq (c_seq (c_region (lI R (lS R (lO (v_len sl29 R) (lO (vLt R R) (l_nil (q_next ?_))))))))
 rcases bif_ hr with ⟨hb11, hr⟩ | ⟨hb11, hr⟩
 refine c_true R hb11 (c_skip (q_next (c_seq (c_block (c_seq ?_)))))
 obtain ⟨hg12, hr⟩ := gd hr
 obtain ⟨r15, hx16, hr⟩ := bd hr
 refine c_region (lS R (lI R (t_some 0 sees_rd (show 0 < p1.length by have := hg12; omega) (fun g13 o14 ha => ?_))))
 subst ha
 refine lO (vIa sl29 sz3 R R hg12) (lO (vLi 0 ag3 sees_rd R hg12) (lC 0 cb40 R (Zd_ok hx16) R ?_))
 rintro _
 refine lO (vNo R) (l_nil (q_next ?_))
 rcases bif_ hr with ⟨hb17, hr⟩ | ⟨hb17, hr⟩
 refine c_true R hb17 (c_seq (c_region (lB R (l_nil (q_next (c_ret (q_blockr (q_ret ?_))))))))
 obtain rfl := so hr
 obtain rfl := he1 _ R
 have hr := hk1
 refine q_ret (q_blockr (q_ret ?_))
 obtain rfl := so hr
 exact qF () (fun w s => (s.e 1 []))
 refine c_false R hb17 (c_skip (q_blockn (q_next (c_region (lI R (lO (vAd R R) (lI R (l_nil ?_))))))))
 obtain rfl := so hr
 exact qA () (fun w s => s)
 refine c_false R hb11 (c_exit (q_exit ?_))
 obtain rfl := so hr
 obtain rfl := he1 _ R
 have hr := hk1
 refine q_exit (q_block ?_)
 exact qI ((), ()) hr (fun w s => s)
 rintro ⟨_, _⟩ σ1 hr
 replace hr : Zz_J1 p1 = some r := hr
 unfold Zz_J1 at hr
 refine c_seq ?_
 obtain ⟨r19, hx20, hr⟩ := bd hr
 refine c_region (lS R (lM (RR kT3 A2 D2 p1 :: W0) (fun w s => (s.d 0 R)) ?_))
 refine lC 1 cb66 R (Zw_ok hx20) R ?_
 rintro _
 refine lN W0 ?_
 refine lO (vGt R R) (lB R (l_nil (q_next (c_ret ?_))))
 obtain rfl := so hr
 exact qF () (fun w s => (s.e 1 []))
theorem Z02_ok  {a1 : (List Int)} {b3 : (List Int)} {r : Bool} (hr : Z02 a1 b3 = some r) :
 FnOk Try.prog 50 [(.slice A2 N2 D2), (.slice A4 N4 D4)] [rds kT3 (.slice A2 N2 D2) a1, rds kT3 (.slice A4 N4 D4) b3] (fun (h : Unit) => ((.bool r), [])) := by
 unfold Z02 at hr
 refine fn_ok Try.func50 R 26 R R fun C V => ?_
 refine cN (_ :: _ :: V) ?_
 refine cL 0 sees_rd ?_
 rintro rfl
 refine cL 1 sees_rd ?_
 rintro rfl
 let W0 : List HP := RR kT3 A2 D2 a1 :: RR kT3 A4 D4 b3 :: V
 refine cN W0 ?_
 refine c_seq (c_region (lB R (l_nil (q_next (c_seq (c_seq (c_region (lS R (lO (v_len sl29 R) (lS R (lO (v_len sl29 R) (lO (vNe R R) (l_nil (q_next ?_))))))))))))))
 rcases bif_ hr with ⟨hb5, hr⟩ | ⟨hb5, hr⟩
 refine c_true R hb5 (c_seq (c_region (lB R (l_nil (q_next (c_ret (q_ret ?_)))))))
 obtain rfl := so hr
 exact qF () (fun w s => (s.e 2 []))
 refine c_false R hb5 (c_skip (q_next (c_seq (c_cut (A := (Unit) × (Unit)) (fun a => Z02_J1 = some r) (fun a => []) (fun a => W0) ?_ ?_))))
 refine c_seq (c_region (lI R (l_nil (q_next (c_block ?_)))))
 obtain ⟨e1, hl1, hk1⟩ := bd hr
 refine c_loop (A := Unit) hl1 (fun s a => [(0, (sc A2 a1 D2)), (1, (sc A4 b3 D4)), (5, (iv s))]) (fun s a => W0) () (aS R) (fun w s => s) ?_
 rintro i14 _ σ1 out1 hr he1
 replace hr : Z02_L1 a1 b3 i14 = some out1 := hr
 unfold Z02_L1 at hr
 refine c_seq (c_seq (c_region (lI R (lS R (lO (v_len sl29 R) (lO (vLt R R) (l_nil (q_next ?_))))))))
 rcases bif_ hr with ⟨hb15, hr⟩ | ⟨hb15, hr⟩
 refine c_true R hb15 (c_skip (q_next (c_seq (c_block (c_seq ?_)))))
 obtain ⟨hg16, hr⟩ := gd hr
 obtain ⟨hg19, hr⟩ := gd hr
 refine c_some 0 sees_rd (show 0 < a1.length by have := hg16; omega) (fun g17 o18 ha => ?_)
 subst ha
 refine c_some 1 sees_rd (show 0 < b3.length by have := hg19; omega) (fun g20 o21 ha => ?_)
 subst ha
 refine cdr 9 [] mixo (fun ht hn => (dR 0 R (vS R) (dR 1 R (vI R) (dR 2 R (vIa sl29 sz3 R R hg16) (dR 3 R (vLi 0 ag3 sees_rd R hg16) (dR 4 R (vS R) (dR 5 R (vI R) (dR 6 R (vIa sl29 sz3 R R hg19) (dR 7 R (vLi 1 ag3 sees_rd R hg19) (dR 8 R (vNe R R) (dD (q_next ?_))))))))))))
 rcases bif_ hr with ⟨hb22, hr⟩ | ⟨hb22, hr⟩
 refine c_true R hb22 (c_seq (c_region (lB R (l_nil (q_next (c_ret (q_blockr (q_ret ?_))))))))
 obtain rfl := so hr
 obtain rfl := he1 _ R
 have hr := hk1
 refine q_ret (q_blockr (q_ret ?_))
 obtain rfl := so hr
 exact qF () (fun w s => (s.e 2 []))
 refine c_false R hb22 (c_skip (q_blockn (q_next (c_region (lI R (lO (vAd R R) (lI R (l_nil ?_))))))))
 obtain rfl := so hr
 exact qA () (fun w s => s)
 refine c_false R hb15 (c_exit (q_exit ?_))
 obtain rfl := so hr
 obtain rfl := he1 _ R
 have hr := hk1
 refine q_exit (q_block ?_)
 exact q_join ((), ()) hr trivial (fun w s => s)
 rintro ⟨_, _⟩ σ1 hr
 replace hr : Z02_J1 = some r := hr
 unfold Z02_J1 at hr
 refine c_seq (c_region (lB R (l_nil (q_next (c_ret ?_)))))
 obtain rfl := so hr
 exact qF () (fun w s => (s.e 2 []))
theorem Zc_ok  {m1 : Lm} {r : Bool} (hr : Zc m1 = some r) :
 FnOk Try.prog 39 [(.agg [(iv m1.Size), (.slice A2 N2 D2)].toArray)] [rds kT33 (.slice A2 N2 D2) m1.Rows] (fun (h : Unit) => ((.bool r), [])) := by
 unfold Zc at hr
 refine fn_ok Try.func39 R 77 R R fun C V => ?_
 refine cN (_ :: V) ?_
 refine cL 0 sees_rd ?_
 rintro rfl
 let W0 : List HP := RR kT33 A2 D2 m1.Rows :: V
 refine cN W0 ?_
 refine c_seq (c_region (lBx R (fun b3 => (lB R (l_nil ?_)))))
 let W1 : List HP := bxl b3 [(iv m1.Size), (sc A2 m1.Rows D2)] 26 :: W0
 refine qN W1 ?_
 refine q_next (c_seq (c_seq ?_))
 obtain ⟨r4, hx5, hr⟩ := bd hr
 refine cQ [(1, (pt b3 0)), (16, (.bool ((!r4) || (decide ((m1.Rows.length : Int) > (500 : Int))))))] (W1) ?_ ?_
 refine c_region (lO (vFa 0 fo26_0 R) (lO (vLd 0 ag3 R R R) (lC 0 cb40 R (Zd_ok hx5) R ?_)))
 rintro _
 refine lO (vNo R) (lB R ?_)
 rcases bo (!r4) with hc6 | hc6
 refine lf (wfT hc6) (lf (wfT hc6) (lf (wfT hc6) (lf (wfT hc6) (lO (pOT (decide ((m1.Rows.length : Int) > (500 : Int))) R hc6) (l_nil ?_)))))
 exact qJ (fun w s => s)
 refine lW (wnF hc6) (vFa 1 fo26_1 R) (lW (wnF hc6) (vLd 0 ag24 R R R) (lW (wnF hc6) (v_len sl24 R) (lW (wnF hc6) (vGt R R) (lO (pOF R hc6 R) (l_nil ?_)))))
 exact qJ (fun w s => s)
 rintro σ1
 refine q_next ?_
 rcases bif_ hr with ⟨hb7, hr⟩ | ⟨hb7, hr⟩
 refine c_true R hb7 (c_seq (c_region (lB R (l_nil (q_next (c_ret (q_ret ?_)))))))
 obtain rfl := so hr
 exact qF () (fun w s => (s.e 2 []))
 refine c_false R hb7 (c_skip (q_next (c_seq (c_region (lB R (l_nil (q_next (c_seq (c_cut (A := (Bool) × (Unit)) (fun a => Zc_J3 a.1 = some r) (fun a => [(3, (.bool a.1))]) (fun a => W1) ?_ ?_)))))))))
 refine c_seq (c_region (lI R (l_nil (q_next (c_block ?_)))))
 obtain ⟨e1, hl1, hk1⟩ := bd hr
 refine c_loop (A := Unit) hl1 (fun s a => [(1, (pt b3 0)), (3, (.bool s.1)), (4, (iv s.2))]) (fun s a => W1) () (aS R) (fun w s => s) ?_
 rintro ⟨empty38, i39⟩ _ σ1 out1 hr he1
 replace hr : Zc_L1 m1 empty38 i39 = some out1 := hr
 unfold Zc_L1 at hr
 refine c_seq (c_seq (c_region (lI R (lO (vFa 1 fo26_1 R) (lO (vLd 0 ag24 R R R) (lO (v_len sl24 R) (lO (vLt R R) (l_nil (q_next ?_)))))))))
 rcases bif_ hr with ⟨hb40, hr⟩ | ⟨hb40, hr⟩
 refine c_true R hb40 (c_skip (q_next (c_seq (c_block (c_seq ?_)))))
 obtain ⟨hg41, hr⟩ := gd hr
 refine c_region (lO (vFa 1 fo26_1 R) (lO (vLd 0 ag24 R R R) (lI R (t_some 1 sees_rd (show 0 < m1.Rows.length by have := hg41; omega) (fun g42 o43 ha => ?_)))))
 subst ha
 refine lO (vIa sl24 sz33 R R hg41) (t_elem (K := kT33) 1 i39 dT33.dec R hg41.1 hg41.2 ?_)
 rintro ⟨⟨A44, D44⟩, ⟨A45, D45⟩⟩
 refine lN (cl g42 (o43 + i39.toNat * 2) [(sc A44 ((ix m1.Rows i39).Key) D44), (sc A45 ((ix m1.Rows i39).Weights) D45)] :: RR kT3 A44 D44 ((ix m1.Rows i39).Key) :: RR kT3 A45 D45 ((ix m1.Rows i39).Weights) :: W1) ?_
 refine lO (vz (.agg [(sc A44 ((ix m1.Rows i39).Key) D44), (sc A45 ((ix m1.Rows i39).Weights) D45)].toArray) (v_clfs (fo := 0) 0 ag33 sz33 R R R R)) (l_alloc R R zc33 (fun b46 => (l_stores 0 R R sz33 R R R R R R (lN (bxl b46 [(sc A44 ((ix m1.Rows i39).Key) D44), (sc A45 ((ix m1.Rows i39).Weights) D45)] 33 :: _ :: _ :: _ :: W1) ?_))))
 refine l_nil (q_next (c_seq (c_seq ?_)))
 obtain ⟨r47, hx48, hr⟩ := bd hr
 obtain ⟨r49, hx50, hr⟩ := bd hr
 refine cQ [(1, (pt b3 0)), (3, (.bool empty38)), (4, (iv i39)), (5, (pt b46 0)), (54, (.bool ((((decide ((((ix m1.Rows i39).Key).length : Int) > (4 : Int))) || (!r47)) || ((((ix m1.Rows i39).Weights).length : Int) != m1.Size)) || (!r49))))] (bxl b46 [(sc A44 ((ix m1.Rows i39).Key) D44), (sc A45 ((ix m1.Rows i39).Weights) D45)] 33 :: RR kT3 A44 D44 ((ix m1.Rows i39).Key) :: RR kT3 A45 D45 ((ix m1.Rows i39).Weights) :: W1) ?_ ?_
 refine c_region (lO (vFa 0 fo33_0 R) (lO (vLd 0 ag29 R R R) (lO (v_len sl29 R) (lO (vGt R R) (lB R ?_)))))
 rcases bo (decide ((((ix m1.Rows i39).Key).length : Int) > (4 : Int))) with hc51 | hc51
 refine lf (wfT hc51) (lf (wfT hc51) (lf (wfT hc51) (lf (wfT hc51) (lf (wfT hc51) (lf (wfT hc51) (lO (pOT (!r47) R hc51) (lB R (lf (wfT (oT hc51)) (lf (wfT (oT hc51)) (lf (wfT (oT hc51)) (lf (wfT (oT hc51)) (lf (wfT (oT hc51)) (lf (wfT (oT hc51)) (lO (pOT ((((ix m1.Rows i39).Weights).length : Int) != m1.Size) R (oT hc51)) (lB R (lf (wfT (oT (oT hc51))) (lf (wfT (oT (oT hc51))) (lf (wfT (oT (oT hc51))) (lf (wfT (oT (oT hc51))) (lO (pOT (!r49) R (oT (oT hc51))) (l_nil ?_)))))))))))))))))))))
 exact qJ (fun w s => (s.e 4 [0, 2, 3]))
 refine lW (wnF hc51) (vFa 0 fo33_0 R) (lW (wnF hc51) (vLd 0 ag29 R R R) (lW (wnF hc51) (vFa 0 fo26_0 R) (lW (wnF hc51) (vLd 4 ag3 R R R) (lM (_ :: _ :: _ :: _ :: _ :: W1) (fun w s => (s.d 2 R)) ?_))))
 refine l_calln 1 R (wnF hc51) cb60 R (Z07_ok (gcall_t hx48 (not_ff hc51))) R ?_
 rintro _
 refine lN (_ :: _ :: _ :: _ :: W1) ?_
 refine lW (wnF hc51) (vNo R) (lO (pOF R hc51 R) (lB R ?_))
 rcases bo ((decide ((((ix m1.Rows i39).Key).length : Int) > (4 : Int))) || (!r47)) with hc52 | hc52
 refine lf (wfT hc52) (lf (wfT hc52) (lf (wfT hc52) (lf (wfT hc52) (lf (wfT hc52) (lf (wfT hc52) (lO (pOT ((((ix m1.Rows i39).Weights).length : Int) != m1.Size) R hc52) (lB R (lf (wfT (oT hc52)) (lf (wfT (oT hc52)) (lf (wfT (oT hc52)) (lf (wfT (oT hc52)) (lO (pOT (!r49) R (oT hc52)) (l_nil ?_)))))))))))))
 exact qJ (fun w s => (s.e 4 [0, 2, 3]))
 refine lW (wnF hc52) (vFa 1 fo33_1 R) (lW (wnF hc52) (vLd 0 ag29 R R R) (lW (wnF hc52) (v_len sl29 R) (lW (wnF hc52) (vFa 0 fo26_0 R) (lW (wnF hc52) (vLd 4 ag3 R R R) (lW (wnF hc52) (vNe R R) (lO (pOF R hc52 R) (lB R ?_)))))))
 rcases bo (((decide ((((ix m1.Rows i39).Key).length : Int) > (4 : Int))) || (!r47)) || ((((ix m1.Rows i39).Weights).length : Int) != m1.Size)) with hc53 | hc53
 refine lf (wfT hc53) (lf (wfT hc53) (lf (wfT hc53) (lf (wfT hc53) (lO (pOT (!r49) R hc53) (l_nil ?_)))))
 exact qJ (fun w s => (s.e 4 [0, 2, 3]))
 refine lW (wnF hc53) (vFa 1 fo33_1 R) (lW (wnF hc53) (vLd 0 ag29 R R R) (lM (_ :: _ :: _ :: _ :: _ :: W1) (fun w s => (s.d 3 R)) ?_))
 refine l_calln 1 R (wnF hc53) cb61 R (Zz_ok (gcall_t hx50 (not_ff hc53))) R ?_
 rintro _
 refine lN (_ :: _ :: _ :: _ :: W1) ?_
 refine lW (wnF hc53) (vNo R) (lO (pOF R hc53 R) (l_nil ?_))
 exact qJ (fun w s => (s.e 4 [0, 2, 3]))
 rintro σ1
 refine q_next ?_
 rcases bif_ hr with ⟨hb54, hr⟩ | ⟨hb54, hr⟩
 refine c_true R hb54 (c_seq (c_region (lB R (l_nil (q_next (c_ret (q_ret (q_blockr (q_ret ?_)))))))))
 obtain rfl := so hr
 obtain rfl := he1 _ R
 have hr := hk1
 refine q_ret (q_blockr (q_ret ?_))
 obtain rfl := so hr
 exact qF () (fun w s => (s.e 5 []))
 refine c_false R hb54 (c_skip (q_next (c_seq (c_cut (A := (Unit) × (Unit)) (fun a => Zc_J2 m1 empty38 i39 = some out1) (fun a => [(1, (pt b3 0)), (3, (.bool empty38)), (4, (iv i39)), (5, (pt b46 0))]) (fun a => bxl b46 [(sc A44 ((ix m1.Rows i39).Key) D44), (sc A45 ((ix m1.Rows i39).Weights) D45)] 33 :: RR kT3 A44 D44 ((ix m1.Rows i39).Key) :: RR kT3 A45 D45 ((ix m1.Rows i39).Weights) :: W1) ?_ ?_))))
 refine c_seq (c_region (lI R (l_nil (q_next (c_block ?_)))))
 obtain ⟨e2, hl2, hk2⟩ := bd hr
 refine c_loop (A := Unit) hl2 (fun s a => [(1, (pt b3 0)), (3, (.bool empty38)), (4, (iv i39)), (5, (pt b46 0)), (6, (iv s))]) (fun s a => bxl b46 [(sc A44 ((ix m1.Rows i39).Key) D44), (sc A45 ((ix m1.Rows i39).Weights) D45)] 33 :: RR kT3 A44 D44 ((ix m1.Rows i39).Key) :: RR kT3 A45 D45 ((ix m1.Rows i39).Weights) :: W1) () (aS R) (fun w s => s) ?_
 rintro k62 _ σ1 out2 hr he2
 replace hr : Zc_L2 m1 i39 k62 = some out2 := hr
 unfold Zc_L2 at hr
 refine c_seq (c_seq (c_region (lI R (lI R (lO (vLt R R) (l_nil (q_next ?_)))))))
 rcases bif_ hr with ⟨hb63, hr⟩ | ⟨hb63, hr⟩
 refine c_true R hb63 (c_skip (q_next (c_seq (c_block (c_seq ?_)))))
 obtain ⟨hg64, hr⟩ := gd hr
 obtain ⟨r67, hx68, hr⟩ := bd hr
 refine c_elem (K := kT33) 4 k62 dT33.dec R hg64.1 hg64.2 ?_
 rintro ⟨⟨A65, D65⟩, ⟨A66, D66⟩⟩
 refine cN (cl g42 (o43 + k62.toNat * 2) [(sc A65 ((ix m1.Rows k62).Key) D65), (sc A66 ((ix m1.Rows k62).Weights) D66)] :: RR kT3 A65 D65 ((ix m1.Rows k62).Key) :: RR kT3 A66 D66 ((ix m1.Rows k62).Weights) :: _ :: _ :: _ :: W1) ?_
 refine cdr 9 [] mixo (fun ht hn => (dR 0 R (vFa 1 fo26_1 R) (dR 1 R (vLd 6 ag24 R R R) (dR 2 R (vI R) (dR 3 R (vIa sl24 sz33 R R hg64) (dR 4 R (vz (.pointer (some ⟨g42, o43 + k62.toNat * 2, none⟩)) (v_fa fo33_0 R R)) (dR 5 R (v_clf (fo := 0) 0 ag29 R R R) (dR 6 R (vFa 0 fo33_0 R) (dR 7 R (vLd 3 ag29 R R R) (d1 8 R (lM (rds _ _ _ :: rds _ _ _ :: cl _ _ _ :: rds _ _ _ :: rds _ _ _ :: bxl _ _ _ :: rds _ _ _ :: rds _ _ _ :: W1) (fun w s => (((s.d 1 R).d 5 R).f 8 [1, 1, 0, 1, 2, 6])) ?_)))))))))))
 refine lC 2 cb50 R (Z02_ok hx68) R ?_
 rintro _
 refine lN (_ :: _ :: _ :: _ :: _ :: _ :: W1) ?_
 refine l_nil (q_draw (sL []) (dD (q_next ?_)))
 rcases bif_ hr with ⟨hb69, hr⟩ | ⟨hb69, hr⟩
 refine c_true R hb69 (c_seq (c_region (lB R (l_nil (q_next (c_ret (q_blockr (q_ret ?_))))))))
 obtain rfl := so hr
 obtain rfl := he2 _ R
 have hr := hk2
 refine q_ret (q_blockr (q_ret (q_blockr (q_ret ?_))))
 obtain rfl := so hr
 obtain rfl := he1 _ R
 have hr := hk1
 refine q_ret (q_blockr (q_ret ?_))
 obtain rfl := so hr
 exact qF () (fun w s => (s.e 8 []))
 refine c_false R hb69 (c_skip (q_blockn (q_next (c_region (lI R (lO (vAd R R) (lI R (l_nil ?_))))))))
 obtain rfl := so hr
 exact qA () (fun w s => (s.f 6 [3, 3]))
 refine c_false R hb63 (c_exit (q_exit ?_))
 obtain rfl := so hr
 obtain rfl := he2 _ R
 have hr := hk2
 refine q_exit (q_block ?_)
 exact qI ((), ()) hr (fun w s => s)
 rintro ⟨_, _⟩ σ1 hr
 replace hr : Zc_J2 m1 empty38 i39 = some out1 := hr
 unfold Zc_J2 at hr
 refine cQ [(1, (pt b3 0)), (3, (.bool (empty38 || ((((ix m1.Rows i39).Key).length : Int) == (0 : Int))))), (4, (iv i39))] (W1) ?_ ?_
 refine c_region (lB R (lB R ?_))
 rcases bo empty38 with hc71 | hc71
 refine lf (wfT hc71) (lf (wfT hc71) (lf (wfT hc71) (lf (wfT hc71) (lO (pOT ((((ix m1.Rows i39).Key).length : Int) == (0 : Int)) R hc71) (lB R (l_nil ?_))))))
 exact qJ (fun w s => (s.e 3 []))
 refine lW (wnF hc71) (vFa 0 fo33_0 R) (lW (wnF hc71) (vLd 0 ag29 R R R) (lW (wnF hc71) (v_len sl29 R) (lW (wnF hc71) (vEq R R) (lO (pOF R hc71 R) (lB R (l_nil ?_))))))
 exact qJ (fun w s => (s.e 3 []))
 rintro σ1
 refine q_blockn (q_next (c_region (lI R (lO (vAd R R) (lI R (l_nil ?_))))))
 obtain rfl := so hr
 exact qA () (fun w s => s)
 refine c_false R hb40 (c_exit (q_exit ?_))
 obtain rfl := so hr
 obtain rfl := he1 _ R
 have hr := hk1
 refine q_exit (q_block ?_)
 exact qI (empty38, ()) hr (fun w s => s)
 rintro ⟨empty74, _⟩ σ1 hr
 replace hr : Zc_J3 empty74 = some r := hr
 unfold Zc_J3 at hr
 refine c_seq (c_region (lB R (lB R (l_nil (q_next (c_ret ?_))))))
 obtain rfl := so hr
 exact qF () (fun w s => (s.e 2 []))
theorem Z0v_ok  {m1 : Lm} {prompt3 : (List Int)} {n5 : Int} {r : Bool} (hr : Z0v m1 prompt3 n5 = some r) :
 FnOk Try.prog 36 [(.agg [(iv m1.Size), (.slice A2 N2 D2)].toArray), (.slice A4 N4 D4), (iv n5)] [rds kT33 (.slice A2 N2 D2) m1.Rows, rds kT3 (.slice A4 N4 D4) prompt3] (fun (h : Unit) => ((.bool r), [])) := by
 unfold Z0v at hr
 refine fn_ok Try.func36 R 24 R R fun C V => ?_
 refine cN (_ :: _ :: V) ?_
 refine cL 0 sees_rd ?_
 rintro rfl
 refine cL 1 sees_rd ?_
 rintro rfl
 let W0 : List HP := RR kT33 A2 D2 m1.Rows :: RR kT3 A4 D4 prompt3 :: V
 refine cN W0 ?_
 refine c_seq (c_region (lBx R (fun b6 => (lB R (l_nil ?_)))))
 let W1 : List HP := bxl b6 [(iv m1.Size), (sc A2 m1.Rows D2)] 26 :: W0
 refine qN W1 ?_
 refine q_next (c_seq ?_)
 obtain ⟨r7, hx8, hr⟩ := bd hr
 obtain ⟨r9, hx10, hr⟩ := bd hr
 obtain ⟨r11, hx12, hr⟩ := bd hr
 refine cQ [(6, (.bool (((r7 && (decide ((prompt3.length : Int) ≤ (1700 : Int)))) && r9) && r11)))] (W1) ?_ ?_
 refine c_region (lO (vz (.agg [(iv m1.Size), (sc A2 m1.Rows D2)].toArray) (v_loadw 0 ag26 sz26 R R R R)) (lM (RR kT33 A2 D2 m1.Rows :: W1) (fun w s => (s.d 1 R)) ?_))
 refine lC 1 cb39 R (Zc_ok hx8) R ?_
 rintro _
 refine lN W1 ?_
 refine lB R ?_
 rcases bo r7 with hc13 | hc13
 refine lW (wnT hc13) (vS R) (lW (wnT hc13) (v_len sl29 R) (lW (wnT hc13) (vLe R R) (lO (pAT R hc13 R) (lB R ?_))))
 rcases bo (r7 && (decide ((prompt3.length : Int) ≤ (1700 : Int)))) with hc14 | hc14
 refine lW (wnT hc14) (vS R) (lW (wnT hc14) (vFa 0 fo26_0 R) (lW (wnT hc14) (vLd 0 ag3 R R R) (lM (RR kT3 A4 D4 prompt3 :: W1) (fun w s => (s.d 2 R)) ?_)))
 refine l_calln 1 R (wnT hc14) cb60 R (Z07_ok (gcall_t hx10 hc14)) R ?_
 rintro _
 refine lN W1 ?_
 refine lO (pAT R hc14 R) (lB R ?_)
 rcases bo ((r7 && (decide ((prompt3.length : Int) ≤ (1700 : Int)))) && r9) with hc15 | hc15
 refine lW (wnT hc15) (vI R) (l_calln 0 R (wnT hc15) cb40 R (Zd_ok (gcall_t hx12 hc15)) R ?_)
 rintro _
 refine lO (pAT R hc15 R) (lB R (l_nil ?_))
 exact qJ (fun w s => s)
 refine lf (wfF hc15) (lf (wfF hc15) (lO (pAF r11 R hc15) (lB R (l_nil ?_))))
 exact qJ (fun w s => s)
 refine lf (wfF hc14) (lf (wfF hc14) (lf (wfF hc14) (lf (wfF hc14) (lO (pAF r9 R hc14) (lB R (lf (wfF (aF hc14)) (lf (wfF (aF hc14)) (lO (pAF r11 R (aF hc14)) (lB R (l_nil ?_))))))))))
 exact qJ (fun w s => s)
 refine lf (wfF hc13) (lf (wfF hc13) (lf (wfF hc13) (lO (pAF (decide ((prompt3.length : Int) ≤ (1700 : Int))) R hc13) (lB R (lf (wfF (aF hc13)) (lf (wfF (aF hc13)) (lf (wfF (aF hc13)) (lf (wfF (aF hc13)) (lO (pAF r9 R (aF hc13)) (lB R (lf (wfF (aF (aF hc13))) (lf (wfF (aF (aF hc13))) (lO (pAF r11 R (aF (aF hc13))) (lB R (l_nil ?_)))))))))))))))
 exact qJ (fun w s => s)
 rintro σ1
 refine q_next (c_ret ?_)
 obtain rfl := so hr
 exact qF () (fun w s => (s.e 3 []))
theorem Z0l_ok  {c1 : Choice} {r : Bool} (hr : Z0l c1 = some r) :
 FnOk Try.prog 37 [(.agg [(iv c1.Power), (iv c1.Cut), (iv c1.Mass)].toArray)] [] (fun (h : Unit) => ((.bool r), [])) := by
 unfold Z0l at hr
 refine fn_ok Try.func37 R 16 R R fun C V => ?_
 refine cN V ?_
 refine c_seq (c_region (lBx R (fun b2 => (lB R (l_nil ?_)))))
 let W1 : List HP := bxl b2 [(iv c1.Power), (iv c1.Cut), (iv c1.Mass)] 28 :: V
 refine qN W1 ?_
 refine q_next (c_seq ?_)
 obtain ⟨r3, hx4, hr⟩ := bd hr
 obtain ⟨r5, hx6, hr⟩ := bd hr
 obtain ⟨r7, hx8, hr⟩ := bd hr
 refine cQ [(2, (.bool ((r3 && r5) && r7)))] (W1) ?_ ?_
 refine c_region (lO (vFa 0 fo28_0 R) (lO (vLd 0 ag3 R R R) (lC 0 cb40 R (Zd_ok hx4) R ?_)))
 rintro _
 refine lB R ?_
 rcases bo r3 with hc9 | hc9
 refine lW (wnT hc9) (vFa 1 fo28_1 R) (lW (wnT hc9) (vLd 0 ag3 R R R) (l_calln 0 R (wnT hc9) cb40 R (Zd_ok (gcall_t hx6 hc9)) R ?_))
 rintro _
 refine lO (pAT R hc9 R) (lB R ?_)
 rcases bo (r3 && r5) with hc10 | hc10
 refine lW (wnT hc10) (vFa 2 fo28_2 R) (lW (wnT hc10) (vLd 0 ag3 R R R) (l_calln 0 R (wnT hc10) cb40 R (Zd_ok (gcall_t hx8 hc10)) R ?_))
 rintro _
 refine lO (pAT R hc10 R) (lB R (l_nil ?_))
 exact qJ (fun w s => s)
 refine lf (wfF hc10) (lf (wfF hc10) (lf (wfF hc10) (lO (pAF r7 R hc10) (lB R (l_nil ?_)))))
 exact qJ (fun w s => s)
 refine lf (wfF hc9) (lf (wfF hc9) (lf (wfF hc9) (lO (pAF r5 R hc9) (lB R (lf (wfF (aF hc9)) (lf (wfF (aF hc9)) (lf (wfF (aF hc9)) (lO (pAF r7 R (aF hc9)) (lB R (l_nil ?_))))))))))
 exact qJ (fun w s => s)
 rintro σ1
 refine q_next (c_ret ?_)
 obtain rfl := so hr
 exact qF () (fun w s => (s.e 1 []))
theorem Z0g_ok  {p1 : Int} {r : Bool} (hr : Z0g p1 = some r) :
 FnOk Try.prog 38 [(iv p1)] [] (fun (h : Unit) => ((.bool r), [])) := by
 unfold Z0g at hr
 refine fn_ok Try.func38 R 9 R R fun C V => ?_
 refine cN V ?_
 refine c_seq (c_region (lB R (l_nil (q_next (c_seq (cQ [(2, (.bool ((decide (p1 ≥ (0 : Int))) && (decide (p1 < (4294967296 : Int))))))] (V) ?_ ?_))))))
 refine c_region (lI R (lO (vGe R R) (lB R ?_)))
 rcases bo (decide (p1 ≥ (0 : Int))) with hc2 | hc2
 refine lW (wnT hc2) (vI R) (lW (wnT hc2) (vLt R R) (lO (pAT R hc2 R) (lB R (l_nil ?_))))
 exact qJ (fun w s => s)
 refine lf (wfF hc2) (lf (wfF hc2) (lO (pAF (decide (p1 < (4294967296 : Int))) R hc2) (lB R (l_nil ?_))))
 exact qJ (fun w s => s)
 rintro σ1
 refine q_next (c_ret ?_)
 obtain rfl := so hr
 exact qF () (fun w s => s)
theorem Z0w_ok  {a1 : (List Int)} {r : (List Int)} (hr : Z0w a1 = some r) :
 FnOk Try.prog 42 [(.slice A2 N2 D2)] [rds kT3 (.slice A2 N2 D2) a1] (fun (h : HH) => ((.slice h.1 h.2.1 h.2.2), [ow kT3 3 (.slice h.1 h.2.1 h.2.2) r])) := by
 unfold Z0w at hr
 refine fn_ok Try.func42 R 6 R R fun C V => ?_
 refine cN (_ :: V) ?_
 refine cL 0 sees_rd ?_
 rintro rfl
 let W0 : List HP := RR kT3 A2 D2 a1 :: V
 refine cN W0 ?_
 refine c_seq (c_region (lS R (l_nil (q_next (c_seq ?_)))))
 obtain ⟨hg4, hr⟩ := gd hr
 refine c_region (l_build (K := kT3) (xs := ([] : List Int)) (vs := []) 0 R R sl29 sz3 zc3 R R R R R R ?_ R (fun A3 D3 => ?_))
 exact fun I h s => (mO3).list [] I h s
 refine lN (OO kT3 3 A3 D3 ([] : List Int) :: W0) ?_
 refine lS R (lM (_ :: RR kT3 A2 D2 a1 :: W0) (fun w s => ((s.dup 1 R).mv 1)) ?_)
 refine l_app (K := kT3) 17592186044416 R R sl29 sz3 by3 (Zr.zk zT3 zc3) R R R R R R (src_rd (Kind.scal_flat _ _)) hg4 (fun A5 D5 => (lN (OO kT3 3 A5 D5 (([] : List Int) ++ a1) :: W0) ?_))
 refine lS R (l_nil (q_next (c_ret ?_)))
 obtain rfl := so hr
 exact qF (A5, (([] : List Int) ++ a1).length, D5) (fun w s => (s.e 2 [0]))
theorem Z12_ok  {p1 : Int} {r : Int} (hr : Z12 p1 = some r) :
 FnOk Try.prog 62 [(iv p1)] [] (fun (h : Unit) => ((iv r), [])) := by
 unfold Z12 at hr
 refine fn_ok Try.func62 R 10 R R fun C V => ?_
 refine cN V ?_
 refine c_seq (c_region (lI R (l_nil (q_next (c_seq (c_seq ?_))))))
 obtain ⟨r2, hx3, hr⟩ := bd hr
 refine c_region (lI R (lC 0 cb38 R (Z0g_ok hx3) R ?_))
 rintro _
 refine lO (vNo R) (l_nil (q_next ?_))
 rcases bif_ hr with ⟨hb4, hr⟩ | ⟨hb4, hr⟩
 refine c_true R hb4 (c_seq (c_region (lI R (l_nil (q_next (c_ret (q_ret ?_)))))))
 obtain rfl := so hr
 exact qF () (fun w s => s)
 refine c_false R hb4 (c_skip (q_next (c_seq (c_region (lI R (lO (vMu R R) (lO (vAd R R) (lO (vp (iv (bits .and .i64 (w64 ((w64 ((1664525 : Int) * p1)) + (1013904223 : Int))) (4294967295 : Int))) R) (lI R (l_nil (q_next (c_ret ?_))))))))))))
 obtain rfl := so hr
 exact qF () (fun w s => s)
theorem Z10_ok  {list1 : (List Int)} {key3 : (List Int)} {r : Bool} (hr : Z10 list1 key3 = some r) :
 FnOk Try.prog 84 [(.slice A2 N2 D2), (.slice A4 N4 D4)] [rds kT3 (.slice A2 N2 D2) list1, rds kT3 (.slice A4 N4 D4) key3] (fun (h : Unit) => ((.bool r), [])) := by
 unfold Z10 at hr
 refine fn_ok Try.func84 R 20 R R fun C V => ?_
 refine cN (_ :: _ :: V) ?_
 refine cL 0 sees_rd ?_
 rintro rfl
 refine cL 1 sees_rd ?_
 rintro rfl
 let W0 : List HP := RR kT3 A2 D2 list1 :: RR kT3 A4 D4 key3 :: V
 refine cN W0 ?_
 refine c_seq (c_region (lB R (l_nil (q_next (c_seq (c_region (lS R (lO (v_len sl29 R) (lS R (lO (v_len sl29 R) (lO (vSb R R) (lI R (l_nil (q_next (c_seq ?_)))))))))))))))
 obtain ⟨hg5, hr⟩ := gd hr
 obtain ⟨r7, hx8, hr⟩ := bd hr
 refine cQ [(4, (.bool ((decide ((w64 ((list1.length : Int) - (key3.length : Int))) ≥ (0 : Int))) && r7)))] (W0) ?_ ?_
 refine c_region (lI R (lO (vGe R R) (lB R ?_)))
 rcases bo (decide ((w64 ((list1.length : Int) - (key3.length : Int))) ≥ (0 : Int))) with hc9 | hc9
 refine lW (wnT hc9) (vS R) (lW (wnT hc9) (vI R) (l_cut (K := kT3) (w64 ((list1.length : Int) - (key3.length : Int))) (list1.length : Int) 0 R (wnT hc9) sl29 sz3 R R R R (hg5 hc9).1 (hg5 hc9).2.1 (hg5 hc9).2.2 (fun A6 D6 => (lW (wnT hc9) (vS R) (lM (RR kT3 A6 D6 (sub list1 (w64 ((list1.length : Int) - (key3.length : Int))) (list1.length : Int)) :: RR kT3 A4 D4 key3 :: RR kT3 A6 D6 (sub list1 (w64 ((list1.length : Int) - (key3.length : Int))) (list1.length : Int)) :: W0) (fun w s => (((s.d 0 R).d 3 R).e 3 [1, 0, 2])) ?_)))))
 refine l_calln 2 R (wnT hc9) cb50 R (Z02_ok (gcall_t hx8 hc9)) R ?_
 rintro _
 refine lN (_ :: W0) ?_
 refine lO (pAT R hc9 R) (lB R (l_nil ?_))
 exact qJ (fun w s => (s.e 1 []))
 refine lf (wfF hc9) (lf (wfF hc9) (lf (wfF hc9) (lf (wfF hc9) (lf (wfF hc9) (lO (pAF r7 R hc9) (lB R (l_nil ?_)))))))
 exact qJ (fun w s => s)
 rintro σ1
 refine q_next (c_ret ?_)
 obtain rfl := so hr
 exact qF () (fun w s => (s.e 2 []))
theorem Zi_ok  {m1 : Lm} {history3 : (List Int)} {r : (List Int)} (hr : Zi m1 history3 = some r) :
 FnOk Try.prog 64 [(.agg [(iv m1.Size), (.slice A2 N2 D2)].toArray), (.slice A4 N4 D4)] [rds kT33 (.slice A2 N2 D2) m1.Rows, rds kT3 (.slice A4 N4 D4) history3] (fun (h : HH) => ((.slice h.1 h.2.1 h.2.2), [rds kT3 (.slice h.1 h.2.1 h.2.2) r])) := by
 unfold Zi at hr
 refine fn_ok Try.func64 R 50 R R fun C V => ?_
 refine cN (_ :: _ :: V) ?_
 refine cL 0 sees_rd ?_
 rintro rfl
 refine cL 1 sees_rd ?_
 rintro rfl
 let W0 : List HP := RR kT33 A2 D2 m1.Rows :: RR kT3 A4 D4 history3 :: V
 refine cN W0 ?_
 refine c_seq (c_region (lBx R (fun b5 => (lS R (l_nil ?_)))))
 let W1 : List HP := bxl b5 [(iv m1.Size), (sc A2 m1.Rows D2)] 26 :: W0
 refine qN W1 ?_
 refine q_next (c_seq (c_region (lI R (l_nil (q_next (c_seq (c_cut (A := (Int) × (Unit)) (fun a => Zi_J3 m1 a.1 = some r) (fun a => [(2, (pt b5 0)), (5, (iv a.1))]) (fun a => W1) ?_ ?_)))))))
 refine c_seq (c_region (lI R (l_nil (q_next (c_block ?_)))))
 obtain ⟨e1, hl1, hk1⟩ := bd hr
 refine c_loop (A := Unit) hl1 (fun s a => [(1, (sc A4 history3 D4)), (2, (pt b5 0)), (5, (iv s.1)), (6, (iv s.2))]) (fun s a => W1) () (aS R) (fun w s => s) ?_
 rintro ⟨best21, i22⟩ _ σ1 out1 hr he1
 replace hr : Zi_L1 m1 history3 best21 i22 = some out1 := hr
 unfold Zi_L1 at hr
 refine c_seq (c_seq (c_region (lI R (lO (vFa 1 fo26_1 R) (lO (vLd 0 ag24 R R R) (lO (v_len sl24 R) (lO (vLt R R) (l_nil (q_next ?_)))))))))
 rcases bif_ hr with ⟨hb23, hr⟩ | ⟨hb23, hr⟩
 refine c_true R hb23 (c_skip (q_next (c_seq (c_cut (A := (Int) × (Unit)) (fun a => Zi_J2 i22 a.1 = some out1) (fun a => [(1, (sc A4 history3 D4)), (2, (pt b5 0)), (5, (iv a.1)), (6, (iv i22))]) (fun a => W1) ?_ ?_))))
 refine c_block (c_seq ?_)
 obtain ⟨hg24, hr⟩ := gd hr
 obtain ⟨r29, hx30, hr⟩ := bd hr
 obtain ⟨hg31, hr⟩ := gd hr
 refine cQ [(1, (sc A4 history3 D4)), (2, (pt b5 0)), (5, (iv best21)), (6, (iv i22)), (42, (.bool (r29 && ((decide (best21 < (0 : Int))) || (decide ((((ix m1.Rows i22).Key).length : Int) > (((ix m1.Rows best21).Key).length : Int)))))))] (W1) ?_ ?_
 rcases bo r29 with hc34 | hc34
 rcases bo (decide (best21 < (0 : Int))) with hc35 | hc35
 refine c_some 1 sees_rd (show 0 < m1.Rows.length by have := hg24; omega) (fun g25 o26 ha => ?_)
 subst ha
 refine c_elem (K := kT33) 1 i22 dT33.dec R hg24.1 hg24.2 ?_
 rintro ⟨⟨A27, D27⟩, ⟨A28, D28⟩⟩
 refine cN (cl g25 (o26 + i22.toNat * 2) [(sc A27 ((ix m1.Rows i22).Key) D27), (sc A28 ((ix m1.Rows i22).Weights) D28)] :: RR kT3 A27 D27 ((ix m1.Rows i22).Key) :: RR kT3 A28 D28 ((ix m1.Rows i22).Weights) :: W1) ?_
 refine cdr 29 [] mixo (fun ht hn => (dR 0 R (vS R) (dR 1 R (vFa 1 fo26_1 R) (dR 2 R (vLd 3 ag24 R R R) (dR 3 R (vI R) (dR 4 R (vIa sl24 sz33 R R hg24) (dR 5 R (vz (.pointer (some ⟨g25, o26 + i22.toNat * 2, none⟩)) (v_fa fo33_0 R R)) (dR 6 R (v_clf (fo := 0) 0 ag29 R R R) (d1 7 R (lM (RR kT3 A4 D4 history3 :: rds _ _ _ :: cl _ _ _ :: rds _ _ _ :: rds _ _ _ :: W1) (fun w s => (((s.d 5 R).d 2 R).e 5 [1, 0, 2, 3, 4])) ?_))))))))))
 refine lC 2 cb84 R (Z10_ok hx30) R ?_
 rintro _
 refine lN (_ :: _ :: _ :: W1) ?_
 refine l_nil (q_draw (sL []) (dR 8 R (vB R) (dW 9 R (wnT hc34) (vI R) (dW 10 R (wnT hc34) (vLt R R) (dW 11 R (wnT hc34) (vB R) (dF 12 R (wfT hc35) (dF 13 R (wfT hc35) (dF 14 R (wfT hc35) (dF 15 R (wfT hc35) (dF 16 R (wfT hc35) (dF 17 R (wfT hc35) (dF 18 R (wfT hc35) (dF 19 R (wfT hc35) (dF 20 R (wfT hc35) (dF 21 R (wfT hc35) (dF 22 R (wfT hc35) (dF 23 R (wfT hc35) (dF 24 R (wfT hc35) (dF 25 R (wfT hc35) (dF 26 R (wfT hc35) (dW 27 R (wnT hc34) (pOT (decide ((((ix m1.Rows i22).Key).length : Int) > (((ix m1.Rows best21).Key).length : Int))) R hc35) (dR 28 R (pAT R hc34 R) (dD ?_)))))))))))))))))))))))
 exact qJ (fun w s => (s.e 3 []))
 refine c_some 1 sees_rd (show 0 < m1.Rows.length by have := hg24; omega) (fun g25 o26 ha => ?_)
 subst ha
 refine c_elem (K := kT33) 1 i22 dT33.dec R hg24.1 hg24.2 ?_
 rintro ⟨⟨A27, D27⟩, ⟨A28, D28⟩⟩
 refine c_elem (K := kT33) 4 best21 dT33.dec R (hg31 hc34 hc35).1 (hg31 hc34 hc35).2 ?_
 rintro ⟨⟨A32, D32⟩, ⟨A33, D33⟩⟩
 refine cN (cl g25 (o26 + best21.toNat * 2) [(sc A32 ((ix m1.Rows best21).Key) D32), (sc A33 ((ix m1.Rows best21).Weights) D33)] :: RR kT3 A32 D32 ((ix m1.Rows best21).Key) :: RR kT3 A33 D33 ((ix m1.Rows best21).Weights) :: _ :: _ :: _ :: W1) ?_
 refine cdr 29 [] mixo (fun ht hn => (dR 0 R (vS R) (dR 1 R (vFa 1 fo26_1 R) (dR 2 R (vLd 6 ag24 R R R) (dR 3 R (vI R) (dR 4 R (vIa sl24 sz33 R R hg24) (dR 5 R (vz (.pointer (some ⟨g25, o26 + i22.toNat * 2, none⟩)) (v_fa fo33_0 R R)) (dR 6 R (v_clf (fo := 0) 3 ag29 R R R) (d1 7 R (lM (RR kT3 A4 D4 history3 :: rds _ _ _ :: cl _ _ _ :: rds _ _ _ :: rds _ _ _ :: cl _ _ _ :: rds _ _ _ :: rds _ _ _ :: W1) (fun w s => (((s.d 8 R).d 5 R).f 8 [1, 1, 0, 1, 2, 6])) ?_))))))))))
 refine lC 2 cb84 R (Z10_ok hx30) R ?_
 rintro _
 refine lN (_ :: _ :: _ :: _ :: _ :: _ :: W1) ?_
 refine l_nil (q_draw (sL []) (dR 8 R (vB R) (dW 9 R (wnT hc34) (vI R) (dW 10 R (wnT hc34) (vLt R R) (dW 11 R (wnT hc34) (vB R) (dW 12 R (wnF hc35) (vFa 1 fo26_1 R) (dW 13 R (wnF hc35) (vLd 6 ag24 R R R) (dW 14 R (wnF hc35) (vI R) (dW 15 R (wnF hc35) (vIa sl24 sz33 R R hg24) (dW 16 R (wnF hc35) (vz (.pointer (some ⟨g25, o26 + i22.toNat * 2, none⟩)) (v_fa fo33_0 R R)) (dW 17 R (wnF hc35) (v_clf (fo := 0) 3 ag29 R R R) (dW 18 R (wnF hc35) (v_len sl29 R) (dW 19 R (wnF hc35) (vFa 1 fo26_1 R) (dW 20 R (wnF hc35) (vLd 6 ag24 R R R) (dW 21 R (wnF hc35) (vI R) (dW 22 R (wnF hc35) (vIa sl24 sz33 R R (hg31 hc34 hc35)) (dW 23 R (wnF hc35) (vz (.pointer (some ⟨g25, o26 + best21.toNat * 2, none⟩)) (v_fa fo33_0 R R)) (dW 24 R (wnF hc35) (v_clf (fo := 0) 0 ag29 R R R) (dW 25 R (wnF hc35) (v_len sl29 R) (dW 26 R (wnF hc35) (vGt R R) (dW 27 R (wnT hc34) (pOF R hc35 R) (dR 28 R (pAT R hc34 R) (dD ?_)))))))))))))))))))))))
 exact qJ (fun w s => (s.e 6 []))
 refine c_some 1 sees_rd (show 0 < m1.Rows.length by have := hg24; omega) (fun g25 o26 ha => ?_)
 subst ha
 refine c_elem (K := kT33) 1 i22 dT33.dec R hg24.1 hg24.2 ?_
 rintro ⟨⟨A27, D27⟩, ⟨A28, D28⟩⟩
 refine cN (_ :: _ :: _ :: W1) ?_
 refine cdr 29 [] mixo (fun ht hn => (dR 0 R (vS R) (dR 1 R (vFa 1 fo26_1 R) (dR 2 R (vLd 3 ag24 R R R) (dR 3 R (vI R) (dR 4 R (vIa sl24 sz33 R R hg24) (dR 5 R (vz (.pointer (some ⟨g25, o26 + i22.toNat * 2, none⟩)) (v_fa fo33_0 R R)) (dR 6 R (v_clf (fo := 0) 0 ag29 R R R) (d1 7 R (lM (RR kT3 A4 D4 history3 :: rds _ _ _ :: cl _ _ _ :: rds _ _ _ :: rds _ _ _ :: W1) (fun w s => (((s.d 5 R).d 2 R).e 5 [1, 0, 2, 3, 4])) ?_))))))))))
 refine lC 2 cb84 R (Z10_ok hx30) R ?_
 rintro _
 refine lN (_ :: _ :: _ :: W1) ?_
 refine l_nil (q_draw (sL []) (dR 8 R (vB R) (dF 9 R (wfF hc34) (dF 10 R (wfF hc34) (dF 11 R (wfF hc34) (dF 12 R R (dF 13 R R (dF 14 R R (dF 15 R R (dF 16 R R (dF 17 R R (dF 18 R R (dF 19 R R (dF 20 R R (dF 21 R R (dF 22 R R (dF 23 R R (dF 24 R R (dF 25 R R (dF 26 R R (dF 27 R (wfF hc34) (dR 28 R (pAF ((decide (best21 < (0 : Int))) || (decide ((((ix m1.Rows i22).Key).length : Int) > (((ix m1.Rows best21).Key).length : Int)))) R hc34) (dD ?_)))))))))))))))))))))))
 exact qJ (fun w s => (s.e 3 []))
 rintro σ1
 refine q_next ?_
 rcases bif_ hr with ⟨hb36, hr⟩ | ⟨hb36, hr⟩
 refine c_true R hb36 (c_region (lI R (lI R (l_nil (q_blockn ?_)))))
 exact qI (i22, ()) hr (fun w s => s)
 refine c_false R hb36 (c_skip (q_blockn ?_))
 exact qI (best21, ()) hr (fun w s => s)
 rintro ⟨best37, _⟩ σ1 hr
 replace hr : Zi_J2 i22 best37 = some out1 := hr
 unfold Zi_J2 at hr
 refine c_region (lI R (lO (vAd R R) (lI R (l_nil ?_))))
 obtain rfl := so hr
 exact qA () (fun w s => s)
 refine c_false R hb23 (c_exit (q_exit ?_))
 obtain rfl := so hr
 obtain rfl := he1 _ R
 have hr := hk1
 refine q_exit (q_block ?_)
 exact qI (best21, ()) hr (fun w s => s)
 rintro ⟨best40, _⟩ σ1 hr
 replace hr : Zi_J3 m1 best40 = some r := hr
 unfold Zi_J3 at hr
 refine c_seq ?_
 obtain ⟨hg41, hr⟩ := gd hr
 refine c_region (lO (vFa 1 fo26_1 R) (lO (vLd 0 ag24 R R R) (lI R (t_some 1 sees_rd (show 0 < m1.Rows.length by have := hg41; omega) (fun g42 o43 ha => ?_)))))
 subst ha
 refine lO (vIa sl24 sz33 R R hg41) (lO (vz (.pointer (some ⟨g42, o43 + best40.toNat * 2 + 1, none⟩)) (v_fa fo33_1 R R)) (t_elem (K := kT33) 1 best40 dT33.dec R hg41.1 hg41.2 ?_))
 rintro ⟨⟨A44, D44⟩, ⟨A45, D45⟩⟩
 refine lN (cl g42 (o43 + best40.toNat * 2) [(sc A44 ((ix m1.Rows best40).Key) D44), (sc A45 ((ix m1.Rows best40).Weights) D45)] :: RR kT3 A44 D44 ((ix m1.Rows best40).Key) :: RR kT3 A45 D45 ((ix m1.Rows best40).Weights) :: W1) ?_
 refine lO (v_clf (fo := 1) 0 ag29 R R R) (lS R (l_nil (q_next (c_ret ?_))))
 obtain rfl := so hr
 exact qF (A45, ((ix m1.Rows best40).Weights).length, D45) (fun w s => (s.e 6 [2]))
theorem Zk_ok  {p1 : (List Int)} {taken3 : (List Bool)} {r : Int} (hr : Zk p1 taken3 = some r) :
 FnOk Try.prog 83 [(.slice A2 N2 D2), (.slice A4 N4 D4)] [rds kT3 (.slice A2 N2 D2) p1, rds kT4 (.slice A4 N4 D4) taken3] (fun (h : Unit) => ((iv r), [])) := by
 unfold Zk at hr
 refine fn_ok Try.func83 R 35 R R fun C V => ?_
 refine cN (_ :: _ :: V) ?_
 refine cL 0 sees_rd ?_
 rintro rfl
 refine cL 1 sees_rd ?_
 rintro rfl
 let W0 : List HP := RR kT3 A2 D2 p1 :: RR kT4 A4 D4 taken3 :: V
 refine cN W0 ?_
 refine c_seq (c_region (lI R (l_nil (q_next (c_seq (c_region (lI R (l_nil (q_next (c_seq (c_cut (A := (Int) × (Unit)) (fun a => Zk_J3 a.1 = some r) (fun a => [(5, (iv a.1))]) (fun a => W0) ?_ ?_)))))))))))
 refine c_seq (c_region (lI R (l_nil (q_next (c_block ?_)))))
 obtain ⟨e1, hl1, hk1⟩ := bd hr
 refine c_loop (A := Unit) hl1 (fun s a => [(0, (sc A2 p1 D2)), (1, (sc A4 taken3 D4)), (5, (iv s.1)), (6, (iv s.2))]) (fun s a => W0) () (aS R) (fun w s => s) ?_
 rintro ⟨x17, i18⟩ _ σ1 out1 hr he1
 replace hr : Zk_L1 p1 taken3 x17 i18 = some out1 := hr
 unfold Zk_L1 at hr
 refine c_seq (c_seq (c_region (lI R (lS R (lO (v_len sl29 R) (lO (vLt R R) (l_nil (q_next ?_))))))))
 rcases bif_ hr with ⟨hb19, hr⟩ | ⟨hb19, hr⟩
 refine c_true R hb19 (c_skip (q_next (c_seq (c_cut (A := (Int) × (Unit)) (fun a => Zk_J2 i18 a.1 = some out1) (fun a => [(0, (sc A2 p1 D2)), (1, (sc A4 taken3 D4)), (5, (iv a.1)), (6, (iv i18))]) (fun a => W0) ?_ ?_))))
 refine c_block (c_seq ?_)
 obtain ⟨hg20, hr⟩ := gd hr
 obtain ⟨hg23, hr⟩ := gd hr
 obtain ⟨hg26, hr⟩ := gd hr
 refine cQ [(0, (sc A2 p1 D2)), (1, (sc A4 taken3 D4)), (5, (iv x17)), (6, (iv i18)), (32, (.bool ((!(ix taken3 i18)) && ((decide (x17 < (0 : Int))) || (decide ((ix p1 i18) > (ix p1 x17)))))))] (W0) ?_ ?_
 rcases bo (!(ix taken3 i18)) with hc27 | hc27
 rcases bo (decide (x17 < (0 : Int))) with hc28 | hc28
 refine c_some 1 sees_rd (show 0 < taken3.length by have := hg20; omega) (fun g21 o22 ha => ?_)
 subst ha
 refine cdr 20 [] mixo (fun ht hn => (dR 0 R (vS R) (dR 1 R (vI R) (dR 2 R (vIa sl103 sz4 R R hg20) (dR 3 R (vz (.bool (ix taken3 i18)) (v_lde (K := kT4) (fo := 0) (pr := fun x => (.bool x)) 1 i18 ag4 (dT4.leaf fun _ _ => R) sees_rd R hg20.1 hg20.2)) (dR 4 R (vNo R) (dR 5 R (vB R) (dW 6 R (wnT hc27) (vI R) (dW 7 R (wnT hc27) (vLt R R) (dW 8 R (wnT hc27) (vB R) (dF 9 R (wfT hc28) (dF 10 R (wfT hc28) (dF 11 R (wfT hc28) (dF 12 R (wfT hc28) (dF 13 R (wfT hc28) (dF 14 R (wfT hc28) (dF 15 R (wfT hc28) (dF 16 R (wfT hc28) (dF 17 R (wfT hc28) (dW 18 R (wnT hc27) (pOT (decide ((ix p1 i18) > (ix p1 x17))) R hc28) (dR 19 R (pAT R hc27 R) (dD ?_))))))))))))))))))))))
 exact qJ (fun w s => s)
 refine c_some 1 sees_rd (show 0 < taken3.length by have := hg20; omega) (fun g21 o22 ha => ?_)
 subst ha
 refine c_some 0 sees_rd (show 0 < p1.length by have := (hg23 hc27 hc28); omega) (fun g24 o25 ha => ?_)
 subst ha
 refine cdr 20 [] mixo (fun ht hn => (dR 0 R (vS R) (dR 1 R (vI R) (dR 2 R (vIa sl103 sz4 R R hg20) (dR 3 R (vz (.bool (ix taken3 i18)) (v_lde (K := kT4) (fo := 0) (pr := fun x => (.bool x)) 1 i18 ag4 (dT4.leaf fun _ _ => R) sees_rd R hg20.1 hg20.2)) (dR 4 R (vNo R) (dR 5 R (vB R) (dW 6 R (wnT hc27) (vI R) (dW 7 R (wnT hc27) (vLt R R) (dW 8 R (wnT hc27) (vB R) (dW 9 R (wnF hc28) (vS R) (dW 10 R (wnF hc28) (vI R) (dW 11 R (wnF hc28) (vIa sl29 sz3 R R (hg23 hc27 hc28)) (dW 12 R (wnF hc28) (vLi 0 ag3 sees_rd R (hg23 hc27 hc28)) (dW 13 R (wnF hc28) (vS R) (dW 14 R (wnF hc28) (vI R) (dW 15 R (wnF hc28) (vIa sl29 sz3 R R (hg26 hc27 hc28)) (dW 16 R (wnF hc28) (vLi 0 ag3 sees_rd R (hg26 hc27 hc28)) (dW 17 R (wnF hc28) (vGt R R) (dW 18 R (wnT hc27) (pOF R hc28 R) (dR 19 R (pAT R hc27 R) (dD ?_))))))))))))))))))))))
 exact qJ (fun w s => s)
 refine c_some 1 sees_rd (show 0 < taken3.length by have := hg20; omega) (fun g21 o22 ha => ?_)
 subst ha
 refine cdr 20 [] mixo (fun ht hn => (dR 0 R (vS R) (dR 1 R (vI R) (dR 2 R (vIa sl103 sz4 R R hg20) (dR 3 R (vz (.bool (ix taken3 i18)) (v_lde (K := kT4) (fo := 0) (pr := fun x => (.bool x)) 1 i18 ag4 (dT4.leaf fun _ _ => R) sees_rd R hg20.1 hg20.2)) (dR 4 R (vNo R) (dR 5 R (vB R) (dF 6 R (wfF hc27) (dF 7 R (wfF hc27) (dF 8 R (wfF hc27) (dF 9 R R (dF 10 R R (dF 11 R R (dF 12 R R (dF 13 R R (dF 14 R R (dF 15 R R (dF 16 R R (dF 17 R R (dF 18 R (wfF hc27) (dR 19 R (pAF ((decide (x17 < (0 : Int))) || (decide ((ix p1 i18) > (ix p1 x17)))) R hc27) (dD ?_))))))))))))))))))))))
 exact qJ (fun w s => s)
 rintro σ1
 refine q_next ?_
 rcases bif_ hr with ⟨hb29, hr⟩ | ⟨hb29, hr⟩
 refine c_true R hb29 (c_region (lI R (lI R (l_nil (q_blockn ?_)))))
 exact qI (i18, ()) hr (fun w s => s)
 refine c_false R hb29 (c_skip (q_blockn ?_))
 exact qI (x17, ()) hr (fun w s => s)
 rintro ⟨x30, _⟩ σ1 hr
 replace hr : Zk_J2 i18 x30 = some out1 := hr
 unfold Zk_J2 at hr
 refine c_region (lI R (lO (vAd R R) (lI R (l_nil ?_))))
 obtain rfl := so hr
 exact qA () (fun w s => s)
 refine c_false R hb19 (c_exit (q_exit ?_))
 obtain rfl := so hr
 obtain rfl := he1 _ R
 have hr := hk1
 refine q_exit (q_block ?_)
 exact qI (x17, ()) hr (fun w s => s)
 rintro ⟨x33, _⟩ σ1 hr
 replace hr : Zk_J3 x33 = some r := hr
 unfold Zk_J3 at hr
 refine c_seq (c_region (lI R (lI R (l_nil (q_next (c_ret ?_))))))
 obtain rfl := so hr
 exact qF () (fun w s => (s.e 2 []))
theorem Z3_ok  {c1 : Choice} {weights2 : (List Int)} {r : (List Int)} (hr : Z3 c1 weights2 = some r) :
 FnOk Try.prog 63 [(.agg [(iv c1.Power), (iv c1.Cut), (iv c1.Mass)].toArray), (.slice A3 N3 D3)] [rds kT3 (.slice A3 N3 D3) weights2] (fun (h : HH) => ((.slice h.1 h.2.1 h.2.2), [ow kT3 3 (.slice h.1 h.2.1 h.2.2) r])) := by
 unfold Z3 at hr
 refine fn_ok Try.func63 R 140 R R fun C V => ?_
 refine cN (_ :: V) ?_
 refine cL 0 sees_rd ?_
 rintro rfl
 let W0 : List HP := RR kT3 A3 D3 weights2 :: V
 refine cN W0 ?_
 refine c_seq (c_region (lBx R (fun b4 => (lS R (l_nil ?_)))))
 let W1 : List HP := bxl b4 [(iv c1.Power), (iv c1.Cut), (iv c1.Mass)] 28 :: W0
 refine qN W1 ?_
 refine q_next (c_seq (c_region (l_build (K := kT3) (xs := ([] : List Int)) (vs := []) 0 R R sl29 sz3 zc3 R R R R R R ?_ R (fun A5 D5 => ?_))))
 exact fun I h s => (mO3).list [] I h s
 refine lN (OO kT3 3 A5 D5 ([] : List Int) :: W1) ?_
 refine lS R (l_nil (q_next (c_seq (c_seq ?_))))
 obtain ⟨r6, hx7, hr⟩ := bd hr
 obtain ⟨r8, hx9, hr⟩ := bd hr
 refine cQ [(1, (sc A3 weights2 D3)), (2, (pt b4 0)), (5, (sc A5 ([] : List Int) D5)), (30, (.bool (((!r6) || (decide ((weights2.length : Int) > (64 : Int)))) || (!r8))))] (OO kT3 3 A5 D5 ([] : List Int) :: W1) ?_ ?_
 refine c_region (lO (vz (.agg [(iv c1.Power), (iv c1.Cut), (iv c1.Mass)].toArray) (v_loadw 1 ag28 sz28 R R R R)) (lC 0 cb37 R (Z0l_ok hx7) R ?_))
 rintro _
 refine lO (vNo R) (lB R ?_)
 rcases bo (!r6) with hc10 | hc10
 refine lf (wfT hc10) (lf (wfT hc10) (lf (wfT hc10) (lO (pOT (decide ((weights2.length : Int) > (64 : Int))) R hc10) (lB R (lf (wfT (oT hc10)) (lf (wfT (oT hc10)) (lf (wfT (oT hc10)) (lO (pOT (!r8) R (oT hc10)) (l_nil ?_)))))))))
 exact qJ (fun w s => s)
 refine lW (wnF hc10) (vS R) (lW (wnF hc10) (v_len sl29 R) (lW (wnF hc10) (vGt R R) (lO (pOF R hc10 R) (lB R ?_))))
 rcases bo ((!r6) || (decide ((weights2.length : Int) > (64 : Int)))) with hc11 | hc11
 refine lf (wfT hc11) (lf (wfT hc11) (lf (wfT hc11) (lO (pOT (!r8) R hc11) (l_nil ?_))))
 exact qJ (fun w s => s)
 refine lW (wnF hc11) (vS R) (lM (RR kT3 A3 D3 weights2 :: _ :: W1) (fun w s => (s.d 2 R)) ?_)
 refine l_calln 1 R (wnF hc11) cb61 R (Zz_ok (gcall_t hx9 (not_ff hc11))) R ?_
 rintro _
 refine lN (_ :: W1) ?_
 refine lW (wnF hc11) (vNo R) (lO (pOF R hc11 R) (l_nil ?_))
 exact qJ (fun w s => s)
 rintro σ1
 refine q_next ?_
 rcases bif_ hr with ⟨hb12, hr⟩ | ⟨hb12, hr⟩
 refine c_true R hb12 (c_seq (c_region (lS R (lS R (l_nil (q_next (c_ret (q_ret ?_))))))))
 obtain rfl := so hr
 exact qF (A5, ([] : List Int).length, D5) (fun w s => (s.e 3 [0]))
 refine c_false R hb12 (c_skip (q_next (c_seq (c_region (l_build (K := kT3) (xs := ([] : List Int)) (vs := []) 0 R R sl29 sz3 zc3 R R R R R R ?_ R (fun A13 D13 => ?_))))))
 exact fun I h s => (mO3).list [] I h s
 refine lN (OO kT3 3 A13 D13 ([] : List Int) :: _ :: W1) ?_
 refine lS R (l_nil (q_next (c_seq (c_cut (A := ((List Int)) × (HH)) (fun a => Z3_J3 c1 a.1 = some r) (fun a => [(2, (pt b4 0)), (6, (.slice a.2.1 a.2.2.1 a.2.2.2))]) (fun a => ow kT3 3 (.slice a.2.1 a.2.2.1 a.2.2.2) a.1 :: W1) ?_ ?_))))
 refine c_seq (c_region (lI R (l_nil (q_next (c_block ?_)))))
 obtain ⟨e1, hl1, hk1⟩ := bd hr
 refine c_loop (A := HH × HH) hl1 (fun s a => [(1, (.slice a.1.1 a.1.2.1 a.1.2.2)), (2, (pt b4 0)), (6, (.slice a.2.1 a.2.2.1 a.2.2.2)), (7, (iv s.2))]) (fun s a => rds kT3 (.slice a.1.1 a.1.2.1 a.1.2.2) weights2 :: ow kT3 3 (.slice a.2.1 a.2.2.1 a.2.2.2) s.1 :: W1) ((A3, weights2.length, D3), (A13, ([] : List Int).length, D13)) (aS R) (fun w s => ((s.d 3 R).e 3 [0, 1])) ?_
 rintro ⟨x24, i26⟩ ⟨⟨A23, N23, D23⟩, ⟨A25, N25, D25⟩⟩ σ1 out1 hr he1
 replace hr : Z3_L1 c1 weights2 x24 i26 = some out1 := hr
 unfold Z3_L1 at hr
 refine c_len 0 sees_rd (fun (hn : N23 = weights2.length) => ?_)
 subst hn
 refine c_len 1 sees_ow (fun (hn : N25 = x24.length) => ?_)
 subst hn
 refine c_seq (c_seq (c_region (lI R (lS R (lO (v_len sl29 R) (lO (vLt R R) (l_nil (q_next ?_))))))))
 rcases bif_ hr with ⟨hb27, hr⟩ | ⟨hb27, hr⟩
 refine c_true R hb27 (c_skip (q_next (c_seq (c_block (c_seq ?_)))))
 obtain ⟨hg28, hr⟩ := gd hr
 refine c_region (lS R (lI R (t_some 0 sees_rd (show 0 < weights2.length by have := hg28; omega) (fun g29 o30 ha => ?_))))
 subst ha
 refine lO (vIa sl29 sz3 R R hg28) (lO (vLi 0 ag3 sees_rd R hg28) (lI R (l_nil (q_next (c_seq (c_cut (A := (Int) × (Unit)) (fun a => Z3_J2 x24 i26 a.1 = some out1) (fun a => [(1, (sc (ad g29 o30) weights2 D23)), (2, (pt b4 0)), (6, (sc A25 x24 D25)), (7, (iv i26)), (8, (iv a.1))]) (fun a => RR kT3 (ad g29 o30) D23 weights2 :: OO kT3 3 A25 D25 x24 :: W1) ?_ ?_))))))
 refine c_seq (c_region (lO (vFa 0 fo28_0 R) (lO (vLd 2 ag3 R R R) (lO (vEq R R) (l_nil (q_next ?_))))))
 rcases bif_ hr with ⟨hb31, hr⟩ | ⟨hb31, hr⟩
 refine c_true R hb31 (c_region (lI R (lI R (lO (vMu R R) (lI R (l_nil ?_))))))
 exact qI ((w64 ((ix weights2 i26) * (ix weights2 i26))), ()) hr (fun w s => s)
 refine c_false R hb31 (c_skip ?_)
 exact qI ((ix weights2 i26), ()) hr (fun w s => s)
 rintro ⟨x32, _⟩ σ1 hr
 replace hr : Z3_J2 x24 i26 x32 = some out1 := hr
 unfold Z3_J2 at hr
 obtain ⟨hg34, hr⟩ := gd hr
 refine c_region (lS R (lI R (l_build (K := kT3) (xs := ([x32] : List Int)) (vs := [(iv x32)]) 0 R R sl29 sz3 zc3 R R R R R R ?_ R (fun A33 D33 => ?_))))
 exact fun I h s => (mO3).list [((), x32)] I h s
 refine lN (OO kT3 3 A33 D33 ([x32] : List Int) :: RR kT3 (ad g29 o30) D23 weights2 :: OO kT3 3 A25 D25 x24 :: W1) ?_
 refine lM (ow _ _ _ _ :: ow _ _ _ _ :: rds _ _ _ :: W1) (fun w s => (s.e 3 [2, 0, 1])) ?_
 refine l_app (K := kT3) 17592186044416 R R sl29 sz3 by3 (Zr.zk zT3 zc3) R R R R R R src_ow hg34 (fun A35 D35 => (lN (OO kT3 3 A35 D35 (x24 ++ ([x32] : List Int)) :: _ :: W1) ?_))
 refine lS R (l_nil (q_blockn (q_next (c_region (lI R (lO (vAd R R) (lI R (l_nil ?_))))))))
 obtain rfl := so hr
 exact qA (((ad g29 o30), weights2.length, D23), (A35, (x24 ++ ([x32] : List Int)).length, D35)) (fun w s => (s.e 2 [1, 0]))
 refine c_false R hb27 (c_exit (q_exit ?_))
 obtain rfl := so hr
 obtain rfl := he1 _ R
 have hr := hk1
 refine q_exit (q_block ?_)
 exact qI (x24, (A25, x24.length, D25)) hr (fun w s => (s.e 2 [1]))
 rintro ⟨x40, ⟨A41, N41, D41⟩⟩ σ1 hr
 replace hr : Z3_J3 c1 x40 = some r := hr
 unfold Z3_J3 at hr
 refine c_len 0 sees_ow (fun (hn : N41 = x40.length) => ?_)
 subst hn
 refine c_seq (c_region (l_build (K := kT3) (xs := ([] : List Int)) (vs := []) 0 R R sl29 sz3 zc3 R R R R R R ?_ R (fun A42 D42 => ?_)))
 exact fun I h s => (mO3).list [] I h s
 refine lN (OO kT3 3 A42 D42 ([] : List Int) :: OO kT3 3 A41 D41 x40 :: W1) ?_
 refine lS R (l_nil (q_next (c_seq ?_)))
 obtain ⟨hg43, hr⟩ := gd hr
 refine c_region (lS R (lO (v_len sl29 R) (l_make (K := kT4) (m := (x40.length : Int)) (z := false) R R sl103 sz4 by4 (Zr.zk zT4 zc4) (by decide) R R hg43.1 hg43.2.1 hg43.2.2 (fun A44 D44 => (lS R (l_nil (q_next (c_seq (c_cut (A := ((List Int)) × (HH)) (fun a => Z3_J4 c1 x40 a.1 = some r) (fun a => [(2, (pt b4 0)), (6, (sc A41 x40 D41)), (9, (.slice a.2.1 a.2.2.1 a.2.2.2))]) (fun a => OO kT3 3 A41 D41 x40 :: ow kT3 3 (.slice a.2.1 a.2.2.1 a.2.2.2) a.1 :: W1) ?_ ?_)))))))))
 refine c_seq (c_region (lI R (l_nil (q_next (c_block ?_)))))
 obtain ⟨e2, hl2, hk2⟩ := bd hr
 refine c_loop (A := HH) hl2 (fun s a => [(2, (pt b4 0)), (6, (sc A41 x40 D41)), (9, (.slice a.1 a.2.1 a.2.2)), (10, (sc A44 (List.replicate (x40.length : Int).toNat false) D44)), (11, (iv s.2.2))]) (fun s a => OO kT3 3 A41 D41 x40 :: ow kT3 3 (.slice a.1 a.2.1 a.2.2) s.1 :: ow kT4 4 (.slice A44 (List.replicate (x40.length : Int).toNat false).length D44) s.2.1 :: W1) (A42, ([] : List Int).length, D42) (aS R) (fun w s => (s.e 3 [2, 1, 0])) ?_
 rintro ⟨order58, taken60, n61⟩ ⟨A59, N59, D59⟩ σ1 out2 hr he2
 replace hr : Z3_L2 c1 x40 order58 taken60 n61 = some out2 := hr
 unfold Z3_L2 at hr
 refine c_len 1 sees_ow (fun (hn : N59 = order58.length) => ?_)
 subst hn
 refine c_seq (c_seq (cQ [(2, (pt b4 0)), (6, (sc A41 x40 D41)), (9, (sc A59 order58 D59)), (10, (sc A44 (List.replicate (x40.length : Int).toNat false) D44)), (11, (iv n61)), (71, (.bool ((decide (n61 < (x40.length : Int))) && ((c1.Cut == (0 : Int)) || (decide (n61 < c1.Cut))))))] (OO kT3 3 A41 D41 x40 :: OO kT3 3 A59 D59 order58 :: ow kT4 4 (.slice A44 (List.replicate (x40.length : Int).toNat false).length D44) taken60 :: W1) ?_ ?_))
 refine c_region (lI R (lS R (lO (v_len sl29 R) (lO (vLt R R) (lB R ?_)))))
 rcases bo (decide (n61 < (x40.length : Int))) with hc62 | hc62
 refine lW (wnT hc62) (vFa 1 fo28_1 R) (lW (wnT hc62) (vLd 3 ag3 R R R) (lW (wnT hc62) (vEq R R) (lW (wnT hc62) (vB R) ?_)))
 rcases bo (c1.Cut == (0 : Int)) with hc63 | hc63
 refine lf (wfT hc63) (lf (wfT hc63) (lf (wfT hc63) (lf (wfT hc63) (lW (wnT hc62) (pOT (decide (n61 < c1.Cut)) R hc63) (lO (pAT R hc62 R) (l_nil ?_))))))
 exact qJ (fun w s => s)
 refine lW (wnF hc63) (vI R) (lW (wnF hc63) (vFa 1 fo28_1 R) (lW (wnF hc63) (vLd 3 ag3 R R R) (lW (wnF hc63) (vLt R R) (lW (wnT hc62) (pOF R hc63 R) (lO (pAT R hc62 R) (l_nil ?_))))))
 exact qJ (fun w s => s)
 refine lf (wfF hc62) (lf (wfF hc62) (lf (wfF hc62) (lf (wfF hc62) (lf R (lf R (lf R (lf R (lf (wfF hc62) (lO (pAF ((c1.Cut == (0 : Int)) || (decide (n61 < c1.Cut))) R hc62) (l_nil ?_))))))))))
 exact qJ (fun w s => s)
 rintro σ1
 refine q_next ?_
 rcases bif_ hr with ⟨hb64, hr⟩ | ⟨hb64, hr⟩
 refine c_true R hb64 (c_skip (q_next (c_seq (c_block (c_seq ?_)))))
 obtain ⟨r65, hx66, hr⟩ := bd hr
 refine c_region (lS R (lS R (lM (ow _ _ _ _ :: ow kT4 4 (.slice A44 (List.replicate (x40.length : Int).toNat false).length D44) taken60 :: OO kT3 3 A59 D59 order58 :: W1) (fun w s => (s.e 3 [0, 2, 1])) ?_)))
 refine lC 2 cb83 R (FnOk.lends (A' := [OO kT3 3 A41 D41 x40, ow kT4 4 (.slice A44 (List.replicate (x40.length : Int).toNat false).length D44) taken60]) (A := [RR kT3 A41 D41 x40, rds kT4 (.slice A44 (List.replicate (x40.length : Int).toNat false).length D44) taken60]) (B := []) (Zk_ok hx66) ⟨lend_ow, lend_ow, trivial⟩ (fun _ => trivial)) R ?_
 rintro _
 refine lI R (l_nil (q_next (c_seq ?_)))
 obtain ⟨hg67, hr⟩ := gd hr
 refine c_region (lS R (lI R (t_some 1 sees_ow (show 0 < (List.replicate (x40.length : Int).toNat false).length by have := hg67; omega) (fun g68 o69 ha => ?_))))
 subst ha
 refine lO (vIa sl103 sz4 R R hg67) (lM (ow kT4 4 (.slice (ad g68 o69) (List.replicate (x40.length : Int).toNat false).length D44) taken60 :: ow _ _ _ _ :: ow _ _ _ _ :: W1) (fun w s => (s.e 3 [1, 0, 2])) ?_)
 refine l_stx (K := kT4) (x' := true) 0 r65 R R sz4 R R hg67.1 hg67.2 ?_ ?_
 exact fun I h s => (mO4).put I h () true s
 refine lN (ow kT4 4 (.slice (ad g68 o69) (List.replicate (x40.length : Int).toNat false).length D44) (taken60.set r65.toNat true) :: _ :: _ :: W1) ?_
 refine l_nil (q_next ?_)
 obtain ⟨hg71, hr⟩ := gd hr
 refine c_region (lS R (lI R (l_build (K := kT3) (xs := ([r65] : List Int)) (vs := [(iv r65)]) 0 R R sl29 sz3 zc3 R R R R R R ?_ R (fun A70 D70 => ?_))))
 exact fun I h s => (mO3).list [((), r65)] I h s
 refine lN (OO kT3 3 A70 D70 ([r65] : List Int) :: _ :: _ :: _ :: W1) ?_
 refine lM (ow _ _ _ _ :: ow _ _ _ _ :: ow _ _ _ _ :: ow _ _ _ _ :: W1) (fun w s => (s.e 4 [3, 0, 1, 2])) ?_
 refine l_app (K := kT3) 17592186044416 R R sl29 sz3 by3 (Zr.zk zT3 zc3) R R R R R R src_ow hg71 (fun A72 D72 => (lN (OO kT3 3 A72 D72 (order58 ++ ([r65] : List Int)) :: _ :: _ :: W1) ?_))
 refine lS R (l_nil (q_blockn (q_next (c_region (lI R (lO (vAd R R) (lI R (l_nil ?_))))))))
 obtain rfl := so hr
 exact qA (A72, (order58 ++ ([r65] : List Int)).length, D72) (fun w s => (s.e 3 [2, 0, 1]))
 refine c_false R hb64 (c_exit (q_exit ?_))
 obtain rfl := so hr
 obtain rfl := he2 _ R
 have hr := hk2
 refine q_exit (q_block ?_)
 exact qI (order58, (A59, order58.length, D59)) hr (fun w s => (s.e 3 [0, 1]))
 rintro ⟨order77, ⟨A78, N78, D78⟩⟩ σ1 hr
 replace hr : Z3_J4 c1 x40 order77 = some r := hr
 unfold Z3_J4 at hr
 refine c_len 1 sees_ow (fun (hn : N78 = order77.length) => ?_)
 subst hn
 refine c_seq (c_region (lI R (l_nil (q_next (c_seq (c_cut (A := (Int) × (Unit)) (fun a => Z3_J5 c1 x40 order77 a.1 = some r) (fun a => [(2, (pt b4 0)), (6, (sc A41 x40 D41)), (9, (sc A78 order77 D78)), (13, (iv a.1))]) (fun a => OO kT3 3 A41 D41 x40 :: OO kT3 3 A78 D78 order77 :: W1) ?_ ?_))))))
 refine c_seq (c_region (lI R (l_nil (q_next (c_block ?_)))))
 obtain ⟨e3, hl3, hk3⟩ := bd hr
 refine c_loop (A := Unit) hl3 (fun s a => [(2, (pt b4 0)), (6, (sc A41 x40 D41)), (9, (sc A78 order77 D78)), (13, (iv s.1)), (14, (iv s.2))]) (fun s a => OO kT3 3 A41 D41 x40 :: OO kT3 3 A78 D78 order77 :: W1) () (aS R) (fun w s => s) ?_
 rintro ⟨x86, i87⟩ _ σ1 out3 hr he3
 replace hr : Z3_L3 x40 order77 x86 i87 = some out3 := hr
 unfold Z3_L3 at hr
 refine c_seq (c_seq (c_region (lI R (lS R (lO (v_len sl29 R) (lO (vLt R R) (l_nil (q_next ?_))))))))
 rcases bif_ hr with ⟨hb88, hr⟩ | ⟨hb88, hr⟩
 refine c_true R hb88 (c_skip (q_next (c_seq (c_block ?_))))
 obtain ⟨hg89, hr⟩ := gd hr
 obtain ⟨hg92, hr⟩ := gd hr
 refine c_region (lI R (lS R (lS R (lI R (t_some 1 sees_ow (show 0 < order77.length by have := hg89; omega) (fun g90 o91 ha => ?_))))))
 subst ha
 refine lO (vIa sl29 sz3 R R hg89) (lO (vLi 1 ag3 sees_ow R hg89) (t_some 0 sees_ow (show 0 < x40.length by have := hg92; omega) (fun g93 o94 ha => ?_)))
 subst ha
 refine lO (vIa sl29 sz3 R R hg92) (lO (vLi 0 ag3 sees_ow R hg92) (lO (vAd R R) (lI R (l_nil (q_blockn (q_next (c_region (lI R (lO (vAd R R) (lI R (l_nil ?_)))))))))))
 obtain rfl := so hr
 exact qA () (fun w s => s)
 refine c_false R hb88 (c_exit (q_exit ?_))
 obtain rfl := so hr
 obtain rfl := he3 _ R
 have hr := hk3
 refine q_exit (q_block ?_)
 exact qI (x86, ()) hr (fun w s => s)
 rintro ⟨x97, _⟩ σ1 hr
 replace hr : Z3_J5 c1 x40 order77 x97 = some r := hr
 unfold Z3_J5 at hr
 refine c_seq ?_
 obtain ⟨hg98, hr⟩ := gd hr
 refine c_region (lS R (lO (v_len sl29 R) (l_make (K := kT3) (m := (x40.length : Int)) (z := (0 : Int)) R R sl29 sz3 by3 (Zr.zk zT3 zc3) (by decide) R R hg98.1 hg98.2.1 hg98.2.2 (fun A99 D99 => (lS R (l_nil (q_next (c_seq (c_region (lI R (l_nil (q_next (c_seq (c_cut (A := ((List Int)) × (Unit)) (fun a => Z3_J6 a.1 = some r) (fun a => [(5, (sc A99 (List.replicate (x40.length : Int).toNat (0 : Int)) D99))]) (fun a => ow kT3 3 (.slice A99 (List.replicate (x40.length : Int).toNat (0 : Int)).length D99) a.1 :: W1) ?_ ?_))))))))))))))
 refine c_seq (c_region (lI R (l_nil (q_next (c_block ?_)))))
 obtain ⟨e4, hl4, hk4⟩ := bd hr
 refine c_loop (A := Unit) hl4 (fun s a => [(2, (pt b4 0)), (5, (sc A99 (List.replicate (x40.length : Int).toNat (0 : Int)) D99)), (6, (sc A41 x40 D41)), (9, (sc A78 order77 D78)), (13, (iv x97)), (15, (iv s.2.1)), (16, (iv s.2.2))]) (fun s a => ow kT3 3 (.slice A99 (List.replicate (x40.length : Int).toNat (0 : Int)).length D99) s.1 :: OO kT3 3 A41 D41 x40 :: OO kT3 3 A78 D78 order77 :: W1) () (aS R) (fun w s => s) ?_
 rintro ⟨x113, sum114, i115⟩ _ σ1 out4 hr he4
 replace hr : Z3_L4 c1 x40 order77 x97 x113 sum114 i115 = some out4 := hr
 unfold Z3_L4 at hr
 refine c_seq (c_seq (cQ [(2, (pt b4 0)), (5, (sc A99 (List.replicate (x40.length : Int).toNat (0 : Int)) D99)), (6, (sc A41 x40 D41)), (9, (sc A78 order77 D78)), (13, (iv x97)), (15, (iv sum114)), (16, (iv i115)), (114, (.bool ((decide (i115 < (order77.length : Int))) && (decide ((w64 (sum114 * (65536 : Int))) < (w64 (c1.Mass * x97)))))))] (ow kT3 3 (.slice A99 (List.replicate (x40.length : Int).toNat (0 : Int)).length D99) x113 :: OO kT3 3 A41 D41 x40 :: OO kT3 3 A78 D78 order77 :: W1) ?_ ?_))
 refine c_region (lI R (lS R (lO (v_len sl29 R) (lO (vLt R R) (lB R ?_)))))
 rcases bo (decide (i115 < (order77.length : Int))) with hc116 | hc116
 refine lW (wnT hc116) (vI R) (lW (wnT hc116) (vMu R R) (lW (wnT hc116) (vFa 2 fo28_2 R) (lW (wnT hc116) (vLd 3 ag3 R R R) (lW (wnT hc116) (vI R) (lW (wnT hc116) (vMu R R) (lW (wnT hc116) (vLt R R) (lO (pAT R hc116 R) (l_nil ?_))))))))
 exact qJ (fun w s => s)
 refine lf (wfF hc116) (lf (wfF hc116) (lf (wfF hc116) (lf (wfF hc116) (lf (wfF hc116) (lf (wfF hc116) (lf (wfF hc116) (lO (pAF (decide ((w64 (sum114 * (65536 : Int))) < (w64 (c1.Mass * x97)))) R hc116) (l_nil ?_))))))))
 exact qJ (fun w s => s)
 rintro σ1
 refine q_next ?_
 rcases bif_ hr with ⟨hb117, hr⟩ | ⟨hb117, hr⟩
 refine c_true R hb117 (c_skip (q_next (c_seq (c_block (c_seq ?_)))))
 obtain ⟨hg118, hr⟩ := gd hr
 obtain ⟨hg121, hr⟩ := gd hr
 obtain ⟨hg124, hr⟩ := gd hr
 refine c_some 2 sees_ow (show 0 < order77.length by have := hg118; omega) (fun g119 o120 ha => ?_)
 subst ha
 refine c_some 1 sees_ow (show 0 < x40.length by have := hg121; omega) (fun g122 o123 ha => ?_)
 subst ha
 refine c_some 0 sees_ow (show 0 < (List.replicate (x40.length : Int).toNat (0 : Int)).length by have := hg124; omega) (fun g125 o126 ha => ?_)
 subst ha
 refine cdr 14 [0] mixo (fun ht hn => (dR 0 R (vS R) (hS := (sL [0])) (dR 1 R (vS R) (hS := (sL [0])) (dR 2 R (vI R) (hS := (sL [0])) (dR 3 R (vIa sl29 sz3 R R hg118) (hS := (sL [0])) (dR 4 R (vLi 1 ag3 sees_ow R hg118) (hS := (sL [0])) (dR 5 R (vS R) (hS := (sL [0])) (dR 6 R (vS R) (hS := (sL [0])) (dR 7 R (vI R) (hS := (sL [0])) (dR 8 R (vIa sl29 sz3 R R hg118) (hS := (sL [0])) (dR 9 R (vLi 1 ag3 sees_ow R hg118) (hS := (sL [0])) (dR 10 R (vIa sl29 sz3 R R hg121) (hS := (sL [0])) (dR 11 R (vLi 0 ag3 sees_ow R hg121) (hS := (sL [0])) (dR 12 R (vIa sl29 sz3 R R hg124) (hS := (sL [0])) (d1 13 R (lN (ow kT3 3 (.slice (ad g125 o126) (List.replicate (x40.length : Int).toNat (0 : Int)).length D99) x113 :: OO kT3 3 (ad g122 o123) D41 x40 :: OO kT3 3 (ad g119 o120) D78 order77 :: W1) ?_))))))))))))))))
 refine l_stx (K := kT3) (x' := (ix x40 (ix order77 i115))) 0 (ix order77 i115) R R sz3 R R hg124.1 hg124.2 ?_ ?_
 exact fun I h s => (mO3).put I h () (ix x40 (ix order77 i115)) s
 refine lN (ow kT3 3 (.slice (ad g125 o126) (List.replicate (x40.length : Int).toNat (0 : Int)).length D99) (x113.set (ix order77 i115).toNat (ix x40 (ix order77 i115))) :: _ :: _ :: W1) ?_
 refine l_nil (q_draw (sL [0]) (dD ?_))
 obtain ⟨l127, hl128, hr⟩ := bd hr
 replace hl128 := Option.some.inj hl128
 refine qM (ow kT3 3 (.slice (ad g125 o126) (List.replicate (x40.length : Int).toNat (0 : Int)).length D99) l127 :: _ :: _ :: W1) (fun w s => by rw [← hl128]; exact s) ?_
 refine q_next (c_region (lI R (lS R (lS R (lI R (lO (vIa sl29 sz3 R R hg118) (lO (vLi 2 ag3 sees_ow R hg118) (lO (vIa sl29 sz3 R R hg121) (lO (vLi 1 ag3 sees_ow R hg121) (lO (vAd R R) (lI R (l_nil (q_blockn (q_next (c_region (lI R (lO (vAd R R) (lI R (l_nil ?_)))))))))))))))))))
 obtain rfl := so hr
 exact qA () (fun w s => s)
 refine c_false R hb117 (c_exit (q_exit ?_))
 obtain rfl := so hr
 obtain rfl := he4 _ R
 have hr := hk4
 refine q_exit (q_block ?_)
 exact qI (x113, ()) hr (fun w s => (s.e 3 [0]))
 rintro ⟨x132, _⟩ σ1 hr
 replace hr : Z3_J6 x132 = some r := hr
 unfold Z3_J6 at hr
 refine c_seq (c_region (lS R (lS R (l_nil (q_next (c_ret ?_))))))
 obtain rfl := so hr
 exact qF (A99, (List.replicate (x40.length : Int).toNat (0 : Int)).length, D99) (fun w s => (s.e 3 [0]))
theorem Z19_ok  {p1 : Int} {n2 : Int} {r : Int × Int} (hr : Z19 p1 n2 = some r) :
 FnOk Try.prog 65 [(iv p1), (iv n2)] [] (fun (h : Unit) => ((.tuple [(iv r.1), (iv r.2)].toArray), [])) := by
 unfold Z19 at hr
 refine fn_ok Try.func65 R 23 R R fun C V => ?_
 refine cN V ?_
 refine c_seq (c_region (lI R (lI R (l_nil (q_next (c_seq (c_seq ?_)))))))
 obtain ⟨r3, hx4, hr⟩ := bd hr
 obtain ⟨r5, hx6, hr⟩ := bd hr
 refine cQ [(0, (iv p1)), (1, (iv n2)), (14, (.bool ((!r3) || (!r5))))] (V) ?_ ?_
 refine c_region (lI R (lC 0 cb38 R (Z0g_ok hx4) R ?_))
 rintro _
 refine lO (vNo R) (lB R ?_)
 rcases bo (!r3) with hc7 | hc7
 refine lf (wfT hc7) (lf (wfT hc7) (lf (wfT hc7) (lO (pOT (!r5) R hc7) (l_nil ?_))))
 exact qJ (fun w s => s)
 refine lW (wnF hc7) (vI R) (l_calln 0 R (wnF hc7) cb40 R (Zd_ok (gcall_t hx6 (not_ff hc7))) R ?_)
 rintro _
 refine lW (wnF hc7) (vNo R) (lO (pOF R hc7 R) (l_nil ?_))
 exact qJ (fun w s => s)
 rintro σ1
 refine q_next ?_
 rcases bif_ hr with ⟨hb8, hr⟩ | ⟨hb8, hr⟩
 refine c_true R hb8 (c_seq (c_region (lI R (lI R (lI R (l_nil (q_next (c_ret (q_ret ?_)))))))))
 obtain rfl := so hr
 exact q_fin (vs := [(iv 0), (iv p1)]) (.inl R) () R ⟨R, R, trivial⟩ R (fun w s => s)
 refine c_false R hb8 (c_skip (q_next (c_seq ?_)))
 obtain ⟨r9, hx10, hr⟩ := bd hr
 refine c_region (lI R (lC 0 cb62 R (Z12_ok hx10) R ?_))
 rintro _
 refine lI R (l_nil (q_next (c_seq (c_region (lI R (lI R (lO (vMu R R) (lO (vz (iv ((w64 (r9 * n2)) / 2 ^ (32 : Int).toNat)) (v_shr R R (by decide) (by decide))) (lI R (lI R (lI R (l_nil (q_next (c_ret ?_))))))))))))))
 obtain rfl := so hr
 exact q_fin (vs := [(iv ((w64 (r9 * n2)) / 2 ^ (32 : Int).toNat)), (iv r9)]) (.inl R) () R ⟨R, R, trivial⟩ R (fun w s => s)
theorem Zl_ok  {weights1 : (List Int)} {r3 : Int} {r : Int} (hr : Zl weights1 r3 = some r) :
 FnOk Try.prog 67 [(.slice A2 N2 D2), (iv r3)] [rds kT3 (.slice A2 N2 D2) weights1] (fun (h : Unit) => ((iv r), [])) := by
 unfold Zl at hr
 refine fn_ok Try.func67 R 43 R R fun C V => ?_
 refine cN (_ :: V) ?_
 refine cL 0 sees_rd ?_
 rintro rfl
 let W0 : List HP := RR kT3 A2 D2 weights1 :: V
 refine cN W0 ?_
 refine c_seq (c_region (lI R (l_nil (q_next (c_seq (c_seq (cQ [(0, (sc A2 weights1 D2)), (1, (iv r3)), (14, (.bool ((decide ((weights1.length : Int) > (64 : Int))) || (decide (r3 < (0 : Int))))))] (W0) ?_ ?_)))))))
 refine c_region (lS R (lO (v_len sl29 R) (lO (vGt R R) (lB R ?_))))
 rcases bo (decide ((weights1.length : Int) > (64 : Int))) with hc4 | hc4
 refine lf (wfT hc4) (lf (wfT hc4) (lO (pOT (decide (r3 < (0 : Int))) R hc4) (l_nil ?_)))
 exact qJ (fun w s => s)
 refine lW (wnF hc4) (vI R) (lW (wnF hc4) (vLt R R) (lO (pOF R hc4 R) (l_nil ?_)))
 exact qJ (fun w s => s)
 rintro σ1
 refine q_next ?_
 rcases bif_ hr with ⟨hb5, hr⟩ | ⟨hb5, hr⟩
 refine c_true R hb5 (c_seq (c_region (lI R (l_nil (q_next (c_ret (q_ret ?_)))))))
 obtain rfl := so hr
 exact qF () (fun w s => (s.e 1 []))
 refine c_false R hb5 (c_skip (q_next (c_seq (c_cut (A := (Unit) × (Unit)) (fun a => Zl_J1 weights1 r3 = some r) (fun a => [(0, (sc A2 weights1 D2)), (1, (iv r3))]) (fun a => W0) ?_ ?_))))
 refine c_seq (c_region (lI R (l_nil (q_next (c_block ?_)))))
 obtain ⟨e1, hl1, hk1⟩ := bd hr
 refine c_loop (A := Unit) hl1 (fun s a => [(0, (sc A2 weights1 D2)), (1, (iv r3)), (5, (iv s))]) (fun s a => W0) () (aS R) (fun w s => s) ?_
 rintro i13 _ σ1 out1 hr he1
 replace hr : Zl_L1 weights1 i13 = some out1 := hr
 unfold Zl_L1 at hr
 refine c_seq (c_seq (c_region (lI R (lS R (lO (v_len sl29 R) (lO (vLt R R) (l_nil (q_next ?_))))))))
 rcases bif_ hr with ⟨hb14, hr⟩ | ⟨hb14, hr⟩
 refine c_true R hb14 (c_skip (q_next (c_seq (c_block (c_seq ?_)))))
 obtain ⟨hg15, hr⟩ := gd hr
 obtain ⟨r18, hx19, hr⟩ := bd hr
 refine c_region (lS R (lI R (t_some 0 sees_rd (show 0 < weights1.length by have := hg15; omega) (fun g16 o17 ha => ?_))))
 subst ha
 refine lO (vIa sl29 sz3 R R hg15) (lO (vLi 0 ag3 sees_rd R hg15) (lC 0 cb40 R (Zd_ok hx19) R ?_))
 rintro _
 refine lO (vNo R) (l_nil (q_next ?_))
 rcases bif_ hr with ⟨hb20, hr⟩ | ⟨hb20, hr⟩
 refine c_true R hb20 (c_seq (c_region (lI R (l_nil (q_next (c_ret (q_blockr (q_ret ?_))))))))
 obtain rfl := so hr
 obtain rfl := he1 _ R
 have hr := hk1
 refine q_ret (q_blockr (q_ret ?_))
 obtain rfl := so hr
 exact qF () (fun w s => (s.e 1 []))
 refine c_false R hb20 (c_skip (q_blockn (q_next (c_region (lI R (lO (vAd R R) (lI R (l_nil ?_))))))))
 obtain rfl := so hr
 exact qA () (fun w s => s)
 refine c_false R hb14 (c_exit (q_exit ?_))
 obtain rfl := so hr
 obtain rfl := he1 _ R
 have hr := hk1
 refine q_exit (q_block ?_)
 exact qI ((), ()) hr (fun w s => s)
 rintro ⟨_, _⟩ σ1 hr
 replace hr : Zl_J1 weights1 r3 = some r := hr
 unfold Zl_J1 at hr
 refine c_seq (c_region (lI R (l_nil (q_next (c_seq (c_cut (A := (Unit) × (Unit)) (fun a => Zl_J2 = some r) (fun a => []) (fun a => W0) ?_ ?_))))))
 refine c_seq (c_region (lI R (l_nil (q_next (c_block ?_)))))
 obtain ⟨e2, hl2, hk2⟩ := bd hr
 refine c_loop (A := Unit) hl2 (fun s a => [(0, (sc A2 weights1 D2)), (1, (iv r3)), (6, (iv s.1)), (7, (iv s.2))]) (fun s a => W0) () (aS R) (fun w s => s) ?_
 rintro ⟨sum27, i28⟩ _ σ1 out2 hr he2
 replace hr : Zl_L2 weights1 r3 sum27 i28 = some out2 := hr
 unfold Zl_L2 at hr
 refine c_seq (c_seq (c_region (lI R (lS R (lO (v_len sl29 R) (lO (vLt R R) (l_nil (q_next ?_))))))))
 rcases bif_ hr with ⟨hb29, hr⟩ | ⟨hb29, hr⟩
 refine c_true R hb29 (c_skip (q_next (c_seq (c_block (c_seq ?_)))))
 obtain ⟨hg30, hr⟩ := gd hr
 refine c_region (lI R (lS R (lI R (t_some 0 sees_rd (show 0 < weights1.length by have := hg30; omega) (fun g31 o32 ha => ?_)))))
 subst ha
 refine lO (vIa sl29 sz3 R R hg30) (lO (vLi 0 ag3 sees_rd R hg30) (lO (vAd R R) (lI R (l_nil (q_next (c_seq (c_region (lI R (lI R (lO (vGt R R) (l_nil (q_next ?_))))))))))))
 rcases bif_ hr with ⟨hb33, hr⟩ | ⟨hb33, hr⟩
 refine c_true R hb33 (c_seq (c_region (lI R (lI R (l_nil (q_next (c_ret (q_blockr (q_ret ?_)))))))))
 obtain rfl := so hr
 obtain rfl := he2 _ R
 have hr := hk2
 refine q_ret (q_blockr (q_ret ?_))
 obtain rfl := so hr
 exact qF () (fun w s => (s.e 1 []))
 refine c_false R hb33 (c_skip (q_blockn (q_next (c_region (lI R (lO (vAd R R) (lI R (l_nil ?_))))))))
 obtain rfl := so hr
 exact qA () (fun w s => s)
 refine c_false R hb29 (c_exit (q_exit ?_))
 obtain rfl := so hr
 obtain rfl := he2 _ R
 have hr := hk2
 refine q_exit (q_block ?_)
 exact q_join ((), ()) hr trivial (fun w s => s)
 rintro ⟨_, _⟩ σ1 hr
 replace hr : Zl_J2 = some r := hr
 unfold Zl_J2 at hr
 refine c_seq (c_region (lI R (l_nil (q_next (c_ret ?_)))))
 obtain rfl := so hr
 exact qF () (fun w s => (s.e 1 []))
theorem Zb_ok  {m1 : Lm} {c3 : Choice} {history4 : (List Int)} {seed6 : Int} {i7 : Int} {r : Int} (hr : Zb m1 c3 history4 seed6 i7 = some r) :
 FnOk Try.prog 43 [(.agg [(iv m1.Size), (.slice A2 N2 D2)].toArray), (.agg [(iv c3.Power), (iv c3.Cut), (iv c3.Mass)].toArray), (.slice A5 N5 D5), (iv seed6), (iv i7)] [rds kT33 (.slice A2 N2 D2) m1.Rows, rds kT3 (.slice A5 N5 D5) history4] (fun (h : Unit) => ((iv r), [])) := by
 unfold Zb at hr
 refine fn_ok Try.func43 R 39 R R fun C V => ?_
 refine cN (_ :: _ :: V) ?_
 refine cL 0 sees_rd ?_
 rintro rfl
 refine cL 1 sees_rd ?_
 rintro rfl
 let W0 : List HP := RR kT33 A2 D2 m1.Rows :: RR kT3 A5 D5 history4 :: V
 refine cN W0 ?_
 refine c_seq (c_region (lBx R (fun b8 => (lBx R (fun b9 => (lI R (l_nil ?_)))))))
 let W1 : List HP := bxl b9 [(iv c3.Power), (iv c3.Cut), (iv c3.Mass)] 28 :: bxl b8 [(iv m1.Size), (sc A2 m1.Rows D2)] 26 :: W0
 refine qN W1 ?_
 refine q_next (c_seq (c_region (lI R (lI R (l_nil (q_next (c_seq (c_cut (A := (Int) × (Unit)) (fun a => Zb_J1 m1 c3 history4 a.1 = some r) (fun a => [(2, (sc A5 history4 D5)), (5, (pt b8 0)), (6, (pt b9 0)), (11, (iv a.1))]) (fun a => W1) ?_ ?_))))))))
 refine c_seq (c_region (lI R (l_nil (q_next (c_block ?_)))))
 obtain ⟨e1, hl1, hk1⟩ := bd hr
 refine c_loop (A := Unit) hl1 (fun s a => [(2, (sc A5 history4 D5)), (4, (iv i7)), (5, (pt b8 0)), (6, (pt b9 0)), (11, (iv s.1)), (12, (iv s.2))]) (fun s a => W1) () (aS R) (fun w s => s) ?_
 rintro ⟨x13, k14⟩ _ σ1 out1 hr he1
 replace hr : Zb_L1 i7 x13 k14 = some out1 := hr
 unfold Zb_L1 at hr
 refine c_seq (c_seq (c_region (lI R (lI R (lO (vLt R R) (l_nil (q_next ?_)))))))
 rcases bif_ hr with ⟨hb15, hr⟩ | ⟨hb15, hr⟩
 refine c_true R hb15 (c_skip (q_next (c_seq (c_block ?_))))
 obtain ⟨r16, hx17, hr⟩ := bd hr
 refine c_region (lI R (lC 0 cb62 R (Z12_ok hx17) R ?_))
 rintro _
 refine lI R (l_nil (q_blockn (q_next (c_region (lI R (lO (vAd R R) (lI R (l_nil ?_))))))))
 obtain rfl := so hr
 exact qA () (fun w s => s)
 refine c_false R hb15 (c_exit (q_exit ?_))
 obtain rfl := so hr
 obtain rfl := he1 _ R
 have hr := hk1
 refine q_exit (q_block ?_)
 exact qI (x13, ()) hr (fun w s => s)
 rintro ⟨x20, _⟩ σ1 hr
 replace hr : Zb_J1 m1 c3 history4 x20 = some r := hr
 unfold Zb_J1 at hr
 refine c_seq ?_
 obtain ⟨r21, hx22, hr⟩ := bd hr
 obtain ⟨r24, hx25, hr⟩ := bd hr
 refine cdr 6 [] mixo (fun ht hn => (dR 0 R (vz (.agg [(iv c3.Power), (iv c3.Cut), (iv c3.Mass)].toArray) (v_loadw 0 ag28 sz28 R R R R)) (dR 1 R (vz (.agg [(iv m1.Size), (sc A2 m1.Rows D2)].toArray) (v_loadw 1 ag26 sz26 R R R R)) (dR 2 R (vS R) (d1 3 R (lM (RR kT33 A2 D2 m1.Rows :: RR kT3 A5 D5 history4 :: W1) (fun w s => (((s.d 2 R).d 4 R).e 2 [1, 0])) ?_))))))
 refine lC 2 cb64 R (Zi_ok hx22) R ?_
 rintro ⟨A23, N23, D23⟩
 refine lN (rds kT3 (.slice A23 N23 D23) r21 :: W1) ?_
 refine l_len 0 sees_rd ?_
 rintro rfl
 refine l_nil (q_draw (sL [0]) (d1 4 R (lM (_ :: _ :: W1) (fun w s => (s.d 0 R)) ?_)))
 refine lC 1 cb63 R (Z3_ok hx25) R ?_
 rintro ⟨A26, N26, D26⟩
 refine lN (ow kT3 3 (.slice A26 N26 D26) r24 :: _ :: W1) ?_
 refine l_len 0 sees_ow ?_
 rintro rfl
 refine l_nil (q_draw (sL [1, 0]) (dR 5 R (vS R) (hS := (sL [1, 0])) (dD (q_next (c_seq ?_)))))
 obtain ⟨r27, hx28, hr⟩ := bd hr
 obtain ⟨r29, hx30, hr⟩ := bd hr
 refine c_region (lI R (lS R (lC 1 cb66 R (FnOk.lends (A' := [OO kT3 3 A26 D26 r24]) (A := [RR kT3 A26 D26 r24]) (B := []) (Zw_ok hx28) ⟨lend_ow, trivial⟩ (fun _ => trivial)) R ?_)))
 rintro _
 refine lC 0 cb65 R (Z19_ok hx30) R ?_
 rintro _
 refine lO (vT R) (lI R (lI R (lI R (lI R (l_nil (q_next (c_seq ?_)))))))
 obtain ⟨r31, hx32, hr⟩ := bd hr
 refine c_region (lS R (lI R (lC 1 cb67 R (FnOk.lends (A' := [OO kT3 3 A26 D26 r24]) (A := [RR kT3 A26 D26 r24]) (B := []) (Zl_ok hx32) ⟨lend_ow, trivial⟩ (fun _ => trivial)) R ?_)))
 rintro _
 refine lI R (l_nil (q_next (c_ret ?_)))
 obtain rfl := so hr
 exact qF () (fun w s => (s.e 6 []))
theorem Z06_ok  {m1 : Lm} {c3 : Choice} {prompt4 : (List Int)} {n6 : Int} {seed7 : Int} {r : (List Int)} (hr : Z06 m1 c3 prompt4 n6 seed7 = some r) :
 FnOk Try.prog 41 [(.agg [(iv m1.Size), (.slice A2 N2 D2)].toArray), (.agg [(iv c3.Power), (iv c3.Cut), (iv c3.Mass)].toArray), (.slice A5 N5 D5), (iv n6), (iv seed7)] [rds kT33 (.slice A2 N2 D2) m1.Rows, rds kT3 (.slice A5 N5 D5) prompt4] (fun (h : HH) => ((.slice h.1 h.2.1 h.2.2), [ow kT3 3 (.slice h.1 h.2.1 h.2.2) r])) := by
 unfold Z06 at hr
 refine fn_ok Try.func41 R 54 R R fun C V => ?_
 refine cN (_ :: _ :: V) ?_
 refine cL 0 sees_rd ?_
 rintro rfl
 refine cL 1 sees_rd ?_
 rintro rfl
 let W0 : List HP := RR kT33 A2 D2 m1.Rows :: RR kT3 A5 D5 prompt4 :: V
 refine cN W0 ?_
 refine c_seq (c_region (lBx R (fun b8 => (lBx R (fun b9 => (lS R (l_nil ?_)))))))
 let W1 : List HP := bxl b9 [(iv c3.Power), (iv c3.Cut), (iv c3.Mass)] 28 :: bxl b8 [(iv m1.Size), (sc A2 m1.Rows D2)] 26 :: W0
 refine qN W1 ?_
 refine q_next (c_seq (c_region (l_build (K := kT3) (xs := ([] : List Int)) (vs := []) 0 R R sl29 sz3 zc3 R R R R R R ?_ R (fun A10 D10 => ?_))))
 exact fun I h s => (mO3).list [] I h s
 refine lN (OO kT3 3 A10 D10 ([] : List Int) :: W1) ?_
 refine lS R (l_nil (q_next (c_seq (c_seq ?_))))
 obtain ⟨r11, hx12, hr⟩ := bd hr
 obtain ⟨r13, hx14, hr⟩ := bd hr
 obtain ⟨r15, hx16, hr⟩ := bd hr
 refine cQ [(2, (sc A5 prompt4 D5)), (3, (iv n6)), (4, (iv seed7)), (5, (pt b8 0)), (6, (pt b9 0)), (11, (sc A10 ([] : List Int) D10)), (30, (.bool (((!r11) || (!r13)) || (!r15))))] (OO kT3 3 A10 D10 ([] : List Int) :: W1) ?_ ?_
 refine c_region (lO (vz (.agg [(iv m1.Size), (sc A2 m1.Rows D2)].toArray) (v_loadw 2 ag26 sz26 R R R R)) (lS R (lI R (lM (RR kT33 A2 D2 m1.Rows :: RR kT3 A5 D5 prompt4 :: ow _ _ _ _ :: W1) (fun w s => (((s.d 3 R).d 5 R).e 3 [1, 0, 2])) ?_))))
 refine lC 2 cb36 R (Z0v_ok hx12) R ?_
 rintro _
 refine lN (_ :: W1) ?_
 refine lO (vNo R) (lB R ?_)
 rcases bo (!r11) with hc17 | hc17
 refine lf (wfT hc17) (lf (wfT hc17) (lf (wfT hc17) (lO (pOT (!r13) R hc17) (lB R (lf (wfT (oT hc17)) (lf (wfT (oT hc17)) (lf (wfT (oT hc17)) (lO (pOT (!r15) R (oT hc17)) (l_nil ?_)))))))))
 exact qJ (fun w s => s)
 refine lW (wnF hc17) (vz (.agg [(iv c3.Power), (iv c3.Cut), (iv c3.Mass)].toArray) (v_loadw 1 ag28 sz28 R R R R)) (l_calln 0 R (wnF hc17) cb37 R (Z0l_ok (gcall_t hx14 (not_ff hc17))) R ?_)
 rintro _
 refine lW (wnF hc17) (vNo R) (lO (pOF R hc17 R) (lB R ?_))
 rcases bo ((!r11) || (!r13)) with hc18 | hc18
 refine lf (wfT hc18) (lf (wfT hc18) (lf (wfT hc18) (lO (pOT (!r15) R hc18) (l_nil ?_))))
 exact qJ (fun w s => s)
 refine lW (wnF hc18) (vI R) (l_calln 0 R (wnF hc18) cb38 R (Z0g_ok (gcall_t hx16 (not_ff hc18))) R ?_)
 rintro _
 refine lW (wnF hc18) (vNo R) (lO (pOF R hc18 R) (l_nil ?_))
 exact qJ (fun w s => s)
 rintro σ1
 refine q_next ?_
 rcases bif_ hr with ⟨hb19, hr⟩ | ⟨hb19, hr⟩
 refine c_true R hb19 (c_seq (c_region (lS R (lS R (l_nil (q_next (c_ret (q_ret ?_))))))))
 obtain rfl := so hr
 exact qF (A10, ([] : List Int).length, D10) (fun w s => (s.e 5 [0]))
 refine c_false R hb19 (c_skip (q_next (c_seq ?_)))
 obtain ⟨r20, hx21, hr⟩ := bd hr
 refine c_region (lS R (lM (RR kT3 A5 D5 prompt4 :: _ :: W1) (fun w s => (s.d 4 R)) ?_))
 refine lC 1 cb42 R (Z0w_ok hx21) R ?_
 rintro ⟨A22, N22, D22⟩
 refine lN (ow kT3 3 (.slice A22 N22 D22) r20 :: _ :: W1) ?_
 refine l_len 0 sees_ow ?_
 rintro rfl
 refine lS R (l_nil (q_next (c_seq (c_cut (A := ((List Int)) × (HH)) (fun a => Z06_J1 a.1 = some r) (fun a => [(11, (.slice a.2.1 a.2.2.1 a.2.2.2))]) (fun a => ow kT3 3 (.slice a.2.1 a.2.2.1 a.2.2.2) a.1 :: W1) ?_ ?_))))
 refine c_seq (c_region (lI R (l_nil (q_next (c_block ?_)))))
 obtain ⟨e1, hl1, hk1⟩ := bd hr
 refine c_loop (A := HH × HH) hl1 (fun s a => [(3, (iv n6)), (4, (iv seed7)), (5, (pt b8 0)), (6, (pt b9 0)), (11, (.slice a.1.1 a.1.2.1 a.1.2.2)), (12, (.slice a.2.1 a.2.2.1 a.2.2.2)), (13, (iv s.2.2))]) (fun s a => ow kT3 3 (.slice a.1.1 a.1.2.1 a.1.2.2) s.1 :: ow kT3 3 (.slice a.2.1 a.2.2.1 a.2.2.2) s.2.1 :: W1) ((A10, ([] : List Int).length, D10), (A22, r20.length, D22)) (aS R) (fun w s => (s.e 2 [1, 0])) ?_
 rintro ⟨x32, all34, i36⟩ ⟨⟨A33, N33, D33⟩, ⟨A35, N35, D35⟩⟩ σ1 out1 hr he1
 replace hr : Z06_L1 m1 c3 n6 seed7 x32 all34 i36 = some out1 := hr
 unfold Z06_L1 at hr
 refine c_len 0 sees_ow (fun (hn : N33 = x32.length) => ?_)
 subst hn
 refine c_len 1 sees_ow (fun (hn : N35 = all34.length) => ?_)
 subst hn
 refine c_seq (c_seq (c_region (lI R (lI R (lO (vLt R R) (l_nil (q_next ?_)))))))
 rcases bif_ hr with ⟨hb37, hr⟩ | ⟨hb37, hr⟩
 refine c_true R hb37 (c_skip (q_next (c_seq (c_block (c_seq ?_)))))
 obtain ⟨r38, hx39, hr⟩ := bd hr
 refine c_region (lO (vz (.agg [(iv m1.Size), (sc A2 m1.Rows D2)].toArray) (v_loadw 3 ag26 sz26 R R R R)) (lO (vz (.agg [(iv c3.Power), (iv c3.Cut), (iv c3.Mass)].toArray) (v_loadw 2 ag28 sz28 R R R R)) (lS R (lI R (lI R (lM (OO kT3 3 A35 D35 all34 :: RR kT33 A2 D2 m1.Rows :: OO kT3 3 A33 D33 x32 :: W1) (fun w s => ((s.d 4 R).e 3 [2, 0, 1])) ?_))))))
 refine lC 2 cb43 R (FnOk.lends (A' := [OO kT3 3 A35 D35 all34]) (A := [RR kT3 A35 D35 all34]) (B := [RR kT33 A2 D2 m1.Rows]) (FnOk.perm (Zb_ok hx39) (Pre' := [RR kT3 A35 D35 all34, RR kT33 A2 D2 m1.Rows]) (fun _ _ _ s => (s.e 2 [1, 0]))) ⟨lend_ow, trivial⟩ (fun _ => trivial)) R ?_
 rintro _
 refine lN (_ :: _ :: W1) ?_
 refine lI R (l_nil (q_next (c_seq ?_)))
 obtain ⟨hg41, hr⟩ := gd hr
 refine c_region (lS R (lI R (l_build (K := kT3) (xs := ([r38] : List Int)) (vs := [(iv r38)]) 0 R R sl29 sz3 zc3 R R R R R R ?_ R (fun A40 D40 => ?_))))
 exact fun I h s => (mO3).list [((), r38)] I h s
 refine lN (OO kT3 3 A40 D40 ([r38] : List Int) :: _ :: _ :: W1) ?_
 refine lM (ow _ _ _ _ :: ow _ _ _ _ :: ow _ _ _ _ :: W1) (fun w s => (s.e 3 [1, 0, 2])) ?_
 refine l_app (K := kT3) 17592186044416 R R sl29 sz3 by3 (Zr.zk zT3 zc3) R R R R R R src_ow hg41 (fun A42 D42 => (lN (OO kT3 3 A42 D42 (all34 ++ ([r38] : List Int)) :: _ :: W1) ?_))
 refine lS R (l_nil (q_next ?_))
 obtain ⟨hg44, hr⟩ := gd hr
 refine c_region (lS R (lI R (l_build (K := kT3) (xs := ([r38] : List Int)) (vs := [(iv r38)]) 0 R R sl29 sz3 zc3 R R R R R R ?_ R (fun A43 D43 => ?_))))
 exact fun I h s => (mO3).list [((), r38)] I h s
 refine lN (OO kT3 3 A43 D43 ([r38] : List Int) :: _ :: _ :: W1) ?_
 refine lM (ow _ _ _ _ :: ow _ _ _ _ :: ow _ _ _ _ :: W1) (fun w s => (s.e 3 [2, 0, 1])) ?_
 refine l_app (K := kT3) 17592186044416 R R sl29 sz3 by3 (Zr.zk zT3 zc3) R R R R R R src_ow hg44 (fun A45 D45 => (lN (OO kT3 3 A45 D45 (x32 ++ ([r38] : List Int)) :: _ :: W1) ?_))
 refine lS R (l_nil (q_blockn (q_next (c_region (lI R (lO (vAd R R) (lI R (l_nil ?_))))))))
 obtain rfl := so hr
 exact qA ((A45, (x32 ++ ([r38] : List Int)).length, D45), (A42, (all34 ++ ([r38] : List Int)).length, D42)) (fun w s => s)
 refine c_false R hb37 (c_exit (q_exit ?_))
 obtain rfl := so hr
 obtain rfl := he1 _ R
 have hr := hk1
 refine q_exit (q_block ?_)
 exact qI (x32, (A33, x32.length, D33)) hr (fun w s => (s.e 2 [0]))
 rintro ⟨x51, ⟨A52, N52, D52⟩⟩ σ1 hr
 replace hr : Z06_J1 x51 = some r := hr
 unfold Z06_J1 at hr
 refine c_len 0 sees_ow (fun (hn : N52 = x51.length) => ?_)
 subst hn
 refine c_seq (c_region (lS R (lS R (l_nil (q_next (c_ret ?_))))))
 obtain rfl := so hr
 exact qF (A52, x51.length, D52) (fun w s => (s.e 5 [0]))
end Go.Proofs.Ytkfgngcfcoplpaa
