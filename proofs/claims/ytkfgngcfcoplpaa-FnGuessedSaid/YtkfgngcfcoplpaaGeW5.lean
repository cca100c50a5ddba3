import Derived.Test.YtkfgngcfcoplpaaGeW4
set_option linter.unusedVariables false
set_option maxRecDepth 20000
namespace Go.Proofs.Ytkfgngcfcoplpaa
open Go Go.Pg
variable {A2 A3 A4 A5 A6 A7 : Option Addr} {D2 D3 D4 D5 D6 D7 N2 N3 N4 N5 N6 N7 : Nat}
theorem Z7_ok  {c1 : Choice} {weights2 : (List Int)} {r : (List Int)} (hr : Z7 c1 weights2 = some r) :
 FnOk Try.prog 56 [(.agg [(iv c1.Power), (iv c1.Cut), (iv c1.Mass)].toArray), (.slice A3 N3 D3)] [rds kT3 (.slice A3 N3 D3) weights2] (fun (h : HH) => ((.slice h.1 h.2.1 h.2.2), [ow kT3 3 (.slice h.1 h.2.1 h.2.2) r])) := by
 unfold Z7 at hr
 refine fn_ok Try.func56 R 77 R R fun C V => ?_
 refine cN (_ :: V) ?_
 refine cL 0 sees_rd ?_
 rintro rfl
 let W0 : List HP := RR kT3 A3 D3 weights2 :: V
 refine cN W0 ?_
 refine c_seq (c_region (lBx R (fun b4 => (lS R (l_nil ?_)))))
 let W1 : List HP := bxl b4 [(iv c1.Power), (iv c1.Cut), (iv c1.Mass)] 28 :: W0
 refine qN W1 ?_
 refine q_next (c_seq ?_)
 obtain ⟨r5, hx6, hr⟩ := bd hr
 refine c_region (lS R (lM (RR kT3 A3 D3 weights2 :: W1) (fun w s => (s.d 1 R)) ?_))
 refine lC 1 cb33 R (Z0h_ok hx6) R ?_
 rintro ⟨A7, N7, D7⟩
 refine lN (ow kT3 3 (.slice A7 N7 D7) r5 :: W1) ?_
 refine l_len 0 sees_ow ?_
 rintro rfl
 refine lS R (l_nil (q_next (c_seq (c_cut (A := ((List Int)) × (HH)) (fun a => Z7_J1 c1 a.1 = some r) (fun a => [(2, (pt b4 0)), (5, (.slice a.2.1 a.2.2.1 a.2.2.2))]) (fun a => ow kT3 3 (.slice a.2.1 a.2.2.1 a.2.2.2) a.1 :: W1) ?_ ?_))))
 refine c_seq (c_region (lO (vFa 0 fo28_0 R) (lO (vLd 1 ag3 R R R) (lO (vEq R R) (l_nil (q_next ?_))))))
 rcases bif_ hr with ⟨hb8, hr⟩ | ⟨hb8, hr⟩
 refine c_true R hb8 ?_
 obtain ⟨r9, hx10, hr⟩ := bd hr
 refine c_region (lS R (lC 1 cb77 R (FnOk.lends (A' := [OO kT3 3 A7 D7 r5]) (A := [RR kT3 A7 D7 r5]) (B := []) (Z0b_ok hx10) ⟨lend_ow, trivial⟩ (fun _ => ⟨(closed_ow cT3), trivial⟩)) R ?_))
 rintro ⟨A11, N11, D11⟩
 refine lN (_ :: ow kT3 3 (.slice A11 N11 D11) r9 :: W1) ?_
 refine l_len 1 sees_ow ?_
 rintro rfl
 refine lS R (l_nil ?_)
 exact qI (r9, (A11, r9.length, D11)) hr (fun w s => (s.e 2 [1]))
 refine c_false R hb8 (c_skip ?_)
 exact qI (r5, (A7, r5.length, D7)) hr (fun w s => s)
 rintro ⟨x12, ⟨A13, N13, D13⟩⟩ σ1 hr
 replace hr : Z7_J1 c1 x12 = some r := hr
 unfold Z7_J1 at hr
 refine c_len 0 sees_ow (fun (hn : N13 = x12.length) => ?_)
 subst hn
 refine c_seq ?_
 obtain ⟨r14, hx15, hr⟩ := bd hr
 refine c_region (lS R (l_st (fun w s => s.shr 0 R) (lM (RR kT3 A13 D13 x12 :: RR kT3 A13 D13 x12 :: W1) (fun w s => (s.d 0 R)) ?_)))
 refine lC 1 cb79 R (Z02_ok hx15) R ?_
 rintro ⟨A16, N16, D16⟩
 refine lN (ow (kT3).share 3 (.slice A16 N16 D16) r14 :: _ :: W1) ?_
 refine l_len 0 sees_sh ?_
 rintro rfl
 refine lS R (l_nil (q_next (c_seq (c_cut (A := ((List Int)) × (HH)) (fun a => Z7_J2 c1 x12 a.1 = some r) (fun a => [(2, (pt b4 0)), (5, (sc A13 x12 D13)), (6, (.slice a.2.1 a.2.2.1 a.2.2.2))]) (fun a => RR kT3 A13 D13 x12 :: rds kT3 (.slice a.2.1 a.2.2.1 a.2.2.2) a.1 :: W1) ?_ ?_))))
 refine c_seq (c_region (lO (vFa 1 fo28_1 R) (lO (vLd 2 ag3 R R R) (lO (vGt R R) (l_nil (q_next ?_))))))
 rcases bif_ hr with ⟨hb17, hr⟩ | ⟨hb17, hr⟩
 refine c_true R hb17 ?_
 obtain ⟨hg18, hr⟩ := gd hr
 refine c_region (lS R (lO (vFa 1 fo28_1 R) (lO (vLd 2 ag3 R R R) (lS R (lO (v_len sl29 R) (lO (vz (iv (if (r14.length : Int) < c1.Cut then (r14.length : Int) else c1.Cut)) (v_min R R)) (l_st (fun w s => s.shs 0 R) (l_cut (K := kT3) (0 : Int) (if (r14.length : Int) < c1.Cut then (r14.length : Int) else c1.Cut) 0 R R sl29 sz3 R R R R hg18.1 hg18.2.1 hg18.2.2 (fun A19 D19 => (lS R (l_nil ?_)))))))))))
 exact qI ((sub r14 (0 : Int) (if (r14.length : Int) < c1.Cut then (r14.length : Int) else c1.Cut)), (A19, (sub r14 (0 : Int) (if (r14.length : Int) < c1.Cut then (r14.length : Int) else c1.Cut)).length, D19)) hr (fun w s => (s.e 3 [2, 0]))
 refine c_false R hb17 (c_skip ?_)
 exact qI (r14, (A16, r14.length, D16)) hr (fun w s => ((s.shs 0 R).e 2 [1, 0]))
 rintro ⟨order20, ⟨A21, N21, D21⟩⟩ σ1 hr
 replace hr : Z7_J2 c1 x12 order20 = some r := hr
 unfold Z7_J2 at hr
 refine c_len 1 sees_rd (fun (hn : N21 = order20.length) => ?_)
 subst hn
 refine c_seq (c_region (lI R (l_nil (q_next (c_seq (c_cut (A := (Int) × (Unit)) (fun a => Z7_J3 c1 x12 order20 a.1 = some r) (fun a => [(2, (pt b4 0)), (5, (sc A13 x12 D13)), (6, (sc A21 order20 D21)), (7, (iv a.1))]) (fun a => RR kT3 A13 D13 x12 :: RR kT3 A21 D21 order20 :: W1) ?_ ?_))))))
 refine c_seq (c_region (lS R (lO (v_len sl29 R) (lI R (l_nil (q_next (c_block ?_)))))))
 obtain ⟨e1, hl1, hk1⟩ := bd hr
 refine c_loop (A := Unit) hl1 (fun s a => [(2, (pt b4 0)), (5, (sc A13 x12 D13)), (6, (sc A21 order20 D21)), (7, (iv s.1)), (33, (sc A21 order20 D21)), (34, (il order20)), (35, (iv s.2))]) (fun s a => RR kT3 A13 D13 x12 :: RR kT3 A21 D21 order20 :: W1) () (aS R) (fun w s => s) ?_
 rintro ⟨sum29, x30⟩ _ σ1 out1 hr he1
 replace hr : Z7_L1 x12 order20 sum29 x30 = some out1 := hr
 unfold Z7_L1 at hr
 refine c_seq (c_region (lO (vLt R R) (l_nil (q_next (c_seq ?_)))))
 rcases bif_ hr with ⟨hb31, hr⟩ | ⟨hb31, hr⟩
 refine c_true R hb31 (c_skip (q_next (c_seq (c_block (c_seq ?_)))))
 obtain ⟨hg32, hr⟩ := gd hr
 refine c_region (t_some 1 sees_rd (show 0 < order20.length by have := hg32; omega) (fun g33 o34 ha => ?_))
 subst ha
 refine lO (vIa sl29 sz3 R R hg32) (lO (vLi 1 ag3 sees_rd R hg32) (lI R (l_nil (q_next ?_))))
 obtain ⟨hg35, hr⟩ := gd hr
 refine c_region (lI R (lS R (lI R (t_some 0 sees_rd (show 0 < x12.length by have := hg35; omega) (fun g36 o37 ha => ?_)))))
 subst ha
 refine lO (vIa sl29 sz3 R R hg35) (lO (vLi 0 ag3 sees_rd R hg35) (lO (vAd R R) (lI R (l_nil (q_blockn (q_next (c_region (lO (vAd R R) (lI R (l_nil ?_))))))))))
 obtain rfl := so hr
 exact qA () (fun w s => s)
 refine c_false R hb31 (c_exit (q_exit ?_))
 obtain rfl := so hr
 obtain rfl := he1 _ R
 have hr := hk1
 refine q_exit (q_block ?_)
 exact qI (sum29, ()) hr (fun w s => s)
 rintro ⟨sum40, _⟩ σ1 hr
 replace hr : Z7_J3 c1 x12 order20 sum40 = some r := hr
 unfold Z7_J3 at hr
 refine c_seq ?_
 obtain ⟨hg41, hr⟩ := gd hr
 refine c_region (lS R (lO (v_len sl29 R) (l_make (K := kT3) (m := (x12.length : Int)) (z := (0 : Int)) R R sl29 sz3 by3 (Zr.zk zT3 zc3) (by decide) R R hg41.1 hg41.2.1 hg41.2.2 (fun A42 D42 => (lS R (l_nil (q_next (c_seq (c_region (lI R (l_nil (q_next (c_seq (c_cut (A := ((List Int)) × (Unit)) (fun a => Z7_J4 a.1 = some r) (fun a => [(10, (sc A42 (List.replicate (x12.length : Int).toNat (0 : Int)) D42))]) (fun a => ow kT3 3 (.slice A42 (List.replicate (x12.length : Int).toNat (0 : Int)).length D42) a.1 :: W1) ?_ ?_))))))))))))))
 refine c_seq (c_region (lS R (lO (v_len sl29 R) (lI R (l_nil (q_next (c_block ?_)))))))
 obtain ⟨e2, hl2, hk2⟩ := bd hr
 refine c_loop (A := Unit) hl2 (fun s a => [(2, (pt b4 0)), (5, (sc A13 x12 D13)), (7, (iv sum40)), (10, (sc A42 (List.replicate (x12.length : Int).toNat (0 : Int)) D42)), (11, (iv s.2.1)), (49, (sc A21 order20 D21)), (50, (il order20)), (51, (iv s.2.2))]) (fun s a => RR kT3 A13 D13 x12 :: ow kT3 3 (.slice A42 (List.replicate (x12.length : Int).toNat (0 : Int)).length D42) s.1 :: RR kT3 A21 D21 order20 :: W1) () (aS R) (fun w s => (s.e 3 [1, 0, 2])) ?_
 rintro ⟨x56, x57, x58⟩ _ σ1 out2 hr he2
 replace hr : Z7_L2 c1 x12 order20 sum40 x56 x57 x58 = some out2 := hr
 unfold Z7_L2 at hr
 refine c_seq (c_region (lO (vLt R R) (l_nil (q_next (c_seq ?_)))))
 rcases bif_ hr with ⟨hb59, hr⟩ | ⟨hb59, hr⟩
 refine c_true R hb59 (c_skip (q_next (c_seq (c_block (c_seq ?_)))))
 obtain ⟨hg60, hr⟩ := gd hr
 refine c_region (t_some 2 sees_rd (show 0 < order20.length by have := hg60; omega) (fun g61 o62 ha => ?_))
 subst ha
 refine lO (vIa sl29 sz3 R R hg60) (lO (vLi 2 ag3 sees_rd R hg60) (lI R (l_nil (q_next (c_seq ?_)))))
 obtain ⟨hg63, hr⟩ := gd hr
 obtain ⟨hg66, hr⟩ := gd hr
 refine c_region (lS R (lI R (lS R (lI R (t_some 0 sees_rd (show 0 < x12.length by have := hg63; omega) (fun g64 o65 ha => ?_))))))
 subst ha
 refine lO (vIa sl29 sz3 R R hg63) (lO (vLi 0 ag3 sees_rd R hg63) (t_some 1 sees_ow (show 0 < (List.replicate (x12.length : Int).toNat (0 : Int)).length by have := hg66; omega) (fun g67 o68 ha => ?_)))
 subst ha
 refine lO (vIa sl29 sz3 R R hg66) (lM (ow kT3 3 (.slice (ad g67 o68) (List.replicate (x12.length : Int).toNat (0 : Int)).length D42) x56 :: RR kT3 (ad g64 o65) D13 x12 :: RR kT3 (ad g61 o62) D21 order20 :: W1) (fun w s => (s.e 3 [1, 0, 2])) ?_)
 refine l_stx (K := kT3) (x' := (ix x12 (ix order20 x58))) 0 (ix order20 x58) R R sz3 R R hg66.1 hg66.2 ?_ ?_
 exact fun I h s => (mO3).put I h () (ix x12 (ix order20 x58)) s
 refine lN (ow kT3 3 (.slice (ad g67 o68) (List.replicate (x12.length : Int).toNat (0 : Int)).length D42) (x56.set (ix order20 x58).toNat (ix x12 (ix order20 x58))) :: _ :: _ :: W1) ?_
 refine l_nil (q_next (c_seq (c_region (lI R (lS R (lI R (lO (vIa sl29 sz3 R R hg63) (lO (vLi 1 ag3 sees_rd R hg63) (lO (vAd R R) (lI R (l_nil (q_next (c_seq (c_region (lI R (lO (vMu R R) (lO (vFa 2 fo28_2 R) (lO (vLd 3 ag3 R R R) (lI R (lO (vMu R R) (lO (vGe R R) (l_nil (q_next ?_)))))))))))))))))))))))
 rcases bif_ hr with ⟨hb69, hr⟩ | ⟨hb69, hr⟩
 refine c_true R hb69 (c_exit (q_pass R (q_exit ?_)))
 obtain rfl := so hr
 obtain rfl := he2 _ R
 have hr := hk2
 refine q_exit (q_block ?_)
 exact qI ((x56.set (ix order20 x58).toNat (ix x12 (ix order20 x58))), ()) hr (fun w s => (s.e 3 [0]))
 refine c_false R hb69 (c_skip (q_blockn (q_next (c_region (lO (vAd R R) (lI R (l_nil ?_)))))))
 obtain rfl := so hr
 exact qA () (fun w s => (s.e 3 [1, 0, 2]))
 refine c_false R hb59 (c_exit (q_exit ?_))
 obtain rfl := so hr
 obtain rfl := he2 _ R
 have hr := hk2
 refine q_exit (q_block ?_)
 exact qI (x56, ()) hr (fun w s => (s.e 3 [1]))
 rintro ⟨x73, _⟩ σ1 hr
 replace hr : Z7_J4 x73 = some r := hr
 unfold Z7_J4 at hr
 refine c_seq (c_region (lS R (lS R (l_nil (q_next (c_ret ?_))))))
 obtain rfl := so hr
 exact qF (A42, (List.replicate (x12.length : Int).toNat (0 : Int)).length, D42) (fun w s => (s.e 3 [0]))
theorem Z18_ok  {p1 : Int} {n2 : Int} {r : Int × Int} (hr : Z18 p1 n2 = some r) :
 FnOk Try.prog 58 [(iv p1), (iv n2)] [] (fun (h : Unit) => ((.tuple [(iv r.1), (iv r.2)].toArray), [])) := by
 unfold Z18 at hr
 refine fn_ok Try.func58 R 22 R R fun C V => ?_
 refine cN V ?_
 refine c_seq (c_region (lI R (lI R (l_nil (q_next (c_seq (c_seq ?_)))))))
 obtain ⟨r3, hx4, hr⟩ := bd hr
 obtain ⟨r5, hx6, hr⟩ := bd hr
 refine cQ [(0, (iv p1)), (1, (iv n2)), (13, (.bool ((!r3) || (!r5))))] (V) ?_ ?_
 refine c_region (lI R (lC 0 cb29 R (Z0i_ok hx4) R ?_))
 rintro _
 refine lO (vNo R) (lB R ?_)
 rcases bo (!r3) with hc7 | hc7
 refine lf (wfT hc7) (lf (wfT hc7) (lf (wfT hc7) (lO (pOT (!r5) R hc7) (l_nil ?_))))
 exact qJ (fun w s => s)
 refine lW (wnF hc7) (vI R) (l_calln 0 R (wnF hc7) cb31 R (Zx_ok (gcall_t hx6 (not_ff hc7))) R ?_)
 rintro _
 refine lW (wnF hc7) (vNo R) (lO (pOF R hc7 R) (l_nil ?_))
 exact qJ (fun w s => s)
 rintro σ1
 refine q_next ?_
 rcases bif_ hr with ⟨hb8, hr⟩ | ⟨hb8, hr⟩
 refine c_true R hb8 (c_seq (c_region (lI R (lI R (lI R (l_nil (q_next (c_ret (q_ret ?_)))))))))
 obtain rfl := so hr
 exact q_fin (vs := [(iv 0), (iv p1)]) (.inl R) () R ⟨R, R, trivial⟩ R (fun w s => s)
 refine c_false R hb8 (c_skip (q_next (c_seq ?_)))
 obtain ⟨r9, hx10, hr⟩ := bd hr
 refine c_region (lI R (lC 0 cb55 R (Z12_ok hx10) R ?_))
 rintro _
 refine lI R (l_nil (q_next (c_seq (c_region (lI R (lI R (lO (vMu R R) (lO (vz (iv ((w64 (r9 * n2)) / 2 ^ (32 : Int).toNat)) (v_shr R R (by decide) (by decide))) (lI R (lI R (lI R (l_nil (q_next (c_ret ?_))))))))))))))
 obtain rfl := so hr
 exact q_fin (vs := [(iv ((w64 (r9 * n2)) / 2 ^ (32 : Int).toNat)), (iv r9)]) (.inl R) () R ⟨R, R, trivial⟩ R (fun w s => s)
theorem Zp_ok  {weights1 : (List Int)} {r3 : Int} {r : Int} (hr : Zp weights1 r3 = some r) :
 FnOk Try.prog 59 [(.slice A2 N2 D2), (iv r3)] [rds kT3 (.slice A2 N2 D2) weights1] (fun (h : Unit) => ((iv r), [])) := by
 unfold Zp at hr
 refine fn_ok Try.func59 R 35 R R fun C V => ?_
 refine cN (_ :: V) ?_
 refine cL 0 sees_rd ?_
 rintro rfl
 let W0 : List HP := RR kT3 A2 D2 weights1 :: V
 refine cN W0 ?_
 refine c_seq (c_region (lI R (l_nil (q_next (c_seq (c_seq ?_))))))
 obtain ⟨r4, hx5, hr⟩ := bd hr
 refine cQ [(0, (sc A2 weights1 D2)), (1, (iv r3)), (19, (.bool (((decide ((weights1.length : Int) > (64 : Int))) || (!r4)) || (decide (r3 < (0 : Int))))))] (W0) ?_ ?_
 refine c_region (lS R (lO (v_len sl29 R) (lO (vGt R R) (lB R ?_))))
 rcases bo (decide ((weights1.length : Int) > (64 : Int))) with hc6 | hc6
 refine lf (wfT hc6) (lf (wfT hc6) (lf (wfT hc6) (lO (pOT (!r4) R hc6) (lB R (lf (wfT (oT hc6)) (lf (wfT (oT hc6)) (lO (pOT (decide (r3 < (0 : Int))) R (oT hc6)) (l_nil ?_))))))))
 exact qJ (fun w s => s)
 refine lW (wnF hc6) (vS R) (lM (RR kT3 A2 D2 weights1 :: W0) (fun w s => (s.d 0 R)) ?_)
 refine l_calln 1 R (wnF hc6) cb51 R (Zw_ok (gcall_t hx5 (not_ff hc6))) R ?_
 rintro _
 refine lN W0 ?_
 refine lW (wnF hc6) (vNo R) (lO (pOF R hc6 R) (lB R ?_))
 rcases bo ((decide ((weights1.length : Int) > (64 : Int))) || (!r4)) with hc7 | hc7
 refine lf (wfT hc7) (lf (wfT hc7) (lO (pOT (decide (r3 < (0 : Int))) R hc7) (l_nil ?_)))
 exact qJ (fun w s => s)
 refine lW (wnF hc7) (vI R) (lW (wnF hc7) (vLt R R) (lO (pOF R hc7 R) (l_nil ?_)))
 exact qJ (fun w s => s)
 rintro σ1
 refine q_next ?_
 rcases bif_ hr with ⟨hb8, hr⟩ | ⟨hb8, hr⟩
 refine c_true R hb8 (c_seq (c_region (lI R (l_nil (q_next (c_ret (q_ret ?_)))))))
 obtain rfl := so hr
 exact qF () (fun w s => (s.e 1 []))
 refine c_false R hb8 (c_skip (q_next (c_seq (c_region (lI R (l_nil (q_next (c_seq (c_cut (A := (Unit) × (Unit)) (fun a => Zp_J1 = some r) (fun a => []) (fun a => W0) ?_ ?_)))))))))
 refine c_seq (c_region (lS R (lO (v_len sl29 R) (lI R (l_nil (q_next (c_block ?_)))))))
 obtain ⟨e1, hl1, hk1⟩ := bd hr
 refine c_loop (A := Unit) hl1 (fun s a => [(1, (iv r3)), (5, (iv s.1)), (20, (sc A2 weights1 D2)), (21, (il weights1)), (22, (iv s.2))]) (fun s a => W0) () (aS R) (fun w s => s) ?_
 rintro ⟨sum14, x15⟩ _ σ1 out1 hr he1
 replace hr : Zp_L1 weights1 r3 sum14 x15 = some out1 := hr
 unfold Zp_L1 at hr
 refine c_seq (c_region (lO (vLt R R) (l_nil (q_next (c_seq ?_)))))
 rcases bif_ hr with ⟨hb16, hr⟩ | ⟨hb16, hr⟩
 refine c_true R hb16 (c_skip (q_next (c_seq (c_block (c_seq ?_)))))
 obtain ⟨hg17, hr⟩ := gd hr
 refine c_region (lI R (t_some 0 sees_rd (show 0 < weights1.length by have := hg17; omega) (fun g18 o19 ha => ?_)))
 subst ha
 refine lO (vIa sl29 sz3 R R hg17) (lO (vLi 0 ag3 sees_rd R hg17) (lI R (lI R (l_nil (q_next (c_seq (c_region (lI R (lI R (lO (vAd R R) (lI R (l_nil (q_next (c_seq (c_region (lI R (lI R (lO (vGt R R) (l_nil (q_next ?_))))))))))))))))))))
 rcases bif_ hr with ⟨hb20, hr⟩ | ⟨hb20, hr⟩
 refine c_true R hb20 (c_seq (c_region (lI R (lI R (l_nil (q_next (c_ret (q_blockr (q_ret ?_)))))))))
 obtain rfl := so hr
 obtain rfl := he1 _ R
 have hr := hk1
 refine q_ret (q_blockr (q_ret ?_))
 obtain rfl := so hr
 exact qF () (fun w s => (s.e 1 []))
 refine c_false R hb20 (c_skip (q_blockn (q_next (c_region (lO (vAd R R) (lI R (l_nil ?_)))))))
 obtain rfl := so hr
 exact qA () (fun w s => s)
 refine c_false R hb16 (c_exit (q_exit ?_))
 obtain rfl := so hr
 obtain rfl := he1 _ R
 have hr := hk1
 refine q_exit (q_block ?_)
 exact q_join ((), ()) hr trivial (fun w s => s)
 rintro ⟨_, _⟩ σ1 hr
 replace hr : Zp_J1 = some r := hr
 unfold Zp_J1 at hr
 refine c_seq (c_region (lI R (l_nil (q_next (c_ret ?_)))))
 obtain rfl := so hr
 exact qF () (fun w s => (s.e 1 []))
theorem Ze_ok  {t1 : talker} {history5 : (List Int)} {i7 : Int} {b2 : Nat} {r : Int} (hr : Ze t1 history5 i7 = some r) :
 FnOk Try.prog 35 [(pt b2 0), (.slice A6 N6 D6), (iv i7)] [rds kT33 (.slice A3 N3 D3) t1.rows, rds kT3 (.slice A4 N4 D4) t1.states, bxl b2 [(.slice A3 N3 D3), (iv t1.choice.Power), (iv t1.choice.Cut), (iv t1.choice.Mass), (.slice A4 N4 D4)] 79, rds kT3 (.slice A6 N6 D6) history5] (fun (h : Unit) => ((iv r), [bxl b2 [(.slice A3 N3 D3), (iv t1.choice.Power), (iv t1.choice.Cut), (iv t1.choice.Mass), (.slice A4 N4 D4)] 79])) := by
 unfold Ze at hr
 refine fn_ok Try.func35 R 49 R R fun C V => ?_
 refine cM (bxl _ _ _ :: rds _ _ _ :: rds _ _ _ :: rds _ _ _ :: V) (fun w s => (s.e 4 [2, 0, 1, 3])) ?_
 refine cL 1 sees_rd ?_
 rintro rfl
 refine cL 2 sees_rd ?_
 rintro rfl
 refine cL 3 sees_rd ?_
 rintro rfl
 let W0 : List HP := RR kT33 A3 D3 t1.rows :: RR kT3 A4 D4 t1.states :: RR kT3 A6 D6 history5 :: V
 refine cN (bxl b2 [(sc A3 t1.rows D3), (iv t1.choice.Power), (iv t1.choice.Cut), (iv t1.choice.Mass), (sc A4 t1.states D4)] 79 :: W0) ?_
 refine c_seq (c_region (lI R (l_nil ?_)))
 let W1 : List HP := bxl b2 [(sc A3 t1.rows D3), (iv t1.choice.Power), (iv t1.choice.Cut), (iv t1.choice.Mass), (sc A4 t1.states D4)] 79 :: W0
 refine qN W1 ?_
 refine q_next (c_seq ?_)
 obtain ⟨r8, hx9, hr⟩ := bd hr
 obtain ⟨r11, hx12, hr⟩ := bd hr
 refine cdr 12 [] mixo (fun ht hn => (dR 0 R (vP R) (dR 1 R (vP R) (dR 2 R (vFa 1 fo79_1 R) (dR 3 R (vz (.agg [(iv t1.choice.Power), (iv t1.choice.Cut), (iv t1.choice.Mass)].toArray) (v_loadw 0 ag28 sz28 R R R R)) (dR 4 R (vP R) (dR 5 R (vP R) (dR 6 R (vFa 0 fo79_0 R) (dR 7 R (vLd 0 ag24 R R R) (dR 8 R (vS R) (d1 9 R (lM (RR kT33 A3 D3 t1.rows :: RR kT3 A6 D6 history5 :: W1) (fun w s => (((s.d 1 R).d 4 R).e 2 [1, 0])) ?_))))))))))))
 refine lC 2 cb57 R (Zu_ok hx9) R ?_
 rintro ⟨A10, N10, D10⟩
 refine lN (rds kT3 (.slice A10 N10 D10) r8 :: W1) ?_
 refine l_len 0 sees_rd ?_
 rintro rfl
 refine l_nil (q_draw (sL [0]) (d1 10 R (lM (_ :: _ :: W1) (fun w s => (s.d 0 R)) ?_)))
 refine lC 1 cb56 R (Z7_ok hx12) R ?_
 rintro ⟨A13, N13, D13⟩
 refine lN (ow kT3 3 (.slice A13 N13 D13) r11 :: _ :: W1) ?_
 refine l_len 0 sees_ow ?_
 rintro rfl
 refine l_nil (q_draw (sL [1, 0]) (dR 11 R (vS R) (hS := (sL [1, 0])) (dD (q_next (c_seq (c_region (lI R (l_nil (q_next (c_seq (c_cut (A := (Int) × (Unit)) (fun a => Ze_J1 t1 i7 r11 a.1 = some r) (fun a => [(0, (pt b2 0)), (2, (iv i7)), (7, (sc A13 r11 D13)), (8, (iv a.1))]) (fun a => OO kT3 3 A13 D13 r11 :: W1) ?_ ?_)))))))))))
 refine c_seq (c_region (lS R (lO (v_len sl29 R) (lI R (l_nil (q_next (c_block ?_)))))))
 obtain ⟨e1, hl1, hk1⟩ := bd hr
 refine c_loop (A := Unit) hl1 (fun s a => [(0, (pt b2 0)), (2, (iv i7)), (7, (sc A13 r11 D13)), (8, (iv s.1)), (24, (sc A13 r11 D13)), (25, (il r11)), (26, (iv s.2))]) (fun s a => OO kT3 3 A13 D13 r11 :: W1) () (aS R) (fun w s => (s.e 2 [0])) ?_
 rintro ⟨sum18, x19⟩ _ σ1 out1 hr he1
 replace hr : Ze_L1 r11 sum18 x19 = some out1 := hr
 unfold Ze_L1 at hr
 refine c_seq (c_region (lO (vLt R R) (l_nil (q_next (c_seq ?_)))))
 rcases bif_ hr with ⟨hb20, hr⟩ | ⟨hb20, hr⟩
 refine c_true R hb20 (c_skip (q_next (c_seq (c_block (c_seq ?_)))))
 obtain ⟨hg21, hr⟩ := gd hr
 refine c_region (t_some 0 sees_ow (show 0 < r11.length by have := hg21; omega) (fun g22 o23 ha => ?_))
 subst ha
 refine lO (vIa sl29 sz3 R R hg21) (lO (vLi 0 ag3 sees_ow R hg21) (lI R (l_nil (q_next (c_region (lI R (lI R (lO (vAd R R) (lI R (l_nil (q_blockn (q_next (c_region (lO (vAd R R) (lI R (l_nil ?_))))))))))))))))
 obtain rfl := so hr
 exact qA () (fun w s => s)
 refine c_false R hb20 (c_exit (q_exit ?_))
 obtain rfl := so hr
 obtain rfl := he1 _ R
 have hr := hk1
 refine q_exit (q_block ?_)
 exact qI (sum18, ()) hr (fun w s => s)
 rintro ⟨sum26, _⟩ σ1 hr
 replace hr : Ze_J1 t1 i7 r11 sum26 = some r := hr
 unfold Ze_J1 at hr
 refine c_seq ?_
 obtain ⟨hg27, hr⟩ := gd hr
 obtain ⟨r30, hx31, hr⟩ := bd hr
 refine c_region (lP R (lP R (lO (vFa 4 fo79_2 R) (lO (vLd 1 ag29 R R R) (lI R (t_some 3 sees_rd (show 0 < t1.states.length by have := hg27; omega) (fun g28 o29 ha => ?_)))))))
 subst ha
 refine lO (vIa sl29 sz3 R R hg27) (lO (vLi 3 ag3 sees_rd R hg27) (lI R (lC 0 cb58 R (Z18_ok hx31) R ?_)))
 rintro _
 refine lN (_ :: W1) ?_
 refine lO (vT R) (lI R (lI R (lI R (lI R (l_nil (q_next (c_seq ?_)))))))
 obtain ⟨r32, hx33, hr⟩ := bd hr
 refine c_region (lS R (lI R (lC 1 cb59 R (FnOk.lends (A' := [OO kT3 3 A13 D13 r11]) (A := [RR kT3 A13 D13 r11]) (B := []) (Zp_ok hx33) ⟨lend_ow, trivial⟩ (fun _ => trivial)) R ?_)))
 rintro _
 refine lI R (l_nil (q_next (c_ret ?_)))
 obtain rfl := so hr
 exact qF () (fun w s => (s.e 5 [1]))
theorem Z5_ok  {m1 : Lm} {draft3 : Lm} {c5 : Choice} {prompt6 : (List Int)} {n8 : Int} {seed9 : Int} {ahead10 : Int} {r : (List Int) × Int} (hr : Z5 m1 draft3 c5 prompt6 n8 seed9 ahead10 = some r) :
 FnOk Try.prog 7 [(.agg [(iv m1.Size), (.slice A2 N2 D2)].toArray), (.agg [(iv draft3.Size), (.slice A4 N4 D4)].toArray), (.agg [(iv c5.Power), (iv c5.Cut), (iv c5.Mass)].toArray), (.slice A7 N7 D7), (iv n8), (iv seed9), (iv ahead10)] [rds kT33 (.slice A2 N2 D2) m1.Rows, rds kT33 (.slice A4 N4 D4) draft3.Rows, rds kT3 (.slice A7 N7 D7) prompt6] (fun (h : HH) => ((.tuple [(.slice h.1 h.2.1 h.2.2), (iv r.2)].toArray), [ow kT3 3 (.slice h.1 h.2.1 h.2.2) r.1])) := by
 unfold Z5 at hr
 refine fn_ok Try.func7 R 142 R R fun C V => ?_
 refine cN (_ :: _ :: _ :: V) ?_
 refine cL 0 sees_rd ?_
 rintro rfl
 refine cL 1 sees_rd ?_
 rintro rfl
 refine cL 2 sees_rd ?_
 rintro rfl
 let W0 : List HP := RR kT33 A2 D2 m1.Rows :: RR kT33 A4 D4 draft3.Rows :: RR kT3 A7 D7 prompt6 :: V
 refine cN W0 ?_
 refine c_seq (c_region (lBx R (fun b11 => (lBx R (fun b12 => (lBx R (fun b13 => (l_box (cs := [(sc A7 prompt6 D7)]) R R R (fun b14 => (lS R (lI R (l_nil ?_))))))))))))
 let W1 : List HP := bxl b13 [(iv c5.Power), (iv c5.Cut), (iv c5.Mass)] 28 :: bxl b12 [(iv draft3.Size), (sc A4 draft3.Rows D4)] 26 :: bxl b11 [(iv m1.Size), (sc A2 m1.Rows D2)] 26 :: W0
 refine qN (_ :: W1) ?_
 refine q_next (c_seq (c_seq ?_))
 obtain ⟨r15, hx16, hr⟩ := bd hr
 obtain ⟨r17, hx18, hr⟩ := bd hr
 obtain ⟨r19, hx20, hr⟩ := bd hr
 obtain ⟨r21, hx22, hr⟩ := bd hr
 obtain ⟨r23, hx24, hr⟩ := bd hr
 refine cQ [(4, (iv n8)), (5, (iv seed9)), (6, (iv ahead10)), (7, (pt b11 0)), (8, (pt b12 0)), (9, (pt b13 0)), (10, (pt b14 0)), (55, (.bool ((((((!r15) || (!r17)) || (!r19)) || (!r21)) || (draft3.Size != m1.Size)) || (!r23))))] (bxl b14 [(sc A7 prompt6 D7)] 29 :: W1) ?_ ?_
 refine c_region (lO (vz (.agg [(iv m1.Size), (sc A2 m1.Rows D2)].toArray) (v_loadw 3 ag26 sz26 R R R R)) (lO (vLd 0 ag29 R R R) (lI R (lM (RR kT33 A2 D2 m1.Rows :: RR kT3 A7 D7 prompt6 :: bxl _ _ _ :: W1) (fun w s => (((s.d 4 R).d 7 R).e 3 [1, 0, 2])) ?_))))
 refine lC 2 cb27 R (Z0z_ok hx16) R ?_
 rintro _
 refine lN (_ :: W1) ?_
 refine lO (vNo R) (lB R ?_)
 rcases bo (!r15) with hc25 | hc25
 refine lf (wfT hc25) (lf (wfT hc25) (lf (wfT hc25) (lO (pOT (!r17) R hc25) (lB R (lf (wfT (oT hc25)) (lf (wfT (oT hc25)) (lf (wfT (oT hc25)) (lO (pOT (!r19) R (oT hc25)) (lB R (lf (wfT (oT (oT hc25))) (lf (wfT (oT (oT hc25))) (lf (wfT (oT (oT hc25))) (lO (pOT (!r21) R (oT (oT hc25))) (lB R (lf (wfT (oT (oT (oT hc25)))) (lf (wfT (oT (oT (oT hc25)))) (lf (wfT (oT (oT (oT hc25)))) (lf (wfT (oT (oT (oT hc25)))) (lf (wfT (oT (oT (oT hc25)))) (lO (pOT (draft3.Size != m1.Size) R (oT (oT (oT hc25)))) (lB R (lf (wfT (oT (oT (oT (oT hc25))))) (lf (wfT (oT (oT (oT (oT hc25))))) (lf (wfT (oT (oT (oT (oT hc25))))) (lO (pOT (!r23) R (oT (oT (oT (oT hc25))))) (l_nil ?_))))))))))))))))))))))))))
 exact qJ (fun w s => s)
 refine lW (wnF hc25) (vz (.agg [(iv c5.Power), (iv c5.Cut), (iv c5.Mass)].toArray) (v_loadw 1 ag28 sz28 R R R R)) (l_calln 0 R (wnF hc25) cb28 R (Z15_ok (gcall_t hx18 (not_ff hc25))) R ?_)
 rintro _
 refine lW (wnF hc25) (vNo R) (lO (pOF R hc25 R) (lB R ?_))
 rcases bo ((!r15) || (!r17)) with hc26 | hc26
 refine lf (wfT hc26) (lf (wfT hc26) (lf (wfT hc26) (lO (pOT (!r19) R hc26) (lB R (lf (wfT (oT hc26)) (lf (wfT (oT hc26)) (lf (wfT (oT hc26)) (lO (pOT (!r21) R (oT hc26)) (lB R (lf (wfT (oT (oT hc26))) (lf (wfT (oT (oT hc26))) (lf (wfT (oT (oT hc26))) (lf (wfT (oT (oT hc26))) (lf (wfT (oT (oT hc26))) (lO (pOT (draft3.Size != m1.Size) R (oT (oT hc26))) (lB R (lf (wfT (oT (oT (oT hc26)))) (lf (wfT (oT (oT (oT hc26)))) (lf (wfT (oT (oT (oT hc26)))) (lO (pOT (!r23) R (oT (oT (oT hc26)))) (l_nil ?_)))))))))))))))))))))
 exact qJ (fun w s => s)
 refine lW (wnF hc26) (vI R) (l_calln 0 R (wnF hc26) cb29 R (Z0i_ok (gcall_t hx20 (not_ff hc26))) R ?_)
 rintro _
 refine lW (wnF hc26) (vNo R) (lO (pOF R hc26 R) (lB R ?_))
 rcases bo (((!r15) || (!r17)) || (!r19)) with hc27 | hc27
 refine lf (wfT hc27) (lf (wfT hc27) (lf (wfT hc27) (lO (pOT (!r21) R hc27) (lB R (lf (wfT (oT hc27)) (lf (wfT (oT hc27)) (lf (wfT (oT hc27)) (lf (wfT (oT hc27)) (lf (wfT (oT hc27)) (lO (pOT (draft3.Size != m1.Size) R (oT hc27)) (lB R (lf (wfT (oT (oT hc27))) (lf (wfT (oT (oT hc27))) (lf (wfT (oT (oT hc27))) (lO (pOT (!r23) R (oT (oT hc27))) (l_nil ?_))))))))))))))))
 exact qJ (fun w s => s)
 refine lW (wnF hc27) (vz (.agg [(iv draft3.Size), (sc A4 draft3.Rows D4)].toArray) (v_loadw 2 ag26 sz26 R R R R)) (lM (RR kT33 A4 D4 draft3.Rows :: _ :: W1) (fun w s => (s.d 5 R)) ?_)
 refine l_calln 1 R (wnF hc27) cb30 R (Zt_ok (gcall_t hx22 (not_ff hc27))) R ?_
 rintro _
 refine lN (_ :: W1) ?_
 refine lW (wnF hc27) (vNo R) (lO (pOF R hc27 R) (lB R ?_))
 rcases bo ((((!r15) || (!r17)) || (!r19)) || (!r21)) with hc28 | hc28
 refine lf (wfT hc28) (lf (wfT hc28) (lf (wfT hc28) (lf (wfT hc28) (lf (wfT hc28) (lO (pOT (draft3.Size != m1.Size) R hc28) (lB R (lf (wfT (oT hc28)) (lf (wfT (oT hc28)) (lf (wfT (oT hc28)) (lO (pOT (!r23) R (oT hc28)) (l_nil ?_)))))))))))
 exact qJ (fun w s => s)
 refine lW (wnF hc28) (vFa 0 fo26_0 R) (lW (wnF hc28) (vLd 2 ag3 R R R) (lW (wnF hc28) (vFa 0 fo26_0 R) (lW (wnF hc28) (vLd 3 ag3 R R R) (lW (wnF hc28) (vNe R R) (lO (pOF R hc28 R) (lB R ?_))))))
 rcases bo (((((!r15) || (!r17)) || (!r19)) || (!r21)) || (draft3.Size != m1.Size)) with hc29 | hc29
 refine lf (wfT hc29) (lf (wfT hc29) (lf (wfT hc29) (lO (pOT (!r23) R hc29) (l_nil ?_))))
 exact qJ (fun w s => s)
 refine lW (wnF hc29) (vI R) (l_calln 0 R (wnF hc29) cb31 R (Zx_ok (gcall_t hx24 (not_ff hc29))) R ?_)
 rintro _
 refine lW (wnF hc29) (vNo R) (lO (pOF R hc29 R) (l_nil ?_))
 exact qJ (fun w s => s)
 rintro σ1
 refine q_next ?_
 rcases bif_ hr with ⟨hb30, hr⟩ | ⟨hb30, hr⟩
 refine c_true R hb30 (c_seq (c_region (lS R (lI R (l_nil (q_next (c_ret (q_ret ?_))))))))
 obtain rfl := so hr
 exact q_fin (vs := [(.slice none 0 0), (iv 0)]) (.inl R) (none, 0, 0) R ⟨R, R, trivial⟩ R (fun w s => ((s.nilo kT3 3).e 8 [0]))
 refine c_false R hb30 (c_skip (q_next (c_seq ?_)))
 obtain ⟨r31, hx32, hr⟩ := bd hr
 obtain ⟨r36, hx37, hr⟩ := bd hr
 refine cdr 12 [] mixo (fun ht hn => (dR 0 R (vz (.agg [(iv m1.Size), (sc A2 m1.Rows D2)].toArray) (v_loadw 3 ag26 sz26 R R R R)) (dR 1 R (vz (.agg [(iv c5.Power), (iv c5.Cut), (iv c5.Mass)].toArray) (v_loadw 1 ag28 sz28 R R R R)) (dR 2 R (vI R) (dR 3 R (vI R) (dR 5 R (vz (.agg [(iv draft3.Size), (sc A4 draft3.Rows D4)].toArray) (v_loadw 2 ag26 sz26 R R R R)) (dR 6 R (vz (.agg [(iv c5.Power), (iv c5.Cut), (iv c5.Mass)].toArray) (v_loadw 1 ag28 sz28 R R R R)) (dR 7 R (vI R) (dR 8 R (vI R) (d1 4 R (lM (RR kT33 A2 D2 m1.Rows :: _ :: W1) (fun w s => (s.d 4 R)) ?_)))))))))))
 refine lC 1 cb32 R (Zs_ok hx32) R ?_
 rintro ⟨⟨A33, N33, D33⟩, ⟨A34, N34, D34⟩, b35⟩
 refine lN (ow (kT33).share 33 (.slice A33 N33 D33) r31.rows :: ow kT3 3 (.slice A34 N34 D34) r31.states :: bxl b35 [(.slice A33 N33 D33), (iv r31.choice.Power), (iv r31.choice.Cut), (iv r31.choice.Mass), (.slice A34 N34 D34)] 79 :: _ :: W1) ?_
 refine l_len 0 sees_sh ?_
 rintro rfl
 refine l_len 1 sees_ow ?_
 rintro rfl
 refine l_nil (q_draw (sL [2, 1, 0]) (d1 9 R (lM (RR kT33 A4 D4 draft3.Rows :: _ :: _ :: bxl b35 [(sc A33 r31.rows D33), (iv r31.choice.Power), (iv r31.choice.Cut), (iv r31.choice.Mass), (sc A34 r31.states D34)] 79 :: _ :: W1) (fun w s => (s.d 8 R)) ?_)))
 refine lC 1 cb32 R (Zs_ok hx37) R ?_
 rintro ⟨⟨A38, N38, D38⟩, ⟨A39, N39, D39⟩, b40⟩
 refine lN (ow (kT33).share 33 (.slice A38 N38 D38) r36.rows :: ow kT3 3 (.slice A39 N39 D39) r36.states :: bxl b40 [(.slice A38 N38 D38), (iv r36.choice.Power), (iv r36.choice.Cut), (iv r36.choice.Mass), (.slice A39 N39 D39)] 79 :: _ :: _ :: _ :: _ :: W1) ?_
 refine l_len 0 sees_sh ?_
 rintro rfl
 refine l_len 1 sees_ow ?_
 rintro rfl
 refine l_nil (q_draw (sL [5, 4, 3, 2, 1, 0]) (dR 10 R (vP R) (hS := (sL [5, 4, 3, 2, 1, 0])) (dR 11 R (vP R) (hS := (sL [5, 4, 3, 2, 1, 0])) (dD (q_next (c_seq ?_))))))
 obtain ⟨r41, hx42, hr⟩ := bd hr
 refine c_region (lO (vLd 6 ag29 R R R) (lM (RR kT3 A7 D7 prompt6 :: _ :: _ :: bxl b40 [(sc A38 r36.rows D38), (iv r36.choice.Power), (iv r36.choice.Cut), (iv r36.choice.Mass), (sc A39 r36.states D39)] 79 :: _ :: _ :: _ :: _ :: W1) (fun w s => (s.d 12 R)) ?_))
 refine lC 1 cb33 R (Z0h_ok hx42) R ?_
 rintro ⟨A43, N43, D43⟩
 refine lN (ow kT3 3 (.slice A43 N43 D43) r41 :: _ :: _ :: _ :: _ :: _ :: _ :: _ :: W1) ?_
 refine l_len 0 sees_ow ?_
 rintro rfl
 refine l_alloc R R zc29 (fun b44 => (l_store 0 R R sz29 R R R R R (lN (bxl b44 [(sc A43 r41 D43)] 29 :: _ :: _ :: _ :: _ :: _ :: _ :: _ :: _ :: W1) ?_)))
 refine l_nil (q_next (c_seq (c_region (lO (vp (.func (.func 34) [].toArray [(pt b44 0), (pt b14 0)].toArray) R) (lO (vp (.func (.func 34) [].toArray [(pt b44 0), (pt b14 0)].toArray) R) (l_nil (q_next (c_seq (c_region (lI R (l_nil (q_next (c_seq (c_cut (A := ((List Int) × Int) × (HH)) (fun a => Z5_J5 prompt6 a.1.1 a.1.2 = some r) (fun a => [(10, (pt b14 0)), (18, (pt b44 0)), (20, (iv a.1.2))]) (fun a => bxl b14 [(sc A7 prompt6 D7)] 29 :: bxl b44 [(.slice a.2.1 a.2.2.1 a.2.2.2)] 29 :: ow kT3 3 (.slice a.2.1 a.2.2.1 a.2.2.2) a.1.1 :: W1) ?_ ?_))))))))))))))
 refine c_block ?_
 obtain ⟨e1, hl1, hk1⟩ := bd hr
 refine c_loop (A := HH) hl1 (fun s a => [(4, (iv n8)), (6, (iv ahead10)), (10, (pt b14 0)), (16, (pt b35 0)), (17, (pt b40 0)), (18, (pt b44 0)), (19, (.func (.func 34) [].toArray [(pt b44 0), (pt b14 0)].toArray)), (20, (iv s.2))]) (fun s a => bxl b14 [(sc A7 prompt6 D7)] 29 :: bxl b35 [(sc A33 r31.rows D33), (iv r31.choice.Power), (iv r31.choice.Cut), (iv r31.choice.Mass), (sc A34 r31.states D34)] 79 :: OO (kT33).share 33 A33 D33 r31.rows :: OO kT3 3 A34 D34 r31.states :: bxl b40 [(sc A38 r36.rows D38), (iv r36.choice.Power), (iv r36.choice.Cut), (iv r36.choice.Mass), (sc A39 r36.states D39)] 79 :: OO (kT33).share 33 A38 D38 r36.rows :: OO kT3 3 A39 D39 r36.states :: bxl b44 [(.slice a.1 a.2.1 a.2.2)] 29 :: ow kT3 3 (.slice a.1 a.2.1 a.2.2) s.1 :: W1) (A43, r41.length, D43) (aS R) (fun w s => (s.e 9 [8, 7, 5, 6, 4, 2, 3, 0, 1])) ?_
 rintro ⟨all116, passes118⟩ ⟨A117, N117, D117⟩ σ1 out1 hr he1
 replace hr : Z5_L1 prompt6 n8 ahead10 r31 r36 all116 passes118 = some out1 := hr
 unfold Z5_L1 at hr
 refine c_len 8 sees_ow (fun (hn : N117 = all116.length) => ?_)
 subst hn
 refine c_seq (c_seq ?_)
 obtain ⟨r119, hx120, hr⟩ := bd hr
 refine c_region (lO (vp (.func (.func 34) [].toArray [(pt b44 0), (pt b14 0)].toArray) R) (lM (OO kT3 3 A117 D117 all116 :: bxl b44 [(sc A117 all116 D117)] 29 :: RR kT3 A7 D7 prompt6 :: bxl _ _ _ :: bxl _ _ _ :: ow _ _ _ _ :: ow _ _ _ _ :: bxl _ _ _ :: ow _ _ _ _ :: ow _ _ _ _ :: W1) (fun w s => ((s.d 14 R).f 10 [9, 1, 8, 1, 0, 8])) ?_))
 refine l_callvn (fs := []) (cs := [(pt b44 0), (pt b14 0)]) 4 R R cb34 R R (FnOk.lends (A' := [OO kT3 3 A117 D117 all116]) (A := [RR kT3 A117 D117 all116]) (B := [bxl b44 [(sc A117 all116 D117)] 29, RR kT3 A7 D7 prompt6, bxl b14 [(sc A7 prompt6 D7)] 29]) (Z0m_ok hx120) ⟨lend_ow, trivial⟩ (fun _ => ⟨closed_bx, closed_bx, trivial⟩)) R ?_
 rintro _
 refine lN (_ :: _ :: _ :: _ :: _ :: _ :: _ :: _ :: _ :: W1) ?_
 refine lI R (lO (vLt R R) (l_nil (q_next ?_)))
 rcases bif_ hr with ⟨hb121, hr⟩ | ⟨hb121, hr⟩
 refine c_true R hb121 (c_skip (q_next (c_block (c_seq (c_region (lI R (lO (vAd R R) (lI R (l_nil (q_next (c_seq ?_)))))))))))
 obtain ⟨r122, hx123, hr⟩ := bd hr
 refine c_region (lO (vLd 1 ag29 R R R) (lC 1 cb33 R (FnOk.lends (A' := [OO kT3 3 A117 D117 all116]) (A := [RR kT3 A117 D117 all116]) (B := []) (Z0h_ok hx123) ⟨lend_ow, trivial⟩ (fun _ => ⟨(closed_ow cT3), trivial⟩)) R ?_))
 rintro ⟨A124, N124, D124⟩
 refine lN (_ :: ow kT3 3 (.slice A124 N124 D124) r122 :: _ :: _ :: _ :: _ :: _ :: _ :: _ :: _ :: W1) ?_
 refine l_len 1 sees_ow ?_
 rintro rfl
 refine lS R (l_nil (q_next (c_seq (c_cut (A := ((List Int)) × (HH)) (fun a => Z5_J3 prompt6 n8 r31 all116 passes118 a.1 = some out1) (fun a => [(4, (iv n8)), (6, (iv ahead10)), (10, (pt b14 0)), (16, (pt b35 0)), (17, (pt b40 0)), (18, (pt b44 0)), (19, (.func (.func 34) [].toArray [(pt b44 0), (pt b14 0)].toArray)), (20, (iv (w64 (passes118 + (1 : Int))))), (21, (.slice a.2.1 a.2.2.1 a.2.2.2))]) (fun a => bxl b14 [(sc A7 prompt6 D7)] 29 :: bxl b35 [(sc A33 r31.rows D33), (iv r31.choice.Power), (iv r31.choice.Cut), (iv r31.choice.Mass), (sc A34 r31.states D34)] 79 :: OO (kT33).share 33 A33 D33 r31.rows :: OO kT3 3 A34 D34 r31.states :: bxl b40 [(sc A38 r36.rows D38), (iv r36.choice.Power), (iv r36.choice.Cut), (iv r36.choice.Mass), (sc A39 r36.states D39)] 79 :: OO (kT33).share 33 A38 D38 r36.rows :: OO kT3 3 A39 D39 r36.states :: bxl b44 [(sc A117 all116 D117)] 29 :: OO kT3 3 A117 D117 all116 :: ow kT3 3 (.slice a.2.1 a.2.2.1 a.2.2.2) a.1 :: W1) ?_ ?_))))
 refine c_seq ?_
 obtain ⟨r125, hx126, hr⟩ := bd hr
 refine c_region (lI R (lI R (lO (vp (.func (.func 34) [].toArray [(pt b44 0), (pt b14 0)].toArray) R) (lM (ow _ _ _ _ :: bxl _ _ _ :: RR kT3 A7 D7 prompt6 :: bxl _ _ _ :: ow _ _ _ _ :: bxl _ _ _ :: ow _ _ _ _ :: ow _ _ _ _ :: bxl _ _ _ :: ow _ _ _ _ :: ow _ _ _ _ :: W1) (fun w s => ((s.d 15 R).e 11 [1, 3, 0, 4, 2, 5, 6, 7, 8, 9, 10])) ?_))))
 refine l_callvn (fs := []) (cs := [(pt b44 0), (pt b14 0)]) 4 R R cb34 R R (FnOk.lends (A' := [OO kT3 3 A117 D117 all116]) (A := [RR kT3 A117 D117 all116]) (B := [bxl b44 [(sc A117 all116 D117)] 29, RR kT3 A7 D7 prompt6, bxl b14 [(sc A7 prompt6 D7)] 29]) (Z0m_ok hx126) ⟨lend_ow, trivial⟩ (fun _ => ⟨closed_bx, closed_bx, trivial⟩)) R ?_
 rintro _
 refine lN (_ :: _ :: _ :: _ :: _ :: _ :: _ :: _ :: _ :: _ :: W1) ?_
 refine lO (vSb R R) (lO (vz (iv (if (w64 (n8 - r125)) < ahead10 then (w64 (n8 - r125)) else ahead10)) (v_min R R)) (lI R (l_nil (q_next (c_block ?_)))))
 obtain ⟨e2, hl2, hk2⟩ := bd hr
 refine c_loop (A := HH) hl2 (fun s a => [(4, (iv n8)), (6, (iv ahead10)), (10, (pt b14 0)), (16, (pt b35 0)), (17, (pt b40 0)), (18, (pt b44 0)), (19, (.func (.func 34) [].toArray [(pt b44 0), (pt b14 0)].toArray)), (20, (iv (w64 (passes118 + (1 : Int))))), (21, (.slice a.1 a.2.1 a.2.2)), (82, (iv (if (w64 (n8 - r125)) < ahead10 then (w64 (n8 - r125)) else ahead10))), (83, (iv s.2))]) (fun s a => bxl b14 [(sc A7 prompt6 D7)] 29 :: bxl b35 [(sc A33 r31.rows D33), (iv r31.choice.Power), (iv r31.choice.Cut), (iv r31.choice.Mass), (sc A34 r31.states D34)] 79 :: OO (kT33).share 33 A33 D33 r31.rows :: OO kT3 3 A34 D34 r31.states :: bxl b40 [(sc A38 r36.rows D38), (iv r36.choice.Power), (iv r36.choice.Cut), (iv r36.choice.Mass), (sc A39 r36.states D39)] 79 :: OO (kT33).share 33 A38 D38 r36.rows :: OO kT3 3 A39 D39 r36.states :: bxl b44 [(sc A117 all116 D117)] 29 :: OO kT3 3 A117 D117 all116 :: ow kT3 3 (.slice a.1 a.2.1 a.2.2) s.1 :: W1) (A124, r122.length, D124) (aS R) (fun w s => (s.e 10 [2, 4, 5, 6, 7, 8, 9, 1, 0, 3])) ?_
 rintro ⟨guess133, x135⟩ ⟨A134, N134, D134⟩ σ1 out2 hr he2
 replace hr : Z5_L2 prompt6 n8 ahead10 r36 r125 guess133 x135 = some out2 := hr
 unfold Z5_L2 at hr
 refine c_len 9 sees_ow (fun (hn : N134 = guess133.length) => ?_)
 subst hn
 refine c_seq (c_region (lO (vLt R R) (l_nil (q_next (c_seq ?_)))))
 rcases bif_ hr with ⟨hb136, hr⟩ | ⟨hb136, hr⟩
 refine c_true R hb136 (c_skip (q_next (c_seq (c_block ?_))))
 obtain ⟨r137, hx138, hr⟩ := bd hr
 obtain ⟨hg140, hr⟩ := gd hr
 refine c_region (lS R (lP R (lS R (lS R (lO (v_len sl29 R) (lO (vLd 0 ag29 R R R) (lO (v_len sl29 R) (lO (vSb R R) (lM (ow _ _ _ _ :: ow _ _ _ _ :: OO kT3 3 A134 D134 guess133 :: bxl _ _ _ :: bxl _ _ _ :: bxl _ _ _ :: ow _ _ _ _ :: ow _ _ _ _ :: bxl _ _ _ :: ow _ _ _ _ :: W1) (fun w s => (s.e 10 [5, 6, 9, 4, 0, 1, 2, 3, 7, 8])) ?_)))))))))
 refine lC 4 cb35 R (FnOk.lends (A' := [OO (kT33).share 33 A38 D38 r36.rows, OO kT3 3 A39 D39 r36.states, OO kT3 3 A134 D134 guess133]) (A := [RR kT33 A38 D38 r36.rows, RR kT3 A39 D39 r36.states, RR kT3 A134 D134 guess133]) (B := [bxl b40 [(sc A38 r36.rows D38), (iv r36.choice.Power), (iv r36.choice.Cut), (iv r36.choice.Mass), (sc A39 r36.states D39)] 79]) (FnOk.perm (Ze_ok hx138) (Pre' := [RR kT33 A38 D38 r36.rows, RR kT3 A39 D39 r36.states, RR kT3 A134 D134 guess133, bxl b40 [(sc A38 r36.rows D38), (iv r36.choice.Power), (iv r36.choice.Cut), (iv r36.choice.Mass), (sc A39 r36.states D39)] 79]) (fun _ _ _ s => (s.e 4 [0, 1, 3, 2]))) ⟨lend_sh, lend_ow, lend_ow, trivial⟩ (fun _ => ⟨closed_bx, trivial⟩)) R ?_
 rintro _
 refine l_build (K := kT3) (xs := ([r137] : List Int)) (vs := [(iv r137)]) 0 R R sl29 sz3 zc3 R R R R R R ?_ R (fun A139 D139 => ?_)
 exact fun I h s => (mO3).list [((), r137)] I h s
 refine lN (OO kT3 3 A139 D139 ([r137] : List Int) :: _ :: _ :: _ :: _ :: _ :: _ :: _ :: _ :: _ :: _ :: W1) ?_
 refine lM (ow _ _ _ _ :: ow _ _ _ _ :: ow _ _ _ _ :: ow _ _ _ _ :: bxl _ _ _ :: bxl _ _ _ :: bxl _ _ _ :: ow _ _ _ _ :: ow _ _ _ _ :: bxl _ _ _ :: ow _ _ _ _ :: W1) (fun w s => (s.f 11 [3, 1, 0, 3, 4, 7])) ?_
 refine l_app (K := kT3) 17592186044416 R R sl29 sz3 by3 (Zr.zk zT3 zc3) R R R R R R src_ow hg140 (fun A141 D141 => (lN (OO kT3 3 A141 D141 (guess133 ++ ([r137] : List Int)) :: _ :: _ :: _ :: _ :: _ :: _ :: _ :: _ :: _ :: W1) ?_))
 refine lS R (l_nil (q_blockn (q_next (c_region (lO (vAd R R) (lI R (l_nil ?_)))))))
 obtain rfl := so hr
 exact qA (A141, (guess133 ++ ([r137] : List Int)).length, D141) (fun w s => (s.e 10 [4, 5, 6, 7, 3, 1, 2, 8, 9, 0]))
 refine c_false R hb136 (c_exit (q_exit ?_))
 obtain rfl := so hr
 obtain rfl := he2 _ R
 have hr := hk2
 refine q_exit (q_block ?_)
 exact qI (guess133, (A134, guess133.length, D134)) hr (fun w s => s)
 rintro ⟨guess145, ⟨A146, N146, D146⟩⟩ σ1 hr
 replace hr : Z5_J3 prompt6 n8 r31 all116 passes118 guess145 = some out1 := hr
 unfold Z5_J3 at hr
 refine c_len 9 sees_ow (fun (hn : N146 = guess145.length) => ?_)
 subst hn
 refine c_seq (c_region (lB R (l_nil (q_next (c_seq (c_cut (A := ((List Int) × Bool) × (HH)) (fun a => Z5_J4 prompt6 n8 r31 passes118 a.1.1 a.1.2 = some out1) (fun a => [(4, (iv n8)), (6, (iv ahead10)), (10, (pt b14 0)), (16, (pt b35 0)), (17, (pt b40 0)), (18, (pt b44 0)), (19, (.func (.func 34) [].toArray [(pt b44 0), (pt b14 0)].toArray)), (20, (iv (w64 (passes118 + (1 : Int))))), (22, (.bool a.1.2))]) (fun a => bxl b14 [(sc A7 prompt6 D7)] 29 :: bxl b35 [(sc A33 r31.rows D33), (iv r31.choice.Power), (iv r31.choice.Cut), (iv r31.choice.Mass), (sc A34 r31.states D34)] 79 :: OO (kT33).share 33 A33 D33 r31.rows :: OO kT3 3 A34 D34 r31.states :: bxl b40 [(sc A38 r36.rows D38), (iv r36.choice.Power), (iv r36.choice.Cut), (iv r36.choice.Mass), (sc A39 r36.states D39)] 79 :: OO (kT33).share 33 A38 D38 r36.rows :: OO kT3 3 A39 D39 r36.states :: bxl b44 [(.slice a.2.1 a.2.2.1 a.2.2.2)] 29 :: ow kT3 3 (.slice a.2.1 a.2.2.1 a.2.2.2) a.1.1 :: W1) ?_ ?_))))))
 refine c_block ?_
 obtain ⟨e3, hl3, hk3⟩ := bd hr
 refine c_loop (A := HH) hl3 (fun s a => [(4, (iv n8)), (6, (iv ahead10)), (10, (pt b14 0)), (16, (pt b35 0)), (17, (pt b40 0)), (18, (pt b44 0)), (19, (.func (.func 34) [].toArray [(pt b44 0), (pt b14 0)].toArray)), (20, (iv (w64 (passes118 + (1 : Int))))), (21, (sc A146 guess145 D146)), (22, (.bool s.2))]) (fun s a => bxl b14 [(sc A7 prompt6 D7)] 29 :: bxl b35 [(sc A33 r31.rows D33), (iv r31.choice.Power), (iv r31.choice.Cut), (iv r31.choice.Mass), (sc A34 r31.states D34)] 79 :: OO (kT33).share 33 A33 D33 r31.rows :: OO kT3 3 A34 D34 r31.states :: bxl b40 [(sc A38 r36.rows D38), (iv r36.choice.Power), (iv r36.choice.Cut), (iv r36.choice.Mass), (sc A39 r36.states D39)] 79 :: OO (kT33).share 33 A38 D38 r36.rows :: OO kT3 3 A39 D39 r36.states :: bxl b44 [(.slice a.1 a.2.1 a.2.2)] 29 :: ow kT3 3 (.slice a.1 a.2.1 a.2.2) s.1 :: OO kT3 3 A146 D146 guess145 :: W1) (A117, all116.length, D117) (aS R) (fun w s => s) ?_
 rintro ⟨all158, agreed160⟩ ⟨A159, N159, D159⟩ σ1 out3 hr he3
 replace hr : Z5_L3 prompt6 r31 guess145 all158 agreed160 = some out3 := hr
 unfold Z5_L3 at hr
 refine c_len 8 sees_ow (fun (hn : N159 = all158.length) => ?_)
 subst hn
 refine c_seq (c_seq (cQ [(4, (iv n8)), (6, (iv ahead10)), (10, (pt b14 0)), (16, (pt b35 0)), (17, (pt b40 0)), (18, (pt b44 0)), (19, (.func (.func 34) [].toArray [(pt b44 0), (pt b14 0)].toArray)), (20, (iv (w64 (passes118 + (1 : Int))))), (21, (sc A146 guess145 D146)), (22, (.bool agreed160)), (104, (.bool (agreed160 && (decide ((all158.length : Int) < (guess145.length : Int))))))] (bxl b14 [(sc A7 prompt6 D7)] 29 :: bxl b35 [(sc A33 r31.rows D33), (iv r31.choice.Power), (iv r31.choice.Cut), (iv r31.choice.Mass), (sc A34 r31.states D34)] 79 :: OO (kT33).share 33 A33 D33 r31.rows :: OO kT3 3 A34 D34 r31.states :: bxl b40 [(sc A38 r36.rows D38), (iv r36.choice.Power), (iv r36.choice.Cut), (iv r36.choice.Mass), (sc A39 r36.states D39)] 79 :: OO (kT33).share 33 A38 D38 r36.rows :: OO kT3 3 A39 D39 r36.states :: bxl b44 [(sc A159 all158 D159)] 29 :: OO kT3 3 A159 D159 all158 :: OO kT3 3 A146 D146 guess145 :: W1) ?_ ?_))
 refine c_region (lB R (lB R ?_))
 rcases bo agreed160 with hc161 | hc161
 refine lW (wnT hc161) (vLd 7 ag29 R R R) (lW (wnT hc161) (v_len sl29 R) (lW (wnT hc161) (vS R) (lW (wnT hc161) (v_len sl29 R) (lW (wnT hc161) (vLt R R) (lO (pAT R hc161 R) (l_nil ?_))))))
 exact qJ (fun w s => s)
 refine lf (wfF hc161) (lf (wfF hc161) (lf (wfF hc161) (lf (wfF hc161) (lf (wfF hc161) (lO (pAF (decide ((all158.length : Int) < (guess145.length : Int))) R hc161) (l_nil ?_))))))
 exact qJ (fun w s => s)
 rintro σ1
 refine q_next ?_
 rcases bif_ hr with ⟨hb162, hr⟩ | ⟨hb162, hr⟩
 refine c_true R hb162 (c_skip (q_next (c_block (c_seq ?_))))
 obtain ⟨r163, hx164, hr⟩ := bd hr
 obtain ⟨r165, hx166, hr⟩ := bd hr
 refine cdr 6 [] mixo (fun ht hn => (dR 0 R (vP R) (dR 1 R (vLd 7 ag29 R R R) (dR 2 R (vp (.func (.func 34) [].toArray [(pt b44 0), (pt b14 0)].toArray) R) (d1 3 R (lM (OO kT3 3 A159 D159 all158 :: bxl b44 [(sc A159 all158 D159)] 29 :: RR kT3 A7 D7 prompt6 :: bxl _ _ _ :: bxl _ _ _ :: ow _ _ _ _ :: ow _ _ _ _ :: bxl _ _ _ :: ow _ _ _ _ :: ow _ _ _ _ :: OO kT3 3 A146 D146 guess145 :: W1) (fun w s => ((s.d 15 R).f 11 [9, 1, 8, 1, 0, 8, 10, 1])) ?_))))))
 refine l_callvn (fs := []) (cs := [(pt b44 0), (pt b14 0)]) 4 R R cb34 R R (FnOk.lends (A' := [OO kT3 3 A159 D159 all158]) (A := [RR kT3 A159 D159 all158]) (B := [bxl b44 [(sc A159 all158 D159)] 29, RR kT3 A7 D7 prompt6, bxl b14 [(sc A7 prompt6 D7)] 29]) (Z0m_ok hx164) ⟨lend_ow, trivial⟩ (fun _ => ⟨closed_bx, closed_bx, trivial⟩)) R ?_
 rintro _
 refine lN (_ :: _ :: _ :: _ :: _ :: _ :: _ :: _ :: _ :: _ :: W1) ?_
 refine l_nil (q_draw (fun w s => (s.f 10 [2, 7, 1, 1, 0, 1, 9, 1])) (d1 4 R (lM (ow _ _ _ _ :: ow _ _ _ _ :: ow _ _ _ _ :: bxl _ _ _ :: bxl _ _ _ :: bxl _ _ _ :: bxl _ _ _ :: ow _ _ _ _ :: ow _ _ _ _ :: ow _ _ _ _ :: W1) (fun w s => (s.e 10 [4, 5, 0, 3, 1, 2, 6, 7, 8, 9])) ?_)))
 refine lC 4 cb35 R (FnOk.lends (A' := [OO (kT33).share 33 A33 D33 r31.rows, OO kT3 3 A34 D34 r31.states, OO kT3 3 A159 D159 all158]) (A := [RR kT33 A33 D33 r31.rows, RR kT3 A34 D34 r31.states, RR kT3 A159 D159 all158]) (B := [bxl b35 [(sc A33 r31.rows D33), (iv r31.choice.Power), (iv r31.choice.Cut), (iv r31.choice.Mass), (sc A34 r31.states D34)] 79]) (FnOk.perm (Ze_ok hx166) (Pre' := [RR kT33 A33 D33 r31.rows, RR kT3 A34 D34 r31.states, RR kT3 A159 D159 all158, bxl b35 [(sc A33 r31.rows D33), (iv r31.choice.Power), (iv r31.choice.Cut), (iv r31.choice.Mass), (sc A34 r31.states D34)] 79]) (fun _ _ _ s => (s.e 4 [0, 1, 3, 2]))) ⟨lend_sh, lend_ow, lend_ow, trivial⟩ (fun _ => ⟨closed_bx, trivial⟩)) R ?_
 rintro _
 refine l_nil (q_draw (fun w s => (s.e 10 [5, 3, 0, 1, 6, 7, 8, 4, 2, 9])) (dR 5 R (vI R) (hS := (fun w s => (s.e 10 [5, 3, 0, 1, 6, 7, 8, 4, 2, 9]))) (dD (q_next (c_seq ?_)))))
 obtain ⟨hg167, hr⟩ := gd hr
 refine c_region (lI R (lS R (lO (vLd 4 ag29 R R R) (lO (v_len sl29 R) (t_some 9 sees_ow (show 0 < guess145.length by have := hg167; omega) (fun g168 o169 ha => ?_))))))
 subst ha
 refine lO (vIa sl29 sz3 R R hg167) (lO (vLi 9 ag3 sees_ow R hg167) (lO (vEq R R) (lB R (l_nil (q_next ?_)))))
 obtain ⟨hg171, hr⟩ := gd hr
 refine c_region (lO (vLd 4 ag29 R R R) (lI R (l_build (K := kT3) (xs := ([r165] : List Int)) (vs := [(iv r165)]) 0 R R sl29 sz3 zc3 R R R R R R ?_ R (fun A170 D170 => ?_))))
 exact fun I h s => (mO3).list [((), r165)] I h s
 refine lN (OO kT3 3 A170 D170 ([r165] : List Int) :: _ :: _ :: _ :: _ :: _ :: _ :: _ :: _ :: _ :: OO kT3 3 (ad g168 o169) D146 guess145 :: W1) ?_
 refine lM (ow _ _ _ _ :: ow _ _ _ _ :: ow _ _ _ _ :: ow _ _ _ _ :: bxl _ _ _ :: bxl _ _ _ :: bxl _ _ _ :: bxl _ _ _ :: ow _ _ _ _ :: ow _ _ _ _ :: ow _ _ _ _ :: W1) (fun w s => (s.f 11 [3, 1, 0, 3, 4, 7])) ?_
 refine l_app (K := kT3) 17592186044416 R R sl29 sz3 by3 (Zr.zk zT3 zc3) R R R R R R src_ow hg171 (fun A172 D172 => (lN (OO kT3 3 A172 D172 (all158 ++ ([r165] : List Int)) :: _ :: _ :: _ :: _ :: _ :: _ :: _ :: _ :: _ :: W1) ?_))
 refine l_store 4 R R sz29 R R R R R (lN (_ :: _ :: _ :: _ :: bxl b44 [(sc A172 (all158 ++ ([r165] : List Int)) D172)] 29 :: _ :: _ :: _ :: _ :: _ :: W1) ?_)
 refine l_nil (q_blockn ?_)
 obtain rfl := so hr
 exact qA (A172, (all158 ++ ([r165] : List Int)).length, D172) (fun w s => (s.e 10 [5, 3, 1, 2, 6, 7, 8, 4, 0, 9]))
 refine c_false R hb162 (c_exit (q_exit ?_))
 obtain rfl := so hr
 obtain rfl := he3 _ R
 have hr := hk3
 refine q_exit (q_block ?_)
 exact qI ((all158, agreed160), (A159, all158.length, D159)) hr (fun w s => (s.f 10 [0, 9]))
 rintro ⟨⟨all176, agreed178⟩, ⟨A177, N177, D177⟩⟩ σ1 hr
 replace hr : Z5_J4 prompt6 n8 r31 passes118 all176 agreed178 = some out1 := hr
 unfold Z5_J4 at hr
 refine c_len 8 sees_ow (fun (hn : N177 = all176.length) => ?_)
 subst hn
 refine c_seq ?_
 obtain ⟨r179, hx180, hr⟩ := bd hr
 refine cQ [(4, (iv n8)), (6, (iv ahead10)), (10, (pt b14 0)), (16, (pt b35 0)), (17, (pt b40 0)), (18, (pt b44 0)), (19, (.func (.func 34) [].toArray [(pt b44 0), (pt b14 0)].toArray)), (20, (iv (w64 (passes118 + (1 : Int))))), (127, (.bool (agreed178 && (decide (r179 < n8)))))] (bxl b14 [(sc A7 prompt6 D7)] 29 :: bxl b35 [(sc A33 r31.rows D33), (iv r31.choice.Power), (iv r31.choice.Cut), (iv r31.choice.Mass), (sc A34 r31.states D34)] 79 :: OO (kT33).share 33 A33 D33 r31.rows :: OO kT3 3 A34 D34 r31.states :: bxl b40 [(sc A38 r36.rows D38), (iv r36.choice.Power), (iv r36.choice.Cut), (iv r36.choice.Mass), (sc A39 r36.states D39)] 79 :: OO (kT33).share 33 A38 D38 r36.rows :: OO kT3 3 A39 D39 r36.states :: bxl b44 [(sc A177 all176 D177)] 29 :: OO kT3 3 A177 D177 all176 :: W1) ?_ ?_
 refine c_region (lB R (lB R ?_))
 rcases bo agreed178 with hc181 | hc181
 refine lW (wnT hc181) (vp (.func (.func 34) [].toArray [(pt b44 0), (pt b14 0)].toArray) R) (lM (OO kT3 3 A177 D177 all176 :: bxl b44 [(sc A177 all176 D177)] 29 :: RR kT3 A7 D7 prompt6 :: bxl _ _ _ :: bxl _ _ _ :: ow _ _ _ _ :: ow _ _ _ _ :: bxl _ _ _ :: ow _ _ _ _ :: ow _ _ _ _ :: W1) (fun w s => ((s.d 14 R).f 10 [9, 1, 8, 1, 0, 8])) ?_)
 refine l_callvn (fs := []) (cs := [(pt b44 0), (pt b14 0)]) 4 R (wnT hc181) cb34 R R (FnOk.lends (A' := [OO kT3 3 A177 D177 all176]) (A := [RR kT3 A177 D177 all176]) (B := [bxl b44 [(sc A177 all176 D177)] 29, RR kT3 A7 D7 prompt6, bxl b14 [(sc A7 prompt6 D7)] 29]) (Z0m_ok (gcall_t hx180 hc181)) ⟨lend_ow, trivial⟩ (fun _ => ⟨closed_bx, closed_bx, trivial⟩)) R ?_
 rintro _
 refine lN (_ :: _ :: _ :: _ :: _ :: _ :: _ :: _ :: _ :: W1) ?_
 refine lW (wnT hc181) (vI R) (lW (wnT hc181) (vLt R R) (lO (pAT R hc181 R) (l_nil ?_)))
 exact qJ (fun w s => (s.f 9 [2, 7, 1, 1, 0, 1]))
 refine lf (wfF hc181) (lf (wfF hc181) (lf (wfF hc181) (lf (wfF hc181) (lO (pAF (decide (r179 < n8)) R hc181) (l_nil ?_)))))
 exact qJ (fun w s => s)
 rintro σ1
 refine q_next ?_
 rcases bif_ hr with ⟨hb182, hr⟩ | ⟨hb182, hr⟩
 refine c_true R hb182 ?_
 obtain ⟨r183, hx184, hr⟩ := bd hr
 obtain ⟨r185, hx186, hr⟩ := bd hr
 obtain ⟨hg188, hr⟩ := gd hr
 refine cdr 7 [] mixo (fun ht hn => (dR 0 R (vLd 7 ag29 R R R) (dR 1 R (vP R) (dR 2 R (vLd 7 ag29 R R R) (dR 3 R (vp (.func (.func 34) [].toArray [(pt b44 0), (pt b14 0)].toArray) R) (d1 4 R (lM (ow _ _ _ _ :: bxl _ _ _ :: RR kT3 A7 D7 prompt6 :: bxl _ _ _ :: bxl _ _ _ :: ow _ _ _ _ :: ow _ _ _ _ :: bxl _ _ _ :: ow _ _ _ _ :: ow _ _ _ _ :: W1) (fun w s => ((s.d 14 R).f 10 [9, 1, 8, 1, 0, 8])) ?_)))))))
 refine l_callvn (fs := []) (cs := [(pt b44 0), (pt b14 0)]) 4 R R cb34 R R (FnOk.lends (A' := [OO kT3 3 A177 D177 all176]) (A := [RR kT3 A177 D177 all176]) (B := [bxl b44 [(sc A177 all176 D177)] 29, RR kT3 A7 D7 prompt6, bxl b14 [(sc A7 prompt6 D7)] 29]) (Z0m_ok hx184) ⟨lend_ow, trivial⟩ (fun _ => ⟨closed_bx, closed_bx, trivial⟩)) R ?_
 rintro _
 refine lN (_ :: _ :: _ :: _ :: _ :: _ :: _ :: _ :: _ :: W1) ?_
 refine l_nil (q_draw (fun w s => (s.f 9 [2, 7, 1, 1, 0, 1])) (d1 5 R (lM (ow _ _ _ _ :: ow _ _ _ _ :: ow _ _ _ _ :: bxl _ _ _ :: bxl _ _ _ :: bxl _ _ _ :: bxl _ _ _ :: ow _ _ _ _ :: ow _ _ _ _ :: W1) (fun w s => (s.e 9 [4, 5, 0, 3, 1, 2, 6, 7, 8])) ?_)))
 refine lC 4 cb35 R (FnOk.lends (A' := [OO (kT33).share 33 A33 D33 r31.rows, OO kT3 3 A34 D34 r31.states, OO kT3 3 A177 D177 all176]) (A := [RR kT33 A33 D33 r31.rows, RR kT3 A34 D34 r31.states, RR kT3 A177 D177 all176]) (B := [bxl b35 [(sc A33 r31.rows D33), (iv r31.choice.Power), (iv r31.choice.Cut), (iv r31.choice.Mass), (sc A34 r31.states D34)] 79]) (FnOk.perm (Ze_ok hx186) (Pre' := [RR kT33 A33 D33 r31.rows, RR kT3 A34 D34 r31.states, RR kT3 A177 D177 all176, bxl b35 [(sc A33 r31.rows D33), (iv r31.choice.Power), (iv r31.choice.Cut), (iv r31.choice.Mass), (sc A34 r31.states D34)] 79]) (fun _ _ _ s => (s.e 4 [0, 1, 3, 2]))) ⟨lend_sh, lend_ow, lend_ow, trivial⟩ (fun _ => ⟨closed_bx, trivial⟩)) R ?_
 rintro _
 refine l_nil (q_draw (fun w s => (s.e 9 [5, 3, 0, 1, 6, 7, 8, 4, 2])) (d1 6 R (l_build (K := kT3) (xs := ([r185] : List Int)) (vs := [(iv r185)]) 0 R R sl29 sz3 zc3 R R R R R R ?_ R (fun A187 D187 => ?_))))
 exact fun I h s => (mO3).list [((), r185)] I h s
 refine lN (OO kT3 3 A187 D187 ([r185] : List Int) :: _ :: _ :: _ :: _ :: _ :: _ :: _ :: _ :: _ :: W1) ?_
 refine l_nil (q_draw (fun w s => (s.e 10 [6, 4, 1, 2, 7, 8, 9, 5, 3])) (d1 7 R (lM (ow _ _ _ _ :: ow _ _ _ _ :: ow _ _ _ _ :: ow _ _ _ _ :: bxl _ _ _ :: bxl _ _ _ :: bxl _ _ _ :: bxl _ _ _ :: ow _ _ _ _ :: ow _ _ _ _ :: W1) (fun w s => (s.f 10 [3, 1, 0, 3, 4, 6])) ?_)))
 refine l_app (K := kT3) 17592186044416 R R sl29 sz3 by3 (Zr.zk zT3 zc3) R R R R R R src_ow hg188 (fun A189 D189 => (lN (OO kT3 3 A189 D189 (all176 ++ ([r185] : List Int)) :: _ :: _ :: _ :: _ :: _ :: _ :: _ :: _ :: W1) ?_))
 refine l_nil (qE (d1 8 R (l_store 4 R R sz29 R R R R R (lN (_ :: _ :: _ :: _ :: bxl b44 [(sc A189 (all176 ++ ([r185] : List Int)) D189)] 29 :: _ :: _ :: _ :: _ :: W1) ?_))))
 refine l_nil (qE (dD (q_blockn ?_)))
 obtain rfl := so hr
 exact qA (A189, (all176 ++ ([r185] : List Int)).length, D189) (fun w s => (s.e 9 [5, 3, 1, 2, 6, 7, 8, 4, 0]))
 refine c_false R hb182 (c_skip (q_blockn ?_))
 obtain rfl := so hr
 exact qA (A177, all176.length, D177) (fun w s => s)
 refine c_false R hb121 (c_exit (q_exit ?_))
 obtain rfl := so hr
 obtain rfl := he1 _ R
 have hr := hk1
 refine q_exit (q_block ?_)
 exact qI ((all116, passes118), (A117, all116.length, D117)) hr (fun w s => (s.e 9 [2, 1, 0]))
 rintro ⟨⟨all193, passes195⟩, ⟨A194, N194, D194⟩⟩ σ1 hr
 replace hr : Z5_J5 prompt6 all193 passes195 = some r := hr
 unfold Z5_J5 at hr
 refine c_len 2 sees_ow (fun (hn : N194 = all193.length) => ?_)
 subst hn
 refine c_seq ?_
 obtain ⟨hg196, hr⟩ := gd hr
 obtain ⟨r198, hx199, hr⟩ := bd hr
 refine c_region (lO (vLd 1 ag29 R R R) (lO (vLd 0 ag29 R R R) (lO (v_len sl29 R) (l_st (fun w s => s.shr 2 R) (l_cut (K := kT3) (prompt6.length : Int) (all193.length : Int) 0 R R sl29 sz3 R R R R hg196.1 hg196.2.1 hg196.2.2 (fun A197 D197 => (lM (RR kT3 A197 D197 (sub all193 (prompt6.length : Int) (all193.length : Int)) :: RR kT3 A197 D197 (sub all193 (prompt6.length : Int) (all193.length : Int)) :: RR kT3 A194 D194 all193 :: _ :: bxl b44 [(sc A194 all193 D194)] 29 :: W1) (fun w s => (s.d 0 R)) ?_)))))))
 refine lC 1 cb33 R (Z0h_ok hx199) R ?_
 rintro ⟨A200, N200, D200⟩
 refine lN (ow kT3 3 (.slice A200 N200 D200) r198 :: _ :: _ :: _ :: _ :: W1) ?_
 refine l_len 0 sees_ow ?_
 rintro rfl
 refine lI R (lS R (lI R (l_nil (q_next (c_ret ?_)))))
 obtain rfl := so hr
 exact q_fin (vs := [(sc A200 r198 D200), (iv passes195)]) (.inl R) (A200, r198.length, D200) R ⟨R, R, trivial⟩ R (fun w s => (s.e 11 [0]))
theorem Z04_ok  {m1 : Lm} {c3 : Choice} {prompt4 : (List Int)} {n6 : Int} {seed7 : Int} {r : (List Int)} (hr : Z04 m1 c3 prompt4 n6 seed7 = some r) :
 FnOk Try.prog 8 [(.agg [(iv m1.Size), (.slice A2 N2 D2)].toArray), (.agg [(iv c3.Power), (iv c3.Cut), (iv c3.Mass)].toArray), (.slice A5 N5 D5), (iv n6), (iv seed7)] [rds kT33 (.slice A2 N2 D2) m1.Rows, rds kT3 (.slice A5 N5 D5) prompt4] (fun (h : HH) => ((.slice h.1 h.2.1 h.2.2), [ow kT3 3 (.slice h.1 h.2.1 h.2.2) r])) := by
 unfold Z04 at hr
 refine fn_ok Try.func8 R 53 R R fun C V => ?_
 refine cN (_ :: _ :: V) ?_
 refine cL 0 sees_rd ?_
 rintro rfl
 refine cL 1 sees_rd ?_
 rintro rfl
 let W0 : List HP := RR kT33 A2 D2 m1.Rows :: RR kT3 A5 D5 prompt4 :: V
 refine cN W0 ?_
 refine c_seq (c_region (lBx R (fun b8 => (lBx R (fun b9 => (lS R (l_nil ?_)))))))
 let W1 : List HP := bxl b9 [(iv c3.Power), (iv c3.Cut), (iv c3.Mass)] 28 :: bxl b8 [(iv m1.Size), (sc A2 m1.Rows D2)] 26 :: W0
 refine qN W1 ?_
 refine q_next (c_seq (c_seq ?_))
 obtain ⟨r10, hx11, hr⟩ := bd hr
 obtain ⟨r12, hx13, hr⟩ := bd hr
 obtain ⟨r14, hx15, hr⟩ := bd hr
 refine cQ [(2, (sc A5 prompt4 D5)), (3, (iv n6)), (4, (iv seed7)), (5, (pt b8 0)), (6, (pt b9 0)), (28, (.bool (((!r10) || (!r12)) || (!r14))))] (W1) ?_ ?_
 refine c_region (lO (vz (.agg [(iv m1.Size), (sc A2 m1.Rows D2)].toArray) (v_loadw 1 ag26 sz26 R R R R)) (lS R (lI R (lM (RR kT33 A2 D2 m1.Rows :: RR kT3 A5 D5 prompt4 :: W1) (fun w s => (((s.d 2 R).d 4 R).e 2 [1, 0])) ?_))))
 refine lC 2 cb27 R (Z0z_ok hx11) R ?_
 rintro _
 refine lN W1 ?_
 refine lO (vNo R) (lB R ?_)
 rcases bo (!r10) with hc16 | hc16
 refine lf (wfT hc16) (lf (wfT hc16) (lf (wfT hc16) (lO (pOT (!r12) R hc16) (lB R (lf (wfT (oT hc16)) (lf (wfT (oT hc16)) (lf (wfT (oT hc16)) (lO (pOT (!r14) R (oT hc16)) (l_nil ?_)))))))))
 exact qJ (fun w s => s)
 refine lW (wnF hc16) (vz (.agg [(iv c3.Power), (iv c3.Cut), (iv c3.Mass)].toArray) (v_loadw 0 ag28 sz28 R R R R)) (l_calln 0 R (wnF hc16) cb28 R (Z15_ok (gcall_t hx13 (not_ff hc16))) R ?_)
 rintro _
 refine lW (wnF hc16) (vNo R) (lO (pOF R hc16 R) (lB R ?_))
 rcases bo ((!r10) || (!r12)) with hc17 | hc17
 refine lf (wfT hc17) (lf (wfT hc17) (lf (wfT hc17) (lO (pOT (!r14) R hc17) (l_nil ?_))))
 exact qJ (fun w s => s)
 refine lW (wnF hc17) (vI R) (l_calln 0 R (wnF hc17) cb29 R (Z0i_ok (gcall_t hx15 (not_ff hc17))) R ?_)
 rintro _
 refine lW (wnF hc17) (vNo R) (lO (pOF R hc17 R) (l_nil ?_))
 exact qJ (fun w s => s)
 rintro σ1
 refine q_next ?_
 rcases bif_ hr with ⟨hb18, hr⟩ | ⟨hb18, hr⟩
 refine c_true R hb18 (c_seq (c_region (lS R (l_nil (q_next (c_ret (q_ret ?_)))))))
 obtain rfl := so hr
 exact qF (none, 0, 0) (fun w s => ((s.nilo kT3 3).e 5 [0]))
 refine c_false R hb18 (c_skip (q_next (c_seq ?_)))
 obtain ⟨r19, hx20, hr⟩ := bd hr
 refine c_region (lO (vz (.agg [(iv m1.Size), (sc A2 m1.Rows D2)].toArray) (v_loadw 1 ag26 sz26 R R R R)) (lO (vz (.agg [(iv c3.Power), (iv c3.Cut), (iv c3.Mass)].toArray) (v_loadw 0 ag28 sz28 R R R R)) (lI R (lI R (lM (RR kT33 A2 D2 m1.Rows :: W1) (fun w s => (s.d 2 R)) ?_)))))
 refine lC 1 cb32 R (Zs_ok hx20) R ?_
 rintro ⟨⟨A21, N21, D21⟩, ⟨A22, N22, D22⟩, b23⟩
 refine lN (ow (kT33).share 33 (.slice A21 N21 D21) r19.rows :: ow kT3 3 (.slice A22 N22 D22) r19.states :: bxl b23 [(.slice A21 N21 D21), (iv r19.choice.Power), (iv r19.choice.Cut), (iv r19.choice.Mass), (.slice A22 N22 D22)] 79 :: W1) ?_
 refine l_len 0 sees_sh ?_
 rintro rfl
 refine l_len 1 sees_ow ?_
 rintro rfl
 refine lP R (l_nil (q_next (c_seq ?_)))
 obtain ⟨r24, hx25, hr⟩ := bd hr
 refine c_region (lS R (lM (RR kT3 A5 D5 prompt4 :: _ :: _ :: bxl b23 [(sc A21 r19.rows D21), (iv r19.choice.Power), (iv r19.choice.Cut), (iv r19.choice.Mass), (sc A22 r19.states D22)] 79 :: W1) (fun w s => (s.d 6 R)) ?_))
 refine lC 1 cb33 R (Z0h_ok hx25) R ?_
 rintro ⟨A26, N26, D26⟩
 refine lN (ow kT3 3 (.slice A26 N26 D26) r24 :: _ :: _ :: _ :: W1) ?_
 refine l_len 0 sees_ow ?_
 rintro rfl
 refine lS R (l_nil (q_next (c_seq (c_cut (A := ((List Int)) × (HH)) (fun a => Z04_J1 prompt4 a.1 = some r) (fun a => [(2, (sc A5 prompt4 D5)), (12, (.slice a.2.1 a.2.2.1 a.2.2.2))]) (fun a => ow kT3 3 (.slice a.2.1 a.2.2.1 a.2.2.2) a.1 :: W1) ?_ ?_))))
 refine c_seq (c_region (lI R (lI R (l_nil (q_next (c_block ?_))))))
 obtain ⟨e1, hl1, hk1⟩ := bd hr
 refine c_loop (A := HH) hl1 (fun s a => [(2, (sc A5 prompt4 D5)), (11, (pt b23 0)), (12, (.slice a.1 a.2.1 a.2.2)), (36, (iv n6)), (37, (iv s.2))]) (fun s a => bxl b23 [(sc A21 r19.rows D21), (iv r19.choice.Power), (iv r19.choice.Cut), (iv r19.choice.Mass), (sc A22 r19.states D22)] 79 :: OO (kT33).share 33 A21 D21 r19.rows :: OO kT3 3 A22 D22 r19.states :: ow kT3 3 (.slice a.1 a.2.1 a.2.2) s.1 :: W1) (A26, r24.length, D26) (aS R) (fun w s => (s.e 4 [3, 1, 2, 0])) ?_
 rintro ⟨all33, x35⟩ ⟨A34, N34, D34⟩ σ1 out1 hr he1
 replace hr : Z04_L1 n6 r19 all33 x35 = some out1 := hr
 unfold Z04_L1 at hr
 refine c_len 3 sees_ow (fun (hn : N34 = all33.length) => ?_)
 subst hn
 refine c_seq (c_region (lO (vLt R R) (l_nil (q_next (c_seq ?_)))))
 rcases bif_ hr with ⟨hb36, hr⟩ | ⟨hb36, hr⟩
 refine c_true R hb36 (c_skip (q_next (c_seq (c_block (c_seq (c_region (lI R (lI R (l_nil (q_next ?_))))))))))
 obtain ⟨r37, hx38, hr⟩ := bd hr
 obtain ⟨hg40, hr⟩ := gd hr
 refine c_region (lS R (lP R (lS R (lI R (lM (ow _ _ _ _ :: ow _ _ _ _ :: OO kT3 3 A34 D34 all33 :: bxl _ _ _ :: W1) (fun w s => (s.e 4 [1, 2, 3, 0])) ?_)))))
 refine lC 4 cb35 R (FnOk.lends (A' := [OO (kT33).share 33 A21 D21 r19.rows, OO kT3 3 A22 D22 r19.states, OO kT3 3 A34 D34 all33]) (A := [RR kT33 A21 D21 r19.rows, RR kT3 A22 D22 r19.states, RR kT3 A34 D34 all33]) (B := [bxl b23 [(sc A21 r19.rows D21), (iv r19.choice.Power), (iv r19.choice.Cut), (iv r19.choice.Mass), (sc A22 r19.states D22)] 79]) (FnOk.perm (Ze_ok hx38) (Pre' := [RR kT33 A21 D21 r19.rows, RR kT3 A22 D22 r19.states, RR kT3 A34 D34 all33, bxl b23 [(sc A21 r19.rows D21), (iv r19.choice.Power), (iv r19.choice.Cut), (iv r19.choice.Mass), (sc A22 r19.states D22)] 79]) (fun _ _ _ s => (s.e 4 [0, 1, 3, 2]))) ⟨lend_sh, lend_ow, lend_ow, trivial⟩ (fun _ => ⟨closed_bx, trivial⟩)) R ?_
 rintro _
 refine l_build (K := kT3) (xs := ([r37] : List Int)) (vs := [(iv r37)]) 0 R R sl29 sz3 zc3 R R R R R R ?_ R (fun A39 D39 => ?_)
 exact fun I h s => (mO3).list [((), r37)] I h s
 refine lN (OO kT3 3 A39 D39 ([r37] : List Int) :: _ :: _ :: _ :: _ :: W1) ?_
 refine lM (ow _ _ _ _ :: ow _ _ _ _ :: ow _ _ _ _ :: ow _ _ _ _ :: bxl _ _ _ :: W1) (fun w s => (s.e 5 [3, 0, 1, 2, 4])) ?_
 refine l_app (K := kT3) 17592186044416 R R sl29 sz3 by3 (Zr.zk zT3 zc3) R R R R R R src_ow hg40 (fun A41 D41 => (lN (OO kT3 3 A41 D41 (all33 ++ ([r37] : List Int)) :: _ :: _ :: _ :: W1) ?_))
 refine lS R (l_nil (q_blockn (q_next (c_region (lO (vAd R R) (lI R (l_nil ?_)))))))
 obtain rfl := so hr
 exact qA (A41, (all33 ++ ([r37] : List Int)).length, D41) (fun w s => (s.e 4 [3, 1, 2, 0]))
 refine c_false R hb36 (c_exit (q_exit ?_))
 obtain rfl := so hr
 obtain rfl := he1 _ R
 have hr := hk1
 refine q_exit (q_block ?_)
 exact qI (all33, (A34, all33.length, D34)) hr (fun w s => (s.e 4 [3]))
 rintro ⟨all45, ⟨A46, N46, D46⟩⟩ σ1 hr
 replace hr : Z04_J1 prompt4 all45 = some r := hr
 unfold Z04_J1 at hr
 refine c_len 0 sees_ow (fun (hn : N46 = all45.length) => ?_)
 subst hn
 refine c_seq ?_
 obtain ⟨hg47, hr⟩ := gd hr
 obtain ⟨r49, hx50, hr⟩ := bd hr
 refine c_region (lS R (lS R (lO (v_len sl29 R) (l_st (fun w s => s.shr 0 R) (l_cut (K := kT3) (prompt4.length : Int) (all45.length : Int) 0 R R sl29 sz3 R R R R hg47.1 hg47.2.1 hg47.2.2 (fun A48 D48 => (lM (RR kT3 A48 D48 (sub all45 (prompt4.length : Int) (all45.length : Int)) :: RR kT3 A48 D48 (sub all45 (prompt4.length : Int) (all45.length : Int)) :: RR kT3 A46 D46 all45 :: W1) (fun w s => (s.d 0 R)) ?_)))))))
 refine lC 1 cb33 R (Z0h_ok hx50) R ?_
 rintro ⟨A51, N51, D51⟩
 refine lN (ow kT3 3 (.slice A51 N51 D51) r49 :: _ :: _ :: W1) ?_
 refine l_len 0 sees_ow ?_
 rintro rfl
 refine lS R (l_nil (q_next (c_ret ?_)))
 obtain rfl := so hr
 exact qF (A51, r49.length, D51) (fun w s => (s.e 7 [0]))
theorem Zf_ok  {p1 : Int} {low2 : Int} {high3 : Int} {r : Bool} (hr : Zf p1 low2 high3 = some r) :
 FnOk Try.prog 40 [(iv p1), (iv low2), (iv high3)] [] (fun (h : Unit) => ((.bool r), [])) := by
 unfold Zf at hr
 refine fn_ok Try.func40 R 15 R R fun C V => ?_
 refine cN V ?_
 refine c_seq (c_region (lB R (l_nil (q_next (c_seq (cQ [(6, (.bool ((decide (p1 ≥ low2)) && (decide (p1 ≤ high3)))))] (V) ?_ ?_))))))
 refine c_region (lI R (lI R (lO (vGe R R) (lB R ?_))))
 rcases bo (decide (p1 ≥ low2)) with hc4 | hc4
 refine lW (wnT hc4) (vI R) (lW (wnT hc4) (vI R) (lW (wnT hc4) (vLe R R) (lO (pAT R hc4 R) (lB R (l_nil ?_)))))
 exact qJ (fun w s => s)
 refine lf (wfF hc4) (lf (wfF hc4) (lf (wfF hc4) (lO (pAF (decide (p1 ≤ high3)) R hc4) (lB R (l_nil ?_)))))
 exact qJ (fun w s => s)
 rintro σ1
 refine q_next (c_ret ?_)
 obtain rfl := so hr
 exact qF () (fun w s => s)
theorem Z08_ok  {list1 : (List Int)} {size3 : Int} {r : Bool} (hr : Z08 list1 size3 = some r) :
 FnOk Try.prog 60 [(.slice A2 N2 D2), (iv size3)] [rds kT3 (.slice A2 N2 D2) list1] (fun (h : Unit) => ((.bool r), [])) := by
 unfold Z08 at hr
 refine fn_ok Try.func60 R 20 R R fun C V => ?_
 refine cN (_ :: V) ?_
 refine cL 0 sees_rd ?_
 rintro rfl
 let W0 : List HP := RR kT3 A2 D2 list1 :: V
 refine cN W0 ?_
 refine c_seq (c_region (lB R (l_nil (q_next (c_seq (c_cut (A := (Unit) × (Unit)) (fun a => Z08_J1 = some r) (fun a => []) (fun a => W0) ?_ ?_))))))
 refine c_seq (c_region (lI R (l_nil (q_next (c_block ?_)))))
 obtain ⟨e1, hl1, hk1⟩ := bd hr
 refine c_loop (A := Unit) hl1 (fun s a => [(0, (sc A2 list1 D2)), (1, (iv size3)), (5, (iv s))]) (fun s a => W0) () (aS R) (fun w s => s) ?_
 rintro i11 _ σ1 out1 hr he1
 replace hr : Z08_L1 list1 size3 i11 = some out1 := hr
 unfold Z08_L1 at hr
 refine c_seq (c_seq (c_region (lI R (lS R (lO (v_len sl29 R) (lO (vLt R R) (l_nil (q_next ?_))))))))
 rcases bif_ hr with ⟨hb12, hr⟩ | ⟨hb12, hr⟩
 refine c_true R hb12 (c_skip (q_next (c_seq (c_block (c_seq ?_)))))
 obtain ⟨hg13, hr⟩ := gd hr
 obtain ⟨r16, hx17, hr⟩ := bd hr
 refine c_region (lS R (lI R (t_some 0 sees_rd (show 0 < list1.length by have := hg13; omega) (fun g14 o15 ha => ?_))))
 subst ha
 refine lO (vIa sl29 sz3 R R hg13) (lO (vLi 0 ag3 sees_rd R hg13) (lI R (lO (vSb R R) (lC 0 cb40 R (Zf_ok hx17) R ?_))))
 rintro _
 refine lO (vNo R) (l_nil (q_next ?_))
 rcases bif_ hr with ⟨hb18, hr⟩ | ⟨hb18, hr⟩
 refine c_true R hb18 (c_seq (c_region (lB R (l_nil (q_next (c_ret (q_blockr (q_ret ?_))))))))
 obtain rfl := so hr
 obtain rfl := he1 _ R
 have hr := hk1
 refine q_ret (q_blockr (q_ret ?_))
 obtain rfl := so hr
 exact qF () (fun w s => (s.e 1 []))
 refine c_false R hb18 (c_skip (q_blockn (q_next (c_region (lI R (lO (vAd R R) (lI R (l_nil ?_))))))))
 obtain rfl := so hr
 exact qA () (fun w s => s)
 refine c_false R hb12 (c_exit (q_exit ?_))
 obtain rfl := so hr
 obtain rfl := he1 _ R
 have hr := hk1
 refine q_exit (q_block ?_)
 exact q_join ((), ()) hr trivial (fun w s => s)
 rintro ⟨_, _⟩ σ1 hr
 replace hr : Z08_J1 = some r := hr
 unfold Z08_J1 at hr
 refine c_seq (c_region (lB R (l_nil (q_next (c_ret ?_)))))
 obtain rfl := so hr
 exact qF () (fun w s => (s.e 1 []))
theorem Zy_ok  {p1 : (List Int)} {r : Int} (hr : Zy p1 = some r) :
 FnOk Try.prog 66 [(.slice A2 N2 D2)] [rds kT3 (.slice A2 N2 D2) p1] (fun (h : Unit) => ((iv r), [])) := by
 unfold Zy at hr
 refine fn_ok Try.func66 R 18 R R fun C V => ?_
 refine cN (_ :: V) ?_
 refine cL 0 sees_rd ?_
 rintro rfl
 let W0 : List HP := RR kT3 A2 D2 p1 :: V
 refine cN W0 ?_
 refine c_seq (c_region (lI R (l_nil (q_next (c_seq (c_region (lI R (l_nil (q_next (c_seq (c_cut (A := (Int) × (Unit)) (fun a => Zy_J1 a.1 = some r) (fun a => [(3, (iv a.1))]) (fun a => W0) ?_ ?_)))))))))))
 refine c_seq (c_region (lI R (l_nil (q_next (c_block ?_)))))
 obtain ⟨e1, hl1, hk1⟩ := bd hr
 refine c_loop (A := Unit) hl1 (fun s a => [(0, (sc A2 p1 D2)), (3, (iv s.1)), (4, (iv s.2))]) (fun s a => W0) () (aS R) (fun w s => s) ?_
 rintro ⟨x7, i8⟩ _ σ1 out1 hr he1
 replace hr : Zy_L1 p1 x7 i8 = some out1 := hr
 unfold Zy_L1 at hr
 refine c_seq (c_seq (c_region (lI R (lS R (lO (v_len sl29 R) (lO (vLt R R) (l_nil (q_next ?_))))))))
 rcases bif_ hr with ⟨hb9, hr⟩ | ⟨hb9, hr⟩
 refine c_true R hb9 (c_skip (q_next (c_seq (c_block ?_))))
 obtain ⟨hg10, hr⟩ := gd hr
 refine c_region (lI R (lS R (lI R (t_some 0 sees_rd (show 0 < p1.length by have := hg10; omega) (fun g11 o12 ha => ?_)))))
 subst ha
 refine lO (vIa sl29 sz3 R R hg10) (lO (vLi 0 ag3 sees_rd R hg10) (lO (vAd R R) (lI R (l_nil (q_blockn (q_next (c_region (lI R (lO (vAd R R) (lI R (l_nil ?_)))))))))))
 obtain rfl := so hr
 exact qA () (fun w s => s)
 refine c_false R hb9 (c_exit (q_exit ?_))
 obtain rfl := so hr
 obtain rfl := he1 _ R
 have hr := hk1
 refine q_exit (q_block ?_)
 exact qI (x7, ()) hr (fun w s => s)
 rintro ⟨x15, _⟩ σ1 hr
 replace hr : Zy_J1 x15 = some r := hr
 unfold Zy_J1 at hr
 refine c_seq (c_region (lI R (lI R (l_nil (q_next (c_ret ?_))))))
 obtain rfl := so hr
 exact qF () (fun w s => (s.e 1 []))
theorem Zz_ok  {p1 : (List Int)} {r : Bool} (hr : Zz p1 = some r) :
 FnOk Try.prog 61 [(.slice A2 N2 D2)] [rds kT3 (.slice A2 N2 D2) p1] (fun (h : Unit) => ((.bool r), [])) := by
 unfold Zz at hr
 refine fn_ok Try.func61 R 19 R R fun C V => ?_
 refine cN (_ :: V) ?_
 refine cL 0 sees_rd ?_
 rintro rfl
 let W0 : List HP := RR kT3 A2 D2 p1 :: V
 refine cN W0 ?_
 refine c_seq (c_region (lB R (l_nil (q_next (c_seq (c_cut (A := (Unit) × (Unit)) (fun a => Zz_J1 p1 = some r) (fun a => [(0, (sc A2 p1 D2))]) (fun a => W0) ?_ ?_))))))
 refine c_seq (c_region (lI R (l_nil (q_next (c_block ?_)))))
 obtain ⟨e1, hl1, hk1⟩ := bd hr
 refine c_loop (A := Unit) hl1 (fun s a => [(0, (sc A2 p1 D2)), (3, (iv s))]) (fun s a => W0) () (aS R) (fun w s => s) ?_
 rintro i10 _ σ1 out1 hr he1
 replace hr : Zz_L1 p1 i10 = some out1 := hr
 unfold Zz_L1 at hr
 refine c_seq (c_seq (c_region (lI R (lS R (lO (v_len sl29 R) (lO (vLt R R) (l_nil (q_next ?_))))))))
 rcases bif_ hr with ⟨hb11, hr⟩ | ⟨hb11, hr⟩
 refine c_true R hb11 (c_skip (q_next (c_seq (c_block (c_seq ?_)))))
 obtain ⟨hg12, hr⟩ := gd hr
 obtain ⟨r15, hx16, hr⟩ := bd hr
 refine c_region (lS R (lI R (t_some 0 sees_rd (show 0 < p1.length by have := hg12; omega) (fun g13 o14 ha => ?_))))
 subst ha
 refine lO (vIa sl29 sz3 R R hg12) (lO (vLi 0 ag3 sees_rd R hg12) (lC 0 cb40 R (Zf_ok hx16) R ?_))
 rintro _
 refine lO (vNo R) (l_nil (q_next ?_))
 rcases bif_ hr with ⟨hb17, hr⟩ | ⟨hb17, hr⟩
 refine c_true R hb17 (c_seq (c_region (lB R (l_nil (q_next (c_ret (q_blockr (q_ret ?_))))))))
 obtain rfl := so hr
 obtain rfl := he1 _ R
 have hr := hk1
 refine q_ret (q_blockr (q_ret ?_))
 obtain rfl := so hr
 exact qF () (fun w s => (s.e 1 []))
 refine c_false R hb17 (c_skip (q_blockn (q_next (c_region (lI R (lO (vAd R R) (lI R (l_nil ?_))))))))
 obtain rfl := so hr
 exact qA () (fun w s => s)
 refine c_false R hb11 (c_exit (q_exit ?_))
 obtain rfl := so hr
 obtain rfl := he1 _ R
 have hr := hk1
 refine q_exit (q_block ?_)
 exact qI ((), ()) hr (fun w s => s)
 rintro ⟨_, _⟩ σ1 hr
 replace hr : Zz_J1 p1 = some r := hr
 unfold Zz_J1 at hr
 refine c_seq ?_
 obtain ⟨r19, hx20, hr⟩ := bd hr
 refine c_region (lS R (lM (RR kT3 A2 D2 p1 :: W0) (fun w s => (s.d 0 R)) ?_))
 refine lC 1 cb66 R (Zy_ok hx20) R ?_
 rintro _
 refine lN W0 ?_
 refine lO (vGt R R) (lB R (l_nil (q_next (c_ret ?_))))
 obtain rfl := so hr
 exact qF () (fun w s => (s.e 1 []))
theorem Zd_ok  {m1 : Lm} {r : Bool} (hr : Zd m1 = some r) :
 FnOk Try.prog 39 [(.agg [(iv m1.Size), (.slice A2 N2 D2)].toArray)] [rds kT33 (.slice A2 N2 D2) m1.Rows] (fun (h : Unit) => ((.bool r), [])) := by
 unfold Zd at hr
 refine fn_ok Try.func39 R 77 R R fun C V => ?_
 refine cN (_ :: V) ?_
 refine cL 0 sees_rd ?_
 rintro rfl
 let W0 : List HP := RR kT33 A2 D2 m1.Rows :: V
 refine cN W0 ?_
 refine c_seq (c_region (lBx R (fun b3 => (lB R (l_nil ?_)))))
 let W1 : List HP := bxl b3 [(iv m1.Size), (sc A2 m1.Rows D2)] 26 :: W0
 refine qN W1 ?_
 refine q_next (c_seq (c_seq ?_))
 obtain ⟨r4, hx5, hr⟩ := bd hr
 refine cQ [(1, (pt b3 0)), (16, (.bool ((!r4) || (decide ((m1.Rows.length : Int) > (500 : Int))))))] (W1) ?_ ?_
 refine c_region (lO (vFa 0 fo26_0 R) (lO (vLd 0 ag3 R R R) (lC 0 cb40 R (Zf_ok hx5) R ?_)))
 rintro _
 refine lO (vNo R) (lB R ?_)
 rcases bo (!r4) with hc6 | hc6
 refine lf (wfT hc6) (lf (wfT hc6) (lf (wfT hc6) (lf (wfT hc6) (lO (pOT (decide ((m1.Rows.length : Int) > (500 : Int))) R hc6) (l_nil ?_)))))
 exact qJ (fun w s => s)
 refine lW (wnF hc6) (vFa 1 fo26_1 R) (lW (wnF hc6) (vLd 0 ag24 R R R) (lW (wnF hc6) (v_len sl24 R) (lW (wnF hc6) (vGt R R) (lO (pOF R hc6 R) (l_nil ?_)))))
 exact qJ (fun w s => s)
 rintro σ1
 refine q_next ?_
 rcases bif_ hr with ⟨hb7, hr⟩ | ⟨hb7, hr⟩
 refine c_true R hb7 (c_seq (c_region (lB R (l_nil (q_next (c_ret (q_ret ?_)))))))
 obtain rfl := so hr
 exact qF () (fun w s => (s.e 2 []))
 refine c_false R hb7 (c_skip (q_next (c_seq (c_region (lB R (l_nil (q_next (c_seq (c_cut (A := (Bool) × (Unit)) (fun a => Zd_J3 a.1 = some r) (fun a => [(3, (.bool a.1))]) (fun a => W1) ?_ ?_)))))))))
 refine c_seq (c_region (lI R (l_nil (q_next (c_block ?_)))))
 obtain ⟨e1, hl1, hk1⟩ := bd hr
 refine c_loop (A := Unit) hl1 (fun s a => [(1, (pt b3 0)), (3, (.bool s.1)), (4, (iv s.2))]) (fun s a => W1) () (aS R) (fun w s => s) ?_
 rintro ⟨empty38, i39⟩ _ σ1 out1 hr he1
 replace hr : Zd_L1 m1 empty38 i39 = some out1 := hr
 unfold Zd_L1 at hr
 refine c_seq (c_seq (c_region (lI R (lO (vFa 1 fo26_1 R) (lO (vLd 0 ag24 R R R) (lO (v_len sl24 R) (lO (vLt R R) (l_nil (q_next ?_)))))))))
 rcases bif_ hr with ⟨hb40, hr⟩ | ⟨hb40, hr⟩
 refine c_true R hb40 (c_skip (q_next (c_seq (c_block (c_seq ?_)))))
 obtain ⟨hg41, hr⟩ := gd hr
 refine c_region (lO (vFa 1 fo26_1 R) (lO (vLd 0 ag24 R R R) (lI R (t_some 1 sees_rd (show 0 < m1.Rows.length by have := hg41; omega) (fun g42 o43 ha => ?_)))))
 subst ha
 refine lO (vIa sl24 sz33 R R hg41) (t_elem (K := kT33) 1 i39 dT33.dec R hg41.1 hg41.2 ?_)
 rintro ⟨⟨A44, D44⟩, ⟨A45, D45⟩⟩
 refine lN (cl g42 (o43 + i39.toNat * 2) [(sc A44 ((ix m1.Rows i39).Key) D44), (sc A45 ((ix m1.Rows i39).Weights) D45)] :: RR kT3 A44 D44 ((ix m1.Rows i39).Key) :: RR kT3 A45 D45 ((ix m1.Rows i39).Weights) :: W1) ?_
 refine lO (vz (.agg [(sc A44 ((ix m1.Rows i39).Key) D44), (sc A45 ((ix m1.Rows i39).Weights) D45)].toArray) (v_clfs (fo := 0) 0 ag33 sz33 R R R R)) (l_alloc R R zc33 (fun b46 => (l_stores 0 R R sz33 R R R R R R (lN (bxl b46 [(sc A44 ((ix m1.Rows i39).Key) D44), (sc A45 ((ix m1.Rows i39).Weights) D45)] 33 :: _ :: _ :: _ :: W1) ?_))))
 refine l_nil (q_next (c_seq (c_seq ?_)))
 obtain ⟨r47, hx48, hr⟩ := bd hr
 obtain ⟨r49, hx50, hr⟩ := bd hr
 refine cQ [(1, (pt b3 0)), (3, (.bool empty38)), (4, (iv i39)), (5, (pt b46 0)), (54, (.bool ((((decide ((((ix m1.Rows i39).Key).length : Int) > (4 : Int))) || (!r47)) || ((((ix m1.Rows i39).Weights).length : Int) != m1.Size)) || (!r49))))] (bxl b46 [(sc A44 ((ix m1.Rows i39).Key) D44), (sc A45 ((ix m1.Rows i39).Weights) D45)] 33 :: RR kT3 A44 D44 ((ix m1.Rows i39).Key) :: RR kT3 A45 D45 ((ix m1.Rows i39).Weights) :: W1) ?_ ?_
 refine c_region (lO (vFa 0 fo33_0 R) (lO (vLd 0 ag29 R R R) (lO (v_len sl29 R) (lO (vGt R R) (lB R ?_)))))
 rcases bo (decide ((((ix m1.Rows i39).Key).length : Int) > (4 : Int))) with hc51 | hc51
 refine lf (wfT hc51) (lf (wfT hc51) (lf (wfT hc51) (lf (wfT hc51) (lf (wfT hc51) (lf (wfT hc51) (lO (pOT (!r47) R hc51) (lB R (lf (wfT (oT hc51)) (lf (wfT (oT hc51)) (lf (wfT (oT hc51)) (lf (wfT (oT hc51)) (lf (wfT (oT hc51)) (lf (wfT (oT hc51)) (lO (pOT ((((ix m1.Rows i39).Weights).length : Int) != m1.Size) R (oT hc51)) (lB R (lf (wfT (oT (oT hc51))) (lf (wfT (oT (oT hc51))) (lf (wfT (oT (oT hc51))) (lf (wfT (oT (oT hc51))) (lO (pOT (!r49) R (oT (oT hc51))) (l_nil ?_)))))))))))))))))))))
 exact qJ (fun w s => (s.e 4 [0, 2, 3]))
 refine lW (wnF hc51) (vFa 0 fo33_0 R) (lW (wnF hc51) (vLd 0 ag29 R R R) (lW (wnF hc51) (vFa 0 fo26_0 R) (lW (wnF hc51) (vLd 4 ag3 R R R) (lM (_ :: _ :: _ :: _ :: _ :: W1) (fun w s => (s.d 2 R)) ?_))))
 refine l_calln 1 R (wnF hc51) cb60 R (Z08_ok (gcall_t hx48 (not_ff hc51))) R ?_
 rintro _
 refine lN (_ :: _ :: _ :: _ :: W1) ?_
 refine lW (wnF hc51) (vNo R) (lO (pOF R hc51 R) (lB R ?_))
 rcases bo ((decide ((((ix m1.Rows i39).Key).length : Int) > (4 : Int))) || (!r47)) with hc52 | hc52
 refine lf (wfT hc52) (lf (wfT hc52) (lf (wfT hc52) (lf (wfT hc52) (lf (wfT hc52) (lf (wfT hc52) (lO (pOT ((((ix m1.Rows i39).Weights).length : Int) != m1.Size) R hc52) (lB R (lf (wfT (oT hc52)) (lf (wfT (oT hc52)) (lf (wfT (oT hc52)) (lf (wfT (oT hc52)) (lO (pOT (!r49) R (oT hc52)) (l_nil ?_)))))))))))))
 exact qJ (fun w s => (s.e 4 [0, 2, 3]))
 refine lW (wnF hc52) (vFa 1 fo33_1 R) (lW (wnF hc52) (vLd 0 ag29 R R R) (lW (wnF hc52) (v_len sl29 R) (lW (wnF hc52) (vFa 0 fo26_0 R) (lW (wnF hc52) (vLd 4 ag3 R R R) (lW (wnF hc52) (vNe R R) (lO (pOF R hc52 R) (lB R ?_)))))))
 rcases bo (((decide ((((ix m1.Rows i39).Key).length : Int) > (4 : Int))) || (!r47)) || ((((ix m1.Rows i39).Weights).length : Int) != m1.Size)) with hc53 | hc53
 refine lf (wfT hc53) (lf (wfT hc53) (lf (wfT hc53) (lf (wfT hc53) (lO (pOT (!r49) R hc53) (l_nil ?_)))))
 exact qJ (fun w s => (s.e 4 [0, 2, 3]))
 refine lW (wnF hc53) (vFa 1 fo33_1 R) (lW (wnF hc53) (vLd 0 ag29 R R R) (lM (_ :: _ :: _ :: _ :: _ :: W1) (fun w s => (s.d 3 R)) ?_))
 refine l_calln 1 R (wnF hc53) cb61 R (Zz_ok (gcall_t hx50 (not_ff hc53))) R ?_
 rintro _
 refine lN (_ :: _ :: _ :: _ :: W1) ?_
 refine lW (wnF hc53) (vNo R) (lO (pOF R hc53 R) (l_nil ?_))
 exact qJ (fun w s => (s.e 4 [0, 2, 3]))
 rintro σ1
 refine q_next ?_
 rcases bif_ hr with ⟨hb54, hr⟩ | ⟨hb54, hr⟩
 refine c_true R hb54 (c_seq (c_region (lB R (l_nil (q_next (c_ret (q_ret (q_blockr (q_ret ?_)))))))))
 obtain rfl := so hr
 obtain rfl := he1 _ R
 have hr := hk1
 refine q_ret (q_blockr (q_ret ?_))
 obtain rfl := so hr
 exact qF () (fun w s => (s.e 5 []))
 refine c_false R hb54 (c_skip (q_next (c_seq (c_cut (A := (Unit) × (Unit)) (fun a => Zd_J2 m1 empty38 i39 = some out1) (fun a => [(1, (pt b3 0)), (3, (.bool empty38)), (4, (iv i39)), (5, (pt b46 0))]) (fun a => bxl b46 [(sc A44 ((ix m1.Rows i39).Key) D44), (sc A45 ((ix m1.Rows i39).Weights) D45)] 33 :: RR kT3 A44 D44 ((ix m1.Rows i39).Key) :: RR kT3 A45 D45 ((ix m1.Rows i39).Weights) :: W1) ?_ ?_))))
 refine c_seq (c_region (lI R (l_nil (q_next (c_block ?_)))))
 obtain ⟨e2, hl2, hk2⟩ := bd hr
 refine c_loop (A := Unit) hl2 (fun s a => [(1, (pt b3 0)), (3, (.bool empty38)), (4, (iv i39)), (5, (pt b46 0)), (6, (iv s))]) (fun s a => bxl b46 [(sc A44 ((ix m1.Rows i39).Key) D44), (sc A45 ((ix m1.Rows i39).Weights) D45)] 33 :: RR kT3 A44 D44 ((ix m1.Rows i39).Key) :: RR kT3 A45 D45 ((ix m1.Rows i39).Weights) :: W1) () (aS R) (fun w s => s) ?_
 rintro k62 _ σ1 out2 hr he2
 replace hr : Zd_L2 m1 i39 k62 = some out2 := hr
 unfold Zd_L2 at hr
 refine c_seq (c_seq (c_region (lI R (lI R (lO (vLt R R) (l_nil (q_next ?_)))))))
 rcases bif_ hr with ⟨hb63, hr⟩ | ⟨hb63, hr⟩
 refine c_true R hb63 (c_skip (q_next (c_seq (c_block (c_seq ?_)))))
 obtain ⟨hg64, hr⟩ := gd hr
 obtain ⟨r67, hx68, hr⟩ := bd hr
 refine c_elem (K := kT33) 4 k62 dT33.dec R hg64.1 hg64.2 ?_
 rintro ⟨⟨A65, D65⟩, ⟨A66, D66⟩⟩
 refine cN (cl g42 (o43 + k62.toNat * 2) [(sc A65 ((ix m1.Rows k62).Key) D65), (sc A66 ((ix m1.Rows k62).Weights) D66)] :: RR kT3 A65 D65 ((ix m1.Rows k62).Key) :: RR kT3 A66 D66 ((ix m1.Rows k62).Weights) :: _ :: _ :: _ :: W1) ?_
 refine cdr 9 [] mixo (fun ht hn => (dR 0 R (vFa 1 fo26_1 R) (dR 1 R (vLd 6 ag24 R R R) (dR 2 R (vI R) (dR 3 R (vIa sl24 sz33 R R hg64) (dR 4 R (vz (.pointer (some ⟨g42, o43 + k62.toNat * 2, none⟩)) (v_fa fo33_0 R R)) (dR 5 R (v_clf (fo := 0) 0 ag29 R R R) (dR 6 R (vFa 0 fo33_0 R) (dR 7 R (vLd 3 ag29 R R R) (d1 8 R (lM (rds _ _ _ :: rds _ _ _ :: cl _ _ _ :: rds _ _ _ :: rds _ _ _ :: bxl _ _ _ :: rds _ _ _ :: rds _ _ _ :: W1) (fun w s => (((s.d 1 R).d 5 R).f 8 [1, 1, 0, 1, 2, 6])) ?_)))))))))))
 refine lC 2 cb50 R (Zo_ok hx68) R ?_
 rintro _
 refine lN (_ :: _ :: _ :: _ :: _ :: _ :: W1) ?_
 refine l_nil (q_draw (sL []) (dD (q_next ?_)))
 rcases bif_ hr with ⟨hb69, hr⟩ | ⟨hb69, hr⟩
 refine c_true R hb69 (c_seq (c_region (lB R (l_nil (q_next (c_ret (q_blockr (q_ret ?_))))))))
 obtain rfl := so hr
 obtain rfl := he2 _ R
 have hr := hk2
 refine q_ret (q_blockr (q_ret (q_blockr (q_ret ?_))))
 obtain rfl := so hr
 obtain rfl := he1 _ R
 have hr := hk1
 refine q_ret (q_blockr (q_ret ?_))
 obtain rfl := so hr
 exact qF () (fun w s => (s.e 8 []))
 refine c_false R hb69 (c_skip (q_blockn (q_next (c_region (lI R (lO (vAd R R) (lI R (l_nil ?_))))))))
 obtain rfl := so hr
 exact qA () (fun w s => (s.f 6 [3, 3]))
 refine c_false R hb63 (c_exit (q_exit ?_))
 obtain rfl := so hr
 obtain rfl := he2 _ R
 have hr := hk2
 refine q_exit (q_block ?_)
 exact qI ((), ()) hr (fun w s => s)
 rintro ⟨_, _⟩ σ1 hr
 replace hr : Zd_J2 m1 empty38 i39 = some out1 := hr
 unfold Zd_J2 at hr
 refine cQ [(1, (pt b3 0)), (3, (.bool (empty38 || ((((ix m1.Rows i39).Key).length : Int) == (0 : Int))))), (4, (iv i39))] (W1) ?_ ?_
 refine c_region (lB R (lB R ?_))
 rcases bo empty38 with hc71 | hc71
 refine lf (wfT hc71) (lf (wfT hc71) (lf (wfT hc71) (lf (wfT hc71) (lO (pOT ((((ix m1.Rows i39).Key).length : Int) == (0 : Int)) R hc71) (lB R (l_nil ?_))))))
 exact qJ (fun w s => (s.e 3 []))
 refine lW (wnF hc71) (vFa 0 fo33_0 R) (lW (wnF hc71) (vLd 0 ag29 R R R) (lW (wnF hc71) (v_len sl29 R) (lW (wnF hc71) (vEq R R) (lO (pOF R hc71 R) (lB R (l_nil ?_))))))
 exact qJ (fun w s => (s.e 3 []))
 rintro σ1
 refine q_blockn (q_next (c_region (lI R (lO (vAd R R) (lI R (l_nil ?_))))))
 obtain rfl := so hr
 exact qA () (fun w s => s)
 refine c_false R hb40 (c_exit (q_exit ?_))
 obtain rfl := so hr
 obtain rfl := he1 _ R
 have hr := hk1
 refine q_exit (q_block ?_)
 exact qI (empty38, ()) hr (fun w s => s)
 rintro ⟨empty74, _⟩ σ1 hr
 replace hr : Zd_J3 empty74 = some r := hr
 unfold Zd_J3 at hr
 refine c_seq (c_region (lB R (lB R (l_nil (q_next (c_ret ?_))))))
 obtain rfl := so hr
 exact qF () (fun w s => (s.e 2 []))
theorem Z0x_ok  {m1 : Lm} {prompt3 : (List Int)} {n5 : Int} {r : Bool} (hr : Z0x m1 prompt3 n5 = some r) :
 FnOk Try.prog 36 [(.agg [(iv m1.Size), (.slice A2 N2 D2)].toArray), (.slice A4 N4 D4), (iv n5)] [rds kT33 (.slice A2 N2 D2) m1.Rows, rds kT3 (.slice A4 N4 D4) prompt3] (fun (h : Unit) => ((.bool r), [])) := by
 unfold Z0x at hr
 refine fn_ok Try.func36 R 24 R R fun C V => ?_
 refine cN (_ :: _ :: V) ?_
 refine cL 0 sees_rd ?_
 rintro rfl
 refine cL 1 sees_rd ?_
 rintro rfl
 let W0 : List HP := RR kT33 A2 D2 m1.Rows :: RR kT3 A4 D4 prompt3 :: V
 refine cN W0 ?_
 refine c_seq (c_region (lBx R (fun b6 => (lB R (l_nil ?_)))))
 let W1 : List HP := bxl b6 [(iv m1.Size), (sc A2 m1.Rows D2)] 26 :: W0
 refine qN W1 ?_
 refine q_next (c_seq ?_)
 obtain ⟨r7, hx8, hr⟩ := bd hr
 obtain ⟨r9, hx10, hr⟩ := bd hr
 obtain ⟨r11, hx12, hr⟩ := bd hr
 refine cQ [(6, (.bool (((r7 && (decide ((prompt3.length : Int) ≤ (1700 : Int)))) && r9) && r11)))] (W1) ?_ ?_
 refine c_region (lO (vz (.agg [(iv m1.Size), (sc A2 m1.Rows D2)].toArray) (v_loadw 0 ag26 sz26 R R R R)) (lM (RR kT33 A2 D2 m1.Rows :: W1) (fun w s => (s.d 1 R)) ?_))
 refine lC 1 cb39 R (Zd_ok hx8) R ?_
 rintro _
 refine lN W1 ?_
 refine lB R ?_
 rcases bo r7 with hc13 | hc13
 refine lW (wnT hc13) (vS R) (lW (wnT hc13) (v_len sl29 R) (lW (wnT hc13) (vLe R R) (lO (pAT R hc13 R) (lB R ?_))))
 rcases bo (r7 && (decide ((prompt3.length : Int) ≤ (1700 : Int)))) with hc14 | hc14
 refine lW (wnT hc14) (vS R) (lW (wnT hc14) (vFa 0 fo26_0 R) (lW (wnT hc14) (vLd 0 ag3 R R R) (lM (RR kT3 A4 D4 prompt3 :: W1) (fun w s => (s.d 2 R)) ?_)))
 refine l_calln 1 R (wnT hc14) cb60 R (Z08_ok (gcall_t hx10 hc14)) R ?_
 rintro _
 refine lN W1 ?_
 refine lO (pAT R hc14 R) (lB R ?_)
 rcases bo ((r7 && (decide ((prompt3.length : Int) ≤ (1700 : Int)))) && r9) with hc15 | hc15
 refine lW (wnT hc15) (vI R) (l_calln 0 R (wnT hc15) cb40 R (Zf_ok (gcall_t hx12 hc15)) R ?_)
 rintro _
 refine lO (pAT R hc15 R) (lB R (l_nil ?_))
 exact qJ (fun w s => s)
 refine lf (wfF hc15) (lf (wfF hc15) (lO (pAF r11 R hc15) (lB R (l_nil ?_))))
 exact qJ (fun w s => s)
 refine lf (wfF hc14) (lf (wfF hc14) (lf (wfF hc14) (lf (wfF hc14) (lO (pAF r9 R hc14) (lB R (lf (wfF (aF hc14)) (lf (wfF (aF hc14)) (lO (pAF r11 R (aF hc14)) (lB R (l_nil ?_))))))))))
 exact qJ (fun w s => s)
 refine lf (wfF hc13) (lf (wfF hc13) (lf (wfF hc13) (lO (pAF (decide ((prompt3.length : Int) ≤ (1700 : Int))) R hc13) (lB R (lf (wfF (aF hc13)) (lf (wfF (aF hc13)) (lf (wfF (aF hc13)) (lf (wfF (aF hc13)) (lO (pAF r9 R (aF hc13)) (lB R (lf (wfF (aF (aF hc13))) (lf (wfF (aF (aF hc13))) (lO (pAF r11 R (aF (aF hc13))) (lB R (l_nil ?_)))))))))))))))
 exact qJ (fun w s => s)
 rintro σ1
 refine q_next (c_ret ?_)
 obtain rfl := so hr
 exact qF () (fun w s => (s.e 3 []))
theorem Z0o_ok  {c1 : Choice} {r : Bool} (hr : Z0o c1 = some r) :
 FnOk Try.prog 37 [(.agg [(iv c1.Power), (iv c1.Cut), (iv c1.Mass)].toArray)] [] (fun (h : Unit) => ((.bool r), [])) := by
 unfold Z0o at hr
 refine fn_ok Try.func37 R 16 R R fun C V => ?_
 refine cN V ?_
 refine c_seq (c_region (lBx R (fun b2 => (lB R (l_nil ?_)))))
 let W1 : List HP := bxl b2 [(iv c1.Power), (iv c1.Cut), (iv c1.Mass)] 28 :: V
 refine qN W1 ?_
 refine q_next (c_seq ?_)
 obtain ⟨r3, hx4, hr⟩ := bd hr
 obtain ⟨r5, hx6, hr⟩ := bd hr
 obtain ⟨r7, hx8, hr⟩ := bd hr
 refine cQ [(2, (.bool ((r3 && r5) && r7)))] (W1) ?_ ?_
 refine c_region (lO (vFa 0 fo28_0 R) (lO (vLd 0 ag3 R R R) (lC 0 cb40 R (Zf_ok hx4) R ?_)))
 rintro _
 refine lB R ?_
 rcases bo r3 with hc9 | hc9
 refine lW (wnT hc9) (vFa 1 fo28_1 R) (lW (wnT hc9) (vLd 0 ag3 R R R) (l_calln 0 R (wnT hc9) cb40 R (Zf_ok (gcall_t hx6 hc9)) R ?_))
 rintro _
 refine lO (pAT R hc9 R) (lB R ?_)
 rcases bo (r3 && r5) with hc10 | hc10
 refine lW (wnT hc10) (vFa 2 fo28_2 R) (lW (wnT hc10) (vLd 0 ag3 R R R) (l_calln 0 R (wnT hc10) cb40 R (Zf_ok (gcall_t hx8 hc10)) R ?_))
 rintro _
 refine lO (pAT R hc10 R) (lB R (l_nil ?_))
 exact qJ (fun w s => s)
 refine lf (wfF hc10) (lf (wfF hc10) (lf (wfF hc10) (lO (pAF r7 R hc10) (lB R (l_nil ?_)))))
 exact qJ (fun w s => s)
 refine lf (wfF hc9) (lf (wfF hc9) (lf (wfF hc9) (lO (pAF r5 R hc9) (lB R (lf (wfF (aF hc9)) (lf (wfF (aF hc9)) (lf (wfF (aF hc9)) (lO (pAF r7 R (aF hc9)) (lB R (l_nil ?_))))))))))
 exact qJ (fun w s => s)
 rintro σ1
 refine q_next (c_ret ?_)
 obtain rfl := so hr
 exact qF () (fun w s => (s.e 1 []))
theorem Z0j_ok  {p1 : Int} {r : Bool} (hr : Z0j p1 = some r) :
 FnOk Try.prog 38 [(iv p1)] [] (fun (h : Unit) => ((.bool r), [])) := by
 unfold Z0j at hr
 refine fn_ok Try.func38 R 9 R R fun C V => ?_
 refine cN V ?_
 refine c_seq (c_region (lB R (l_nil (q_next (c_seq (cQ [(2, (.bool ((decide (p1 ≥ (0 : Int))) && (decide (p1 < (4294967296 : Int))))))] (V) ?_ ?_))))))
 refine c_region (lI R (lO (vGe R R) (lB R ?_)))
 rcases bo (decide (p1 ≥ (0 : Int))) with hc2 | hc2
 refine lW (wnT hc2) (vI R) (lW (wnT hc2) (vLt R R) (lO (pAT R hc2 R) (lB R (l_nil ?_))))
 exact qJ (fun w s => s)
 refine lf (wfF hc2) (lf (wfF hc2) (lO (pAF (decide (p1 < (4294967296 : Int))) R hc2) (lB R (l_nil ?_))))
 exact qJ (fun w s => s)
 rintro σ1
 refine q_next (c_ret ?_)
 obtain rfl := so hr
 exact qF () (fun w s => s)
theorem Z0v_ok  {a1 : (List Int)} {r : (List Int)} (hr : Z0v a1 = some r) :
 FnOk Try.prog 42 [(.slice A2 N2 D2)] [rds kT3 (.slice A2 N2 D2) a1] (fun (h : HH) => ((.slice h.1 h.2.1 h.2.2), [ow kT3 3 (.slice h.1 h.2.1 h.2.2) r])) := by
 unfold Z0v at hr
 refine fn_ok Try.func42 R 6 R R fun C V => ?_
 refine cN (_ :: V) ?_
 refine cL 0 sees_rd ?_
 rintro rfl
 let W0 : List HP := RR kT3 A2 D2 a1 :: V
 refine cN W0 ?_
 refine c_seq (c_region (lS R (l_nil (q_next (c_seq ?_)))))
 obtain ⟨hg4, hr⟩ := gd hr
 refine c_region (l_build (K := kT3) (xs := ([] : List Int)) (vs := []) 0 R R sl29 sz3 zc3 R R R R R R ?_ R (fun A3 D3 => ?_))
 exact fun I h s => (mO3).list [] I h s
 refine lN (OO kT3 3 A3 D3 ([] : List Int) :: W0) ?_
 refine lS R (lM (_ :: RR kT3 A2 D2 a1 :: W0) (fun w s => ((s.dup 1 R).mv 1)) ?_)
 refine l_app (K := kT3) 17592186044416 R R sl29 sz3 by3 (Zr.zk zT3 zc3) R R R R R R (src_rd (Kind.scal_flat _ _)) hg4 (fun A5 D5 => (lN (OO kT3 3 A5 D5 (([] : List Int) ++ a1) :: W0) ?_))
 refine lS R (l_nil (q_next (c_ret ?_)))
 obtain rfl := so hr
 exact qF (A5, (([] : List Int) ++ a1).length, D5) (fun w s => (s.e 2 [0]))
theorem Z11_ok  {p1 : Int} {r : Int} (hr : Z11 p1 = some r) :
 FnOk Try.prog 62 [(iv p1)] [] (fun (h : Unit) => ((iv r), [])) := by
 unfold Z11 at hr
 refine fn_ok Try.func62 R 10 R R fun C V => ?_
 refine cN V ?_
 refine c_seq (c_region (lI R (l_nil (q_next (c_seq (c_seq ?_))))))
 obtain ⟨r2, hx3, hr⟩ := bd hr
 refine c_region (lI R (lC 0 cb38 R (Z0j_ok hx3) R ?_))
 rintro _
 refine lO (vNo R) (l_nil (q_next ?_))
 rcases bif_ hr with ⟨hb4, hr⟩ | ⟨hb4, hr⟩
 refine c_true R hb4 (c_seq (c_region (lI R (l_nil (q_next (c_ret (q_ret ?_)))))))
 obtain rfl := so hr
 exact qF () (fun w s => s)
 refine c_false R hb4 (c_skip (q_next (c_seq (c_region (lI R (lO (vMu R R) (lO (vAd R R) (lO (vp (iv (bits .and .i64 (w64 ((w64 ((1664525 : Int) * p1)) + (1013904223 : Int))) (4294967295 : Int))) R) (lI R (l_nil (q_next (c_ret ?_))))))))))))
 obtain rfl := so hr
 exact qF () (fun w s => s)
theorem Z0y_ok  {list1 : (List Int)} {key3 : (List Int)} {r : Bool} (hr : Z0y list1 key3 = some r) :
 FnOk Try.prog 84 [(.slice A2 N2 D2), (.slice A4 N4 D4)] [rds kT3 (.slice A2 N2 D2) list1, rds kT3 (.slice A4 N4 D4) key3] (fun (h : Unit) => ((.bool r), [])) := by
 unfold Z0y at hr
 refine fn_ok Try.func84 R 20 R R fun C V => ?_
 refine cN (_ :: _ :: V) ?_
 refine cL 0 sees_rd ?_
 rintro rfl
 refine cL 1 sees_rd ?_
 rintro rfl
 let W0 : List HP := RR kT3 A2 D2 list1 :: RR kT3 A4 D4 key3 :: V
 refine cN W0 ?_
 refine c_seq (c_region (lB R (l_nil (q_next (c_seq (c_region (lS R (lO (v_len sl29 R) (lS R (lO (v_len sl29 R) (lO (vSb R R) (lI R (l_nil (q_next (c_seq ?_)))))))))))))))
 obtain ⟨hg5, hr⟩ := gd hr
 obtain ⟨r7, hx8, hr⟩ := bd hr
 refine cQ [(4, (.bool ((decide ((w64 ((list1.length : Int) - (key3.length : Int))) ≥ (0 : Int))) && r7)))] (W0) ?_ ?_
 refine c_region (lI R (lO (vGe R R) (lB R ?_)))
 rcases bo (decide ((w64 ((list1.length : Int) - (key3.length : Int))) ≥ (0 : Int))) with hc9 | hc9
 refine lW (wnT hc9) (vS R) (lW (wnT hc9) (vI R) (l_cut (K := kT3) (w64 ((list1.length : Int) - (key3.length : Int))) (list1.length : Int) 0 R (wnT hc9) sl29 sz3 R R R R (hg5 hc9).1 (hg5 hc9).2.1 (hg5 hc9).2.2 (fun A6 D6 => (lW (wnT hc9) (vS R) (lM (RR kT3 A6 D6 (sub list1 (w64 ((list1.length : Int) - (key3.length : Int))) (list1.length : Int)) :: RR kT3 A4 D4 key3 :: RR kT3 A6 D6 (sub list1 (w64 ((list1.length : Int) - (key3.length : Int))) (list1.length : Int)) :: W0) (fun w s => (((s.d 0 R).d 3 R).e 3 [1, 0, 2])) ?_)))))
 refine l_calln 2 R (wnT hc9) cb50 R (Zo_ok (gcall_t hx8 hc9)) R ?_
 rintro _
 refine lN (_ :: W0) ?_
 refine lO (pAT R hc9 R) (lB R (l_nil ?_))
 exact qJ (fun w s => (s.e 1 []))
 refine lf (wfF hc9) (lf (wfF hc9) (lf (wfF hc9) (lf (wfF hc9) (lf (wfF hc9) (lO (pAF r7 R hc9) (lB R (l_nil ?_)))))))
 exact qJ (fun w s => s)
 rintro σ1
 refine q_next (c_ret ?_)
 obtain rfl := so hr
 exact qF () (fun w s => (s.e 2 []))
theorem Zj_ok  {m1 : Lm} {history3 : (List Int)} {r : (List Int)} (hr : Zj m1 history3 = some r) :
 FnOk Try.prog 64 [(.agg [(iv m1.Size), (.slice A2 N2 D2)].toArray), (.slice A4 N4 D4)] [rds kT33 (.slice A2 N2 D2) m1.Rows, rds kT3 (.slice A4 N4 D4) history3] (fun (h : HH) => ((.slice h.1 h.2.1 h.2.2), [rds kT3 (.slice h.1 h.2.1 h.2.2) r])) := by
 unfold Zj at hr
 refine fn_ok Try.func64 R 50 R R fun C V => ?_
 refine cN (_ :: _ :: V) ?_
 refine cL 0 sees_rd ?_
 rintro rfl
 refine cL 1 sees_rd ?_
 rintro rfl
 let W0 : List HP := RR kT33 A2 D2 m1.Rows :: RR kT3 A4 D4 history3 :: V
 refine cN W0 ?_
 refine c_seq (c_region (lBx R (fun b5 => (lS R (l_nil ?_)))))
 let W1 : List HP := bxl b5 [(iv m1.Size), (sc A2 m1.Rows D2)] 26 :: W0
 refine qN W1 ?_
 refine q_next (c_seq (c_region (lI R (l_nil (q_next (c_seq (c_cut (A := (Int) × (Unit)) (fun a => Zj_J3 m1 a.1 = some r) (fun a => [(2, (pt b5 0)), (5, (iv a.1))]) (fun a => W1) ?_ ?_)))))))
 refine c_seq (c_region (lI R (l_nil (q_next (c_block ?_)))))
 obtain ⟨e1, hl1, hk1⟩ := bd hr
 refine c_loop (A := Unit) hl1 (fun s a => [(1, (sc A4 history3 D4)), (2, (pt b5 0)), (5, (iv s.1)), (6, (iv s.2))]) (fun s a => W1) () (aS R) (fun w s => s) ?_
 rintro ⟨best21, i22⟩ _ σ1 out1 hr he1
 replace hr : Zj_L1 m1 history3 best21 i22 = some out1 := hr
 unfold Zj_L1 at hr
 refine c_seq (c_seq (c_region (lI R (lO (vFa 1 fo26_1 R) (lO (vLd 0 ag24 R R R) (lO (v_len sl24 R) (lO (vLt R R) (l_nil (q_next ?_)))))))))
 rcases bif_ hr with ⟨hb23, hr⟩ | ⟨hb23, hr⟩
 refine c_true R hb23 (c_skip (q_next (c_seq (c_cut (A := (Int) × (Unit)) (fun a => Zj_J2 i22 a.1 = some out1) (fun a => [(1, (sc A4 history3 D4)), (2, (pt b5 0)), (5, (iv a.1)), (6, (iv i22))]) (fun a => W1) ?_ ?_))))
 refine c_block (c_seq ?_)
 obtain ⟨hg24, hr⟩ := gd hr
 obtain ⟨r29, hx30, hr⟩ := bd hr
 obtain ⟨hg31, hr⟩ := gd hr
 refine cQ [(1, (sc A4 history3 D4)), (2, (pt b5 0)), (5, (iv best21)), (6, (iv i22)), (42, (.bool (r29 && ((decide (best21 < (0 : Int))) || (decide ((((ix m1.Rows i22).Key).length : Int) > (((ix m1.Rows best21).Key).length : Int)))))))] (W1) ?_ ?_
 rcases bo r29 with hc34 | hc34
 rcases bo (decide (best21 < (0 : Int))) with hc35 | hc35
 refine c_some 1 sees_rd (show 0 < m1.Rows.length by have := hg24; omega) (fun g25 o26 ha => ?_)
 subst ha
 refine c_elem (K := kT33) 1 i22 dT33.dec R hg24.1 hg24.2 ?_
 rintro ⟨⟨A27, D27⟩, ⟨A28, D28⟩⟩
 refine cN (cl g25 (o26 + i22.toNat * 2) [(sc A27 ((ix m1.Rows i22).Key) D27), (sc A28 ((ix m1.Rows i22).Weights) D28)] :: RR kT3 A27 D27 ((ix m1.Rows i22).Key) :: RR kT3 A28 D28 ((ix m1.Rows i22).Weights) :: W1) ?_
 refine cdr 29 [] mixo (fun ht hn => (dR 0 R (vS R) (dR 1 R (vFa 1 fo26_1 R) (dR 2 R (vLd 3 ag24 R R R) (dR 3 R (vI R) (dR 4 R (vIa sl24 sz33 R R hg24) (dR 5 R (vz (.pointer (some ⟨g25, o26 + i22.toNat * 2, none⟩)) (v_fa fo33_0 R R)) (dR 6 R (v_clf (fo := 0) 0 ag29 R R R) (d1 7 R (lM (RR kT3 A4 D4 history3 :: rds _ _ _ :: cl _ _ _ :: rds _ _ _ :: rds _ _ _ :: W1) (fun w s => (((s.d 5 R).d 2 R).e 5 [1, 0, 2, 3, 4])) ?_))))))))))
 refine lC 2 cb84 R (Z0y_ok hx30) R ?_
 rintro _
 refine lN (_ :: _ :: _ :: W1) ?_
 refine l_nil (q_draw (sL []) (dR 8 R (vB R) (dW 9 R (wnT hc34) (vI R) (dW 10 R (wnT hc34) (vLt R R) (dW 11 R (wnT hc34) (vB R) (dF 12 R (wfT hc35) (dF 13 R (wfT hc35) (dF 14 R (wfT hc35) (dF 15 R (wfT hc35) (dF 16 R (wfT hc35) (dF 17 R (wfT hc35) (dF 18 R (wfT hc35) (dF 19 R (wfT hc35) (dF 20 R (wfT hc35) (dF 21 R (wfT hc35) (dF 22 R (wfT hc35) (dF 23 R (wfT hc35) (dF 24 R (wfT hc35) (dF 25 R (wfT hc35) (dF 26 R (wfT hc35) (dW 27 R (wnT hc34) (pOT (decide ((((ix m1.Rows i22).Key).length : Int) > (((ix m1.Rows best21).Key).length : Int))) R hc35) (dR 28 R (pAT R hc34 R) (dD ?_)))))))))))))))))))))))
 exact qJ (fun w s => (s.e 3 []))
 refine c_some 1 sees_rd (show 0 < m1.Rows.length by have := hg24; omega) (fun g25 o26 ha => ?_)
 subst ha
 refine c_elem (K := kT33) 1 i22 dT33.dec R hg24.1 hg24.2 ?_
 rintro ⟨⟨A27, D27⟩, ⟨A28, D28⟩⟩
 refine c_elem (K := kT33) 4 best21 dT33.dec R (hg31 hc34 hc35).1 (hg31 hc34 hc35).2 ?_
 rintro ⟨⟨A32, D32⟩, ⟨A33, D33⟩⟩
 refine cN (cl g25 (o26 + best21.toNat * 2) [(sc A32 ((ix m1.Rows best21).Key) D32), (sc A33 ((ix m1.Rows best21).Weights) D33)] :: RR kT3 A32 D32 ((ix m1.Rows best21).Key) :: RR kT3 A33 D33 ((ix m1.Rows best21).Weights) :: _ :: _ :: _ :: W1) ?_
 refine cdr 29 [] mixo (fun ht hn => (dR 0 R (vS R) (dR 1 R (vFa 1 fo26_1 R) (dR 2 R (vLd 6 ag24 R R R) (dR 3 R (vI R) (dR 4 R (vIa sl24 sz33 R R hg24) (dR 5 R (vz (.pointer (some ⟨g25, o26 + i22.toNat * 2, none⟩)) (v_fa fo33_0 R R)) (dR 6 R (v_clf (fo := 0) 3 ag29 R R R) (d1 7 R (lM (RR kT3 A4 D4 history3 :: rds _ _ _ :: cl _ _ _ :: rds _ _ _ :: rds _ _ _ :: cl _ _ _ :: rds _ _ _ :: rds _ _ _ :: W1) (fun w s => (((s.d 8 R).d 5 R).f 8 [1, 1, 0, 1, 2, 6])) ?_))))))))))
 refine lC 2 cb84 R (Z0y_ok hx30) R ?_
 rintro _
 refine lN (_ :: _ :: _ :: _ :: _ :: _ :: W1) ?_
 refine l_nil (q_draw (sL []) (dR 8 R (vB R) (dW 9 R (wnT hc34) (vI R) (dW 10 R (wnT hc34) (vLt R R) (dW 11 R (wnT hc34) (vB R) (dW 12 R (wnF hc35) (vFa 1 fo26_1 R) (dW 13 R (wnF hc35) (vLd 6 ag24 R R R) (dW 14 R (wnF hc35) (vI R) (dW 15 R (wnF hc35) (vIa sl24 sz33 R R hg24) (dW 16 R (wnF hc35) (vz (.pointer (some ⟨g25, o26 + i22.toNat * 2, none⟩)) (v_fa fo33_0 R R)) (dW 17 R (wnF hc35) (v_clf (fo := 0) 3 ag29 R R R) (dW 18 R (wnF hc35) (v_len sl29 R) (dW 19 R (wnF hc35) (vFa 1 fo26_1 R) (dW 20 R (wnF hc35) (vLd 6 ag24 R R R) (dW 21 R (wnF hc35) (vI R) (dW 22 R (wnF hc35) (vIa sl24 sz33 R R (hg31 hc34 hc35)) (dW 23 R (wnF hc35) (vz (.pointer (some ⟨g25, o26 + best21.toNat * 2, none⟩)) (v_fa fo33_0 R R)) (dW 24 R (wnF hc35) (v_clf (fo := 0) 0 ag29 R R R) (dW 25 R (wnF hc35) (v_len sl29 R) (dW 26 R (wnF hc35) (vGt R R) (dW 27 R (wnT hc34) (pOF R hc35 R) (dR 28 R (pAT R hc34 R) (dD ?_)))))))))))))))))))))))
 exact qJ (fun w s => (s.e 6 []))
 refine c_some 1 sees_rd (show 0 < m1.Rows.length by have := hg24; omega) (fun g25 o26 ha => ?_)
 subst ha
 refine c_elem (K := kT33) 1 i22 dT33.dec R hg24.1 hg24.2 ?_
 rintro ⟨⟨A27, D27⟩, ⟨A28, D28⟩⟩
 refine cN (_ :: _ :: _ :: W1) ?_
 refine cdr 29 [] mixo (fun ht hn => (dR 0 R (vS R) (dR 1 R (vFa 1 fo26_1 R) (dR 2 R (vLd 3 ag24 R R R) (dR 3 R (vI R) (dR 4 R (vIa sl24 sz33 R R hg24) (dR 5 R (vz (.pointer (some ⟨g25, o26 + i22.toNat * 2, none⟩)) (v_fa fo33_0 R R)) (dR 6 R (v_clf (fo := 0) 0 ag29 R R R) (d1 7 R (lM (RR kT3 A4 D4 history3 :: rds _ _ _ :: cl _ _ _ :: rds _ _ _ :: rds _ _ _ :: W1) (fun w s => (((s.d 5 R).d 2 R).e 5 [1, 0, 2, 3, 4])) ?_))))))))))
 refine lC 2 cb84 R (Z0y_ok hx30) R ?_
 rintro _
 refine lN (_ :: _ :: _ :: W1) ?_
 refine l_nil (q_draw (sL []) (dR 8 R (vB R) (dF 9 R (wfF hc34) (dF 10 R (wfF hc34) (dF 11 R (wfF hc34) (dF 12 R R (dF 13 R R (dF 14 R R (dF 15 R R (dF 16 R R (dF 17 R R (dF 18 R R (dF 19 R R (dF 20 R R (dF 21 R R (dF 22 R R (dF 23 R R (dF 24 R R (dF 25 R R (dF 26 R R (dF 27 R (wfF hc34) (dR 28 R (pAF ((decide (best21 < (0 : Int))) || (decide ((((ix m1.Rows i22).Key).length : Int) > (((ix m1.Rows best21).Key).length : Int)))) R hc34) (dD ?_)))))))))))))))))))))))
 exact qJ (fun w s => (s.e 3 []))
 rintro σ1
 refine q_next ?_
 rcases bif_ hr with ⟨hb36, hr⟩ | ⟨hb36, hr⟩
 refine c_true R hb36 (c_region (lI R (lI R (l_nil (q_blockn ?_)))))
 exact qI (i22, ()) hr (fun w s => s)
 refine c_false R hb36 (c_skip (q_blockn ?_))
 exact qI (best21, ()) hr (fun w s => s)
 rintro ⟨best37, _⟩ σ1 hr
 replace hr : Zj_J2 i22 best37 = some out1 := hr
 unfold Zj_J2 at hr
 refine c_region (lI R (lO (vAd R R) (lI R (l_nil ?_))))
 obtain rfl := so hr
 exact qA () (fun w s => s)
 refine c_false R hb23 (c_exit (q_exit ?_))
 obtain rfl := so hr
 obtain rfl := he1 _ R
 have hr := hk1
 refine q_exit (q_block ?_)
 exact qI (best21, ()) hr (fun w s => s)
 rintro ⟨best40, _⟩ σ1 hr
 replace hr : Zj_J3 m1 best40 = some r := hr
 unfold Zj_J3 at hr
 refine c_seq ?_
 obtain ⟨hg41, hr⟩ := gd hr
 refine c_region (lO (vFa 1 fo26_1 R) (lO (vLd 0 ag24 R R R) (lI R (t_some 1 sees_rd (show 0 < m1.Rows.length by have := hg41; omega) (fun g42 o43 ha => ?_)))))
 subst ha
 refine lO (vIa sl24 sz33 R R hg41) (lO (vz (.pointer (some ⟨g42, o43 + best40.toNat * 2 + 1, none⟩)) (v_fa fo33_1 R R)) (t_elem (K := kT33) 1 best40 dT33.dec R hg41.1 hg41.2 ?_))
 rintro ⟨⟨A44, D44⟩, ⟨A45, D45⟩⟩
 refine lN (cl g42 (o43 + best40.toNat * 2) [(sc A44 ((ix m1.Rows best40).Key) D44), (sc A45 ((ix m1.Rows best40).Weights) D45)] :: RR kT3 A44 D44 ((ix m1.Rows best40).Key) :: RR kT3 A45 D45 ((ix m1.Rows best40).Weights) :: W1) ?_
 refine lO (v_clf (fo := 1) 0 ag29 R R R) (lS R (l_nil (q_next (c_ret ?_))))
 obtain rfl := so hr
 exact qF (A45, ((ix m1.Rows best40).Weights).length, D45) (fun w s => (s.e 6 [2]))
theorem Zl_ok  {p1 : (List Int)} {taken3 : (List Bool)} {r : Int} (hr : Zl p1 taken3 = some r) :
 FnOk Try.prog 83 [(.slice A2 N2 D2), (.slice A4 N4 D4)] [rds kT3 (.slice A2 N2 D2) p1, rds kT4 (.slice A4 N4 D4) taken3] (fun (h : Unit) => ((iv r), [])) := by
 unfold Zl at hr
 refine fn_ok Try.func83 R 35 R R fun C V => ?_
 refine cN (_ :: _ :: V) ?_
 refine cL 0 sees_rd ?_
 rintro rfl
 refine cL 1 sees_rd ?_
 rintro rfl
 let W0 : List HP := RR kT3 A2 D2 p1 :: RR kT4 A4 D4 taken3 :: V
 refine cN W0 ?_
 refine c_seq (c_region (lI R (l_nil (q_next (c_seq (c_region (lI R (l_nil (q_next (c_seq (c_cut (A := (Int) × (Unit)) (fun a => Zl_J3 a.1 = some r) (fun a => [(5, (iv a.1))]) (fun a => W0) ?_ ?_)))))))))))
 refine c_seq (c_region (lI R (l_nil (q_next (c_block ?_)))))
 obtain ⟨e1, hl1, hk1⟩ := bd hr
 refine c_loop (A := Unit) hl1 (fun s a => [(0, (sc A2 p1 D2)), (1, (sc A4 taken3 D4)), (5, (iv s.1)), (6, (iv s.2))]) (fun s a => W0) () (aS R) (fun w s => s) ?_
 rintro ⟨x17, i18⟩ _ σ1 out1 hr he1
 replace hr : Zl_L1 p1 taken3 x17 i18 = some out1 := hr
 unfold Zl_L1 at hr
 refine c_seq (c_seq (c_region (lI R (lS R (lO (v_len sl29 R) (lO (vLt R R) (l_nil (q_next ?_))))))))
 rcases bif_ hr with ⟨hb19, hr⟩ | ⟨hb19, hr⟩
 refine c_true R hb19 (c_skip (q_next (c_seq (c_cut (A := (Int) × (Unit)) (fun a => Zl_J2 i18 a.1 = some out1) (fun a => [(0, (sc A2 p1 D2)), (1, (sc A4 taken3 D4)), (5, (iv a.1)), (6, (iv i18))]) (fun a => W0) ?_ ?_))))
 refine c_block (c_seq ?_)
 obtain ⟨hg20, hr⟩ := gd hr
 obtain ⟨hg23, hr⟩ := gd hr
 obtain ⟨hg26, hr⟩ := gd hr
 refine cQ [(0, (sc A2 p1 D2)), (1, (sc A4 taken3 D4)), (5, (iv x17)), (6, (iv i18)), (32, (.bool ((!(ix taken3 i18)) && ((decide (x17 < (0 : Int))) || (decide ((ix p1 i18) > (ix p1 x17)))))))] (W0) ?_ ?_
 rcases bo (!(ix taken3 i18)) with hc27 | hc27
 rcases bo (decide (x17 < (0 : Int))) with hc28 | hc28
 refine c_some 1 sees_rd (show 0 < taken3.length by have := hg20; omega) (fun g21 o22 ha => ?_)
 subst ha
 refine cdr 20 [] mixo (fun ht hn => (dR 0 R (vS R) (dR 1 R (vI R) (dR 2 R (vIa sl103 sz4 R R hg20) (dR 3 R (vz (.bool (ix taken3 i18)) (v_lde (K := kT4) (fo := 0) (pr := fun x => (.bool x)) 1 i18 ag4 (dT4.leaf fun _ _ => R) sees_rd R hg20.1 hg20.2)) (dR 4 R (vNo R) (dR 5 R (vB R) (dW 6 R (wnT hc27) (vI R) (dW 7 R (wnT hc27) (vLt R R) (dW 8 R (wnT hc27) (vB R) (dF 9 R (wfT hc28) (dF 10 R (wfT hc28) (dF 11 R (wfT hc28) (dF 12 R (wfT hc28) (dF 13 R (wfT hc28) (dF 14 R (wfT hc28) (dF 15 R (wfT hc28) (dF 16 R (wfT hc28) (dF 17 R (wfT hc28) (dW 18 R (wnT hc27) (pOT (decide ((ix p1 i18) > (ix p1 x17))) R hc28) (dR 19 R (pAT R hc27 R) (dD ?_))))))))))))))))))))))
 exact qJ (fun w s => s)
 refine c_some 1 sees_rd (show 0 < taken3.length by have := hg20; omega) (fun g21 o22 ha => ?_)
 subst ha
 refine c_some 0 sees_rd (show 0 < p1.length by have := (hg23 hc27 hc28); omega) (fun g24 o25 ha => ?_)
 subst ha
 refine cdr 20 [] mixo (fun ht hn => (dR 0 R (vS R) (dR 1 R (vI R) (dR 2 R (vIa sl103 sz4 R R hg20) (dR 3 R (vz (.bool (ix taken3 i18)) (v_lde (K := kT4) (fo := 0) (pr := fun x => (.bool x)) 1 i18 ag4 (dT4.leaf fun _ _ => R) sees_rd R hg20.1 hg20.2)) (dR 4 R (vNo R) (dR 5 R (vB R) (dW 6 R (wnT hc27) (vI R) (dW 7 R (wnT hc27) (vLt R R) (dW 8 R (wnT hc27) (vB R) (dW 9 R (wnF hc28) (vS R) (dW 10 R (wnF hc28) (vI R) (dW 11 R (wnF hc28) (vIa sl29 sz3 R R (hg23 hc27 hc28)) (dW 12 R (wnF hc28) (vLi 0 ag3 sees_rd R (hg23 hc27 hc28)) (dW 13 R (wnF hc28) (vS R) (dW 14 R (wnF hc28) (vI R) (dW 15 R (wnF hc28) (vIa sl29 sz3 R R (hg26 hc27 hc28)) (dW 16 R (wnF hc28) (vLi 0 ag3 sees_rd R (hg26 hc27 hc28)) (dW 17 R (wnF hc28) (vGt R R) (dW 18 R (wnT hc27) (pOF R hc28 R) (dR 19 R (pAT R hc27 R) (dD ?_))))))))))))))))))))))
 exact qJ (fun w s => s)
 refine c_some 1 sees_rd (show 0 < taken3.length by have := hg20; omega) (fun g21 o22 ha => ?_)
 subst ha
 refine cdr 20 [] mixo (fun ht hn => (dR 0 R (vS R) (dR 1 R (vI R) (dR 2 R (vIa sl103 sz4 R R hg20) (dR 3 R (vz (.bool (ix taken3 i18)) (v_lde (K := kT4) (fo := 0) (pr := fun x => (.bool x)) 1 i18 ag4 (dT4.leaf fun _ _ => R) sees_rd R hg20.1 hg20.2)) (dR 4 R (vNo R) (dR 5 R (vB R) (dF 6 R (wfF hc27) (dF 7 R (wfF hc27) (dF 8 R (wfF hc27) (dF 9 R R (dF 10 R R (dF 11 R R (dF 12 R R (dF 13 R R (dF 14 R R (dF 15 R R (dF 16 R R (dF 17 R R (dF 18 R (wfF hc27) (dR 19 R (pAF ((decide (x17 < (0 : Int))) || (decide ((ix p1 i18) > (ix p1 x17)))) R hc27) (dD ?_))))))))))))))))))))))
 exact qJ (fun w s => s)
 rintro σ1
 refine q_next ?_
 rcases bif_ hr with ⟨hb29, hr⟩ | ⟨hb29, hr⟩
 refine c_true R hb29 (c_region (lI R (lI R (l_nil (q_blockn ?_)))))
 exact qI (i18, ()) hr (fun w s => s)
 refine c_false R hb29 (c_skip (q_blockn ?_))
 exact qI (x17, ()) hr (fun w s => s)
 rintro ⟨x30, _⟩ σ1 hr
 replace hr : Zl_J2 i18 x30 = some out1 := hr
 unfold Zl_J2 at hr
 refine c_region (lI R (lO (vAd R R) (lI R (l_nil ?_))))
 obtain rfl := so hr
 exact qA () (fun w s => s)
 refine c_false R hb19 (c_exit (q_exit ?_))
 obtain rfl := so hr
 obtain rfl := he1 _ R
 have hr := hk1
 refine q_exit (q_block ?_)
 exact qI (x17, ()) hr (fun w s => s)
 rintro ⟨x33, _⟩ σ1 hr
 replace hr : Zl_J3 x33 = some r := hr
 unfold Zl_J3 at hr
 refine c_seq (c_region (lI R (lI R (l_nil (q_next (c_ret ?_))))))
 obtain rfl := so hr
 exact qF () (fun w s => (s.e 2 []))
end Go.Proofs.Ytkfgngcfcoplpaa
