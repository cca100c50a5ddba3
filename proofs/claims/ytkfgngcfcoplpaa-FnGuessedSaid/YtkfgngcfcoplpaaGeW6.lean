import Derived.Test.YtkfgngcfcoplpaaGeW5
set_option linter.unusedVariables false
set_option maxRecDepth 20000
namespace Go.Proofs.Ytkfgngcfcoplpaa
open Go Go.Pg
variable {A2 A3 A4 A5 A7 : Option Addr} {D2 D3 D4 D5 D7 N2 N3 N4 N5 N7 : Nat}
theorem Z4_ok  {c1 : Choice} {weights2 : (List Int)} {r : (List Int)} (hr : Z4 c1 weights2 = some r) :
 FnOk Try.prog 63 [(.agg [(iv c1.Power), (iv c1.Cut), (iv c1.Mass)].toArray), (.slice A3 N3 D3)] [rds kT3 (.slice A3 N3 D3) weights2] (fun (h : HH) => ((.slice h.1 h.2.1 h.2.2), [ow kT3 3 (.slice h.1 h.2.1 h.2.2) r])) := by
 unfold Z4 at hr
 refine fn_ok Try.func63 R 140 R R fun C V => ?_
 refine cN (_ :: V) ?_
 refine cL 0 sees_rd ?_
 rintro rfl
 let W0 : List HP := RR kT3 A3 D3 weights2 :: V
 refine cN W0 ?_
 refine c_seq (c_region (lBx R (fun b4 => (lS R (l_nil ?_)))))
 let W1 : List HP := bxl b4 [(iv c1.Power), (iv c1.Cut), (iv c1.Mass)] 28 :: W0
 refine qN W1 ?_
 refine q_next (c_seq (c_region (l_build (K := kT3) (xs := ([] : List Int)) (vs := []) 0 R R sl29 sz3 zc3 R R R R R R ?_ R (fun A5 D5 => ?_))))
 exact fun I h s => (mO3).list [] I h s
 refine lN (OO kT3 3 A5 D5 ([] : List Int) :: W1) ?_
 refine lS R (l_nil (q_next (c_seq (c_seq ?_))))
 obtain ⟨r6, hx7, hr⟩ := bd hr
 obtain ⟨r8, hx9, hr⟩ := bd hr
 refine cQ [(1, (sc A3 weights2 D3)), (2, (pt b4 0)), (5, (sc A5 ([] : List Int) D5)), (30, (.bool (((!r6) || (decide ((weights2.length : Int) > (64 : Int)))) || (!r8))))] (OO kT3 3 A5 D5 ([] : List Int) :: W1) ?_ ?_
 refine c_region (lO (vz (.agg [(iv c1.Power), (iv c1.Cut), (iv c1.Mass)].toArray) (v_loadw 1 ag28 sz28 R R R R)) (lC 0 cb37 R (Z0o_ok hx7) R ?_))
 rintro _
 refine lO (vNo R) (lB R ?_)
 rcases bo (!r6) with hc10 | hc10
 refine lf (wfT hc10) (lf (wfT hc10) (lf (wfT hc10) (lO (pOT (decide ((weights2.length : Int) > (64 : Int))) R hc10) (lB R (lf (wfT (oT hc10)) (lf (wfT (oT hc10)) (lf (wfT (oT hc10)) (lO (pOT (!r8) R (oT hc10)) (l_nil ?_)))))))))
 exact qJ (fun w s => s)
 refine lW (wnF hc10) (vS R) (lW (wnF hc10) (v_len sl29 R) (lW (wnF hc10) (vGt R R) (lO (pOF R hc10 R) (lB R ?_))))
 rcases bo ((!r6) || (decide ((weights2.length : Int) > (64 : Int)))) with hc11 | hc11
 refine lf (wfT hc11) (lf (wfT hc11) (lf (wfT hc11) (lO (pOT (!r8) R hc11) (l_nil ?_))))
 exact qJ (fun w s => s)
 refine lW (wnF hc11) (vS R) (lM (RR kT3 A3 D3 weights2 :: _ :: W1) (fun w s => (s.d 2 R)) ?_)
 refine l_calln 1 R (wnF hc11) cb61 R (Zz_ok (gcall_t hx9 (not_ff hc11))) R ?_
 rintro _
 refine lN (_ :: W1) ?_
 refine lW (wnF hc11) (vNo R) (lO (pOF R hc11 R) (l_nil ?_))
 exact qJ (fun w s => s)
 rintro σ1
 refine q_next ?_
 rcases bif_ hr with ⟨hb12, hr⟩ | ⟨hb12, hr⟩
 refine c_true R hb12 (c_seq (c_region (lS R (lS R (l_nil (q_next (c_ret (q_ret ?_))))))))
 obtain rfl := so hr
 exact qF (A5, ([] : List Int).length, D5) (fun w s => (s.e 3 [0]))
 refine c_false R hb12 (c_skip (q_next (c_seq (c_region (l_build (K := kT3) (xs := ([] : List Int)) (vs := []) 0 R R sl29 sz3 zc3 R R R R R R ?_ R (fun A13 D13 => ?_))))))
 exact fun I h s => (mO3).list [] I h s
 refine lN (OO kT3 3 A13 D13 ([] : List Int) :: _ :: W1) ?_
 refine lS R (l_nil (q_next (c_seq (c_cut (A := ((List Int)) × (HH)) (fun a => Z4_J3 c1 a.1 = some r) (fun a => [(2, (pt b4 0)), (6, (.slice a.2.1 a.2.2.1 a.2.2.2))]) (fun a => ow kT3 3 (.slice a.2.1 a.2.2.1 a.2.2.2) a.1 :: W1) ?_ ?_))))
 refine c_seq (c_region (lI R (l_nil (q_next (c_block ?_)))))
 obtain ⟨e1, hl1, hk1⟩ := bd hr
 refine c_loop (A := HH × HH) hl1 (fun s a => [(1, (.slice a.1.1 a.1.2.1 a.1.2.2)), (2, (pt b4 0)), (6, (.slice a.2.1 a.2.2.1 a.2.2.2)), (7, (iv s.2))]) (fun s a => rds kT3 (.slice a.1.1 a.1.2.1 a.1.2.2) weights2 :: ow kT3 3 (.slice a.2.1 a.2.2.1 a.2.2.2) s.1 :: W1) ((A3, weights2.length, D3), (A13, ([] : List Int).length, D13)) (aS R) (fun w s => ((s.d 3 R).e 3 [0, 1])) ?_
 rintro ⟨x24, i26⟩ ⟨⟨A23, N23, D23⟩, ⟨A25, N25, D25⟩⟩ σ1 out1 hr he1
 replace hr : Z4_L1 c1 weights2 x24 i26 = some out1 := hr
 unfold Z4_L1 at hr
 refine c_len 0 sees_rd (fun (hn : N23 = weights2.length) => ?_)
 subst hn
 refine c_len 1 sees_ow (fun (hn : N25 = x24.length) => ?_)
 subst hn
 refine c_seq (c_seq (c_region (lI R (lS R (lO (v_len sl29 R) (lO (vLt R R) (l_nil (q_next ?_))))))))
 rcases bif_ hr with ⟨hb27, hr⟩ | ⟨hb27, hr⟩
 refine c_true R hb27 (c_skip (q_next (c_seq (c_block (c_seq ?_)))))
 obtain ⟨hg28, hr⟩ := gd hr
 refine c_region (lS R (lI R (t_some 0 sees_rd (show 0 < weights2.length by have := hg28; omega) (fun g29 o30 ha => ?_))))
 subst ha
 refine lO (vIa sl29 sz3 R R hg28) (lO (vLi 0 ag3 sees_rd R hg28) (lI R (l_nil (q_next (c_seq (c_cut (A := (Int) × (Unit)) (fun a => Z4_J2 x24 i26 a.1 = some out1) (fun a => [(1, (sc (ad g29 o30) weights2 D23)), (2, (pt b4 0)), (6, (sc A25 x24 D25)), (7, (iv i26)), (8, (iv a.1))]) (fun a => RR kT3 (ad g29 o30) D23 weights2 :: OO kT3 3 A25 D25 x24 :: W1) ?_ ?_))))))
 refine c_seq (c_region (lO (vFa 0 fo28_0 R) (lO (vLd 2 ag3 R R R) (lO (vEq R R) (l_nil (q_next ?_))))))
 rcases bif_ hr with ⟨hb31, hr⟩ | ⟨hb31, hr⟩
 refine c_true R hb31 (c_region (lI R (lI R (lO (vMu R R) (lI R (l_nil ?_))))))
 exact qI ((w64 ((ix weights2 i26) * (ix weights2 i26))), ()) hr (fun w s => s)
 refine c_false R hb31 (c_skip ?_)
 exact qI ((ix weights2 i26), ()) hr (fun w s => s)
 rintro ⟨x32, _⟩ σ1 hr
 replace hr : Z4_J2 x24 i26 x32 = some out1 := hr
 unfold Z4_J2 at hr
 obtain ⟨hg34, hr⟩ := gd hr
 refine c_region (lS R (lI R (l_build (K := kT3) (xs := ([x32] : List Int)) (vs := [(iv x32)]) 0 R R sl29 sz3 zc3 R R R R R R ?_ R (fun A33 D33 => ?_))))
 exact fun I h s => (mO3).list [((), x32)] I h s
 refine lN (OO kT3 3 A33 D33 ([x32] : List Int) :: RR kT3 (ad g29 o30) D23 weights2 :: OO kT3 3 A25 D25 x24 :: W1) ?_
 refine lM (ow _ _ _ _ :: ow _ _ _ _ :: rds _ _ _ :: W1) (fun w s => (s.e 3 [2, 0, 1])) ?_
 refine l_app (K := kT3) 17592186044416 R R sl29 sz3 by3 (Zr.zk zT3 zc3) R R R R R R src_ow hg34 (fun A35 D35 => (lN (OO kT3 3 A35 D35 (x24 ++ ([x32] : List Int)) :: _ :: W1) ?_))
 refine lS R (l_nil (q_blockn (q_next (c_region (lI R (lO (vAd R R) (lI R (l_nil ?_))))))))
 obtain rfl := so hr
 exact qA (((ad g29 o30), weights2.length, D23), (A35, (x24 ++ ([x32] : List Int)).length, D35)) (fun w s => (s.e 2 [1, 0]))
 refine c_false R hb27 (c_exit (q_exit ?_))
 obtain rfl := so hr
 obtain rfl := he1 _ R
 have hr := hk1
 refine q_exit (q_block ?_)
 exact qI (x24, (A25, x24.length, D25)) hr (fun w s => (s.e 2 [1]))
 rintro ⟨x40, ⟨A41, N41, D41⟩⟩ σ1 hr
 replace hr : Z4_J3 c1 x40 = some r := hr
 unfold Z4_J3 at hr
 refine c_len 0 sees_ow (fun (hn : N41 = x40.length) => ?_)
 subst hn
 refine c_seq (c_region (l_build (K := kT3) (xs := ([] : List Int)) (vs := []) 0 R R sl29 sz3 zc3 R R R R R R ?_ R (fun A42 D42 => ?_)))
 exact fun I h s => (mO3).list [] I h s
 refine lN (OO kT3 3 A42 D42 ([] : List Int) :: OO kT3 3 A41 D41 x40 :: W1) ?_
 refine lS R (l_nil (q_next (c_seq ?_)))
 obtain ⟨hg43, hr⟩ := gd hr
 refine c_region (lS R (lO (v_len sl29 R) (l_make (K := kT4) (m := (x40.length : Int)) (z := false) R R sl103 sz4 by4 (Zr.zk zT4 zc4) (by decide) R R hg43.1 hg43.2.1 hg43.2.2 (fun A44 D44 => (lS R (l_nil (q_next (c_seq (c_cut (A := ((List Int)) × (HH)) (fun a => Z4_J4 c1 x40 a.1 = some r) (fun a => [(2, (pt b4 0)), (6, (sc A41 x40 D41)), (9, (.slice a.2.1 a.2.2.1 a.2.2.2))]) (fun a => OO kT3 3 A41 D41 x40 :: ow kT3 3 (.slice a.2.1 a.2.2.1 a.2.2.2) a.1 :: W1) ?_ ?_)))))))))
 refine c_seq (c_region (lI R (l_nil (q_next (c_block ?_)))))
 obtain ⟨e2, hl2, hk2⟩ := bd hr
 refine c_loop (A := HH) hl2 (fun s a => [(2, (pt b4 0)), (6, (sc A41 x40 D41)), (9, (.slice a.1 a.2.1 a.2.2)), (10, (sc A44 (List.replicate (x40.length : Int).toNat false) D44)), (11, (iv s.2.2))]) (fun s a => OO kT3 3 A41 D41 x40 :: ow kT3 3 (.slice a.1 a.2.1 a.2.2) s.1 :: ow kT4 4 (.slice A44 (List.replicate (x40.length : Int).toNat false).length D44) s.2.1 :: W1) (A42, ([] : List Int).length, D42) (aS R) (fun w s => (s.e 3 [2, 1, 0])) ?_
 rintro ⟨order58, taken60, n61⟩ ⟨A59, N59, D59⟩ σ1 out2 hr he2
 replace hr : Z4_L2 c1 x40 order58 taken60 n61 = some out2 := hr
 unfold Z4_L2 at hr
 refine c_len 1 sees_ow (fun (hn : N59 = order58.length) => ?_)
 subst hn
 refine c_seq (c_seq (cQ [(2, (pt b4 0)), (6, (sc A41 x40 D41)), (9, (sc A59 order58 D59)), (10, (sc A44 (List.replicate (x40.length : Int).toNat false) D44)), (11, (iv n61)), (71, (.bool ((decide (n61 < (x40.length : Int))) && ((c1.Cut == (0 : Int)) || (decide (n61 < c1.Cut))))))] (OO kT3 3 A41 D41 x40 :: OO kT3 3 A59 D59 order58 :: ow kT4 4 (.slice A44 (List.replicate (x40.length : Int).toNat false).length D44) taken60 :: W1) ?_ ?_))
 refine c_region (lI R (lS R (lO (v_len sl29 R) (lO (vLt R R) (lB R ?_)))))
 rcases bo (decide (n61 < (x40.length : Int))) with hc62 | hc62
 refine lW (wnT hc62) (vFa 1 fo28_1 R) (lW (wnT hc62) (vLd 3 ag3 R R R) (lW (wnT hc62) (vEq R R) (lW (wnT hc62) (vB R) ?_)))
 rcases bo (c1.Cut == (0 : Int)) with hc63 | hc63
 refine lf (wfT hc63) (lf (wfT hc63) (lf (wfT hc63) (lf (wfT hc63) (lW (wnT hc62) (pOT (decide (n61 < c1.Cut)) R hc63) (lO (pAT R hc62 R) (l_nil ?_))))))
 exact qJ (fun w s => s)
 refine lW (wnF hc63) (vI R) (lW (wnF hc63) (vFa 1 fo28_1 R) (lW (wnF hc63) (vLd 3 ag3 R R R) (lW (wnF hc63) (vLt R R) (lW (wnT hc62) (pOF R hc63 R) (lO (pAT R hc62 R) (l_nil ?_))))))
 exact qJ (fun w s => s)
 refine lf (wfF hc62) (lf (wfF hc62) (lf (wfF hc62) (lf (wfF hc62) (lf R (lf R (lf R (lf R (lf (wfF hc62) (lO (pAF ((c1.Cut == (0 : Int)) || (decide (n61 < c1.Cut))) R hc62) (l_nil ?_))))))))))
 exact qJ (fun w s => s)
 rintro σ1
 refine q_next ?_
 rcases bif_ hr with ⟨hb64, hr⟩ | ⟨hb64, hr⟩
 refine c_true R hb64 (c_skip (q_next (c_seq (c_block (c_seq ?_)))))
 obtain ⟨r65, hx66, hr⟩ := bd hr
 refine c_region (lS R (lS R (lM (ow _ _ _ _ :: ow kT4 4 (.slice A44 (List.replicate (x40.length : Int).toNat false).length D44) taken60 :: OO kT3 3 A59 D59 order58 :: W1) (fun w s => (s.e 3 [0, 2, 1])) ?_)))
 refine lC 2 cb83 R (FnOk.lends (A' := [OO kT3 3 A41 D41 x40, ow kT4 4 (.slice A44 (List.replicate (x40.length : Int).toNat false).length D44) taken60]) (A := [RR kT3 A41 D41 x40, rds kT4 (.slice A44 (List.replicate (x40.length : Int).toNat false).length D44) taken60]) (B := []) (Zl_ok hx66) ⟨lend_ow, lend_ow, trivial⟩ (fun _ => trivial)) R ?_
 rintro _
 refine lI R (l_nil (q_next (c_seq ?_)))
 obtain ⟨hg67, hr⟩ := gd hr
 refine c_region (lS R (lI R (t_some 1 sees_ow (show 0 < (List.replicate (x40.length : Int).toNat false).length by have := hg67; omega) (fun g68 o69 ha => ?_))))
 subst ha
 refine lO (vIa sl103 sz4 R R hg67) (lM (ow kT4 4 (.slice (ad g68 o69) (List.replicate (x40.length : Int).toNat false).length D44) taken60 :: ow _ _ _ _ :: ow _ _ _ _ :: W1) (fun w s => (s.e 3 [1, 0, 2])) ?_)
 refine l_stx (K := kT4) (x' := true) 0 r65 R R sz4 R R hg67.1 hg67.2 ?_ ?_
 exact fun I h s => (mO4).put I h () true s
 refine lN (ow kT4 4 (.slice (ad g68 o69) (List.replicate (x40.length : Int).toNat false).length D44) (taken60.set r65.toNat true) :: _ :: _ :: W1) ?_
 refine l_nil (q_next ?_)
 obtain ⟨hg71, hr⟩ := gd hr
 refine c_region (lS R (lI R (l_build (K := kT3) (xs := ([r65] : List Int)) (vs := [(iv r65)]) 0 R R sl29 sz3 zc3 R R R R R R ?_ R (fun A70 D70 => ?_))))
 exact fun I h s => (mO3).list [((), r65)] I h s
 refine lN (OO kT3 3 A70 D70 ([r65] : List Int) :: _ :: _ :: _ :: W1) ?_
 refine lM (ow _ _ _ _ :: ow _ _ _ _ :: ow _ _ _ _ :: ow _ _ _ _ :: W1) (fun w s => (s.e 4 [3, 0, 1, 2])) ?_
 refine l_app (K := kT3) 17592186044416 R R sl29 sz3 by3 (Zr.zk zT3 zc3) R R R R R R src_ow hg71 (fun A72 D72 => (lN (OO kT3 3 A72 D72 (order58 ++ ([r65] : List Int)) :: _ :: _ :: W1) ?_))
 refine lS R (l_nil (q_blockn (q_next (c_region (lI R (lO (vAd R R) (lI R (l_nil ?_))))))))
 obtain rfl := so hr
 exact qA (A72, (order58 ++ ([r65] : List Int)).length, D72) (fun w s => (s.e 3 [2, 0, 1]))
 refine c_false R hb64 (c_exit (q_exit ?_))
 obtain rfl := so hr
 obtain rfl := he2 _ R
 have hr := hk2
 refine q_exit (q_block ?_)
 exact qI (order58, (A59, order58.length, D59)) hr (fun w s => (s.e 3 [0, 1]))
 rintro ⟨order77, ⟨A78, N78, D78⟩⟩ σ1 hr
 replace hr : Z4_J4 c1 x40 order77 = some r := hr
 unfold Z4_J4 at hr
 refine c_len 1 sees_ow (fun (hn : N78 = order77.length) => ?_)
 subst hn
 refine c_seq (c_region (lI R (l_nil (q_next (c_seq (c_cut (A := (Int) × (Unit)) (fun a => Z4_J5 c1 x40 order77 a.1 = some r) (fun a => [(2, (pt b4 0)), (6, (sc A41 x40 D41)), (9, (sc A78 order77 D78)), (13, (iv a.1))]) (fun a => OO kT3 3 A41 D41 x40 :: OO kT3 3 A78 D78 order77 :: W1) ?_ ?_))))))
 refine c_seq (c_region (lI R (l_nil (q_next (c_block ?_)))))
 obtain ⟨e3, hl3, hk3⟩ := bd hr
 refine c_loop (A := Unit) hl3 (fun s a => [(2, (pt b4 0)), (6, (sc A41 x40 D41)), (9, (sc A78 order77 D78)), (13, (iv s.1)), (14, (iv s.2))]) (fun s a => OO kT3 3 A41 D41 x40 :: OO kT3 3 A78 D78 order77 :: W1) () (aS R) (fun w s => s) ?_
 rintro ⟨x86, i87⟩ _ σ1 out3 hr he3
 replace hr : Z4_L3 x40 order77 x86 i87 = some out3 := hr
 unfold Z4_L3 at hr
 refine c_seq (c_seq (c_region (lI R (lS R (lO (v_len sl29 R) (lO (vLt R R) (l_nil (q_next ?_))))))))
 rcases bif_ hr with ⟨hb88, hr⟩ | ⟨hb88, hr⟩
 refine c_true R hb88 (c_skip (q_next (c_seq (c_block ?_))))
 obtain ⟨hg89, hr⟩ := gd hr
 obtain ⟨hg92, hr⟩ := gd hr
 refine c_region (lI R (lS R (lS R (lI R (t_some 1 sees_ow (show 0 < order77.length by have := hg89; omega) (fun g90 o91 ha => ?_))))))
 subst ha
 refine lO (vIa sl29 sz3 R R hg89) (lO (vLi 1 ag3 sees_ow R hg89) (t_some 0 sees_ow (show 0 < x40.length by have := hg92; omega) (fun g93 o94 ha => ?_)))
 subst ha
 refine lO (vIa sl29 sz3 R R hg92) (lO (vLi 0 ag3 sees_ow R hg92) (lO (vAd R R) (lI R (l_nil (q_blockn (q_next (c_region (lI R (lO (vAd R R) (lI R (l_nil ?_)))))))))))
 obtain rfl := so hr
 exact qA () (fun w s => s)
 refine c_false R hb88 (c_exit (q_exit ?_))
 obtain rfl := so hr
 obtain rfl := he3 _ R
 have hr := hk3
 refine q_exit (q_block ?_)
 exact qI (x86, ()) hr (fun w s => s)
 rintro ⟨x97, _⟩ σ1 hr
 replace hr : Z4_J5 c1 x40 order77 x97 = some r := hr
 unfold Z4_J5 at hr
 refine c_seq ?_
 obtain ⟨hg98, hr⟩ := gd hr
 refine c_region (lS R (lO (v_len sl29 R) (l_make (K := kT3) (m := (x40.length : Int)) (z := (0 : Int)) R R sl29 sz3 by3 (Zr.zk zT3 zc3) (by decide) R R hg98.1 hg98.2.1 hg98.2.2 (fun A99 D99 => (lS R (l_nil (q_next (c_seq (c_region (lI R (l_nil (q_next (c_seq (c_cut (A := ((List Int)) × (Unit)) (fun a => Z4_J6 a.1 = some r) (fun a => [(5, (sc A99 (List.replicate (x40.length : Int).toNat (0 : Int)) D99))]) (fun a => ow kT3 3 (.slice A99 (List.replicate (x40.length : Int).toNat (0 : Int)).length D99) a.1 :: W1) ?_ ?_))))))))))))))
 refine c_seq (c_region (lI R (l_nil (q_next (c_block ?_)))))
 obtain ⟨e4, hl4, hk4⟩ := bd hr
 refine c_loop (A := Unit) hl4 (fun s a => [(2, (pt b4 0)), (5, (sc A99 (List.replicate (x40.length : Int).toNat (0 : Int)) D99)), (6, (sc A41 x40 D41)), (9, (sc A78 order77 D78)), (13, (iv x97)), (15, (iv s.2.1)), (16, (iv s.2.2))]) (fun s a => ow kT3 3 (.slice A99 (List.replicate (x40.length : Int).toNat (0 : Int)).length D99) s.1 :: OO kT3 3 A41 D41 x40 :: OO kT3 3 A78 D78 order77 :: W1) () (aS R) (fun w s => s) ?_
 rintro ⟨x113, sum114, i115⟩ _ σ1 out4 hr he4
 replace hr : Z4_L4 c1 x40 order77 x97 x113 sum114 i115 = some out4 := hr
 unfold Z4_L4 at hr
 refine c_seq (c_seq (cQ [(2, (pt b4 0)), (5, (sc A99 (List.replicate (x40.length : Int).toNat (0 : Int)) D99)), (6, (sc A41 x40 D41)), (9, (sc A78 order77 D78)), (13, (iv x97)), (15, (iv sum114)), (16, (iv i115)), (114, (.bool ((decide (i115 < (order77.length : Int))) && (decide ((w64 (sum114 * (65536 : Int))) < (w64 (c1.Mass * x97)))))))] (ow kT3 3 (.slice A99 (List.replicate (x40.length : Int).toNat (0 : Int)).length D99) x113 :: OO kT3 3 A41 D41 x40 :: OO kT3 3 A78 D78 order77 :: W1) ?_ ?_))
 refine c_region (lI R (lS R (lO (v_len sl29 R) (lO (vLt R R) (lB R ?_)))))
 rcases bo (decide (i115 < (order77.length : Int))) with hc116 | hc116
 refine lW (wnT hc116) (vI R) (lW (wnT hc116) (vMu R R) (lW (wnT hc116) (vFa 2 fo28_2 R) (lW (wnT hc116) (vLd 3 ag3 R R R) (lW (wnT hc116) (vI R) (lW (wnT hc116) (vMu R R) (lW (wnT hc116) (vLt R R) (lO (pAT R hc116 R) (l_nil ?_))))))))
 exact qJ (fun w s => s)
 refine lf (wfF hc116) (lf (wfF hc116) (lf (wfF hc116) (lf (wfF hc116) (lf (wfF hc116) (lf (wfF hc116) (lf (wfF hc116) (lO (pAF (decide ((w64 (sum114 * (65536 : Int))) < (w64 (c1.Mass * x97)))) R hc116) (l_nil ?_))))))))
 exact qJ (fun w s => s)
 rintro σ1
 refine q_next ?_
 rcases bif_ hr with ⟨hb117, hr⟩ | ⟨hb117, hr⟩
 refine c_true R hb117 (c_skip (q_next (c_seq (c_block (c_seq ?_)))))
 obtain ⟨hg118, hr⟩ := gd hr
 obtain ⟨hg121, hr⟩ := gd hr
 obtain ⟨hg124, hr⟩ := gd hr
 refine c_some 2 sees_ow (show 0 < order77.length by have := hg118; omega) (fun g119 o120 ha => ?_)
 subst ha
 refine c_some 1 sees_ow (show 0 < x40.length by have := hg121; omega) (fun g122 o123 ha => ?_)
 subst ha
 refine c_some 0 sees_ow (show 0 < (List.replicate (x40.length : Int).toNat (0 : Int)).length by have := hg124; omega) (fun g125 o126 ha => ?_)
 subst ha
 refine cdr 14 [0] mixo (fun ht hn => (dR 0 R (vS R) (hS := (sL [0])) (dR 1 R (vS R) (hS := (sL [0])) (dR 2 R (vI R) (hS := (sL [0])) (dR 3 R (vIa sl29 sz3 R R hg118) (hS := (sL [0])) (dR 4 R (vLi 1 ag3 sees_ow R hg118) (hS := (sL [0])) (dR 5 R (vS R) (hS := (sL [0])) (dR 6 R (vS R) (hS := (sL [0])) (dR 7 R (vI R) (hS := (sL [0])) (dR 8 R (vIa sl29 sz3 R R hg118) (hS := (sL [0])) (dR 9 R (vLi 1 ag3 sees_ow R hg118) (hS := (sL [0])) (dR 10 R (vIa sl29 sz3 R R hg121) (hS := (sL [0])) (dR 11 R (vLi 0 ag3 sees_ow R hg121) (hS := (sL [0])) (dR 12 R (vIa sl29 sz3 R R hg124) (hS := (sL [0])) (d1 13 R (lN (ow kT3 3 (.slice (ad g125 o126) (List.replicate (x40.length : Int).toNat (0 : Int)).length D99) x113 :: OO kT3 3 (ad g122 o123) D41 x40 :: OO kT3 3 (ad g119 o120) D78 order77 :: W1) ?_))))))))))))))))
 refine l_stx (K := kT3) (x' := (ix x40 (ix order77 i115))) 0 (ix order77 i115) R R sz3 R R hg124.1 hg124.2 ?_ ?_
 exact fun I h s => (mO3).put I h () (ix x40 (ix order77 i115)) s
 refine lN (ow kT3 3 (.slice (ad g125 o126) (List.replicate (x40.length : Int).toNat (0 : Int)).length D99) (x113.set (ix order77 i115).toNat (ix x40 (ix order77 i115))) :: _ :: _ :: W1) ?_
 refine l_nil (q_draw (sL [0]) (dD ?_))
 obtain ⟨l127, hl128, hr⟩ := bd hr
 replace hl128 := Option.some.inj hl128
 refine qM (ow kT3 3 (.slice (ad g125 o126) (List.replicate (x40.length : Int).toNat (0 : Int)).length D99) l127 :: _ :: _ :: W1) (fun w s => by rw [← hl128]; exact s) ?_
 refine q_next (c_region (lI R (lS R (lS R (lI R (lO (vIa sl29 sz3 R R hg118) (lO (vLi 2 ag3 sees_ow R hg118) (lO (vIa sl29 sz3 R R hg121) (lO (vLi 1 ag3 sees_ow R hg121) (lO (vAd R R) (lI R (l_nil (q_blockn (q_next (c_region (lI R (lO (vAd R R) (lI R (l_nil ?_)))))))))))))))))))
 obtain rfl := so hr
 exact qA () (fun w s => s)
 refine c_false R hb117 (c_exit (q_exit ?_))
 obtain rfl := so hr
 obtain rfl := he4 _ R
 have hr := hk4
 refine q_exit (q_block ?_)
 exact qI (x113, ()) hr (fun w s => (s.e 3 [0]))
 rintro ⟨x132, _⟩ σ1 hr
 replace hr : Z4_J6 x132 = some r := hr
 unfold Z4_J6 at hr
 refine c_seq (c_region (lS R (lS R (l_nil (q_next (c_ret ?_))))))
 obtain rfl := so hr
 exact qF (A99, (List.replicate (x40.length : Int).toNat (0 : Int)).length, D99) (fun w s => (s.e 3 [0]))
theorem Z17_ok  {p1 : Int} {n2 : Int} {r : Int × Int} (hr : Z17 p1 n2 = some r) :
 FnOk Try.prog 65 [(iv p1), (iv n2)] [] (fun (h : Unit) => ((.tuple [(iv r.1), (iv r.2)].toArray), [])) := by
 unfold Z17 at hr
 refine fn_ok Try.func65 R 23 R R fun C V => ?_
 refine cN V ?_
 refine c_seq (c_region (lI R (lI R (l_nil (q_next (c_seq (c_seq ?_)))))))
 obtain ⟨r3, hx4, hr⟩ := bd hr
 obtain ⟨r5, hx6, hr⟩ := bd hr
 refine cQ [(0, (iv p1)), (1, (iv n2)), (14, (.bool ((!r3) || (!r5))))] (V) ?_ ?_
 refine c_region (lI R (lC 0 cb38 R (Z0j_ok hx4) R ?_))
 rintro _
 refine lO (vNo R) (lB R ?_)
 rcases bo (!r3) with hc7 | hc7
 refine lf (wfT hc7) (lf (wfT hc7) (lf (wfT hc7) (lO (pOT (!r5) R hc7) (l_nil ?_))))
 exact qJ (fun w s => s)
 refine lW (wnF hc7) (vI R) (l_calln 0 R (wnF hc7) cb40 R (Zf_ok (gcall_t hx6 (not_ff hc7))) R ?_)
 rintro _
 refine lW (wnF hc7) (vNo R) (lO (pOF R hc7 R) (l_nil ?_))
 exact qJ (fun w s => s)
 rintro σ1
 refine q_next ?_
 rcases bif_ hr with ⟨hb8, hr⟩ | ⟨hb8, hr⟩
 refine c_true R hb8 (c_seq (c_region (lI R (lI R (lI R (l_nil (q_next (c_ret (q_ret ?_)))))))))
 obtain rfl := so hr
 exact q_fin (vs := [(iv 0), (iv p1)]) (.inl R) () R ⟨R, R, trivial⟩ R (fun w s => s)
 refine c_false R hb8 (c_skip (q_next (c_seq ?_)))
 obtain ⟨r9, hx10, hr⟩ := bd hr
 refine c_region (lI R (lC 0 cb62 R (Z11_ok hx10) R ?_))
 rintro _
 refine lI R (l_nil (q_next (c_seq (c_region (lI R (lI R (lO (vMu R R) (lO (vz (iv ((w64 (r9 * n2)) / 2 ^ (32 : Int).toNat)) (v_shr R R (by decide) (by decide))) (lI R (lI R (lI R (l_nil (q_next (c_ret ?_))))))))))))))
 obtain rfl := so hr
 exact q_fin (vs := [(iv ((w64 (r9 * n2)) / 2 ^ (32 : Int).toNat)), (iv r9)]) (.inl R) () R ⟨R, R, trivial⟩ R (fun w s => s)
theorem Zm_ok  {weights1 : (List Int)} {r3 : Int} {r : Int} (hr : Zm weights1 r3 = some r) :
 FnOk Try.prog 67 [(.slice A2 N2 D2), (iv r3)] [rds kT3 (.slice A2 N2 D2) weights1] (fun (h : Unit) => ((iv r), [])) := by
 unfold Zm at hr
 refine fn_ok Try.func67 R 43 R R fun C V => ?_
 refine cN (_ :: V) ?_
 refine cL 0 sees_rd ?_
 rintro rfl
 let W0 : List HP := RR kT3 A2 D2 weights1 :: V
 refine cN W0 ?_
 refine c_seq (c_region (lI R (l_nil (q_next (c_seq (c_seq (cQ [(0, (sc A2 weights1 D2)), (1, (iv r3)), (14, (.bool ((decide ((weights1.length : Int) > (64 : Int))) || (decide (r3 < (0 : Int))))))] (W0) ?_ ?_)))))))
 refine c_region (lS R (lO (v_len sl29 R) (lO (vGt R R) (lB R ?_))))
 rcases bo (decide ((weights1.length : Int) > (64 : Int))) with hc4 | hc4
 refine lf (wfT hc4) (lf (wfT hc4) (lO (pOT (decide (r3 < (0 : Int))) R hc4) (l_nil ?_)))
 exact qJ (fun w s => s)
 refine lW (wnF hc4) (vI R) (lW (wnF hc4) (vLt R R) (lO (pOF R hc4 R) (l_nil ?_)))
 exact qJ (fun w s => s)
 rintro σ1
 refine q_next ?_
 rcases bif_ hr with ⟨hb5, hr⟩ | ⟨hb5, hr⟩
 refine c_true R hb5 (c_seq (c_region (lI R (l_nil (q_next (c_ret (q_ret ?_)))))))
 obtain rfl := so hr
 exact qF () (fun w s => (s.e 1 []))
 refine c_false R hb5 (c_skip (q_next (c_seq (c_cut (A := (Unit) × (Unit)) (fun a => Zm_J1 weights1 r3 = some r) (fun a => [(0, (sc A2 weights1 D2)), (1, (iv r3))]) (fun a => W0) ?_ ?_))))
 refine c_seq (c_region (lI R (l_nil (q_next (c_block ?_)))))
 obtain ⟨e1, hl1, hk1⟩ := bd hr
 refine c_loop (A := Unit) hl1 (fun s a => [(0, (sc A2 weights1 D2)), (1, (iv r3)), (5, (iv s))]) (fun s a => W0) () (aS R) (fun w s => s) ?_
 rintro i13 _ σ1 out1 hr he1
 replace hr : Zm_L1 weights1 i13 = some out1 := hr
 unfold Zm_L1 at hr
 refine c_seq (c_seq (c_region (lI R (lS R (lO (v_len sl29 R) (lO (vLt R R) (l_nil (q_next ?_))))))))
 rcases bif_ hr with ⟨hb14, hr⟩ | ⟨hb14, hr⟩
 refine c_true R hb14 (c_skip (q_next (c_seq (c_block (c_seq ?_)))))
 obtain ⟨hg15, hr⟩ := gd hr
 obtain ⟨r18, hx19, hr⟩ := bd hr
 refine c_region (lS R (lI R (t_some 0 sees_rd (show 0 < weights1.length by have := hg15; omega) (fun g16 o17 ha => ?_))))
 subst ha
 refine lO (vIa sl29 sz3 R R hg15) (lO (vLi 0 ag3 sees_rd R hg15) (lC 0 cb40 R (Zf_ok hx19) R ?_))
 rintro _
 refine lO (vNo R) (l_nil (q_next ?_))
 rcases bif_ hr with ⟨hb20, hr⟩ | ⟨hb20, hr⟩
 refine c_true R hb20 (c_seq (c_region (lI R (l_nil (q_next (c_ret (q_blockr (q_ret ?_))))))))
 obtain rfl := so hr
 obtain rfl := he1 _ R
 have hr := hk1
 refine q_ret (q_blockr (q_ret ?_))
 obtain rfl := so hr
 exact qF () (fun w s => (s.e 1 []))
 refine c_false R hb20 (c_skip (q_blockn (q_next (c_region (lI R (lO (vAd R R) (lI R (l_nil ?_))))))))
 obtain rfl := so hr
 exact qA () (fun w s => s)
 refine c_false R hb14 (c_exit (q_exit ?_))
 obtain rfl := so hr
 obtain rfl := he1 _ R
 have hr := hk1
 refine q_exit (q_block ?_)
 exact qI ((), ()) hr (fun w s => s)
 rintro ⟨_, _⟩ σ1 hr
 replace hr : Zm_J1 weights1 r3 = some r := hr
 unfold Zm_J1 at hr
 refine c_seq (c_region (lI R (l_nil (q_next (c_seq (c_cut (A := (Unit) × (Unit)) (fun a => Zm_J2 = some r) (fun a => []) (fun a => W0) ?_ ?_))))))
 refine c_seq (c_region (lI R (l_nil (q_next (c_block ?_)))))
 obtain ⟨e2, hl2, hk2⟩ := bd hr
 refine c_loop (A := Unit) hl2 (fun s a => [(0, (sc A2 weights1 D2)), (1, (iv r3)), (6, (iv s.1)), (7, (iv s.2))]) (fun s a => W0) () (aS R) (fun w s => s) ?_
 rintro ⟨sum27, i28⟩ _ σ1 out2 hr he2
 replace hr : Zm_L2 weights1 r3 sum27 i28 = some out2 := hr
 unfold Zm_L2 at hr
 refine c_seq (c_seq (c_region (lI R (lS R (lO (v_len sl29 R) (lO (vLt R R) (l_nil (q_next ?_))))))))
 rcases bif_ hr with ⟨hb29, hr⟩ | ⟨hb29, hr⟩
 refine c_true R hb29 (c_skip (q_next (c_seq (c_block (c_seq ?_)))))
 obtain ⟨hg30, hr⟩ := gd hr
 refine c_region (lI R (lS R (lI R (t_some 0 sees_rd (show 0 < weights1.length by have := hg30; omega) (fun g31 o32 ha => ?_)))))
 subst ha
 refine lO (vIa sl29 sz3 R R hg30) (lO (vLi 0 ag3 sees_rd R hg30) (lO (vAd R R) (lI R (l_nil (q_next (c_seq (c_region (lI R (lI R (lO (vGt R R) (l_nil (q_next ?_))))))))))))
 rcases bif_ hr with ⟨hb33, hr⟩ | ⟨hb33, hr⟩
 refine c_true R hb33 (c_seq (c_region (lI R (lI R (l_nil (q_next (c_ret (q_blockr (q_ret ?_)))))))))
 obtain rfl := so hr
 obtain rfl := he2 _ R
 have hr := hk2
 refine q_ret (q_blockr (q_ret ?_))
 obtain rfl := so hr
 exact qF () (fun w s => (s.e 1 []))
 refine c_false R hb33 (c_skip (q_blockn (q_next (c_region (lI R (lO (vAd R R) (lI R (l_nil ?_))))))))
 obtain rfl := so hr
 exact qA () (fun w s => s)
 refine c_false R hb29 (c_exit (q_exit ?_))
 obtain rfl := so hr
 obtain rfl := he2 _ R
 have hr := hk2
 refine q_exit (q_block ?_)
 exact q_join ((), ()) hr trivial (fun w s => s)
 rintro ⟨_, _⟩ σ1 hr
 replace hr : Zm_J2 = some r := hr
 unfold Zm_J2 at hr
 refine c_seq (c_region (lI R (l_nil (q_next (c_ret ?_)))))
 obtain rfl := so hr
 exact qF () (fun w s => (s.e 1 []))
theorem Zg_ok  {m1 : Lm} {c3 : Choice} {history4 : (List Int)} {seed6 : Int} {i7 : Int} {r : Int} (hr : Zg m1 c3 history4 seed6 i7 = some r) :
 FnOk Try.prog 43 [(.agg [(iv m1.Size), (.slice A2 N2 D2)].toArray), (.agg [(iv c3.Power), (iv c3.Cut), (iv c3.Mass)].toArray), (.slice A5 N5 D5), (iv seed6), (iv i7)] [rds kT33 (.slice A2 N2 D2) m1.Rows, rds kT3 (.slice A5 N5 D5) history4] (fun (h : Unit) => ((iv r), [])) := by
 unfold Zg at hr
 refine fn_ok Try.func43 R 39 R R fun C V => ?_
 refine cN (_ :: _ :: V) ?_
 refine cL 0 sees_rd ?_
 rintro rfl
 refine cL 1 sees_rd ?_
 rintro rfl
 let W0 : List HP := RR kT33 A2 D2 m1.Rows :: RR kT3 A5 D5 history4 :: V
 refine cN W0 ?_
 refine c_seq (c_region (lBx R (fun b8 => (lBx R (fun b9 => (lI R (l_nil ?_)))))))
 let W1 : List HP := bxl b9 [(iv c3.Power), (iv c3.Cut), (iv c3.Mass)] 28 :: bxl b8 [(iv m1.Size), (sc A2 m1.Rows D2)] 26 :: W0
 refine qN W1 ?_
 refine q_next (c_seq (c_region (lI R (lI R (l_nil (q_next (c_seq (c_cut (A := (Int) × (Unit)) (fun a => Zg_J1 m1 c3 history4 a.1 = some r) (fun a => [(2, (sc A5 history4 D5)), (5, (pt b8 0)), (6, (pt b9 0)), (11, (iv a.1))]) (fun a => W1) ?_ ?_))))))))
 refine c_seq (c_region (lI R (l_nil (q_next (c_block ?_)))))
 obtain ⟨e1, hl1, hk1⟩ := bd hr
 refine c_loop (A := Unit) hl1 (fun s a => [(2, (sc A5 history4 D5)), (4, (iv i7)), (5, (pt b8 0)), (6, (pt b9 0)), (11, (iv s.1)), (12, (iv s.2))]) (fun s a => W1) () (aS R) (fun w s => s) ?_
 rintro ⟨x13, k14⟩ _ σ1 out1 hr he1
 replace hr : Zg_L1 i7 x13 k14 = some out1 := hr
 unfold Zg_L1 at hr
 refine c_seq (c_seq (c_region (lI R (lI R (lO (vLt R R) (l_nil (q_next ?_)))))))
 rcases bif_ hr with ⟨hb15, hr⟩ | ⟨hb15, hr⟩
 refine c_true R hb15 (c_skip (q_next (c_seq (c_block ?_))))
 obtain ⟨r16, hx17, hr⟩ := bd hr
 refine c_region (lI R (lC 0 cb62 R (Z11_ok hx17) R ?_))
 rintro _
 refine lI R (l_nil (q_blockn (q_next (c_region (lI R (lO (vAd R R) (lI R (l_nil ?_))))))))
 obtain rfl := so hr
 exact qA () (fun w s => s)
 refine c_false R hb15 (c_exit (q_exit ?_))
 obtain rfl := so hr
 obtain rfl := he1 _ R
 have hr := hk1
 refine q_exit (q_block ?_)
 exact qI (x13, ()) hr (fun w s => s)
 rintro ⟨x20, _⟩ σ1 hr
 replace hr : Zg_J1 m1 c3 history4 x20 = some r := hr
 unfold Zg_J1 at hr
 refine c_seq ?_
 obtain ⟨r21, hx22, hr⟩ := bd hr
 obtain ⟨r24, hx25, hr⟩ := bd hr
 refine cdr 6 [] mixo (fun ht hn => (dR 0 R (vz (.agg [(iv c3.Power), (iv c3.Cut), (iv c3.Mass)].toArray) (v_loadw 0 ag28 sz28 R R R R)) (dR 1 R (vz (.agg [(iv m1.Size), (sc A2 m1.Rows D2)].toArray) (v_loadw 1 ag26 sz26 R R R R)) (dR 2 R (vS R) (d1 3 R (lM (RR kT33 A2 D2 m1.Rows :: RR kT3 A5 D5 history4 :: W1) (fun w s => (((s.d 2 R).d 4 R).e 2 [1, 0])) ?_))))))
 refine lC 2 cb64 R (Zj_ok hx22) R ?_
 rintro ⟨A23, N23, D23⟩
 refine lN (rds kT3 (.slice A23 N23 D23) r21 :: W1) ?_
 refine l_len 0 sees_rd ?_
 rintro rfl
 refine l_nil (q_draw (sL [0]) (d1 4 R (lM (_ :: _ :: W1) (fun w s => (s.d 0 R)) ?_)))
 refine lC 1 cb63 R (Z4_ok hx25) R ?_
 rintro ⟨A26, N26, D26⟩
 refine lN (ow kT3 3 (.slice A26 N26 D26) r24 :: _ :: W1) ?_
 refine l_len 0 sees_ow ?_
 rintro rfl
 refine l_nil (q_draw (sL [1, 0]) (dR 5 R (vS R) (hS := (sL [1, 0])) (dD (q_next (c_seq ?_)))))
 obtain ⟨r27, hx28, hr⟩ := bd hr
 obtain ⟨r29, hx30, hr⟩ := bd hr
 refine c_region (lI R (lS R (lC 1 cb66 R (FnOk.lends (A' := [OO kT3 3 A26 D26 r24]) (A := [RR kT3 A26 D26 r24]) (B := []) (Zy_ok hx28) ⟨lend_ow, trivial⟩ (fun _ => trivial)) R ?_)))
 rintro _
 refine lC 0 cb65 R (Z17_ok hx30) R ?_
 rintro _
 refine lO (vT R) (lI R (lI R (lI R (lI R (l_nil (q_next (c_seq ?_)))))))
 obtain ⟨r31, hx32, hr⟩ := bd hr
 refine c_region (lS R (lI R (lC 1 cb67 R (FnOk.lends (A' := [OO kT3 3 A26 D26 r24]) (A := [RR kT3 A26 D26 r24]) (B := []) (Zm_ok hx32) ⟨lend_ow, trivial⟩ (fun _ => trivial)) R ?_)))
 rintro _
 refine lI R (l_nil (q_next (c_ret ?_)))
 obtain rfl := so hr
 exact qF () (fun w s => (s.e 6 []))
theorem Z07_ok  {m1 : Lm} {c3 : Choice} {prompt4 : (List Int)} {n6 : Int} {seed7 : Int} {r : (List Int)} (hr : Z07 m1 c3 prompt4 n6 seed7 = some r) :
 FnOk Try.prog 41 [(.agg [(iv m1.Size), (.slice A2 N2 D2)].toArray), (.agg [(iv c3.Power), (iv c3.Cut), (iv c3.Mass)].toArray), (.slice A5 N5 D5), (iv n6), (iv seed7)] [rds kT33 (.slice A2 N2 D2) m1.Rows, rds kT3 (.slice A5 N5 D5) prompt4] (fun (h : HH) => ((.slice h.1 h.2.1 h.2.2), [ow kT3 3 (.slice h.1 h.2.1 h.2.2) r])) := by
 unfold Z07 at hr
 refine fn_ok Try.func41 R 54 R R fun C V => ?_
 refine cN (_ :: _ :: V) ?_
 refine cL 0 sees_rd ?_
 rintro rfl
 refine cL 1 sees_rd ?_
 rintro rfl
 let W0 : List HP := RR kT33 A2 D2 m1.Rows :: RR kT3 A5 D5 prompt4 :: V
 refine cN W0 ?_
 refine c_seq (c_region (lBx R (fun b8 => (lBx R (fun b9 => (lS R (l_nil ?_)))))))
 let W1 : List HP := bxl b9 [(iv c3.Power), (iv c3.Cut), (iv c3.Mass)] 28 :: bxl b8 [(iv m1.Size), (sc A2 m1.Rows D2)] 26 :: W0
 refine qN W1 ?_
 refine q_next (c_seq (c_region (l_build (K := kT3) (xs := ([] : List Int)) (vs := []) 0 R R sl29 sz3 zc3 R R R R R R ?_ R (fun A10 D10 => ?_))))
 exact fun I h s => (mO3).list [] I h s
 refine lN (OO kT3 3 A10 D10 ([] : List Int) :: W1) ?_
 refine lS R (l_nil (q_next (c_seq (c_seq ?_))))
 obtain ⟨r11, hx12, hr⟩ := bd hr
 obtain ⟨r13, hx14, hr⟩ := bd hr
 obtain ⟨r15, hx16, hr⟩ := bd hr
 refine cQ [(2, (sc A5 prompt4 D5)), (3, (iv n6)), (4, (iv seed7)), (5, (pt b8 0)), (6, (pt b9 0)), (11, (sc A10 ([] : List Int) D10)), (30, (.bool (((!r11) || (!r13)) || (!r15))))] (OO kT3 3 A10 D10 ([] : List Int) :: W1) ?_ ?_
 refine c_region (lO (vz (.agg [(iv m1.Size), (sc A2 m1.Rows D2)].toArray) (v_loadw 2 ag26 sz26 R R R R)) (lS R (lI R (lM (RR kT33 A2 D2 m1.Rows :: RR kT3 A5 D5 prompt4 :: ow _ _ _ _ :: W1) (fun w s => (((s.d 3 R).d 5 R).e 3 [1, 0, 2])) ?_))))
 refine lC 2 cb36 R (Z0x_ok hx12) R ?_
 rintro _
 refine lN (_ :: W1) ?_
 refine lO (vNo R) (lB R ?_)
 rcases bo (!r11) with hc17 | hc17
 refine lf (wfT hc17) (lf (wfT hc17) (lf (wfT hc17) (lO (pOT (!r13) R hc17) (lB R (lf (wfT (oT hc17)) (lf (wfT (oT hc17)) (lf (wfT (oT hc17)) (lO (pOT (!r15) R (oT hc17)) (l_nil ?_)))))))))
 exact qJ (fun w s => s)
 refine lW (wnF hc17) (vz (.agg [(iv c3.Power), (iv c3.Cut), (iv c3.Mass)].toArray) (v_loadw 1 ag28 sz28 R R R R)) (l_calln 0 R (wnF hc17) cb37 R (Z0o_ok (gcall_t hx14 (not_ff hc17))) R ?_)
 rintro _
 refine lW (wnF hc17) (vNo R) (lO (pOF R hc17 R) (lB R ?_))
 rcases bo ((!r11) || (!r13)) with hc18 | hc18
 refine lf (wfT hc18) (lf (wfT hc18) (lf (wfT hc18) (lO (pOT (!r15) R hc18) (l_nil ?_))))
 exact qJ (fun w s => s)
 refine lW (wnF hc18) (vI R) (l_calln 0 R (wnF hc18) cb38 R (Z0j_ok (gcall_t hx16 (not_ff hc18))) R ?_)
 rintro _
 refine lW (wnF hc18) (vNo R) (lO (pOF R hc18 R) (l_nil ?_))
 exact qJ (fun w s => s)
 rintro σ1
 refine q_next ?_
 rcases bif_ hr with ⟨hb19, hr⟩ | ⟨hb19, hr⟩
 refine c_true R hb19 (c_seq (c_region (lS R (lS R (l_nil (q_next (c_ret (q_ret ?_))))))))
 obtain rfl := so hr
 exact qF (A10, ([] : List Int).length, D10) (fun w s => (s.e 5 [0]))
 refine c_false R hb19 (c_skip (q_next (c_seq ?_)))
 obtain ⟨r20, hx21, hr⟩ := bd hr
 refine c_region (lS R (lM (RR kT3 A5 D5 prompt4 :: _ :: W1) (fun w s => (s.d 4 R)) ?_))
 refine lC 1 cb42 R (Z0v_ok hx21) R ?_
 rintro ⟨A22, N22, D22⟩
 refine lN (ow kT3 3 (.slice A22 N22 D22) r20 :: _ :: W1) ?_
 refine l_len 0 sees_ow ?_
 rintro rfl
 refine lS R (l_nil (q_next (c_seq (c_cut (A := ((List Int)) × (HH)) (fun a => Z07_J1 a.1 = some r) (fun a => [(11, (.slice a.2.1 a.2.2.1 a.2.2.2))]) (fun a => ow kT3 3 (.slice a.2.1 a.2.2.1 a.2.2.2) a.1 :: W1) ?_ ?_))))
 refine c_seq (c_region (lI R (l_nil (q_next (c_block ?_)))))
 obtain ⟨e1, hl1, hk1⟩ := bd hr
 refine c_loop (A := HH × HH) hl1 (fun s a => [(3, (iv n6)), (4, (iv seed7)), (5, (pt b8 0)), (6, (pt b9 0)), (11, (.slice a.1.1 a.1.2.1 a.1.2.2)), (12, (.slice a.2.1 a.2.2.1 a.2.2.2)), (13, (iv s.2.2))]) (fun s a => ow kT3 3 (.slice a.1.1 a.1.2.1 a.1.2.2) s.1 :: ow kT3 3 (.slice a.2.1 a.2.2.1 a.2.2.2) s.2.1 :: W1) ((A10, ([] : List Int).length, D10), (A22, r20.length, D22)) (aS R) (fun w s => (s.e 2 [1, 0])) ?_
 rintro ⟨x32, all34, i36⟩ ⟨⟨A33, N33, D33⟩, ⟨A35, N35, D35⟩⟩ σ1 out1 hr he1
 replace hr : Z07_L1 m1 c3 n6 seed7 x32 all34 i36 = some out1 := hr
 unfold Z07_L1 at hr
 refine c_len 0 sees_ow (fun (hn : N33 = x32.length) => ?_)
 subst hn
 refine c_len 1 sees_ow (fun (hn : N35 = all34.length) => ?_)
 subst hn
 refine c_seq (c_seq (c_region (lI R (lI R (lO (vLt R R) (l_nil (q_next ?_)))))))
 rcases bif_ hr with ⟨hb37, hr⟩ | ⟨hb37, hr⟩
 refine c_true R hb37 (c_skip (q_next (c_seq (c_block (c_seq ?_)))))
 obtain ⟨r38, hx39, hr⟩ := bd hr
 refine c_region (lO (vz (.agg [(iv m1.Size), (sc A2 m1.Rows D2)].toArray) (v_loadw 3 ag26 sz26 R R R R)) (lO (vz (.agg [(iv c3.Power), (iv c3.Cut), (iv c3.Mass)].toArray) (v_loadw 2 ag28 sz28 R R R R)) (lS R (lI R (lI R (lM (OO kT3 3 A35 D35 all34 :: RR kT33 A2 D2 m1.Rows :: OO kT3 3 A33 D33 x32 :: W1) (fun w s => ((s.d 4 R).e 3 [2, 0, 1])) ?_))))))
 refine lC 2 cb43 R (FnOk.lends (A' := [OO kT3 3 A35 D35 all34]) (A := [RR kT3 A35 D35 all34]) (B := [RR kT33 A2 D2 m1.Rows]) (FnOk.perm (Zg_ok hx39) (Pre' := [RR kT3 A35 D35 all34, RR kT33 A2 D2 m1.Rows]) (fun _ _ _ s => (s.e 2 [1, 0]))) ⟨lend_ow, trivial⟩ (fun _ => trivial)) R ?_
 rintro _
 refine lN (_ :: _ :: W1) ?_
 refine lI R (l_nil (q_next (c_seq ?_)))
 obtain ⟨hg41, hr⟩ := gd hr
 refine c_region (lS R (lI R (l_build (K := kT3) (xs := ([r38] : List Int)) (vs := [(iv r38)]) 0 R R sl29 sz3 zc3 R R R R R R ?_ R (fun A40 D40 => ?_))))
 exact fun I h s => (mO3).list [((), r38)] I h s
 refine lN (OO kT3 3 A40 D40 ([r38] : List Int) :: _ :: _ :: W1) ?_
 refine lM (ow _ _ _ _ :: ow _ _ _ _ :: ow _ _ _ _ :: W1) (fun w s => (s.e 3 [1, 0, 2])) ?_
 refine l_app (K := kT3) 17592186044416 R R sl29 sz3 by3 (Zr.zk zT3 zc3) R R R R R R src_ow hg41 (fun A42 D42 => (lN (OO kT3 3 A42 D42 (all34 ++ ([r38] : List Int)) :: _ :: W1) ?_))
 refine lS R (l_nil (q_next ?_))
 obtain ⟨hg44, hr⟩ := gd hr
 refine c_region (lS R (lI R (l_build (K := kT3) (xs := ([r38] : List Int)) (vs := [(iv r38)]) 0 R R sl29 sz3 zc3 R R R R R R ?_ R (fun A43 D43 => ?_))))
 exact fun I h s => (mO3).list [((), r38)] I h s
 refine lN (OO kT3 3 A43 D43 ([r38] : List Int) :: _ :: _ :: W1) ?_
 refine lM (ow _ _ _ _ :: ow _ _ _ _ :: ow _ _ _ _ :: W1) (fun w s => (s.e 3 [2, 0, 1])) ?_
 refine l_app (K := kT3) 17592186044416 R R sl29 sz3 by3 (Zr.zk zT3 zc3) R R R R R R src_ow hg44 (fun A45 D45 => (lN (OO kT3 3 A45 D45 (x32 ++ ([r38] : List Int)) :: _ :: W1) ?_))
 refine lS R (l_nil (q_blockn (q_next (c_region (lI R (lO (vAd R R) (lI R (l_nil ?_))))))))
 obtain rfl := so hr
 exact qA ((A45, (x32 ++ ([r38] : List Int)).length, D45), (A42, (all34 ++ ([r38] : List Int)).length, D42)) (fun w s => s)
 refine c_false R hb37 (c_exit (q_exit ?_))
 obtain rfl := so hr
 obtain rfl := he1 _ R
 have hr := hk1
 refine q_exit (q_block ?_)
 exact qI (x32, (A33, x32.length, D33)) hr (fun w s => (s.e 2 [0]))
 rintro ⟨x51, ⟨A52, N52, D52⟩⟩ σ1 hr
 replace hr : Z07_J1 x51 = some r := hr
 unfold Z07_J1 at hr
 refine c_len 0 sees_ow (fun (hn : N52 = x51.length) => ?_)
 subst hn
 refine c_seq (c_region (lS R (lS R (l_nil (q_next (c_ret ?_))))))
 obtain rfl := so hr
 exact qF (A52, x51.length, D52) (fun w s => (s.e 5 [0]))
theorem Za_ok  {m1 : Lm} {draft3 : Lm} {c5 : Choice} {prompt6 : (List Int)} {n8 : Int} {seed9 : Int} {ahead10 : Int} {r : (List Int) × Int} (hr : Za m1 draft3 c5 prompt6 n8 seed9 ahead10 = some r) :
 FnOk Try.prog 9 [(.agg [(iv m1.Size), (.slice A2 N2 D2)].toArray), (.agg [(iv draft3.Size), (.slice A4 N4 D4)].toArray), (.agg [(iv c5.Power), (iv c5.Cut), (iv c5.Mass)].toArray), (.slice A7 N7 D7), (iv n8), (iv seed9), (iv ahead10)] [rds kT33 (.slice A2 N2 D2) m1.Rows, rds kT33 (.slice A4 N4 D4) draft3.Rows, rds kT3 (.slice A7 N7 D7) prompt6] (fun (h : HH) => ((.tuple [(.slice h.1 h.2.1 h.2.2), (iv r.2)].toArray), [rds kT3 (.slice h.1 h.2.1 h.2.2) r.1])) := by
 unfold Za at hr
 refine fn_ok Try.func9 R 117 R R fun C V => ?_
 refine cN (_ :: _ :: _ :: V) ?_
 refine cL 0 sees_rd ?_
 rintro rfl
 refine cL 1 sees_rd ?_
 rintro rfl
 refine cL 2 sees_rd ?_
 rintro rfl
 let W0 : List HP := RR kT33 A2 D2 m1.Rows :: RR kT33 A4 D4 draft3.Rows :: RR kT3 A7 D7 prompt6 :: V
 refine cN W0 ?_
 refine c_seq (c_region (lBx R (fun b11 => (lBx R (fun b12 => (lBx R (fun b13 => (lS R (lI R (l_nil ?_))))))))))
 let W1 : List HP := bxl b13 [(iv c5.Power), (iv c5.Cut), (iv c5.Mass)] 28 :: bxl b12 [(iv draft3.Size), (sc A4 draft3.Rows D4)] 26 :: bxl b11 [(iv m1.Size), (sc A2 m1.Rows D2)] 26 :: W0
 refine qN W1 ?_
 refine q_next (c_seq (c_region (l_build (K := kT3) (xs := ([] : List Int)) (vs := []) 0 R R sl29 sz3 zc3 R R R R R R ?_ R (fun A14 D14 => ?_))))
 exact fun I h s => (mO3).list [] I h s
 refine lN (OO kT3 3 A14 D14 ([] : List Int) :: W1) ?_
 refine lS R (l_nil (q_next (c_seq (c_seq ?_))))
 obtain ⟨r15, hx16, hr⟩ := bd hr
 obtain ⟨r17, hx18, hr⟩ := bd hr
 obtain ⟨r19, hx20, hr⟩ := bd hr
 obtain ⟨r21, hx22, hr⟩ := bd hr
 obtain ⟨r23, hx24, hr⟩ := bd hr
 refine cQ [(3, (sc A7 prompt6 D7)), (4, (iv n8)), (5, (iv seed9)), (6, (iv ahead10)), (7, (pt b11 0)), (8, (pt b12 0)), (9, (pt b13 0)), (16, (sc A14 ([] : List Int) D14)), (55, (.bool ((((((!r15) || (!r17)) || (!r19)) || (!r21)) || (draft3.Size != m1.Size)) || (!r23))))] (OO kT3 3 A14 D14 ([] : List Int) :: W1) ?_ ?_
 refine c_region (lO (vz (.agg [(iv m1.Size), (sc A2 m1.Rows D2)].toArray) (v_loadw 3 ag26 sz26 R R R R)) (lS R (lI R (lM (RR kT33 A2 D2 m1.Rows :: RR kT3 A7 D7 prompt6 :: ow _ _ _ _ :: W1) (fun w s => (((s.d 4 R).d 7 R).e 3 [1, 0, 2])) ?_))))
 refine lC 2 cb36 R (Z0x_ok hx16) R ?_
 rintro _
 refine lN (_ :: W1) ?_
 refine lO (vNo R) (lB R ?_)
 rcases bo (!r15) with hc25 | hc25
 refine lf (wfT hc25) (lf (wfT hc25) (lf (wfT hc25) (lO (pOT (!r17) R hc25) (lB R (lf (wfT (oT hc25)) (lf (wfT (oT hc25)) (lf (wfT (oT hc25)) (lO (pOT (!r19) R (oT hc25)) (lB R (lf (wfT (oT (oT hc25))) (lf (wfT (oT (oT hc25))) (lf (wfT (oT (oT hc25))) (lO (pOT (!r21) R (oT (oT hc25))) (lB R (lf (wfT (oT (oT (oT hc25)))) (lf (wfT (oT (oT (oT hc25)))) (lf (wfT (oT (oT (oT hc25)))) (lf (wfT (oT (oT (oT hc25)))) (lf (wfT (oT (oT (oT hc25)))) (lO (pOT (draft3.Size != m1.Size) R (oT (oT (oT hc25)))) (lB R (lf (wfT (oT (oT (oT (oT hc25))))) (lf (wfT (oT (oT (oT (oT hc25))))) (lf (wfT (oT (oT (oT (oT hc25))))) (lO (pOT (!r23) R (oT (oT (oT (oT hc25))))) (l_nil ?_))))))))))))))))))))))))))
 exact qJ (fun w s => s)
 refine lW (wnF hc25) (vz (.agg [(iv c5.Power), (iv c5.Cut), (iv c5.Mass)].toArray) (v_loadw 1 ag28 sz28 R R R R)) (l_calln 0 R (wnF hc25) cb37 R (Z0o_ok (gcall_t hx18 (not_ff hc25))) R ?_)
 rintro _
 refine lW (wnF hc25) (vNo R) (lO (pOF R hc25 R) (lB R ?_))
 rcases bo ((!r15) || (!r17)) with hc26 | hc26
 refine lf (wfT hc26) (lf (wfT hc26) (lf (wfT hc26) (lO (pOT (!r19) R hc26) (lB R (lf (wfT (oT hc26)) (lf (wfT (oT hc26)) (lf (wfT (oT hc26)) (lO (pOT (!r21) R (oT hc26)) (lB R (lf (wfT (oT (oT hc26))) (lf (wfT (oT (oT hc26))) (lf (wfT (oT (oT hc26))) (lf (wfT (oT (oT hc26))) (lf (wfT (oT (oT hc26))) (lO (pOT (draft3.Size != m1.Size) R (oT (oT hc26))) (lB R (lf (wfT (oT (oT (oT hc26)))) (lf (wfT (oT (oT (oT hc26)))) (lf (wfT (oT (oT (oT hc26)))) (lO (pOT (!r23) R (oT (oT (oT hc26)))) (l_nil ?_)))))))))))))))))))))
 exact qJ (fun w s => s)
 refine lW (wnF hc26) (vI R) (l_calln 0 R (wnF hc26) cb38 R (Z0j_ok (gcall_t hx20 (not_ff hc26))) R ?_)
 rintro _
 refine lW (wnF hc26) (vNo R) (lO (pOF R hc26 R) (lB R ?_))
 rcases bo (((!r15) || (!r17)) || (!r19)) with hc27 | hc27
 refine lf (wfT hc27) (lf (wfT hc27) (lf (wfT hc27) (lO (pOT (!r21) R hc27) (lB R (lf (wfT (oT hc27)) (lf (wfT (oT hc27)) (lf (wfT (oT hc27)) (lf (wfT (oT hc27)) (lf (wfT (oT hc27)) (lO (pOT (draft3.Size != m1.Size) R (oT hc27)) (lB R (lf (wfT (oT (oT hc27))) (lf (wfT (oT (oT hc27))) (lf (wfT (oT (oT hc27))) (lO (pOT (!r23) R (oT (oT hc27))) (l_nil ?_))))))))))))))))
 exact qJ (fun w s => s)
 refine lW (wnF hc27) (vz (.agg [(iv draft3.Size), (sc A4 draft3.Rows D4)].toArray) (v_loadw 2 ag26 sz26 R R R R)) (lM (RR kT33 A4 D4 draft3.Rows :: _ :: W1) (fun w s => (s.d 5 R)) ?_)
 refine l_calln 1 R (wnF hc27) cb39 R (Zd_ok (gcall_t hx22 (not_ff hc27))) R ?_
 rintro _
 refine lN (_ :: W1) ?_
 refine lW (wnF hc27) (vNo R) (lO (pOF R hc27 R) (lB R ?_))
 rcases bo ((((!r15) || (!r17)) || (!r19)) || (!r21)) with hc28 | hc28
 refine lf (wfT hc28) (lf (wfT hc28) (lf (wfT hc28) (lf (wfT hc28) (lf (wfT hc28) (lO (pOT (draft3.Size != m1.Size) R hc28) (lB R (lf (wfT (oT hc28)) (lf (wfT (oT hc28)) (lf (wfT (oT hc28)) (lO (pOT (!r23) R (oT hc28)) (l_nil ?_)))))))))))
 exact qJ (fun w s => s)
 refine lW (wnF hc28) (vFa 0 fo26_0 R) (lW (wnF hc28) (vLd 2 ag3 R R R) (lW (wnF hc28) (vFa 0 fo26_0 R) (lW (wnF hc28) (vLd 3 ag3 R R R) (lW (wnF hc28) (vNe R R) (lO (pOF R hc28 R) (lB R ?_))))))
 rcases bo (((((!r15) || (!r17)) || (!r19)) || (!r21)) || (draft3.Size != m1.Size)) with hc29 | hc29
 refine lf (wfT hc29) (lf (wfT hc29) (lf (wfT hc29) (lO (pOT (!r23) R hc29) (l_nil ?_))))
 exact qJ (fun w s => s)
 refine lW (wnF hc29) (vI R) (l_calln 0 R (wnF hc29) cb40 R (Zf_ok (gcall_t hx24 (not_ff hc29))) R ?_)
 rintro _
 refine lW (wnF hc29) (vNo R) (lO (pOF R hc29 R) (l_nil ?_))
 exact qJ (fun w s => s)
 rintro σ1
 refine q_next ?_
 rcases bif_ hr with ⟨hb30, hr⟩ | ⟨hb30, hr⟩
 refine c_true R hb30 (c_seq (c_region (lS R (lS R (lI R (l_nil (q_next (c_ret (q_ret ?_)))))))))
 obtain rfl := so hr
 exact q_fin (vs := [(sc A14 ([] : List Int) D14), (iv 0)]) (.inl R) (A14, ([] : List Int).length, D14) R ⟨R, R, trivial⟩ R (fun w s => ((s.shr 0 R).e 7 [0]))
 refine c_false R hb30 (c_skip (q_next (c_seq ?_)))
 obtain ⟨r31, hx32, hr⟩ := bd hr
 refine c_region (lO (vz (.agg [(iv m1.Size), (sc A2 m1.Rows D2)].toArray) (v_loadw 3 ag26 sz26 R R R R)) (lO (vz (.agg [(iv c5.Power), (iv c5.Cut), (iv c5.Mass)].toArray) (v_loadw 1 ag28 sz28 R R R R)) (lS R (lI R (lI R (lM (RR kT33 A2 D2 m1.Rows :: RR kT3 A7 D7 prompt6 :: ow _ _ _ _ :: W1) (fun w s => (((s.d 4 R).d 7 R).e 3 [1, 0, 2])) ?_))))))
 refine lC 2 cb41 R (Z07_ok hx32) R ?_
 rintro ⟨A33, N33, D33⟩
 refine lN (ow kT3 3 (.slice A33 N33 D33) r31 :: _ :: W1) ?_
 refine l_len 0 sees_ow ?_
 rintro rfl
 refine lS R (l_nil (q_next (c_seq (c_region (lI R (l_nil (q_next (c_seq (c_region (lI R (l_nil (q_next (c_seq (c_cut (A := (Int) × (Unit)) (fun a => Za_J3 r31 a.1 = some r) (fun a => [(17, (sc A33 r31 D33)), (18, (iv a.1))]) (fun a => RR kT3 A33 D33 r31 :: W1) ?_ ?_))))))))))))))
 refine c_block ?_
 obtain ⟨e1, hl1, hk1⟩ := bd hr
 refine c_loop (A := Unit) hl1 (fun s a => [(3, (sc A7 prompt6 D7)), (4, (iv n8)), (5, (iv seed9)), (6, (iv ahead10)), (8, (pt b12 0)), (9, (pt b13 0)), (17, (sc A33 r31 D33)), (18, (iv s.1)), (19, (iv s.2))]) (fun s a => RR kT3 A33 D33 r31 :: W1) () (aS R) (fun w s => ((s.shr 0 R).e 2 [0])) ?_
 rintro ⟨passes79, x80⟩ _ σ1 out1 hr he1
 replace hr : Za_L1 draft3 c5 prompt6 n8 seed9 ahead10 r31 passes79 x80 = some out1 := hr
 unfold Za_L1 at hr
 refine c_seq (c_seq (c_region (lI R (lI R (lO (vLt R R) (l_nil (q_next ?_)))))))
 rcases bif_ hr with ⟨hb81, hr⟩ | ⟨hb81, hr⟩
 refine c_true R hb81 (c_skip (q_next (c_block (c_seq (c_region (lI R (lO (vAd R R) (lI R (l_nil (q_next (c_seq ?_)))))))))))
 obtain ⟨r82, hx83, hr⟩ := bd hr
 obtain ⟨hg85, hr⟩ := gd hr
 obtain ⟨hg87, hr⟩ := gd hr
 refine c_cutq (A := (Unit) × (HH)) (fun _ => True) (fun a => [(3, (sc A7 prompt6 D7)), (4, (iv n8)), (5, (iv seed9)), (6, (iv ahead10)), (8, (pt b12 0)), (9, (pt b13 0)), (17, (sc A33 r31 D33)), (18, (iv (w64 (passes79 + (1 : Int))))), (19, (iv x80)), (20, (.slice a.2.1 a.2.2.1 a.2.2.2))]) (fun a => RR kT3 A33 D33 r31 :: ow kT3 3 (.slice a.2.1 a.2.2.1 a.2.2.2) (r82 ++ (sub r31 (0 : Int) x80)) :: W1) ?_ ?_
 refine cdr 7 [] mixo (fun ht hn => (dR 0 R (vS R) (dR 2 R (vS R) (dR 3 R (vI R) (d_all [1, 4] (by kernel_rfl) R ⟨?_, ?_, trivial⟩)))))
 refine lM (RR kT3 A7 D7 prompt6 :: RR kT3 A33 D33 r31 :: W1) (fun w s => (s.d 6 R)) ?_
 refine lC 1 cb42 R (Z0v_ok hx83) R ?_
 rintro ⟨A84, N84, D84⟩
 refine lN (ow kT3 3 (.slice A84 N84 D84) r82 :: _ :: W1) ?_
 refine l_len 0 sees_ow ?_
 rintro rfl
 refine l_nil (q_draw (sL [0]) (d1 4 R (l_cut (K := kT3) (0 : Int) x80 1 R R sl29 sz3 R R R R hg85.1 hg85.2.1 hg85.2.2 (fun A86 D86 => (l_nil (q_draw (sL [1, 0]) (d1 5 R (lM (_ :: RR kT3 A86 D86 (sub r31 (0 : Int) x80) :: RR kT3 A86 D86 (sub r31 (0 : Int) x80) :: _ :: W1) (fun w s => ((s.dup 0 R).mv 2)) ?_))))))))
 refine l_app (K := kT3) 17592186044416 R R sl29 sz3 by3 (Zr.zk zT3 zc3) R R R R R R (src_rd (Kind.scal_flat _ _)) hg87 (fun A88 D88 => (lN (OO kT3 3 A88 D88 (r82 ++ (sub r31 (0 : Int) x80)) :: _ :: _ :: W1) ?_))
 refine l_nil (q_draw (sL [1, 0]) (dR 6 R (vS R) (hS := (sL [1, 0])) (dD ?_)))
 exact q_join ((), (A88, (r82 ++ (sub r31 (0 : Int) x80)).length, D88)) trivial (aS R) (fun w s => (s.e 3 [2, 0]))
 refine l_cut (K := kT3) (0 : Int) x80 0 R R sl29 sz3 R R R R hg85.1 hg85.2.1 hg85.2.2 (fun A86 D86 => (l_nil (q_draw (sL [0]) (d1 1 R (lM (RR kT3 A7 D7 prompt6 :: _ :: _ :: W1) (fun w s => (s.d 7 R)) ?_)))))
 refine lC 1 cb42 R (Z0v_ok hx83) R ?_
 rintro ⟨A84, N84, D84⟩
 refine lN (ow kT3 3 (.slice A84 N84 D84) r82 :: _ :: _ :: W1) ?_
 refine l_len 0 sees_ow ?_
 rintro rfl
 refine l_nil (q_draw (sL [1, 0]) (d1 5 R (lM (_ :: _ :: _ :: _ :: W1) (fun w s => ((s.dup 1 R).mv 1)) ?_)))
 refine l_app (K := kT3) 17592186044416 R R sl29 sz3 by3 (Zr.zk zT3 zc3) R R R R R R (src_rd (Kind.scal_flat _ _)) hg87 (fun A88 D88 => (lN (OO kT3 3 A88 D88 (r82 ++ (sub r31 (0 : Int) x80)) :: _ :: _ :: W1) ?_))
 refine l_nil (q_draw (sL [1, 0]) (dR 6 R (vS R) (hS := (sL [1, 0])) (dD ?_)))
 exact q_join ((), (A88, (r82 ++ (sub r31 (0 : Int) x80)).length, D88)) trivial (aS R) (fun w s => (s.e 3 [2, 0]))
 rintro ⟨_, ⟨A89, N89, D89⟩⟩ σ1 -
 refine q_len 1 sees_ow (fun (hn : N89 = (r82 ++ (sub r31 (0 : Int) x80)).length) => ?_)
 subst hn
 refine q_next (c_seq (c_region (lI R (l_nil (q_next (c_seq (c_region (lB R (l_nil (q_next (c_seq (c_cut (A := (Int × Bool) × (Unit)) (fun a => Za_J2 n8 passes79 a.1.1 a.1.2 = some out1) (fun a => [(3, (sc A7 prompt6 D7)), (4, (iv n8)), (5, (iv seed9)), (6, (iv ahead10)), (8, (pt b12 0)), (9, (pt b13 0)), (17, (sc A33 r31 D33)), (18, (iv (w64 (passes79 + (1 : Int))))), (19, (iv a.1.1)), (22, (.bool a.1.2))]) (fun a => RR kT3 A33 D33 r31 :: W1) ?_ ?_))))))))))))
 refine c_block ?_
 obtain ⟨e2, hl2, hk2⟩ := bd hr
 refine c_loop (A := HH) hl2 (fun s a => [(3, (sc A7 prompt6 D7)), (4, (iv n8)), (5, (iv seed9)), (6, (iv ahead10)), (8, (pt b12 0)), (9, (pt b13 0)), (17, (sc A33 r31 D33)), (18, (iv (w64 (passes79 + (1 : Int))))), (19, (iv s.1)), (20, (.slice a.1 a.2.1 a.2.2)), (21, (iv s.2.2.1)), (22, (.bool s.2.2.2))]) (fun s a => RR kT3 A33 D33 r31 :: ow kT3 3 (.slice a.1 a.2.1 a.2.2) s.2.1 :: W1) (A89, (r82 ++ (sub r31 (0 : Int) x80)).length, D89) (aS R) (fun w s => s) ?_
 rintro ⟨x101, all102, k104, same105⟩ ⟨A103, N103, D103⟩ σ1 out2 hr he2
 replace hr : Za_L2 draft3 c5 n8 seed9 ahead10 r31 x101 all102 k104 same105 = some out2 := hr
 unfold Za_L2 at hr
 refine c_len 1 sees_ow (fun (hn : N103 = all102.length) => ?_)
 subst hn
 refine c_seq (c_seq (cQ [(3, (sc A7 prompt6 D7)), (4, (iv n8)), (5, (iv seed9)), (6, (iv ahead10)), (8, (pt b12 0)), (9, (pt b13 0)), (17, (sc A33 r31 D33)), (18, (iv (w64 (passes79 + (1 : Int))))), (19, (iv x101)), (20, (sc A103 all102 D103)), (21, (iv k104)), (22, (.bool same105)), (84, (.bool (((decide (k104 < ahead10)) && (decide (x101 < n8))) && same105)))] (RR kT3 A33 D33 r31 :: OO kT3 3 A103 D103 all102 :: W1) ?_ ?_))
 refine c_region (lI R (lI R (lO (vLt R R) (lB R ?_))))
 rcases bo (decide (k104 < ahead10)) with hc106 | hc106
 refine lW (wnT hc106) (vI R) (lW (wnT hc106) (vI R) (lW (wnT hc106) (vLt R R) (lO (pAT R hc106 R) (lB R ?_))))
 rcases bo ((decide (k104 < ahead10)) && (decide (x101 < n8))) with hc107 | hc107
 refine lW (wnT hc107) (vB R) (lO (pAT R hc107 R) (l_nil ?_))
 exact qJ (fun w s => s)
 refine lf (wfF hc107) (lO (pAF same105 R hc107) (l_nil ?_))
 exact qJ (fun w s => s)
 refine lf (wfF hc106) (lf (wfF hc106) (lf (wfF hc106) (lO (pAF (decide (x101 < n8)) R hc106) (lB R (lf (wfF (aF hc106)) (lO (pAF same105 R (aF hc106)) (l_nil ?_)))))))
 exact qJ (fun w s => s)
 rintro σ1
 refine q_next ?_
 rcases bif_ hr with ⟨hb108, hr⟩ | ⟨hb108, hr⟩
 refine c_true R hb108 (c_skip (q_next (c_block (c_seq ?_))))
 obtain ⟨r109, hx110, hr⟩ := bd hr
 obtain ⟨hg111, hr⟩ := gd hr
 refine c_some 0 sees_rd (show 0 < r31.length by have := hg111; omega) (fun g112 o113 ha => ?_)
 subst ha
 refine cdr 12 [] mixo (fun ht hn => (dR 0 R (vz (.agg [(iv draft3.Size), (sc A4 draft3.Rows D4)].toArray) (v_loadw 3 ag26 sz26 R R R R)) (dR 1 R (vz (.agg [(iv c5.Power), (iv c5.Cut), (iv c5.Mass)].toArray) (v_loadw 2 ag28 sz28 R R R R)) (dR 2 R (vS R) (dR 3 R (vI R) (dR 4 R (vI R) (dR 6 R (vS R) (dR 7 R (vI R) (dR 8 R (vIa sl29 sz3 R R hg111) (dR 9 R (vLi 0 ag3 sees_rd R hg111) (d1 5 R (lM (OO kT3 3 A103 D103 all102 :: RR kT33 A4 D4 draft3.Rows :: RR kT3 (ad g112 o113) D33 r31 :: W1) (fun w s => ((s.d 6 R).e 3 [2, 0, 1])) ?_))))))))))))
 refine lC 2 cb43 R (FnOk.lends (A' := [OO kT3 3 A103 D103 all102]) (A := [RR kT3 A103 D103 all102]) (B := [RR kT33 A4 D4 draft3.Rows]) (FnOk.perm (Zg_ok hx110) (Pre' := [RR kT3 A103 D103 all102, RR kT33 A4 D4 draft3.Rows]) (fun _ _ _ s => (s.e 2 [1, 0]))) ⟨lend_ow, trivial⟩ (fun _ => trivial)) R ?_
 rintro _
 refine lN (_ :: _ :: W1) ?_
 refine l_nil (q_draw (fun w s => (s.e 2 [1, 0])) (dR 10 R (vEq R R) (hS := (fun w s => (s.e 2 [1, 0]))) (dR 11 R (vB R) (hS := (fun w s => (s.e 2 [1, 0]))) (dD (q_next (c_seq ?_))))))
 obtain ⟨hg115, hr⟩ := gd hr
 refine c_region (lS R (lS R (lI R (lO (vIa sl29 sz3 R R hg111) (lO (vLi 1 ag3 sees_rd R hg111) (l_build (K := kT3) (xs := ([(ix r31 x101)] : List Int)) (vs := [(iv (ix r31 x101))]) 0 R R sl29 sz3 zc3 R R R R R R ?_ R (fun A114 D114 => ?_)))))))
 exact fun I h s => (mO3).list [((), (ix r31 x101))] I h s
 refine lN (OO kT3 3 A114 D114 ([(ix r31 x101)] : List Int) :: _ :: _ :: W1) ?_
 refine lM (ow _ _ _ _ :: ow _ _ _ _ :: rds _ _ _ :: W1) (fun w s => (s.e 3 [1, 0, 2])) ?_
 refine l_app (K := kT3) 17592186044416 R R sl29 sz3 by3 (Zr.zk zT3 zc3) R R R R R R src_ow hg115 (fun A116 D116 => (lN (OO kT3 3 A116 D116 (all102 ++ ([(ix r31 x101)] : List Int)) :: _ :: W1) ?_))
 refine lS R (l_nil (q_next (c_seq (c_region (lI R (lO (vAd R R) (lI R (l_nil (q_next (c_region (lI R (lO (vAd R R) (lI R (l_nil (q_blockn ?_)))))))))))))))
 obtain rfl := so hr
 exact qA (A116, (all102 ++ ([(ix r31 x101)] : List Int)).length, D116) (fun w s => (s.e 2 [1, 0]))
 refine c_false R hb108 (c_exit (q_exit ?_))
 obtain rfl := so hr
 obtain rfl := he2 _ R
 have hr := hk2
 refine q_exit (q_block ?_)
 exact qI ((x101, same105), ()) hr (fun w s => (s.e 2 [0]))
 rintro ⟨⟨x122, same123⟩, _⟩ σ1 hr
 replace hr : Za_J2 n8 passes79 x122 same123 = some out1 := hr
 unfold Za_J2 at hr
 refine c_seq (cQ [(3, (sc A7 prompt6 D7)), (4, (iv n8)), (5, (iv seed9)), (6, (iv ahead10)), (8, (pt b12 0)), (9, (pt b13 0)), (17, (sc A33 r31 D33)), (18, (iv (w64 (passes79 + (1 : Int))))), (19, (iv x122)), (112, (.bool (same123 && (decide (x122 < n8)))))] (RR kT3 A33 D33 r31 :: W1) ?_ ?_)
 refine c_region (lB R (lB R ?_))
 rcases bo same123 with hc124 | hc124
 refine lW (wnT hc124) (vI R) (lW (wnT hc124) (vI R) (lW (wnT hc124) (vLt R R) (lO (pAT R hc124 R) (l_nil ?_))))
 exact qJ (fun w s => s)
 refine lf (wfF hc124) (lf (wfF hc124) (lf (wfF hc124) (lO (pAF (decide (x122 < n8)) R hc124) (l_nil ?_))))
 exact qJ (fun w s => s)
 rintro σ1
 refine q_next ?_
 rcases bif_ hr with ⟨hb125, hr⟩ | ⟨hb125, hr⟩
 refine c_true R hb125 (c_region (lI R (lO (vAd R R) (lI R (l_nil (q_blockn ?_))))))
 obtain rfl := so hr
 exact qA () (fun w s => s)
 refine c_false R hb125 (c_skip (q_blockn ?_))
 obtain rfl := so hr
 exact qA () (fun w s => s)
 refine c_false R hb81 (c_exit (q_exit ?_))
 obtain rfl := so hr
 obtain rfl := he1 _ R
 have hr := hk1
 refine q_exit (q_block ?_)
 exact qI (passes79, ()) hr (fun w s => s)
 rintro ⟨passes128, _⟩ σ1 hr
 replace hr : Za_J3 r31 passes128 = some r := hr
 unfold Za_J3 at hr
 refine c_seq (c_region (lS R (lI R (lS R (lI R (l_nil (q_next (c_ret ?_))))))))
 obtain rfl := so hr
 exact q_fin (vs := [(sc A33 r31 D33), (iv passes128)]) (.inl R) (A33, r31.length, D33) R ⟨R, R, trivial⟩ R (fun w s => (s.e 7 [0]))
theorem Z0f_ok  {a1 : (List Int)} {b3 : (List Int)} {r : Bool} (hr : Z0f a1 b3 = some r) :
 FnOk Try.prog 10 [(.slice A2 N2 D2), (.slice A4 N4 D4)] [rds kT3 (.slice A2 N2 D2) a1, rds kT3 (.slice A4 N4 D4) b3] (fun (h : Unit) => ((.bool r), [])) := by
 unfold Z0f at hr
 refine fn_ok Try.func10 R 26 R R fun C V => ?_
 refine cN (_ :: _ :: V) ?_
 refine cL 0 sees_rd ?_
 rintro rfl
 refine cL 1 sees_rd ?_
 rintro rfl
 let W0 : List HP := RR kT3 A2 D2 a1 :: RR kT3 A4 D4 b3 :: V
 refine cN W0 ?_
 refine c_seq (c_region (lB R (l_nil (q_next (c_seq (c_seq (c_region (lS R (lO (v_len sl29 R) (lS R (lO (v_len sl29 R) (lO (vNe R R) (l_nil (q_next ?_))))))))))))))
 rcases bif_ hr with ⟨hb5, hr⟩ | ⟨hb5, hr⟩
 refine c_true R hb5 (c_seq (c_region (lB R (l_nil (q_next (c_ret (q_ret ?_)))))))
 obtain rfl := so hr
 exact qF () (fun w s => (s.e 2 []))
 refine c_false R hb5 (c_skip (q_next (c_seq (c_cut (A := (Unit) × (Unit)) (fun a => Z0f_J1 = some r) (fun a => []) (fun a => W0) ?_ ?_))))
 refine c_seq (c_region (lI R (l_nil (q_next (c_block ?_)))))
 obtain ⟨e1, hl1, hk1⟩ := bd hr
 refine c_loop (A := Unit) hl1 (fun s a => [(0, (sc A2 a1 D2)), (1, (sc A4 b3 D4)), (5, (iv s))]) (fun s a => W0) () (aS R) (fun w s => s) ?_
 rintro i14 _ σ1 out1 hr he1
 replace hr : Z0f_L1 a1 b3 i14 = some out1 := hr
 unfold Z0f_L1 at hr
 refine c_seq (c_seq (c_region (lI R (lS R (lO (v_len sl29 R) (lO (vLt R R) (l_nil (q_next ?_))))))))
 rcases bif_ hr with ⟨hb15, hr⟩ | ⟨hb15, hr⟩
 refine c_true R hb15 (c_skip (q_next (c_seq (c_block (c_seq ?_)))))
 obtain ⟨hg16, hr⟩ := gd hr
 obtain ⟨hg19, hr⟩ := gd hr
 refine c_some 0 sees_rd (show 0 < a1.length by have := hg16; omega) (fun g17 o18 ha => ?_)
 subst ha
 refine c_some 1 sees_rd (show 0 < b3.length by have := hg19; omega) (fun g20 o21 ha => ?_)
 subst ha
 refine cdr 9 [] mixo (fun ht hn => (dR 0 R (vS R) (dR 1 R (vI R) (dR 2 R (vIa sl29 sz3 R R hg16) (dR 3 R (vLi 0 ag3 sees_rd R hg16) (dR 4 R (vS R) (dR 5 R (vI R) (dR 6 R (vIa sl29 sz3 R R hg19) (dR 7 R (vLi 1 ag3 sees_rd R hg19) (dR 8 R (vNe R R) (dD (q_next ?_))))))))))))
 rcases bif_ hr with ⟨hb22, hr⟩ | ⟨hb22, hr⟩
 refine c_true R hb22 (c_seq (c_region (lB R (l_nil (q_next (c_ret (q_blockr (q_ret ?_))))))))
 obtain rfl := so hr
 obtain rfl := he1 _ R
 have hr := hk1
 refine q_ret (q_blockr (q_ret ?_))
 obtain rfl := so hr
 exact qF () (fun w s => (s.e 2 []))
 refine c_false R hb22 (c_skip (q_blockn (q_next (c_region (lI R (lO (vAd R R) (lI R (l_nil ?_))))))))
 obtain rfl := so hr
 exact qA () (fun w s => s)
 refine c_false R hb15 (c_exit (q_exit ?_))
 obtain rfl := so hr
 obtain rfl := he1 _ R
 have hr := hk1
 refine q_exit (q_block ?_)
 exact q_join ((), ()) hr trivial (fun w s => s)
 rintro ⟨_, _⟩ σ1 hr
 replace hr : Z0f_J1 = some r := hr
 unfold Z0f_J1 at hr
 refine c_seq (c_region (lB R (l_nil (q_next (c_ret ?_)))))
 obtain rfl := so hr
 exact qF () (fun w s => (s.e 2 []))
theorem Z1i_ok  {code1 : (List Int)} {r : Bool} (hr : Z1i code1 = some r) :
 FnOk Try.prog 3 [(.slice A2 N2 D2)] [rds kT5 (.slice A2 N2 D2) code1] (fun (h : Unit) => ((.bool r), [])) := by
 unfold Z1i at hr
 refine fn_ok Try.func3 R 123 R R fun C V => ?_
 refine cN (_ :: V) ?_
 refine cL 0 sees_rd ?_
 rintro rfl
 let W0 : List HP := RR kT5 A2 D2 code1 :: V
 refine cN W0 ?_
 refine c_seq (c_region (lB R (l_nil (q_next (c_seq (c_seq ?_))))))
 obtain ⟨r3, hx4, hr⟩ := bd hr
 refine c_region (lS R (lM (RR kT5 A2 D2 code1 :: W0) (fun w s => (s.d 0 R)) ?_))
 refine lC 1 cb5 R (Z1g_ok hx4) R ?_
 rintro _
 refine lN W0 ?_
 refine l_nil (q_next ?_)
 rcases bif_ hr with ⟨hb5, hr⟩ | ⟨hb5, hr⟩
 refine c_true R hb5 (c_seq (c_region (lB R (l_nil (q_next (c_ret (q_ret ?_)))))))
 obtain rfl := so hr
 exact qF () (fun w s => (s.e 1 []))
 refine c_false R hb5 (c_skip (q_next (c_seq ?_)))
 obtain ⟨r6, hx7, hr⟩ := bd hr
 refine c_region (lS R (lM (RR kT5 A2 D2 code1 :: W0) (fun w s => (s.d 0 R)) ?_))
 refine lC 1 cb6 R (Z0k_ok hx7) R ?_
 rintro ⟨⟨A8, N8, D8⟩, ⟨A9, N9, D9⟩, ⟨A10, N10, D10⟩⟩
 refine lN (rds kT33 (.slice A8 N8 D8) r6.1.Rows :: rds kT33 (.slice A9 N9 D9) r6.2.1.Rows :: ow kT3 3 (.slice A10 N10 D10) r6.2.2.2.1 :: W0) ?_
 refine l_len 0 sees_rd ?_
 rintro rfl
 refine l_len 1 sees_rd ?_
 rintro rfl
 refine l_len 2 sees_ow ?_
 rintro rfl
 refine lO (vT R) (lO (vA R) (lO (vA R) (lO (vA R) (lS R (lI R (lI R (lI R (l_alloc R R zc26 (fun b11 => (l_alloc R R zc26 (fun b12 => (l_alloc R R zc28 (fun b13 => (l_stores 2 R R sz26 R R R R R R (lN (_ :: _ :: bxl b11 [(iv r6.1.Size), (sc A8 r6.1.Rows D8)] 26 :: _ :: _ :: _ :: W0) ?_)))))))))))))))
 refine l_stores 1 R R sz26 R R R R R R (lN (_ :: bxl b12 [(iv r6.2.1.Size), (sc A9 r6.2.1.Rows D9)] 26 :: _ :: _ :: _ :: _ :: W0) ?_)
 refine l_stores 0 R R sz28 R R R R R R (lN (bxl b13 [(iv r6.2.2.1.Power), (iv r6.2.2.1.Cut), (iv r6.2.2.1.Mass)] 28 :: _ :: _ :: _ :: _ :: _ :: W0) ?_)
 refine lS R (lI R (lI R (lI R (l_nil (q_next (c_seq (c_region (l_build (K := kT3) (xs := ([(1 : Int)] : List Int)) (vs := [(iv 1)]) 0 R R sl29 sz3 zc3 R R R R R R ?_ R (fun A14 D14 => ?_)))))))))
 exact fun I h s => (mO3).list [((), (1 : Int))] I h s
 refine lN (OO kT3 3 A14 D14 ([(1 : Int)] : List Int) :: _ :: _ :: _ :: _ :: _ :: _ :: W0) ?_
 refine lO (vz (.agg [(.slice none 0 0), (sc A14 ([(1 : Int)] : List Int) D14)].toArray) (v_build pl33 zc33 R R)) (lM (ow kT3 3 (.slice none 0 0) ([] : List Int) :: _ :: _ :: _ :: _ :: _ :: _ :: _ :: W0) (fun w s => (s.nilo kT3 3)) ?_)
 refine l_build (K := kT33) (xs := ([(⟨([] : List Int), ([(1 : Int)] : List Int)⟩ : Row)] : List Row)) (vs := [(.agg [(.slice none 0 0), (sc A14 ([(1 : Int)] : List Int) D14)].toArray)]) 2 R R sl24 sz33 zc33 R R R R R R ?_ R (fun A15 D15 => ?_)
 exact fun I h s => (mO33).list [(((.slice none 0 0), (sc A14 ([(1 : Int)] : List Int) D14)), (⟨([] : List Int), ([(1 : Int)] : List Int)⟩ : Row))] I h s
 refine lN (OO kT33 33 A15 D15 ([(⟨([] : List Int), ([(1 : Int)] : List Int)⟩ : Row)] : List Row) :: _ :: _ :: _ :: _ :: _ :: _ :: W0) ?_
 generalize hone : ([(⟨([] : List Int), ([(1 : Int)] : List Int)⟩ : Row)] : List Row) = one at hr ⊢
 refine lO (vz (.agg [(iv 1), (sc A15 one D15)].toArray) (v_build pl26 zc26 R R)) (l_alloc R R zc26 (fun b16 => (l_stores 0 R R sz26 R R R R R R (lN (bxl b16 [(iv 1), (sc A15 one D15)] 26 :: _ :: _ :: _ :: _ :: _ :: _ :: _ :: W0) ?_))))
 refine l_nil (q_next (c_seq ?_))
 obtain ⟨r18, hx19, hr⟩ := bd hr
 refine c_region (lO (vz (.agg [(iv 1), (sc A15 one D15)].toArray) (v_loadw 0 ag26 sz26 R R R R)) (lO (vz (.agg [(iv 1), (sc A15 one D15)].toArray) (v_loadw 0 ag26 sz26 R R R R)) (lO (vz (.agg [(iv 1), (iv 0), (iv 1)].toArray) (v_build pl28 zc28 R R)) (l_build (K := kT3) (xs := ([] : List Int)) (vs := []) 0 R R sl29 sz3 zc3 R R R R R R ?_ R (fun A17 D17 => ?_)))))
 exact fun I h s => (mO3).list [] I h s
 refine lN (OO kT3 3 A17 D17 ([] : List Int) :: _ :: _ :: _ :: _ :: _ :: _ :: _ :: _ :: W0) ?_
 refine l_st (fun w s => s.shr 2 R) (lM (ow _ _ _ _ :: RR kT33 A15 D15 one :: RR kT33 A15 D15 one :: RR kT33 A15 D15 one :: bxl _ _ _ :: bxl _ _ _ :: bxl _ _ _ :: bxl _ _ _ :: rds _ _ _ :: rds _ _ _ :: ow _ _ _ _ :: W0) (fun w s => (((s.d 0 R).d 1 R).f 11 [3, 1, 1, 1, 0, 1, 2, 1, 4, 7])) ?_)
 have hc : FnOk Try.prog 7 [(.agg [(iv 1), (sc A15 one D15)].toArray), (.agg [(iv 1), (sc A15 one D15)].toArray), (.agg [(iv 1), (iv 0), (iv 1)].toArray), (sc A17 ([] : List Int) D17), (iv 4), (iv 0), (iv 3)] [RR kT33 A15 D15 one, RR kT33 A15 D15 one, RR kT3 A17 D17 ([] : List Int)] (fun (h : HH) => ((.tuple [(.slice h.1 h.2.1 h.2.2), (iv r18.2)].toArray), [ow kT3 3 (.slice h.1 h.2.1 h.2.2) r18.1])) := Z5_ok hx19
 refine lC 3 cb7 R (FnOk.lends (A' := [OO kT3 3 A17 D17 ([] : List Int)]) (A := [RR kT3 A17 D17 ([] : List Int)]) (B := [RR kT33 A15 D15 one, RR kT33 A15 D15 one]) (FnOk.perm hc (Pre' := [RR kT3 A17 D17 ([] : List Int), RR kT33 A15 D15 one, RR kT33 A15 D15 one]) (fun _ _ _ s => (s.e 3 [1, 2, 0]))) ⟨lend_ow, trivial⟩ (fun _ => ⟨(closed_ow cT3), trivial⟩)) R ?_
 rintro ⟨A20, N20, D20⟩
 refine lN (_ :: ow kT3 3 (.slice A20 N20 D20) r18.1 :: _ :: _ :: _ :: _ :: _ :: _ :: _ :: _ :: W0) ?_
 refine l_len 1 sees_ow ?_
 rintro rfl
 refine lO (vT R) (lS R (lI R (lS R (lI R (l_nil (q_next (c_seq (c_seq (cQ [(3, (pt b11 0)), (4, (pt b12 0)), (5, (pt b13 0)), (6, (sc A10 r6.2.2.2.1 D10)), (7, (iv r6.2.2.2.2.1)), (8, (iv r6.2.2.2.2.2.1)), (9, (iv r6.2.2.2.2.2.2)), (50, (.bool (((r18.1.length : Int) != (4 : Int)) || (r18.2 != (1 : Int)))))] (bxl b11 [(iv r6.1.Size), (sc A8 r6.1.Rows D8)] 26 :: RR kT33 A8 D8 r6.1.Rows :: bxl b12 [(iv r6.2.1.Size), (sc A9 r6.2.1.Rows D9)] 26 :: RR kT33 A9 D9 r6.2.1.Rows :: bxl b13 [(iv r6.2.2.1.Power), (iv r6.2.2.1.Cut), (iv r6.2.2.1.Mass)] 28 :: OO kT3 3 A10 D10 r6.2.2.2.1 :: W0) ?_ ?_)))))))))
 refine c_region (lS R (lO (v_len sl29 R) (lO (vNe R R) (lB R ?_))))
 rcases bo ((r18.1.length : Int) != (4 : Int)) with hc21 | hc21
 refine lf (wfT hc21) (lf (wfT hc21) (lO (pOT (r18.2 != (1 : Int)) R hc21) (l_nil ?_)))
 exact qJ (fun w s => (s.e 10 [6, 7, 5, 8, 4, 9]))
 refine lW (wnF hc21) (vI R) (lW (wnF hc21) (vNe R R) (lO (pOF R hc21 R) (l_nil ?_)))
 exact qJ (fun w s => (s.e 10 [6, 7, 5, 8, 4, 9]))
 rintro σ1
 refine q_next ?_
 rcases bif_ hr with ⟨hb22, hr⟩ | ⟨hb22, hr⟩
 refine c_true R hb22 (c_seq (c_region (lB R (l_nil (q_next (c_ret (q_ret ?_)))))))
 obtain rfl := so hr
 exact qF () (fun w s => (s.e 7 []))
 refine c_false R hb22 (c_skip (q_next (c_seq ?_)))
 obtain ⟨r23, hx24, hr⟩ := bd hr
 refine c_region (lO (vz (.agg [(iv r6.1.Size), (sc A8 r6.1.Rows D8)].toArray) (v_loadw 0 ag26 sz26 R R R R)) (lO (vz (.agg [(iv r6.2.2.1.Power), (iv r6.2.2.1.Cut), (iv r6.2.2.1.Mass)].toArray) (v_loadw 4 ag28 sz28 R R R R)) (lS R (lI R (lI R (lM (ow _ _ _ _ :: rds _ _ _ :: bxl _ _ _ :: rds _ _ _ :: bxl _ _ _ :: rds _ _ _ :: bxl _ _ _ :: W0) (fun w s => ((s.d 1 R).f 7 [6, 1, 0, 6])) ?_))))))
 refine lC 2 cb8 R (FnOk.lends (A' := [OO kT3 3 A10 D10 r6.2.2.2.1]) (A := [RR kT3 A10 D10 r6.2.2.2.1]) (B := [RR kT33 A8 D8 r6.1.Rows]) (FnOk.perm (Z04_ok hx24) (Pre' := [RR kT3 A10 D10 r6.2.2.2.1, RR kT33 A8 D8 r6.1.Rows]) (fun _ _ _ s => (s.e 2 [1, 0]))) ⟨lend_ow, trivial⟩ (fun _ => ⟨(closed_ow cT3), trivial⟩)) R ?_
 rintro ⟨A25, N25, D25⟩
 refine lN (_ :: ow kT3 3 (.slice A25 N25 D25) r23 :: _ :: _ :: _ :: _ :: _ :: W0) ?_
 refine l_len 1 sees_ow ?_
 rintro rfl
 refine lS R (l_nil (q_next (c_seq ?_)))
 obtain ⟨r26, hx27, hr⟩ := bd hr
 refine c_region (lO (vz (.agg [(iv r6.1.Size), (sc A8 r6.1.Rows D8)].toArray) (v_loadw 2 ag26 sz26 R R R R)) (lO (vz (.agg [(iv r6.2.1.Size), (sc A9 r6.2.1.Rows D9)].toArray) (v_loadw 4 ag26 sz26 R R R R)) (lO (vz (.agg [(iv r6.2.2.1.Power), (iv r6.2.2.1.Cut), (iv r6.2.2.1.Mass)].toArray) (v_loadw 6 ag28 sz28 R R R R)) (lS R (lI R (lI R (lI R (lM (ow _ _ _ _ :: rds _ _ _ :: rds _ _ _ :: ow _ _ _ _ :: bxl _ _ _ :: rds _ _ _ :: bxl _ _ _ :: rds _ _ _ :: bxl _ _ _ :: W0) (fun w s => (((s.d 3 R).d 6 R).f 9 [2, 1, 1, 1, 0, 1, 3, 6])) ?_))))))))
 refine lC 3 cb7 R (FnOk.lends (A' := [OO kT3 3 A10 D10 r6.2.2.2.1]) (A := [RR kT3 A10 D10 r6.2.2.2.1]) (B := [RR kT33 A8 D8 r6.1.Rows, RR kT33 A9 D9 r6.2.1.Rows]) (FnOk.perm (Z5_ok hx27) (Pre' := [RR kT3 A10 D10 r6.2.2.2.1, RR kT33 A8 D8 r6.1.Rows, RR kT33 A9 D9 r6.2.1.Rows]) (fun _ _ _ s => (s.e 3 [1, 2, 0]))) ⟨lend_ow, trivial⟩ (fun _ => ⟨(closed_ow cT3), trivial⟩)) R ?_
 rintro ⟨A28, N28, D28⟩
 refine lN (_ :: ow kT3 3 (.slice A28 N28 D28) r26.1 :: _ :: _ :: _ :: _ :: _ :: _ :: W0) ?_
 refine l_len 1 sees_ow ?_
 rintro rfl
 refine lO (vT R) (lS R (lI R (lS R (lI R (l_nil (q_next (c_seq (c_seq ?_))))))))
 obtain ⟨r29, hx30, hr⟩ := bd hr
 refine c_region (lO (vz (.agg [(iv r6.1.Size), (sc A8 r6.1.Rows D8)].toArray) (v_loadw 3 ag26 sz26 R R R R)) (lO (vz (.agg [(iv r6.2.1.Size), (sc A9 r6.2.1.Rows D9)].toArray) (v_loadw 5 ag26 sz26 R R R R)) (lO (vz (.agg [(iv r6.2.2.1.Power), (iv r6.2.2.1.Cut), (iv r6.2.2.1.Mass)].toArray) (v_loadw 7 ag28 sz28 R R R R)) (lS R (lI R (lI R (lI R (l_st (fun w s => s.shr 0 R) (lM (rds _ _ _ :: rds _ _ _ :: RR kT3 A10 D10 r6.2.2.2.1 :: RR kT3 A10 D10 r6.2.2.2.1 :: ow _ _ _ _ :: ow _ _ _ _ :: bxl _ _ _ :: rds _ _ _ :: bxl _ _ _ :: rds _ _ _ :: bxl _ _ _ :: W0) (fun w s => ((((s.d 4 R).d 7 R).d 2 R).f 11 [2, 1, 1, 1, 0, 1, 3, 8])) ?_)))))))))
 refine lC 3 cb9 R (Za_ok hx30) R ?_
 rintro ⟨A31, N31, D31⟩
 refine lN (rds kT3 (.slice A31 N31 D31) r29.1 :: _ :: _ :: _ :: _ :: _ :: _ :: _ :: _ :: W0) ?_
 refine l_len 0 sees_rd ?_
 rintro rfl
 refine lO (vT R) (lS R (lI R (lS R (lI R (l_nil (q_next (c_seq (c_region (lS R (lO (v_len sl29 R) (lS R (lO (v_len sl29 R) (lO (vNe R R) (l_nil (q_next ?_)))))))))))))))
 rcases bif_ hr with ⟨hb32, hr⟩ | ⟨hb32, hr⟩
 refine c_true R hb32 (c_seq (c_region (lB R (l_nil (q_next (c_ret (q_ret ?_)))))))
 obtain rfl := so hr
 exact qF () (fun w s => (s.e 10 []))
 refine c_false R hb32 (c_skip (q_next (c_seq (c_seq (c_region (lS R (lO (v_len sl29 R) (lO (vEq R R) (l_nil (q_next ?_))))))))))
 rcases bif_ hr with ⟨hb33, hr⟩ | ⟨hb33, hr⟩
 refine c_true R hb33 (c_seq (c_region (lI R (lO (vEq R R) (lB R (l_nil (q_next (c_ret (q_ret ?_)))))))))
 obtain rfl := so hr
 exact qF () (fun w s => (s.e 10 []))
 refine c_false R hb33 (c_skip (q_next (c_seq ?_)))
 obtain ⟨r34, hx35, hr⟩ := bd hr
 refine c_region (lO (vz (.agg [(iv r6.1.Size), (sc A8 r6.1.Rows D8)].toArray) (v_loadw 4 ag26 sz26 R R R R)) (lO (vz (.agg [(iv r6.1.Size), (sc A8 r6.1.Rows D8)].toArray) (v_loadw 4 ag26 sz26 R R R R)) (lO (vz (.agg [(iv r6.2.2.1.Power), (iv r6.2.2.1.Cut), (iv r6.2.2.1.Mass)].toArray) (v_loadw 8 ag28 sz28 R R R R)) (lS R (lI R (lI R (lI R (lM (rds _ _ _ :: rds _ _ _ :: rds _ _ _ :: rds _ _ _ :: rds _ _ _ :: ow _ _ _ _ :: ow _ _ _ _ :: bxl _ _ _ :: rds _ _ _ :: bxl _ _ _ :: rds _ _ _ :: bxl _ _ _ :: W0) (fun w s => ((((s.d 5 R).d 6 R).d 3 R).f 12 [2, 1, 1, 1, 0, 1, 3, 9])) ?_))))))))
 refine lC 3 cb7 R (Z5_ok hx35) R ?_
 rintro ⟨A36, N36, D36⟩
 refine lN (ow kT3 3 (.slice A36 N36 D36) r34.1 :: _ :: _ :: _ :: _ :: _ :: _ :: _ :: _ :: _ :: W0) ?_
 refine l_len 0 sees_ow ?_
 rintro rfl
 refine lO (vT R) (lS R (lI R (lS R (lI R (l_nil (q_next (c_seq ?_)))))))
 obtain ⟨r37, hx38, hr⟩ := bd hr
 obtain ⟨r39, hx40, hr⟩ := bd hr
 obtain ⟨hg41, hr⟩ := gd hr
 refine cQ [(2, (.bool (((r37 && r39) && (decide (r26.2 ≤ r6.2.2.2.2.1))) && (r34.2 == (w64 ((w64 (r6.2.2.2.2.1 + r6.2.2.2.2.2.2)).tdiv (w64 (r6.2.2.2.2.2.2 + (1 : Int)))))))))] (W0) ?_ ?_
 refine c_region (lS R (lS R (lM (ow _ _ _ _ :: ow _ _ _ _ :: ow _ _ _ _ :: rds _ _ _ :: rds _ _ _ :: bxl _ _ _ :: rds _ _ _ :: bxl _ _ _ :: rds _ _ _ :: bxl _ _ _ :: W0) (fun w s => (s.f 10 [3, 2, 0, 3, 5, 5])) ?_)))
 refine lC 2 cb10 R (FnOk.lends (A' := [OO kT3 3 A28 D28 r26.1, OO kT3 3 A25 D25 r23]) (A := [RR kT3 A28 D28 r26.1, RR kT3 A25 D25 r23]) (B := []) (Z0f_ok hx38) ⟨lend_ow, lend_ow, trivial⟩ (fun _ => trivial)) R ?_
 rintro _
 refine lB R ?_
 rcases bo r37 with hc42 | hc42
 refine lW (wnT hc42) (vS R) (lW (wnT hc42) (vS R) (lM (ow _ _ _ _ :: ow _ _ _ _ :: ow _ _ _ _ :: rds _ _ _ :: rds _ _ _ :: bxl _ _ _ :: rds _ _ _ :: bxl _ _ _ :: rds _ _ _ :: bxl _ _ _ :: W0) (fun w s => (s.f 10 [2, 1, 1, 1, 0, 1, 3, 7])) ?_))
 refine l_calln 2 R (wnT hc42) cb10 R (FnOk.lends (A' := [OO kT3 3 A36 D36 r34.1, OO kT3 3 A25 D25 r23]) (A := [RR kT3 A36 D36 r34.1, RR kT3 A25 D25 r23]) (B := []) (Z0f_ok (gcall_t hx40 hc42)) ⟨lend_ow, lend_ow, trivial⟩ (fun _ => trivial)) R ?_
 rintro _
 refine lO (pAT R hc42 R) (lB R ?_)
 rcases bo (r37 && r39) with hc43 | hc43
 refine lW (wnT hc43) (vI R) (lW (wnT hc43) (vI R) (lW (wnT hc43) (vLe R R) (lO (pAT R hc43 R) (lB R ?_))))
 rcases bo ((r37 && r39) && (decide (r26.2 ≤ r6.2.2.2.2.1))) with hc44 | hc44
 refine lW (wnT hc44) (vI R) (lW (wnT hc44) (vI R) (lW (wnT hc44) (vI R) (lW (wnT hc44) (vAd R R) (lW (wnT hc44) (vI R) (lW (wnT hc44) (vAd R R) (lW (wnT hc44) (vz (iv (w64 ((w64 (r6.2.2.2.2.1 + r6.2.2.2.2.2.2)).tdiv (w64 (r6.2.2.2.2.2.2 + (1 : Int)))))) (v_quo R R (hg41 hc44))) (lW (wnT hc44) (vEq R R) (lO (pAT R hc44 R) (lB R (l_nil ?_))))))))))
 exact qJ (fun w s => (s.e 10 []))
 refine lf (wfF hc44) (lf (wfF hc44) (lf (wfF hc44) (lf (wfF hc44) (lf (wfF hc44) (lf (wfF hc44) (lf (wfF hc44) (lf (wfF hc44) (lO (pAF (r34.2 == (w64 ((w64 (r6.2.2.2.2.1 + r6.2.2.2.2.2.2)).tdiv (w64 (r6.2.2.2.2.2.2 + (1 : Int)))))) R hc44) (lB R (l_nil ?_))))))))))
 exact qJ (fun w s => (s.e 10 []))
 refine lf (wfF hc43) (lf (wfF hc43) (lf (wfF hc43) (lO (pAF (decide (r26.2 ≤ r6.2.2.2.2.1)) R hc43) (lB R (lf (wfF (aF hc43)) (lf (wfF (aF hc43)) (lf (wfF (aF hc43)) (lf (wfF (aF hc43)) (lf (wfF (aF hc43)) (lf (wfF (aF hc43)) (lf (wfF (aF hc43)) (lf (wfF (aF hc43)) (lO (pAF (r34.2 == (w64 ((w64 (r6.2.2.2.2.1 + r6.2.2.2.2.2.2)).tdiv (w64 (r6.2.2.2.2.2.2 + (1 : Int)))))) R (aF hc43)) (lB R (l_nil ?_)))))))))))))))
 exact qJ (fun w s => (s.e 10 []))
 refine lf (wfF hc42) (lf (wfF hc42) (lf (wfF hc42) (lO (pAF r39 R hc42) (lB R (lf (wfF (aF hc42)) (lf (wfF (aF hc42)) (lf (wfF (aF hc42)) (lO (pAF (decide (r26.2 ≤ r6.2.2.2.2.1)) R (aF hc42)) (lB R (lf (wfF (aF (aF hc42))) (lf (wfF (aF (aF hc42))) (lf (wfF (aF (aF hc42))) (lf (wfF (aF (aF hc42))) (lf (wfF (aF (aF hc42))) (lf (wfF (aF (aF hc42))) (lf (wfF (aF (aF hc42))) (lf (wfF (aF (aF hc42))) (lO (pAF (r34.2 == (w64 ((w64 (r6.2.2.2.2.1 + r6.2.2.2.2.2.2)).tdiv (w64 (r6.2.2.2.2.2.2 + (1 : Int)))))) R (aF (aF hc42))) (lB R (l_nil ?_))))))))))))))))))))
 exact qJ (fun w s => (s.e 10 []))
 rintro σ1
 refine q_next (c_ret ?_)
 obtain rfl := so hr
 exact qF () (fun w s => (s.e 1 []))
end Go.Proofs.Ytkfgngcfcoplpaa
