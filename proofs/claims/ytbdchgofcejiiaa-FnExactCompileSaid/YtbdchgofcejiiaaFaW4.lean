import Derived.Test.YtbdchgofcejiiaaFaW3
set_option linter.unusedVariables false
set_option maxRecDepth 20000
namespace Go.Proofs.Ytbdchgofcejiiaa
open Go Go.Pg
variable {A2 A3 A4 A5 A6 A8 A9 A10 A11 A13 : Option Addr} {D2 D3 D4 D5 D6 D8 D9 D10 D11 D13 N2 N3 N4 N5 N6 N8 N9 N10 N11 N13 : Nat}
theorem impl_Nest_given_ok {l1 : Nest} {r : (List Bool) × Bool} (hr : impl_Nest_given l1 = some r) :
 FnOk Try.prog 129 [(.agg [(.slice A2 N2 D2), (.slice A3 N3 D3), (.slice A4 N4 D4), (.slice A5 N5 D5), (.slice A6 N6 D6)].toArray)] [rds kT3 (.slice A2 N2 D2) l1.Sizes, rds kT3 (.slice A3 N3 D3) l1.Ins, rds kT159 (.slice A4 N4 D4) l1.Fixed, rds kT127 (.slice A5 N5 D5) l1.Kernels, rds kT3 (.slice A6 N6 D6) l1.Outs] (fun (h : HH) => ((.tuple [(.slice h.1 h.2.1 h.2.2), (.bool r.2)].toArray), [ow kT4 4 (.slice h.1 h.2.1 h.2.2) r.1])) := by
 unfold impl_Nest_given at hr
 refine fn_ok Try.func129 R 59 R R fun C V => ?_
 refine cN (_ :: _ :: _ :: _ :: _ :: V) ?_
 refine cL 0 sees_rd ?_
 rintro rfl
 refine cL 1 sees_rd ?_
 rintro rfl
 refine cL 2 sees_rd ?_
 rintro rfl
 refine cL 3 sees_rd ?_
 rintro rfl
 refine cL 4 sees_rd ?_
 rintro rfl
 let W0 : List HP := RR kT3 A2 D2 l1.Sizes :: RR kT3 A3 D3 l1.Ins :: RR kT159 A4 D4 l1.Fixed :: RR kT127 A5 D5 l1.Kernels :: RR kT3 A6 D6 l1.Outs :: V
 refine cN W0 ?_
 refine c_seq (c_region (lBx R (fun b7 => (lS R (lB R (l_nil ?_))))))
 let W1 : List HP := bxl b7 [(sc A2 l1.Sizes D2), (sc A3 l1.Ins D3), (sc A4 l1.Fixed D4), (sc A5 l1.Kernels D5), (sc A6 l1.Outs D6)] 58 :: W0
 refine qN W1 ?_
 refine q_next (c_seq ?_)
 obtain ⟨hg8, hr⟩ := gd hr
 refine c_region (lO (vFa 0 fo58_0 R) (lO (vLd 0 ag29 R R R) (lO (v_len sl29 R) (l_make (K := kT4) (m := (l1.Sizes.length : Int)) (z := false) R R sl168 sz4 by4 (Zr.zk zT4 zc4) (by decide) R R hg8.1 hg8.2.1 hg8.2.2 (fun A9 D9 => (l_alloc R R zc168 (fun b10 => (l_store 0 R R sz168 R R R R R (lN (bxl b10 [(sc A9 (List.replicate (l1.Sizes.length : Int).toNat false) D9)] 168 :: OO kT4 4 A9 D9 (List.replicate (l1.Sizes.length : Int).toNat false) :: W1) ?_)))))))))
 refine l_nil (q_next (c_seq (c_region (lO (vp (.func (.func 180) [].toArray [(pt b10 0)].toArray) R) (lO (vp (.func (.func 180) [].toArray [(pt b10 0)].toArray) R) (l_nil (q_next (c_seq (c_cut (A := ((List Bool)) × (HH)) (fun a => impl_Nest_given_J1 l1 a.1 = some r) (fun a => [(1, (pt b7 0)), (4, (pt b10 0)), (5, (.func (.func 180) [].toArray [(pt b10 0)].toArray))]) (fun a => bxl b10 [(.slice a.2.1 a.2.2.1 a.2.2.2)] 168 :: ow kT4 4 (.slice a.2.1 a.2.2.1 a.2.2.2) a.1 :: W1) ?_ ?_)))))))))
 refine c_seq (c_region (lO (vFa 1 fo58_1 R) (lO (vLd 2 ag29 R R R) (lO (v_len sl29 R) (lI R (l_nil (q_next (c_block ?_))))))))
 obtain ⟨e1, hl1, hk1⟩ := bd hr
 refine c_loop (A := HH) hl1 (fun s a => [(1, (pt b7 0)), (4, (pt b10 0)), (5, (.func (.func 180) [].toArray [(pt b10 0)].toArray)), (16, (sc A3 l1.Ins D3)), (17, (il l1.Ins)), (18, (iv s.2))]) (fun s a => bxl b10 [(.slice a.1 a.2.1 a.2.2)] 168 :: ow kT4 4 (.slice a.1 a.2.1 a.2.2) s.1 :: W1) (A9, (List.replicate (l1.Sizes.length : Int).toNat false).length, D9) (aS R) (fun w s => s) ?_
 rintro ⟨x19, x21⟩ ⟨A20, N20, D20⟩ σ1 out1 hr he1
 replace hr : impl_Nest_given_L1 l1 x19 x21 = some out1 := hr
 unfold impl_Nest_given_L1 at hr
 refine c_len 1 sees_ow (fun (hn : N20 = x19.length) => ?_)
 subst hn
 refine c_seq (c_region (lO (vLt R R) (l_nil (q_next (c_seq ?_)))))
 rcases bif_ hr with ⟨hb22, hr⟩ | ⟨hb22, hr⟩
 refine c_true R hb22 (c_skip (q_next (c_seq (c_block (c_seq ?_)))))
 obtain ⟨hg23, hr⟩ := gd hr
 refine c_region (t_some 4 sees_rd (show 0 < l1.Ins.length by have := hg23; omega) (fun g24 o25 ha => ?_))
 subst ha
 refine lO (vIa sl29 sz3 R R hg23) (lO (vLi 4 ag3 sees_rd R hg23) (lI R (l_nil (q_next (c_seq ?_)))))
 obtain ⟨r26, hx27, hr⟩ := bd hr
 refine c_region (lO (vp (.func (.func 180) [].toArray [(pt b10 0)].toArray) R) (lI R (lM (OO kT4 4 A20 D20 x19 :: bxl b10 [(sc A20 x19 D20)] 168 :: W1) (fun w s => (s.e 2 [1, 0])) ?_)))
 refine l_callvn (fs := []) (cs := [(pt b10 0)]) 2 R R cb180 R R (impl_Nest_given_1_ok hx27) R ?_
 rintro ⟨A28, N28, D28⟩
 refine lN (ow kT4 4 (.slice A28 N28 D28) r26.2 :: bxl b10 [(.slice A28 N28 D28)] 168 :: W1) ?_
 refine l_len 0 sees_ow ?_
 rintro rfl
 refine lO (vNo R) (l_nil (q_next ?_))
 rcases bif_ hr with ⟨hb29, hr⟩ | ⟨hb29, hr⟩
 refine c_true R hb29 (c_seq (c_region (lS R (lB R (l_nil (q_next (c_ret (q_blockr (q_ret ?_)))))))))
 obtain rfl := so hr
 obtain rfl := he1 _ R
 have hr := hk1
 refine q_ret (q_blockr (q_ret ?_))
 obtain rfl := so hr
 exact q_fin (vs := [(.slice none 0 0), (.bool false)]) (.inl R) (none, 0, 0) R ⟨R, R, trivial⟩ R (fun w s => ((s.nilo kT4 4).e 9 [0]))
 refine c_false R hb29 (c_skip (q_blockn (q_next (c_region (lO (vAd R R) (lI R (l_nil ?_)))))))
 obtain rfl := so hr
 exact qA (A28, r26.2.length, D28) (fun w s => (s.e 2 [1, 0]))
 refine c_false R hb22 (c_exit (q_exit ?_))
 obtain rfl := so hr
 obtain rfl := he1 _ R
 have hr := hk1
 refine q_exit (q_block ?_)
 exact qI (x19, (A20, x19.length, D20)) hr (fun w s => s)
 rintro ⟨x33, ⟨A34, N34, D34⟩⟩ σ1 hr
 replace hr : impl_Nest_given_J1 l1 x33 = some r := hr
 unfold impl_Nest_given_J1 at hr
 refine c_len 1 sees_ow (fun (hn : N34 = x33.length) => ?_)
 subst hn
 refine c_seq (c_cut (A := ((List Bool)) × (HH)) (fun a => impl_Nest_given_J2 a.1 = some r) (fun a => [(4, (pt b10 0))]) (fun a => bxl b10 [(.slice a.2.1 a.2.2.1 a.2.2.2)] 168 :: ow kT4 4 (.slice a.2.1 a.2.2.1 a.2.2.2) a.1 :: W1) ?_ ?_)
 refine c_seq (c_region (lO (vFa 2 fo58_2 R) (lO (vLd 2 ag55 R R R) (lO (v_len sl55 R) (lI R (l_nil (q_next (c_block ?_))))))))
 obtain ⟨e2, hl2, hk2⟩ := bd hr
 refine c_loop (A := HH × HH) hl2 (fun s a => [(1, (pt b7 0)), (4, (pt b10 0)), (5, (.func (.func 180) [].toArray [(pt b10 0)].toArray)), (28, (.slice a.2.1 a.2.2.1 a.2.2.2)), (29, (il l1.Fixed)), (30, (iv s.2))]) (fun s a => bxl b10 [(.slice a.1.1 a.1.2.1 a.1.2.2)] 168 :: ow kT4 4 (.slice a.1.1 a.1.2.1 a.1.2.2) s.1 :: rds kT159 (.slice a.2.1 a.2.2.1 a.2.2.2) l1.Fixed :: W1) ((A34, x33.length, D34), (A4, l1.Fixed.length, D4)) (aS R) (fun w s => ((s.d 5 R).e 3 [1, 2, 0])) ?_
 rintro ⟨x53, x56⟩ ⟨⟨A54, N54, D54⟩, ⟨A55, N55, D55⟩⟩ σ1 out2 hr he2
 replace hr : impl_Nest_given_L2 l1 x53 x56 = some out2 := hr
 unfold impl_Nest_given_L2 at hr
 refine c_len 1 sees_ow (fun (hn : N54 = x53.length) => ?_)
 subst hn
 refine c_len 2 sees_rd (fun (hn : N55 = l1.Fixed.length) => ?_)
 subst hn
 refine c_seq (c_region (lO (vLt R R) (l_nil (q_next (c_seq ?_)))))
 rcases bif_ hr with ⟨hb57, hr⟩ | ⟨hb57, hr⟩
 refine c_true R hb57 (c_skip (q_next (c_seq (c_block (c_seq ?_)))))
 obtain ⟨hg58, hr⟩ := gd hr
 refine c_region (t_some 2 sees_rd (show 0 < l1.Fixed.length by have := hg58; omega) (fun g59 o60 ha => ?_))
 subst ha
 refine lO (vIa sl55 sz159 R R hg58) (t_elem (K := kT159) 2 x56 dT159.dec R hg58.1 hg58.2 ?_)
 rintro ⟨-, ⟨A61, D61⟩⟩
 refine lN (cl g59 (o60 + x56.toNat * 2) [(iv (ix l1.Fixed x56).Buffer), (sc A61 ((ix l1.Fixed x56).Data) D61)] :: RR kT3 A61 D61 ((ix l1.Fixed x56).Data) :: bxl b10 [(sc A54 x53 D54)] 168 :: OO kT4 4 A54 D54 x53 :: RR kT159 (ad g59 o60) D55 l1.Fixed :: W1) ?_
 refine lO (vz (.agg [(iv (ix l1.Fixed x56).Buffer), (sc A61 ((ix l1.Fixed x56).Data) D61)].toArray) (v_clfs (fo := 0) 0 ag159 sz159 R R R R)) (l_alloc R R zc159 (fun b62 => (l_stores 0 R R sz159 R R R R R R (lN (bxl b62 [(iv (ix l1.Fixed x56).Buffer), (sc A61 ((ix l1.Fixed x56).Data) D61)] 159 :: _ :: _ :: _ :: _ :: _ :: W1) ?_))))
 refine l_nil (q_next (c_seq ?_))
 obtain ⟨r63, hx64, hr⟩ := bd hr
 obtain ⟨hg66, hr⟩ := gd hr
 obtain ⟨r69, hx70, hr⟩ := bd hr
 refine c_cutq (A := (Unit) × (HH)) (fun _ => True) (fun a => [(1, (pt b7 0)), (4, (pt b10 0)), (5, (.func (.func 180) [].toArray [(pt b10 0)].toArray)), (28, (sc (ad g59 o60) l1.Fixed D55)), (29, (il l1.Fixed)), (30, (iv x56)), (56, (.bool (((!r63.1) || ((((ix l1.Fixed x56).Data).length : Int) != (ix l1.Sizes (ix l1.Fixed x56).Buffer))) || (!r69))))]) (fun a => bxl b10 [(.slice a.2.1 a.2.2.1 a.2.2.2)] 168 :: ow kT4 4 (.slice a.2.1 a.2.2.1 a.2.2.2) r63.2 :: RR kT159 (ad g59 o60) D55 l1.Fixed :: W1) ?_ ?_
 rcases bo (!r63.1) with hc71 | hc71
 refine cdr 23 [4, 3] mixo (fun ht hn => (dR 0 R (vp (.func (.func 180) [].toArray [(pt b10 0)].toArray) R) (hS := (sL [4, 3])) (dR 1 R (vFa 0 fo159_0 R) (hS := (sL [4, 3])) (dR 2 R (vLd 0 ag3 R R R) (hS := (sL [4, 3])) (d_one 3 (by kernel_rfl) R (lM (ow _ _ _ _ :: bxl _ _ _ :: bxl _ _ _ :: cl _ _ _ :: rds _ _ _ :: rds _ _ _ :: W1) (fun w s => (s.e 6 [4, 3, 0, 1, 2, 5])) ?_))))))
 refine l_callvn (fs := []) (cs := [(pt b10 0)]) 2 R R cb180 R R (impl_Nest_given_1_ok hx64) R ?_
 rintro ⟨A65, N65, D65⟩
 refine lN (ow kT4 4 (.slice A65 N65 D65) r63.2 :: bxl b10 [(.slice A65 N65 D65)] 168 :: _ :: _ :: _ :: _ :: W1) ?_
 refine l_len 0 sees_ow ?_
 rintro rfl
 refine l_nil (q_draw (sL [1, 0]) (dR 4 R (vNo R) (hS := (sL [1, 0])) (dR 5 R (vB R) (hS := (sL [1, 0])) (dF 6 R (wfT hc71) (hS := (sL [1, 0])) (dF 7 R (wfT hc71) (hS := (sL [1, 0])) (dF 8 R (wfT hc71) (hS := (sL [1, 0])) (dF 9 R (wfT hc71) (hS := (sL [1, 0])) (dF 10 R (wfT hc71) (hS := (sL [1, 0])) (dF 11 R (wfT hc71) (hS := (sL [1, 0])) (dF 12 R (wfT hc71) (hS := (sL [1, 0])) (dF 13 R (wfT hc71) (hS := (sL [1, 0])) (dF 14 R (wfT hc71) (hS := (sL [1, 0])) (dF 15 R (wfT hc71) (hS := (sL [1, 0])) (dR 16 R (pOT ((((ix l1.Fixed x56).Data).length : Int) != (ix l1.Sizes (ix l1.Fixed x56).Buffer)) R hc71) (hS := (sL [1, 0])) (dR 17 R (vB R) (hS := (sL [1, 0])) (dF 18 R (wfT (oT hc71)) (hS := (sL [1, 0])) (dF 19 R (wfT (oT hc71)) (hS := (sL [1, 0])) (dF 20 R (wfT (oT hc71)) (hS := (sL [1, 0])) (dF 21 R (wfT (oT hc71)) (hS := (sL [1, 0])) (dR 22 R (pOT (!r69) R (oT hc71)) (hS := (sL [1, 0])) (d_done (by kernel_rfl) ?_)))))))))))))))))))))
 exact q_join ((), (A65, r63.2.length, D65)) trivial (aS R) (fun w s => (s.e 6 [1, 0, 5]))
 rcases bo ((!r63.1) || ((((ix l1.Fixed x56).Data).length : Int) != (ix l1.Sizes (ix l1.Fixed x56).Buffer))) with hc72 | hc72
 refine c_some 7 sees_rd (show 0 < l1.Sizes.length by have := (hg66 hc71); omega) (fun g67 o68 ha => ?_)
 subst ha
 refine cdr 23 [4, 3] mixo (fun ht hn => (dR 0 R (vp (.func (.func 180) [].toArray [(pt b10 0)].toArray) R) (hS := (sL [4, 3])) (dR 1 R (vFa 0 fo159_0 R) (hS := (sL [4, 3])) (dR 2 R (vLd 0 ag3 R R R) (hS := (sL [4, 3])) (d_one 3 (by kernel_rfl) R (lM (OO kT4 4 A54 D54 x53 :: bxl b10 [(sc A54 x53 D54)] 168 :: bxl _ _ _ :: cl _ _ _ :: rds _ _ _ :: rds _ _ _ :: W1) (fun w s => (s.e 6 [4, 3, 0, 1, 2, 5])) ?_))))))
 refine l_callvn (fs := []) (cs := [(pt b10 0)]) 2 R R cb180 R R (impl_Nest_given_1_ok hx64) R ?_
 rintro ⟨A65, N65, D65⟩
 refine lN (ow kT4 4 (.slice A65 N65 D65) r63.2 :: bxl b10 [(.slice A65 N65 D65)] 168 :: _ :: _ :: _ :: _ :: W1) ?_
 refine l_len 0 sees_ow ?_
 rintro rfl
 refine l_nil (q_draw (sL [1, 0]) (dR 4 R (vNo R) (hS := (sL [1, 0])) (dR 5 R (vB R) (hS := (sL [1, 0])) (dW 6 R (wnF hc71) (vFa 1 fo159_1 R) (hS := (sL [1, 0])) (dW 7 R (wnF hc71) (vLd 0 ag29 R R R) (hS := (sL [1, 0])) (dW 8 R (wnF hc71) (v_len sl29 R) (hS := (sL [1, 0])) (dW 9 R (wnF hc71) (vFa 0 fo58_0 R) (hS := (sL [1, 0])) (dW 10 R (wnF hc71) (vLd 4 ag29 R R R) (hS := (sL [1, 0])) (dW 11 R (wnF hc71) (vFa 0 fo159_0 R) (hS := (sL [1, 0])) (dW 12 R (wnF hc71) (vLd 0 ag3 R R R) (hS := (sL [1, 0])) (dW 13 R (wnF hc71) (vIa sl29 sz3 R R (hg66 hc71)) (hS := (sL [1, 0])) (dW 14 R (wnF hc71) (vLi 5 ag3 sees_rd R (hg66 hc71)) (hS := (sL [1, 0])) (dW 15 R (wnF hc71) (vNe R R) (hS := (sL [1, 0])) (dR 16 R (pOF R hc71 R) (hS := (sL [1, 0])) (dR 17 R (vB R) (hS := (sL [1, 0])) (dF 18 R (wfT hc72) (hS := (sL [1, 0])) (dF 19 R (wfT hc72) (hS := (sL [1, 0])) (dF 20 R (wfT hc72) (hS := (sL [1, 0])) (dF 21 R (wfT hc72) (hS := (sL [1, 0])) (dR 22 R (pOT (!r69) R hc72) (hS := (sL [1, 0])) (d_done (by kernel_rfl) ?_)))))))))))))))))))))
 exact q_join ((), (A65, r63.2.length, D65)) trivial (aS R) (fun w s => (s.e 6 [1, 0, 5]))
 refine c_some 7 sees_rd (show 0 < l1.Sizes.length by have := (hg66 hc71); omega) (fun g67 o68 ha => ?_)
 subst ha
 refine cdr 23 [4, 3] mixo (fun ht hn => (dR 0 R (vp (.func (.func 180) [].toArray [(pt b10 0)].toArray) R) (hS := (sL [4, 3])) (dR 1 R (vFa 0 fo159_0 R) (hS := (sL [4, 3])) (dR 2 R (vLd 0 ag3 R R R) (hS := (sL [4, 3])) (d_one 3 (by kernel_rfl) R (lM (OO kT4 4 A54 D54 x53 :: bxl b10 [(sc A54 x53 D54)] 168 :: bxl _ _ _ :: cl _ _ _ :: rds _ _ _ :: rds _ _ _ :: W1) (fun w s => (s.e 6 [4, 3, 0, 1, 2, 5])) ?_))))))
 refine l_callvn (fs := []) (cs := [(pt b10 0)]) 2 R R cb180 R R (impl_Nest_given_1_ok hx64) R ?_
 rintro ⟨A65, N65, D65⟩
 refine lN (ow kT4 4 (.slice A65 N65 D65) r63.2 :: bxl b10 [(.slice A65 N65 D65)] 168 :: _ :: _ :: _ :: _ :: W1) ?_
 refine l_len 0 sees_ow ?_
 rintro rfl
 refine l_nil (q_draw (sL [1, 0]) (dR 4 R (vNo R) (hS := (sL [1, 0])) (dR 5 R (vB R) (hS := (sL [1, 0])) (dW 6 R (wnF hc71) (vFa 1 fo159_1 R) (hS := (sL [1, 0])) (dW 7 R (wnF hc71) (vLd 0 ag29 R R R) (hS := (sL [1, 0])) (dW 8 R (wnF hc71) (v_len sl29 R) (hS := (sL [1, 0])) (dW 9 R (wnF hc71) (vFa 0 fo58_0 R) (hS := (sL [1, 0])) (dW 10 R (wnF hc71) (vLd 4 ag29 R R R) (hS := (sL [1, 0])) (dW 11 R (wnF hc71) (vFa 0 fo159_0 R) (hS := (sL [1, 0])) (dW 12 R (wnF hc71) (vLd 0 ag3 R R R) (hS := (sL [1, 0])) (dW 13 R (wnF hc71) (vIa sl29 sz3 R R (hg66 hc71)) (hS := (sL [1, 0])) (dW 14 R (wnF hc71) (vLi 5 ag3 sees_rd R (hg66 hc71)) (hS := (sL [1, 0])) (dW 15 R (wnF hc71) (vNe R R) (hS := (sL [1, 0])) (dR 16 R (pOF R hc71 R) (hS := (sL [1, 0])) (dR 17 R (vB R) (hS := (sL [1, 0])) (dW 18 R (wnF hc72) (vFa 1 fo159_1 R) (hS := (sL [1, 0])) (dW 19 R (wnF hc72) (vLd 0 ag29 R R R) (hS := (sL [1, 0])) (d_one 20 (by kernel_rfl) R (lM (_ :: _ :: bxl b10 [(sc A65 r63.2 D65)] 168 :: _ :: _ :: _ :: _ :: W1) (fun w s => (s.d 4 R)) ?_)))))))))))))))))))
 refine l_calln 1 R (wnF hc72) cb181 R (impl_allNums_ok (gcall_t hx70 (not_ff hc72))) R ?_
 rintro _
 refine lN (_ :: _ :: _ :: _ :: _ :: _ :: W1) ?_
 refine l_nil (q_draw (sL [1, 0]) (dW 21 R (wnF hc72) (vNo R) (hS := (sL [1, 0])) (dR 22 R (pOF R hc72 R) (hS := (sL [1, 0])) (d_done (by kernel_rfl) ?_))))
 exact q_join ((), (A65, r63.2.length, D65)) trivial (aS R) (fun w s => (s.e 6 [1, 0, 5]))
 rintro ⟨_, ⟨A73, N73, D73⟩⟩ σ1 -
 refine q_len 1 sees_ow (fun (hn : N73 = r63.2.length) => ?_)
 subst hn
 refine q_next ?_
 rcases bif_ hr with ⟨hb74, hr⟩ | ⟨hb74, hr⟩
 refine c_true R hb74 (c_seq (c_region (lS R (lB R (l_nil (q_next (c_ret (q_blockr (q_ret ?_)))))))))
 obtain rfl := so hr
 obtain rfl := he2 _ R
 have hr := hk2
 refine q_ret (q_blockr (q_ret ?_))
 obtain rfl := so hr
 exact q_fin (vs := [(.slice none 0 0), (.bool false)]) (.inl R) (none, 0, 0) R ⟨R, R, trivial⟩ R (fun w s => ((s.nilo kT4 4).e 10 [0]))
 refine c_false R hb74 (c_skip (q_blockn (q_next (c_region (lO (vAd R R) (lI R (l_nil ?_)))))))
 obtain rfl := so hr
 exact qA ((A73, r63.2.length, D73), ((ad g59 o60), l1.Fixed.length, D55)) (fun w s => s)
 refine c_false R hb57 (c_exit (q_exit ?_))
 obtain rfl := so hr
 obtain rfl := he2 _ R
 have hr := hk2
 refine q_exit (q_block ?_)
 exact qI (x53, (A54, x53.length, D54)) hr (fun w s => (s.e 3 [0, 1]))
 rintro ⟨x79, ⟨A80, N80, D80⟩⟩ σ1 hr
 replace hr : impl_Nest_given_J2 x79 = some r := hr
 unfold impl_Nest_given_J2 at hr
 refine c_len 1 sees_ow (fun (hn : N80 = x79.length) => ?_)
 subst hn
 refine c_seq (c_region (lO (vLd 0 ag168 R R R) (lS R (lB R (l_nil (q_next (c_ret ?_)))))))
 obtain rfl := so hr
 exact q_fin (vs := [(sc A80 x79 D80), (.bool true)]) (.inl R) (A80, x79.length, D80) R ⟨R, R, trivial⟩ R (fun w s => (s.e 8 [1]))
theorem impl_work_ok {loops1 : (List Int)} {r : Int × Bool} (hr : impl_work loops1 = some r) :
 FnOk Try.prog 182 [(.slice A2 N2 D2)] [rds kT3 (.slice A2 N2 D2) loops1] (fun (h : Unit) => ((.tuple [(iv r.1), (.bool r.2)].toArray), [])) := by
 unfold impl_work at hr
 refine fn_ok Try.func182 R 29 R R fun C V => ?_
 refine cN (_ :: V) ?_
 refine cL 0 sees_rd ?_
 rintro rfl
 let W0 : List HP := RR kT3 A2 D2 loops1 :: V
 refine cN W0 ?_
 refine c_seq (c_region (lI R (lB R (l_nil (q_next (c_seq (c_region (lI R (l_nil (q_next (c_seq (c_cut (A := (Int) × (HH)) (fun a => impl_work_J1 loops1 a.1 = some r) (fun a => [(0, (.slice a.2.1 a.2.2.1 a.2.2.2)), (4, (iv a.1))]) (fun a => rds kT3 (.slice a.2.1 a.2.2.1 a.2.2.2) loops1 :: W0) ?_ ?_))))))))))))
 refine c_seq (c_region (lS R (lO (v_len sl29 R) (lI R (l_nil (q_next (c_block ?_)))))))
 obtain ⟨e1, hl1, hk1⟩ := bd hr
 refine c_loop (A := HH) hl1 (fun s a => [(0, (.slice a.1 a.2.1 a.2.2)), (4, (iv s.1)), (7, (.slice a.1 a.2.1 a.2.2)), (8, (il loops1)), (9, (iv s.2))]) (fun s a => rds kT3 (.slice a.1 a.2.1 a.2.2) loops1 :: W0) (A2, loops1.length, D2) (aS R) (fun w s => (s.d 0 R)) ?_
 rintro ⟨n11, x12⟩ ⟨A10, N10, D10⟩ σ1 out1 hr he1
 replace hr : impl_work_L1 loops1 n11 x12 = some out1 := hr
 unfold impl_work_L1 at hr
 refine c_len 0 sees_rd (fun (hn : N10 = loops1.length) => ?_)
 subst hn
 refine c_seq (c_region (lO (vLt R R) (l_nil (q_next (c_seq ?_)))))
 rcases bif_ hr with ⟨hb13, hr⟩ | ⟨hb13, hr⟩
 refine c_true R hb13 (c_skip (q_next (c_seq (c_block (c_seq ?_)))))
 obtain ⟨hg14, hr⟩ := gd hr
 refine c_region (t_some 0 sees_rd (show 0 < loops1.length by have := hg14; omega) (fun g15 o16 ha => ?_))
 subst ha
 refine lO (vIa sl29 sz3 R R hg14) (lO (vLi 0 ag3 sees_rd R hg14) (lI R (l_nil (q_next (c_seq (c_seq (cQ [(0, (sc (ad g15 o16) loops1 D10)), (4, (iv n11)), (6, (iv (ix loops1 x12))), (7, (sc (ad g15 o16) loops1 D10)), (8, (il loops1)), (9, (iv x12)), (18, (.bool ((decide ((ix loops1 x12) < (1 : Int))) || (decide ((ix loops1 x12) > (65536 : Int))))))] (RR kT3 (ad g15 o16) D10 loops1 :: W0) ?_ ?_)))))))
 refine c_region (lI R (lO (vLt R R) (lB R ?_)))
 rcases bo (decide ((ix loops1 x12) < (1 : Int))) with hc17 | hc17
 refine lf (wfT hc17) (lf (wfT hc17) (lO (pOT (decide ((ix loops1 x12) > (65536 : Int))) R hc17) (l_nil ?_)))
 exact qJ (fun w s => s)
 refine lW (wnF hc17) (vI R) (lW (wnF hc17) (vGt R R) (lO (pOF R hc17 R) (l_nil ?_)))
 exact qJ (fun w s => s)
 rintro σ1
 refine q_next ?_
 rcases bif_ hr with ⟨hb18, hr⟩ | ⟨hb18, hr⟩
 refine c_true R hb18 (c_seq (c_region (lI R (lB R (l_nil (q_next (c_ret (q_ret (q_blockr (q_ret ?_))))))))))
 obtain rfl := so hr
 obtain rfl := he1 _ R
 have hr := hk1
 refine q_ret (q_blockr (q_ret ?_))
 obtain rfl := so hr
 exact q_fin (vs := [(iv 0), (.bool false)]) (.inl R) () R ⟨R, R, trivial⟩ R (fun w s => (s.e 2 []))
 refine c_false R hb18 (c_skip (q_next (c_seq (c_region (lI R (lI R (lO (vMu R R) (lI R (l_nil (q_next (c_seq (c_region (lI R (lO (vGt R R) (l_nil (q_next ?_))))))))))))))))
 rcases bif_ hr with ⟨hb19, hr⟩ | ⟨hb19, hr⟩
 refine c_true R hb19 (c_seq (c_region (lI R (lB R (l_nil (q_next (c_ret (q_blockr (q_ret ?_)))))))))
 obtain rfl := so hr
 obtain rfl := he1 _ R
 have hr := hk1
 refine q_ret (q_blockr (q_ret ?_))
 obtain rfl := so hr
 exact q_fin (vs := [(iv 0), (.bool false)]) (.inl R) () R ⟨R, R, trivial⟩ R (fun w s => (s.e 2 []))
 refine c_false R hb19 (c_skip (q_blockn (q_next (c_region (lO (vAd R R) (lI R (l_nil ?_)))))))
 obtain rfl := so hr
 exact qA ((ad g15 o16), loops1.length, D10) (fun w s => s)
 refine c_false R hb13 (c_exit (q_exit ?_))
 obtain rfl := so hr
 obtain rfl := he1 _ R
 have hr := hk1
 refine q_exit (q_block ?_)
 exact qI (n11, (A10, loops1.length, D10)) hr (fun w s => s)
 rintro ⟨n24, ⟨A23, N23, D23⟩⟩ σ1 hr
 replace hr : impl_work_J1 loops1 n24 = some r := hr
 unfold impl_work_J1 at hr
 refine c_len 0 sees_rd (fun (hn : N23 = loops1.length) => ?_)
 subst hn
 refine c_seq (c_region (lI R (lS R (lO (v_len sl29 R) (lO (vLe R R) (lI R (lB R (l_nil (q_next (c_ret ?_))))))))))
 obtain rfl := so hr
 exact q_fin (vs := [(iv n24), (.bool (decide ((loops1.length : Int) ≤ (12 : Int))))]) (.inl R) () R ⟨R, R, trivial⟩ R (fun w s => (s.e 2 []))
theorem impl_codeOk_ok {code1 : (List Calc)} {loads3 : Int} {r : Bool} (hr : impl_codeOk code1 loads3 = some r) :
 FnOk Try.prog 183 [(.slice A2 N2 D2), (iv loads3)] [rds kT216 (.slice A2 N2 D2) code1] (fun (h : Unit) => ((.bool r), [])) := by
 unfold impl_codeOk at hr
 refine fn_ok Try.func183 R 97 R R fun C V => ?_
 refine cN (_ :: V) ?_
 refine cL 0 sees_rd ?_
 rintro rfl
 let W0 : List HP := RR kT216 A2 D2 code1 :: V
 refine cN W0 ?_
 refine c_seq (c_region (lB R (l_nil (q_next (c_seq (c_seq (cQ [(0, (sc A2 code1 D2)), (1, (iv loads3)), (15, (.bool ((decide ((code1.length : Int) < (1 : Int))) || (decide ((code1.length : Int) > (60 : Int))))))] (W0) ?_ ?_)))))))
 refine c_region (lS R (lO (v_len sl125 R) (lO (vLt R R) (lB R ?_))))
 rcases bo (decide ((code1.length : Int) < (1 : Int))) with hc4 | hc4
 refine lf (wfT hc4) (lf (wfT hc4) (lf (wfT hc4) (lO (pOT (decide ((code1.length : Int) > (60 : Int))) R hc4) (l_nil ?_))))
 exact qJ (fun w s => s)
 refine lW (wnF hc4) (vS R) (lW (wnF hc4) (v_len sl125 R) (lW (wnF hc4) (vGt R R) (lO (pOF R hc4 R) (l_nil ?_))))
 exact qJ (fun w s => s)
 rintro σ1
 refine q_next ?_
 rcases bif_ hr with ⟨hb5, hr⟩ | ⟨hb5, hr⟩
 refine c_true R hb5 (c_seq (c_region (lB R (l_nil (q_next (c_ret (q_ret ?_)))))))
 obtain rfl := so hr
 exact qF () (fun w s => (s.e 1 []))
 refine c_false R hb5 (c_skip (q_next (c_seq (c_cut (A := (Unit) × (Unit)) (fun a => impl_codeOk_J7 = some r) (fun a => []) (fun a => W0) ?_ ?_))))
 refine c_seq (c_region (lS R (lO (v_len sl125 R) (lI R (l_nil (q_next (c_block ?_)))))))
 obtain ⟨e1, hl1, hk1⟩ := bd hr
 refine c_loop (A := HH) hl1 (fun s a => [(1, (iv loads3)), (16, (.slice a.1 a.2.1 a.2.2)), (17, (il code1)), (18, (iv s))]) (fun s a => rds kT216 (.slice a.1 a.2.1 a.2.2) code1 :: W0) (A2, code1.length, D2) (aS R) (fun w s => (s.d 0 R)) ?_
 rintro x35 ⟨A34, N34, D34⟩ σ1 out1 hr he1
 replace hr : impl_codeOk_L1 code1 loads3 x35 = some out1 := hr
 unfold impl_codeOk_L1 at hr
 refine c_len 0 sees_rd (fun (hn : N34 = code1.length) => ?_)
 subst hn
 refine c_seq (c_region (lO (vLt R R) (l_nil (q_next (c_seq ?_)))))
 rcases bif_ hr with ⟨hb36, hr⟩ | ⟨hb36, hr⟩
 refine c_true R hb36 (c_skip (q_next (c_seq (c_block (c_seq ?_)))))
 obtain ⟨hg37, hr⟩ := gd hr
 refine c_region (lI R (t_some 0 sees_rd (show 0 < code1.length by have := hg37; omega) (fun g38 o39 ha => ?_)))
 subst ha
 refine lO (vIa sl125 sz216 R R hg37) (l_v (.agg [(iv (ix code1 x35).Op), (iv (ix code1 x35).A), (iv (ix code1 x35).B)].toArray) ?_ R R ?_)
 exact (v_ldef (K := kT216) (cells := fun x => [(iv x.Op), (iv x.A), (iv x.B)]) 0 x35 ag216 sz216 (DecK.flat dT216 fun _ _ => R) sees_rd R hg37.1 hg37.2)
 refine l_alloc R R zc216 (fun b40 => (lI R (l_stores 0 R R sz216 R R R R R R (lN (bxl b40 [(iv (ix code1 x35).Op), (iv (ix code1 x35).A), (iv (ix code1 x35).B)] 216 :: RR kT216 (ad g38 o39) D34 code1 :: W0) ?_))))
 refine l_nil (q_next (c_seq (c_region (lB R (l_nil (q_next (c_seq (c_cut (A := (Bool) × (Unit)) (fun a => impl_codeOk_J6 x35 a.1 = some out1) (fun a => [(1, (iv loads3)), (7, (.bool a.1)), (16, (sc (ad g38 o39) code1 D34)), (17, (il code1)), (18, (iv x35))]) (fun a => RR kT216 (ad g38 o39) D34 code1 :: W0) ?_ ?_))))))))
 refine c_seq (c_region (lO (vFa 0 fo216_0 R) (lO (vLd 0 ag3 R R R) (l_nil (q_next (c_block (c_seq (c_region (lO (vEq R R) (lB R (l_nil (q_next ?_))))))))))))
 rcases bif_ hr with ⟨hb41, hr⟩ | ⟨hb41, hr⟩
 refine c_true R hb41 (cQ [(1, (iv loads3)), (7, (.bool (((decide ((ix code1 x35).A ≥ (0 : Int))) && (decide ((ix code1 x35).A < loads3))) && ((ix code1 x35).B == (0 : Int))))), (16, (sc (ad g38 o39) code1 D34)), (17, (il code1)), (18, (iv x35))] (RR kT216 (ad g38 o39) D34 code1 :: W0) ?_ ?_)
 refine c_region (lO (vFa 1 fo216_1 R) (lO (vLd 0 ag3 R R R) (lO (vGe R R) (lB R ?_))))
 rcases bo (decide ((ix code1 x35).A ≥ (0 : Int))) with hc42 | hc42
 refine lW (wnT hc42) (vFa 1 fo216_1 R) (lW (wnT hc42) (vLd 0 ag3 R R R) (lW (wnT hc42) (vI R) (lW (wnT hc42) (vLt R R) (lO (pAT R hc42 R) (lB R ?_)))))
 rcases bo ((decide ((ix code1 x35).A ≥ (0 : Int))) && (decide ((ix code1 x35).A < loads3))) with hc43 | hc43
 refine lW (wnT hc43) (vFa 2 fo216_2 R) (lW (wnT hc43) (vLd 0 ag3 R R R) (lW (wnT hc43) (vEq R R) (lO (pAT R hc43 R) (lB R (l_nil ?_)))))
 exact qJ (fun w s => (s.e 2 [1]))
 refine lf (wfF hc43) (lf (wfF hc43) (lf (wfF hc43) (lO (pAF ((ix code1 x35).B == (0 : Int)) R hc43) (lB R (l_nil ?_)))))
 exact qJ (fun w s => (s.e 2 [1]))
 refine lf (wfF hc42) (lf (wfF hc42) (lf (wfF hc42) (lf (wfF hc42) (lO (pAF (decide ((ix code1 x35).A < loads3)) R hc42) (lB R (lf (wfF (aF hc42)) (lf (wfF (aF hc42)) (lf (wfF (aF hc42)) (lO (pAF ((ix code1 x35).B == (0 : Int)) R (aF hc42)) (lB R (l_nil ?_)))))))))))
 exact qJ (fun w s => (s.e 2 [1]))
 rintro σ1
 refine q_blockn ?_
 exact qI ((((decide ((ix code1 x35).A ≥ (0 : Int))) && (decide ((ix code1 x35).A < loads3))) && ((ix code1 x35).B == (0 : Int))), ()) hr (fun w s => s)
 refine c_false R hb41 (c_seq (c_region (lO (vEq R R) (lB R (l_nil (q_next ?_))))))
 rcases bif_ hr with ⟨hb44, hr⟩ | ⟨hb44, hr⟩
 refine c_true R hb44 ?_
 obtain ⟨r45, hx46, hr⟩ := bd hr
 refine cQ [(1, (iv loads3)), (7, (.bool (r45 && ((ix code1 x35).B == (0 : Int))))), (16, (sc (ad g38 o39) code1 D34)), (17, (il code1)), (18, (iv x35))] (RR kT216 (ad g38 o39) D34 code1 :: W0) ?_ ?_
 refine c_region (lO (vFa 1 fo216_1 R) (lO (vLd 0 ag3 R R R) (lC 0 cb211 R (impl_isNum_ok hx46) R ?_)))
 rintro _
 refine lB R ?_
 rcases bo r45 with hc47 | hc47
 refine lW (wnT hc47) (vFa 2 fo216_2 R) (lW (wnT hc47) (vLd 0 ag3 R R R) (lW (wnT hc47) (vEq R R) (lO (pAT R hc47 R) (lB R (l_nil ?_)))))
 exact qJ (fun w s => (s.e 2 [1]))
 refine lf (wfF hc47) (lf (wfF hc47) (lf (wfF hc47) (lO (pAF ((ix code1 x35).B == (0 : Int)) R hc47) (lB R (l_nil ?_)))))
 exact qJ (fun w s => (s.e 2 [1]))
 rintro σ1
 refine q_blockn ?_
 exact qI ((r45 && ((ix code1 x35).B == (0 : Int))), ()) hr (fun w s => s)
 refine c_false R hb44 (c_seq (c_cut (A := (Bool) × (Unit)) (fun a => impl_codeOk_J4 code1 x35 a.1 = some out1) (fun a => [(1, (iv loads3)), (5, (iv x35)), (6, (pt b40 0)), (7, (.bool false)), (16, (sc (ad g38 o39) code1 D34)), (17, (il code1)), (18, (iv x35)), (24, (iv (ix code1 x35).Op)), (51, (.bool a.1))]) (fun a => bxl b40 [(iv (ix code1 x35).Op), (iv (ix code1 x35).A), (iv (ix code1 x35).B)] 216 :: RR kT216 (ad g38 o39) D34 code1 :: W0) ?_ ?_))
 refine c_seq (c_region (lO (vEq R R) (lB R (l_nil (q_next ?_)))))
 rcases bif_ hr with ⟨hb48, hr⟩ | ⟨hb48, hr⟩
 refine c_true R hb48 (c_skip ?_)
 exact qI (((ix code1 x35).Op == (3 : Int)), ()) hr (fun w s => s)
 refine c_false R hb48 (c_seq (c_region (lO (vEq R R) (lB R (l_nil (q_next ?_))))))
 rcases bif_ hr with ⟨hb49, hr⟩ | ⟨hb49, hr⟩
 refine c_true R hb49 (c_skip ?_)
 exact qI (((ix code1 x35).Op == (4 : Int)), ()) hr (fun w s => s)
 refine c_false R hb49 (c_region (lO (vEq R R) (lB R (l_nil ?_))))
 exact qI (((ix code1 x35).Op == (5 : Int)), ()) hr (fun w s => s)
 rintro ⟨x50, _⟩ σ1 hr
 replace hr : impl_codeOk_J4 code1 x35 x50 = some out1 := hr
 unfold impl_codeOk_J4 at hr
 rcases bif_ hr with ⟨hb51, hr⟩ | ⟨hb51, hr⟩
 refine c_true R hb51 (cQ [(1, (iv loads3)), (7, (.bool ((((decide ((ix code1 x35).A ≥ (0 : Int))) && (decide ((ix code1 x35).A < x35))) && (decide ((ix code1 x35).B ≥ (0 : Int)))) && (decide ((ix code1 x35).B < x35))))), (16, (sc (ad g38 o39) code1 D34)), (17, (il code1)), (18, (iv x35))] (RR kT216 (ad g38 o39) D34 code1 :: W0) ?_ ?_)
 refine c_region (lO (vFa 1 fo216_1 R) (lO (vLd 0 ag3 R R R) (lO (vGe R R) (lB R ?_))))
 rcases bo (decide ((ix code1 x35).A ≥ (0 : Int))) with hc52 | hc52
 refine lW (wnT hc52) (vFa 1 fo216_1 R) (lW (wnT hc52) (vLd 0 ag3 R R R) (lW (wnT hc52) (vI R) (lW (wnT hc52) (vLt R R) (lO (pAT R hc52 R) (lB R ?_)))))
 rcases bo ((decide ((ix code1 x35).A ≥ (0 : Int))) && (decide ((ix code1 x35).A < x35))) with hc53 | hc53
 refine lW (wnT hc53) (vFa 2 fo216_2 R) (lW (wnT hc53) (vLd 0 ag3 R R R) (lW (wnT hc53) (vGe R R) (lO (pAT R hc53 R) (lB R ?_))))
 rcases bo (((decide ((ix code1 x35).A ≥ (0 : Int))) && (decide ((ix code1 x35).A < x35))) && (decide ((ix code1 x35).B ≥ (0 : Int)))) with hc54 | hc54
 refine lW (wnT hc54) (vFa 2 fo216_2 R) (lW (wnT hc54) (vLd 0 ag3 R R R) (lW (wnT hc54) (vI R) (lW (wnT hc54) (vLt R R) (lO (pAT R hc54 R) (lB R (l_nil ?_))))))
 exact qJ (fun w s => (s.e 2 [1]))
 refine lf (wfF hc54) (lf (wfF hc54) (lf (wfF hc54) (lf (wfF hc54) (lO (pAF (decide ((ix code1 x35).B < x35)) R hc54) (lB R (l_nil ?_))))))
 exact qJ (fun w s => (s.e 2 [1]))
 refine lf (wfF hc53) (lf (wfF hc53) (lf (wfF hc53) (lO (pAF (decide ((ix code1 x35).B ≥ (0 : Int))) R hc53) (lB R (lf (wfF (aF hc53)) (lf (wfF (aF hc53)) (lf (wfF (aF hc53)) (lf (wfF (aF hc53)) (lO (pAF (decide ((ix code1 x35).B < x35)) R (aF hc53)) (lB R (l_nil ?_)))))))))))
 exact qJ (fun w s => (s.e 2 [1]))
 refine lf (wfF hc52) (lf (wfF hc52) (lf (wfF hc52) (lf (wfF hc52) (lO (pAF (decide ((ix code1 x35).A < x35)) R hc52) (lB R (lf (wfF (aF hc52)) (lf (wfF (aF hc52)) (lf (wfF (aF hc52)) (lO (pAF (decide ((ix code1 x35).B ≥ (0 : Int))) R (aF hc52)) (lB R (lf (wfF (aF (aF hc52))) (lf (wfF (aF (aF hc52))) (lf (wfF (aF (aF hc52))) (lf (wfF (aF (aF hc52))) (lO (pAF (decide ((ix code1 x35).B < x35)) R (aF (aF hc52))) (lB R (l_nil ?_)))))))))))))))))
 exact qJ (fun w s => (s.e 2 [1]))
 rintro σ1
 refine q_blockn ?_
 exact qI (((((decide ((ix code1 x35).A ≥ (0 : Int))) && (decide ((ix code1 x35).A < x35))) && (decide ((ix code1 x35).B ≥ (0 : Int)))) && (decide ((ix code1 x35).B < x35))), ()) hr (fun w s => s)
 refine c_false R hb51 (c_seq (c_cut (A := (Bool) × (Unit)) (fun a => impl_codeOk_J5 code1 x35 a.1 = some out1) (fun a => [(1, (iv loads3)), (5, (iv x35)), (6, (pt b40 0)), (7, (.bool false)), (16, (sc (ad g38 o39) code1 D34)), (17, (il code1)), (18, (iv x35)), (75, (.bool a.1))]) (fun a => bxl b40 [(iv (ix code1 x35).Op), (iv (ix code1 x35).A), (iv (ix code1 x35).B)] 216 :: RR kT216 (ad g38 o39) D34 code1 :: W0) ?_ ?_))
 refine c_seq (c_region (lO (vEq R R) (lB R (l_nil (q_next ?_)))))
 rcases bif_ hr with ⟨hb55, hr⟩ | ⟨hb55, hr⟩
 refine c_true R hb55 (c_skip ?_)
 exact qI (((ix code1 x35).Op == (6 : Int)), ()) hr (fun w s => s)
 refine c_false R hb55 (c_seq (c_region (lO (vEq R R) (lB R (l_nil (q_next ?_))))))
 rcases bif_ hr with ⟨hb56, hr⟩ | ⟨hb56, hr⟩
 refine c_true R hb56 (c_skip ?_)
 exact qI (((ix code1 x35).Op == (7 : Int)), ()) hr (fun w s => s)
 refine c_false R hb56 (c_seq (c_region (lO (vEq R R) (lB R (l_nil (q_next ?_))))))
 rcases bif_ hr with ⟨hb57, hr⟩ | ⟨hb57, hr⟩
 refine c_true R hb57 (c_skip ?_)
 exact qI (((ix code1 x35).Op == (8 : Int)), ()) hr (fun w s => s)
 refine c_false R hb57 (c_region (lO (vEq R R) (lB R (l_nil ?_))))
 exact qI (((ix code1 x35).Op == (9 : Int)), ()) hr (fun w s => s)
 rintro ⟨x58, _⟩ σ1 hr
 replace hr : impl_codeOk_J5 code1 x35 x58 = some out1 := hr
 unfold impl_codeOk_J5 at hr
 rcases bif_ hr with ⟨hb59, hr⟩ | ⟨hb59, hr⟩
 refine c_true R hb59 (cQ [(1, (iv loads3)), (7, (.bool (((decide ((ix code1 x35).A ≥ (0 : Int))) && (decide ((ix code1 x35).A < x35))) && ((ix code1 x35).B == (0 : Int))))), (16, (sc (ad g38 o39) code1 D34)), (17, (il code1)), (18, (iv x35))] (RR kT216 (ad g38 o39) D34 code1 :: W0) ?_ ?_)
 refine c_region (lO (vFa 1 fo216_1 R) (lO (vLd 0 ag3 R R R) (lO (vGe R R) (lB R ?_))))
 rcases bo (decide ((ix code1 x35).A ≥ (0 : Int))) with hc60 | hc60
 refine lW (wnT hc60) (vFa 1 fo216_1 R) (lW (wnT hc60) (vLd 0 ag3 R R R) (lW (wnT hc60) (vI R) (lW (wnT hc60) (vLt R R) (lO (pAT R hc60 R) (lB R ?_)))))
 rcases bo ((decide ((ix code1 x35).A ≥ (0 : Int))) && (decide ((ix code1 x35).A < x35))) with hc61 | hc61
 refine lW (wnT hc61) (vFa 2 fo216_2 R) (lW (wnT hc61) (vLd 0 ag3 R R R) (lW (wnT hc61) (vEq R R) (lO (pAT R hc61 R) (lB R (l_nil ?_)))))
 exact qJ (fun w s => (s.e 2 [1]))
 refine lf (wfF hc61) (lf (wfF hc61) (lf (wfF hc61) (lO (pAF ((ix code1 x35).B == (0 : Int)) R hc61) (lB R (l_nil ?_)))))
 exact qJ (fun w s => (s.e 2 [1]))
 refine lf (wfF hc60) (lf (wfF hc60) (lf (wfF hc60) (lf (wfF hc60) (lO (pAF (decide ((ix code1 x35).A < x35)) R hc60) (lB R (lf (wfF (aF hc60)) (lf (wfF (aF hc60)) (lf (wfF (aF hc60)) (lO (pAF ((ix code1 x35).B == (0 : Int)) R (aF hc60)) (lB R (l_nil ?_)))))))))))
 exact qJ (fun w s => (s.e 2 [1]))
 rintro σ1
 refine q_blockn ?_
 exact qI ((((decide ((ix code1 x35).A ≥ (0 : Int))) && (decide ((ix code1 x35).A < x35))) && ((ix code1 x35).B == (0 : Int))), ()) hr (fun w s => s)
 refine c_false R hb59 (c_skip (q_blockn ?_))
 exact qI (false, ()) hr (fun w s => (s.e 2 [1]))
 rintro ⟨ok62, _⟩ σ1 hr
 replace hr : impl_codeOk_J6 x35 ok62 = some out1 := hr
 unfold impl_codeOk_J6 at hr
 refine c_seq (c_region (lB R (lO (vNo R) (l_nil (q_next ?_)))))
 rcases bif_ hr with ⟨hb63, hr⟩ | ⟨hb63, hr⟩
 refine c_true R hb63 (c_seq (c_region (lB R (l_nil (q_next (c_ret (q_blockr (q_ret ?_))))))))
 obtain rfl := so hr
 obtain rfl := he1 _ R
 have hr := hk1
 refine q_ret (q_blockr (q_ret ?_))
 obtain rfl := so hr
 exact qF () (fun w s => (s.e 2 []))
 refine c_false R hb63 (c_skip (q_blockn (q_next (c_region (lO (vAd R R) (lI R (l_nil ?_)))))))
 obtain rfl := so hr
 exact qA ((ad g38 o39), code1.length, D34) (fun w s => s)
 refine c_false R hb36 (c_exit (q_exit ?_))
 obtain rfl := so hr
 obtain rfl := he1 _ R
 have hr := hk1
 refine q_exit (q_block ?_)
 exact q_join ((), ()) hr trivial (fun w s => (s.e 1 []))
 rintro ⟨_, _⟩ σ1 hr
 replace hr : impl_codeOk_J7 = some r := hr
 unfold impl_codeOk_J7 at hr
 refine c_seq (c_region (lB R (l_nil (q_next (c_ret ?_)))))
 obtain rfl := so hr
 exact qF () (fun w s => (s.e 1 []))
theorem slices_Clone_impl_Access_impl_Access_ok {s1 : List Access} {a_2 : Option Addr} {n_2 c_2 : Nat} {r : (List Access)} (hr : slices_Clone_impl_Access_impl_Access s1 = some r) :
    FnOk Try.prog 184 [(.slice a_2 n_2 c_2)] [rds kT124 (.slice a_2 n_2 c_2) s1] (fun (h : (Option Addr × Nat × Nat)) => ((.slice h.1 h.2.1 h.2.2), [ow (kT124).share 124 (.slice h.1 h.2.1 h.2.2) r])) := by
  unfold slices_Clone_impl_Access_impl_Access at hr
  obtain ⟨hg, hr⟩ := gd hr
  obtain rfl := Option.some.inj hr
  refine fn_ok Try.func184 rfl 8 rfl rfl fun C V => ?_
  refine c_st (V' := rds kT124 (.slice a_2 n_2 c_2) s1 :: V) (fun w s => s) ?_
  refine c_len 0 sees_rd (fun (hn : n_2 = s1.length) => ?_)
  subst hn
  refine c_seq (c_region ?_)
  refine l_v (.slice none 0 0) (v_pv rfl) rfl rfl ?_
  refine l_nil (q_next ?_)
  refine c_seq (c_seq (c_region ?_))
  refine l_v (.slice a_2 s1.length c_2) (v_pv rfl) rfl rfl ?_
  refine l_v (.bool a_2.isNone) (v_snil sl122 rfl rfl) rfl rfl ?_
  refine l_nil (q_next ?_)
  rcases Bool.eq_false_or_eq_true a_2.isNone with ha | ha
  · refine c_true rfl ha ?_
    refine c_nilx 0 sees_rd ha (fun (hx : s1 = []) => ?_)
    subst hx
    refine c_seq (c_region ?_)
    refine l_v (.slice none 0 0) (v_pv rfl) rfl rfl ?_
    refine l_nil (q_next ?_)
    refine c_ret (q_ret ?_)
    exact q_fin (vs := [(.slice none 0 0)]) (.inl rfl) (none, 0, 0) rfl ⟨rfl, trivial⟩ rfl (fun w s => ((s.nilo (kT124).share 124).sel 2 [0] rfl rfl))
  · refine c_false rfl ha (c_skip (q_next ?_))
    refine c_seq (c_region ?_)
    refine l_build (K := (kT124).share) (xs := ([] : List Access)) (vs := []) 0 rfl rfl sl122 sz124 zc124 rfl rfl rfl rfl rfl rfl ?_ rfl (fun a_3 c_3 => ?_)
    · exact fun I h s => (mS124).list [] I h s
    refine l_v (.slice a_2 s1.length c_2) (v_pv rfl) rfl rfl ?_
    refine l_app (K := (kT124).share) 3518437208883 rfl rfl sl122 sz124 by124 (Zr.zk (Zr.share zT124) zc124) rfl rfl rfl rfl rfl rfl src_sh (by simpa using hg) (fun a_4 c_4 => ?_)
    refine l_v (.slice a_4 s1.length c_4) (v_pv rfl) rfl rfl ?_
    refine l_nil (q_next ?_)
    refine c_ret ?_
    exact q_fin (vs := [(.slice a_4 s1.length c_4)]) (.inl rfl) (a_4, s1.length, c_4) rfl ⟨rfl, trivial⟩ rfl (fun w s => s)
theorem impl_Access_fitsIn_ok {a1 : Access} {loops3 : (List Int)} {size5 : Int} {r : Bool} (hr : impl_Access_fitsIn a1 loops3 size5 = some r) :
 FnOk Try.prog 185 [(.agg [(iv a1.Buffer), (iv a1.Offset), (.slice A2 N2 D2)].toArray), (.slice A4 N4 D4), (iv size5)] [rds kT3 (.slice A2 N2 D2) a1.Steps, rds kT3 (.slice A4 N4 D4) loops3] (fun (h : Unit) => ((.bool r), [])) := by
 unfold impl_Access_fitsIn at hr
 refine fn_ok Try.func185 R 85 R R fun C V => ?_
 refine cN (_ :: _ :: V) ?_
 refine cL 0 sees_rd ?_
 rintro rfl
 refine cL 1 sees_rd ?_
 rintro rfl
 let W0 : List HP := RR kT3 A2 D2 a1.Steps :: RR kT3 A4 D4 loops3 :: V
 refine cN W0 ?_
 refine c_seq (c_region (lBx R (fun b6 => (lB R (l_nil ?_)))))
 let W1 : List HP := bxl b6 [(iv a1.Buffer), (iv a1.Offset), (sc A2 a1.Steps D2)] 124 :: W0
 refine qN W1 ?_
 refine q_next (c_seq (c_seq (cQ [(1, (sc A4 loops3 D4)), (2, (iv size5)), (3, (pt b6 0)), (27, (.bool ((((a1.Steps.length : Int) != (loops3.length : Int)) || (decide (a1.Offset < (0 : Int)))) || (decide (a1.Offset ≥ size5)))))] (W1) ?_ ?_)))
 refine c_region (lO (vFa 2 fo124_2 R) (lO (vLd 0 ag29 R R R) (lO (v_len sl29 R) (lS R (lO (v_len sl29 R) (lO (vNe R R) (lB R ?_)))))))
 rcases bo ((a1.Steps.length : Int) != (loops3.length : Int)) with hc7 | hc7
 refine lf (wfT hc7) (lf (wfT hc7) (lf (wfT hc7) (lO (pOT (decide (a1.Offset < (0 : Int))) R hc7) (lB R (lf (wfT (oT hc7)) (lf (wfT (oT hc7)) (lf (wfT (oT hc7)) (lf (wfT (oT hc7)) (lO (pOT (decide (a1.Offset ≥ size5)) R (oT hc7)) (l_nil ?_))))))))))
 exact qJ (fun w s => s)
 refine lW (wnF hc7) (vFa 1 fo124_1 R) (lW (wnF hc7) (vLd 0 ag3 R R R) (lW (wnF hc7) (vLt R R) (lO (pOF R hc7 R) (lB R ?_))))
 rcases bo (((a1.Steps.length : Int) != (loops3.length : Int)) || (decide (a1.Offset < (0 : Int)))) with hc8 | hc8
 refine lf (wfT hc8) (lf (wfT hc8) (lf (wfT hc8) (lf (wfT hc8) (lO (pOT (decide (a1.Offset ≥ size5)) R hc8) (l_nil ?_)))))
 exact qJ (fun w s => s)
 refine lW (wnF hc8) (vFa 1 fo124_1 R) (lW (wnF hc8) (vLd 0 ag3 R R R) (lW (wnF hc8) (vI R) (lW (wnF hc8) (vGe R R) (lO (pOF R hc8 R) (l_nil ?_)))))
 exact qJ (fun w s => s)
 rintro σ1
 refine q_next ?_
 rcases bif_ hr with ⟨hb9, hr⟩ | ⟨hb9, hr⟩
 refine c_true R hb9 (c_seq (c_region (lB R (l_nil (q_next (c_ret (q_ret ?_)))))))
 obtain rfl := so hr
 exact qF () (fun w s => (s.e 3 []))
 refine c_false R hb9 (c_skip (q_next (c_seq (cdr 6 [] mixo (fun ht hn => (dR 0 R (vFa 1 fo124_1 R) (dR 1 R (vLd 0 ag3 R R R) (dR 2 R (vFa 1 fo124_1 R) (dR 3 R (vLd 0 ag3 R R R) (dR 4 R (vI R) (dR 5 R (vI R) (d_done (by kernel_rfl) (q_next (c_seq (c_cut (A := (Int × Int) × (Unit)) (fun a => impl_Access_fitsIn_J1 size5 a.1.1 a.1.2 = some r) (fun a => [(2, (iv size5)), (7, (iv a.1.1)), (8, (iv a.1.2))]) (fun a => W1) ?_ ?_)))))))))))))))
 refine c_seq (c_region (lO (vFa 2 fo124_2 R) (lO (vLd 0 ag29 R R R) (lO (v_len sl29 R) (lI R (l_nil (q_next (c_block ?_))))))))
 obtain ⟨e1, hl1, hk1⟩ := bd hr
 refine c_loop (A := HH) hl1 (fun s a => [(1, (sc A4 loops3 D4)), (2, (iv size5)), (7, (iv s.1)), (8, (iv s.2.1)), (33, (.slice a.1 a.2.1 a.2.2)), (34, (il a1.Steps)), (35, (iv s.2.2))]) (fun s a => rds kT3 (.slice a.1 a.2.1 a.2.2) a1.Steps :: W1) (A2, a1.Steps.length, D2) (aS R) (fun w s => (s.d 1 R)) ?_
 rintro ⟨lo24, hi25, x27⟩ ⟨A26, N26, D26⟩ σ1 out1 hr he1
 replace hr : impl_Access_fitsIn_L1 a1 loops3 lo24 hi25 x27 = some out1 := hr
 unfold impl_Access_fitsIn_L1 at hr
 refine c_len 0 sees_rd (fun (hn : N26 = a1.Steps.length) => ?_)
 subst hn
 refine c_seq (c_region (lO (vLt R R) (l_nil (q_next (c_seq ?_)))))
 rcases bif_ hr with ⟨hb28, hr⟩ | ⟨hb28, hr⟩
 refine c_true R hb28 (c_skip (q_next (c_seq (c_block (c_seq ?_)))))
 obtain ⟨hg29, hr⟩ := gd hr
 refine c_region (lI R (t_some 0 sees_rd (show 0 < a1.Steps.length by have := hg29; omega) (fun g30 o31 ha => ?_)))
 subst ha
 refine lO (vIa sl29 sz3 R R hg29) (lO (vLi 0 ag3 sees_rd R hg29) (lI R (lI R (l_nil (q_next (c_seq (c_seq ?_)))))))
 obtain ⟨hg32, hr⟩ := gd hr
 refine cQ [(1, (sc A4 loops3 D4)), (2, (iv size5)), (7, (iv lo24)), (8, (iv hi25)), (9, (iv x27)), (10, (iv (ix a1.Steps x27))), (33, (sc (ad g30 o31) a1.Steps D26)), (34, (il a1.Steps)), (35, (iv x27)), (56, (.bool (((decide ((ix a1.Steps x27) < (-4096 : Int))) || (decide ((ix a1.Steps x27) > (4096 : Int)))) || (((ix loops3 x27) == (1 : Int)) && ((ix a1.Steps x27) != (0 : Int))))))] (RR kT3 (ad g30 o31) D26 a1.Steps :: W1) ?_ ?_
 refine c_region (lI R (lO (vLt R R) (lB R ?_)))
 rcases bo (decide ((ix a1.Steps x27) < (-4096 : Int))) with hc35 | hc35
 refine lf (wfT hc35) (lf (wfT hc35) (lO (pOT (decide ((ix a1.Steps x27) > (4096 : Int))) R hc35) (lB R (lf (wfT (oT hc35)) (lf (wfT (oT hc35)) (lf (wfT (oT hc35)) (lf (wfT (oT hc35)) (lf (wfT (oT hc35)) (lf (wfT (oT hc35)) (lf R (lf R (lf (wfT (oT hc35)) (lO (pOT (((ix loops3 x27) == (1 : Int)) && ((ix a1.Steps x27) != (0 : Int))) R (oT hc35)) (l_nil ?_))))))))))))))
 exact qJ (fun w s => s)
 refine lW (wnF hc35) (vI R) (lW (wnF hc35) (vGt R R) (lO (pOF R hc35 R) (lB R ?_)))
 rcases bo ((decide ((ix a1.Steps x27) < (-4096 : Int))) || (decide ((ix a1.Steps x27) > (4096 : Int)))) with hc36 | hc36
 refine lf (wfT hc36) (lf (wfT hc36) (lf (wfT hc36) (lf (wfT hc36) (lf (wfT hc36) (lf (wfT hc36) (lf R (lf R (lf (wfT hc36) (lO (pOT (((ix loops3 x27) == (1 : Int)) && ((ix a1.Steps x27) != (0 : Int))) R hc36) (l_nil ?_))))))))))
 exact qJ (fun w s => s)
 refine lW (wnF hc36) (vS R) (lW (wnF hc36) (vI R) (t_some 3 sees_rd (show 0 < loops3.length by have := (hg32 hc36); omega) (fun g33 o34 ha => ?_)))
 subst ha
 refine lW (wnF hc36) (vIa sl29 sz3 R R (hg32 hc36)) (lW (wnF hc36) (vLi 3 ag3 sees_rd R (hg32 hc36)) (lW (wnF hc36) (vEq R R) (lW (wnF hc36) (vB R) ?_)))
 rcases bo ((ix loops3 x27) == (1 : Int)) with hc37 | hc37
 refine lW (wnT hc37) (vI R) (lW (wnT hc37) (vNe R R) (lW (wnF hc36) (pAT R hc37 R) (lO (pOF R hc36 R) (l_nil ?_))))
 exact qJ (fun w s => s)
 refine lf (wfF hc37) (lf (wfF hc37) (lW (wnF hc36) (pAF ((ix a1.Steps x27) != (0 : Int)) R hc37) (lO (pOF R hc36 R) (l_nil ?_))))
 exact qJ (fun w s => s)
 rintro σ1
 refine q_next ?_
 rcases bif_ hr with ⟨hb38, hr⟩ | ⟨hb38, hr⟩
 refine c_true R hb38 (c_seq (c_region (lB R (l_nil (q_next (c_ret (q_ret (q_blockr (q_ret ?_)))))))))
 obtain rfl := so hr
 obtain rfl := he1 _ R
 have hr := hk1
 refine q_ret (q_blockr (q_ret ?_))
 obtain rfl := so hr
 exact qF () (fun w s => (s.e 4 []))
 refine c_false R hb38 (c_skip (q_next (c_seq ?_)))
 obtain ⟨hg39, hr⟩ := gd hr
 refine c_region (lI R (lI R (lS R (lI R (t_some 3 sees_rd (show 0 < loops3.length by have := hg39; omega) (fun g40 o41 ha => ?_))))))
 subst ha
 refine lO (vIa sl29 sz3 R R hg39) (lO (vLi 3 ag3 sees_rd R hg39) (lO (vSb R R) (lO (vMu R R) (lO (vz (iv (if (w64 ((ix a1.Steps x27) * (w64 ((ix loops3 x27) - (1 : Int))))) < (0 : Int) then (w64 ((ix a1.Steps x27) * (w64 ((ix loops3 x27) - (1 : Int))))) else (0 : Int))) (v_min R R)) (lO (vAd R R) (lI R (l_nil (q_next (c_region (lI R (lI R (lS R (lI R (lO (vIa sl29 sz3 R R hg39) (lO (vLi 3 ag3 sees_rd R hg39) (lO (vSb R R) (lO (vMu R R) (lO (vz (iv (if (w64 ((ix a1.Steps x27) * (w64 ((ix loops3 x27) - (1 : Int))))) > (0 : Int) then (w64 ((ix a1.Steps x27) * (w64 ((ix loops3 x27) - (1 : Int))))) else (0 : Int))) (v_max R R)) (lO (vAd R R) (lI R (l_nil (q_blockn (q_next (c_region (lO (vAd R R) (lI R (l_nil ?_)))))))))))))))))))))))))))
 obtain rfl := so hr
 exact qA ((ad g30 o31), a1.Steps.length, D26) (fun w s => s)
 refine c_false R hb28 (c_exit (q_exit ?_))
 obtain rfl := so hr
 obtain rfl := he1 _ R
 have hr := hk1
 refine q_exit (q_block ?_)
 exact qI ((lo24, hi25), ()) hr (fun w s => (s.e 1 []))
 rintro ⟨⟨lo46, hi47⟩, _⟩ σ1 hr
 replace hr : impl_Access_fitsIn_J1 size5 lo46 hi47 = some r := hr
 unfold impl_Access_fitsIn_J1 at hr
 refine c_seq (cQ [(6, (.bool ((decide (lo46 ≥ (0 : Int))) && (decide (hi47 < size5)))))] (W1) ?_ ?_)
 refine c_region (lI R (lO (vGe R R) (lB R ?_)))
 rcases bo (decide (lo46 ≥ (0 : Int))) with hc48 | hc48
 refine lW (wnT hc48) (vI R) (lW (wnT hc48) (vI R) (lW (wnT hc48) (vLt R R) (lO (pAT R hc48 R) (lB R (l_nil ?_)))))
 exact qJ (fun w s => s)
 refine lf (wfF hc48) (lf (wfF hc48) (lf (wfF hc48) (lO (pAF (decide (hi47 < size5)) R hc48) (lB R (l_nil ?_)))))
 exact qJ (fun w s => s)
 rintro σ1
 refine q_next (c_ret ?_)
 obtain rfl := so hr
 exact qF () (fun w s => (s.e 3 []))
theorem impl_Nest_kernelOk_ok {l1 : Nest} {k7 : Kernel} {given12 : (List Bool)} {r : Int × Bool} (hr : impl_Nest_kernelOk l1 k7 given12 = some r) :
 FnOk Try.prog 130 [(.agg [(.slice A2 N2 D2), (.slice A3 N3 D3), (.slice A4 N4 D4), (.slice A5 N5 D5), (.slice A6 N6 D6)].toArray), (.agg [(.slice A8 N8 D8), (.slice A9 N9 D9), (iv k7.Store.Buffer), (iv k7.Store.Offset), (.slice A10 N10 D10), (.bool k7.Sum), (.slice A11 N11 D11)].toArray), (.slice A13 N13 D13)] [rds kT3 (.slice A2 N2 D2) l1.Sizes, rds kT3 (.slice A3 N3 D3) l1.Ins, rds kT159 (.slice A4 N4 D4) l1.Fixed, rds kT127 (.slice A5 N5 D5) l1.Kernels, rds kT3 (.slice A6 N6 D6) l1.Outs, rds kT3 (.slice A8 N8 D8) k7.Loops, rds kT124 (.slice A9 N9 D9) k7.Loads, rds kT3 (.slice A10 N10 D10) k7.Store.Steps, rds kT216 (.slice A11 N11 D11) k7.Code, rds kT4 (.slice A13 N13 D13) given12] (fun (h : Unit) => ((.tuple [(iv r.1), (.bool r.2)].toArray), [])) := by
 unfold impl_Nest_kernelOk at hr
 refine fn_ok Try.func130 R 96 R R fun C V => ?_
 refine cN (_ :: _ :: _ :: _ :: _ :: _ :: _ :: _ :: _ :: _ :: V) ?_
 refine cL 0 sees_rd ?_
 rintro rfl
 refine cL 1 sees_rd ?_
 rintro rfl
 refine cL 2 sees_rd ?_
 rintro rfl
 refine cL 3 sees_rd ?_
 rintro rfl
 refine cL 4 sees_rd ?_
 rintro rfl
 refine cL 5 sees_rd ?_
 rintro rfl
 refine cL 6 sees_rd ?_
 rintro rfl
 refine cL 7 sees_rd ?_
 rintro rfl
 refine cL 8 sees_rd ?_
 rintro rfl
 refine cL 9 sees_rd ?_
 rintro rfl
 let W0 : List HP := RR kT3 A2 D2 l1.Sizes :: RR kT3 A3 D3 l1.Ins :: RR kT159 A4 D4 l1.Fixed :: RR kT127 A5 D5 l1.Kernels :: RR kT3 A6 D6 l1.Outs :: RR kT3 A8 D8 k7.Loops :: RR kT124 A9 D9 k7.Loads :: RR kT3 A10 D10 k7.Store.Steps :: RR kT216 A11 D11 k7.Code :: RR kT4 A13 D13 given12 :: V
 refine cN W0 ?_
 refine c_seq (c_region (lBx R (fun b14 => (lBx R (fun b15 => (lI R (lB R (l_nil ?_))))))))
 let W1 : List HP := bxl b15 [(sc A8 k7.Loops D8), (sc A9 k7.Loads D9), (iv k7.Store.Buffer), (iv k7.Store.Offset), (sc A10 k7.Store.Steps D10), (.bool k7.Sum), (sc A11 k7.Code D11)] 127 :: bxl b14 [(sc A2 l1.Sizes D2), (sc A3 l1.Ins D3), (sc A4 l1.Fixed D4), (sc A5 l1.Kernels D5), (sc A6 l1.Outs D6)] 58 :: W0
 refine qN W1 ?_
 refine q_next (c_seq ?_)
 obtain ⟨r16, hx17, hr⟩ := bd hr
 refine c_region (lO (vFa 0 fo127_0 R) (lO (vLd 0 ag29 R R R) (lM (RR kT3 A8 D8 k7.Loops :: W1) (fun w s => (s.d 7 R)) ?_)))
 refine lC 1 cb182 R (impl_work_ok hx17) R ?_
 rintro _
 refine lN W1 ?_
 refine lO (vT R) (lI R (lB R (lI R (lB R (l_nil (q_next (c_seq (c_seq ?_))))))))
 obtain ⟨r18, hx19, hr⟩ := bd hr
 refine cQ [(2, (sc A13 given12 D13)), (3, (pt b14 0)), (4, (pt b15 0)), (8, (iv r16.1)), (36, (.bool (((!r16.2) || (decide ((k7.Loads.length : Int) > (30 : Int)))) || (!r18))))] (W1) ?_ ?_
 refine c_region (lB R (lO (vNo R) (lB R ?_)))
 rcases bo (!r16.2) with hc20 | hc20
 refine lf (wfT hc20) (lf (wfT hc20) (lf (wfT hc20) (lf (wfT hc20) (lO (pOT (decide ((k7.Loads.length : Int) > (30 : Int))) R hc20) (lB R (lf (wfT (oT hc20)) (lf (wfT (oT hc20)) (lf (wfT (oT hc20)) (lf (wfT (oT hc20)) (lf (wfT (oT hc20)) (lf (wfT (oT hc20)) (lf (wfT (oT hc20)) (lO (pOT (!r18) R (oT hc20)) (l_nil ?_))))))))))))))
 exact qJ (fun w s => s)
 refine lW (wnF hc20) (vFa 1 fo127_1 R) (lW (wnF hc20) (vLd 0 ag122 R R R) (lW (wnF hc20) (v_len sl122 R) (lW (wnF hc20) (vGt R R) (lO (pOF R hc20 R) (lB R ?_)))))
 rcases bo ((!r16.2) || (decide ((k7.Loads.length : Int) > (30 : Int)))) with hc21 | hc21
 refine lf (wfT hc21) (lf (wfT hc21) (lf (wfT hc21) (lf (wfT hc21) (lf (wfT hc21) (lf (wfT hc21) (lf (wfT hc21) (lO (pOT (!r18) R hc21) (l_nil ?_))))))))
 exact qJ (fun w s => s)
 refine lW (wnF hc21) (vFa 6 fo127_4 R) (lW (wnF hc21) (vLd 0 ag125 R R R) (lW (wnF hc21) (vFa 1 fo127_1 R) (lW (wnF hc21) (vLd 0 ag122 R R R) (lW (wnF hc21) (v_len sl122 R) (lM (RR kT216 A11 D11 k7.Code :: W1) (fun w s => (s.d 10 R)) ?_)))))
 refine l_calln 1 R (wnF hc21) cb183 R (impl_codeOk_ok (gcall_t hx19 (not_ff hc21))) R ?_
 rintro _
 refine lN W1 ?_
 refine lW (wnF hc21) (vNo R) (lO (pOF R hc21 R) (l_nil ?_))
 exact qJ (fun w s => s)
 rintro σ1
 refine q_next ?_
 rcases bif_ hr with ⟨hb22, hr⟩ | ⟨hb22, hr⟩
 refine c_true R hb22 (c_seq (c_region (lI R (lB R (l_nil (q_next (c_ret (q_ret ?_))))))))
 obtain rfl := so hr
 exact q_fin (vs := [(iv 0), (.bool false)]) (.inl R) () R ⟨R, R, trivial⟩ R (fun w s => (s.e 12 []))
 refine c_false R hb22 (c_skip (q_next (c_seq (c_cut (A := (Unit) × (Unit)) (fun a => impl_Nest_kernelOk_J1 k7 given12 r16 = some r) (fun a => [(2, (sc A13 given12 D13)), (4, (pt b15 0)), (8, (iv r16.1))]) (fun a => W1) ?_ ?_))))
 refine c_seq ?_
 obtain ⟨r23, hx24, hr⟩ := bd hr
 obtain ⟨hg27, hr⟩ := gd hr
 refine c_cutq (A := (Unit) × (HH)) (fun _ => True) (fun a => [(2, (sc A13 given12 D13)), (3, (pt b14 0)), (4, (pt b15 0)), (8, (iv r16.1)), (43, (.slice a.2.1 a.2.2.1 a.2.2.2)), (44, (il (r23 ++ ([k7.Store] : List Access)))), (45, (iv 0))]) (fun a => ow (kT124).share 124 (.slice a.2.1 a.2.2.1 a.2.2.2) (r23 ++ ([k7.Store] : List Access)) :: W1) ?_ ?_
 refine cdr 9 [] mixo (fun ht hn => (dR 0 R (vFa 1 fo127_1 R) (dR 1 R (vLd 0 ag122 R R R) (dR 3 R (vFa 2 fo127_2 R) (dR 4 R (vz (.agg [(iv k7.Store.Buffer), (iv k7.Store.Offset), (sc A10 k7.Store.Steps D10)].toArray) (v_loadw 0 ag124 sz124 R R R R)) (dR 8 R (vI R) (d_all [2, 5] (by kernel_rfl) R ⟨?_, ?_, trivial⟩)))))))
 refine lM (RR kT124 A9 D9 k7.Loads :: W1) (fun w s => (s.d 8 R)) ?_
 refine lC 1 cb184 R (slices_Clone_impl_Access_impl_Access_ok hx24) R ?_
 rintro ⟨A25, N25, D25⟩
 refine lN (ow (kT124).share 124 (.slice A25 N25 D25) r23 :: W1) ?_
 refine l_len 0 sees_sh ?_
 rintro rfl
 refine l_nil (q_draw (sL [0]) (d_one 5 (by kernel_rfl) R (lM (RR kT3 A10 D10 k7.Store.Steps :: _ :: W1) (fun w s => (s.d 10 R)) ?_)))
 refine l_build (K := (kT124).share) (xs := ([k7.Store] : List Access)) (vs := [(.agg [(iv k7.Store.Buffer), (iv k7.Store.Offset), (sc A10 k7.Store.Steps D10)].toArray)]) 1 R R sl122 sz124 zc124 R R R R R R ?_ R (fun A26 D26 => ?_)
 exact fun I h s => (mS124).list [(((), (), (sc A10 k7.Store.Steps D10)), k7.Store)] I h s
 refine lN (OO (kT124).share 124 A26 D26 ([k7.Store] : List Access) :: _ :: W1) ?_
 refine l_nil (q_draw (sL [1, 0]) (d_one 6 (by kernel_rfl) R (lM (ow _ _ _ _ :: ow _ _ _ _ :: W1) (fun w s => (s.e 2 [1, 0])) ?_)))
 refine l_app (K := (kT124).share) 3518437208883 R R sl122 sz124 by124 (Zr.zk (Zr.share zT124) zc124) R R R R R R src_ow hg27 (fun A28 D28 => (lN (OO (kT124).share 124 A28 D28 (r23 ++ ([k7.Store] : List Access)) :: W1) ?_))
 refine l_nil (q_draw (sL [0]) (dR 7 R (v_len sl122 R) (hS := (sL [0])) (d_done (by kernel_rfl) ?_)))
 exact q_join ((), (A28, (r23 ++ ([k7.Store] : List Access)).length, D28)) trivial (aS R) (fun w s => s)
 refine lM (RR kT3 A10 D10 k7.Store.Steps :: W1) (fun w s => (s.d 9 R)) ?_
 refine l_build (K := (kT124).share) (xs := ([k7.Store] : List Access)) (vs := [(.agg [(iv k7.Store.Buffer), (iv k7.Store.Offset), (sc A10 k7.Store.Steps D10)].toArray)]) 1 R R sl122 sz124 zc124 R R R R R R ?_ R (fun A26 D26 => ?_)
 exact fun I h s => (mS124).list [(((), (), (sc A10 k7.Store.Steps D10)), k7.Store)] I h s
 refine lN (OO (kT124).share 124 A26 D26 ([k7.Store] : List Access) :: W1) ?_
 refine l_nil (q_draw (sL [0]) (d_one 2 (by kernel_rfl) R (lM (RR kT124 A9 D9 k7.Loads :: _ :: W1) (fun w s => (s.d 9 R)) ?_)))
 refine lC 1 cb184 R (slices_Clone_impl_Access_impl_Access_ok hx24) R ?_
 rintro ⟨A25, N25, D25⟩
 refine lN (ow (kT124).share 124 (.slice A25 N25 D25) r23 :: _ :: W1) ?_
 refine l_len 0 sees_sh ?_
 rintro rfl
 refine l_nil (q_draw (sL [1, 0]) (d_one 6 (by kernel_rfl) R (l_app (K := (kT124).share) 3518437208883 R R sl122 sz124 by124 (Zr.zk (Zr.share zT124) zc124) R R R R R R src_ow hg27 (fun A28 D28 => (lN (OO (kT124).share 124 A28 D28 (r23 ++ ([k7.Store] : List Access)) :: W1) ?_)))))
 refine l_nil (q_draw (sL [0]) (dR 7 R (v_len sl122 R) (hS := (sL [0])) (d_done (by kernel_rfl) ?_)))
 exact q_join ((), (A28, (r23 ++ ([k7.Store] : List Access)).length, D28)) trivial (aS R) (fun w s => s)
 rintro ⟨_, ⟨A29, N29, D29⟩⟩ σ1 -
 refine q_len 0 sees_sh (fun (hn : N29 = (r23 ++ ([k7.Store] : List Access)).length) => ?_)
 subst hn
 refine q_next (c_block ?_)
 obtain ⟨e1, hl1, hk1⟩ := bd hr
 refine c_loop (A := HH) hl1 (fun s a => [(2, (sc A13 given12 D13)), (3, (pt b14 0)), (4, (pt b15 0)), (8, (iv r16.1)), (43, (.slice a.1 a.2.1 a.2.2)), (44, (il (r23 ++ ([k7.Store] : List Access)))), (45, (iv s))]) (fun s a => ow (kT124).share 124 (.slice a.1 a.2.1 a.2.2) (r23 ++ ([k7.Store] : List Access)) :: W1) (A29, (r23 ++ ([k7.Store] : List Access)).length, D29) (aS R) (fun w s => s) ?_
 rintro x45 ⟨A44, N44, D44⟩ σ1 out1 hr he1
 replace hr : impl_Nest_kernelOk_L1 l1 k7 r23 x45 = some out1 := hr
 unfold impl_Nest_kernelOk_L1 at hr
 refine c_len 0 sees_sh (fun (hn : N44 = (r23 ++ ([k7.Store] : List Access)).length) => ?_)
 subst hn
 refine c_seq (c_region (lO (vLt R R) (l_nil (q_next (c_seq ?_)))))
 rcases bif_ hr with ⟨hb46, hr⟩ | ⟨hb46, hr⟩
 refine c_true R hb46 (c_skip (q_next (c_seq (c_block (c_seq ?_)))))
 obtain ⟨hg47, hr⟩ := gd hr
 refine c_region (t_some 0 sees_sh (show 0 < (r23 ++ ([k7.Store] : List Access)).length by have := hg47; omega) (fun g48 o49 ha => ?_))
 subst ha
 refine lO (vIa sl122 sz124 R R hg47) (l_ldo (K := (kT124).share) 0 x45 R R ag124 sz124 dT124.own R R hg47.1 hg47.2 ?_)
 rintro ⟨-, -, ⟨A50, D50⟩⟩
 refine lN (RR kT3 A50 D50 ((ix (r23 ++ ([k7.Store] : List Access)) x45).Steps) :: OO (kT124).share 124 (ad g48 o49) D44 (r23 ++ ([k7.Store] : List Access)) :: W1) ?_
 refine l_alloc R R zc124 (fun b51 => (l_stores 0 R R sz124 R R R R R R (lN (bxl b51 [(iv (ix (r23 ++ ([k7.Store] : List Access)) x45).Buffer), (iv (ix (r23 ++ ([k7.Store] : List Access)) x45).Offset), (sc A50 ((ix (r23 ++ ([k7.Store] : List Access)) x45).Steps) D50)] 124 :: _ :: _ :: W1) ?_)))
 refine l_nil (q_next (c_seq ?_))
 obtain ⟨hg52, hr⟩ := gd hr
 obtain ⟨r55, hx56, hr⟩ := bd hr
 refine cQ [(2, (sc A13 given12 D13)), (3, (pt b14 0)), (4, (pt b15 0)), (8, (iv r16.1)), (43, (sc (ad g48 o49) (r23 ++ ([k7.Store] : List Access)) D44)), (44, (il (r23 ++ ([k7.Store] : List Access)))), (45, (iv x45)), (72, (.bool (((decide ((ix (r23 ++ ([k7.Store] : List Access)) x45).Buffer < (0 : Int))) || (decide ((ix (r23 ++ ([k7.Store] : List Access)) x45).Buffer ≥ (l1.Sizes.length : Int)))) || (!r55))))] (OO (kT124).share 124 (ad g48 o49) D44 (r23 ++ ([k7.Store] : List Access)) :: W1) ?_ ?_
 rcases bo (decide ((ix (r23 ++ ([k7.Store] : List Access)) x45).Buffer < (0 : Int))) with hc57 | hc57
 refine cdr 24 [] mixo (fun ht hn => (dR 0 R (vFa 0 fo124_0 R) (dR 1 R (vLd 0 ag3 R R R) (dR 2 R (vLt R R) (dR 3 R (vB R) (dF 4 R (wfT hc57) (dF 5 R (wfT hc57) (dF 6 R (wfT hc57) (dF 7 R (wfT hc57) (dF 8 R (wfT hc57) (dF 9 R (wfT hc57) (dR 10 R (pOT (decide ((ix (r23 ++ ([k7.Store] : List Access)) x45).Buffer ≥ (l1.Sizes.length : Int))) R hc57) (dR 11 R (vB R) (dF 12 R (wfT (oT hc57)) (dF 13 R (wfT (oT hc57)) (dF 14 R (wfT (oT hc57)) (dF 15 R (wfT (oT hc57)) (dF 16 R (wfT (oT hc57)) (dF 17 R (wfT (oT hc57)) (dF 18 R (wfT (oT hc57)) (dF 19 R (wfT (oT hc57)) (dF 20 R (wfT (oT hc57)) (dF 21 R (wfT (oT hc57)) (dF 22 R (wfT (oT hc57)) (dR 23 R (pOT (!r55) R (oT hc57)) (d_done (by kernel_rfl) ?_))))))))))))))))))))))))))
 exact qJ (fun w s => (s.e 3 [2]))
 rcases bo ((decide ((ix (r23 ++ ([k7.Store] : List Access)) x45).Buffer < (0 : Int))) || (decide ((ix (r23 ++ ([k7.Store] : List Access)) x45).Buffer ≥ (l1.Sizes.length : Int)))) with hc58 | hc58
 refine cdr 24 [] mixo (fun ht hn => (dR 0 R (vFa 0 fo124_0 R) (dR 1 R (vLd 0 ag3 R R R) (dR 2 R (vLt R R) (dR 3 R (vB R) (dW 4 R (wnF hc57) (vFa 0 fo124_0 R) (dW 5 R (wnF hc57) (vLd 0 ag3 R R R) (dW 6 R (wnF hc57) (vFa 0 fo58_0 R) (dW 7 R (wnF hc57) (vLd 4 ag29 R R R) (dW 8 R (wnF hc57) (v_len sl29 R) (dW 9 R (wnF hc57) (vGe R R) (dR 10 R (pOF R hc57 R) (dR 11 R (vB R) (dF 12 R (wfT hc58) (dF 13 R (wfT hc58) (dF 14 R (wfT hc58) (dF 15 R (wfT hc58) (dF 16 R (wfT hc58) (dF 17 R (wfT hc58) (dF 18 R (wfT hc58) (dF 19 R (wfT hc58) (dF 20 R (wfT hc58) (dF 21 R (wfT hc58) (dF 22 R (wfT hc58) (dR 23 R (pOT (!r55) R hc58) (d_done (by kernel_rfl) ?_))))))))))))))))))))))))))
 exact qJ (fun w s => (s.e 3 [2]))
 refine c_some 5 sees_rd (show 0 < l1.Sizes.length by have := (hg52 hc58); omega) (fun g53 o54 ha => ?_)
 subst ha
 refine cdr 24 [] mixo (fun ht hn => (dR 0 R (vFa 0 fo124_0 R) (dR 1 R (vLd 0 ag3 R R R) (dR 2 R (vLt R R) (dR 3 R (vB R) (dW 4 R (wnF hc57) (vFa 0 fo124_0 R) (dW 5 R (wnF hc57) (vLd 0 ag3 R R R) (dW 6 R (wnF hc57) (vFa 0 fo58_0 R) (dW 7 R (wnF hc57) (vLd 4 ag29 R R R) (dW 8 R (wnF hc57) (v_len sl29 R) (dW 9 R (wnF hc57) (vGe R R) (dR 10 R (pOF R hc57 R) (dR 11 R (vB R) (dW 12 R (wnF hc58) (vz (.agg [(iv (ix (r23 ++ ([k7.Store] : List Access)) x45).Buffer), (iv (ix (r23 ++ ([k7.Store] : List Access)) x45).Offset), (sc A50 ((ix (r23 ++ ([k7.Store] : List Access)) x45).Steps) D50)].toArray) (v_loadw 0 ag124 sz124 R R R R)) (dW 13 R (wnF hc58) (vFa 0 fo127_0 R) (dW 14 R (wnF hc58) (vLd 3 ag29 R R R) (dW 15 R (wnF hc58) (vFa 0 fo58_0 R) (dW 16 R (wnF hc58) (vLd 4 ag29 R R R) (dW 17 R (wnF hc58) (vFa 0 fo124_0 R) (dW 18 R (wnF hc58) (vLd 0 ag3 R R R) (dW 19 R (wnF hc58) (vIa sl29 sz3 R R (hg52 hc58)) (dW 20 R (wnF hc58) (vLi 5 ag3 sees_rd R (hg52 hc58)) (d_one 21 (by kernel_rfl) R (lM (rds _ _ _ :: RR kT3 A8 D8 k7.Loops :: bxl _ _ _ :: rds _ _ _ :: ow _ _ _ _ :: W1) (fun w s => (((s.d 1 R).d 11 R).e 5 [1, 0, 2, 3, 4])) ?_))))))))))))))))))))))))
 refine l_calln 2 R (wnF hc58) cb185 R (impl_Access_fitsIn_ok (gcall_t hx56 (not_ff hc58))) R ?_
 rintro _
 refine lN (_ :: _ :: _ :: W1) ?_
 refine l_nil (q_draw (sL []) (dW 22 R (wnF hc58) (vNo R) (dR 23 R (pOF R hc58 R) (d_done (by kernel_rfl) ?_))))
 exact qJ (fun w s => (s.e 3 [2]))
 rintro σ1
 refine q_next ?_
 rcases bif_ hr with ⟨hb59, hr⟩ | ⟨hb59, hr⟩
 refine c_true R hb59 (c_seq (c_region (lI R (lB R (l_nil (q_next (c_ret (q_blockr (q_ret ?_)))))))))
 obtain rfl := so hr
 obtain rfl := he1 _ R
 have hr := hk1
 refine q_ret (q_blockr (q_ret ?_))
 obtain rfl := so hr
 exact q_fin (vs := [(iv 0), (.bool false)]) (.inl R) () R ⟨R, R, trivial⟩ R (fun w s => (s.e 13 []))
 refine c_false R hb59 (c_skip (q_blockn (q_next (c_region (lO (vAd R R) (lI R (l_nil ?_)))))))
 obtain rfl := so hr
 exact qA ((ad g48 o49), (r23 ++ ([k7.Store] : List Access)).length, D44) (fun w s => s)
 refine c_false R hb46 (c_exit (q_exit ?_))
 obtain rfl := so hr
 obtain rfl := he1 _ R
 have hr := hk1
 refine q_exit (q_block ?_)
 exact qI ((), ()) hr (fun w s => (s.e 1 []))
 rintro ⟨_, _⟩ σ1 hr
 replace hr : impl_Nest_kernelOk_J1 k7 given12 r16 = some r := hr
 unfold impl_Nest_kernelOk_J1 at hr
 refine c_seq (c_cut (A := (Unit) × (Unit)) (fun a => impl_Nest_kernelOk_J2 k7 given12 r16 = some r) (fun a => [(2, (sc A13 given12 D13)), (4, (pt b15 0)), (8, (iv r16.1))]) (fun a => W1) ?_ ?_)
 refine c_seq (c_region (lO (vFa 1 fo127_1 R) (lO (vLd 0 ag122 R R R) (lO (v_len sl122 R) (lI R (l_nil (q_next (c_block ?_))))))))
 obtain ⟨e2, hl2, hk2⟩ := bd hr
 refine c_loop (A := Unit) hl2 (fun s a => [(2, (sc A13 given12 D13)), (4, (pt b15 0)), (8, (iv r16.1)), (75, (sc A9 k7.Loads D9)), (76, (il k7.Loads)), (77, (iv s))]) (fun s a => W1) () (aS R) (fun w s => s) ?_
 rintro x69 _ σ1 out2 hr he2
 replace hr : impl_Nest_kernelOk_L2 k7 x69 = some out2 := hr
 unfold impl_Nest_kernelOk_L2 at hr
 refine c_seq (c_region (lO (vLt R R) (l_nil (q_next (c_seq ?_)))))
 rcases bif_ hr with ⟨hb70, hr⟩ | ⟨hb70, hr⟩
 refine c_true R hb70 (c_skip (q_next (c_seq (c_block (c_seq ?_)))))
 obtain ⟨hg71, hr⟩ := gd hr
 refine c_region (t_some 8 sees_rd (show 0 < k7.Loads.length by have := hg71; omega) (fun g72 o73 ha => ?_))
 subst ha
 refine lO (vIa sl122 sz124 R R hg71) (t_elem (K := kT124) 8 x69 dT124.dec R hg71.1 hg71.2 ?_)
 rintro ⟨-, -, ⟨A74, D74⟩⟩
 refine lN (cl g72 (o73 + x69.toNat * 3) [(iv (ix k7.Loads x69).Buffer), (iv (ix k7.Loads x69).Offset), (sc A74 ((ix k7.Loads x69).Steps) D74)] :: RR kT3 A74 D74 ((ix k7.Loads x69).Steps) :: W1) ?_
 refine lO (vz (.agg [(iv (ix k7.Loads x69).Buffer), (iv (ix k7.Loads x69).Offset), (sc A74 ((ix k7.Loads x69).Steps) D74)].toArray) (v_clfs (fo := 0) 0 ag124 sz124 R R R R)) (l_alloc R R zc124 (fun b75 => (l_stores 0 R R sz124 R R R R R R (lN (bxl b75 [(iv (ix k7.Loads x69).Buffer), (iv (ix k7.Loads x69).Offset), (sc A74 ((ix k7.Loads x69).Steps) D74)] 124 :: _ :: _ :: W1) ?_))))
 refine l_nil (q_next (c_seq (c_region (lO (vFa 0 fo124_0 R) (lO (vLd 0 ag3 R R R) (lO (vFa 2 fo127_2 R) (lO (vFa 2 fo124_0 R) (lO (vLd 3 ag3 R R R) (lO (vEq R R) (l_nil (q_next ?_)))))))))))
 rcases bif_ hr with ⟨hb76, hr⟩ | ⟨hb76, hr⟩
 refine c_true R hb76 (c_seq (c_region (lI R (lB R (l_nil (q_next (c_ret (q_blockr (q_ret ?_)))))))))
 obtain rfl := so hr
 obtain rfl := he2 _ R
 have hr := hk2
 refine q_ret (q_blockr (q_ret ?_))
 obtain rfl := so hr
 exact q_fin (vs := [(iv 0), (.bool false)]) (.inl R) () R ⟨R, R, trivial⟩ R (fun w s => (s.e 15 []))
 refine c_false R hb76 (c_skip (q_blockn (q_next (c_region (lO (vAd R R) (lI R (l_nil ?_)))))))
 obtain rfl := so hr
 exact qA () (fun w s => (s.e 3 []))
 refine c_false R hb70 (c_exit (q_exit ?_))
 obtain rfl := so hr
 obtain rfl := he2 _ R
 have hr := hk2
 refine q_exit (q_block ?_)
 exact qI ((), ()) hr (fun w s => s)
 rintro ⟨_, _⟩ σ1 hr
 replace hr : impl_Nest_kernelOk_J2 k7 given12 r16 = some r := hr
 unfold impl_Nest_kernelOk_J2 at hr
 refine c_seq ?_
 obtain ⟨hg78, hr⟩ := gd hr
 refine c_some 11 sees_rd (show 0 < given12.length by have := hg78; omega) (fun g79 o80 ha => ?_)
 subst ha
 refine cdr 10 [] mixo (fun ht hn => (dR 0 R (vI R) (dR 1 R (vS R) (dR 2 R (vFa 2 fo127_2 R) (dR 3 R (vFa 2 fo124_0 R) (dR 4 R (vLd 0 ag3 R R R) (dR 5 R (vIa sl168 sz4 R R hg78) (dR 6 R (vz (.bool (ix given12 k7.Store.Buffer)) (v_lde (K := kT4) (fo := 0) (pr := fun x => (.bool x)) 11 k7.Store.Buffer ag4 (dT4.leaf fun _ _ => R) sees_rd R hg78.1 hg78.2)) (dR 7 R (vNo R) (dR 8 R (vI R) (dR 9 R (vB R) (d_done (by kernel_rfl) (q_next (c_ret ?_))))))))))))))
 obtain rfl := so hr
 exact q_fin (vs := [(iv r16.1), (.bool (!(ix given12 k7.Store.Buffer)))]) (.inl R) () R ⟨R, R, trivial⟩ R (fun w s => (s.e 12 []))
theorem impl_NestOk_ok {l1 : Nest} {r : Bool} (hr : impl_NestOk l1 = some r) :
 FnOk Try.prog 74 [(.agg [(.slice A2 N2 D2), (.slice A3 N3 D3), (.slice A4 N4 D4), (.slice A5 N5 D5), (.slice A6 N6 D6)].toArray)] [rds kT3 (.slice A2 N2 D2) l1.Sizes, rds kT3 (.slice A3 N3 D3) l1.Ins, rds kT159 (.slice A4 N4 D4) l1.Fixed, rds kT127 (.slice A5 N5 D5) l1.Kernels, rds kT3 (.slice A6 N6 D6) l1.Outs] (fun (h : Unit) => ((.bool r), [])) := by
 unfold impl_NestOk at hr
 refine fn_ok Try.func74 R 96 R R fun C V => ?_
 refine cN (_ :: _ :: _ :: _ :: _ :: V) ?_
 refine cL 0 sees_rd ?_
 rintro rfl
 refine cL 1 sees_rd ?_
 rintro rfl
 refine cL 2 sees_rd ?_
 rintro rfl
 refine cL 3 sees_rd ?_
 rintro rfl
 refine cL 4 sees_rd ?_
 rintro rfl
 let W0 : List HP := RR kT3 A2 D2 l1.Sizes :: RR kT3 A3 D3 l1.Ins :: RR kT159 A4 D4 l1.Fixed :: RR kT127 A5 D5 l1.Kernels :: RR kT3 A6 D6 l1.Outs :: V
 refine cN W0 ?_
 refine c_seq (c_region (lBx R (fun b7 => (lB R (l_nil ?_)))))
 let W1 : List HP := bxl b7 [(sc A2 l1.Sizes D2), (sc A3 l1.Ins D3), (sc A4 l1.Fixed D4), (sc A5 l1.Kernels D5), (sc A6 l1.Outs D6)] 58 :: W0
 refine qN W1 ?_
 refine q_next (c_seq (c_seq (cQ [(1, (pt b7 0)), (35, (.bool ((((decide ((l1.Sizes.length : Int) > (200 : Int))) || (decide ((l1.Ins.length : Int) > (40 : Int)))) || (decide ((l1.Outs.length : Int) > (40 : Int)))) || (decide ((l1.Kernels.length : Int) > (400 : Int))))))] (W1) ?_ ?_)))
 refine c_region (lO (vFa 0 fo58_0 R) (lO (vLd 0 ag29 R R R) (lO (v_len sl29 R) (lO (vGt R R) (lB R ?_)))))
 rcases bo (decide ((l1.Sizes.length : Int) > (200 : Int))) with hc8 | hc8
 refine lf (wfT hc8) (lf (wfT hc8) (lf (wfT hc8) (lf (wfT hc8) (lO (pOT (decide ((l1.Ins.length : Int) > (40 : Int))) R hc8) (lB R (lf (wfT (oT hc8)) (lf (wfT (oT hc8)) (lf (wfT (oT hc8)) (lf (wfT (oT hc8)) (lO (pOT (decide ((l1.Outs.length : Int) > (40 : Int))) R (oT hc8)) (lB R (lf (wfT (oT (oT hc8))) (lf (wfT (oT (oT hc8))) (lf (wfT (oT (oT hc8))) (lf (wfT (oT (oT hc8))) (lO (pOT (decide ((l1.Kernels.length : Int) > (400 : Int))) R (oT (oT hc8))) (l_nil ?_)))))))))))))))))
 exact qJ (fun w s => s)
 refine lW (wnF hc8) (vFa 1 fo58_1 R) (lW (wnF hc8) (vLd 0 ag29 R R R) (lW (wnF hc8) (v_len sl29 R) (lW (wnF hc8) (vGt R R) (lO (pOF R hc8 R) (lB R ?_)))))
 rcases bo ((decide ((l1.Sizes.length : Int) > (200 : Int))) || (decide ((l1.Ins.length : Int) > (40 : Int)))) with hc9 | hc9
 refine lf (wfT hc9) (lf (wfT hc9) (lf (wfT hc9) (lf (wfT hc9) (lO (pOT (decide ((l1.Outs.length : Int) > (40 : Int))) R hc9) (lB R (lf (wfT (oT hc9)) (lf (wfT (oT hc9)) (lf (wfT (oT hc9)) (lf (wfT (oT hc9)) (lO (pOT (decide ((l1.Kernels.length : Int) > (400 : Int))) R (oT hc9)) (l_nil ?_)))))))))))
 exact qJ (fun w s => s)
 refine lW (wnF hc9) (vFa 4 fo58_4 R) (lW (wnF hc9) (vLd 0 ag29 R R R) (lW (wnF hc9) (v_len sl29 R) (lW (wnF hc9) (vGt R R) (lO (pOF R hc9 R) (lB R ?_)))))
 rcases bo (((decide ((l1.Sizes.length : Int) > (200 : Int))) || (decide ((l1.Ins.length : Int) > (40 : Int)))) || (decide ((l1.Outs.length : Int) > (40 : Int)))) with hc10 | hc10
 refine lf (wfT hc10) (lf (wfT hc10) (lf (wfT hc10) (lf (wfT hc10) (lO (pOT (decide ((l1.Kernels.length : Int) > (400 : Int))) R hc10) (l_nil ?_)))))
 exact qJ (fun w s => s)
 refine lW (wnF hc10) (vFa 3 fo58_3 R) (lW (wnF hc10) (vLd 0 ag56 R R R) (lW (wnF hc10) (v_len sl56 R) (lW (wnF hc10) (vGt R R) (lO (pOF R hc10 R) (l_nil ?_)))))
 exact qJ (fun w s => s)
 rintro σ1
 refine q_next ?_
 rcases bif_ hr with ⟨hb11, hr⟩ | ⟨hb11, hr⟩
 refine c_true R hb11 (c_seq (c_region (lB R (l_nil (q_next (c_ret (q_ret ?_)))))))
 obtain rfl := so hr
 exact qF () (fun w s => (s.e 6 []))
 refine c_false R hb11 (c_skip (q_next (c_seq (c_cut (A := (Unit) × (Unit)) (fun a => impl_NestOk_J1 l1 = some r) (fun a => [(1, (pt b7 0))]) (fun a => W1) ?_ ?_))))
 refine c_seq (c_region (lO (vFa 0 fo58_0 R) (lO (vLd 0 ag29 R R R) (lO (v_len sl29 R) (lI R (l_nil (q_next (c_block ?_))))))))
 obtain ⟨e1, hl1, hk1⟩ := bd hr
 refine c_loop (A := HH) hl1 (fun s a => [(1, (pt b7 0)), (37, (.slice a.1 a.2.1 a.2.2)), (38, (il l1.Sizes)), (39, (iv s))]) (fun s a => rds kT3 (.slice a.1 a.2.1 a.2.2) l1.Sizes :: W1) (A2, l1.Sizes.length, D2) (aS R) (fun w s => (s.d 1 R)) ?_
 rintro x19 ⟨A18, N18, D18⟩ σ1 out1 hr he1
 replace hr : impl_NestOk_L1 l1 x19 = some out1 := hr
 unfold impl_NestOk_L1 at hr
 refine c_len 0 sees_rd (fun (hn : N18 = l1.Sizes.length) => ?_)
 subst hn
 refine c_seq (c_region (lO (vLt R R) (l_nil (q_next (c_seq ?_)))))
 rcases bif_ hr with ⟨hb20, hr⟩ | ⟨hb20, hr⟩
 refine c_true R hb20 (c_skip (q_next (c_seq (c_block (c_seq ?_)))))
 obtain ⟨hg21, hr⟩ := gd hr
 refine c_region (t_some 0 sees_rd (show 0 < l1.Sizes.length by have := hg21; omega) (fun g22 o23 ha => ?_))
 subst ha
 refine lO (vIa sl29 sz3 R R hg21) (lO (vLi 0 ag3 sees_rd R hg21) (lI R (l_nil (q_next (c_seq (cQ [(1, (pt b7 0)), (37, (sc (ad g22 o23) l1.Sizes D18)), (38, (il l1.Sizes)), (39, (iv x19)), (48, (.bool ((decide ((ix l1.Sizes x19) < (0 : Int))) || (decide ((ix l1.Sizes x19) > (4096 : Int))))))] (RR kT3 (ad g22 o23) D18 l1.Sizes :: W1) ?_ ?_))))))
 refine c_region (lI R (lO (vLt R R) (lB R ?_)))
 rcases bo (decide ((ix l1.Sizes x19) < (0 : Int))) with hc24 | hc24
 refine lf (wfT hc24) (lf (wfT hc24) (lO (pOT (decide ((ix l1.Sizes x19) > (4096 : Int))) R hc24) (l_nil ?_)))
 exact qJ (fun w s => s)
 refine lW (wnF hc24) (vI R) (lW (wnF hc24) (vGt R R) (lO (pOF R hc24 R) (l_nil ?_)))
 exact qJ (fun w s => s)
 rintro σ1
 refine q_next ?_
 rcases bif_ hr with ⟨hb25, hr⟩ | ⟨hb25, hr⟩
 refine c_true R hb25 (c_seq (c_region (lB R (l_nil (q_next (c_ret (q_blockr (q_ret ?_))))))))
 obtain rfl := so hr
 obtain rfl := he1 _ R
 have hr := hk1
 refine q_ret (q_blockr (q_ret ?_))
 obtain rfl := so hr
 exact qF () (fun w s => (s.e 7 []))
 refine c_false R hb25 (c_skip (q_blockn (q_next (c_region (lO (vAd R R) (lI R (l_nil ?_)))))))
 obtain rfl := so hr
 exact qA ((ad g22 o23), l1.Sizes.length, D18) (fun w s => s)
 refine c_false R hb20 (c_exit (q_exit ?_))
 obtain rfl := so hr
 obtain rfl := he1 _ R
 have hr := hk1
 refine q_exit (q_block ?_)
 exact qI ((), ()) hr (fun w s => (s.e 1 []))
 rintro ⟨_, _⟩ σ1 hr
 replace hr : impl_NestOk_J1 l1 = some r := hr
 unfold impl_NestOk_J1 at hr
 refine c_seq (c_cut (A := (Unit) × (Unit)) (fun a => impl_NestOk_J2 l1 = some r) (fun a => [(1, (pt b7 0))]) (fun a => W1) ?_ ?_)
 refine c_seq (c_region (lO (vFa 4 fo58_4 R) (lO (vLd 0 ag29 R R R) (lO (v_len sl29 R) (lI R (l_nil (q_next (c_block ?_))))))))
 obtain ⟨e2, hl2, hk2⟩ := bd hr
 refine c_loop (A := HH) hl2 (fun s a => [(1, (pt b7 0)), (51, (.slice a.1 a.2.1 a.2.2)), (52, (il l1.Outs)), (53, (iv s))]) (fun s a => rds kT3 (.slice a.1 a.2.1 a.2.2) l1.Outs :: W1) (A6, l1.Outs.length, D6) (aS R) (fun w s => (s.d 5 R)) ?_
 rintro x35 ⟨A34, N34, D34⟩ σ1 out2 hr he2
 replace hr : impl_NestOk_L2 l1 x35 = some out2 := hr
 unfold impl_NestOk_L2 at hr
 refine c_len 0 sees_rd (fun (hn : N34 = l1.Outs.length) => ?_)
 subst hn
 refine c_seq (c_region (lO (vLt R R) (l_nil (q_next (c_seq ?_)))))
 rcases bif_ hr with ⟨hb36, hr⟩ | ⟨hb36, hr⟩
 refine c_true R hb36 (c_skip (q_next (c_seq (c_block (c_seq ?_)))))
 obtain ⟨hg37, hr⟩ := gd hr
 refine c_region (t_some 0 sees_rd (show 0 < l1.Outs.length by have := hg37; omega) (fun g38 o39 ha => ?_))
 subst ha
 refine lO (vIa sl29 sz3 R R hg37) (lO (vLi 0 ag3 sees_rd R hg37) (lI R (l_nil (q_next (c_seq (cQ [(1, (pt b7 0)), (51, (sc (ad g38 o39) l1.Outs D34)), (52, (il l1.Outs)), (53, (iv x35)), (65, (.bool ((decide ((ix l1.Outs x35) < (0 : Int))) || (decide ((ix l1.Outs x35) ≥ (l1.Sizes.length : Int))))))] (RR kT3 (ad g38 o39) D34 l1.Outs :: W1) ?_ ?_))))))
 refine c_region (lI R (lO (vLt R R) (lB R ?_)))
 rcases bo (decide ((ix l1.Outs x35) < (0 : Int))) with hc40 | hc40
 refine lf (wfT hc40) (lf (wfT hc40) (lf (wfT hc40) (lf (wfT hc40) (lf (wfT hc40) (lO (pOT (decide ((ix l1.Outs x35) ≥ (l1.Sizes.length : Int))) R hc40) (l_nil ?_))))))
 exact qJ (fun w s => s)
 refine lW (wnF hc40) (vI R) (lW (wnF hc40) (vFa 0 fo58_0 R) (lW (wnF hc40) (vLd 1 ag29 R R R) (lW (wnF hc40) (v_len sl29 R) (lW (wnF hc40) (vGe R R) (lO (pOF R hc40 R) (l_nil ?_))))))
 exact qJ (fun w s => s)
 rintro σ1
 refine q_next ?_
 rcases bif_ hr with ⟨hb41, hr⟩ | ⟨hb41, hr⟩
 refine c_true R hb41 (c_seq (c_region (lB R (l_nil (q_next (c_ret (q_blockr (q_ret ?_))))))))
 obtain rfl := so hr
 obtain rfl := he2 _ R
 have hr := hk2
 refine q_ret (q_blockr (q_ret ?_))
 obtain rfl := so hr
 exact qF () (fun w s => (s.e 7 []))
 refine c_false R hb41 (c_skip (q_blockn (q_next (c_region (lO (vAd R R) (lI R (l_nil ?_)))))))
 obtain rfl := so hr
 exact qA ((ad g38 o39), l1.Outs.length, D34) (fun w s => s)
 refine c_false R hb36 (c_exit (q_exit ?_))
 obtain rfl := so hr
 obtain rfl := he2 _ R
 have hr := hk2
 refine q_exit (q_block ?_)
 exact qI ((), ()) hr (fun w s => (s.e 1 []))
 rintro ⟨_, _⟩ σ1 hr
 replace hr : impl_NestOk_J2 l1 = some r := hr
 unfold impl_NestOk_J2 at hr
 refine c_seq ?_
 obtain ⟨r44, hx45, hr⟩ := bd hr
 refine c_region (lO (vz (.agg [(sc A2 l1.Sizes D2), (sc A3 l1.Ins D3), (sc A4 l1.Fixed D4), (sc A5 l1.Kernels D5), (sc A6 l1.Outs D6)].toArray) (v_loadw 0 ag58 sz58 R R R R)) (lM (RR kT3 A2 D2 l1.Sizes :: RR kT3 A3 D3 l1.Ins :: RR kT159 A4 D4 l1.Fixed :: RR kT127 A5 D5 l1.Kernels :: RR kT3 A6 D6 l1.Outs :: W1) (fun w s => ((((((s.d 1 R).d 3 R).d 5 R).d 7 R).d 9 R).e 5 [4, 3, 2, 1, 0])) ?_))
 refine lC 5 cb129 R (impl_Nest_given_ok hx45) R ?_
 rintro ⟨A46, N46, D46⟩
 refine lN (ow kT4 4 (.slice A46 N46 D46) r44.1 :: W1) ?_
 refine l_len 0 sees_ow ?_
 rintro rfl
 refine lO (vT R) (lS R (lB R (lS R (lB R (l_nil (q_next (c_seq (c_seq (c_region (lB R (lO (vNo R) (l_nil (q_next ?_)))))))))))))
 rcases bif_ hr with ⟨hb47, hr⟩ | ⟨hb47, hr⟩
 refine c_true R hb47 (c_seq (c_region (lB R (l_nil (q_next (c_ret (q_ret ?_)))))))
 obtain rfl := so hr
 exact qF () (fun w s => (s.e 7 []))
 refine c_false R hb47 (c_skip (q_next (c_seq (c_region (lI R (l_nil (q_next (c_seq (c_cut (A := (Int) × (Unit)) (fun a => impl_NestOk_J3 a.1 = some r) (fun a => [(9, (iv a.1))]) (fun a => W1) ?_ ?_)))))))))
 refine c_seq (c_region (lO (vFa 3 fo58_3 R) (lO (vLd 1 ag56 R R R) (lO (v_len sl56 R) (lI R (l_nil (q_next (c_block ?_))))))))
 obtain ⟨e3, hl3, hk3⟩ := bd hr
 refine c_loop (A := Unit) hl3 (fun s a => [(1, (pt b7 0)), (7, (sc A46 r44.1 D46)), (9, (iv s.1)), (75, (sc A5 l1.Kernels D5)), (76, (il l1.Kernels)), (77, (iv s.2))]) (fun s a => OO kT4 4 A46 D46 r44.1 :: W1) () (aS R) (fun w s => s) ?_
 rintro ⟨sum60, x61⟩ _ σ1 out3 hr he3
 replace hr : impl_NestOk_L3 l1 r44 sum60 x61 = some out3 := hr
 unfold impl_NestOk_L3 at hr
 refine c_seq (c_region (lO (vLt R R) (l_nil (q_next (c_seq ?_)))))
 rcases bif_ hr with ⟨hb62, hr⟩ | ⟨hb62, hr⟩
 refine c_true R hb62 (c_skip (q_next (c_seq (c_block (c_seq ?_)))))
 obtain ⟨hg63, hr⟩ := gd hr
 refine c_region (t_some 5 sees_rd (show 0 < l1.Kernels.length by have := hg63; omega) (fun g64 o65 ha => ?_))
 subst ha
 refine lO (vIa sl56 sz127 R R hg63) (t_elem (K := kT127) 5 x61 dT127.dec R hg63.1 hg63.2 ?_)
 rintro ⟨⟨A66, D66⟩, ⟨A67, D67⟩, ⟨-, -, ⟨A68, D68⟩⟩, -, ⟨A69, D69⟩⟩
 refine lN (cl g64 (o65 + x61.toNat * 7) [(sc A66 ((ix l1.Kernels x61).Loops) D66), (sc A67 ((ix l1.Kernels x61).Loads) D67), (iv (ix l1.Kernels x61).Store.Buffer), (iv (ix l1.Kernels x61).Store.Offset), (sc A68 ((ix l1.Kernels x61).Store.Steps) D68), (.bool (ix l1.Kernels x61).Sum), (sc A69 ((ix l1.Kernels x61).Code) D69)] :: RR kT3 A66 D66 ((ix l1.Kernels x61).Loops) :: RR kT124 A67 D67 ((ix l1.Kernels x61).Loads) :: RR kT3 A68 D68 ((ix l1.Kernels x61).Store.Steps) :: RR kT216 A69 D69 ((ix l1.Kernels x61).Code) :: _ :: W1) ?_
 refine lO (vz (.agg [(sc A66 ((ix l1.Kernels x61).Loops) D66), (sc A67 ((ix l1.Kernels x61).Loads) D67), (iv (ix l1.Kernels x61).Store.Buffer), (iv (ix l1.Kernels x61).Store.Offset), (sc A68 ((ix l1.Kernels x61).Store.Steps) D68), (.bool (ix l1.Kernels x61).Sum), (sc A69 ((ix l1.Kernels x61).Code) D69)].toArray) (v_clfs (fo := 0) 0 ag127 sz127 R R R R)) (l_alloc R R zc127 (fun b70 => (l_stores 0 R R sz127 R R R R R R (lN (bxl b70 [(sc A66 ((ix l1.Kernels x61).Loops) D66), (sc A67 ((ix l1.Kernels x61).Loads) D67), (iv (ix l1.Kernels x61).Store.Buffer), (iv (ix l1.Kernels x61).Store.Offset), (sc A68 ((ix l1.Kernels x61).Store.Steps) D68), (.bool (ix l1.Kernels x61).Sum), (sc A69 ((ix l1.Kernels x61).Code) D69)] 127 :: _ :: _ :: _ :: _ :: _ :: _ :: W1) ?_))))
 refine l_nil (q_next (c_seq ?_))
 obtain ⟨r71, hx72, hr⟩ := bd hr
 refine c_region (lO (vz (.agg [(sc A2 l1.Sizes D2), (sc A3 l1.Ins D3), (sc A4 l1.Fixed D4), (sc (ad g64 o65) l1.Kernels D5), (sc A6 l1.Outs D6)].toArray) (v_loadw 7 ag58 sz58 R R R R)) (lO (vz (.agg [(sc A66 ((ix l1.Kernels x61).Loops) D66), (sc A67 ((ix l1.Kernels x61).Loads) D67), (iv (ix l1.Kernels x61).Store.Buffer), (iv (ix l1.Kernels x61).Store.Offset), (sc A68 ((ix l1.Kernels x61).Store.Steps) D68), (.bool (ix l1.Kernels x61).Sum), (sc A69 ((ix l1.Kernels x61).Code) D69)].toArray) (v_loadw 0 ag127 sz127 R R R R)) (lS R (lM (ow _ _ _ _ :: RR kT3 A2 D2 l1.Sizes :: RR kT3 A3 D3 l1.Ins :: RR kT159 A4 D4 l1.Fixed :: RR kT127 (ad g64 o65) D5 l1.Kernels :: RR kT3 A6 D6 l1.Outs :: rds _ _ _ :: rds _ _ _ :: rds _ _ _ :: rds _ _ _ :: bxl _ _ _ :: cl _ _ _ :: rds _ _ _ :: rds _ _ _ :: rds _ _ _ :: rds _ _ _ :: W1) (fun w s => ((((((((((s.d 8 R).d 10 R).d 12 R).d 14 R).d 16 R).d 7 R).d 9 R).d 11 R).d 13 R).e 16 [15, 8, 7, 6, 5, 4, 3, 2, 1, 0, 9, 10, 11, 12, 13, 14])) ?_))))
 refine lC 10 cb130 R (FnOk.lends (A' := [OO kT4 4 A46 D46 r44.1]) (A := [RR kT4 A46 D46 r44.1]) (B := [RR kT3 A2 D2 l1.Sizes, RR kT3 A3 D3 l1.Ins, RR kT159 A4 D4 l1.Fixed, RR kT127 (ad g64 o65) D5 l1.Kernels, RR kT3 A6 D6 l1.Outs, RR kT3 A66 D66 ((ix l1.Kernels x61).Loops), RR kT124 A67 D67 ((ix l1.Kernels x61).Loads), RR kT3 A68 D68 ((ix l1.Kernels x61).Store.Steps), RR kT216 A69 D69 ((ix l1.Kernels x61).Code)]) (FnOk.perm (impl_Nest_kernelOk_ok hx72) (Pre' := [RR kT4 A46 D46 r44.1, RR kT3 A2 D2 l1.Sizes, RR kT3 A3 D3 l1.Ins, RR kT159 A4 D4 l1.Fixed, RR kT127 (ad g64 o65) D5 l1.Kernels, RR kT3 A6 D6 l1.Outs, RR kT3 A66 D66 ((ix l1.Kernels x61).Loops), RR kT124 A67 D67 ((ix l1.Kernels x61).Loads), RR kT3 A68 D68 ((ix l1.Kernels x61).Store.Steps), RR kT216 A69 D69 ((ix l1.Kernels x61).Code)]) (fun _ _ _ s => (s.f 10 [1, 9, 0, 1]))) ⟨lend_ow, trivial⟩ (fun _ => trivial)) R ?_
 rintro _
 refine lN (_ :: _ :: _ :: _ :: _ :: _ :: _ :: W1) ?_
 refine lO (vT R) (lI R (lB R (lI R (lB R (l_nil (q_next (c_seq (c_seq (c_region (lB R (lO (vNo R) (l_nil (q_next ?_)))))))))))))
 rcases bif_ hr with ⟨hb73, hr⟩ | ⟨hb73, hr⟩
 refine c_true R hb73 (c_seq (c_region (lB R (l_nil (q_next (c_ret (q_ret (q_blockr (q_ret ?_)))))))))
 obtain rfl := so hr
 obtain rfl := he3 _ R
 have hr := hk3
 refine q_ret (q_blockr (q_ret ?_))
 obtain rfl := so hr
 exact qF () (fun w s => (s.e 13 []))
 refine c_false R hb73 (c_skip (q_next (c_region (lI R (lI R (lO (vAd R R) (lI R (l_nil (q_blockn (q_next (c_region (lO (vAd R R) (lI R (l_nil ?_))))))))))))))
 obtain rfl := so hr
 exact qA () (fun w s => (s.e 7 [0]))
 refine c_false R hb62 (c_exit (q_exit ?_))
 obtain rfl := so hr
 obtain rfl := he3 _ R
 have hr := hk3
 refine q_exit (q_block ?_)
 exact qI (sum60, ()) hr (fun w s => (s.e 1 []))
 rintro ⟨sum76, _⟩ σ1 hr
 replace hr : impl_NestOk_J3 sum76 = some r := hr
 unfold impl_NestOk_J3 at hr
 refine c_seq (c_region (lI R (lO (vLe R R) (lB R (l_nil (q_next (c_ret ?_)))))))
 obtain rfl := so hr
 exact qF () (fun w s => (s.e 6 []))
theorem impl_truth_ok {b1 : Bool} {r : Int} (hr : impl_truth b1 = some r) :
 FnOk Try.prog 213 [(.bool b1)] [] (fun (h : Unit) => ((iv r), [])) := by
 unfold impl_truth at hr
 refine fn_ok Try.func213 R 4 R R fun C V => ?_
 refine cN V ?_
 refine c_seq (c_region (lI R (l_nil (q_next (c_seq (c_seq (c_region (lB R (l_nil (q_next ?_))))))))))
 rcases bif_ hr with ⟨hb2, hr⟩ | ⟨hb2, hr⟩
 refine c_true R hb2 (c_seq (c_region (lI R (l_nil (q_next (c_ret (q_ret ?_)))))))
 obtain rfl := so hr
 exact qF () (fun w s => s)
 refine c_false R hb2 (c_skip (q_next (c_seq (c_region (lI R (l_nil (q_next (c_ret ?_))))))))
 obtain rfl := so hr
 exact qF () (fun w s => s)
theorem impl_Kernel_loadsOf_ok {k1 : Kernel} {b6 : Int} {r : Int} (hr : impl_Kernel_loadsOf k1 b6 = some r) :
 FnOk Try.prog 192 [(.agg [(.slice A2 N2 D2), (.slice A3 N3 D3), (iv k1.Store.Buffer), (iv k1.Store.Offset), (.slice A4 N4 D4), (.bool k1.Sum), (.slice A5 N5 D5)].toArray), (iv b6)] [rds kT3 (.slice A2 N2 D2) k1.Loops, rds kT124 (.slice A3 N3 D3) k1.Loads, rds kT3 (.slice A4 N4 D4) k1.Store.Steps, rds kT216 (.slice A5 N5 D5) k1.Code] (fun (h : Unit) => ((iv r), [])) := by
 unfold impl_Kernel_loadsOf at hr
 refine fn_ok Try.func192 R 24 R R fun C V => ?_
 refine cN (_ :: _ :: _ :: _ :: V) ?_
 refine cL 0 sees_rd ?_
 rintro rfl
 refine cL 1 sees_rd ?_
 rintro rfl
 refine cL 2 sees_rd ?_
 rintro rfl
 refine cL 3 sees_rd ?_
 rintro rfl
 let W0 : List HP := RR kT3 A2 D2 k1.Loops :: RR kT124 A3 D3 k1.Loads :: RR kT3 A4 D4 k1.Store.Steps :: RR kT216 A5 D5 k1.Code :: V
 refine cN W0 ?_
 refine c_seq (c_region (lBx R (fun b7 => (lI R (l_nil ?_)))))
 let W1 : List HP := bxl b7 [(sc A2 k1.Loops D2), (sc A3 k1.Loads D3), (iv k1.Store.Buffer), (iv k1.Store.Offset), (sc A4 k1.Store.Steps D4), (.bool k1.Sum), (sc A5 k1.Code D5)] 127 :: W0
 refine qN W1 ?_
 refine q_next (c_seq (c_region (lI R (l_nil (q_next (c_seq (c_cut (A := (Int) × (Unit)) (fun a => impl_Kernel_loadsOf_J1 a.1 = some r) (fun a => [(5, (iv a.1))]) (fun a => W1) ?_ ?_)))))))
 refine c_seq (c_region (lO (vFa 1 fo127_1 R) (lO (vLd 0 ag122 R R R) (lO (v_len sl122 R) (lI R (l_nil (q_next (c_block ?_))))))))
 obtain ⟨e1, hl1, hk1⟩ := bd hr
 refine c_loop (A := Unit) hl1 (fun s a => [(1, (iv b6)), (5, (iv s.1)), (9, (sc A3 k1.Loads D3)), (10, (il k1.Loads)), (11, (iv s.2))]) (fun s a => W1) () (aS R) (fun w s => s) ?_
 rintro ⟨n16, x17⟩ _ σ1 out1 hr he1
 replace hr : impl_Kernel_loadsOf_L1 k1 b6 n16 x17 = some out1 := hr
 unfold impl_Kernel_loadsOf_L1 at hr
 refine c_seq (c_region (lO (vLt R R) (l_nil (q_next (c_seq ?_)))))
 rcases bif_ hr with ⟨hb18, hr⟩ | ⟨hb18, hr⟩
 refine c_true R hb18 (c_skip (q_next (c_seq (c_block (c_seq ?_)))))
 obtain ⟨hg19, hr⟩ := gd hr
 refine c_region (t_some 2 sees_rd (show 0 < k1.Loads.length by have := hg19; omega) (fun g20 o21 ha => ?_))
 subst ha
 refine lO (vIa sl122 sz124 R R hg19) (t_elem (K := kT124) 2 x17 dT124.dec R hg19.1 hg19.2 ?_)
 rintro ⟨-, -, ⟨A22, D22⟩⟩
 refine lN (cl g20 (o21 + x17.toNat * 3) [(iv (ix k1.Loads x17).Buffer), (iv (ix k1.Loads x17).Offset), (sc A22 ((ix k1.Loads x17).Steps) D22)] :: RR kT3 A22 D22 ((ix k1.Loads x17).Steps) :: W1) ?_
 refine lO (vz (.agg [(iv (ix k1.Loads x17).Buffer), (iv (ix k1.Loads x17).Offset), (sc A22 ((ix k1.Loads x17).Steps) D22)].toArray) (v_clfs (fo := 0) 0 ag124 sz124 R R R R)) (l_alloc R R zc124 (fun b23 => (l_stores 0 R R sz124 R R R R R R (lN (bxl b23 [(iv (ix k1.Loads x17).Buffer), (iv (ix k1.Loads x17).Offset), (sc A22 ((ix k1.Loads x17).Steps) D22)] 124 :: _ :: _ :: W1) ?_))))
 refine l_nil (q_next ?_)
 obtain ⟨r24, hx25, hr⟩ := bd hr
 refine c_region (lI R (lO (vFa 0 fo124_0 R) (lO (vLd 0 ag3 R R R) (lI R (lO (vEq R R) (lC 0 cb213 R (impl_truth_ok hx25) R ?_))))))
 rintro _
 refine lO (vAd R R) (lI R (l_nil (q_blockn (q_next (c_region (lO (vAd R R) (lI R (l_nil ?_))))))))
 obtain rfl := so hr
 exact qA () (fun w s => (s.e 3 []))
 refine c_false R hb18 (c_exit (q_exit ?_))
 obtain rfl := so hr
 obtain rfl := he1 _ R
 have hr := hk1
 refine q_exit (q_block ?_)
 exact qI (n16, ()) hr (fun w s => s)
 rintro ⟨n28, _⟩ σ1 hr
 replace hr : impl_Kernel_loadsOf_J1 n28 = some r := hr
 unfold impl_Kernel_loadsOf_J1 at hr
 refine c_seq (c_region (lI R (lI R (l_nil (q_next (c_ret ?_))))))
 obtain rfl := so hr
 exact qF () (fun w s => (s.e 5 []))
theorem slices_Index_int_int_ok {p1 : (List Int)} {v3 : Int} {r : Int} (hr : slices_Index_int_int p1 v3 = some r) :
 FnOk Try.prog 212 [(.slice A2 N2 D2), (iv v3)] [rds kT3 (.slice A2 N2 D2) p1] (fun (h : Unit) => ((iv r), [])) := by
 unfold slices_Index_int_int at hr
 refine fn_ok Try.func212 R 19 R R fun C V => ?_
 refine cN (_ :: V) ?_
 refine cL 0 sees_rd ?_
 rintro rfl
 let W0 : List HP := RR kT3 A2 D2 p1 :: V
 refine cN W0 ?_
 refine c_seq (c_region (lI R (l_nil (q_next (c_seq (c_cut (A := (Unit) × (Unit)) (fun a => slices_Index_int_int_J1 = some r) (fun a => []) (fun a => W0) ?_ ?_))))))
 refine c_seq (c_region (lS R (lO (v_len sl29 R) (lI R (l_nil (q_next (c_block ?_)))))))
 obtain ⟨e1, hl1, hk1⟩ := bd hr
 refine c_loop (A := Unit) hl1 (fun s a => [(0, (sc A2 p1 D2)), (1, (iv v3)), (7, (il p1)), (8, (iv s))]) (fun s a => W0) () (aS R) (fun w s => s) ?_
 rintro x9 _ σ1 out1 hr he1
 replace hr : slices_Index_int_int_L1 p1 v3 x9 = some out1 := hr
 unfold slices_Index_int_int_L1 at hr
 refine c_seq (c_region (lO (vLt R R) (l_nil (q_next (c_seq ?_)))))
 rcases bif_ hr with ⟨hb10, hr⟩ | ⟨hb10, hr⟩
 refine c_true R hb10 (c_skip (q_next (c_seq (c_block (c_seq (c_region (lI R (lI R (l_nil (q_next (c_seq ?_)))))))))))
 obtain ⟨hg11, hr⟩ := gd hr
 refine c_region (lI R (lS R (lI R (t_some 0 sees_rd (show 0 < p1.length by have := hg11; omega) (fun g12 o13 ha => ?_)))))
 subst ha
 refine lO (vIa sl29 sz3 R R hg11) (lO (vLi 0 ag3 sees_rd R hg11) (lO (vEq R R) (l_nil (q_next ?_))))
 rcases bif_ hr with ⟨hb14, hr⟩ | ⟨hb14, hr⟩
 refine c_true R hb14 (c_seq (c_region (lI R (lI R (l_nil (q_next (c_ret (q_blockr (q_ret ?_)))))))))
 obtain rfl := so hr
 obtain rfl := he1 _ R
 have hr := hk1
 refine q_ret (q_blockr (q_ret ?_))
 obtain rfl := so hr
 exact qF () (fun w s => (s.e 1 []))
 refine c_false R hb14 (c_skip (q_blockn (q_next (c_region (lO (vAd R R) (lI R (l_nil ?_)))))))
 obtain rfl := so hr
 exact qA () (fun w s => s)
 refine c_false R hb10 (c_exit (q_exit ?_))
 obtain rfl := so hr
 obtain rfl := he1 _ R
 have hr := hk1
 refine q_exit (q_block ?_)
 exact q_join ((), ()) hr trivial (fun w s => s)
 rintro ⟨_, _⟩ σ1 hr
 replace hr : slices_Index_int_int_J1 = some r := hr
 unfold slices_Index_int_int_J1 at hr
 refine c_seq (c_region (lI R (l_nil (q_next (c_ret ?_)))))
 obtain rfl := so hr
 exact qF () (fun w s => (s.e 1 []))
theorem slices_Contains_int_int_ok {p1 : (List Int)} {v3 : Int} {r : Bool} (hr : slices_Contains_int_int p1 v3 = some r) :
 FnOk Try.prog 191 [(.slice A2 N2 D2), (iv v3)] [rds kT3 (.slice A2 N2 D2) p1] (fun (h : Unit) => ((.bool r), [])) := by
 unfold slices_Contains_int_int at hr
 refine fn_ok Try.func191 R 9 R R fun C V => ?_
 refine cN (_ :: V) ?_
 refine cL 0 sees_rd ?_
 rintro rfl
 let W0 : List HP := RR kT3 A2 D2 p1 :: V
 refine cN W0 ?_
 refine c_seq (c_region (lB R (l_nil (q_next (c_seq ?_)))))
 obtain ⟨r4, hx5, hr⟩ := bd hr
 refine c_region (lS R (lI R (lM (RR kT3 A2 D2 p1 :: W0) (fun w s => (s.d 0 R)) ?_)))
 refine lC 1 cb212 R (slices_Index_int_int_ok hx5) R ?_
 rintro _
 refine lN W0 ?_
 refine lO (vGe R R) (lB R (l_nil (q_next (c_ret ?_))))
 obtain rfl := so hr
 exact qF () (fun w s => (s.e 1 []))
theorem impl_Nest_lives_ok {l1 : Nest} {r : (List Life)} (hr : impl_Nest_lives l1 = some r) :
 FnOk Try.prog 151 [(.agg [(.slice A2 N2 D2), (.slice A3 N3 D3), (.slice A4 N4 D4), (.slice A5 N5 D5), (.slice A6 N6 D6)].toArray)] [rds kT3 (.slice A2 N2 D2) l1.Sizes, rds kT3 (.slice A3 N3 D3) l1.Ins, rds kT159 (.slice A4 N4 D4) l1.Fixed, rds kT127 (.slice A5 N5 D5) l1.Kernels, rds kT3 (.slice A6 N6 D6) l1.Outs] (fun (h : HH) => ((.slice h.1 h.2.1 h.2.2), [ow kT114 114 (.slice h.1 h.2.1 h.2.2) r])) := by
 unfold impl_Nest_lives at hr
 refine fn_ok Try.func151 R 92 R R fun C V => ?_
 refine cN (_ :: _ :: _ :: _ :: _ :: V) ?_
 refine cL 0 sees_rd ?_
 rintro rfl
 refine cL 1 sees_rd ?_
 rintro rfl
 refine cL 2 sees_rd ?_
 rintro rfl
 refine cL 3 sees_rd ?_
 rintro rfl
 refine cL 4 sees_rd ?_
 rintro rfl
 let W0 : List HP := RR kT3 A2 D2 l1.Sizes :: RR kT3 A3 D3 l1.Ins :: RR kT159 A4 D4 l1.Fixed :: RR kT127 A5 D5 l1.Kernels :: RR kT3 A6 D6 l1.Outs :: V
 refine cN W0 ?_
 refine c_seq (c_region (lBx R (fun b7 => (lS R (l_nil ?_)))))
 let W1 : List HP := bxl b7 [(sc A2 l1.Sizes D2), (sc A3 l1.Ins D3), (sc A4 l1.Fixed D4), (sc A5 l1.Kernels D5), (sc A6 l1.Outs D6)] 58 :: W0
 refine qN W1 ?_
 refine q_next (c_seq ?_)
 obtain ⟨r8, hx9, hr⟩ := bd hr
 refine c_region (lO (vz (.agg [(sc A2 l1.Sizes D2), (sc A3 l1.Ins D3), (sc A4 l1.Fixed D4), (sc A5 l1.Kernels D5), (sc A6 l1.Outs D6)].toArray) (v_loadw 0 ag58 sz58 R R R R)) (lM (RR kT3 A2 D2 l1.Sizes :: RR kT3 A3 D3 l1.Ins :: RR kT159 A4 D4 l1.Fixed :: RR kT127 A5 D5 l1.Kernels :: RR kT3 A6 D6 l1.Outs :: W1) (fun w s => ((((((s.d 1 R).d 3 R).d 5 R).d 7 R).d 9 R).e 5 [4, 3, 2, 1, 0])) ?_))
 refine lC 5 cb129 R (impl_Nest_given_ok hx9) R ?_
 rintro ⟨A10, N10, D10⟩
 refine lN (ow kT4 4 (.slice A10 N10 D10) r8.1 :: W1) ?_
 refine l_len 0 sees_ow ?_
 rintro rfl
 refine lO (vT R) (lS R (lB R (lS R (lB R (l_nil (q_next (c_seq (c_region (l_build (K := kT114) (xs := ([] : List Life)) (vs := []) 0 R R sl183 sz114 zc114 R R R R R R ?_ R (fun A11 D11 => ?_))))))))))
 exact fun I h s => (mO114).list [] I h s
 refine lN (OO kT114 114 A11 D11 ([] : List Life) :: _ :: W1) ?_
 refine lS R (l_nil (q_next (c_seq (c_cut (A := ((List Life)) × (HH)) (fun a => impl_Nest_lives_J17 a.1 = some r) (fun a => [(5, (.slice a.2.1 a.2.2.1 a.2.2.2))]) (fun a => ow kT114 114 (.slice a.2.1 a.2.2.1 a.2.2.2) a.1 :: W1) ?_ ?_))))
 refine c_seq (c_region (lO (vFa 0 fo58_0 R) (lO (vLd 2 ag29 R R R) (lO (v_len sl29 R) (lI R (l_nil (q_next (c_block ?_))))))))
 obtain ⟨e1, hl1, hk1⟩ := bd hr
 refine c_loop (A := HH × HH) hl1 (fun s a => [(1, (pt b7 0)), (3, (sc A10 r8.1 D10)), (5, (.slice a.1.1 a.1.2.1 a.1.2.2)), (20, (.slice a.2.1 a.2.2.1 a.2.2.2)), (21, (il l1.Sizes)), (22, (iv s.2))]) (fun s a => OO kT4 4 A10 D10 r8.1 :: ow kT114 114 (.slice a.1.1 a.1.2.1 a.1.2.2) s.1 :: rds kT3 (.slice a.2.1 a.2.2.1 a.2.2.2) l1.Sizes :: W1) ((A11, ([] : List Life).length, D11), (A2, l1.Sizes.length, D2)) (aS R) (fun w s => ((s.d 3 R).e 3 [2, 1, 0])) ?_
 rintro ⟨x84, x87⟩ ⟨⟨A85, N85, D85⟩, ⟨A86, N86, D86⟩⟩ σ1 out1 hr he1
 replace hr : impl_Nest_lives_L1 l1 r8 x84 x87 = some out1 := hr
 unfold impl_Nest_lives_L1 at hr
 refine c_len 1 sees_ow (fun (hn : N85 = x84.length) => ?_)
 subst hn
 refine c_len 2 sees_rd (fun (hn : N86 = l1.Sizes.length) => ?_)
 subst hn
 refine c_seq (c_region (lO (vLt R R) (l_nil (q_next (c_seq ?_)))))
 rcases bif_ hr with ⟨hb88, hr⟩ | ⟨hb88, hr⟩
 refine c_true R hb88 (c_skip (q_next (c_seq (c_cut (A := ((List Life)) × (HH × HH)) (fun a => impl_Nest_lives_J16 x87 a.1 = some out1) (fun a => [(1, (pt b7 0)), (3, (sc A10 r8.1 D10)), (5, (.slice a.2.1.1 a.2.1.2.1 a.2.1.2.2)), (20, (.slice a.2.2.1 a.2.2.2.1 a.2.2.2.2)), (21, (il l1.Sizes)), (22, (iv x87))]) (fun a => OO kT4 4 A10 D10 r8.1 :: ow kT114 114 (.slice a.2.1.1 a.2.1.2.1 a.2.1.2.2) a.1 :: rds kT3 (.slice a.2.2.1 a.2.2.2.1 a.2.2.2.2) l1.Sizes :: W1) ?_ ?_))))
 refine c_block (c_seq ?_)
 obtain ⟨hg89, hr⟩ := gd hr
 refine c_region (lI R (t_some 2 sees_rd (show 0 < l1.Sizes.length by have := hg89; omega) (fun g90 o91 ha => ?_)))
 subst ha
 refine lO (vIa sl29 sz3 R R hg89) (lO (vLi 2 ag3 sees_rd R hg89) (lI R (lI R (l_nil (q_next (c_seq (c_region (lI R (lI R (l_nil (q_next (c_seq (c_cut (A := (Int × Int) × (Unit)) (fun a => impl_Nest_lives_J13 l1 r8 x84 x87 a.1.1 a.1.2 = some out1) (fun a => [(1, (pt b7 0)), (3, (sc A10 r8.1 D10)), (5, (sc A85 x84 D85)), (6, (iv x87)), (7, (iv (ix l1.Sizes x87))), (8, (iv a.1.1)), (9, (iv a.1.2)), (20, (sc (ad g90 o91) l1.Sizes D86)), (21, (il l1.Sizes)), (22, (iv x87))]) (fun a => OO kT4 4 A10 D10 r8.1 :: OO kT114 114 A85 D85 x84 :: RR kT3 (ad g90 o91) D86 l1.Sizes :: W1) ?_ ?_)))))))))))))
 refine c_seq (c_region (lO (vFa 3 fo58_3 R) (lO (vLd 3 ag56 R R R) (lO (v_len sl56 R) (lI R (l_nil (q_next (c_block ?_))))))))
 obtain ⟨e2, hl2, hk2⟩ := bd hr
 refine c_loop (A := HH) hl2 (fun s a => [(1, (pt b7 0)), (3, (sc A10 r8.1 D10)), (5, (sc A85 x84 D85)), (6, (iv x87)), (7, (iv (ix l1.Sizes x87))), (8, (iv s.1)), (9, (iv s.2.1)), (20, (sc (ad g90 o91) l1.Sizes D86)), (21, (il l1.Sizes)), (22, (iv x87)), (28, (.slice a.1 a.2.1 a.2.2)), (29, (il l1.Kernels)), (30, (iv s.2.2))]) (fun s a => OO kT4 4 A10 D10 r8.1 :: OO kT114 114 A85 D85 x84 :: RR kT3 (ad g90 o91) D86 l1.Sizes :: rds kT127 (.slice a.1 a.2.1 a.2.2) l1.Kernels :: W1) (A5, l1.Kernels.length, D5) (aS R) (fun w s => ((s.d 7 R).e 4 [1, 2, 3, 0])) ?_
 rintro ⟨x110, to111, x113⟩ ⟨A112, N112, D112⟩ σ1 out2 hr he2
 replace hr : impl_Nest_lives_L2 l1 x87 x110 to111 x113 = some out2 := hr
 unfold impl_Nest_lives_L2 at hr
 refine c_len 3 sees_rd (fun (hn : N112 = l1.Kernels.length) => ?_)
 subst hn
 refine c_seq (c_region (lO (vLt R R) (l_nil (q_next (c_seq ?_)))))
 rcases bif_ hr with ⟨hb114, hr⟩ | ⟨hb114, hr⟩
 refine c_true R hb114 (c_skip (q_next (c_seq (c_cut (A := (Int × Int) × (HH)) (fun a => impl_Nest_lives_J12 x113 a.1.1 a.1.2 = some out2) (fun a => [(1, (pt b7 0)), (3, (sc A10 r8.1 D10)), (5, (sc A85 x84 D85)), (6, (iv x87)), (7, (iv (ix l1.Sizes x87))), (8, (iv a.1.1)), (9, (iv a.1.2)), (20, (sc (ad g90 o91) l1.Sizes D86)), (21, (il l1.Sizes)), (22, (iv x87)), (28, (.slice a.2.1 a.2.2.1 a.2.2.2)), (29, (il l1.Kernels)), (30, (iv x113))]) (fun a => OO kT4 4 A10 D10 r8.1 :: OO kT114 114 A85 D85 x84 :: RR kT3 (ad g90 o91) D86 l1.Sizes :: rds kT127 (.slice a.2.1 a.2.2.1 a.2.2.2) l1.Kernels :: W1) ?_ ?_))))
 refine c_block (c_seq ?_)
 obtain ⟨hg115, hr⟩ := gd hr
 refine c_region (lI R (t_some 3 sees_rd (show 0 < l1.Kernels.length by have := hg115; omega) (fun g116 o117 ha => ?_)))
 subst ha
 refine lO (vIa sl56 sz127 R R hg115) (t_elem (K := kT127) 3 x113 dT127.dec R hg115.1 hg115.2 ?_)
 rintro ⟨⟨A118, D118⟩, ⟨A119, D119⟩, ⟨-, -, ⟨A120, D120⟩⟩, -, ⟨A121, D121⟩⟩
 refine lN (cl g116 (o117 + x113.toNat * 7) [(sc A118 ((ix l1.Kernels x113).Loops) D118), (sc A119 ((ix l1.Kernels x113).Loads) D119), (iv (ix l1.Kernels x113).Store.Buffer), (iv (ix l1.Kernels x113).Store.Offset), (sc A120 ((ix l1.Kernels x113).Store.Steps) D120), (.bool (ix l1.Kernels x113).Sum), (sc A121 ((ix l1.Kernels x113).Code) D121)] :: RR kT3 A118 D118 ((ix l1.Kernels x113).Loops) :: RR kT124 A119 D119 ((ix l1.Kernels x113).Loads) :: RR kT3 A120 D120 ((ix l1.Kernels x113).Store.Steps) :: RR kT216 A121 D121 ((ix l1.Kernels x113).Code) :: _ :: OO kT114 114 A85 D85 x84 :: RR kT3 (ad g90 o91) D86 l1.Sizes :: RR kT127 (ad g116 o117) D112 l1.Kernels :: W1) ?_
 refine lO (vz (.agg [(sc A118 ((ix l1.Kernels x113).Loops) D118), (sc A119 ((ix l1.Kernels x113).Loads) D119), (iv (ix l1.Kernels x113).Store.Buffer), (iv (ix l1.Kernels x113).Store.Offset), (sc A120 ((ix l1.Kernels x113).Store.Steps) D120), (.bool (ix l1.Kernels x113).Sum), (sc A121 ((ix l1.Kernels x113).Code) D121)].toArray) (v_clfs (fo := 0) 0 ag127 sz127 R R R R)) (l_alloc R R zc127 (fun b122 => (lI R (l_stores 0 R R sz127 R R R R R R (lN (bxl b122 [(sc A118 ((ix l1.Kernels x113).Loops) D118), (sc A119 ((ix l1.Kernels x113).Loads) D119), (iv (ix l1.Kernels x113).Store.Buffer), (iv (ix l1.Kernels x113).Store.Offset), (sc A120 ((ix l1.Kernels x113).Store.Steps) D120), (.bool (ix l1.Kernels x113).Sum), (sc A121 ((ix l1.Kernels x113).Code) D121)] 127 :: _ :: _ :: _ :: _ :: _ :: _ :: _ :: _ :: _ :: W1) ?_)))))
 refine l_nil (q_next (c_seq ?_))
 obtain ⟨r123, hx124, hr⟩ := bd hr
 refine cQ [(1, (pt b7 0)), (3, (sc A10 r8.1 D10)), (5, (sc A85 x84 D85)), (6, (iv x87)), (7, (iv (ix l1.Sizes x87))), (8, (iv x110)), (9, (iv to111)), (10, (iv x113)), (20, (sc (ad g90 o91) l1.Sizes D86)), (21, (il l1.Sizes)), (22, (iv x87)), (28, (sc (ad g116 o117) l1.Kernels D112)), (29, (il l1.Kernels)), (30, (iv x113)), (45, (.bool (((ix l1.Kernels x113).Store.Buffer == x87) || (decide (r123 > (0 : Int))))))] (OO kT4 4 A10 D10 r8.1 :: OO kT114 114 A85 D85 x84 :: RR kT3 (ad g90 o91) D86 l1.Sizes :: RR kT127 (ad g116 o117) D112 l1.Kernels :: W1) ?_ ?_
 refine c_region (lO (vFa 2 fo127_2 R) (lO (vFa 2 fo124_0 R) (lO (vLd 0 ag3 R R R) (lI R (lO (vEq R R) (lB R ?_))))))
 rcases bo ((ix l1.Kernels x113).Store.Buffer == x87) with hc125 | hc125
 refine lf (wfT hc125) (lf (wfT hc125) (lf (wfT hc125) (lf (wfT hc125) (lO (pOT (decide (r123 > (0 : Int))) R hc125) (l_nil ?_)))))
 exact qJ (fun w s => (s.f 10 [6, 4]))
 refine lW (wnF hc125) (vz (.agg [(sc A118 ((ix l1.Kernels x113).Loops) D118), (sc A119 ((ix l1.Kernels x113).Loads) D119), (iv (ix l1.Kernels x113).Store.Buffer), (iv (ix l1.Kernels x113).Store.Offset), (sc A120 ((ix l1.Kernels x113).Store.Steps) D120), (.bool (ix l1.Kernels x113).Sum), (sc A121 ((ix l1.Kernels x113).Code) D121)].toArray) (v_loadw 0 ag127 sz127 R R R R)) (lW (wnF hc125) (vI R) (lM (rds _ _ _ :: rds _ _ _ :: rds _ _ _ :: rds _ _ _ :: bxl _ _ _ :: cl _ _ _ :: rds _ _ _ :: rds _ _ _ :: rds _ _ _ :: rds _ _ _ :: ow _ _ _ _ :: ow _ _ _ _ :: rds _ _ _ :: rds _ _ _ :: W1) (fun w s => (((((s.d 2 R).d 4 R).d 6 R).d 8 R).f 14 [3, 1, 2, 1, 1, 1, 0, 1, 4, 10])) ?_))
 refine l_calln 4 R (wnF hc125) cb192 R (impl_Kernel_loadsOf_ok (gcall_t hx124 (not_ff hc125))) R ?_
 rintro _
 refine lN (_ :: _ :: _ :: _ :: _ :: _ :: _ :: _ :: _ :: _ :: W1) ?_
 refine lW (wnF hc125) (vGt R R) (lO (pOF R hc125 R) (l_nil ?_))
 exact qJ (fun w s => (s.f 10 [6, 4]))
 rintro σ1
 refine q_next ?_
 rcases bif_ hr with ⟨hb126, hr⟩ | ⟨hb126, hr⟩
 refine c_true R hb126 (c_seq (c_cut (A := (Int) × (Unit)) (fun a => impl_Nest_lives_J11 x113 a.1 = some out2) (fun a => [(1, (pt b7 0)), (3, (sc A10 r8.1 D10)), (5, (sc A85 x84 D85)), (6, (iv x87)), (7, (iv (ix l1.Sizes x87))), (8, (iv a.1)), (10, (iv x113)), (20, (sc (ad g90 o91) l1.Sizes D86)), (21, (il l1.Sizes)), (22, (iv x87)), (28, (sc (ad g116 o117) l1.Kernels D112)), (29, (il l1.Kernels)), (30, (iv x113))]) (fun a => OO kT4 4 A10 D10 r8.1 :: OO kT114 114 A85 D85 x84 :: RR kT3 (ad g90 o91) D86 l1.Sizes :: RR kT127 (ad g116 o117) D112 l1.Kernels :: W1) ?_ ?_))
 refine c_seq (c_region (lI R (lO (vLt R R) (l_nil (q_next ?_)))))
 rcases bif_ hr with ⟨hb127, hr⟩ | ⟨hb127, hr⟩
 refine c_true R hb127 (c_region (lI R (lI R (l_nil ?_))))
 exact qI (x113, ()) hr (fun w s => s)
 refine c_false R hb127 (c_skip ?_)
 exact qI (x110, ()) hr (fun w s => s)
 rintro ⟨x128, _⟩ σ1 hr
 replace hr : impl_Nest_lives_J11 x113 x128 = some out2 := hr
 unfold impl_Nest_lives_J11 at hr
 refine c_region (lI R (lI R (l_nil (q_blockn ?_))))
 exact qI ((x128, x113), ((ad g116 o117), l1.Kernels.length, D112)) hr (fun w s => s)
 refine c_false R hb126 (c_skip (q_blockn ?_))
 exact qI ((x110, to111), ((ad g116 o117), l1.Kernels.length, D112)) hr (fun w s => s)
 rintro ⟨⟨x129, to130⟩, ⟨A131, N131, D131⟩⟩ σ1 hr
 replace hr : impl_Nest_lives_J12 x113 x129 to130 = some out2 := hr
 unfold impl_Nest_lives_J12 at hr
 refine c_len 3 sees_rd (fun (hn : N131 = l1.Kernels.length) => ?_)
 subst hn
 refine c_region (lO (vAd R R) (lI R (l_nil ?_)))
 obtain rfl := so hr
 exact qA (A131, l1.Kernels.length, D131) (fun w s => s)
 refine c_false R hb114 (c_exit (q_exit ?_))
 obtain rfl := so hr
 obtain rfl := he2 _ R
 have hr := hk2
 refine q_exit (q_block ?_)
 exact qI ((x110, to111), ()) hr (fun w s => (s.f 4 [0, 3]))
 rintro ⟨⟨x136, to137⟩, _⟩ σ1 hr
 replace hr : impl_Nest_lives_J13 l1 r8 x84 x87 x136 to137 = some out1 := hr
 unfold impl_Nest_lives_J13 at hr
 refine c_seq ?_
 obtain ⟨r138, hx139, hr⟩ := bd hr
 refine c_region (lO (vFa 4 fo58_4 R) (lO (vLd 3 ag29 R R R) (lI R (lM (RR kT3 A6 D6 l1.Outs :: _ :: _ :: _ :: W1) (fun w s => (s.d 8 R)) ?_))))
 refine lC 1 cb191 R (slices_Contains_int_int_ok hx139) R ?_
 rintro _
 refine lN (_ :: _ :: _ :: W1) ?_
 refine lB R (l_nil (q_next (c_seq (c_seq ?_))))
 obtain ⟨hg140, hr⟩ := gd hr
 refine cQ [(1, (pt b7 0)), (3, (sc A10 r8.1 D10)), (5, (sc A85 x84 D85)), (6, (iv x87)), (7, (iv (ix l1.Sizes x87))), (8, (iv x136)), (9, (iv to137)), (12, (.bool r138)), (20, (sc (ad g90 o91) l1.Sizes D86)), (21, (il l1.Sizes)), (22, (iv x87)), (71, (.bool (((ix l1.Sizes x87) == (0 : Int)) || (((decide (x136 < (0 : Int))) && (!(ix r8.1 x87))) && (!r138)))))] (OO kT4 4 A10 D10 r8.1 :: OO kT114 114 A85 D85 x84 :: RR kT3 (ad g90 o91) D86 l1.Sizes :: W1) ?_ ?_
 refine c_region (lI R (lO (vEq R R) (lB R ?_)))
 rcases bo ((ix l1.Sizes x87) == (0 : Int)) with hc143 | hc143
 refine lf (wfT hc143) (lf (wfT hc143) (lf (wfT hc143) (lf R (lf R (lf R (lf R (lf R (lf (wfT hc143) (lf (wfT hc143) (lf R (lf R (lf (wfT hc143) (lO (pOT (((decide (x136 < (0 : Int))) && (!(ix r8.1 x87))) && (!r138)) R hc143) (l_nil ?_))))))))))))))
 exact qJ (fun w s => s)
 refine lW (wnF hc143) (vI R) (lW (wnF hc143) (vLt R R) (lW (wnF hc143) (vB R) ?_))
 rcases bo (decide (x136 < (0 : Int))) with hc144 | hc144
 refine lW (wnT hc144) (vS R) (lW (wnT hc144) (vI R) (t_some 0 sees_ow (show 0 < r8.1.length by have := (hg140 hc143 hc144); omega) (fun g141 o142 ha => ?_)))
 subst ha
 refine lW (wnT hc144) (vIa sl168 sz4 R R (hg140 hc143 hc144)) (lW (wnT hc144) (vz (.bool (ix r8.1 x87)) (v_lde (K := kT4) (fo := 0) (pr := fun x => (.bool x)) 0 x87 ag4 (dT4.leaf fun _ _ => R) sees_ow R (hg140 hc143 hc144).1 (hg140 hc143 hc144).2)) (lW (wnT hc144) (vNo R) (lW (wnF hc143) (pAT R hc144 R) (lW (wnF hc143) (vB R) ?_))))
 rcases bo ((decide (x136 < (0 : Int))) && (!(ix r8.1 x87))) with hc145 | hc145
 refine lW (wnT hc145) (vB R) (lW (wnT hc145) (vNo R) (lW (wnF hc143) (pAT R hc145 R) (lO (pOF R hc143 R) (l_nil ?_))))
 exact qJ (fun w s => s)
 refine lf (wfF hc145) (lf (wfF hc145) (lW (wnF hc143) (pAF (!r138) R hc145) (lO (pOF R hc143 R) (l_nil ?_))))
 exact qJ (fun w s => s)
 refine lf (wfF hc144) (lf (wfF hc144) (lf (wfF hc144) (lf (wfF hc144) (lf (wfF hc144) (lW (wnF hc143) (pAF (!(ix r8.1 x87)) R hc144) (lW (wnF hc143) (vB R) (lf (wfF (aF hc144)) (lf (wfF (aF hc144)) (lW (wnF hc143) (pAF (!r138) R (aF hc144)) (lO (pOF R hc143 R) (l_nil ?_)))))))))))
 exact qJ (fun w s => s)
 rintro σ1
 refine q_next ?_
 rcases bif_ hr with ⟨hb146, hr⟩ | ⟨hb146, hr⟩
 refine c_true R hb146 (c_exit (q_exit (q_block ?_)))
 exact qI (x84, ((A85, x84.length, D85), ((ad g90 o91), l1.Sizes.length, D86))) hr (fun w s => s)
 refine c_false R hb146 (c_skip (q_next (c_seq (c_cut (A := (Int) × (Unit)) (fun a => impl_Nest_lives_J14 l1 x84 x87 to137 r138 a.1 = some out1) (fun a => [(1, (pt b7 0)), (3, (sc A10 r8.1 D10)), (5, (sc A85 x84 D85)), (6, (iv x87)), (7, (iv (ix l1.Sizes x87))), (8, (iv a.1)), (9, (iv to137)), (12, (.bool r138)), (20, (sc (ad g90 o91) l1.Sizes D86)), (21, (il l1.Sizes)), (22, (iv x87))]) (fun a => OO kT4 4 A10 D10 r8.1 :: OO kT114 114 A85 D85 x84 :: RR kT3 (ad g90 o91) D86 l1.Sizes :: W1) ?_ ?_))))
 refine c_seq ?_
 obtain ⟨hg147, hr⟩ := gd hr
 refine c_region (lS R (lI R (t_some 0 sees_ow (show 0 < r8.1.length by have := hg147; omega) (fun g148 o149 ha => ?_))))
 subst ha
 refine lO (vIa sl168 sz4 R R hg147) (lO (vz (.bool (ix r8.1 x87)) (v_lde (K := kT4) (fo := 0) (pr := fun x => (.bool x)) 0 x87 ag4 (dT4.leaf fun _ _ => R) sees_ow R hg147.1 hg147.2)) (l_nil (q_next ?_)))
 rcases bif_ hr with ⟨hb150, hr⟩ | ⟨hb150, hr⟩
 refine c_true R hb150 (c_region (lI R (l_nil ?_)))
 exact qI ((0 : Int), ()) hr (fun w s => s)
 refine c_false R hb150 (c_skip ?_)
 exact qI (x136, ()) hr (fun w s => s)
 rintro ⟨x151, _⟩ σ1 hr
 replace hr : impl_Nest_lives_J14 l1 x84 x87 to137 r138 x151 = some out1 := hr
 unfold impl_Nest_lives_J14 at hr
 refine c_seq (c_cut (A := (Int) × (Unit)) (fun a => impl_Nest_lives_J15 l1 x84 x87 x151 a.1 = some out1) (fun a => [(1, (pt b7 0)), (3, (sc A10 r8.1 D10)), (5, (sc A85 x84 D85)), (6, (iv x87)), (7, (iv (ix l1.Sizes x87))), (8, (iv x151)), (9, (iv a.1)), (20, (sc (ad g90 o91) l1.Sizes D86)), (21, (il l1.Sizes)), (22, (iv x87))]) (fun a => OO kT4 4 A10 D10 r8.1 :: OO kT114 114 A85 D85 x84 :: RR kT3 (ad g90 o91) D86 l1.Sizes :: W1) ?_ ?_)
 refine c_seq (c_region (lB R (l_nil (q_next ?_))))
 rcases bif_ hr with ⟨hb152, hr⟩ | ⟨hb152, hr⟩
 refine c_true R hb152 (c_region (lO (vFa 3 fo58_3 R) (lO (vLd 3 ag56 R R R) (lO (v_len sl56 R) (lI R (l_nil ?_))))))
 exact qI ((l1.Kernels.length : Int), ()) hr (fun w s => s)
 refine c_false R hb152 (c_skip ?_)
 exact qI (to137, ()) hr (fun w s => s)
 rintro ⟨to153, _⟩ σ1 hr
 replace hr : impl_Nest_lives_J15 l1 x84 x87 x151 to153 = some out1 := hr
 unfold impl_Nest_lives_J15 at hr
 obtain ⟨hg155, hr⟩ := gd hr
 refine c_region (lS R (lI R (lI R (lI R (lO (vz (iv (if (0 : Int) > x151 then (0 : Int) else x151)) (v_max R R)) (lI R (lO (vz (iv (if (0 : Int) > to153 then (0 : Int) else to153)) (v_max R R)) (lO (vz (.agg [(iv x87), (iv (ix l1.Sizes x87)), (iv (if (0 : Int) > x151 then (0 : Int) else x151)), (iv (if (0 : Int) > to153 then (0 : Int) else to153))].toArray) (v_build pl114 zc114 R R)) (l_build (K := kT114) (xs := ([(⟨x87, (ix l1.Sizes x87), (if (0 : Int) > x151 then (0 : Int) else x151), (if (0 : Int) > to153 then (0 : Int) else to153)⟩ : Life)] : List Life)) (vs := [(.agg [(iv x87), (iv (ix l1.Sizes x87)), (iv (if (0 : Int) > x151 then (0 : Int) else x151)), (iv (if (0 : Int) > to153 then (0 : Int) else to153))].toArray)]) 0 R R sl183 sz114 zc114 R R R R R R ?_ R (fun A154 D154 => ?_))))))))))
 exact fun I h s => (mO114).list [(((), (), (), ()), (⟨x87, (ix l1.Sizes x87), (if (0 : Int) > x151 then (0 : Int) else x151), (if (0 : Int) > to153 then (0 : Int) else to153)⟩ : Life))] I h s
 refine lN (OO kT114 114 A154 D154 ([(⟨x87, (ix l1.Sizes x87), (if (0 : Int) > x151 then (0 : Int) else x151), (if (0 : Int) > to153 then (0 : Int) else to153)⟩ : Life)] : List Life) :: _ :: _ :: _ :: W1) ?_
 refine lM (ow _ _ _ _ :: ow _ _ _ _ :: ow _ _ _ _ :: rds _ _ _ :: W1) (fun w s => (s.e 4 [2, 0, 1, 3])) ?_
 refine l_app (K := kT114) 4398046511104 R R sl183 sz114 by114 (Zr.zk zT114 zc114) R R R R R R src_ow hg155 (fun A156 D156 => (lN (OO kT114 114 A156 D156 (x84 ++ ([(⟨x87, (ix l1.Sizes x87), (if (0 : Int) > x151 then (0 : Int) else x151), (if (0 : Int) > to153 then (0 : Int) else to153)⟩ : Life)] : List Life)) :: _ :: _ :: W1) ?_))
 refine lS R (l_nil (q_blockn ?_))
 exact qI ((x84 ++ ([(⟨x87, (ix l1.Sizes x87), (if (0 : Int) > x151 then (0 : Int) else x151), (if (0 : Int) > to153 then (0 : Int) else to153)⟩ : Life)] : List Life)), ((A156, (x84 ++ ([(⟨x87, (ix l1.Sizes x87), (if (0 : Int) > x151 then (0 : Int) else x151), (if (0 : Int) > to153 then (0 : Int) else to153)⟩ : Life)] : List Life)).length, D156), ((ad g90 o91), l1.Sizes.length, D86))) hr (fun w s => (s.e 3 [1, 0, 2]))
 rintro ⟨x157, ⟨⟨A158, N158, D158⟩, ⟨A159, N159, D159⟩⟩⟩ σ1 hr
 replace hr : impl_Nest_lives_J16 x87 x157 = some out1 := hr
 unfold impl_Nest_lives_J16 at hr
 refine c_len 1 sees_ow (fun (hn : N158 = x157.length) => ?_)
 subst hn
 refine c_len 2 sees_rd (fun (hn : N159 = l1.Sizes.length) => ?_)
 subst hn
 refine c_region (lO (vAd R R) (lI R (l_nil ?_)))
 obtain rfl := so hr
 exact qA ((A158, x157.length, D158), (A159, l1.Sizes.length, D159)) (fun w s => s)
 refine c_false R hb88 (c_exit (q_exit ?_))
 obtain rfl := so hr
 obtain rfl := he1 _ R
 have hr := hk1
 refine q_exit (q_block ?_)
 exact qI (x84, (A85, x84.length, D85)) hr (fun w s => (s.e 3 [1]))
 rintro ⟨x164, ⟨A165, N165, D165⟩⟩ σ1 hr
 replace hr : impl_Nest_lives_J17 x164 = some r := hr
 unfold impl_Nest_lives_J17 at hr
 refine c_len 0 sees_ow (fun (hn : N165 = x164.length) => ?_)
 subst hn
 refine c_seq (c_region (lS R (lS R (l_nil (q_next (c_ret ?_))))))
 obtain rfl := so hr
 exact qF (A165, x164.length, D165) (fun w s => (s.e 7 [0]))
theorem impl_livesOk_ok {lives1 : (List Life)} {r : Bool} (hr : impl_livesOk lives1 = some r) :
 FnOk Try.prog 200 [(.slice A2 N2 D2)] [rds kT114 (.slice A2 N2 D2) lives1] (fun (h : Unit) => ((.bool r), [])) := by
 unfold impl_livesOk at hr
 refine fn_ok Try.func200 R 40 R R fun C V => ?_
 refine cN (_ :: V) ?_
 refine cL 0 sees_rd ?_
 rintro rfl
 let W0 : List HP := RR kT114 A2 D2 lives1 :: V
 refine cN W0 ?_
 refine c_seq (c_region (lB R (l_nil (q_next (c_seq (c_cut (A := (Unit) × (HH)) (fun a => impl_livesOk_J1 lives1 = some r) (fun a => [(0, (.slice a.2.1 a.2.2.1 a.2.2.2))]) (fun a => rds kT114 (.slice a.2.1 a.2.2.1 a.2.2.2) lives1 :: W0) ?_ ?_))))))
 refine c_seq (c_region (lS R (lO (v_len sl183 R) (lI R (l_nil (q_next (c_block ?_)))))))
 obtain ⟨e1, hl1, hk1⟩ := bd hr
 refine c_loop (A := HH) hl1 (fun s a => [(0, (.slice a.1 a.2.1 a.2.2)), (5, (.slice a.1 a.2.1 a.2.2)), (6, (il lives1)), (7, (iv s))]) (fun s a => rds kT114 (.slice a.1 a.2.1 a.2.2) lives1 :: W0) (A2, lives1.length, D2) (aS R) (fun w s => (s.d 0 R)) ?_
 rintro x14 ⟨A13, N13, D13⟩ σ1 out1 hr he1
 replace hr : impl_livesOk_L1 lives1 x14 = some out1 := hr
 unfold impl_livesOk_L1 at hr
 refine c_len 0 sees_rd (fun (hn : N13 = lives1.length) => ?_)
 subst hn
 refine c_seq (c_region (lO (vLt R R) (l_nil (q_next (c_seq ?_)))))
 rcases bif_ hr with ⟨hb15, hr⟩ | ⟨hb15, hr⟩
 refine c_true R hb15 (c_skip (q_next (c_seq (c_block (c_seq ?_)))))
 obtain ⟨hg16, hr⟩ := gd hr
 refine c_region (t_some 0 sees_rd (show 0 < lives1.length by have := hg16; omega) (fun g17 o18 ha => ?_))
 subst ha
 refine lO (vIa sl183 sz114 R R hg16) (l_v (.agg [(iv (ix lives1 x14).Buffer), (iv (ix lives1 x14).Size), (iv (ix lives1 x14).From), (iv (ix lives1 x14).To)].toArray) ?_ R R ?_)
 exact (v_ldef (K := kT114) (cells := fun x => [(iv x.Buffer), (iv x.Size), (iv x.From), (iv x.To)]) 0 x14 ag114 sz114 (DecK.flat dT114 fun _ _ => R) sees_rd R hg16.1 hg16.2)
 refine l_alloc R R zc114 (fun b19 => (l_stores 0 R R sz114 R R R R R R (lN (bxl b19 [(iv (ix lives1 x14).Buffer), (iv (ix lives1 x14).Size), (iv (ix lives1 x14).From), (iv (ix lives1 x14).To)] 114 :: RR kT114 (ad g17 o18) D13 lives1 :: W0) ?_)))
 refine l_nil (q_next (c_seq (cQ [(0, (sc (ad g17 o18) lives1 D13)), (5, (sc (ad g17 o18) lives1 D13)), (6, (il lives1)), (7, (iv x14)), (35, (.bool (((((decide ((ix lives1 x14).Size < (1 : Int))) || (decide ((ix lives1 x14).Size > (4096 : Int)))) || (decide ((ix lives1 x14).From < (0 : Int)))) || (decide ((ix lives1 x14).From > (ix lives1 x14).To))) || (decide ((ix lives1 x14).To > (400 : Int))))))] (RR kT114 (ad g17 o18) D13 lives1 :: W0) ?_ ?_)))
 refine c_region (lO (vFa 1 fo114_1 R) (lO (vLd 0 ag3 R R R) (lO (vLt R R) (lB R ?_))))
 rcases bo (decide ((ix lives1 x14).Size < (1 : Int))) with hc20 | hc20
 refine lf (wfT hc20) (lf (wfT hc20) (lf (wfT hc20) (lO (pOT (decide ((ix lives1 x14).Size > (4096 : Int))) R hc20) (lB R (lf (wfT (oT hc20)) (lf (wfT (oT hc20)) (lf (wfT (oT hc20)) (lO (pOT (decide ((ix lives1 x14).From < (0 : Int))) R (oT hc20)) (lB R (lf (wfT (oT (oT hc20))) (lf (wfT (oT (oT hc20))) (lf (wfT (oT (oT hc20))) (lf (wfT (oT (oT hc20))) (lf (wfT (oT (oT hc20))) (lO (pOT (decide ((ix lives1 x14).From > (ix lives1 x14).To)) R (oT (oT hc20))) (lB R (lf (wfT (oT (oT (oT hc20)))) (lf (wfT (oT (oT (oT hc20)))) (lf (wfT (oT (oT (oT hc20)))) (lO (pOT (decide ((ix lives1 x14).To > (400 : Int))) R (oT (oT (oT hc20)))) (l_nil ?_)))))))))))))))))))))
 exact qJ (fun w s => (s.e 2 [1]))
 refine lW (wnF hc20) (vFa 1 fo114_1 R) (lW (wnF hc20) (vLd 0 ag3 R R R) (lW (wnF hc20) (vGt R R) (lO (pOF R hc20 R) (lB R ?_))))
 rcases bo ((decide ((ix lives1 x14).Size < (1 : Int))) || (decide ((ix lives1 x14).Size > (4096 : Int)))) with hc21 | hc21
 refine lf (wfT hc21) (lf (wfT hc21) (lf (wfT hc21) (lO (pOT (decide ((ix lives1 x14).From < (0 : Int))) R hc21) (lB R (lf (wfT (oT hc21)) (lf (wfT (oT hc21)) (lf (wfT (oT hc21)) (lf (wfT (oT hc21)) (lf (wfT (oT hc21)) (lO (pOT (decide ((ix lives1 x14).From > (ix lives1 x14).To)) R (oT hc21)) (lB R (lf (wfT (oT (oT hc21))) (lf (wfT (oT (oT hc21))) (lf (wfT (oT (oT hc21))) (lO (pOT (decide ((ix lives1 x14).To > (400 : Int))) R (oT (oT hc21))) (l_nil ?_))))))))))))))))
 exact qJ (fun w s => (s.e 2 [1]))
 refine lW (wnF hc21) (vFa 2 fo114_2 R) (lW (wnF hc21) (vLd 0 ag3 R R R) (lW (wnF hc21) (vLt R R) (lO (pOF R hc21 R) (lB R ?_))))
 rcases bo (((decide ((ix lives1 x14).Size < (1 : Int))) || (decide ((ix lives1 x14).Size > (4096 : Int)))) || (decide ((ix lives1 x14).From < (0 : Int)))) with hc22 | hc22
 refine lf (wfT hc22) (lf (wfT hc22) (lf (wfT hc22) (lf (wfT hc22) (lf (wfT hc22) (lO (pOT (decide ((ix lives1 x14).From > (ix lives1 x14).To)) R hc22) (lB R (lf (wfT (oT hc22)) (lf (wfT (oT hc22)) (lf (wfT (oT hc22)) (lO (pOT (decide ((ix lives1 x14).To > (400 : Int))) R (oT hc22)) (l_nil ?_)))))))))))
 exact qJ (fun w s => (s.e 2 [1]))
 refine lW (wnF hc22) (vFa 2 fo114_2 R) (lW (wnF hc22) (vLd 0 ag3 R R R) (lW (wnF hc22) (vFa 3 fo114_3 R) (lW (wnF hc22) (vLd 0 ag3 R R R) (lW (wnF hc22) (vGt R R) (lO (pOF R hc22 R) (lB R ?_))))))
 rcases bo ((((decide ((ix lives1 x14).Size < (1 : Int))) || (decide ((ix lives1 x14).Size > (4096 : Int)))) || (decide ((ix lives1 x14).From < (0 : Int)))) || (decide ((ix lives1 x14).From > (ix lives1 x14).To))) with hc23 | hc23
 refine lf (wfT hc23) (lf (wfT hc23) (lf (wfT hc23) (lO (pOT (decide ((ix lives1 x14).To > (400 : Int))) R hc23) (l_nil ?_))))
 exact qJ (fun w s => (s.e 2 [1]))
 refine lW (wnF hc23) (vFa 3 fo114_3 R) (lW (wnF hc23) (vLd 0 ag3 R R R) (lW (wnF hc23) (vGt R R) (lO (pOF R hc23 R) (l_nil ?_))))
 exact qJ (fun w s => (s.e 2 [1]))
 rintro σ1
 refine q_next ?_
 rcases bif_ hr with ⟨hb24, hr⟩ | ⟨hb24, hr⟩
 refine c_true R hb24 (c_seq (c_region (lB R (l_nil (q_next (c_ret (q_blockr (q_ret ?_))))))))
 obtain rfl := so hr
 obtain rfl := he1 _ R
 have hr := hk1
 refine q_ret (q_blockr (q_ret ?_))
 obtain rfl := so hr
 exact qF () (fun w s => (s.e 2 []))
 refine c_false R hb24 (c_skip (q_blockn (q_next (c_region (lO (vAd R R) (lI R (l_nil ?_)))))))
 obtain rfl := so hr
 exact qA ((ad g17 o18), lives1.length, D13) (fun w s => s)
 refine c_false R hb15 (c_exit (q_exit ?_))
 obtain rfl := so hr
 obtain rfl := he1 _ R
 have hr := hk1
 refine q_exit (q_block ?_)
 exact qI ((), (A13, lives1.length, D13)) hr (fun w s => s)
 rintro ⟨_, ⟨A27, N27, D27⟩⟩ σ1 hr
 replace hr : impl_livesOk_J1 lives1 = some r := hr
 unfold impl_livesOk_J1 at hr
 refine c_len 0 sees_rd (fun (hn : N27 = lives1.length) => ?_)
 subst hn
 refine c_seq (c_region (lS R (lO (v_len sl183 R) (lO (vLe R R) (lB R (l_nil (q_next (c_ret ?_))))))))
 obtain rfl := so hr
 exact qF () (fun w s => (s.e 2 []))
theorem impl_Life_meets_ok {a1 : Life} {b2 : Life} {r : Bool} (hr : impl_Life_meets a1 b2 = some r) :
 FnOk Try.prog 201 [(.agg [(iv a1.Buffer), (iv a1.Size), (iv a1.From), (iv a1.To)].toArray), (.agg [(iv b2.Buffer), (iv b2.Size), (iv b2.From), (iv b2.To)].toArray)] [] (fun (h : Unit) => ((.bool r), [])) := by
 unfold impl_Life_meets at hr
 refine fn_ok Try.func201 R 17 R R fun C V => ?_
 refine cN V ?_
 refine c_seq (c_region (lBx R (fun b3 => (lBx R (fun b4 => (lB R (l_nil ?_)))))))
 let W1 : List HP := bxl b4 [(iv b2.Buffer), (iv b2.Size), (iv b2.From), (iv b2.To)] 114 :: bxl b3 [(iv a1.Buffer), (iv a1.Size), (iv a1.From), (iv a1.To)] 114 :: V
 refine qN W1 ?_
 refine q_next (c_seq (cQ [(4, (.bool ((decide (a1.From ≤ b2.To)) && (decide (b2.From ≤ a1.To)))))] (W1) ?_ ?_))
 refine c_region (lO (vFa 2 fo114_2 R) (lO (vLd 1 ag3 R R R) (lO (vFa 3 fo114_3 R) (lO (vLd 0 ag3 R R R) (lO (vLe R R) (lB R ?_))))))
 rcases bo (decide (a1.From ≤ b2.To)) with hc5 | hc5
 refine lW (wnT hc5) (vFa 2 fo114_2 R) (lW (wnT hc5) (vLd 0 ag3 R R R) (lW (wnT hc5) (vFa 3 fo114_3 R) (lW (wnT hc5) (vLd 1 ag3 R R R) (lW (wnT hc5) (vLe R R) (lO (pAT R hc5 R) (lB R (l_nil ?_)))))))
 exact qJ (fun w s => s)
 refine lf (wfF hc5) (lf (wfF hc5) (lf (wfF hc5) (lf (wfF hc5) (lf (wfF hc5) (lO (pAF (decide (b2.From ≤ a1.To)) R hc5) (lB R (l_nil ?_)))))))
 exact qJ (fun w s => s)
 rintro σ1
 refine q_next (c_ret ?_)
 obtain rfl := so hr
 exact qF () (fun w s => (s.e 2 []))
end Go.Proofs.Ytbdchgofcejiiaa
