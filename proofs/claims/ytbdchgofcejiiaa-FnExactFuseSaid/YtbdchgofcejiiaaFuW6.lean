import Derived.Test.YtbdchgofcejiiaaFuW5
set_option linter.unusedVariables false
set_option maxRecDepth 20000
namespace Go.Proofs.Ytbdchgofcejiiaa
open Go Go.Pg
variable {A2 A3 A4 A5 A7 A8 A9 A10 A12 : Option Addr} {D2 D3 D4 D5 D7 D8 D9 D10 D12 N2 N3 N4 N5 N7 N8 N9 N10 N12 : Nat}
theorem impl_partners_ok {p1 : Kernel} {c6 : Kernel} {load11 : Access} {r : (List Int) × Bool × Bool} (hr : impl_partners p1 c6 load11 = some r) :
 FnOk Try.prog 193 [(.agg [(.slice A2 N2 D2), (.slice A3 N3 D3), (iv p1.Store.Buffer), (iv p1.Store.Offset), (.slice A4 N4 D4), (.bool p1.Sum), (.slice A5 N5 D5)].toArray), (.agg [(.slice A7 N7 D7), (.slice A8 N8 D8), (iv c6.Store.Buffer), (iv c6.Store.Offset), (.slice A9 N9 D9), (.bool c6.Sum), (.slice A10 N10 D10)].toArray), (.agg [(iv load11.Buffer), (iv load11.Offset), (.slice A12 N12 D12)].toArray)] [rds kT3 (.slice A2 N2 D2) p1.Loops, rds kT124 (.slice A3 N3 D3) p1.Loads, rds kT3 (.slice A4 N4 D4) p1.Store.Steps, rds kT216 (.slice A5 N5 D5) p1.Code, rds kT3 (.slice A7 N7 D7) c6.Loops, rds kT124 (.slice A8 N8 D8) c6.Loads, rds kT3 (.slice A9 N9 D9) c6.Store.Steps, rds kT216 (.slice A10 N10 D10) c6.Code, rds kT3 (.slice A12 N12 D12) load11.Steps] (fun (h : HH) => ((.tuple [(.slice h.1 h.2.1 h.2.2), (.bool r.2.1)].toArray), [ow kT3 3 (.slice h.1 h.2.1 h.2.2) r.1, pf ((h.1 : Option Addr).isNone = r.2.2)])) := by
 unfold impl_partners at hr
 refine fn_ok Try.func193 R 90 R R fun C V => ?_
 refine cN (_ :: _ :: _ :: _ :: _ :: _ :: _ :: _ :: _ :: V) ?_
 refine cL 0 sees_rd ?_
 rintro rfl
 refine cL 1 sees_rd ?_
 rintro rfl
 refine cL 2 sees_rd ?_
 rintro rfl
 refine cL 3 sees_rd ?_
 rintro rfl
 refine cL 4 sees_rd ?_
 rintro rfl
 refine cL 5 sees_rd ?_
 rintro rfl
 refine cL 6 sees_rd ?_
 rintro rfl
 refine cL 7 sees_rd ?_
 rintro rfl
 refine cL 8 sees_rd ?_
 rintro rfl
 let W0 : List HP := RR kT3 A2 D2 p1.Loops :: RR kT124 A3 D3 p1.Loads :: RR kT3 A4 D4 p1.Store.Steps :: RR kT216 A5 D5 p1.Code :: RR kT3 A7 D7 c6.Loops :: RR kT124 A8 D8 c6.Loads :: RR kT3 A9 D9 c6.Store.Steps :: RR kT216 A10 D10 c6.Code :: RR kT3 A12 D12 load11.Steps :: V
 refine cN W0 ?_
 refine c_seq (c_region (lBx R (fun b13 => (lBx R (fun b14 => (lBx R (fun b15 => (lS R (lB R (l_nil ?_))))))))))
 let W1 : List HP := bxl b15 [(iv load11.Buffer), (iv load11.Offset), (sc A12 load11.Steps D12)] 124 :: bxl b14 [(sc A7 c6.Loops D7), (sc A8 c6.Loads D8), (iv c6.Store.Buffer), (iv c6.Store.Offset), (sc A9 c6.Store.Steps D9), (.bool c6.Sum), (sc A10 c6.Code D10)] 127 :: bxl b13 [(sc A2 p1.Loops D2), (sc A3 p1.Loads D3), (iv p1.Store.Buffer), (iv p1.Store.Offset), (sc A4 p1.Store.Steps D4), (.bool p1.Sum), (sc A5 p1.Code D5)] 127 :: W0
 refine qN W1 ?_
 refine q_next (c_seq (c_seq (c_region (lO (vFa 1 fo124_1 R) (lO (vLd 0 ag3 R R R) (lO (vNe R R) (l_nil (q_next ?_))))))))
 rcases bif_ hr with ⟨hb16, hr⟩ | ⟨hb16, hr⟩
 refine c_true R hb16 (c_seq (c_region (lS R (lB R (l_nil (q_next (c_ret (q_ret ?_))))))))
 obtain rfl := so hr
 exact q_fin (vs := [(.slice none 0 0), (.bool false)]) (.inl R) (none, 0, 0) R ⟨R, R, trivial⟩ R (fun w s => (((s.nilo kT3 3).pfi (φ := (none : Option Addr).isNone = true) R).e 14 [1, 0]))
 refine c_false R hb16 (c_skip (q_next (c_seq (c_region (l_buildn (K := kT3) (xs := ([] : List Int)) (vs := []) 0 R R sl29 sz3 zc3 R R R R R R ?_ R (fun A17 D17 => ?_))))))
 exact fun I h s => (mO3).list [] I h s
 refine lN (OO kT3 3 (ad A17 0) D17 ([] : List Int) :: W1) ?_
 refine lS R (l_nil (q_next (c_seq (c_cut (A := ((List Int)) × (HH)) (fun a => impl_partners_J7 load11 a.1 = some r) (fun a => [(5, (pt b15 0)), (8, (.slice a.2.1 a.2.2.1 a.2.2.2))]) (fun a => ow kT3 3 (.slice a.2.1 a.2.2.1 a.2.2.2) a.1 :: pf ((a.2.1 : Option Addr).isNone = false) :: W1) ?_ ?_))))
 refine c_seq (c_region (lO (vFa 0 fo127_0 R) (lO (vLd 3 ag29 R R R) (lO (v_len sl29 R) (lI R (l_nil (q_next (c_block ?_))))))))
 obtain ⟨e1, hl1, hk1⟩ := bd hr
 refine c_loop (A := HH × HH) hl1 (fun s a => [(3, (pt b13 0)), (4, (pt b14 0)), (5, (pt b15 0)), (8, (.slice a.1.1 a.1.2.1 a.1.2.2)), (21, (.slice a.2.1 a.2.2.1 a.2.2.2)), (22, (il p1.Loops)), (23, (iv s.2))]) (fun s a => ow kT3 3 (.slice a.1.1 a.1.2.1 a.1.2.2) s.1 :: pf ((a.1.1 : Option Addr).isNone = false) :: rds kT3 (.slice a.2.1 a.2.2.1 a.2.2.2) p1.Loops :: W1) (((ad A17 0), ([] : List Int).length, D17), (A2, p1.Loops.length, D2)) (aS R) (fun w s => (((s.pfi (φ := ((ad A17 0) : Option Addr).isNone = false) R).d 5 R).e 3 [2, 1, 0])) ?_
 rintro ⟨x71, x74⟩ ⟨⟨A72, N72, D72⟩, ⟨A73, N73, D73⟩⟩ σ1 out1 hr he1
 replace hr : impl_partners_L1 p1 c6 load11 x71 x74 = some out1 := hr
 unfold impl_partners_L1 at hr
 refine c_len 0 sees_ow (fun (hn : N72 = x71.length) => ?_)
 subst hn
 refine c_len 2 sees_rd (fun (hn : N73 = p1.Loops.length) => ?_)
 subst hn
 refine c_seq (c_region (lO (vLt R R) (l_nil (q_next (c_seq ?_)))))
 rcases bif_ hr with ⟨hb75, hr⟩ | ⟨hb75, hr⟩
 refine c_true R hb75 (c_skip (q_next (c_seq (c_block (c_seq ?_)))))
 obtain ⟨hg76, hr⟩ := gd hr
 refine c_region (lI R (t_some 2 sees_rd (show 0 < p1.Loops.length by have := hg76; omega) (fun g77 o78 ha => ?_)))
 subst ha
 refine lO (vIa sl29 sz3 R R hg76) (lO (vLi 2 ag3 sees_rd R hg76) (lI R (lI R (l_nil (q_next (c_seq (c_region (lI R (l_nil (q_next (c_seq (c_cut (A := (Int) × (Unit)) (fun a => impl_partners_J6 x71 x74 a.1 = some out1) (fun a => [(3, (pt b13 0)), (4, (pt b14 0)), (5, (pt b15 0)), (8, (sc A72 x71 D72)), (11, (iv a.1)), (21, (sc (ad g77 o78) p1.Loops D73)), (22, (il p1.Loops)), (23, (iv x74))]) (fun a => OO kT3 3 A72 D72 x71 :: pf ((A72 : Option Addr).isNone = false) :: RR kT3 (ad g77 o78) D73 p1.Loops :: pf (((ad g77 o78) : Option Addr).isNone = false) :: W1) ?_ ?_))))))))))))
 refine c_seq (c_region (lO (vFa 0 fo127_0 R) (lO (vLd 4 ag29 R R R) (lO (v_len sl29 R) (lI R (l_nil (q_next (c_block ?_))))))))
 obtain ⟨e2, hl2, hk2⟩ := bd hr
 refine c_loop (A := HH) hl2 (fun s a => [(3, (pt b13 0)), (4, (pt b14 0)), (5, (pt b15 0)), (8, (sc A72 x71 D72)), (9, (iv x74)), (10, (iv (ix p1.Loops x74))), (11, (iv s.1)), (21, (sc (ad g77 o78) p1.Loops D73)), (22, (il p1.Loops)), (23, (iv x74)), (29, (.slice a.1 a.2.1 a.2.2)), (30, (il c6.Loops)), (31, (iv s.2))]) (fun s a => OO kT3 3 A72 D72 x71 :: pf ((A72 : Option Addr).isNone = false) :: RR kT3 (ad g77 o78) D73 p1.Loops :: pf (((ad g77 o78) : Option Addr).isNone = false) :: rds kT3 (.slice a.1 a.2.1 a.2.2) c6.Loops :: W1) (A7, c6.Loops.length, D7) (aS R) (fun w s => (((s.pfi (φ := ((ad g77 o78) : Option Addr).isNone = false) R).d 11 R).e 5 [2, 3, 4, 1, 0])) ?_
 rintro ⟨found97, x99⟩ ⟨A98, N98, D98⟩ σ1 out2 hr he2
 replace hr : impl_partners_L2 p1 c6 load11 x71 x74 found97 x99 = some out2 := hr
 unfold impl_partners_L2 at hr
 refine c_len 4 sees_rd (fun (hn : N98 = c6.Loops.length) => ?_)
 subst hn
 refine c_seq (c_region (lO (vLt R R) (l_nil (q_next (c_seq ?_)))))
 rcases bif_ hr with ⟨hb100, hr⟩ | ⟨hb100, hr⟩
 refine c_true R hb100 (c_skip (q_next (c_seq (c_cut (A := (Int) × (HH)) (fun a => impl_partners_J5 x99 a.1 = some out2) (fun a => [(3, (pt b13 0)), (4, (pt b14 0)), (5, (pt b15 0)), (8, (sc A72 x71 D72)), (9, (iv x74)), (10, (iv (ix p1.Loops x74))), (11, (iv a.1)), (21, (sc (ad g77 o78) p1.Loops D73)), (22, (il p1.Loops)), (23, (iv x74)), (29, (.slice a.2.1 a.2.2.1 a.2.2.2)), (30, (il c6.Loops)), (31, (iv x99))]) (fun a => OO kT3 3 A72 D72 x71 :: pf ((A72 : Option Addr).isNone = false) :: RR kT3 (ad g77 o78) D73 p1.Loops :: pf (((ad g77 o78) : Option Addr).isNone = false) :: rds kT3 (.slice a.2.1 a.2.2.1 a.2.2.2) c6.Loops :: pf ((a.2.1 : Option Addr).isNone = false) :: W1) ?_ ?_))))
 refine c_block (c_seq ?_)
 obtain ⟨hg101, hr⟩ := gd hr
 refine c_region (lI R (t_some 4 sees_rd (show 0 < c6.Loops.length by have := hg101; omega) (fun g102 o103 ha => ?_)))
 subst ha
 refine lO (vIa sl29 sz3 R R hg101) (lO (vLi 4 ag3 sees_rd R hg101) (lI R (lI R (l_nil (q_next (c_seq ?_))))))
 obtain ⟨hg104, hr⟩ := gd hr
 obtain ⟨hg107, hr⟩ := gd hr
 obtain ⟨r110, hx111, hr⟩ := bd hr
 refine cQ [(3, (pt b13 0)), (4, (pt b14 0)), (5, (pt b15 0)), (8, (sc A72 x71 D72)), (9, (iv x74)), (10, (iv (ix p1.Loops x74))), (11, (iv found97)), (12, (iv x99)), (21, (sc (ad g77 o78) p1.Loops D73)), (22, (il p1.Loops)), (23, (iv x74)), (29, (sc (ad g102 o103) c6.Loops D98)), (30, (il c6.Loops)), (31, (iv x99)), (62, (.bool ((((decide (found97 < (0 : Int))) && ((ix c6.Loops x99) == (ix p1.Loops x74))) && ((ix load11.Steps x99) == (ix p1.Store.Steps x74))) && (!r110))))] (OO kT3 3 A72 D72 x71 :: pf ((A72 : Option Addr).isNone = false) :: RR kT3 (ad g77 o78) D73 p1.Loops :: pf (((ad g77 o78) : Option Addr).isNone = false) :: RR kT3 (ad g102 o103) D98 c6.Loops :: pf (((ad g102 o103) : Option Addr).isNone = false) :: W1) ?_ ?_
 rcases bo (decide (found97 < (0 : Int))) with hc112 | hc112
 rcases bo ((decide (found97 < (0 : Int))) && ((ix c6.Loops x99) == (ix p1.Loops x74))) with hc113 | hc113
 rcases bo (((decide (found97 < (0 : Int))) && ((ix c6.Loops x99) == (ix p1.Loops x74))) && ((ix load11.Steps x99) == (ix p1.Store.Steps x74))) with hc114 | hc114
 refine c_some 16 sees_rd (show 0 < load11.Steps.length by have := (hg104 hc113); omega) (fun g105 o106 ha => ?_)
 subst ha
 refine c_some 10 sees_rd (show 0 < p1.Store.Steps.length by have := (hg107 hc113); omega) (fun g108 o109 ha => ?_)
 subst ha
 refine cdr 27 [] mixo (fun ht hn => (dR 0 R (vI R) (dR 1 R (vLt R R) (dR 2 R (vB R) (dW 3 R (wnT hc112) (vI R) (dW 4 R (wnT hc112) (vI R) (dW 5 R (wnT hc112) (vEq R R) (dR 6 R (pAT R hc112 R) (dR 7 R (vB R) (dW 8 R (wnT hc113) (vFa 2 fo124_2 R) (dW 9 R (wnT hc113) (vLd 5 ag29 R R R) (dW 10 R (wnT hc113) (vI R) (dW 11 R (wnT hc113) (vIa sl29 sz3 R R (hg104 hc113)) (dW 12 R (wnT hc113) (vLi 16 ag3 sees_rd R (hg104 hc113)) (dW 13 R (wnT hc113) (vFa 2 fo127_2 R) (dW 14 R (wnT hc113) (vFa 4 fo124_2 R) (dW 15 R (wnT hc113) (vLd 7 ag29 R R R) (dW 16 R (wnT hc113) (vI R) (dW 17 R (wnT hc113) (vIa sl29 sz3 R R (hg107 hc113)) (dW 18 R (wnT hc113) (vLi 10 ag3 sees_rd R (hg107 hc113)) (dW 19 R (wnT hc113) (vEq R R) (dR 20 R (pAT R hc113 R) (dR 21 R (vB R) (dW 22 R (wnT hc114) (vS R) (dW 23 R (wnT hc114) (vI R) (d_one 24 (by kernel_rfl) R (l_calln 1 R (wnT hc114) cb191 R (FnOk.lends (A' := [OO kT3 3 A72 D72 x71]) (A := [RR kT3 A72 D72 x71]) (B := []) (slices_Contains_int_int_ok (gcall_t hx111 hc114)) ⟨lend_ow, trivial⟩ (fun _ => trivial)) R ?_)))))))))))))))))))))))))))
 rintro _
 refine lN (OO kT3 3 A72 D72 x71 :: pf ((A72 : Option Addr).isNone = false) :: RR kT3 (ad g77 o78) D73 p1.Loops :: pf (((ad g77 o78) : Option Addr).isNone = false) :: RR kT3 (ad g102 o103) D98 c6.Loops :: W1) ?_
 refine l_nil (q_draw (sL []) (dW 25 R (wnT hc114) (vNo R) (dR 26 R (pAT R hc114 R) (d_done (by kernel_rfl) ?_))))
 exact qJ (fun w s => (((s.pfi (φ := ((ad g77 o78) : Option Addr).isNone = false) R).pfi (φ := ((ad g102 o103) : Option Addr).isNone = false) R).e 7 [2, 3, 4, 1, 6, 0]))
 refine c_some 16 sees_rd (show 0 < load11.Steps.length by have := (hg104 hc113); omega) (fun g105 o106 ha => ?_)
 subst ha
 refine c_some 10 sees_rd (show 0 < p1.Store.Steps.length by have := (hg107 hc113); omega) (fun g108 o109 ha => ?_)
 subst ha
 refine cdr 27 [] mixo (fun ht hn => (dR 0 R (vI R) (dR 1 R (vLt R R) (dR 2 R (vB R) (dW 3 R (wnT hc112) (vI R) (dW 4 R (wnT hc112) (vI R) (dW 5 R (wnT hc112) (vEq R R) (dR 6 R (pAT R hc112 R) (dR 7 R (vB R) (dW 8 R (wnT hc113) (vFa 2 fo124_2 R) (dW 9 R (wnT hc113) (vLd 5 ag29 R R R) (dW 10 R (wnT hc113) (vI R) (dW 11 R (wnT hc113) (vIa sl29 sz3 R R (hg104 hc113)) (dW 12 R (wnT hc113) (vLi 16 ag3 sees_rd R (hg104 hc113)) (dW 13 R (wnT hc113) (vFa 2 fo127_2 R) (dW 14 R (wnT hc113) (vFa 4 fo124_2 R) (dW 15 R (wnT hc113) (vLd 7 ag29 R R R) (dW 16 R (wnT hc113) (vI R) (dW 17 R (wnT hc113) (vIa sl29 sz3 R R (hg107 hc113)) (dW 18 R (wnT hc113) (vLi 10 ag3 sees_rd R (hg107 hc113)) (dW 19 R (wnT hc113) (vEq R R) (dR 20 R (pAT R hc113 R) (dR 21 R (vB R) (dF 22 R (wfF hc114) (dF 23 R (wfF hc114) (dF 24 R (wfF hc114) (dF 25 R (wfF hc114) (dR 26 R (pAF (!r110) R hc114) (d_done (by kernel_rfl) ?_)))))))))))))))))))))))))))))
 exact qJ (fun w s => (((s.pfi (φ := ((ad g77 o78) : Option Addr).isNone = false) R).pfi (φ := ((ad g102 o103) : Option Addr).isNone = false) R).e 7 [2, 3, 4, 1, 6, 0]))
 refine cdr 27 [] mixo (fun ht hn => (dR 0 R (vI R) (dR 1 R (vLt R R) (dR 2 R (vB R) (dW 3 R (wnT hc112) (vI R) (dW 4 R (wnT hc112) (vI R) (dW 5 R (wnT hc112) (vEq R R) (dR 6 R (pAT R hc112 R) (dR 7 R (vB R) (dF 8 R (wfF hc113) (dF 9 R (wfF hc113) (dF 10 R (wfF hc113) (dF 11 R (wfF hc113) (dF 12 R (wfF hc113) (dF 13 R (wfF hc113) (dF 14 R (wfF hc113) (dF 15 R (wfF hc113) (dF 16 R (wfF hc113) (dF 17 R (wfF hc113) (dF 18 R (wfF hc113) (dF 19 R (wfF hc113) (dR 20 R (pAF ((ix load11.Steps x99) == (ix p1.Store.Steps x74)) R hc113) (dR 21 R (vB R) (dF 22 R (wfF (aF hc113)) (dF 23 R (wfF (aF hc113)) (dF 24 R (wfF (aF hc113)) (dF 25 R (wfF (aF hc113)) (dR 26 R (pAF (!r110) R (aF hc113)) (d_done (by kernel_rfl) ?_)))))))))))))))))))))))))))))
 exact qJ (fun w s => (((s.pfi (φ := ((ad g77 o78) : Option Addr).isNone = false) R).pfi (φ := ((ad g102 o103) : Option Addr).isNone = false) R).e 7 [2, 3, 4, 1, 6, 0]))
 refine cdr 27 [] mixo (fun ht hn => (dR 0 R (vI R) (dR 1 R (vLt R R) (dR 2 R (vB R) (dF 3 R (wfF hc112) (dF 4 R (wfF hc112) (dF 5 R (wfF hc112) (dR 6 R (pAF ((ix c6.Loops x99) == (ix p1.Loops x74)) R hc112) (dR 7 R (vB R) (dF 8 R (wfF (aF hc112)) (dF 9 R (wfF (aF hc112)) (dF 10 R (wfF (aF hc112)) (dF 11 R (wfF (aF hc112)) (dF 12 R (wfF (aF hc112)) (dF 13 R (wfF (aF hc112)) (dF 14 R (wfF (aF hc112)) (dF 15 R (wfF (aF hc112)) (dF 16 R (wfF (aF hc112)) (dF 17 R (wfF (aF hc112)) (dF 18 R (wfF (aF hc112)) (dF 19 R (wfF (aF hc112)) (dR 20 R (pAF ((ix load11.Steps x99) == (ix p1.Store.Steps x74)) R (aF hc112)) (dR 21 R (vB R) (dF 22 R (wfF (aF (aF hc112))) (dF 23 R (wfF (aF (aF hc112))) (dF 24 R (wfF (aF (aF hc112))) (dF 25 R (wfF (aF (aF hc112))) (dR 26 R (pAF (!r110) R (aF (aF hc112))) (d_done (by kernel_rfl) ?_)))))))))))))))))))))))))))))
 exact qJ (fun w s => (((s.pfi (φ := ((ad g77 o78) : Option Addr).isNone = false) R).pfi (φ := ((ad g102 o103) : Option Addr).isNone = false) R).e 7 [2, 3, 4, 1, 6, 0]))
 rintro σ1
 refine q_next ?_
 rcases bif_ hr with ⟨hb115, hr⟩ | ⟨hb115, hr⟩
 refine c_true R hb115 (c_region (lI R (lI R (l_nil (q_blockn ?_)))))
 exact qI (x99, ((ad g102 o103), c6.Loops.length, D98)) hr (fun w s => (((s.pfi (φ := ((ad g77 o78) : Option Addr).isNone = false) R).pfi (φ := ((ad g102 o103) : Option Addr).isNone = false) R).e 8 [2, 3, 4, 1, 6, 0]))
 refine c_false R hb115 (c_skip (q_blockn ?_))
 exact qI (found97, ((ad g102 o103), c6.Loops.length, D98)) hr (fun w s => (((s.pfi (φ := ((ad g77 o78) : Option Addr).isNone = false) R).pfi (φ := ((ad g102 o103) : Option Addr).isNone = false) R).e 8 [2, 3, 4, 1, 6, 0]))
 rintro ⟨found116, ⟨A117, N117, D117⟩⟩ σ1 hr
 replace hr : impl_partners_J5 x99 found116 = some out2 := hr
 unfold impl_partners_J5 at hr
 refine c_len 4 sees_rd (fun (hn : N117 = c6.Loops.length) => ?_)
 subst hn
 refine c_region (lO (vAd R R) (lI R (l_nil ?_)))
 obtain rfl := so hr
 exact qA (A117, c6.Loops.length, D117) (fun w s => ((s.pfi (φ := ((ad g77 o78) : Option Addr).isNone = false) R).e 7 [1, 2, 3, 0, 5]))
 refine c_false R hb100 (c_exit (q_exit ?_))
 obtain rfl := so hr
 obtain rfl := he2 _ R
 have hr := hk2
 refine q_exit (q_block ?_)
 exact qI (found97, ()) hr (fun w s => ((s.pfi (φ := ((ad g77 o78) : Option Addr).isNone = false) R).e 6 [1, 2, 3, 0]))
 rintro ⟨found121, _⟩ σ1 hr
 replace hr : impl_partners_J6 x71 x74 found121 = some out1 := hr
 unfold impl_partners_J6 at hr
 refine c_seq (c_seq (c_region (lI R (lO (vLt R R) (l_nil (q_next ?_))))))
 rcases bif_ hr with ⟨hb122, hr⟩ | ⟨hb122, hr⟩
 refine c_true R hb122 (c_seq (c_region (lS R (lB R (l_nil (q_next (c_ret (q_ret (q_blockr (q_ret ?_))))))))))
 obtain rfl := so hr
 obtain rfl := he1 _ R
 have hr := hk1
 refine q_ret (q_blockr (q_ret ?_))
 obtain rfl := so hr
 exact q_fin (vs := [(.slice none 0 0), (.bool false)]) (.inl R) (none, 0, 0) R ⟨R, R, trivial⟩ R (fun w s => (((s.nilo kT3 3).pfi (φ := (none : Option Addr).isNone = true) R).e 18 [1, 0]))
 refine c_false R hb122 (c_skip (q_next ?_))
 obtain ⟨hg124, hr⟩ := gd hr
 refine c_region (lS R (lI R (l_buildn (K := kT3) (xs := ([found121] : List Int)) (vs := [(iv found121)]) 0 R R sl29 sz3 zc3 R R R R R R ?_ R (fun A123 D123 => ?_))))
 exact fun I h s => (mO3).list [((), found121)] I h s
 refine lN (OO kT3 3 (ad A123 0) D123 ([found121] : List Int) :: _ :: _ :: _ :: _ :: W1) ?_
 refine lM (ow _ _ _ _ :: ow _ _ _ _ :: pf _ :: rds _ _ _ :: pf _ :: W1) (fun w s => (s.e 5 [1, 0, 2, 3, 4])) ?_
 refine l_app (K := kT3) 17592186044416 R R sl29 sz3 by3 (Zr.zk zT3 zc3) R R R R R R src_ow hg124 (fun A125 D125 => (lN (OO kT3 3 A125 D125 (x71 ++ ([found121] : List Int)) :: _ :: _ :: _ :: W1) ?_))
 refine t_some 0 sees_ow (by simp) (fun g126 o127 ha => ?_)
 subst ha
 refine lS R (l_nil (q_blockn (q_next (c_region (lO (vAd R R) (lI R (l_nil ?_)))))))
 obtain rfl := so hr
 exact qA (((ad g126 o127), (x71 ++ ([found121] : List Int)).length, D125), ((ad g77 o78), p1.Loops.length, D73)) (fun w s => ((s.pfi (φ := ((ad g126 o127) : Option Addr).isNone = false) R).e 5 [1, 0, 3]))
 refine c_false R hb75 (c_exit (q_exit ?_))
 obtain rfl := so hr
 obtain rfl := he1 _ R
 have hr := hk1
 refine q_exit (q_block ?_)
 exact qI (x71, (A72, x71.length, D72)) hr (fun w s => (s.e 3 [0, 1]))
 rintro ⟨x132, ⟨A133, N133, D133⟩⟩ σ1 hr
 replace hr : impl_partners_J7 load11 x132 = some r := hr
 unfold impl_partners_J7 at hr
 refine c_len 0 sees_ow (fun (hn : N133 = x132.length) => ?_)
 subst hn
 refine c_seq (c_cut (A := (Unit) × (Unit)) (fun a => impl_partners_J8 x132 = some r) (fun a => [(8, (sc A133 x132 D133))]) (fun a => OO kT3 3 A133 D133 x132 :: pf ((A133 : Option Addr).isNone = false) :: W1) ?_ ?_)
 refine c_seq (c_region (lO (vFa 2 fo124_2 R) (lO (vLd 2 ag29 R R R) (lO (v_len sl29 R) (lI R (l_nil (q_next (c_block ?_))))))))
 obtain ⟨e3, hl3, hk3⟩ := bd hr
 refine c_loop (A := HH) hl3 (fun s a => [(8, (sc A133 x132 D133)), (73, (.slice a.1 a.2.1 a.2.2)), (74, (il load11.Steps)), (75, (iv s))]) (fun s a => OO kT3 3 A133 D133 x132 :: pf ((A133 : Option Addr).isNone = false) :: rds kT3 (.slice a.1 a.2.1 a.2.2) load11.Steps :: W1) (A12, load11.Steps.length, D12) (aS R) (fun w s => ((s.d 13 R).e 3 [1, 2, 0])) ?_
 rintro x143 ⟨A142, N142, D142⟩ σ1 out3 hr he3
 replace hr : impl_partners_L3 load11 x132 x143 = some out3 := hr
 unfold impl_partners_L3 at hr
 refine c_len 2 sees_rd (fun (hn : N142 = load11.Steps.length) => ?_)
 subst hn
 refine c_seq (c_region (lO (vLt R R) (l_nil (q_next (c_seq ?_)))))
 rcases bif_ hr with ⟨hb144, hr⟩ | ⟨hb144, hr⟩
 refine c_true R hb144 (c_skip (q_next (c_seq (c_block (c_seq ?_)))))
 obtain ⟨hg145, hr⟩ := gd hr
 refine c_region (lI R (t_some 2 sees_rd (show 0 < load11.Steps.length by have := hg145; omega) (fun g146 o147 ha => ?_)))
 subst ha
 refine lO (vIa sl29 sz3 R R hg145) (lO (vLi 2 ag3 sees_rd R hg145) (lI R (lI R (l_nil (q_next (c_seq ?_))))))
 obtain ⟨r148, hx149, hr⟩ := bd hr
 refine cQ [(8, (sc A133 x132 D133)), (73, (sc (ad g146 o147) load11.Steps D142)), (74, (il load11.Steps)), (75, (iv x143)), (87, (.bool (((ix load11.Steps x143) != (0 : Int)) && (!r148))))] (OO kT3 3 A133 D133 x132 :: pf ((A133 : Option Addr).isNone = false) :: RR kT3 (ad g146 o147) D142 load11.Steps :: pf (((ad g146 o147) : Option Addr).isNone = false) :: W1) ?_ ?_
 refine c_region (lI R (lO (vNe R R) (lB R ?_)))
 rcases bo ((ix load11.Steps x143) != (0 : Int)) with hc150 | hc150
 refine lW (wnT hc150) (vS R) (lW (wnT hc150) (vI R) (l_calln 1 R (wnT hc150) cb191 R (FnOk.lends (A' := [OO kT3 3 A133 D133 x132]) (A := [RR kT3 A133 D133 x132]) (B := []) (slices_Contains_int_int_ok (gcall_t hx149 hc150)) ⟨lend_ow, trivial⟩ (fun _ => trivial)) R ?_))
 rintro _
 refine lN (OO kT3 3 A133 D133 x132 :: pf ((A133 : Option Addr).isNone = false) :: RR kT3 (ad g146 o147) D142 load11.Steps :: W1) ?_
 refine lW (wnT hc150) (vNo R) (lO (pAT R hc150 R) (l_nil ?_))
 exact qJ (fun w s => ((s.pfi (φ := ((ad g146 o147) : Option Addr).isNone = false) R).e 4 [1, 2, 3, 0]))
 refine lf (wfF hc150) (lf (wfF hc150) (lf (wfF hc150) (lf (wfF hc150) (lO (pAF (!r148) R hc150) (l_nil ?_)))))
 exact qJ (fun w s => ((s.pfi (φ := ((ad g146 o147) : Option Addr).isNone = false) R).e 4 [1, 2, 3, 0]))
 rintro σ1
 refine q_next ?_
 rcases bif_ hr with ⟨hb151, hr⟩ | ⟨hb151, hr⟩
 refine c_true R hb151 (c_seq (c_region (lS R (lB R (l_nil (q_next (c_ret (q_blockr (q_ret ?_)))))))))
 obtain rfl := so hr
 obtain rfl := he3 _ R
 have hr := hk3
 refine q_ret (q_blockr (q_ret ?_))
 obtain rfl := so hr
 exact q_fin (vs := [(.slice none 0 0), (.bool false)]) (.inl R) (none, 0, 0) R ⟨R, R, trivial⟩ R (fun w s => (((s.nilo kT3 3).pfi (φ := (none : Option Addr).isNone = true) R).e 18 [1, 0]))
 refine c_false R hb151 (c_skip (q_blockn (q_next (c_region (lO (vAd R R) (lI R (l_nil ?_)))))))
 obtain rfl := so hr
 exact qA ((ad g146 o147), load11.Steps.length, D142) (fun w s => (s.f 4 [0, 3]))
 refine c_false R hb144 (c_exit (q_exit ?_))
 obtain rfl := so hr
 obtain rfl := he3 _ R
 have hr := hk3
 refine q_exit (q_block ?_)
 exact qI ((), ()) hr (fun w s => (s.e 3 [0, 1]))
 rintro ⟨_, _⟩ σ1 hr
 replace hr : impl_partners_J8 x132 = some r := hr
 unfold impl_partners_J8 at hr
 refine c_seq (c_region (lS R (lS R (lB R (l_nil (q_next (c_ret ?_)))))))
 obtain rfl := so hr
 exact q_fin (vs := [(sc A133 x132 D133), (.bool true)]) (.inl R) (A133, x132.length, D133) R ⟨R, R, trivial⟩ R (fun w s => (s.e 14 [0, 1]))
theorem impl_fused_ok {p1 : Kernel} {c6 : Kernel} {r : Kernel × Bool} (hr : impl_fused p1 c6 = some r) :
 FnOk Try.prog 136 [(.agg [(.slice A2 N2 D2), (.slice A3 N3 D3), (iv p1.Store.Buffer), (iv p1.Store.Offset), (.slice A4 N4 D4), (.bool p1.Sum), (.slice A5 N5 D5)].toArray), (.agg [(.slice A7 N7 D7), (.slice A8 N8 D8), (iv c6.Store.Buffer), (iv c6.Store.Offset), (.slice A9 N9 D9), (.bool c6.Sum), (.slice A10 N10 D10)].toArray)] [rds kT3 (.slice A2 N2 D2) p1.Loops, rds kT124 (.slice A3 N3 D3) p1.Loads, rds kT3 (.slice A4 N4 D4) p1.Store.Steps, rds kT216 (.slice A5 N5 D5) p1.Code, rds kT3 (.slice A7 N7 D7) c6.Loops, rds kT124 (.slice A8 N8 D8) c6.Loads, rds kT3 (.slice A9 N9 D9) c6.Store.Steps, rds kT216 (.slice A10 N10 D10) c6.Code] (fun (h : HH × HH × HH × HH) => ((.tuple [(.agg [(.slice h.1.1 h.1.2.1 h.1.2.2), (.slice h.2.1.1 h.2.1.2.1 h.2.1.2.2), (iv r.1.Store.Buffer), (iv r.1.Store.Offset), (.slice h.2.2.1.1 h.2.2.1.2.1 h.2.2.1.2.2), (.bool r.1.Sum), (.slice h.2.2.2.1 h.2.2.2.2.1 h.2.2.2.2.2)].toArray), (.bool r.2)].toArray), [rds kT3 (.slice h.1.1 h.1.2.1 h.1.2.2) r.1.Loops, ow (kT124).share 124 (.slice h.2.1.1 h.2.1.2.1 h.2.1.2.2) r.1.Loads, rds kT3 (.slice h.2.2.1.1 h.2.2.1.2.1 h.2.2.1.2.2) r.1.Store.Steps, ow kT216 216 (.slice h.2.2.2.1 h.2.2.2.2.1 h.2.2.2.2.2) r.1.Code])) := by
 unfold impl_fused at hr
 refine fn_ok Try.func136 R 254 R R fun C V => ?_
 refine cN (_ :: _ :: _ :: _ :: _ :: _ :: _ :: _ :: V) ?_
 refine cL 0 sees_rd ?_
 rintro rfl
 refine cL 1 sees_rd ?_
 rintro rfl
 refine cL 2 sees_rd ?_
 rintro rfl
 refine cL 3 sees_rd ?_
 rintro rfl
 refine cL 4 sees_rd ?_
 rintro rfl
 refine cL 5 sees_rd ?_
 rintro rfl
 refine cL 6 sees_rd ?_
 rintro rfl
 refine cL 7 sees_rd ?_
 rintro rfl
 let W0 : List HP := RR kT3 A2 D2 p1.Loops :: RR kT124 A3 D3 p1.Loads :: RR kT3 A4 D4 p1.Store.Steps :: RR kT216 A5 D5 p1.Code :: RR kT3 A7 D7 c6.Loops :: RR kT124 A8 D8 c6.Loads :: RR kT3 A9 D9 c6.Store.Steps :: RR kT216 A10 D10 c6.Code :: V
 refine cN W0 ?_
 refine c_seq (c_region (lBx R (fun b11 => (lBx R (fun b12 => (l_alloc R R zc127 (fun b13 => (lB R (l_nil ?_)))))))))
 let W1 : List HP := bxl b12 [(sc A7 c6.Loops D7), (sc A8 c6.Loads D8), (iv c6.Store.Buffer), (iv c6.Store.Offset), (sc A9 c6.Store.Steps D9), (.bool c6.Sum), (sc A10 c6.Code D10)] 127 :: bxl b11 [(sc A2 p1.Loops D2), (sc A3 p1.Loads D3), (iv p1.Store.Buffer), (iv p1.Store.Offset), (sc A4 p1.Store.Steps D4), (.bool p1.Sum), (sc A5 p1.Code D5)] 127 :: W0
 refine qN (_ :: W1) ?_
 refine q_next (c_seq (c_region (lO (vFa 2 fo127_2 R) (lO (vFa 2 fo124_0 R) (lO (vLd 2 ag3 R R R) (lI R (l_nil (q_next (c_seq (c_region (lS R (l_nil (q_next (c_seq (c_region (lO (vFa 0 fo127_0 R) (lO (vLd 1 ag29 R R R) (lO (vFa 2 fo127_2 R) (lO (vz (.agg [(iv c6.Store.Buffer), (iv c6.Store.Offset), (sc A9 c6.Store.Steps D9)].toArray) (v_loadw 1 ag124 sz124 R R R R)) (lO (vFa 5 fo127_3 R) (lO (vLd 1 ag4 R R R) (lO (vz (.agg [(sc A7 c6.Loops D7), (.slice none 0 0), (iv c6.Store.Buffer), (iv c6.Store.Offset), (sc A9 c6.Store.Steps D9), (.bool c6.Sum), (.slice none 0 0)].toArray) (v_build pl127 zc127 R R)) (l_alloc R R zc127 (fun b14 => (l_stores 0 R R sz127 R R R R R R (lN (bxl b14 [(sc A7 c6.Loops D7), (.slice none 0 0), (iv c6.Store.Buffer), (iv c6.Store.Offset), (sc A9 c6.Store.Steps D9), (.bool c6.Sum), (.slice none 0 0)] 127 :: _ :: W1) ?_))))))))))))))))))))))))))
 refine l_nil (q_next (c_seq ?_))
 obtain ⟨hg15, hr⟩ := gd hr
 refine c_region (lO (vFa 1 fo127_1 R) (lO (vLd 2 ag122 R R R) (lO (v_len sl122 R) (l_make (K := kT3) (m := (c6.Loads.length : Int)) (z := (0 : Int)) R R sl29 sz3 by3 (Zr.zk zT3 zc3) (by decide) R R hg15.1 hg15.2.1 hg15.2.2 (fun A16 D16 => (lS R (l_nil (q_next ?_))))))))
 refine c_seq (c_cut (A := ((List Int) × Bool × (List Access) × Bool × (List Int)) × (HH × HH)) (fun a => impl_fused_J3 p1 c6 a.1.1 a.1.2.1 a.1.2.2.1 a.1.2.2.2.1 a.1.2.2.2.2 = some r) (fun a => [(2, (pt b11 0)), (3, (pt b12 0)), (4, (pt b13 0)), (6, (iv p1.Store.Buffer)), (7, (.slice a.2.1.1 a.2.1.2.1 a.2.1.2.2)), (8, (pt b14 0)), (9, (sc A16 (List.replicate (c6.Loads.length : Int).toNat (0 : Int)) D16))]) (fun a => bxl b13 [(.slice none 0 0), (.slice none 0 0), (iv 0), (iv 0), (.slice none 0 0), (.bool false), (.slice none 0 0)] 127 :: ow kT3 3 (.slice a.2.1.1 a.2.1.2.1 a.2.1.2.2) a.1.1 :: pf ((a.2.1.1 : Option Addr).isNone = a.1.2.1) :: bxl b14 [(sc A7 c6.Loops D7), (.slice a.2.2.1 a.2.2.2.1 a.2.2.2.2), (iv c6.Store.Buffer), (iv c6.Store.Offset), (sc A9 c6.Store.Steps D9), (.bool c6.Sum), (.slice none 0 0)] 127 :: ow (kT124).share 124 (.slice a.2.2.1 a.2.2.2.1 a.2.2.2.2) a.1.2.2.1 :: pf ((a.2.2.1 : Option Addr).isNone = a.1.2.2.2.1) :: ow kT3 3 (.slice A16 (List.replicate (c6.Loads.length : Int).toNat (0 : Int)).length D16) a.1.2.2.2.2 :: W1) ?_ ?_)
 refine c_seq (c_region (lO (vFa 1 fo127_1 R) (lO (vLd 3 ag122 R R R) (lO (v_len sl122 R) (lI R (l_nil (q_next (c_block ?_))))))))
 obtain ⟨e1, hl1, hk1⟩ := bd hr
 refine c_loop (A := HH × HH × HH) hl1 (fun s a => [(2, (pt b11 0)), (3, (pt b12 0)), (4, (pt b13 0)), (6, (iv p1.Store.Buffer)), (7, (.slice a.1.1 a.1.2.1 a.1.2.2)), (8, (pt b14 0)), (9, (sc A16 (List.replicate (c6.Loads.length : Int).toNat (0 : Int)) D16)), (41, (.slice a.2.2.1 a.2.2.2.1 a.2.2.2.2)), (42, (il c6.Loads)), (43, (iv s.2.2.2.2.2))]) (fun s a => bxl b13 [(.slice none 0 0), (.slice none 0 0), (iv 0), (iv 0), (.slice none 0 0), (.bool false), (.slice none 0 0)] 127 :: ow kT3 3 (.slice a.1.1 a.1.2.1 a.1.2.2) s.1 :: pf ((a.1.1 : Option Addr).isNone = s.2.1) :: bxl b14 [(sc A7 c6.Loops D7), (.slice a.2.1.1 a.2.1.2.1 a.2.1.2.2), (iv c6.Store.Buffer), (iv c6.Store.Offset), (sc A9 c6.Store.Steps D9), (.bool c6.Sum), (.slice none 0 0)] 127 :: ow (kT124).share 124 (.slice a.2.1.1 a.2.1.2.1 a.2.1.2.2) s.2.2.1 :: pf ((a.2.1.1 : Option Addr).isNone = s.2.2.2.1) :: ow kT3 3 (.slice A16 (List.replicate (c6.Loads.length : Int).toNat (0 : Int)).length D16) s.2.2.2.2.1 :: rds kT124 (.slice a.2.2.1 a.2.2.2.1 a.2.2.2.2) c6.Loads :: W1) ((none, 0, 0), (none, 0, 0), (A8, c6.Loads.length, D8)) (aS R) (fun w s => ((((((s.nilo kT3 3).pfi (φ := (none : Option Addr).isNone = true) R).nilo (kT124).share 124).pfi (φ := (none : Option Addr).isNone = true) R).d 14 R).e 8 [7, 4, 3, 6, 2, 1, 5, 0])) ?_
 rintro ⟨x49, nb51, x52, nb54, to55, x57⟩ ⟨⟨A50, N50, D50⟩, ⟨A53, N53, D53⟩, ⟨A56, N56, D56⟩⟩ σ1 out1 hr he1
 replace hr : impl_fused_L1 p1 c6 x49 nb51 x52 nb54 to55 x57 = some out1 := hr
 unfold impl_fused_L1 at hr
 refine c_len 1 sees_ow (fun (hn : N50 = x49.length) => ?_)
 subst hn
 refine c_len 4 sees_sh (fun (hn : N53 = x52.length) => ?_)
 subst hn
 refine c_len 7 sees_rd (fun (hn : N56 = c6.Loads.length) => ?_)
 subst hn
 refine c_seq (c_region (lO (vLt R R) (l_nil (q_next (c_seq ?_)))))
 rcases bif_ hr with ⟨hb58, hr⟩ | ⟨hb58, hr⟩
 refine c_true R hb58 (c_skip (q_next ?_))
 refine c_seq (c_cut (A := ((List Int) × Bool × (List Access) × Bool × (List Int)) × (HH × HH × HH)) (fun a => impl_fused_J2 x57 a.1.1 a.1.2.1 a.1.2.2.1 a.1.2.2.2.1 a.1.2.2.2.2 = some out1) (fun a => [(2, (pt b11 0)), (3, (pt b12 0)), (4, (pt b13 0)), (6, (iv p1.Store.Buffer)), (7, (.slice a.2.1.1 a.2.1.2.1 a.2.1.2.2)), (8, (pt b14 0)), (9, (sc A16 (List.replicate (c6.Loads.length : Int).toNat (0 : Int)) D16)), (41, (.slice a.2.2.2.1 a.2.2.2.2.1 a.2.2.2.2.2)), (42, (il c6.Loads)), (43, (iv x57))]) (fun a => bxl b13 [(.slice none 0 0), (.slice none 0 0), (iv 0), (iv 0), (.slice none 0 0), (.bool false), (.slice none 0 0)] 127 :: ow kT3 3 (.slice a.2.1.1 a.2.1.2.1 a.2.1.2.2) a.1.1 :: pf ((a.2.1.1 : Option Addr).isNone = a.1.2.1) :: bxl b14 [(sc A7 c6.Loops D7), (.slice a.2.2.1.1 a.2.2.1.2.1 a.2.2.1.2.2), (iv c6.Store.Buffer), (iv c6.Store.Offset), (sc A9 c6.Store.Steps D9), (.bool c6.Sum), (.slice none 0 0)] 127 :: ow (kT124).share 124 (.slice a.2.2.1.1 a.2.2.1.2.1 a.2.2.1.2.2) a.1.2.2.1 :: pf ((a.2.2.1.1 : Option Addr).isNone = a.1.2.2.2.1) :: ow kT3 3 (.slice A16 (List.replicate (c6.Loads.length : Int).toNat (0 : Int)).length D16) a.1.2.2.2.2 :: rds kT124 (.slice a.2.2.2.1 a.2.2.2.2.1 a.2.2.2.2.2) c6.Loads :: pf ((a.2.2.2.1 : Option Addr).isNone = false) :: W1) ?_ ?_)
 refine c_block (c_seq ?_)
 obtain ⟨hg59, hr⟩ := gd hr
 refine c_region (lI R (t_some 7 sees_rd (show 0 < c6.Loads.length by have := hg59; omega) (fun g60 o61 ha => ?_)))
 subst ha
 refine lO (vIa sl122 sz124 R R hg59) (t_elem (K := kT124) 7 x57 dT124.dec R hg59.1 hg59.2 ?_)
 rintro ⟨-, -, ⟨A62, D62⟩⟩
 refine lN (cl g60 (o61 + x57.toNat * 3) [(iv (ix c6.Loads x57).Buffer), (iv (ix c6.Loads x57).Offset), (sc A62 ((ix c6.Loads x57).Steps) D62)] :: RR kT3 A62 D62 ((ix c6.Loads x57).Steps) :: _ :: OO kT3 3 A50 D50 x49 :: pf ((A50 : Option Addr).isNone = nb51) :: bxl b14 [(sc A7 c6.Loops D7), (sc A53 x52 D53), (iv c6.Store.Buffer), (iv c6.Store.Offset), (sc A9 c6.Store.Steps D9), (.bool c6.Sum), (.slice none 0 0)] 127 :: OO (kT124).share 124 A53 D53 x52 :: pf ((A53 : Option Addr).isNone = nb54) :: ow kT3 3 (.slice A16 (List.replicate (c6.Loads.length : Int).toNat (0 : Int)).length D16) to55 :: RR kT124 (ad g60 o61) D56 c6.Loads :: W1) ?_
 refine lO (vz (.agg [(iv (ix c6.Loads x57).Buffer), (iv (ix c6.Loads x57).Offset), (sc A62 ((ix c6.Loads x57).Steps) D62)].toArray) (v_clfs (fo := 0) 0 ag124 sz124 R R R R)) (l_alloc R R zc124 (fun b63 => (lI R (l_stores 0 R R sz124 R R R R R R (lN (bxl b63 [(iv (ix c6.Loads x57).Buffer), (iv (ix c6.Loads x57).Offset), (sc A62 ((ix c6.Loads x57).Steps) D62)] 124 :: _ :: _ :: _ :: _ :: _ :: _ :: _ :: _ :: _ :: _ :: W1) ?_)))))
 refine l_nil (q_next (c_seq (c_seq (c_region (lO (vFa 0 fo124_0 R) (lO (vLd 0 ag3 R R R) (lI R (lO (vNe R R) (l_nil (q_next ?_))))))))))
 rcases bif_ hr with ⟨hb64, hr⟩ | ⟨hb64, hr⟩
 refine c_true R hb64 (c_seq ?_)
 obtain ⟨hg65, hr⟩ := gd hr
 refine c_region (lS R (lI R (lO (vFa 1 fo127_1 R) (lO (vLd 6 ag122 R R R) (lO (v_len sl122 R) (t_some 9 sees_ow (show 0 < (List.replicate (c6.Loads.length : Int).toNat (0 : Int)).length by have := hg65; omega) (fun g66 o67 ha => ?_)))))))
 subst ha
 refine lO (vIa sl29 sz3 R R hg65) (lM (ow kT3 3 (.slice (ad g66 o67) (List.replicate (c6.Loads.length : Int).toNat (0 : Int)).length D16) to55 :: bxl _ _ _ :: cl _ _ _ :: rds _ _ _ :: bxl _ _ _ :: ow _ _ _ _ :: pf _ :: bxl _ _ _ :: ow _ _ _ _ :: pf _ :: rds _ _ _ :: W1) (fun w s => (s.f 11 [9, 1, 0, 9, 10, 1])) ?_)
 refine l_stx (K := kT3) (x' := (x52.length : Int)) 0 x57 R R sz3 R R hg65.1 hg65.2 ?_ ?_
 exact fun I h s => (mO3).put I h () (x52.length : Int) s
 refine lN (ow kT3 3 (.slice (ad g66 o67) (List.replicate (c6.Loads.length : Int).toNat (0 : Int)).length D16) (to55.set x57.toNat (x52.length : Int)) :: _ :: _ :: _ :: _ :: _ :: _ :: _ :: _ :: _ :: _ :: W1) ?_
 refine l_nil (q_next (c_seq ?_))
 obtain ⟨hg69, hr⟩ := gd hr
 refine c_region (lO (vFa 1 fo127_1 R) (lO (vLd 7 ag122 R R R) (lO (vz (.agg [(iv (ix c6.Loads x57).Buffer), (iv (ix c6.Loads x57).Offset), (sc A62 ((ix c6.Loads x57).Steps) D62)].toArray) (v_loadw 1 ag124 sz124 R R R R)) (lM (_ :: _ :: _ :: _ :: _ :: _ :: _ :: _ :: _ :: _ :: _ :: _ :: W1) (fun w s => (s.d 3 R)) ?_))))
 refine l_buildn (K := (kT124).share) (xs := ([(ix c6.Loads x57)] : List Access)) (vs := [(.agg [(iv (ix c6.Loads x57).Buffer), (iv (ix c6.Loads x57).Offset), (sc A62 ((ix c6.Loads x57).Steps) D62)].toArray)]) 1 R R sl122 sz124 zc124 R R R R R R ?_ R (fun A68 D68 => ?_)
 exact fun I h s => (mS124).list [(((), (), (sc A62 ((ix c6.Loads x57).Steps) D62)), (ix c6.Loads x57))] I h s
 refine lN (OO (kT124).share 124 (ad A68 0) D68 ([(ix c6.Loads x57)] : List Access) :: _ :: _ :: _ :: _ :: _ :: _ :: _ :: _ :: _ :: _ :: _ :: W1) ?_
 refine lM (ow _ _ _ _ :: ow _ _ _ _ :: ow _ _ _ _ :: bxl _ _ _ :: cl _ _ _ :: rds _ _ _ :: bxl _ _ _ :: ow _ _ _ _ :: pf _ :: bxl _ _ _ :: pf _ :: rds _ _ _ :: W1) (fun w s => (s.f 12 [9, 1, 0, 9, 10, 2])) ?_
 refine l_app (K := (kT124).share) 3518437208883 R R sl122 sz124 by124 (Zr.zk (Zr.share zT124) zc124) R R R R R R src_ow hg69 (fun A70 D70 => (lN (OO (kT124).share 124 A70 D70 (x52 ++ ([(ix c6.Loads x57)] : List Access)) :: _ :: _ :: _ :: _ :: _ :: _ :: _ :: _ :: _ :: _ :: W1) ?_))
 refine t_some 0 sees_sh (by simp) (fun g71 o72 ha => ?_)
 subst ha
 refine lO (vFa 1 fo127_1 R) (l_store 8 R R sz122 R R R R R (lN (OO (kT124).share 124 (ad g71 o72) D70 (x52 ++ ([(ix c6.Loads x57)] : List Access)) :: _ :: _ :: _ :: _ :: _ :: _ :: _ :: bxl b14 [(sc A7 c6.Loops D7), (sc (ad g71 o72) (x52 ++ ([(ix c6.Loads x57)] : List Access)) D70), (iv c6.Store.Buffer), (iv c6.Store.Offset), (sc A9 c6.Store.Steps D9), (.bool c6.Sum), (.slice none 0 0)] 127 :: _ :: _ :: W1) ?_))
 refine l_nil (q_next (c_exit (q_exit (q_block ?_))))
 exact qI ((x49, nb51, (x52 ++ ([(ix c6.Loads x57)] : List Access)), false, (to55.set x57.toNat (x52.length : Int))), ((A50, x49.length, D50), ((ad g71 o72), (x52 ++ ([(ix c6.Loads x57)] : List Access)).length, D70), ((ad g60 o61), c6.Loads.length, D56))) hr (fun w s => (((s.pfi (φ := ((ad g71 o72) : Option Addr).isNone = false) R).pfi (φ := ((ad g60 o61) : Option Addr).isNone = false) R).e 13 [7, 8, 9, 10, 2, 1, 3, 12, 0]))
 refine c_false R hb64 (c_skip (q_next (c_seq ?_)))
 obtain ⟨r73, hx74, hr⟩ := bd hr
 refine c_region (lO (vz (.agg [(sc A2 p1.Loops D2), (sc A3 p1.Loads D3), (iv p1.Store.Buffer), (iv p1.Store.Offset), (sc A4 p1.Store.Steps D4), (.bool p1.Sum), (sc A5 p1.Code D5)].toArray) (v_loadw 12 ag127 sz127 R R R R)) (lO (vz (.agg [(sc A7 c6.Loops D7), (sc A8 c6.Loads D8), (iv c6.Store.Buffer), (iv c6.Store.Offset), (sc A9 c6.Store.Steps D9), (.bool c6.Sum), (sc A10 c6.Code D10)].toArray) (v_loadw 11 ag127 sz127 R R R R)) (lO (vz (.agg [(iv (ix c6.Loads x57).Buffer), (iv (ix c6.Loads x57).Offset), (sc A62 ((ix c6.Loads x57).Steps) D62)].toArray) (v_loadw 0 ag124 sz124 R R R R)) ?_)))
 refine lM (RR kT3 A2 D2 p1.Loops :: RR kT124 A3 D3 p1.Loads :: RR kT3 A4 D4 p1.Store.Steps :: RR kT216 A5 D5 p1.Code :: RR kT3 A7 D7 c6.Loops :: RR kT124 A8 D8 c6.Loads :: RR kT3 A9 D9 c6.Store.Steps :: RR kT216 A10 D10 c6.Code :: rds _ _ _ :: bxl _ _ _ :: cl _ _ _ :: rds _ _ _ :: bxl _ _ _ :: ow _ _ _ _ :: pf _ :: bxl b14 [(sc A7 c6.Loops D7), (sc A53 x52 D53), (iv c6.Store.Buffer), (iv c6.Store.Offset), (sc A9 c6.Store.Steps D9), (.bool c6.Sum), (.slice none 0 0)] 127 :: OO (kT124).share 124 A53 D53 x52 :: pf _ :: ow kT3 3 (.slice A16 (List.replicate (c6.Loads.length : Int).toNat (0 : Int)).length D16) to55 :: rds _ _ _ :: W1) (fun w s => ((((((((((s.d 13 R).d 15 R).d 17 R).d 19 R).d 21 R).d 23 R).d 25 R).d 27 R).d 10 R).e 20 [8, 7, 6, 5, 4, 3, 2, 1, 0, 9, 10, 11, 12, 13, 14, 15, 16, 17, 18, 19])) ?_
 refine lC 9 cb193 R (impl_partners_ok hx74) R ?_
 rintro ⟨A75, N75, D75⟩
 refine lN (ow kT3 3 (.slice A75 N75 D75) r73.1 :: pf ((A75 : Option Addr).isNone = r73.2.2) :: _ :: _ :: _ :: _ :: _ :: _ :: _ :: _ :: _ :: _ :: _ :: W1) ?_
 refine l_len 0 sees_ow ?_
 rintro rfl
 refine lO (vT R) (lS R (lB R (lS R (lB R (l_nil (q_next (c_seq (c_seq ?_))))))))
 obtain ⟨r76, hx77, hr⟩ := bd hr
 refine cQ [(2, (pt b11 0)), (3, (pt b12 0)), (4, (pt b13 0)), (6, (iv p1.Store.Buffer)), (8, (pt b14 0)), (9, (sc A16 (List.replicate (c6.Loads.length : Int).toNat (0 : Int)) D16)), (12, (sc A75 r73.1 D75)), (41, (sc (ad g60 o61) c6.Loads D56)), (42, (il c6.Loads)), (43, (iv x57)), (82, (.bool ((!r73.2.1) || ((!nb51) && (!r76)))))] (bxl b13 [(.slice none 0 0), (.slice none 0 0), (iv 0), (iv 0), (.slice none 0 0), (.bool false), (.slice none 0 0)] 127 :: bxl b14 [(sc A7 c6.Loops D7), (sc A53 x52 D53), (iv c6.Store.Buffer), (iv c6.Store.Offset), (sc A9 c6.Store.Steps D9), (.bool c6.Sum), (.slice none 0 0)] 127 :: OO (kT124).share 124 A53 D53 x52 :: pf ((A53 : Option Addr).isNone = nb54) :: ow kT3 3 (.slice A16 (List.replicate (c6.Loads.length : Int).toNat (0 : Int)).length D16) to55 :: OO kT3 3 A75 D75 r73.1 :: pf ((A75 : Option Addr).isNone = r73.2.2) :: RR kT124 (ad g60 o61) D56 c6.Loads :: pf (((ad g60 o61) : Option Addr).isNone = false) :: W1) ?_ ?_
 refine c_region (lB R (lO (vNo R) (lB R ?_)))
 rcases bo (!r73.2.1) with hc78 | hc78
 refine lf (wfT hc78) (lf (wfT hc78) (lf (wfT hc78) (lf R (lf R (lf R (lf R (lf (wfT hc78) (lO (pOT ((!nb51) && (!r76)) R hc78) (l_nil ?_)))))))))
 exact qJ (fun w s => ((s.pfi (φ := ((ad g60 o61) : Option Addr).isNone = false) R).e 14 [6, 9, 10, 11, 12, 1, 2, 13, 0]))
 refine lW (wnF hc78) (vS R) (lW (wnF hc78) (v_pfn 7 R (v_snnil sl29 R R)) (lW (wnF hc78) (vB R) ?_))
 rcases bo (!nb51) with hc79 | hc79
 refine lW (wnT hc79) (vS R) (lW (wnT hc79) (vS R) (lM (ow _ _ _ _ :: ow _ _ _ _ :: pf _ :: bxl _ _ _ :: cl _ _ _ :: rds _ _ _ :: bxl _ _ _ :: pf _ :: bxl _ _ _ :: ow _ _ _ _ :: pf _ :: ow _ _ _ _ :: rds _ _ _ :: W1) (fun w s => (s.f 13 [6, 1, 0, 6, 7, 6])) ?_))
 refine l_calln 2 R (wnT hc79) cb189 R (FnOk.lends (A' := [OO kT3 3 A50 D50 x49, OO kT3 3 A75 D75 r73.1]) (A := [RR kT3 A50 D50 x49, RR kT3 A75 D75 r73.1]) (B := []) (slices_Equal_int_int_ok (gcall_t hx77 (and_tt (not_ff hc78) hc79))) ⟨lend_ow, lend_ow, trivial⟩ (fun _ => trivial)) R ?_
 rintro _
 refine lW (wnT hc79) (vNo R) (lW (wnF hc78) (pAT R hc79 R) (lO (pOF R hc78 R) (l_nil ?_)))
 exact qJ (fun w s => ((s.pfi (φ := ((ad g60 o61) : Option Addr).isNone = false) R).e 14 [7, 9, 10, 11, 12, 2, 3, 13, 0]))
 refine lf (wfF hc79) (lf (wfF hc79) (lf (wfF hc79) (lf (wfF hc79) (lW (wnF hc78) (pAF (!r76) R hc79) (lO (pOF R hc78 R) (l_nil ?_))))))
 exact qJ (fun w s => ((s.pfi (φ := ((ad g60 o61) : Option Addr).isNone = false) R).e 14 [6, 9, 10, 11, 12, 1, 2, 13, 0]))
 rintro σ1
 refine q_next ?_
 rcases bif_ hr with ⟨hb80, hr⟩ | ⟨hb80, hr⟩
 refine c_true R hb80 (c_seq (c_region (lO (vz (.agg [(.slice none 0 0), (.slice none 0 0), (iv 0), (iv 0), (.slice none 0 0), (.bool false), (.slice none 0 0)].toArray) (v_build pl127 zc127 R R)) (l_stores 0 R R sz127 R R R R R R (lN (_ :: _ :: _ :: _ :: _ :: _ :: _ :: _ :: pf (((ad g60 o61) : Option Addr).isNone = false) :: W1) ?_)))))
 refine lB R (l_nil (q_next (c_ret (q_ret (q_blockr (q_ret ?_))))))
 obtain rfl := so hr
 obtain rfl := he1 _ R
 have hr := hk1
 refine q_ret (q_blockr (q_ret ?_))
 obtain rfl := so hr
 exact q_fin (vs := [(.agg [(.slice none 0 0), (.slice none 0 0), (iv 0), (iv 0), (.slice none 0 0), (.bool false), (.slice none 0 0)].toArray), (.bool false)]) (.inl R) ((none, 0, 0), (none, 0, 0), (none, 0, 0), (none, 0, 0)) R ⟨⟨0, b13, _, _, R, R, .inl ⟨ag127, sz127, R⟩⟩, R, trivial⟩ R (fun w s => (((((s.nilr kT3).nilo (kT124).share 124).nilr kT3).nilo kT216 216).e 23 [3, 2, 1, 0]))
 refine c_false R hb80 (c_skip (q_next (c_region (lS R (lS R (l_nil (q_blockn ?_)))))))
 exact qI ((r73.1, r73.2.2, x52, nb54, to55), ((A75, r73.1.length, D75), (A53, x52.length, D53), ((ad g60 o61), c6.Loads.length, D56))) hr (fun w s => ((s.pfi (φ := ((ad g60 o61) : Option Addr).isNone = false) R).e 10 [1, 6, 7, 2, 3, 4, 5, 8, 0]))
 rintro ⟨⟨x81, nb83, x84, nb86, to87⟩, ⟨⟨A82, N82, D82⟩, ⟨A85, N85, D85⟩, ⟨A88, N88, D88⟩⟩⟩ σ1 hr
 replace hr : impl_fused_J2 x57 x81 nb83 x84 nb86 to87 = some out1 := hr
 unfold impl_fused_J2 at hr
 refine c_len 1 sees_ow (fun (hn : N82 = x81.length) => ?_)
 subst hn
 refine c_len 4 sees_sh (fun (hn : N85 = x84.length) => ?_)
 subst hn
 refine c_len 7 sees_rd (fun (hn : N88 = c6.Loads.length) => ?_)
 subst hn
 refine c_region (lO (vAd R R) (lI R (l_nil ?_)))
 obtain rfl := so hr
 exact qA ((A82, x81.length, D82), (A85, x84.length, D85), (A88, c6.Loads.length, D88)) (fun w s => (s.f 9 [0, 8]))
 refine c_false R hb58 (c_exit (q_exit ?_))
 obtain rfl := so hr
 obtain rfl := he1 _ R
 have hr := hk1
 refine q_exit (q_block ?_)
 exact qI ((x49, nb51, x52, nb54, to55), ((A50, x49.length, D50), (A53, x52.length, D53))) hr (fun w s => (s.f 8 [0, 7]))
 rintro ⟨⟨x98, nb100, x101, nb103, to104⟩, ⟨⟨A99, N99, D99⟩, ⟨A102, N102, D102⟩⟩⟩ σ1 hr
 replace hr : impl_fused_J3 p1 c6 x98 nb100 x101 nb103 to104 = some r := hr
 unfold impl_fused_J3 at hr
 refine c_len 1 sees_ow (fun (hn : N99 = x98.length) => ?_)
 subst hn
 refine c_len 4 sees_sh (fun (hn : N102 = x101.length) => ?_)
 subst hn
 refine c_seq (c_region (lO (vFa 1 fo127_1 R) (lO (vLd 3 ag122 R R R) (lO (v_len sl122 R) (lI R (l_nil (q_next (c_seq (c_cut (A := ((List Access) × Bool) × (HH)) (fun a => impl_fused_J6 p1 c6 x101 to104 a.1.1 a.1.2 = some r) (fun a => [(2, (pt b11 0)), (3, (pt b12 0)), (4, (pt b13 0)), (6, (iv p1.Store.Buffer)), (8, (pt b14 0)), (9, (sc A16 (List.replicate (c6.Loads.length : Int).toNat (0 : Int)) D16)), (14, (il x101))]) (fun a => bxl b13 [(.slice none 0 0), (.slice none 0 0), (iv 0), (iv 0), (.slice none 0 0), (.bool false), (.slice none 0 0)] 127 :: bxl b14 [(sc A7 c6.Loops D7), (.slice a.2.1 a.2.2.1 a.2.2.2), (iv c6.Store.Buffer), (iv c6.Store.Offset), (sc A9 c6.Store.Steps D9), (.bool c6.Sum), (.slice none 0 0)] 127 :: ow (kT124).share 124 (.slice a.2.1 a.2.2.1 a.2.2.2) a.1.1 :: pf ((a.2.1 : Option Addr).isNone = a.1.2) :: ow kT3 3 (.slice A16 (List.replicate (c6.Loads.length : Int).toNat (0 : Int)).length D16) to104 :: W1) ?_ ?_)))))))))
 refine c_seq (c_region (lO (vFa 1 fo127_1 R) (lO (vLd 8 ag122 R R R) (lO (v_len sl122 R) (lI R (l_nil (q_next (c_block ?_))))))))
 obtain ⟨e2, hl2, hk2⟩ := bd hr
 refine c_loop (A := HH × HH) hl2 (fun s a => [(2, (pt b11 0)), (3, (pt b12 0)), (4, (pt b13 0)), (6, (iv p1.Store.Buffer)), (7, (sc A99 x98 D99)), (8, (pt b14 0)), (9, (sc A16 (List.replicate (c6.Loads.length : Int).toNat (0 : Int)) D16)), (14, (il x101)), (90, (.slice a.2.1 a.2.2.1 a.2.2.2)), (91, (il p1.Loads)), (92, (iv s.2.2.2))]) (fun s a => bxl b13 [(.slice none 0 0), (.slice none 0 0), (iv 0), (iv 0), (.slice none 0 0), (.bool false), (.slice none 0 0)] 127 :: OO kT3 3 A99 D99 x98 :: pf ((A99 : Option Addr).isNone = s.1) :: bxl b14 [(sc A7 c6.Loops D7), (.slice a.1.1 a.1.2.1 a.1.2.2), (iv c6.Store.Buffer), (iv c6.Store.Offset), (sc A9 c6.Store.Steps D9), (.bool c6.Sum), (.slice none 0 0)] 127 :: ow (kT124).share 124 (.slice a.1.1 a.1.2.1 a.1.2.2) s.2.1 :: pf ((a.1.1 : Option Addr).isNone = s.2.2.1) :: ow kT3 3 (.slice A16 (List.replicate (c6.Loads.length : Int).toNat (0 : Int)).length D16) to104 :: rds kT124 (.slice a.2.1 a.2.2.1 a.2.2.2) p1.Loads :: W1) ((A102, x101.length, D102), (A3, p1.Loads.length, D3)) (aS R) (fun w s => ((s.d 10 R).f 8 [1, 7, 0, 1])) ?_
 rintro ⟨nb150, x151, nb153, x155⟩ ⟨⟨A152, N152, D152⟩, ⟨A154, N154, D154⟩⟩ σ1 out2 hr he2
 replace hr : impl_fused_L2 p1 c6 x98 nb150 x151 nb153 x155 = some out2 := hr
 unfold impl_fused_L2 at hr
 refine c_len 4 sees_sh (fun (hn : N152 = x151.length) => ?_)
 subst hn
 refine c_len 7 sees_rd (fun (hn : N154 = p1.Loads.length) => ?_)
 subst hn
 refine c_seq (c_region (lO (vLt R R) (l_nil (q_next (c_seq ?_)))))
 rcases bif_ hr with ⟨hb156, hr⟩ | ⟨hb156, hr⟩
 refine c_true R hb156 (c_skip (q_next (c_seq (c_block (c_seq ?_)))))
 obtain ⟨hg157, hr⟩ := gd hr
 refine c_region (t_some 7 sees_rd (show 0 < p1.Loads.length by have := hg157; omega) (fun g158 o159 ha => ?_))
 subst ha
 refine lO (vIa sl122 sz124 R R hg157) (t_elem (K := kT124) 7 x155 dT124.dec R hg157.1 hg157.2 ?_)
 rintro ⟨-, -, ⟨A160, D160⟩⟩
 refine lN (cl g158 (o159 + x155.toNat * 3) [(iv (ix p1.Loads x155).Buffer), (iv (ix p1.Loads x155).Offset), (sc A160 ((ix p1.Loads x155).Steps) D160)] :: RR kT3 A160 D160 ((ix p1.Loads x155).Steps) :: _ :: OO kT3 3 A99 D99 x98 :: pf ((A99 : Option Addr).isNone = nb150) :: bxl b14 [(sc A7 c6.Loops D7), (sc A152 x151 D152), (iv c6.Store.Buffer), (iv c6.Store.Offset), (sc A9 c6.Store.Steps D9), (.bool c6.Sum), (.slice none 0 0)] 127 :: OO (kT124).share 124 A152 D152 x151 :: pf ((A152 : Option Addr).isNone = nb153) :: ow kT3 3 (.slice A16 (List.replicate (c6.Loads.length : Int).toNat (0 : Int)).length D16) to104 :: RR kT124 (ad g158 o159) D154 p1.Loads :: W1) ?_
 refine lO (vz (.agg [(iv (ix p1.Loads x155).Buffer), (iv (ix p1.Loads x155).Offset), (sc A160 ((ix p1.Loads x155).Steps) D160)].toArray) (v_clfs (fo := 0) 0 ag124 sz124 R R R R)) (l_alloc R R zc124 (fun b161 => (l_stores 0 R R sz124 R R R R R R (lN (bxl b161 [(iv (ix p1.Loads x155).Buffer), (iv (ix p1.Loads x155).Offset), (sc A160 ((ix p1.Loads x155).Steps) D160)] 124 :: _ :: _ :: _ :: _ :: _ :: _ :: _ :: _ :: _ :: _ :: W1) ?_))))
 refine l_nil (q_next (c_seq ?_))
 obtain ⟨hg162, hr⟩ := gd hr
 refine c_region (lO (vFa 0 fo127_0 R) (lO (vLd 11 ag29 R R R) (lO (v_len sl29 R) (l_make (K := kT3) (m := (c6.Loops.length : Int)) (z := (0 : Int)) R R sl29 sz3 by3 (Zr.zk zT3 zc3) (by decide) R R hg162.1 hg162.2.1 hg162.2.2 (fun A163 D163 => (lS R (l_nil (q_next ?_))))))))
 refine c_seq (c_cut (A := (Bool × (List Int)) × (Unit)) (fun a => impl_fused_J5 p1 x151 x155 a.1.1 a.1.2 = some out2) (fun a => [(2, (pt b11 0)), (3, (pt b12 0)), (4, (pt b13 0)), (6, (iv p1.Store.Buffer)), (7, (sc A99 x98 D99)), (8, (pt b14 0)), (9, (sc A16 (List.replicate (c6.Loads.length : Int).toNat (0 : Int)) D16)), (14, (il x101)), (16, (pt b161 0)), (17, (sc A163 (List.replicate (c6.Loops.length : Int).toNat (0 : Int)) D163)), (90, (sc (ad g158 o159) p1.Loads D154)), (91, (il p1.Loads)), (92, (iv x155))]) (fun a => bxl b13 [(.slice none 0 0), (.slice none 0 0), (iv 0), (iv 0), (.slice none 0 0), (.bool false), (.slice none 0 0)] 127 :: OO kT3 3 A99 D99 x98 :: pf ((A99 : Option Addr).isNone = a.1.1) :: bxl b14 [(sc A7 c6.Loops D7), (sc A152 x151 D152), (iv c6.Store.Buffer), (iv c6.Store.Offset), (sc A9 c6.Store.Steps D9), (.bool c6.Sum), (.slice none 0 0)] 127 :: OO (kT124).share 124 A152 D152 x151 :: pf ((A152 : Option Addr).isNone = nb153) :: ow kT3 3 (.slice A16 (List.replicate (c6.Loads.length : Int).toNat (0 : Int)).length D16) to104 :: bxl b161 [(iv (ix p1.Loads x155).Buffer), (iv (ix p1.Loads x155).Offset), (sc A160 ((ix p1.Loads x155).Steps) D160)] 124 :: RR kT3 A160 D160 ((ix p1.Loads x155).Steps) :: ow kT3 3 (.slice A163 (List.replicate (c6.Loops.length : Int).toNat (0 : Int)).length D163) a.1.2 :: RR kT124 (ad g158 o159) D154 p1.Loads :: pf (((ad g158 o159) : Option Addr).isNone = false) :: W1) ?_ ?_)
 refine c_seq (c_region (lS R (lO (v_len sl29 R) (lI R (l_nil (q_next (c_block ?_)))))))
 obtain ⟨e3, hl3, hk3⟩ := bd hr
 refine c_loop (A := Unit) hl3 (fun s a => [(2, (pt b11 0)), (3, (pt b12 0)), (4, (pt b13 0)), (6, (iv p1.Store.Buffer)), (7, (sc A99 x98 D99)), (8, (pt b14 0)), (9, (sc A16 (List.replicate (c6.Loads.length : Int).toNat (0 : Int)) D16)), (14, (il x101)), (16, (pt b161 0)), (17, (sc A163 (List.replicate (c6.Loops.length : Int).toNat (0 : Int)) D163)), (90, (sc (ad g158 o159) p1.Loads D154)), (91, (il p1.Loads)), (92, (iv x155)), (100, (sc A99 x98 D99)), (101, (il x98)), (102, (iv s.2.2))]) (fun s a => bxl b13 [(.slice none 0 0), (.slice none 0 0), (iv 0), (iv 0), (.slice none 0 0), (.bool false), (.slice none 0 0)] 127 :: OO kT3 3 A99 D99 x98 :: pf ((A99 : Option Addr).isNone = s.1) :: bxl b14 [(sc A7 c6.Loops D7), (sc A152 x151 D152), (iv c6.Store.Buffer), (iv c6.Store.Offset), (sc A9 c6.Store.Steps D9), (.bool c6.Sum), (.slice none 0 0)] 127 :: OO (kT124).share 124 A152 D152 x151 :: pf ((A152 : Option Addr).isNone = nb153) :: ow kT3 3 (.slice A16 (List.replicate (c6.Loads.length : Int).toNat (0 : Int)).length D16) to104 :: bxl b161 [(iv (ix p1.Loads x155).Buffer), (iv (ix p1.Loads x155).Offset), (sc A160 ((ix p1.Loads x155).Steps) D160)] 124 :: RR kT3 A160 D160 ((ix p1.Loads x155).Steps) :: ow kT3 3 (.slice A163 (List.replicate (c6.Loops.length : Int).toNat (0 : Int)).length D163) s.2.1 :: RR kT124 (ad g158 o159) D154 p1.Loads :: pf (((ad g158 o159) : Option Addr).isNone = false) :: W1) () (aS R) (fun w s => ((s.pfi (φ := ((ad g158 o159) : Option Addr).isNone = false) R).e 13 [5, 6, 7, 8, 9, 10, 11, 2, 4, 1, 12, 0])) ?_
 rintro ⟨nb176, x177, x178⟩ _ σ1 out3 hr he3
 replace hr : impl_fused_L3 p1 c6 x98 x155 nb176 x177 x178 = some out3 := hr
 unfold impl_fused_L3 at hr
 refine c_seq (c_region (lO (vLt R R) (l_nil (q_next (c_seq ?_)))))
 rcases bif_ hr with ⟨hb179, hr⟩ | ⟨hb179, hr⟩
 refine c_true R hb179 (c_skip (q_next (c_seq (c_block (c_seq ?_)))))
 obtain ⟨hg180, hr⟩ := gd hr
 refine c_region (lI R (t_some 1 sees_ow (show 0 < x98.length by have := hg180; omega) (fun g181 o182 ha => ?_)))
 subst ha
 refine lO (vIa sl29 sz3 R R hg180) (lO (vLi 1 ag3 sees_ow R hg180) (lI R (lI R (l_nil (q_next ?_)))))
 obtain ⟨hg183, hr⟩ := gd hr
 obtain ⟨hg186, hr⟩ := gd hr
 refine c_region (lS R (lI R (lO (vFa 2 fo124_2 R) (lO (vLd 7 ag29 R R R) (lI R (t_some 8 sees_rd (show 0 < ((ix p1.Loads x155).Steps).length by have := hg183; omega) (fun g184 o185 ha => ?_)))))))
 subst ha
 refine lO (vIa sl29 sz3 R R hg183) (lO (vLi 8 ag3 sees_rd R hg183) (t_some 9 sees_ow (show 0 < (List.replicate (c6.Loops.length : Int).toNat (0 : Int)).length by have := hg186; omega) (fun g187 o188 ha => ?_)))
 subst ha
 refine lO (vIa sl29 sz3 R R hg186) (lM (ow kT3 3 (.slice (ad g187 o188) (List.replicate (c6.Loops.length : Int).toNat (0 : Int)).length D163) x177 :: bxl _ _ _ :: OO kT3 3 (ad g181 o182) D99 x98 :: pf (((ad g181 o182) : Option Addr).isNone = nb176) :: bxl _ _ _ :: ow _ _ _ _ :: pf _ :: ow _ _ _ _ :: bxl b161 [(iv (ix p1.Loads x155).Buffer), (iv (ix p1.Loads x155).Offset), (sc (ad g184 o185) ((ix p1.Loads x155).Steps) D160)] 124 :: RR kT3 (ad g184 o185) D160 ((ix p1.Loads x155).Steps) :: rds _ _ _ :: pf (((ad g158 o159) : Option Addr).isNone = false) :: W1) (fun w s => (s.f 12 [9, 1, 0, 9, 10, 2])) ?_)
 refine l_stx (K := kT3) (x' := (ix ((ix p1.Loads x155).Steps) x178)) 0 (ix x98 x178) R R sz3 R R hg186.1 hg186.2 ?_ ?_
 exact fun I h s => (mO3).put I h () (ix ((ix p1.Loads x155).Steps) x178) s
 refine lN (ow kT3 3 (.slice (ad g187 o188) (List.replicate (c6.Loops.length : Int).toNat (0 : Int)).length D163) (x177.set (ix x98 x178).toNat (ix ((ix p1.Loads x155).Steps) x178)) :: _ :: _ :: _ :: _ :: _ :: _ :: _ :: _ :: _ :: _ :: _ :: W1) ?_
 refine l_nil ?_
 obtain ⟨l189, hl190, hr⟩ := bd hr
 replace hl190 := Option.some.inj hl190
 refine qM (ow kT3 3 (.slice (ad g187 o188) (List.replicate (c6.Loops.length : Int).toNat (0 : Int)).length D163) l189 :: _ :: _ :: _ :: _ :: _ :: _ :: _ :: _ :: _ :: _ :: _ :: W1) (fun w s => by rw [← hl190]; exact s) ?_
 refine q_blockn (q_next (c_region (lO (vAd R R) (lI R (l_nil ?_)))))
 obtain rfl := so hr
 exact qA () (fun w s => (((s.pfi (φ := ((ad g181 o182) : Option Addr).isNone = false) R).pfi (φ := ((ad g158 o159) : Option Addr).isNone = false) R).e 14 [3, 4, 1, 6, 7, 8, 9, 10, 11, 2, 12, 0]))
 refine c_false R hb179 (c_exit (q_exit ?_))
 obtain rfl := so hr
 obtain rfl := he3 _ R
 have hr := hk3
 refine q_exit (q_block ?_)
 exact qI ((nb176, x177), ()) hr (fun w s => ((s.pfi (φ := ((ad g158 o159) : Option Addr).isNone = false) R).f 13 [1, 11, 0, 1]))
 rintro ⟨⟨nb194, x195⟩, _⟩ σ1 hr
 replace hr : impl_fused_J5 p1 x151 x155 nb194 x195 = some out2 := hr
 unfold impl_fused_J5 at hr
 obtain ⟨hg197, hr⟩ := gd hr
 refine c_region (lO (vFa 1 fo127_1 R) (lO (vLd 3 ag122 R R R) (lO (vFa 0 fo124_0 R) (lO (vLd 7 ag3 R R R) (lO (vFa 1 fo124_1 R) (lO (vLd 7 ag3 R R R) (lS R (lO (vz (.agg [(iv (ix p1.Loads x155).Buffer), (iv (ix p1.Loads x155).Offset), (sc A163 (List.replicate (c6.Loops.length : Int).toNat (0 : Int)) D163)].toArray) (v_build pl124 zc124 R R)) (lM (ow kT3 3 (.slice A163 (List.replicate (c6.Loops.length : Int).toNat (0 : Int)).length D163) x195 :: bxl _ _ _ :: OO kT3 3 A99 D99 x98 :: pf ((A99 : Option Addr).isNone = nb194) :: bxl _ _ _ :: ow _ _ _ _ :: pf _ :: ow _ _ _ _ :: bxl b161 [(iv (ix p1.Loads x155).Buffer), (iv (ix p1.Loads x155).Offset), (sc A160 ((ix p1.Loads x155).Steps) D160)] 124 :: RR kT3 A160 D160 ((ix p1.Loads x155).Steps) :: rds _ _ _ :: pf _ :: W1) (fun w s => (s.f 12 [9, 1, 0, 9, 10, 2])) ?_)))))))))
 refine l_buildn (K := kT124) (xs := ([(⟨(ix p1.Loads x155).Buffer, (ix p1.Loads x155).Offset, x195⟩ : Access)] : List Access)) (vs := [(.agg [(iv (ix p1.Loads x155).Buffer), (iv (ix p1.Loads x155).Offset), (sc A163 (List.replicate (c6.Loops.length : Int).toNat (0 : Int)) D163)].toArray)]) 1 R R sl122 sz124 zc124 R R R R R R ?_ R (fun A196 D196 => ?_)
 exact fun I h s => (mO124).list [(((), (), (sc A163 (List.replicate (c6.Loops.length : Int).toNat (0 : Int)) D163)), (⟨(ix p1.Loads x155).Buffer, (ix p1.Loads x155).Offset, x195⟩ : Access))] I h s
 refine lN (OO kT124 124 (ad A196 0) D196 ([(⟨(ix p1.Loads x155).Buffer, (ix p1.Loads x155).Offset, x195⟩ : Access)] : List Access) :: _ :: _ :: _ :: _ :: _ :: _ :: _ :: _ :: _ :: _ :: _ :: W1) ?_
 refine lM (ow _ _ _ _ :: OO (kT124).share 124 (ad A196 0) D196 ([(⟨(ix p1.Loads x155).Buffer, (ix p1.Loads x155).Offset, x195⟩ : Access)] : List Access) :: bxl _ _ _ :: ow _ _ _ _ :: pf _ :: bxl _ _ _ :: pf _ :: ow _ _ _ _ :: bxl _ _ _ :: rds _ _ _ :: rds _ _ _ :: pf _ :: W1) (fun w s => ((s.wk 0 R).f 12 [5, 1, 0, 5, 6, 6])) ?_
 refine l_app (K := (kT124).share) 3518437208883 R R sl122 sz124 by124 (Zr.zk (Zr.share zT124) zc124) R R R R R R src_ow hg197 (fun A198 D198 => (lN (OO (kT124).share 124 A198 D198 (x151 ++ ([(⟨(ix p1.Loads x155).Buffer, (ix p1.Loads x155).Offset, x195⟩ : Access)] : List Access)) :: _ :: _ :: _ :: _ :: _ :: _ :: _ :: _ :: _ :: _ :: W1) ?_))
 refine t_some 0 sees_sh (by simp) (fun g199 o200 ha => ?_)
 subst ha
 refine lO (vFa 1 fo127_1 R) (l_store 4 R R sz122 R R R R R (lN (OO (kT124).share 124 (ad g199 o200) D198 (x151 ++ ([(⟨(ix p1.Loads x155).Buffer, (ix p1.Loads x155).Offset, x195⟩ : Access)] : List Access)) :: _ :: _ :: _ :: bxl b14 [(sc A7 c6.Loops D7), (sc (ad g199 o200) (x151 ++ ([(⟨(ix p1.Loads x155).Buffer, (ix p1.Loads x155).Offset, x195⟩ : Access)] : List Access)) D198), (iv c6.Store.Buffer), (iv c6.Store.Offset), (sc A9 c6.Store.Steps D9), (.bool c6.Sum), (.slice none 0 0)] 127 :: _ :: _ :: _ :: _ :: _ :: _ :: W1) ?_))
 refine l_nil (q_blockn (q_next (c_region (lO (vAd R R) (lI R (l_nil ?_))))))
 obtain rfl := so hr
 exact qA (((ad g199 o200), (x151 ++ ([(⟨(ix p1.Loads x155).Buffer, (ix p1.Loads x155).Offset, x195⟩ : Access)] : List Access)).length, D198), ((ad g158 o159), p1.Loads.length, D154)) (fun w s => ((s.pfi (φ := ((ad g199 o200) : Option Addr).isNone = false) R).e 12 [2, 3, 4, 5, 1, 0, 7, 10]))
 refine c_false R hb156 (c_exit (q_exit ?_))
 obtain rfl := so hr
 obtain rfl := he2 _ R
 have hr := hk2
 refine q_exit (q_block ?_)
 exact qI ((x151, nb153), (A152, x151.length, D152)) hr (fun w s => (s.f 8 [0, 1, 3, 4]))
 rintro ⟨⟨x207, nb209⟩, ⟨A208, N208, D208⟩⟩ σ1 hr
 replace hr : impl_fused_J6 p1 c6 x101 to104 x207 nb209 = some r := hr
 unfold impl_fused_J6 at hr
 refine c_len 2 sees_sh (fun (hn : N208 = x207.length) => ?_)
 subst hn
 refine c_seq (c_cut (A := ((List Calc) × Bool) × (HH)) (fun a => impl_fused_J9 p1 c6 to104 x207 a.1.1 a.1.2 = some r) (fun a => [(2, (pt b11 0)), (3, (pt b12 0)), (4, (pt b13 0)), (6, (iv p1.Store.Buffer)), (8, (pt b14 0)), (9, (sc A16 (List.replicate (c6.Loads.length : Int).toNat (0 : Int)) D16))]) (fun a => bxl b13 [(.slice none 0 0), (.slice none 0 0), (iv 0), (iv 0), (.slice none 0 0), (.bool false), (.slice none 0 0)] 127 :: bxl b14 [(sc A7 c6.Loops D7), (sc A208 x207 D208), (iv c6.Store.Buffer), (iv c6.Store.Offset), (sc A9 c6.Store.Steps D9), (.bool c6.Sum), (.slice a.2.1 a.2.2.1 a.2.2.2)] 127 :: OO (kT124).share 124 A208 D208 x207 :: pf ((A208 : Option Addr).isNone = nb209) :: ow kT216 216 (.slice a.2.1 a.2.2.1 a.2.2.2) a.1.1 :: pf ((a.2.1 : Option Addr).isNone = a.1.2) :: ow kT3 3 (.slice A16 (List.replicate (c6.Loads.length : Int).toNat (0 : Int)).length D16) to104 :: W1) ?_ ?_)
 refine c_seq (c_region (lO (vFa 6 fo127_4 R) (lO (vLd 6 ag125 R R R) (lO (v_len sl125 R) (lI R (l_nil (q_next (c_block ?_))))))))
 obtain ⟨e4, hl4, hk4⟩ := bd hr
 refine c_loop (A := HH × HH) hl4 (fun s a => [(2, (pt b11 0)), (3, (pt b12 0)), (4, (pt b13 0)), (6, (iv p1.Store.Buffer)), (8, (pt b14 0)), (9, (sc A16 (List.replicate (c6.Loads.length : Int).toNat (0 : Int)) D16)), (14, (il x101)), (129, (.slice a.2.1 a.2.2.1 a.2.2.2)), (130, (il p1.Code)), (131, (iv s.2.2))]) (fun s a => bxl b13 [(.slice none 0 0), (.slice none 0 0), (iv 0), (iv 0), (.slice none 0 0), (.bool false), (.slice none 0 0)] 127 :: bxl b14 [(sc A7 c6.Loops D7), (sc A208 x207 D208), (iv c6.Store.Buffer), (iv c6.Store.Offset), (sc A9 c6.Store.Steps D9), (.bool c6.Sum), (.slice a.1.1 a.1.2.1 a.1.2.2)] 127 :: OO (kT124).share 124 A208 D208 x207 :: pf ((A208 : Option Addr).isNone = nb209) :: ow kT216 216 (.slice a.1.1 a.1.2.1 a.1.2.2) s.1 :: pf ((a.1.1 : Option Addr).isNone = s.2.1) :: ow kT3 3 (.slice A16 (List.replicate (c6.Loads.length : Int).toNat (0 : Int)).length D16) to104 :: rds kT216 (.slice a.2.1 a.2.2.1 a.2.2.2) p1.Code :: W1) ((none, 0, 0), (A5, p1.Code.length, D5)) (aS R) (fun w s => ((((s.nilo kT216 216).pfi (φ := (none : Option Addr).isNone = true) R).d 12 R).e 8 [3, 4, 5, 6, 2, 1, 7, 0])) ?_
 rintro ⟨x222, nb224, x226⟩ ⟨⟨A223, N223, D223⟩, ⟨A225, N225, D225⟩⟩ σ1 out4 hr he4
 replace hr : impl_fused_L4 p1 x101 x222 nb224 x226 = some out4 := hr
 unfold impl_fused_L4 at hr
 refine c_len 4 sees_ow (fun (hn : N223 = x222.length) => ?_)
 subst hn
 refine c_len 7 sees_rd (fun (hn : N225 = p1.Code.length) => ?_)
 subst hn
 refine c_seq (c_region (lO (vLt R R) (l_nil (q_next (c_seq ?_)))))
 rcases bif_ hr with ⟨hb227, hr⟩ | ⟨hb227, hr⟩
 refine c_true R hb227 (c_skip (q_next (c_seq (c_block (c_seq ?_)))))
 obtain ⟨hg228, hr⟩ := gd hr
 refine c_region (t_some 7 sees_rd (show 0 < p1.Code.length by have := hg228; omega) (fun g229 o230 ha => ?_))
 subst ha
 refine lO (vIa sl125 sz216 R R hg228) (l_v (.agg [(iv (ix p1.Code x226).Op), (iv (ix p1.Code x226).A), (iv (ix p1.Code x226).B)].toArray) ?_ R R ?_)
 exact (v_ldef (K := kT216) (cells := fun x => [(iv x.Op), (iv x.A), (iv x.B)]) 7 x226 ag216 sz216 (DecK.flat dT216 fun _ _ => R) sees_rd R hg228.1 hg228.2)
 refine l_alloc R R zc216 (fun b231 => (l_stores 0 R R sz216 R R R R R R (lN (bxl b231 [(iv (ix p1.Code x226).Op), (iv (ix p1.Code x226).A), (iv (ix p1.Code x226).B)] 216 :: _ :: bxl b14 [(sc A7 c6.Loops D7), (sc A208 x207 D208), (iv c6.Store.Buffer), (iv c6.Store.Offset), (sc A9 c6.Store.Steps D9), (.bool c6.Sum), (sc A223 x222 D223)] 127 :: OO (kT124).share 124 A208 D208 x207 :: pf ((A208 : Option Addr).isNone = nb209) :: OO kT216 216 A223 D223 x222 :: pf ((A223 : Option Addr).isNone = nb224) :: _ :: RR kT216 (ad g229 o230) D225 p1.Code :: W1) ?_)))
 refine l_nil (q_next (c_seq (c_cut (A := (Int) × (Unit)) (fun a => impl_fused_J8 p1 x222 x226 a.1 = some out4) (fun a => [(2, (pt b11 0)), (3, (pt b12 0)), (4, (pt b13 0)), (6, (iv p1.Store.Buffer)), (8, (pt b14 0)), (9, (sc A16 (List.replicate (c6.Loads.length : Int).toNat (0 : Int)) D16)), (14, (il x101)), (21, (pt b231 0)), (129, (sc (ad g229 o230) p1.Code D225)), (130, (il p1.Code)), (131, (iv x226))]) (fun a => bxl b13 [(.slice none 0 0), (.slice none 0 0), (iv 0), (iv 0), (.slice none 0 0), (.bool false), (.slice none 0 0)] 127 :: bxl b14 [(sc A7 c6.Loops D7), (sc A208 x207 D208), (iv c6.Store.Buffer), (iv c6.Store.Offset), (sc A9 c6.Store.Steps D9), (.bool c6.Sum), (sc A223 x222 D223)] 127 :: OO (kT124).share 124 A208 D208 x207 :: pf ((A208 : Option Addr).isNone = nb209) :: OO kT216 216 A223 D223 x222 :: pf ((A223 : Option Addr).isNone = nb224) :: ow kT3 3 (.slice A16 (List.replicate (c6.Loads.length : Int).toNat (0 : Int)).length D16) to104 :: bxl b231 [(iv (ix p1.Code x226).Op), (iv a.1), (iv (ix p1.Code x226).B)] 216 :: RR kT216 (ad g229 o230) D225 p1.Code :: pf (((ad g229 o230) : Option Addr).isNone = false) :: W1) ?_ ?_)))
 refine c_seq (c_region (lO (vFa 0 fo216_0 R) (lO (vLd 0 ag3 R R R) (lO (vEq R R) (l_nil (q_next ?_))))))
 rcases bif_ hr with ⟨hb232, hr⟩ | ⟨hb232, hr⟩
 refine c_true R hb232 (c_region (lO (vFa 1 fo216_1 R) (lO (vLd 0 ag3 R R R) (lI R (lO (vAd R R) (lO (vFa 1 fo216_1 R) (l_store 0 R R sz3 R R R R R (lN (bxl b231 [(iv (ix p1.Code x226).Op), (iv (w64 ((ix p1.Code x226).A + (x101.length : Int)))), (iv (ix p1.Code x226).B)] 216 :: _ :: _ :: _ :: _ :: _ :: _ :: _ :: _ :: W1) ?_))))))))
 refine l_nil ?_
 exact qI ((w64 ((ix p1.Code x226).A + (x101.length : Int))), ()) hr (fun w s => ((s.pfi (φ := ((ad g229 o230) : Option Addr).isNone = false) R).f 10 [2, 7, 1, 1, 9, 1, 0, 1]))
 refine c_false R hb232 (c_skip ?_)
 exact qI ((ix p1.Code x226).A, ()) hr (fun w s => ((s.pfi (φ := ((ad g229 o230) : Option Addr).isNone = false) R).f 10 [2, 7, 1, 1, 9, 1, 0, 1]))
 rintro ⟨x233, _⟩ σ1 hr
 replace hr : impl_fused_J8 p1 x222 x226 x233 = some out4 := hr
 unfold impl_fused_J8 at hr
 obtain ⟨hg235, hr⟩ := gd hr
 refine c_region (lO (vFa 6 fo127_4 R) (lO (vLd 1 ag125 R R R) (lO (vz (.agg [(iv (ix p1.Code x226).Op), (iv x233), (iv (ix p1.Code x226).B)].toArray) (v_loadw 7 ag216 sz216 R R R R)) (l_buildn (K := kT216) (xs := ([(⟨(ix p1.Code x226).Op, x233, (ix p1.Code x226).B⟩ : Calc)] : List Calc)) (vs := [(.agg [(iv (ix p1.Code x226).Op), (iv x233), (iv (ix p1.Code x226).B)].toArray)]) 0 R R sl125 sz216 zc216 R R R R R R ?_ R (fun A234 D234 => ?_)))))
 exact fun I h s => (mO216).list [(((), (), ()), (⟨(ix p1.Code x226).Op, x233, (ix p1.Code x226).B⟩ : Calc))] I h s
 refine lN (OO kT216 216 (ad A234 0) D234 ([(⟨(ix p1.Code x226).Op, x233, (ix p1.Code x226).B⟩ : Calc)] : List Calc) :: _ :: _ :: _ :: _ :: _ :: _ :: _ :: bxl b231 [(iv (ix p1.Code x226).Op), (iv x233), (iv (ix p1.Code x226).B)] 216 :: _ :: pf (((ad g229 o230) : Option Addr).isNone = false) :: W1) ?_
 refine lM (ow _ _ _ _ :: ow _ _ _ _ :: bxl _ _ _ :: bxl _ _ _ :: ow _ _ _ _ :: pf _ :: pf _ :: ow _ _ _ _ :: bxl _ _ _ :: rds _ _ _ :: pf _ :: W1) (fun w s => (s.f 11 [5, 1, 0, 5, 6, 5])) ?_
 refine l_app (K := kT216) 5864062014805 R R sl125 sz216 by216 (Zr.zk zT216 zc216) R R R R R R src_ow hg235 (fun A236 D236 => (lN (OO kT216 216 A236 D236 (x222 ++ ([(⟨(ix p1.Code x226).Op, x233, (ix p1.Code x226).B⟩ : Calc)] : List Calc)) :: _ :: _ :: _ :: _ :: _ :: _ :: _ :: _ :: _ :: W1) ?_))
 refine t_some 0 sees_ow (by simp) (fun g237 o238 ha => ?_)
 subst ha
 refine lO (vFa 6 fo127_4 R) (l_store 2 R R sz125 R R R R R (lN (OO kT216 216 (ad g237 o238) D236 (x222 ++ ([(⟨(ix p1.Code x226).Op, x233, (ix p1.Code x226).B⟩ : Calc)] : List Calc)) :: _ :: bxl b14 [(sc A7 c6.Loops D7), (sc A208 x207 D208), (iv c6.Store.Buffer), (iv c6.Store.Offset), (sc A9 c6.Store.Steps D9), (.bool c6.Sum), (sc (ad g237 o238) (x222 ++ ([(⟨(ix p1.Code x226).Op, x233, (ix p1.Code x226).B⟩ : Calc)] : List Calc)) D236)] 127 :: _ :: _ :: _ :: _ :: _ :: _ :: _ :: W1) ?_))
 refine l_nil (q_blockn (q_next (c_region (lO (vAd R R) (lI R (l_nil ?_))))))
 obtain rfl := so hr
 exact qA (((ad g237 o238), (x222 ++ ([(⟨(ix p1.Code x226).Op, x233, (ix p1.Code x226).B⟩ : Calc)] : List Calc)).length, D236), ((ad g229 o230), p1.Code.length, D225)) (fun w s => ((s.pfi (φ := ((ad g237 o238) : Option Addr).isNone = false) R).e 11 [2, 3, 4, 5, 1, 0, 7, 9]))
 refine c_false R hb227 (c_exit (q_exit ?_))
 obtain rfl := so hr
 obtain rfl := he4 _ R
 have hr := hk4
 refine q_exit (q_block ?_)
 exact qI ((x222, nb224), (A223, x222.length, D223)) hr (fun w s => (s.f 8 [0, 7]))
 rintro ⟨⟨x244, nb246⟩, ⟨A245, N245, D245⟩⟩ σ1 hr
 replace hr : impl_fused_J9 p1 c6 to104 x207 x244 nb246 = some r := hr
 unfold impl_fused_J9 at hr
 refine c_len 4 sees_ow (fun (hn : N245 = x244.length) => ?_)
 subst hn
 refine c_seq (c_region (lO (vFa 6 fo127_4 R) (lO (vLd 8 ag125 R R R) (lO (v_len sl125 R) (lO (vSb R R) (lI R (l_nil (q_next (c_seq ?_)))))))))
 obtain ⟨hg247, hr⟩ := gd hr
 refine c_region (lO (vFa 6 fo127_4 R) (lO (vLd 7 ag125 R R R) (lO (v_len sl125 R) (l_make (K := kT3) (m := (c6.Code.length : Int)) (z := (0 : Int)) R R sl29 sz3 by3 (Zr.zk zT3 zc3) (by decide) R R hg247.1 hg247.2.1 hg247.2.2 (fun A248 D248 => (lS R (l_nil (q_next (c_seq (c_cut (A := ((List Calc) × Bool) × (HH)) (fun a => impl_fused_J14 c6 x207 a.1.1 a.1.2 = some r) (fun a => [(4, (pt b13 0)), (8, (pt b14 0))]) (fun a => bxl b13 [(.slice none 0 0), (.slice none 0 0), (iv 0), (iv 0), (.slice none 0 0), (.bool false), (.slice none 0 0)] 127 :: bxl b14 [(sc A7 c6.Loops D7), (sc A208 x207 D208), (iv c6.Store.Buffer), (iv c6.Store.Offset), (sc A9 c6.Store.Steps D9), (.bool c6.Sum), (.slice a.2.1 a.2.2.1 a.2.2.2)] 127 :: OO (kT124).share 124 A208 D208 x207 :: pf ((A208 : Option Addr).isNone = nb209) :: ow kT216 216 (.slice a.2.1 a.2.2.1 a.2.2.2) a.1.1 :: pf ((a.2.1 : Option Addr).isNone = a.1.2) :: W1) ?_ ?_))))))))))
 refine c_seq (c_region (lO (vFa 6 fo127_4 R) (lO (vLd 8 ag125 R R R) (lO (v_len sl125 R) (lI R (l_nil (q_next (c_block ?_))))))))
 obtain ⟨e5, hl5, hk5⟩ := bd hr
 refine c_loop (A := HH × HH) hl5 (fun s a => [(3, (pt b12 0)), (4, (pt b13 0)), (6, (iv p1.Store.Buffer)), (8, (pt b14 0)), (9, (sc A16 (List.replicate (c6.Loads.length : Int).toNat (0 : Int)) D16)), (22, (iv (w64 ((p1.Code.length : Int) - (1 : Int))))), (23, (sc A248 (List.replicate (c6.Code.length : Int).toNat (0 : Int)) D248)), (159, (.slice a.2.1 a.2.2.1 a.2.2.2)), (160, (il c6.Code)), (161, (iv s.2.2.2))]) (fun s a => bxl b13 [(.slice none 0 0), (.slice none 0 0), (iv 0), (iv 0), (.slice none 0 0), (.bool false), (.slice none 0 0)] 127 :: bxl b14 [(sc A7 c6.Loops D7), (sc A208 x207 D208), (iv c6.Store.Buffer), (iv c6.Store.Offset), (sc A9 c6.Store.Steps D9), (.bool c6.Sum), (.slice a.1.1 a.1.2.1 a.1.2.2)] 127 :: OO (kT124).share 124 A208 D208 x207 :: pf ((A208 : Option Addr).isNone = nb209) :: ow kT216 216 (.slice a.1.1 a.1.2.1 a.1.2.2) s.1 :: pf ((a.1.1 : Option Addr).isNone = s.2.1) :: ow kT3 3 (.slice A16 (List.replicate (c6.Loads.length : Int).toNat (0 : Int)).length D16) to104 :: ow kT3 3 (.slice A248 (List.replicate (c6.Code.length : Int).toNat (0 : Int)).length D248) s.2.2.1 :: rds kT216 (.slice a.2.1 a.2.2.1 a.2.2.2) c6.Code :: W1) ((A245, x244.length, D245), (A10, c6.Code.length, D10)) (aS R) (fun w s => ((s.d 17 R).f 9 [2, 7, 1, 1, 0, 1])) ?_
 rintro ⟨x296, nb298, x299, x301⟩ ⟨⟨A297, N297, D297⟩, ⟨A300, N300, D300⟩⟩ σ1 out5 hr he5
 replace hr : impl_fused_L5 p1 c6 to104 x296 nb298 x299 x301 = some out5 := hr
 unfold impl_fused_L5 at hr
 refine c_len 4 sees_ow (fun (hn : N297 = x296.length) => ?_)
 subst hn
 refine c_len 8 sees_rd (fun (hn : N300 = c6.Code.length) => ?_)
 subst hn
 refine c_seq (c_region (lO (vLt R R) (l_nil (q_next (c_seq ?_)))))
 rcases bif_ hr with ⟨hb302, hr⟩ | ⟨hb302, hr⟩
 refine c_true R hb302 (c_skip (q_next ?_))
 refine c_seq (c_cut (A := ((List Calc) × Bool × (List Int)) × (HH × HH)) (fun a => impl_fused_J13 x301 a.1.1 a.1.2.1 a.1.2.2 = some out5) (fun a => [(3, (pt b12 0)), (4, (pt b13 0)), (6, (iv p1.Store.Buffer)), (8, (pt b14 0)), (9, (sc A16 (List.replicate (c6.Loads.length : Int).toNat (0 : Int)) D16)), (22, (iv (w64 ((p1.Code.length : Int) - (1 : Int))))), (23, (sc A248 (List.replicate (c6.Code.length : Int).toNat (0 : Int)) D248)), (159, (.slice a.2.2.1 a.2.2.2.1 a.2.2.2.2)), (160, (il c6.Code)), (161, (iv x301))]) (fun a => bxl b13 [(.slice none 0 0), (.slice none 0 0), (iv 0), (iv 0), (.slice none 0 0), (.bool false), (.slice none 0 0)] 127 :: bxl b14 [(sc A7 c6.Loops D7), (sc A208 x207 D208), (iv c6.Store.Buffer), (iv c6.Store.Offset), (sc A9 c6.Store.Steps D9), (.bool c6.Sum), (.slice a.2.1.1 a.2.1.2.1 a.2.1.2.2)] 127 :: OO (kT124).share 124 A208 D208 x207 :: pf ((A208 : Option Addr).isNone = nb209) :: ow kT216 216 (.slice a.2.1.1 a.2.1.2.1 a.2.1.2.2) a.1.1 :: pf ((a.2.1.1 : Option Addr).isNone = a.1.2.1) :: ow kT3 3 (.slice A16 (List.replicate (c6.Loads.length : Int).toNat (0 : Int)).length D16) to104 :: ow kT3 3 (.slice A248 (List.replicate (c6.Code.length : Int).toNat (0 : Int)).length D248) a.1.2.2 :: pf ((A248 : Option Addr).isNone = false) :: rds kT216 (.slice a.2.2.1 a.2.2.2.1 a.2.2.2.2) c6.Code :: pf ((a.2.2.1 : Option Addr).isNone = false) :: W1) ?_ ?_)
 refine c_block (c_seq ?_)
 obtain ⟨hg303, hr⟩ := gd hr
 refine c_region (lI R (t_some 8 sees_rd (show 0 < c6.Code.length by have := hg303; omega) (fun g304 o305 ha => ?_)))
 subst ha
 refine lO (vIa sl125 sz216 R R hg303) (l_v (.agg [(iv (ix c6.Code x301).Op), (iv (ix c6.Code x301).A), (iv (ix c6.Code x301).B)].toArray) ?_ R R ?_)
 exact (v_ldef (K := kT216) (cells := fun x => [(iv x.Op), (iv x.A), (iv x.B)]) 8 x301 ag216 sz216 (DecK.flat dT216 fun _ _ => R) sees_rd R hg303.1 hg303.2)
 refine l_alloc R R zc216 (fun b306 => (lI R (l_stores 0 R R sz216 R R R R R R (lN (bxl b306 [(iv (ix c6.Code x301).Op), (iv (ix c6.Code x301).A), (iv (ix c6.Code x301).B)] 216 :: _ :: bxl b14 [(sc A7 c6.Loops D7), (sc A208 x207 D208), (iv c6.Store.Buffer), (iv c6.Store.Offset), (sc A9 c6.Store.Steps D9), (.bool c6.Sum), (sc A297 x296 D297)] 127 :: _ :: _ :: OO kT216 216 A297 D297 x296 :: pf ((A297 : Option Addr).isNone = nb298) :: _ :: ow kT3 3 (.slice A248 (List.replicate (c6.Code.length : Int).toNat (0 : Int)).length D248) x299 :: RR kT216 (ad g304 o305) D300 c6.Code :: W1) ?_))))
 refine l_nil (q_next (c_seq (c_seq ?_)))
 obtain ⟨hg307, hr⟩ := gd hr
 refine cQ [(3, (pt b12 0)), (4, (pt b13 0)), (6, (iv p1.Store.Buffer)), (8, (pt b14 0)), (9, (sc A16 (List.replicate (c6.Loads.length : Int).toNat (0 : Int)) D16)), (22, (iv (w64 ((p1.Code.length : Int) - (1 : Int))))), (23, (sc A248 (List.replicate (c6.Code.length : Int).toNat (0 : Int)) D248)), (24, (iv x301)), (25, (pt b306 0)), (159, (sc (ad g304 o305) c6.Code D300)), (160, (il c6.Code)), (161, (iv x301)), (179, (.bool (((ix c6.Code x301).Op == (1 : Int)) && ((ix c6.Loads (ix c6.Code x301).A).Buffer == p1.Store.Buffer))))] (bxl b13 [(.slice none 0 0), (.slice none 0 0), (iv 0), (iv 0), (.slice none 0 0), (.bool false), (.slice none 0 0)] 127 :: bxl b14 [(sc A7 c6.Loops D7), (sc A208 x207 D208), (iv c6.Store.Buffer), (iv c6.Store.Offset), (sc A9 c6.Store.Steps D9), (.bool c6.Sum), (sc A297 x296 D297)] 127 :: OO (kT124).share 124 A208 D208 x207 :: pf ((A208 : Option Addr).isNone = nb209) :: OO kT216 216 A297 D297 x296 :: pf ((A297 : Option Addr).isNone = nb298) :: ow kT3 3 (.slice A16 (List.replicate (c6.Loads.length : Int).toNat (0 : Int)).length D16) to104 :: ow kT3 3 (.slice A248 (List.replicate (c6.Code.length : Int).toNat (0 : Int)).length D248) x299 :: bxl b306 [(iv (ix c6.Code x301).Op), (iv (ix c6.Code x301).A), (iv (ix c6.Code x301).B)] 216 :: RR kT216 (ad g304 o305) D300 c6.Code :: pf (((ad g304 o305) : Option Addr).isNone = false) :: W1) ?_ ?_
 refine c_region (lO (vFa 0 fo216_0 R) (lO (vLd 0 ag3 R R R) (lO (vEq R R) (lB R ?_))))
 rcases bo ((ix c6.Code x301).Op == (1 : Int)) with hc310 | hc310
 refine lW (wnT hc310) (vFa 1 fo127_1 R) (lW (wnT hc310) (vLd 10 ag122 R R R) (lW (wnT hc310) (vFa 1 fo216_1 R) (lW (wnT hc310) (vLd 0 ag3 R R R) (t_some 17 sees_rd (show 0 < c6.Loads.length by have := (hg307 hc310); omega) (fun g308 o309 ha => ?_)))))
 subst ha
 refine lW (wnT hc310) (vIa sl122 sz124 R R (hg307 hc310)) (lW (wnT hc310) (vz (.pointer (some ⟨g308, o309 + (ix c6.Code x301).A.toNat * 3, none⟩)) (v_fa fo124_0 R R)) (lW (wnT hc310) (vz (iv (ix c6.Loads (ix c6.Code x301).A).Buffer) (v_lde (K := kT124) (fo := 0) (pr := fun x => (iv x.Buffer)) 17 (ix c6.Code x301).A ag3 (dT124.leaf fun _ _ => R) sees_rd R (hg307 hc310).1 (hg307 hc310).2)) (lW (wnT hc310) (vI R) (lW (wnT hc310) (vEq R R) (lO (pAT R hc310 R) (l_nil ?_))))))
 exact qJ (fun w s => ((s.pfi (φ := ((ad g304 o305) : Option Addr).isNone = false) R).f 11 [2, 8, 1, 1, 10, 1, 0, 1]))
 refine lf (wfF hc310) (lf (wfF hc310) (lf (wfF hc310) (lf (wfF hc310) (lf (wfF hc310) (lf (wfF hc310) (lf (wfF hc310) (lf (wfF hc310) (lf (wfF hc310) (lO (pAF ((ix c6.Loads (ix c6.Code x301).A).Buffer == p1.Store.Buffer) R hc310) (l_nil ?_))))))))))
 exact qJ (fun w s => ((s.pfi (φ := ((ad g304 o305) : Option Addr).isNone = false) R).f 11 [2, 8, 1, 1, 10, 1, 0, 1]))
 rintro σ1
 refine q_next ?_
 rcases bif_ hr with ⟨hb311, hr⟩ | ⟨hb311, hr⟩
 refine c_true R hb311 (c_seq ?_)
 obtain ⟨hg312, hr⟩ := gd hr
 refine c_region (lS R (lI R (lI R (t_some 7 sees_ow (show 0 < (List.replicate (c6.Code.length : Int).toNat (0 : Int)).length by have := hg312; omega) (fun g313 o314 ha => ?_)))))
 subst ha
 refine lO (vIa sl29 sz3 R R hg312) (lM (ow kT3 3 (.slice (ad g313 o314) (List.replicate (c6.Code.length : Int).toNat (0 : Int)).length D248) x299 :: bxl _ _ _ :: bxl _ _ _ :: ow _ _ _ _ :: pf _ :: ow _ _ _ _ :: pf _ :: ow _ _ _ _ :: bxl _ _ _ :: rds _ _ _ :: pf (((ad g304 o305) : Option Addr).isNone = false) :: W1) (fun w s => (s.f 11 [7, 1, 0, 7, 8, 3])) ?_)
 refine l_stx (K := kT3) (x' := (w64 ((p1.Code.length : Int) - (1 : Int)))) 0 x301 R R sz3 R R hg312.1 hg312.2 ?_ ?_
 exact fun I h s => (mO3).put I h () (w64 ((p1.Code.length : Int) - (1 : Int))) s
 refine lN (ow kT3 3 (.slice (ad g313 o314) (List.replicate (c6.Code.length : Int).toNat (0 : Int)).length D248) (x299.set x301.toNat (w64 ((p1.Code.length : Int) - (1 : Int)))) :: _ :: _ :: _ :: _ :: _ :: _ :: _ :: _ :: _ :: _ :: W1) ?_
 refine l_nil ?_
 obtain ⟨l315, hl316, hr⟩ := bd hr
 replace hl316 := Option.some.inj hl316
 refine qM (ow kT3 3 (.slice (ad g313 o314) (List.replicate (c6.Code.length : Int).toNat (0 : Int)).length D248) l315 :: _ :: _ :: _ :: _ :: _ :: _ :: _ :: _ :: _ :: _ :: W1) (fun w s => by rw [← hl316]; exact s) ?_
 refine q_next (c_exit (q_exit (q_block ?_)))
 exact qI ((x296, nb298, l315), ((A297, x296.length, D297), ((ad g304 o305), c6.Code.length, D300))) hr (fun w s => (((s.pfi (φ := ((ad g313 o314) : Option Addr).isNone = false) R).pfi (φ := ((ad g304 o305) : Option Addr).isNone = false) R).f 13 [3, 7, 2, 1, 1, 1, 11, 1, 0, 1]))
 refine c_false R hb311 (c_skip (q_next ?_))
 refine c_seq (c_cut (A := (Int × Int) × (Unit)) (fun a => impl_fused_J12 c6 x296 x299 x301 a.1.1 a.1.2 = some out5) (fun a => [(3, (pt b12 0)), (4, (pt b13 0)), (6, (iv p1.Store.Buffer)), (8, (pt b14 0)), (9, (sc A16 (List.replicate (c6.Loads.length : Int).toNat (0 : Int)) D16)), (22, (iv (w64 ((p1.Code.length : Int) - (1 : Int))))), (23, (sc A248 (List.replicate (c6.Code.length : Int).toNat (0 : Int)) D248)), (24, (iv x301)), (25, (pt b306 0)), (159, (sc (ad g304 o305) c6.Code D300)), (160, (il c6.Code)), (161, (iv x301))]) (fun a => bxl b13 [(.slice none 0 0), (.slice none 0 0), (iv 0), (iv 0), (.slice none 0 0), (.bool false), (.slice none 0 0)] 127 :: bxl b14 [(sc A7 c6.Loops D7), (sc A208 x207 D208), (iv c6.Store.Buffer), (iv c6.Store.Offset), (sc A9 c6.Store.Steps D9), (.bool c6.Sum), (sc A297 x296 D297)] 127 :: OO (kT124).share 124 A208 D208 x207 :: pf ((A208 : Option Addr).isNone = nb209) :: OO kT216 216 A297 D297 x296 :: pf ((A297 : Option Addr).isNone = nb298) :: ow kT3 3 (.slice A16 (List.replicate (c6.Loads.length : Int).toNat (0 : Int)).length D16) to104 :: ow kT3 3 (.slice A248 (List.replicate (c6.Code.length : Int).toNat (0 : Int)).length D248) x299 :: bxl b306 [(iv (ix c6.Code x301).Op), (iv a.1.1), (iv a.1.2)] 216 :: RR kT216 (ad g304 o305) D300 c6.Code :: pf (((ad g304 o305) : Option Addr).isNone = false) :: W1) ?_ ?_)
 refine c_block (c_seq (c_region (lO (vFa 0 fo216_0 R) (lO (vLd 8 ag3 R R R) (lO (vEq R R) (lB R (l_nil (q_next ?_))))))))
 rcases bif_ hr with ⟨hb317, hr⟩ | ⟨hb317, hr⟩
 refine c_true R hb317 ?_
 obtain ⟨hg318, hr⟩ := gd hr
 refine c_region (lS R (lO (vFa 1 fo216_1 R) (lO (vLd 8 ag3 R R R) (t_some 6 sees_ow (show 0 < (List.replicate (c6.Loads.length : Int).toNat (0 : Int)).length by have := hg318; omega) (fun g319 o320 ha => ?_)))))
 subst ha
 refine lO (vIa sl29 sz3 R R hg318) (lO (vLi 6 ag3 sees_ow R hg318) (lO (vFa 1 fo216_1 R) (l_store 8 R R sz3 R R R R R (lN (_ :: _ :: _ :: _ :: _ :: _ :: ow kT3 3 (.slice (ad g319 o320) (List.replicate (c6.Loads.length : Int).toNat (0 : Int)).length D16) to104 :: ow kT3 3 (.slice A248 (List.replicate (c6.Code.length : Int).toNat (0 : Int)).length D248) x299 :: bxl b306 [(iv (ix c6.Code x301).Op), (iv (ix to104 (ix c6.Code x301).A)), (iv (ix c6.Code x301).B)] 216 :: _ :: _ :: W1) ?_))))
 refine l_nil (q_blockn ?_)
 exact qI (((ix to104 (ix c6.Code x301).A), (ix c6.Code x301).B), ()) hr (fun w s => ((s.pfi (φ := ((ad g304 o305) : Option Addr).isNone = false) R).f 12 [1, 10, 0, 1]))
 refine c_false R hb317 (c_seq ?_)
 refine cQ [(3, (pt b12 0)), (4, (pt b13 0)), (6, (iv p1.Store.Buffer)), (8, (pt b14 0)), (9, (sc A16 (List.replicate (c6.Loads.length : Int).toNat (0 : Int)) D16)), (22, (iv (w64 ((p1.Code.length : Int) - (1 : Int))))), (23, (sc A248 (List.replicate (c6.Code.length : Int).toNat (0 : Int)) D248)), (24, (iv x301)), (25, (pt b306 0)), (159, (sc (ad g304 o305) c6.Code D300)), (160, (il c6.Code)), (161, (iv x301)), (194, (.bool ((((ix c6.Code x301).Op == (3 : Int)) || ((ix c6.Code x301).Op == (4 : Int))) || ((ix c6.Code x301).Op == (5 : Int)))))] (bxl b13 [(.slice none 0 0), (.slice none 0 0), (iv 0), (iv 0), (.slice none 0 0), (.bool false), (.slice none 0 0)] 127 :: bxl b14 [(sc A7 c6.Loops D7), (sc A208 x207 D208), (iv c6.Store.Buffer), (iv c6.Store.Offset), (sc A9 c6.Store.Steps D9), (.bool c6.Sum), (sc A297 x296 D297)] 127 :: OO (kT124).share 124 A208 D208 x207 :: pf ((A208 : Option Addr).isNone = nb209) :: OO kT216 216 A297 D297 x296 :: pf ((A297 : Option Addr).isNone = nb298) :: ow kT3 3 (.slice A16 (List.replicate (c6.Loads.length : Int).toNat (0 : Int)).length D16) to104 :: ow kT3 3 (.slice A248 (List.replicate (c6.Code.length : Int).toNat (0 : Int)).length D248) x299 :: bxl b306 [(iv (ix c6.Code x301).Op), (iv (ix c6.Code x301).A), (iv (ix c6.Code x301).B)] 216 :: RR kT216 (ad g304 o305) D300 c6.Code :: pf (((ad g304 o305) : Option Addr).isNone = false) :: W1) ?_ ?_
 refine c_region (lO (vFa 0 fo216_0 R) (lO (vLd 8 ag3 R R R) (lO (vEq R R) (lB R ?_))))
 rcases bo ((ix c6.Code x301).Op == (3 : Int)) with hc321 | hc321
 refine lf (wfT hc321) (lf (wfT hc321) (lf (wfT hc321) (lO (pOT ((ix c6.Code x301).Op == (4 : Int)) R hc321) (lB R (lf (wfT (oT hc321)) (lf (wfT (oT hc321)) (lf (wfT (oT hc321)) (lO (pOT ((ix c6.Code x301).Op == (5 : Int)) R (oT hc321)) (lB R (l_nil ?_))))))))))
 exact qJ (fun w s => ((s.pfi (φ := ((ad g304 o305) : Option Addr).isNone = false) R).f 12 [1, 10, 0, 1]))
 refine lW (wnF hc321) (vFa 0 fo216_0 R) (lW (wnF hc321) (vLd 8 ag3 R R R) (lW (wnF hc321) (vEq R R) (lO (pOF R hc321 R) (lB R ?_))))
 rcases bo (((ix c6.Code x301).Op == (3 : Int)) || ((ix c6.Code x301).Op == (4 : Int))) with hc322 | hc322
 refine lf (wfT hc322) (lf (wfT hc322) (lf (wfT hc322) (lO (pOT ((ix c6.Code x301).Op == (5 : Int)) R hc322) (lB R (l_nil ?_)))))
 exact qJ (fun w s => ((s.pfi (φ := ((ad g304 o305) : Option Addr).isNone = false) R).f 12 [1, 10, 0, 1]))
 refine lW (wnF hc322) (vFa 0 fo216_0 R) (lW (wnF hc322) (vLd 8 ag3 R R R) (lW (wnF hc322) (vEq R R) (lO (pOF R hc322 R) (lB R (l_nil ?_)))))
 exact qJ (fun w s => ((s.pfi (φ := ((ad g304 o305) : Option Addr).isNone = false) R).f 12 [1, 10, 0, 1]))
 rintro σ1
 refine q_next ?_
 rcases bif_ hr with ⟨hb323, hr⟩ | ⟨hb323, hr⟩
 refine c_true R hb323 ?_
 obtain ⟨hg324, hr⟩ := gd hr
 obtain ⟨hg327, hr⟩ := gd hr
 refine cQ [(3, (pt b12 0)), (4, (pt b13 0)), (6, (iv p1.Store.Buffer)), (8, (pt b14 0)), (9, (sc A16 (List.replicate (c6.Loads.length : Int).toNat (0 : Int)) D16)), (22, (iv (w64 ((p1.Code.length : Int) - (1 : Int))))), (23, (sc A248 (List.replicate (c6.Code.length : Int).toNat (0 : Int)) D248)), (24, (iv x301)), (25, (pt b306 0)), (159, (sc (ad g304 o305) c6.Code D300)), (160, (il c6.Code)), (161, (iv x301))] (bxl b13 [(.slice none 0 0), (.slice none 0 0), (iv 0), (iv 0), (.slice none 0 0), (.bool false), (.slice none 0 0)] 127 :: bxl b14 [(sc A7 c6.Loops D7), (sc A208 x207 D208), (iv c6.Store.Buffer), (iv c6.Store.Offset), (sc A9 c6.Store.Steps D9), (.bool c6.Sum), (sc A297 x296 D297)] 127 :: OO (kT124).share 124 A208 D208 x207 :: pf ((A208 : Option Addr).isNone = nb209) :: OO kT216 216 A297 D297 x296 :: pf ((A297 : Option Addr).isNone = nb298) :: ow kT3 3 (.slice A16 (List.replicate (c6.Loads.length : Int).toNat (0 : Int)).length D16) to104 :: ow kT3 3 (.slice A248 (List.replicate (c6.Code.length : Int).toNat (0 : Int)).length D248) x299 :: pf ((A248 : Option Addr).isNone = false) :: bxl b306 [(iv (ix c6.Code x301).Op), (iv (ix x299 (ix c6.Code x301).A)), (iv (ix x299 (ix c6.Code x301).B))] 216 :: RR kT216 (ad g304 o305) D300 c6.Code :: pf (((ad g304 o305) : Option Addr).isNone = false) :: W1) ?_ ?_
 refine c_some 7 sees_ow (show 0 < (List.replicate (c6.Code.length : Int).toNat (0 : Int)).length by have := hg324; omega) (fun g325 o326 ha => ?_)
 subst ha
 refine c_draw2 11 (bxl b13 [(.slice none 0 0), (.slice none 0 0), (iv 0), (iv 0), (.slice none 0 0), (.bool false), (.slice none 0 0)] 127 :: bxl b14 [(sc A7 c6.Loops D7), (sc A208 x207 D208), (iv c6.Store.Buffer), (iv c6.Store.Offset), (sc A9 c6.Store.Steps D9), (.bool c6.Sum), (sc A297 x296 D297)] 127 :: OO (kT124).share 124 A208 D208 x207 :: pf ((A208 : Option Addr).isNone = nb209) :: OO kT216 216 A297 D297 x296 :: pf ((A297 : Option Addr).isNone = nb298) :: ow kT3 3 (.slice A16 (List.replicate (c6.Loads.length : Int).toNat (0 : Int)).length D16) to104 :: ow kT3 3 (.slice (ad g325 o326) (List.replicate (c6.Code.length : Int).toNat (0 : Int)).length D248) x299 :: bxl b306 [(iv (ix c6.Code x301).Op), (iv (ix c6.Code x301).A), (iv (ix c6.Code x301).B)] 216 :: RR kT216 (ad g304 o305) D300 c6.Code :: pf (((ad g304 o305) : Option Addr).isNone = false) :: W1) mixo (by kernel_rfl) ?_
 intro hn
 refine d_v2 0 (sc (ad g325 o326) (List.replicate (c6.Code.length : Int).toNat (0 : Int)) D248) R (v_pv R) R R R (by kernel_rfl) hn (by kernel_rfl) sI (d_v2 1 (pt b306 1) R (vFa 1 fo216_1 R) R R R (by kernel_rfl) hn (by kernel_rfl) sI (d_v2 2 (iv (ix c6.Code x301).A) R (vLd 8 ag3 R R R) R R R (by kernel_rfl) hn (by kernel_rfl) sI (d_v2 3 (.pointer (some ⟨g325, o326 + (ix c6.Code x301).A.toNat * 1, none⟩)) R (vIa sl29 sz3 R R hg324) R R R (by kernel_rfl) hn (by kernel_rfl) sI (d_v2 4 (iv (ix x299 (ix c6.Code x301).A)) R (vLi 7 ag3 sees_ow R hg324) R R R (by kernel_rfl) hn (by kernel_rfl) sI (d_v2 6 (pt b306 2) R (vFa 2 fo216_2 R) R R R (by kernel_rfl) hn (by kernel_rfl) sI (d_v2 7 (iv (ix c6.Code x301).B) R (vLd 8 ag3 R R R) R R R (by kernel_rfl) hn (by kernel_rfl) sI (d_v2 10 (pt b306 1) R (vFa 1 fo216_1 R) R R R (by kernel_rfl) hn (by kernel_rfl) sI (d_all [5, 11] (by kernel_rfl) R ⟨?_, ?_, trivial⟩))))))))
 refine lS R (l_nil (q_draw sI (d_all [8, 11] (by kernel_rfl) R ⟨?_, ?_, trivial⟩)))
 refine lO (vIa sl29 sz3 R R hg327) (l_nil (q_draw sI (d_all [9, 11] (by kernel_rfl) R ⟨?_, ?_, trivial⟩)))
 refine lO (vLi 7 ag3 sees_ow R hg327) (l_nil (q_draw sI (d_one 11 (by kernel_rfl) R (l_store 8 R R sz3 R R R R R (lN (_ :: _ :: _ :: _ :: _ :: _ :: ow kT3 3 (.slice A16 (List.replicate (c6.Loads.length : Int).toNat (0 : Int)).length D16) to104 :: ow kT3 3 (.slice (ad g325 o326) (List.replicate (c6.Code.length : Int).toNat (0 : Int)).length D248) x299 :: bxl b306 [(iv (ix c6.Code x301).Op), (iv (ix x299 (ix c6.Code x301).A)), (iv (ix c6.Code x301).B)] 216 :: _ :: _ :: W1) ?_)))))
 refine l_nil (q_last R (d_one 12 (by kernel_rfl) R (lO (vFa 2 fo216_2 R) (l_nil (q_last R (d_one 13 (by kernel_rfl) R (l_store 8 R R sz3 R R R R R (lN (_ :: _ :: _ :: _ :: _ :: _ :: _ :: _ :: bxl b306 [(iv (ix c6.Code x301).Op), (iv (ix x299 (ix c6.Code x301).A)), (iv (ix x299 (ix c6.Code x301).B))] 216 :: _ :: _ :: W1) ?_))))))))
 refine l_nil (q_last R (d_done (by kernel_rfl) ?_))
 exact qJ (fun w s => (((s.pfi (φ := ((ad g325 o326) : Option Addr).isNone = false) R).pfi (φ := ((ad g304 o305) : Option Addr).isNone = false) R).f 13 [2, 8, 1, 1, 10, 2, 0, 1]))
 refine l_store 8 R R sz3 R R R R R (lN (_ :: _ :: _ :: _ :: _ :: _ :: _ :: _ :: bxl b306 [(iv (ix c6.Code x301).Op), (iv (ix x299 (ix c6.Code x301).A)), (iv (ix c6.Code x301).B)] 216 :: _ :: _ :: W1) ?_)
 refine l_nil (q_last R (d_one 9 (by kernel_rfl) R (lO (vLi 7 ag3 sees_ow R hg327) (l_nil (q_late (by kernel_rfl) (d_one 12 (by kernel_rfl) R (lO (vFa 2 fo216_2 R) (l_nil (q_last R (d_one 13 (by kernel_rfl) R (l_store 8 R R sz3 R R R R R (lN (_ :: _ :: _ :: _ :: _ :: _ :: _ :: _ :: bxl b306 [(iv (ix c6.Code x301).Op), (iv (ix x299 (ix c6.Code x301).A)), (iv (ix x299 (ix c6.Code x301).B))] 216 :: _ :: _ :: W1) ?_))))))))))))
 refine l_nil (q_last R (d_done (by kernel_rfl) ?_))
 exact qJ (fun w s => (((s.pfi (φ := ((ad g325 o326) : Option Addr).isNone = false) R).pfi (φ := ((ad g304 o305) : Option Addr).isNone = false) R).f 13 [2, 8, 1, 1, 10, 2, 0, 1]))
 refine l_store 8 R R sz3 R R R R R (lN (_ :: _ :: _ :: _ :: _ :: _ :: _ :: _ :: bxl b306 [(iv (ix c6.Code x301).Op), (iv (ix x299 (ix c6.Code x301).A)), (iv (ix c6.Code x301).B)] 216 :: _ :: _ :: W1) ?_)
 refine l_nil (q_last R (d_one 8 (by kernel_rfl) R (lO (vIa sl29 sz3 R R hg327) (l_nil (q_late (by kernel_rfl) (d_one 9 (by kernel_rfl) R (lO (vLi 7 ag3 sees_ow R hg327) (l_nil (q_late (by kernel_rfl) (d_one 12 (by kernel_rfl) R (lO (vFa 2 fo216_2 R) (l_nil (q_last R (d_one 13 (by kernel_rfl) R (l_store 8 R R sz3 R R R R R (lN (_ :: _ :: _ :: _ :: _ :: _ :: _ :: _ :: bxl b306 [(iv (ix c6.Code x301).Op), (iv (ix x299 (ix c6.Code x301).A)), (iv (ix x299 (ix c6.Code x301).B))] 216 :: _ :: _ :: W1) ?_))))))))))))))))
 refine l_nil (q_last R (d_done (by kernel_rfl) ?_))
 exact qJ (fun w s => (((s.pfi (φ := ((ad g325 o326) : Option Addr).isNone = false) R).pfi (φ := ((ad g304 o305) : Option Addr).isNone = false) R).f 13 [2, 8, 1, 1, 10, 2, 0, 1]))
 refine l_store 8 R R sz3 R R R R R (lN (_ :: _ :: _ :: _ :: _ :: _ :: _ :: _ :: bxl b306 [(iv (ix c6.Code x301).Op), (iv (ix x299 (ix c6.Code x301).A)), (iv (ix c6.Code x301).B)] 216 :: _ :: _ :: W1) ?_)
 refine l_nil (q_last R (d_one 5 (by kernel_rfl) R (lS R (l_nil (q_late (by kernel_rfl) (d_one 8 (by kernel_rfl) R (lO (vIa sl29 sz3 R R hg327) (l_nil (q_late (by kernel_rfl) (d_one 9 (by kernel_rfl) R (lO (vLi 7 ag3 sees_ow R hg327) (l_nil (q_late (by kernel_rfl) (d_one 12 (by kernel_rfl) R (lO (vFa 2 fo216_2 R) (l_nil (q_last R (d_one 13 (by kernel_rfl) R (l_store 8 R R sz3 R R R R R (lN (_ :: _ :: _ :: _ :: _ :: _ :: _ :: _ :: bxl b306 [(iv (ix c6.Code x301).Op), (iv (ix x299 (ix c6.Code x301).A)), (iv (ix x299 (ix c6.Code x301).B))] 216 :: _ :: _ :: W1) ?_))))))))))))))))))))
 refine l_nil (q_last R (d_done (by kernel_rfl) ?_))
 exact qJ (fun w s => (((s.pfi (φ := ((ad g325 o326) : Option Addr).isNone = false) R).pfi (φ := ((ad g304 o305) : Option Addr).isNone = false) R).f 13 [2, 8, 1, 1, 10, 2, 0, 1]))
 rintro σ1
 refine q_blockn ?_
 exact qI (((ix x299 (ix c6.Code x301).A), (ix x299 (ix c6.Code x301).B)), ()) hr (fun w s => ((s.pfi (φ := ((ad g304 o305) : Option Addr).isNone = false) R).f 13 [1, 8, 10, 2, 0, 1]))
 refine c_false R hb323 (c_seq (c_region (lO (vFa 0 fo216_0 R) (lO (vLd 8 ag3 R R R) (lO (vNe R R) (lB R (l_nil (q_next ?_))))))))
 rcases bif_ hr with ⟨hb328, hr⟩ | ⟨hb328, hr⟩
 refine c_true R hb328 ?_
 obtain ⟨hg329, hr⟩ := gd hr
 refine c_region (lS R (lO (vFa 1 fo216_1 R) (lO (vLd 8 ag3 R R R) (t_some 7 sees_ow (show 0 < (List.replicate (c6.Code.length : Int).toNat (0 : Int)).length by have := hg329; omega) (fun g330 o331 ha => ?_)))))
 subst ha
 refine lO (vIa sl29 sz3 R R hg329) (lO (vLi 7 ag3 sees_ow R hg329) (lO (vFa 1 fo216_1 R) (l_store 8 R R sz3 R R R R R (lN (_ :: _ :: _ :: _ :: _ :: _ :: _ :: ow kT3 3 (.slice (ad g330 o331) (List.replicate (c6.Code.length : Int).toNat (0 : Int)).length D248) x299 :: bxl b306 [(iv (ix c6.Code x301).Op), (iv (ix x299 (ix c6.Code x301).A)), (iv (ix c6.Code x301).B)] 216 :: _ :: _ :: W1) ?_))))
 refine l_nil (q_blockn ?_)
 exact qI (((ix x299 (ix c6.Code x301).A), (ix c6.Code x301).B), ()) hr (fun w s => ((s.pfi (φ := ((ad g304 o305) : Option Addr).isNone = false) R).f 12 [1, 10, 0, 1]))
 refine c_false R hb328 (c_skip (q_blockn ?_))
 exact qI (((ix c6.Code x301).A, (ix c6.Code x301).B), ()) hr (fun w s => ((s.pfi (φ := ((ad g304 o305) : Option Addr).isNone = false) R).f 12 [1, 10, 0, 1]))
 rintro ⟨⟨x332, x333⟩, _⟩ σ1 hr
 replace hr : impl_fused_J12 c6 x296 x299 x301 x332 x333 = some out5 := hr
 unfold impl_fused_J12 at hr
 refine c_seq ?_
 obtain ⟨hg334, hr⟩ := gd hr
 refine c_region (lS R (lI R (lO (vFa 6 fo127_4 R) (lO (vLd 1 ag125 R R R) (lO (v_len sl125 R) (t_some 7 sees_ow (show 0 < (List.replicate (c6.Code.length : Int).toNat (0 : Int)).length by have := hg334; omega) (fun g335 o336 ha => ?_)))))))
 subst ha
 refine lO (vIa sl29 sz3 R R hg334) (lM (ow kT3 3 (.slice (ad g335 o336) (List.replicate (c6.Code.length : Int).toNat (0 : Int)).length D248) x299 :: bxl _ _ _ :: bxl _ _ _ :: ow _ _ _ _ :: pf _ :: ow _ _ _ _ :: pf _ :: ow _ _ _ _ :: bxl b306 [(iv (ix c6.Code x301).Op), (iv x332), (iv x333)] 216 :: rds _ _ _ :: pf _ :: W1) (fun w s => (s.f 11 [7, 1, 0, 7, 8, 3])) ?_)
 refine l_stx (K := kT3) (x' := (x296.length : Int)) 0 x301 R R sz3 R R hg334.1 hg334.2 ?_ ?_
 exact fun I h s => (mO3).put I h () (x296.length : Int) s
 refine lN (ow kT3 3 (.slice (ad g335 o336) (List.replicate (c6.Code.length : Int).toNat (0 : Int)).length D248) (x299.set x301.toNat (x296.length : Int)) :: _ :: _ :: _ :: _ :: _ :: _ :: _ :: _ :: _ :: _ :: W1) ?_
 refine l_nil (q_next ?_)
 obtain ⟨hg338, hr⟩ := gd hr
 refine c_region (lO (vFa 6 fo127_4 R) (lO (vLd 2 ag125 R R R) (lO (vz (.agg [(iv (ix c6.Code x301).Op), (iv x332), (iv x333)].toArray) (v_loadw 8 ag216 sz216 R R R R)) (l_buildn (K := kT216) (xs := ([(⟨(ix c6.Code x301).Op, x332, x333⟩ : Calc)] : List Calc)) (vs := [(.agg [(iv (ix c6.Code x301).Op), (iv x332), (iv x333)].toArray)]) 0 R R sl125 sz216 zc216 R R R R R R ?_ R (fun A337 D337 => ?_)))))
 exact fun I h s => (mO216).list [(((), (), ()), (⟨(ix c6.Code x301).Op, x332, x333⟩ : Calc))] I h s
 refine lN (OO kT216 216 (ad A337 0) D337 ([(⟨(ix c6.Code x301).Op, x332, x333⟩ : Calc)] : List Calc) :: _ :: _ :: _ :: _ :: _ :: _ :: _ :: _ :: _ :: _ :: _ :: W1) ?_
 refine lM (ow _ _ _ _ :: ow _ _ _ _ :: ow _ _ _ _ :: bxl _ _ _ :: bxl _ _ _ :: ow _ _ _ _ :: pf _ :: pf _ :: ow _ _ _ _ :: bxl _ _ _ :: rds _ _ _ :: pf _ :: W1) (fun w s => (s.f 12 [6, 1, 0, 6, 7, 5])) ?_
 refine l_app (K := kT216) 5864062014805 R R sl125 sz216 by216 (Zr.zk zT216 zc216) R R R R R R src_ow hg338 (fun A339 D339 => (lN (OO kT216 216 A339 D339 (x296 ++ ([(⟨(ix c6.Code x301).Op, x332, x333⟩ : Calc)] : List Calc)) :: _ :: _ :: _ :: _ :: _ :: _ :: _ :: _ :: _ :: _ :: W1) ?_))
 refine t_some 0 sees_ow (by simp) (fun g340 o341 ha => ?_)
 subst ha
 refine lO (vFa 6 fo127_4 R) (l_store 3 R R sz125 R R R R R (lN (OO kT216 216 (ad g340 o341) D339 (x296 ++ ([(⟨(ix c6.Code x301).Op, x332, x333⟩ : Calc)] : List Calc)) :: _ :: _ :: bxl b14 [(sc A7 c6.Loops D7), (sc A208 x207 D208), (iv c6.Store.Buffer), (iv c6.Store.Offset), (sc A9 c6.Store.Steps D9), (.bool c6.Sum), (sc (ad g340 o341) (x296 ++ ([(⟨(ix c6.Code x301).Op, x332, x333⟩ : Calc)] : List Calc)) D339)] 127 :: _ :: _ :: _ :: _ :: _ :: _ :: _ :: W1) ?_))
 refine l_nil (q_blockn ?_)
 exact qI (((x296 ++ ([(⟨(ix c6.Code x301).Op, x332, x333⟩ : Calc)] : List Calc)), false, (x299.set x301.toNat (x296.length : Int))), (((ad g340 o341), (x296 ++ ([(⟨(ix c6.Code x301).Op, x332, x333⟩ : Calc)] : List Calc)).length, D339), ((ad g304 o305), c6.Code.length, D300))) hr (fun w s => ((((s.pfi (φ := ((ad g340 o341) : Option Addr).isNone = false) R).pfi (φ := ((ad g335 o336) : Option Addr).isNone = false) R).pfi (φ := ((ad g304 o305) : Option Addr).isNone = false) R).e 14 [5, 6, 7, 8, 3, 2, 10, 4, 1, 12, 0]))
 rintro ⟨⟨x342, nb344, x345⟩, ⟨⟨A343, N343, D343⟩, ⟨A346, N346, D346⟩⟩⟩ σ1 hr
 replace hr : impl_fused_J13 x301 x342 nb344 x345 = some out5 := hr
 unfold impl_fused_J13 at hr
 refine c_len 4 sees_ow (fun (hn : N343 = x342.length) => ?_)
 subst hn
 refine c_len 9 sees_rd (fun (hn : N346 = c6.Code.length) => ?_)
 subst hn
 refine c_region (lO (vAd R R) (lI R (l_nil ?_)))
 obtain rfl := so hr
 exact qA ((A343, x342.length, D343), (A346, c6.Code.length, D346)) (fun w s => (s.f 11 [0, 8, 9, 1]))
 refine c_false R hb302 (c_exit (q_exit ?_))
 obtain rfl := so hr
 obtain rfl := he5 _ R
 have hr := hk5
 refine q_exit (q_block ?_)
 exact qI ((x296, nb298), (A297, x296.length, D297)) hr (fun w s => (s.f 9 [0, 6]))
 rintro ⟨⟨x353, nb355⟩, ⟨A354, N354, D354⟩⟩ σ1 hr
 replace hr : impl_fused_J14 c6 x207 x353 nb355 = some r := hr
 unfold impl_fused_J14 at hr
 refine c_len 4 sees_ow (fun (hn : N354 = x353.length) => ?_)
 subst hn
 refine c_seq (cQ [(4, (pt b13 0)), (5, (.bool ((decide ((x207.length : Int) ≤ (30 : Int))) && (decide ((x353.length : Int) ≤ (60 : Int))))))] (bxl b13 [(sc A7 c6.Loops D7), (sc A208 x207 D208), (iv c6.Store.Buffer), (iv c6.Store.Offset), (sc A9 c6.Store.Steps D9), (.bool c6.Sum), (sc A354 x353 D354)] 127 :: OO (kT124).share 124 A208 D208 x207 :: pf ((A208 : Option Addr).isNone = nb209) :: OO kT216 216 A354 D354 x353 :: pf ((A354 : Option Addr).isNone = nb355) :: W1) ?_ ?_)
 rcases bo (decide ((x207.length : Int) ≤ (30 : Int))) with hc356 | hc356
 refine cdr 13 [0] mixo (fun ht hn => (dR 0 R (vz (.agg [(sc A7 c6.Loops D7), (sc A208 x207 D208), (iv c6.Store.Buffer), (iv c6.Store.Offset), (sc A9 c6.Store.Steps D9), (.bool c6.Sum), (sc A354 x353 D354)].toArray) (v_loadw 0 ag127 sz127 R R R R)) (hS := (sL [0])) (dR 1 R (vFa 1 fo127_1 R) (hS := (sL [0])) (dR 2 R (vLd 0 ag122 R R R) (hS := (sL [0])) (dR 3 R (v_len sl122 R) (hS := (sL [0])) (dR 4 R (vLe R R) (hS := (sL [0])) (dR 5 R (vB R) (hS := (sL [0])) (dW 6 R (wnT hc356) (vFa 6 fo127_4 R) (hS := (sL [0])) (dW 7 R (wnT hc356) (vLd 0 ag125 R R R) (hS := (sL [0])) (dW 8 R (wnT hc356) (v_len sl125 R) (hS := (sL [0])) (dW 9 R (wnT hc356) (vLe R R) (hS := (sL [0])) (dR 10 R (pAT R hc356 R) (hS := (sL [0])) (d_one 11 (by kernel_rfl) R (l_stores 0 R R sz127 R R R R R R ?_))))))))))))))
 refine lN (bxl b13 [(sc A7 c6.Loops D7), (sc A208 x207 D208), (iv c6.Store.Buffer), (iv c6.Store.Offset), (sc A9 c6.Store.Steps D9), (.bool c6.Sum), (sc A354 x353 D354)] 127 :: bxl b14 [(sc A7 c6.Loops D7), (sc A208 x207 D208), (iv c6.Store.Buffer), (iv c6.Store.Offset), (sc A9 c6.Store.Steps D9), (.bool c6.Sum), (sc A354 x353 D354)] 127 :: _ :: _ :: OO kT216 216 A354 D354 x353 :: pf ((A354 : Option Addr).isNone = nb355) :: W1) ?_
 refine l_nil (q_draw (sL [0]) (dR 12 R (vB R) (hS := (sL [0])) (d_done (by kernel_rfl) ?_)))
 exact qJ (fun w s => (s.f 6 [0, 1, 2, 4]))
 refine cdr 13 [0] mixo (fun ht hn => (dR 0 R (vz (.agg [(sc A7 c6.Loops D7), (sc A208 x207 D208), (iv c6.Store.Buffer), (iv c6.Store.Offset), (sc A9 c6.Store.Steps D9), (.bool c6.Sum), (sc A354 x353 D354)].toArray) (v_loadw 0 ag127 sz127 R R R R)) (hS := (sL [0])) (dR 1 R (vFa 1 fo127_1 R) (hS := (sL [0])) (dR 2 R (vLd 0 ag122 R R R) (hS := (sL [0])) (dR 3 R (v_len sl122 R) (hS := (sL [0])) (dR 4 R (vLe R R) (hS := (sL [0])) (dR 5 R (vB R) (hS := (sL [0])) (dF 6 R (wfF hc356) (hS := (sL [0])) (dF 7 R (wfF hc356) (hS := (sL [0])) (dF 8 R (wfF hc356) (hS := (sL [0])) (dF 9 R (wfF hc356) (hS := (sL [0])) (dR 10 R (pAF (decide ((x353.length : Int) ≤ (60 : Int))) R hc356) (hS := (sL [0])) (d_one 11 (by kernel_rfl) R (l_stores 0 R R sz127 R R R R R R (l_nil (q_draw (sL [0]) (dR 12 R (vB R) (hS := (sL [0])) (d_done (by kernel_rfl) ?_))))))))))))))))))
 exact qJ (fun w s => (s.f 6 [0, 1, 2, 4]))
 rintro σ1
 refine q_next (c_ret ?_)
 obtain rfl := so hr
 exact q_fin (vs := [(.agg [(sc A7 c6.Loops D7), (sc A208 x207 D208), (iv c6.Store.Buffer), (iv c6.Store.Offset), (sc A9 c6.Store.Steps D9), (.bool c6.Sum), (sc A354 x353 D354)].toArray), (.bool ((decide ((x207.length : Int) ≤ (30 : Int))) && (decide ((x353.length : Int) ≤ (60 : Int)))))]) (.inl R) ((A7, c6.Loops.length, D7), (A208, x207.length, D208), (A9, c6.Store.Steps.length, D9), (A354, x353.length, D354)) R ⟨⟨0, b13, _, _, R, R, .inl ⟨ag127, sz127, R⟩⟩, R, trivial⟩ R (fun w s => (s.e 15 [11, 1, 13, 3]))
theorem slices_Delete_impl_Kernel_impl_Kernel_ok {s1 : List Kernel} {i2 j3 : Int} {a_4 : Option Addr} {n_4 c_4 : Nat} {r : (List Kernel)} (hr : slices_Delete_impl_Kernel_impl_Kernel s1 i2 j3 = some r) :
    FnOk Try.prog 137 [(.slice a_4 n_4 c_4), (.int .i64 i2), (.int .i64 j3)] [ow (kT127).share 127 (.slice a_4 n_4 c_4) s1] (fun (h : (Option Addr × Nat × Nat)) => ((.slice h.1 h.2.1 h.2.2), [ow (kT127).share 127 (.slice h.1 h.2.1 h.2.2) r])) := by
  unfold slices_Delete_impl_Kernel_impl_Kernel at hr
  obtain ⟨⟨g0, g1, g2⟩, hr⟩ := gd hr
  replace hr := Option.some.inj hr
  refine fn_ok Try.func137 rfl 33 rfl rfl fun C V => ?_
  refine c_st (V' := ow (kT127).share 127 (.slice a_4 n_4 c_4) s1 :: V) (fun w s => s) ?_
  refine c_len 0 sees_sh (fun (hn : n_4 = s1.length) => ?_)
  refine c_ncap 0 sees_sh (fun (hc : n_4 ≤ c_4) => ?_)
  subst hn
  refine c_seq (c_region ?_)
  refine l_v (.slice none 0 0) (v_pv rfl) rfl rfl ?_
  refine l_nil (q_next ?_)
  refine c_seq (c_region ?_)
  refine l_v (.slice a_4 s1.length c_4) (v_pv rfl) rfl rfl ?_
  refine l_v (.int .i64 i2) (v_pv rfl) rfl rfl ?_
  refine l_v (.int .i64 j3) (v_pv rfl) rfl rfl ?_
  refine l_v (.slice a_4 s1.length c_4) (v_pv rfl) rfl rfl ?_
  refine l_v (.int .i64 (s1.length : Int)) (v_len sl56 rfl) rfl rfl ?_
  refine l_vo rfl rfl (v_cut3 (sz := 7) (l := i2) (h := j3) (m := (s1.length : Int)) sl56 sz127 rfl rfl rfl rfl g0 g1 g2 (by omega)) ?_
  refine l_nil (q_next ?_)
  refine c_seq (c_seq (c_region ?_))
  refine l_v (.int .i64 i2) (v_pv rfl) rfl rfl ?_
  refine l_v (.int .i64 j3) (v_pv rfl) rfl rfl ?_
  refine l_v (.bool (i2 == j3)) (v_pv rfl) rfl rfl ?_
  refine l_nil (q_next ?_)
  rcases Bool.eq_false_or_eq_true (i2 == j3) with hb | hb
  · refine c_true rfl hb ?_
    have e : i2 = j3 := by simpa using hb
    subst e
    rw [List.take_append_drop] at hr
    subst hr
    refine c_seq (c_region ?_)
    refine l_v (.slice a_4 s1.length c_4) (v_pv rfl) rfl rfl ?_
    refine l_v (.slice a_4 s1.length c_4) (v_pv rfl) rfl rfl ?_
    refine l_nil (q_next ?_)
    refine c_ret (q_ret ?_)
    exact q_fin (vs := [(.slice a_4 s1.length c_4)]) (.inl rfl) (a_4, s1.length, c_4) rfl ⟨rfl, trivial⟩ rfl (fun w s => s)
  · have hne : i2 ≠ j3 := by simpa using hb
    refine c_false rfl hb (c_skip (q_next ?_))
    obtain ⟨i, rfl⟩ := Int.eq_ofNat_of_zero_le g0
    obtain ⟨j, rfl⟩ := Int.eq_ofNat_of_zero_le (Int.le_trans g0 g1)
    have hij : i < j := by omega
    have hjn : j ≤ s1.length := by omega
    simp only [Int.toNat_natCast] at hr
    subst hr
    refine c_open (by omega) (fun g pre used spare fr ha q1 q2 q3 q4 q5 q6 => ?_)
    subst ha
    obtain ⟨u1, u2, u3, rfl, l1, l2, l3⟩ : ∃ u1 u2 u3 : List Value, used = u1 ++ (u2 ++ u3) ∧ u1.length = i * 7 ∧ u2.length = (j - i) * 7 ∧ u3.length = (s1.length - j) * 7 := by
      refine ⟨used.take (i * 7), (used.drop (i * 7)).take ((j - i) * 7), (used.drop (i * 7)).drop ((j - i) * 7), by rw [List.take_append_drop, List.take_append_drop], ?_, ?_, ?_⟩ <;>
        · have q5' : used.length = s1.length * 7 := q5
          simp only [List.length_take, List.length_drop]
          omega
    have hsp : spare.length = (c_4 - s1.length) * 7 := q3
    have hcl : (pre ++ (u1 ++ (u2 ++ u3)) ++ spare).length = pre.length + (i * 7 + ((j - i) * 7 + (s1.length - j) * 7)) + (c_4 - s1.length) * 7 := by simp only [List.length_append, l1, l2, l3, hsp]
    have hfr : fr = (0, 0) ∨ (pre ++ (u1 ++ (u2 ++ u3)) ++ spare).length ≤ fr.1 := by
      rcases q4 with q4 | q4
      · exact .inl q4
      · exact .inr (by simp only [List.length_append] at q4 ⊢; omega)
    refine c_seq (c_region ?_)
    refine l_v (.slice (some ⟨g, pre.length, none⟩) s1.length c_4) (v_pv rfl) rfl rfl ?_
    refine l_v (.int .i64 (s1.length : Int)) (v_len sl56 rfl) rfl rfl ?_
    refine l_v (.int .i64 (s1.length : Int)) (v_pv rfl) rfl rfl ?_
    refine l_nil (q_next ?_)
    refine c_seq (c_draw 6 (raw g 127 fr (pre ++ (u1 ++ (u2 ++ u3)) ++ spare) :: own' (kT127).share s1 (u1 ++ (u2 ++ u3)) :: V) mixo (by kernel_rfl) ?_)
    intro ht hn
    refine d_v 0 (.slice (some ⟨g, pre.length, none⟩) s1.length c_4) rfl (v_pv rfl) rfl rfl rfl ht hn (by kernel_rfl) (fun w s => s) ?_
    refine d_v 1 (.int .i64 (i : Int)) rfl (v_pv rfl) rfl rfl rfl ht hn (by kernel_rfl) (fun w s => s) ?_
    refine d_v 2 (.slice (cutA (some ⟨g, pre.length, none⟩) c_4 (0 : Int).toNat 7) ((i : Int).toNat - (0 : Int).toNat) (c_4 - (0 : Int).toNat)) rfl (v_cutp sl56 sz127 rfl rfl rfl (Int.le_refl 0) (by omega) (by omega)) rfl rfl rfl ht hn (by kernel_rfl) (fun w s => s) ?_
    refine d_v 3 (.slice (some ⟨g, pre.length, none⟩) s1.length c_4) rfl (v_pv rfl) rfl rfl rfl ht hn (by kernel_rfl) (fun w s => s) ?_
    refine d_v 4 (.int .i64 (j : Int)) rfl (v_pv rfl) rfl rfl rfl ht hn (by kernel_rfl) (fun w s => s) ?_
    refine d_v 5 (.slice (cutA (some ⟨g, pre.length, none⟩) c_4 (j : Int).toNat 7) ((s1.length : Int).toNat - (j : Int).toNat) (c_4 - (j : Int).toNat)) rfl (v_cutp sl56 sz127 rfl rfl rfl (by omega) (by omega) (by omega)) rfl rfl rfl ht hn (by kernel_rfl) (fun w s => s) ?_
    refine d_one 6 (by kernel_rfl) rfl ?_
    refine l_apr (g := g) (k0 := pre.length) (m1 := i) (c := c_4) (o2 := if c_4 = j then pre.length else pre.length + j * 7) (n2 := s1.length - j) (c2 := c_4 - j) (sz := 7) (news := u3) 0 rfl rfl sl56 sz127 rfl hfr ?_ ?_ l3 ?_ (by omega) (by rw [hcl, l3]; omega) (fun v hv => q6 v (by simp [hv])) ?_
    · show Value.slice (cutA (some ⟨g, pre.length, none⟩) c_4 (0 : Int).toNat 7) ((i : Int).toNat - (0 : Int).toNat) (c_4 - (0 : Int).toNat) = _
      simp only [cutA_some, Int.toNat_natCast, Int.toNat_zero, Nat.zero_mul, Nat.add_zero, ite_self, Nat.sub_zero]
    · show Value.slice (cutA (some ⟨g, pre.length, none⟩) c_4 (j : Int).toNat 7) ((s1.length : Int).toNat - (j : Int).toNat) (c_4 - (j : Int).toNat) = _
      simp only [cutA_some, Int.toNat_natCast]
    · intro q v hq
      have hlt := (List.getElem?_eq_some_iff.1 hq).1
      rw [if_neg (by rw [l3] at hlt; intro e; subst e; have : s1.length - c_4 = 0 := by omega
                     rw [this] at hlt; omega)]
      rw [show pre ++ (u1 ++ (u2 ++ u3)) ++ spare = (pre ++ u1 ++ u2) ++ (u3 ++ spare) by simp [List.append_assoc], List.getElem?_append_right (by simp only [List.length_append]; omega),
        show pre.length + j * 7 + q - (pre ++ u1 ++ u2).length = q by simp only [List.length_append]; omega, List.getElem?_append_left hlt]
      exact hq
    have hE : (pre ++ (u1 ++ (u2 ++ u3)) ++ spare).take (pre.length + i * 7) ++ u3 ++ (pre ++ (u1 ++ (u2 ++ u3)) ++ spare).drop (pre.length + i * 7 + u3.length) = pre ++ (u1 ++ u3) ++ (u2 ++ (u3 ++ spare)).drop u3.length := by
      rw [show pre ++ (u1 ++ (u2 ++ u3)) ++ spare = (pre ++ u1) ++ (u2 ++ (u3 ++ spare)) by simp [List.append_assoc], show pre.length + i * 7 = (pre ++ u1).length by simp [l1], List.take_left, List.drop_append]
      simp [List.append_assoc]
    refine l_nil (q_last rfl ?_)
    refine k_st (V' := raw g 127 fr (pre ++ (u1 ++ u3) ++ (u2 ++ (u3 ++ spare)).drop u3.length) :: own' (kT127).share s1 (u1 ++ (u2 ++ u3)) :: V) (fun w s => by rw [← hE]; exact s) ?_
    refine d_one 7 (by kernel_rfl) rfl ?_
    refine l_v (.slice (some ⟨g, pre.length, none⟩) (i + (s1.length - j)) c_4) (v_pv rfl) rfl rfl ?_
    refine l_nil (q_last rfl ?_)
    refine d_done (by kernel_rfl) ?_
    refine q_next ?_
    generalize hR : (u2 ++ (u3 ++ spare)).drop u3.length = R
    have hRl : R.length = (c_4 - (i + (s1.length - j))) * 7 := by rw [← hR]; simp only [List.length_drop, List.length_append, l2, l3, hsp]; omega
    refine c_seq (c_region ?_)
    refine l_v (.slice (some ⟨g, pre.length, none⟩) (i + (s1.length - j)) c_4) (v_pv rfl) rfl rfl ?_
    refine l_v (.slice (some ⟨g, pre.length, none⟩) (i + (s1.length - j)) c_4) (v_pv rfl) rfl rfl ?_
    refine l_v (.int .i64 ((i + (s1.length - j) : Nat) : Int)) (v_len sl56 rfl) rfl rfl ?_
    refine l_v (.int .i64 (s1.length : Int)) (v_pv rfl) rfl rfl ?_
    refine l_vo rfl rfl (v_cutp (sz := 7) (l := ((i + (s1.length - j) : Nat) : Int)) (h := (s1.length : Int)) sl56 sz127 rfl rfl rfl (by omega) (by omega) (by omega)) ?_
    refine l_clr (K := (kT127).share) (g := g) (o2 := pre.length + (i + (s1.length - j)) * 7) (n2 := s1.length - (i + (s1.length - j))) (c2 := c_4 - (i + (s1.length - j))) 0 rfl rfl sl56 (Zr.zk (Zr.share zT127) zc127) (by decide) rfl ?_ ?_ ?_ ?_
    · rcases hfr with hfr | hfr
      · exact .inl hfr
      · refine .inr ?_
        rw [hcl] at hfr
        simp only [List.length_append, l1, l3, hRl]
        omega
    · show Value.slice (cutA (some ⟨g, pre.length, none⟩) c_4 ((i + (s1.length - j) : Nat) : Int).toNat 7) ((s1.length : Int).toNat - ((i + (s1.length - j) : Nat) : Int).toNat) (c_4 - ((i + (s1.length - j) : Nat) : Int).toNat) = _
      simp only [cutA_some, Int.toNat_natCast]
      rw [if_neg (by omega)]
    · show pre.length + (i + (s1.length - j)) * 7 + (s1.length - (i + (s1.length - j))) * 7 ≤ _
      simp only [List.length_append, l1, l3, hRl]
      omega
    intro zs hz
    replace hz : zs.length = (s1.length - (i + (s1.length - j))) * 7 := hz
    have hE2 : (pre ++ (u1 ++ u3) ++ R).take (pre.length + (i + (s1.length - j)) * 7) ++ zs ++ (pre ++ (u1 ++ u3) ++ R).drop (pre.length + (i + (s1.length - j)) * 7 + zs.length) = pre ++ (u1 ++ u3) ++ (zs ++ R.drop zs.length) := by
      rw [show pre.length + (i + (s1.length - j)) * 7 = (pre ++ (u1 ++ u3)).length by simp only [List.length_append, l1, l3]; omega, List.take_left, List.drop_append]
      simp [List.append_assoc]
    refine l_nil (q_next ?_)
    refine c_st (V' := ow (kT127).share 127 (.slice (some ⟨g, pre.length, none⟩) (s1.take i ++ s1.drop j).length c_4) (s1.take i ++ s1.drop j) :: V) (fun w s => ?_) ?_
    · replace s : St C w (raw g 127 fr (pre ++ (u1 ++ u3) ++ (zs ++ R.drop zs.length)) :: own' (kT127).share (s1.take i ++ ((s1.drop i).take (j - i) ++ s1.drop j)) (u1 ++ (u2 ++ u3)) :: V) := by
        rw [← hE2]
        have : s1.take i ++ ((s1.drop i).take (j - i) ++ s1.drop j) = s1 := by
          rw [show s1.drop j = (s1.drop i).drop (j - i) by rw [List.drop_drop]; congr 1; omega, List.take_append_drop, List.take_append_drop]
        rw [this]
        exact s
      have hlen : (s1.take i ++ s1.drop j).length = i + (s1.length - j) := by simp only [List.length_append, List.length_take, List.length_drop]; omega
      refine s.closed ?_ ?_ (by rw [hlen]; omega) q2 ?_ ?_
      · show u1.length = (s1.take i).length * 7
        rw [l1, List.length_take, Nat.min_eq_left (by omega)]
      · show u2.length = ((s1.drop i).take (j - i)).length * 7
        rw [l2, List.length_take, List.length_drop, Nat.min_eq_left (by omega)]
      · show (zs ++ R.drop zs.length).length = (c_4 - (s1.take i ++ s1.drop j).length) * 7
        rw [hlen, ← hRl, List.length_append, List.length_drop]
        have : zs.length ≤ R.length := by rw [hz, hRl]; omega
        omega
      · rcases hfr with hfr | hfr
        · exact .inl hfr
        · refine .inr ?_
          rw [hcl] at hfr
          have : zs.length ≤ R.length := by rw [hz, hRl]; omega
          simp only [List.length_append, List.length_drop, l1, l3]
          rw [hRl] at this ⊢
          omega
    have hlen : i + (s1.length - j) = (s1.take i ++ s1.drop j).length := by simp only [List.length_append, List.length_take, List.length_drop]; omega
    rw [hlen]
    refine c_seq (c_region ?_)
    refine l_v (.slice (some ⟨g, pre.length, none⟩) (s1.take i ++ s1.drop j).length c_4) (v_pv rfl) rfl rfl ?_
    refine l_v (.slice (some ⟨g, pre.length, none⟩) (s1.take i ++ s1.drop j).length c_4) (v_pv rfl) rfl rfl ?_
    refine l_nil (q_next ?_)
    refine c_ret ?_
    exact q_fin (vs := [(.slice (some ⟨g, pre.length, none⟩) (s1.take i ++ s1.drop j).length c_4)]) (.inl rfl) (some ⟨g, pre.length, none⟩, (s1.take i ++ s1.drop j).length, c_4) rfl ⟨rfl, trivial⟩ rfl (fun w s => s)
end Go.Proofs.Ytbdchgofcejiiaa
