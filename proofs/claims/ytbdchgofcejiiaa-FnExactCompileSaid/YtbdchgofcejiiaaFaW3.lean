import Derived.Test.YtbdchgofcejiiaaFaW2
set_option linter.unusedVariables false
set_option maxRecDepth 20000
namespace Go.Proofs.Ytbdchgofcejiiaa
open Go Go.Pg
variable {A2 A3 A4 A5 A6 A7 A9 A10 A11 A12 : Option Addr} {D2 D3 D4 D5 D6 D7 D9 D10 D11 D12 N2 N3 N4 N5 N6 N7 N9 N10 N11 N12 : Nat}
theorem spec_PlanOk_ok {p1 : Plan} {r : Bool} (hr : spec_PlanOk p1 = some r) :
 FnOk Try.prog 83 [(.agg [(.slice A2 N2 D2), (.slice A3 N3 D3), (.slice A4 N4 D4), (.slice A5 N5 D5), (.slice A6 N6 D6), (.slice A7 N7 D7), (iv p1.Arena)].toArray)] [rds kT3 (.slice A2 N2 D2) p1.Nest.Sizes, rds kT3 (.slice A3 N3 D3) p1.Nest.Ins, rds kT159 (.slice A4 N4 D4) p1.Nest.Fixed, rds kT127 (.slice A5 N5 D5) p1.Nest.Kernels, rds kT3 (.slice A6 N6 D6) p1.Nest.Outs, rds kT3 (.slice A7 N7 D7) p1.Offsets] (fun (h : Unit) => ((.bool r), [])) := by
 unfold spec_PlanOk at hr
 refine fn_ok Try.func83 R 102 R R fun C V => ?_
 refine cN (_ :: _ :: _ :: _ :: _ :: _ :: V) ?_
 refine cL 0 sees_rd ?_
 rintro rfl
 refine cL 1 sees_rd ?_
 rintro rfl
 refine cL 2 sees_rd ?_
 rintro rfl
 refine cL 3 sees_rd ?_
 rintro rfl
 refine cL 4 sees_rd ?_
 rintro rfl
 refine cL 5 sees_rd ?_
 rintro rfl
 let W0 : List HP := RR kT3 A2 D2 p1.Nest.Sizes :: RR kT3 A3 D3 p1.Nest.Ins :: RR kT159 A4 D4 p1.Nest.Fixed :: RR kT127 A5 D5 p1.Nest.Kernels :: RR kT3 A6 D6 p1.Nest.Outs :: RR kT3 A7 D7 p1.Offsets :: V
 refine cN W0 ?_
 refine c_seq (c_region (lBx R (fun b8 => (lB R (l_nil ?_)))))
 let W1 : List HP := bxl b8 [(sc A2 p1.Nest.Sizes D2), (sc A3 p1.Nest.Ins D3), (sc A4 p1.Nest.Fixed D4), (sc A5 p1.Nest.Kernels D5), (sc A6 p1.Nest.Outs D6), (sc A7 p1.Offsets D7), (iv p1.Arena)] 71 :: W0
 refine qN W1 ?_
 refine q_next (c_seq (c_seq ?_))
 obtain ⟨r9, hx10, hr⟩ := bd hr
 refine cQ [(1, (pt b8 0)), (33, (.bool ((((!r9) || ((p1.Offsets.length : Int) != (p1.Nest.Sizes.length : Int))) || (decide (p1.Arena < (0 : Int)))) || (decide (p1.Arena > (1000000 : Int))))))] (W1) ?_ ?_
 refine c_region (lO (vFa 0 fo71_0 R) (lO (vz (.agg [(sc A2 p1.Nest.Sizes D2), (sc A3 p1.Nest.Ins D3), (sc A4 p1.Nest.Fixed D4), (sc A5 p1.Nest.Kernels D5), (sc A6 p1.Nest.Outs D6)].toArray) (v_loadw 0 ag58 sz58 R R R R)) (lM (RR kT3 A2 D2 p1.Nest.Sizes :: RR kT3 A3 D3 p1.Nest.Ins :: RR kT159 A4 D4 p1.Nest.Fixed :: RR kT127 A5 D5 p1.Nest.Kernels :: RR kT3 A6 D6 p1.Nest.Outs :: W1) (fun w s => ((((((s.d 1 R).d 3 R).d 5 R).d 7 R).d 9 R).e 5 [4, 3, 2, 1, 0])) ?_)))
 refine lC 5 cb69 R (spec_NestOk_ok hx10) R ?_
 rintro _
 refine lN W1 ?_
 refine lO (vNo R) (lB R ?_)
 rcases bo (!r9) with hc11 | hc11
 refine lf (wfT hc11) (lf (wfT hc11) (lf (wfT hc11) (lf (wfT hc11) (lf (wfT hc11) (lf (wfT hc11) (lf (wfT hc11) (lf (wfT hc11) (lO (pOT ((p1.Offsets.length : Int) != (p1.Nest.Sizes.length : Int)) R hc11) (lB R (lf (wfT (oT hc11)) (lf (wfT (oT hc11)) (lf (wfT (oT hc11)) (lO (pOT (decide (p1.Arena < (0 : Int))) R (oT hc11)) (lB R (lf (wfT (oT (oT hc11))) (lf (wfT (oT (oT hc11))) (lf (wfT (oT (oT hc11))) (lO (pOT (decide (p1.Arena > (1000000 : Int))) R (oT (oT hc11))) (l_nil ?_)))))))))))))))))))
 exact qJ (fun w s => s)
 refine lW (wnF hc11) (vFa 5 fo71_1 R) (lW (wnF hc11) (vLd 0 ag29 R R R) (lW (wnF hc11) (v_len sl29 R) (lW (wnF hc11) (vFa 0 fo71_0 R) (lW (wnF hc11) (vFa 0 fo58_0 R) (lW (wnF hc11) (vLd 0 ag29 R R R) (lW (wnF hc11) (v_len sl29 R) (lW (wnF hc11) (vNe R R) (lO (pOF R hc11 R) (lB R ?_)))))))))
 rcases bo ((!r9) || ((p1.Offsets.length : Int) != (p1.Nest.Sizes.length : Int))) with hc12 | hc12
 refine lf (wfT hc12) (lf (wfT hc12) (lf (wfT hc12) (lO (pOT (decide (p1.Arena < (0 : Int))) R hc12) (lB R (lf (wfT (oT hc12)) (lf (wfT (oT hc12)) (lf (wfT (oT hc12)) (lO (pOT (decide (p1.Arena > (1000000 : Int))) R (oT hc12)) (l_nil ?_)))))))))
 exact qJ (fun w s => s)
 refine lW (wnF hc12) (vFa 6 fo71_2 R) (lW (wnF hc12) (vLd 0 ag3 R R R) (lW (wnF hc12) (vLt R R) (lO (pOF R hc12 R) (lB R ?_))))
 rcases bo (((!r9) || ((p1.Offsets.length : Int) != (p1.Nest.Sizes.length : Int))) || (decide (p1.Arena < (0 : Int)))) with hc13 | hc13
 refine lf (wfT hc13) (lf (wfT hc13) (lf (wfT hc13) (lO (pOT (decide (p1.Arena > (1000000 : Int))) R hc13) (l_nil ?_))))
 exact qJ (fun w s => s)
 refine lW (wnF hc13) (vFa 6 fo71_2 R) (lW (wnF hc13) (vLd 0 ag3 R R R) (lW (wnF hc13) (vGt R R) (lO (pOF R hc13 R) (l_nil ?_))))
 exact qJ (fun w s => s)
 rintro σ1
 refine q_next ?_
 rcases bif_ hr with ⟨hb14, hr⟩ | ⟨hb14, hr⟩
 refine c_true R hb14 (c_seq (c_region (lB R (l_nil (q_next (c_ret (q_ret ?_)))))))
 obtain rfl := so hr
 exact qF () (fun w s => (s.e 7 []))
 refine c_false R hb14 (c_skip (q_next (c_seq ?_)))
 obtain ⟨r15, hx16, hr⟩ := bd hr
 refine c_region (lO (vFa 0 fo71_0 R) (lO (vz (.agg [(sc A2 p1.Nest.Sizes D2), (sc A3 p1.Nest.Ins D3), (sc A4 p1.Nest.Fixed D4), (sc A5 p1.Nest.Kernels D5), (sc A6 p1.Nest.Outs D6)].toArray) (v_loadw 0 ag58 sz58 R R R R)) (lM (RR kT3 A2 D2 p1.Nest.Sizes :: RR kT3 A3 D3 p1.Nest.Ins :: RR kT159 A4 D4 p1.Nest.Fixed :: RR kT127 A5 D5 p1.Nest.Kernels :: RR kT3 A6 D6 p1.Nest.Outs :: W1) (fun w s => ((((((s.d 1 R).d 3 R).d 5 R).d 7 R).d 9 R).e 5 [4, 3, 2, 1, 0])) ?_)))
 refine lC 5 cb144 R (spec_Lives_ok hx16) R ?_
 rintro ⟨A17, N17, D17⟩
 refine lN (ow kT114 114 (.slice A17 N17 D17) r15 :: W1) ?_
 refine l_len 0 sees_ow ?_
 rintro rfl
 refine lS R (l_nil (q_next (c_seq (c_region (l_build (K := kT3) (xs := ([] : List Int)) (vs := []) 0 R R sl29 sz3 zc3 R R R R R R ?_ R (fun A18 D18 => ?_))))))
 exact fun I h s => (mO3).list [] I h s
 refine lN (OO kT3 3 A18 D18 ([] : List Int) :: _ :: W1) ?_
 refine lS R (l_nil (q_next (c_seq (c_cut (A := ((List Int)) × (HH × HH)) (fun a => spec_PlanOk_J1 p1 r15 a.1 = some r) (fun a => [(1, (pt b8 0)), (3, (.slice a.2.1.1 a.2.1.2.1 a.2.1.2.2)), (4, (.slice a.2.2.1 a.2.2.2.1 a.2.2.2.2))]) (fun a => ow kT114 114 (.slice a.2.1.1 a.2.1.2.1 a.2.1.2.2) r15 :: ow kT3 3 (.slice a.2.2.1 a.2.2.2.1 a.2.2.2.2) a.1 :: W1) ?_ ?_))))
 refine c_seq (c_region (lI R (l_nil (q_next (c_block ?_)))))
 obtain ⟨e1, hl1, hk1⟩ := bd hr
 refine c_loop (A := HH × HH) hl1 (fun s a => [(1, (pt b8 0)), (3, (.slice a.1.1 a.1.2.1 a.1.2.2)), (4, (.slice a.2.1 a.2.2.1 a.2.2.2)), (5, (iv s.2))]) (fun s a => ow kT114 114 (.slice a.1.1 a.1.2.1 a.1.2.2) r15 :: ow kT3 3 (.slice a.2.1 a.2.2.1 a.2.2.2) s.1 :: W1) ((A17, r15.length, D17), (A18, ([] : List Int).length, D18)) (aS R) (fun w s => (s.e 2 [1, 0])) ?_
 rintro ⟨offsets33, i35⟩ ⟨⟨A32, N32, D32⟩, ⟨A34, N34, D34⟩⟩ σ1 out1 hr he1
 replace hr : spec_PlanOk_L1 p1 r15 offsets33 i35 = some out1 := hr
 unfold spec_PlanOk_L1 at hr
 refine c_len 0 sees_ow (fun (hn : N32 = r15.length) => ?_)
 subst hn
 refine c_len 1 sees_ow (fun (hn : N34 = offsets33.length) => ?_)
 subst hn
 refine c_seq (c_seq (c_region (lI R (lS R (lO (v_len sl183 R) (lO (vLt R R) (l_nil (q_next ?_))))))))
 rcases bif_ hr with ⟨hb36, hr⟩ | ⟨hb36, hr⟩
 refine c_true R hb36 (c_skip (q_next (c_seq (c_block (c_seq ?_)))))
 obtain ⟨hg37, hr⟩ := gd hr
 obtain ⟨hg40, hr⟩ := gd hr
 refine c_some 0 sees_ow (show 0 < r15.length by have := hg37; omega) (fun g38 o39 ha => ?_)
 subst ha
 refine c_some 8 sees_rd (show 0 < p1.Offsets.length by have := hg40; omega) (fun g41 o42 ha => ?_)
 subst ha
 refine cdr 10 [] mixo (fun ht hn => (dR 0 R (vFa 5 fo71_1 R) (dR 1 R (vLd 2 ag29 R R R) (dR 2 R (vS R) (dR 3 R (vI R) (dR 4 R (vIa sl183 sz114 R R hg37) (dR 5 R (vz (.pointer (some ⟨g38, o39 + i35.toNat * 4, none⟩)) (v_fa fo114_0 R R)) (dR 6 R (vz (iv (ix r15 i35).Buffer) (v_lde (K := kT114) (fo := 0) (pr := fun x => (iv x.Buffer)) 0 i35 ag3 (dT114.leaf fun _ _ => R) sees_ow R hg37.1 hg37.2)) (dR 7 R (vIa sl29 sz3 R R hg40) (dR 8 R (vLi 8 ag3 sees_rd R hg40) (dR 9 R (vI R) (d_done (by kernel_rfl) (q_next (c_seq (c_seq (cQ [(1, (pt b8 0)), (3, (sc (ad g38 o39) r15 D32)), (4, (sc A34 offsets33 D34)), (5, (iv i35)), (6, (iv (ix p1.Offsets (ix r15 i35).Buffer))), (70, (.bool (((decide ((ix p1.Offsets (ix r15 i35).Buffer) < (0 : Int))) || (decide ((ix p1.Offsets (ix r15 i35).Buffer) > (1000000 : Int)))) || (decide ((w64 ((ix p1.Offsets (ix r15 i35).Buffer) + (ix r15 i35).Size)) > p1.Arena)))))] (OO kT114 114 (ad g38 o39) D32 r15 :: OO kT3 3 A34 D34 offsets33 :: W1) ?_ ?_))))))))))))))))
 rcases bo (decide ((ix p1.Offsets (ix r15 i35).Buffer) < (0 : Int))) with hc43 | hc43
 refine cdr 18 [] mixo (fun ht hn => (dR 0 R (vI R) (dR 1 R (vLt R R) (dR 2 R (vB R) (dF 3 R (wfT hc43) (dF 4 R (wfT hc43) (dR 5 R (pOT (decide ((ix p1.Offsets (ix r15 i35).Buffer) > (1000000 : Int))) R hc43) (dR 6 R (vB R) (dF 7 R (wfT (oT hc43)) (dF 8 R (wfT (oT hc43)) (dF 9 R (wfT (oT hc43)) (dF 10 R (wfT (oT hc43)) (dF 11 R (wfT (oT hc43)) (dF 12 R (wfT (oT hc43)) (dF 13 R (wfT (oT hc43)) (dF 14 R (wfT (oT hc43)) (dF 15 R (wfT (oT hc43)) (dF 16 R (wfT (oT hc43)) (dR 17 R (pOT (decide ((w64 ((ix p1.Offsets (ix r15 i35).Buffer) + (ix r15 i35).Size)) > p1.Arena)) R (oT hc43)) (d_done (by kernel_rfl) ?_))))))))))))))))))))
 exact qJ (fun w s => s)
 rcases bo ((decide ((ix p1.Offsets (ix r15 i35).Buffer) < (0 : Int))) || (decide ((ix p1.Offsets (ix r15 i35).Buffer) > (1000000 : Int)))) with hc44 | hc44
 refine cdr 18 [] mixo (fun ht hn => (dR 0 R (vI R) (dR 1 R (vLt R R) (dR 2 R (vB R) (dW 3 R (wnF hc43) (vI R) (dW 4 R (wnF hc43) (vGt R R) (dR 5 R (pOF R hc43 R) (dR 6 R (vB R) (dF 7 R (wfT hc44) (dF 8 R (wfT hc44) (dF 9 R (wfT hc44) (dF 10 R (wfT hc44) (dF 11 R (wfT hc44) (dF 12 R (wfT hc44) (dF 13 R (wfT hc44) (dF 14 R (wfT hc44) (dF 15 R (wfT hc44) (dF 16 R (wfT hc44) (dR 17 R (pOT (decide ((w64 ((ix p1.Offsets (ix r15 i35).Buffer) + (ix r15 i35).Size)) > p1.Arena)) R hc44) (d_done (by kernel_rfl) ?_))))))))))))))))))))
 exact qJ (fun w s => s)
 refine cdr 18 [] mixo (fun ht hn => (dR 0 R (vI R) (dR 1 R (vLt R R) (dR 2 R (vB R) (dW 3 R (wnF hc43) (vI R) (dW 4 R (wnF hc43) (vGt R R) (dR 5 R (pOF R hc43 R) (dR 6 R (vB R) (dW 7 R (wnF hc44) (vI R) (dW 8 R (wnF hc44) (vS R) (dW 9 R (wnF hc44) (vI R) (dW 10 R (wnF hc44) (vIa sl183 sz114 R R hg37) (dW 11 R (wnF hc44) (vz (.pointer (some ⟨g38, o39 + i35.toNat * 4 + 1, none⟩)) (v_fa fo114_1 R R)) (dW 12 R (wnF hc44) (vz (iv (ix r15 i35).Size) (v_lde (K := kT114) (fo := 1) (pr := fun x => (iv x.Size)) 0 i35 ag3 (dT114.leaf fun _ _ => R) sees_ow R hg37.1 hg37.2)) (dW 13 R (wnF hc44) (vAd R R) (dW 14 R (wnF hc44) (vFa 6 fo71_2 R) (dW 15 R (wnF hc44) (vLd 2 ag3 R R R) (dW 16 R (wnF hc44) (vGt R R) (dR 17 R (pOF R hc44 R) (d_done (by kernel_rfl) ?_))))))))))))))))))))
 exact qJ (fun w s => s)
 rintro σ1
 refine q_next ?_
 rcases bif_ hr with ⟨hb45, hr⟩ | ⟨hb45, hr⟩
 refine c_true R hb45 (c_seq (c_region (lB R (l_nil (q_next (c_ret (q_ret (q_blockr (q_ret ?_)))))))))
 obtain rfl := so hr
 obtain rfl := he1 _ R
 have hr := hk1
 refine q_ret (q_blockr (q_ret ?_))
 obtain rfl := so hr
 exact qF () (fun w s => (s.e 9 []))
 refine c_false R hb45 (c_skip (q_next ?_))
 obtain ⟨hg47, hr⟩ := gd hr
 refine c_region (lS R (lI R (l_build (K := kT3) (xs := ([(ix p1.Offsets (ix r15 i35).Buffer)] : List Int)) (vs := [(iv (ix p1.Offsets (ix r15 i35).Buffer))]) 0 R R sl29 sz3 zc3 R R R R R R ?_ R (fun A46 D46 => ?_))))
 exact fun I h s => (mO3).list [((), (ix p1.Offsets (ix r15 i35).Buffer))] I h s
 refine lN (OO kT3 3 A46 D46 ([(ix p1.Offsets (ix r15 i35).Buffer)] : List Int) :: OO kT114 114 (ad g38 o39) D32 r15 :: OO kT3 3 A34 D34 offsets33 :: W1) ?_
 refine lM (ow _ _ _ _ :: ow _ _ _ _ :: ow _ _ _ _ :: W1) (fun w s => (s.e 3 [2, 0, 1])) ?_
 refine l_app (K := kT3) 17592186044416 R R sl29 sz3 by3 (Zr.zk zT3 zc3) R R R R R R src_ow hg47 (fun A48 D48 => (lN (OO kT3 3 A48 D48 (offsets33 ++ ([(ix p1.Offsets (ix r15 i35).Buffer)] : List Int)) :: _ :: W1) ?_))
 refine lS R (l_nil (q_blockn (q_next (c_region (lI R (lO (vAd R R) (lI R (l_nil ?_))))))))
 obtain rfl := so hr
 exact qA (((ad g38 o39), r15.length, D32), (A48, (offsets33 ++ ([(ix p1.Offsets (ix r15 i35).Buffer)] : List Int)).length, D48)) (fun w s => (s.e 2 [1, 0]))
 refine c_false R hb36 (c_exit (q_exit ?_))
 obtain rfl := so hr
 obtain rfl := he1 _ R
 have hr := hk1
 refine q_exit (q_block ?_)
 exact qI (offsets33, ((A32, r15.length, D32), (A34, offsets33.length, D34))) hr (fun w s => s)
 rintro ⟨offsets54, ⟨⟨A53, N53, D53⟩, ⟨A55, N55, D55⟩⟩⟩ σ1 hr
 replace hr : spec_PlanOk_J1 p1 r15 offsets54 = some r := hr
 unfold spec_PlanOk_J1 at hr
 refine c_len 0 sees_ow (fun (hn : N53 = r15.length) => ?_)
 subst hn
 refine c_len 1 sees_ow (fun (hn : N55 = offsets54.length) => ?_)
 subst hn
 refine c_seq (c_cut (A := (Unit) × (Unit)) (fun a => spec_PlanOk_J2 r15 offsets54 = some r) (fun a => [(3, (sc A53 r15 D53)), (4, (sc A55 offsets54 D55))]) (fun a => OO kT114 114 A53 D53 r15 :: OO kT3 3 A55 D55 offsets54 :: W1) ?_ ?_)
 refine c_seq (c_region (lI R (l_nil (q_next (c_block ?_)))))
 obtain ⟨e2, hl2, hk2⟩ := bd hr
 refine c_loop (A := Unit) hl2 (fun s a => [(1, (pt b8 0)), (3, (sc A53 r15 D53)), (4, (sc A55 offsets54 D55)), (7, (iv s))]) (fun s a => OO kT114 114 A53 D53 r15 :: OO kT3 3 A55 D55 offsets54 :: W1) () (aS R) (fun w s => s) ?_
 rintro b65 _ σ1 out2 hr he2
 replace hr : spec_PlanOk_L2 p1 b65 = some out2 := hr
 unfold spec_PlanOk_L2 at hr
 refine c_seq (c_seq (c_region (lI R (lO (vFa 5 fo71_1 R) (lO (vLd 2 ag29 R R R) (lO (v_len sl29 R) (lO (vLt R R) (l_nil (q_next ?_)))))))))
 rcases bif_ hr with ⟨hb66, hr⟩ | ⟨hb66, hr⟩
 refine c_true R hb66 (c_skip (q_next (c_seq (c_block (c_seq ?_)))))
 obtain ⟨r67, hx68, hr⟩ := bd hr
 refine c_region (lO (vFa 0 fo71_0 R) (lO (vz (.agg [(sc A2 p1.Nest.Sizes D2), (sc A3 p1.Nest.Ins D3), (sc A4 p1.Nest.Fixed D4), (sc A5 p1.Nest.Kernels D5), (sc A6 p1.Nest.Outs D6)].toArray) (v_loadw 2 ag58 sz58 R R R R)) (lI R (lM (RR kT3 A2 D2 p1.Nest.Sizes :: RR kT3 A3 D3 p1.Nest.Ins :: RR kT159 A4 D4 p1.Nest.Fixed :: RR kT127 A5 D5 p1.Nest.Kernels :: RR kT3 A6 D6 p1.Nest.Outs :: OO kT114 114 A53 D53 r15 :: OO kT3 3 A55 D55 offsets54 :: W1) (fun w s => ((((((s.d 3 R).d 5 R).d 7 R).d 9 R).d 11 R).e 7 [4, 3, 2, 1, 0, 5, 6])) ?_))))
 refine lC 5 cb84 R (spec_l12Life_ok hx68) R ?_
 rintro _
 refine lN (_ :: _ :: W1) ?_
 refine lO (vT R) (lO (vA R) (lB R (l_alloc R R zc114 (fun b69 => (l_stores 0 R R sz114 R R R R R R (lN (bxl b69 [(iv r67.1.Buffer), (iv r67.1.Size), (iv r67.1.From), (iv r67.1.To)] 114 :: _ :: _ :: W1) ?_))))))
 refine lB R (l_nil (q_next (c_seq ?_)))
 obtain ⟨hg70, hr⟩ := gd hr
 refine cQ [(1, (pt b8 0)), (3, (sc A53 r15 D53)), (4, (sc A55 offsets54 D55)), (7, (iv b65)), (98, (.bool ((!r67.2) && ((ix p1.Offsets b65) != (-1 : Int)))))] (OO kT114 114 A53 D53 r15 :: OO kT3 3 A55 D55 offsets54 :: W1) ?_ ?_
 refine c_region (lB R (lO (vNo R) (lB R ?_)))
 rcases bo (!r67.2) with hc73 | hc73
 refine lW (wnT hc73) (vFa 5 fo71_1 R) (lW (wnT hc73) (vLd 3 ag29 R R R) (lW (wnT hc73) (vI R) (t_some 9 sees_rd (show 0 < p1.Offsets.length by have := (hg70 hc73); omega) (fun g71 o72 ha => ?_))))
 subst ha
 refine lW (wnT hc73) (vIa sl29 sz3 R R (hg70 hc73)) (lW (wnT hc73) (vLi 9 ag3 sees_rd R (hg70 hc73)) (lW (wnT hc73) (vNe R R) (lO (pAT R hc73 R) (l_nil ?_))))
 exact qJ (fun w s => (s.e 3 [1, 2]))
 refine lf (wfF hc73) (lf (wfF hc73) (lf (wfF hc73) (lf (wfF hc73) (lf (wfF hc73) (lf (wfF hc73) (lO (pAF ((ix p1.Offsets b65) != (-1 : Int)) R hc73) (l_nil ?_)))))))
 exact qJ (fun w s => (s.e 3 [1, 2]))
 rintro σ1
 refine q_next ?_
 rcases bif_ hr with ⟨hb74, hr⟩ | ⟨hb74, hr⟩
 refine c_true R hb74 (c_seq (c_region (lB R (l_nil (q_next (c_ret (q_blockr (q_ret ?_))))))))
 obtain rfl := so hr
 obtain rfl := he2 _ R
 have hr := hk2
 refine q_ret (q_blockr (q_ret ?_))
 obtain rfl := so hr
 exact qF () (fun w s => (s.e 9 []))
 refine c_false R hb74 (c_skip (q_blockn (q_next (c_region (lI R (lO (vAd R R) (lI R (l_nil ?_))))))))
 obtain rfl := so hr
 exact qA () (fun w s => s)
 refine c_false R hb66 (c_exit (q_exit ?_))
 obtain rfl := so hr
 obtain rfl := he2 _ R
 have hr := hk2
 refine q_exit (q_block ?_)
 exact qI ((), ()) hr (fun w s => s)
 rintro ⟨_, _⟩ σ1 hr
 replace hr : spec_PlanOk_J2 r15 offsets54 = some r := hr
 unfold spec_PlanOk_J2 at hr
 refine c_seq ?_
 obtain ⟨r76, hx77, hr⟩ := bd hr
 refine c_region (lS R (lS R (lC 2 cb145 R (FnOk.lends (A' := [OO kT114 114 A53 D53 r15, OO kT3 3 A55 D55 offsets54]) (A := [RR kT114 A53 D53 r15, RR kT3 A55 D55 offsets54]) (B := []) (spec_PackOk_ok hx77) ⟨lend_ow, lend_ow, trivial⟩ (fun _ => trivial)) R ?_)))
 rintro _
 refine lN (_ :: _ :: W1) ?_
 refine lB R (l_nil (q_next (c_ret ?_)))
 obtain rfl := so hr
 exact qF () (fun w s => (s.e 9 []))
theorem spec_l13Wide_ok {n1 : Int} {r : Instr} (hr : spec_l13Wide n1 = some r) :
 FnOk Try.prog 147 [(iv n1)] [] (fun (h : Unit) => ((.agg [(iv r.Op), (iv r.A), (iv r.B), (iv r.C)].toArray), [])) := by
 unfold spec_l13Wide at hr
 refine fn_ok Try.func147 R 5 R R fun C V => ?_
 refine cN V ?_
 refine c_seq (c_region (l_alloc R R zc119 (fun b2 => (l_nil (q_next (c_seq (c_region (lI R (lO (vz (.agg [(iv 5), (iv n1), (iv 0), (iv 0)].toArray) (v_build pl119 zc119 R R)) (l_stores 0 R R sz119 R R R R R R (lN (bxl b2 [(iv 5), (iv n1), (iv 0), (iv 0)] 119 :: V) ?_)))))))))))
 refine l_nil (q_next (c_ret ?_))
 obtain rfl := so hr
 exact q_fin (vs := [(.agg [(iv 5), (iv n1), (iv 0), (iv 0)].toArray)]) (.inl R) () R ⟨⟨0, b2, _, _, R, R, .inl ⟨ag119, sz119, R⟩⟩, trivial⟩ R (fun w s => (s.e 1 []))
theorem spec_l13Rep_ok {n1 : Int} {r : Instr} (hr : spec_l13Rep n1 = some r) :
 FnOk Try.prog 148 [(iv n1)] [] (fun (h : Unit) => ((.agg [(iv r.Op), (iv r.A), (iv r.B), (iv r.C)].toArray), [])) := by
 unfold spec_l13Rep at hr
 refine fn_ok Try.func148 R 5 R R fun C V => ?_
 refine cN V ?_
 refine c_seq (c_region (l_alloc R R zc119 (fun b2 => (l_nil (q_next (c_seq (c_region (lI R (lO (vz (.agg [(iv 1), (iv n1), (iv 0), (iv 0)].toArray) (v_build pl119 zc119 R R)) (l_stores 0 R R sz119 R R R R R R (lN (bxl b2 [(iv 1), (iv n1), (iv 0), (iv 0)] 119 :: V) ?_)))))))))))
 refine l_nil (q_next (c_ret ?_))
 obtain rfl := so hr
 exact q_fin (vs := [(.agg [(iv 1), (iv n1), (iv 0), (iv 0)].toArray)]) (.inl R) () R ⟨⟨0, b2, _, _, R, R, .inl ⟨ag119, sz119, R⟩⟩, trivial⟩ R (fun w s => (s.e 1 []))
theorem spec_l13Move_ok {a1 : Int} {p2 : Int} {r : (List Instr)} (hr : spec_l13Move a1 p2 = some r) :
 FnOk Try.prog 199 [(iv a1), (iv p2)] [] (fun (h : HH) => ((.slice h.1 h.2.1 h.2.2), [ow kT119 119 (.slice h.1 h.2.1 h.2.2) r])) := by
 unfold spec_l13Move at hr
 refine fn_ok Try.func199 R 12 R R fun C V => ?_
 refine cN V ?_
 refine c_seq (c_region (lS R (l_nil (q_next (c_seq (c_seq (c_region (lI R (lO (vEq R R) (l_nil (q_next ?_)))))))))))
 rcases bif_ hr with ⟨hb3, hr⟩ | ⟨hb3, hr⟩
 refine c_true R hb3 (c_seq (c_region (l_build (K := kT119) (xs := ([] : List Instr)) (vs := []) 0 R R sl67 sz119 zc119 R R R R R R ?_ R (fun A4 D4 => ?_))))
 exact fun I h s => (mO119).list [] I h s
 refine lN (OO kT119 119 A4 D4 ([] : List Instr) :: V) ?_
 refine lS R (l_nil (q_next (c_ret (q_ret ?_))))
 obtain rfl := so hr
 exact qF (A4, ([] : List Instr).length, D4) (fun w s => s)
 refine c_false R hb3 (c_skip (q_next (c_seq (c_region (lI R (lI R (lO (vz (.agg [(iv 4), (iv a1), (iv p2), (iv 0)].toArray) (v_build pl119 zc119 R R)) (l_build (K := kT119) (xs := ([(⟨(4 : Int), a1, p2, (0 : Int)⟩ : Instr)] : List Instr)) (vs := [(.agg [(iv 4), (iv a1), (iv p2), (iv 0)].toArray)]) 0 R R sl67 sz119 zc119 R R R R R R ?_ R (fun A5 D5 => ?_)))))))))
 exact fun I h s => (mO119).list [(((), (), (), ()), (⟨(4 : Int), a1, p2, (0 : Int)⟩ : Instr))] I h s
 refine lN (OO kT119 119 A5 D5 ([(⟨(4 : Int), a1, p2, (0 : Int)⟩ : Instr)] : List Instr) :: V) ?_
 refine lS R (l_nil (q_next (c_ret ?_)))
 obtain rfl := so hr
 exact qF (A5, ([(⟨(4 : Int), a1, p2, (0 : Int)⟩ : Instr)] : List Instr).length, D5) (fun w s => s)
theorem spec_l13Moves_ok {steps1 : (List Int)} {p3 : Int} {r : (List Instr)} (hr : spec_l13Moves steps1 p3 = some r) :
 FnOk Try.prog 149 [(.slice A2 N2 D2), (iv p3)] [rds kT3 (.slice A2 N2 D2) steps1] (fun (h : HH) => ((.slice h.1 h.2.1 h.2.2), [ow kT119 119 (.slice h.1 h.2.1 h.2.2) r])) := by
 unfold spec_l13Moves at hr
 refine fn_ok Try.func149 R 25 R R fun C V => ?_
 refine cN (_ :: V) ?_
 refine cL 0 sees_rd ?_
 rintro rfl
 let W0 : List HP := RR kT3 A2 D2 steps1 :: V
 refine cN W0 ?_
 refine c_seq (c_region (lS R (l_nil (q_next (c_seq (c_region (l_build (K := kT119) (xs := ([] : List Instr)) (vs := []) 0 R R sl67 sz119 zc119 R R R R R R ?_ R (fun A4 D4 => ?_))))))))
 exact fun I h s => (mO119).list [] I h s
 refine lN (OO kT119 119 A4 D4 ([] : List Instr) :: W0) ?_
 refine lS R (l_nil (q_next (c_seq (c_cut (A := ((List Instr)) × (HH)) (fun a => spec_l13Moves_J1 a.1 = some r) (fun a => [(5, (.slice a.2.1 a.2.2.1 a.2.2.2))]) (fun a => ow kT119 119 (.slice a.2.1 a.2.2.1 a.2.2.2) a.1 :: W0) ?_ ?_))))
 refine c_seq (c_region (lI R (l_nil (q_next (c_block ?_)))))
 obtain ⟨e1, hl1, hk1⟩ := bd hr
 refine c_loop (A := HH) hl1 (fun s a => [(0, (sc A2 steps1 D2)), (1, (iv p3)), (5, (.slice a.1 a.2.1 a.2.2)), (6, (iv s.2))]) (fun s a => ow kT119 119 (.slice a.1 a.2.1 a.2.2) s.1 :: W0) (A4, ([] : List Instr).length, D4) (aS R) (fun w s => s) ?_
 rintro ⟨x14, a16⟩ ⟨A15, N15, D15⟩ σ1 out1 hr he1
 replace hr : spec_l13Moves_L1 steps1 p3 x14 a16 = some out1 := hr
 unfold spec_l13Moves_L1 at hr
 refine c_len 0 sees_ow (fun (hn : N15 = x14.length) => ?_)
 subst hn
 refine c_seq (c_seq (c_region (lI R (lS R (lO (v_len sl29 R) (lO (vLt R R) (l_nil (q_next ?_))))))))
 rcases bif_ hr with ⟨hb17, hr⟩ | ⟨hb17, hr⟩
 refine c_true R hb17 (c_skip (q_next (c_seq (c_block ?_))))
 obtain ⟨hg18, hr⟩ := gd hr
 obtain ⟨r21, hx22, hr⟩ := bd hr
 obtain ⟨hg24, hr⟩ := gd hr
 refine c_region (lS R (lI R (lS R (lI R (t_some 1 sees_rd (show 0 < steps1.length by have := hg18; omega) (fun g19 o20 ha => ?_))))))
 subst ha
 refine lO (vIa sl29 sz3 R R hg18) (lO (vLi 1 ag3 sees_rd R hg18) (lI R (lO (vMu R R) (lC 0 cb199 R (spec_l13Move_ok hx22) R ?_))))
 rintro ⟨A23, N23, D23⟩
 refine lN (ow kT119 119 (.slice A23 N23 D23) r21 :: OO kT119 119 A15 D15 x14 :: W0) ?_
 refine l_len 0 sees_ow ?_
 rintro rfl
 refine lM (ow _ _ _ _ :: ow _ _ _ _ :: W0) (fun w s => (s.e 2 [1, 0])) ?_
 refine l_app (K := kT119) 4398046511104 R R sl67 sz119 by119 (Zr.zk zT119 zc119) R R R R R R src_ow hg24 (fun A25 D25 => (lN (OO kT119 119 A25 D25 (x14 ++ r21) :: W0) ?_))
 refine lS R (l_nil (q_blockn (q_next (c_region (lI R (lO (vAd R R) (lI R (l_nil ?_))))))))
 obtain rfl := so hr
 exact qA (A25, (x14 ++ r21).length, D25) (fun w s => s)
 refine c_false R hb17 (c_exit (q_exit ?_))
 obtain rfl := so hr
 obtain rfl := he1 _ R
 have hr := hk1
 refine q_exit (q_block ?_)
 exact qI (x14, (A15, x14.length, D15)) hr (fun w s => s)
 rintro ⟨x29, ⟨A30, N30, D30⟩⟩ σ1 hr
 replace hr : spec_l13Moves_J1 x29 = some r := hr
 unfold spec_l13Moves_J1 at hr
 refine c_len 0 sees_ow (fun (hn : N30 = x29.length) => ?_)
 subst hn
 refine c_seq (c_region (lS R (lS R (l_nil (q_next (c_ret ?_))))))
 obtain rfl := so hr
 exact qF (A30, x29.length, D30) (fun w s => (s.e 2 [0]))
theorem spec_l13Chunks_ok {n1 : Int} {body2 : (List Instr)} {steps4 : (List Int)} {r : (List Instr)} (hr : spec_l13Chunks n1 body2 steps4 = some r) :
 FnOk Try.prog 86 [(iv n1), (.slice A3 N3 D3), (.slice A5 N5 D5)] [rds kT119 (.slice A3 N3 D3) body2, rds kT3 (.slice A5 N5 D5) steps4] (fun (h : HH) => ((.slice h.1 h.2.1 h.2.2), [ow kT119 119 (.slice h.1 h.2.1 h.2.2) r])) := by
 unfold spec_l13Chunks at hr
 refine fn_ok Try.func86 R 51 R R fun C V => ?_
 refine cN (_ :: _ :: V) ?_
 refine cL 0 sees_rd ?_
 rintro rfl
 refine cL 1 sees_rd ?_
 rintro rfl
 let W0 : List HP := RR kT119 A3 D3 body2 :: RR kT3 A5 D5 steps4 :: V
 refine cN W0 ?_
 refine c_seq (c_region (lS R (l_nil (q_next (c_seq (c_region (l_build (K := kT119) (xs := ([] : List Instr)) (vs := []) 0 R R sl67 sz119 zc119 R R R R R R ?_ R (fun A6 D6 => ?_))))))))
 exact fun I h s => (mO119).list [] I h s
 refine lN (OO kT119 119 A6 D6 ([] : List Instr) :: W0) ?_
 refine lS R (l_nil (q_next (c_seq (c_region (lI R (lO (vz (iv (w64 (n1.tdiv (8 : Int)))) (v_quo R R (by decide))) (lI R (l_nil (q_next (c_seq (c_cut (A := ((List Instr)) × (HH)) (fun a => spec_l13Chunks_J2 n1 body2 a.1 = some r) (fun a => [(0, (iv n1)), (1, (sc A3 body2 D3)), (7, (.slice a.2.1 a.2.2.1 a.2.2.2))]) (fun a => ow kT119 119 (.slice a.2.1 a.2.2.1 a.2.2.2) a.1 :: W0) ?_ ?_)))))))))))
 refine c_seq (c_region (lI R (lO (vGt R R) (l_nil (q_next ?_)))))
 rcases bif_ hr with ⟨hb7, hr⟩ | ⟨hb7, hr⟩
 refine c_true R hb7 (c_seq ?_)
 obtain ⟨r8, hx9, hr⟩ := bd hr
 obtain ⟨hg11, hr⟩ := gd hr
 refine c_region (lS R (lC 0 cb147 R (spec_l13Wide_ok hx9) R ?_))
 rintro _
 refine l_build (K := kT119) (xs := ([r8] : List Instr)) (vs := [(.agg [(iv r8.Op), (iv r8.A), (iv r8.B), (iv r8.C)].toArray)]) 0 R R sl67 sz119 zc119 R R R R R R ?_ R (fun A10 D10 => ?_)
 exact fun I h s => (mO119).list [(((), (), (), ()), r8)] I h s
 refine lN (OO kT119 119 A10 D10 ([r8] : List Instr) :: _ :: W0) ?_
 refine lM (ow _ _ _ _ :: ow _ _ _ _ :: W0) (fun w s => (s.e 2 [1, 0])) ?_
 refine l_app (K := kT119) 4398046511104 R R sl67 sz119 by119 (Zr.zk zT119 zc119) R R R R R R src_ow hg11 (fun A12 D12 => (lN (OO kT119 119 A12 D12 (([] : List Instr) ++ ([r8] : List Instr)) :: W0) ?_))
 refine lS R (l_nil (q_next (c_seq (c_cut (A := ((List Instr)) × (HH)) (fun a => spec_l13Chunks_J1 n1 body2 steps4 a.1 = some r) (fun a => [(0, (iv n1)), (1, (sc A3 body2 D3)), (2, (sc A5 steps4 D5)), (7, (.slice a.2.1 a.2.2.1 a.2.2.2)), (8, (iv (w64 (n1.tdiv (8 : Int)))))]) (fun a => ow kT119 119 (.slice a.2.1 a.2.2.1 a.2.2.2) a.1 :: W0) ?_ ?_))))
 refine c_seq (c_region (lI R (lO (vGt R R) (l_nil (q_next ?_)))))
 rcases bif_ hr with ⟨hb13, hr⟩ | ⟨hb13, hr⟩
 refine c_true R hb13 ?_
 obtain ⟨r14, hx15, hr⟩ := bd hr
 obtain ⟨hg17, hr⟩ := gd hr
 refine c_region (lS R (lI R (lC 0 cb148 R (spec_l13Rep_ok hx15) R ?_)))
 rintro _
 refine l_build (K := kT119) (xs := ([r14] : List Instr)) (vs := [(.agg [(iv r14.Op), (iv r14.A), (iv r14.B), (iv r14.C)].toArray)]) 0 R R sl67 sz119 zc119 R R R R R R ?_ R (fun A16 D16 => ?_)
 exact fun I h s => (mO119).list [(((), (), (), ()), r14)] I h s
 refine lN (OO kT119 119 A16 D16 ([r14] : List Instr) :: _ :: W0) ?_
 refine lM (ow _ _ _ _ :: ow _ _ _ _ :: W0) (fun w s => (s.e 2 [1, 0])) ?_
 refine l_app (K := kT119) 4398046511104 R R sl67 sz119 by119 (Zr.zk zT119 zc119) R R R R R R src_ow hg17 (fun A18 D18 => (lN (OO kT119 119 A18 D18 ((([] : List Instr) ++ ([r8] : List Instr)) ++ ([r14] : List Instr)) :: W0) ?_))
 refine lS R (l_nil ?_)
 exact qI (((([] : List Instr) ++ ([r8] : List Instr)) ++ ([r14] : List Instr)), (A18, ((([] : List Instr) ++ ([r8] : List Instr)) ++ ([r14] : List Instr)).length, D18)) hr (fun w s => s)
 refine c_false R hb13 (c_skip ?_)
 exact qI ((([] : List Instr) ++ ([r8] : List Instr)), (A12, (([] : List Instr) ++ ([r8] : List Instr)).length, D12)) hr (fun w s => s)
 rintro ⟨x19, ⟨A20, N20, D20⟩⟩ σ1 hr
 replace hr : spec_l13Chunks_J1 n1 body2 steps4 x19 = some r := hr
 unfold spec_l13Chunks_J1 at hr
 refine c_len 0 sees_ow (fun (hn : N20 = x19.length) => ?_)
 subst hn
 refine c_seq ?_
 obtain ⟨hg21, hr⟩ := gd hr
 refine c_region (lS R (lS R (lM (OO kT119 119 A20 D20 x19 :: RR kT119 A3 D3 body2 :: W0) (fun w s => ((s.dup 1 R).mv 1)) ?_)))
 refine l_app (K := kT119) 4398046511104 R R sl67 sz119 by119 (Zr.zk zT119 zc119) R R R R R R (src_rd (Kind.iso_flat (Kind.pair_flat (Kind.scal_flat _ _) (Kind.pair_flat (Kind.scal_flat _ _) (Kind.pair_flat (Kind.scal_flat _ _) (Kind.scal_flat _ _)))) _)) hg21 (fun A22 D22 => (lN (OO kT119 119 A22 D22 (x19 ++ body2) :: W0) ?_))
 refine lS R (l_nil (q_next (c_seq ?_)))
 obtain ⟨r23, hx24, hr⟩ := bd hr
 obtain ⟨hg26, hr⟩ := gd hr
 refine c_region (lS R (lS R (lM (RR kT3 A5 D5 steps4 :: _ :: W0) (fun w s => (s.d 2 R)) ?_)))
 refine lC 1 cb149 R (spec_l13Moves_ok hx24) R ?_
 rintro ⟨A25, N25, D25⟩
 refine lN (ow kT119 119 (.slice A25 N25 D25) r23 :: _ :: W0) ?_
 refine l_len 0 sees_ow ?_
 rintro rfl
 refine lM (ow _ _ _ _ :: ow _ _ _ _ :: W0) (fun w s => (s.e 2 [1, 0])) ?_
 refine l_app (K := kT119) 4398046511104 R R sl67 sz119 by119 (Zr.zk zT119 zc119) R R R R R R src_ow hg26 (fun A27 D27 => (lN (OO kT119 119 A27 D27 ((x19 ++ body2) ++ r23) :: W0) ?_))
 refine lS R (l_nil (q_next (c_seq (c_region (lI R (lO (vGt R R) (l_nil (q_next ?_))))))))
 rcases bif_ hr with ⟨hb28, hr⟩ | ⟨hb28, hr⟩
 refine c_true R hb28 ?_
 obtain ⟨hg30, hr⟩ := gd hr
 refine c_region (lS R (lO (vz (.agg [(iv 2), (iv 0), (iv 0), (iv 0)].toArray) (v_build pl119 zc119 R R)) (l_build (K := kT119) (xs := ([(⟨(2 : Int), (0 : Int), (0 : Int), (0 : Int)⟩ : Instr)] : List Instr)) (vs := [(.agg [(iv 2), (iv 0), (iv 0), (iv 0)].toArray)]) 0 R R sl67 sz119 zc119 R R R R R R ?_ R (fun A29 D29 => ?_))))
 exact fun I h s => (mO119).list [(((), (), (), ()), (⟨(2 : Int), (0 : Int), (0 : Int), (0 : Int)⟩ : Instr))] I h s
 refine lN (OO kT119 119 A29 D29 ([(⟨(2 : Int), (0 : Int), (0 : Int), (0 : Int)⟩ : Instr)] : List Instr) :: _ :: W0) ?_
 refine lM (ow _ _ _ _ :: ow _ _ _ _ :: W0) (fun w s => (s.e 2 [1, 0])) ?_
 refine l_app (K := kT119) 4398046511104 R R sl67 sz119 by119 (Zr.zk zT119 zc119) R R R R R R src_ow hg30 (fun A31 D31 => (lN (OO kT119 119 A31 D31 (((x19 ++ body2) ++ r23) ++ ([(⟨(2 : Int), (0 : Int), (0 : Int), (0 : Int)⟩ : Instr)] : List Instr)) :: W0) ?_))
 refine lS R (l_nil ?_)
 exact qI ((((x19 ++ body2) ++ r23) ++ ([(⟨(2 : Int), (0 : Int), (0 : Int), (0 : Int)⟩ : Instr)] : List Instr)), (A31, (((x19 ++ body2) ++ r23) ++ ([(⟨(2 : Int), (0 : Int), (0 : Int), (0 : Int)⟩ : Instr)] : List Instr)).length, D31)) hr (fun w s => s)
 refine c_false R hb28 (c_skip ?_)
 exact qI (((x19 ++ body2) ++ r23), (A27, ((x19 ++ body2) ++ r23).length, D27)) hr (fun w s => s)
 refine c_false R hb7 (c_skip ?_)
 exact qI (([] : List Instr), (A6, ([] : List Instr).length, D6)) hr (fun w s => s)
 rintro ⟨x32, ⟨A33, N33, D33⟩⟩ σ1 hr
 replace hr : spec_l13Chunks_J2 n1 body2 x32 = some r := hr
 unfold spec_l13Chunks_J2 at hr
 refine c_len 0 sees_ow (fun (hn : N33 = x32.length) => ?_)
 subst hn
 refine c_seq (c_cut (A := ((List Instr)) × (HH)) (fun a => spec_l13Chunks_J3 a.1 = some r) (fun a => [(7, (.slice a.2.1 a.2.2.1 a.2.2.2))]) (fun a => ow kT119 119 (.slice a.2.1 a.2.2.1 a.2.2.2) a.1 :: W0) ?_ ?_)
 refine c_seq (c_region (lI R (lO (v_rem R R (by decide)) (lO (vGt R R) (l_nil (q_next ?_))))))
 rcases bif_ hr with ⟨hb34, hr⟩ | ⟨hb34, hr⟩
 refine c_true R hb34 (c_seq ?_)
 obtain ⟨r35, hx36, hr⟩ := bd hr
 obtain ⟨hg38, hr⟩ := gd hr
 refine c_region (lS R (lI R (lO (v_rem R R (by decide)) (lC 0 cb147 R (spec_l13Wide_ok hx36) R ?_))))
 rintro _
 refine lN (OO kT119 119 A33 D33 x32 :: W0) ?_
 refine l_build (K := kT119) (xs := ([r35] : List Instr)) (vs := [(.agg [(iv r35.Op), (iv r35.A), (iv r35.B), (iv r35.C)].toArray)]) 0 R R sl67 sz119 zc119 R R R R R R ?_ R (fun A37 D37 => ?_)
 exact fun I h s => (mO119).list [(((), (), (), ()), r35)] I h s
 refine lN (OO kT119 119 A37 D37 ([r35] : List Instr) :: _ :: W0) ?_
 refine lM (ow _ _ _ _ :: ow _ _ _ _ :: W0) (fun w s => (s.e 2 [1, 0])) ?_
 refine l_app (K := kT119) 4398046511104 R R sl67 sz119 by119 (Zr.zk zT119 zc119) R R R R R R src_ow hg38 (fun A39 D39 => (lN (OO kT119 119 A39 D39 (x32 ++ ([r35] : List Instr)) :: W0) ?_))
 refine lS R (l_nil (q_next ?_))
 obtain ⟨hg40, hr⟩ := gd hr
 refine c_region (lS R (lS R (lM (_ :: RR kT119 A3 D3 body2 :: W0) (fun w s => ((s.dup 1 R).mv 1)) ?_)))
 refine l_app (K := kT119) 4398046511104 R R sl67 sz119 by119 (Zr.zk zT119 zc119) R R R R R R (src_rd (Kind.iso_flat (Kind.pair_flat (Kind.scal_flat _ _) (Kind.pair_flat (Kind.scal_flat _ _) (Kind.pair_flat (Kind.scal_flat _ _) (Kind.scal_flat _ _)))) _)) hg40 (fun A41 D41 => (lN (OO kT119 119 A41 D41 ((x32 ++ ([r35] : List Instr)) ++ body2) :: W0) ?_))
 refine lS R (l_nil ?_)
 exact qI (((x32 ++ ([r35] : List Instr)) ++ body2), (A41, ((x32 ++ ([r35] : List Instr)) ++ body2).length, D41)) hr (fun w s => s)
 refine c_false R hb34 (c_skip ?_)
 exact qI (x32, (A33, x32.length, D33)) hr (fun w s => s)
 rintro ⟨x42, ⟨A43, N43, D43⟩⟩ σ1 hr
 replace hr : spec_l13Chunks_J3 x42 = some r := hr
 unfold spec_l13Chunks_J3 at hr
 refine c_len 0 sees_ow (fun (hn : N43 = x42.length) => ?_)
 subst hn
 refine c_seq (c_region (lS R (lS R (l_nil (q_next (c_ret ?_))))))
 obtain rfl := so hr
 exact qF (A43, x42.length, D43) (fun w s => (s.e 3 [0]))
theorem spec_l13Body_ok {k1 : Kernel} {steps6 : (List Int)} {r : (List Instr)} (hr : spec_l13Body k1 steps6 = some r) :
 FnOk Try.prog 150 [(.agg [(.slice A2 N2 D2), (.slice A3 N3 D3), (iv k1.Store.Buffer), (iv k1.Store.Offset), (.slice A4 N4 D4), (.bool k1.Sum), (.slice A5 N5 D5)].toArray), (.slice A7 N7 D7)] [rds kT3 (.slice A2 N2 D2) k1.Loops, rds kT124 (.slice A3 N3 D3) k1.Loads, rds kT3 (.slice A4 N4 D4) k1.Store.Steps, rds kT216 (.slice A5 N5 D5) k1.Code, rds kT3 (.slice A7 N7 D7) steps6] (fun (h : HH) => ((.slice h.1 h.2.1 h.2.2), [ow kT119 119 (.slice h.1 h.2.1 h.2.2) r])) := by
 unfold spec_l13Body at hr
 refine fn_ok Try.func150 R 97 R R fun C V => ?_
 refine cN (_ :: _ :: _ :: _ :: _ :: V) ?_
 refine cL 0 sees_rd ?_
 rintro rfl
 refine cL 1 sees_rd ?_
 rintro rfl
 refine cL 2 sees_rd ?_
 rintro rfl
 refine cL 3 sees_rd ?_
 rintro rfl
 refine cL 4 sees_rd ?_
 rintro rfl
 let W0 : List HP := RR kT3 A2 D2 k1.Loops :: RR kT124 A3 D3 k1.Loads :: RR kT3 A4 D4 k1.Store.Steps :: RR kT216 A5 D5 k1.Code :: RR kT3 A7 D7 steps6 :: V
 refine cN W0 ?_
 refine c_seq (c_region (lBx R (fun b8 => (lS R (l_nil ?_)))))
 let W1 : List HP := bxl b8 [(sc A2 k1.Loops D2), (sc A3 k1.Loads D3), (iv k1.Store.Buffer), (iv k1.Store.Offset), (sc A4 k1.Store.Steps D4), (.bool k1.Sum), (sc A5 k1.Code D5)] 127 :: W0
 refine qN W1 ?_
 refine q_next (c_seq (c_region (l_build (K := kT119) (xs := ([] : List Instr)) (vs := []) 0 R R sl67 sz119 zc119 R R R R R R ?_ R (fun A9 D9 => ?_))))
 exact fun I h s => (mO119).list [] I h s
 refine lN (OO kT119 119 A9 D9 ([] : List Instr) :: W1) ?_
 refine lS R (l_nil (q_next (c_seq (c_cut (A := ((List Instr)) × (HH)) (fun a => spec_l13Body_J3 k1 steps6 a.1 = some r) (fun a => [(1, (sc A7 steps6 D7)), (2, (pt b8 0)), (5, (.slice a.2.1 a.2.2.1 a.2.2.2))]) (fun a => ow kT119 119 (.slice a.2.1 a.2.2.1 a.2.2.2) a.1 :: W1) ?_ ?_))))
 refine c_seq (c_region (lI R (l_nil (q_next (c_block ?_)))))
 obtain ⟨e1, hl1, hk1⟩ := bd hr
 refine c_loop (A := HH) hl1 (fun s a => [(1, (sc A7 steps6 D7)), (2, (pt b8 0)), (5, (.slice a.1 a.2.1 a.2.2)), (6, (iv s.2))]) (fun s a => ow kT119 119 (.slice a.1 a.2.1 a.2.2) s.1 :: W1) (A9, ([] : List Instr).length, D9) (aS R) (fun w s => s) ?_
 rintro ⟨x35, i37⟩ ⟨A36, N36, D36⟩ σ1 out1 hr he1
 replace hr : spec_l13Body_L1 k1 steps6 x35 i37 = some out1 := hr
 unfold spec_l13Body_L1 at hr
 refine c_len 0 sees_ow (fun (hn : N36 = x35.length) => ?_)
 subst hn
 refine c_seq (c_seq (c_region (lI R (lO (vFa 6 fo127_4 R) (lO (vLd 1 ag125 R R R) (lO (v_len sl125 R) (lO (vLt R R) (l_nil (q_next ?_)))))))))
 rcases bif_ hr with ⟨hb38, hr⟩ | ⟨hb38, hr⟩
 refine c_true R hb38 (c_skip (q_next (c_seq (c_cut (A := ((List Instr)) × (HH)) (fun a => spec_l13Body_J2 i37 a.1 = some out1) (fun a => [(1, (sc A7 steps6 D7)), (2, (pt b8 0)), (5, (.slice a.2.1 a.2.2.1 a.2.2.2)), (6, (iv i37))]) (fun a => ow kT119 119 (.slice a.2.1 a.2.2.1 a.2.2.2) a.1 :: W1) ?_ ?_))))
 refine c_block (c_seq ?_)
 obtain ⟨hg39, hr⟩ := gd hr
 refine c_region (lO (vFa 6 fo127_4 R) (lO (vLd 1 ag125 R R R) (lI R (t_some 5 sees_rd (show 0 < k1.Code.length by have := hg39; omega) (fun g40 o41 ha => ?_)))))
 subst ha
 refine lO (vIa sl125 sz216 R R hg39) (l_v (.agg [(iv (ix k1.Code i37).Op), (iv (ix k1.Code i37).A), (iv (ix k1.Code i37).B)].toArray) ?_ R R ?_)
 exact (v_ldef (K := kT216) (cells := fun x => [(iv x.Op), (iv x.A), (iv x.B)]) 5 i37 ag216 sz216 (DecK.flat dT216 fun _ _ => R) sees_rd R hg39.1 hg39.2)
 refine l_alloc R R zc216 (fun b42 => (l_stores 0 R R sz216 R R R R R R (lN (bxl b42 [(iv (ix k1.Code i37).Op), (iv (ix k1.Code i37).A), (iv (ix k1.Code i37).B)] 216 :: OO kT119 119 A36 D36 x35 :: W1) ?_)))
 refine l_nil (q_next (c_block (c_seq (c_region (lO (vFa 0 fo216_0 R) (lO (vLd 0 ag3 R R R) (lO (vEq R R) (lB R (l_nil (q_next ?_))))))))))
 rcases bif_ hr with ⟨hb43, hr⟩ | ⟨hb43, hr⟩
 refine c_true R hb43 ?_
 obtain ⟨hg44, hr⟩ := gd hr
 obtain ⟨hg48, hr⟩ := gd hr
 refine c_some 7 sees_rd (show 0 < steps6.length by have := hg44; omega) (fun g45 o46 ha => ?_)
 subst ha
 refine cdr 13 [1] mixo (fun ht hn => (dR 0 R (vS R) (hS := (sL [1])) (dR 1 R (vI R) (hS := (sL [1])) (dR 2 R (vFa 1 fo216_1 R) (hS := (sL [1])) (dR 3 R (vLd 0 ag3 R R R) (hS := (sL [1])) (dR 4 R (vS R) (hS := (sL [1])) (dR 5 R (vFa 1 fo216_1 R) (hS := (sL [1])) (dR 6 R (vLd 0 ag3 R R R) (hS := (sL [1])) (dR 7 R (vIa sl29 sz3 R R hg44) (hS := (sL [1])) (dR 8 R (vLi 6 ag3 sees_rd R hg44) (hS := (sL [1])) (dR 9 R (vz (.agg [(iv 6), (iv i37), (iv (ix k1.Code i37).A), (iv (ix steps6 (ix k1.Code i37).A))].toArray) (v_build pl119 zc119 R R)) (hS := (sL [1])) (d_one 10 (by kernel_rfl) R (l_build (K := kT119) (xs := ([(⟨(6 : Int), i37, (ix k1.Code i37).A, (ix steps6 (ix k1.Code i37).A)⟩ : Instr)] : List Instr)) (vs := [(.agg [(iv 6), (iv i37), (iv (ix k1.Code i37).A), (iv (ix steps6 (ix k1.Code i37).A))].toArray)]) 0 R R sl67 sz119 zc119 R R R R R R ?_ R (fun A47 D47 => ?_))))))))))))))
 exact fun I h s => (mO119).list [(((), (), (), ()), (⟨(6 : Int), i37, (ix k1.Code i37).A, (ix steps6 (ix k1.Code i37).A)⟩ : Instr))] I h s
 refine lN (OO kT119 119 A47 D47 ([(⟨(6 : Int), i37, (ix k1.Code i37).A, (ix steps6 (ix k1.Code i37).A)⟩ : Instr)] : List Instr) :: _ :: _ :: W1) ?_
 refine l_nil (q_draw (sL [2, 0]) (d_one 11 (by kernel_rfl) R (lM (ow _ _ _ _ :: ow _ _ _ _ :: bxl _ _ _ :: W1) (fun w s => (s.e 3 [2, 0, 1])) ?_)))
 refine l_app (K := kT119) 4398046511104 R R sl67 sz119 by119 (Zr.zk zT119 zc119) R R R R R R src_ow hg48 (fun A49 D49 => (lN (OO kT119 119 A49 D49 (x35 ++ ([(⟨(6 : Int), i37, (ix k1.Code i37).A, (ix steps6 (ix k1.Code i37).A)⟩ : Instr)] : List Instr)) :: _ :: W1) ?_))
 refine l_nil (q_draw (sL [0]) (dR 12 R (vS R) (hS := (sL [0])) (d_done (by kernel_rfl) (q_blockn (q_blockn ?_)))))
 exact qI ((x35 ++ ([(⟨(6 : Int), i37, (ix k1.Code i37).A, (ix steps6 (ix k1.Code i37).A)⟩ : Instr)] : List Instr)), (A49, (x35 ++ ([(⟨(6 : Int), i37, (ix k1.Code i37).A, (ix steps6 (ix k1.Code i37).A)⟩ : Instr)] : List Instr)).length, D49)) hr (fun w s => (s.e 2 [0]))
 refine c_false R hb43 (c_seq (c_region (lO (vFa 0 fo216_0 R) (lO (vLd 0 ag3 R R R) (lO (vEq R R) (lB R (l_nil (q_next ?_))))))))
 rcases bif_ hr with ⟨hb50, hr⟩ | ⟨hb50, hr⟩
 refine c_true R hb50 ?_
 obtain ⟨hg52, hr⟩ := gd hr
 refine c_region (lS R (lI R (lO (vFa 1 fo216_1 R) (lO (vLd 0 ag3 R R R) (lO (vz (.agg [(iv 9), (iv i37), (iv (ix k1.Code i37).A), (iv 0)].toArray) (v_build pl119 zc119 R R)) (l_build (K := kT119) (xs := ([(⟨(9 : Int), i37, (ix k1.Code i37).A, (0 : Int)⟩ : Instr)] : List Instr)) (vs := [(.agg [(iv 9), (iv i37), (iv (ix k1.Code i37).A), (iv 0)].toArray)]) 0 R R sl67 sz119 zc119 R R R R R R ?_ R (fun A51 D51 => ?_)))))))
 exact fun I h s => (mO119).list [(((), (), (), ()), (⟨(9 : Int), i37, (ix k1.Code i37).A, (0 : Int)⟩ : Instr))] I h s
 refine lN (OO kT119 119 A51 D51 ([(⟨(9 : Int), i37, (ix k1.Code i37).A, (0 : Int)⟩ : Instr)] : List Instr) :: _ :: OO kT119 119 A36 D36 x35 :: W1) ?_
 refine lM (ow _ _ _ _ :: ow _ _ _ _ :: bxl _ _ _ :: W1) (fun w s => (s.e 3 [2, 0, 1])) ?_
 refine l_app (K := kT119) 4398046511104 R R sl67 sz119 by119 (Zr.zk zT119 zc119) R R R R R R src_ow hg52 (fun A53 D53 => (lN (OO kT119 119 A53 D53 (x35 ++ ([(⟨(9 : Int), i37, (ix k1.Code i37).A, (0 : Int)⟩ : Instr)] : List Instr)) :: _ :: W1) ?_))
 refine lS R (l_nil (q_blockn (q_blockn ?_)))
 exact qI ((x35 ++ ([(⟨(9 : Int), i37, (ix k1.Code i37).A, (0 : Int)⟩ : Instr)] : List Instr)), (A53, (x35 ++ ([(⟨(9 : Int), i37, (ix k1.Code i37).A, (0 : Int)⟩ : Instr)] : List Instr)).length, D53)) hr (fun w s => (s.e 2 [0]))
 refine c_false R hb50 (c_seq (c_region (lO (vFa 0 fo216_0 R) (lO (vLd 0 ag3 R R R) (lO (vLe R R) (lB R (l_nil (q_next ?_))))))))
 rcases bif_ hr with ⟨hb54, hr⟩ | ⟨hb54, hr⟩
 refine c_true R hb54 ?_
 obtain ⟨hg56, hr⟩ := gd hr
 refine c_region (lS R (lO (vFa 0 fo216_0 R) (lO (vLd 0 ag3 R R R) (lO (vSb R R) (lO (vAd R R) (lI R (lO (vFa 1 fo216_1 R) (lO (vLd 0 ag3 R R R) (lO (vFa 2 fo216_2 R) (lO (vLd 0 ag3 R R R) (lO (vz (.agg [(iv (w64 ((w64 ((ix k1.Code i37).Op - (3 : Int))) + (10 : Int)))), (iv i37), (iv (ix k1.Code i37).A), (iv (ix k1.Code i37).B)].toArray) (v_build pl119 zc119 R R)) (l_build (K := kT119) (xs := ([(⟨(w64 ((w64 ((ix k1.Code i37).Op - (3 : Int))) + (10 : Int))), i37, (ix k1.Code i37).A, (ix k1.Code i37).B⟩ : Instr)] : List Instr)) (vs := [(.agg [(iv (w64 ((w64 ((ix k1.Code i37).Op - (3 : Int))) + (10 : Int)))), (iv i37), (iv (ix k1.Code i37).A), (iv (ix k1.Code i37).B)].toArray)]) 0 R R sl67 sz119 zc119 R R R R R R ?_ R (fun A55 D55 => ?_)))))))))))))
 exact fun I h s => (mO119).list [(((), (), (), ()), (⟨(w64 ((w64 ((ix k1.Code i37).Op - (3 : Int))) + (10 : Int))), i37, (ix k1.Code i37).A, (ix k1.Code i37).B⟩ : Instr))] I h s
 refine lN (OO kT119 119 A55 D55 ([(⟨(w64 ((w64 ((ix k1.Code i37).Op - (3 : Int))) + (10 : Int))), i37, (ix k1.Code i37).A, (ix k1.Code i37).B⟩ : Instr)] : List Instr) :: _ :: OO kT119 119 A36 D36 x35 :: W1) ?_
 refine lM (ow _ _ _ _ :: ow _ _ _ _ :: bxl _ _ _ :: W1) (fun w s => (s.e 3 [2, 0, 1])) ?_
 refine l_app (K := kT119) 4398046511104 R R sl67 sz119 by119 (Zr.zk zT119 zc119) R R R R R R src_ow hg56 (fun A57 D57 => (lN (OO kT119 119 A57 D57 (x35 ++ ([(⟨(w64 ((w64 ((ix k1.Code i37).Op - (3 : Int))) + (10 : Int))), i37, (ix k1.Code i37).A, (ix k1.Code i37).B⟩ : Instr)] : List Instr)) :: _ :: W1) ?_))
 refine lS R (l_nil (q_blockn (q_blockn ?_)))
 exact qI ((x35 ++ ([(⟨(w64 ((w64 ((ix k1.Code i37).Op - (3 : Int))) + (10 : Int))), i37, (ix k1.Code i37).A, (ix k1.Code i37).B⟩ : Instr)] : List Instr)), (A57, (x35 ++ ([(⟨(w64 ((w64 ((ix k1.Code i37).Op - (3 : Int))) + (10 : Int))), i37, (ix k1.Code i37).A, (ix k1.Code i37).B⟩ : Instr)] : List Instr)).length, D57)) hr (fun w s => (s.e 2 [0]))
 refine c_false R hb54 ?_
 obtain ⟨hg59, hr⟩ := gd hr
 refine c_region (lS R (lO (vFa 0 fo216_0 R) (lO (vLd 0 ag3 R R R) (lO (vSb R R) (lO (vAd R R) (lI R (lO (vFa 1 fo216_1 R) (lO (vLd 0 ag3 R R R) (lO (vz (.agg [(iv (w64 ((w64 ((ix k1.Code i37).Op - (6 : Int))) + (13 : Int)))), (iv i37), (iv (ix k1.Code i37).A), (iv 0)].toArray) (v_build pl119 zc119 R R)) (l_build (K := kT119) (xs := ([(⟨(w64 ((w64 ((ix k1.Code i37).Op - (6 : Int))) + (13 : Int))), i37, (ix k1.Code i37).A, (0 : Int)⟩ : Instr)] : List Instr)) (vs := [(.agg [(iv (w64 ((w64 ((ix k1.Code i37).Op - (6 : Int))) + (13 : Int)))), (iv i37), (iv (ix k1.Code i37).A), (iv 0)].toArray)]) 0 R R sl67 sz119 zc119 R R R R R R ?_ R (fun A58 D58 => ?_)))))))))))
 exact fun I h s => (mO119).list [(((), (), (), ()), (⟨(w64 ((w64 ((ix k1.Code i37).Op - (6 : Int))) + (13 : Int))), i37, (ix k1.Code i37).A, (0 : Int)⟩ : Instr))] I h s
 refine lN (OO kT119 119 A58 D58 ([(⟨(w64 ((w64 ((ix k1.Code i37).Op - (6 : Int))) + (13 : Int))), i37, (ix k1.Code i37).A, (0 : Int)⟩ : Instr)] : List Instr) :: _ :: OO kT119 119 A36 D36 x35 :: W1) ?_
 refine lM (ow _ _ _ _ :: ow _ _ _ _ :: bxl _ _ _ :: W1) (fun w s => (s.e 3 [2, 0, 1])) ?_
 refine l_app (K := kT119) 4398046511104 R R sl67 sz119 by119 (Zr.zk zT119 zc119) R R R R R R src_ow hg59 (fun A60 D60 => (lN (OO kT119 119 A60 D60 (x35 ++ ([(⟨(w64 ((w64 ((ix k1.Code i37).Op - (6 : Int))) + (13 : Int))), i37, (ix k1.Code i37).A, (0 : Int)⟩ : Instr)] : List Instr)) :: _ :: W1) ?_))
 refine lS R (l_nil (q_blockn (q_blockn ?_)))
 exact qI ((x35 ++ ([(⟨(w64 ((w64 ((ix k1.Code i37).Op - (6 : Int))) + (13 : Int))), i37, (ix k1.Code i37).A, (0 : Int)⟩ : Instr)] : List Instr)), (A60, (x35 ++ ([(⟨(w64 ((w64 ((ix k1.Code i37).Op - (6 : Int))) + (13 : Int))), i37, (ix k1.Code i37).A, (0 : Int)⟩ : Instr)] : List Instr)).length, D60)) hr (fun w s => (s.e 2 [0]))
 rintro ⟨x61, ⟨A62, N62, D62⟩⟩ σ1 hr
 replace hr : spec_l13Body_J2 i37 x61 = some out1 := hr
 unfold spec_l13Body_J2 at hr
 refine c_len 0 sees_ow (fun (hn : N62 = x61.length) => ?_)
 subst hn
 refine c_region (lI R (lO (vAd R R) (lI R (l_nil ?_))))
 obtain rfl := so hr
 exact qA (A62, x61.length, D62) (fun w s => s)
 refine c_false R hb38 (c_exit (q_exit ?_))
 obtain rfl := so hr
 obtain rfl := he1 _ R
 have hr := hk1
 refine q_exit (q_block ?_)
 exact qI (x35, (A36, x35.length, D36)) hr (fun w s => s)
 rintro ⟨x66, ⟨A67, N67, D67⟩⟩ σ1 hr
 replace hr : spec_l13Body_J3 k1 steps6 x66 = some r := hr
 unfold spec_l13Body_J3 at hr
 refine c_len 0 sees_ow (fun (hn : N67 = x66.length) => ?_)
 subst hn
 refine c_seq (c_region (lI R (l_nil (q_next (c_seq (c_cut (A := (Int) × (Unit)) (fun a => spec_l13Body_J4 k1 steps6 x66 a.1 = some r) (fun a => [(1, (sc A7 steps6 D7)), (2, (pt b8 0)), (5, (sc A67 x66 D67)), (8, (iv a.1))]) (fun a => OO kT119 119 A67 D67 x66 :: W1) ?_ ?_))))))
 refine c_seq (c_region (lO (vFa 5 fo127_3 R) (lO (vLd 1 ag4 R R R) (l_nil (q_next ?_)))))
 rcases bif_ hr with ⟨hb68, hr⟩ | ⟨hb68, hr⟩
 refine c_true R hb68 (c_region (lI R (l_nil ?_)))
 exact qI ((8 : Int), ()) hr (fun w s => s)
 refine c_false R hb68 (c_skip ?_)
 exact qI ((7 : Int), ()) hr (fun w s => s)
 rintro ⟨op69, _⟩ σ1 hr
 replace hr : spec_l13Body_J4 k1 steps6 x66 op69 = some r := hr
 unfold spec_l13Body_J4 at hr
 refine c_seq ?_
 obtain ⟨hg70, hr⟩ := gd hr
 obtain ⟨hg74, hr⟩ := gd hr
 refine c_some 6 sees_rd (show 0 < steps6.length by have := hg70; omega) (fun g71 o72 ha => ?_)
 subst ha
 refine cdr 19 [0] mixo (fun ht hn => (dR 0 R (vS R) (hS := (sL [0])) (dR 1 R (vI R) (hS := (sL [0])) (dR 2 R (vFa 6 fo127_4 R) (hS := (sL [0])) (dR 3 R (vLd 0 ag125 R R R) (hS := (sL [0])) (dR 4 R (v_len sl125 R) (hS := (sL [0])) (dR 5 R (vSb R R) (hS := (sL [0])) (dR 6 R (vFa 1 fo127_1 R) (hS := (sL [0])) (dR 7 R (vLd 0 ag122 R R R) (hS := (sL [0])) (dR 8 R (v_len sl122 R) (hS := (sL [0])) (dR 9 R (vS R) (hS := (sL [0])) (dR 10 R (vFa 1 fo127_1 R) (hS := (sL [0])) (dR 11 R (vLd 0 ag122 R R R) (hS := (sL [0])) (dR 12 R (v_len sl122 R) (hS := (sL [0])) (dR 13 R (vIa sl29 sz3 R R hg70) (hS := (sL [0])) (dR 14 R (vLi 5 ag3 sees_rd R hg70) (hS := (sL [0])) (dR 15 R (vz (.agg [(iv op69), (iv (w64 ((k1.Code.length : Int) - (1 : Int)))), (il k1.Loads), (iv (ix steps6 (k1.Loads.length : Int)))].toArray) (v_build pl119 zc119 R R)) (hS := (sL [0])) (d_one 16 (by kernel_rfl) R ?_))))))))))))))))))
 refine l_build (K := kT119) (xs := ([(⟨op69, (w64 ((k1.Code.length : Int) - (1 : Int))), (k1.Loads.length : Int), (ix steps6 (k1.Loads.length : Int))⟩ : Instr)] : List Instr)) (vs := [(.agg [(iv op69), (iv (w64 ((k1.Code.length : Int) - (1 : Int)))), (il k1.Loads), (iv (ix steps6 (k1.Loads.length : Int)))].toArray)]) 0 R R sl67 sz119 zc119 R R R R R R ?_ R (fun A73 D73 => ?_)
 exact fun I h s => (mO119).list [(((), (), (), ()), (⟨op69, (w64 ((k1.Code.length : Int) - (1 : Int))), (k1.Loads.length : Int), (ix steps6 (k1.Loads.length : Int))⟩ : Instr))] I h s
 refine lN (OO kT119 119 A73 D73 ([(⟨op69, (w64 ((k1.Code.length : Int) - (1 : Int))), (k1.Loads.length : Int), (ix steps6 (k1.Loads.length : Int))⟩ : Instr)] : List Instr) :: OO kT119 119 A67 D67 x66 :: W1) ?_
 refine l_nil (q_draw (sL [1, 0]) (d_one 17 (by kernel_rfl) R (lM (ow _ _ _ _ :: ow _ _ _ _ :: W1) (fun w s => (s.e 2 [1, 0])) ?_)))
 refine l_app (K := kT119) 4398046511104 R R sl67 sz119 by119 (Zr.zk zT119 zc119) R R R R R R src_ow hg74 (fun A75 D75 => (lN (OO kT119 119 A75 D75 (x66 ++ ([(⟨op69, (w64 ((k1.Code.length : Int) - (1 : Int))), (k1.Loads.length : Int), (ix steps6 (k1.Loads.length : Int))⟩ : Instr)] : List Instr)) :: W1) ?_))
 refine l_nil (q_draw (sL [0]) (dR 18 R (vS R) (hS := (sL [0])) (d_done (by kernel_rfl) (q_next (c_ret ?_)))))
 obtain rfl := so hr
 exact qF (A75, (x66 ++ ([(⟨op69, (w64 ((k1.Code.length : Int) - (1 : Int))), (k1.Loads.length : Int), (ix steps6 (k1.Loads.length : Int))⟩ : Instr)] : List Instr)).length, D75) (fun w s => (s.e 7 [0]))
theorem spec_l13Kernel_ok {p1 : Plan} {k8 : Kernel} {r : (List Instr)} (hr : spec_l13Kernel p1 k8 = some r) :
 FnOk Try.prog 87 [(.agg [(.slice A2 N2 D2), (.slice A3 N3 D3), (.slice A4 N4 D4), (.slice A5 N5 D5), (.slice A6 N6 D6), (.slice A7 N7 D7), (iv p1.Arena)].toArray), (.agg [(.slice A9 N9 D9), (.slice A10 N10 D10), (iv k8.Store.Buffer), (iv k8.Store.Offset), (.slice A11 N11 D11), (.bool k8.Sum), (.slice A12 N12 D12)].toArray)] [rds kT3 (.slice A2 N2 D2) p1.Nest.Sizes, rds kT3 (.slice A3 N3 D3) p1.Nest.Ins, rds kT159 (.slice A4 N4 D4) p1.Nest.Fixed, rds kT127 (.slice A5 N5 D5) p1.Nest.Kernels, rds kT3 (.slice A6 N6 D6) p1.Nest.Outs, rds kT3 (.slice A7 N7 D7) p1.Offsets, rds kT3 (.slice A9 N9 D9) k8.Loops, rds kT124 (.slice A10 N10 D10) k8.Loads, rds kT3 (.slice A11 N11 D11) k8.Store.Steps, rds kT216 (.slice A12 N12 D12) k8.Code] (fun (h : HH) => ((.slice h.1 h.2.1 h.2.2), [ow kT119 119 (.slice h.1 h.2.1 h.2.2) r])) := by
 unfold spec_l13Kernel at hr
 refine fn_ok Try.func87 R 148 R R fun C V => ?_
 refine cN (_ :: _ :: _ :: _ :: _ :: _ :: _ :: _ :: _ :: _ :: V) ?_
 refine cL 0 sees_rd ?_
 rintro rfl
 refine cL 1 sees_rd ?_
 rintro rfl
 refine cL 2 sees_rd ?_
 rintro rfl
 refine cL 3 sees_rd ?_
 rintro rfl
 refine cL 4 sees_rd ?_
 rintro rfl
 refine cL 5 sees_rd ?_
 rintro rfl
 refine cL 6 sees_rd ?_
 rintro rfl
 refine cL 7 sees_rd ?_
 rintro rfl
 refine cL 8 sees_rd ?_
 rintro rfl
 refine cL 9 sees_rd ?_
 rintro rfl
 let W0 : List HP := RR kT3 A2 D2 p1.Nest.Sizes :: RR kT3 A3 D3 p1.Nest.Ins :: RR kT159 A4 D4 p1.Nest.Fixed :: RR kT127 A5 D5 p1.Nest.Kernels :: RR kT3 A6 D6 p1.Nest.Outs :: RR kT3 A7 D7 p1.Offsets :: RR kT3 A9 D9 k8.Loops :: RR kT124 A10 D10 k8.Loads :: RR kT3 A11 D11 k8.Store.Steps :: RR kT216 A12 D12 k8.Code :: V
 refine cN W0 ?_
 refine c_seq (c_region (lBx R (fun b13 => (lBx R (fun b14 => (lS R (l_nil ?_)))))))
 let W1 : List HP := bxl b14 [(sc A9 k8.Loops D9), (sc A10 k8.Loads D10), (iv k8.Store.Buffer), (iv k8.Store.Offset), (sc A11 k8.Store.Steps D11), (.bool k8.Sum), (sc A12 k8.Code D12)] 127 :: bxl b13 [(sc A2 p1.Nest.Sizes D2), (sc A3 p1.Nest.Ins D3), (sc A4 p1.Nest.Fixed D4), (sc A5 p1.Nest.Kernels D5), (sc A6 p1.Nest.Outs D6), (sc A7 p1.Offsets D7), (iv p1.Arena)] 71 :: W0
 refine qN W1 ?_
 refine q_next (c_seq ?_)
 obtain ⟨hg16, hr⟩ := gd hr
 obtain ⟨hg19, hr⟩ := gd hr
 refine c_cutq (A := (Unit) × (HH)) (fun _ => True) (fun a => [(2, (pt b13 0)), (3, (pt b14 0)), (5, (.slice a.2.1 a.2.2.1 a.2.2.2))]) (fun a => ow (kT124).share 124 (.slice a.2.1 a.2.2.1 a.2.2.2) ((([] : List Access) ++ k8.Loads) ++ ([k8.Store] : List Access)) :: W1) ?_ ?_
 refine cdr 9 [] mixo (fun ht hn => (dR 1 R (vFa 1 fo127_1 R) (dR 2 R (vLd 0 ag122 R R R) (dR 4 R (vFa 2 fo127_2 R) (dR 5 R (vz (.agg [(iv k8.Store.Buffer), (iv k8.Store.Offset), (sc A11 k8.Store.Steps D11)].toArray) (v_loadw 0 ag124 sz124 R R R R)) (d_all [0, 6] (by kernel_rfl) R ⟨?_, ?_, trivial⟩))))))
 refine l_build (K := kT124) (xs := ([] : List Access)) (vs := []) 0 R R sl122 sz124 zc124 R R R R R R ?_ R (fun A15 D15 => ?_)
 exact fun I h s => (mO124).list [] I h s
 refine lN (OO kT124 124 A15 D15 ([] : List Access) :: W1) ?_
 refine l_nil (q_draw (sL [0]) (d_all [3, 6] (by kernel_rfl) R ⟨?_, ?_, trivial⟩))
 refine lM (OO (kT124).share 124 A15 D15 ([] : List Access) :: RR kT124 A10 D10 k8.Loads :: W1) (fun w s => ((s.dup 10 R).wk 1 R)) ?_
 refine l_app (K := (kT124).share) 3518437208883 R R sl122 sz124 by124 (Zr.zk (Zr.share zT124) zc124) R R R R R R src_sh hg16 (fun A17 D17 => (lN (OO (kT124).share 124 A17 D17 (([] : List Access) ++ k8.Loads) :: W1) ?_))
 refine l_nil (q_draw (sL [0]) (d_one 6 (by kernel_rfl) R (lM (RR kT3 A11 D11 k8.Store.Steps :: _ :: W1) (fun w s => (s.d 11 R)) ?_)))
 refine l_build (K := (kT124).share) (xs := ([k8.Store] : List Access)) (vs := [(.agg [(iv k8.Store.Buffer), (iv k8.Store.Offset), (sc A11 k8.Store.Steps D11)].toArray)]) 1 R R sl122 sz124 zc124 R R R R R R ?_ R (fun A18 D18 => ?_)
 exact fun I h s => (mS124).list [(((), (), (sc A11 k8.Store.Steps D11)), k8.Store)] I h s
 refine lN (OO (kT124).share 124 A18 D18 ([k8.Store] : List Access) :: _ :: W1) ?_
 refine l_nil (q_draw (sL [1, 0]) (d_one 7 (by kernel_rfl) R (lM (ow _ _ _ _ :: ow _ _ _ _ :: W1) (fun w s => (s.e 2 [1, 0])) ?_)))
 refine l_app (K := (kT124).share) 3518437208883 R R sl122 sz124 by124 (Zr.zk (Zr.share zT124) zc124) R R R R R R src_ow hg19 (fun A20 D20 => (lN (OO (kT124).share 124 A20 D20 ((([] : List Access) ++ k8.Loads) ++ ([k8.Store] : List Access)) :: W1) ?_))
 refine l_nil (q_draw (sL [0]) (dR 8 R (vS R) (hS := (sL [0])) (d_done (by kernel_rfl) ?_)))
 exact q_join ((), (A20, ((([] : List Access) ++ k8.Loads) ++ ([k8.Store] : List Access)).length, D20)) trivial (aS R) (fun w s => s)
 refine lM (RR kT3 A11 D11 k8.Store.Steps :: OO kT124 124 A15 D15 ([] : List Access) :: W1) (fun w s => (s.d 11 R)) ?_
 refine l_build (K := (kT124).share) (xs := ([k8.Store] : List Access)) (vs := [(.agg [(iv k8.Store.Buffer), (iv k8.Store.Offset), (sc A11 k8.Store.Steps D11)].toArray)]) 1 R R sl122 sz124 zc124 R R R R R R ?_ R (fun A18 D18 => ?_)
 exact fun I h s => (mS124).list [(((), (), (sc A11 k8.Store.Steps D11)), k8.Store)] I h s
 refine lN (OO (kT124).share 124 A18 D18 ([k8.Store] : List Access) :: _ :: W1) ?_
 refine l_nil (q_draw (sL [1, 0]) (d_one 3 (by kernel_rfl) R (lM (OO (kT124).share 124 A15 D15 ([] : List Access) :: RR kT124 A10 D10 k8.Loads :: _ :: W1) (fun w s => ((s.dup 11 R).wk 2 R)) ?_)))
 refine l_app (K := (kT124).share) 3518437208883 R R sl122 sz124 by124 (Zr.zk (Zr.share zT124) zc124) R R R R R R src_sh hg16 (fun A17 D17 => (lN (OO (kT124).share 124 A17 D17 (([] : List Access) ++ k8.Loads) :: _ :: W1) ?_))
 refine l_nil (q_draw (sL [1, 0]) (d_one 7 (by kernel_rfl) R (l_app (K := (kT124).share) 3518437208883 R R sl122 sz124 by124 (Zr.zk (Zr.share zT124) zc124) R R R R R R src_ow hg19 (fun A20 D20 => (lN (OO (kT124).share 124 A20 D20 ((([] : List Access) ++ k8.Loads) ++ ([k8.Store] : List Access)) :: W1) ?_)))))
 refine l_nil (q_draw (sL [0]) (dR 8 R (vS R) (hS := (sL [0])) (d_done (by kernel_rfl) ?_)))
 exact q_join ((), (A20, ((([] : List Access) ++ k8.Loads) ++ ([k8.Store] : List Access)).length, D20)) trivial (aS R) (fun w s => s)
 refine lM (RR kT3 A11 D11 k8.Store.Steps :: W1) (fun w s => (s.d 10 R)) ?_
 refine l_build (K := (kT124).share) (xs := ([k8.Store] : List Access)) (vs := [(.agg [(iv k8.Store.Buffer), (iv k8.Store.Offset), (sc A11 k8.Store.Steps D11)].toArray)]) 1 R R sl122 sz124 zc124 R R R R R R ?_ R (fun A18 D18 => ?_)
 exact fun I h s => (mS124).list [(((), (), (sc A11 k8.Store.Steps D11)), k8.Store)] I h s
 refine lN (OO (kT124).share 124 A18 D18 ([k8.Store] : List Access) :: W1) ?_
 refine l_nil (q_draw (sL [0]) (d_one 0 (by kernel_rfl) R (l_build (K := kT124) (xs := ([] : List Access)) (vs := []) 0 R R sl122 sz124 zc124 R R R R R R ?_ R (fun A15 D15 => ?_))))
 exact fun I h s => (mO124).list [] I h s
 refine lN (OO kT124 124 A15 D15 ([] : List Access) :: _ :: W1) ?_
 refine l_nil (q_draw (sL [1, 0]) (d_one 3 (by kernel_rfl) R (lM (OO (kT124).share 124 A15 D15 ([] : List Access) :: RR kT124 A10 D10 k8.Loads :: _ :: W1) (fun w s => ((s.dup 11 R).wk 1 R)) ?_)))
 refine l_app (K := (kT124).share) 3518437208883 R R sl122 sz124 by124 (Zr.zk (Zr.share zT124) zc124) R R R R R R src_sh hg16 (fun A17 D17 => (lN (OO (kT124).share 124 A17 D17 (([] : List Access) ++ k8.Loads) :: _ :: W1) ?_))
 refine l_nil (q_draw (sL [1, 0]) (d_one 7 (by kernel_rfl) R (l_app (K := (kT124).share) 3518437208883 R R sl122 sz124 by124 (Zr.zk (Zr.share zT124) zc124) R R R R R R src_ow hg19 (fun A20 D20 => (lN (OO (kT124).share 124 A20 D20 ((([] : List Access) ++ k8.Loads) ++ ([k8.Store] : List Access)) :: W1) ?_)))))
 refine l_nil (q_draw (sL [0]) (dR 8 R (vS R) (hS := (sL [0])) (d_done (by kernel_rfl) ?_)))
 exact q_join ((), (A20, ((([] : List Access) ++ k8.Loads) ++ ([k8.Store] : List Access)).length, D20)) trivial (aS R) (fun w s => s)
 rintro ⟨_, ⟨A21, N21, D21⟩⟩ σ1 -
 refine q_len 0 sees_sh (fun (hn : N21 = ((([] : List Access) ++ k8.Loads) ++ ([k8.Store] : List Access)).length) => ?_)
 subst hn
 refine q_next (c_seq (c_region (l_build (K := kT119) (xs := ([] : List Instr)) (vs := []) 0 R R sl67 sz119 zc119 R R R R R R ?_ R (fun A22 D22 => ?_))))
 exact fun I h s => (mO119).list [] I h s
 refine lN (OO kT119 119 A22 D22 ([] : List Instr) :: OO (kT124).share 124 A21 D21 ((([] : List Access) ++ k8.Loads) ++ ([k8.Store] : List Access)) :: W1) ?_
 refine lS R (l_nil (q_next (c_seq (c_region (lO (vFa 0 fo127_0 R) (lO (vLd 2 ag29 R R R) (lO (v_len sl29 R) (lO (vSb R R) (lI R (l_nil (q_next (c_seq (c_region (lI R (l_nil (q_next (c_seq ?_)))))))))))))))))
 obtain ⟨hg23, hr⟩ := gd hr
 refine c_region (lS R (lO (v_len sl122 R) (l_make (K := kT3) (m := (((([] : List Access) ++ k8.Loads) ++ ([k8.Store] : List Access)).length : Int)) (z := (0 : Int)) R R sl29 sz3 by3 (Zr.zk zT3 zc3) (by decide) R R hg23.1 hg23.2.1 hg23.2.2 (fun A24 D24 => (lS R (l_nil (q_next (c_seq (c_cut (A := ((List Instr) × Int × (List Int)) × (HH)) (fun a => spec_l13Kernel_J3 k8 a.1.1 a.1.2.1 a.1.2.2 = some r) (fun a => [(3, (pt b14 0)), (5, (sc A21 ((([] : List Access) ++ k8.Loads) ++ ([k8.Store] : List Access)) D21)), (6, (.slice a.2.1 a.2.2.1 a.2.2.2)), (7, (iv (w64 ((k8.Loops.length : Int) - (1 : Int))))), (8, (iv a.1.2.1)), (9, (sc A24 (List.replicate (((([] : List Access) ++ k8.Loads) ++ ([k8.Store] : List Access)).length : Int).toNat (0 : Int)) D24))]) (fun a => OO (kT124).share 124 A21 D21 ((([] : List Access) ++ k8.Loads) ++ ([k8.Store] : List Access)) :: ow kT119 119 (.slice a.2.1 a.2.2.1 a.2.2.2) a.1.1 :: ow kT3 3 (.slice A24 (List.replicate (((([] : List Access) ++ k8.Loads) ++ ([k8.Store] : List Access)).length : Int).toNat (0 : Int)).length D24) a.1.2.2 :: W1) ?_ ?_)))))))))
 refine c_seq (c_region (lI R (l_nil (q_next (c_block ?_)))))
 obtain ⟨e1, hl1, hk1⟩ := bd hr
 refine c_loop (A := HH) hl1 (fun s a => [(2, (pt b13 0)), (3, (pt b14 0)), (5, (sc A21 ((([] : List Access) ++ k8.Loads) ++ ([k8.Store] : List Access)) D21)), (6, (.slice a.1 a.2.1 a.2.2)), (7, (iv (w64 ((k8.Loops.length : Int) - (1 : Int))))), (8, (iv s.2.1)), (9, (sc A24 (List.replicate (((([] : List Access) ++ k8.Loads) ++ ([k8.Store] : List Access)).length : Int).toNat (0 : Int)) D24)), (10, (iv s.2.2.2))]) (fun s a => OO (kT124).share 124 A21 D21 ((([] : List Access) ++ k8.Loads) ++ ([k8.Store] : List Access)) :: ow kT119 119 (.slice a.1 a.2.1 a.2.2) s.1 :: ow kT3 3 (.slice A24 (List.replicate (((([] : List Access) ++ k8.Loads) ++ ([k8.Store] : List Access)).length : Int).toNat (0 : Int)).length D24) s.2.2.1 :: W1) (A22, ([] : List Instr).length, D22) (aS R) (fun w s => (s.e 3 [2, 1, 0])) ?_
 rintro ⟨x51, n53, steps54, a55⟩ ⟨A52, N52, D52⟩ σ1 out1 hr he1
 replace hr : spec_l13Kernel_L1 p1 k8 x51 n53 steps54 a55 = some out1 := hr
 unfold spec_l13Kernel_L1 at hr
 refine c_len 1 sees_ow (fun (hn : N52 = x51.length) => ?_)
 subst hn
 refine c_seq (c_seq (c_region (lI R (lS R (lO (v_len sl122 R) (lO (vLt R R) (l_nil (q_next ?_))))))))
 rcases bif_ hr with ⟨hb56, hr⟩ | ⟨hb56, hr⟩
 refine c_true R hb56 (c_skip (q_next (c_seq (c_cut (A := (Int × (List Int)) × (HH)) (fun a => spec_l13Kernel_J2 p1 k8 x51 a55 a.1.1 a.1.2 = some out1) (fun a => [(2, (pt b13 0)), (3, (pt b14 0)), (5, (sc A21 ((([] : List Access) ++ k8.Loads) ++ ([k8.Store] : List Access)) D21)), (6, (.slice a.2.1 a.2.2.1 a.2.2.2)), (7, (iv (w64 ((k8.Loops.length : Int) - (1 : Int))))), (8, (iv a.1.1)), (9, (sc A24 (List.replicate (((([] : List Access) ++ k8.Loads) ++ ([k8.Store] : List Access)).length : Int).toNat (0 : Int)) D24)), (10, (iv a55))]) (fun a => OO (kT124).share 124 A21 D21 ((([] : List Access) ++ k8.Loads) ++ ([k8.Store] : List Access)) :: ow kT119 119 (.slice a.2.1 a.2.2.1 a.2.2.2) (x51 ++ ([(⟨(3 : Int), a55, (w64 ((ix p1.Offsets (ix ((([] : List Access) ++ k8.Loads) ++ ([k8.Store] : List Access)) a55).Buffer) + (ix ((([] : List Access) ++ k8.Loads) ++ ([k8.Store] : List Access)) a55).Offset)), (0 : Int)⟩ : Instr)] : List Instr)) :: ow kT3 3 (.slice A24 (List.replicate (((([] : List Access) ++ k8.Loads) ++ ([k8.Store] : List Access)).length : Int).toNat (0 : Int)).length D24) a.1.2 :: W1) ?_ ?_))))
 refine c_block (c_seq ?_)
 obtain ⟨hg57, hr⟩ := gd hr
 obtain ⟨hg60, hr⟩ := gd hr
 obtain ⟨hg64, hr⟩ := gd hr
 refine c_some 0 sees_sh (show 0 < ((([] : List Access) ++ k8.Loads) ++ ([k8.Store] : List Access)).length by have := hg57; omega) (fun g58 o59 ha => ?_)
 subst ha
 refine c_some 10 sees_rd (show 0 < p1.Offsets.length by have := hg60; omega) (fun g61 o62 ha => ?_)
 subst ha
 refine cdr 21 [1] mixo (fun ht hn => (dR 0 R (vS R) (hS := (sL [1])) (dR 1 R (vI R) (hS := (sL [1])) (dR 2 R (vFa 5 fo71_1 R) (hS := (sL [1])) (dR 3 R (vLd 3 ag29 R R R) (hS := (sL [1])) (dR 4 R (vS R) (hS := (sL [1])) (dR 5 R (vI R) (hS := (sL [1])) (dR 6 R (vIa sl122 sz124 R R hg57) (hS := (sL [1])) (dR 7 R (vz (.pointer (some ⟨g58, o59 + a55.toNat * 3, none⟩)) (v_fa fo124_0 R R)) (hS := (sL [1])) (dR 8 R (vz (iv (ix ((([] : List Access) ++ k8.Loads) ++ ([k8.Store] : List Access)) a55).Buffer) (v_lde (K := kT124) (fo := 0) (pr := fun x => (iv x.Buffer)) 0 a55 ag3 (dT124.leaf fun _ _ => R) sees_sh R hg57.1 hg57.2)) (hS := (sL [1])) (dR 9 R (vIa sl29 sz3 R R hg60) (hS := (sL [1])) (dR 10 R (vLi 9 ag3 sees_rd R hg60) (hS := (sL [1])) (dR 11 R (vS R) (hS := (sL [1])) (dR 12 R (vI R) (hS := (sL [1])) (dR 13 R (vIa sl122 sz124 R R hg57) (hS := (sL [1])) (dR 14 R (vz (.pointer (some ⟨g58, o59 + a55.toNat * 3 + 1, none⟩)) (v_fa fo124_1 R R)) (hS := (sL [1])) ?_))))))))))))))))
 refine dR 15 R (vz (iv (ix ((([] : List Access) ++ k8.Loads) ++ ([k8.Store] : List Access)) a55).Offset) (v_lde (K := kT124) (fo := 1) (pr := fun x => (iv x.Offset)) 0 a55 ag3 (dT124.leaf fun _ _ => R) sees_sh R hg57.1 hg57.2)) (hS := (sL [1])) (dR 16 R (vAd R R) (hS := (sL [1])) (dR 17 R (vz (.agg [(iv 3), (iv a55), (iv (w64 ((ix p1.Offsets (ix ((([] : List Access) ++ k8.Loads) ++ ([k8.Store] : List Access)) a55).Buffer) + (ix ((([] : List Access) ++ k8.Loads) ++ ([k8.Store] : List Access)) a55).Offset))), (iv 0)].toArray) (v_build pl119 zc119 R R)) (hS := (sL [1])) (d_one 18 (by kernel_rfl) R ?_)))
 refine l_build (K := kT119) (xs := ([(⟨(3 : Int), a55, (w64 ((ix p1.Offsets (ix ((([] : List Access) ++ k8.Loads) ++ ([k8.Store] : List Access)) a55).Buffer) + (ix ((([] : List Access) ++ k8.Loads) ++ ([k8.Store] : List Access)) a55).Offset)), (0 : Int)⟩ : Instr)] : List Instr)) (vs := [(.agg [(iv 3), (iv a55), (iv (w64 ((ix p1.Offsets (ix ((([] : List Access) ++ k8.Loads) ++ ([k8.Store] : List Access)) a55).Buffer) + (ix ((([] : List Access) ++ k8.Loads) ++ ([k8.Store] : List Access)) a55).Offset))), (iv 0)].toArray)]) 0 R R sl67 sz119 zc119 R R R R R R ?_ R (fun A63 D63 => ?_)
 exact fun I h s => (mO119).list [(((), (), (), ()), (⟨(3 : Int), a55, (w64 ((ix p1.Offsets (ix ((([] : List Access) ++ k8.Loads) ++ ([k8.Store] : List Access)) a55).Buffer) + (ix ((([] : List Access) ++ k8.Loads) ++ ([k8.Store] : List Access)) a55).Offset)), (0 : Int)⟩ : Instr))] I h s
 refine lN (OO kT119 119 A63 D63 ([(⟨(3 : Int), a55, (w64 ((ix p1.Offsets (ix ((([] : List Access) ++ k8.Loads) ++ ([k8.Store] : List Access)) a55).Buffer) + (ix ((([] : List Access) ++ k8.Loads) ++ ([k8.Store] : List Access)) a55).Offset)), (0 : Int)⟩ : Instr)] : List Instr) :: OO (kT124).share 124 (ad g58 o59) D21 ((([] : List Access) ++ k8.Loads) ++ ([k8.Store] : List Access)) :: OO kT119 119 A52 D52 x51 :: ow kT3 3 (.slice A24 (List.replicate (((([] : List Access) ++ k8.Loads) ++ ([k8.Store] : List Access)).length : Int).toNat (0 : Int)).length D24) steps54 :: W1) ?_
 refine l_nil (q_draw (sL [2, 0]) (d_one 19 (by kernel_rfl) R (lM (ow _ _ _ _ :: ow _ _ _ _ :: ow _ _ _ _ :: ow _ _ _ _ :: W1) (fun w s => (s.e 4 [2, 0, 1, 3])) ?_)))
 refine l_app (K := kT119) 4398046511104 R R sl67 sz119 by119 (Zr.zk zT119 zc119) R R R R R R src_ow hg64 (fun A65 D65 => (lN (OO kT119 119 A65 D65 (x51 ++ ([(⟨(3 : Int), a55, (w64 ((ix p1.Offsets (ix ((([] : List Access) ++ k8.Loads) ++ ([k8.Store] : List Access)) a55).Buffer) + (ix ((([] : List Access) ++ k8.Loads) ++ ([k8.Store] : List Access)) a55).Offset)), (0 : Int)⟩ : Instr)] : List Instr)) :: _ :: _ :: W1) ?_))
 refine l_nil (q_draw (sL [0]) (dR 20 R (vS R) (hS := (sL [0])) (d_done (by kernel_rfl) (q_next (c_seq (c_region (lI R (lO (vGe R R) (l_nil (q_next ?_))))))))))
 rcases bif_ hr with ⟨hb66, hr⟩ | ⟨hb66, hr⟩
 refine c_true R hb66 (c_seq ?_)
 obtain ⟨hg67, hr⟩ := gd hr
 refine c_region (lO (vFa 0 fo127_0 R) (lO (vLd 3 ag29 R R R) (lI R (t_some 11 sees_rd (show 0 < k8.Loops.length by have := hg67; omega) (fun g68 o69 ha => ?_)))))
 subst ha
 refine lO (vIa sl29 sz3 R R hg67) (lO (vLi 11 ag3 sees_rd R hg67) (lI R (l_nil (q_next ?_))))
 obtain ⟨hg71, hr⟩ := gd hr
 obtain ⟨hg74, hr⟩ := gd hr
 refine c_region (lS R (lI R (lS R (lI R (lO (vIa sl122 sz124 R R hg57) (lO (vz (.pointer (some ⟨g58, o59 + a55.toNat * 3 + 2, none⟩)) (v_fa fo124_2 R R)) (l_ldof (K := (kT124).share) (fo := 2) 1 a55 R R ag29 dT124.own (fun _ _ => R) R R hg57.1 hg57.2 ?_)))))))
 rintro ⟨-, -, ⟨A70, D70⟩⟩
 refine lN (RR kT3 A70 D70 ((ix ((([] : List Access) ++ k8.Loads) ++ ([k8.Store] : List Access)) a55).Steps) :: _ :: _ :: _ :: W1) ?_
 refine lI R (t_some 0 sees_rd (show 0 < ((ix ((([] : List Access) ++ k8.Loads) ++ ([k8.Store] : List Access)) a55).Steps).length by have := hg71; omega) (fun g72 o73 ha => ?_))
 subst ha
 refine lO (vIa sl29 sz3 R R hg71) (lO (vLi 0 ag3 sees_rd R hg71) (t_some 3 sees_ow (show 0 < (List.replicate (((([] : List Access) ++ k8.Loads) ++ ([k8.Store] : List Access)).length : Int).toNat (0 : Int)).length by have := hg74; omega) (fun g75 o76 ha => ?_)))
 subst ha
 refine lO (vIa sl29 sz3 R R hg74) (lM (ow kT3 3 (.slice (ad g75 o76) (List.replicate (((([] : List Access) ++ k8.Loads) ++ ([k8.Store] : List Access)).length : Int).toNat (0 : Int)).length D24) steps54 :: RR kT3 (ad g72 o73) D70 ((ix ((([] : List Access) ++ k8.Loads) ++ ([k8.Store] : List Access)) a55).Steps) :: ow _ _ _ _ :: ow _ _ _ _ :: W1) (fun w s => (s.e 4 [3, 0, 1, 2])) ?_)
 refine l_stx (K := kT3) (x' := (ix ((ix ((([] : List Access) ++ k8.Loads) ++ ([k8.Store] : List Access)) a55).Steps) (w64 ((k8.Loops.length : Int) - (1 : Int))))) 0 a55 R R sz3 R R hg74.1 hg74.2 ?_ ?_
 exact fun I h s => (mO3).put I h () (ix ((ix ((([] : List Access) ++ k8.Loads) ++ ([k8.Store] : List Access)) a55).Steps) (w64 ((k8.Loops.length : Int) - (1 : Int)))) s
 refine lN (ow kT3 3 (.slice (ad g75 o76) (List.replicate (((([] : List Access) ++ k8.Loads) ++ ([k8.Store] : List Access)).length : Int).toNat (0 : Int)).length D24) (steps54.set a55.toNat (ix ((ix ((([] : List Access) ++ k8.Loads) ++ ([k8.Store] : List Access)) a55).Steps) (w64 ((k8.Loops.length : Int) - (1 : Int))))) :: _ :: _ :: _ :: W1) ?_
 refine l_nil ?_
 obtain ⟨l77, hl78, hr⟩ := bd hr
 replace hl78 := Option.some.inj hl78
 refine qM (ow kT3 3 (.slice (ad g75 o76) (List.replicate (((([] : List Access) ++ k8.Loads) ++ ([k8.Store] : List Access)).length : Int).toNat (0 : Int)).length D24) l77 :: _ :: _ :: _ :: W1) (fun w s => by rw [← hl78]; exact s) ?_
 refine q_blockn ?_
 exact qI (((ix k8.Loops (w64 ((k8.Loops.length : Int) - (1 : Int)))), l77), (A65, (x51 ++ ([(⟨(3 : Int), a55, (w64 ((ix p1.Offsets (ix ((([] : List Access) ++ k8.Loads) ++ ([k8.Store] : List Access)) a55).Buffer) + (ix ((([] : List Access) ++ k8.Loads) ++ ([k8.Store] : List Access)) a55).Offset)), (0 : Int)⟩ : Instr)] : List Instr)).length, D65)) hr (fun w s => (s.e 4 [3, 2, 0]))
 refine c_false R hb66 (c_skip (q_blockn ?_))
 exact qI ((n53, steps54), (A65, (x51 ++ ([(⟨(3 : Int), a55, (w64 ((ix p1.Offsets (ix ((([] : List Access) ++ k8.Loads) ++ ([k8.Store] : List Access)) a55).Buffer) + (ix ((([] : List Access) ++ k8.Loads) ++ ([k8.Store] : List Access)) a55).Offset)), (0 : Int)⟩ : Instr)] : List Instr)).length, D65)) hr (fun w s => (s.e 3 [1, 0, 2]))
 rintro ⟨⟨n80, steps81⟩, ⟨A79, N79, D79⟩⟩ σ1 hr
 replace hr : spec_l13Kernel_J2 p1 k8 x51 a55 n80 steps81 = some out1 := hr
 unfold spec_l13Kernel_J2 at hr
 refine c_len 1 sees_ow (fun (hn : N79 = (x51 ++ ([(⟨(3 : Int), a55, (w64 ((ix p1.Offsets (ix ((([] : List Access) ++ k8.Loads) ++ ([k8.Store] : List Access)) a55).Buffer) + (ix ((([] : List Access) ++ k8.Loads) ++ ([k8.Store] : List Access)) a55).Offset)), (0 : Int)⟩ : Instr)] : List Instr)).length) => ?_)
 subst hn
 refine c_region (lI R (lO (vAd R R) (lI R (l_nil ?_))))
 obtain rfl := so hr
 exact qA (A79, (x51 ++ ([(⟨(3 : Int), a55, (w64 ((ix p1.Offsets (ix ((([] : List Access) ++ k8.Loads) ++ ([k8.Store] : List Access)) a55).Buffer) + (ix ((([] : List Access) ++ k8.Loads) ++ ([k8.Store] : List Access)) a55).Offset)), (0 : Int)⟩ : Instr)] : List Instr)).length, D79) (fun w s => s)
 refine c_false R hb56 (c_exit (q_exit ?_))
 obtain rfl := so hr
 obtain rfl := he1 _ R
 have hr := hk1
 refine q_exit (q_block ?_)
 exact qI ((x51, n53, steps54), (A52, x51.length, D52)) hr (fun w s => s)
 rintro ⟨⟨x87, n89, steps90⟩, ⟨A88, N88, D88⟩⟩ σ1 hr
 replace hr : spec_l13Kernel_J3 k8 x87 n89 steps90 = some r := hr
 unfold spec_l13Kernel_J3 at hr
 refine c_len 1 sees_ow (fun (hn : N88 = x87.length) => ?_)
 subst hn
 refine c_seq (c_cut (A := ((List Instr)) × (HH)) (fun a => spec_l13Kernel_J4 k8 n89 steps90 a.1 = some r) (fun a => [(3, (pt b14 0)), (5, (sc A21 ((([] : List Access) ++ k8.Loads) ++ ([k8.Store] : List Access)) D21)), (6, (.slice a.2.1 a.2.2.1 a.2.2.2)), (7, (iv (w64 ((k8.Loops.length : Int) - (1 : Int))))), (8, (iv n89)), (9, (sc A24 (List.replicate (((([] : List Access) ++ k8.Loads) ++ ([k8.Store] : List Access)).length : Int).toNat (0 : Int)) D24))]) (fun a => OO (kT124).share 124 A21 D21 ((([] : List Access) ++ k8.Loads) ++ ([k8.Store] : List Access)) :: ow kT119 119 (.slice a.2.1 a.2.2.1 a.2.2.2) a.1 :: ow kT3 3 (.slice A24 (List.replicate (((([] : List Access) ++ k8.Loads) ++ ([k8.Store] : List Access)).length : Int).toNat (0 : Int)).length D24) steps90 :: W1) ?_ ?_)
 refine c_seq (c_region (lI R (l_nil (q_next (c_block ?_)))))
 obtain ⟨e2, hl2, hk2⟩ := bd hr
 refine c_loop (A := HH) hl2 (fun s a => [(3, (pt b14 0)), (5, (sc A21 ((([] : List Access) ++ k8.Loads) ++ ([k8.Store] : List Access)) D21)), (6, (.slice a.1 a.2.1 a.2.2)), (7, (iv (w64 ((k8.Loops.length : Int) - (1 : Int))))), (8, (iv n89)), (9, (sc A24 (List.replicate (((([] : List Access) ++ k8.Loads) ++ ([k8.Store] : List Access)).length : Int).toNat (0 : Int)) D24)), (11, (iv s.2))]) (fun s a => OO (kT124).share 124 A21 D21 ((([] : List Access) ++ k8.Loads) ++ ([k8.Store] : List Access)) :: ow kT119 119 (.slice a.1 a.2.1 a.2.2) s.1 :: ow kT3 3 (.slice A24 (List.replicate (((([] : List Access) ++ k8.Loads) ++ ([k8.Store] : List Access)).length : Int).toNat (0 : Int)).length D24) steps90 :: W1) (A88, x87.length, D88) (aS R) (fun w s => s) ?_
 rintro ⟨x100, i102⟩ ⟨A101, N101, D101⟩ σ1 out2 hr he2
 replace hr : spec_l13Kernel_L2 k8 x100 i102 = some out2 := hr
 unfold spec_l13Kernel_L2 at hr
 refine c_len 1 sees_ow (fun (hn : N101 = x100.length) => ?_)
 subst hn
 refine c_seq (c_seq (c_region (lI R (lI R (lO (vLt R R) (l_nil (q_next ?_)))))))
 rcases bif_ hr with ⟨hb103, hr⟩ | ⟨hb103, hr⟩
 refine c_true R hb103 (c_skip (q_next (c_seq (c_block ?_))))
 obtain ⟨hg104, hr⟩ := gd hr
 obtain ⟨r107, hx108, hr⟩ := bd hr
 obtain ⟨hg110, hr⟩ := gd hr
 refine c_region (lS R (lO (vFa 0 fo127_0 R) (lO (vLd 3 ag29 R R R) (lI R (t_some 11 sees_rd (show 0 < k8.Loops.length by have := hg104; omega) (fun g105 o106 ha => ?_))))))
 subst ha
 refine lO (vIa sl29 sz3 R R hg104) (lO (vLi 11 ag3 sees_rd R hg104) (lC 0 cb148 R (spec_l13Rep_ok hx108) R ?_))
 rintro _
 refine lN (OO (kT124).share 124 A21 D21 ((([] : List Access) ++ k8.Loads) ++ ([k8.Store] : List Access)) :: OO kT119 119 A101 D101 x100 :: ow kT3 3 (.slice A24 (List.replicate (((([] : List Access) ++ k8.Loads) ++ ([k8.Store] : List Access)).length : Int).toNat (0 : Int)).length D24) steps90 :: W1) ?_
 refine l_build (K := kT119) (xs := ([r107] : List Instr)) (vs := [(.agg [(iv r107.Op), (iv r107.A), (iv r107.B), (iv r107.C)].toArray)]) 0 R R sl67 sz119 zc119 R R R R R R ?_ R (fun A109 D109 => ?_)
 exact fun I h s => (mO119).list [(((), (), (), ()), r107)] I h s
 refine lN (OO kT119 119 A109 D109 ([r107] : List Instr) :: _ :: _ :: _ :: W1) ?_
 refine lM (ow _ _ _ _ :: ow _ _ _ _ :: ow _ _ _ _ :: ow _ _ _ _ :: W1) (fun w s => (s.e 4 [2, 0, 1, 3])) ?_
 refine l_app (K := kT119) 4398046511104 R R sl67 sz119 by119 (Zr.zk zT119 zc119) R R R R R R src_ow hg110 (fun A111 D111 => (lN (OO kT119 119 A111 D111 (x100 ++ ([r107] : List Instr)) :: _ :: _ :: W1) ?_))
 refine lS R (l_nil (q_blockn (q_next (c_region (lI R (lO (vAd R R) (lI R (l_nil ?_))))))))
 obtain rfl := so hr
 exact qA (A111, (x100 ++ ([r107] : List Instr)).length, D111) (fun w s => (s.e 3 [1, 0, 2]))
 refine c_false R hb103 (c_exit (q_exit ?_))
 obtain rfl := so hr
 obtain rfl := he2 _ R
 have hr := hk2
 refine q_exit (q_block ?_)
 exact qI (x100, (A101, x100.length, D101)) hr (fun w s => s)
 rintro ⟨x115, ⟨A116, N116, D116⟩⟩ σ1 hr
 replace hr : spec_l13Kernel_J4 k8 n89 steps90 x115 = some r := hr
 unfold spec_l13Kernel_J4 at hr
 refine c_len 1 sees_ow (fun (hn : N116 = x115.length) => ?_)
 subst hn
 refine c_seq ?_
 obtain ⟨r117, hx118, hr⟩ := bd hr
 obtain ⟨r120, hx121, hr⟩ := bd hr
 obtain ⟨hg123, hr⟩ := gd hr
 refine c_region (lS R (lI R (lO (vz (.agg [(sc A9 k8.Loops D9), (sc A10 k8.Loads D10), (iv k8.Store.Buffer), (iv k8.Store.Offset), (sc A11 k8.Store.Steps D11), (.bool k8.Sum), (sc A12 k8.Code D12)].toArray) (v_loadw 3 ag127 sz127 R R R R)) (lS R (lM (ow _ _ _ _ :: RR kT3 A9 D9 k8.Loops :: RR kT124 A10 D10 k8.Loads :: RR kT3 A11 D11 k8.Store.Steps :: RR kT216 A12 D12 k8.Code :: ow _ _ _ _ :: OO kT119 119 A116 D116 x115 :: W1) (fun w s => (((((s.d 11 R).d 13 R).d 15 R).d 17 R).e 7 [6, 3, 2, 1, 0, 4, 5])) ?_)))))
 refine lC 5 cb150 R (FnOk.lends (A' := [ow kT3 3 (.slice A24 (List.replicate (((([] : List Access) ++ k8.Loads) ++ ([k8.Store] : List Access)).length : Int).toNat (0 : Int)).length D24) steps90]) (A := [rds kT3 (.slice A24 (List.replicate (((([] : List Access) ++ k8.Loads) ++ ([k8.Store] : List Access)).length : Int).toNat (0 : Int)).length D24) steps90]) (B := [RR kT3 A9 D9 k8.Loops, RR kT124 A10 D10 k8.Loads, RR kT3 A11 D11 k8.Store.Steps, RR kT216 A12 D12 k8.Code]) (FnOk.perm (spec_l13Body_ok hx118) (Pre' := [rds kT3 (.slice A24 (List.replicate (((([] : List Access) ++ k8.Loads) ++ ([k8.Store] : List Access)).length : Int).toNat (0 : Int)).length D24) steps90, RR kT3 A9 D9 k8.Loops, RR kT124 A10 D10 k8.Loads, RR kT3 A11 D11 k8.Store.Steps, RR kT216 A12 D12 k8.Code]) (fun _ _ _ s => (s.f 5 [1, 4, 0, 1]))) ⟨lend_ow, trivial⟩ (fun _ => ⟨(closed_ow cT119), trivial⟩)) R ?_
 rintro ⟨A119, N119, D119⟩
 refine lN (_ :: ow kT119 119 (.slice A119 N119 D119) r117 :: _ :: _ :: W1) ?_
 refine l_len 1 sees_ow ?_
 rintro rfl
 refine lS R (lM (ow _ _ _ _ :: ow _ _ _ _ :: ow _ _ _ _ :: ow _ _ _ _ :: W1) (fun w s => (s.e 4 [1, 0, 2, 3])) ?_)
 refine lC 2 cb86 R (FnOk.lends (A' := [OO kT119 119 A119 D119 r117, ow kT3 3 (.slice A24 (List.replicate (((([] : List Access) ++ k8.Loads) ++ ([k8.Store] : List Access)).length : Int).toNat (0 : Int)).length D24) steps90]) (A := [RR kT119 A119 D119 r117, rds kT3 (.slice A24 (List.replicate (((([] : List Access) ++ k8.Loads) ++ ([k8.Store] : List Access)).length : Int).toNat (0 : Int)).length D24) steps90]) (B := []) (spec_l13Chunks_ok hx121) ⟨lend_ow, lend_ow, trivial⟩ (fun _ => ⟨(closed_ow cT119), trivial⟩)) R ?_
 rintro ⟨A122, N122, D122⟩
 refine lN (_ :: _ :: ow kT119 119 (.slice A122 N122 D122) r120 :: _ :: _ :: W1) ?_
 refine l_len 2 sees_ow ?_
 rintro rfl
 refine lM (ow _ _ _ _ :: ow _ _ _ _ :: ow _ _ _ _ :: ow _ _ _ _ :: ow _ _ _ _ :: W1) (fun w s => (s.e 5 [4, 2, 0, 1, 3])) ?_
 refine l_app (K := kT119) 4398046511104 R R sl67 sz119 by119 (Zr.zk zT119 zc119) R R R R R R src_ow hg123 (fun A124 D124 => (lN (OO kT119 119 A124 D124 (x115 ++ r120) :: _ :: _ :: _ :: W1) ?_))
 refine lS R (l_nil (q_next (c_seq ?_)))
 obtain ⟨r125, hx126, hr⟩ := bd hr
 obtain ⟨hg128, hr⟩ := gd hr
 refine c_region (lS R (lS R (lI R (lO (vz (iv (w64 (n89.tdiv (8 : Int)))) (v_quo R R (by decide))) (lO (vMu R R) (lO (vp (iv (w64 (0 - (w64 ((w64 (n89.tdiv (8 : Int))) * (8 : Int)))))) R) (lM (ow _ _ _ _ :: ow _ _ _ _ :: ow _ _ _ _ :: ow _ _ _ _ :: W1) (fun w s => (s.e 4 [2, 0, 1, 3])) ?_)))))))
 refine lC 1 cb149 R (FnOk.lends (A' := [ow kT3 3 (.slice A24 (List.replicate (((([] : List Access) ++ k8.Loads) ++ ([k8.Store] : List Access)).length : Int).toNat (0 : Int)).length D24) steps90]) (A := [rds kT3 (.slice A24 (List.replicate (((([] : List Access) ++ k8.Loads) ++ ([k8.Store] : List Access)).length : Int).toNat (0 : Int)).length D24) steps90]) (B := []) (spec_l13Moves_ok hx126) ⟨lend_ow, trivial⟩ (fun _ => ⟨(closed_ow cT119), trivial⟩)) R ?_
 rintro ⟨A127, N127, D127⟩
 refine lN (_ :: ow kT119 119 (.slice A127 N127 D127) r125 :: _ :: _ :: _ :: W1) ?_
 refine l_len 1 sees_ow ?_
 rintro rfl
 refine lM (ow _ _ _ _ :: ow _ _ _ _ :: ow _ _ _ _ :: ow _ _ _ _ :: ow _ _ _ _ :: W1) (fun w s => (s.e 5 [2, 1, 0, 3, 4])) ?_
 refine l_app (K := kT119) 4398046511104 R R sl67 sz119 by119 (Zr.zk zT119 zc119) R R R R R R src_ow hg128 (fun A129 D129 => (lN (OO kT119 119 A129 D129 ((x115 ++ r120) ++ r125) :: _ :: _ :: _ :: W1) ?_))
 refine lS R (l_nil (q_next (c_seq (c_cut (A := ((List Instr)) × (HH)) (fun a => spec_l13Kernel_J7 a.1 = some r) (fun a => [(6, (.slice a.2.1 a.2.2.1 a.2.2.2))]) (fun a => ow kT119 119 (.slice a.2.1 a.2.2.1 a.2.2.2) a.1 :: W1) ?_ ?_))))
 refine c_seq (c_region (lI R (lO (vSb R R) (lI R (l_nil (q_next (c_block ?_)))))))
 obtain ⟨e3, hl3, hk3⟩ := bd hr
 refine c_loop (A := HH) hl3 (fun s a => [(3, (pt b14 0)), (5, (sc A21 ((([] : List Access) ++ k8.Loads) ++ ([k8.Store] : List Access)) D21)), (6, (.slice a.1 a.2.1 a.2.2)), (12, (iv s.2))]) (fun s a => OO (kT124).share 124 A21 D21 ((([] : List Access) ++ k8.Loads) ++ ([k8.Store] : List Access)) :: ow kT119 119 (.slice a.1 a.2.1 a.2.2) s.1 :: W1) (A129, ((x115 ++ r120) ++ r125).length, D129) (aS R) (fun w s => (s.e 4 [3, 0])) ?_
 rintro ⟨x178, i180⟩ ⟨A179, N179, D179⟩ σ1 out3 hr he3
 replace hr : spec_l13Kernel_L3 k8 x178 i180 = some out3 := hr
 unfold spec_l13Kernel_L3 at hr
 refine c_len 1 sees_ow (fun (hn : N179 = x178.length) => ?_)
 subst hn
 refine c_seq (c_seq (c_region (lI R (lO (vGe R R) (l_nil (q_next ?_))))))
 rcases bif_ hr with ⟨hb181, hr⟩ | ⟨hb181, hr⟩
 refine c_true R hb181 (c_skip (q_next (c_seq (c_block (c_seq (c_region (l_build (K := kT3) (xs := ([] : List Int)) (vs := []) 0 R R sl29 sz3 zc3 R R R R R R ?_ R (fun A182 D182 => ?_))))))))
 exact fun I h s => (mO3).list [] I h s
 refine lN (OO kT3 3 A182 D182 ([] : List Int) :: _ :: OO kT119 119 A179 D179 x178 :: W1) ?_
 refine lS R (l_nil (q_next (c_seq (c_cut (A := ((List Int)) × (HH)) (fun a => spec_l13Kernel_J6 k8 x178 i180 a.1 = some out3) (fun a => [(3, (pt b14 0)), (5, (sc A21 ((([] : List Access) ++ k8.Loads) ++ ([k8.Store] : List Access)) D21)), (6, (sc A179 x178 D179)), (12, (iv i180)), (13, (.slice a.2.1 a.2.2.1 a.2.2.2))]) (fun a => OO (kT124).share 124 A21 D21 ((([] : List Access) ++ k8.Loads) ++ ([k8.Store] : List Access)) :: OO kT119 119 A179 D179 x178 :: ow kT3 3 (.slice a.2.1 a.2.2.1 a.2.2.2) a.1 :: W1) ?_ ?_))))
 refine c_seq (c_region (lI R (l_nil (q_next (c_block ?_)))))
 obtain ⟨e4, hl4, hk4⟩ := bd hr
 refine c_loop (A := HH) hl4 (fun s a => [(3, (pt b14 0)), (5, (sc A21 ((([] : List Access) ++ k8.Loads) ++ ([k8.Store] : List Access)) D21)), (6, (sc A179 x178 D179)), (12, (iv i180)), (13, (.slice a.1 a.2.1 a.2.2)), (14, (iv s.2))]) (fun s a => OO (kT124).share 124 A21 D21 ((([] : List Access) ++ k8.Loads) ++ ([k8.Store] : List Access)) :: OO kT119 119 A179 D179 x178 :: ow kT3 3 (.slice a.1 a.2.1 a.2.2) s.1 :: W1) (A182, ([] : List Int).length, D182) (aS R) (fun w s => (s.e 3 [1, 2, 0])) ?_
 rintro ⟨loop194, a196⟩ ⟨A195, N195, D195⟩ σ1 out4 hr he4
 replace hr : spec_l13Kernel_L4 k8 i180 loop194 a196 = some out4 := hr
 unfold spec_l13Kernel_L4 at hr
 refine c_len 2 sees_ow (fun (hn : N195 = loop194.length) => ?_)
 subst hn
 refine c_seq (c_seq (c_region (lI R (lS R (lO (v_len sl122 R) (lO (vLt R R) (l_nil (q_next ?_))))))))
 rcases bif_ hr with ⟨hb197, hr⟩ | ⟨hb197, hr⟩
 refine c_true R hb197 (c_skip (q_next (c_seq (c_block ?_))))
 obtain ⟨hg198, hr⟩ := gd hr
 obtain ⟨hg202, hr⟩ := gd hr
 obtain ⟨hg206, hr⟩ := gd hr
 refine c_region (lS R (lS R (lI R (t_some 0 sees_sh (show 0 < ((([] : List Access) ++ k8.Loads) ++ ([k8.Store] : List Access)).length by have := hg198; omega) (fun g199 o200 ha => ?_)))))
 subst ha
 refine lO (vIa sl122 sz124 R R hg198) (lO (vz (.pointer (some ⟨g199, o200 + a196.toNat * 3 + 2, none⟩)) (v_fa fo124_2 R R)) (l_ldof (K := (kT124).share) (fo := 2) 0 a196 R R ag29 dT124.own (fun _ _ => R) R R hg198.1 hg198.2 ?_))
 rintro ⟨-, -, ⟨A201, D201⟩⟩
 refine lN (RR kT3 A201 D201 ((ix ((([] : List Access) ++ k8.Loads) ++ ([k8.Store] : List Access)) a196).Steps) :: OO (kT124).share 124 (ad g199 o200) D21 ((([] : List Access) ++ k8.Loads) ++ ([k8.Store] : List Access)) :: _ :: OO kT3 3 A195 D195 loop194 :: W1) ?_
 refine lI R (t_some 0 sees_rd (show 0 < ((ix ((([] : List Access) ++ k8.Loads) ++ ([k8.Store] : List Access)) a196).Steps).length by have := hg202; omega) (fun g203 o204 ha => ?_))
 subst ha
 refine lO (vIa sl29 sz3 R R hg202) (lO (vLi 0 ag3 sees_rd R hg202) (l_build (K := kT3) (xs := ([(ix ((ix ((([] : List Access) ++ k8.Loads) ++ ([k8.Store] : List Access)) a196).Steps) i180)] : List Int)) (vs := [(iv (ix ((ix ((([] : List Access) ++ k8.Loads) ++ ([k8.Store] : List Access)) a196).Steps) i180))]) 0 R R sl29 sz3 zc3 R R R R R R ?_ R (fun A205 D205 => ?_)))
 exact fun I h s => (mO3).list [((), (ix ((ix ((([] : List Access) ++ k8.Loads) ++ ([k8.Store] : List Access)) a196).Steps) i180))] I h s
 refine lN (OO kT3 3 A205 D205 ([(ix ((ix ((([] : List Access) ++ k8.Loads) ++ ([k8.Store] : List Access)) a196).Steps) i180)] : List Int) :: RR kT3 (ad g203 o204) D201 ((ix ((([] : List Access) ++ k8.Loads) ++ ([k8.Store] : List Access)) a196).Steps) :: _ :: _ :: _ :: W1) ?_
 refine lM (ow _ _ _ _ :: ow _ _ _ _ :: rds _ _ _ :: ow _ _ _ _ :: ow _ _ _ _ :: W1) (fun w s => (s.f 5 [4, 1, 0, 4])) ?_
 refine l_app (K := kT3) 17592186044416 R R sl29 sz3 by3 (Zr.zk zT3 zc3) R R R R R R src_ow hg206 (fun A207 D207 => (lN (OO kT3 3 A207 D207 (loop194 ++ ([(ix ((ix ((([] : List Access) ++ k8.Loads) ++ ([k8.Store] : List Access)) a196).Steps) i180)] : List Int)) :: _ :: _ :: _ :: W1) ?_))
 refine lS R (l_nil (q_blockn (q_next (c_region (lI R (lO (vAd R R) (lI R (l_nil ?_))))))))
 obtain rfl := so hr
 exact qA (A207, (loop194 ++ ([(ix ((ix ((([] : List Access) ++ k8.Loads) ++ ([k8.Store] : List Access)) a196).Steps) i180)] : List Int)).length, D207) (fun w s => (s.e 4 [2, 3, 0]))
 refine c_false R hb197 (c_exit (q_exit ?_))
 obtain rfl := so hr
 obtain rfl := he4 _ R
 have hr := hk4
 refine q_exit (q_block ?_)
 exact qI (loop194, (A195, loop194.length, D195)) hr (fun w s => s)
 rintro ⟨loop211, ⟨A212, N212, D212⟩⟩ σ1 hr
 replace hr : spec_l13Kernel_J6 k8 x178 i180 loop211 = some out3 := hr
 unfold spec_l13Kernel_J6 at hr
 refine c_len 2 sees_ow (fun (hn : N212 = loop211.length) => ?_)
 subst hn
 refine c_seq ?_
 obtain ⟨r213, hx214, hr⟩ := bd hr
 obtain ⟨hg216, hr⟩ := gd hr
 refine c_region (lS R (lS R (lM (OO kT3 3 A212 D212 loop211 :: OO (kT124).share 124 A21 D21 ((([] : List Access) ++ k8.Loads) ++ ([k8.Store] : List Access)) :: ow _ _ _ _ :: W1) (fun w s => (s.e 3 [2, 0, 1])) ?_)))
 refine lC 1 cb149 R (FnOk.lends (A' := [OO kT3 3 A212 D212 loop211]) (A := [RR kT3 A212 D212 loop211]) (B := []) (spec_l13Moves_ok hx214) ⟨lend_ow, trivial⟩ (fun _ => ⟨(closed_ow cT119), trivial⟩)) R ?_
 rintro ⟨A215, N215, D215⟩
 refine lN (_ :: ow kT119 119 (.slice A215 N215 D215) r213 :: _ :: _ :: W1) ?_
 refine l_len 1 sees_ow ?_
 rintro rfl
 refine lM (ow _ _ _ _ :: ow _ _ _ _ :: ow _ _ _ _ :: ow _ _ _ _ :: W1) (fun w s => (s.e 4 [3, 1, 0, 2])) ?_
 refine l_app (K := kT119) 4398046511104 R R sl67 sz119 by119 (Zr.zk zT119 zc119) R R R R R R src_ow hg216 (fun A217 D217 => (lN (OO kT119 119 A217 D217 (x178 ++ r213) :: _ :: _ :: W1) ?_))
 refine lS R (l_nil (q_next (c_seq ?_)))
 obtain ⟨hg219, hr⟩ := gd hr
 refine c_region (lS R (lO (vz (.agg [(iv 2), (iv 0), (iv 0), (iv 0)].toArray) (v_build pl119 zc119 R R)) (l_build (K := kT119) (xs := ([(⟨(2 : Int), (0 : Int), (0 : Int), (0 : Int)⟩ : Instr)] : List Instr)) (vs := [(.agg [(iv 2), (iv 0), (iv 0), (iv 0)].toArray)]) 0 R R sl67 sz119 zc119 R R R R R R ?_ R (fun A218 D218 => ?_))))
 exact fun I h s => (mO119).list [(((), (), (), ()), (⟨(2 : Int), (0 : Int), (0 : Int), (0 : Int)⟩ : Instr))] I h s
 refine lN (OO kT119 119 A218 D218 ([(⟨(2 : Int), (0 : Int), (0 : Int), (0 : Int)⟩ : Instr)] : List Instr) :: _ :: _ :: _ :: W1) ?_
 refine lM (ow _ _ _ _ :: ow _ _ _ _ :: ow _ _ _ _ :: ow _ _ _ _ :: W1) (fun w s => (s.e 4 [1, 0, 2, 3])) ?_
 refine l_app (K := kT119) 4398046511104 R R sl67 sz119 by119 (Zr.zk zT119 zc119) R R R R R R src_ow hg219 (fun A220 D220 => (lN (OO kT119 119 A220 D220 ((x178 ++ r213) ++ ([(⟨(2 : Int), (0 : Int), (0 : Int), (0 : Int)⟩ : Instr)] : List Instr)) :: _ :: _ :: W1) ?_))
 refine lS R (l_nil (q_next ?_))
 obtain ⟨hg221, hr⟩ := gd hr
 obtain ⟨r224, hx225, hr⟩ := bd hr
 obtain ⟨hg227, hr⟩ := gd hr
 refine c_region (lS R (lS R (lO (vFa 0 fo127_0 R) (lO (vLd 3 ag29 R R R) (lI R (t_some 11 sees_rd (show 0 < k8.Loops.length by have := hg221; omega) (fun g222 o223 ha => ?_)))))))
 subst ha
 refine lO (vIa sl29 sz3 R R hg221) (lO (vLi 11 ag3 sees_rd R hg221) (lO (vp (iv (w64 (0 - (ix k8.Loops i180)))) R) (lM (ow _ _ _ _ :: ow _ _ _ _ :: ow _ _ _ _ :: W1) (fun w s => (s.e 3 [1, 0, 2])) ?_)))
 refine lC 1 cb149 R (FnOk.lends (A' := [OO kT3 3 A212 D212 loop211]) (A := [RR kT3 A212 D212 loop211]) (B := []) (spec_l13Moves_ok hx225) ⟨lend_ow, trivial⟩ (fun _ => ⟨(closed_ow cT119), trivial⟩)) R ?_
 rintro ⟨A226, N226, D226⟩
 refine lN (_ :: ow kT119 119 (.slice A226 N226 D226) r224 :: _ :: _ :: W1) ?_
 refine l_len 1 sees_ow ?_
 rintro rfl
 refine lM (ow _ _ _ _ :: ow _ _ _ _ :: ow _ _ _ _ :: ow _ _ _ _ :: W1) (fun w s => (s.e 4 [2, 1, 0, 3])) ?_
 refine l_app (K := kT119) 4398046511104 R R sl67 sz119 by119 (Zr.zk zT119 zc119) R R R R R R src_ow hg227 (fun A228 D228 => (lN (OO kT119 119 A228 D228 (((x178 ++ r213) ++ ([(⟨(2 : Int), (0 : Int), (0 : Int), (0 : Int)⟩ : Instr)] : List Instr)) ++ r224) :: _ :: _ :: W1) ?_))
 refine lS R (l_nil (q_blockn (q_next (c_region (lI R (lO (vSb R R) (lI R (l_nil ?_))))))))
 obtain rfl := so hr
 exact qA (A228, (((x178 ++ r213) ++ ([(⟨(2 : Int), (0 : Int), (0 : Int), (0 : Int)⟩ : Instr)] : List Instr)) ++ r224).length, D228) (fun w s => (s.e 3 [2, 0]))
 refine c_false R hb181 (c_exit (q_exit ?_))
 obtain rfl := so hr
 obtain rfl := he3 _ R
 have hr := hk3
 refine q_exit (q_block ?_)
 exact qI (x178, (A179, x178.length, D179)) hr (fun w s => (s.e 2 [1]))
 rintro ⟨x232, ⟨A233, N233, D233⟩⟩ σ1 hr
 replace hr : spec_l13Kernel_J7 x232 = some r := hr
 unfold spec_l13Kernel_J7 at hr
 refine c_len 0 sees_ow (fun (hn : N233 = x232.length) => ?_)
 subst hn
 refine c_seq (c_region (lS R (lS R (l_nil (q_next (c_ret ?_))))))
 obtain rfl := so hr
 exact qF (A233, x232.length, D233) (fun w s => (s.e 13 [0]))
theorem spec_Compile_ok {p1 : Plan} {r : (List Instr) × Bool} (hr : spec_Compile p1 = some r) :
 FnOk Try.prog 30 [(.agg [(.slice A2 N2 D2), (.slice A3 N3 D3), (.slice A4 N4 D4), (.slice A5 N5 D5), (.slice A6 N6 D6), (.slice A7 N7 D7), (iv p1.Arena)].toArray)] [rds kT3 (.slice A2 N2 D2) p1.Nest.Sizes, rds kT3 (.slice A3 N3 D3) p1.Nest.Ins, rds kT159 (.slice A4 N4 D4) p1.Nest.Fixed, rds kT127 (.slice A5 N5 D5) p1.Nest.Kernels, rds kT3 (.slice A6 N6 D6) p1.Nest.Outs, rds kT3 (.slice A7 N7 D7) p1.Offsets] (fun (h : HH) => ((.tuple [(.slice h.1 h.2.1 h.2.2), (.bool r.2)].toArray), [ow kT119 119 (.slice h.1 h.2.1 h.2.2) r.1])) := by
 unfold spec_Compile at hr
 refine fn_ok Try.func30 R 93 R R fun C V => ?_
 refine cN (_ :: _ :: _ :: _ :: _ :: _ :: V) ?_
 refine cL 0 sees_rd ?_
 rintro rfl
 refine cL 1 sees_rd ?_
 rintro rfl
 refine cL 2 sees_rd ?_
 rintro rfl
 refine cL 3 sees_rd ?_
 rintro rfl
 refine cL 4 sees_rd ?_
 rintro rfl
 refine cL 5 sees_rd ?_
 rintro rfl
 let W0 : List HP := RR kT3 A2 D2 p1.Nest.Sizes :: RR kT3 A3 D3 p1.Nest.Ins :: RR kT159 A4 D4 p1.Nest.Fixed :: RR kT127 A5 D5 p1.Nest.Kernels :: RR kT3 A6 D6 p1.Nest.Outs :: RR kT3 A7 D7 p1.Offsets :: V
 refine cN W0 ?_
 refine c_seq (c_region (lBx R (fun b8 => (lS R (lB R (l_nil ?_))))))
 let W1 : List HP := bxl b8 [(sc A2 p1.Nest.Sizes D2), (sc A3 p1.Nest.Ins D3), (sc A4 p1.Nest.Fixed D4), (sc A5 p1.Nest.Kernels D5), (sc A6 p1.Nest.Outs D6), (sc A7 p1.Offsets D7), (iv p1.Arena)] 71 :: W0
 refine qN W1 ?_
 refine q_next (c_seq (c_region (l_build (K := kT119) (xs := ([] : List Instr)) (vs := []) 0 R R sl67 sz119 zc119 R R R R R R ?_ R (fun A9 D9 => ?_))))
 exact fun I h s => (mO119).list [] I h s
 refine lN (OO kT119 119 A9 D9 ([] : List Instr) :: W1) ?_
 refine lS R (l_nil (q_next (c_seq (c_seq ?_))))
 obtain ⟨r10, hx11, hr⟩ := bd hr
 refine c_region (lO (vz (.agg [(sc A2 p1.Nest.Sizes D2), (sc A3 p1.Nest.Ins D3), (sc A4 p1.Nest.Fixed D4), (sc A5 p1.Nest.Kernels D5), (sc A6 p1.Nest.Outs D6), (sc A7 p1.Offsets D7), (iv p1.Arena)].toArray) (v_loadw 1 ag71 sz71 R R R R)) (lM (RR kT3 A2 D2 p1.Nest.Sizes :: RR kT3 A3 D3 p1.Nest.Ins :: RR kT159 A4 D4 p1.Nest.Fixed :: RR kT127 A5 D5 p1.Nest.Kernels :: RR kT3 A6 D6 p1.Nest.Outs :: RR kT3 A7 D7 p1.Offsets :: ow _ _ _ _ :: W1) (fun w s => (((((((s.d 2 R).d 4 R).d 6 R).d 8 R).d 10 R).d 12 R).e 7 [5, 4, 3, 2, 1, 0, 6])) ?_))
 refine lC 6 cb83 R (spec_PlanOk_ok hx11) R ?_
 rintro _
 refine lN (_ :: W1) ?_
 refine lO (vNo R) (l_nil (q_next ?_))
 rcases bif_ hr with ⟨hb12, hr⟩ | ⟨hb12, hr⟩
 refine c_true R hb12 (c_seq (c_region (lS R (lS R (lB R (l_nil (q_next (c_ret (q_ret ?_)))))))))
 obtain rfl := so hr
 exact q_fin (vs := [(sc A9 ([] : List Instr) D9), (.bool false)]) (.inl R) (A9, ([] : List Instr).length, D9) R ⟨R, R, trivial⟩ R (fun w s => (s.e 8 [0]))
 refine c_false R hb12 (c_skip (q_next (c_seq (c_cut (A := ((List Instr)) × (HH)) (fun a => spec_Compile_J9 a.1 = some r) (fun a => [(4, (.slice a.2.1 a.2.2.1 a.2.2.2))]) (fun a => ow kT119 119 (.slice a.2.1 a.2.2.1 a.2.2.2) a.1 :: W1) ?_ ?_))))
 refine c_seq (c_region (lI R (l_nil (q_next (c_block ?_)))))
 obtain ⟨e1, hl1, hk1⟩ := bd hr
 refine c_loop (A := HH) hl1 (fun s a => [(1, (pt b8 0)), (4, (.slice a.1 a.2.1 a.2.2)), (5, (iv s.2))]) (fun s a => ow kT119 119 (.slice a.1 a.2.1 a.2.2) s.1 :: W1) (A9, ([] : List Instr).length, D9) (aS R) (fun w s => s) ?_
 rintro ⟨x86, t88⟩ ⟨A87, N87, D87⟩ σ1 out1 hr he1
 replace hr : spec_Compile_L1 p1 x86 t88 = some out1 := hr
 unfold spec_Compile_L1 at hr
 refine c_len 0 sees_ow (fun (hn : N87 = x86.length) => ?_)
 subst hn
 refine c_seq (c_seq (cQ [(1, (pt b8 0)), (4, (sc A87 x86 D87)), (5, (iv t88)), (23, (.bool ((t88 == (0 : Int)) || (decide (t88 < (p1.Nest.Kernels.length : Int))))))] (OO kT119 119 A87 D87 x86 :: W1) ?_ ?_))
 refine c_region (lI R (lO (vEq R R) (lB R ?_)))
 rcases bo (t88 == (0 : Int)) with hc89 | hc89
 refine lf (wfT hc89) (lf (wfT hc89) (lf (wfT hc89) (lf (wfT hc89) (lf (wfT hc89) (lf (wfT hc89) (lO (pOT (decide (t88 < (p1.Nest.Kernels.length : Int))) R hc89) (l_nil ?_)))))))
 exact qJ (fun w s => s)
 refine lW (wnF hc89) (vI R) (lW (wnF hc89) (vFa 0 fo71_0 R) (lW (wnF hc89) (vFa 3 fo58_3 R) (lW (wnF hc89) (vLd 1 ag56 R R R) (lW (wnF hc89) (v_len sl56 R) (lW (wnF hc89) (vLt R R) (lO (pOF R hc89 R) (l_nil ?_)))))))
 exact qJ (fun w s => s)
 rintro σ1
 refine q_next ?_
 rcases bif_ hr with ⟨hb90, hr⟩ | ⟨hb90, hr⟩
 refine c_true R hb90 (c_skip (q_next (c_seq (c_cut (A := ((List Instr)) × (HH)) (fun a => spec_Compile_J8 t88 a.1 = some out1) (fun a => [(1, (pt b8 0)), (4, (.slice a.2.1 a.2.2.1 a.2.2.2)), (5, (iv t88))]) (fun a => ow kT119 119 (.slice a.2.1 a.2.2.1 a.2.2.2) a.1 :: W1) ?_ ?_))))
 refine c_block (c_seq (c_cut (A := ((List Instr)) × (HH)) (fun a => spec_Compile_J7 p1 t88 a.1 = some out1) (fun a => [(1, (pt b8 0)), (4, (.slice a.2.1 a.2.2.1 a.2.2.2)), (5, (iv t88))]) (fun a => ow kT119 119 (.slice a.2.1 a.2.2.1 a.2.2.2) a.1 :: W1) ?_ ?_))
 refine c_seq (c_region (lI R (l_nil (q_next (c_block ?_)))))
 obtain ⟨e2, hl2, hk2⟩ := bd hr
 refine c_loop (A := HH) hl2 (fun s a => [(1, (pt b8 0)), (4, (.slice a.1 a.2.1 a.2.2)), (5, (iv t88)), (6, (iv s.2))]) (fun s a => ow kT119 119 (.slice a.1 a.2.1 a.2.2) s.1 :: W1) (A87, x86.length, D87) (aS R) (fun w s => s) ?_
 rintro ⟨x115, b117⟩ ⟨A116, N116, D116⟩ σ1 out2 hr he2
 replace hr : spec_Compile_L2 p1 t88 x115 b117 = some out2 := hr
 unfold spec_Compile_L2 at hr
 refine c_len 0 sees_ow (fun (hn : N116 = x115.length) => ?_)
 subst hn
 refine c_seq (c_seq (c_region (lI R (lO (vFa 5 fo71_1 R) (lO (vLd 1 ag29 R R R) (lO (v_len sl29 R) (lO (vLt R R) (l_nil (q_next ?_)))))))))
 rcases bif_ hr with ⟨hb118, hr⟩ | ⟨hb118, hr⟩
 refine c_true R hb118 (c_skip (q_next (c_seq (c_cut (A := ((List Instr)) × (HH)) (fun a => spec_Compile_J6 b117 a.1 = some out2) (fun a => [(1, (pt b8 0)), (4, (.slice a.2.1 a.2.2.1 a.2.2.2)), (5, (iv t88)), (6, (iv b117))]) (fun a => ow kT119 119 (.slice a.2.1 a.2.2.1 a.2.2.2) a.1 :: W1) ?_ ?_))))
 refine c_block (c_seq ?_)
 obtain ⟨r119, hx120, hr⟩ := bd hr
 refine c_region (lO (vFa 0 fo71_0 R) (lO (vz (.agg [(sc A2 p1.Nest.Sizes D2), (sc A3 p1.Nest.Ins D3), (sc A4 p1.Nest.Fixed D4), (sc A5 p1.Nest.Kernels D5), (sc A6 p1.Nest.Outs D6)].toArray) (v_loadw 1 ag58 sz58 R R R R)) (lI R (lM (RR kT3 A2 D2 p1.Nest.Sizes :: RR kT3 A3 D3 p1.Nest.Ins :: RR kT159 A4 D4 p1.Nest.Fixed :: RR kT127 A5 D5 p1.Nest.Kernels :: RR kT3 A6 D6 p1.Nest.Outs :: OO kT119 119 A116 D116 x115 :: W1) (fun w s => ((((((s.d 2 R).d 4 R).d 6 R).d 8 R).d 10 R).e 6 [4, 3, 2, 1, 0, 5])) ?_))))
 refine lC 5 cb84 R (spec_l12Life_ok hx120) R ?_
 rintro _
 refine lN (_ :: W1) ?_
 refine lO (vT R) (lO (vA R) (lB R (l_alloc R R zc114 (fun b121 => (l_stores 0 R R sz114 R R R R R R (lN (bxl b121 [(iv r119.1.Buffer), (iv r119.1.Size), (iv r119.1.From), (iv r119.1.To)] 114 :: _ :: W1) ?_))))))
 refine lB R (l_nil (q_next (c_seq ?_)))
 obtain ⟨r122, hx123, hr⟩ := bd hr
 refine cQ [(1, (pt b8 0)), (4, (sc A116 x115 D116)), (5, (iv t88)), (6, (iv b117)), (7, (pt b121 0)), (53, (.bool ((r119.2 && (r119.1.From == t88)) && (!r122))))] (OO kT119 119 A116 D116 x115 :: bxl b121 [(iv r119.1.Buffer), (iv r119.1.Size), (iv r119.1.From), (iv r119.1.To)] 114 :: W1) ?_ ?_
 refine c_region (lB R (lB R ?_))
 rcases bo r119.2 with hc124 | hc124
 refine lW (wnT hc124) (vFa 2 fo114_2 R) (lW (wnT hc124) (vLd 0 ag3 R R R) (lW (wnT hc124) (vI R) (lW (wnT hc124) (vEq R R) (lO (pAT R hc124 R) (lB R ?_)))))
 rcases bo (r119.2 && (r119.1.From == t88)) with hc125 | hc125
 refine lW (wnT hc125) (vFa 0 fo71_0 R) (lW (wnT hc125) (vz (.agg [(sc A2 p1.Nest.Sizes D2), (sc A3 p1.Nest.Ins D3), (sc A4 p1.Nest.Fixed D4), (sc A5 p1.Nest.Kernels D5), (sc A6 p1.Nest.Outs D6)].toArray) (v_loadw 2 ag58 sz58 R R R R)) (lW (wnT hc125) (vI R) (lM (RR kT3 A2 D2 p1.Nest.Sizes :: RR kT3 A3 D3 p1.Nest.Ins :: RR kT159 A4 D4 p1.Nest.Fixed :: RR kT127 A5 D5 p1.Nest.Kernels :: RR kT3 A6 D6 p1.Nest.Outs :: bxl _ _ _ :: ow _ _ _ _ :: W1) (fun w s => ((((((s.d 3 R).d 5 R).d 7 R).d 9 R).d 11 R).e 7 [4, 3, 2, 1, 0, 5, 6])) ?_)))
 refine l_calln 5 R (wnT hc125) cb85 R (spec_l12Given_ok (gcall_t hx123 hc125)) R ?_
 rintro _
 refine lN (_ :: _ :: W1) ?_
 refine lW (wnT hc125) (vNo R) (lO (pAT R hc125 R) (l_nil ?_))
 exact qJ (fun w s => (s.e 2 [1, 0]))
 refine lf (wfF hc125) (lf (wfF hc125) (lf (wfF hc125) (lf (wfF hc125) (lf (wfF hc125) (lO (pAF (!r122) R hc125) (l_nil ?_))))))
 exact qJ (fun w s => (s.e 2 [1, 0]))
 refine lf (wfF hc124) (lf (wfF hc124) (lf (wfF hc124) (lf (wfF hc124) (lO (pAF (r119.1.From == t88) R hc124) (lB R (lf (wfF (aF hc124)) (lf (wfF (aF hc124)) (lf (wfF (aF hc124)) (lf (wfF (aF hc124)) (lf (wfF (aF hc124)) (lO (pAF (!r122) R (aF hc124)) (l_nil ?_))))))))))))
 exact qJ (fun w s => (s.e 2 [1, 0]))
 rintro σ1
 refine q_next ?_
 rcases bif_ hr with ⟨hb126, hr⟩ | ⟨hb126, hr⟩
 refine c_true R hb126 (c_seq ?_)
 obtain ⟨hg127, hr⟩ := gd hr
 obtain ⟨hg131, hr⟩ := gd hr
 refine c_region (lS R (lO (vFa 5 fo71_1 R) (lO (vLd 2 ag29 R R R) (lI R (t_some 8 sees_rd (show 0 < p1.Offsets.length by have := hg127; omega) (fun g128 o129 ha => ?_))))))
 subst ha
 refine lO (vIa sl29 sz3 R R hg127) (lO (vLi 8 ag3 sees_rd R hg127) (lO (vz (.agg [(iv 3), (iv 0), (iv (ix p1.Offsets b117)), (iv 0)].toArray) (v_build pl119 zc119 R R)) (lO (vz (.agg [(iv 9), (iv 0), (iv 0), (iv 0)].toArray) (v_build pl119 zc119 R R)) (l_build (K := kT119) (xs := ([(⟨(3 : Int), (0 : Int), (ix p1.Offsets b117), (0 : Int)⟩ : Instr), (⟨(9 : Int), (0 : Int), (0 : Int), (0 : Int)⟩ : Instr)] : List Instr)) (vs := [(.agg [(iv 3), (iv 0), (iv (ix p1.Offsets b117)), (iv 0)].toArray), (.agg [(iv 9), (iv 0), (iv 0), (iv 0)].toArray)]) 0 R R sl67 sz119 zc119 R R R R R R ?_ R (fun A130 D130 => ?_)))))
 exact fun I h s => (mO119).list [(((), (), (), ()), (⟨(3 : Int), (0 : Int), (ix p1.Offsets b117), (0 : Int)⟩ : Instr)), (((), (), (), ()), (⟨(9 : Int), (0 : Int), (0 : Int), (0 : Int)⟩ : Instr))] I h s
 refine lN (OO kT119 119 A130 D130 ([(⟨(3 : Int), (0 : Int), (ix p1.Offsets b117), (0 : Int)⟩ : Instr), (⟨(9 : Int), (0 : Int), (0 : Int), (0 : Int)⟩ : Instr)] : List Instr) :: _ :: _ :: W1) ?_
 refine lM (ow _ _ _ _ :: ow _ _ _ _ :: bxl _ _ _ :: W1) (fun w s => (s.e 3 [1, 0, 2])) ?_
 refine l_app (K := kT119) 4398046511104 R R sl67 sz119 by119 (Zr.zk zT119 zc119) R R R R R R src_ow hg131 (fun A132 D132 => (lN (OO kT119 119 A132 D132 (x115 ++ ([(⟨(3 : Int), (0 : Int), (ix p1.Offsets b117), (0 : Int)⟩ : Instr), (⟨(9 : Int), (0 : Int), (0 : Int), (0 : Int)⟩ : Instr)] : List Instr)) :: _ :: W1) ?_))
 refine lS R (l_nil (q_next ?_))
 obtain ⟨r135, hx136, hr⟩ := bd hr
 obtain ⟨hg138, hr⟩ := gd hr
 refine c_region (lS R (lO (vFa 1 fo114_1 R) (lO (vLd 1 ag3 R R R) (lO (vz (.agg [(iv 7), (iv 0), (iv 0), (iv 1)].toArray) (v_build pl119 zc119 R R)) (l_build (K := kT119) (xs := ([(⟨(7 : Int), (0 : Int), (0 : Int), (1 : Int)⟩ : Instr)] : List Instr)) (vs := [(.agg [(iv 7), (iv 0), (iv 0), (iv 1)].toArray)]) 0 R R sl67 sz119 zc119 R R R R R R ?_ R (fun A133 D133 => ?_))))))
 exact fun I h s => (mO119).list [(((), (), (), ()), (⟨(7 : Int), (0 : Int), (0 : Int), (1 : Int)⟩ : Instr))] I h s
 refine lN (OO kT119 119 A133 D133 ([(⟨(7 : Int), (0 : Int), (0 : Int), (1 : Int)⟩ : Instr)] : List Instr) :: _ :: _ :: W1) ?_
 refine l_build (K := kT3) (xs := ([(1 : Int)] : List Int)) (vs := [(iv 1)]) 0 R R sl29 sz3 zc3 R R R R R R ?_ R (fun A134 D134 => ?_)
 exact fun I h s => (mO3).list [((), (1 : Int))] I h s
 refine lN (OO kT3 3 A134 D134 ([(1 : Int)] : List Int) :: _ :: _ :: _ :: W1) ?_
 refine lM (ow _ _ _ _ :: ow _ _ _ _ :: ow _ _ _ _ :: bxl _ _ _ :: W1) (fun w s => (s.e 4 [1, 0, 2, 3])) ?_
 refine lC 2 cb86 R (FnOk.lends (A' := [OO kT119 119 A133 D133 ([(⟨(7 : Int), (0 : Int), (0 : Int), (1 : Int)⟩ : Instr)] : List Instr), OO kT3 3 A134 D134 ([(1 : Int)] : List Int)]) (A := [RR kT119 A133 D133 ([(⟨(7 : Int), (0 : Int), (0 : Int), (1 : Int)⟩ : Instr)] : List Instr), RR kT3 A134 D134 ([(1 : Int)] : List Int)]) (B := []) (spec_l13Chunks_ok hx136) ⟨lend_ow, lend_ow, trivial⟩ (fun _ => ⟨(closed_ow cT119), trivial⟩)) R ?_
 rintro ⟨A137, N137, D137⟩
 refine lN (_ :: _ :: ow kT119 119 (.slice A137 N137 D137) r135 :: _ :: _ :: W1) ?_
 refine l_len 2 sees_ow ?_
 rintro rfl
 refine lM (ow _ _ _ _ :: ow _ _ _ _ :: ow _ _ _ _ :: ow _ _ _ _ :: bxl _ _ _ :: W1) (fun w s => (s.e 5 [3, 2, 0, 1, 4])) ?_
 refine l_app (K := kT119) 4398046511104 R R sl67 sz119 by119 (Zr.zk zT119 zc119) R R R R R R src_ow hg138 (fun A139 D139 => (lN (OO kT119 119 A139 D139 ((x115 ++ ([(⟨(3 : Int), (0 : Int), (ix p1.Offsets b117), (0 : Int)⟩ : Instr), (⟨(9 : Int), (0 : Int), (0 : Int), (0 : Int)⟩ : Instr)] : List Instr)) ++ r135) :: _ :: _ :: _ :: W1) ?_))
 refine lS R (l_nil (q_blockn ?_))
 exact qI (((x115 ++ ([(⟨(3 : Int), (0 : Int), (ix p1.Offsets b117), (0 : Int)⟩ : Instr), (⟨(9 : Int), (0 : Int), (0 : Int), (0 : Int)⟩ : Instr)] : List Instr)) ++ r135), (A139, ((x115 ++ ([(⟨(3 : Int), (0 : Int), (ix p1.Offsets b117), (0 : Int)⟩ : Instr), (⟨(9 : Int), (0 : Int), (0 : Int), (0 : Int)⟩ : Instr)] : List Instr)) ++ r135).length, D139)) hr (fun w s => (s.e 4 [0]))
 refine c_false R hb126 (c_skip (q_blockn ?_))
 exact qI (x115, (A116, x115.length, D116)) hr (fun w s => (s.e 2 [0]))
 rintro ⟨x140, ⟨A141, N141, D141⟩⟩ σ1 hr
 replace hr : spec_Compile_J6 b117 x140 = some out2 := hr
 unfold spec_Compile_J6 at hr
 refine c_len 0 sees_ow (fun (hn : N141 = x140.length) => ?_)
 subst hn
 refine c_region (lI R (lO (vAd R R) (lI R (l_nil ?_))))
 obtain rfl := so hr
 exact qA (A141, x140.length, D141) (fun w s => s)
 refine c_false R hb118 (c_exit (q_exit ?_))
 obtain rfl := so hr
 obtain rfl := he2 _ R
 have hr := hk2
 refine q_exit (q_block ?_)
 exact qI (x115, (A116, x115.length, D116)) hr (fun w s => s)
 rintro ⟨x145, ⟨A146, N146, D146⟩⟩ σ1 hr
 replace hr : spec_Compile_J7 p1 t88 x145 = some out1 := hr
 unfold spec_Compile_J7 at hr
 refine c_len 0 sees_ow (fun (hn : N146 = x145.length) => ?_)
 subst hn
 refine c_seq (c_region (lI R (lO (vFa 0 fo71_0 R) (lO (vFa 3 fo58_3 R) (lO (vLd 1 ag56 R R R) (lO (v_len sl56 R) (lO (vLt R R) (l_nil (q_next ?_)))))))))
 rcases bif_ hr with ⟨hb147, hr⟩ | ⟨hb147, hr⟩
 refine c_true R hb147 ?_
 obtain ⟨hg148, hr⟩ := gd hr
 obtain ⟨r155, hx156, hr⟩ := bd hr
 obtain ⟨hg158, hr⟩ := gd hr
 refine c_some 5 sees_rd (show 0 < p1.Nest.Kernels.length by have := hg148; omega) (fun g149 o150 ha => ?_)
 subst ha
 refine c_elem (K := kT127) 5 t88 dT127.dec R hg148.1 hg148.2 ?_
 rintro ⟨⟨A151, D151⟩, ⟨A152, D152⟩, ⟨-, -, ⟨A153, D153⟩⟩, -, ⟨A154, D154⟩⟩
 refine cN (cl g149 (o150 + t88.toNat * 7) [(sc A151 ((ix p1.Nest.Kernels t88).Loops) D151), (sc A152 ((ix p1.Nest.Kernels t88).Loads) D152), (iv (ix p1.Nest.Kernels t88).Store.Buffer), (iv (ix p1.Nest.Kernels t88).Store.Offset), (sc A153 ((ix p1.Nest.Kernels t88).Store.Steps) D153), (.bool (ix p1.Nest.Kernels t88).Sum), (sc A154 ((ix p1.Nest.Kernels t88).Code) D154)] :: RR kT3 A151 D151 ((ix p1.Nest.Kernels t88).Loops) :: RR kT124 A152 D152 ((ix p1.Nest.Kernels t88).Loads) :: RR kT3 A153 D153 ((ix p1.Nest.Kernels t88).Store.Steps) :: RR kT216 A154 D154 ((ix p1.Nest.Kernels t88).Code) :: OO kT119 119 A146 D146 x145 :: W1) ?_
 refine cdr 11 [5] mixo (fun ht hn => (dR 0 R (vS R) (hS := (sL [5])) (dR 1 R (vz (.agg [(sc A2 p1.Nest.Sizes D2), (sc A3 p1.Nest.Ins D3), (sc A4 p1.Nest.Fixed D4), (sc (ad g149 o150) p1.Nest.Kernels D5), (sc A6 p1.Nest.Outs D6), (sc A7 p1.Offsets D7), (iv p1.Arena)].toArray) (v_loadw 5 ag71 sz71 R R R R)) (hS := (sL [5])) (dR 2 R (vFa 0 fo71_0 R) (hS := (sL [5])) (dR 3 R (vFa 3 fo58_3 R) (hS := (sL [5])) (dR 4 R (vLd 5 ag56 R R R) (hS := (sL [5])) (dR 5 R (vI R) (hS := (sL [5])) (dR 6 R (vIa sl56 sz127 R R hg148) (hS := (sL [5])) (dR 7 R (vz (.agg [(sc A151 ((ix p1.Nest.Kernels t88).Loops) D151), (sc A152 ((ix p1.Nest.Kernels t88).Loads) D152), (iv (ix p1.Nest.Kernels t88).Store.Buffer), (iv (ix p1.Nest.Kernels t88).Store.Offset), (sc A153 ((ix p1.Nest.Kernels t88).Store.Steps) D153), (.bool (ix p1.Nest.Kernels t88).Sum), (sc A154 ((ix p1.Nest.Kernels t88).Code) D154)].toArray) (v_clfs (fo := 0) 0 ag127 sz127 R R R R)) (hS := (sL [5])) (d_one 8 (by kernel_rfl) R ?_))))))))))
 refine lM (RR kT3 A2 D2 p1.Nest.Sizes :: RR kT3 A3 D3 p1.Nest.Ins :: RR kT159 A4 D4 p1.Nest.Fixed :: RR kT127 (ad g149 o150) D5 p1.Nest.Kernels :: RR kT3 A6 D6 p1.Nest.Outs :: RR kT3 A7 D7 p1.Offsets :: rds _ _ _ :: rds _ _ _ :: rds _ _ _ :: rds _ _ _ :: cl _ _ _ :: rds _ _ _ :: rds _ _ _ :: rds _ _ _ :: rds _ _ _ :: ow _ _ _ _ :: W1) (fun w s => (((((((((((s.d 7 R).d 9 R).d 11 R).d 13 R).d 15 R).d 17 R).d 7 R).d 9 R).d 11 R).d 13 R).e 16 [9, 8, 7, 6, 5, 4, 3, 2, 1, 0, 10, 11, 12, 13, 14, 15])) ?_
 refine lC 10 cb87 R (spec_l13Kernel_ok hx156) R ?_
 rintro ⟨A157, N157, D157⟩
 refine lN (ow kT119 119 (.slice A157 N157 D157) r155 :: _ :: _ :: _ :: _ :: _ :: _ :: W1) ?_
 refine l_len 0 sees_ow ?_
 rintro rfl
 refine l_nil (q_draw (sL [6, 0]) (d_one 9 (by kernel_rfl) R (lM (ow _ _ _ _ :: ow _ _ _ _ :: cl _ _ _ :: rds _ _ _ :: rds _ _ _ :: rds _ _ _ :: rds _ _ _ :: W1) (fun w s => (s.f 7 [6, 1, 0, 6])) ?_)))
 refine l_app (K := kT119) 4398046511104 R R sl67 sz119 by119 (Zr.zk zT119 zc119) R R R R R R src_ow hg158 (fun A159 D159 => (lN (OO kT119 119 A159 D159 (x145 ++ r155) :: _ :: _ :: _ :: _ :: _ :: W1) ?_))
 refine l_nil (q_draw (sL [0]) (dR 10 R (vS R) (hS := (sL [0])) (d_done (by kernel_rfl) (q_blockn ?_))))
 exact qI ((x145 ++ r155), (A159, (x145 ++ r155).length, D159)) hr (fun w s => (s.e 6 [0]))
 refine c_false R hb147 (c_skip (q_blockn ?_))
 exact qI (x145, (A146, x145.length, D146)) hr (fun w s => s)
 rintro ⟨x160, ⟨A161, N161, D161⟩⟩ σ1 hr
 replace hr : spec_Compile_J8 t88 x160 = some out1 := hr
 unfold spec_Compile_J8 at hr
 refine c_len 0 sees_ow (fun (hn : N161 = x160.length) => ?_)
 subst hn
 refine c_region (lI R (lO (vAd R R) (lI R (l_nil ?_))))
 obtain rfl := so hr
 exact qA (A161, x160.length, D161) (fun w s => s)
 refine c_false R hb90 (c_exit (q_exit ?_))
 obtain rfl := so hr
 obtain rfl := he1 _ R
 have hr := hk1
 refine q_exit (q_block ?_)
 exact qI (x86, (A87, x86.length, D87)) hr (fun w s => s)
 rintro ⟨x165, ⟨A166, N166, D166⟩⟩ σ1 hr
 replace hr : spec_Compile_J9 x165 = some r := hr
 unfold spec_Compile_J9 at hr
 refine c_len 0 sees_ow (fun (hn : N166 = x165.length) => ?_)
 subst hn
 refine c_seq (c_seq (c_region (lS R (lO (v_len sl67 R) (lO (vGt R R) (l_nil (q_next ?_)))))))
 rcases bif_ hr with ⟨hb167, hr⟩ | ⟨hb167, hr⟩
 refine c_true R hb167 (c_seq (c_region (l_build (K := kT119) (xs := ([] : List Instr)) (vs := []) 0 R R sl67 sz119 zc119 R R R R R R ?_ R (fun A168 D168 => ?_))))
 exact fun I h s => (mO119).list [] I h s
 refine lN (OO kT119 119 A168 D168 ([] : List Instr) :: OO kT119 119 A166 D166 x165 :: W1) ?_
 refine lS R (lB R (l_nil (q_next (c_ret (q_ret ?_)))))
 obtain rfl := so hr
 exact q_fin (vs := [(sc A168 ([] : List Instr) D168), (.bool false)]) (.inl R) (A168, ([] : List Instr).length, D168) R ⟨R, R, trivial⟩ R (fun w s => (s.e 9 [0]))
 refine c_false R hb167 (c_skip (q_next (c_seq (c_region (lS R (lS R (lB R (l_nil (q_next (c_ret ?_))))))))))
 obtain rfl := so hr
 exact q_fin (vs := [(sc A166 x165 D166), (.bool true)]) (.inl R) (A166, x165.length, D166) R ⟨R, R, trivial⟩ R (fun w s => (s.e 8 [0]))
theorem impl_Nest_given_1_ok {b1 : Int} {p2 : (List Bool)} {b3 : Nat} {r : Bool × (List Bool)} (hr : impl_Nest_given_1 b1 p2 = some r) :
 FnOk Try.prog 180 [(iv b1), (pt b3 0)] [ow kT4 4 (.slice A4 N4 D4) p2, bxl b3 [(.slice A4 N4 D4)] 168] (fun (h : HH) => ((.bool r.1), [ow kT4 4 (.slice h.1 h.2.1 h.2.2) r.2, bxl b3 [(.slice h.1 h.2.1 h.2.2)] 168])) := by
 unfold impl_Nest_given_1 at hr
 refine fn_ok Try.func180 R 21 R R fun C V => ?_
 refine cN (_ :: _ :: V) ?_
 refine cL 0 sees_ow ?_
 rintro rfl
 refine c_seq (c_region (lB R (l_nil ?_)))
 let W1 : List HP := bxl b3 [(sc A4 p2 D4)] 168 :: V
 refine qN (_ :: W1) ?_
 refine q_next (c_seq (c_seq ?_))
 obtain ⟨hg5, hr⟩ := gd hr
 refine cQ [(0, (iv b1)), (1, (pt b3 0)), (17, (.bool (((decide (b1 < (0 : Int))) || (decide (b1 ≥ (p2.length : Int)))) || (ix p2 b1))))] (OO kT4 4 A4 D4 p2 :: W1) ?_ ?_
 refine c_region (lI R (lO (vLt R R) (lB R ?_)))
 rcases bo (decide (b1 < (0 : Int))) with hc8 | hc8
 refine lf (wfT hc8) (lf (wfT hc8) (lf (wfT hc8) (lf (wfT hc8) (lO (pOT (decide (b1 ≥ (p2.length : Int))) R hc8) (lB R (lf (wfT (oT hc8)) (lf (wfT (oT hc8)) (lf (wfT (oT hc8)) (lf (wfT (oT hc8)) (lO (pOT (ix p2 b1) R (oT hc8)) (l_nil ?_)))))))))))
 exact qJ (fun w s => s)
 refine lW (wnF hc8) (vI R) (lW (wnF hc8) (vLd 1 ag168 R R R) (lW (wnF hc8) (v_len sl168 R) (lW (wnF hc8) (vGe R R) (lO (pOF R hc8 R) (lB R ?_)))))
 rcases bo ((decide (b1 < (0 : Int))) || (decide (b1 ≥ (p2.length : Int)))) with hc9 | hc9
 refine lf (wfT hc9) (lf (wfT hc9) (lf (wfT hc9) (lf (wfT hc9) (lO (pOT (ix p2 b1) R hc9) (l_nil ?_)))))
 exact qJ (fun w s => s)
 refine lW (wnF hc9) (vLd 1 ag168 R R R) (lW (wnF hc9) (vI R) (t_some 0 sees_ow (show 0 < p2.length by have := (hg5 hc9); omega) (fun g6 o7 ha => ?_)))
 subst ha
 refine lW (wnF hc9) (vIa sl168 sz4 R R (hg5 hc9)) (lW (wnF hc9) (vz (.bool (ix p2 b1)) (v_lde (K := kT4) (fo := 0) (pr := fun x => (.bool x)) 0 b1 ag4 (dT4.leaf fun _ _ => R) sees_ow R (hg5 hc9).1 (hg5 hc9).2)) (lO (pOF R hc9 R) (l_nil ?_)))
 exact qJ (fun w s => s)
 rintro σ1
 refine q_next ?_
 rcases bif_ hr with ⟨hb10, hr⟩ | ⟨hb10, hr⟩
 refine c_true R hb10 (c_seq (c_region (lB R (l_nil (q_next (c_ret (q_ret ?_)))))))
 obtain rfl := so hr
 exact qF (A4, p2.length, D4) (fun w s => s)
 refine c_false R hb10 (c_skip (q_next (c_seq ?_)))
 obtain ⟨hg11, hr⟩ := gd hr
 refine c_region (lO (vLd 1 ag168 R R R) (lI R (t_some 0 sees_ow (show 0 < p2.length by have := hg11; omega) (fun g12 o13 ha => ?_))))
 subst ha
 refine lO (vIa sl168 sz4 R R hg11) (lN (OO kT4 4 (ad g12 o13) D4 p2 :: W1) ?_)
 refine l_stx (K := kT4) (x' := true) 0 b1 R R sz4 R R hg11.1 hg11.2 ?_ ?_
 exact fun I h s => (mO4).put I h () true s
 refine lN (ow kT4 4 (.slice (ad g12 o13) p2.length D4) (p2.set b1.toNat true) :: W1) ?_
 refine l_nil (q_next (c_seq (c_region (lB R (l_nil (q_next (c_ret ?_)))))))
 obtain rfl := so hr
 exact qF ((ad g12 o13), p2.length, D4) (fun w s => s)
theorem impl_isNum_ok {p1 : Int} {r : Bool} (hr : impl_isNum p1 = some r) :
 FnOk Try.prog 211 [(iv p1)] [] (fun (h : Unit) => ((.bool r), [])) := by
 unfold impl_isNum at hr
 refine fn_ok Try.func211 R 9 R R fun C V => ?_
 refine cN V ?_
 refine c_seq (c_region (lB R (l_nil (q_next (c_seq (cQ [(2, (.bool ((decide (p1 ≥ (0 : Int))) && (decide (p1 < (2147483647 : Int))))))] (V) ?_ ?_))))))
 refine c_region (lI R (lO (vGe R R) (lB R ?_)))
 rcases bo (decide (p1 ≥ (0 : Int))) with hc2 | hc2
 refine lW (wnT hc2) (vI R) (lW (wnT hc2) (vLt R R) (lO (pAT R hc2 R) (lB R (l_nil ?_))))
 exact qJ (fun w s => s)
 refine lf (wfF hc2) (lf (wfF hc2) (lO (pAF (decide (p1 < (2147483647 : Int))) R hc2) (lB R (l_nil ?_))))
 exact qJ (fun w s => s)
 rintro σ1
 refine q_next (c_ret ?_)
 obtain rfl := so hr
 exact qF () (fun w s => s)
theorem impl_allNums_ok {xs1 : (List Int)} {r : Bool} (hr : impl_allNums xs1 = some r) :
 FnOk Try.prog 181 [(.slice A2 N2 D2)] [rds kT3 (.slice A2 N2 D2) xs1] (fun (h : Unit) => ((.bool r), [])) := by
 unfold impl_allNums at hr
 refine fn_ok Try.func181 R 15 R R fun C V => ?_
 refine cN (_ :: V) ?_
 refine cL 0 sees_rd ?_
 rintro rfl
 let W0 : List HP := RR kT3 A2 D2 xs1 :: V
 refine cN W0 ?_
 refine c_seq (c_region (lB R (l_nil (q_next (c_seq (c_cut (A := (Unit) × (Unit)) (fun a => impl_allNums_J1 = some r) (fun a => []) (fun a => W0) ?_ ?_))))))
 refine c_seq (c_region (lS R (lO (v_len sl29 R) (lI R (l_nil (q_next (c_block ?_)))))))
 obtain ⟨e1, hl1, hk1⟩ := bd hr
 refine c_loop (A := Unit) hl1 (fun s a => [(5, (sc A2 xs1 D2)), (6, (il xs1)), (7, (iv s))]) (fun s a => W0) () (aS R) (fun w s => s) ?_
 rintro x10 _ σ1 out1 hr he1
 replace hr : impl_allNums_L1 xs1 x10 = some out1 := hr
 unfold impl_allNums_L1 at hr
 refine c_seq (c_region (lO (vLt R R) (l_nil (q_next (c_seq ?_)))))
 rcases bif_ hr with ⟨hb11, hr⟩ | ⟨hb11, hr⟩
 refine c_true R hb11 (c_skip (q_next (c_seq (c_block (c_seq ?_)))))
 obtain ⟨hg12, hr⟩ := gd hr
 refine c_region (t_some 0 sees_rd (show 0 < xs1.length by have := hg12; omega) (fun g13 o14 ha => ?_))
 subst ha
 refine lO (vIa sl29 sz3 R R hg12) (lO (vLi 0 ag3 sees_rd R hg12) (lI R (l_nil (q_next (c_seq ?_)))))
 obtain ⟨r15, hx16, hr⟩ := bd hr
 refine c_region (lI R (lC 0 cb211 R (impl_isNum_ok hx16) R ?_))
 rintro _
 refine lO (vNo R) (l_nil (q_next ?_))
 rcases bif_ hr with ⟨hb17, hr⟩ | ⟨hb17, hr⟩
 refine c_true R hb17 (c_seq (c_region (lB R (l_nil (q_next (c_ret (q_blockr (q_ret ?_))))))))
 obtain rfl := so hr
 obtain rfl := he1 _ R
 have hr := hk1
 refine q_ret (q_blockr (q_ret ?_))
 obtain rfl := so hr
 exact qF () (fun w s => (s.e 1 []))
 refine c_false R hb17 (c_skip (q_blockn (q_next (c_region (lO (vAd R R) (lI R (l_nil ?_)))))))
 obtain rfl := so hr
 exact qA () (fun w s => s)
 refine c_false R hb11 (c_exit (q_exit ?_))
 obtain rfl := so hr
 obtain rfl := he1 _ R
 have hr := hk1
 refine q_exit (q_block ?_)
 exact q_join ((), ()) hr trivial (fun w s => s)
 rintro ⟨_, _⟩ σ1 hr
 replace hr : impl_allNums_J1 = some r := hr
 unfold impl_allNums_J1 at hr
 refine c_seq (c_region (lB R (l_nil (q_next (c_ret ?_)))))
 obtain rfl := so hr
 exact qF () (fun w s => (s.e 1 []))
end Go.Proofs.Ytbdchgofcejiiaa
