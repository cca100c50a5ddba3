import Derived.Test.YtkfgngcfcoplpaaGreatMpW2
set_option linter.unusedVariables false
set_option maxRecDepth 20000
namespace Go.Proofs.YtkfgngcfcoplpaaGreat
open Go Go.Pg
variable {A2 A3 A4 A5 A6 : Option Addr} {D2 D3 D4 D5 D6 N2 N3 N4 N5 N6 : Nat}
theorem Z7_ok  {l1 : Nest} {b7 : Int} {r : Life × Bool} (hr : Z7 l1 b7 = some r) :
 FnOk Tryz.prog 65 [(.agg [(.slice A2 N2 D2), (.slice A3 N3 D3), (.slice A4 N4 D4), (.slice A5 N5 D5), (.slice A6 N6 D6)].toArray), (iv b7)] [rds kT3 (.slice A2 N2 D2) l1.Sizes, rds kT3 (.slice A3 N3 D3) l1.Ins, rds kT57 (.slice A4 N4 D4) l1.Fixed, rds kT64 (.slice A5 N5 D5) l1.Kernels, rds kT3 (.slice A6 N6 D6) l1.Outs] (fun (h : Unit) => ((.tuple [(.agg [(iv r.1.Buffer), (iv r.1.Size), (iv r.1.From), (iv r.1.To)].toArray), (.bool r.2)].toArray), [])) := by
 unfold Z7 at hr
 refine fn_ok Tryz.func65 R 71 R R fun C V => ?_
 refine cN (_ :: _ :: _ :: _ :: _ :: V) ?_
 refine cL 0 sees_rd ?_
 rintro rfl
 refine cL 1 sees_rd ?_
 rintro rfl
 refine cL 2 sees_rd ?_
 rintro rfl
 refine cL 3 sees_rd ?_
 rintro rfl
 refine cL 4 sees_rd ?_
 rintro rfl
 let W0 : List HP := RR kT3 A2 D2 l1.Sizes :: RR kT3 A3 D3 l1.Ins :: RR kT57 A4 D4 l1.Fixed :: RR kT64 A5 D5 l1.Kernels :: RR kT3 A6 D6 l1.Outs :: V
 refine cN W0 ?_
 refine c_seq (c_region (lBx R (fun b8 => (l_alloc R R zc88 (fun b9 => (lB R (l_nil ?_)))))))
 let W1 : List HP := bxl b8 [(sc A2 l1.Sizes D2), (sc A3 l1.Ins D3), (sc A4 l1.Fixed D4), (sc A5 l1.Kernels D5), (sc A6 l1.Outs D6)] 36 :: W0
 refine qN (_ :: W1) ?_
 refine q_next (c_seq ?_)
 obtain ⟨hg10, hr⟩ := gd hr
 refine c_region (lI R (lO (vFa 0 fo36_0 R) (lO (vLd 1 ag22 R R R) (lI R (t_some 2 sees_rd (show 0 < l1.Sizes.length by have := hg10; omega) (fun g11 o12 ha => ?_))))))
 subst ha
 refine lO (vIa sl22 sz3 R R hg10) (lO (vLi 2 ag3 sees_rd R hg10) (lO (vz (.agg [(iv b7), (iv (ix l1.Sizes b7)), (iv 0), (iv 0)].toArray) (v_build pl88 zc88 R R)) (l_alloc R R zc88 (fun b13 => (l_stores 0 R R sz88 R R R R R R (lN (bxl b13 [(iv b7), (iv (ix l1.Sizes b7)), (iv 0), (iv 0)] 88 :: _ :: W1) ?_))))))
 refine l_nil (q_next (c_seq (c_region (lI R (l_nil (q_next (c_seq (c_cut (A := (Int × Int) × (Unit)) (fun a => Z7_J4 l1 b7 a.1.1 a.1.2 = some r) (fun a => [(1, (iv b7)), (2, (pt b8 0)), (4, (pt b9 0)), (6, (pt b13 0)), (7, (iv a.1.2))]) (fun a => bxl b9 [(iv 0), (iv 0), (iv 0), (iv 0)] 88 :: bxl b13 [(iv b7), (iv (ix l1.Sizes b7)), (iv 0), (iv a.1.1)] 88 :: W1) ?_ ?_))))))))
 refine c_seq (c_region (lI R (l_nil (q_next (c_block ?_)))))
 obtain ⟨e1, hl1, hk1⟩ := bd hr
 refine c_loop (A := Unit) hl1 (fun s a => [(1, (iv b7)), (2, (pt b8 0)), (4, (pt b9 0)), (6, (pt b13 0)), (7, (iv s.2.1)), (8, (iv s.2.2))]) (fun s a => bxl b9 [(iv 0), (iv 0), (iv 0), (iv 0)] 88 :: bxl b13 [(iv b7), (iv (ix l1.Sizes b7)), (iv 0), (iv s.1)] 88 :: W1) () (aS R) (fun w s => (s.e 2 [1, 0])) ?_
 rintro ⟨x43, first44, i45⟩ _ σ1 out1 hr he1
 replace hr : Z7_L1 l1 b7 x43 first44 i45 = some out1 := hr
 unfold Z7_L1 at hr
 refine c_seq (c_seq (c_region (lI R (lO (vFa 3 fo36_3 R) (lO (vLd 2 ag34 R R R) (lO (v_len sl34 R) (lO (vLt R R) (l_nil (q_next ?_)))))))))
 rcases bif_ hr with ⟨hb46, hr⟩ | ⟨hb46, hr⟩
 refine c_true R hb46 (c_skip (q_next (c_seq (c_cut (A := (Int × Int) × (Unit)) (fun a => Z7_J3 i45 a.1.1 a.1.2 = some out1) (fun a => [(1, (iv b7)), (2, (pt b8 0)), (4, (pt b9 0)), (6, (pt b13 0)), (7, (iv a.1.2)), (8, (iv i45))]) (fun a => bxl b9 [(iv 0), (iv 0), (iv 0), (iv 0)] 88 :: bxl b13 [(iv b7), (iv (ix l1.Sizes b7)), (iv 0), (iv a.1.1)] 88 :: W1) ?_ ?_))))
 refine c_block (c_seq ?_)
 obtain ⟨hg47, hr⟩ := gd hr
 obtain ⟨r54, hx55, hr⟩ := bd hr
 refine c_region (lO (vFa 3 fo36_3 R) (lO (vLd 2 ag34 R R R) (lI R (t_some 6 sees_rd (show 0 < l1.Kernels.length by have := hg47; omega) (fun g48 o49 ha => ?_)))))
 subst ha
 refine lO (vIa sl34 sz64 R R hg47) (t_elem (K := kT64) 6 i45 dT64.dec R hg47.1 hg47.2 ?_)
 rintro ⟨⟨A50, D50⟩, ⟨A51, D51⟩, ⟨-, -, ⟨A52, D52⟩⟩, -, ⟨A53, D53⟩⟩
 refine lN (cl g48 (o49 + i45.toNat * 7) [(sc A50 ((ix l1.Kernels i45).Loops) D50), (sc A51 ((ix l1.Kernels i45).Loads) D51), (iv (ix l1.Kernels i45).Store.Buffer), (iv (ix l1.Kernels i45).Store.Offset), (sc A52 ((ix l1.Kernels i45).Store.Steps) D52), (.bool (ix l1.Kernels i45).Sum), (sc A53 ((ix l1.Kernels i45).Code) D53)] :: RR kT3 A50 D50 ((ix l1.Kernels i45).Loops) :: RR kT61 A51 D51 ((ix l1.Kernels i45).Loads) :: RR kT3 A52 D52 ((ix l1.Kernels i45).Store.Steps) :: RR kT101 A53 D53 ((ix l1.Kernels i45).Code) :: _ :: bxl b13 [(iv b7), (iv (ix l1.Sizes b7)), (iv 0), (iv x43)] 88 :: W1) ?_
 refine lO (vz (.agg [(sc A50 ((ix l1.Kernels i45).Loops) D50), (sc A51 ((ix l1.Kernels i45).Loads) D51), (iv (ix l1.Kernels i45).Store.Buffer), (iv (ix l1.Kernels i45).Store.Offset), (sc A52 ((ix l1.Kernels i45).Store.Steps) D52), (.bool (ix l1.Kernels i45).Sum), (sc A53 ((ix l1.Kernels i45).Code) D53)].toArray) (v_clfs (fo := 0) 0 ag64 sz64 R R R R)) (lI R (lM (rds _ _ _ :: rds _ _ _ :: rds _ _ _ :: rds _ _ _ :: cl _ _ _ :: rds _ _ _ :: rds _ _ _ :: rds _ _ _ :: rds _ _ _ :: bxl _ _ _ :: bxl _ _ _ :: W1) (fun w s => (((((s.d 1 R).d 3 R).d 5 R).d 7 R).f 11 [3, 1, 2, 1, 1, 1, 0, 1, 4, 7])) ?_))
 refine lC 4 cb118 R (Z1v_ok hx55) R ?_
 rintro _
 refine lN (_ :: _ :: _ :: _ :: _ :: _ :: _ :: W1) ?_
 refine l_nil (q_next ?_)
 rcases bif_ hr with ⟨hb56, hr⟩ | ⟨hb56, hr⟩
 refine c_true R hb56 (c_seq (c_region (lI R (lO (vFa 3 fo88_3 R) (l_store 6 R R sz3 R R R R R (lN (_ :: _ :: _ :: _ :: _ :: _ :: bxl b13 [(iv b7), (iv (ix l1.Sizes b7)), (iv 0), (iv i45)] 88 :: W1) ?_))))))
 refine l_nil (q_next (c_seq (c_region (lI R (lO (vLt R R) (l_nil (q_next ?_)))))))
 rcases bif_ hr with ⟨hb57, hr⟩ | ⟨hb57, hr⟩
 refine c_true R hb57 (c_region (lI R (lI R (l_nil (q_blockn ?_)))))
 exact qI ((i45, i45), ()) hr (fun w s => (s.e 7 [5, 6]))
 refine c_false R hb57 (c_skip (q_blockn ?_))
 exact qI ((i45, first44), ()) hr (fun w s => (s.e 7 [5, 6]))
 refine c_false R hb56 (c_skip (q_blockn ?_))
 exact qI ((x43, first44), ()) hr (fun w s => (s.e 7 [5, 6]))
 rintro ⟨⟨x58, first59⟩, _⟩ σ1 hr
 replace hr : Z7_J3 i45 x58 first59 = some out1 := hr
 unfold Z7_J3 at hr
 refine c_region (lI R (lO (vAd R R) (lI R (l_nil ?_))))
 obtain rfl := so hr
 exact qA () (fun w s => s)
 refine c_false R hb46 (c_exit (q_exit ?_))
 obtain rfl := so hr
 obtain rfl := he1 _ R
 have hr := hk1
 refine q_exit (q_block ?_)
 exact qI ((x43, first44), ()) hr (fun w s => s)
 rintro ⟨⟨x63, first64⟩, _⟩ σ1 hr
 replace hr : Z7_J4 l1 b7 x63 first64 = some r := hr
 unfold Z7_J4 at hr
 refine c_seq ?_
 obtain ⟨r65, hx66, hr⟩ := bd hr
 refine c_region (lO (vFa 4 fo36_4 R) (lO (vLd 2 ag22 R R R) (lI R (lM (RR kT3 A6 D6 l1.Outs :: _ :: bxl b13 [(iv b7), (iv (ix l1.Sizes b7)), (iv 0), (iv x63)] 88 :: W1) (fun w s => (s.d 7 R)) ?_))))
 refine lC 1 cb87 R (Zm_ok hx66) R ?_
 rintro _
 refine lN (_ :: _ :: W1) ?_
 refine lB R (l_nil (q_next (c_seq ?_)))
 obtain ⟨r67, hx68, hr⟩ := bd hr
 refine c_region (lO (vz (.agg [(sc (ad g11 o12) l1.Sizes D2), (sc A3 l1.Ins D3), (sc A4 l1.Fixed D4), (sc A5 l1.Kernels D5), (sc A6 l1.Outs D6)].toArray) (v_loadw 2 ag36 sz36 R R R R)) (lI R (lM (RR kT3 (ad g11 o12) D2 l1.Sizes :: RR kT3 A3 D3 l1.Ins :: RR kT57 A4 D4 l1.Fixed :: RR kT64 A5 D5 l1.Kernels :: RR kT3 A6 D6 l1.Outs :: bxl _ _ _ :: bxl _ _ _ :: W1) (fun w s => ((((((s.d 3 R).d 5 R).d 7 R).d 9 R).d 11 R).e 7 [4, 3, 2, 1, 0, 5, 6])) ?_)))
 refine lC 5 cb67 R (Zx_ok hx68) R ?_
 rintro _
 refine lN (_ :: _ :: W1) ?_
 refine lB R (l_nil (q_next (c_seq (c_cut (A := (Int) × (Unit)) (fun a => Z7_J5 l1 b7 x63 first64 r65 r67 a.1 = some r) (fun a => [(2, (pt b8 0)), (4, (pt b9 0)), (6, (pt b13 0)), (7, (iv first64)), (9, (.bool r65)), (10, (.bool r67))]) (fun a => bxl b9 [(iv 0), (iv 0), (iv 0), (iv 0)] 88 :: bxl b13 [(iv b7), (iv (ix l1.Sizes b7)), (iv a.1), (iv x63)] 88 :: W1) ?_ ?_))))
 refine c_seq (cQ [(2, (pt b8 0)), (4, (pt b9 0)), (6, (pt b13 0)), (7, (iv first64)), (9, (.bool r65)), (10, (.bool r67)), (49, (.bool ((!r67) && (decide (first64 > (0 : Int))))))] (bxl b9 [(iv 0), (iv 0), (iv 0), (iv 0)] 88 :: bxl b13 [(iv b7), (iv (ix l1.Sizes b7)), (iv 0), (iv x63)] 88 :: W1) ?_ ?_)
 refine c_region (lB R (lO (vNo R) (lB R ?_)))
 rcases bo (!r67) with hc69 | hc69
 refine lW (wnT hc69) (vI R) (lW (wnT hc69) (vGt R R) (lO (pAT R hc69 R) (l_nil ?_)))
 exact qJ (fun w s => s)
 refine lf (wfF hc69) (lf (wfF hc69) (lO (pAF (decide (first64 > (0 : Int))) R hc69) (l_nil ?_)))
 exact qJ (fun w s => s)
 rintro σ1
 refine q_next ?_
 rcases bif_ hr with ⟨hb70, hr⟩ | ⟨hb70, hr⟩
 refine c_true R hb70 (c_region (lI R (lO (vFa 2 fo88_2 R) (l_store 1 R R sz3 R R R R R (lN (_ :: bxl b13 [(iv b7), (iv (ix l1.Sizes b7)), (iv first64), (iv x63)] 88 :: W1) ?_)))))
 refine l_nil ?_
 exact qI (first64, ()) hr (fun w s => s)
 refine c_false R hb70 (c_skip ?_)
 exact qI ((0 : Int), ()) hr (fun w s => s)
 rintro ⟨x71, _⟩ σ1 hr
 replace hr : Z7_J5 l1 b7 x63 first64 r65 r67 x71 = some r := hr
 unfold Z7_J5 at hr
 refine c_seq (c_cut (A := (Int) × (Unit)) (fun a => Z7_J6 l1 b7 first64 r65 r67 x71 a.1 = some r) (fun a => [(4, (pt b9 0)), (6, (pt b13 0)), (7, (iv first64)), (9, (.bool r65)), (10, (.bool r67))]) (fun a => bxl b9 [(iv 0), (iv 0), (iv 0), (iv 0)] 88 :: bxl b13 [(iv b7), (iv (ix l1.Sizes b7)), (iv x71), (iv a.1)] 88 :: W1) ?_ ?_)
 refine c_seq (c_region (lB R (l_nil (q_next ?_))))
 rcases bif_ hr with ⟨hb72, hr⟩ | ⟨hb72, hr⟩
 refine c_true R hb72 (c_region (lO (vFa 3 fo36_3 R) (lO (vLd 2 ag34 R R R) (lO (v_len sl34 R) (lO (vFa 3 fo88_3 R) (l_store 1 R R sz3 R R R R R (lN (_ :: bxl b13 [(iv b7), (iv (ix l1.Sizes b7)), (iv x71), (il l1.Kernels)] 88 :: W1) ?_)))))))
 refine l_nil ?_
 exact qI ((l1.Kernels.length : Int), ()) hr (fun w s => s)
 refine c_false R hb72 (c_skip ?_)
 exact qI (x63, ()) hr (fun w s => s)
 rintro ⟨x73, _⟩ σ1 hr
 replace hr : Z7_J6 l1 b7 first64 r65 r67 x71 x73 = some r := hr
 unfold Z7_J6 at hr
 refine c_seq (cQ [(4, (pt b9 0)), (5, (.bool ((decide ((ix l1.Sizes b7) > (0 : Int))) && ((r67 || r65) || (decide (first64 ≥ (0 : Int)))))))] (bxl b9 [(iv b7), (iv (ix l1.Sizes b7)), (iv x71), (iv x73)] 88 :: W1) ?_ ?_)
 refine c_region (lO (vz (.agg [(iv b7), (iv (ix l1.Sizes b7)), (iv x71), (iv x73)].toArray) (v_loadw 1 ag88 sz88 R R R R)) (lO (vFa 1 fo88_1 R) (lO (vLd 1 ag3 R R R) (lO (vGt R R) (lB R ?_)))))
 rcases bo (decide ((ix l1.Sizes b7) > (0 : Int))) with hc74 | hc74
 refine lW (wnT hc74) (vB R) (lW (wnT hc74) (vB R) ?_)
 rcases bo r67 with hc75 | hc75
 refine lf (wfT hc75) (lW (wnT hc74) (pOT r65 R hc75) (lW (wnT hc74) (vB R) (lf (wfT (oT hc75)) (lf (wfT (oT hc75)) (lW (wnT hc74) (pOT (decide (first64 ≥ (0 : Int))) R (oT hc75)) (lO (pAT R hc74 R) (l_stores 0 R R sz88 R R R R R R (lN (bxl b9 [(iv b7), (iv (ix l1.Sizes b7)), (iv x71), (iv x73)] 88 :: bxl b13 [(iv b7), (iv (ix l1.Sizes b7)), (iv x71), (iv x73)] 88 :: W1) ?_))))))))
 refine lB R (l_nil ?_)
 exact qJ (fun w s => (s.e 2 [0]))
 refine lW (wnF hc75) (vB R) (lW (wnT hc74) (pOF R hc75 R) (lW (wnT hc74) (vB R) ?_))
 rcases bo (r67 || r65) with hc76 | hc76
 refine lf (wfT hc76) (lf (wfT hc76) (lW (wnT hc74) (pOT (decide (first64 ≥ (0 : Int))) R hc76) (lO (pAT R hc74 R) (l_stores 0 R R sz88 R R R R R R (lB R (l_nil ?_))))))
 exact qJ (fun w s => (s.e 2 [0]))
 refine lW (wnF hc76) (vI R) (lW (wnF hc76) (vGe R R) (lW (wnT hc74) (pOF R hc76 R) (lO (pAT R hc74 R) (l_stores 0 R R sz88 R R R R R R (lB R (l_nil ?_))))))
 exact qJ (fun w s => (s.e 2 [0]))
 refine lf (wfF hc74) (lf (wfF hc74) (lf R (lf (wfF hc74) (lf (wfF hc74) (lf R (lf R (lf (wfF hc74) (lO (pAF ((r67 || r65) || (decide (first64 ≥ (0 : Int)))) R hc74) (l_stores 0 R R sz88 R R R R R R (lB R (l_nil ?_)))))))))))
 exact qJ (fun w s => (s.e 2 [0]))
 rintro σ1
 refine q_next (c_ret ?_)
 obtain rfl := so hr
 exact q_fin (vs := [(.agg [(iv b7), (iv (ix l1.Sizes b7)), (iv x71), (iv x73)].toArray), (.bool ((decide ((ix l1.Sizes b7) > (0 : Int))) && ((r67 || r65) || (decide (first64 ≥ (0 : Int))))))]) (.inl R) () R ⟨⟨0, b9, _, _, R, R, .inl ⟨ag88, sz88, R⟩⟩, R, trivial⟩ R (fun w s => (s.e 7 []))
theorem Zn_ok  {l1 : Nest} {r : (List Life)} (hr : Zn l1 = some r) :
 FnOk Tryz.prog 51 [(.agg [(.slice A2 N2 D2), (.slice A3 N3 D3), (.slice A4 N4 D4), (.slice A5 N5 D5), (.slice A6 N6 D6)].toArray)] [rds kT3 (.slice A2 N2 D2) l1.Sizes, rds kT3 (.slice A3 N3 D3) l1.Ins, rds kT57 (.slice A4 N4 D4) l1.Fixed, rds kT64 (.slice A5 N5 D5) l1.Kernels, rds kT3 (.slice A6 N6 D6) l1.Outs] (fun (h : HH) => ((.slice h.1 h.2.1 h.2.2), [ow kT88 88 (.slice h.1 h.2.1 h.2.2) r])) := by
 unfold Zn at hr
 refine fn_ok Tryz.func51 R 31 R R fun C V => ?_
 refine cN (_ :: _ :: _ :: _ :: _ :: V) ?_
 refine cL 0 sees_rd ?_
 rintro rfl
 refine cL 1 sees_rd ?_
 rintro rfl
 refine cL 2 sees_rd ?_
 rintro rfl
 refine cL 3 sees_rd ?_
 rintro rfl
 refine cL 4 sees_rd ?_
 rintro rfl
 let W0 : List HP := RR kT3 A2 D2 l1.Sizes :: RR kT3 A3 D3 l1.Ins :: RR kT57 A4 D4 l1.Fixed :: RR kT64 A5 D5 l1.Kernels :: RR kT3 A6 D6 l1.Outs :: V
 refine cN W0 ?_
 refine c_seq (c_region (lBx R (fun b7 => (lS R (l_nil ?_)))))
 let W1 : List HP := bxl b7 [(sc A2 l1.Sizes D2), (sc A3 l1.Ins D3), (sc A4 l1.Fixed D4), (sc A5 l1.Kernels D5), (sc A6 l1.Outs D6)] 36 :: W0
 refine qN W1 ?_
 refine q_next (c_seq (c_region (l_build (K := kT88) (xs := ([] : List Life)) (vs := []) 0 R R sl83 sz88 zc88 R R R R R R ?_ R (fun A8 D8 => ?_))))
 exact fun I h s => (mO88).list [] I h s
 refine lN (OO kT88 88 A8 D8 ([] : List Life) :: W1) ?_
 refine lS R (l_nil (q_next (c_seq (c_seq ?_))))
 obtain ⟨r9, hx10, hr⟩ := bd hr
 refine c_region (lO (vz (.agg [(sc A2 l1.Sizes D2), (sc A3 l1.Ins D3), (sc A4 l1.Fixed D4), (sc A5 l1.Kernels D5), (sc A6 l1.Outs D6)].toArray) (v_loadw 1 ag36 sz36 R R R R)) (lM (RR kT3 A2 D2 l1.Sizes :: RR kT3 A3 D3 l1.Ins :: RR kT57 A4 D4 l1.Fixed :: RR kT64 A5 D5 l1.Kernels :: RR kT3 A6 D6 l1.Outs :: ow _ _ _ _ :: W1) (fun w s => ((((((s.d 2 R).d 4 R).d 6 R).d 8 R).d 10 R).e 6 [4, 3, 2, 1, 0, 5])) ?_))
 refine lC 5 cb49 R (Z3_ok hx10) R ?_
 rintro _
 refine lN (_ :: W1) ?_
 refine lO (vNo R) (l_nil (q_next ?_))
 rcases bif_ hr with ⟨hb11, hr⟩ | ⟨hb11, hr⟩
 refine c_true R hb11 (c_seq (c_region (lS R (lS R (l_nil (q_next (c_ret (q_ret ?_))))))))
 obtain rfl := so hr
 exact qF (A8, ([] : List Life).length, D8) (fun w s => (s.e 7 [0]))
 refine c_false R hb11 (c_skip (q_next (c_seq (c_cut (A := ((List Life)) × (HH)) (fun a => Zn_J3 a.1 = some r) (fun a => [(3, (.slice a.2.1 a.2.2.1 a.2.2.2))]) (fun a => ow kT88 88 (.slice a.2.1 a.2.2.1 a.2.2.2) a.1 :: W1) ?_ ?_))))
 refine c_seq (c_region (lI R (l_nil (q_next (c_block ?_)))))
 obtain ⟨e1, hl1, hk1⟩ := bd hr
 refine c_loop (A := HH) hl1 (fun s a => [(1, (pt b7 0)), (3, (.slice a.1 a.2.1 a.2.2)), (4, (iv s.2))]) (fun s a => ow kT88 88 (.slice a.1 a.2.1 a.2.2) s.1 :: W1) (A8, ([] : List Life).length, D8) (aS R) (fun w s => s) ?_
 rintro ⟨x22, b24⟩ ⟨A23, N23, D23⟩ σ1 out1 hr he1
 replace hr : Zn_L1 l1 x22 b24 = some out1 := hr
 unfold Zn_L1 at hr
 refine c_len 0 sees_ow (fun (hn : N23 = x22.length) => ?_)
 subst hn
 refine c_seq (c_seq (c_region (lI R (lO (vFa 0 fo36_0 R) (lO (vLd 1 ag22 R R R) (lO (v_len sl22 R) (lO (vLt R R) (l_nil (q_next ?_)))))))))
 rcases bif_ hr with ⟨hb25, hr⟩ | ⟨hb25, hr⟩
 refine c_true R hb25 (c_skip (q_next (c_seq (c_cut (A := ((List Life)) × (HH)) (fun a => Zn_J2 b24 a.1 = some out1) (fun a => [(1, (pt b7 0)), (3, (.slice a.2.1 a.2.2.1 a.2.2.2)), (4, (iv b24))]) (fun a => ow kT88 88 (.slice a.2.1 a.2.2.1 a.2.2.2) a.1 :: W1) ?_ ?_))))
 refine c_block (c_seq ?_)
 obtain ⟨r26, hx27, hr⟩ := bd hr
 refine c_region (lO (vz (.agg [(sc A2 l1.Sizes D2), (sc A3 l1.Ins D3), (sc A4 l1.Fixed D4), (sc A5 l1.Kernels D5), (sc A6 l1.Outs D6)].toArray) (v_loadw 1 ag36 sz36 R R R R)) (lI R (lM (RR kT3 A2 D2 l1.Sizes :: RR kT3 A3 D3 l1.Ins :: RR kT57 A4 D4 l1.Fixed :: RR kT64 A5 D5 l1.Kernels :: RR kT3 A6 D6 l1.Outs :: OO kT88 88 A23 D23 x22 :: W1) (fun w s => ((((((s.d 2 R).d 4 R).d 6 R).d 8 R).d 10 R).e 6 [4, 3, 2, 1, 0, 5])) ?_)))
 refine lC 5 cb65 R (Z7_ok hx27) R ?_
 rintro _
 refine lN (_ :: W1) ?_
 refine lO (vT R) (lO (vA R) (lB R (l_alloc R R zc88 (fun b28 => (l_stores 0 R R sz88 R R R R R R (lN (bxl b28 [(iv r26.1.Buffer), (iv r26.1.Size), (iv r26.1.From), (iv r26.1.To)] 88 :: _ :: W1) ?_))))))
 refine lB R (l_nil (q_next (c_seq (c_region (lB R (l_nil (q_next ?_)))))))
 rcases bif_ hr with ⟨hb29, hr⟩ | ⟨hb29, hr⟩
 refine c_true R hb29 ?_
 obtain ⟨hg31, hr⟩ := gd hr
 refine c_region (lS R (lO (vz (.agg [(iv r26.1.Buffer), (iv r26.1.Size), (iv r26.1.From), (iv r26.1.To)].toArray) (v_loadw 0 ag88 sz88 R R R R)) (l_build (K := kT88) (xs := ([r26.1] : List Life)) (vs := [(.agg [(iv r26.1.Buffer), (iv r26.1.Size), (iv r26.1.From), (iv r26.1.To)].toArray)]) 0 R R sl83 sz88 zc88 R R R R R R ?_ R (fun A30 D30 => ?_))))
 exact fun I h s => (mO88).list [(((), (), (), ()), r26.1)] I h s
 refine lN (OO kT88 88 A30 D30 ([r26.1] : List Life) :: _ :: _ :: W1) ?_
 refine lM (ow _ _ _ _ :: ow _ _ _ _ :: bxl _ _ _ :: W1) (fun w s => (s.e 3 [2, 0, 1])) ?_
 refine l_app (K := kT88) 4398046511104 R R sl83 sz88 by88 (Zr.zk zT88 zc88) R R R R R R src_ow hg31 (fun A32 D32 => (lN (OO kT88 88 A32 D32 (x22 ++ ([r26.1] : List Life)) :: _ :: W1) ?_))
 refine lS R (l_nil (q_blockn ?_))
 exact qI ((x22 ++ ([r26.1] : List Life)), (A32, (x22 ++ ([r26.1] : List Life)).length, D32)) hr (fun w s => (s.e 2 [0]))
 refine c_false R hb29 (c_skip (q_blockn ?_))
 exact qI (x22, (A23, x22.length, D23)) hr (fun w s => (s.e 2 [1]))
 rintro ⟨x33, ⟨A34, N34, D34⟩⟩ σ1 hr
 replace hr : Zn_J2 b24 x33 = some out1 := hr
 unfold Zn_J2 at hr
 refine c_len 0 sees_ow (fun (hn : N34 = x33.length) => ?_)
 subst hn
 refine c_region (lI R (lO (vAd R R) (lI R (l_nil ?_))))
 obtain rfl := so hr
 exact qA (A34, x33.length, D34) (fun w s => s)
 refine c_false R hb25 (c_exit (q_exit ?_))
 obtain rfl := so hr
 obtain rfl := he1 _ R
 have hr := hk1
 refine q_exit (q_block ?_)
 exact qI (x22, (A23, x22.length, D23)) hr (fun w s => s)
 rintro ⟨x38, ⟨A39, N39, D39⟩⟩ σ1 hr
 replace hr : Zn_J3 x38 = some r := hr
 unfold Zn_J3 at hr
 refine c_len 0 sees_ow (fun (hn : N39 = x38.length) => ?_)
 subst hn
 refine c_seq (c_region (lS R (lS R (l_nil (q_next (c_ret ?_))))))
 obtain rfl := so hr
 exact qF (A39, x38.length, D39) (fun w s => (s.e 7 [0]))
theorem Z09_ok  {lives1 : (List Life)} {r : Bool} (hr : Z09 lives1 = some r) :
 FnOk Tryz.prog 90 [(.slice A2 N2 D2)] [rds kT88 (.slice A2 N2 D2) lives1] (fun (h : Unit) => ((.bool r), [])) := by
 unfold Z09 at hr
 refine fn_ok Tryz.func90 R 43 R R fun C V => ?_
 refine cN (_ :: V) ?_
 refine cL 0 sees_rd ?_
 rintro rfl
 let W0 : List HP := RR kT88 A2 D2 lives1 :: V
 refine cN W0 ?_
 refine c_seq (c_region (lB R (l_nil (q_next (c_seq (c_seq (c_region (lS R (lO (v_len sl83 R) (lO (vGt R R) (l_nil (q_next ?_))))))))))))
 rcases bif_ hr with ⟨hb3, hr⟩ | ⟨hb3, hr⟩
 refine c_true R hb3 (c_seq (c_region (lB R (l_nil (q_next (c_ret (q_ret ?_)))))))
 obtain rfl := so hr
 exact qF () (fun w s => (s.e 1 []))
 refine c_false R hb3 (c_skip (q_next (c_seq (c_cut (A := (Unit) × (Unit)) (fun a => Z09_J1 = some r) (fun a => []) (fun a => W0) ?_ ?_))))
 refine c_seq (c_region (lI R (l_nil (q_next (c_block ?_)))))
 obtain ⟨e1, hl1, hk1⟩ := bd hr
 refine c_loop (A := HH) hl1 (fun s a => [(0, (.slice a.1 a.2.1 a.2.2)), (3, (iv s))]) (fun s a => rds kT88 (.slice a.1 a.2.1 a.2.2) lives1 :: W0) (A2, lives1.length, D2) (aS R) (fun w s => (s.d 0 R)) ?_
 rintro i15 ⟨A14, N14, D14⟩ σ1 out1 hr he1
 replace hr : Z09_L1 lives1 i15 = some out1 := hr
 unfold Z09_L1 at hr
 refine c_len 0 sees_rd (fun (hn : N14 = lives1.length) => ?_)
 subst hn
 refine c_seq (c_seq (c_region (lI R (lS R (lO (v_len sl83 R) (lO (vLt R R) (l_nil (q_next ?_))))))))
 rcases bif_ hr with ⟨hb16, hr⟩ | ⟨hb16, hr⟩
 refine c_true R hb16 (c_skip (q_next (c_seq (c_block (c_seq ?_)))))
 obtain ⟨hg17, hr⟩ := gd hr
 refine c_region (lS R (lI R (t_some 0 sees_rd (show 0 < lives1.length by have := hg17; omega) (fun g18 o19 ha => ?_))))
 subst ha
 refine lO (vIa sl83 sz88 R R hg17) (l_v (.agg [(iv (ix lives1 i15).Buffer), (iv (ix lives1 i15).Size), (iv (ix lives1 i15).From), (iv (ix lives1 i15).To)].toArray) ?_ R R ?_)
 exact (v_ldef (K := kT88) (cells := fun x => [(iv x.Buffer), (iv x.Size), (iv x.From), (iv x.To)]) 0 i15 ag88 sz88 (DecK.flat dT88 fun _ _ => R) sees_rd R hg17.1 hg17.2)
 refine l_alloc R R zc88 (fun b20 => (l_stores 0 R R sz88 R R R R R R (lN (bxl b20 [(iv (ix lives1 i15).Buffer), (iv (ix lives1 i15).Size), (iv (ix lives1 i15).From), (iv (ix lives1 i15).To)] 88 :: RR kT88 (ad g18 o19) D14 lives1 :: W0) ?_)))
 refine l_nil (q_next (c_seq (cQ [(0, (sc (ad g18 o19) lives1 D14)), (3, (iv i15)), (42, (.bool (((((decide ((ix lives1 i15).Size < (1 : Int))) || (decide ((ix lives1 i15).Size > (4096 : Int)))) || (decide ((ix lives1 i15).From < (0 : Int)))) || (decide ((ix lives1 i15).From > (ix lives1 i15).To))) || (decide ((ix lives1 i15).To > (400 : Int))))))] (RR kT88 (ad g18 o19) D14 lives1 :: W0) ?_ ?_)))
 refine c_region (lO (vFa 1 fo88_1 R) (lO (vLd 0 ag3 R R R) (lO (vLt R R) (lB R ?_))))
 rcases bo (decide ((ix lives1 i15).Size < (1 : Int))) with hc21 | hc21
 refine lf (wfT hc21) (lf (wfT hc21) (lf (wfT hc21) (lO (pOT (decide ((ix lives1 i15).Size > (4096 : Int))) R hc21) (lB R (lf (wfT (oT hc21)) (lf (wfT (oT hc21)) (lf (wfT (oT hc21)) (lO (pOT (decide ((ix lives1 i15).From < (0 : Int))) R (oT hc21)) (lB R (lf (wfT (oT (oT hc21))) (lf (wfT (oT (oT hc21))) (lf (wfT (oT (oT hc21))) (lf (wfT (oT (oT hc21))) (lf (wfT (oT (oT hc21))) (lO (pOT (decide ((ix lives1 i15).From > (ix lives1 i15).To)) R (oT (oT hc21))) (lB R (lf (wfT (oT (oT (oT hc21)))) (lf (wfT (oT (oT (oT hc21)))) (lf (wfT (oT (oT (oT hc21)))) (lO (pOT (decide ((ix lives1 i15).To > (400 : Int))) R (oT (oT (oT hc21)))) (l_nil ?_)))))))))))))))))))))
 exact qJ (fun w s => (s.e 2 [1]))
 refine lW (wnF hc21) (vFa 1 fo88_1 R) (lW (wnF hc21) (vLd 0 ag3 R R R) (lW (wnF hc21) (vGt R R) (lO (pOF R hc21 R) (lB R ?_))))
 rcases bo ((decide ((ix lives1 i15).Size < (1 : Int))) || (decide ((ix lives1 i15).Size > (4096 : Int)))) with hc22 | hc22
 refine lf (wfT hc22) (lf (wfT hc22) (lf (wfT hc22) (lO (pOT (decide ((ix lives1 i15).From < (0 : Int))) R hc22) (lB R (lf (wfT (oT hc22)) (lf (wfT (oT hc22)) (lf (wfT (oT hc22)) (lf (wfT (oT hc22)) (lf (wfT (oT hc22)) (lO (pOT (decide ((ix lives1 i15).From > (ix lives1 i15).To)) R (oT hc22)) (lB R (lf (wfT (oT (oT hc22))) (lf (wfT (oT (oT hc22))) (lf (wfT (oT (oT hc22))) (lO (pOT (decide ((ix lives1 i15).To > (400 : Int))) R (oT (oT hc22))) (l_nil ?_))))))))))))))))
 exact qJ (fun w s => (s.e 2 [1]))
 refine lW (wnF hc22) (vFa 2 fo88_2 R) (lW (wnF hc22) (vLd 0 ag3 R R R) (lW (wnF hc22) (vLt R R) (lO (pOF R hc22 R) (lB R ?_))))
 rcases bo (((decide ((ix lives1 i15).Size < (1 : Int))) || (decide ((ix lives1 i15).Size > (4096 : Int)))) || (decide ((ix lives1 i15).From < (0 : Int)))) with hc23 | hc23
 refine lf (wfT hc23) (lf (wfT hc23) (lf (wfT hc23) (lf (wfT hc23) (lf (wfT hc23) (lO (pOT (decide ((ix lives1 i15).From > (ix lives1 i15).To)) R hc23) (lB R (lf (wfT (oT hc23)) (lf (wfT (oT hc23)) (lf (wfT (oT hc23)) (lO (pOT (decide ((ix lives1 i15).To > (400 : Int))) R (oT hc23)) (l_nil ?_)))))))))))
 exact qJ (fun w s => (s.e 2 [1]))
 refine lW (wnF hc23) (vFa 2 fo88_2 R) (lW (wnF hc23) (vLd 0 ag3 R R R) (lW (wnF hc23) (vFa 3 fo88_3 R) (lW (wnF hc23) (vLd 0 ag3 R R R) (lW (wnF hc23) (vGt R R) (lO (pOF R hc23 R) (lB R ?_))))))
 rcases bo ((((decide ((ix lives1 i15).Size < (1 : Int))) || (decide ((ix lives1 i15).Size > (4096 : Int)))) || (decide ((ix lives1 i15).From < (0 : Int)))) || (decide ((ix lives1 i15).From > (ix lives1 i15).To))) with hc24 | hc24
 refine lf (wfT hc24) (lf (wfT hc24) (lf (wfT hc24) (lO (pOT (decide ((ix lives1 i15).To > (400 : Int))) R hc24) (l_nil ?_))))
 exact qJ (fun w s => (s.e 2 [1]))
 refine lW (wnF hc24) (vFa 3 fo88_3 R) (lW (wnF hc24) (vLd 0 ag3 R R R) (lW (wnF hc24) (vGt R R) (lO (pOF R hc24 R) (l_nil ?_))))
 exact qJ (fun w s => (s.e 2 [1]))
 rintro σ1
 refine q_next ?_
 rcases bif_ hr with ⟨hb25, hr⟩ | ⟨hb25, hr⟩
 refine c_true R hb25 (c_seq (c_region (lB R (l_nil (q_next (c_ret (q_blockr (q_ret ?_))))))))
 obtain rfl := so hr
 obtain rfl := he1 _ R
 have hr := hk1
 refine q_ret (q_blockr (q_ret ?_))
 obtain rfl := so hr
 exact qF () (fun w s => (s.e 2 []))
 refine c_false R hb25 (c_skip (q_blockn (q_next (c_region (lI R (lO (vAd R R) (lI R (l_nil ?_))))))))
 obtain rfl := so hr
 exact qA ((ad g18 o19), lives1.length, D14) (fun w s => s)
 refine c_false R hb16 (c_exit (q_exit ?_))
 obtain rfl := so hr
 obtain rfl := he1 _ R
 have hr := hk1
 refine q_exit (q_block ?_)
 exact q_join ((), ()) hr trivial (fun w s => (s.e 1 []))
 rintro ⟨_, _⟩ σ1 hr
 replace hr : Z09_J1 = some r := hr
 unfold Z09_J1 at hr
 refine c_seq (c_region (lB R (l_nil (q_next (c_ret ?_)))))
 obtain rfl := so hr
 exact qF () (fun w s => (s.e 1 []))
theorem Zd_ok  {lives1 : (List Life)} {offsets3 : (List Int)} {r : Int} (hr : Zd lives1 offsets3 = some r) :
 FnOk Tryz.prog 91 [(.slice A2 N2 D2), (.slice A4 N4 D4)] [rds kT88 (.slice A2 N2 D2) lives1, rds kT3 (.slice A4 N4 D4) offsets3] (fun (h : Unit) => ((iv r), [])) := by
 unfold Zd at hr
 refine fn_ok Tryz.func91 R 61 R R fun C V => ?_
 refine cN (_ :: _ :: V) ?_
 refine cL 0 sees_rd ?_
 rintro rfl
 refine cL 1 sees_rd ?_
 rintro rfl
 let W0 : List HP := RR kT88 A2 D2 lives1 :: RR kT3 A4 D4 offsets3 :: V
 refine cN W0 ?_
 refine c_seq (c_region (lI R (l_nil (q_next (c_seq (c_region (lI R (l_nil (q_next (c_seq (c_cut (A := (Int) × (Unit)) (fun a => Zd_J3 a.1 = some r) (fun a => [(5, (iv a.1))]) (fun a => W0) ?_ ?_)))))))))))
 refine c_seq (c_region (lI R (l_nil (q_next (c_block ?_)))))
 obtain ⟨e1, hl1, hk1⟩ := bd hr
 refine c_loop (A := HH) hl1 (fun s a => [(0, (sc A2 lives1 D2)), (1, (.slice a.1 a.2.1 a.2.2)), (5, (iv s.1)), (6, (iv s.2))]) (fun s a => rds kT3 (.slice a.1 a.2.1 a.2.2) offsets3 :: W0) (A4, offsets3.length, D4) (aS R) (fun w s => (s.d 1 R)) ?_
 rintro ⟨x25, i26⟩ ⟨A24, N24, D24⟩ σ1 out1 hr he1
 replace hr : Zd_L1 lives1 offsets3 x25 i26 = some out1 := hr
 unfold Zd_L1 at hr
 refine c_len 0 sees_rd (fun (hn : N24 = offsets3.length) => ?_)
 subst hn
 refine c_seq (c_seq (c_region (lI R (lS R (lO (v_len sl83 R) (lO (vLt R R) (l_nil (q_next ?_))))))))
 rcases bif_ hr with ⟨hb27, hr⟩ | ⟨hb27, hr⟩
 refine c_true R hb27 (c_skip (q_next (c_seq (c_cut (A := (Int) × (HH)) (fun a => Zd_J2 i26 a.1 = some out1) (fun a => [(0, (sc A2 lives1 D2)), (1, (.slice a.2.1 a.2.2.1 a.2.2.2)), (5, (iv a.1)), (6, (iv i26))]) (fun a => rds kT3 (.slice a.2.1 a.2.2.1 a.2.2.2) offsets3 :: W0) ?_ ?_))))
 refine c_block (c_seq (c_seq ?_))
 obtain ⟨hg28, hr⟩ := gd hr
 refine c_region (lS R (lI R (t_some 0 sees_rd (show 0 < offsets3.length by have := hg28; omega) (fun g29 o30 ha => ?_))))
 subst ha
 refine lO (vIa sl22 sz3 R R hg28) (lO (vLi 0 ag3 sees_rd R hg28) (lO (vGe R R) (l_nil (q_next ?_))))
 rcases bif_ hr with ⟨hb31, hr⟩ | ⟨hb31, hr⟩
 refine c_true R hb31 (c_exit (q_exit (q_block ?_)))
 exact qI (x25, ((ad g29 o30), offsets3.length, D24)) hr (fun w s => s)
 refine c_false R hb31 (c_skip (q_next (c_seq ?_)))
 obtain ⟨hg32, hr⟩ := gd hr
 obtain ⟨hg35, hr⟩ := gd hr
 obtain ⟨hg36, hr⟩ := gd hr
 obtain ⟨hg37, hr⟩ := gd hr
 obtain ⟨hg38, hr⟩ := gd hr
 obtain ⟨hg39, hr⟩ := gd hr
 refine cQ [(0, (sc A2 lives1 D2)), (1, (sc (ad g29 o30) offsets3 D24)), (5, (iv x25)), (6, (iv i26)), (58, (.bool (((decide (x25 < (0 : Int))) || (decide ((ix lives1 i26).Size > (ix lives1 x25).Size))) || (((ix lives1 i26).Size == (ix lives1 x25).Size) && (decide ((ix lives1 i26).From < (ix lives1 x25).From))))))] (RR kT3 (ad g29 o30) D24 offsets3 :: W0) ?_ ?_
 rcases bo (decide (x25 < (0 : Int))) with hc40 | hc40
 refine cdr 41 [] mixo (fun ht hn => (dR 0 R (vI R) (dR 1 R (vLt R R) (dR 2 R (vB R) (dF 3 R (wfT hc40) (dF 4 R (wfT hc40) (dF 5 R (wfT hc40) (dF 6 R (wfT hc40) (dF 7 R (wfT hc40) (dF 8 R (wfT hc40) (dF 9 R (wfT hc40) (dF 10 R (wfT hc40) (dF 11 R (wfT hc40) (dF 12 R (wfT hc40) (dF 13 R (wfT hc40) (dR 14 R (pOT (decide ((ix lives1 i26).Size > (ix lives1 x25).Size)) R hc40) (dR 15 R (vB R) (dF 16 R (wfT (oT hc40)) (dF 17 R (wfT (oT hc40)) (dF 18 R (wfT (oT hc40)) (dF 19 R (wfT (oT hc40)) (dF 20 R (wfT (oT hc40)) (dF 21 R (wfT (oT hc40)) (dF 22 R (wfT (oT hc40)) (dF 23 R (wfT (oT hc40)) (dF 24 R (wfT (oT hc40)) (dF 25 R (wfT (oT hc40)) (dF 26 R (wfT (oT hc40)) (dF 27 R (wfT (oT hc40)) (dF 28 R R (dF 29 R R (dF 30 R R (dF 31 R R (dF 32 R R (dF 33 R R (dF 34 R R (dF 35 R R (dF 36 R R (dF 37 R R (dF 38 R R (dF 39 R (wfT (oT hc40)) (dR 40 R (pOT (((ix lives1 i26).Size == (ix lives1 x25).Size) && (decide ((ix lives1 i26).From < (ix lives1 x25).From))) R (oT hc40)) (dD ?_)))))))))))))))))))))))))))))))))))))))))))
 exact qJ (fun w s => s)
 rcases bo ((decide (x25 < (0 : Int))) || (decide ((ix lives1 i26).Size > (ix lives1 x25).Size))) with hc41 | hc41
 refine c_some 1 sees_rd (show 0 < lives1.length by have := (hg32 hc40); omega) (fun g33 o34 ha => ?_)
 subst ha
 refine cdr 41 [] mixo (fun ht hn => (dR 0 R (vI R) (dR 1 R (vLt R R) (dR 2 R (vB R) (dW 3 R (wnF hc40) (vS R) (dW 4 R (wnF hc40) (vI R) (dW 5 R (wnF hc40) (vIa sl83 sz88 R R (hg32 hc40)) (dW 6 R (wnF hc40) (vz (.pointer (some ⟨g33, o34 + i26.toNat * 4 + 1, none⟩)) (v_fa fo88_1 R R)) (dW 7 R (wnF hc40) (vz (iv (ix lives1 i26).Size) (v_lde (K := kT88) (fo := 1) (pr := fun x => (iv x.Size)) 1 i26 ag3 (dT88.leaf fun _ _ => R) sees_rd R (hg32 hc40).1 (hg32 hc40).2)) (dW 8 R (wnF hc40) (vS R) (dW 9 R (wnF hc40) (vI R) (dW 10 R (wnF hc40) (vIa sl83 sz88 R R (hg35 hc40)) (dW 11 R (wnF hc40) (vz (.pointer (some ⟨g33, o34 + x25.toNat * 4 + 1, none⟩)) (v_fa fo88_1 R R)) (dW 12 R (wnF hc40) (vz (iv (ix lives1 x25).Size) (v_lde (K := kT88) (fo := 1) (pr := fun x => (iv x.Size)) 1 x25 ag3 (dT88.leaf fun _ _ => R) sees_rd R (hg35 hc40).1 (hg35 hc40).2)) (dW 13 R (wnF hc40) (vGt R R) (dR 14 R (pOF R hc40 R) (dR 15 R (vB R) (dF 16 R (wfT hc41) (dF 17 R (wfT hc41) (dF 18 R (wfT hc41) (dF 19 R (wfT hc41) (dF 20 R (wfT hc41) (dF 21 R (wfT hc41) (dF 22 R (wfT hc41) (dF 23 R (wfT hc41) (dF 24 R (wfT hc41) (dF 25 R (wfT hc41) (dF 26 R (wfT hc41) ?_))))))))))))))))))))))))))))
 refine dF 27 R (wfT hc41) (dF 28 R R (dF 29 R R (dF 30 R R (dF 31 R R (dF 32 R R (dF 33 R R (dF 34 R R (dF 35 R R (dF 36 R R (dF 37 R R (dF 38 R R (dF 39 R (wfT hc41) (dR 40 R (pOT (((ix lives1 i26).Size == (ix lives1 x25).Size) && (decide ((ix lives1 i26).From < (ix lives1 x25).From))) R hc41) (dD ?_))))))))))))))
 exact qJ (fun w s => s)
 rcases bo ((ix lives1 i26).Size == (ix lives1 x25).Size) with hc42 | hc42
 refine c_some 1 sees_rd (show 0 < lives1.length by have := (hg32 hc40); omega) (fun g33 o34 ha => ?_)
 subst ha
 refine cdr 41 [] mixo (fun ht hn => (dR 0 R (vI R) (dR 1 R (vLt R R) (dR 2 R (vB R) (dW 3 R (wnF hc40) (vS R) (dW 4 R (wnF hc40) (vI R) (dW 5 R (wnF hc40) (vIa sl83 sz88 R R (hg32 hc40)) (dW 6 R (wnF hc40) (vz (.pointer (some ⟨g33, o34 + i26.toNat * 4 + 1, none⟩)) (v_fa fo88_1 R R)) (dW 7 R (wnF hc40) (vz (iv (ix lives1 i26).Size) (v_lde (K := kT88) (fo := 1) (pr := fun x => (iv x.Size)) 1 i26 ag3 (dT88.leaf fun _ _ => R) sees_rd R (hg32 hc40).1 (hg32 hc40).2)) (dW 8 R (wnF hc40) (vS R) (dW 9 R (wnF hc40) (vI R) (dW 10 R (wnF hc40) (vIa sl83 sz88 R R (hg35 hc40)) (dW 11 R (wnF hc40) (vz (.pointer (some ⟨g33, o34 + x25.toNat * 4 + 1, none⟩)) (v_fa fo88_1 R R)) (dW 12 R (wnF hc40) (vz (iv (ix lives1 x25).Size) (v_lde (K := kT88) (fo := 1) (pr := fun x => (iv x.Size)) 1 x25 ag3 (dT88.leaf fun _ _ => R) sees_rd R (hg35 hc40).1 (hg35 hc40).2)) (dW 13 R (wnF hc40) (vGt R R) (dR 14 R (pOF R hc40 R) (dR 15 R (vB R) (dW 16 R (wnF hc41) (vS R) (dW 17 R (wnF hc41) (vI R) (dW 18 R (wnF hc41) (vIa sl83 sz88 R R (hg36 hc41)) (dW 19 R (wnF hc41) (vz (.pointer (some ⟨g33, o34 + i26.toNat * 4 + 1, none⟩)) (v_fa fo88_1 R R)) ?_)))))))))))))))))))))
 refine dW 20 R (wnF hc41) (vz (iv (ix lives1 i26).Size) (v_lde (K := kT88) (fo := 1) (pr := fun x => (iv x.Size)) 1 i26 ag3 (dT88.leaf fun _ _ => R) sees_rd R (hg36 hc41).1 (hg36 hc41).2)) (dW 21 R (wnF hc41) (vS R) (dW 22 R (wnF hc41) (vI R) (dW 23 R (wnF hc41) (vIa sl83 sz88 R R (hg37 hc41)) (dW 24 R (wnF hc41) (vz (.pointer (some ⟨g33, o34 + x25.toNat * 4 + 1, none⟩)) (v_fa fo88_1 R R)) (dW 25 R (wnF hc41) (vz (iv (ix lives1 x25).Size) (v_lde (K := kT88) (fo := 1) (pr := fun x => (iv x.Size)) 1 x25 ag3 (dT88.leaf fun _ _ => R) sees_rd R (hg37 hc41).1 (hg37 hc41).2)) (dW 26 R (wnF hc41) (vEq R R) (dW 27 R (wnF hc41) (vB R) (dW 28 R (wnT hc42) (vS R) (dW 29 R (wnT hc42) (vI R) (dW 30 R (wnT hc42) (vIa sl83 sz88 R R (hg38 hc41 hc42)) (dW 31 R (wnT hc42) (vz (.pointer (some ⟨g33, o34 + i26.toNat * 4 + 2, none⟩)) (v_fa fo88_2 R R)) (dW 32 R (wnT hc42) (vz (iv (ix lives1 i26).From) (v_lde (K := kT88) (fo := 2) (pr := fun x => (iv x.From)) 1 i26 ag3 (dT88.leaf fun _ _ => R) sees_rd R (hg38 hc41 hc42).1 (hg38 hc41 hc42).2)) (dW 33 R (wnT hc42) (vS R) (dW 34 R (wnT hc42) (vI R) (dW 35 R (wnT hc42) (vIa sl83 sz88 R R (hg39 hc41 hc42)) ?_)))))))))))))))
 refine dW 36 R (wnT hc42) (vz (.pointer (some ⟨g33, o34 + x25.toNat * 4 + 2, none⟩)) (v_fa fo88_2 R R)) (dW 37 R (wnT hc42) (vz (iv (ix lives1 x25).From) (v_lde (K := kT88) (fo := 2) (pr := fun x => (iv x.From)) 1 x25 ag3 (dT88.leaf fun _ _ => R) sees_rd R (hg39 hc41 hc42).1 (hg39 hc41 hc42).2)) (dW 38 R (wnT hc42) (vLt R R) (dW 39 R (wnF hc41) (pAT R hc42 R) (dR 40 R (pOF R hc41 R) (dD ?_)))))
 exact qJ (fun w s => s)
 refine c_some 1 sees_rd (show 0 < lives1.length by have := (hg32 hc40); omega) (fun g33 o34 ha => ?_)
 subst ha
 refine cdr 41 [] mixo (fun ht hn => (dR 0 R (vI R) (dR 1 R (vLt R R) (dR 2 R (vB R) (dW 3 R (wnF hc40) (vS R) (dW 4 R (wnF hc40) (vI R) (dW 5 R (wnF hc40) (vIa sl83 sz88 R R (hg32 hc40)) (dW 6 R (wnF hc40) (vz (.pointer (some ⟨g33, o34 + i26.toNat * 4 + 1, none⟩)) (v_fa fo88_1 R R)) (dW 7 R (wnF hc40) (vz (iv (ix lives1 i26).Size) (v_lde (K := kT88) (fo := 1) (pr := fun x => (iv x.Size)) 1 i26 ag3 (dT88.leaf fun _ _ => R) sees_rd R (hg32 hc40).1 (hg32 hc40).2)) (dW 8 R (wnF hc40) (vS R) (dW 9 R (wnF hc40) (vI R) (dW 10 R (wnF hc40) (vIa sl83 sz88 R R (hg35 hc40)) (dW 11 R (wnF hc40) (vz (.pointer (some ⟨g33, o34 + x25.toNat * 4 + 1, none⟩)) (v_fa fo88_1 R R)) (dW 12 R (wnF hc40) (vz (iv (ix lives1 x25).Size) (v_lde (K := kT88) (fo := 1) (pr := fun x => (iv x.Size)) 1 x25 ag3 (dT88.leaf fun _ _ => R) sees_rd R (hg35 hc40).1 (hg35 hc40).2)) (dW 13 R (wnF hc40) (vGt R R) (dR 14 R (pOF R hc40 R) (dR 15 R (vB R) (dW 16 R (wnF hc41) (vS R) (dW 17 R (wnF hc41) (vI R) (dW 18 R (wnF hc41) (vIa sl83 sz88 R R (hg36 hc41)) (dW 19 R (wnF hc41) (vz (.pointer (some ⟨g33, o34 + i26.toNat * 4 + 1, none⟩)) (v_fa fo88_1 R R)) ?_)))))))))))))))))))))
 refine dW 20 R (wnF hc41) (vz (iv (ix lives1 i26).Size) (v_lde (K := kT88) (fo := 1) (pr := fun x => (iv x.Size)) 1 i26 ag3 (dT88.leaf fun _ _ => R) sees_rd R (hg36 hc41).1 (hg36 hc41).2)) (dW 21 R (wnF hc41) (vS R) (dW 22 R (wnF hc41) (vI R) (dW 23 R (wnF hc41) (vIa sl83 sz88 R R (hg37 hc41)) (dW 24 R (wnF hc41) (vz (.pointer (some ⟨g33, o34 + x25.toNat * 4 + 1, none⟩)) (v_fa fo88_1 R R)) (dW 25 R (wnF hc41) (vz (iv (ix lives1 x25).Size) (v_lde (K := kT88) (fo := 1) (pr := fun x => (iv x.Size)) 1 x25 ag3 (dT88.leaf fun _ _ => R) sees_rd R (hg37 hc41).1 (hg37 hc41).2)) (dW 26 R (wnF hc41) (vEq R R) (dW 27 R (wnF hc41) (vB R) (dF 28 R (wfF hc42) (dF 29 R (wfF hc42) (dF 30 R (wfF hc42) (dF 31 R (wfF hc42) (dF 32 R (wfF hc42) (dF 33 R (wfF hc42) (dF 34 R (wfF hc42) (dF 35 R (wfF hc42) (dF 36 R (wfF hc42) (dF 37 R (wfF hc42) (dF 38 R (wfF hc42) (dW 39 R (wnF hc41) (pAF (decide ((ix lives1 i26).From < (ix lives1 x25).From)) R hc42) (dR 40 R (pOF R hc41 R) (dD ?_)))))))))))))))))))))
 exact qJ (fun w s => s)
 rintro σ1
 refine q_next ?_
 rcases bif_ hr with ⟨hb43, hr⟩ | ⟨hb43, hr⟩
 refine c_true R hb43 (c_region (lI R (lI R (l_nil (q_blockn ?_)))))
 exact qI (i26, ((ad g29 o30), offsets3.length, D24)) hr (fun w s => s)
 refine c_false R hb43 (c_skip (q_blockn ?_))
 exact qI (x25, ((ad g29 o30), offsets3.length, D24)) hr (fun w s => s)
 rintro ⟨x45, ⟨A44, N44, D44⟩⟩ σ1 hr
 replace hr : Zd_J2 i26 x45 = some out1 := hr
 unfold Zd_J2 at hr
 refine c_len 0 sees_rd (fun (hn : N44 = offsets3.length) => ?_)
 subst hn
 refine c_region (lI R (lO (vAd R R) (lI R (l_nil ?_))))
 obtain rfl := so hr
 exact qA (A44, offsets3.length, D44) (fun w s => s)
 refine c_false R hb27 (c_exit (q_exit ?_))
 obtain rfl := so hr
 obtain rfl := he1 _ R
 have hr := hk1
 refine q_exit (q_block ?_)
 exact qI (x25, ()) hr (fun w s => (s.e 1 []))
 rintro ⟨x49, _⟩ σ1 hr
 replace hr : Zd_J3 x49 = some r := hr
 unfold Zd_J3 at hr
 refine c_seq (c_region (lI R (lI R (l_nil (q_next (c_ret ?_))))))
 obtain rfl := so hr
 exact qF () (fun w s => (s.e 2 []))
theorem Z25_ok  {a1 : Life} {b2 : Life} {r : Bool} (hr : Z25 a1 b2 = some r) :
 FnOk Tryz.prog 139 [(.agg [(iv a1.Buffer), (iv a1.Size), (iv a1.From), (iv a1.To)].toArray), (.agg [(iv b2.Buffer), (iv b2.Size), (iv b2.From), (iv b2.To)].toArray)] [] (fun (h : Unit) => ((.bool r), [])) := by
 unfold Z25 at hr
 refine fn_ok Tryz.func139 R 17 R R fun C V => ?_
 refine cN V ?_
 refine c_seq (c_region (lBx R (fun b3 => (lBx R (fun b4 => (lB R (l_nil ?_)))))))
 let W1 : List HP := bxl b4 [(iv b2.Buffer), (iv b2.Size), (iv b2.From), (iv b2.To)] 88 :: bxl b3 [(iv a1.Buffer), (iv a1.Size), (iv a1.From), (iv a1.To)] 88 :: V
 refine qN W1 ?_
 refine q_next (c_seq (cQ [(4, (.bool ((decide (a1.From ≤ b2.To)) && (decide (b2.From ≤ a1.To)))))] (W1) ?_ ?_))
 refine c_region (lO (vFa 2 fo88_2 R) (lO (vLd 1 ag3 R R R) (lO (vFa 3 fo88_3 R) (lO (vLd 0 ag3 R R R) (lO (vLe R R) (lB R ?_))))))
 rcases bo (decide (a1.From ≤ b2.To)) with hc5 | hc5
 refine lW (wnT hc5) (vFa 2 fo88_2 R) (lW (wnT hc5) (vLd 0 ag3 R R R) (lW (wnT hc5) (vFa 3 fo88_3 R) (lW (wnT hc5) (vLd 1 ag3 R R R) (lW (wnT hc5) (vLe R R) (lO (pAT R hc5 R) (lB R (l_nil ?_)))))))
 exact qJ (fun w s => s)
 refine lf (wfF hc5) (lf (wfF hc5) (lf (wfF hc5) (lf (wfF hc5) (lf (wfF hc5) (lO (pAF (decide (b2.From ≤ a1.To)) R hc5) (lB R (l_nil ?_)))))))
 exact qJ (fun w s => s)
 rintro σ1
 refine q_next (c_ret ?_)
 obtain rfl := so hr
 exact qF () (fun w s => (s.e 2 []))
theorem Zj_ok  {lives1 : (List Life)} {offsets3 : (List Int)} {i5 : Int} {p6 : Int} {r : Bool} (hr : Zj lives1 offsets3 i5 p6 = some r) :
 FnOk Tryz.prog 92 [(.slice A2 N2 D2), (.slice A4 N4 D4), (iv i5), (iv p6)] [rds kT88 (.slice A2 N2 D2) lives1, rds kT3 (.slice A4 N4 D4) offsets3] (fun (h : Unit) => ((.bool r), [])) := by
 unfold Zj at hr
 refine fn_ok Tryz.func92 R 64 R R fun C V => ?_
 refine cN (_ :: _ :: V) ?_
 refine cL 0 sees_rd ?_
 rintro rfl
 refine cL 1 sees_rd ?_
 rintro rfl
 let W0 : List HP := RR kT88 A2 D2 lives1 :: RR kT3 A4 D4 offsets3 :: V
 refine cN W0 ?_
 refine c_seq (c_region (lB R (l_nil (q_next (c_seq (c_cut (A := (Unit) × (Unit)) (fun a => Zj_J3 = some r) (fun a => []) (fun a => W0) ?_ ?_))))))
 refine c_seq (c_region (lI R (l_nil (q_next (c_block ?_)))))
 obtain ⟨e1, hl1, hk1⟩ := bd hr
 refine c_loop (A := Unit) hl1 (fun s a => [(0, (sc A2 lives1 D2)), (1, (sc A4 offsets3 D4)), (2, (iv i5)), (3, (iv p6)), (9, (iv s))]) (fun s a => W0) () (aS R) (fun w s => s) ?_
 rintro k29 _ σ1 out1 hr he1
 replace hr : Zj_L1 lives1 offsets3 i5 p6 k29 = some out1 := hr
 unfold Zj_L1 at hr
 refine c_seq (c_seq (c_region (lI R (lS R (lO (v_len sl83 R) (lO (vLt R R) (l_nil (q_next ?_))))))))
 rcases bif_ hr with ⟨hb30, hr⟩ | ⟨hb30, hr⟩
 refine c_true R hb30 (c_skip (q_next (c_seq (c_cut (A := (Unit) × (Unit)) (fun a => Zj_J2 k29 = some out1) (fun a => [(0, (sc A2 lives1 D2)), (1, (sc A4 offsets3 D4)), (2, (iv i5)), (3, (iv p6)), (9, (iv k29))]) (fun a => W0) ?_ ?_))))
 refine c_block (c_seq (c_seq ?_))
 obtain ⟨hg31, hr⟩ := gd hr
 obtain ⟨hg34, hr⟩ := gd hr
 obtain ⟨hg37, hr⟩ := gd hr
 obtain ⟨r38, hx39, hr⟩ := bd hr
 refine cQ [(0, (sc A2 lives1 D2)), (1, (sc A4 offsets3 D4)), (2, (iv i5)), (3, (iv p6)), (9, (iv k29)), (37, (.bool (((k29 == i5) || (decide ((ix offsets3 k29) < (0 : Int)))) || (!r38))))] (W0) ?_ ?_
 rcases bo (k29 == i5) with hc40 | hc40
 refine cdr 22 [] mixo (fun ht hn => (dR 0 R (vI R) (dR 1 R (vI R) (dR 2 R (vEq R R) (dR 3 R (vB R) (dF 4 R (wfT hc40) (dF 5 R (wfT hc40) (dF 6 R (wfT hc40) (dF 7 R (wfT hc40) (dF 8 R (wfT hc40) (dR 9 R (pOT (decide ((ix offsets3 k29) < (0 : Int))) R hc40) (dR 10 R (vB R) (dF 11 R (wfT (oT hc40)) (dF 12 R (wfT (oT hc40)) (dF 13 R (wfT (oT hc40)) (dF 14 R (wfT (oT hc40)) (dF 15 R (wfT (oT hc40)) (dF 16 R (wfT (oT hc40)) (dF 17 R (wfT (oT hc40)) (dF 18 R (wfT (oT hc40)) (dF 19 R (wfT (oT hc40)) (dF 20 R (wfT (oT hc40)) (dR 21 R (pOT (!r38) R (oT hc40)) (dD ?_))))))))))))))))))))))))
 exact qJ (fun w s => s)
 rcases bo ((k29 == i5) || (decide ((ix offsets3 k29) < (0 : Int)))) with hc41 | hc41
 refine c_some 1 sees_rd (show 0 < offsets3.length by have := (hg31 hc40); omega) (fun g32 o33 ha => ?_)
 subst ha
 refine cdr 22 [] mixo (fun ht hn => (dR 0 R (vI R) (dR 1 R (vI R) (dR 2 R (vEq R R) (dR 3 R (vB R) (dW 4 R (wnF hc40) (vS R) (dW 5 R (wnF hc40) (vI R) (dW 6 R (wnF hc40) (vIa sl22 sz3 R R (hg31 hc40)) (dW 7 R (wnF hc40) (vLi 1 ag3 sees_rd R (hg31 hc40)) (dW 8 R (wnF hc40) (vLt R R) (dR 9 R (pOF R hc40 R) (dR 10 R (vB R) (dF 11 R (wfT hc41) (dF 12 R (wfT hc41) (dF 13 R (wfT hc41) (dF 14 R (wfT hc41) (dF 15 R (wfT hc41) (dF 16 R (wfT hc41) (dF 17 R (wfT hc41) (dF 18 R (wfT hc41) (dF 19 R (wfT hc41) (dF 20 R (wfT hc41) (dR 21 R (pOT (!r38) R hc41) (dD ?_))))))))))))))))))))))))
 exact qJ (fun w s => s)
 refine c_some 1 sees_rd (show 0 < offsets3.length by have := (hg31 hc40); omega) (fun g32 o33 ha => ?_)
 subst ha
 refine c_some 0 sees_rd (show 0 < lives1.length by have := (hg34 hc41); omega) (fun g35 o36 ha => ?_)
 subst ha
 refine cdr 22 [] mixo (fun ht hn => (dR 0 R (vI R) (dR 1 R (vI R) (dR 2 R (vEq R R) (dR 3 R (vB R) (dW 4 R (wnF hc40) (vS R) (dW 5 R (wnF hc40) (vI R) (dW 6 R (wnF hc40) (vIa sl22 sz3 R R (hg31 hc40)) (dW 7 R (wnF hc40) (vLi 1 ag3 sees_rd R (hg31 hc40)) (dW 8 R (wnF hc40) (vLt R R) (dR 9 R (pOF R hc40 R) (dR 10 R (vB R) (dW 11 R (wnF hc41) (vS R) (dW 12 R (wnF hc41) (vI R) (dW 13 R (wnF hc41) (vIa sl83 sz88 R R (hg34 hc41)) (d_v 14 (.agg [(iv (ix lives1 i5).Buffer), (iv (ix lives1 i5).Size), (iv (ix lives1 i5).From), (iv (ix lives1 i5).To)].toArray) R ?_ (wnF hc41) R R ht hn (by kernel_rfl) (sL []) ?_))))))))))))))))
 exact (v_ldef (K := kT88) (cells := fun x => [(iv x.Buffer), (iv x.Size), (iv x.From), (iv x.To)]) 0 i5 ag88 sz88 (DecK.flat dT88 fun _ _ => R) sees_rd R (hg34 hc41).1 (hg34 hc41).2)
 refine dW 15 R (wnF hc41) (vS R) (dW 16 R (wnF hc41) (vI R) (dW 17 R (wnF hc41) (vIa sl83 sz88 R R (hg37 hc41)) (d_v 18 (.agg [(iv (ix lives1 k29).Buffer), (iv (ix lives1 k29).Size), (iv (ix lives1 k29).From), (iv (ix lives1 k29).To)].toArray) R ?_ (wnF hc41) R R ht hn (by kernel_rfl) (sL []) ?_)))
 exact (v_ldef (K := kT88) (cells := fun x => [(iv x.Buffer), (iv x.Size), (iv x.From), (iv x.To)]) 0 k29 ag88 sz88 (DecK.flat dT88 fun _ _ => R) sees_rd R (hg37 hc41).1 (hg37 hc41).2)
 refine d1 19 R (l_calln 0 R (wnF hc41) cb139 R (Z25_ok (gcall_t hx39 (not_ff hc41))) R ?_)
 rintro _
 refine l_nil (q_draw (sL []) (dW 20 R (wnF hc41) (vNo R) (dR 21 R (pOF R hc41 R) (dD ?_))))
 exact qJ (fun w s => s)
 rintro σ1
 refine q_next ?_
 rcases bif_ hr with ⟨hb42, hr⟩ | ⟨hb42, hr⟩
 refine c_true R hb42 (c_exit (q_exit (q_block ?_)))
 exact qI ((), ()) hr (fun w s => s)
 refine c_false R hb42 (c_skip (q_next (c_seq ?_)))
 obtain ⟨hg43, hr⟩ := gd hr
 obtain ⟨hg46, hr⟩ := gd hr
 obtain ⟨hg49, hr⟩ := gd hr
 refine cQ [(0, (sc A2 lives1 D2)), (1, (sc A4 offsets3 D4)), (2, (iv i5)), (3, (iv p6)), (9, (iv k29)), (63, (.bool ((decide (p6 < (w64 ((ix offsets3 k29) + (ix lives1 k29).Size)))) && (decide ((ix offsets3 k29) < (w64 (p6 + (ix lives1 i5).Size)))))))] (W0) ?_ ?_
 rcases bo (decide (p6 < (w64 ((ix offsets3 k29) + (ix lives1 k29).Size)))) with hc50 | hc50
 refine c_some 1 sees_rd (show 0 < offsets3.length by have := hg43; omega) (fun g44 o45 ha => ?_)
 subst ha
 refine c_some 0 sees_rd (show 0 < lives1.length by have := hg46; omega) (fun g47 o48 ha => ?_)
 subst ha
 refine cdr 26 [] mixo (fun ht hn => (dR 0 R (vI R) (dR 1 R (vS R) (dR 2 R (vI R) (dR 3 R (vIa sl22 sz3 R R hg43) (dR 4 R (vLi 1 ag3 sees_rd R hg43) (dR 5 R (vS R) (dR 6 R (vI R) (dR 7 R (vIa sl83 sz88 R R hg46) (dR 8 R (vz (.pointer (some ⟨g47, o48 + k29.toNat * 4 + 1, none⟩)) (v_fa fo88_1 R R)) (dR 9 R (vz (iv (ix lives1 k29).Size) (v_lde (K := kT88) (fo := 1) (pr := fun x => (iv x.Size)) 0 k29 ag3 (dT88.leaf fun _ _ => R) sees_rd R hg46.1 hg46.2)) (dR 10 R (vAd R R) (dR 11 R (vLt R R) (dR 12 R (vB R) (dW 13 R (wnT hc50) (vS R) (dW 14 R (wnT hc50) (vI R) (dW 15 R (wnT hc50) (vIa sl22 sz3 R R hg43) (dW 16 R (wnT hc50) (vLi 1 ag3 sees_rd R hg43) (dW 17 R (wnT hc50) (vI R) (dW 18 R (wnT hc50) (vS R) (dW 19 R (wnT hc50) (vI R) (dW 20 R (wnT hc50) (vIa sl83 sz88 R R (hg49 hc50)) (dW 21 R (wnT hc50) (vz (.pointer (some ⟨g47, o48 + i5.toNat * 4 + 1, none⟩)) (v_fa fo88_1 R R)) (dW 22 R (wnT hc50) (vz (iv (ix lives1 i5).Size) (v_lde (K := kT88) (fo := 1) (pr := fun x => (iv x.Size)) 0 i5 ag3 (dT88.leaf fun _ _ => R) sees_rd R (hg49 hc50).1 (hg49 hc50).2)) (dW 23 R (wnT hc50) (vAd R R) (dW 24 R (wnT hc50) (vLt R R) ?_))))))))))))))))))))))))))
 refine dR 25 R (pAT R hc50 R) (dD ?_)
 exact qJ (fun w s => s)
 refine c_some 1 sees_rd (show 0 < offsets3.length by have := hg43; omega) (fun g44 o45 ha => ?_)
 subst ha
 refine c_some 0 sees_rd (show 0 < lives1.length by have := hg46; omega) (fun g47 o48 ha => ?_)
 subst ha
 refine cdr 26 [] mixo (fun ht hn => (dR 0 R (vI R) (dR 1 R (vS R) (dR 2 R (vI R) (dR 3 R (vIa sl22 sz3 R R hg43) (dR 4 R (vLi 1 ag3 sees_rd R hg43) (dR 5 R (vS R) (dR 6 R (vI R) (dR 7 R (vIa sl83 sz88 R R hg46) (dR 8 R (vz (.pointer (some ⟨g47, o48 + k29.toNat * 4 + 1, none⟩)) (v_fa fo88_1 R R)) (dR 9 R (vz (iv (ix lives1 k29).Size) (v_lde (K := kT88) (fo := 1) (pr := fun x => (iv x.Size)) 0 k29 ag3 (dT88.leaf fun _ _ => R) sees_rd R hg46.1 hg46.2)) (dR 10 R (vAd R R) (dR 11 R (vLt R R) (dR 12 R (vB R) (dF 13 R (wfF hc50) (dF 14 R (wfF hc50) (dF 15 R (wfF hc50) (dF 16 R (wfF hc50) (dF 17 R (wfF hc50) (dF 18 R (wfF hc50) (dF 19 R (wfF hc50) (dF 20 R (wfF hc50) (dF 21 R (wfF hc50) (dF 22 R (wfF hc50) (dF 23 R (wfF hc50) (dF 24 R (wfF hc50) (dR 25 R (pAF (decide ((ix offsets3 k29) < (w64 (p6 + (ix lives1 i5).Size)))) R hc50) (dD ?_))))))))))))))))))))))))))))
 exact qJ (fun w s => s)
 rintro σ1
 refine q_next ?_
 rcases bif_ hr with ⟨hb51, hr⟩ | ⟨hb51, hr⟩
 refine c_true R hb51 (c_seq (c_region (lB R (l_nil (q_next (c_ret (q_blockr (q_ret ?_))))))))
 obtain rfl := so hr
 obtain rfl := he1 _ R
 have hr := hk1
 refine q_ret (q_blockr (q_ret ?_))
 obtain rfl := so hr
 exact qF () (fun w s => (s.e 2 []))
 refine c_false R hb51 (c_skip (q_blockn ?_))
 exact qI ((), ()) hr (fun w s => s)
 rintro ⟨_, _⟩ σ1 hr
 replace hr : Zj_J2 k29 = some out1 := hr
 unfold Zj_J2 at hr
 refine c_region (lI R (lO (vAd R R) (lI R (l_nil ?_))))
 obtain rfl := so hr
 exact qA () (fun w s => s)
 refine c_false R hb30 (c_exit (q_exit ?_))
 obtain rfl := so hr
 obtain rfl := he1 _ R
 have hr := hk1
 refine q_exit (q_block ?_)
 exact q_join ((), ()) hr trivial (fun w s => s)
 rintro ⟨_, _⟩ σ1 hr
 replace hr : Zj_J3 = some r := hr
 unfold Zj_J3 at hr
 refine c_seq (c_region (lB R (l_nil (q_next (c_ret ?_)))))
 obtain rfl := so hr
 exact qF () (fun w s => (s.e 2 []))
theorem Z1_ok  {lives1 : (List Life)} {r : (List Int) × Int} (hr : Z1 lives1 = some r) :
 FnOk Tryz.prog 52 [(.slice A2 N2 D2)] [rds kT88 (.slice A2 N2 D2) lives1] (fun (h : HH) => ((.tuple [(.slice h.1 h.2.1 h.2.2), (iv r.2)].toArray), [ow kT3 3 (.slice h.1 h.2.1 h.2.2) r.1])) := by
 unfold Z1 at hr
 refine fn_ok Tryz.func52 R 97 R R fun C V => ?_
 refine cN (_ :: V) ?_
 refine cL 0 sees_rd ?_
 rintro rfl
 let W0 : List HP := RR kT88 A2 D2 lives1 :: V
 refine cN W0 ?_
 refine c_seq (c_region (lS R (lI R (l_nil (q_next (c_seq (c_region (l_build (K := kT3) (xs := ([] : List Int)) (vs := []) 0 R R sl22 sz3 zc3 R R R R R R ?_ R (fun A3 D3 => ?_)))))))))
 exact fun I h s => (mO3).list [] I h s
 refine lN (OO kT3 3 A3 D3 ([] : List Int) :: W0) ?_
 refine lS R (l_nil (q_next (c_seq (c_seq ?_))))
 obtain ⟨r4, hx5, hr⟩ := bd hr
 refine c_region (lS R (lM (RR kT88 A2 D2 lives1 :: _ :: W0) (fun w s => (s.d 1 R)) ?_))
 refine lC 1 cb90 R (Z09_ok hx5) R ?_
 rintro _
 refine lN (_ :: W0) ?_
 refine lO (vNo R) (l_nil (q_next ?_))
 rcases bif_ hr with ⟨hb6, hr⟩ | ⟨hb6, hr⟩
 refine c_true R hb6 (c_seq (c_region (lS R (lS R (lI R (l_nil (q_next (c_ret (q_ret ?_)))))))))
 obtain rfl := so hr
 exact q_fin (vs := [(sc A3 ([] : List Int) D3), (iv 0)]) (.inl R) (A3, ([] : List Int).length, D3) R ⟨R, R, trivial⟩ R (fun w s => (s.e 2 [0]))
 refine c_false R hb6 (c_skip (q_next (c_seq (c_cut (A := ((List Int)) × (HH)) (fun a => Z1_J1 lives1 a.1 = some r) (fun a => [(0, (sc A2 lives1 D2)), (4, (.slice a.2.1 a.2.2.1 a.2.2.2))]) (fun a => ow kT3 3 (.slice a.2.1 a.2.2.1 a.2.2.2) a.1 :: W0) ?_ ?_))))
 refine c_seq (c_region (lI R (l_nil (q_next (c_block ?_)))))
 obtain ⟨e1, hl1, hk1⟩ := bd hr
 refine c_loop (A := HH) hl1 (fun s a => [(0, (sc A2 lives1 D2)), (4, (.slice a.1 a.2.1 a.2.2)), (5, (iv s.2))]) (fun s a => ow kT3 3 (.slice a.1 a.2.1 a.2.2) s.1 :: W0) (A3, ([] : List Int).length, D3) (aS R) (fun w s => s) ?_
 rintro ⟨offsets11, i13⟩ ⟨A12, N12, D12⟩ σ1 out1 hr he1
 replace hr : Z1_L1 lives1 offsets11 i13 = some out1 := hr
 unfold Z1_L1 at hr
 refine c_len 0 sees_ow (fun (hn : N12 = offsets11.length) => ?_)
 subst hn
 refine c_seq (c_seq (c_region (lI R (lS R (lO (v_len sl83 R) (lO (vLt R R) (l_nil (q_next ?_))))))))
 rcases bif_ hr with ⟨hb14, hr⟩ | ⟨hb14, hr⟩
 refine c_true R hb14 (c_skip (q_next (c_seq (c_block ?_))))
 obtain ⟨hg16, hr⟩ := gd hr
 refine c_region (lS R (l_build (K := kT3) (xs := ([(-1 : Int)] : List Int)) (vs := [(iv (-1))]) 0 R R sl22 sz3 zc3 R R R R R R ?_ R (fun A15 D15 => ?_)))
 exact fun I h s => (mO3).list [((), (-1 : Int))] I h s
 refine lN (OO kT3 3 A15 D15 ([(-1 : Int)] : List Int) :: OO kT3 3 A12 D12 offsets11 :: W0) ?_
 refine lM (ow _ _ _ _ :: ow _ _ _ _ :: W0) (fun w s => (s.e 2 [1, 0])) ?_
 refine l_app (K := kT3) 17592186044416 R R sl22 sz3 by3 (Zr.zk zT3 zc3) R R R R R R src_ow hg16 (fun A17 D17 => (lN (OO kT3 3 A17 D17 (offsets11 ++ ([(-1 : Int)] : List Int)) :: W0) ?_))
 refine lS R (l_nil (q_blockn (q_next (c_region (lI R (lO (vAd R R) (lI R (l_nil ?_))))))))
 obtain rfl := so hr
 exact qA (A17, (offsets11 ++ ([(-1 : Int)] : List Int)).length, D17) (fun w s => s)
 refine c_false R hb14 (c_exit (q_exit ?_))
 obtain rfl := so hr
 obtain rfl := he1 _ R
 have hr := hk1
 refine q_exit (q_block ?_)
 exact qI (offsets11, (A12, offsets11.length, D12)) hr (fun w s => s)
 rintro ⟨offsets21, ⟨A22, N22, D22⟩⟩ σ1 hr
 replace hr : Z1_J1 lives1 offsets21 = some r := hr
 unfold Z1_J1 at hr
 refine c_len 0 sees_ow (fun (hn : N22 = offsets21.length) => ?_)
 subst hn
 refine c_seq (c_region (lI R (l_nil (q_next (c_seq (c_cut (A := ((List Int) × Int) × (HH)) (fun a => Z1_J12 a.1.1 a.1.2 = some r) (fun a => [(4, (.slice a.2.1 a.2.2.1 a.2.2.2)), (6, (iv a.1.2))]) (fun a => ow kT3 3 (.slice a.2.1 a.2.2.1 a.2.2.2) a.1.1 :: W0) ?_ ?_))))))
 refine c_seq ?_
 obtain ⟨r23, hx24, hr⟩ := bd hr
 refine c_region (lS R (lS R (lM (OO kT3 3 A22 D22 offsets21 :: RR kT88 A2 D2 lives1 :: W0) (fun w s => ((s.d 1 R).e 2 [1, 0])) ?_)))
 refine lC 2 cb91 R (FnOk.lends (A' := [OO kT3 3 A22 D22 offsets21]) (A := [RR kT3 A22 D22 offsets21]) (B := [RR kT88 A2 D2 lives1]) (FnOk.perm (Zd_ok hx24) (Pre' := [RR kT3 A22 D22 offsets21, RR kT88 A2 D2 lives1]) (fun _ _ _ s => (s.e 2 [1, 0]))) ⟨lend_ow, trivial⟩ (fun _ => trivial)) R ?_
 rintro _
 refine lN (_ :: W0) ?_
 refine lI R (l_nil (q_next (c_block ?_)))
 obtain ⟨e2, hl2, hk2⟩ := bd hr
 refine c_loop (A := HH × HH) hl2 (fun s a => [(0, (.slice a.1.1 a.1.2.1 a.1.2.2)), (4, (.slice a.2.1 a.2.2.1 a.2.2.2)), (6, (iv s.2.1)), (7, (iv s.2.2))]) (fun s a => rds kT88 (.slice a.1.1 a.1.2.1 a.1.2.2) lives1 :: ow kT3 3 (.slice a.2.1 a.2.2.1 a.2.2.2) s.1 :: W0) ((A2, lives1.length, D2), (A22, offsets21.length, D22)) (aS R) (fun w s => (s.d 1 R)) ?_
 rintro ⟨offsets89, peak91, i92⟩ ⟨⟨A88, N88, D88⟩, ⟨A90, N90, D90⟩⟩ σ1 out2 hr he2
 replace hr : Z1_L2 lives1 offsets89 peak91 i92 = some out2 := hr
 unfold Z1_L2 at hr
 refine c_len 0 sees_rd (fun (hn : N88 = lives1.length) => ?_)
 subst hn
 refine c_len 1 sees_ow (fun (hn : N90 = offsets89.length) => ?_)
 subst hn
 refine c_seq (c_seq (c_region (lI R (lO (vGe R R) (l_nil (q_next ?_))))))
 rcases bif_ hr with ⟨hb93, hr⟩ | ⟨hb93, hr⟩
 refine c_true R hb93 (c_skip (q_next (c_seq (c_cut (A := ((List Int) × Int) × (HH × HH)) (fun a => Z1_J11 lives1 a.1.1 a.1.2 = some out2) (fun a => [(0, (.slice a.2.1.1 a.2.1.2.1 a.2.1.2.2)), (4, (.slice a.2.2.1 a.2.2.2.1 a.2.2.2.2)), (6, (iv a.1.2))]) (fun a => rds kT88 (.slice a.2.1.1 a.2.1.2.1 a.2.1.2.2) lives1 :: ow kT3 3 (.slice a.2.2.1 a.2.2.2.1 a.2.2.2.2) a.1.1 :: W0) ?_ ?_))))
 refine c_block (c_seq (c_region (lI R (l_nil (q_next (c_seq (c_cut (A := (Int) × (Unit)) (fun a => Z1_J7 lives1 offsets89 peak91 i92 a.1 = some out2) (fun a => [(0, (sc A88 lives1 D88)), (4, (sc A90 offsets89 D90)), (6, (iv peak91)), (7, (iv i92)), (8, (iv a.1))]) (fun a => RR kT88 A88 D88 lives1 :: OO kT3 3 A90 D90 offsets89 :: W0) ?_ ?_)))))))
 refine c_seq ?_
 obtain ⟨r94, hx95, hr⟩ := bd hr
 refine c_region (lS R (lS R (lI R (lM (OO kT3 3 A90 D90 offsets89 :: RR kT88 A88 D88 lives1 :: RR kT88 A88 D88 lives1 :: W0) (fun w s => ((s.d 0 R).e 3 [2, 0, 1])) ?_))))
 refine lC 2 cb92 R (FnOk.lends (A' := [OO kT3 3 A90 D90 offsets89]) (A := [RR kT3 A90 D90 offsets89]) (B := [RR kT88 A88 D88 lives1]) (FnOk.perm (Zj_ok hx95) (Pre' := [RR kT3 A90 D90 offsets89, RR kT88 A88 D88 lives1]) (fun _ _ _ s => (s.e 2 [1, 0]))) ⟨lend_ow, trivial⟩ (fun _ => trivial)) R ?_
 rintro _
 refine lN (_ :: _ :: W0) ?_
 refine l_nil (q_next ?_)
 rcases bif_ hr with ⟨hb96, hr⟩ | ⟨hb96, hr⟩
 refine c_true R hb96 (c_region (lI R (l_nil ?_)))
 exact qI ((0 : Int), ()) hr (fun w s => (s.e 2 [1, 0]))
 refine c_false R hb96 (c_skip ?_)
 exact qI ((-1 : Int), ()) hr (fun w s => (s.e 2 [1, 0]))
 rintro ⟨best97, _⟩ σ1 hr
 replace hr : Z1_J7 lives1 offsets89 peak91 i92 best97 = some out2 := hr
 unfold Z1_J7 at hr
 refine c_seq (c_cut (A := (Int) × (HH × HH)) (fun a => Z1_J10 lives1 offsets89 peak91 i92 a.1 = some out2) (fun a => [(0, (.slice a.2.1.1 a.2.1.2.1 a.2.1.2.2)), (4, (.slice a.2.2.1 a.2.2.2.1 a.2.2.2.2)), (6, (iv peak91)), (7, (iv i92)), (8, (iv a.1))]) (fun a => rds kT88 (.slice a.2.1.1 a.2.1.2.1 a.2.1.2.2) lives1 :: ow kT3 3 (.slice a.2.2.1 a.2.2.2.1 a.2.2.2.2) offsets89 :: W0) ?_ ?_)
 refine c_seq (c_region (lI R (l_nil (q_next (c_block ?_)))))
 obtain ⟨e3, hl3, hk3⟩ := bd hr
 refine c_loop (A := HH × HH) hl3 (fun s a => [(0, (.slice a.1.1 a.1.2.1 a.1.2.2)), (4, (.slice a.2.1 a.2.2.1 a.2.2.2)), (6, (iv peak91)), (7, (iv i92)), (8, (iv s.1)), (9, (iv s.2))]) (fun s a => rds kT88 (.slice a.1.1 a.1.2.1 a.1.2.2) lives1 :: ow kT3 3 (.slice a.2.1 a.2.2.1 a.2.2.2) offsets89 :: W0) ((A88, lives1.length, D88), (A90, offsets89.length, D90)) (aS R) (fun w s => s) ?_
 rintro ⟨best117, k118⟩ ⟨⟨A115, N115, D115⟩, ⟨A116, N116, D116⟩⟩ σ1 out3 hr he3
 replace hr : Z1_L3 lives1 offsets89 i92 best117 k118 = some out3 := hr
 unfold Z1_L3 at hr
 refine c_len 0 sees_rd (fun (hn : N115 = lives1.length) => ?_)
 subst hn
 refine c_len 1 sees_ow (fun (hn : N116 = offsets89.length) => ?_)
 subst hn
 refine c_seq (c_seq (c_region (lI R (lS R (lO (v_len sl83 R) (lO (vLt R R) (l_nil (q_next ?_))))))))
 rcases bif_ hr with ⟨hb119, hr⟩ | ⟨hb119, hr⟩
 refine c_true R hb119 (c_skip (q_next (c_seq (c_cut (A := (Int) × (HH × HH)) (fun a => Z1_J9 k118 a.1 = some out3) (fun a => [(0, (.slice a.2.1.1 a.2.1.2.1 a.2.1.2.2)), (4, (.slice a.2.2.1 a.2.2.2.1 a.2.2.2.2)), (6, (iv peak91)), (7, (iv i92)), (8, (iv a.1)), (9, (iv k118))]) (fun a => rds kT88 (.slice a.2.1.1 a.2.1.2.1 a.2.1.2.2) lives1 :: ow kT3 3 (.slice a.2.2.1 a.2.2.2.1 a.2.2.2.2) offsets89 :: W0) ?_ ?_))))
 refine c_block (c_seq ?_)
 obtain ⟨hg120, hr⟩ := gd hr
 obtain ⟨hg123, hr⟩ := gd hr
 refine c_some 1 sees_ow (show 0 < offsets89.length by have := hg120; omega) (fun g121 o122 ha => ?_)
 subst ha
 refine c_some 0 sees_rd (show 0 < lives1.length by have := hg123; omega) (fun g124 o125 ha => ?_)
 subst ha
 refine cdr 11 [] mixo (fun ht hn => (dR 0 R (vS R) (dR 1 R (vI R) (dR 2 R (vIa sl22 sz3 R R hg120) (dR 3 R (vLi 1 ag3 sees_ow R hg120) (dR 4 R (vS R) (dR 5 R (vI R) (dR 6 R (vIa sl83 sz88 R R hg123) (dR 7 R (vz (.pointer (some ⟨g124, o125 + k118.toNat * 4 + 1, none⟩)) (v_fa fo88_1 R R)) (dR 8 R (vz (iv (ix lives1 k118).Size) (v_lde (K := kT88) (fo := 1) (pr := fun x => (iv x.Size)) 0 k118 ag3 (dT88.leaf fun _ _ => R) sees_rd R hg123.1 hg123.2)) (dR 9 R (vAd R R) (dR 10 R (vI R) (dD (q_next (c_seq ?_)))))))))))))))
 obtain ⟨r126, hx127, hr⟩ := bd hr
 refine cQ [(0, (sc (ad g124 o125) lives1 D115)), (4, (sc (ad g121 o122) offsets89 D116)), (6, (iv peak91)), (7, (iv i92)), (8, (iv best117)), (9, (iv k118)), (10, (iv (w64 ((ix offsets89 k118) + (ix lives1 k118).Size)))), (73, (.bool (((decide ((ix offsets89 k118) ≥ (0 : Int))) && ((decide (best117 < (0 : Int))) || (decide ((w64 ((ix offsets89 k118) + (ix lives1 k118).Size)) < best117)))) && r126)))] (RR kT88 (ad g124 o125) D115 lives1 :: OO kT3 3 (ad g121 o122) D116 offsets89 :: W0) ?_ ?_
 refine c_region (lS R (lI R (lO (vIa sl22 sz3 R R hg120) (lO (vLi 1 ag3 sees_ow R hg120) (lO (vGe R R) (lB R ?_))))))
 rcases bo (decide ((ix offsets89 k118) ≥ (0 : Int))) with hc128 | hc128
 refine lW (wnT hc128) (vI R) (lW (wnT hc128) (vLt R R) (lW (wnT hc128) (vB R) ?_))
 rcases bo (decide (best117 < (0 : Int))) with hc129 | hc129
 refine lf (wfT hc129) (lf (wfT hc129) (lf (wfT hc129) (lW (wnT hc128) (pOT (decide ((w64 ((ix offsets89 k118) + (ix lives1 k118).Size)) < best117)) R hc129) (lO (pAT R hc128 R) (lB R ?_)))))
 rcases bo ((decide ((ix offsets89 k118) ≥ (0 : Int))) && ((decide (best117 < (0 : Int))) || (decide ((w64 ((ix offsets89 k118) + (ix lives1 k118).Size)) < best117)))) with hc130 | hc130
 refine lW (wnT hc130) (vS R) (lW (wnT hc130) (vS R) (lW (wnT hc130) (vI R) (lW (wnT hc130) (vI R) (lM (OO kT3 3 (ad g121 o122) D116 offsets89 :: RR kT88 (ad g124 o125) D115 lives1 :: RR kT88 (ad g124 o125) D115 lives1 :: W0) (fun w s => ((s.d 0 R).e 3 [2, 0, 1])) ?_))))
 refine l_calln 2 R (wnT hc130) cb92 R (FnOk.lends (A' := [OO kT3 3 (ad g121 o122) D116 offsets89]) (A := [RR kT3 (ad g121 o122) D116 offsets89]) (B := [RR kT88 (ad g124 o125) D115 lives1]) (FnOk.perm (Zj_ok (gcall_t hx127 hc130)) (Pre' := [RR kT3 (ad g121 o122) D116 offsets89, RR kT88 (ad g124 o125) D115 lives1]) (fun _ _ _ s => (s.e 2 [1, 0]))) ⟨lend_ow, trivial⟩ (fun _ => trivial)) R ?_
 rintro _
 refine lN (_ :: _ :: W0) ?_
 refine lO (pAT R hc130 R) (l_nil ?_)
 exact qJ (fun w s => (s.e 2 [1, 0]))
 refine lf (wfF hc130) (lf (wfF hc130) (lf (wfF hc130) (lf (wfF hc130) (lf (wfF hc130) (lO (pAF r126 R hc130) (l_nil ?_))))))
 exact qJ (fun w s => s)
 refine lW (wnF hc129) (vI R) (lW (wnF hc129) (vI R) (lW (wnF hc129) (vLt R R) (lW (wnT hc128) (pOF R hc129 R) (lO (pAT R hc128 R) (lB R ?_)))))
 rcases bo ((decide ((ix offsets89 k118) ≥ (0 : Int))) && ((decide (best117 < (0 : Int))) || (decide ((w64 ((ix offsets89 k118) + (ix lives1 k118).Size)) < best117)))) with hc131 | hc131
 refine lW (wnT hc131) (vS R) (lW (wnT hc131) (vS R) (lW (wnT hc131) (vI R) (lW (wnT hc131) (vI R) (lM (ow _ _ _ _ :: rds _ _ _ :: rds _ _ _ :: W0) (fun w s => ((s.d 0 R).e 3 [2, 0, 1])) ?_))))
 refine l_calln 2 R (wnT hc131) cb92 R (FnOk.lends (A' := [OO kT3 3 (ad g121 o122) D116 offsets89]) (A := [RR kT3 (ad g121 o122) D116 offsets89]) (B := [RR kT88 (ad g124 o125) D115 lives1]) (FnOk.perm (Zj_ok (gcall_t hx127 hc131)) (Pre' := [RR kT3 (ad g121 o122) D116 offsets89, RR kT88 (ad g124 o125) D115 lives1]) (fun _ _ _ s => (s.e 2 [1, 0]))) ⟨lend_ow, trivial⟩ (fun _ => trivial)) R ?_
 rintro _
 refine lN (_ :: _ :: W0) ?_
 refine lO (pAT R hc131 R) (l_nil ?_)
 exact qJ (fun w s => (s.e 2 [1, 0]))
 refine lf (wfF hc131) (lf (wfF hc131) (lf (wfF hc131) (lf (wfF hc131) (lf (wfF hc131) (lO (pAF r126 R hc131) (l_nil ?_))))))
 exact qJ (fun w s => s)
 refine lf (wfF hc128) (lf (wfF hc128) (lf (wfF hc128) (lf R (lf R (lf R (lf (wfF hc128) (lO (pAF ((decide (best117 < (0 : Int))) || (decide ((w64 ((ix offsets89 k118) + (ix lives1 k118).Size)) < best117))) R hc128) (lB R (lf (wfF (aF hc128)) (lf (wfF (aF hc128)) (lf (wfF (aF hc128)) (lf (wfF (aF hc128)) (lf (wfF (aF hc128)) (lO (pAF r126 R (aF hc128)) (l_nil ?_)))))))))))))))
 exact qJ (fun w s => s)
 rintro σ1
 refine q_next ?_
 rcases bif_ hr with ⟨hb132, hr⟩ | ⟨hb132, hr⟩
 refine c_true R hb132 (c_region (lI R (lI R (l_nil (q_blockn ?_)))))
 exact qI ((w64 ((ix offsets89 k118) + (ix lives1 k118).Size)), (((ad g124 o125), lives1.length, D115), ((ad g121 o122), offsets89.length, D116))) hr (fun w s => s)
 refine c_false R hb132 (c_skip (q_blockn ?_))
 exact qI (best117, (((ad g124 o125), lives1.length, D115), ((ad g121 o122), offsets89.length, D116))) hr (fun w s => s)
 rintro ⟨best135, ⟨⟨A133, N133, D133⟩, ⟨A134, N134, D134⟩⟩⟩ σ1 hr
 replace hr : Z1_J9 k118 best135 = some out3 := hr
 unfold Z1_J9 at hr
 refine c_len 0 sees_rd (fun (hn : N133 = lives1.length) => ?_)
 subst hn
 refine c_len 1 sees_ow (fun (hn : N134 = offsets89.length) => ?_)
 subst hn
 refine c_region (lI R (lO (vAd R R) (lI R (l_nil ?_))))
 obtain rfl := so hr
 exact qA ((A133, lives1.length, D133), (A134, offsets89.length, D134)) (fun w s => s)
 refine c_false R hb119 (c_exit (q_exit ?_))
 obtain rfl := so hr
 obtain rfl := he3 _ R
 have hr := hk3
 refine q_exit (q_block ?_)
 exact qI (best117, ((A115, lives1.length, D115), (A116, offsets89.length, D116))) hr (fun w s => s)
 rintro ⟨best142, ⟨⟨A140, N140, D140⟩, ⟨A141, N141, D141⟩⟩⟩ σ1 hr
 replace hr : Z1_J10 lives1 offsets89 peak91 i92 best142 = some out2 := hr
 unfold Z1_J10 at hr
 refine c_len 0 sees_rd (fun (hn : N140 = lives1.length) => ?_)
 subst hn
 refine c_len 1 sees_ow (fun (hn : N141 = offsets89.length) => ?_)
 subst hn
 refine c_seq ?_
 obtain ⟨hg143, hr⟩ := gd hr
 refine c_region (lS R (lI R (lI R (t_some 1 sees_ow (show 0 < offsets89.length by have := hg143; omega) (fun g144 o145 ha => ?_)))))
 subst ha
 refine lO (vIa sl22 sz3 R R hg143) (lM (OO kT3 3 (ad g144 o145) D141 offsets89 :: RR kT88 A140 D140 lives1 :: W0) (fun w s => (s.e 2 [1, 0])) ?_)
 refine l_stx (K := kT3) (x' := best142) 0 i92 R R sz3 R R hg143.1 hg143.2 ?_ ?_
 exact fun I h s => (mO3).put I h () best142 s
 refine lN (ow kT3 3 (.slice (ad g144 o145) offsets89.length D141) (offsets89.set i92.toNat best142) :: _ :: W0) ?_
 refine l_nil (q_next (c_seq ?_))
 obtain ⟨hg146, hr⟩ := gd hr
 refine c_region (lI R (lS R (lI R (t_some 1 sees_rd (show 0 < lives1.length by have := hg146; omega) (fun g147 o148 ha => ?_)))))
 subst ha
 refine lO (vIa sl83 sz88 R R hg146) (lO (vz (.pointer (some ⟨g147, o148 + i92.toNat * 4 + 1, none⟩)) (v_fa fo88_1 R R)) (lO (vz (iv (ix lives1 i92).Size) (v_lde (K := kT88) (fo := 1) (pr := fun x => (iv x.Size)) 1 i92 ag3 (dT88.leaf fun _ _ => R) sees_rd R hg146.1 hg146.2)) (lO (vAd R R) (lI R (lO (vGt R R) (l_nil (q_next ?_)))))))
 rcases bif_ hr with ⟨hb149, hr⟩ | ⟨hb149, hr⟩
 refine c_true R hb149 (c_region (lI R (lS R (lI R (lO (vIa sl83 sz88 R R hg146) (lO (vz (.pointer (some ⟨g147, o148 + i92.toNat * 4 + 1, none⟩)) (v_fa fo88_1 R R)) (lO (vz (iv (ix lives1 i92).Size) (v_lde (K := kT88) (fo := 1) (pr := fun x => (iv x.Size)) 1 i92 ag3 (dT88.leaf fun _ _ => R) sees_rd R hg146.1 hg146.2)) (lO (vAd R R) (lI R (l_nil (q_blockn ?_)))))))))))
 exact qI (((offsets89.set i92.toNat best142), (w64 (best142 + (ix lives1 i92).Size))), (((ad g147 o148), lives1.length, D140), ((ad g144 o145), offsets89.length, D141))) hr (fun w s => (s.e 2 [1, 0]))
 refine c_false R hb149 (c_skip (q_blockn ?_))
 exact qI (((offsets89.set i92.toNat best142), peak91), (((ad g147 o148), lives1.length, D140), ((ad g144 o145), offsets89.length, D141))) hr (fun w s => (s.e 2 [1, 0]))
 rintro ⟨⟨offsets151, peak153⟩, ⟨⟨A150, N150, D150⟩, ⟨A152, N152, D152⟩⟩⟩ σ1 hr
 replace hr : Z1_J11 lives1 offsets151 peak153 = some out2 := hr
 unfold Z1_J11 at hr
 refine c_len 0 sees_rd (fun (hn : N150 = lives1.length) => ?_)
 subst hn
 refine c_len 1 sees_ow (fun (hn : N152 = offsets151.length) => ?_)
 subst hn
 obtain ⟨r154, hx155, hr⟩ := bd hr
 refine c_region (lS R (lS R (lM (OO kT3 3 A152 D152 offsets151 :: RR kT88 A150 D150 lives1 :: RR kT88 A150 D150 lives1 :: W0) (fun w s => ((s.d 0 R).e 3 [2, 0, 1])) ?_)))
 refine lC 2 cb91 R (FnOk.lends (A' := [OO kT3 3 A152 D152 offsets151]) (A := [RR kT3 A152 D152 offsets151]) (B := [RR kT88 A150 D150 lives1]) (FnOk.perm (Zd_ok hx155) (Pre' := [RR kT3 A152 D152 offsets151, RR kT88 A150 D150 lives1]) (fun _ _ _ s => (s.e 2 [1, 0]))) ⟨lend_ow, trivial⟩ (fun _ => trivial)) R ?_
 rintro _
 refine lN (_ :: _ :: W0) ?_
 refine lI R (l_nil ?_)
 obtain rfl := so hr
 exact qA ((A150, lives1.length, D150), (A152, offsets151.length, D152)) (fun w s => (s.e 2 [1, 0]))
 refine c_false R hb93 (c_exit (q_exit ?_))
 obtain rfl := so hr
 obtain rfl := he2 _ R
 have hr := hk2
 refine q_exit (q_block ?_)
 exact qI ((offsets89, peak91), (A90, offsets89.length, D90)) hr (fun w s => (s.e 2 [1]))
 rintro ⟨⟨offsets161, peak163⟩, ⟨A162, N162, D162⟩⟩ σ1 hr
 replace hr : Z1_J12 offsets161 peak163 = some r := hr
 unfold Z1_J12 at hr
 refine c_len 0 sees_ow (fun (hn : N162 = offsets161.length) => ?_)
 subst hn
 refine c_seq (c_region (lS R (lI R (lS R (lI R (l_nil (q_next (c_ret ?_))))))))
 obtain rfl := so hr
 exact q_fin (vs := [(sc A162 offsets161 D162), (iv peak163)]) (.inl R) (A162, offsets161.length, D162) R ⟨R, R, trivial⟩ R (fun w s => (s.e 2 [0]))
theorem Ze_ok  {l1 : Nest} {r : Plan × Bool} (hr : Ze l1 = some r) :
 FnOk Tryz.prog 17 [(.agg [(.slice A2 N2 D2), (.slice A3 N3 D3), (.slice A4 N4 D4), (.slice A5 N5 D5), (.slice A6 N6 D6)].toArray)] [rds kT3 (.slice A2 N2 D2) l1.Sizes, rds kT3 (.slice A3 N3 D3) l1.Ins, rds kT57 (.slice A4 N4 D4) l1.Fixed, rds kT64 (.slice A5 N5 D5) l1.Kernels, rds kT3 (.slice A6 N6 D6) l1.Outs] (fun (h : HH × HH × HH × HH × HH × HH) => ((.tuple [(.agg [(.slice h.1.1 h.1.2.1 h.1.2.2), (.slice h.2.1.1 h.2.1.2.1 h.2.1.2.2), (.slice h.2.2.1.1 h.2.2.1.2.1 h.2.2.1.2.2), (.slice h.2.2.2.1.1 h.2.2.2.1.2.1 h.2.2.2.1.2.2), (.slice h.2.2.2.2.1.1 h.2.2.2.2.1.2.1 h.2.2.2.2.1.2.2), (.slice h.2.2.2.2.2.1 h.2.2.2.2.2.2.1 h.2.2.2.2.2.2.2), (iv r.1.Arena)].toArray), (.bool r.2)].toArray), [ow kT3 3 (.slice h.1.1 h.1.2.1 h.1.2.2) r.1.Nest.Sizes, ow kT3 3 (.slice h.2.1.1 h.2.1.2.1 h.2.1.2.2) r.1.Nest.Ins, ow kT57 57 (.slice h.2.2.1.1 h.2.2.1.2.1 h.2.2.1.2.2) r.1.Nest.Fixed, ow kT64 64 (.slice h.2.2.2.1.1 h.2.2.2.1.2.1 h.2.2.2.1.2.2) r.1.Nest.Kernels, ow kT3 3 (.slice h.2.2.2.2.1.1 h.2.2.2.2.1.2.1 h.2.2.2.2.1.2.2) r.1.Nest.Outs, ow kT3 3 (.slice h.2.2.2.2.2.1 h.2.2.2.2.2.2.1 h.2.2.2.2.2.2.2) r.1.Offsets])) := by
 unfold Ze at hr
 refine fn_ok Tryz.func17 R 57 R R fun C V => ?_
 refine cN (_ :: _ :: _ :: _ :: _ :: V) ?_
 refine cL 0 sees_rd ?_
 rintro rfl
 refine cL 1 sees_rd ?_
 rintro rfl
 refine cL 2 sees_rd ?_
 rintro rfl
 refine cL 3 sees_rd ?_
 rintro rfl
 refine cL 4 sees_rd ?_
 rintro rfl
 let W0 : List HP := RR kT3 A2 D2 l1.Sizes :: RR kT3 A3 D3 l1.Ins :: RR kT57 A4 D4 l1.Fixed :: RR kT64 A5 D5 l1.Kernels :: RR kT3 A6 D6 l1.Outs :: V
 refine cN W0 ?_
 refine c_seq (c_region (lBx R (fun b7 => (l_alloc R R zc38 (fun b8 => (lB R (l_nil ?_)))))))
 let W1 : List HP := bxl b7 [(sc A2 l1.Sizes D2), (sc A3 l1.Ins D3), (sc A4 l1.Fixed D4), (sc A5 l1.Kernels D5), (sc A6 l1.Outs D6)] 36 :: W0
 refine qN (_ :: W1) ?_
 refine q_next (c_seq (c_seq ?_))
 obtain ⟨r9, hx10, hr⟩ := bd hr
 refine c_region (lO (vz (.agg [(sc A2 l1.Sizes D2), (sc A3 l1.Ins D3), (sc A4 l1.Fixed D4), (sc A5 l1.Kernels D5), (sc A6 l1.Outs D6)].toArray) (v_loadw 1 ag36 sz36 R R R R)) (lM (RR kT3 A2 D2 l1.Sizes :: RR kT3 A3 D3 l1.Ins :: RR kT57 A4 D4 l1.Fixed :: RR kT64 A5 D5 l1.Kernels :: RR kT3 A6 D6 l1.Outs :: bxl _ _ _ :: W1) (fun w s => ((((((s.d 2 R).d 4 R).d 6 R).d 8 R).d 10 R).e 6 [4, 3, 2, 1, 0, 5])) ?_))
 refine lC 5 cb49 R (Z3_ok hx10) R ?_
 rintro _
 refine lN (_ :: W1) ?_
 refine lO (vNo R) (l_nil (q_next ?_))
 rcases bif_ hr with ⟨hb11, hr⟩ | ⟨hb11, hr⟩
 refine c_true R hb11 (c_seq (c_region (lO (vz (.agg [(.slice none 0 0), (.slice none 0 0), (.slice none 0 0), (.slice none 0 0), (.slice none 0 0), (.slice none 0 0), (iv 0)].toArray) (v_build pl38 zc38 R R)) (l_stores 0 R R sz38 R R R R R R (lB R (l_nil (q_next (c_ret (q_ret ?_)))))))))
 obtain rfl := so hr
 exact q_fin (vs := [(.agg [(.slice none 0 0), (.slice none 0 0), (.slice none 0 0), (.slice none 0 0), (.slice none 0 0), (.slice none 0 0), (iv 0)].toArray), (.bool false)]) (.inl R) ((none, 0, 0), (none, 0, 0), (none, 0, 0), (none, 0, 0), (none, 0, 0), (none, 0, 0)) R ⟨⟨0, b8, _, _, R, R, .inl ⟨ag38, sz38, R⟩⟩, R, trivial⟩ R (fun w s => (((((((s.nilo kT3 3).nilo kT3 3).nilo kT57 57).nilo kT64 64).nilo kT3 3).nilo kT3 3).e 13 [5, 4, 3, 2, 1, 0]))
 refine c_false R hb11 (c_skip (q_next (c_seq ?_)))
 obtain ⟨r12, hx13, hr⟩ := bd hr
 refine c_region (lO (vz (.agg [(sc A2 l1.Sizes D2), (sc A3 l1.Ins D3), (sc A4 l1.Fixed D4), (sc A5 l1.Kernels D5), (sc A6 l1.Outs D6)].toArray) (v_loadw 1 ag36 sz36 R R R R)) (lM (RR kT3 A2 D2 l1.Sizes :: RR kT3 A3 D3 l1.Ins :: RR kT57 A4 D4 l1.Fixed :: RR kT64 A5 D5 l1.Kernels :: RR kT3 A6 D6 l1.Outs :: bxl _ _ _ :: W1) (fun w s => ((((((s.d 2 R).d 4 R).d 6 R).d 8 R).d 10 R).e 6 [4, 3, 2, 1, 0, 5])) ?_))
 refine lC 5 cb50 R (Zg_ok hx13) R ?_
 rintro ⟨⟨A14, N14, D14⟩, ⟨A15, N15, D15⟩, ⟨A16, N16, D16⟩, ⟨A17, N17, D17⟩, ⟨A18, N18, D18⟩⟩
 refine lN (ow kT3 3 (.slice A14 N14 D14) r12.Sizes :: ow kT3 3 (.slice A15 N15 D15) r12.Ins :: ow kT57 57 (.slice A16 N16 D16) r12.Fixed :: ow kT64 64 (.slice A17 N17 D17) r12.Kernels :: ow kT3 3 (.slice A18 N18 D18) r12.Outs :: _ :: W1) ?_
 refine l_len 0 sees_ow ?_
 rintro rfl
 refine l_len 1 sees_ow ?_
 rintro rfl
 refine l_len 2 sees_ow ?_
 rintro rfl
 refine l_len 3 sees_ow ?_
 rintro rfl
 refine l_len 4 sees_ow ?_
 rintro rfl
 refine lO (vz (.agg [(sc A14 r12.Sizes D14), (sc A15 r12.Ins D15), (sc A16 r12.Fixed D16), (sc A17 r12.Kernels D17), (sc A18 r12.Outs D18), (.slice none 0 0), (iv 0)].toArray) (v_build pl38 zc38 R R)) (l_alloc R R zc38 (fun b19 => (l_stores 0 R R sz38 R R R R R R (lN (bxl b19 [(sc A14 r12.Sizes D14), (sc A15 r12.Ins D15), (sc A16 r12.Fixed D16), (sc A17 r12.Kernels D17), (sc A18 r12.Outs D18), (.slice none 0 0), (iv 0)] 38 :: _ :: _ :: _ :: _ :: _ :: _ :: W1) ?_))))
 refine l_nil (q_next (c_seq (c_cut (A := ((List Int)) × (HH)) (fun a => Ze_J1 l1 r12 a.1 = some r) (fun a => [(1, (pt b7 0)), (2, (pt b8 0)), (4, (pt b19 0))]) (fun a => bxl b8 [(.slice none 0 0), (.slice none 0 0), (.slice none 0 0), (.slice none 0 0), (.slice none 0 0), (.slice none 0 0), (iv 0)] 38 :: bxl b19 [(sc A14 r12.Sizes D14), (sc A15 r12.Ins D15), (sc A16 r12.Fixed D16), (sc A17 r12.Kernels D17), (sc A18 r12.Outs D18), (.slice a.2.1 a.2.2.1 a.2.2.2), (iv 0)] 38 :: OO kT3 3 A14 D14 r12.Sizes :: OO kT3 3 A15 D15 r12.Ins :: OO kT57 57 A16 D16 r12.Fixed :: OO kT64 64 A17 D17 r12.Kernels :: OO kT3 3 A18 D18 r12.Outs :: ow kT3 3 (.slice a.2.1 a.2.2.1 a.2.2.2) a.1 :: W1) ?_ ?_)))
 refine c_seq (c_region (lI R (l_nil (q_next (c_block ?_)))))
 obtain ⟨e1, hl1, hk1⟩ := bd hr
 refine c_loop (A := HH) hl1 (fun s a => [(1, (pt b7 0)), (2, (pt b8 0)), (4, (pt b19 0)), (5, (iv s.2))]) (fun s a => bxl b8 [(.slice none 0 0), (.slice none 0 0), (.slice none 0 0), (.slice none 0 0), (.slice none 0 0), (.slice none 0 0), (iv 0)] 38 :: bxl b19 [(sc A14 r12.Sizes D14), (sc A15 r12.Ins D15), (sc A16 r12.Fixed D16), (sc A17 r12.Kernels D17), (sc A18 r12.Outs D18), (.slice a.1 a.2.1 a.2.2), (iv 0)] 38 :: OO kT3 3 A14 D14 r12.Sizes :: OO kT3 3 A15 D15 r12.Ins :: OO kT57 57 A16 D16 r12.Fixed :: OO kT64 64 A17 D17 r12.Kernels :: OO kT3 3 A18 D18 r12.Outs :: ow kT3 3 (.slice a.1 a.2.1 a.2.2) s.1 :: W1) (none, 0, 0) (aS R) (fun w s => ((s.nilo kT3 3).f 8 [7, 1, 1, 6, 0, 1])) ?_
 rintro ⟨p24, b26⟩ ⟨A25, N25, D25⟩ σ1 out1 hr he1
 replace hr : Ze_L1 l1 p24 b26 = some out1 := hr
 unfold Ze_L1 at hr
 refine c_len 7 sees_ow (fun (hn : N25 = p24.length) => ?_)
 subst hn
 refine c_seq (c_seq (c_region (lI R (lO (vFa 0 fo36_0 R) (lO (vLd 8 ag22 R R R) (lO (v_len sl22 R) (lO (vLt R R) (l_nil (q_next ?_)))))))))
 rcases bif_ hr with ⟨hb27, hr⟩ | ⟨hb27, hr⟩
 refine c_true R hb27 (c_skip (q_next (c_seq (c_block ?_))))
 obtain ⟨hg29, hr⟩ := gd hr
 refine c_region (lO (vFa 5 fo38_1 R) (lO (vLd 1 ag22 R R R) (l_build (K := kT3) (xs := ([(-1 : Int)] : List Int)) (vs := [(iv (-1))]) 0 R R sl22 sz3 zc3 R R R R R R ?_ R (fun A28 D28 => ?_))))
 exact fun I h s => (mO3).list [((), (-1 : Int))] I h s
 refine lN (OO kT3 3 A28 D28 ([(-1 : Int)] : List Int) :: _ :: bxl b19 [(sc A14 r12.Sizes D14), (sc A15 r12.Ins D15), (sc A16 r12.Fixed D16), (sc A17 r12.Kernels D17), (sc A18 r12.Outs D18), (sc A25 p24 D25), (iv 0)] 38 :: _ :: _ :: _ :: _ :: _ :: OO kT3 3 A25 D25 p24 :: W1) ?_
 refine lM (ow _ _ _ _ :: ow _ _ _ _ :: bxl _ _ _ :: bxl _ _ _ :: ow _ _ _ _ :: ow _ _ _ _ :: ow _ _ _ _ :: ow _ _ _ _ :: ow _ _ _ _ :: W1) (fun w s => (s.f 9 [8, 1, 0, 8])) ?_
 refine l_app (K := kT3) 17592186044416 R R sl22 sz3 by3 (Zr.zk zT3 zc3) R R R R R R src_ow hg29 (fun A30 D30 => (lN (OO kT3 3 A30 D30 (p24 ++ ([(-1 : Int)] : List Int)) :: _ :: _ :: _ :: _ :: _ :: _ :: _ :: W1) ?_))
 refine lO (vFa 5 fo38_1 R) (l_store 2 R R sz22 R R R R R (lN (_ :: _ :: bxl b19 [(sc A14 r12.Sizes D14), (sc A15 r12.Ins D15), (sc A16 r12.Fixed D16), (sc A17 r12.Kernels D17), (sc A18 r12.Outs D18), (sc A30 (p24 ++ ([(-1 : Int)] : List Int)) D30), (iv 0)] 38 :: _ :: _ :: _ :: _ :: _ :: W1) ?_))
 refine l_nil (q_blockn (q_next (c_region (lI R (lO (vAd R R) (lI R (l_nil ?_)))))))
 obtain rfl := so hr
 exact qA (A30, (p24 ++ ([(-1 : Int)] : List Int)).length, D30) (fun w s => (s.f 8 [1, 7, 0, 1]))
 refine c_false R hb27 (c_exit (q_exit ?_))
 obtain rfl := so hr
 obtain rfl := he1 _ R
 have hr := hk1
 refine q_exit (q_block ?_)
 exact qI (p24, (A25, p24.length, D25)) hr (fun w s => s)
 rintro ⟨p34, ⟨A35, N35, D35⟩⟩ σ1 hr
 replace hr : Ze_J1 l1 r12 p34 = some r := hr
 unfold Ze_J1 at hr
 refine c_len 7 sees_ow (fun (hn : N35 = p34.length) => ?_)
 subst hn
 refine c_seq ?_
 obtain ⟨r36, hx37, hr⟩ := bd hr
 refine c_region (lO (vz (.agg [(sc A2 l1.Sizes D2), (sc A3 l1.Ins D3), (sc A4 l1.Fixed D4), (sc A5 l1.Kernels D5), (sc A6 l1.Outs D6)].toArray) (v_loadw 8 ag36 sz36 R R R R)) (lM (RR kT3 A2 D2 l1.Sizes :: RR kT3 A3 D3 l1.Ins :: RR kT57 A4 D4 l1.Fixed :: RR kT64 A5 D5 l1.Kernels :: RR kT3 A6 D6 l1.Outs :: bxl _ _ _ :: bxl b19 [(sc A14 r12.Sizes D14), (sc A15 r12.Ins D15), (sc A16 r12.Fixed D16), (sc A17 r12.Kernels D17), (sc A18 r12.Outs D18), (sc A35 p34 D35), (iv 0)] 38 :: ow _ _ _ _ :: ow _ _ _ _ :: ow _ _ _ _ :: ow _ _ _ _ :: ow _ _ _ _ :: OO kT3 3 A35 D35 p34 :: W1) (fun w s => ((((((s.d 9 R).d 11 R).d 13 R).d 15 R).d 17 R).f 13 [4, 1, 3, 1, 2, 1, 1, 1, 0, 1, 5, 8])) ?_))
 refine lC 5 cb51 R (Zn_ok hx37) R ?_
 rintro ⟨A38, N38, D38⟩
 refine lN (ow kT88 88 (.slice A38 N38 D38) r36 :: _ :: _ :: _ :: _ :: _ :: _ :: _ :: _ :: W1) ?_
 refine l_len 0 sees_ow ?_
 rintro rfl
 refine lS R (l_nil (q_next (c_seq ?_)))
 obtain ⟨r39, hx40, hr⟩ := bd hr
 refine c_region (lS R (lC 1 cb52 R (FnOk.lends (A' := [OO kT88 88 A38 D38 r36]) (A := [RR kT88 A38 D38 r36]) (B := []) (Z1_ok hx40) ⟨lend_ow, trivial⟩ (fun _ => ⟨(closed_ow cT3), trivial⟩)) R ?_))
 rintro ⟨A41, N41, D41⟩
 refine lN (_ :: ow kT3 3 (.slice A41 N41 D41) r39.1 :: _ :: _ :: _ :: _ :: _ :: _ :: _ :: _ :: W1) ?_
 refine l_len 1 sees_ow ?_
 rintro rfl
 refine lO (vT R) (lS R (lI R (lS R (lI R (l_nil (q_next (c_seq (c_cut (A := ((List Int)) × (Unit)) (fun a => Ze_J2 r12 r39 a.1 = some r) (fun a => [(2, (pt b8 0)), (4, (pt b19 0)), (8, (iv r39.2))]) (fun a => bxl b8 [(.slice none 0 0), (.slice none 0 0), (.slice none 0 0), (.slice none 0 0), (.slice none 0 0), (.slice none 0 0), (iv 0)] 38 :: bxl b19 [(sc A14 r12.Sizes D14), (sc A15 r12.Ins D15), (sc A16 r12.Fixed D16), (sc A17 r12.Kernels D17), (sc A18 r12.Outs D18), (sc A35 p34 D35), (iv 0)] 38 :: OO kT3 3 A14 D14 r12.Sizes :: OO kT3 3 A15 D15 r12.Ins :: OO kT57 57 A16 D16 r12.Fixed :: OO kT64 64 A17 D17 r12.Kernels :: OO kT3 3 A18 D18 r12.Outs :: ow kT3 3 (.slice A35 p34.length D35) a.1 :: W1) ?_ ?_))))))))
 refine c_seq (c_region (lI R (l_nil (q_next (c_block ?_)))))
 obtain ⟨e2, hl2, hk2⟩ := bd hr
 refine c_loop (A := Unit) hl2 (fun s a => [(2, (pt b8 0)), (4, (pt b19 0)), (6, (sc A38 r36 D38)), (7, (sc A41 r39.1 D41)), (8, (iv r39.2)), (9, (iv s.2))]) (fun s a => bxl b8 [(.slice none 0 0), (.slice none 0 0), (.slice none 0 0), (.slice none 0 0), (.slice none 0 0), (.slice none 0 0), (iv 0)] 38 :: bxl b19 [(sc A14 r12.Sizes D14), (sc A15 r12.Ins D15), (sc A16 r12.Fixed D16), (sc A17 r12.Kernels D17), (sc A18 r12.Outs D18), (sc A35 p34 D35), (iv 0)] 38 :: OO kT3 3 A14 D14 r12.Sizes :: OO kT3 3 A15 D15 r12.Ins :: OO kT57 57 A16 D16 r12.Fixed :: OO kT64 64 A17 D17 r12.Kernels :: OO kT3 3 A18 D18 r12.Outs :: ow kT3 3 (.slice A35 p34.length D35) s.1 :: OO kT88 88 A38 D38 r36 :: OO kT3 3 A41 D41 r39.1 :: W1) () (aS R) (fun w s => (s.f 10 [2, 8, 0, 2])) ?_
 rintro ⟨p54, i55⟩ _ σ1 out2 hr he2
 replace hr : Ze_L2 p34 r36 r39 p54 i55 = some out2 := hr
 unfold Ze_L2 at hr
 refine c_seq (c_seq (c_region (lI R (lS R (lO (v_len sl83 R) (lO (vLt R R) (l_nil (q_next ?_))))))))
 rcases bif_ hr with ⟨hb56, hr⟩ | ⟨hb56, hr⟩
 refine c_true R hb56 (c_skip (q_next (c_seq (c_block ?_))))
 obtain ⟨hg57, hr⟩ := gd hr
 obtain ⟨hg60, hr⟩ := gd hr
 obtain ⟨hg63, hr⟩ := gd hr
 refine c_some 8 sees_ow (show 0 < r36.length by have := hg57; omega) (fun g58 o59 ha => ?_)
 subst ha
 refine c_some 9 sees_ow (show 0 < r39.1.length by have := hg60; omega) (fun g61 o62 ha => ?_)
 subst ha
 refine c_some 7 sees_ow (show 0 < p34.length by have := hg63; omega) (fun g64 o65 ha => ?_)
 subst ha
 refine cdr 13 [7] mixo (fun ht hn => (dR 0 R (vFa 5 fo38_1 R) (hS := (sL [7])) (dR 1 R (vLd 1 ag22 R R R) (hS := (sL [7])) (dR 2 R (vS R) (hS := (sL [7])) (dR 3 R (vI R) (hS := (sL [7])) (dR 4 R (vIa sl83 sz88 R R hg57) (hS := (sL [7])) (dR 5 R (vz (.pointer (some ⟨g58, o59 + i55.toNat * 4, none⟩)) (v_fa fo88_0 R R)) (hS := (sL [7])) (dR 6 R (vz (iv (ix r36 i55).Buffer) (v_lde (K := kT88) (fo := 0) (pr := fun x => (iv x.Buffer)) 7 i55 ag3 (dT88.leaf fun _ _ => R) sees_ow R hg57.1 hg57.2)) (hS := (sL [7])) (dR 7 R (vS R) (hS := (sL [7])) (dR 8 R (vI R) (hS := (sL [7])) (dR 9 R (vIa sl22 sz3 R R hg60) (hS := (sL [7])) (dR 10 R (vLi 8 ag3 sees_ow R hg60) (hS := (sL [7])) (dR 11 R (vIa sl22 sz3 R R hg63) (hS := (sL [7])) (d1 12 R (lM (ow kT3 3 (.slice (ad g64 o65) p34.length D35) p54 :: bxl _ _ _ :: bxl b19 [(sc A14 r12.Sizes D14), (sc A15 r12.Ins D15), (sc A16 r12.Fixed D16), (sc A17 r12.Kernels D17), (sc A18 r12.Outs D18), (sc (ad g64 o65) p34 D35), (iv 0)] 38 :: ow _ _ _ _ :: ow _ _ _ _ :: ow _ _ _ _ :: ow _ _ _ _ :: ow _ _ _ _ :: OO kT88 88 (ad g58 o59) D38 r36 :: OO kT3 3 (ad g61 o62) D41 r39.1 :: W1) (fun w s => (s.f 10 [7, 1, 0, 7, 8, 2])) ?_)))))))))))))))
 refine l_stx (K := kT3) (x' := (ix r39.1 i55)) 0 (ix r36 i55).Buffer R R sz3 R R hg63.1 hg63.2 ?_ ?_
 exact fun I h s => (mO3).put I h () (ix r39.1 i55) s
 refine lN (ow kT3 3 (.slice (ad g64 o65) p34.length D35) (p54.set (ix r36 i55).Buffer.toNat (ix r39.1 i55)) :: _ :: _ :: _ :: _ :: _ :: _ :: _ :: _ :: _ :: W1) ?_
 refine l_nil (q_draw (sL [0]) (dD (q_blockn (q_next (c_region (lI R (lO (vAd R R) (lI R (l_nil ?_)))))))))
 obtain rfl := so hr
 exact qA () (fun w s => (s.f 10 [1, 7, 0, 1, 8, 2]))
 refine c_false R hb56 (c_exit (q_exit ?_))
 obtain rfl := so hr
 obtain rfl := he2 _ R
 have hr := hk2
 refine q_exit (q_block ?_)
 exact qI (p54, ()) hr (fun w s => (s.f 10 [0, 8]))
 rintro ⟨p68, _⟩ σ1 hr
 replace hr : Ze_J2 r12 r39 p68 = some r := hr
 unfold Ze_J2 at hr
 refine c_seq (c_region (lI R (lO (vFa 6 fo38_2 R) (l_store 1 R R sz3 R R R R R (lN (_ :: bxl b19 [(sc A14 r12.Sizes D14), (sc A15 r12.Ins D15), (sc A16 r12.Fixed D16), (sc A17 r12.Kernels D17), (sc A18 r12.Outs D18), (sc A35 p34 D35), (iv r39.2)] 38 :: _ :: _ :: _ :: _ :: _ :: ow kT3 3 (.slice A35 p34.length D35) p68 :: W1) ?_)))))
 refine l_nil (q_next (c_seq (c_region (lO (vz (.agg [(sc A14 r12.Sizes D14), (sc A15 r12.Ins D15), (sc A16 r12.Fixed D16), (sc A17 r12.Kernels D17), (sc A18 r12.Outs D18), (sc A35 p34 D35), (iv r39.2)].toArray) (v_loadw 1 ag38 sz38 R R R R)) (l_stores 0 R R sz38 R R R R R R (lN (bxl b8 [(sc A14 r12.Sizes D14), (sc A15 r12.Ins D15), (sc A16 r12.Fixed D16), (sc A17 r12.Kernels D17), (sc A18 r12.Outs D18), (sc A35 p34 D35), (iv r39.2)] 38 :: _ :: _ :: _ :: _ :: _ :: _ :: _ :: W1) ?_))))))
 refine lB R (l_nil (q_next (c_ret ?_)))
 obtain rfl := so hr
 exact q_fin (vs := [(.agg [(sc A14 r12.Sizes D14), (sc A15 r12.Ins D15), (sc A16 r12.Fixed D16), (sc A17 r12.Kernels D17), (sc A18 r12.Outs D18), (sc A35 p34 D35), (iv r39.2)].toArray), (.bool true)]) (.inl R) ((A14, r12.Sizes.length, D14), (A15, r12.Ins.length, D15), (A16, r12.Fixed.length, D16), (A17, r12.Kernels.length, D17), (A18, r12.Outs.length, D18), (A35, p34.length, D35)) R ⟨⟨0, b8, _, _, R, R, .inl ⟨ag38, sz38, R⟩⟩, R, trivial⟩ R (fun w s => (s.f 14 [2, 6]))
theorem Z15_ok  {b1 : Int} {p2 : (List Bool)} {b3 : Nat} {r : Bool × (List Bool)} (hr : Z15 b1 p2 = some r) :
 FnOk Tryz.prog 125 [(iv b1), (pt b3 0)] [ow kT4 4 (.slice A4 N4 D4) p2, bxl b3 [(.slice A4 N4 D4)] 104] (fun (h : HH) => ((.bool r.1), [ow kT4 4 (.slice h.1 h.2.1 h.2.2) r.2, bxl b3 [(.slice h.1 h.2.1 h.2.2)] 104])) := by
 unfold Z15 at hr
 refine fn_ok Tryz.func125 R 21 R R fun C V => ?_
 refine cN (_ :: _ :: V) ?_
 refine cL 0 sees_ow ?_
 rintro rfl
 refine c_seq (c_region (lB R (l_nil ?_)))
 let W1 : List HP := bxl b3 [(sc A4 p2 D4)] 104 :: V
 refine qN (_ :: W1) ?_
 refine q_next (c_seq (c_seq ?_))
 obtain ⟨hg5, hr⟩ := gd hr
 refine cQ [(0, (iv b1)), (1, (pt b3 0)), (17, (.bool (((decide (b1 < (0 : Int))) || (decide (b1 ≥ (p2.length : Int)))) || (ix p2 b1))))] (OO kT4 4 A4 D4 p2 :: W1) ?_ ?_
 refine c_region (lI R (lO (vLt R R) (lB R ?_)))
 rcases bo (decide (b1 < (0 : Int))) with hc8 | hc8
 refine lf (wfT hc8) (lf (wfT hc8) (lf (wfT hc8) (lf (wfT hc8) (lO (pOT (decide (b1 ≥ (p2.length : Int))) R hc8) (lB R (lf (wfT (oT hc8)) (lf (wfT (oT hc8)) (lf (wfT (oT hc8)) (lf (wfT (oT hc8)) (lO (pOT (ix p2 b1) R (oT hc8)) (l_nil ?_)))))))))))
 exact qJ (fun w s => s)
 refine lW (wnF hc8) (vI R) (lW (wnF hc8) (vLd 1 ag104 R R R) (lW (wnF hc8) (v_len sl104 R) (lW (wnF hc8) (vGe R R) (lO (pOF R hc8 R) (lB R ?_)))))
 rcases bo ((decide (b1 < (0 : Int))) || (decide (b1 ≥ (p2.length : Int)))) with hc9 | hc9
 refine lf (wfT hc9) (lf (wfT hc9) (lf (wfT hc9) (lf (wfT hc9) (lO (pOT (ix p2 b1) R hc9) (l_nil ?_)))))
 exact qJ (fun w s => s)
 refine lW (wnF hc9) (vLd 1 ag104 R R R) (lW (wnF hc9) (vI R) (t_some 0 sees_ow (show 0 < p2.length by have := (hg5 hc9); omega) (fun g6 o7 ha => ?_)))
 subst ha
 refine lW (wnF hc9) (vIa sl104 sz4 R R (hg5 hc9)) (lW (wnF hc9) (vz (.bool (ix p2 b1)) (v_lde (K := kT4) (fo := 0) (pr := fun x => (.bool x)) 0 b1 ag4 (dT4.leaf fun _ _ => R) sees_ow R (hg5 hc9).1 (hg5 hc9).2)) (lO (pOF R hc9 R) (l_nil ?_)))
 exact qJ (fun w s => s)
 rintro σ1
 refine q_next ?_
 rcases bif_ hr with ⟨hb10, hr⟩ | ⟨hb10, hr⟩
 refine c_true R hb10 (c_seq (c_region (lB R (l_nil (q_next (c_ret (q_ret ?_)))))))
 obtain rfl := so hr
 exact qF (A4, p2.length, D4) (fun w s => s)
 refine c_false R hb10 (c_skip (q_next (c_seq ?_)))
 obtain ⟨hg11, hr⟩ := gd hr
 refine c_region (lO (vLd 1 ag104 R R R) (lI R (t_some 0 sees_ow (show 0 < p2.length by have := hg11; omega) (fun g12 o13 ha => ?_))))
 subst ha
 refine lO (vIa sl104 sz4 R R hg11) (lN (OO kT4 4 (ad g12 o13) D4 p2 :: W1) ?_)
 refine l_stx (K := kT4) (x' := true) 0 b1 R R sz4 R R hg11.1 hg11.2 ?_ ?_
 exact fun I h s => (mO4).put I h () true s
 refine lN (ow kT4 4 (.slice (ad g12 o13) p2.length D4) (p2.set b1.toNat true) :: W1) ?_
 refine l_nil (q_next (c_seq (c_region (lB R (l_nil (q_next (c_ret ?_)))))))
 obtain rfl := so hr
 exact qF ((ad g12 o13), p2.length, D4) (fun w s => s)
theorem Z1o_ok  {p1 : Int} {r : Bool} (hr : Z1o p1 = some r) :
 FnOk Tryz.prog 124 [(iv p1)] [] (fun (h : Unit) => ((.bool r), [])) := by
 unfold Z1o at hr
 refine fn_ok Tryz.func124 R 9 R R fun C V => ?_
 refine cN V ?_
 refine c_seq (c_region (lB R (l_nil (q_next (c_seq (cQ [(2, (.bool ((decide (p1 ≥ (0 : Int))) && (decide (p1 < (2147483647 : Int))))))] (V) ?_ ?_))))))
 refine c_region (lI R (lO (vGe R R) (lB R ?_)))
 rcases bo (decide (p1 ≥ (0 : Int))) with hc2 | hc2
 refine lW (wnT hc2) (vI R) (lW (wnT hc2) (vLt R R) (lO (pAT R hc2 R) (lB R (l_nil ?_))))
 exact qJ (fun w s => s)
 refine lf (wfF hc2) (lf (wfF hc2) (lO (pAF (decide (p1 < (2147483647 : Int))) R hc2) (lB R (l_nil ?_))))
 exact qJ (fun w s => s)
 rintro σ1
 refine q_next (c_ret ?_)
 obtain rfl := so hr
 exact qF () (fun w s => s)
theorem Z0n_ok  {xs1 : (List Int)} {r : Bool} (hr : Z0n xs1 = some r) :
 FnOk Tryz.prog 72 [(.slice A2 N2 D2)] [rds kT3 (.slice A2 N2 D2) xs1] (fun (h : Unit) => ((.bool r), [])) := by
 unfold Z0n at hr
 refine fn_ok Tryz.func72 R 15 R R fun C V => ?_
 refine cN (_ :: V) ?_
 refine cL 0 sees_rd ?_
 rintro rfl
 let W0 : List HP := RR kT3 A2 D2 xs1 :: V
 refine cN W0 ?_
 refine c_seq (c_region (lB R (l_nil (q_next (c_seq (c_cut (A := (Unit) × (Unit)) (fun a => Z0n_J1 = some r) (fun a => []) (fun a => W0) ?_ ?_))))))
 refine c_seq (c_region (lS R (lO (v_len sl22 R) (lI R (l_nil (q_next (c_block ?_)))))))
 obtain ⟨e1, hl1, hk1⟩ := bd hr
 refine c_loop (A := Unit) hl1 (fun s a => [(5, (sc A2 xs1 D2)), (6, (il xs1)), (7, (iv s))]) (fun s a => W0) () (aS R) (fun w s => s) ?_
 rintro x10 _ σ1 out1 hr he1
 replace hr : Z0n_L1 xs1 x10 = some out1 := hr
 unfold Z0n_L1 at hr
 refine c_seq (c_region (lO (vLt R R) (l_nil (q_next (c_seq ?_)))))
 rcases bif_ hr with ⟨hb11, hr⟩ | ⟨hb11, hr⟩
 refine c_true R hb11 (c_skip (q_next (c_seq (c_block (c_seq ?_)))))
 obtain ⟨hg12, hr⟩ := gd hr
 refine c_region (t_some 0 sees_rd (show 0 < xs1.length by have := hg12; omega) (fun g13 o14 ha => ?_))
 subst ha
 refine lO (vIa sl22 sz3 R R hg12) (lO (vLi 0 ag3 sees_rd R hg12) (lI R (l_nil (q_next (c_seq ?_)))))
 obtain ⟨r15, hx16, hr⟩ := bd hr
 refine c_region (lI R (lC 0 cb124 R (Z1o_ok hx16) R ?_))
 rintro _
 refine lO (vNo R) (l_nil (q_next ?_))
 rcases bif_ hr with ⟨hb17, hr⟩ | ⟨hb17, hr⟩
 refine c_true R hb17 (c_seq (c_region (lB R (l_nil (q_next (c_ret (q_blockr (q_ret ?_))))))))
 obtain rfl := so hr
 obtain rfl := he1 _ R
 have hr := hk1
 refine q_ret (q_blockr (q_ret ?_))
 obtain rfl := so hr
 exact qF () (fun w s => (s.e 1 []))
 refine c_false R hb17 (c_skip (q_blockn (q_next (c_region (lO (vAd R R) (lI R (l_nil ?_)))))))
 obtain rfl := so hr
 exact qA () (fun w s => s)
 refine c_false R hb11 (c_exit (q_exit ?_))
 obtain rfl := so hr
 obtain rfl := he1 _ R
 have hr := hk1
 refine q_exit (q_block ?_)
 exact q_join ((), ()) hr trivial (fun w s => s)
 rintro ⟨_, _⟩ σ1 hr
 replace hr : Z0n_J1 = some r := hr
 unfold Z0n_J1 at hr
 refine c_seq (c_region (lB R (l_nil (q_next (c_ret ?_)))))
 obtain rfl := so hr
 exact qF () (fun w s => (s.e 1 []))
theorem Z9_ok  {l1 : Nest} {r : (List Bool) × Bool} (hr : Z9 l1 = some r) :
 FnOk Tryz.prog 73 [(.agg [(.slice A2 N2 D2), (.slice A3 N3 D3), (.slice A4 N4 D4), (.slice A5 N5 D5), (.slice A6 N6 D6)].toArray)] [rds kT3 (.slice A2 N2 D2) l1.Sizes, rds kT3 (.slice A3 N3 D3) l1.Ins, rds kT57 (.slice A4 N4 D4) l1.Fixed, rds kT64 (.slice A5 N5 D5) l1.Kernels, rds kT3 (.slice A6 N6 D6) l1.Outs] (fun (h : HH) => ((.tuple [(.slice h.1 h.2.1 h.2.2), (.bool r.2)].toArray), [ow kT4 4 (.slice h.1 h.2.1 h.2.2) r.1])) := by
 unfold Z9 at hr
 refine fn_ok Tryz.func73 R 59 R R fun C V => ?_
 refine cN (_ :: _ :: _ :: _ :: _ :: V) ?_
 refine cL 0 sees_rd ?_
 rintro rfl
 refine cL 1 sees_rd ?_
 rintro rfl
 refine cL 2 sees_rd ?_
 rintro rfl
 refine cL 3 sees_rd ?_
 rintro rfl
 refine cL 4 sees_rd ?_
 rintro rfl
 let W0 : List HP := RR kT3 A2 D2 l1.Sizes :: RR kT3 A3 D3 l1.Ins :: RR kT57 A4 D4 l1.Fixed :: RR kT64 A5 D5 l1.Kernels :: RR kT3 A6 D6 l1.Outs :: V
 refine cN W0 ?_
 refine c_seq (c_region (lBx R (fun b7 => (lS R (lB R (l_nil ?_))))))
 let W1 : List HP := bxl b7 [(sc A2 l1.Sizes D2), (sc A3 l1.Ins D3), (sc A4 l1.Fixed D4), (sc A5 l1.Kernels D5), (sc A6 l1.Outs D6)] 36 :: W0
 refine qN W1 ?_
 refine q_next (c_seq ?_)
 obtain ⟨hg8, hr⟩ := gd hr
 refine c_region (lO (vFa 0 fo36_0 R) (lO (vLd 0 ag22 R R R) (lO (v_len sl22 R) (l_make (K := kT4) (m := (l1.Sizes.length : Int)) (z := false) R R sl104 sz4 by4 (Zr.zk zT4 zc4) (by decide) R R hg8.1 hg8.2.1 hg8.2.2 (fun A9 D9 => (l_alloc R R zc104 (fun b10 => (l_store 0 R R sz104 R R R R R (lN (bxl b10 [(sc A9 (List.replicate (l1.Sizes.length : Int).toNat false) D9)] 104 :: OO kT4 4 A9 D9 (List.replicate (l1.Sizes.length : Int).toNat false) :: W1) ?_)))))))))
 refine l_nil (q_next (c_seq (c_region (lO (vp (.func (.func 125) [].toArray [(pt b10 0)].toArray) R) (lO (vp (.func (.func 125) [].toArray [(pt b10 0)].toArray) R) (l_nil (q_next (c_seq (c_cut (A := ((List Bool)) × (HH)) (fun a => Z9_J1 l1 a.1 = some r) (fun a => [(1, (pt b7 0)), (4, (pt b10 0)), (5, (.func (.func 125) [].toArray [(pt b10 0)].toArray))]) (fun a => bxl b10 [(.slice a.2.1 a.2.2.1 a.2.2.2)] 104 :: ow kT4 4 (.slice a.2.1 a.2.2.1 a.2.2.2) a.1 :: W1) ?_ ?_)))))))))
 refine c_seq (c_region (lO (vFa 1 fo36_1 R) (lO (vLd 2 ag22 R R R) (lO (v_len sl22 R) (lI R (l_nil (q_next (c_block ?_))))))))
 obtain ⟨e1, hl1, hk1⟩ := bd hr
 refine c_loop (A := HH) hl1 (fun s a => [(1, (pt b7 0)), (4, (pt b10 0)), (5, (.func (.func 125) [].toArray [(pt b10 0)].toArray)), (16, (sc A3 l1.Ins D3)), (17, (il l1.Ins)), (18, (iv s.2))]) (fun s a => bxl b10 [(.slice a.1 a.2.1 a.2.2)] 104 :: ow kT4 4 (.slice a.1 a.2.1 a.2.2) s.1 :: W1) (A9, (List.replicate (l1.Sizes.length : Int).toNat false).length, D9) (aS R) (fun w s => s) ?_
 rintro ⟨x19, x21⟩ ⟨A20, N20, D20⟩ σ1 out1 hr he1
 replace hr : Z9_L1 l1 x19 x21 = some out1 := hr
 unfold Z9_L1 at hr
 refine c_len 1 sees_ow (fun (hn : N20 = x19.length) => ?_)
 subst hn
 refine c_seq (c_region (lO (vLt R R) (l_nil (q_next (c_seq ?_)))))
 rcases bif_ hr with ⟨hb22, hr⟩ | ⟨hb22, hr⟩
 refine c_true R hb22 (c_skip (q_next (c_seq (c_block (c_seq ?_)))))
 obtain ⟨hg23, hr⟩ := gd hr
 refine c_region (t_some 4 sees_rd (show 0 < l1.Ins.length by have := hg23; omega) (fun g24 o25 ha => ?_))
 subst ha
 refine lO (vIa sl22 sz3 R R hg23) (lO (vLi 4 ag3 sees_rd R hg23) (lI R (l_nil (q_next (c_seq ?_)))))
 obtain ⟨r26, hx27, hr⟩ := bd hr
 refine c_region (lO (vp (.func (.func 125) [].toArray [(pt b10 0)].toArray) R) (lI R (lM (OO kT4 4 A20 D20 x19 :: bxl b10 [(sc A20 x19 D20)] 104 :: W1) (fun w s => (s.e 2 [1, 0])) ?_)))
 refine l_callvn (fs := []) (cs := [(pt b10 0)]) 2 R R cb125 R R (Z15_ok hx27) R ?_
 rintro ⟨A28, N28, D28⟩
 refine lN (ow kT4 4 (.slice A28 N28 D28) r26.2 :: bxl b10 [(.slice A28 N28 D28)] 104 :: W1) ?_
 refine l_len 0 sees_ow ?_
 rintro rfl
 refine lO (vNo R) (l_nil (q_next ?_))
 rcases bif_ hr with ⟨hb29, hr⟩ | ⟨hb29, hr⟩
 refine c_true R hb29 (c_seq (c_region (lS R (lB R (l_nil (q_next (c_ret (q_blockr (q_ret ?_)))))))))
 obtain rfl := so hr
 obtain rfl := he1 _ R
 have hr := hk1
 refine q_ret (q_blockr (q_ret ?_))
 obtain rfl := so hr
 exact q_fin (vs := [(.slice none 0 0), (.bool false)]) (.inl R) (none, 0, 0) R ⟨R, R, trivial⟩ R (fun w s => ((s.nilo kT4 4).e 9 [0]))
 refine c_false R hb29 (c_skip (q_blockn (q_next (c_region (lO (vAd R R) (lI R (l_nil ?_)))))))
 obtain rfl := so hr
 exact qA (A28, r26.2.length, D28) (fun w s => (s.e 2 [1, 0]))
 refine c_false R hb22 (c_exit (q_exit ?_))
 obtain rfl := so hr
 obtain rfl := he1 _ R
 have hr := hk1
 refine q_exit (q_block ?_)
 exact qI (x19, (A20, x19.length, D20)) hr (fun w s => s)
 rintro ⟨x33, ⟨A34, N34, D34⟩⟩ σ1 hr
 replace hr : Z9_J1 l1 x33 = some r := hr
 unfold Z9_J1 at hr
 refine c_len 1 sees_ow (fun (hn : N34 = x33.length) => ?_)
 subst hn
 refine c_seq (c_cut (A := ((List Bool)) × (HH)) (fun a => Z9_J2 a.1 = some r) (fun a => [(4, (pt b10 0))]) (fun a => bxl b10 [(.slice a.2.1 a.2.2.1 a.2.2.2)] 104 :: ow kT4 4 (.slice a.2.1 a.2.2.1 a.2.2.2) a.1 :: W1) ?_ ?_)
 refine c_seq (c_region (lO (vFa 2 fo36_2 R) (lO (vLd 2 ag33 R R R) (lO (v_len sl33 R) (lI R (l_nil (q_next (c_block ?_))))))))
 obtain ⟨e2, hl2, hk2⟩ := bd hr
 refine c_loop (A := HH × HH) hl2 (fun s a => [(1, (pt b7 0)), (4, (pt b10 0)), (5, (.func (.func 125) [].toArray [(pt b10 0)].toArray)), (28, (.slice a.2.1 a.2.2.1 a.2.2.2)), (29, (il l1.Fixed)), (30, (iv s.2))]) (fun s a => bxl b10 [(.slice a.1.1 a.1.2.1 a.1.2.2)] 104 :: ow kT4 4 (.slice a.1.1 a.1.2.1 a.1.2.2) s.1 :: rds kT57 (.slice a.2.1 a.2.2.1 a.2.2.2) l1.Fixed :: W1) ((A34, x33.length, D34), (A4, l1.Fixed.length, D4)) (aS R) (fun w s => ((s.d 5 R).e 3 [1, 2, 0])) ?_
 rintro ⟨x53, x56⟩ ⟨⟨A54, N54, D54⟩, ⟨A55, N55, D55⟩⟩ σ1 out2 hr he2
 replace hr : Z9_L2 l1 x53 x56 = some out2 := hr
 unfold Z9_L2 at hr
 refine c_len 1 sees_ow (fun (hn : N54 = x53.length) => ?_)
 subst hn
 refine c_len 2 sees_rd (fun (hn : N55 = l1.Fixed.length) => ?_)
 subst hn
 refine c_seq (c_region (lO (vLt R R) (l_nil (q_next (c_seq ?_)))))
 rcases bif_ hr with ⟨hb57, hr⟩ | ⟨hb57, hr⟩
 refine c_true R hb57 (c_skip (q_next (c_seq (c_block (c_seq ?_)))))
 obtain ⟨hg58, hr⟩ := gd hr
 refine c_region (t_some 2 sees_rd (show 0 < l1.Fixed.length by have := hg58; omega) (fun g59 o60 ha => ?_))
 subst ha
 refine lO (vIa sl33 sz57 R R hg58) (t_elem (K := kT57) 2 x56 dT57.dec R hg58.1 hg58.2 ?_)
 rintro ⟨-, ⟨A61, D61⟩⟩
 refine lN (cl g59 (o60 + x56.toNat * 2) [(iv (ix l1.Fixed x56).Buffer), (sc A61 ((ix l1.Fixed x56).Data) D61)] :: RR kT3 A61 D61 ((ix l1.Fixed x56).Data) :: bxl b10 [(sc A54 x53 D54)] 104 :: OO kT4 4 A54 D54 x53 :: RR kT57 (ad g59 o60) D55 l1.Fixed :: W1) ?_
 refine lO (vz (.agg [(iv (ix l1.Fixed x56).Buffer), (sc A61 ((ix l1.Fixed x56).Data) D61)].toArray) (v_clfs (fo := 0) 0 ag57 sz57 R R R R)) (l_alloc R R zc57 (fun b62 => (l_stores 0 R R sz57 R R R R R R (lN (bxl b62 [(iv (ix l1.Fixed x56).Buffer), (sc A61 ((ix l1.Fixed x56).Data) D61)] 57 :: _ :: _ :: _ :: _ :: _ :: W1) ?_))))
 refine l_nil (q_next (c_seq ?_))
 obtain ⟨r63, hx64, hr⟩ := bd hr
 obtain ⟨hg66, hr⟩ := gd hr
 obtain ⟨r69, hx70, hr⟩ := bd hr
 refine c_cutq (A := (Unit) × (HH)) (fun _ => True) (fun a => [(1, (pt b7 0)), (4, (pt b10 0)), (5, (.func (.func 125) [].toArray [(pt b10 0)].toArray)), (28, (sc (ad g59 o60) l1.Fixed D55)), (29, (il l1.Fixed)), (30, (iv x56)), (56, (.bool (((!r63.1) || ((((ix l1.Fixed x56).Data).length : Int) != (ix l1.Sizes (ix l1.Fixed x56).Buffer))) || (!r69))))]) (fun a => bxl b10 [(.slice a.2.1 a.2.2.1 a.2.2.2)] 104 :: ow kT4 4 (.slice a.2.1 a.2.2.1 a.2.2.2) r63.2 :: RR kT57 (ad g59 o60) D55 l1.Fixed :: W1) ?_ ?_
 rcases bo (!r63.1) with hc71 | hc71
 refine cdr 23 [4, 3] mixo (fun ht hn => (dR 0 R (vp (.func (.func 125) [].toArray [(pt b10 0)].toArray) R) (hS := (sL [4, 3])) (dR 1 R (vFa 0 fo57_0 R) (hS := (sL [4, 3])) (dR 2 R (vLd 0 ag3 R R R) (hS := (sL [4, 3])) (d1 3 R (lM (ow _ _ _ _ :: bxl _ _ _ :: bxl _ _ _ :: cl _ _ _ :: rds _ _ _ :: rds _ _ _ :: W1) (fun w s => (s.e 6 [4, 3, 0, 1, 2, 5])) ?_))))))
 refine l_callvn (fs := []) (cs := [(pt b10 0)]) 2 R R cb125 R R (Z15_ok hx64) R ?_
 rintro ⟨A65, N65, D65⟩
 refine lN (ow kT4 4 (.slice A65 N65 D65) r63.2 :: bxl b10 [(.slice A65 N65 D65)] 104 :: _ :: _ :: _ :: _ :: W1) ?_
 refine l_len 0 sees_ow ?_
 rintro rfl
 refine l_nil (q_draw (sL [1, 0]) (dR 4 R (vNo R) (hS := (sL [1, 0])) (dR 5 R (vB R) (hS := (sL [1, 0])) (dF 6 R (wfT hc71) (hS := (sL [1, 0])) (dF 7 R (wfT hc71) (hS := (sL [1, 0])) (dF 8 R (wfT hc71) (hS := (sL [1, 0])) (dF 9 R (wfT hc71) (hS := (sL [1, 0])) (dF 10 R (wfT hc71) (hS := (sL [1, 0])) (dF 11 R (wfT hc71) (hS := (sL [1, 0])) (dF 12 R (wfT hc71) (hS := (sL [1, 0])) (dF 13 R (wfT hc71) (hS := (sL [1, 0])) (dF 14 R (wfT hc71) (hS := (sL [1, 0])) (dF 15 R (wfT hc71) (hS := (sL [1, 0])) (dR 16 R (pOT ((((ix l1.Fixed x56).Data).length : Int) != (ix l1.Sizes (ix l1.Fixed x56).Buffer)) R hc71) (hS := (sL [1, 0])) (dR 17 R (vB R) (hS := (sL [1, 0])) (dF 18 R (wfT (oT hc71)) (hS := (sL [1, 0])) (dF 19 R (wfT (oT hc71)) (hS := (sL [1, 0])) (dF 20 R (wfT (oT hc71)) (hS := (sL [1, 0])) (dF 21 R (wfT (oT hc71)) (hS := (sL [1, 0])) (dR 22 R (pOT (!r69) R (oT hc71)) (hS := (sL [1, 0])) (dD ?_)))))))))))))))))))))
 exact q_join ((), (A65, r63.2.length, D65)) trivial (aS R) (fun w s => (s.e 6 [1, 0, 5]))
 rcases bo ((!r63.1) || ((((ix l1.Fixed x56).Data).length : Int) != (ix l1.Sizes (ix l1.Fixed x56).Buffer))) with hc72 | hc72
 refine c_some 7 sees_rd (show 0 < l1.Sizes.length by have := (hg66 hc71); omega) (fun g67 o68 ha => ?_)
 subst ha
 refine cdr 23 [4, 3] mixo (fun ht hn => (dR 0 R (vp (.func (.func 125) [].toArray [(pt b10 0)].toArray) R) (hS := (sL [4, 3])) (dR 1 R (vFa 0 fo57_0 R) (hS := (sL [4, 3])) (dR 2 R (vLd 0 ag3 R R R) (hS := (sL [4, 3])) (d1 3 R (lM (OO kT4 4 A54 D54 x53 :: bxl b10 [(sc A54 x53 D54)] 104 :: bxl _ _ _ :: cl _ _ _ :: rds _ _ _ :: rds _ _ _ :: W1) (fun w s => (s.e 6 [4, 3, 0, 1, 2, 5])) ?_))))))
 refine l_callvn (fs := []) (cs := [(pt b10 0)]) 2 R R cb125 R R (Z15_ok hx64) R ?_
 rintro ⟨A65, N65, D65⟩
 refine lN (ow kT4 4 (.slice A65 N65 D65) r63.2 :: bxl b10 [(.slice A65 N65 D65)] 104 :: _ :: _ :: _ :: _ :: W1) ?_
 refine l_len 0 sees_ow ?_
 rintro rfl
 refine l_nil (q_draw (sL [1, 0]) (dR 4 R (vNo R) (hS := (sL [1, 0])) (dR 5 R (vB R) (hS := (sL [1, 0])) (dW 6 R (wnF hc71) (vFa 1 fo57_1 R) (hS := (sL [1, 0])) (dW 7 R (wnF hc71) (vLd 0 ag22 R R R) (hS := (sL [1, 0])) (dW 8 R (wnF hc71) (v_len sl22 R) (hS := (sL [1, 0])) (dW 9 R (wnF hc71) (vFa 0 fo36_0 R) (hS := (sL [1, 0])) (dW 10 R (wnF hc71) (vLd 4 ag22 R R R) (hS := (sL [1, 0])) (dW 11 R (wnF hc71) (vFa 0 fo57_0 R) (hS := (sL [1, 0])) (dW 12 R (wnF hc71) (vLd 0 ag3 R R R) (hS := (sL [1, 0])) (dW 13 R (wnF hc71) (vIa sl22 sz3 R R (hg66 hc71)) (hS := (sL [1, 0])) (dW 14 R (wnF hc71) (vLi 5 ag3 sees_rd R (hg66 hc71)) (hS := (sL [1, 0])) (dW 15 R (wnF hc71) (vNe R R) (hS := (sL [1, 0])) (dR 16 R (pOF R hc71 R) (hS := (sL [1, 0])) (dR 17 R (vB R) (hS := (sL [1, 0])) (dF 18 R (wfT hc72) (hS := (sL [1, 0])) (dF 19 R (wfT hc72) (hS := (sL [1, 0])) (dF 20 R (wfT hc72) (hS := (sL [1, 0])) (dF 21 R (wfT hc72) (hS := (sL [1, 0])) (dR 22 R (pOT (!r69) R hc72) (hS := (sL [1, 0])) (dD ?_)))))))))))))))))))))
 exact q_join ((), (A65, r63.2.length, D65)) trivial (aS R) (fun w s => (s.e 6 [1, 0, 5]))
 refine c_some 7 sees_rd (show 0 < l1.Sizes.length by have := (hg66 hc71); omega) (fun g67 o68 ha => ?_)
 subst ha
 refine cdr 23 [4, 3] mixo (fun ht hn => (dR 0 R (vp (.func (.func 125) [].toArray [(pt b10 0)].toArray) R) (hS := (sL [4, 3])) (dR 1 R (vFa 0 fo57_0 R) (hS := (sL [4, 3])) (dR 2 R (vLd 0 ag3 R R R) (hS := (sL [4, 3])) (d1 3 R (lM (OO kT4 4 A54 D54 x53 :: bxl b10 [(sc A54 x53 D54)] 104 :: bxl _ _ _ :: cl _ _ _ :: rds _ _ _ :: rds _ _ _ :: W1) (fun w s => (s.e 6 [4, 3, 0, 1, 2, 5])) ?_))))))
 refine l_callvn (fs := []) (cs := [(pt b10 0)]) 2 R R cb125 R R (Z15_ok hx64) R ?_
 rintro ⟨A65, N65, D65⟩
 refine lN (ow kT4 4 (.slice A65 N65 D65) r63.2 :: bxl b10 [(.slice A65 N65 D65)] 104 :: _ :: _ :: _ :: _ :: W1) ?_
 refine l_len 0 sees_ow ?_
 rintro rfl
 refine l_nil (q_draw (sL [1, 0]) (dR 4 R (vNo R) (hS := (sL [1, 0])) (dR 5 R (vB R) (hS := (sL [1, 0])) (dW 6 R (wnF hc71) (vFa 1 fo57_1 R) (hS := (sL [1, 0])) (dW 7 R (wnF hc71) (vLd 0 ag22 R R R) (hS := (sL [1, 0])) (dW 8 R (wnF hc71) (v_len sl22 R) (hS := (sL [1, 0])) (dW 9 R (wnF hc71) (vFa 0 fo36_0 R) (hS := (sL [1, 0])) (dW 10 R (wnF hc71) (vLd 4 ag22 R R R) (hS := (sL [1, 0])) (dW 11 R (wnF hc71) (vFa 0 fo57_0 R) (hS := (sL [1, 0])) (dW 12 R (wnF hc71) (vLd 0 ag3 R R R) (hS := (sL [1, 0])) (dW 13 R (wnF hc71) (vIa sl22 sz3 R R (hg66 hc71)) (hS := (sL [1, 0])) (dW 14 R (wnF hc71) (vLi 5 ag3 sees_rd R (hg66 hc71)) (hS := (sL [1, 0])) (dW 15 R (wnF hc71) (vNe R R) (hS := (sL [1, 0])) (dR 16 R (pOF R hc71 R) (hS := (sL [1, 0])) (dR 17 R (vB R) (hS := (sL [1, 0])) (dW 18 R (wnF hc72) (vFa 1 fo57_1 R) (hS := (sL [1, 0])) (dW 19 R (wnF hc72) (vLd 0 ag22 R R R) (hS := (sL [1, 0])) (d1 20 R (lM (_ :: _ :: bxl b10 [(sc A65 r63.2 D65)] 104 :: _ :: _ :: _ :: _ :: W1) (fun w s => (s.d 4 R)) ?_)))))))))))))))))))
 refine l_calln 1 R (wnF hc72) cb72 R (Z0n_ok (gcall_t hx70 (not_ff hc72))) R ?_
 rintro _
 refine lN (_ :: _ :: _ :: _ :: _ :: _ :: W1) ?_
 refine l_nil (q_draw (sL [1, 0]) (dW 21 R (wnF hc72) (vNo R) (hS := (sL [1, 0])) (dR 22 R (pOF R hc72 R) (hS := (sL [1, 0])) (dD ?_))))
 exact q_join ((), (A65, r63.2.length, D65)) trivial (aS R) (fun w s => (s.e 6 [1, 0, 5]))
 rintro ⟨_, ⟨A73, N73, D73⟩⟩ σ1 -
 refine q_len 1 sees_ow (fun (hn : N73 = r63.2.length) => ?_)
 subst hn
 refine q_next ?_
 rcases bif_ hr with ⟨hb74, hr⟩ | ⟨hb74, hr⟩
 refine c_true R hb74 (c_seq (c_region (lS R (lB R (l_nil (q_next (c_ret (q_blockr (q_ret ?_)))))))))
 obtain rfl := so hr
 obtain rfl := he2 _ R
 have hr := hk2
 refine q_ret (q_blockr (q_ret ?_))
 obtain rfl := so hr
 exact q_fin (vs := [(.slice none 0 0), (.bool false)]) (.inl R) (none, 0, 0) R ⟨R, R, trivial⟩ R (fun w s => ((s.nilo kT4 4).e 10 [0]))
 refine c_false R hb74 (c_skip (q_blockn (q_next (c_region (lO (vAd R R) (lI R (l_nil ?_)))))))
 obtain rfl := so hr
 exact qA ((A73, r63.2.length, D73), ((ad g59 o60), l1.Fixed.length, D55)) (fun w s => s)
 refine c_false R hb57 (c_exit (q_exit ?_))
 obtain rfl := so hr
 obtain rfl := he2 _ R
 have hr := hk2
 refine q_exit (q_block ?_)
 exact qI (x53, (A54, x53.length, D54)) hr (fun w s => (s.e 3 [0, 1]))
 rintro ⟨x79, ⟨A80, N80, D80⟩⟩ σ1 hr
 replace hr : Z9_J2 x79 = some r := hr
 unfold Z9_J2 at hr
 refine c_len 1 sees_ow (fun (hn : N80 = x79.length) => ?_)
 subst hn
 refine c_seq (c_region (lO (vLd 0 ag104 R R R) (lS R (lB R (l_nil (q_next (c_ret ?_)))))))
 obtain rfl := so hr
 exact q_fin (vs := [(sc A80 x79 D80), (.bool true)]) (.inl R) (A80, x79.length, D80) R ⟨R, R, trivial⟩ R (fun w s => (s.e 8 [1]))
theorem Z03_ok  {loops1 : (List Int)} {r : Int × Bool} (hr : Z03 loops1 = some r) :
 FnOk Tryz.prog 143 [(.slice A2 N2 D2)] [rds kT3 (.slice A2 N2 D2) loops1] (fun (h : Unit) => ((.tuple [(iv r.1), (.bool r.2)].toArray), [])) := by
 unfold Z03 at hr
 refine fn_ok Tryz.func143 R 29 R R fun C V => ?_
 refine cN (_ :: V) ?_
 refine cL 0 sees_rd ?_
 rintro rfl
 let W0 : List HP := RR kT3 A2 D2 loops1 :: V
 refine cN W0 ?_
 refine c_seq (c_region (lI R (lB R (l_nil (q_next (c_seq (c_region (lI R (l_nil (q_next (c_seq (c_cut (A := (Int) × (HH)) (fun a => Z03_J1 loops1 a.1 = some r) (fun a => [(0, (.slice a.2.1 a.2.2.1 a.2.2.2)), (4, (iv a.1))]) (fun a => rds kT3 (.slice a.2.1 a.2.2.1 a.2.2.2) loops1 :: W0) ?_ ?_))))))))))))
 refine c_seq (c_region (lS R (lO (v_len sl22 R) (lI R (l_nil (q_next (c_block ?_)))))))
 obtain ⟨e1, hl1, hk1⟩ := bd hr
 refine c_loop (A := HH) hl1 (fun s a => [(0, (.slice a.1 a.2.1 a.2.2)), (4, (iv s.1)), (7, (.slice a.1 a.2.1 a.2.2)), (8, (il loops1)), (9, (iv s.2))]) (fun s a => rds kT3 (.slice a.1 a.2.1 a.2.2) loops1 :: W0) (A2, loops1.length, D2) (aS R) (fun w s => (s.d 0 R)) ?_
 rintro ⟨n11, x12⟩ ⟨A10, N10, D10⟩ σ1 out1 hr he1
 replace hr : Z03_L1 loops1 n11 x12 = some out1 := hr
 unfold Z03_L1 at hr
 refine c_len 0 sees_rd (fun (hn : N10 = loops1.length) => ?_)
 subst hn
 refine c_seq (c_region (lO (vLt R R) (l_nil (q_next (c_seq ?_)))))
 rcases bif_ hr with ⟨hb13, hr⟩ | ⟨hb13, hr⟩
 refine c_true R hb13 (c_skip (q_next (c_seq (c_block (c_seq ?_)))))
 obtain ⟨hg14, hr⟩ := gd hr
 refine c_region (t_some 0 sees_rd (show 0 < loops1.length by have := hg14; omega) (fun g15 o16 ha => ?_))
 subst ha
 refine lO (vIa sl22 sz3 R R hg14) (lO (vLi 0 ag3 sees_rd R hg14) (lI R (l_nil (q_next (c_seq (c_seq (cQ [(0, (sc (ad g15 o16) loops1 D10)), (4, (iv n11)), (6, (iv (ix loops1 x12))), (7, (sc (ad g15 o16) loops1 D10)), (8, (il loops1)), (9, (iv x12)), (18, (.bool ((decide ((ix loops1 x12) < (1 : Int))) || (decide ((ix loops1 x12) > (65536 : Int))))))] (RR kT3 (ad g15 o16) D10 loops1 :: W0) ?_ ?_)))))))
 refine c_region (lI R (lO (vLt R R) (lB R ?_)))
 rcases bo (decide ((ix loops1 x12) < (1 : Int))) with hc17 | hc17
 refine lf (wfT hc17) (lf (wfT hc17) (lO (pOT (decide ((ix loops1 x12) > (65536 : Int))) R hc17) (l_nil ?_)))
 exact qJ (fun w s => s)
 refine lW (wnF hc17) (vI R) (lW (wnF hc17) (vGt R R) (lO (pOF R hc17 R) (l_nil ?_)))
 exact qJ (fun w s => s)
 rintro σ1
 refine q_next ?_
 rcases bif_ hr with ⟨hb18, hr⟩ | ⟨hb18, hr⟩
 refine c_true R hb18 (c_seq (c_region (lI R (lB R (l_nil (q_next (c_ret (q_ret (q_blockr (q_ret ?_))))))))))
 obtain rfl := so hr
 obtain rfl := he1 _ R
 have hr := hk1
 refine q_ret (q_blockr (q_ret ?_))
 obtain rfl := so hr
 exact q_fin (vs := [(iv 0), (.bool false)]) (.inl R) () R ⟨R, R, trivial⟩ R (fun w s => (s.e 2 []))
 refine c_false R hb18 (c_skip (q_next (c_seq (c_region (lI R (lI R (lO (vMu R R) (lI R (l_nil (q_next (c_seq (c_region (lI R (lO (vGt R R) (l_nil (q_next ?_))))))))))))))))
 rcases bif_ hr with ⟨hb19, hr⟩ | ⟨hb19, hr⟩
 refine c_true R hb19 (c_seq (c_region (lI R (lB R (l_nil (q_next (c_ret (q_blockr (q_ret ?_)))))))))
 obtain rfl := so hr
 obtain rfl := he1 _ R
 have hr := hk1
 refine q_ret (q_blockr (q_ret ?_))
 obtain rfl := so hr
 exact q_fin (vs := [(iv 0), (.bool false)]) (.inl R) () R ⟨R, R, trivial⟩ R (fun w s => (s.e 2 []))
 refine c_false R hb19 (c_skip (q_blockn (q_next (c_region (lO (vAd R R) (lI R (l_nil ?_)))))))
 obtain rfl := so hr
 exact qA ((ad g15 o16), loops1.length, D10) (fun w s => s)
 refine c_false R hb13 (c_exit (q_exit ?_))
 obtain rfl := so hr
 obtain rfl := he1 _ R
 have hr := hk1
 refine q_exit (q_block ?_)
 exact qI (n11, (A10, loops1.length, D10)) hr (fun w s => s)
 rintro ⟨n24, ⟨A23, N23, D23⟩⟩ σ1 hr
 replace hr : Z03_J1 loops1 n24 = some r := hr
 unfold Z03_J1 at hr
 refine c_len 0 sees_rd (fun (hn : N23 = loops1.length) => ?_)
 subst hn
 refine c_seq (c_region (lI R (lS R (lO (v_len sl22 R) (lO (vLe R R) (lI R (lB R (l_nil (q_next (c_ret ?_))))))))))
 obtain rfl := so hr
 exact q_fin (vs := [(iv n24), (.bool (decide ((loops1.length : Int) ≤ (12 : Int))))]) (.inl R) () R ⟨R, R, trivial⟩ R (fun w s => (s.e 2 []))
end Go.Proofs.YtkfgngcfcoplpaaGreat
