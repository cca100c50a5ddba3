import Derived.Test.YtbdchgofcejiiaaFaW5
set_option linter.unusedVariables false
set_option maxRecDepth 20000
namespace Go.Proofs.Ytbdchgofcejiiaa
open Go Go.Pg
variable {A2 A3 A4 A5 A6 A7 A8 A9 A10 A11 A12 A13 A14 : Option Addr} {D2 D3 D4 D5 D6 D7 D8 D9 D10 D11 D12 D13 D14 N2 N3 N4 N5 N6 N7 N8 N9 N10 N11 N12 N13 N14 : Nat}
theorem impl_compiled_ok {p1 : Plan} {r : (List Instr) × Bool} (hr : impl_compiled p1 = some r) :
 FnOk Try.prog 89 [(.agg [(.slice A2 N2 D2), (.slice A3 N3 D3), (.slice A4 N4 D4), (.slice A5 N5 D5), (.slice A6 N6 D6), (.slice A7 N7 D7), (iv p1.Arena)].toArray)] [rds kT3 (.slice A2 N2 D2) p1.Nest.Sizes, rds kT3 (.slice A3 N3 D3) p1.Nest.Ins, rds kT159 (.slice A4 N4 D4) p1.Nest.Fixed, rds kT127 (.slice A5 N5 D5) p1.Nest.Kernels, rds kT3 (.slice A6 N6 D6) p1.Nest.Outs, rds kT3 (.slice A7 N7 D7) p1.Offsets] (fun (h : HH) => ((.tuple [(.slice h.1 h.2.1 h.2.2), (.bool r.2)].toArray), [ow kT119 119 (.slice h.1 h.2.1 h.2.2) r.1])) := by
 unfold impl_compiled at hr
 refine fn_ok Try.func89 R 77 R R fun C V => ?_
 refine cN (_ :: _ :: _ :: _ :: _ :: _ :: V) ?_
 refine cL 0 sees_rd ?_
 rintro rfl
 refine cL 1 sees_rd ?_
 rintro rfl
 refine cL 2 sees_rd ?_
 rintro rfl
 refine cL 3 sees_rd ?_
 rintro rfl
 refine cL 4 sees_rd ?_
 rintro rfl
 refine cL 5 sees_rd ?_
 rintro rfl
 let W0 : List HP := RR kT3 A2 D2 p1.Nest.Sizes :: RR kT3 A3 D3 p1.Nest.Ins :: RR kT159 A4 D4 p1.Nest.Fixed :: RR kT127 A5 D5 p1.Nest.Kernels :: RR kT3 A6 D6 p1.Nest.Outs :: RR kT3 A7 D7 p1.Offsets :: V
 refine cN W0 ?_
 refine c_seq (c_region (lBx R (fun b8 => (lS R (lB R (l_nil ?_))))))
 let W1 : List HP := bxl b8 [(sc A2 p1.Nest.Sizes D2), (sc A3 p1.Nest.Ins D3), (sc A4 p1.Nest.Fixed D4), (sc A5 p1.Nest.Kernels D5), (sc A6 p1.Nest.Outs D6), (sc A7 p1.Offsets D7), (iv p1.Arena)] 71 :: W0
 refine qN W1 ?_
 refine q_next (c_seq (c_region (lO (vz (.agg [(.slice none 0 0)].toArray) (v_build pl193 zc193 R R)) (lBx R (fun b9 => (lP R (l_nil (q_next (c_seq ?_)))))))))
 obtain ⟨r10, hx11, hr⟩ := bd hr
 refine c_region (lO (vz (.agg [(sc A2 p1.Nest.Sizes D2), (sc A3 p1.Nest.Ins D3), (sc A4 p1.Nest.Fixed D4), (sc A5 p1.Nest.Kernels D5), (sc A6 p1.Nest.Outs D6), (sc A7 p1.Offsets D7), (iv p1.Arena)].toArray) (v_loadw 1 ag71 sz71 R R R R)) (lM (RR kT3 A2 D2 p1.Nest.Sizes :: RR kT3 A3 D3 p1.Nest.Ins :: RR kT159 A4 D4 p1.Nest.Fixed :: RR kT127 A5 D5 p1.Nest.Kernels :: RR kT3 A6 D6 p1.Nest.Outs :: RR kT3 A7 D7 p1.Offsets :: bxl _ _ _ :: W1) (fun w s => (((((((s.d 2 R).d 4 R).d 6 R).d 8 R).d 10 R).d 12 R).e 7 [5, 4, 3, 2, 1, 0, 6])) ?_))
 refine lC 6 cb153 R (impl_Plan_born_ok hx11) R ?_
 rintro ⟨A12, N12, D12⟩
 refine lN (ow kT29 29 (.slice A12 N12 D12) r10 :: _ :: W1) ?_
 refine l_len 0 sees_ow ?_
 rintro rfl
 refine lS R (l_nil (q_next (c_seq (c_cut (A := ((List Instr)) × (HH)) (fun a => impl_compiled_J5 a.1 = some r) (fun a => [(4, (pt b9 0))]) (fun a => bxl b9 [(.slice a.2.1 a.2.2.1 a.2.2.2)] 193 :: ow kT119 119 (.slice a.2.1 a.2.2.1 a.2.2.2) a.1 :: W1) ?_ ?_))))
 refine c_seq (c_region (lO (vFa 0 fo71_0 R) (lO (vFa 3 fo58_3 R) (lO (vLd 2 ag56 R R R) (lO (v_len sl56 R) (lO (vz (iv (if (p1.Nest.Kernels.length : Int) > (1 : Int) then (p1.Nest.Kernels.length : Int) else (1 : Int))) (v_max R R)) (lI R (l_nil (q_next (c_block ?_))))))))))
 obtain ⟨e1, hl1, hk1⟩ := bd hr
 refine c_loop (A := HH × HH) hl1 (fun s a => [(1, (pt b8 0)), (4, (pt b9 0)), (5, (.slice a.2.1 a.2.2.1 a.2.2.2)), (17, (iv (if (p1.Nest.Kernels.length : Int) > (1 : Int) then (p1.Nest.Kernels.length : Int) else (1 : Int)))), (18, (iv s.2))]) (fun s a => bxl b9 [(.slice a.1.1 a.1.2.1 a.1.2.2)] 193 :: ow kT119 119 (.slice a.1.1 a.1.2.1 a.1.2.2) s.1 :: ow (kT29).share 29 (.slice a.2.1 a.2.2.1 a.2.2.2) r10 :: W1) ((none, 0, 0), (A12, r10.length, D12)) (aS R) (fun w s => (((s.nilo kT119 119).wk 1 R).e 3 [2, 1, 0])) ?_
 rintro ⟨x83, x86⟩ ⟨⟨A84, N84, D84⟩, ⟨A85, N85, D85⟩⟩ σ1 out1 hr he1
 replace hr : impl_compiled_L1 p1 r10 x83 x86 = some out1 := hr
 unfold impl_compiled_L1 at hr
 refine c_len 1 sees_ow (fun (hn : N84 = x83.length) => ?_)
 subst hn
 refine c_len 2 sees_sh (fun (hn : N85 = r10.length) => ?_)
 subst hn
 refine c_seq (c_region (lO (vLt R R) (l_nil (q_next (c_seq ?_)))))
 rcases bif_ hr with ⟨hb87, hr⟩ | ⟨hb87, hr⟩
 refine c_true R hb87 (c_skip (q_next (c_seq (c_block (c_seq (c_region (lI R (lI R (l_nil (q_next (c_seq (c_cut (A := ((List Instr)) × (HH × HH)) (fun a => impl_compiled_J3 p1 x86 a.1 = some out1) (fun a => [(1, (pt b8 0)), (4, (pt b9 0)), (5, (.slice a.2.2.1 a.2.2.2.1 a.2.2.2.2)), (6, (iv x86)), (17, (iv (if (p1.Nest.Kernels.length : Int) > (1 : Int) then (p1.Nest.Kernels.length : Int) else (1 : Int)))), (18, (iv x86))]) (fun a => bxl b9 [(.slice a.2.1.1 a.2.1.2.1 a.2.1.2.2)] 193 :: ow kT119 119 (.slice a.2.1.1 a.2.1.2.1 a.2.1.2.2) a.1 :: ow (kT29).share 29 (.slice a.2.2.1 a.2.2.2.1 a.2.2.2.2) r10 :: W1) ?_ ?_))))))))))))
 refine c_seq ?_
 obtain ⟨hg88, hr⟩ := gd hr
 refine c_region (lS R (lI R (t_some 2 sees_sh (show 0 < r10.length by have := hg88; omega) (fun g89 o90 ha => ?_))))
 subst ha
 refine lO (vIa sl194 sz29 R R hg88) (l_ldof (K := (kT29).share) (fo := 0) 2 x86 R R ag29 dT29.own (fun _ _ => R) R R hg88.1 hg88.2 ?_)
 rintro ⟨A91, D91⟩
 refine lN (RR kT3 A91 D91 (ix r10 x86) :: bxl b9 [(sc A84 x83 D84)] 193 :: OO kT119 119 A84 D84 x83 :: OO (kT29).share 29 (ad g89 o90) D85 r10 :: W1) ?_
 refine lO (v_len sl29 R) (lI R (l_nil (q_next (c_block ?_))))
 obtain ⟨e2, hl2, hk2⟩ := bd hr
 refine c_loop (A := HH) hl2 (fun s a => [(1, (pt b8 0)), (4, (pt b9 0)), (5, (sc (ad g89 o90) r10 D85)), (6, (iv x86)), (17, (iv (if (p1.Nest.Kernels.length : Int) > (1 : Int) then (p1.Nest.Kernels.length : Int) else (1 : Int)))), (18, (iv x86)), (24, (sc A91 (ix r10 x86) D91)), (25, (il (ix r10 x86))), (26, (iv s.2))]) (fun s a => bxl b9 [(.slice a.1 a.2.1 a.2.2)] 193 :: ow kT119 119 (.slice a.1 a.2.1 a.2.2) s.1 :: OO (kT29).share 29 (ad g89 o90) D85 r10 :: RR kT3 A91 D91 (ix r10 x86) :: W1) (A84, x83.length, D84) (aS R) (fun w s => (s.e 4 [1, 2, 3, 0])) ?_
 rintro ⟨x113, x115⟩ ⟨A114, N114, D114⟩ σ1 out2 hr he2
 replace hr : impl_compiled_L2 p1 r10 x86 x113 x115 = some out2 := hr
 unfold impl_compiled_L2 at hr
 refine c_len 1 sees_ow (fun (hn : N114 = x113.length) => ?_)
 subst hn
 refine c_seq (c_region (lO (vLt R R) (l_nil (q_next (c_seq ?_)))))
 rcases bif_ hr with ⟨hb116, hr⟩ | ⟨hb116, hr⟩
 refine c_true R hb116 (c_skip (q_next (c_seq (c_block (c_seq ?_)))))
 obtain ⟨hg117, hr⟩ := gd hr
 refine c_region (t_some 3 sees_rd (show 0 < (ix r10 x86).length by have := hg117; omega) (fun g118 o119 ha => ?_))
 subst ha
 refine lO (vIa sl29 sz3 R R hg117) (lO (vLi 3 ag3 sees_rd R hg117) (lI R (l_nil (q_next (c_seq ?_)))))
 obtain ⟨hg120, hr⟩ := gd hr
 obtain ⟨r123, hx124, hr⟩ := bd hr
 refine c_region (lP R (lO (vFa 5 fo71_1 R) (lO (vLd 4 ag29 R R R) (lI R (t_some 10 sees_rd (show 0 < p1.Offsets.length by have := hg120; omega) (fun g121 o122 ha => ?_))))))
 subst ha
 refine lO (vIa sl29 sz3 R R hg120) (lO (vLi 10 ag3 sees_rd R hg120) (lM (OO kT119 119 A114 D114 x113 :: bxl b9 [(sc A114 x113 D114)] 193 :: ow _ _ _ _ :: RR kT3 (ad g118 o119) D91 (ix r10 x86) :: W1) (fun w s => (s.e 4 [1, 0, 2, 3])) ?_))
 refine lC 2 cb154 R (impl_writer_put_ok hx124) R ?_
 rintro ⟨A125, N125, D125⟩
 refine lN (ow kT119 119 (.slice A125 N125 D125) r123.code :: bxl b9 [(.slice A125 N125 D125)] 193 :: _ :: _ :: W1) ?_
 refine l_len 0 sees_ow ?_
 rintro rfl
 refine l_nil (q_next (c_seq ?_))
 obtain ⟨r126, hx127, hr⟩ := bd hr
 refine c_region (lP R (lC 2 cb154 R (impl_writer_put_ok hx127) R ?_))
 rintro ⟨A128, N128, D128⟩
 refine lN (ow kT119 119 (.slice A128 N128 D128) r126.code :: bxl b9 [(.slice A128 N128 D128)] 193 :: _ :: _ :: W1) ?_
 refine l_len 0 sees_ow ?_
 rintro rfl
 refine l_nil (q_next ?_)
 obtain ⟨hg129, hr⟩ := gd hr
 obtain ⟨r134, hx135, hr⟩ := bd hr
 refine c_region (lP R (lO (vFa 0 fo71_0 R) (lO (vFa 0 fo58_0 R) (lO (vLd 4 ag29 R R R) (lI R (t_some 5 sees_rd (show 0 < p1.Nest.Sizes.length by have := hg129; omega) (fun g130 o131 ha => ?_)))))))
 subst ha
 refine lO (vIa sl29 sz3 R R hg129) (lO (vLi 5 ag3 sees_rd R hg129) (l_build (K := kT3) (xs := ([(1 : Int)] : List Int)) (vs := [(iv 1)]) 0 R R sl29 sz3 zc3 R R R R R R ?_ R (fun A132 D132 => ?_)))
 exact fun I h s => (mO3).list [((), (1 : Int))] I h s
 refine lN (OO kT3 3 A132 D132 ([(1 : Int)] : List Int) :: _ :: bxl b9 [(sc A128 r126.code D128)] 193 :: _ :: _ :: W1) ?_
 refine lO (vz (.agg [(iv 7), (iv 0), (iv 0), (iv 1)].toArray) (v_build pl119 zc119 R R)) (l_build (K := kT119) (xs := ([(⟨(7 : Int), (0 : Int), (0 : Int), (1 : Int)⟩ : Instr)] : List Instr)) (vs := [(.agg [(iv 7), (iv 0), (iv 0), (iv 1)].toArray)]) 0 R R sl67 sz119 zc119 R R R R R R ?_ R (fun A133 D133 => ?_))
 exact fun I h s => (mO119).list [(((), (), (), ()), (⟨(7 : Int), (0 : Int), (0 : Int), (1 : Int)⟩ : Instr))] I h s
 refine lN (OO kT119 119 A133 D133 ([(⟨(7 : Int), (0 : Int), (0 : Int), (1 : Int)⟩ : Instr)] : List Instr) :: _ :: _ :: _ :: _ :: _ :: W1) ?_
 refine lM (ow _ _ _ _ :: ow _ _ _ _ :: ow _ _ _ _ :: bxl _ _ _ :: ow _ _ _ _ :: rds _ _ _ :: W1) (fun w s => (s.e 6 [1, 0, 2, 3, 4, 5])) ?_
 refine lC 4 cb155 R (FnOk.lends (A' := [OO kT3 3 A132 D132 ([(1 : Int)] : List Int), OO kT119 119 A133 D133 ([(⟨(7 : Int), (0 : Int), (0 : Int), (1 : Int)⟩ : Instr)] : List Instr)]) (A := [RR kT3 A132 D132 ([(1 : Int)] : List Int), RR kT119 A133 D133 ([(⟨(7 : Int), (0 : Int), (0 : Int), (1 : Int)⟩ : Instr)] : List Instr)]) (B := [OO kT119 119 A128 D128 r126.code, bxl b9 [(sc A128 r126.code D128)] 193]) (FnOk.perm (impl_writer_chunks_ok hx135) (Pre' := [RR kT3 A132 D132 ([(1 : Int)] : List Int), RR kT119 A133 D133 ([(⟨(7 : Int), (0 : Int), (0 : Int), (1 : Int)⟩ : Instr)] : List Instr), OO kT119 119 A128 D128 r126.code, bxl b9 [(sc A128 r126.code D128)] 193]) (fun _ _ _ s => (s.e 4 [2, 3, 0, 1]))) ⟨lend_ow, lend_ow, trivial⟩ (fun _ => ⟨(closed_ow cT119), closed_bx, trivial⟩)) R ?_
 rintro ⟨A136, N136, D136⟩
 refine lN (_ :: _ :: ow kT119 119 (.slice A136 N136 D136) r134.code :: bxl b9 [(.slice A136 N136 D136)] 193 :: _ :: _ :: W1) ?_
 refine l_len 2 sees_ow ?_
 rintro rfl
 refine l_nil (q_blockn (q_next (c_region (lO (vAd R R) (lI R (l_nil ?_))))))
 obtain rfl := so hr
 exact qA (A136, r134.code.length, D136) (fun w s => (s.e 6 [3, 2, 4, 5]))
 refine c_false R hb116 (c_exit (q_exit ?_))
 obtain rfl := so hr
 obtain rfl := he2 _ R
 have hr := hk2
 refine q_exit (q_block ?_)
 exact qI (x113, ((A114, x113.length, D114), ((ad g89 o90), r10.length, D85))) hr (fun w s => (s.f 4 [0, 3]))
 rintro ⟨x140, ⟨⟨A141, N141, D141⟩, ⟨A142, N142, D142⟩⟩⟩ σ1 hr
 replace hr : impl_compiled_J3 p1 x86 x140 = some out1 := hr
 unfold impl_compiled_J3 at hr
 refine c_len 1 sees_ow (fun (hn : N141 = x140.length) => ?_)
 subst hn
 refine c_len 2 sees_sh (fun (hn : N142 = r10.length) => ?_)
 subst hn
 refine c_seq (c_cut (A := ((List Instr)) × (HH)) (fun a => impl_compiled_J4 x86 a.1 = some out1) (fun a => [(1, (pt b8 0)), (4, (pt b9 0)), (5, (sc A142 r10 D142)), (17, (iv (if (p1.Nest.Kernels.length : Int) > (1 : Int) then (p1.Nest.Kernels.length : Int) else (1 : Int)))), (18, (iv x86))]) (fun a => bxl b9 [(.slice a.2.1 a.2.2.1 a.2.2.2)] 193 :: ow kT119 119 (.slice a.2.1 a.2.2.1 a.2.2.2) a.1 :: OO (kT29).share 29 A142 D142 r10 :: W1) ?_ ?_)
 refine c_seq (c_region (lI R (lO (vFa 0 fo71_0 R) (lO (vFa 3 fo58_3 R) (lO (vLd 3 ag56 R R R) (lO (v_len sl56 R) (lO (vLt R R) (l_nil (q_next ?_)))))))))
 rcases bif_ hr with ⟨hb143, hr⟩ | ⟨hb143, hr⟩
 refine c_true R hb143 ?_
 obtain ⟨hg144, hr⟩ := gd hr
 obtain ⟨r151, hx152, hr⟩ := bd hr
 refine c_some 7 sees_rd (show 0 < p1.Nest.Kernels.length by have := hg144; omega) (fun g145 o146 ha => ?_)
 subst ha
 refine c_elem (K := kT127) 7 x86 dT127.dec R hg144.1 hg144.2 ?_
 rintro ⟨⟨A147, D147⟩, ⟨A148, D148⟩, ⟨-, -, ⟨A149, D149⟩⟩, -, ⟨A150, D150⟩⟩
 refine cN (cl g145 (o146 + x86.toNat * 7) [(sc A147 ((ix p1.Nest.Kernels x86).Loops) D147), (sc A148 ((ix p1.Nest.Kernels x86).Loads) D148), (iv (ix p1.Nest.Kernels x86).Store.Buffer), (iv (ix p1.Nest.Kernels x86).Store.Offset), (sc A149 ((ix p1.Nest.Kernels x86).Store.Steps) D149), (.bool (ix p1.Nest.Kernels x86).Sum), (sc A150 ((ix p1.Nest.Kernels x86).Code) D150)] :: RR kT3 A147 D147 ((ix p1.Nest.Kernels x86).Loops) :: RR kT124 A148 D148 ((ix p1.Nest.Kernels x86).Loads) :: RR kT3 A149 D149 ((ix p1.Nest.Kernels x86).Store.Steps) :: RR kT216 A150 D150 ((ix p1.Nest.Kernels x86).Code) :: bxl b9 [(sc A141 x140 D141)] 193 :: OO kT119 119 A141 D141 x140 :: OO (kT29).share 29 A142 D142 r10 :: W1) ?_
 refine cdr 9 [6, 5] mixo (fun ht hn => (dR 0 R (vP R) (hS := (sL [6, 5])) (dR 1 R (vz (.agg [(sc A2 p1.Nest.Sizes D2), (sc A3 p1.Nest.Ins D3), (sc A4 p1.Nest.Fixed D4), (sc (ad g145 o146) p1.Nest.Kernels D5), (sc A6 p1.Nest.Outs D6), (sc A7 p1.Offsets D7), (iv p1.Arena)].toArray) (v_loadw 6 ag71 sz71 R R R R)) (hS := (sL [6, 5])) (dR 2 R (vFa 0 fo71_0 R) (hS := (sL [6, 5])) (dR 3 R (vFa 3 fo58_3 R) (hS := (sL [6, 5])) (dR 4 R (vLd 6 ag56 R R R) (hS := (sL [6, 5])) (dR 5 R (vI R) (hS := (sL [6, 5])) (dR 6 R (vIa sl56 sz127 R R hg144) (hS := (sL [6, 5])) (dR 7 R (vz (.agg [(sc A147 ((ix p1.Nest.Kernels x86).Loops) D147), (sc A148 ((ix p1.Nest.Kernels x86).Loads) D148), (iv (ix p1.Nest.Kernels x86).Store.Buffer), (iv (ix p1.Nest.Kernels x86).Store.Offset), (sc A149 ((ix p1.Nest.Kernels x86).Store.Steps) D149), (.bool (ix p1.Nest.Kernels x86).Sum), (sc A150 ((ix p1.Nest.Kernels x86).Code) D150)].toArray) (v_clfs (fo := 0) 0 ag127 sz127 R R R R)) (hS := (sL [6, 5])) (d_one 8 (by kernel_rfl) R ?_))))))))))
 refine lM (ow _ _ _ _ :: bxl _ _ _ :: RR kT3 A2 D2 p1.Nest.Sizes :: RR kT3 A3 D3 p1.Nest.Ins :: RR kT159 A4 D4 p1.Nest.Fixed :: RR kT127 (ad g145 o146) D5 p1.Nest.Kernels :: RR kT3 A6 D6 p1.Nest.Outs :: RR kT3 A7 D7 p1.Offsets :: rds _ _ _ :: rds _ _ _ :: rds _ _ _ :: rds _ _ _ :: cl _ _ _ :: rds _ _ _ :: rds _ _ _ :: rds _ _ _ :: rds _ _ _ :: ow _ _ _ _ :: W1) (fun w s => (((((((((((s.d 9 R).d 11 R).d 13 R).d 15 R).d 17 R).d 19 R).d 7 R).d 9 R).d 11 R).d 13 R).e 18 [16, 15, 9, 8, 7, 6, 5, 4, 3, 2, 1, 0, 10, 11, 12, 13, 14, 17])) ?_
 refine lC 12 cb156 R (impl_writer_kernel_ok hx152) R ?_
 rintro ⟨A153, N153, D153⟩
 refine lN (ow kT119 119 (.slice A153 N153 D153) r151.code :: bxl b9 [(.slice A153 N153 D153)] 193 :: _ :: _ :: _ :: _ :: _ :: _ :: W1) ?_
 refine l_len 0 sees_ow ?_
 rintro rfl
 refine l_nil (q_draw (sL [1, 0]) (d_done (by kernel_rfl) ?_))
 exact qI (r151.code, (A153, r151.code.length, D153)) hr (fun w s => (s.e 8 [1, 0, 7]))
 refine c_false R hb143 (c_skip ?_)
 exact qI (x140, (A141, x140.length, D141)) hr (fun w s => s)
 rintro ⟨x154, ⟨A155, N155, D155⟩⟩ σ1 hr
 replace hr : impl_compiled_J4 x86 x154 = some out1 := hr
 unfold impl_compiled_J4 at hr
 refine c_len 1 sees_ow (fun (hn : N155 = x154.length) => ?_)
 subst hn
 refine c_seq (c_region (lP R (lP R (lO (vFa 0 fo193_0 R) (lO (vLd 0 ag67 R R R) (lO (v_len sl67 R) (lO (vGt R R) (l_nil (q_next ?_)))))))))
 rcases bif_ hr with ⟨hb156, hr⟩ | ⟨hb156, hr⟩
 refine c_true R hb156 (c_seq (c_region (lS R (lB R (l_nil (q_next (c_ret (q_blockr (q_ret ?_)))))))))
 obtain rfl := so hr
 obtain rfl := he1 _ R
 have hr := hk1
 refine q_ret (q_blockr (q_ret ?_))
 obtain rfl := so hr
 exact q_fin (vs := [(.slice none 0 0), (.bool false)]) (.inl R) (none, 0, 0) R ⟨R, R, trivial⟩ R (fun w s => ((s.nilo kT119 119).e 11 [0]))
 refine c_false R hb156 (c_skip (q_blockn (q_next (c_region (lO (vAd R R) (lI R (l_nil ?_)))))))
 obtain rfl := so hr
 exact qA ((A155, x154.length, D155), (A142, r10.length, D142)) (fun w s => s)
 refine c_false R hb87 (c_exit (q_exit ?_))
 obtain rfl := so hr
 obtain rfl := he1 _ R
 have hr := hk1
 refine q_exit (q_block ?_)
 exact qI (x83, (A84, x83.length, D84)) hr (fun w s => (s.e 3 [0, 1]))
 rintro ⟨x161, ⟨A162, N162, D162⟩⟩ σ1 hr
 replace hr : impl_compiled_J5 x161 = some r := hr
 unfold impl_compiled_J5 at hr
 refine c_len 1 sees_ow (fun (hn : N162 = x161.length) => ?_)
 subst hn
 refine c_seq (c_region (lP R (lP R (lO (vFa 0 fo193_0 R) (lO (vLd 0 ag67 R R R) (lS R (lB R (l_nil (q_next (c_ret ?_))))))))))
 obtain rfl := so hr
 exact q_fin (vs := [(sc A162 x161 D162), (.bool true)]) (.inl R) (A162, x161.length, D162) R ⟨R, R, trivial⟩ R (fun w s => (s.e 9 [1]))
theorem impl_Compile_ok {p1 : Plan} {r : (List Instr) × Bool} (hr : impl_Compile p1 = some r) :
 FnOk Try.prog 32 [(.agg [(.slice A2 N2 D2), (.slice A3 N3 D3), (.slice A4 N4 D4), (.slice A5 N5 D5), (.slice A6 N6 D6), (.slice A7 N7 D7), (iv p1.Arena)].toArray)] [rds kT3 (.slice A2 N2 D2) p1.Nest.Sizes, rds kT3 (.slice A3 N3 D3) p1.Nest.Ins, rds kT159 (.slice A4 N4 D4) p1.Nest.Fixed, rds kT127 (.slice A5 N5 D5) p1.Nest.Kernels, rds kT3 (.slice A6 N6 D6) p1.Nest.Outs, rds kT3 (.slice A7 N7 D7) p1.Offsets] (fun (h : HH) => ((.tuple [(.slice h.1 h.2.1 h.2.2), (.bool r.2)].toArray), [ow kT119 119 (.slice h.1 h.2.1 h.2.2) r.1])) := by
 unfold impl_Compile at hr
 refine fn_ok Try.func32 R 11 R R fun C V => ?_
 refine cN (_ :: _ :: _ :: _ :: _ :: _ :: V) ?_
 refine cL 0 sees_rd ?_
 rintro rfl
 refine cL 1 sees_rd ?_
 rintro rfl
 refine cL 2 sees_rd ?_
 rintro rfl
 refine cL 3 sees_rd ?_
 rintro rfl
 refine cL 4 sees_rd ?_
 rintro rfl
 refine cL 5 sees_rd ?_
 rintro rfl
 let W0 : List HP := RR kT3 A2 D2 p1.Nest.Sizes :: RR kT3 A3 D3 p1.Nest.Ins :: RR kT159 A4 D4 p1.Nest.Fixed :: RR kT127 A5 D5 p1.Nest.Kernels :: RR kT3 A6 D6 p1.Nest.Outs :: RR kT3 A7 D7 p1.Offsets :: V
 refine cN W0 ?_
 refine c_seq (c_region (lBx R (fun b8 => (lS R (lB R (l_nil ?_))))))
 let W1 : List HP := bxl b8 [(sc A2 p1.Nest.Sizes D2), (sc A3 p1.Nest.Ins D3), (sc A4 p1.Nest.Fixed D4), (sc A5 p1.Nest.Kernels D5), (sc A6 p1.Nest.Outs D6), (sc A7 p1.Offsets D7), (iv p1.Arena)] 71 :: W0
 refine qN W1 ?_
 refine q_next (c_seq (c_seq ?_))
 obtain ⟨r9, hx10, hr⟩ := bd hr
 refine c_region (lO (vz (.agg [(sc A2 p1.Nest.Sizes D2), (sc A3 p1.Nest.Ins D3), (sc A4 p1.Nest.Fixed D4), (sc A5 p1.Nest.Kernels D5), (sc A6 p1.Nest.Outs D6), (sc A7 p1.Offsets D7), (iv p1.Arena)].toArray) (v_loadw 0 ag71 sz71 R R R R)) (lM (RR kT3 A2 D2 p1.Nest.Sizes :: RR kT3 A3 D3 p1.Nest.Ins :: RR kT159 A4 D4 p1.Nest.Fixed :: RR kT127 A5 D5 p1.Nest.Kernels :: RR kT3 A6 D6 p1.Nest.Outs :: RR kT3 A7 D7 p1.Offsets :: W1) (fun w s => (((((((s.d 1 R).d 3 R).d 5 R).d 7 R).d 9 R).d 11 R).e 6 [5, 4, 3, 2, 1, 0])) ?_))
 refine lC 6 cb88 R (impl_PlanOk_ok hx10) R ?_
 rintro _
 refine lN W1 ?_
 refine lO (vNo R) (l_nil (q_next ?_))
 rcases bif_ hr with ⟨hb11, hr⟩ | ⟨hb11, hr⟩
 refine c_true R hb11 (c_seq (c_region (lS R (lB R (l_nil (q_next (c_ret (q_ret ?_))))))))
 obtain rfl := so hr
 exact q_fin (vs := [(.slice none 0 0), (.bool false)]) (.inl R) (none, 0, 0) R ⟨R, R, trivial⟩ R (fun w s => ((s.nilo kT119 119).e 8 [0]))
 refine c_false R hb11 (c_skip (q_next (c_seq ?_)))
 obtain ⟨r12, hx13, hr⟩ := bd hr
 refine c_region (lO (vz (.agg [(sc A2 p1.Nest.Sizes D2), (sc A3 p1.Nest.Ins D3), (sc A4 p1.Nest.Fixed D4), (sc A5 p1.Nest.Kernels D5), (sc A6 p1.Nest.Outs D6), (sc A7 p1.Offsets D7), (iv p1.Arena)].toArray) (v_loadw 0 ag71 sz71 R R R R)) (lM (RR kT3 A2 D2 p1.Nest.Sizes :: RR kT3 A3 D3 p1.Nest.Ins :: RR kT159 A4 D4 p1.Nest.Fixed :: RR kT127 A5 D5 p1.Nest.Kernels :: RR kT3 A6 D6 p1.Nest.Outs :: RR kT3 A7 D7 p1.Offsets :: W1) (fun w s => (((((((s.d 1 R).d 3 R).d 5 R).d 7 R).d 9 R).d 11 R).e 6 [5, 4, 3, 2, 1, 0])) ?_))
 refine lC 6 cb89 R (impl_compiled_ok hx13) R ?_
 rintro ⟨A14, N14, D14⟩
 refine lN (ow kT119 119 (.slice A14 N14 D14) r12.1 :: W1) ?_
 refine l_len 0 sees_ow ?_
 rintro rfl
 refine lS R (lB R (lS R (lB R (l_nil (q_next (c_ret ?_))))))
 obtain rfl := so hr
 exact q_fin (vs := [(sc A14 r12.1 D14), (.bool r12.2)]) (.inl R) (A14, r12.1.length, D14) R ⟨R, R, trivial⟩ R (fun w s => (s.e 8 [0]))
theorem laws_eqInstr_ok {a1 : Instr} {b2 : Instr} {r : Bool} (hr : laws_eqInstr a1 b2 = some r) :
 FnOk Try.prog 90 [(.agg [(iv a1.Op), (iv a1.A), (iv a1.B), (iv a1.C)].toArray), (.agg [(iv b2.Op), (iv b2.A), (iv b2.B), (iv b2.C)].toArray)] [] (fun (h : Unit) => ((.bool r), [])) := by
 unfold laws_eqInstr at hr
 refine fn_ok Try.func90 R 25 R R fun C V => ?_
 refine cN V ?_
 refine c_seq (c_region (lBx R (fun b3 => (lBx R (fun b4 => (lB R (l_nil ?_)))))))
 let W1 : List HP := bxl b4 [(iv b2.Op), (iv b2.A), (iv b2.B), (iv b2.C)] 119 :: bxl b3 [(iv a1.Op), (iv a1.A), (iv a1.B), (iv a1.C)] 119 :: V
 refine qN W1 ?_
 refine q_next (c_seq (c_seq (c_region (lO (vFa 0 fo119_0 R) (lO (vLd 1 ag3 R R R) (lO (vFa 0 fo119_0 R) (lO (vLd 0 ag3 R R R) (lO (vNe R R) (l_nil (q_next ?_))))))))))
 rcases bif_ hr with ⟨hb5, hr⟩ | ⟨hb5, hr⟩
 refine c_true R hb5 (c_seq (c_region (lB R (l_nil (q_next (c_ret (q_ret ?_)))))))
 obtain rfl := so hr
 exact qF () (fun w s => (s.e 2 []))
 refine c_false R hb5 (c_skip (q_next (c_seq (c_seq (c_region (lO (vFa 1 fo119_1 R) (lO (vLd 1 ag3 R R R) (lO (vFa 1 fo119_1 R) (lO (vLd 0 ag3 R R R) (lO (vNe R R) (l_nil (q_next ?_))))))))))))
 rcases bif_ hr with ⟨hb6, hr⟩ | ⟨hb6, hr⟩
 refine c_true R hb6 (c_seq (c_region (lB R (l_nil (q_next (c_ret (q_ret ?_)))))))
 obtain rfl := so hr
 exact qF () (fun w s => (s.e 2 []))
 refine c_false R hb6 (c_skip (q_next (c_seq (c_seq (c_region (lO (vFa 2 fo119_2 R) (lO (vLd 1 ag3 R R R) (lO (vFa 2 fo119_2 R) (lO (vLd 0 ag3 R R R) (lO (vNe R R) (l_nil (q_next ?_))))))))))))
 rcases bif_ hr with ⟨hb7, hr⟩ | ⟨hb7, hr⟩
 refine c_true R hb7 (c_seq (c_region (lB R (l_nil (q_next (c_ret (q_ret ?_)))))))
 obtain rfl := so hr
 exact qF () (fun w s => (s.e 2 []))
 refine c_false R hb7 (c_skip (q_next (c_seq (c_seq (c_region (lO (vFa 3 fo119_3 R) (lO (vLd 1 ag3 R R R) (lO (vFa 3 fo119_3 R) (lO (vLd 0 ag3 R R R) (lO (vNe R R) (l_nil (q_next ?_))))))))))))
 rcases bif_ hr with ⟨hb8, hr⟩ | ⟨hb8, hr⟩
 refine c_true R hb8 (c_seq (c_region (lB R (l_nil (q_next (c_ret (q_ret ?_)))))))
 obtain rfl := so hr
 exact qF () (fun w s => (s.e 2 []))
 refine c_false R hb8 (c_skip (q_next (c_seq (c_region (lB R (l_nil (q_next (c_ret ?_))))))))
 obtain rfl := so hr
 exact qF () (fun w s => (s.e 2 []))
theorem laws_eqInstrS_ok {a1 : (List Instr)} {b3 : (List Instr)} {r : Bool} (hr : laws_eqInstrS a1 b3 = some r) :
 FnOk Try.prog 33 [(.slice A2 N2 D2), (.slice A4 N4 D4)] [rds kT119 (.slice A2 N2 D2) a1, rds kT119 (.slice A4 N4 D4) b3] (fun (h : Unit) => ((.bool r), [])) := by
 unfold laws_eqInstrS at hr
 refine fn_ok Try.func33 R 27 R R fun C V => ?_
 refine cN (_ :: _ :: V) ?_
 refine cL 0 sees_rd ?_
 rintro rfl
 refine cL 1 sees_rd ?_
 rintro rfl
 let W0 : List HP := RR kT119 A2 D2 a1 :: RR kT119 A4 D4 b3 :: V
 refine cN W0 ?_
 refine c_seq (c_region (lB R (l_nil (q_next (c_seq (c_seq (c_region (lS R (lO (v_len sl67 R) (lS R (lO (v_len sl67 R) (lO (vNe R R) (l_nil (q_next ?_))))))))))))))
 rcases bif_ hr with ⟨hb5, hr⟩ | ⟨hb5, hr⟩
 refine c_true R hb5 (c_seq (c_region (lB R (l_nil (q_next (c_ret (q_ret ?_)))))))
 obtain rfl := so hr
 exact qF () (fun w s => (s.e 2 []))
 refine c_false R hb5 (c_skip (q_next (c_seq (c_cut (A := (Unit) × (Unit)) (fun a => laws_eqInstrS_J1 = some r) (fun a => []) (fun a => W0) ?_ ?_))))
 refine c_seq (c_region (lI R (l_nil (q_next (c_block ?_)))))
 obtain ⟨e1, hl1, hk1⟩ := bd hr
 refine c_loop (A := Unit) hl1 (fun s a => [(0, (sc A2 a1 D2)), (1, (sc A4 b3 D4)), (5, (iv s))]) (fun s a => W0) () (aS R) (fun w s => s) ?_
 rintro i16 _ σ1 out1 hr he1
 replace hr : laws_eqInstrS_L1 a1 b3 i16 = some out1 := hr
 unfold laws_eqInstrS_L1 at hr
 refine c_seq (c_seq (c_region (lI R (lS R (lO (v_len sl67 R) (lO (vLt R R) (l_nil (q_next ?_))))))))
 rcases bif_ hr with ⟨hb17, hr⟩ | ⟨hb17, hr⟩
 refine c_true R hb17 (c_skip (q_next (c_seq (c_block (c_seq ?_)))))
 obtain ⟨hg18, hr⟩ := gd hr
 obtain ⟨hg21, hr⟩ := gd hr
 obtain ⟨r24, hx25, hr⟩ := bd hr
 refine c_some 0 sees_rd (show 0 < a1.length by have := hg18; omega) (fun g19 o20 ha => ?_)
 subst ha
 refine c_some 1 sees_rd (show 0 < b3.length by have := hg21; omega) (fun g22 o23 ha => ?_)
 subst ha
 refine cdr 10 [] mixo (fun ht hn => (dR 0 R (vS R) (dR 1 R (vI R) (dR 2 R (vIa sl67 sz119 R R hg18) (d_v 3 (.agg [(iv (ix a1 i16).Op), (iv (ix a1 i16).A), (iv (ix a1 i16).B), (iv (ix a1 i16).C)].toArray) R ?_ R R R ht hn (by kernel_rfl) (sL []) ?_)))))
 exact (v_ldef (K := kT119) (cells := fun x => [(iv x.Op), (iv x.A), (iv x.B), (iv x.C)]) 0 i16 ag119 sz119 (DecK.flat dT119 fun _ _ => R) sees_rd R hg18.1 hg18.2)
 refine dR 4 R (vS R) (dR 5 R (vI R) (dR 6 R (vIa sl67 sz119 R R hg21) (d_v 7 (.agg [(iv (ix b3 i16).Op), (iv (ix b3 i16).A), (iv (ix b3 i16).B), (iv (ix b3 i16).C)].toArray) R ?_ R R R ht hn (by kernel_rfl) (sL []) ?_)))
 exact (v_ldef (K := kT119) (cells := fun x => [(iv x.Op), (iv x.A), (iv x.B), (iv x.C)]) 1 i16 ag119 sz119 (DecK.flat dT119 fun _ _ => R) sees_rd R hg21.1 hg21.2)
 refine d_one 8 (by kernel_rfl) R (lC 0 cb90 R (laws_eqInstr_ok hx25) R ?_)
 rintro _
 refine l_nil (q_draw (sL []) (dR 9 R (vNo R) (d_done (by kernel_rfl) (q_next ?_))))
 rcases bif_ hr with ⟨hb26, hr⟩ | ⟨hb26, hr⟩
 refine c_true R hb26 (c_seq (c_region (lB R (l_nil (q_next (c_ret (q_blockr (q_ret ?_))))))))
 obtain rfl := so hr
 obtain rfl := he1 _ R
 have hr := hk1
 refine q_ret (q_blockr (q_ret ?_))
 obtain rfl := so hr
 exact qF () (fun w s => (s.e 2 []))
 refine c_false R hb26 (c_skip (q_blockn (q_next (c_region (lI R (lO (vAd R R) (lI R (l_nil ?_))))))))
 obtain rfl := so hr
 exact qA () (fun w s => s)
 refine c_false R hb17 (c_exit (q_exit ?_))
 obtain rfl := so hr
 obtain rfl := he1 _ R
 have hr := hk1
 refine q_exit (q_block ?_)
 exact q_join ((), ()) hr trivial (fun w s => s)
 rintro ⟨_, _⟩ σ1 hr
 replace hr : laws_eqInstrS_J1 = some r := hr
 unfold laws_eqInstrS_J1 at hr
 refine c_seq (c_region (lB R (l_nil (q_next (c_ret ?_)))))
 obtain rfl := so hr
 exact qF () (fun w s => (s.e 2 []))
theorem laws_eqIntS_ok {a1 : (List Int)} {b3 : (List Int)} {r : Bool} (hr : laws_eqIntS a1 b3 = some r) :
 FnOk Try.prog 17 [(.slice A2 N2 D2), (.slice A4 N4 D4)] [rds kT3 (.slice A2 N2 D2) a1, rds kT3 (.slice A4 N4 D4) b3] (fun (h : Unit) => ((.bool r), [])) := by
 unfold laws_eqIntS at hr
 refine fn_ok Try.func17 R 26 R R fun C V => ?_
 refine cN (_ :: _ :: V) ?_
 refine cL 0 sees_rd ?_
 rintro rfl
 refine cL 1 sees_rd ?_
 rintro rfl
 let W0 : List HP := RR kT3 A2 D2 a1 :: RR kT3 A4 D4 b3 :: V
 refine cN W0 ?_
 refine c_seq (c_region (lB R (l_nil (q_next (c_seq (c_seq (c_region (lS R (lO (v_len sl29 R) (lS R (lO (v_len sl29 R) (lO (vNe R R) (l_nil (q_next ?_))))))))))))))
 rcases bif_ hr with ⟨hb5, hr⟩ | ⟨hb5, hr⟩
 refine c_true R hb5 (c_seq (c_region (lB R (l_nil (q_next (c_ret (q_ret ?_)))))))
 obtain rfl := so hr
 exact qF () (fun w s => (s.e 2 []))
 refine c_false R hb5 (c_skip (q_next (c_seq (c_cut (A := (Unit) × (Unit)) (fun a => laws_eqIntS_J1 = some r) (fun a => []) (fun a => W0) ?_ ?_))))
 refine c_seq (c_region (lI R (l_nil (q_next (c_block ?_)))))
 obtain ⟨e1, hl1, hk1⟩ := bd hr
 refine c_loop (A := Unit) hl1 (fun s a => [(0, (sc A2 a1 D2)), (1, (sc A4 b3 D4)), (5, (iv s))]) (fun s a => W0) () (aS R) (fun w s => s) ?_
 rintro i14 _ σ1 out1 hr he1
 replace hr : laws_eqIntS_L1 a1 b3 i14 = some out1 := hr
 unfold laws_eqIntS_L1 at hr
 refine c_seq (c_seq (c_region (lI R (lS R (lO (v_len sl29 R) (lO (vLt R R) (l_nil (q_next ?_))))))))
 rcases bif_ hr with ⟨hb15, hr⟩ | ⟨hb15, hr⟩
 refine c_true R hb15 (c_skip (q_next (c_seq (c_block (c_seq ?_)))))
 obtain ⟨hg16, hr⟩ := gd hr
 obtain ⟨hg19, hr⟩ := gd hr
 refine c_some 0 sees_rd (show 0 < a1.length by have := hg16; omega) (fun g17 o18 ha => ?_)
 subst ha
 refine c_some 1 sees_rd (show 0 < b3.length by have := hg19; omega) (fun g20 o21 ha => ?_)
 subst ha
 refine cdr 9 [] mixo (fun ht hn => (dR 0 R (vS R) (dR 1 R (vI R) (dR 2 R (vIa sl29 sz3 R R hg16) (dR 3 R (vLi 0 ag3 sees_rd R hg16) (dR 4 R (vS R) (dR 5 R (vI R) (dR 6 R (vIa sl29 sz3 R R hg19) (dR 7 R (vLi 1 ag3 sees_rd R hg19) (dR 8 R (vNe R R) (d_done (by kernel_rfl) (q_next ?_))))))))))))
 rcases bif_ hr with ⟨hb22, hr⟩ | ⟨hb22, hr⟩
 refine c_true R hb22 (c_seq (c_region (lB R (l_nil (q_next (c_ret (q_blockr (q_ret ?_))))))))
 obtain rfl := so hr
 obtain rfl := he1 _ R
 have hr := hk1
 refine q_ret (q_blockr (q_ret ?_))
 obtain rfl := so hr
 exact qF () (fun w s => (s.e 2 []))
 refine c_false R hb22 (c_skip (q_blockn (q_next (c_region (lI R (lO (vAd R R) (lI R (l_nil ?_))))))))
 obtain rfl := so hr
 exact qA () (fun w s => s)
 refine c_false R hb15 (c_exit (q_exit ?_))
 obtain rfl := so hr
 obtain rfl := he1 _ R
 have hr := hk1
 refine q_exit (q_block ?_)
 exact q_join ((), ()) hr trivial (fun w s => s)
 rintro ⟨_, _⟩ σ1 hr
 replace hr : laws_eqIntS_J1 = some r := hr
 unfold laws_eqIntS_J1 at hr
 refine c_seq (c_region (lB R (l_nil (q_next (c_ret ?_)))))
 obtain rfl := so hr
 exact qF () (fun w s => (s.e 2 []))
theorem laws_eqFix_ok {a1 : Fix} {b3 : Fix} {r : Bool} (hr : laws_eqFix a1 b3 = some r) :
 FnOk Try.prog 138 [(.agg [(iv a1.Buffer), (.slice A2 N2 D2)].toArray), (.agg [(iv b3.Buffer), (.slice A4 N4 D4)].toArray)] [rds kT3 (.slice A2 N2 D2) a1.Data, rds kT3 (.slice A4 N4 D4) b3.Data] (fun (h : Unit) => ((.bool r), [])) := by
 unfold laws_eqFix at hr
 refine fn_ok Try.func138 R 16 R R fun C V => ?_
 refine cN (_ :: _ :: V) ?_
 refine cL 0 sees_rd ?_
 rintro rfl
 refine cL 1 sees_rd ?_
 rintro rfl
 let W0 : List HP := RR kT3 A2 D2 a1.Data :: RR kT3 A4 D4 b3.Data :: V
 refine cN W0 ?_
 refine c_seq (c_region (lBx R (fun b5 => (lBx R (fun b6 => (lB R (l_nil ?_)))))))
 let W1 : List HP := bxl b6 [(iv b3.Buffer), (sc A4 b3.Data D4)] 159 :: bxl b5 [(iv a1.Buffer), (sc A2 a1.Data D2)] 159 :: W0
 refine qN W1 ?_
 refine q_next (c_seq (c_seq (c_region (lO (vFa 0 fo159_0 R) (lO (vLd 1 ag3 R R R) (lO (vFa 0 fo159_0 R) (lO (vLd 0 ag3 R R R) (lO (vNe R R) (l_nil (q_next ?_))))))))))
 rcases bif_ hr with ⟨hb7, hr⟩ | ⟨hb7, hr⟩
 refine c_true R hb7 (c_seq (c_region (lB R (l_nil (q_next (c_ret (q_ret ?_)))))))
 obtain rfl := so hr
 exact qF () (fun w s => (s.e 4 []))
 refine c_false R hb7 (c_skip (q_next (c_seq (c_seq ?_))))
 obtain ⟨r8, hx9, hr⟩ := bd hr
 refine c_region (lO (vFa 1 fo159_1 R) (lO (vLd 1 ag29 R R R) (lO (vFa 1 fo159_1 R) (lO (vLd 0 ag29 R R R) (lM (RR kT3 A2 D2 a1.Data :: RR kT3 A4 D4 b3.Data :: W1) (fun w s => (((s.d 2 R).d 4 R).e 2 [1, 0])) ?_)))))
 refine lC 2 cb17 R (laws_eqIntS_ok hx9) R ?_
 rintro _
 refine lN W1 ?_
 refine lO (vNo R) (l_nil (q_next ?_))
 rcases bif_ hr with ⟨hb10, hr⟩ | ⟨hb10, hr⟩
 refine c_true R hb10 (c_seq (c_region (lB R (l_nil (q_next (c_ret (q_ret ?_)))))))
 obtain rfl := so hr
 exact qF () (fun w s => (s.e 4 []))
 refine c_false R hb10 (c_skip (q_next (c_seq (c_region (lB R (l_nil (q_next (c_ret ?_))))))))
 obtain rfl := so hr
 exact qF () (fun w s => (s.e 4 []))
theorem laws_eqFixS_ok {a1 : (List Fix)} {b3 : (List Fix)} {r : Bool} (hr : laws_eqFixS a1 b3 = some r) :
 FnOk Try.prog 77 [(.slice A2 N2 D2), (.slice A4 N4 D4)] [rds kT159 (.slice A2 N2 D2) a1, rds kT159 (.slice A4 N4 D4) b3] (fun (h : Unit) => ((.bool r), [])) := by
 unfold laws_eqFixS at hr
 refine fn_ok Try.func77 R 27 R R fun C V => ?_
 refine cN (_ :: _ :: V) ?_
 refine cL 0 sees_rd ?_
 rintro rfl
 refine cL 1 sees_rd ?_
 rintro rfl
 let W0 : List HP := RR kT159 A2 D2 a1 :: RR kT159 A4 D4 b3 :: V
 refine cN W0 ?_
 refine c_seq (c_region (lB R (l_nil (q_next (c_seq (c_seq (c_region (lS R (lO (v_len sl55 R) (lS R (lO (v_len sl55 R) (lO (vNe R R) (l_nil (q_next ?_))))))))))))))
 rcases bif_ hr with ⟨hb5, hr⟩ | ⟨hb5, hr⟩
 refine c_true R hb5 (c_seq (c_region (lB R (l_nil (q_next (c_ret (q_ret ?_)))))))
 obtain rfl := so hr
 exact qF () (fun w s => (s.e 2 []))
 refine c_false R hb5 (c_skip (q_next (c_seq (c_cut (A := (Unit) × (Unit)) (fun a => laws_eqFixS_J1 = some r) (fun a => []) (fun a => W0) ?_ ?_))))
 refine c_seq (c_region (lI R (l_nil (q_next (c_block ?_)))))
 obtain ⟨e1, hl1, hk1⟩ := bd hr
 refine c_loop (A := Unit) hl1 (fun s a => [(0, (sc A2 a1 D2)), (1, (sc A4 b3 D4)), (5, (iv s))]) (fun s a => W0) () (aS R) (fun w s => s) ?_
 rintro i18 _ σ1 out1 hr he1
 replace hr : laws_eqFixS_L1 a1 b3 i18 = some out1 := hr
 unfold laws_eqFixS_L1 at hr
 refine c_seq (c_seq (c_region (lI R (lS R (lO (v_len sl55 R) (lO (vLt R R) (l_nil (q_next ?_))))))))
 rcases bif_ hr with ⟨hb19, hr⟩ | ⟨hb19, hr⟩
 refine c_true R hb19 (c_skip (q_next (c_seq (c_block (c_seq ?_)))))
 obtain ⟨hg20, hr⟩ := gd hr
 obtain ⟨hg24, hr⟩ := gd hr
 obtain ⟨r28, hx29, hr⟩ := bd hr
 refine c_some 0 sees_rd (show 0 < a1.length by have := hg20; omega) (fun g21 o22 ha => ?_)
 subst ha
 refine c_elem (K := kT159) 0 i18 dT159.dec R hg20.1 hg20.2 ?_
 rintro ⟨-, ⟨A23, D23⟩⟩
 refine cN (cl g21 (o22 + i18.toNat * 2) [(iv (ix a1 i18).Buffer), (sc A23 ((ix a1 i18).Data) D23)] :: RR kT3 A23 D23 ((ix a1 i18).Data) :: W0) ?_
 refine c_some 3 sees_rd (show 0 < b3.length by have := hg24; omega) (fun g25 o26 ha => ?_)
 subst ha
 refine c_elem (K := kT159) 3 i18 dT159.dec R hg24.1 hg24.2 ?_
 rintro ⟨-, ⟨A27, D27⟩⟩
 refine cN (cl g25 (o26 + i18.toNat * 2) [(iv (ix b3 i18).Buffer), (sc A27 ((ix b3 i18).Data) D27)] :: RR kT3 A27 D27 ((ix b3 i18).Data) :: _ :: _ :: W0) ?_
 refine cdr 10 [] mixo (fun ht hn => (dR 0 R (vS R) (dR 1 R (vI R) (dR 2 R (vIa sl55 sz159 R R hg20) (dR 3 R (vz (.agg [(iv (ix a1 i18).Buffer), (sc A23 ((ix a1 i18).Data) D23)].toArray) (v_clfs (fo := 0) 2 ag159 sz159 R R R R)) (dR 4 R (vS R) (dR 5 R (vI R) (dR 6 R (vIa sl55 sz159 R R hg24) (dR 7 R (vz (.agg [(iv (ix b3 i18).Buffer), (sc A27 ((ix b3 i18).Data) D27)].toArray) (v_clfs (fo := 0) 0 ag159 sz159 R R R R)) (d_one 8 (by kernel_rfl) R (lM (rds _ _ _ :: rds _ _ _ :: cl _ _ _ :: rds _ _ _ :: cl _ _ _ :: rds _ _ _ :: W0) (fun w s => (((s.d 3 R).d 2 R).e 6 [1, 0, 2, 3, 4, 5])) ?_)))))))))))
 refine lC 2 cb138 R (laws_eqFix_ok hx29) R ?_
 rintro _
 refine lN (_ :: _ :: _ :: _ :: W0) ?_
 refine l_nil (q_draw (sL []) (dR 9 R (vNo R) (d_done (by kernel_rfl) (q_next ?_))))
 rcases bif_ hr with ⟨hb30, hr⟩ | ⟨hb30, hr⟩
 refine c_true R hb30 (c_seq (c_region (lB R (l_nil (q_next (c_ret (q_blockr (q_ret ?_))))))))
 obtain rfl := so hr
 obtain rfl := he1 _ R
 have hr := hk1
 refine q_ret (q_blockr (q_ret ?_))
 obtain rfl := so hr
 exact qF () (fun w s => (s.e 6 []))
 refine c_false R hb30 (c_skip (q_blockn (q_next (c_region (lI R (lO (vAd R R) (lI R (l_nil ?_))))))))
 obtain rfl := so hr
 exact qA () (fun w s => (s.e 4 []))
 refine c_false R hb19 (c_exit (q_exit ?_))
 obtain rfl := so hr
 obtain rfl := he1 _ R
 have hr := hk1
 refine q_exit (q_block ?_)
 exact q_join ((), ()) hr trivial (fun w s => s)
 rintro ⟨_, _⟩ σ1 hr
 replace hr : laws_eqFixS_J1 = some r := hr
 unfold laws_eqFixS_J1 at hr
 refine c_seq (c_region (lB R (l_nil (q_next (c_ret ?_)))))
 obtain rfl := so hr
 exact qF () (fun w s => (s.e 2 []))
theorem laws_eqAccess_ok {a1 : Access} {b3 : Access} {r : Bool} (hr : laws_eqAccess a1 b3 = some r) :
 FnOk Try.prog 195 [(.agg [(iv a1.Buffer), (iv a1.Offset), (.slice A2 N2 D2)].toArray), (.agg [(iv b3.Buffer), (iv b3.Offset), (.slice A4 N4 D4)].toArray)] [rds kT3 (.slice A2 N2 D2) a1.Steps, rds kT3 (.slice A4 N4 D4) b3.Steps] (fun (h : Unit) => ((.bool r), [])) := by
 unfold laws_eqAccess at hr
 refine fn_ok Try.func195 R 21 R R fun C V => ?_
 refine cN (_ :: _ :: V) ?_
 refine cL 0 sees_rd ?_
 rintro rfl
 refine cL 1 sees_rd ?_
 rintro rfl
 let W0 : List HP := RR kT3 A2 D2 a1.Steps :: RR kT3 A4 D4 b3.Steps :: V
 refine cN W0 ?_
 refine c_seq (c_region (lBx R (fun b5 => (lBx R (fun b6 => (lB R (l_nil ?_)))))))
 let W1 : List HP := bxl b6 [(iv b3.Buffer), (iv b3.Offset), (sc A4 b3.Steps D4)] 124 :: bxl b5 [(iv a1.Buffer), (iv a1.Offset), (sc A2 a1.Steps D2)] 124 :: W0
 refine qN W1 ?_
 refine q_next (c_seq (c_seq (c_region (lO (vFa 0 fo124_0 R) (lO (vLd 1 ag3 R R R) (lO (vFa 0 fo124_0 R) (lO (vLd 0 ag3 R R R) (lO (vNe R R) (l_nil (q_next ?_))))))))))
 rcases bif_ hr with ⟨hb7, hr⟩ | ⟨hb7, hr⟩
 refine c_true R hb7 (c_seq (c_region (lB R (l_nil (q_next (c_ret (q_ret ?_)))))))
 obtain rfl := so hr
 exact qF () (fun w s => (s.e 4 []))
 refine c_false R hb7 (c_skip (q_next (c_seq (c_seq (c_region (lO (vFa 1 fo124_1 R) (lO (vLd 1 ag3 R R R) (lO (vFa 1 fo124_1 R) (lO (vLd 0 ag3 R R R) (lO (vNe R R) (l_nil (q_next ?_))))))))))))
 rcases bif_ hr with ⟨hb8, hr⟩ | ⟨hb8, hr⟩
 refine c_true R hb8 (c_seq (c_region (lB R (l_nil (q_next (c_ret (q_ret ?_)))))))
 obtain rfl := so hr
 exact qF () (fun w s => (s.e 4 []))
 refine c_false R hb8 (c_skip (q_next (c_seq (c_seq ?_))))
 obtain ⟨r9, hx10, hr⟩ := bd hr
 refine c_region (lO (vFa 2 fo124_2 R) (lO (vLd 1 ag29 R R R) (lO (vFa 2 fo124_2 R) (lO (vLd 0 ag29 R R R) (lM (RR kT3 A2 D2 a1.Steps :: RR kT3 A4 D4 b3.Steps :: W1) (fun w s => (((s.d 2 R).d 4 R).e 2 [1, 0])) ?_)))))
 refine lC 2 cb17 R (laws_eqIntS_ok hx10) R ?_
 rintro _
 refine lN W1 ?_
 refine lO (vNo R) (l_nil (q_next ?_))
 rcases bif_ hr with ⟨hb11, hr⟩ | ⟨hb11, hr⟩
 refine c_true R hb11 (c_seq (c_region (lB R (l_nil (q_next (c_ret (q_ret ?_)))))))
 obtain rfl := so hr
 exact qF () (fun w s => (s.e 4 []))
 refine c_false R hb11 (c_skip (q_next (c_seq (c_region (lB R (l_nil (q_next (c_ret ?_))))))))
 obtain rfl := so hr
 exact qF () (fun w s => (s.e 4 []))
theorem laws_eqAccessS_ok {a1 : (List Access)} {b3 : (List Access)} {r : Bool} (hr : laws_eqAccessS a1 b3 = some r) :
 FnOk Try.prog 194 [(.slice A2 N2 D2), (.slice A4 N4 D4)] [rds kT124 (.slice A2 N2 D2) a1, rds kT124 (.slice A4 N4 D4) b3] (fun (h : Unit) => ((.bool r), [])) := by
 unfold laws_eqAccessS at hr
 refine fn_ok Try.func194 R 27 R R fun C V => ?_
 refine cN (_ :: _ :: V) ?_
 refine cL 0 sees_rd ?_
 rintro rfl
 refine cL 1 sees_rd ?_
 rintro rfl
 let W0 : List HP := RR kT124 A2 D2 a1 :: RR kT124 A4 D4 b3 :: V
 refine cN W0 ?_
 refine c_seq (c_region (lB R (l_nil (q_next (c_seq (c_seq (c_region (lS R (lO (v_len sl122 R) (lS R (lO (v_len sl122 R) (lO (vNe R R) (l_nil (q_next ?_))))))))))))))
 rcases bif_ hr with ⟨hb5, hr⟩ | ⟨hb5, hr⟩
 refine c_true R hb5 (c_seq (c_region (lB R (l_nil (q_next (c_ret (q_ret ?_)))))))
 obtain rfl := so hr
 exact qF () (fun w s => (s.e 2 []))
 refine c_false R hb5 (c_skip (q_next (c_seq (c_cut (A := (Unit) × (Unit)) (fun a => laws_eqAccessS_J1 = some r) (fun a => []) (fun a => W0) ?_ ?_))))
 refine c_seq (c_region (lI R (l_nil (q_next (c_block ?_)))))
 obtain ⟨e1, hl1, hk1⟩ := bd hr
 refine c_loop (A := Unit) hl1 (fun s a => [(0, (sc A2 a1 D2)), (1, (sc A4 b3 D4)), (5, (iv s))]) (fun s a => W0) () (aS R) (fun w s => s) ?_
 rintro i18 _ σ1 out1 hr he1
 replace hr : laws_eqAccessS_L1 a1 b3 i18 = some out1 := hr
 unfold laws_eqAccessS_L1 at hr
 refine c_seq (c_seq (c_region (lI R (lS R (lO (v_len sl122 R) (lO (vLt R R) (l_nil (q_next ?_))))))))
 rcases bif_ hr with ⟨hb19, hr⟩ | ⟨hb19, hr⟩
 refine c_true R hb19 (c_skip (q_next (c_seq (c_block (c_seq ?_)))))
 obtain ⟨hg20, hr⟩ := gd hr
 obtain ⟨hg24, hr⟩ := gd hr
 obtain ⟨r28, hx29, hr⟩ := bd hr
 refine c_some 0 sees_rd (show 0 < a1.length by have := hg20; omega) (fun g21 o22 ha => ?_)
 subst ha
 refine c_elem (K := kT124) 0 i18 dT124.dec R hg20.1 hg20.2 ?_
 rintro ⟨-, -, ⟨A23, D23⟩⟩
 refine cN (cl g21 (o22 + i18.toNat * 3) [(iv (ix a1 i18).Buffer), (iv (ix a1 i18).Offset), (sc A23 ((ix a1 i18).Steps) D23)] :: RR kT3 A23 D23 ((ix a1 i18).Steps) :: W0) ?_
 refine c_some 3 sees_rd (show 0 < b3.length by have := hg24; omega) (fun g25 o26 ha => ?_)
 subst ha
 refine c_elem (K := kT124) 3 i18 dT124.dec R hg24.1 hg24.2 ?_
 rintro ⟨-, -, ⟨A27, D27⟩⟩
 refine cN (cl g25 (o26 + i18.toNat * 3) [(iv (ix b3 i18).Buffer), (iv (ix b3 i18).Offset), (sc A27 ((ix b3 i18).Steps) D27)] :: RR kT3 A27 D27 ((ix b3 i18).Steps) :: _ :: _ :: W0) ?_
 refine cdr 10 [] mixo (fun ht hn => (dR 0 R (vS R) (dR 1 R (vI R) (dR 2 R (vIa sl122 sz124 R R hg20) (dR 3 R (vz (.agg [(iv (ix a1 i18).Buffer), (iv (ix a1 i18).Offset), (sc A23 ((ix a1 i18).Steps) D23)].toArray) (v_clfs (fo := 0) 2 ag124 sz124 R R R R)) (dR 4 R (vS R) (dR 5 R (vI R) (dR 6 R (vIa sl122 sz124 R R hg24) (dR 7 R (vz (.agg [(iv (ix b3 i18).Buffer), (iv (ix b3 i18).Offset), (sc A27 ((ix b3 i18).Steps) D27)].toArray) (v_clfs (fo := 0) 0 ag124 sz124 R R R R)) (d_one 8 (by kernel_rfl) R (lM (rds _ _ _ :: rds _ _ _ :: cl _ _ _ :: rds _ _ _ :: cl _ _ _ :: rds _ _ _ :: W0) (fun w s => (((s.d 3 R).d 2 R).e 6 [1, 0, 2, 3, 4, 5])) ?_)))))))))))
 refine lC 2 cb195 R (laws_eqAccess_ok hx29) R ?_
 rintro _
 refine lN (_ :: _ :: _ :: _ :: W0) ?_
 refine l_nil (q_draw (sL []) (dR 9 R (vNo R) (d_done (by kernel_rfl) (q_next ?_))))
 rcases bif_ hr with ⟨hb30, hr⟩ | ⟨hb30, hr⟩
 refine c_true R hb30 (c_seq (c_region (lB R (l_nil (q_next (c_ret (q_blockr (q_ret ?_))))))))
 obtain rfl := so hr
 obtain rfl := he1 _ R
 have hr := hk1
 refine q_ret (q_blockr (q_ret ?_))
 obtain rfl := so hr
 exact qF () (fun w s => (s.e 6 []))
 refine c_false R hb30 (c_skip (q_blockn (q_next (c_region (lI R (lO (vAd R R) (lI R (l_nil ?_))))))))
 obtain rfl := so hr
 exact qA () (fun w s => (s.e 4 []))
 refine c_false R hb19 (c_exit (q_exit ?_))
 obtain rfl := so hr
 obtain rfl := he1 _ R
 have hr := hk1
 refine q_exit (q_block ?_)
 exact q_join ((), ()) hr trivial (fun w s => s)
 rintro ⟨_, _⟩ σ1 hr
 replace hr : laws_eqAccessS_J1 = some r := hr
 unfold laws_eqAccessS_J1 at hr
 refine c_seq (c_region (lB R (l_nil (q_next (c_ret ?_)))))
 obtain rfl := so hr
 exact qF () (fun w s => (s.e 2 []))
theorem laws_eqCalc_ok {a1 : Calc} {b2 : Calc} {r : Bool} (hr : laws_eqCalc a1 b2 = some r) :
 FnOk Try.prog 214 [(.agg [(iv a1.Op), (iv a1.A), (iv a1.B)].toArray), (.agg [(iv b2.Op), (iv b2.A), (iv b2.B)].toArray)] [] (fun (h : Unit) => ((.bool r), [])) := by
 unfold laws_eqCalc at hr
 refine fn_ok Try.func214 R 20 R R fun C V => ?_
 refine cN V ?_
 refine c_seq (c_region (lBx R (fun b3 => (lBx R (fun b4 => (lB R (l_nil ?_)))))))
 let W1 : List HP := bxl b4 [(iv b2.Op), (iv b2.A), (iv b2.B)] 216 :: bxl b3 [(iv a1.Op), (iv a1.A), (iv a1.B)] 216 :: V
 refine qN W1 ?_
 refine q_next (c_seq (c_seq (c_region (lO (vFa 0 fo216_0 R) (lO (vLd 1 ag3 R R R) (lO (vFa 0 fo216_0 R) (lO (vLd 0 ag3 R R R) (lO (vNe R R) (l_nil (q_next ?_))))))))))
 rcases bif_ hr with ⟨hb5, hr⟩ | ⟨hb5, hr⟩
 refine c_true R hb5 (c_seq (c_region (lB R (l_nil (q_next (c_ret (q_ret ?_)))))))
 obtain rfl := so hr
 exact qF () (fun w s => (s.e 2 []))
 refine c_false R hb5 (c_skip (q_next (c_seq (c_seq (c_region (lO (vFa 1 fo216_1 R) (lO (vLd 1 ag3 R R R) (lO (vFa 1 fo216_1 R) (lO (vLd 0 ag3 R R R) (lO (vNe R R) (l_nil (q_next ?_))))))))))))
 rcases bif_ hr with ⟨hb6, hr⟩ | ⟨hb6, hr⟩
 refine c_true R hb6 (c_seq (c_region (lB R (l_nil (q_next (c_ret (q_ret ?_)))))))
 obtain rfl := so hr
 exact qF () (fun w s => (s.e 2 []))
 refine c_false R hb6 (c_skip (q_next (c_seq (c_seq (c_region (lO (vFa 2 fo216_2 R) (lO (vLd 1 ag3 R R R) (lO (vFa 2 fo216_2 R) (lO (vLd 0 ag3 R R R) (lO (vNe R R) (l_nil (q_next ?_))))))))))))
 rcases bif_ hr with ⟨hb7, hr⟩ | ⟨hb7, hr⟩
 refine c_true R hb7 (c_seq (c_region (lB R (l_nil (q_next (c_ret (q_ret ?_)))))))
 obtain rfl := so hr
 exact qF () (fun w s => (s.e 2 []))
 refine c_false R hb7 (c_skip (q_next (c_seq (c_region (lB R (l_nil (q_next (c_ret ?_))))))))
 obtain rfl := so hr
 exact qF () (fun w s => (s.e 2 []))
theorem laws_eqCalcS_ok {a1 : (List Calc)} {b3 : (List Calc)} {r : Bool} (hr : laws_eqCalcS a1 b3 = some r) :
 FnOk Try.prog 196 [(.slice A2 N2 D2), (.slice A4 N4 D4)] [rds kT216 (.slice A2 N2 D2) a1, rds kT216 (.slice A4 N4 D4) b3] (fun (h : Unit) => ((.bool r), [])) := by
 unfold laws_eqCalcS at hr
 refine fn_ok Try.func196 R 27 R R fun C V => ?_
 refine cN (_ :: _ :: V) ?_
 refine cL 0 sees_rd ?_
 rintro rfl
 refine cL 1 sees_rd ?_
 rintro rfl
 let W0 : List HP := RR kT216 A2 D2 a1 :: RR kT216 A4 D4 b3 :: V
 refine cN W0 ?_
 refine c_seq (c_region (lB R (l_nil (q_next (c_seq (c_seq (c_region (lS R (lO (v_len sl125 R) (lS R (lO (v_len sl125 R) (lO (vNe R R) (l_nil (q_next ?_))))))))))))))
 rcases bif_ hr with ⟨hb5, hr⟩ | ⟨hb5, hr⟩
 refine c_true R hb5 (c_seq (c_region (lB R (l_nil (q_next (c_ret (q_ret ?_)))))))
 obtain rfl := so hr
 exact qF () (fun w s => (s.e 2 []))
 refine c_false R hb5 (c_skip (q_next (c_seq (c_cut (A := (Unit) × (Unit)) (fun a => laws_eqCalcS_J1 = some r) (fun a => []) (fun a => W0) ?_ ?_))))
 refine c_seq (c_region (lI R (l_nil (q_next (c_block ?_)))))
 obtain ⟨e1, hl1, hk1⟩ := bd hr
 refine c_loop (A := Unit) hl1 (fun s a => [(0, (sc A2 a1 D2)), (1, (sc A4 b3 D4)), (5, (iv s))]) (fun s a => W0) () (aS R) (fun w s => s) ?_
 rintro i16 _ σ1 out1 hr he1
 replace hr : laws_eqCalcS_L1 a1 b3 i16 = some out1 := hr
 unfold laws_eqCalcS_L1 at hr
 refine c_seq (c_seq (c_region (lI R (lS R (lO (v_len sl125 R) (lO (vLt R R) (l_nil (q_next ?_))))))))
 rcases bif_ hr with ⟨hb17, hr⟩ | ⟨hb17, hr⟩
 refine c_true R hb17 (c_skip (q_next (c_seq (c_block (c_seq ?_)))))
 obtain ⟨hg18, hr⟩ := gd hr
 obtain ⟨hg21, hr⟩ := gd hr
 obtain ⟨r24, hx25, hr⟩ := bd hr
 refine c_some 0 sees_rd (show 0 < a1.length by have := hg18; omega) (fun g19 o20 ha => ?_)
 subst ha
 refine c_some 1 sees_rd (show 0 < b3.length by have := hg21; omega) (fun g22 o23 ha => ?_)
 subst ha
 refine cdr 10 [] mixo (fun ht hn => (dR 0 R (vS R) (dR 1 R (vI R) (dR 2 R (vIa sl125 sz216 R R hg18) (d_v 3 (.agg [(iv (ix a1 i16).Op), (iv (ix a1 i16).A), (iv (ix a1 i16).B)].toArray) R ?_ R R R ht hn (by kernel_rfl) (sL []) ?_)))))
 exact (v_ldef (K := kT216) (cells := fun x => [(iv x.Op), (iv x.A), (iv x.B)]) 0 i16 ag216 sz216 (DecK.flat dT216 fun _ _ => R) sees_rd R hg18.1 hg18.2)
 refine dR 4 R (vS R) (dR 5 R (vI R) (dR 6 R (vIa sl125 sz216 R R hg21) (d_v 7 (.agg [(iv (ix b3 i16).Op), (iv (ix b3 i16).A), (iv (ix b3 i16).B)].toArray) R ?_ R R R ht hn (by kernel_rfl) (sL []) ?_)))
 exact (v_ldef (K := kT216) (cells := fun x => [(iv x.Op), (iv x.A), (iv x.B)]) 1 i16 ag216 sz216 (DecK.flat dT216 fun _ _ => R) sees_rd R hg21.1 hg21.2)
 refine d_one 8 (by kernel_rfl) R (lC 0 cb214 R (laws_eqCalc_ok hx25) R ?_)
 rintro _
 refine l_nil (q_draw (sL []) (dR 9 R (vNo R) (d_done (by kernel_rfl) (q_next ?_))))
 rcases bif_ hr with ⟨hb26, hr⟩ | ⟨hb26, hr⟩
 refine c_true R hb26 (c_seq (c_region (lB R (l_nil (q_next (c_ret (q_blockr (q_ret ?_))))))))
 obtain rfl := so hr
 obtain rfl := he1 _ R
 have hr := hk1
 refine q_ret (q_blockr (q_ret ?_))
 obtain rfl := so hr
 exact qF () (fun w s => (s.e 2 []))
 refine c_false R hb26 (c_skip (q_blockn (q_next (c_region (lI R (lO (vAd R R) (lI R (l_nil ?_))))))))
 obtain rfl := so hr
 exact qA () (fun w s => s)
 refine c_false R hb17 (c_exit (q_exit ?_))
 obtain rfl := so hr
 obtain rfl := he1 _ R
 have hr := hk1
 refine q_exit (q_block ?_)
 exact q_join ((), ()) hr trivial (fun w s => s)
 rintro ⟨_, _⟩ σ1 hr
 replace hr : laws_eqCalcS_J1 = some r := hr
 unfold laws_eqCalcS_J1 at hr
 refine c_seq (c_region (lB R (l_nil (q_next (c_ret ?_)))))
 obtain rfl := so hr
 exact qF () (fun w s => (s.e 2 []))
theorem laws_eqKernel_ok {a1 : Kernel} {b6 : Kernel} {r : Bool} (hr : laws_eqKernel a1 b6 = some r) :
 FnOk Try.prog 139 [(.agg [(.slice A2 N2 D2), (.slice A3 N3 D3), (iv a1.Store.Buffer), (iv a1.Store.Offset), (.slice A4 N4 D4), (.bool a1.Sum), (.slice A5 N5 D5)].toArray), (.agg [(.slice A7 N7 D7), (.slice A8 N8 D8), (iv b6.Store.Buffer), (iv b6.Store.Offset), (.slice A9 N9 D9), (.bool b6.Sum), (.slice A10 N10 D10)].toArray)] [rds kT3 (.slice A2 N2 D2) a1.Loops, rds kT124 (.slice A3 N3 D3) a1.Loads, rds kT3 (.slice A4 N4 D4) a1.Store.Steps, rds kT216 (.slice A5 N5 D5) a1.Code, rds kT3 (.slice A7 N7 D7) b6.Loops, rds kT124 (.slice A8 N8 D8) b6.Loads, rds kT3 (.slice A9 N9 D9) b6.Store.Steps, rds kT216 (.slice A10 N10 D10) b6.Code] (fun (h : Unit) => ((.bool r), [])) := by
 unfold laws_eqKernel at hr
 refine fn_ok Try.func139 R 34 R R fun C V => ?_
 refine cN (_ :: _ :: _ :: _ :: _ :: _ :: _ :: _ :: V) ?_
 refine cL 0 sees_rd ?_
 rintro rfl
 refine cL 1 sees_rd ?_
 rintro rfl
 refine cL 2 sees_rd ?_
 rintro rfl
 refine cL 3 sees_rd ?_
 rintro rfl
 refine cL 4 sees_rd ?_
 rintro rfl
 refine cL 5 sees_rd ?_
 rintro rfl
 refine cL 6 sees_rd ?_
 rintro rfl
 refine cL 7 sees_rd ?_
 rintro rfl
 let W0 : List HP := RR kT3 A2 D2 a1.Loops :: RR kT124 A3 D3 a1.Loads :: RR kT3 A4 D4 a1.Store.Steps :: RR kT216 A5 D5 a1.Code :: RR kT3 A7 D7 b6.Loops :: RR kT124 A8 D8 b6.Loads :: RR kT3 A9 D9 b6.Store.Steps :: RR kT216 A10 D10 b6.Code :: V
 refine cN W0 ?_
 refine c_seq (c_region (lBx R (fun b11 => (lBx R (fun b12 => (lB R (l_nil ?_)))))))
 let W1 : List HP := bxl b12 [(sc A7 b6.Loops D7), (sc A8 b6.Loads D8), (iv b6.Store.Buffer), (iv b6.Store.Offset), (sc A9 b6.Store.Steps D9), (.bool b6.Sum), (sc A10 b6.Code D10)] 127 :: bxl b11 [(sc A2 a1.Loops D2), (sc A3 a1.Loads D3), (iv a1.Store.Buffer), (iv a1.Store.Offset), (sc A4 a1.Store.Steps D4), (.bool a1.Sum), (sc A5 a1.Code D5)] 127 :: W0
 refine qN W1 ?_
 refine q_next (c_seq (c_seq ?_))
 obtain ⟨r13, hx14, hr⟩ := bd hr
 refine c_region (lO (vFa 0 fo127_0 R) (lO (vLd 1 ag29 R R R) (lO (vFa 0 fo127_0 R) (lO (vLd 0 ag29 R R R) (lM (RR kT3 A2 D2 a1.Loops :: RR kT3 A7 D7 b6.Loops :: W1) (fun w s => (((s.d 2 R).d 7 R).e 2 [1, 0])) ?_)))))
 refine lC 2 cb17 R (laws_eqIntS_ok hx14) R ?_
 rintro _
 refine lN W1 ?_
 refine lO (vNo R) (l_nil (q_next ?_))
 rcases bif_ hr with ⟨hb15, hr⟩ | ⟨hb15, hr⟩
 refine c_true R hb15 (c_seq (c_region (lB R (l_nil (q_next (c_ret (q_ret ?_)))))))
 obtain rfl := so hr
 exact qF () (fun w s => (s.e 10 []))
 refine c_false R hb15 (c_skip (q_next (c_seq (c_seq ?_))))
 obtain ⟨r16, hx17, hr⟩ := bd hr
 refine c_region (lO (vFa 1 fo127_1 R) (lO (vLd 1 ag122 R R R) (lO (vFa 1 fo127_1 R) (lO (vLd 0 ag122 R R R) (lM (RR kT124 A3 D3 a1.Loads :: RR kT124 A8 D8 b6.Loads :: W1) (fun w s => (((s.d 3 R).d 8 R).e 2 [1, 0])) ?_)))))
 refine lC 2 cb194 R (laws_eqAccessS_ok hx17) R ?_
 rintro _
 refine lN W1 ?_
 refine lO (vNo R) (l_nil (q_next ?_))
 rcases bif_ hr with ⟨hb18, hr⟩ | ⟨hb18, hr⟩
 refine c_true R hb18 (c_seq (c_region (lB R (l_nil (q_next (c_ret (q_ret ?_)))))))
 obtain rfl := so hr
 exact qF () (fun w s => (s.e 10 []))
 refine c_false R hb18 (c_skip (q_next (c_seq (c_seq ?_))))
 obtain ⟨r19, hx20, hr⟩ := bd hr
 refine c_region (lO (vFa 2 fo127_2 R) (lO (vz (.agg [(iv a1.Store.Buffer), (iv a1.Store.Offset), (sc A4 a1.Store.Steps D4)].toArray) (v_loadw 1 ag124 sz124 R R R R)) (lO (vFa 2 fo127_2 R) (lO (vz (.agg [(iv b6.Store.Buffer), (iv b6.Store.Offset), (sc A9 b6.Store.Steps D9)].toArray) (v_loadw 0 ag124 sz124 R R R R)) (lM (RR kT3 A4 D4 a1.Store.Steps :: RR kT3 A9 D9 b6.Store.Steps :: W1) (fun w s => (((s.d 4 R).d 9 R).e 2 [1, 0])) ?_)))))
 refine lC 2 cb195 R (laws_eqAccess_ok hx20) R ?_
 rintro _
 refine lN W1 ?_
 refine lO (vNo R) (l_nil (q_next ?_))
 rcases bif_ hr with ⟨hb21, hr⟩ | ⟨hb21, hr⟩
 refine c_true R hb21 (c_seq (c_region (lB R (l_nil (q_next (c_ret (q_ret ?_)))))))
 obtain rfl := so hr
 exact qF () (fun w s => (s.e 10 []))
 refine c_false R hb21 (c_skip (q_next (c_seq (c_seq (c_region (lO (vFa 5 fo127_3 R) (lO (vLd 1 ag4 R R R) (lO (vFa 5 fo127_3 R) (lO (vLd 0 ag4 R R R) (lO (v_bne un4 R R) (l_nil (q_next ?_))))))))))))
 rcases bif_ hr with ⟨hb22, hr⟩ | ⟨hb22, hr⟩
 refine c_true R hb22 (c_seq (c_region (lB R (l_nil (q_next (c_ret (q_ret ?_)))))))
 obtain rfl := so hr
 exact qF () (fun w s => (s.e 10 []))
 refine c_false R hb22 (c_skip (q_next (c_seq (c_seq ?_))))
 obtain ⟨r23, hx24, hr⟩ := bd hr
 refine c_region (lO (vFa 6 fo127_4 R) (lO (vLd 1 ag125 R R R) (lO (vFa 6 fo127_4 R) (lO (vLd 0 ag125 R R R) (lM (RR kT216 A5 D5 a1.Code :: RR kT216 A10 D10 b6.Code :: W1) (fun w s => (((s.d 5 R).d 10 R).e 2 [1, 0])) ?_)))))
 refine lC 2 cb196 R (laws_eqCalcS_ok hx24) R ?_
 rintro _
 refine lN W1 ?_
 refine lO (vNo R) (l_nil (q_next ?_))
 rcases bif_ hr with ⟨hb25, hr⟩ | ⟨hb25, hr⟩
 refine c_true R hb25 (c_seq (c_region (lB R (l_nil (q_next (c_ret (q_ret ?_)))))))
 obtain rfl := so hr
 exact qF () (fun w s => (s.e 10 []))
 refine c_false R hb25 (c_skip (q_next (c_seq (c_region (lB R (l_nil (q_next (c_ret ?_))))))))
 obtain rfl := so hr
 exact qF () (fun w s => (s.e 10 []))
theorem laws_eqKernelS_ok {a1 : (List Kernel)} {b3 : (List Kernel)} {r : Bool} (hr : laws_eqKernelS a1 b3 = some r) :
 FnOk Try.prog 78 [(.slice A2 N2 D2), (.slice A4 N4 D4)] [rds kT127 (.slice A2 N2 D2) a1, rds kT127 (.slice A4 N4 D4) b3] (fun (h : Unit) => ((.bool r), [])) := by
 unfold laws_eqKernelS at hr
 refine fn_ok Try.func78 R 27 R R fun C V => ?_
 refine cN (_ :: _ :: V) ?_
 refine cL 0 sees_rd ?_
 rintro rfl
 refine cL 1 sees_rd ?_
 rintro rfl
 let W0 : List HP := RR kT127 A2 D2 a1 :: RR kT127 A4 D4 b3 :: V
 refine cN W0 ?_
 refine c_seq (c_region (lB R (l_nil (q_next (c_seq (c_seq (c_region (lS R (lO (v_len sl56 R) (lS R (lO (v_len sl56 R) (lO (vNe R R) (l_nil (q_next ?_))))))))))))))
 rcases bif_ hr with ⟨hb5, hr⟩ | ⟨hb5, hr⟩
 refine c_true R hb5 (c_seq (c_region (lB R (l_nil (q_next (c_ret (q_ret ?_)))))))
 obtain rfl := so hr
 exact qF () (fun w s => (s.e 2 []))
 refine c_false R hb5 (c_skip (q_next (c_seq (c_cut (A := (Unit) × (Unit)) (fun a => laws_eqKernelS_J1 = some r) (fun a => []) (fun a => W0) ?_ ?_))))
 refine c_seq (c_region (lI R (l_nil (q_next (c_block ?_)))))
 obtain ⟨e1, hl1, hk1⟩ := bd hr
 refine c_loop (A := Unit) hl1 (fun s a => [(0, (sc A2 a1 D2)), (1, (sc A4 b3 D4)), (5, (iv s))]) (fun s a => W0) () (aS R) (fun w s => s) ?_
 rintro i24 _ σ1 out1 hr he1
 replace hr : laws_eqKernelS_L1 a1 b3 i24 = some out1 := hr
 unfold laws_eqKernelS_L1 at hr
 refine c_seq (c_seq (c_region (lI R (lS R (lO (v_len sl56 R) (lO (vLt R R) (l_nil (q_next ?_))))))))
 rcases bif_ hr with ⟨hb25, hr⟩ | ⟨hb25, hr⟩
 refine c_true R hb25 (c_skip (q_next (c_seq (c_block (c_seq ?_)))))
 obtain ⟨hg26, hr⟩ := gd hr
 obtain ⟨hg33, hr⟩ := gd hr
 obtain ⟨r40, hx41, hr⟩ := bd hr
 refine c_some 0 sees_rd (show 0 < a1.length by have := hg26; omega) (fun g27 o28 ha => ?_)
 subst ha
 refine c_elem (K := kT127) 0 i24 dT127.dec R hg26.1 hg26.2 ?_
 rintro ⟨⟨A29, D29⟩, ⟨A30, D30⟩, ⟨-, -, ⟨A31, D31⟩⟩, -, ⟨A32, D32⟩⟩
 refine cN (cl g27 (o28 + i24.toNat * 7) [(sc A29 ((ix a1 i24).Loops) D29), (sc A30 ((ix a1 i24).Loads) D30), (iv (ix a1 i24).Store.Buffer), (iv (ix a1 i24).Store.Offset), (sc A31 ((ix a1 i24).Store.Steps) D31), (.bool (ix a1 i24).Sum), (sc A32 ((ix a1 i24).Code) D32)] :: RR kT3 A29 D29 ((ix a1 i24).Loops) :: RR kT124 A30 D30 ((ix a1 i24).Loads) :: RR kT3 A31 D31 ((ix a1 i24).Store.Steps) :: RR kT216 A32 D32 ((ix a1 i24).Code) :: W0) ?_
 refine c_some 6 sees_rd (show 0 < b3.length by have := hg33; omega) (fun g34 o35 ha => ?_)
 subst ha
 refine c_elem (K := kT127) 6 i24 dT127.dec R hg33.1 hg33.2 ?_
 rintro ⟨⟨A36, D36⟩, ⟨A37, D37⟩, ⟨-, -, ⟨A38, D38⟩⟩, -, ⟨A39, D39⟩⟩
 refine cN (cl g34 (o35 + i24.toNat * 7) [(sc A36 ((ix b3 i24).Loops) D36), (sc A37 ((ix b3 i24).Loads) D37), (iv (ix b3 i24).Store.Buffer), (iv (ix b3 i24).Store.Offset), (sc A38 ((ix b3 i24).Store.Steps) D38), (.bool (ix b3 i24).Sum), (sc A39 ((ix b3 i24).Code) D39)] :: RR kT3 A36 D36 ((ix b3 i24).Loops) :: RR kT124 A37 D37 ((ix b3 i24).Loads) :: RR kT3 A38 D38 ((ix b3 i24).Store.Steps) :: RR kT216 A39 D39 ((ix b3 i24).Code) :: _ :: _ :: _ :: _ :: _ :: W0) ?_
 refine cdr 10 [] mixo (fun ht hn => (dR 0 R (vS R) (dR 1 R (vI R) (dR 2 R (vIa sl56 sz127 R R hg26) (dR 3 R (vz (.agg [(sc A29 ((ix a1 i24).Loops) D29), (sc A30 ((ix a1 i24).Loads) D30), (iv (ix a1 i24).Store.Buffer), (iv (ix a1 i24).Store.Offset), (sc A31 ((ix a1 i24).Store.Steps) D31), (.bool (ix a1 i24).Sum), (sc A32 ((ix a1 i24).Code) D32)].toArray) (v_clfs (fo := 0) 5 ag127 sz127 R R R R)) (dR 4 R (vS R) (dR 5 R (vI R) (dR 6 R (vIa sl56 sz127 R R hg33) (dR 7 R (vz (.agg [(sc A36 ((ix b3 i24).Loops) D36), (sc A37 ((ix b3 i24).Loads) D37), (iv (ix b3 i24).Store.Buffer), (iv (ix b3 i24).Store.Offset), (sc A38 ((ix b3 i24).Store.Steps) D38), (.bool (ix b3 i24).Sum), (sc A39 ((ix b3 i24).Code) D39)].toArray) (v_clfs (fo := 0) 0 ag127 sz127 R R R R)) (d_one 8 (by kernel_rfl) R ?_))))))))))
 refine lM (rds _ _ _ :: rds _ _ _ :: rds _ _ _ :: rds _ _ _ :: rds _ _ _ :: rds _ _ _ :: rds _ _ _ :: rds _ _ _ :: cl _ _ _ :: rds _ _ _ :: rds _ _ _ :: rds _ _ _ :: rds _ _ _ :: cl _ _ _ :: rds _ _ _ :: rds _ _ _ :: rds _ _ _ :: rds _ _ _ :: W0) (fun w s => (((((((((s.d 6 R).d 8 R).d 10 R).d 12 R).d 5 R).d 7 R).d 9 R).d 11 R).e 18 [7, 6, 5, 4, 3, 2, 1, 0, 8, 9, 10, 11, 12, 13, 14, 15, 16, 17])) ?_
 refine lC 8 cb139 R (laws_eqKernel_ok hx41) R ?_
 rintro _
 refine lN (_ :: _ :: _ :: _ :: _ :: _ :: _ :: _ :: _ :: _ :: W0) ?_
 refine l_nil (q_draw (sL []) (dR 9 R (vNo R) (d_done (by kernel_rfl) (q_next ?_))))
 rcases bif_ hr with ⟨hb42, hr⟩ | ⟨hb42, hr⟩
 refine c_true R hb42 (c_seq (c_region (lB R (l_nil (q_next (c_ret (q_blockr (q_ret ?_))))))))
 obtain rfl := so hr
 obtain rfl := he1 _ R
 have hr := hk1
 refine q_ret (q_blockr (q_ret ?_))
 obtain rfl := so hr
 exact qF () (fun w s => (s.e 12 []))
 refine c_false R hb42 (c_skip (q_blockn (q_next (c_region (lI R (lO (vAd R R) (lI R (l_nil ?_))))))))
 obtain rfl := so hr
 exact qA () (fun w s => (s.e 10 []))
 refine c_false R hb25 (c_exit (q_exit ?_))
 obtain rfl := so hr
 obtain rfl := he1 _ R
 have hr := hk1
 refine q_exit (q_block ?_)
 exact q_join ((), ()) hr trivial (fun w s => s)
 rintro ⟨_, _⟩ σ1 hr
 replace hr : laws_eqKernelS_J1 = some r := hr
 unfold laws_eqKernelS_J1 at hr
 refine c_seq (c_region (lB R (l_nil (q_next (c_ret ?_)))))
 obtain rfl := so hr
 exact qF () (fun w s => (s.e 2 []))
theorem laws_eqNest_ok {a1 : Nest} {b7 : Nest} {r : Bool} (hr : laws_eqNest a1 b7 = some r) :
 FnOk Try.prog 26 [(.agg [(.slice A2 N2 D2), (.slice A3 N3 D3), (.slice A4 N4 D4), (.slice A5 N5 D5), (.slice A6 N6 D6)].toArray), (.agg [(.slice A8 N8 D8), (.slice A9 N9 D9), (.slice A10 N10 D10), (.slice A11 N11 D11), (.slice A12 N12 D12)].toArray)] [rds kT3 (.slice A2 N2 D2) a1.Sizes, rds kT3 (.slice A3 N3 D3) a1.Ins, rds kT159 (.slice A4 N4 D4) a1.Fixed, rds kT127 (.slice A5 N5 D5) a1.Kernels, rds kT3 (.slice A6 N6 D6) a1.Outs, rds kT3 (.slice A8 N8 D8) b7.Sizes, rds kT3 (.slice A9 N9 D9) b7.Ins, rds kT159 (.slice A10 N10 D10) b7.Fixed, rds kT127 (.slice A11 N11 D11) b7.Kernels, rds kT3 (.slice A12 N12 D12) b7.Outs] (fun (h : Unit) => ((.bool r), [])) := by
 unfold laws_eqNest at hr
 refine fn_ok Try.func26 R 35 R R fun C V => ?_
 refine cN (_ :: _ :: _ :: _ :: _ :: _ :: _ :: _ :: _ :: _ :: V) ?_
 refine cL 0 sees_rd ?_
 rintro rfl
 refine cL 1 sees_rd ?_
 rintro rfl
 refine cL 2 sees_rd ?_
 rintro rfl
 refine cL 3 sees_rd ?_
 rintro rfl
 refine cL 4 sees_rd ?_
 rintro rfl
 refine cL 5 sees_rd ?_
 rintro rfl
 refine cL 6 sees_rd ?_
 rintro rfl
 refine cL 7 sees_rd ?_
 rintro rfl
 refine cL 8 sees_rd ?_
 rintro rfl
 refine cL 9 sees_rd ?_
 rintro rfl
 let W0 : List HP := RR kT3 A2 D2 a1.Sizes :: RR kT3 A3 D3 a1.Ins :: RR kT159 A4 D4 a1.Fixed :: RR kT127 A5 D5 a1.Kernels :: RR kT3 A6 D6 a1.Outs :: RR kT3 A8 D8 b7.Sizes :: RR kT3 A9 D9 b7.Ins :: RR kT159 A10 D10 b7.Fixed :: RR kT127 A11 D11 b7.Kernels :: RR kT3 A12 D12 b7.Outs :: V
 refine cN W0 ?_
 refine c_seq (c_region (lBx R (fun b13 => (lBx R (fun b14 => (lB R (l_nil ?_)))))))
 let W1 : List HP := bxl b14 [(sc A8 b7.Sizes D8), (sc A9 b7.Ins D9), (sc A10 b7.Fixed D10), (sc A11 b7.Kernels D11), (sc A12 b7.Outs D12)] 58 :: bxl b13 [(sc A2 a1.Sizes D2), (sc A3 a1.Ins D3), (sc A4 a1.Fixed D4), (sc A5 a1.Kernels D5), (sc A6 a1.Outs D6)] 58 :: W0
 refine qN W1 ?_
 refine q_next (c_seq (c_seq ?_))
 obtain ⟨r15, hx16, hr⟩ := bd hr
 refine c_region (lO (vFa 0 fo58_0 R) (lO (vLd 1 ag29 R R R) (lO (vFa 0 fo58_0 R) (lO (vLd 0 ag29 R R R) (lM (RR kT3 A2 D2 a1.Sizes :: RR kT3 A8 D8 b7.Sizes :: W1) (fun w s => (((s.d 2 R).d 8 R).e 2 [1, 0])) ?_)))))
 refine lC 2 cb17 R (laws_eqIntS_ok hx16) R ?_
 rintro _
 refine lN W1 ?_
 refine lO (vNo R) (l_nil (q_next ?_))
 rcases bif_ hr with ⟨hb17, hr⟩ | ⟨hb17, hr⟩
 refine c_true R hb17 (c_seq (c_region (lB R (l_nil (q_next (c_ret (q_ret ?_)))))))
 obtain rfl := so hr
 exact qF () (fun w s => (s.e 12 []))
 refine c_false R hb17 (c_skip (q_next (c_seq (c_seq ?_))))
 obtain ⟨r18, hx19, hr⟩ := bd hr
 refine c_region (lO (vFa 1 fo58_1 R) (lO (vLd 1 ag29 R R R) (lO (vFa 1 fo58_1 R) (lO (vLd 0 ag29 R R R) (lM (RR kT3 A3 D3 a1.Ins :: RR kT3 A9 D9 b7.Ins :: W1) (fun w s => (((s.d 3 R).d 9 R).e 2 [1, 0])) ?_)))))
 refine lC 2 cb17 R (laws_eqIntS_ok hx19) R ?_
 rintro _
 refine lN W1 ?_
 refine lO (vNo R) (l_nil (q_next ?_))
 rcases bif_ hr with ⟨hb20, hr⟩ | ⟨hb20, hr⟩
 refine c_true R hb20 (c_seq (c_region (lB R (l_nil (q_next (c_ret (q_ret ?_)))))))
 obtain rfl := so hr
 exact qF () (fun w s => (s.e 12 []))
 refine c_false R hb20 (c_skip (q_next (c_seq (c_seq ?_))))
 obtain ⟨r21, hx22, hr⟩ := bd hr
 refine c_region (lO (vFa 2 fo58_2 R) (lO (vLd 1 ag55 R R R) (lO (vFa 2 fo58_2 R) (lO (vLd 0 ag55 R R R) (lM (RR kT159 A4 D4 a1.Fixed :: RR kT159 A10 D10 b7.Fixed :: W1) (fun w s => (((s.d 4 R).d 10 R).e 2 [1, 0])) ?_)))))
 refine lC 2 cb77 R (laws_eqFixS_ok hx22) R ?_
 rintro _
 refine lN W1 ?_
 refine lO (vNo R) (l_nil (q_next ?_))
 rcases bif_ hr with ⟨hb23, hr⟩ | ⟨hb23, hr⟩
 refine c_true R hb23 (c_seq (c_region (lB R (l_nil (q_next (c_ret (q_ret ?_)))))))
 obtain rfl := so hr
 exact qF () (fun w s => (s.e 12 []))
 refine c_false R hb23 (c_skip (q_next (c_seq (c_seq ?_))))
 obtain ⟨r24, hx25, hr⟩ := bd hr
 refine c_region (lO (vFa 3 fo58_3 R) (lO (vLd 1 ag56 R R R) (lO (vFa 3 fo58_3 R) (lO (vLd 0 ag56 R R R) (lM (RR kT127 A5 D5 a1.Kernels :: RR kT127 A11 D11 b7.Kernels :: W1) (fun w s => (((s.d 5 R).d 11 R).e 2 [1, 0])) ?_)))))
 refine lC 2 cb78 R (laws_eqKernelS_ok hx25) R ?_
 rintro _
 refine lN W1 ?_
 refine lO (vNo R) (l_nil (q_next ?_))
 rcases bif_ hr with ⟨hb26, hr⟩ | ⟨hb26, hr⟩
 refine c_true R hb26 (c_seq (c_region (lB R (l_nil (q_next (c_ret (q_ret ?_)))))))
 obtain rfl := so hr
 exact qF () (fun w s => (s.e 12 []))
 refine c_false R hb26 (c_skip (q_next (c_seq (c_seq ?_))))
 obtain ⟨r27, hx28, hr⟩ := bd hr
 refine c_region (lO (vFa 4 fo58_4 R) (lO (vLd 1 ag29 R R R) (lO (vFa 4 fo58_4 R) (lO (vLd 0 ag29 R R R) (lM (RR kT3 A6 D6 a1.Outs :: RR kT3 A12 D12 b7.Outs :: W1) (fun w s => (((s.d 6 R).d 12 R).e 2 [1, 0])) ?_)))))
 refine lC 2 cb17 R (laws_eqIntS_ok hx28) R ?_
 rintro _
 refine lN W1 ?_
 refine lO (vNo R) (l_nil (q_next ?_))
 rcases bif_ hr with ⟨hb29, hr⟩ | ⟨hb29, hr⟩
 refine c_true R hb29 (c_seq (c_region (lB R (l_nil (q_next (c_ret (q_ret ?_)))))))
 obtain rfl := so hr
 exact qF () (fun w s => (s.e 12 []))
 refine c_false R hb29 (c_skip (q_next (c_seq (c_region (lB R (l_nil (q_next (c_ret ?_))))))))
 obtain rfl := so hr
 exact qF () (fun w s => (s.e 12 []))
theorem laws_eqPlan_ok {a1 : Plan} {b8 : Plan} {r : Bool} (hr : laws_eqPlan a1 b8 = some r) :
 FnOk Try.prog 34 [(.agg [(.slice A2 N2 D2), (.slice A3 N3 D3), (.slice A4 N4 D4), (.slice A5 N5 D5), (.slice A6 N6 D6), (.slice A7 N7 D7), (iv a1.Arena)].toArray), (.agg [(.slice A9 N9 D9), (.slice A10 N10 D10), (.slice A11 N11 D11), (.slice A12 N12 D12), (.slice A13 N13 D13), (.slice A14 N14 D14), (iv b8.Arena)].toArray)] [rds kT3 (.slice A2 N2 D2) a1.Nest.Sizes, rds kT3 (.slice A3 N3 D3) a1.Nest.Ins, rds kT159 (.slice A4 N4 D4) a1.Nest.Fixed, rds kT127 (.slice A5 N5 D5) a1.Nest.Kernels, rds kT3 (.slice A6 N6 D6) a1.Nest.Outs, rds kT3 (.slice A7 N7 D7) a1.Offsets, rds kT3 (.slice A9 N9 D9) b8.Nest.Sizes, rds kT3 (.slice A10 N10 D10) b8.Nest.Ins, rds kT159 (.slice A11 N11 D11) b8.Nest.Fixed, rds kT127 (.slice A12 N12 D12) b8.Nest.Kernels, rds kT3 (.slice A13 N13 D13) b8.Nest.Outs, rds kT3 (.slice A14 N14 D14) b8.Offsets] (fun (h : Unit) => ((.bool r), [])) := by
 unfold laws_eqPlan at hr
 refine fn_ok Try.func34 R 22 R R fun C V => ?_
 refine cN (_ :: _ :: _ :: _ :: _ :: _ :: _ :: _ :: _ :: _ :: _ :: _ :: V) ?_
 refine cL 0 sees_rd ?_
 rintro rfl
 refine cL 1 sees_rd ?_
 rintro rfl
 refine cL 2 sees_rd ?_
 rintro rfl
 refine cL 3 sees_rd ?_
 rintro rfl
 refine cL 4 sees_rd ?_
 rintro rfl
 refine cL 5 sees_rd ?_
 rintro rfl
 refine cL 6 sees_rd ?_
 rintro rfl
 refine cL 7 sees_rd ?_
 rintro rfl
 refine cL 8 sees_rd ?_
 rintro rfl
 refine cL 9 sees_rd ?_
 rintro rfl
 refine cL 10 sees_rd ?_
 rintro rfl
 refine cL 11 sees_rd ?_
 rintro rfl
 let W0 : List HP := RR kT3 A2 D2 a1.Nest.Sizes :: RR kT3 A3 D3 a1.Nest.Ins :: RR kT159 A4 D4 a1.Nest.Fixed :: RR kT127 A5 D5 a1.Nest.Kernels :: RR kT3 A6 D6 a1.Nest.Outs :: RR kT3 A7 D7 a1.Offsets :: RR kT3 A9 D9 b8.Nest.Sizes :: RR kT3 A10 D10 b8.Nest.Ins :: RR kT159 A11 D11 b8.Nest.Fixed :: RR kT127 A12 D12 b8.Nest.Kernels :: RR kT3 A13 D13 b8.Nest.Outs :: RR kT3 A14 D14 b8.Offsets :: V
 refine cN W0 ?_
 refine c_seq (c_region (lBx R (fun b15 => (lBx R (fun b16 => (lB R (l_nil ?_)))))))
 let W1 : List HP := bxl b16 [(sc A9 b8.Nest.Sizes D9), (sc A10 b8.Nest.Ins D10), (sc A11 b8.Nest.Fixed D11), (sc A12 b8.Nest.Kernels D12), (sc A13 b8.Nest.Outs D13), (sc A14 b8.Offsets D14), (iv b8.Arena)] 71 :: bxl b15 [(sc A2 a1.Nest.Sizes D2), (sc A3 a1.Nest.Ins D3), (sc A4 a1.Nest.Fixed D4), (sc A5 a1.Nest.Kernels D5), (sc A6 a1.Nest.Outs D6), (sc A7 a1.Offsets D7), (iv a1.Arena)] 71 :: W0
 refine qN W1 ?_
 refine q_next (c_seq (c_seq ?_))
 obtain ⟨r17, hx18, hr⟩ := bd hr
 refine c_region (lO (vFa 0 fo71_0 R) (lO (vz (.agg [(sc A2 a1.Nest.Sizes D2), (sc A3 a1.Nest.Ins D3), (sc A4 a1.Nest.Fixed D4), (sc A5 a1.Nest.Kernels D5), (sc A6 a1.Nest.Outs D6)].toArray) (v_loadw 1 ag58 sz58 R R R R)) (lO (vFa 0 fo71_0 R) (lO (vz (.agg [(sc A9 b8.Nest.Sizes D9), (sc A10 b8.Nest.Ins D10), (sc A11 b8.Nest.Fixed D11), (sc A12 b8.Nest.Kernels D12), (sc A13 b8.Nest.Outs D13)].toArray) (v_loadw 0 ag58 sz58 R R R R)) (lM (RR kT3 A2 D2 a1.Nest.Sizes :: RR kT3 A3 D3 a1.Nest.Ins :: RR kT159 A4 D4 a1.Nest.Fixed :: RR kT127 A5 D5 a1.Nest.Kernels :: RR kT3 A6 D6 a1.Nest.Outs :: RR kT3 A9 D9 b8.Nest.Sizes :: RR kT3 A10 D10 b8.Nest.Ins :: RR kT159 A11 D11 b8.Nest.Fixed :: RR kT127 A12 D12 b8.Nest.Kernels :: RR kT3 A13 D13 b8.Nest.Outs :: W1) (fun w s => (((((((((((s.d 2 R).d 4 R).d 6 R).d 8 R).d 10 R).d 13 R).d 15 R).d 17 R).d 19 R).d 21 R).e 10 [9, 8, 7, 6, 5, 4, 3, 2, 1, 0])) ?_)))))
 refine lC 10 cb26 R (laws_eqNest_ok hx18) R ?_
 rintro _
 refine lN W1 ?_
 refine lO (vNo R) (l_nil (q_next ?_))
 rcases bif_ hr with ⟨hb19, hr⟩ | ⟨hb19, hr⟩
 refine c_true R hb19 (c_seq (c_region (lB R (l_nil (q_next (c_ret (q_ret ?_)))))))
 obtain rfl := so hr
 exact qF () (fun w s => (s.e 14 []))
 refine c_false R hb19 (c_skip (q_next (c_seq (c_seq ?_))))
 obtain ⟨r20, hx21, hr⟩ := bd hr
 refine c_region (lO (vFa 5 fo71_1 R) (lO (vLd 1 ag29 R R R) (lO (vFa 5 fo71_1 R) (lO (vLd 0 ag29 R R R) (lM (RR kT3 A7 D7 a1.Offsets :: RR kT3 A14 D14 b8.Offsets :: W1) (fun w s => (((s.d 7 R).d 14 R).e 2 [1, 0])) ?_)))))
 refine lC 2 cb17 R (laws_eqIntS_ok hx21) R ?_
 rintro _
 refine lN W1 ?_
 refine lO (vNo R) (l_nil (q_next ?_))
 rcases bif_ hr with ⟨hb22, hr⟩ | ⟨hb22, hr⟩
 refine c_true R hb22 (c_seq (c_region (lB R (l_nil (q_next (c_ret (q_ret ?_)))))))
 obtain rfl := so hr
 exact qF () (fun w s => (s.e 14 []))
 refine c_false R hb22 (c_skip (q_next (c_seq (c_seq (c_region (lO (vFa 6 fo71_2 R) (lO (vLd 1 ag3 R R R) (lO (vFa 6 fo71_2 R) (lO (vLd 0 ag3 R R R) (lO (vNe R R) (l_nil (q_next ?_))))))))))))
 rcases bif_ hr with ⟨hb23, hr⟩ | ⟨hb23, hr⟩
 refine c_true R hb23 (c_seq (c_region (lB R (l_nil (q_next (c_ret (q_ret ?_)))))))
 obtain rfl := so hr
 exact qF () (fun w s => (s.e 14 []))
 refine c_false R hb23 (c_skip (q_next (c_seq (c_region (lB R (l_nil (q_next (c_ret ?_))))))))
 obtain rfl := so hr
 exact qF () (fun w s => (s.e 14 []))
theorem laws_markIntS_ok {a1 : (List Int)} {k3 : Int} {r : Int × (List Int)} (hr : laws_markIntS a1 k3 = some r) :
 FnOk Try.prog 20 [(.slice A2 N2 D2), (iv k3)] [ow kT3 3 (.slice A2 N2 D2) a1] (fun (h : Unit) => ((iv r.1), [ow kT3 3 (.slice A2 N2 D2) r.2])) := by
 unfold laws_markIntS at hr
 refine fn_ok Try.func20 R 19 R R fun C V => ?_
 refine cN (_ :: V) ?_
 refine cL 0 sees_ow ?_
 rintro rfl
 refine c_seq (c_region (lI R (l_nil (q_next (c_seq (c_cut (A := (Int × (List Int)) × (Unit)) (fun a => laws_markIntS_J1 a.1.1 a.1.2 = some r) (fun a => [(1, (iv a.1.1))]) (fun a => ow kT3 3 (.slice A2 a1.length D2) a.1.2 :: V) ?_ ?_))))))
 refine c_seq (c_region (lI R (l_nil (q_next (c_block ?_)))))
 obtain ⟨e1, hl1, hk1⟩ := bd hr
 refine c_loop (A := Unit) hl1 (fun s a => [(0, (sc A2 a1 D2)), (1, (iv s.2.1)), (5, (iv s.2.2))]) (fun s a => ow kT3 3 (.slice A2 a1.length D2) s.1 :: V) () (aS R) (fun w s => s) ?_
 rintro ⟨a8, k9, i10⟩ _ σ1 out1 hr he1
 replace hr : laws_markIntS_L1 a1 a8 k9 i10 = some out1 := hr
 unfold laws_markIntS_L1 at hr
 refine c_seq (c_seq (c_region (lI R (lS R (lO (v_len sl29 R) (lO (vLt R R) (l_nil (q_next ?_))))))))
 rcases bif_ hr with ⟨hb11, hr⟩ | ⟨hb11, hr⟩
 refine c_true R hb11 (c_skip (q_next (c_seq (c_block (c_seq ?_)))))
 obtain ⟨hg12, hr⟩ := gd hr
 refine c_region (lS R (lI R (lI R (t_some 0 sees_ow (show 0 < a1.length by have := hg12; omega) (fun g13 o14 ha => ?_)))))
 subst ha
 refine lO (vIa sl29 sz3 R R hg12) (lN (ow kT3 3 (.slice (ad g13 o14) a1.length D2) a8 :: V) ?_)
 refine l_stx (K := kT3) (x' := k9) 0 i10 R R sz3 R R hg12.1 hg12.2 ?_ ?_
 exact fun I h s => (mO3).put I h () k9 s
 refine lN (ow kT3 3 (.slice (ad g13 o14) a1.length D2) (a8.set i10.toNat k9) :: V) ?_
 refine l_nil (q_next (c_region (lI R (lO (vAd R R) (lI R (l_nil (q_blockn (q_next (c_region (lI R (lO (vAd R R) (lI R (l_nil ?_)))))))))))))
 obtain rfl := so hr
 exact qA () (fun w s => s)
 refine c_false R hb11 (c_exit (q_exit ?_))
 obtain rfl := so hr
 obtain rfl := he1 _ R
 have hr := hk1
 refine q_exit (q_block ?_)
 exact qI ((k9, a8), ()) hr (fun w s => s)
 rintro ⟨⟨k18, p19⟩, _⟩ σ1 hr
 replace hr : laws_markIntS_J1 k18 p19 = some r := hr
 unfold laws_markIntS_J1 at hr
 refine c_seq (c_region (lI R (lI R (l_nil (q_next (c_ret ?_))))))
 obtain rfl := so hr
 exact qF () (fun w s => s)
theorem laws_markFixS_ok {a1 : (List Fix)} {k3 : Int} {r : Int × (List Fix)} (hr : laws_markFixS a1 k3 = some r) :
 FnOk Try.prog 79 [(.slice A2 N2 D2), (iv k3)] [ow kT159 159 (.slice A2 N2 D2) a1] (fun (h : Unit) => ((iv r.1), [ow kT159 159 (.slice A2 N2 D2) r.2])) := by
 unfold laws_markFixS at hr
 refine fn_ok Try.func79 R 27 R R fun C V => ?_
 refine cN (_ :: V) ?_
 refine cL 0 sees_ow ?_
 rintro rfl
 refine c_seq (c_region (lI R (l_nil (q_next (c_seq (c_cut (A := (Int × (List Fix)) × (Unit)) (fun a => laws_markFixS_J1 a.1.1 a.1.2 = some r) (fun a => [(1, (iv a.1.1))]) (fun a => ow kT159 159 (.slice A2 a1.length D2) a.1.2 :: V) ?_ ?_))))))
 refine c_seq (c_region (lI R (l_nil (q_next (c_block ?_)))))
 obtain ⟨e1, hl1, hk1⟩ := bd hr
 refine c_loop (A := Unit) hl1 (fun s a => [(0, (sc A2 a1 D2)), (1, (iv s.2.1)), (5, (iv s.2.2))]) (fun s a => ow kT159 159 (.slice A2 a1.length D2) s.1 :: V) () (aS R) (fun w s => s) ?_
 rintro ⟨a15, k16, i17⟩ _ σ1 out1 hr he1
 replace hr : laws_markFixS_L1 a1 a15 k16 i17 = some out1 := hr
 unfold laws_markFixS_L1 at hr
 refine c_seq (c_seq (c_region (lI R (lS R (lO (v_len sl55 R) (lO (vLt R R) (l_nil (q_next ?_))))))))
 rcases bif_ hr with ⟨hb18, hr⟩ | ⟨hb18, hr⟩
 refine c_true R hb18 (c_skip (q_next (c_seq (c_block (c_seq ?_)))))
 obtain ⟨hg19, hr⟩ := gd hr
 refine c_region (lS R (lI R (lI R (t_some 0 sees_ow (show 0 < a1.length by have := hg19; omega) (fun g20 o21 ha => ?_)))))
 subst ha
 refine lO (vIa sl55 sz159 R R hg19) (lO (vz (.pointer (some ⟨g20, o21 + i17.toNat * 2, none⟩)) (v_fa fo159_0 R R)) (l_ste (K := kT159) (fo := 0) (v := (iv k16)) (f := (fun x : Fix => (⟨k16, x.Data⟩ : Fix))) 0 i17 R R sz3 ?_ R R R R hg19.1 hg19.2 ?_))
 exact SetL.deep sP159 mO159 (fun a x => ((), (.slice a.2.1 x.Data.length a.2.2))) R (fun _ _ => R) (fun _ _ => R)
 refine lN (ow kT159 159 (.slice (ad g20 o21) a1.length D2) (a15.set i17.toNat (⟨k16, (ix a15 i17).Data⟩ : Fix)) :: V) ?_
 refine l_nil (q_next (c_seq (c_region (lI R (lO (vAd R R) (lI R (l_nil (q_next ?_))))))))
 obtain ⟨r23, hx24, hr⟩ := bd hr
 refine c_region (lS R (lI R (lO (vIa sl55 sz159 R R hg19) (lO (vz (.pointer (some ⟨g20, o21 + i17.toNat * 2 + 1, none⟩)) (v_fa fo159_1 R R)) (t_focus (K := kT159) sP159 0 i17 R hg19.1 hg19.2 ?_)))))
 rintro ⟨-, ⟨A22, D22⟩⟩
 refine lN (hol kT159 159 (.slice (ad g20 o21) a1.length D2) (a15.set i17.toNat (⟨k16, (ix a15 i17).Data⟩ : Fix)) i17.toNat [(iv (ix (a15.set i17.toNat (⟨k16, (ix a15 i17).Data⟩ : Fix)) i17).Buffer), (sc A22 ((ix (a15.set i17.toNat (⟨k16, (ix a15 i17).Data⟩ : Fix)) i17).Data) D22)] :: OO kT3 3 A22 D22 ((ix (a15.set i17.toNat (⟨k16, (ix a15 i17).Data⟩ : Fix)) i17).Data) :: V) ?_
 refine lO (v_holf (fo := 1) 0 ag29 R R R) (lI R (lM (ow _ _ _ _ :: hol _ _ _ _ _ _ :: V) (fun w s => (s.e 2 [1, 0])) ?_))
 refine lC 1 cb20 R (laws_markIntS_ok hx24) R ?_
 rintro _
 refine lN (ow kT3 3 (.slice A22 ((ix (a15.set i17.toNat (⟨k16, (ix a15 i17).Data⟩ : Fix)) i17).Data).length D22) r23.2 :: _ :: V) ?_
 refine lI R (l_nil (qM (ow kT159 159 (.slice (ad g20 o21) a1.length D2) ((a15.set i17.toNat (⟨k16, (ix a15 i17).Data⟩ : Fix)).set i17.toNat (⟨(ix (a15.set i17.toNat (⟨k16, (ix a15 i17).Data⟩ : Fix)) i17).Buffer, r23.2⟩ : Fix)) :: V) (fun w s => St.unfocus (E := [ow kT3 3 (.slice A22 ((ix (a15.set i17.toNat (⟨k16, (ix a15 i17).Data⟩ : Fix)) i17).Data).length D22) r23.2]) (⟨(ix (a15.set i17.toNat (⟨k16, (ix a15 i17).Data⟩ : Fix)) i17).Buffer, r23.2⟩ : Fix) (s.e 2 [1, 0]) ?_) ?_))
 exact fun I h s => (mO159).put I h ((), (sc A22 ((ix (a15.set i17.toNat (⟨k16, (ix a15 i17).Data⟩ : Fix)) i17).Data) D22)) (⟨(ix (a15.set i17.toNat (⟨k16, (ix a15 i17).Data⟩ : Fix)) i17).Buffer, r23.2⟩ : Fix) s
 obtain ⟨l25, hl26, hr⟩ := bd hr
 replace hl26 := Option.some.inj hl26
 refine qM (ow kT159 159 (.slice (ad g20 o21) a1.length D2) l25 :: V) (fun w s => by rw [← hl26]; exact s) ?_
 refine q_blockn (q_next (c_region (lI R (lO (vAd R R) (lI R (l_nil ?_))))))
 obtain rfl := so hr
 exact qA () (fun w s => s)
 refine c_false R hb18 (c_exit (q_exit ?_))
 obtain rfl := so hr
 obtain rfl := he1 _ R
 have hr := hk1
 refine q_exit (q_block ?_)
 exact qI ((k16, a15), ()) hr (fun w s => s)
 rintro ⟨⟨k30, p31⟩, _⟩ σ1 hr
 replace hr : laws_markFixS_J1 k30 p31 = some r := hr
 unfold laws_markFixS_J1 at hr
 refine c_seq (c_region (lI R (lI R (l_nil (q_next (c_ret ?_))))))
 obtain rfl := so hr
 exact qF () (fun w s => s)
theorem laws_markAccessS_ok {a1 : (List Access)} {k3 : Int} {r : Int × (List Access)} (hr : laws_markAccessS a1 k3 = some r) :
 FnOk Try.prog 140 [(.slice A2 N2 D2), (iv k3)] [ow kT124 124 (.slice A2 N2 D2) a1] (fun (h : Unit) => ((iv r.1), [ow kT124 124 (.slice A2 N2 D2) r.2])) := by
 unfold laws_markAccessS at hr
 refine fn_ok Try.func140 R 34 R R fun C V => ?_
 refine cN (_ :: V) ?_
 refine cL 0 sees_ow ?_
 rintro rfl
 refine c_seq (c_region (lI R (l_nil (q_next (c_seq (c_cut (A := (Int × (List Access)) × (Unit)) (fun a => laws_markAccessS_J1 a.1.1 a.1.2 = some r) (fun a => [(1, (iv a.1.1))]) (fun a => ow kT124 124 (.slice A2 a1.length D2) a.1.2 :: V) ?_ ?_))))))
 refine c_seq (c_region (lI R (l_nil (q_next (c_block ?_)))))
 obtain ⟨e1, hl1, hk1⟩ := bd hr
 refine c_loop (A := Unit) hl1 (fun s a => [(0, (sc A2 a1 D2)), (1, (iv s.2.1)), (5, (iv s.2.2))]) (fun s a => ow kT124 124 (.slice A2 a1.length D2) s.1 :: V) () (aS R) (fun w s => s) ?_
 rintro ⟨a17, k18, i19⟩ _ σ1 out1 hr he1
 replace hr : laws_markAccessS_L1 a1 a17 k18 i19 = some out1 := hr
 unfold laws_markAccessS_L1 at hr
 refine c_seq (c_seq (c_region (lI R (lS R (lO (v_len sl122 R) (lO (vLt R R) (l_nil (q_next ?_))))))))
 rcases bif_ hr with ⟨hb20, hr⟩ | ⟨hb20, hr⟩
 refine c_true R hb20 (c_skip (q_next (c_seq (c_block (c_seq ?_)))))
 obtain ⟨hg21, hr⟩ := gd hr
 refine c_region (lS R (lI R (lI R (t_some 0 sees_ow (show 0 < a1.length by have := hg21; omega) (fun g22 o23 ha => ?_)))))
 subst ha
 refine lO (vIa sl122 sz124 R R hg21) (lO (vz (.pointer (some ⟨g22, o23 + i19.toNat * 3, none⟩)) (v_fa fo124_0 R R)) (l_ste (K := kT124) (fo := 0) (v := (iv k18)) (f := (fun x : Access => (⟨k18, x.Offset, x.Steps⟩ : Access))) 0 i19 R R sz3 ?_ R R R R hg21.1 hg21.2 ?_))
 exact SetL.deep sP124 mO124 (fun a x => ((), (), (.slice a.2.2.1 x.Steps.length a.2.2.2))) R (fun _ _ => R) (fun _ _ => R)
 refine lN (ow kT124 124 (.slice (ad g22 o23) a1.length D2) (a17.set i19.toNat (⟨k18, (ix a17 i19).Offset, (ix a17 i19).Steps⟩ : Access)) :: V) ?_
 refine l_nil ?_
 obtain ⟨l24, hl25, hr⟩ := bd hr
 replace hl25 := Option.some.inj hl25
 refine qM (ow kT124 124 (.slice (ad g22 o23) a1.length D2) l24 :: V) (fun w s => by rw [← hl25]; exact s) ?_
 refine q_next (c_seq (c_region (lI R (lO (vAd R R) (lI R (l_nil (q_next (c_seq (c_region (lS R (lI R (lI R (lO (vIa sl122 sz124 R R hg21) (lO (vz (.pointer (some ⟨g22, o23 + i19.toNat * 3 + 1, none⟩)) (v_fa fo124_1 R R)) (l_ste (K := kT124) (fo := 1) (v := (iv (w64 (k18 + (1 : Int))))) (f := (fun x : Access => (⟨x.Buffer, (w64 (k18 + (1 : Int))), x.Steps⟩ : Access))) 0 i19 R R sz3 ?_ R R R R hg21.1 hg21.2 ?_)))))))))))))))
 exact SetL.deep sP124 mO124 (fun a x => ((), (), (.slice a.2.2.1 x.Steps.length a.2.2.2))) R (fun _ _ => R) (fun _ _ => R)
 refine lN (ow kT124 124 (.slice (ad g22 o23) a1.length D2) (l24.set i19.toNat (⟨(ix l24 i19).Buffer, (w64 (k18 + (1 : Int))), (ix l24 i19).Steps⟩ : Access)) :: V) ?_
 refine l_nil ?_
 obtain ⟨l26, hl27, hr⟩ := bd hr
 replace hl27 := Option.some.inj hl27
 refine qM (ow kT124 124 (.slice (ad g22 o23) a1.length D2) l26 :: V) (fun w s => by rw [← hl27]; exact s) ?_
 refine q_next (c_seq (c_region (lI R (lO (vAd R R) (lI R (l_nil (q_next ?_)))))))
 obtain ⟨r29, hx30, hr⟩ := bd hr
 refine c_region (lS R (lI R (lO (vIa sl122 sz124 R R hg21) (lO (vz (.pointer (some ⟨g22, o23 + i19.toNat * 3 + 2, none⟩)) (v_fa fo124_2 R R)) (t_focus (K := kT124) sP124 0 i19 R hg21.1 hg21.2 ?_)))))
 rintro ⟨-, -, ⟨A28, D28⟩⟩
 refine lN (hol kT124 124 (.slice (ad g22 o23) a1.length D2) l26 i19.toNat [(iv (ix l26 i19).Buffer), (iv (ix l26 i19).Offset), (sc A28 ((ix l26 i19).Steps) D28)] :: OO kT3 3 A28 D28 ((ix l26 i19).Steps) :: V) ?_
 refine lO (v_holf (fo := 2) 0 ag29 R R R) (lI R (lM (ow _ _ _ _ :: hol _ _ _ _ _ _ :: V) (fun w s => (s.e 2 [1, 0])) ?_))
 refine lC 1 cb20 R (laws_markIntS_ok hx30) R ?_
 rintro _
 refine lN (ow kT3 3 (.slice A28 ((ix l26 i19).Steps).length D28) r29.2 :: _ :: V) ?_
 refine lI R (l_nil (qM (ow kT124 124 (.slice (ad g22 o23) a1.length D2) (l26.set i19.toNat (⟨(ix l26 i19).Buffer, (ix l26 i19).Offset, r29.2⟩ : Access)) :: V) (fun w s => St.unfocus (E := [ow kT3 3 (.slice A28 ((ix l26 i19).Steps).length D28) r29.2]) (⟨(ix l26 i19).Buffer, (ix l26 i19).Offset, r29.2⟩ : Access) (s.e 2 [1, 0]) ?_) ?_))
 exact fun I h s => (mO124).put I h ((), (), (sc A28 ((ix l26 i19).Steps) D28)) (⟨(ix l26 i19).Buffer, (ix l26 i19).Offset, r29.2⟩ : Access) s
 obtain ⟨l31, hl32, hr⟩ := bd hr
 replace hl32 := Option.some.inj hl32
 refine qM (ow kT124 124 (.slice (ad g22 o23) a1.length D2) l31 :: V) (fun w s => by rw [← hl32]; exact s) ?_
 refine q_blockn (q_next (c_region (lI R (lO (vAd R R) (lI R (l_nil ?_))))))
 obtain rfl := so hr
 exact qA () (fun w s => s)
 refine c_false R hb20 (c_exit (q_exit ?_))
 obtain rfl := so hr
 obtain rfl := he1 _ R
 have hr := hk1
 refine q_exit (q_block ?_)
 exact qI ((k18, a17), ()) hr (fun w s => s)
 rintro ⟨⟨k36, p37⟩, _⟩ σ1 hr
 replace hr : laws_markAccessS_J1 k36 p37 = some r := hr
 unfold laws_markAccessS_J1 at hr
 refine c_seq (c_region (lI R (lI R (l_nil (q_next (c_ret ?_))))))
 obtain rfl := so hr
 exact qF () (fun w s => s)
theorem laws_markCalcS_ok {a1 : (List Calc)} {k3 : Int} {r : Int × (List Calc)} (hr : laws_markCalcS a1 k3 = some r) :
 FnOk Try.prog 141 [(.slice A2 N2 D2), (iv k3)] [ow kT216 216 (.slice A2 N2 D2) a1] (fun (h : Unit) => ((iv r.1), [ow kT216 216 (.slice A2 N2 D2) r.2])) := by
 unfold laws_markCalcS at hr
 refine fn_ok Try.func141 R 34 R R fun C V => ?_
 refine cN (_ :: V) ?_
 refine cL 0 sees_ow ?_
 rintro rfl
 refine c_seq (c_region (lI R (l_nil (q_next (c_seq (c_cut (A := (Int × (List Calc)) × (Unit)) (fun a => laws_markCalcS_J1 a.1.1 a.1.2 = some r) (fun a => [(1, (iv a.1.1))]) (fun a => ow kT216 216 (.slice A2 a1.length D2) a.1.2 :: V) ?_ ?_))))))
 refine c_seq (c_region (lI R (l_nil (q_next (c_block ?_)))))
 obtain ⟨e1, hl1, hk1⟩ := bd hr
 refine c_loop (A := Unit) hl1 (fun s a => [(0, (sc A2 a1 D2)), (1, (iv s.2.1)), (5, (iv s.2.2))]) (fun s a => ow kT216 216 (.slice A2 a1.length D2) s.1 :: V) () (aS R) (fun w s => s) ?_
 rintro ⟨a14, k15, i16⟩ _ σ1 out1 hr he1
 replace hr : laws_markCalcS_L1 a1 a14 k15 i16 = some out1 := hr
 unfold laws_markCalcS_L1 at hr
 refine c_seq (c_seq (c_region (lI R (lS R (lO (v_len sl125 R) (lO (vLt R R) (l_nil (q_next ?_))))))))
 rcases bif_ hr with ⟨hb17, hr⟩ | ⟨hb17, hr⟩
 refine c_true R hb17 (c_skip (q_next (c_seq (c_block (c_seq ?_)))))
 obtain ⟨hg18, hr⟩ := gd hr
 refine c_region (lS R (lI R (lI R (t_some 0 sees_ow (show 0 < a1.length by have := hg18; omega) (fun g19 o20 ha => ?_)))))
 subst ha
 refine lO (vIa sl125 sz216 R R hg18) (lO (vz (.pointer (some ⟨g19, o20 + i16.toNat * 3, none⟩)) (v_fa fo216_0 R R)) (l_ste (K := kT216) (fo := 0) (v := (iv k15)) (f := (fun x : Calc => (⟨k15, x.A, x.B⟩ : Calc))) 0 i16 R R sz3 ?_ R R R R hg18.1 hg18.2 ?_))
 exact SetL.flat sP216 mO216 ((), (), ()) R (fun _ _ => R) (fun _ => R) (fun _ _ => R)
 refine lN (ow kT216 216 (.slice (ad g19 o20) a1.length D2) (a14.set i16.toNat (⟨k15, (ix a14 i16).A, (ix a14 i16).B⟩ : Calc)) :: V) ?_
 refine l_nil ?_
 obtain ⟨l21, hl22, hr⟩ := bd hr
 replace hl22 := Option.some.inj hl22
 refine qM (ow kT216 216 (.slice (ad g19 o20) a1.length D2) l21 :: V) (fun w s => by rw [← hl22]; exact s) ?_
 refine q_next (c_seq (c_region (lI R (lO (vAd R R) (lI R (l_nil (q_next (c_seq (c_region (lS R (lI R (lI R (lO (vIa sl125 sz216 R R hg18) (lO (vz (.pointer (some ⟨g19, o20 + i16.toNat * 3 + 1, none⟩)) (v_fa fo216_1 R R)) (l_ste (K := kT216) (fo := 1) (v := (iv (w64 (k15 + (1 : Int))))) (f := (fun x : Calc => (⟨x.Op, (w64 (k15 + (1 : Int))), x.B⟩ : Calc))) 0 i16 R R sz3 ?_ R R R R hg18.1 hg18.2 ?_)))))))))))))))
 exact SetL.flat sP216 mO216 ((), (), ()) R (fun _ _ => R) (fun _ => R) (fun _ _ => R)
 refine lN (ow kT216 216 (.slice (ad g19 o20) a1.length D2) (l21.set i16.toNat (⟨(ix l21 i16).Op, (w64 (k15 + (1 : Int))), (ix l21 i16).B⟩ : Calc)) :: V) ?_
 refine l_nil ?_
 obtain ⟨l23, hl24, hr⟩ := bd hr
 replace hl24 := Option.some.inj hl24
 refine qM (ow kT216 216 (.slice (ad g19 o20) a1.length D2) l23 :: V) (fun w s => by rw [← hl24]; exact s) ?_
 refine q_next (c_seq (c_region (lI R (lO (vAd R R) (lI R (l_nil (q_next (c_seq (c_region (lS R (lI R (lI R (lO (vIa sl125 sz216 R R hg18) (lO (vz (.pointer (some ⟨g19, o20 + i16.toNat * 3 + 2, none⟩)) (v_fa fo216_2 R R)) (l_ste (K := kT216) (fo := 2) (v := (iv (w64 ((w64 (k15 + (1 : Int))) + (1 : Int))))) (f := (fun x : Calc => (⟨x.Op, x.A, (w64 ((w64 (k15 + (1 : Int))) + (1 : Int)))⟩ : Calc))) 0 i16 R R sz3 ?_ R R R R hg18.1 hg18.2 ?_)))))))))))))))
 exact SetL.flat sP216 mO216 ((), (), ()) R (fun _ _ => R) (fun _ => R) (fun _ _ => R)
 refine lN (ow kT216 216 (.slice (ad g19 o20) a1.length D2) (l23.set i16.toNat (⟨(ix l23 i16).Op, (ix l23 i16).A, (w64 ((w64 (k15 + (1 : Int))) + (1 : Int)))⟩ : Calc)) :: V) ?_
 refine l_nil ?_
 obtain ⟨l25, hl26, hr⟩ := bd hr
 replace hl26 := Option.some.inj hl26
 refine qM (ow kT216 216 (.slice (ad g19 o20) a1.length D2) l25 :: V) (fun w s => by rw [← hl26]; exact s) ?_
 refine q_next (c_region (lI R (lO (vAd R R) (lI R (l_nil (q_blockn (q_next (c_region (lI R (lO (vAd R R) (lI R (l_nil ?_))))))))))))
 obtain rfl := so hr
 exact qA () (fun w s => s)
 refine c_false R hb17 (c_exit (q_exit ?_))
 obtain rfl := so hr
 obtain rfl := he1 _ R
 have hr := hk1
 refine q_exit (q_block ?_)
 exact qI ((k15, a14), ()) hr (fun w s => s)
 rintro ⟨⟨k30, p31⟩, _⟩ σ1 hr
 replace hr : laws_markCalcS_J1 k30 p31 = some r := hr
 unfold laws_markCalcS_J1 at hr
 refine c_seq (c_region (lI R (lI R (l_nil (q_next (c_ret ?_))))))
 obtain rfl := so hr
 exact qF () (fun w s => s)
theorem laws_markKernelS_ok {a1 : (List Kernel)} {k3 : Int} {r : Int × (List Kernel)} (hr : laws_markKernelS a1 k3 = some r) :
 FnOk Try.prog 80 [(.slice A2 N2 D2), (iv k3)] [ow kT127 127 (.slice A2 N2 D2) a1] (fun (h : Unit) => ((iv r.1), [ow kT127 127 (.slice A2 N2 D2) r.2])) := by
 unfold laws_markKernelS at hr
 refine fn_ok Try.func80 R 67 R R fun C V => ?_
 refine cN (_ :: V) ?_
 refine cL 0 sees_ow ?_
 rintro rfl
 refine c_seq (c_region (lI R (l_nil (q_next (c_seq (c_cut (A := (Int × (List Kernel)) × (Unit)) (fun a => laws_markKernelS_J1 a.1.1 a.1.2 = some r) (fun a => [(1, (iv a.1.1))]) (fun a => ow kT127 127 (.slice A2 a1.length D2) a.1.2 :: V) ?_ ?_))))))
 refine c_seq (c_region (lI R (l_nil (q_next (c_block ?_)))))
 obtain ⟨e1, hl1, hk1⟩ := bd hr
 refine c_loop (A := Unit) hl1 (fun s a => [(0, (sc A2 a1 D2)), (1, (iv s.2.1)), (5, (iv s.2.2))]) (fun s a => ow kT127 127 (.slice A2 a1.length D2) s.1 :: V) () (aS R) (fun w s => s) ?_
 rintro ⟨a46, k47, i48⟩ _ σ1 out1 hr he1
 replace hr : laws_markKernelS_L1 a1 a46 k47 i48 = some out1 := hr
 unfold laws_markKernelS_L1 at hr
 refine c_seq (c_seq (c_region (lI R (lS R (lO (v_len sl56 R) (lO (vLt R R) (l_nil (q_next ?_))))))))
 rcases bif_ hr with ⟨hb49, hr⟩ | ⟨hb49, hr⟩
 refine c_true R hb49 (c_skip (q_next (c_seq (c_block (c_seq ?_)))))
 obtain ⟨hg50, hr⟩ := gd hr
 obtain ⟨r57, hx58, hr⟩ := bd hr
 refine c_region (lS R (lI R (t_some 0 sees_ow (show 0 < a1.length by have := hg50; omega) (fun g51 o52 ha => ?_))))
 subst ha
 refine lO (vIa sl56 sz127 R R hg50) (lO (vz (.pointer (some ⟨g51, o52 + i48.toNat * 7, none⟩)) (v_fa fo127_0 R R)) (t_focus (K := kT127) sP127 0 i48 R hg50.1 hg50.2 ?_))
 rintro ⟨⟨A53, D53⟩, ⟨A54, D54⟩, ⟨-, -, ⟨A55, D55⟩⟩, -, ⟨A56, D56⟩⟩
 refine lN (hol kT127 127 (.slice (ad g51 o52) a1.length D2) a46 i48.toNat [(sc A53 ((ix a46 i48).Loops) D53), (sc A54 ((ix a46 i48).Loads) D54), (iv (ix a46 i48).Store.Buffer), (iv (ix a46 i48).Store.Offset), (sc A55 ((ix a46 i48).Store.Steps) D55), (.bool (ix a46 i48).Sum), (sc A56 ((ix a46 i48).Code) D56)] :: OO kT3 3 A53 D53 ((ix a46 i48).Loops) :: OO kT124 124 A54 D54 ((ix a46 i48).Loads) :: OO kT3 3 A55 D55 ((ix a46 i48).Store.Steps) :: OO kT216 216 A56 D56 ((ix a46 i48).Code) :: V) ?_
 refine lO (v_holf (fo := 0) 0 ag29 R R R) (lI R (lM (ow _ _ _ _ :: hol _ _ _ _ _ _ :: ow _ _ _ _ :: ow _ _ _ _ :: ow _ _ _ _ :: V) (fun w s => (s.e 5 [1, 0, 2, 3, 4])) ?_))
 refine lC 1 cb20 R (laws_markIntS_ok hx58) R ?_
 rintro _
 refine lN (ow kT3 3 (.slice A53 ((ix a46 i48).Loops).length D53) r57.2 :: _ :: _ :: _ :: _ :: V) ?_
 refine lI R (l_nil (qM (ow kT127 127 (.slice (ad g51 o52) a1.length D2) (a46.set i48.toNat (⟨r57.2, (ix a46 i48).Loads, (ix a46 i48).Store, (ix a46 i48).Sum, (ix a46 i48).Code⟩ : Kernel)) :: V) (fun w s => St.unfocus (E := [ow kT3 3 (.slice A53 ((ix a46 i48).Loops).length D53) r57.2, OO kT124 124 A54 D54 ((ix a46 i48).Loads), OO kT3 3 A55 D55 ((ix a46 i48).Store.Steps), OO kT216 216 A56 D56 ((ix a46 i48).Code)]) (⟨r57.2, (ix a46 i48).Loads, (ix a46 i48).Store, (ix a46 i48).Sum, (ix a46 i48).Code⟩ : Kernel) (s.e 5 [1, 0, 2, 3, 4]) ?_) ?_))
 exact fun I h s => (mO127).put I h ((sc A53 ((ix a46 i48).Loops) D53), (sc A54 ((ix a46 i48).Loads) D54), ((), (), (sc A55 ((ix a46 i48).Store.Steps) D55)), (), (sc A56 ((ix a46 i48).Code) D56)) (⟨r57.2, (ix a46 i48).Loads, (ix a46 i48).Store, (ix a46 i48).Sum, (ix a46 i48).Code⟩ : Kernel) s
 obtain ⟨l59, hl60, hr⟩ := bd hr
 replace hl60 := Option.some.inj hl60
 refine qM (ow kT127 127 (.slice (ad g51 o52) a1.length D2) l59 :: V) (fun w s => by rw [← hl60]; exact s) ?_
 refine q_next (c_seq ?_)
 obtain ⟨r65, hx66, hr⟩ := bd hr
 refine c_region (lS R (lI R (lO (vIa sl56 sz127 R R hg50) (lO (vz (.pointer (some ⟨g51, o52 + i48.toNat * 7 + 1, none⟩)) (v_fa fo127_1 R R)) (t_focus (K := kT127) sP127 0 i48 R hg50.1 hg50.2 ?_)))))
 rintro ⟨⟨A61, D61⟩, ⟨A62, D62⟩, ⟨-, -, ⟨A63, D63⟩⟩, -, ⟨A64, D64⟩⟩
 refine lN (hol kT127 127 (.slice (ad g51 o52) a1.length D2) l59 i48.toNat [(sc A61 ((ix l59 i48).Loops) D61), (sc A62 ((ix l59 i48).Loads) D62), (iv (ix l59 i48).Store.Buffer), (iv (ix l59 i48).Store.Offset), (sc A63 ((ix l59 i48).Store.Steps) D63), (.bool (ix l59 i48).Sum), (sc A64 ((ix l59 i48).Code) D64)] :: OO kT3 3 A61 D61 ((ix l59 i48).Loops) :: OO kT124 124 A62 D62 ((ix l59 i48).Loads) :: OO kT3 3 A63 D63 ((ix l59 i48).Store.Steps) :: OO kT216 216 A64 D64 ((ix l59 i48).Code) :: V) ?_
 refine lO (v_holf (fo := 1) 0 ag122 R R R) (lI R (lM (ow _ _ _ _ :: hol _ _ _ _ _ _ :: ow _ _ _ _ :: ow _ _ _ _ :: ow _ _ _ _ :: V) (fun w s => (s.e 5 [2, 0, 1, 3, 4])) ?_))
 refine lC 1 cb140 R (laws_markAccessS_ok hx66) R ?_
 rintro _
 refine lN (ow kT124 124 (.slice A62 ((ix l59 i48).Loads).length D62) r65.2 :: _ :: _ :: _ :: _ :: V) ?_
 refine lI R (l_nil (qM (ow kT127 127 (.slice (ad g51 o52) a1.length D2) (l59.set i48.toNat (⟨(ix l59 i48).Loops, r65.2, (ix l59 i48).Store, (ix l59 i48).Sum, (ix l59 i48).Code⟩ : Kernel)) :: V) (fun w s => St.unfocus (E := [OO kT3 3 A61 D61 ((ix l59 i48).Loops), ow kT124 124 (.slice A62 ((ix l59 i48).Loads).length D62) r65.2, OO kT3 3 A63 D63 ((ix l59 i48).Store.Steps), OO kT216 216 A64 D64 ((ix l59 i48).Code)]) (⟨(ix l59 i48).Loops, r65.2, (ix l59 i48).Store, (ix l59 i48).Sum, (ix l59 i48).Code⟩ : Kernel) (s.e 5 [1, 2, 0, 3, 4]) ?_) ?_))
 exact fun I h s => (mO127).put I h ((sc A61 ((ix l59 i48).Loops) D61), (sc A62 ((ix l59 i48).Loads) D62), ((), (), (sc A63 ((ix l59 i48).Store.Steps) D63)), (), (sc A64 ((ix l59 i48).Code) D64)) (⟨(ix l59 i48).Loops, r65.2, (ix l59 i48).Store, (ix l59 i48).Sum, (ix l59 i48).Code⟩ : Kernel) s
 obtain ⟨l67, hl68, hr⟩ := bd hr
 replace hl68 := Option.some.inj hl68
 refine qM (ow kT127 127 (.slice (ad g51 o52) a1.length D2) l67 :: V) (fun w s => by rw [← hl68]; exact s) ?_
 refine q_next (c_seq (c_region (lS R (lI R (lI R (lO (vIa sl56 sz127 R R hg50) (lO (vz (.pointer (some ⟨g51, o52 + i48.toNat * 7 + 2, none⟩)) (v_fa fo127_2 R R)) (lO (vz (.pointer (some ⟨g51, o52 + i48.toNat * 7 + 2, none⟩)) (v_fa fo124_0 R R)) (l_ste (K := kT127) (fo := 2) (v := (iv r65.1)) (f := (fun x : Kernel => (⟨x.Loops, x.Loads, (⟨r65.1, x.Store.Offset, x.Store.Steps⟩ : Access), x.Sum, x.Code⟩ : Kernel))) 0 i48 R R sz3 ?_ R R R R hg50.1 hg50.2 ?_)))))))))
 exact SetL.deep sP127 mO127 (fun a x => ((.slice a.1.1 x.Loops.length a.1.2), (.slice a.2.1.1 x.Loads.length a.2.1.2), ((), (), (.slice a.2.2.1.2.2.1 x.Store.Steps.length a.2.2.1.2.2.2)), (), (.slice a.2.2.2.2.1 x.Code.length a.2.2.2.2.2))) R (fun _ _ => R) (fun _ _ => R)
 refine lN (ow kT127 127 (.slice (ad g51 o52) a1.length D2) (l67.set i48.toNat (⟨(ix l67 i48).Loops, (ix l67 i48).Loads, (⟨r65.1, (ix l67 i48).Store.Offset, (ix l67 i48).Store.Steps⟩ : Access), (ix l67 i48).Sum, (ix l67 i48).Code⟩ : Kernel)) :: V) ?_
 refine l_nil ?_
 obtain ⟨l69, hl70, hr⟩ := bd hr
 replace hl70 := Option.some.inj hl70
 refine qM (ow kT127 127 (.slice (ad g51 o52) a1.length D2) l69 :: V) (fun w s => by rw [← hl70]; exact s) ?_
 refine q_next (c_seq (c_region (lI R (lO (vAd R R) (lI R (l_nil (q_next (c_seq (c_region (lS R (lI R (lI R (lO (vIa sl56 sz127 R R hg50) (lO (vz (.pointer (some ⟨g51, o52 + i48.toNat * 7 + 2, none⟩)) (v_fa fo127_2 R R)) (lO (vz (.pointer (some ⟨g51, o52 + i48.toNat * 7 + 3, none⟩)) (v_fa fo124_1 R R)) (l_ste (K := kT127) (fo := 3) (v := (iv (w64 (r65.1 + (1 : Int))))) (f := (fun x : Kernel => (⟨x.Loops, x.Loads, (⟨x.Store.Buffer, (w64 (r65.1 + (1 : Int))), x.Store.Steps⟩ : Access), x.Sum, x.Code⟩ : Kernel))) 0 i48 R R sz3 ?_ R R R R hg50.1 hg50.2 ?_))))))))))))))))
 exact SetL.deep sP127 mO127 (fun a x => ((.slice a.1.1 x.Loops.length a.1.2), (.slice a.2.1.1 x.Loads.length a.2.1.2), ((), (), (.slice a.2.2.1.2.2.1 x.Store.Steps.length a.2.2.1.2.2.2)), (), (.slice a.2.2.2.2.1 x.Code.length a.2.2.2.2.2))) R (fun _ _ => R) (fun _ _ => R)
 refine lN (ow kT127 127 (.slice (ad g51 o52) a1.length D2) (l69.set i48.toNat (⟨(ix l69 i48).Loops, (ix l69 i48).Loads, (⟨(ix l69 i48).Store.Buffer, (w64 (r65.1 + (1 : Int))), (ix l69 i48).Store.Steps⟩ : Access), (ix l69 i48).Sum, (ix l69 i48).Code⟩ : Kernel)) :: V) ?_
 refine l_nil ?_
 obtain ⟨l71, hl72, hr⟩ := bd hr
 replace hl72 := Option.some.inj hl72
 refine qM (ow kT127 127 (.slice (ad g51 o52) a1.length D2) l71 :: V) (fun w s => by rw [← hl72]; exact s) ?_
 refine q_next (c_seq (c_region (lI R (lO (vAd R R) (lI R (l_nil (q_next (c_seq ?_))))))))
 obtain ⟨r77, hx78, hr⟩ := bd hr
 refine c_region (lS R (lI R (lO (vIa sl56 sz127 R R hg50) (lO (vz (.pointer (some ⟨g51, o52 + i48.toNat * 7 + 2, none⟩)) (v_fa fo127_2 R R)) (lO (vz (.pointer (some ⟨g51, o52 + i48.toNat * 7 + 4, none⟩)) (v_fa fo124_2 R R)) (t_focus (K := kT127) sP127 0 i48 R hg50.1 hg50.2 ?_))))))
 rintro ⟨⟨A73, D73⟩, ⟨A74, D74⟩, ⟨-, -, ⟨A75, D75⟩⟩, -, ⟨A76, D76⟩⟩
 refine lN (hol kT127 127 (.slice (ad g51 o52) a1.length D2) l71 i48.toNat [(sc A73 ((ix l71 i48).Loops) D73), (sc A74 ((ix l71 i48).Loads) D74), (iv (ix l71 i48).Store.Buffer), (iv (ix l71 i48).Store.Offset), (sc A75 ((ix l71 i48).Store.Steps) D75), (.bool (ix l71 i48).Sum), (sc A76 ((ix l71 i48).Code) D76)] :: OO kT3 3 A73 D73 ((ix l71 i48).Loops) :: OO kT124 124 A74 D74 ((ix l71 i48).Loads) :: OO kT3 3 A75 D75 ((ix l71 i48).Store.Steps) :: OO kT216 216 A76 D76 ((ix l71 i48).Code) :: V) ?_
 refine lO (v_holf (fo := 4) 0 ag29 R R R) (lI R (lM (ow _ _ _ _ :: hol _ _ _ _ _ _ :: ow _ _ _ _ :: ow _ _ _ _ :: ow _ _ _ _ :: V) (fun w s => (s.e 5 [3, 0, 1, 2, 4])) ?_))
 refine lC 1 cb20 R (laws_markIntS_ok hx78) R ?_
 rintro _
 refine lN (ow kT3 3 (.slice A75 ((ix l71 i48).Store.Steps).length D75) r77.2 :: _ :: _ :: _ :: _ :: V) ?_
 refine lI R (l_nil (qM (ow kT127 127 (.slice (ad g51 o52) a1.length D2) (l71.set i48.toNat (⟨(ix l71 i48).Loops, (ix l71 i48).Loads, (⟨(ix l71 i48).Store.Buffer, (ix l71 i48).Store.Offset, r77.2⟩ : Access), (ix l71 i48).Sum, (ix l71 i48).Code⟩ : Kernel)) :: V) (fun w s => St.unfocus (E := [OO kT3 3 A73 D73 ((ix l71 i48).Loops), OO kT124 124 A74 D74 ((ix l71 i48).Loads), ow kT3 3 (.slice A75 ((ix l71 i48).Store.Steps).length D75) r77.2, OO kT216 216 A76 D76 ((ix l71 i48).Code)]) (⟨(ix l71 i48).Loops, (ix l71 i48).Loads, (⟨(ix l71 i48).Store.Buffer, (ix l71 i48).Store.Offset, r77.2⟩ : Access), (ix l71 i48).Sum, (ix l71 i48).Code⟩ : Kernel) (s.e 5 [1, 2, 3, 0, 4]) ?_) ?_))
 exact fun I h s => (mO127).put I h ((sc A73 ((ix l71 i48).Loops) D73), (sc A74 ((ix l71 i48).Loads) D74), ((), (), (sc A75 ((ix l71 i48).Store.Steps) D75)), (), (sc A76 ((ix l71 i48).Code) D76)) (⟨(ix l71 i48).Loops, (ix l71 i48).Loads, (⟨(ix l71 i48).Store.Buffer, (ix l71 i48).Store.Offset, r77.2⟩ : Access), (ix l71 i48).Sum, (ix l71 i48).Code⟩ : Kernel) s
 obtain ⟨l79, hl80, hr⟩ := bd hr
 replace hl80 := Option.some.inj hl80
 refine qM (ow kT127 127 (.slice (ad g51 o52) a1.length D2) l79 :: V) (fun w s => by rw [← hl80]; exact s) ?_
 refine q_next (c_seq (c_region (lS R (lI R (lI R (lO (v_rem R R (by decide)) (lO (vEq R R) (lO (vIa sl56 sz127 R R hg50) (lO (vz (.pointer (some ⟨g51, o52 + i48.toNat * 7 + 5, none⟩)) (v_fa fo127_3 R R)) (l_ste (K := kT127) (fo := 5) (v := (.bool ((r77.1.tmod (3 : Int)) == (0 : Int)))) (f := (fun x : Kernel => (⟨x.Loops, x.Loads, x.Store, ((r77.1.tmod (3 : Int)) == (0 : Int)), x.Code⟩ : Kernel))) 0 i48 R R sz4 ?_ R R R R hg50.1 hg50.2 ?_))))))))))
 exact SetL.deep sP127 mO127 (fun a x => ((.slice a.1.1 x.Loops.length a.1.2), (.slice a.2.1.1 x.Loads.length a.2.1.2), ((), (), (.slice a.2.2.1.2.2.1 x.Store.Steps.length a.2.2.1.2.2.2)), (), (.slice a.2.2.2.2.1 x.Code.length a.2.2.2.2.2))) R (fun _ _ => R) (fun _ _ => R)
 refine lN (ow kT127 127 (.slice (ad g51 o52) a1.length D2) (l79.set i48.toNat (⟨(ix l79 i48).Loops, (ix l79 i48).Loads, (ix l79 i48).Store, ((r77.1.tmod (3 : Int)) == (0 : Int)), (ix l79 i48).Code⟩ : Kernel)) :: V) ?_
 refine l_nil ?_
 obtain ⟨l81, hl82, hr⟩ := bd hr
 replace hl82 := Option.some.inj hl82
 refine qM (ow kT127 127 (.slice (ad g51 o52) a1.length D2) l81 :: V) (fun w s => by rw [← hl82]; exact s) ?_
 refine q_next (c_seq (c_region (lI R (lO (vAd R R) (lI R (l_nil (q_next ?_)))))))
 obtain ⟨r87, hx88, hr⟩ := bd hr
 refine c_region (lS R (lI R (lO (vIa sl56 sz127 R R hg50) (lO (vz (.pointer (some ⟨g51, o52 + i48.toNat * 7 + 6, none⟩)) (v_fa fo127_4 R R)) (t_focus (K := kT127) sP127 0 i48 R hg50.1 hg50.2 ?_)))))
 rintro ⟨⟨A83, D83⟩, ⟨A84, D84⟩, ⟨-, -, ⟨A85, D85⟩⟩, -, ⟨A86, D86⟩⟩
 refine lN (hol kT127 127 (.slice (ad g51 o52) a1.length D2) l81 i48.toNat [(sc A83 ((ix l81 i48).Loops) D83), (sc A84 ((ix l81 i48).Loads) D84), (iv (ix l81 i48).Store.Buffer), (iv (ix l81 i48).Store.Offset), (sc A85 ((ix l81 i48).Store.Steps) D85), (.bool (ix l81 i48).Sum), (sc A86 ((ix l81 i48).Code) D86)] :: OO kT3 3 A83 D83 ((ix l81 i48).Loops) :: OO kT124 124 A84 D84 ((ix l81 i48).Loads) :: OO kT3 3 A85 D85 ((ix l81 i48).Store.Steps) :: OO kT216 216 A86 D86 ((ix l81 i48).Code) :: V) ?_
 refine lO (v_holf (fo := 6) 0 ag125 R R R) (lI R (lM (ow _ _ _ _ :: hol _ _ _ _ _ _ :: ow _ _ _ _ :: ow _ _ _ _ :: ow _ _ _ _ :: V) (fun w s => (s.f 5 [4, 1, 0, 4])) ?_))
 refine lC 1 cb141 R (laws_markCalcS_ok hx88) R ?_
 rintro _
 refine lN (ow kT216 216 (.slice A86 ((ix l81 i48).Code).length D86) r87.2 :: _ :: _ :: _ :: _ :: V) ?_
 refine lI R (l_nil (qM (ow kT127 127 (.slice (ad g51 o52) a1.length D2) (l81.set i48.toNat (⟨(ix l81 i48).Loops, (ix l81 i48).Loads, (ix l81 i48).Store, (ix l81 i48).Sum, r87.2⟩ : Kernel)) :: V) (fun w s => St.unfocus (E := [OO kT3 3 A83 D83 ((ix l81 i48).Loops), OO kT124 124 A84 D84 ((ix l81 i48).Loads), OO kT3 3 A85 D85 ((ix l81 i48).Store.Steps), ow kT216 216 (.slice A86 ((ix l81 i48).Code).length D86) r87.2]) (⟨(ix l81 i48).Loops, (ix l81 i48).Loads, (ix l81 i48).Store, (ix l81 i48).Sum, r87.2⟩ : Kernel) (s.f 5 [1, 4, 0, 1]) ?_) ?_))
 exact fun I h s => (mO127).put I h ((sc A83 ((ix l81 i48).Loops) D83), (sc A84 ((ix l81 i48).Loads) D84), ((), (), (sc A85 ((ix l81 i48).Store.Steps) D85)), (), (sc A86 ((ix l81 i48).Code) D86)) (⟨(ix l81 i48).Loops, (ix l81 i48).Loads, (ix l81 i48).Store, (ix l81 i48).Sum, r87.2⟩ : Kernel) s
 obtain ⟨l89, hl90, hr⟩ := bd hr
 replace hl90 := Option.some.inj hl90
 refine qM (ow kT127 127 (.slice (ad g51 o52) a1.length D2) l89 :: V) (fun w s => by rw [← hl90]; exact s) ?_
 refine q_blockn (q_next (c_region (lI R (lO (vAd R R) (lI R (l_nil ?_))))))
 obtain rfl := so hr
 exact qA () (fun w s => s)
 refine c_false R hb49 (c_exit (q_exit ?_))
 obtain rfl := so hr
 obtain rfl := he1 _ R
 have hr := hk1
 refine q_exit (q_block ?_)
 exact qI ((k47, a46), ()) hr (fun w s => s)
 rintro ⟨⟨k94, p95⟩, _⟩ σ1 hr
 replace hr : laws_markKernelS_J1 k94 p95 = some r := hr
 unfold laws_markKernelS_J1 at hr
 refine c_seq (c_region (lI R (lI R (l_nil (q_next (c_ret ?_))))))
 obtain rfl := so hr
 exact qF () (fun w s => s)
theorem laws_markNest_ok {a1 : Nest} {k7 : Int} {r : Int × (List Int) × (List Int) × (List Fix) × (List Kernel) × (List Int)} (hr : laws_markNest a1 k7 = some r) :
 FnOk Try.prog 27 [(.agg [(.slice A2 N2 D2), (.slice A3 N3 D3), (.slice A4 N4 D4), (.slice A5 N5 D5), (.slice A6 N6 D6)].toArray), (iv k7)] [ow kT3 3 (.slice A2 N2 D2) a1.Sizes, ow kT3 3 (.slice A3 N3 D3) a1.Ins, ow kT159 159 (.slice A4 N4 D4) a1.Fixed, ow kT127 127 (.slice A5 N5 D5) a1.Kernels, ow kT3 3 (.slice A6 N6 D6) a1.Outs] (fun (h : Unit) => ((iv r.1), [ow kT3 3 (.slice A2 N2 D2) r.2.1, ow kT3 3 (.slice A3 N3 D3) r.2.2.1, ow kT159 159 (.slice A4 N4 D4) r.2.2.2.1, ow kT127 127 (.slice A5 N5 D5) r.2.2.2.2.1, ow kT3 3 (.slice A6 N6 D6) r.2.2.2.2.2])) := by
 unfold laws_markNest at hr
 refine fn_ok Try.func27 R 26 R R fun C V => ?_
 refine cN (_ :: _ :: _ :: _ :: _ :: V) ?_
 refine cL 0 sees_ow ?_
 rintro rfl
 refine cL 1 sees_ow ?_
 rintro rfl
 refine cL 2 sees_ow ?_
 rintro rfl
 refine cL 3 sees_ow ?_
 rintro rfl
 refine cL 4 sees_ow ?_
 rintro rfl
 refine c_seq (c_region (lBx R (fun b8 => (lI R (l_nil (qM (ow _ _ _ _ :: ow _ _ _ _ :: ow _ _ _ _ :: ow _ _ _ _ :: ow _ _ _ _ :: bxl _ _ _ :: V) (fun w s => (s.f 6 [1, 5, 0, 1])) ?_))))))
 let W1 : List HP := bxl b8 [(sc A2 a1.Sizes D2), (sc A3 a1.Ins D3), (sc A4 a1.Fixed D4), (sc A5 a1.Kernels D5), (sc A6 a1.Outs D6)] 58 :: V
 refine qN (_ :: _ :: _ :: _ :: _ :: W1) ?_
 refine q_next (c_seq ?_)
 obtain ⟨r9, hx10, hr⟩ := bd hr
 refine c_region (lO (vFa 0 fo58_0 R) (lO (vLd 5 ag29 R R R) (lI R (lC 1 cb20 R (laws_markIntS_ok hx10) R ?_))))
 rintro _
 refine lN (ow kT3 3 (.slice A2 a1.Sizes.length D2) r9.2 :: _ :: _ :: _ :: _ :: W1) ?_
 refine lI R (l_nil (q_next (c_seq ?_)))
 obtain ⟨r11, hx12, hr⟩ := bd hr
 refine c_region (lO (vFa 1 fo58_1 R) (lO (vLd 5 ag29 R R R) (lI R (lM (ow _ _ _ _ :: ow _ _ _ _ :: ow _ _ _ _ :: ow _ _ _ _ :: ow _ _ _ _ :: W1) (fun w s => (s.e 5 [1, 0, 2, 3, 4])) ?_))))
 refine lC 1 cb20 R (laws_markIntS_ok hx12) R ?_
 rintro _
 refine lN (ow kT3 3 (.slice A3 a1.Ins.length D3) r11.2 :: _ :: _ :: _ :: _ :: W1) ?_
 refine lI R (l_nil (q_next (c_seq ?_)))
 obtain ⟨r13, hx14, hr⟩ := bd hr
 refine c_region (lO (vFa 2 fo58_2 R) (lO (vLd 5 ag55 R R R) (lI R (lM (ow _ _ _ _ :: ow _ _ _ _ :: ow _ _ _ _ :: ow _ _ _ _ :: ow _ _ _ _ :: W1) (fun w s => (s.e 5 [2, 0, 1, 3, 4])) ?_))))
 refine lC 1 cb79 R (laws_markFixS_ok hx14) R ?_
 rintro _
 refine lN (ow kT159 159 (.slice A4 a1.Fixed.length D4) r13.2 :: _ :: _ :: _ :: _ :: W1) ?_
 refine lI R (l_nil (q_next (c_seq ?_)))
 obtain ⟨r15, hx16, hr⟩ := bd hr
 refine c_region (lO (vFa 3 fo58_3 R) (lO (vLd 5 ag56 R R R) (lI R (lM (ow _ _ _ _ :: ow _ _ _ _ :: ow _ _ _ _ :: ow _ _ _ _ :: ow _ _ _ _ :: W1) (fun w s => (s.e 5 [3, 0, 1, 2, 4])) ?_))))
 refine lC 1 cb80 R (laws_markKernelS_ok hx16) R ?_
 rintro _
 refine lN (ow kT127 127 (.slice A5 a1.Kernels.length D5) r15.2 :: _ :: _ :: _ :: _ :: W1) ?_
 refine lI R (l_nil (q_next (c_seq ?_)))
 obtain ⟨r17, hx18, hr⟩ := bd hr
 refine c_region (lO (vFa 4 fo58_4 R) (lO (vLd 5 ag29 R R R) (lI R (lM (ow _ _ _ _ :: ow _ _ _ _ :: ow _ _ _ _ :: ow _ _ _ _ :: ow _ _ _ _ :: W1) (fun w s => (s.f 5 [4, 1, 0, 4])) ?_))))
 refine lC 1 cb20 R (laws_markIntS_ok hx18) R ?_
 rintro _
 refine lN (ow kT3 3 (.slice A6 a1.Outs.length D6) r17.2 :: _ :: _ :: _ :: _ :: W1) ?_
 refine lI R (l_nil (q_next (c_seq (c_region (lI R (lI R (l_nil (q_next (c_ret ?_)))))))))
 obtain rfl := so hr
 exact qF () (fun w s => (s.e 6 [4, 3, 2, 1, 0]))
theorem laws_markPlan_ok {a1 : Plan} {k8 : Int} {r : Int × (List Int) × (List Int) × (List Fix) × (List Kernel) × (List Int) × (List Int)} (hr : laws_markPlan a1 k8 = some r) :
 FnOk Try.prog 35 [(.agg [(.slice A2 N2 D2), (.slice A3 N3 D3), (.slice A4 N4 D4), (.slice A5 N5 D5), (.slice A6 N6 D6), (.slice A7 N7 D7), (iv a1.Arena)].toArray), (iv k8)] [ow kT3 3 (.slice A2 N2 D2) a1.Nest.Sizes, ow kT3 3 (.slice A3 N3 D3) a1.Nest.Ins, ow kT159 159 (.slice A4 N4 D4) a1.Nest.Fixed, ow kT127 127 (.slice A5 N5 D5) a1.Nest.Kernels, ow kT3 3 (.slice A6 N6 D6) a1.Nest.Outs, ow kT3 3 (.slice A7 N7 D7) a1.Offsets] (fun (h : Unit) => ((iv r.1), [ow kT3 3 (.slice A2 N2 D2) r.2.1, ow kT3 3 (.slice A3 N3 D3) r.2.2.1, ow kT159 159 (.slice A4 N4 D4) r.2.2.2.1, ow kT127 127 (.slice A5 N5 D5) r.2.2.2.2.1, ow kT3 3 (.slice A6 N6 D6) r.2.2.2.2.2.1, ow kT3 3 (.slice A7 N7 D7) r.2.2.2.2.2.2])) := by
 unfold laws_markPlan at hr
 refine fn_ok Try.func35 R 14 R R fun C V => ?_
 refine cN (_ :: _ :: _ :: _ :: _ :: _ :: V) ?_
 refine cL 0 sees_ow ?_
 rintro rfl
 refine cL 1 sees_ow ?_
 rintro rfl
 refine cL 2 sees_ow ?_
 rintro rfl
 refine cL 3 sees_ow ?_
 rintro rfl
 refine cL 4 sees_ow ?_
 rintro rfl
 refine cL 5 sees_ow ?_
 rintro rfl
 refine c_seq (c_region (lBx R (fun b9 => (lI R (l_nil (qM (ow _ _ _ _ :: ow _ _ _ _ :: ow _ _ _ _ :: ow _ _ _ _ :: ow _ _ _ _ :: ow _ _ _ _ :: bxl _ _ _ :: V) (fun w s => (s.f 7 [1, 6, 0, 1])) ?_))))))
 let W1 : List HP := bxl b9 [(sc A2 a1.Nest.Sizes D2), (sc A3 a1.Nest.Ins D3), (sc A4 a1.Nest.Fixed D4), (sc A5 a1.Nest.Kernels D5), (sc A6 a1.Nest.Outs D6), (sc A7 a1.Offsets D7), (iv a1.Arena)] 71 :: V
 refine qN (_ :: _ :: _ :: _ :: _ :: _ :: W1) ?_
 refine q_next (c_seq ?_)
 obtain ⟨r10, hx11, hr⟩ := bd hr
 refine c_region (lO (vFa 0 fo71_0 R) (lO (vz (.agg [(sc A2 a1.Nest.Sizes D2), (sc A3 a1.Nest.Ins D3), (sc A4 a1.Nest.Fixed D4), (sc A5 a1.Nest.Kernels D5), (sc A6 a1.Nest.Outs D6)].toArray) (v_loadw 6 ag58 sz58 R R R R)) (lI R (lC 5 cb27 R (laws_markNest_ok hx11) R ?_))))
 rintro _
 refine lN (ow kT3 3 (.slice A2 a1.Nest.Sizes.length D2) r10.2.1 :: ow kT3 3 (.slice A3 a1.Nest.Ins.length D3) r10.2.2.1 :: ow kT159 159 (.slice A4 a1.Nest.Fixed.length D4) r10.2.2.2.1 :: ow kT127 127 (.slice A5 a1.Nest.Kernels.length D5) r10.2.2.2.2.1 :: ow kT3 3 (.slice A6 a1.Nest.Outs.length D6) r10.2.2.2.2.2 :: _ :: W1) ?_
 refine lI R (l_nil (q_next (c_seq ?_)))
 obtain ⟨r12, hx13, hr⟩ := bd hr
 refine c_region (lO (vFa 5 fo71_1 R) (lO (vLd 6 ag29 R R R) (lI R (lM (ow _ _ _ _ :: ow _ _ _ _ :: ow _ _ _ _ :: ow _ _ _ _ :: ow _ _ _ _ :: ow _ _ _ _ :: W1) (fun w s => (s.f 6 [5, 1, 0, 5])) ?_))))
 refine lC 1 cb20 R (laws_markIntS_ok hx13) R ?_
 rintro _
 refine lN (ow kT3 3 (.slice A7 a1.Offsets.length D7) r12.2 :: _ :: _ :: _ :: _ :: _ :: W1) ?_
 refine lI R (l_nil (q_next (c_seq (c_region (lI R (lI R (l_nil (q_next (c_ret ?_)))))))))
 obtain rfl := so hr
 exact qF () (fun w s => (s.f 7 [1, 5, 0, 1]))
theorem laws_markInstrS_ok {a1 : (List Instr)} {k3 : Int} {r : Int × (List Instr)} (hr : laws_markInstrS a1 k3 = some r) :
 FnOk Try.prog 36 [(.slice A2 N2 D2), (iv k3)] [ow kT119 119 (.slice A2 N2 D2) a1] (fun (h : Unit) => ((iv r.1), [ow kT119 119 (.slice A2 N2 D2) r.2])) := by
 unfold laws_markInstrS at hr
 refine fn_ok Try.func36 R 41 R R fun C V => ?_
 refine cN (_ :: V) ?_
 refine cL 0 sees_ow ?_
 rintro rfl
 refine c_seq (c_region (lI R (l_nil (q_next (c_seq (c_cut (A := (Int × (List Instr)) × (Unit)) (fun a => laws_markInstrS_J1 a.1.1 a.1.2 = some r) (fun a => [(1, (iv a.1.1))]) (fun a => ow kT119 119 (.slice A2 a1.length D2) a.1.2 :: V) ?_ ?_))))))
 refine c_seq (c_region (lI R (l_nil (q_next (c_block ?_)))))
 obtain ⟨e1, hl1, hk1⟩ := bd hr
 refine c_loop (A := Unit) hl1 (fun s a => [(0, (sc A2 a1 D2)), (1, (iv s.2.1)), (5, (iv s.2.2))]) (fun s a => ow kT119 119 (.slice A2 a1.length D2) s.1 :: V) () (aS R) (fun w s => s) ?_
 rintro ⟨a16, k17, i18⟩ _ σ1 out1 hr he1
 replace hr : laws_markInstrS_L1 a1 a16 k17 i18 = some out1 := hr
 unfold laws_markInstrS_L1 at hr
 refine c_seq (c_seq (c_region (lI R (lS R (lO (v_len sl67 R) (lO (vLt R R) (l_nil (q_next ?_))))))))
 rcases bif_ hr with ⟨hb19, hr⟩ | ⟨hb19, hr⟩
 refine c_true R hb19 (c_skip (q_next (c_seq (c_block (c_seq ?_)))))
 obtain ⟨hg20, hr⟩ := gd hr
 refine c_region (lS R (lI R (lI R (t_some 0 sees_ow (show 0 < a1.length by have := hg20; omega) (fun g21 o22 ha => ?_)))))
 subst ha
 refine lO (vIa sl67 sz119 R R hg20) (lO (vz (.pointer (some ⟨g21, o22 + i18.toNat * 4, none⟩)) (v_fa fo119_0 R R)) (l_ste (K := kT119) (fo := 0) (v := (iv k17)) (f := (fun x : Instr => (⟨k17, x.A, x.B, x.C⟩ : Instr))) 0 i18 R R sz3 ?_ R R R R hg20.1 hg20.2 ?_))
 exact SetL.flat sP119 mO119 ((), (), (), ()) R (fun _ _ => R) (fun _ => R) (fun _ _ => R)
 refine lN (ow kT119 119 (.slice (ad g21 o22) a1.length D2) (a16.set i18.toNat (⟨k17, (ix a16 i18).A, (ix a16 i18).B, (ix a16 i18).C⟩ : Instr)) :: V) ?_
 refine l_nil ?_
 obtain ⟨l23, hl24, hr⟩ := bd hr
 replace hl24 := Option.some.inj hl24
 refine qM (ow kT119 119 (.slice (ad g21 o22) a1.length D2) l23 :: V) (fun w s => by rw [← hl24]; exact s) ?_
 refine q_next (c_seq (c_region (lI R (lO (vAd R R) (lI R (l_nil (q_next (c_seq (c_region (lS R (lI R (lI R (lO (vIa sl67 sz119 R R hg20) (lO (vz (.pointer (some ⟨g21, o22 + i18.toNat * 4 + 1, none⟩)) (v_fa fo119_1 R R)) (l_ste (K := kT119) (fo := 1) (v := (iv (w64 (k17 + (1 : Int))))) (f := (fun x : Instr => (⟨x.Op, (w64 (k17 + (1 : Int))), x.B, x.C⟩ : Instr))) 0 i18 R R sz3 ?_ R R R R hg20.1 hg20.2 ?_)))))))))))))))
 exact SetL.flat sP119 mO119 ((), (), (), ()) R (fun _ _ => R) (fun _ => R) (fun _ _ => R)
 refine lN (ow kT119 119 (.slice (ad g21 o22) a1.length D2) (l23.set i18.toNat (⟨(ix l23 i18).Op, (w64 (k17 + (1 : Int))), (ix l23 i18).B, (ix l23 i18).C⟩ : Instr)) :: V) ?_
 refine l_nil ?_
 obtain ⟨l25, hl26, hr⟩ := bd hr
 replace hl26 := Option.some.inj hl26
 refine qM (ow kT119 119 (.slice (ad g21 o22) a1.length D2) l25 :: V) (fun w s => by rw [← hl26]; exact s) ?_
 refine q_next (c_seq (c_region (lI R (lO (vAd R R) (lI R (l_nil (q_next (c_seq (c_region (lS R (lI R (lI R (lO (vIa sl67 sz119 R R hg20) (lO (vz (.pointer (some ⟨g21, o22 + i18.toNat * 4 + 2, none⟩)) (v_fa fo119_2 R R)) (l_ste (K := kT119) (fo := 2) (v := (iv (w64 ((w64 (k17 + (1 : Int))) + (1 : Int))))) (f := (fun x : Instr => (⟨x.Op, x.A, (w64 ((w64 (k17 + (1 : Int))) + (1 : Int))), x.C⟩ : Instr))) 0 i18 R R sz3 ?_ R R R R hg20.1 hg20.2 ?_)))))))))))))))
 exact SetL.flat sP119 mO119 ((), (), (), ()) R (fun _ _ => R) (fun _ => R) (fun _ _ => R)
 refine lN (ow kT119 119 (.slice (ad g21 o22) a1.length D2) (l25.set i18.toNat (⟨(ix l25 i18).Op, (ix l25 i18).A, (w64 ((w64 (k17 + (1 : Int))) + (1 : Int))), (ix l25 i18).C⟩ : Instr)) :: V) ?_
 refine l_nil ?_
 obtain ⟨l27, hl28, hr⟩ := bd hr
 replace hl28 := Option.some.inj hl28
 refine qM (ow kT119 119 (.slice (ad g21 o22) a1.length D2) l27 :: V) (fun w s => by rw [← hl28]; exact s) ?_
 refine q_next (c_seq (c_region (lI R (lO (vAd R R) (lI R (l_nil (q_next (c_seq (c_region (lS R (lI R (lI R (lO (vIa sl67 sz119 R R hg20) (lO (vz (.pointer (some ⟨g21, o22 + i18.toNat * 4 + 3, none⟩)) (v_fa fo119_3 R R)) (l_ste (K := kT119) (fo := 3) (v := (iv (w64 ((w64 ((w64 (k17 + (1 : Int))) + (1 : Int))) + (1 : Int))))) (f := (fun x : Instr => (⟨x.Op, x.A, x.B, (w64 ((w64 ((w64 (k17 + (1 : Int))) + (1 : Int))) + (1 : Int)))⟩ : Instr))) 0 i18 R R sz3 ?_ R R R R hg20.1 hg20.2 ?_)))))))))))))))
 exact SetL.flat sP119 mO119 ((), (), (), ()) R (fun _ _ => R) (fun _ => R) (fun _ _ => R)
 refine lN (ow kT119 119 (.slice (ad g21 o22) a1.length D2) (l27.set i18.toNat (⟨(ix l27 i18).Op, (ix l27 i18).A, (ix l27 i18).B, (w64 ((w64 ((w64 (k17 + (1 : Int))) + (1 : Int))) + (1 : Int)))⟩ : Instr)) :: V) ?_
 refine l_nil ?_
 obtain ⟨l29, hl30, hr⟩ := bd hr
 replace hl30 := Option.some.inj hl30
 refine qM (ow kT119 119 (.slice (ad g21 o22) a1.length D2) l29 :: V) (fun w s => by rw [← hl30]; exact s) ?_
 refine q_next (c_region (lI R (lO (vAd R R) (lI R (l_nil (q_blockn (q_next (c_region (lI R (lO (vAd R R) (lI R (l_nil ?_))))))))))))
 obtain rfl := so hr
 exact qA () (fun w s => s)
 refine c_false R hb19 (c_exit (q_exit ?_))
 obtain rfl := so hr
 obtain rfl := he1 _ R
 have hr := hk1
 refine q_exit (q_block ?_)
 exact qI ((k17, a16), ()) hr (fun w s => s)
 rintro ⟨⟨k34, p35⟩, _⟩ σ1 hr
 replace hr : laws_markInstrS_J1 k34 p35 = some r := hr
 unfold laws_markInstrS_J1 at hr
 refine c_seq (c_region (lI R (lI R (l_nil (q_next (c_ret ?_))))))
 obtain rfl := so hr
 exact qF () (fun w s => s)
theorem laws_heldInstrS_ok {a1 : (List Instr)} {k3 : Int} {r : Int} (hr : laws_heldInstrS a1 k3 = some r) :
 FnOk Try.prog 37 [(.slice A2 N2 D2), (iv k3)] [rds kT119 (.slice A2 N2 D2) a1] (fun (h : Unit) => ((iv r), [])) := by
 unfold laws_heldInstrS at hr
 refine fn_ok Try.func37 R 49 R R fun C V => ?_
 refine cN (_ :: V) ?_
 refine cL 0 sees_rd ?_
 rintro rfl
 let W0 : List HP := RR kT119 A2 D2 a1 :: V
 refine cN W0 ?_
 refine c_seq (c_region (lI R (l_nil (q_next (c_seq (c_cut (A := (Int) × (Unit)) (fun a => laws_heldInstrS_J1 a.1 = some r) (fun a => [(1, (iv a.1))]) (fun a => W0) ?_ ?_))))))
 refine c_seq (c_region (lI R (l_nil (q_next (c_block ?_)))))
 obtain ⟨e1, hl1, hk1⟩ := bd hr
 refine c_loop (A := Unit) hl1 (fun s a => [(0, (sc A2 a1 D2)), (1, (iv s.1)), (5, (iv s.2))]) (fun s a => W0) () (aS R) (fun w s => s) ?_
 rintro ⟨k12, i13⟩ _ σ1 out1 hr he1
 replace hr : laws_heldInstrS_L1 a1 k12 i13 = some out1 := hr
 unfold laws_heldInstrS_L1 at hr
 refine c_seq (c_seq (c_region (lI R (lS R (lO (v_len sl67 R) (lO (vLt R R) (l_nil (q_next ?_))))))))
 rcases bif_ hr with ⟨hb14, hr⟩ | ⟨hb14, hr⟩
 refine c_true R hb14 (c_skip (q_next (c_seq (c_block (c_seq (c_seq ?_))))))
 obtain ⟨hg15, hr⟩ := gd hr
 refine c_region (lS R (lI R (t_some 0 sees_rd (show 0 < a1.length by have := hg15; omega) (fun g16 o17 ha => ?_))))
 subst ha
 refine lO (vIa sl67 sz119 R R hg15) (lO (vz (.pointer (some ⟨g16, o17 + i13.toNat * 4, none⟩)) (v_fa fo119_0 R R)) (lO (vz (iv (ix a1 i13).Op) (v_lde (K := kT119) (fo := 0) (pr := fun x => (iv x.Op)) 0 i13 ag3 (dT119.leaf fun _ _ => R) sees_rd R hg15.1 hg15.2)) (lI R (lO (vNe R R) (l_nil (q_next ?_))))))
 rcases bif_ hr with ⟨hb18, hr⟩ | ⟨hb18, hr⟩
 refine c_true R hb18 (c_seq (c_region (lI R (l_nil (q_next (c_ret (q_ret (q_blockr (q_ret ?_)))))))))
 obtain rfl := so hr
 obtain rfl := he1 _ R
 have hr := hk1
 refine q_ret (q_blockr (q_ret ?_))
 obtain rfl := so hr
 exact qF () (fun w s => (s.e 1 []))
 refine c_false R hb18 (c_skip (q_next (c_seq (c_region (lI R (lO (vAd R R) (lI R (l_nil (q_next (c_seq (c_seq (c_region (lS R (lI R (lO (vIa sl67 sz119 R R hg15) (lO (vz (.pointer (some ⟨g16, o17 + i13.toNat * 4 + 1, none⟩)) (v_fa fo119_1 R R)) (lO (vz (iv (ix a1 i13).A) (v_lde (K := kT119) (fo := 1) (pr := fun x => (iv x.A)) 0 i13 ag3 (dT119.leaf fun _ _ => R) sees_rd R hg15.1 hg15.2)) (lI R (lO (vNe R R) (l_nil (q_next ?_)))))))))))))))))))))
 rcases bif_ hr with ⟨hb19, hr⟩ | ⟨hb19, hr⟩
 refine c_true R hb19 (c_seq (c_region (lI R (l_nil (q_next (c_ret (q_ret (q_blockr (q_ret ?_)))))))))
 obtain rfl := so hr
 obtain rfl := he1 _ R
 have hr := hk1
 refine q_ret (q_blockr (q_ret ?_))
 obtain rfl := so hr
 exact qF () (fun w s => (s.e 1 []))
 refine c_false R hb19 (c_skip (q_next (c_seq (c_region (lI R (lO (vAd R R) (lI R (l_nil (q_next (c_seq (c_seq (c_region (lS R (lI R (lO (vIa sl67 sz119 R R hg15) (lO (vz (.pointer (some ⟨g16, o17 + i13.toNat * 4 + 2, none⟩)) (v_fa fo119_2 R R)) (lO (vz (iv (ix a1 i13).B) (v_lde (K := kT119) (fo := 2) (pr := fun x => (iv x.B)) 0 i13 ag3 (dT119.leaf fun _ _ => R) sees_rd R hg15.1 hg15.2)) (lI R (lO (vNe R R) (l_nil (q_next ?_)))))))))))))))))))))
 rcases bif_ hr with ⟨hb20, hr⟩ | ⟨hb20, hr⟩
 refine c_true R hb20 (c_seq (c_region (lI R (l_nil (q_next (c_ret (q_ret (q_blockr (q_ret ?_)))))))))
 obtain rfl := so hr
 obtain rfl := he1 _ R
 have hr := hk1
 refine q_ret (q_blockr (q_ret ?_))
 obtain rfl := so hr
 exact qF () (fun w s => (s.e 1 []))
 refine c_false R hb20 (c_skip (q_next (c_seq (c_region (lI R (lO (vAd R R) (lI R (l_nil (q_next (c_seq (c_seq (c_region (lS R (lI R (lO (vIa sl67 sz119 R R hg15) (lO (vz (.pointer (some ⟨g16, o17 + i13.toNat * 4 + 3, none⟩)) (v_fa fo119_3 R R)) (lO (vz (iv (ix a1 i13).C) (v_lde (K := kT119) (fo := 3) (pr := fun x => (iv x.C)) 0 i13 ag3 (dT119.leaf fun _ _ => R) sees_rd R hg15.1 hg15.2)) (lI R (lO (vNe R R) (l_nil (q_next ?_)))))))))))))))))))))
 rcases bif_ hr with ⟨hb21, hr⟩ | ⟨hb21, hr⟩
 refine c_true R hb21 (c_seq (c_region (lI R (l_nil (q_next (c_ret (q_ret (q_blockr (q_ret ?_)))))))))
 obtain rfl := so hr
 obtain rfl := he1 _ R
 have hr := hk1
 refine q_ret (q_blockr (q_ret ?_))
 obtain rfl := so hr
 exact qF () (fun w s => (s.e 1 []))
 refine c_false R hb21 (c_skip (q_next (c_region (lI R (lO (vAd R R) (lI R (l_nil (q_blockn (q_next (c_region (lI R (lO (vAd R R) (lI R (l_nil ?_))))))))))))))
 obtain rfl := so hr
 exact qA () (fun w s => s)
 refine c_false R hb14 (c_exit (q_exit ?_))
 obtain rfl := so hr
 obtain rfl := he1 _ R
 have hr := hk1
 refine q_exit (q_block ?_)
 exact qI (k12, ()) hr (fun w s => s)
 rintro ⟨k24, _⟩ σ1 hr
 replace hr : laws_heldInstrS_J1 k24 = some r := hr
 unfold laws_heldInstrS_J1 at hr
 refine c_seq (c_region (lI R (lI R (l_nil (q_next (c_ret ?_))))))
 obtain rfl := so hr
 exact qF () (fun w s => (s.e 1 []))
end Go.Proofs.Ytbdchgofcejiiaa
