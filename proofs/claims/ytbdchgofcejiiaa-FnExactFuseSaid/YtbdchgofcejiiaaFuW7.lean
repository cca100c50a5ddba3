import Derived.Test.YtbdchgofcejiiaaFuW6
set_option linter.unusedVariables false
set_option maxRecDepth 20000
namespace Go.Proofs.Ytbdchgofcejiiaa
open Go Go.Pg
variable {A2 A3 A4 A5 A6 A7 A8 A9 A10 A11 A12 : Option Addr} {D2 D3 D4 D5 D6 D7 D8 D9 D10 D11 D12 N2 N3 N4 N5 N6 N7 N8 N9 N10 N11 N12 : Nat}
theorem impl_fuseOnce_ok {l1 : Nest} {b2 : Nat} {r : Bool × Nest} (hr : impl_fuseOnce l1 = some r) :
 FnOk Try.prog 76 [(pt b2 0)] [rds kT3 (.slice A3 N3 D3) l1.Sizes, rds kT3 (.slice A4 N4 D4) l1.Ins, rds kT159 (.slice A5 N5 D5) l1.Fixed, ow (kT127).share 127 (.slice A6 N6 D6) l1.Kernels, rds kT3 (.slice A7 N7 D7) l1.Outs, bxl b2 [(.slice A3 N3 D3), (.slice A4 N4 D4), (.slice A5 N5 D5), (.slice A6 N6 D6), (.slice A7 N7 D7)] 58] (fun (h : HH × HH × HH × HH × HH) => ((.bool r.1), [rds kT3 (.slice h.1.1 h.1.2.1 h.1.2.2) r.2.Sizes, rds kT3 (.slice h.2.1.1 h.2.1.2.1 h.2.1.2.2) r.2.Ins, rds kT159 (.slice h.2.2.1.1 h.2.2.1.2.1 h.2.2.1.2.2) r.2.Fixed, ow (kT127).share 127 (.slice h.2.2.2.1.1 h.2.2.2.1.2.1 h.2.2.2.1.2.2) r.2.Kernels, rds kT3 (.slice h.2.2.2.2.1 h.2.2.2.2.2.1 h.2.2.2.2.2.2) r.2.Outs, bxl b2 [(.slice h.1.1 h.1.2.1 h.1.2.2), (.slice h.2.1.1 h.2.1.2.1 h.2.1.2.2), (.slice h.2.2.1.1 h.2.2.1.2.1 h.2.2.1.2.2), (.slice h.2.2.2.1.1 h.2.2.2.1.2.1 h.2.2.2.1.2.2), (.slice h.2.2.2.2.1 h.2.2.2.2.2.1 h.2.2.2.2.2.2)] 58])) := by
 unfold impl_fuseOnce at hr
 refine fn_ok Try.func76 R 57 R R fun C V => ?_
 refine cM (ow _ _ _ _ :: bxl _ _ _ :: rds _ _ _ :: rds _ _ _ :: rds _ _ _ :: rds _ _ _ :: V) (fun w s => (s.e 6 [3, 5, 0, 1, 2, 4])) ?_
 refine cL 0 sees_sh ?_
 rintro rfl
 refine cL 2 sees_rd ?_
 rintro rfl
 refine cL 3 sees_rd ?_
 rintro rfl
 refine cL 4 sees_rd ?_
 rintro rfl
 refine cL 5 sees_rd ?_
 rintro rfl
 let W0 : List HP := RR kT3 A3 D3 l1.Sizes :: RR kT3 A4 D4 l1.Ins :: RR kT159 A5 D5 l1.Fixed :: RR kT3 A7 D7 l1.Outs :: V
 refine cN (_ :: bxl b2 [(sc A3 l1.Sizes D3), (sc A4 l1.Ins D4), (sc A5 l1.Fixed D5), (sc A6 l1.Kernels D6), (sc A7 l1.Outs D7)] 58 :: W0) ?_
 refine c_seq (c_region (lB R (l_nil (q_next (c_seq (c_cut (A := (Unit) × (HH)) (fun a => impl_fuseOnce_J3 l1 = some r) (fun a => []) (fun a => bxl b2 [(sc A3 l1.Sizes D3), (sc A4 l1.Ins D4), (sc A5 l1.Fixed D5), (.slice a.2.1 a.2.2.1 a.2.2.2), (sc A7 l1.Outs D7)] 58 :: ow (kT127).share 127 (.slice a.2.1 a.2.2.1 a.2.2.2) l1.Kernels :: W0) ?_ ?_))))))
 refine c_seq (c_region (lP R (lP R (lO (vFa 3 fo58_3 R) (lO (vLd 1 ag56 R R R) (lO (v_len sl56 R) (lI R (l_nil (q_next (c_block ?_))))))))))
 obtain ⟨e1, hl1, hk1⟩ := bd hr
 refine c_loop (A := HH) hl1 (fun s a => [(0, (pt b2 0)), (11, (.slice a.1 a.2.1 a.2.2)), (12, (il l1.Kernels)), (13, (iv s))]) (fun s a => bxl b2 [(sc A3 l1.Sizes D3), (sc A4 l1.Ins D4), (sc A5 l1.Fixed D5), (.slice a.1 a.2.1 a.2.2), (sc A7 l1.Outs D7)] 58 :: ow (kT127).share 127 (.slice a.1 a.2.1 a.2.2) l1.Kernels :: W0) (A6, l1.Kernels.length, D6) (aS R) (fun w s => (s.e 2 [1, 0])) ?_
 rintro x43 ⟨A42, N42, D42⟩ σ1 out1 hr he1
 replace hr : impl_fuseOnce_L1 l1 x43 = some out1 := hr
 unfold impl_fuseOnce_L1 at hr
 refine c_len 1 sees_sh (fun (hn : N42 = l1.Kernels.length) => ?_)
 subst hn
 refine c_seq (c_region (lO (vLt R R) (l_nil (q_next (c_seq ?_)))))
 rcases bif_ hr with ⟨hb44, hr⟩ | ⟨hb44, hr⟩
 refine c_true R hb44 (c_skip (q_next (c_seq (c_cut (A := (Unit) × (HH)) (fun a => impl_fuseOnce_J2 x43 = some out1) (fun a => [(0, (pt b2 0)), (11, (.slice a.2.1 a.2.2.1 a.2.2.2)), (12, (il l1.Kernels)), (13, (iv x43))]) (fun a => bxl b2 [(sc A3 l1.Sizes D3), (sc A4 l1.Ins D4), (sc A5 l1.Fixed D5), (.slice a.2.1 a.2.2.1 a.2.2.2), (sc A7 l1.Outs D7)] 58 :: ow (kT127).share 127 (.slice a.2.1 a.2.2.1 a.2.2.2) l1.Kernels :: W0) ?_ ?_))))
 refine c_block (c_seq ?_)
 obtain ⟨hg45, hr⟩ := gd hr
 refine c_region (lI R (t_some 1 sees_sh (show 0 < l1.Kernels.length by have := hg45; omega) (fun g46 o47 ha => ?_)))
 subst ha
 refine lO (vIa sl56 sz127 R R hg45) (l_ldo (K := (kT127).share) 1 x43 R R ag127 sz127 dT127.own R R hg45.1 hg45.2 ?_)
 rintro ⟨⟨A48, D48⟩, ⟨A49, D49⟩, ⟨-, -, ⟨A50, D50⟩⟩, -, ⟨A51, D51⟩⟩
 refine lN (RR kT3 A48 D48 ((ix l1.Kernels x43).Loops) :: RR kT124 A49 D49 ((ix l1.Kernels x43).Loads) :: RR kT3 A50 D50 ((ix l1.Kernels x43).Store.Steps) :: RR kT216 A51 D51 ((ix l1.Kernels x43).Code) :: bxl b2 [(sc A3 l1.Sizes D3), (sc A4 l1.Ins D4), (sc A5 l1.Fixed D5), (sc (ad g46 o47) l1.Kernels D42), (sc A7 l1.Outs D7)] 58 :: OO (kT127).share 127 (ad g46 o47) D42 l1.Kernels :: W0) ?_
 refine l_alloc R R zc127 (fun b52 => (lI R (l_stores 0 R R sz127 R R R R R R (lN (bxl b52 [(sc A48 ((ix l1.Kernels x43).Loops) D48), (sc A49 ((ix l1.Kernels x43).Loads) D49), (iv (ix l1.Kernels x43).Store.Buffer), (iv (ix l1.Kernels x43).Store.Offset), (sc A50 ((ix l1.Kernels x43).Store.Steps) D50), (.bool (ix l1.Kernels x43).Sum), (sc A51 ((ix l1.Kernels x43).Code) D51)] 127 :: _ :: _ :: _ :: _ :: _ :: _ :: W0) ?_))))
 refine l_nil (q_next (c_seq ?_))
 obtain ⟨r53, hx54, hr⟩ := bd hr
 refine c_region (lP R (lP R (lO (vz (.agg [(sc A3 l1.Sizes D3), (sc A4 l1.Ins D4), (sc A5 l1.Fixed D5), (sc (ad g46 o47) l1.Kernels D42), (sc A7 l1.Outs D7)].toArray) (v_loadw 5 ag58 sz58 R R R R)) (lI R (lM (ow _ _ _ _ :: RR kT3 A3 D3 l1.Sizes :: RR kT3 A4 D4 l1.Ins :: RR kT159 A5 D5 l1.Fixed :: RR kT3 A7 D7 l1.Outs :: bxl _ _ _ :: rds _ _ _ :: rds _ _ _ :: rds _ _ _ :: rds _ _ _ :: bxl _ _ _ :: W0) (fun w s => (((((s.d 7 R).d 9 R).d 11 R).d 13 R).e 11 [10, 3, 2, 1, 0, 4, 5, 6, 7, 8, 9])) ?_)))))
 refine lC 5 cb135 R (FnOk.lends (A' := [OO (kT127).share 127 (ad g46 o47) D42 l1.Kernels]) (A := [RR kT127 (ad g46 o47) D42 l1.Kernels]) (B := [RR kT3 A3 D3 l1.Sizes, RR kT3 A4 D4 l1.Ins, RR kT159 A5 D5 l1.Fixed, RR kT3 A7 D7 l1.Outs]) (FnOk.perm (impl_Nest_taker_ok hx54) (Pre' := [RR kT127 (ad g46 o47) D42 l1.Kernels, RR kT3 A3 D3 l1.Sizes, RR kT3 A4 D4 l1.Ins, RR kT159 A5 D5 l1.Fixed, RR kT3 A7 D7 l1.Outs]) (fun _ _ _ s => (s.e 5 [1, 2, 3, 0, 4]))) ⟨lend_sh, trivial⟩ (fun _ => trivial)) R ?_
 rintro _
 refine lN (_ :: _ :: _ :: _ :: _ :: _ :: _ :: W0) ?_
 refine lI R (l_nil (q_next (c_seq (c_seq (c_region (lI R (lO (vLt R R) (l_nil (q_next ?_)))))))))
 rcases bif_ hr with ⟨hb55, hr⟩ | ⟨hb55, hr⟩
 refine c_true R hb55 (c_exit (q_exit (q_block ?_)))
 exact qI ((), ((ad g46 o47), l1.Kernels.length, D42)) hr (fun w s => (s.e 7 [6, 0]))
 refine c_false R hb55 (c_skip (q_next (c_seq ?_)))
 obtain ⟨hg56, hr⟩ := gd hr
 obtain ⟨r61, hx62, hr⟩ := bd hr
 refine c_cutq (A := (Unit) × (Nat × HH × HH × HH × HH)) (fun _ => True) (fun a => [(0, (pt b2 0)), (3, (iv x43)), (5, (iv r53)), (6, (pt a.2.1 0)), (7, (.bool r61.2)), (11, (sc (ad g46 o47) l1.Kernels D42)), (12, (il l1.Kernels)), (13, (iv x43))]) (fun a => bxl b2 [(sc A3 l1.Sizes D3), (sc A4 l1.Ins D4), (sc A5 l1.Fixed D5), (sc (ad g46 o47) l1.Kernels D42), (sc A7 l1.Outs D7)] 58 :: OO (kT127).share 127 (ad g46 o47) D42 l1.Kernels :: bxl a.2.1 [(.slice a.2.2.1.1 a.2.2.1.2.1 a.2.2.1.2.2), (.slice a.2.2.2.1.1 a.2.2.2.1.2.1 a.2.2.2.1.2.2), (iv r61.1.Store.Buffer), (iv r61.1.Store.Offset), (.slice a.2.2.2.2.1.1 a.2.2.2.2.1.2.1 a.2.2.2.2.1.2.2), (.bool r61.1.Sum), (.slice a.2.2.2.2.2.1 a.2.2.2.2.2.2.1 a.2.2.2.2.2.2.2)] 127 :: rds kT3 (.slice a.2.2.1.1 a.2.2.1.2.1 a.2.2.1.2.2) r61.1.Loops :: ow (kT124).share 124 (.slice a.2.2.2.1.1 a.2.2.2.1.2.1 a.2.2.2.1.2.2) r61.1.Loads :: rds kT3 (.slice a.2.2.2.2.1.1 a.2.2.2.2.1.2.1 a.2.2.2.2.1.2.2) r61.1.Store.Steps :: ow kT216 216 (.slice a.2.2.2.2.2.1 a.2.2.2.2.2.2.1 a.2.2.2.2.2.2.2) r61.1.Code :: W0) ?_ ?_
 refine cdr 15 [] mixo (fun ht hn => (dR 0 R (vz (.agg [(sc A48 ((ix l1.Kernels x43).Loops) D48), (sc A49 ((ix l1.Kernels x43).Loads) D49), (iv (ix l1.Kernels x43).Store.Buffer), (iv (ix l1.Kernels x43).Store.Offset), (sc A50 ((ix l1.Kernels x43).Store.Steps) D50), (.bool (ix l1.Kernels x43).Sum), (sc A51 ((ix l1.Kernels x43).Code) D51)].toArray) (v_loadw 1 ag127 sz127 R R R R)) (dR 1 R (vP R) (dR 2 R (vP R) (dR 3 R (vFa 3 fo58_3 R) (dR 4 R (vLd 6 ag56 R R R) (dR 5 R (vI R) (dR 6 R (vIa sl56 sz127 R R hg56) (d_all [7, 12] (by kernel_rfl) R ⟨?_, ?_, trivial⟩)))))))))
 refine l_ldo (K := (kT127).share) 0 r53 R R ag127 sz127 dT127.own R R hg56.1 hg56.2 ?_
 rintro ⟨⟨A57, D57⟩, ⟨A58, D58⟩, ⟨-, -, ⟨A59, D59⟩⟩, -, ⟨A60, D60⟩⟩
 refine lN (RR kT3 A57 D57 ((ix l1.Kernels r53).Loops) :: RR kT124 A58 D58 ((ix l1.Kernels r53).Loads) :: RR kT3 A59 D59 ((ix l1.Kernels r53).Store.Steps) :: RR kT216 A60 D60 ((ix l1.Kernels r53).Code) :: _ :: _ :: _ :: _ :: _ :: _ :: _ :: W0) ?_
 refine l_nil (q_draw (sL [3, 2, 1, 0]) (d_all [8, 12] (by kernel_rfl) R ⟨?_, ?_, trivial⟩))
 refine lM (rds _ _ _ :: rds _ _ _ :: rds _ _ _ :: rds _ _ _ :: rds _ _ _ :: rds _ _ _ :: rds _ _ _ :: rds _ _ _ :: rds _ _ _ :: rds _ _ _ :: rds _ _ _ :: rds _ _ _ :: ow _ _ _ _ :: bxl _ _ _ :: rds _ _ _ :: rds _ _ _ :: rds _ _ _ :: rds _ _ _ :: bxl _ _ _ :: W0) (fun w s => (((((((((s.d 6 R).d 8 R).d 10 R).d 12 R).d 4 R).d 6 R).d 8 R).d 10 R).f 19 [7, 1, 6, 1, 5, 1, 4, 1, 3, 1, 2, 1, 1, 1, 0, 1, 8, 11])) ?_
 refine lC 8 cb136 R (impl_fused_ok hx62) R ?_
 rintro ⟨⟨A63, N63, D63⟩, ⟨A64, N64, D64⟩, ⟨A65, N65, D65⟩, ⟨A66, N66, D66⟩⟩
 refine lN (rds kT3 (.slice A63 N63 D63) r61.1.Loops :: ow (kT124).share 124 (.slice A64 N64 D64) r61.1.Loads :: rds kT3 (.slice A65 N65 D65) r61.1.Store.Steps :: ow kT216 216 (.slice A66 N66 D66) r61.1.Code :: _ :: _ :: _ :: _ :: _ :: _ :: _ :: _ :: _ :: _ :: _ :: W0) ?_
 refine l_len 0 sees_rd ?_
 rintro rfl
 refine l_len 1 sees_sh ?_
 rintro rfl
 refine l_len 2 sees_rd ?_
 rintro rfl
 refine l_len 3 sees_ow ?_
 rintro rfl
 refine l_nil (q_draw (sL [7, 6, 5, 4, 3, 2, 1, 0]) (dR 9 R (vT R) (hS := (sL [7, 6, 5, 4, 3, 2, 1, 0])) (dR 10 R (vA R) (hS := (sL [7, 6, 5, 4, 3, 2, 1, 0])) (dR 11 R (vB R) (hS := (sL [7, 6, 5, 4, 3, 2, 1, 0])) (d_one 12 (by kernel_rfl) R (l_alloc R R zc127 (fun b67 => (l_nil (q_draw (sL [8, 7, 6, 5, 4, 3, 2, 1, 0]) (d_one 13 (by kernel_rfl) R (l_stores 0 R R sz127 R R R R R R (lN (bxl b67 [(sc A63 r61.1.Loops D63), (sc A64 r61.1.Loads D64), (iv r61.1.Store.Buffer), (iv r61.1.Store.Offset), (sc A65 r61.1.Store.Steps D65), (.bool r61.1.Sum), (sc A66 r61.1.Code D66)] 127 :: _ :: _ :: _ :: _ :: _ :: _ :: _ :: _ :: _ :: _ :: _ :: _ :: _ :: _ :: _ :: W0) ?_))))))))))))
 refine l_nil (q_draw (sL [8, 7, 6, 5, 4, 3, 2, 1, 0]) (dR 14 R (vB R) (hS := (sL [8, 7, 6, 5, 4, 3, 2, 1, 0])) (d_done (by kernel_rfl) ?_)))
 exact q_join ((), (b67, (A63, r61.1.Loops.length, D63), (A64, r61.1.Loads.length, D64), (A65, r61.1.Store.Steps.length, D65), (A66, r61.1.Code.length, D66))) trivial (aS R) (fun w s => (s.f 16 [15, 1, 9, 1, 0, 5]))
 refine l_alloc R R zc127 (fun b67 => (l_nil (q_draw (sL [4, 3, 2, 1, 0]) (d_one 8 (by kernel_rfl) R (lM (rds _ _ _ :: rds _ _ _ :: rds _ _ _ :: rds _ _ _ :: rds _ _ _ :: rds _ _ _ :: rds _ _ _ :: rds _ _ _ :: bxl _ _ _ :: rds _ _ _ :: rds _ _ _ :: rds _ _ _ :: rds _ _ _ :: ow _ _ _ _ :: bxl _ _ _ :: rds _ _ _ :: rds _ _ _ :: rds _ _ _ :: rds _ _ _ :: bxl _ _ _ :: W0) (fun w s => (((((((((s.d 7 R).d 9 R).d 11 R).d 13 R).d 5 R).d 7 R).d 9 R).d 11 R).f 20 [7, 1, 6, 1, 5, 1, 4, 1, 3, 1, 2, 1, 1, 1, 0, 1, 8, 12])) ?_)))))
 refine lC 8 cb136 R (impl_fused_ok hx62) R ?_
 rintro ⟨⟨A63, N63, D63⟩, ⟨A64, N64, D64⟩, ⟨A65, N65, D65⟩, ⟨A66, N66, D66⟩⟩
 refine lN (rds kT3 (.slice A63 N63 D63) r61.1.Loops :: ow (kT124).share 124 (.slice A64 N64 D64) r61.1.Loads :: rds kT3 (.slice A65 N65 D65) r61.1.Store.Steps :: ow kT216 216 (.slice A66 N66 D66) r61.1.Code :: _ :: _ :: _ :: _ :: _ :: _ :: _ :: _ :: _ :: _ :: _ :: _ :: W0) ?_
 refine l_len 0 sees_rd ?_
 rintro rfl
 refine l_len 1 sees_sh ?_
 rintro rfl
 refine l_len 2 sees_rd ?_
 rintro rfl
 refine l_len 3 sees_ow ?_
 rintro rfl
 refine l_nil (q_draw (sL [8, 7, 6, 5, 4, 3, 2, 1, 0]) (dR 9 R (vT R) (hS := (sL [8, 7, 6, 5, 4, 3, 2, 1, 0])) (dR 10 R (vA R) (hS := (sL [8, 7, 6, 5, 4, 3, 2, 1, 0])) (dR 11 R (vB R) (hS := (sL [8, 7, 6, 5, 4, 3, 2, 1, 0])) (d_one 13 (by kernel_rfl) R (l_stores 4 R R sz127 R R R R R R (lN (_ :: _ :: _ :: _ :: bxl b67 [(sc A63 r61.1.Loops D63), (sc A64 r61.1.Loads D64), (iv r61.1.Store.Buffer), (iv r61.1.Store.Offset), (sc A65 r61.1.Store.Steps D65), (.bool r61.1.Sum), (sc A66 r61.1.Code D66)] 127 :: _ :: _ :: _ :: _ :: _ :: _ :: _ :: _ :: _ :: _ :: _ :: W0) ?_)))))))
 refine l_nil (q_draw (sL [8, 7, 6, 5, 4, 3, 2, 1, 0]) (dR 14 R (vB R) (hS := (sL [8, 7, 6, 5, 4, 3, 2, 1, 0])) (d_done (by kernel_rfl) ?_)))
 exact q_join ((), (b67, (A63, r61.1.Loops.length, D63), (A64, r61.1.Loads.length, D64), (A65, r61.1.Store.Steps.length, D65), (A66, r61.1.Code.length, D66))) trivial (aS R) (fun w s => (s.e 16 [15, 9, 4, 0, 1, 2, 3]))
 refine l_alloc R R zc127 (fun b67 => (l_nil (q_draw (sL [0]) (d_one 7 (by kernel_rfl) R (l_ldo (K := (kT127).share) 1 r53 R R ag127 sz127 dT127.own R R hg56.1 hg56.2 ?_)))))
 rintro ⟨⟨A57, D57⟩, ⟨A58, D58⟩, ⟨-, -, ⟨A59, D59⟩⟩, -, ⟨A60, D60⟩⟩
 refine lN (_ :: _ :: _ :: _ :: _ :: _ :: _ :: _ :: _ :: _ :: _ :: _ :: W0) ?_
 refine l_nil (q_draw (sL [4, 3, 2, 1, 0]) (d_one 8 (by kernel_rfl) R (lM (rds _ _ _ :: rds _ _ _ :: rds _ _ _ :: rds _ _ _ :: rds _ _ _ :: rds _ _ _ :: rds _ _ _ :: rds _ _ _ :: rds _ _ _ :: rds _ _ _ :: rds _ _ _ :: rds _ _ _ :: bxl _ _ _ :: ow _ _ _ _ :: bxl _ _ _ :: rds _ _ _ :: rds _ _ _ :: rds _ _ _ :: rds _ _ _ :: bxl _ _ _ :: W0) (fun w s => (((((((((s.d 7 R).d 9 R).d 11 R).d 13 R).d 4 R).d 6 R).d 8 R).d 10 R).f 20 [7, 1, 6, 1, 5, 1, 4, 1, 3, 1, 2, 1, 1, 1, 0, 1, 8, 12])) ?_)))
 refine lC 8 cb136 R (impl_fused_ok hx62) R ?_
 rintro ⟨⟨A63, N63, D63⟩, ⟨A64, N64, D64⟩, ⟨A65, N65, D65⟩, ⟨A66, N66, D66⟩⟩
 refine lN (rds kT3 (.slice A63 N63 D63) r61.1.Loops :: ow (kT124).share 124 (.slice A64 N64 D64) r61.1.Loads :: rds kT3 (.slice A65 N65 D65) r61.1.Store.Steps :: ow kT216 216 (.slice A66 N66 D66) r61.1.Code :: _ :: _ :: _ :: _ :: _ :: _ :: _ :: _ :: _ :: _ :: _ :: _ :: W0) ?_
 refine l_len 0 sees_rd ?_
 rintro rfl
 refine l_len 1 sees_sh ?_
 rintro rfl
 refine l_len 2 sees_rd ?_
 rintro rfl
 refine l_len 3 sees_ow ?_
 rintro rfl
 refine l_nil (q_draw (sL [8, 7, 6, 5, 4, 3, 2, 1, 0]) (dR 9 R (vT R) (hS := (sL [8, 7, 6, 5, 4, 3, 2, 1, 0])) (dR 10 R (vA R) (hS := (sL [8, 7, 6, 5, 4, 3, 2, 1, 0])) (dR 11 R (vB R) (hS := (sL [8, 7, 6, 5, 4, 3, 2, 1, 0])) (d_one 13 (by kernel_rfl) R (l_stores 8 R R sz127 R R R R R R (lN (_ :: _ :: _ :: _ :: _ :: _ :: _ :: _ :: bxl b67 [(sc A63 r61.1.Loops D63), (sc A64 r61.1.Loads D64), (iv r61.1.Store.Buffer), (iv r61.1.Store.Offset), (sc A65 r61.1.Store.Steps D65), (.bool r61.1.Sum), (sc A66 r61.1.Code D66)] 127 :: _ :: _ :: _ :: _ :: _ :: _ :: _ :: W0) ?_)))))))
 refine l_nil (q_draw (sL [8, 7, 6, 5, 4, 3, 2, 1, 0]) (dR 14 R (vB R) (hS := (sL [8, 7, 6, 5, 4, 3, 2, 1, 0])) (d_done (by kernel_rfl) ?_)))
 exact q_join ((), (b67, (A63, r61.1.Loops.length, D63), (A64, r61.1.Loads.length, D64), (A65, r61.1.Store.Steps.length, D65), (A66, r61.1.Code.length, D66))) trivial (aS R) (fun w s => (s.e 16 [15, 9, 8, 0, 1, 2, 3]))
 rintro ⟨_, ⟨b68, ⟨A69, N69, D69⟩, ⟨A70, N70, D70⟩, ⟨A71, N71, D71⟩, ⟨A72, N72, D72⟩⟩⟩ σ1 -
 refine q_len 3 sees_rd (fun (hn : N69 = r61.1.Loops.length) => ?_)
 subst hn
 refine q_len 4 sees_sh (fun (hn : N70 = r61.1.Loads.length) => ?_)
 subst hn
 refine q_len 5 sees_rd (fun (hn : N71 = r61.1.Store.Steps.length) => ?_)
 subst hn
 refine q_len 6 sees_ow (fun (hn : N72 = r61.1.Code.length) => ?_)
 subst hn
 refine q_next (c_seq (c_region (lB R (l_nil (q_next ?_)))))
 rcases bif_ hr with ⟨hb73, hr⟩ | ⟨hb73, hr⟩
 refine c_true R hb73 (c_seq (cdr 8 [6, 4, 1] mixo (fun ht hn => (dR 0 R (vP R) (hS := (sL [6, 4, 1])) (dR 1 R (vP R) (hS := (sL [6, 4, 1])) (dR 2 R (vFa 3 fo58_3 R) (hS := (sL [6, 4, 1])) (dR 3 R (vLd 0 ag56 R R R) (hS := (sL [6, 4, 1])) (dR 4 R (vI R) (hS := (sL [6, 4, 1])) (dR 5 R (vz (.agg [(sc A69 r61.1.Loops D69), (sc A70 r61.1.Loads D70), (iv r61.1.Store.Buffer), (iv r61.1.Store.Offset), (sc A71 r61.1.Store.Steps D71), (.bool r61.1.Sum), (sc A72 r61.1.Code D72)].toArray) (v_loadw 1 ag127 sz127 R R R R)) (hS := (sL [6, 4, 1])) (dR 6 R (vIa sl56 sz127 R R hg56) (hS := (sL [6, 4, 1])) (d_one 7 (by kernel_rfl) R ?_)))))))))))
 refine lM (ow _ _ _ _ :: RR kT3 A69 D69 r61.1.Loops :: RR kT124 A70 D70 r61.1.Loads :: RR kT3 A71 D71 r61.1.Store.Steps :: RR kT216 A72 D72 r61.1.Code :: RR kT216 A72 D72 r61.1.Code :: RR kT124 A70 D70 r61.1.Loads :: bxl _ _ _ :: bxl b68 [(sc A69 r61.1.Loops D69), (sc A70 r61.1.Loads D70), (iv r61.1.Store.Buffer), (iv r61.1.Store.Offset), (sc A71 r61.1.Store.Steps D71), (.bool r61.1.Sum), (sc A72 r61.1.Code D72)] 127 :: RR kT3 A69 D69 r61.1.Loops :: RR kT3 A71 D71 r61.1.Store.Steps :: W0) (fun w s => (((((((s.d 3 R).shs 5 R).d 0 R).d 7 R).shr 9 R).d 0 R).e 11 [7, 5, 3, 2, 0, 1, 4, 6, 8, 9, 10])) ?_
 refine l_stx (K := (kT127).share) (x' := r61.1) 4 r53 R R sz127 R R hg56.1 hg56.2 ?_ ?_
 exact fun I h s => (mS127).put I h ((sc A69 r61.1.Loops D69), (sc A70 r61.1.Loads D70), ((), (), (sc A71 r61.1.Store.Steps D71)), (), (sc A72 r61.1.Code D72)) r61.1 s
 refine lN (ow (kT127).share 127 (.slice (ad g46 o47) l1.Kernels.length D42) (l1.Kernels.set r53.toNat r61.1) :: _ :: _ :: _ :: _ :: _ :: _ :: W0) ?_
 refine l_nil (q_draw (sL [2, 1, 0]) (d_done (by kernel_rfl) (q_next (c_seq ?_))))
 obtain ⟨r74, hx75, hr⟩ := bd hr
 refine c_region (lP R (lP R (lP R (lO (vFa 3 fo58_3 R) (lO (vLd 3 ag56 R R R) (lI R (lI R (lO (vAd R R) (lC 1 cb137 R (slices_Delete_impl_Kernel_impl_Kernel_ok hx75) R ?_)))))))))
 rintro ⟨A76, N76, D76⟩
 refine lN (ow (kT127).share 127 (.slice A76 N76 D76) r74 :: _ :: _ :: _ :: _ :: _ :: _ :: W0) ?_
 refine l_len 0 sees_sh ?_
 rintro rfl
 refine lP R (lO (vFa 3 fo58_3 R) (l_store 3 R R sz56 R R R R R (lN (_ :: _ :: _ :: bxl b2 [(sc A3 l1.Sizes D3), (sc A4 l1.Ins D4), (sc A5 l1.Fixed D5), (sc A76 r74 D76), (sc A7 l1.Outs D7)] 58 :: _ :: _ :: _ :: W0) ?_)))
 refine l_nil (q_next (c_seq (c_region (lB R (l_nil (q_next (c_ret (q_blockr (q_ret ?_)))))))))
 obtain rfl := so hr
 obtain rfl := he1 _ R
 have hr := hk1
 refine q_ret (q_blockr (q_ret ?_))
 obtain rfl := so hr
 exact qF ((A3, l1.Sizes.length, D3), (A4, l1.Ins.length, D4), (A5, l1.Fixed.length, D5), (A76, r74.length, D76), (A7, l1.Outs.length, D7)) (fun w s => (s.e 11 [7, 8, 9, 0, 10, 3]))
 refine c_false R hb73 (c_skip (q_blockn ?_))
 exact qI ((), ((ad g46 o47), l1.Kernels.length, D42)) hr (fun w s => (s.e 7 [0, 1]))
 rintro ⟨_, ⟨A77, N77, D77⟩⟩ σ1 hr
 replace hr : impl_fuseOnce_J2 x43 = some out1 := hr
 unfold impl_fuseOnce_J2 at hr
 refine c_len 1 sees_sh (fun (hn : N77 = l1.Kernels.length) => ?_)
 subst hn
 refine c_region (lO (vAd R R) (lI R (l_nil ?_)))
 obtain rfl := so hr
 exact qA (A77, l1.Kernels.length, D77) (fun w s => s)
 refine c_false R hb44 (c_exit (q_exit ?_))
 obtain rfl := so hr
 obtain rfl := he1 _ R
 have hr := hk1
 refine q_exit (q_block ?_)
 exact q_join ((), (A42, l1.Kernels.length, D42)) hr trivial (fun w s => s)
 rintro ⟨_, ⟨A80, N80, D80⟩⟩ σ1 hr
 replace hr : impl_fuseOnce_J3 l1 = some r := hr
 unfold impl_fuseOnce_J3 at hr
 refine c_len 1 sees_sh (fun (hn : N80 = l1.Kernels.length) => ?_)
 subst hn
 refine c_seq (c_region (lB R (l_nil (q_next (c_ret ?_)))))
 obtain rfl := so hr
 exact qF ((A3, l1.Sizes.length, D3), (A4, l1.Ins.length, D4), (A5, l1.Fixed.length, D5), (A80, l1.Kernels.length, D80), (A7, l1.Outs.length, D7)) (fun w s => (s.e 6 [2, 3, 4, 1, 5, 0]))
theorem impl_Fuse_ok {l1 : Nest} {r : Nest} (hr : impl_Fuse l1 = some r) :
 FnOk Try.prog 25 [(.agg [(.slice A2 N2 D2), (.slice A3 N3 D3), (.slice A4 N4 D4), (.slice A5 N5 D5), (.slice A6 N6 D6)].toArray)] [rds kT3 (.slice A2 N2 D2) l1.Sizes, rds kT3 (.slice A3 N3 D3) l1.Ins, rds kT159 (.slice A4 N4 D4) l1.Fixed, rds kT127 (.slice A5 N5 D5) l1.Kernels, rds kT3 (.slice A6 N6 D6) l1.Outs] (fun (h : HH × HH × HH × HH × HH) => ((.agg [(.slice h.1.1 h.1.2.1 h.1.2.2), (.slice h.2.1.1 h.2.1.2.1 h.2.1.2.2), (.slice h.2.2.1.1 h.2.2.1.2.1 h.2.2.1.2.2), (.slice h.2.2.2.1.1 h.2.2.2.1.2.1 h.2.2.2.1.2.2), (.slice h.2.2.2.2.1 h.2.2.2.2.2.1 h.2.2.2.2.2.2)].toArray), [ow kT3 3 (.slice h.1.1 h.1.2.1 h.1.2.2) r.Sizes, ow kT3 3 (.slice h.2.1.1 h.2.1.2.1 h.2.1.2.2) r.Ins, ow kT159 159 (.slice h.2.2.1.1 h.2.2.1.2.1 h.2.2.1.2.2) r.Fixed, ow kT127 127 (.slice h.2.2.2.1.1 h.2.2.2.1.2.1 h.2.2.2.1.2.2) r.Kernels, ow kT3 3 (.slice h.2.2.2.2.1 h.2.2.2.2.2.1 h.2.2.2.2.2.2) r.Outs])) := by
 unfold impl_Fuse at hr
 refine fn_ok Try.func25 R 13 R R fun C V => ?_
 refine cN (_ :: _ :: _ :: _ :: _ :: V) ?_
 refine cL 0 sees_rd ?_
 rintro rfl
 refine cL 1 sees_rd ?_
 rintro rfl
 refine cL 2 sees_rd ?_
 rintro rfl
 refine cL 3 sees_rd ?_
 rintro rfl
 refine cL 4 sees_rd ?_
 rintro rfl
 let W0 : List HP := RR kT3 A2 D2 l1.Sizes :: RR kT3 A3 D3 l1.Ins :: RR kT159 A4 D4 l1.Fixed :: RR kT127 A5 D5 l1.Kernels :: RR kT3 A6 D6 l1.Outs :: V
 refine cN W0 ?_
 refine c_seq (c_region (lBx R (fun b7 => (l_alloc R R zc58 (fun b8 => (l_nil ?_))))))
 let W1 : List HP := bxl b7 [(sc A2 l1.Sizes D2), (sc A3 l1.Ins D3), (sc A4 l1.Fixed D4), (sc A5 l1.Kernels D5), (sc A6 l1.Outs D6)] 58 :: W0
 refine qN (_ :: W1) ?_
 refine q_next (c_seq (c_seq ?_))
 obtain ⟨r9, hx10, hr⟩ := bd hr
 refine c_region (lO (vz (.agg [(sc A2 l1.Sizes D2), (sc A3 l1.Ins D3), (sc A4 l1.Fixed D4), (sc A5 l1.Kernels D5), (sc A6 l1.Outs D6)].toArray) (v_loadw 1 ag58 sz58 R R R R)) (lM (RR kT3 A2 D2 l1.Sizes :: RR kT3 A3 D3 l1.Ins :: RR kT159 A4 D4 l1.Fixed :: RR kT127 A5 D5 l1.Kernels :: RR kT3 A6 D6 l1.Outs :: bxl _ _ _ :: W1) (fun w s => ((((((s.d 2 R).d 4 R).d 6 R).d 8 R).d 10 R).e 6 [4, 3, 2, 1, 0, 5])) ?_))
 refine lC 5 cb74 R (impl_NestOk_ok hx10) R ?_
 rintro _
 refine lN (_ :: W1) ?_
 refine lO (vNo R) (l_nil (q_next ?_))
 rcases bif_ hr with ⟨hb11, hr⟩ | ⟨hb11, hr⟩
 refine c_true R hb11 (c_seq (c_region (lO (vz (.agg [(.slice none 0 0), (.slice none 0 0), (.slice none 0 0), (.slice none 0 0), (.slice none 0 0)].toArray) (v_build pl58 zc58 R R)) (l_stores 0 R R sz58 R R R R R R (l_nil (q_next (c_ret (q_ret ?_))))))))
 obtain rfl := so hr
 exact q_fin (vs := [(.agg [(.slice none 0 0), (.slice none 0 0), (.slice none 0 0), (.slice none 0 0), (.slice none 0 0)].toArray)]) (.inl R) ((none, 0, 0), (none, 0, 0), (none, 0, 0), (none, 0, 0), (none, 0, 0)) R ⟨⟨0, b8, _, _, R, R, .inl ⟨ag58, sz58, R⟩⟩, trivial⟩ R (fun w s => ((((((s.nilo kT3 3).nilo kT3 3).nilo kT159 159).nilo kT127 127).nilo kT3 3).e 12 [4, 3, 2, 1, 0]))
 refine c_false R hb11 (c_skip (q_next (c_seq ?_)))
 obtain ⟨r12, hx13, hr⟩ := bd hr
 refine c_region (lO (vz (.agg [(sc A2 l1.Sizes D2), (sc A3 l1.Ins D3), (sc A4 l1.Fixed D4), (sc A5 l1.Kernels D5), (sc A6 l1.Outs D6)].toArray) (v_loadw 1 ag58 sz58 R R R R)) (lM (RR kT3 A2 D2 l1.Sizes :: RR kT3 A3 D3 l1.Ins :: RR kT159 A4 D4 l1.Fixed :: RR kT127 A5 D5 l1.Kernels :: RR kT3 A6 D6 l1.Outs :: bxl _ _ _ :: W1) (fun w s => ((((((s.d 2 R).d 4 R).d 6 R).d 8 R).d 10 R).e 6 [4, 3, 2, 1, 0, 5])) ?_))
 refine lC 5 cb75 R (impl_cloneNest_ok hx13) R ?_
 rintro ⟨⟨A14, N14, D14⟩, ⟨A15, N15, D15⟩, ⟨A16, N16, D16⟩, ⟨A17, N17, D17⟩, ⟨A18, N18, D18⟩⟩
 refine lN (ow kT3 3 (.slice A14 N14 D14) r12.Sizes :: ow kT3 3 (.slice A15 N15 D15) r12.Ins :: ow kT159 159 (.slice A16 N16 D16) r12.Fixed :: ow kT127 127 (.slice A17 N17 D17) r12.Kernels :: ow kT3 3 (.slice A18 N18 D18) r12.Outs :: _ :: W1) ?_
 refine l_len 0 sees_ow ?_
 rintro rfl
 refine l_len 1 sees_ow ?_
 rintro rfl
 refine l_len 2 sees_ow ?_
 rintro rfl
 refine l_len 3 sees_ow ?_
 rintro rfl
 refine l_len 4 sees_ow ?_
 rintro rfl
 refine l_alloc R R zc58 (fun b19 => (l_stores 0 R R sz58 R R R R R R (lN (bxl b19 [(sc A14 r12.Sizes D14), (sc A15 r12.Ins D15), (sc A16 r12.Fixed D16), (sc A17 r12.Kernels D17), (sc A18 r12.Outs D18)] 58 :: _ :: _ :: _ :: _ :: _ :: _ :: W1) ?_)))
 refine l_nil (q_next (c_seq (c_cut (A := ((List Int) × (List Int) × (List Fix) × (List Kernel) × (List Int)) × (HH × HH × HH × HH × HH)) (fun a => impl_Fuse_J1 a.1.1 a.1.2.1 a.1.2.2.1 a.1.2.2.2.1 a.1.2.2.2.2 = some r) (fun a => [(2, (pt b8 0)), (3, (pt b19 0))]) (fun a => bxl b8 [(.slice none 0 0), (.slice none 0 0), (.slice none 0 0), (.slice none 0 0), (.slice none 0 0)] 58 :: bxl b19 [(.slice a.2.1.1 a.2.1.2.1 a.2.1.2.2), (.slice a.2.2.1.1 a.2.2.1.2.1 a.2.2.1.2.2), (.slice a.2.2.2.1.1 a.2.2.2.1.2.1 a.2.2.2.1.2.2), (.slice a.2.2.2.2.1.1 a.2.2.2.2.1.2.1 a.2.2.2.2.1.2.2), (.slice a.2.2.2.2.2.1 a.2.2.2.2.2.2.1 a.2.2.2.2.2.2.2)] 58 :: rds kT3 (.slice a.2.1.1 a.2.1.2.1 a.2.1.2.2) a.1.1 :: rds kT3 (.slice a.2.2.1.1 a.2.2.1.2.1 a.2.2.1.2.2) a.1.2.1 :: rds kT159 (.slice a.2.2.2.1.1 a.2.2.2.1.2.1 a.2.2.2.1.2.2) a.1.2.2.1 :: ow (kT127).share 127 (.slice a.2.2.2.2.1.1 a.2.2.2.2.1.2.1 a.2.2.2.2.1.2.2) a.1.2.2.2.1 :: rds kT3 (.slice a.2.2.2.2.2.1 a.2.2.2.2.2.2.1 a.2.2.2.2.2.2.2) a.1.2.2.2.2 :: W1) ?_ ?_)))
 refine c_block ?_
 obtain ⟨e1, hl1, hk1⟩ := bd hr
 refine c_loop (A := HH × HH × HH × HH × HH) hl1 (fun s a => [(2, (pt b8 0)), (3, (pt b19 0))]) (fun s a => bxl b8 [(.slice none 0 0), (.slice none 0 0), (.slice none 0 0), (.slice none 0 0), (.slice none 0 0)] 58 :: bxl b19 [(.slice a.1.1 a.1.2.1 a.1.2.2), (.slice a.2.1.1 a.2.1.2.1 a.2.1.2.2), (.slice a.2.2.1.1 a.2.2.1.2.1 a.2.2.1.2.2), (.slice a.2.2.2.1.1 a.2.2.2.1.2.1 a.2.2.2.1.2.2), (.slice a.2.2.2.2.1 a.2.2.2.2.2.1 a.2.2.2.2.2.2)] 58 :: rds kT3 (.slice a.1.1 a.1.2.1 a.1.2.2) s.1 :: rds kT3 (.slice a.2.1.1 a.2.1.2.1 a.2.1.2.2) s.2.1 :: rds kT159 (.slice a.2.2.1.1 a.2.2.1.2.1 a.2.2.1.2.2) s.2.2.1 :: ow (kT127).share 127 (.slice a.2.2.2.1.1 a.2.2.2.1.2.1 a.2.2.2.1.2.2) s.2.2.2.1 :: rds kT3 (.slice a.2.2.2.2.1 a.2.2.2.2.2.1 a.2.2.2.2.2.2) s.2.2.2.2 :: W1) ((A14, r12.Sizes.length, D14), (A15, r12.Ins.length, D15), (A16, r12.Fixed.length, D16), (A17, r12.Kernels.length, D17), (A18, r12.Outs.length, D18)) (aS R) (fun w s => ((((((s.shr 1 R).shr 2 R).shr 3 R).wk 4 R).shr 5 R).e 7 [6, 5, 4, 3, 2, 1, 0])) ?_
 rintro ⟨x28, x30, x32, x34, x36⟩ ⟨⟨A29, N29, D29⟩, ⟨A31, N31, D31⟩, ⟨A33, N33, D33⟩, ⟨A35, N35, D35⟩, ⟨A37, N37, D37⟩⟩ σ1 out1 hr he1
 replace hr : impl_Fuse_L1 x28 x30 x32 x34 x36 = some out1 := hr
 unfold impl_Fuse_L1 at hr
 refine c_len 2 sees_rd (fun (hn : N29 = x28.length) => ?_)
 subst hn
 refine c_len 3 sees_rd (fun (hn : N31 = x30.length) => ?_)
 subst hn
 refine c_len 4 sees_rd (fun (hn : N33 = x32.length) => ?_)
 subst hn
 refine c_len 5 sees_sh (fun (hn : N35 = x34.length) => ?_)
 subst hn
 refine c_len 6 sees_rd (fun (hn : N37 = x36.length) => ?_)
 subst hn
 refine c_seq (c_seq ?_)
 obtain ⟨r38, hx39, hr⟩ := bd hr
 refine c_region (lM (RR kT3 A29 D29 x28 :: RR kT3 A31 D31 x30 :: RR kT159 A33 D33 x32 :: OO (kT127).share 127 A35 D35 x34 :: RR kT3 A37 D37 x36 :: bxl b19 [(sc A29 x28 D29), (sc A31 x30 D31), (sc A33 x32 D33), (sc A35 x34 D35), (sc A37 x36 D37)] 58 :: bxl _ _ _ :: RR kT3 A29 D29 x28 :: RR kT3 A31 D31 x30 :: RR kT159 A33 D33 x32 :: RR kT3 A37 D37 x36 :: W1) (fun w s => (((((s.d 2 R).d 4 R).d 6 R).d 9 R).e 11 [3, 2, 1, 9, 0, 5, 4, 6, 7, 8, 10])) ?_)
 refine lC 6 cb76 R (impl_fuseOnce_ok hx39) R ?_
 rintro ⟨⟨A40, N40, D40⟩, ⟨A41, N41, D41⟩, ⟨A42, N42, D42⟩, ⟨A43, N43, D43⟩, ⟨A44, N44, D44⟩⟩
 refine lN (rds kT3 (.slice A40 N40 D40) r38.2.Sizes :: rds kT3 (.slice A41 N41 D41) r38.2.Ins :: rds kT159 (.slice A42 N42 D42) r38.2.Fixed :: ow (kT127).share 127 (.slice A43 N43 D43) r38.2.Kernels :: rds kT3 (.slice A44 N44 D44) r38.2.Outs :: bxl b19 [(.slice A40 N40 D40), (.slice A41 N41 D41), (.slice A42 N42 D42), (.slice A43 N43 D43), (.slice A44 N44 D44)] 58 :: _ :: _ :: _ :: _ :: _ :: W1) ?_
 refine l_len 0 sees_rd ?_
 rintro rfl
 refine l_len 1 sees_rd ?_
 rintro rfl
 refine l_len 2 sees_rd ?_
 rintro rfl
 refine l_len 3 sees_sh ?_
 rintro rfl
 refine l_len 4 sees_rd ?_
 rintro rfl
 refine l_nil (q_next ?_)
 rcases bif_ hr with ⟨hb45, hr⟩ | ⟨hb45, hr⟩
 refine c_true R hb45 (c_skip (q_next (c_block (c_skip (q_blockn ?_)))))
 obtain rfl := so hr
 exact qA ((A40, r38.2.Sizes.length, D40), (A41, r38.2.Ins.length, D41), (A42, r38.2.Fixed.length, D42), (A43, r38.2.Kernels.length, D43), (A44, r38.2.Outs.length, D44)) (fun w s => (s.f 11 [6, 1, 5, 1, 0, 5]))
 refine c_false R hb45 (c_exit (q_exit ?_))
 obtain rfl := so hr
 obtain rfl := he1 _ R
 have hr := hk1
 refine q_exit (q_block ?_)
 exact qI ((r38.2.Sizes, r38.2.Ins, r38.2.Fixed, r38.2.Kernels, r38.2.Outs), ((A40, r38.2.Sizes.length, D40), (A41, r38.2.Ins.length, D41), (A42, r38.2.Fixed.length, D42), (A43, r38.2.Kernels.length, D43), (A44, r38.2.Outs.length, D44))) hr (fun w s => (s.f 11 [6, 1, 5, 1, 0, 5]))
 rintro ⟨⟨x56, x58, x60, x62, x64⟩, ⟨⟨A57, N57, D57⟩, ⟨A59, N59, D59⟩, ⟨A61, N61, D61⟩, ⟨A63, N63, D63⟩, ⟨A65, N65, D65⟩⟩⟩ σ1 hr
 replace hr : impl_Fuse_J1 x56 x58 x60 x62 x64 = some r := hr
 unfold impl_Fuse_J1 at hr
 refine c_len 2 sees_rd (fun (hn : N57 = x56.length) => ?_)
 subst hn
 refine c_len 3 sees_rd (fun (hn : N59 = x58.length) => ?_)
 subst hn
 refine c_len 4 sees_rd (fun (hn : N61 = x60.length) => ?_)
 subst hn
 refine c_len 5 sees_sh (fun (hn : N63 = x62.length) => ?_)
 subst hn
 refine c_len 6 sees_rd (fun (hn : N65 = x64.length) => ?_)
 subst hn
 refine c_seq ?_
 obtain ⟨r66, hx67, hr⟩ := bd hr
 refine c_region (lO (vz (.agg [(sc A57 x56 D57), (sc A59 x58 D59), (sc A61 x60 D61), (sc A63 x62 D63), (sc A65 x64 D65)].toArray) (v_loadw 1 ag58 sz58 R R R R)) (lM (OO (kT127).share 127 A63 D63 x62 :: RR kT3 A57 D57 x56 :: RR kT3 A59 D59 x58 :: RR kT159 A61 D61 x60 :: RR kT3 A65 D65 x64 :: bxl _ _ _ :: bxl b19 [(sc A57 x56 D57), (sc A59 x58 D59), (sc A61 x60 D61), (sc A63 x62 D63), (sc A65 x64 D65)] 58 :: RR kT3 A57 D57 x56 :: RR kT3 A59 D59 x58 :: RR kT159 A61 D61 x60 :: RR kT3 A65 D65 x64 :: W1) (fun w s => (((((s.d 2 R).d 4 R).d 6 R).d 9 R).e 11 [9, 3, 2, 1, 0, 4, 5, 6, 7, 8, 10])) ?_))
 refine lC 5 cb75 R (FnOk.lends (A' := [OO (kT127).share 127 A63 D63 x62]) (A := [RR kT127 A63 D63 x62]) (B := [RR kT3 A57 D57 x56, RR kT3 A59 D59 x58, RR kT159 A61 D61 x60, RR kT3 A65 D65 x64]) (FnOk.perm (impl_cloneNest_ok hx67) (Pre' := [RR kT127 A63 D63 x62, RR kT3 A57 D57 x56, RR kT3 A59 D59 x58, RR kT159 A61 D61 x60, RR kT3 A65 D65 x64]) (fun _ _ _ s => (s.e 5 [1, 2, 3, 0, 4]))) ⟨lend_sh, trivial⟩ (fun _ => ⟨(closed_ow cT3), (closed_ow cT3), (closed_ow cT159), (closed_ow cT127), (closed_ow cT3), trivial⟩)) R ?_
 rintro ⟨⟨A68, N68, D68⟩, ⟨A69, N69, D69⟩, ⟨A70, N70, D70⟩, ⟨A71, N71, D71⟩, ⟨A72, N72, D72⟩⟩
 refine lN (_ :: ow kT3 3 (.slice A68 N68 D68) r66.Sizes :: ow kT3 3 (.slice A69 N69 D69) r66.Ins :: ow kT159 159 (.slice A70 N70 D70) r66.Fixed :: ow kT127 127 (.slice A71 N71 D71) r66.Kernels :: ow kT3 3 (.slice A72 N72 D72) r66.Outs :: _ :: _ :: _ :: _ :: _ :: _ :: W1) ?_
 refine l_len 1 sees_ow ?_
 rintro rfl
 refine l_len 2 sees_ow ?_
 rintro rfl
 refine l_len 3 sees_ow ?_
 rintro rfl
 refine l_len 4 sees_ow ?_
 rintro rfl
 refine l_len 5 sees_ow ?_
 rintro rfl
 refine l_stores 6 R R sz58 R R R R R R (lN (_ :: _ :: _ :: _ :: _ :: _ :: bxl b8 [(sc A68 r66.Sizes D68), (sc A69 r66.Ins D69), (sc A70 r66.Fixed D70), (sc A71 r66.Kernels D71), (sc A72 r66.Outs D72)] 58 :: _ :: _ :: _ :: _ :: _ :: W1) ?_)
 refine l_nil (q_next (c_ret ?_))
 obtain rfl := so hr
 exact q_fin (vs := [(.agg [(sc A68 r66.Sizes D68), (sc A69 r66.Ins D69), (sc A70 r66.Fixed D70), (sc A71 r66.Kernels D71), (sc A72 r66.Outs D72)].toArray)]) (.inl R) ((A68, r66.Sizes.length, D68), (A69, r66.Ins.length, D69), (A70, r66.Fixed.length, D70), (A71, r66.Kernels.length, D71), (A72, r66.Outs.length, D72)) R ⟨⟨6, b8, _, _, R, R, .inl ⟨ag58, sz58, R⟩⟩, trivial⟩ R (fun w s => (s.f 18 [1, 5]))
theorem laws_eqIntS_ok {a1 : (List Int)} {b3 : (List Int)} {r : Bool} (hr : laws_eqIntS a1 b3 = some r) :
 FnOk Try.prog 17 [(.slice A2 N2 D2), (.slice A4 N4 D4)] [rds kT3 (.slice A2 N2 D2) a1, rds kT3 (.slice A4 N4 D4) b3] (fun (h : Unit) => ((.bool r), [])) := by
 unfold laws_eqIntS at hr
 refine fn_ok Try.func17 R 26 R R fun C V => ?_
 refine cN (_ :: _ :: V) ?_
 refine cL 0 sees_rd ?_
 rintro rfl
 refine cL 1 sees_rd ?_
 rintro rfl
 let W0 : List HP := RR kT3 A2 D2 a1 :: RR kT3 A4 D4 b3 :: V
 refine cN W0 ?_
 refine c_seq (c_region (lB R (l_nil (q_next (c_seq (c_seq (c_region (lS R (lO (v_len sl29 R) (lS R (lO (v_len sl29 R) (lO (vNe R R) (l_nil (q_next ?_))))))))))))))
 rcases bif_ hr with ⟨hb5, hr⟩ | ⟨hb5, hr⟩
 refine c_true R hb5 (c_seq (c_region (lB R (l_nil (q_next (c_ret (q_ret ?_)))))))
 obtain rfl := so hr
 exact qF () (fun w s => (s.e 2 []))
 refine c_false R hb5 (c_skip (q_next (c_seq (c_cut (A := (Unit) × (Unit)) (fun a => laws_eqIntS_J1 = some r) (fun a => []) (fun a => W0) ?_ ?_))))
 refine c_seq (c_region (lI R (l_nil (q_next (c_block ?_)))))
 obtain ⟨e1, hl1, hk1⟩ := bd hr
 refine c_loop (A := Unit) hl1 (fun s a => [(0, (sc A2 a1 D2)), (1, (sc A4 b3 D4)), (5, (iv s))]) (fun s a => W0) () (aS R) (fun w s => s) ?_
 rintro i14 _ σ1 out1 hr he1
 replace hr : laws_eqIntS_L1 a1 b3 i14 = some out1 := hr
 unfold laws_eqIntS_L1 at hr
 refine c_seq (c_seq (c_region (lI R (lS R (lO (v_len sl29 R) (lO (vLt R R) (l_nil (q_next ?_))))))))
 rcases bif_ hr with ⟨hb15, hr⟩ | ⟨hb15, hr⟩
 refine c_true R hb15 (c_skip (q_next (c_seq (c_block (c_seq ?_)))))
 obtain ⟨hg16, hr⟩ := gd hr
 obtain ⟨hg19, hr⟩ := gd hr
 refine c_some 0 sees_rd (show 0 < a1.length by have := hg16; omega) (fun g17 o18 ha => ?_)
 subst ha
 refine c_some 1 sees_rd (show 0 < b3.length by have := hg19; omega) (fun g20 o21 ha => ?_)
 subst ha
 refine cdr 9 [] mixo (fun ht hn => (dR 0 R (vS R) (dR 1 R (vI R) (dR 2 R (vIa sl29 sz3 R R hg16) (dR 3 R (vLi 0 ag3 sees_rd R hg16) (dR 4 R (vS R) (dR 5 R (vI R) (dR 6 R (vIa sl29 sz3 R R hg19) (dR 7 R (vLi 1 ag3 sees_rd R hg19) (dR 8 R (vNe R R) (d_done (by kernel_rfl) (q_next ?_))))))))))))
 rcases bif_ hr with ⟨hb22, hr⟩ | ⟨hb22, hr⟩
 refine c_true R hb22 (c_seq (c_region (lB R (l_nil (q_next (c_ret (q_blockr (q_ret ?_))))))))
 obtain rfl := so hr
 obtain rfl := he1 _ R
 have hr := hk1
 refine q_ret (q_blockr (q_ret ?_))
 obtain rfl := so hr
 exact qF () (fun w s => (s.e 2 []))
 refine c_false R hb22 (c_skip (q_blockn (q_next (c_region (lI R (lO (vAd R R) (lI R (l_nil ?_))))))))
 obtain rfl := so hr
 exact qA () (fun w s => s)
 refine c_false R hb15 (c_exit (q_exit ?_))
 obtain rfl := so hr
 obtain rfl := he1 _ R
 have hr := hk1
 refine q_exit (q_block ?_)
 exact q_join ((), ()) hr trivial (fun w s => s)
 rintro ⟨_, _⟩ σ1 hr
 replace hr : laws_eqIntS_J1 = some r := hr
 unfold laws_eqIntS_J1 at hr
 refine c_seq (c_region (lB R (l_nil (q_next (c_ret ?_)))))
 obtain rfl := so hr
 exact qF () (fun w s => (s.e 2 []))
theorem laws_eqFix_ok {a1 : Fix} {b3 : Fix} {r : Bool} (hr : laws_eqFix a1 b3 = some r) :
 FnOk Try.prog 138 [(.agg [(iv a1.Buffer), (.slice A2 N2 D2)].toArray), (.agg [(iv b3.Buffer), (.slice A4 N4 D4)].toArray)] [rds kT3 (.slice A2 N2 D2) a1.Data, rds kT3 (.slice A4 N4 D4) b3.Data] (fun (h : Unit) => ((.bool r), [])) := by
 unfold laws_eqFix at hr
 refine fn_ok Try.func138 R 16 R R fun C V => ?_
 refine cN (_ :: _ :: V) ?_
 refine cL 0 sees_rd ?_
 rintro rfl
 refine cL 1 sees_rd ?_
 rintro rfl
 let W0 : List HP := RR kT3 A2 D2 a1.Data :: RR kT3 A4 D4 b3.Data :: V
 refine cN W0 ?_
 refine c_seq (c_region (lBx R (fun b5 => (lBx R (fun b6 => (lB R (l_nil ?_)))))))
 let W1 : List HP := bxl b6 [(iv b3.Buffer), (sc A4 b3.Data D4)] 159 :: bxl b5 [(iv a1.Buffer), (sc A2 a1.Data D2)] 159 :: W0
 refine qN W1 ?_
 refine q_next (c_seq (c_seq (c_region (lO (vFa 0 fo159_0 R) (lO (vLd 1 ag3 R R R) (lO (vFa 0 fo159_0 R) (lO (vLd 0 ag3 R R R) (lO (vNe R R) (l_nil (q_next ?_))))))))))
 rcases bif_ hr with ⟨hb7, hr⟩ | ⟨hb7, hr⟩
 refine c_true R hb7 (c_seq (c_region (lB R (l_nil (q_next (c_ret (q_ret ?_)))))))
 obtain rfl := so hr
 exact qF () (fun w s => (s.e 4 []))
 refine c_false R hb7 (c_skip (q_next (c_seq (c_seq ?_))))
 obtain ⟨r8, hx9, hr⟩ := bd hr
 refine c_region (lO (vFa 1 fo159_1 R) (lO (vLd 1 ag29 R R R) (lO (vFa 1 fo159_1 R) (lO (vLd 0 ag29 R R R) (lM (RR kT3 A2 D2 a1.Data :: RR kT3 A4 D4 b3.Data :: W1) (fun w s => (((s.d 2 R).d 4 R).e 2 [1, 0])) ?_)))))
 refine lC 2 cb17 R (laws_eqIntS_ok hx9) R ?_
 rintro _
 refine lN W1 ?_
 refine lO (vNo R) (l_nil (q_next ?_))
 rcases bif_ hr with ⟨hb10, hr⟩ | ⟨hb10, hr⟩
 refine c_true R hb10 (c_seq (c_region (lB R (l_nil (q_next (c_ret (q_ret ?_)))))))
 obtain rfl := so hr
 exact qF () (fun w s => (s.e 4 []))
 refine c_false R hb10 (c_skip (q_next (c_seq (c_region (lB R (l_nil (q_next (c_ret ?_))))))))
 obtain rfl := so hr
 exact qF () (fun w s => (s.e 4 []))
theorem laws_eqFixS_ok {a1 : (List Fix)} {b3 : (List Fix)} {r : Bool} (hr : laws_eqFixS a1 b3 = some r) :
 FnOk Try.prog 77 [(.slice A2 N2 D2), (.slice A4 N4 D4)] [rds kT159 (.slice A2 N2 D2) a1, rds kT159 (.slice A4 N4 D4) b3] (fun (h : Unit) => ((.bool r), [])) := by
 unfold laws_eqFixS at hr
 refine fn_ok Try.func77 R 27 R R fun C V => ?_
 refine cN (_ :: _ :: V) ?_
 refine cL 0 sees_rd ?_
 rintro rfl
 refine cL 1 sees_rd ?_
 rintro rfl
 let W0 : List HP := RR kT159 A2 D2 a1 :: RR kT159 A4 D4 b3 :: V
 refine cN W0 ?_
 refine c_seq (c_region (lB R (l_nil (q_next (c_seq (c_seq (c_region (lS R (lO (v_len sl55 R) (lS R (lO (v_len sl55 R) (lO (vNe R R) (l_nil (q_next ?_))))))))))))))
 rcases bif_ hr with ⟨hb5, hr⟩ | ⟨hb5, hr⟩
 refine c_true R hb5 (c_seq (c_region (lB R (l_nil (q_next (c_ret (q_ret ?_)))))))
 obtain rfl := so hr
 exact qF () (fun w s => (s.e 2 []))
 refine c_false R hb5 (c_skip (q_next (c_seq (c_cut (A := (Unit) × (Unit)) (fun a => laws_eqFixS_J1 = some r) (fun a => []) (fun a => W0) ?_ ?_))))
 refine c_seq (c_region (lI R (l_nil (q_next (c_block ?_)))))
 obtain ⟨e1, hl1, hk1⟩ := bd hr
 refine c_loop (A := Unit) hl1 (fun s a => [(0, (sc A2 a1 D2)), (1, (sc A4 b3 D4)), (5, (iv s))]) (fun s a => W0) () (aS R) (fun w s => s) ?_
 rintro i18 _ σ1 out1 hr he1
 replace hr : laws_eqFixS_L1 a1 b3 i18 = some out1 := hr
 unfold laws_eqFixS_L1 at hr
 refine c_seq (c_seq (c_region (lI R (lS R (lO (v_len sl55 R) (lO (vLt R R) (l_nil (q_next ?_))))))))
 rcases bif_ hr with ⟨hb19, hr⟩ | ⟨hb19, hr⟩
 refine c_true R hb19 (c_skip (q_next (c_seq (c_block (c_seq ?_)))))
 obtain ⟨hg20, hr⟩ := gd hr
 obtain ⟨hg24, hr⟩ := gd hr
 obtain ⟨r28, hx29, hr⟩ := bd hr
 refine c_some 0 sees_rd (show 0 < a1.length by have := hg20; omega) (fun g21 o22 ha => ?_)
 subst ha
 refine c_elem (K := kT159) 0 i18 dT159.dec R hg20.1 hg20.2 ?_
 rintro ⟨-, ⟨A23, D23⟩⟩
 refine cN (cl g21 (o22 + i18.toNat * 2) [(iv (ix a1 i18).Buffer), (sc A23 ((ix a1 i18).Data) D23)] :: RR kT3 A23 D23 ((ix a1 i18).Data) :: W0) ?_
 refine c_some 3 sees_rd (show 0 < b3.length by have := hg24; omega) (fun g25 o26 ha => ?_)
 subst ha
 refine c_elem (K := kT159) 3 i18 dT159.dec R hg24.1 hg24.2 ?_
 rintro ⟨-, ⟨A27, D27⟩⟩
 refine cN (cl g25 (o26 + i18.toNat * 2) [(iv (ix b3 i18).Buffer), (sc A27 ((ix b3 i18).Data) D27)] :: RR kT3 A27 D27 ((ix b3 i18).Data) :: _ :: _ :: W0) ?_
 refine cdr 10 [] mixo (fun ht hn => (dR 0 R (vS R) (dR 1 R (vI R) (dR 2 R (vIa sl55 sz159 R R hg20) (dR 3 R (vz (.agg [(iv (ix a1 i18).Buffer), (sc A23 ((ix a1 i18).Data) D23)].toArray) (v_clfs (fo := 0) 2 ag159 sz159 R R R R)) (dR 4 R (vS R) (dR 5 R (vI R) (dR 6 R (vIa sl55 sz159 R R hg24) (dR 7 R (vz (.agg [(iv (ix b3 i18).Buffer), (sc A27 ((ix b3 i18).Data) D27)].toArray) (v_clfs (fo := 0) 0 ag159 sz159 R R R R)) (d_one 8 (by kernel_rfl) R (lM (rds _ _ _ :: rds _ _ _ :: cl _ _ _ :: rds _ _ _ :: cl _ _ _ :: rds _ _ _ :: W0) (fun w s => (((s.d 3 R).d 2 R).e 6 [1, 0, 2, 3, 4, 5])) ?_)))))))))))
 refine lC 2 cb138 R (laws_eqFix_ok hx29) R ?_
 rintro _
 refine lN (_ :: _ :: _ :: _ :: W0) ?_
 refine l_nil (q_draw (sL []) (dR 9 R (vNo R) (d_done (by kernel_rfl) (q_next ?_))))
 rcases bif_ hr with ⟨hb30, hr⟩ | ⟨hb30, hr⟩
 refine c_true R hb30 (c_seq (c_region (lB R (l_nil (q_next (c_ret (q_blockr (q_ret ?_))))))))
 obtain rfl := so hr
 obtain rfl := he1 _ R
 have hr := hk1
 refine q_ret (q_blockr (q_ret ?_))
 obtain rfl := so hr
 exact qF () (fun w s => (s.e 6 []))
 refine c_false R hb30 (c_skip (q_blockn (q_next (c_region (lI R (lO (vAd R R) (lI R (l_nil ?_))))))))
 obtain rfl := so hr
 exact qA () (fun w s => (s.e 4 []))
 refine c_false R hb19 (c_exit (q_exit ?_))
 obtain rfl := so hr
 obtain rfl := he1 _ R
 have hr := hk1
 refine q_exit (q_block ?_)
 exact q_join ((), ()) hr trivial (fun w s => s)
 rintro ⟨_, _⟩ σ1 hr
 replace hr : laws_eqFixS_J1 = some r := hr
 unfold laws_eqFixS_J1 at hr
 refine c_seq (c_region (lB R (l_nil (q_next (c_ret ?_)))))
 obtain rfl := so hr
 exact qF () (fun w s => (s.e 2 []))
theorem laws_eqAccess_ok {a1 : Access} {b3 : Access} {r : Bool} (hr : laws_eqAccess a1 b3 = some r) :
 FnOk Try.prog 195 [(.agg [(iv a1.Buffer), (iv a1.Offset), (.slice A2 N2 D2)].toArray), (.agg [(iv b3.Buffer), (iv b3.Offset), (.slice A4 N4 D4)].toArray)] [rds kT3 (.slice A2 N2 D2) a1.Steps, rds kT3 (.slice A4 N4 D4) b3.Steps] (fun (h : Unit) => ((.bool r), [])) := by
 unfold laws_eqAccess at hr
 refine fn_ok Try.func195 R 21 R R fun C V => ?_
 refine cN (_ :: _ :: V) ?_
 refine cL 0 sees_rd ?_
 rintro rfl
 refine cL 1 sees_rd ?_
 rintro rfl
 let W0 : List HP := RR kT3 A2 D2 a1.Steps :: RR kT3 A4 D4 b3.Steps :: V
 refine cN W0 ?_
 refine c_seq (c_region (lBx R (fun b5 => (lBx R (fun b6 => (lB R (l_nil ?_)))))))
 let W1 : List HP := bxl b6 [(iv b3.Buffer), (iv b3.Offset), (sc A4 b3.Steps D4)] 124 :: bxl b5 [(iv a1.Buffer), (iv a1.Offset), (sc A2 a1.Steps D2)] 124 :: W0
 refine qN W1 ?_
 refine q_next (c_seq (c_seq (c_region (lO (vFa 0 fo124_0 R) (lO (vLd 1 ag3 R R R) (lO (vFa 0 fo124_0 R) (lO (vLd 0 ag3 R R R) (lO (vNe R R) (l_nil (q_next ?_))))))))))
 rcases bif_ hr with ⟨hb7, hr⟩ | ⟨hb7, hr⟩
 refine c_true R hb7 (c_seq (c_region (lB R (l_nil (q_next (c_ret (q_ret ?_)))))))
 obtain rfl := so hr
 exact qF () (fun w s => (s.e 4 []))
 refine c_false R hb7 (c_skip (q_next (c_seq (c_seq (c_region (lO (vFa 1 fo124_1 R) (lO (vLd 1 ag3 R R R) (lO (vFa 1 fo124_1 R) (lO (vLd 0 ag3 R R R) (lO (vNe R R) (l_nil (q_next ?_))))))))))))
 rcases bif_ hr with ⟨hb8, hr⟩ | ⟨hb8, hr⟩
 refine c_true R hb8 (c_seq (c_region (lB R (l_nil (q_next (c_ret (q_ret ?_)))))))
 obtain rfl := so hr
 exact qF () (fun w s => (s.e 4 []))
 refine c_false R hb8 (c_skip (q_next (c_seq (c_seq ?_))))
 obtain ⟨r9, hx10, hr⟩ := bd hr
 refine c_region (lO (vFa 2 fo124_2 R) (lO (vLd 1 ag29 R R R) (lO (vFa 2 fo124_2 R) (lO (vLd 0 ag29 R R R) (lM (RR kT3 A2 D2 a1.Steps :: RR kT3 A4 D4 b3.Steps :: W1) (fun w s => (((s.d 2 R).d 4 R).e 2 [1, 0])) ?_)))))
 refine lC 2 cb17 R (laws_eqIntS_ok hx10) R ?_
 rintro _
 refine lN W1 ?_
 refine lO (vNo R) (l_nil (q_next ?_))
 rcases bif_ hr with ⟨hb11, hr⟩ | ⟨hb11, hr⟩
 refine c_true R hb11 (c_seq (c_region (lB R (l_nil (q_next (c_ret (q_ret ?_)))))))
 obtain rfl := so hr
 exact qF () (fun w s => (s.e 4 []))
 refine c_false R hb11 (c_skip (q_next (c_seq (c_region (lB R (l_nil (q_next (c_ret ?_))))))))
 obtain rfl := so hr
 exact qF () (fun w s => (s.e 4 []))
theorem laws_eqAccessS_ok {a1 : (List Access)} {b3 : (List Access)} {r : Bool} (hr : laws_eqAccessS a1 b3 = some r) :
 FnOk Try.prog 194 [(.slice A2 N2 D2), (.slice A4 N4 D4)] [rds kT124 (.slice A2 N2 D2) a1, rds kT124 (.slice A4 N4 D4) b3] (fun (h : Unit) => ((.bool r), [])) := by
 unfold laws_eqAccessS at hr
 refine fn_ok Try.func194 R 27 R R fun C V => ?_
 refine cN (_ :: _ :: V) ?_
 refine cL 0 sees_rd ?_
 rintro rfl
 refine cL 1 sees_rd ?_
 rintro rfl
 let W0 : List HP := RR kT124 A2 D2 a1 :: RR kT124 A4 D4 b3 :: V
 refine cN W0 ?_
 refine c_seq (c_region (lB R (l_nil (q_next (c_seq (c_seq (c_region (lS R (lO (v_len sl122 R) (lS R (lO (v_len sl122 R) (lO (vNe R R) (l_nil (q_next ?_))))))))))))))
 rcases bif_ hr with ⟨hb5, hr⟩ | ⟨hb5, hr⟩
 refine c_true R hb5 (c_seq (c_region (lB R (l_nil (q_next (c_ret (q_ret ?_)))))))
 obtain rfl := so hr
 exact qF () (fun w s => (s.e 2 []))
 refine c_false R hb5 (c_skip (q_next (c_seq (c_cut (A := (Unit) × (Unit)) (fun a => laws_eqAccessS_J1 = some r) (fun a => []) (fun a => W0) ?_ ?_))))
 refine c_seq (c_region (lI R (l_nil (q_next (c_block ?_)))))
 obtain ⟨e1, hl1, hk1⟩ := bd hr
 refine c_loop (A := Unit) hl1 (fun s a => [(0, (sc A2 a1 D2)), (1, (sc A4 b3 D4)), (5, (iv s))]) (fun s a => W0) () (aS R) (fun w s => s) ?_
 rintro i18 _ σ1 out1 hr he1
 replace hr : laws_eqAccessS_L1 a1 b3 i18 = some out1 := hr
 unfold laws_eqAccessS_L1 at hr
 refine c_seq (c_seq (c_region (lI R (lS R (lO (v_len sl122 R) (lO (vLt R R) (l_nil (q_next ?_))))))))
 rcases bif_ hr with ⟨hb19, hr⟩ | ⟨hb19, hr⟩
 refine c_true R hb19 (c_skip (q_next (c_seq (c_block (c_seq ?_)))))
 obtain ⟨hg20, hr⟩ := gd hr
 obtain ⟨hg24, hr⟩ := gd hr
 obtain ⟨r28, hx29, hr⟩ := bd hr
 refine c_some 0 sees_rd (show 0 < a1.length by have := hg20; omega) (fun g21 o22 ha => ?_)
 subst ha
 refine c_elem (K := kT124) 0 i18 dT124.dec R hg20.1 hg20.2 ?_
 rintro ⟨-, -, ⟨A23, D23⟩⟩
 refine cN (cl g21 (o22 + i18.toNat * 3) [(iv (ix a1 i18).Buffer), (iv (ix a1 i18).Offset), (sc A23 ((ix a1 i18).Steps) D23)] :: RR kT3 A23 D23 ((ix a1 i18).Steps) :: W0) ?_
 refine c_some 3 sees_rd (show 0 < b3.length by have := hg24; omega) (fun g25 o26 ha => ?_)
 subst ha
 refine c_elem (K := kT124) 3 i18 dT124.dec R hg24.1 hg24.2 ?_
 rintro ⟨-, -, ⟨A27, D27⟩⟩
 refine cN (cl g25 (o26 + i18.toNat * 3) [(iv (ix b3 i18).Buffer), (iv (ix b3 i18).Offset), (sc A27 ((ix b3 i18).Steps) D27)] :: RR kT3 A27 D27 ((ix b3 i18).Steps) :: _ :: _ :: W0) ?_
 refine cdr 10 [] mixo (fun ht hn => (dR 0 R (vS R) (dR 1 R (vI R) (dR 2 R (vIa sl122 sz124 R R hg20) (dR 3 R (vz (.agg [(iv (ix a1 i18).Buffer), (iv (ix a1 i18).Offset), (sc A23 ((ix a1 i18).Steps) D23)].toArray) (v_clfs (fo := 0) 2 ag124 sz124 R R R R)) (dR 4 R (vS R) (dR 5 R (vI R) (dR 6 R (vIa sl122 sz124 R R hg24) (dR 7 R (vz (.agg [(iv (ix b3 i18).Buffer), (iv (ix b3 i18).Offset), (sc A27 ((ix b3 i18).Steps) D27)].toArray) (v_clfs (fo := 0) 0 ag124 sz124 R R R R)) (d_one 8 (by kernel_rfl) R (lM (rds _ _ _ :: rds _ _ _ :: cl _ _ _ :: rds _ _ _ :: cl _ _ _ :: rds _ _ _ :: W0) (fun w s => (((s.d 3 R).d 2 R).e 6 [1, 0, 2, 3, 4, 5])) ?_)))))))))))
 refine lC 2 cb195 R (laws_eqAccess_ok hx29) R ?_
 rintro _
 refine lN (_ :: _ :: _ :: _ :: W0) ?_
 refine l_nil (q_draw (sL []) (dR 9 R (vNo R) (d_done (by kernel_rfl) (q_next ?_))))
 rcases bif_ hr with ⟨hb30, hr⟩ | ⟨hb30, hr⟩
 refine c_true R hb30 (c_seq (c_region (lB R (l_nil (q_next (c_ret (q_blockr (q_ret ?_))))))))
 obtain rfl := so hr
 obtain rfl := he1 _ R
 have hr := hk1
 refine q_ret (q_blockr (q_ret ?_))
 obtain rfl := so hr
 exact qF () (fun w s => (s.e 6 []))
 refine c_false R hb30 (c_skip (q_blockn (q_next (c_region (lI R (lO (vAd R R) (lI R (l_nil ?_))))))))
 obtain rfl := so hr
 exact qA () (fun w s => (s.e 4 []))
 refine c_false R hb19 (c_exit (q_exit ?_))
 obtain rfl := so hr
 obtain rfl := he1 _ R
 have hr := hk1
 refine q_exit (q_block ?_)
 exact q_join ((), ()) hr trivial (fun w s => s)
 rintro ⟨_, _⟩ σ1 hr
 replace hr : laws_eqAccessS_J1 = some r := hr
 unfold laws_eqAccessS_J1 at hr
 refine c_seq (c_region (lB R (l_nil (q_next (c_ret ?_)))))
 obtain rfl := so hr
 exact qF () (fun w s => (s.e 2 []))
theorem laws_eqCalc_ok {a1 : Calc} {b2 : Calc} {r : Bool} (hr : laws_eqCalc a1 b2 = some r) :
 FnOk Try.prog 214 [(.agg [(iv a1.Op), (iv a1.A), (iv a1.B)].toArray), (.agg [(iv b2.Op), (iv b2.A), (iv b2.B)].toArray)] [] (fun (h : Unit) => ((.bool r), [])) := by
 unfold laws_eqCalc at hr
 refine fn_ok Try.func214 R 20 R R fun C V => ?_
 refine cN V ?_
 refine c_seq (c_region (lBx R (fun b3 => (lBx R (fun b4 => (lB R (l_nil ?_)))))))
 let W1 : List HP := bxl b4 [(iv b2.Op), (iv b2.A), (iv b2.B)] 216 :: bxl b3 [(iv a1.Op), (iv a1.A), (iv a1.B)] 216 :: V
 refine qN W1 ?_
 refine q_next (c_seq (c_seq (c_region (lO (vFa 0 fo216_0 R) (lO (vLd 1 ag3 R R R) (lO (vFa 0 fo216_0 R) (lO (vLd 0 ag3 R R R) (lO (vNe R R) (l_nil (q_next ?_))))))))))
 rcases bif_ hr with ⟨hb5, hr⟩ | ⟨hb5, hr⟩
 refine c_true R hb5 (c_seq (c_region (lB R (l_nil (q_next (c_ret (q_ret ?_)))))))
 obtain rfl := so hr
 exact qF () (fun w s => (s.e 2 []))
 refine c_false R hb5 (c_skip (q_next (c_seq (c_seq (c_region (lO (vFa 1 fo216_1 R) (lO (vLd 1 ag3 R R R) (lO (vFa 1 fo216_1 R) (lO (vLd 0 ag3 R R R) (lO (vNe R R) (l_nil (q_next ?_))))))))))))
 rcases bif_ hr with ⟨hb6, hr⟩ | ⟨hb6, hr⟩
 refine c_true R hb6 (c_seq (c_region (lB R (l_nil (q_next (c_ret (q_ret ?_)))))))
 obtain rfl := so hr
 exact qF () (fun w s => (s.e 2 []))
 refine c_false R hb6 (c_skip (q_next (c_seq (c_seq (c_region (lO (vFa 2 fo216_2 R) (lO (vLd 1 ag3 R R R) (lO (vFa 2 fo216_2 R) (lO (vLd 0 ag3 R R R) (lO (vNe R R) (l_nil (q_next ?_))))))))))))
 rcases bif_ hr with ⟨hb7, hr⟩ | ⟨hb7, hr⟩
 refine c_true R hb7 (c_seq (c_region (lB R (l_nil (q_next (c_ret (q_ret ?_)))))))
 obtain rfl := so hr
 exact qF () (fun w s => (s.e 2 []))
 refine c_false R hb7 (c_skip (q_next (c_seq (c_region (lB R (l_nil (q_next (c_ret ?_))))))))
 obtain rfl := so hr
 exact qF () (fun w s => (s.e 2 []))
theorem laws_eqCalcS_ok {a1 : (List Calc)} {b3 : (List Calc)} {r : Bool} (hr : laws_eqCalcS a1 b3 = some r) :
 FnOk Try.prog 196 [(.slice A2 N2 D2), (.slice A4 N4 D4)] [rds kT216 (.slice A2 N2 D2) a1, rds kT216 (.slice A4 N4 D4) b3] (fun (h : Unit) => ((.bool r), [])) := by
 unfold laws_eqCalcS at hr
 refine fn_ok Try.func196 R 27 R R fun C V => ?_
 refine cN (_ :: _ :: V) ?_
 refine cL 0 sees_rd ?_
 rintro rfl
 refine cL 1 sees_rd ?_
 rintro rfl
 let W0 : List HP := RR kT216 A2 D2 a1 :: RR kT216 A4 D4 b3 :: V
 refine cN W0 ?_
 refine c_seq (c_region (lB R (l_nil (q_next (c_seq (c_seq (c_region (lS R (lO (v_len sl125 R) (lS R (lO (v_len sl125 R) (lO (vNe R R) (l_nil (q_next ?_))))))))))))))
 rcases bif_ hr with ⟨hb5, hr⟩ | ⟨hb5, hr⟩
 refine c_true R hb5 (c_seq (c_region (lB R (l_nil (q_next (c_ret (q_ret ?_)))))))
 obtain rfl := so hr
 exact qF () (fun w s => (s.e 2 []))
 refine c_false R hb5 (c_skip (q_next (c_seq (c_cut (A := (Unit) × (Unit)) (fun a => laws_eqCalcS_J1 = some r) (fun a => []) (fun a => W0) ?_ ?_))))
 refine c_seq (c_region (lI R (l_nil (q_next (c_block ?_)))))
 obtain ⟨e1, hl1, hk1⟩ := bd hr
 refine c_loop (A := Unit) hl1 (fun s a => [(0, (sc A2 a1 D2)), (1, (sc A4 b3 D4)), (5, (iv s))]) (fun s a => W0) () (aS R) (fun w s => s) ?_
 rintro i16 _ σ1 out1 hr he1
 replace hr : laws_eqCalcS_L1 a1 b3 i16 = some out1 := hr
 unfold laws_eqCalcS_L1 at hr
 refine c_seq (c_seq (c_region (lI R (lS R (lO (v_len sl125 R) (lO (vLt R R) (l_nil (q_next ?_))))))))
 rcases bif_ hr with ⟨hb17, hr⟩ | ⟨hb17, hr⟩
 refine c_true R hb17 (c_skip (q_next (c_seq (c_block (c_seq ?_)))))
 obtain ⟨hg18, hr⟩ := gd hr
 obtain ⟨hg21, hr⟩ := gd hr
 obtain ⟨r24, hx25, hr⟩ := bd hr
 refine c_some 0 sees_rd (show 0 < a1.length by have := hg18; omega) (fun g19 o20 ha => ?_)
 subst ha
 refine c_some 1 sees_rd (show 0 < b3.length by have := hg21; omega) (fun g22 o23 ha => ?_)
 subst ha
 refine cdr 10 [] mixo (fun ht hn => (dR 0 R (vS R) (dR 1 R (vI R) (dR 2 R (vIa sl125 sz216 R R hg18) (d_v 3 (.agg [(iv (ix a1 i16).Op), (iv (ix a1 i16).A), (iv (ix a1 i16).B)].toArray) R ?_ R R R ht hn (by kernel_rfl) (sL []) ?_)))))
 exact (v_ldef (K := kT216) (cells := fun x => [(iv x.Op), (iv x.A), (iv x.B)]) 0 i16 ag216 sz216 (DecK.flat dT216 fun _ _ => R) sees_rd R hg18.1 hg18.2)
 refine dR 4 R (vS R) (dR 5 R (vI R) (dR 6 R (vIa sl125 sz216 R R hg21) (d_v 7 (.agg [(iv (ix b3 i16).Op), (iv (ix b3 i16).A), (iv (ix b3 i16).B)].toArray) R ?_ R R R ht hn (by kernel_rfl) (sL []) ?_)))
 exact (v_ldef (K := kT216) (cells := fun x => [(iv x.Op), (iv x.A), (iv x.B)]) 1 i16 ag216 sz216 (DecK.flat dT216 fun _ _ => R) sees_rd R hg21.1 hg21.2)
 refine d_one 8 (by kernel_rfl) R (lC 0 cb214 R (laws_eqCalc_ok hx25) R ?_)
 rintro _
 refine l_nil (q_draw (sL []) (dR 9 R (vNo R) (d_done (by kernel_rfl) (q_next ?_))))
 rcases bif_ hr with ⟨hb26, hr⟩ | ⟨hb26, hr⟩
 refine c_true R hb26 (c_seq (c_region (lB R (l_nil (q_next (c_ret (q_blockr (q_ret ?_))))))))
 obtain rfl := so hr
 obtain rfl := he1 _ R
 have hr := hk1
 refine q_ret (q_blockr (q_ret ?_))
 obtain rfl := so hr
 exact qF () (fun w s => (s.e 2 []))
 refine c_false R hb26 (c_skip (q_blockn (q_next (c_region (lI R (lO (vAd R R) (lI R (l_nil ?_))))))))
 obtain rfl := so hr
 exact qA () (fun w s => s)
 refine c_false R hb17 (c_exit (q_exit ?_))
 obtain rfl := so hr
 obtain rfl := he1 _ R
 have hr := hk1
 refine q_exit (q_block ?_)
 exact q_join ((), ()) hr trivial (fun w s => s)
 rintro ⟨_, _⟩ σ1 hr
 replace hr : laws_eqCalcS_J1 = some r := hr
 unfold laws_eqCalcS_J1 at hr
 refine c_seq (c_region (lB R (l_nil (q_next (c_ret ?_)))))
 obtain rfl := so hr
 exact qF () (fun w s => (s.e 2 []))
theorem laws_eqKernel_ok {a1 : Kernel} {b6 : Kernel} {r : Bool} (hr : laws_eqKernel a1 b6 = some r) :
 FnOk Try.prog 139 [(.agg [(.slice A2 N2 D2), (.slice A3 N3 D3), (iv a1.Store.Buffer), (iv a1.Store.Offset), (.slice A4 N4 D4), (.bool a1.Sum), (.slice A5 N5 D5)].toArray), (.agg [(.slice A7 N7 D7), (.slice A8 N8 D8), (iv b6.Store.Buffer), (iv b6.Store.Offset), (.slice A9 N9 D9), (.bool b6.Sum), (.slice A10 N10 D10)].toArray)] [rds kT3 (.slice A2 N2 D2) a1.Loops, rds kT124 (.slice A3 N3 D3) a1.Loads, rds kT3 (.slice A4 N4 D4) a1.Store.Steps, rds kT216 (.slice A5 N5 D5) a1.Code, rds kT3 (.slice A7 N7 D7) b6.Loops, rds kT124 (.slice A8 N8 D8) b6.Loads, rds kT3 (.slice A9 N9 D9) b6.Store.Steps, rds kT216 (.slice A10 N10 D10) b6.Code] (fun (h : Unit) => ((.bool r), [])) := by
 unfold laws_eqKernel at hr
 refine fn_ok Try.func139 R 34 R R fun C V => ?_
 refine cN (_ :: _ :: _ :: _ :: _ :: _ :: _ :: _ :: V) ?_
 refine cL 0 sees_rd ?_
 rintro rfl
 refine cL 1 sees_rd ?_
 rintro rfl
 refine cL 2 sees_rd ?_
 rintro rfl
 refine cL 3 sees_rd ?_
 rintro rfl
 refine cL 4 sees_rd ?_
 rintro rfl
 refine cL 5 sees_rd ?_
 rintro rfl
 refine cL 6 sees_rd ?_
 rintro rfl
 refine cL 7 sees_rd ?_
 rintro rfl
 let W0 : List HP := RR kT3 A2 D2 a1.Loops :: RR kT124 A3 D3 a1.Loads :: RR kT3 A4 D4 a1.Store.Steps :: RR kT216 A5 D5 a1.Code :: RR kT3 A7 D7 b6.Loops :: RR kT124 A8 D8 b6.Loads :: RR kT3 A9 D9 b6.Store.Steps :: RR kT216 A10 D10 b6.Code :: V
 refine cN W0 ?_
 refine c_seq (c_region (lBx R (fun b11 => (lBx R (fun b12 => (lB R (l_nil ?_)))))))
 let W1 : List HP := bxl b12 [(sc A7 b6.Loops D7), (sc A8 b6.Loads D8), (iv b6.Store.Buffer), (iv b6.Store.Offset), (sc A9 b6.Store.Steps D9), (.bool b6.Sum), (sc A10 b6.Code D10)] 127 :: bxl b11 [(sc A2 a1.Loops D2), (sc A3 a1.Loads D3), (iv a1.Store.Buffer), (iv a1.Store.Offset), (sc A4 a1.Store.Steps D4), (.bool a1.Sum), (sc A5 a1.Code D5)] 127 :: W0
 refine qN W1 ?_
 refine q_next (c_seq (c_seq ?_))
 obtain ⟨r13, hx14, hr⟩ := bd hr
 refine c_region (lO (vFa 0 fo127_0 R) (lO (vLd 1 ag29 R R R) (lO (vFa 0 fo127_0 R) (lO (vLd 0 ag29 R R R) (lM (RR kT3 A2 D2 a1.Loops :: RR kT3 A7 D7 b6.Loops :: W1) (fun w s => (((s.d 2 R).d 7 R).e 2 [1, 0])) ?_)))))
 refine lC 2 cb17 R (laws_eqIntS_ok hx14) R ?_
 rintro _
 refine lN W1 ?_
 refine lO (vNo R) (l_nil (q_next ?_))
 rcases bif_ hr with ⟨hb15, hr⟩ | ⟨hb15, hr⟩
 refine c_true R hb15 (c_seq (c_region (lB R (l_nil (q_next (c_ret (q_ret ?_)))))))
 obtain rfl := so hr
 exact qF () (fun w s => (s.e 10 []))
 refine c_false R hb15 (c_skip (q_next (c_seq (c_seq ?_))))
 obtain ⟨r16, hx17, hr⟩ := bd hr
 refine c_region (lO (vFa 1 fo127_1 R) (lO (vLd 1 ag122 R R R) (lO (vFa 1 fo127_1 R) (lO (vLd 0 ag122 R R R) (lM (RR kT124 A3 D3 a1.Loads :: RR kT124 A8 D8 b6.Loads :: W1) (fun w s => (((s.d 3 R).d 8 R).e 2 [1, 0])) ?_)))))
 refine lC 2 cb194 R (laws_eqAccessS_ok hx17) R ?_
 rintro _
 refine lN W1 ?_
 refine lO (vNo R) (l_nil (q_next ?_))
 rcases bif_ hr with ⟨hb18, hr⟩ | ⟨hb18, hr⟩
 refine c_true R hb18 (c_seq (c_region (lB R (l_nil (q_next (c_ret (q_ret ?_)))))))
 obtain rfl := so hr
 exact qF () (fun w s => (s.e 10 []))
 refine c_false R hb18 (c_skip (q_next (c_seq (c_seq ?_))))
 obtain ⟨r19, hx20, hr⟩ := bd hr
 refine c_region (lO (vFa 2 fo127_2 R) (lO (vz (.agg [(iv a1.Store.Buffer), (iv a1.Store.Offset), (sc A4 a1.Store.Steps D4)].toArray) (v_loadw 1 ag124 sz124 R R R R)) (lO (vFa 2 fo127_2 R) (lO (vz (.agg [(iv b6.Store.Buffer), (iv b6.Store.Offset), (sc A9 b6.Store.Steps D9)].toArray) (v_loadw 0 ag124 sz124 R R R R)) (lM (RR kT3 A4 D4 a1.Store.Steps :: RR kT3 A9 D9 b6.Store.Steps :: W1) (fun w s => (((s.d 4 R).d 9 R).e 2 [1, 0])) ?_)))))
 refine lC 2 cb195 R (laws_eqAccess_ok hx20) R ?_
 rintro _
 refine lN W1 ?_
 refine lO (vNo R) (l_nil (q_next ?_))
 rcases bif_ hr with ⟨hb21, hr⟩ | ⟨hb21, hr⟩
 refine c_true R hb21 (c_seq (c_region (lB R (l_nil (q_next (c_ret (q_ret ?_)))))))
 obtain rfl := so hr
 exact qF () (fun w s => (s.e 10 []))
 refine c_false R hb21 (c_skip (q_next (c_seq (c_seq (c_region (lO (vFa 5 fo127_3 R) (lO (vLd 1 ag4 R R R) (lO (vFa 5 fo127_3 R) (lO (vLd 0 ag4 R R R) (lO (v_bne un4 R R) (l_nil (q_next ?_))))))))))))
 rcases bif_ hr with ⟨hb22, hr⟩ | ⟨hb22, hr⟩
 refine c_true R hb22 (c_seq (c_region (lB R (l_nil (q_next (c_ret (q_ret ?_)))))))
 obtain rfl := so hr
 exact qF () (fun w s => (s.e 10 []))
 refine c_false R hb22 (c_skip (q_next (c_seq (c_seq ?_))))
 obtain ⟨r23, hx24, hr⟩ := bd hr
 refine c_region (lO (vFa 6 fo127_4 R) (lO (vLd 1 ag125 R R R) (lO (vFa 6 fo127_4 R) (lO (vLd 0 ag125 R R R) (lM (RR kT216 A5 D5 a1.Code :: RR kT216 A10 D10 b6.Code :: W1) (fun w s => (((s.d 5 R).d 10 R).e 2 [1, 0])) ?_)))))
 refine lC 2 cb196 R (laws_eqCalcS_ok hx24) R ?_
 rintro _
 refine lN W1 ?_
 refine lO (vNo R) (l_nil (q_next ?_))
 rcases bif_ hr with ⟨hb25, hr⟩ | ⟨hb25, hr⟩
 refine c_true R hb25 (c_seq (c_region (lB R (l_nil (q_next (c_ret (q_ret ?_)))))))
 obtain rfl := so hr
 exact qF () (fun w s => (s.e 10 []))
 refine c_false R hb25 (c_skip (q_next (c_seq (c_region (lB R (l_nil (q_next (c_ret ?_))))))))
 obtain rfl := so hr
 exact qF () (fun w s => (s.e 10 []))
theorem laws_eqKernelS_ok {a1 : (List Kernel)} {b3 : (List Kernel)} {r : Bool} (hr : laws_eqKernelS a1 b3 = some r) :
 FnOk Try.prog 78 [(.slice A2 N2 D2), (.slice A4 N4 D4)] [rds kT127 (.slice A2 N2 D2) a1, rds kT127 (.slice A4 N4 D4) b3] (fun (h : Unit) => ((.bool r), [])) := by
 unfold laws_eqKernelS at hr
 refine fn_ok Try.func78 R 27 R R fun C V => ?_
 refine cN (_ :: _ :: V) ?_
 refine cL 0 sees_rd ?_
 rintro rfl
 refine cL 1 sees_rd ?_
 rintro rfl
 let W0 : List HP := RR kT127 A2 D2 a1 :: RR kT127 A4 D4 b3 :: V
 refine cN W0 ?_
 refine c_seq (c_region (lB R (l_nil (q_next (c_seq (c_seq (c_region (lS R (lO (v_len sl56 R) (lS R (lO (v_len sl56 R) (lO (vNe R R) (l_nil (q_next ?_))))))))))))))
 rcases bif_ hr with ⟨hb5, hr⟩ | ⟨hb5, hr⟩
 refine c_true R hb5 (c_seq (c_region (lB R (l_nil (q_next (c_ret (q_ret ?_)))))))
 obtain rfl := so hr
 exact qF () (fun w s => (s.e 2 []))
 refine c_false R hb5 (c_skip (q_next (c_seq (c_cut (A := (Unit) × (Unit)) (fun a => laws_eqKernelS_J1 = some r) (fun a => []) (fun a => W0) ?_ ?_))))
 refine c_seq (c_region (lI R (l_nil (q_next (c_block ?_)))))
 obtain ⟨e1, hl1, hk1⟩ := bd hr
 refine c_loop (A := Unit) hl1 (fun s a => [(0, (sc A2 a1 D2)), (1, (sc A4 b3 D4)), (5, (iv s))]) (fun s a => W0) () (aS R) (fun w s => s) ?_
 rintro i24 _ σ1 out1 hr he1
 replace hr : laws_eqKernelS_L1 a1 b3 i24 = some out1 := hr
 unfold laws_eqKernelS_L1 at hr
 refine c_seq (c_seq (c_region (lI R (lS R (lO (v_len sl56 R) (lO (vLt R R) (l_nil (q_next ?_))))))))
 rcases bif_ hr with ⟨hb25, hr⟩ | ⟨hb25, hr⟩
 refine c_true R hb25 (c_skip (q_next (c_seq (c_block (c_seq ?_)))))
 obtain ⟨hg26, hr⟩ := gd hr
 obtain ⟨hg33, hr⟩ := gd hr
 obtain ⟨r40, hx41, hr⟩ := bd hr
 refine c_some 0 sees_rd (show 0 < a1.length by have := hg26; omega) (fun g27 o28 ha => ?_)
 subst ha
 refine c_elem (K := kT127) 0 i24 dT127.dec R hg26.1 hg26.2 ?_
 rintro ⟨⟨A29, D29⟩, ⟨A30, D30⟩, ⟨-, -, ⟨A31, D31⟩⟩, -, ⟨A32, D32⟩⟩
 refine cN (cl g27 (o28 + i24.toNat * 7) [(sc A29 ((ix a1 i24).Loops) D29), (sc A30 ((ix a1 i24).Loads) D30), (iv (ix a1 i24).Store.Buffer), (iv (ix a1 i24).Store.Offset), (sc A31 ((ix a1 i24).Store.Steps) D31), (.bool (ix a1 i24).Sum), (sc A32 ((ix a1 i24).Code) D32)] :: RR kT3 A29 D29 ((ix a1 i24).Loops) :: RR kT124 A30 D30 ((ix a1 i24).Loads) :: RR kT3 A31 D31 ((ix a1 i24).Store.Steps) :: RR kT216 A32 D32 ((ix a1 i24).Code) :: W0) ?_
 refine c_some 6 sees_rd (show 0 < b3.length by have := hg33; omega) (fun g34 o35 ha => ?_)
 subst ha
 refine c_elem (K := kT127) 6 i24 dT127.dec R hg33.1 hg33.2 ?_
 rintro ⟨⟨A36, D36⟩, ⟨A37, D37⟩, ⟨-, -, ⟨A38, D38⟩⟩, -, ⟨A39, D39⟩⟩
 refine cN (cl g34 (o35 + i24.toNat * 7) [(sc A36 ((ix b3 i24).Loops) D36), (sc A37 ((ix b3 i24).Loads) D37), (iv (ix b3 i24).Store.Buffer), (iv (ix b3 i24).Store.Offset), (sc A38 ((ix b3 i24).Store.Steps) D38), (.bool (ix b3 i24).Sum), (sc A39 ((ix b3 i24).Code) D39)] :: RR kT3 A36 D36 ((ix b3 i24).Loops) :: RR kT124 A37 D37 ((ix b3 i24).Loads) :: RR kT3 A38 D38 ((ix b3 i24).Store.Steps) :: RR kT216 A39 D39 ((ix b3 i24).Code) :: _ :: _ :: _ :: _ :: _ :: W0) ?_
 refine cdr 10 [] mixo (fun ht hn => (dR 0 R (vS R) (dR 1 R (vI R) (dR 2 R (vIa sl56 sz127 R R hg26) (dR 3 R (vz (.agg [(sc A29 ((ix a1 i24).Loops) D29), (sc A30 ((ix a1 i24).Loads) D30), (iv (ix a1 i24).Store.Buffer), (iv (ix a1 i24).Store.Offset), (sc A31 ((ix a1 i24).Store.Steps) D31), (.bool (ix a1 i24).Sum), (sc A32 ((ix a1 i24).Code) D32)].toArray) (v_clfs (fo := 0) 5 ag127 sz127 R R R R)) (dR 4 R (vS R) (dR 5 R (vI R) (dR 6 R (vIa sl56 sz127 R R hg33) (dR 7 R (vz (.agg [(sc A36 ((ix b3 i24).Loops) D36), (sc A37 ((ix b3 i24).Loads) D37), (iv (ix b3 i24).Store.Buffer), (iv (ix b3 i24).Store.Offset), (sc A38 ((ix b3 i24).Store.Steps) D38), (.bool (ix b3 i24).Sum), (sc A39 ((ix b3 i24).Code) D39)].toArray) (v_clfs (fo := 0) 0 ag127 sz127 R R R R)) (d_one 8 (by kernel_rfl) R ?_))))))))))
 refine lM (rds _ _ _ :: rds _ _ _ :: rds _ _ _ :: rds _ _ _ :: rds _ _ _ :: rds _ _ _ :: rds _ _ _ :: rds _ _ _ :: cl _ _ _ :: rds _ _ _ :: rds _ _ _ :: rds _ _ _ :: rds _ _ _ :: cl _ _ _ :: rds _ _ _ :: rds _ _ _ :: rds _ _ _ :: rds _ _ _ :: W0) (fun w s => (((((((((s.d 6 R).d 8 R).d 10 R).d 12 R).d 5 R).d 7 R).d 9 R).d 11 R).e 18 [7, 6, 5, 4, 3, 2, 1, 0, 8, 9, 10, 11, 12, 13, 14, 15, 16, 17])) ?_
 refine lC 8 cb139 R (laws_eqKernel_ok hx41) R ?_
 rintro _
 refine lN (_ :: _ :: _ :: _ :: _ :: _ :: _ :: _ :: _ :: _ :: W0) ?_
 refine l_nil (q_draw (sL []) (dR 9 R (vNo R) (d_done (by kernel_rfl) (q_next ?_))))
 rcases bif_ hr with ⟨hb42, hr⟩ | ⟨hb42, hr⟩
 refine c_true R hb42 (c_seq (c_region (lB R (l_nil (q_next (c_ret (q_blockr (q_ret ?_))))))))
 obtain rfl := so hr
 obtain rfl := he1 _ R
 have hr := hk1
 refine q_ret (q_blockr (q_ret ?_))
 obtain rfl := so hr
 exact qF () (fun w s => (s.e 12 []))
 refine c_false R hb42 (c_skip (q_blockn (q_next (c_region (lI R (lO (vAd R R) (lI R (l_nil ?_))))))))
 obtain rfl := so hr
 exact qA () (fun w s => (s.e 10 []))
 refine c_false R hb25 (c_exit (q_exit ?_))
 obtain rfl := so hr
 obtain rfl := he1 _ R
 have hr := hk1
 refine q_exit (q_block ?_)
 exact q_join ((), ()) hr trivial (fun w s => s)
 rintro ⟨_, _⟩ σ1 hr
 replace hr : laws_eqKernelS_J1 = some r := hr
 unfold laws_eqKernelS_J1 at hr
 refine c_seq (c_region (lB R (l_nil (q_next (c_ret ?_)))))
 obtain rfl := so hr
 exact qF () (fun w s => (s.e 2 []))
theorem laws_eqNest_ok {a1 : Nest} {b7 : Nest} {r : Bool} (hr : laws_eqNest a1 b7 = some r) :
 FnOk Try.prog 26 [(.agg [(.slice A2 N2 D2), (.slice A3 N3 D3), (.slice A4 N4 D4), (.slice A5 N5 D5), (.slice A6 N6 D6)].toArray), (.agg [(.slice A8 N8 D8), (.slice A9 N9 D9), (.slice A10 N10 D10), (.slice A11 N11 D11), (.slice A12 N12 D12)].toArray)] [rds kT3 (.slice A2 N2 D2) a1.Sizes, rds kT3 (.slice A3 N3 D3) a1.Ins, rds kT159 (.slice A4 N4 D4) a1.Fixed, rds kT127 (.slice A5 N5 D5) a1.Kernels, rds kT3 (.slice A6 N6 D6) a1.Outs, rds kT3 (.slice A8 N8 D8) b7.Sizes, rds kT3 (.slice A9 N9 D9) b7.Ins, rds kT159 (.slice A10 N10 D10) b7.Fixed, rds kT127 (.slice A11 N11 D11) b7.Kernels, rds kT3 (.slice A12 N12 D12) b7.Outs] (fun (h : Unit) => ((.bool r), [])) := by
 unfold laws_eqNest at hr
 refine fn_ok Try.func26 R 35 R R fun C V => ?_
 refine cN (_ :: _ :: _ :: _ :: _ :: _ :: _ :: _ :: _ :: _ :: V) ?_
 refine cL 0 sees_rd ?_
 rintro rfl
 refine cL 1 sees_rd ?_
 rintro rfl
 refine cL 2 sees_rd ?_
 rintro rfl
 refine cL 3 sees_rd ?_
 rintro rfl
 refine cL 4 sees_rd ?_
 rintro rfl
 refine cL 5 sees_rd ?_
 rintro rfl
 refine cL 6 sees_rd ?_
 rintro rfl
 refine cL 7 sees_rd ?_
 rintro rfl
 refine cL 8 sees_rd ?_
 rintro rfl
 refine cL 9 sees_rd ?_
 rintro rfl
 let W0 : List HP := RR kT3 A2 D2 a1.Sizes :: RR kT3 A3 D3 a1.Ins :: RR kT159 A4 D4 a1.Fixed :: RR kT127 A5 D5 a1.Kernels :: RR kT3 A6 D6 a1.Outs :: RR kT3 A8 D8 b7.Sizes :: RR kT3 A9 D9 b7.Ins :: RR kT159 A10 D10 b7.Fixed :: RR kT127 A11 D11 b7.Kernels :: RR kT3 A12 D12 b7.Outs :: V
 refine cN W0 ?_
 refine c_seq (c_region (lBx R (fun b13 => (lBx R (fun b14 => (lB R (l_nil ?_)))))))
 let W1 : List HP := bxl b14 [(sc A8 b7.Sizes D8), (sc A9 b7.Ins D9), (sc A10 b7.Fixed D10), (sc A11 b7.Kernels D11), (sc A12 b7.Outs D12)] 58 :: bxl b13 [(sc A2 a1.Sizes D2), (sc A3 a1.Ins D3), (sc A4 a1.Fixed D4), (sc A5 a1.Kernels D5), (sc A6 a1.Outs D6)] 58 :: W0
 refine qN W1 ?_
 refine q_next (c_seq (c_seq ?_))
 obtain ⟨r15, hx16, hr⟩ := bd hr
 refine c_region (lO (vFa 0 fo58_0 R) (lO (vLd 1 ag29 R R R) (lO (vFa 0 fo58_0 R) (lO (vLd 0 ag29 R R R) (lM (RR kT3 A2 D2 a1.Sizes :: RR kT3 A8 D8 b7.Sizes :: W1) (fun w s => (((s.d 2 R).d 8 R).e 2 [1, 0])) ?_)))))
 refine lC 2 cb17 R (laws_eqIntS_ok hx16) R ?_
 rintro _
 refine lN W1 ?_
 refine lO (vNo R) (l_nil (q_next ?_))
 rcases bif_ hr with ⟨hb17, hr⟩ | ⟨hb17, hr⟩
 refine c_true R hb17 (c_seq (c_region (lB R (l_nil (q_next (c_ret (q_ret ?_)))))))
 obtain rfl := so hr
 exact qF () (fun w s => (s.e 12 []))
 refine c_false R hb17 (c_skip (q_next (c_seq (c_seq ?_))))
 obtain ⟨r18, hx19, hr⟩ := bd hr
 refine c_region (lO (vFa 1 fo58_1 R) (lO (vLd 1 ag29 R R R) (lO (vFa 1 fo58_1 R) (lO (vLd 0 ag29 R R R) (lM (RR kT3 A3 D3 a1.Ins :: RR kT3 A9 D9 b7.Ins :: W1) (fun w s => (((s.d 3 R).d 9 R).e 2 [1, 0])) ?_)))))
 refine lC 2 cb17 R (laws_eqIntS_ok hx19) R ?_
 rintro _
 refine lN W1 ?_
 refine lO (vNo R) (l_nil (q_next ?_))
 rcases bif_ hr with ⟨hb20, hr⟩ | ⟨hb20, hr⟩
 refine c_true R hb20 (c_seq (c_region (lB R (l_nil (q_next (c_ret (q_ret ?_)))))))
 obtain rfl := so hr
 exact qF () (fun w s => (s.e 12 []))
 refine c_false R hb20 (c_skip (q_next (c_seq (c_seq ?_))))
 obtain ⟨r21, hx22, hr⟩ := bd hr
 refine c_region (lO (vFa 2 fo58_2 R) (lO (vLd 1 ag55 R R R) (lO (vFa 2 fo58_2 R) (lO (vLd 0 ag55 R R R) (lM (RR kT159 A4 D4 a1.Fixed :: RR kT159 A10 D10 b7.Fixed :: W1) (fun w s => (((s.d 4 R).d 10 R).e 2 [1, 0])) ?_)))))
 refine lC 2 cb77 R (laws_eqFixS_ok hx22) R ?_
 rintro _
 refine lN W1 ?_
 refine lO (vNo R) (l_nil (q_next ?_))
 rcases bif_ hr with ⟨hb23, hr⟩ | ⟨hb23, hr⟩
 refine c_true R hb23 (c_seq (c_region (lB R (l_nil (q_next (c_ret (q_ret ?_)))))))
 obtain rfl := so hr
 exact qF () (fun w s => (s.e 12 []))
 refine c_false R hb23 (c_skip (q_next (c_seq (c_seq ?_))))
 obtain ⟨r24, hx25, hr⟩ := bd hr
 refine c_region (lO (vFa 3 fo58_3 R) (lO (vLd 1 ag56 R R R) (lO (vFa 3 fo58_3 R) (lO (vLd 0 ag56 R R R) (lM (RR kT127 A5 D5 a1.Kernels :: RR kT127 A11 D11 b7.Kernels :: W1) (fun w s => (((s.d 5 R).d 11 R).e 2 [1, 0])) ?_)))))
 refine lC 2 cb78 R (laws_eqKernelS_ok hx25) R ?_
 rintro _
 refine lN W1 ?_
 refine lO (vNo R) (l_nil (q_next ?_))
 rcases bif_ hr with ⟨hb26, hr⟩ | ⟨hb26, hr⟩
 refine c_true R hb26 (c_seq (c_region (lB R (l_nil (q_next (c_ret (q_ret ?_)))))))
 obtain rfl := so hr
 exact qF () (fun w s => (s.e 12 []))
 refine c_false R hb26 (c_skip (q_next (c_seq (c_seq ?_))))
 obtain ⟨r27, hx28, hr⟩ := bd hr
 refine c_region (lO (vFa 4 fo58_4 R) (lO (vLd 1 ag29 R R R) (lO (vFa 4 fo58_4 R) (lO (vLd 0 ag29 R R R) (lM (RR kT3 A6 D6 a1.Outs :: RR kT3 A12 D12 b7.Outs :: W1) (fun w s => (((s.d 6 R).d 12 R).e 2 [1, 0])) ?_)))))
 refine lC 2 cb17 R (laws_eqIntS_ok hx28) R ?_
 rintro _
 refine lN W1 ?_
 refine lO (vNo R) (l_nil (q_next ?_))
 rcases bif_ hr with ⟨hb29, hr⟩ | ⟨hb29, hr⟩
 refine c_true R hb29 (c_seq (c_region (lB R (l_nil (q_next (c_ret (q_ret ?_)))))))
 obtain rfl := so hr
 exact qF () (fun w s => (s.e 12 []))
 refine c_false R hb29 (c_skip (q_next (c_seq (c_region (lB R (l_nil (q_next (c_ret ?_))))))))
 obtain rfl := so hr
 exact qF () (fun w s => (s.e 12 []))
theorem laws_markIntS_ok {a1 : (List Int)} {k3 : Int} {r : Int × (List Int)} (hr : laws_markIntS a1 k3 = some r) :
 FnOk Try.prog 20 [(.slice A2 N2 D2), (iv k3)] [ow kT3 3 (.slice A2 N2 D2) a1] (fun (h : Unit) => ((iv r.1), [ow kT3 3 (.slice A2 N2 D2) r.2])) := by
 unfold laws_markIntS at hr
 refine fn_ok Try.func20 R 19 R R fun C V => ?_
 refine cN (_ :: V) ?_
 refine cL 0 sees_ow ?_
 rintro rfl
 refine c_seq (c_region (lI R (l_nil (q_next (c_seq (c_cut (A := (Int × (List Int)) × (Unit)) (fun a => laws_markIntS_J1 a.1.1 a.1.2 = some r) (fun a => [(1, (iv a.1.1))]) (fun a => ow kT3 3 (.slice A2 a1.length D2) a.1.2 :: V) ?_ ?_))))))
 refine c_seq (c_region (lI R (l_nil (q_next (c_block ?_)))))
 obtain ⟨e1, hl1, hk1⟩ := bd hr
 refine c_loop (A := Unit) hl1 (fun s a => [(0, (sc A2 a1 D2)), (1, (iv s.2.1)), (5, (iv s.2.2))]) (fun s a => ow kT3 3 (.slice A2 a1.length D2) s.1 :: V) () (aS R) (fun w s => s) ?_
 rintro ⟨a8, k9, i10⟩ _ σ1 out1 hr he1
 replace hr : laws_markIntS_L1 a1 a8 k9 i10 = some out1 := hr
 unfold laws_markIntS_L1 at hr
 refine c_seq (c_seq (c_region (lI R (lS R (lO (v_len sl29 R) (lO (vLt R R) (l_nil (q_next ?_))))))))
 rcases bif_ hr with ⟨hb11, hr⟩ | ⟨hb11, hr⟩
 refine c_true R hb11 (c_skip (q_next (c_seq (c_block (c_seq ?_)))))
 obtain ⟨hg12, hr⟩ := gd hr
 refine c_region (lS R (lI R (lI R (t_some 0 sees_ow (show 0 < a1.length by have := hg12; omega) (fun g13 o14 ha => ?_)))))
 subst ha
 refine lO (vIa sl29 sz3 R R hg12) (lN (ow kT3 3 (.slice (ad g13 o14) a1.length D2) a8 :: V) ?_)
 refine l_stx (K := kT3) (x' := k9) 0 i10 R R sz3 R R hg12.1 hg12.2 ?_ ?_
 exact fun I h s => (mO3).put I h () k9 s
 refine lN (ow kT3 3 (.slice (ad g13 o14) a1.length D2) (a8.set i10.toNat k9) :: V) ?_
 refine l_nil (q_next (c_region (lI R (lO (vAd R R) (lI R (l_nil (q_blockn (q_next (c_region (lI R (lO (vAd R R) (lI R (l_nil ?_)))))))))))))
 obtain rfl := so hr
 exact qA () (fun w s => s)
 refine c_false R hb11 (c_exit (q_exit ?_))
 obtain rfl := so hr
 obtain rfl := he1 _ R
 have hr := hk1
 refine q_exit (q_block ?_)
 exact qI ((k9, a8), ()) hr (fun w s => s)
 rintro ⟨⟨k18, p19⟩, _⟩ σ1 hr
 replace hr : laws_markIntS_J1 k18 p19 = some r := hr
 unfold laws_markIntS_J1 at hr
 refine c_seq (c_region (lI R (lI R (l_nil (q_next (c_ret ?_))))))
 obtain rfl := so hr
 exact qF () (fun w s => s)
theorem laws_markFixS_ok {a1 : (List Fix)} {k3 : Int} {r : Int × (List Fix)} (hr : laws_markFixS a1 k3 = some r) :
 FnOk Try.prog 79 [(.slice A2 N2 D2), (iv k3)] [ow kT159 159 (.slice A2 N2 D2) a1] (fun (h : Unit) => ((iv r.1), [ow kT159 159 (.slice A2 N2 D2) r.2])) := by
 unfold laws_markFixS at hr
 refine fn_ok Try.func79 R 27 R R fun C V => ?_
 refine cN (_ :: V) ?_
 refine cL 0 sees_ow ?_
 rintro rfl
 refine c_seq (c_region (lI R (l_nil (q_next (c_seq (c_cut (A := (Int × (List Fix)) × (Unit)) (fun a => laws_markFixS_J1 a.1.1 a.1.2 = some r) (fun a => [(1, (iv a.1.1))]) (fun a => ow kT159 159 (.slice A2 a1.length D2) a.1.2 :: V) ?_ ?_))))))
 refine c_seq (c_region (lI R (l_nil (q_next (c_block ?_)))))
 obtain ⟨e1, hl1, hk1⟩ := bd hr
 refine c_loop (A := Unit) hl1 (fun s a => [(0, (sc A2 a1 D2)), (1, (iv s.2.1)), (5, (iv s.2.2))]) (fun s a => ow kT159 159 (.slice A2 a1.length D2) s.1 :: V) () (aS R) (fun w s => s) ?_
 rintro ⟨a15, k16, i17⟩ _ σ1 out1 hr he1
 replace hr : laws_markFixS_L1 a1 a15 k16 i17 = some out1 := hr
 unfold laws_markFixS_L1 at hr
 refine c_seq (c_seq (c_region (lI R (lS R (lO (v_len sl55 R) (lO (vLt R R) (l_nil (q_next ?_))))))))
 rcases bif_ hr with ⟨hb18, hr⟩ | ⟨hb18, hr⟩
 refine c_true R hb18 (c_skip (q_next (c_seq (c_block (c_seq ?_)))))
 obtain ⟨hg19, hr⟩ := gd hr
 refine c_region (lS R (lI R (lI R (t_some 0 sees_ow (show 0 < a1.length by have := hg19; omega) (fun g20 o21 ha => ?_)))))
 subst ha
 refine lO (vIa sl55 sz159 R R hg19) (lO (vz (.pointer (some ⟨g20, o21 + i17.toNat * 2, none⟩)) (v_fa fo159_0 R R)) (l_ste (K := kT159) (fo := 0) (v := (iv k16)) (f := (fun x : Fix => (⟨k16, x.Data⟩ : Fix))) 0 i17 R R sz3 ?_ R R R R hg19.1 hg19.2 ?_))
 exact SetL.deep sP159 mO159 (fun a x => ((), (.slice a.2.1 x.Data.length a.2.2))) R (fun _ _ => R) (fun _ _ => R)
 refine lN (ow kT159 159 (.slice (ad g20 o21) a1.length D2) (a15.set i17.toNat (⟨k16, (ix a15 i17).Data⟩ : Fix)) :: V) ?_
 refine l_nil (q_next (c_seq (c_region (lI R (lO (vAd R R) (lI R (l_nil (q_next ?_))))))))
 obtain ⟨r23, hx24, hr⟩ := bd hr
 refine c_region (lS R (lI R (lO (vIa sl55 sz159 R R hg19) (lO (vz (.pointer (some ⟨g20, o21 + i17.toNat * 2 + 1, none⟩)) (v_fa fo159_1 R R)) (t_focus (K := kT159) sP159 0 i17 R hg19.1 hg19.2 ?_)))))
 rintro ⟨-, ⟨A22, D22⟩⟩
 refine lN (hol kT159 159 (.slice (ad g20 o21) a1.length D2) (a15.set i17.toNat (⟨k16, (ix a15 i17).Data⟩ : Fix)) i17.toNat [(iv (ix (a15.set i17.toNat (⟨k16, (ix a15 i17).Data⟩ : Fix)) i17).Buffer), (sc A22 ((ix (a15.set i17.toNat (⟨k16, (ix a15 i17).Data⟩ : Fix)) i17).Data) D22)] :: OO kT3 3 A22 D22 ((ix (a15.set i17.toNat (⟨k16, (ix a15 i17).Data⟩ : Fix)) i17).Data) :: V) ?_
 refine lO (v_holf (fo := 1) 0 ag29 R R R) (lI R (lM (ow _ _ _ _ :: hol _ _ _ _ _ _ :: V) (fun w s => (s.e 2 [1, 0])) ?_))
 refine lC 1 cb20 R (laws_markIntS_ok hx24) R ?_
 rintro _
 refine lN (ow kT3 3 (.slice A22 ((ix (a15.set i17.toNat (⟨k16, (ix a15 i17).Data⟩ : Fix)) i17).Data).length D22) r23.2 :: _ :: V) ?_
 refine lI R (l_nil (qM (ow kT159 159 (.slice (ad g20 o21) a1.length D2) ((a15.set i17.toNat (⟨k16, (ix a15 i17).Data⟩ : Fix)).set i17.toNat (⟨(ix (a15.set i17.toNat (⟨k16, (ix a15 i17).Data⟩ : Fix)) i17).Buffer, r23.2⟩ : Fix)) :: V) (fun w s => St.unfocus (E := [ow kT3 3 (.slice A22 ((ix (a15.set i17.toNat (⟨k16, (ix a15 i17).Data⟩ : Fix)) i17).Data).length D22) r23.2]) (⟨(ix (a15.set i17.toNat (⟨k16, (ix a15 i17).Data⟩ : Fix)) i17).Buffer, r23.2⟩ : Fix) (s.e 2 [1, 0]) ?_) ?_))
 exact fun I h s => (mO159).put I h ((), (sc A22 ((ix (a15.set i17.toNat (⟨k16, (ix a15 i17).Data⟩ : Fix)) i17).Data) D22)) (⟨(ix (a15.set i17.toNat (⟨k16, (ix a15 i17).Data⟩ : Fix)) i17).Buffer, r23.2⟩ : Fix) s
 obtain ⟨l25, hl26, hr⟩ := bd hr
 replace hl26 := Option.some.inj hl26
 refine qM (ow kT159 159 (.slice (ad g20 o21) a1.length D2) l25 :: V) (fun w s => by rw [← hl26]; exact s) ?_
 refine q_blockn (q_next (c_region (lI R (lO (vAd R R) (lI R (l_nil ?_))))))
 obtain rfl := so hr
 exact qA () (fun w s => s)
 refine c_false R hb18 (c_exit (q_exit ?_))
 obtain rfl := so hr
 obtain rfl := he1 _ R
 have hr := hk1
 refine q_exit (q_block ?_)
 exact qI ((k16, a15), ()) hr (fun w s => s)
 rintro ⟨⟨k30, p31⟩, _⟩ σ1 hr
 replace hr : laws_markFixS_J1 k30 p31 = some r := hr
 unfold laws_markFixS_J1 at hr
 refine c_seq (c_region (lI R (lI R (l_nil (q_next (c_ret ?_))))))
 obtain rfl := so hr
 exact qF () (fun w s => s)
theorem laws_markAccessS_ok {a1 : (List Access)} {k3 : Int} {r : Int × (List Access)} (hr : laws_markAccessS a1 k3 = some r) :
 FnOk Try.prog 140 [(.slice A2 N2 D2), (iv k3)] [ow kT124 124 (.slice A2 N2 D2) a1] (fun (h : Unit) => ((iv r.1), [ow kT124 124 (.slice A2 N2 D2) r.2])) := by
 unfold laws_markAccessS at hr
 refine fn_ok Try.func140 R 34 R R fun C V => ?_
 refine cN (_ :: V) ?_
 refine cL 0 sees_ow ?_
 rintro rfl
 refine c_seq (c_region (lI R (l_nil (q_next (c_seq (c_cut (A := (Int × (List Access)) × (Unit)) (fun a => laws_markAccessS_J1 a.1.1 a.1.2 = some r) (fun a => [(1, (iv a.1.1))]) (fun a => ow kT124 124 (.slice A2 a1.length D2) a.1.2 :: V) ?_ ?_))))))
 refine c_seq (c_region (lI R (l_nil (q_next (c_block ?_)))))
 obtain ⟨e1, hl1, hk1⟩ := bd hr
 refine c_loop (A := Unit) hl1 (fun s a => [(0, (sc A2 a1 D2)), (1, (iv s.2.1)), (5, (iv s.2.2))]) (fun s a => ow kT124 124 (.slice A2 a1.length D2) s.1 :: V) () (aS R) (fun w s => s) ?_
 rintro ⟨a17, k18, i19⟩ _ σ1 out1 hr he1
 replace hr : laws_markAccessS_L1 a1 a17 k18 i19 = some out1 := hr
 unfold laws_markAccessS_L1 at hr
 refine c_seq (c_seq (c_region (lI R (lS R (lO (v_len sl122 R) (lO (vLt R R) (l_nil (q_next ?_))))))))
 rcases bif_ hr with ⟨hb20, hr⟩ | ⟨hb20, hr⟩
 refine c_true R hb20 (c_skip (q_next (c_seq (c_block (c_seq ?_)))))
 obtain ⟨hg21, hr⟩ := gd hr
 refine c_region (lS R (lI R (lI R (t_some 0 sees_ow (show 0 < a1.length by have := hg21; omega) (fun g22 o23 ha => ?_)))))
 subst ha
 refine lO (vIa sl122 sz124 R R hg21) (lO (vz (.pointer (some ⟨g22, o23 + i19.toNat * 3, none⟩)) (v_fa fo124_0 R R)) (l_ste (K := kT124) (fo := 0) (v := (iv k18)) (f := (fun x : Access => (⟨k18, x.Offset, x.Steps⟩ : Access))) 0 i19 R R sz3 ?_ R R R R hg21.1 hg21.2 ?_))
 exact SetL.deep sP124 mO124 (fun a x => ((), (), (.slice a.2.2.1 x.Steps.length a.2.2.2))) R (fun _ _ => R) (fun _ _ => R)
 refine lN (ow kT124 124 (.slice (ad g22 o23) a1.length D2) (a17.set i19.toNat (⟨k18, (ix a17 i19).Offset, (ix a17 i19).Steps⟩ : Access)) :: V) ?_
 refine l_nil ?_
 obtain ⟨l24, hl25, hr⟩ := bd hr
 replace hl25 := Option.some.inj hl25
 refine qM (ow kT124 124 (.slice (ad g22 o23) a1.length D2) l24 :: V) (fun w s => by rw [← hl25]; exact s) ?_
 refine q_next (c_seq (c_region (lI R (lO (vAd R R) (lI R (l_nil (q_next (c_seq (c_region (lS R (lI R (lI R (lO (vIa sl122 sz124 R R hg21) (lO (vz (.pointer (some ⟨g22, o23 + i19.toNat * 3 + 1, none⟩)) (v_fa fo124_1 R R)) (l_ste (K := kT124) (fo := 1) (v := (iv (w64 (k18 + (1 : Int))))) (f := (fun x : Access => (⟨x.Buffer, (w64 (k18 + (1 : Int))), x.Steps⟩ : Access))) 0 i19 R R sz3 ?_ R R R R hg21.1 hg21.2 ?_)))))))))))))))
 exact SetL.deep sP124 mO124 (fun a x => ((), (), (.slice a.2.2.1 x.Steps.length a.2.2.2))) R (fun _ _ => R) (fun _ _ => R)
 refine lN (ow kT124 124 (.slice (ad g22 o23) a1.length D2) (l24.set i19.toNat (⟨(ix l24 i19).Buffer, (w64 (k18 + (1 : Int))), (ix l24 i19).Steps⟩ : Access)) :: V) ?_
 refine l_nil ?_
 obtain ⟨l26, hl27, hr⟩ := bd hr
 replace hl27 := Option.some.inj hl27
 refine qM (ow kT124 124 (.slice (ad g22 o23) a1.length D2) l26 :: V) (fun w s => by rw [← hl27]; exact s) ?_
 refine q_next (c_seq (c_region (lI R (lO (vAd R R) (lI R (l_nil (q_next ?_)))))))
 obtain ⟨r29, hx30, hr⟩ := bd hr
 refine c_region (lS R (lI R (lO (vIa sl122 sz124 R R hg21) (lO (vz (.pointer (some ⟨g22, o23 + i19.toNat * 3 + 2, none⟩)) (v_fa fo124_2 R R)) (t_focus (K := kT124) sP124 0 i19 R hg21.1 hg21.2 ?_)))))
 rintro ⟨-, -, ⟨A28, D28⟩⟩
 refine lN (hol kT124 124 (.slice (ad g22 o23) a1.length D2) l26 i19.toNat [(iv (ix l26 i19).Buffer), (iv (ix l26 i19).Offset), (sc A28 ((ix l26 i19).Steps) D28)] :: OO kT3 3 A28 D28 ((ix l26 i19).Steps) :: V) ?_
 refine lO (v_holf (fo := 2) 0 ag29 R R R) (lI R (lM (ow _ _ _ _ :: hol _ _ _ _ _ _ :: V) (fun w s => (s.e 2 [1, 0])) ?_))
 refine lC 1 cb20 R (laws_markIntS_ok hx30) R ?_
 rintro _
 refine lN (ow kT3 3 (.slice A28 ((ix l26 i19).Steps).length D28) r29.2 :: _ :: V) ?_
 refine lI R (l_nil (qM (ow kT124 124 (.slice (ad g22 o23) a1.length D2) (l26.set i19.toNat (⟨(ix l26 i19).Buffer, (ix l26 i19).Offset, r29.2⟩ : Access)) :: V) (fun w s => St.unfocus (E := [ow kT3 3 (.slice A28 ((ix l26 i19).Steps).length D28) r29.2]) (⟨(ix l26 i19).Buffer, (ix l26 i19).Offset, r29.2⟩ : Access) (s.e 2 [1, 0]) ?_) ?_))
 exact fun I h s => (mO124).put I h ((), (), (sc A28 ((ix l26 i19).Steps) D28)) (⟨(ix l26 i19).Buffer, (ix l26 i19).Offset, r29.2⟩ : Access) s
 obtain ⟨l31, hl32, hr⟩ := bd hr
 replace hl32 := Option.some.inj hl32
 refine qM (ow kT124 124 (.slice (ad g22 o23) a1.length D2) l31 :: V) (fun w s => by rw [← hl32]; exact s) ?_
 refine q_blockn (q_next (c_region (lI R (lO (vAd R R) (lI R (l_nil ?_))))))
 obtain rfl := so hr
 exact qA () (fun w s => s)
 refine c_false R hb20 (c_exit (q_exit ?_))
 obtain rfl := so hr
 obtain rfl := he1 _ R
 have hr := hk1
 refine q_exit (q_block ?_)
 exact qI ((k18, a17), ()) hr (fun w s => s)
 rintro ⟨⟨k36, p37⟩, _⟩ σ1 hr
 replace hr : laws_markAccessS_J1 k36 p37 = some r := hr
 unfold laws_markAccessS_J1 at hr
 refine c_seq (c_region (lI R (lI R (l_nil (q_next (c_ret ?_))))))
 obtain rfl := so hr
 exact qF () (fun w s => s)
theorem laws_markCalcS_ok {a1 : (List Calc)} {k3 : Int} {r : Int × (List Calc)} (hr : laws_markCalcS a1 k3 = some r) :
 FnOk Try.prog 141 [(.slice A2 N2 D2), (iv k3)] [ow kT216 216 (.slice A2 N2 D2) a1] (fun (h : Unit) => ((iv r.1), [ow kT216 216 (.slice A2 N2 D2) r.2])) := by
 unfold laws_markCalcS at hr
 refine fn_ok Try.func141 R 34 R R fun C V => ?_
 refine cN (_ :: V) ?_
 refine cL 0 sees_ow ?_
 rintro rfl
 refine c_seq (c_region (lI R (l_nil (q_next (c_seq (c_cut (A := (Int × (List Calc)) × (Unit)) (fun a => laws_markCalcS_J1 a.1.1 a.1.2 = some r) (fun a => [(1, (iv a.1.1))]) (fun a => ow kT216 216 (.slice A2 a1.length D2) a.1.2 :: V) ?_ ?_))))))
 refine c_seq (c_region (lI R (l_nil (q_next (c_block ?_)))))
 obtain ⟨e1, hl1, hk1⟩ := bd hr
 refine c_loop (A := Unit) hl1 (fun s a => [(0, (sc A2 a1 D2)), (1, (iv s.2.1)), (5, (iv s.2.2))]) (fun s a => ow kT216 216 (.slice A2 a1.length D2) s.1 :: V) () (aS R) (fun w s => s) ?_
 rintro ⟨a14, k15, i16⟩ _ σ1 out1 hr he1
 replace hr : laws_markCalcS_L1 a1 a14 k15 i16 = some out1 := hr
 unfold laws_markCalcS_L1 at hr
 refine c_seq (c_seq (c_region (lI R (lS R (lO (v_len sl125 R) (lO (vLt R R) (l_nil (q_next ?_))))))))
 rcases bif_ hr with ⟨hb17, hr⟩ | ⟨hb17, hr⟩
 refine c_true R hb17 (c_skip (q_next (c_seq (c_block (c_seq ?_)))))
 obtain ⟨hg18, hr⟩ := gd hr
 refine c_region (lS R (lI R (lI R (t_some 0 sees_ow (show 0 < a1.length by have := hg18; omega) (fun g19 o20 ha => ?_)))))
 subst ha
 refine lO (vIa sl125 sz216 R R hg18) (lO (vz (.pointer (some ⟨g19, o20 + i16.toNat * 3, none⟩)) (v_fa fo216_0 R R)) (l_ste (K := kT216) (fo := 0) (v := (iv k15)) (f := (fun x : Calc => (⟨k15, x.A, x.B⟩ : Calc))) 0 i16 R R sz3 ?_ R R R R hg18.1 hg18.2 ?_))
 exact SetL.flat sP216 mO216 ((), (), ()) R (fun _ _ => R) (fun _ => R) (fun _ _ => R)
 refine lN (ow kT216 216 (.slice (ad g19 o20) a1.length D2) (a14.set i16.toNat (⟨k15, (ix a14 i16).A, (ix a14 i16).B⟩ : Calc)) :: V) ?_
 refine l_nil ?_
 obtain ⟨l21, hl22, hr⟩ := bd hr
 replace hl22 := Option.some.inj hl22
 refine qM (ow kT216 216 (.slice (ad g19 o20) a1.length D2) l21 :: V) (fun w s => by rw [← hl22]; exact s) ?_
 refine q_next (c_seq (c_region (lI R (lO (vAd R R) (lI R (l_nil (q_next (c_seq (c_region (lS R (lI R (lI R (lO (vIa sl125 sz216 R R hg18) (lO (vz (.pointer (some ⟨g19, o20 + i16.toNat * 3 + 1, none⟩)) (v_fa fo216_1 R R)) (l_ste (K := kT216) (fo := 1) (v := (iv (w64 (k15 + (1 : Int))))) (f := (fun x : Calc => (⟨x.Op, (w64 (k15 + (1 : Int))), x.B⟩ : Calc))) 0 i16 R R sz3 ?_ R R R R hg18.1 hg18.2 ?_)))))))))))))))
 exact SetL.flat sP216 mO216 ((), (), ()) R (fun _ _ => R) (fun _ => R) (fun _ _ => R)
 refine lN (ow kT216 216 (.slice (ad g19 o20) a1.length D2) (l21.set i16.toNat (⟨(ix l21 i16).Op, (w64 (k15 + (1 : Int))), (ix l21 i16).B⟩ : Calc)) :: V) ?_
 refine l_nil ?_
 obtain ⟨l23, hl24, hr⟩ := bd hr
 replace hl24 := Option.some.inj hl24
 refine qM (ow kT216 216 (.slice (ad g19 o20) a1.length D2) l23 :: V) (fun w s => by rw [← hl24]; exact s) ?_
 refine q_next (c_seq (c_region (lI R (lO (vAd R R) (lI R (l_nil (q_next (c_seq (c_region (lS R (lI R (lI R (lO (vIa sl125 sz216 R R hg18) (lO (vz (.pointer (some ⟨g19, o20 + i16.toNat * 3 + 2, none⟩)) (v_fa fo216_2 R R)) (l_ste (K := kT216) (fo := 2) (v := (iv (w64 ((w64 (k15 + (1 : Int))) + (1 : Int))))) (f := (fun x : Calc => (⟨x.Op, x.A, (w64 ((w64 (k15 + (1 : Int))) + (1 : Int)))⟩ : Calc))) 0 i16 R R sz3 ?_ R R R R hg18.1 hg18.2 ?_)))))))))))))))
 exact SetL.flat sP216 mO216 ((), (), ()) R (fun _ _ => R) (fun _ => R) (fun _ _ => R)
 refine lN (ow kT216 216 (.slice (ad g19 o20) a1.length D2) (l23.set i16.toNat (⟨(ix l23 i16).Op, (ix l23 i16).A, (w64 ((w64 (k15 + (1 : Int))) + (1 : Int)))⟩ : Calc)) :: V) ?_
 refine l_nil ?_
 obtain ⟨l25, hl26, hr⟩ := bd hr
 replace hl26 := Option.some.inj hl26
 refine qM (ow kT216 216 (.slice (ad g19 o20) a1.length D2) l25 :: V) (fun w s => by rw [← hl26]; exact s) ?_
 refine q_next (c_region (lI R (lO (vAd R R) (lI R (l_nil (q_blockn (q_next (c_region (lI R (lO (vAd R R) (lI R (l_nil ?_))))))))))))
 obtain rfl := so hr
 exact qA () (fun w s => s)
 refine c_false R hb17 (c_exit (q_exit ?_))
 obtain rfl := so hr
 obtain rfl := he1 _ R
 have hr := hk1
 refine q_exit (q_block ?_)
 exact qI ((k15, a14), ()) hr (fun w s => s)
 rintro ⟨⟨k30, p31⟩, _⟩ σ1 hr
 replace hr : laws_markCalcS_J1 k30 p31 = some r := hr
 unfold laws_markCalcS_J1 at hr
 refine c_seq (c_region (lI R (lI R (l_nil (q_next (c_ret ?_))))))
 obtain rfl := so hr
 exact qF () (fun w s => s)
theorem laws_markKernelS_ok {a1 : (List Kernel)} {k3 : Int} {r : Int × (List Kernel)} (hr : laws_markKernelS a1 k3 = some r) :
 FnOk Try.prog 80 [(.slice A2 N2 D2), (iv k3)] [ow kT127 127 (.slice A2 N2 D2) a1] (fun (h : Unit) => ((iv r.1), [ow kT127 127 (.slice A2 N2 D2) r.2])) := by
 unfold laws_markKernelS at hr
 refine fn_ok Try.func80 R 67 R R fun C V => ?_
 refine cN (_ :: V) ?_
 refine cL 0 sees_ow ?_
 rintro rfl
 refine c_seq (c_region (lI R (l_nil (q_next (c_seq (c_cut (A := (Int × (List Kernel)) × (Unit)) (fun a => laws_markKernelS_J1 a.1.1 a.1.2 = some r) (fun a => [(1, (iv a.1.1))]) (fun a => ow kT127 127 (.slice A2 a1.length D2) a.1.2 :: V) ?_ ?_))))))
 refine c_seq (c_region (lI R (l_nil (q_next (c_block ?_)))))
 obtain ⟨e1, hl1, hk1⟩ := bd hr
 refine c_loop (A := Unit) hl1 (fun s a => [(0, (sc A2 a1 D2)), (1, (iv s.2.1)), (5, (iv s.2.2))]) (fun s a => ow kT127 127 (.slice A2 a1.length D2) s.1 :: V) () (aS R) (fun w s => s) ?_
 rintro ⟨a46, k47, i48⟩ _ σ1 out1 hr he1
 replace hr : laws_markKernelS_L1 a1 a46 k47 i48 = some out1 := hr
 unfold laws_markKernelS_L1 at hr
 refine c_seq (c_seq (c_region (lI R (lS R (lO (v_len sl56 R) (lO (vLt R R) (l_nil (q_next ?_))))))))
 rcases bif_ hr with ⟨hb49, hr⟩ | ⟨hb49, hr⟩
 refine c_true R hb49 (c_skip (q_next (c_seq (c_block (c_seq ?_)))))
 obtain ⟨hg50, hr⟩ := gd hr
 obtain ⟨r57, hx58, hr⟩ := bd hr
 refine c_region (lS R (lI R (t_some 0 sees_ow (show 0 < a1.length by have := hg50; omega) (fun g51 o52 ha => ?_))))
 subst ha
 refine lO (vIa sl56 sz127 R R hg50) (lO (vz (.pointer (some ⟨g51, o52 + i48.toNat * 7, none⟩)) (v_fa fo127_0 R R)) (t_focus (K := kT127) sP127 0 i48 R hg50.1 hg50.2 ?_))
 rintro ⟨⟨A53, D53⟩, ⟨A54, D54⟩, ⟨-, -, ⟨A55, D55⟩⟩, -, ⟨A56, D56⟩⟩
 refine lN (hol kT127 127 (.slice (ad g51 o52) a1.length D2) a46 i48.toNat [(sc A53 ((ix a46 i48).Loops) D53), (sc A54 ((ix a46 i48).Loads) D54), (iv (ix a46 i48).Store.Buffer), (iv (ix a46 i48).Store.Offset), (sc A55 ((ix a46 i48).Store.Steps) D55), (.bool (ix a46 i48).Sum), (sc A56 ((ix a46 i48).Code) D56)] :: OO kT3 3 A53 D53 ((ix a46 i48).Loops) :: OO kT124 124 A54 D54 ((ix a46 i48).Loads) :: OO kT3 3 A55 D55 ((ix a46 i48).Store.Steps) :: OO kT216 216 A56 D56 ((ix a46 i48).Code) :: V) ?_
 refine lO (v_holf (fo := 0) 0 ag29 R R R) (lI R (lM (ow _ _ _ _ :: hol _ _ _ _ _ _ :: ow _ _ _ _ :: ow _ _ _ _ :: ow _ _ _ _ :: V) (fun w s => (s.e 5 [1, 0, 2, 3, 4])) ?_))
 refine lC 1 cb20 R (laws_markIntS_ok hx58) R ?_
 rintro _
 refine lN (ow kT3 3 (.slice A53 ((ix a46 i48).Loops).length D53) r57.2 :: _ :: _ :: _ :: _ :: V) ?_
 refine lI R (l_nil (qM (ow kT127 127 (.slice (ad g51 o52) a1.length D2) (a46.set i48.toNat (⟨r57.2, (ix a46 i48).Loads, (ix a46 i48).Store, (ix a46 i48).Sum, (ix a46 i48).Code⟩ : Kernel)) :: V) (fun w s => St.unfocus (E := [ow kT3 3 (.slice A53 ((ix a46 i48).Loops).length D53) r57.2, OO kT124 124 A54 D54 ((ix a46 i48).Loads), OO kT3 3 A55 D55 ((ix a46 i48).Store.Steps), OO kT216 216 A56 D56 ((ix a46 i48).Code)]) (⟨r57.2, (ix a46 i48).Loads, (ix a46 i48).Store, (ix a46 i48).Sum, (ix a46 i48).Code⟩ : Kernel) (s.e 5 [1, 0, 2, 3, 4]) ?_) ?_))
 exact fun I h s => (mO127).put I h ((sc A53 ((ix a46 i48).Loops) D53), (sc A54 ((ix a46 i48).Loads) D54), ((), (), (sc A55 ((ix a46 i48).Store.Steps) D55)), (), (sc A56 ((ix a46 i48).Code) D56)) (⟨r57.2, (ix a46 i48).Loads, (ix a46 i48).Store, (ix a46 i48).Sum, (ix a46 i48).Code⟩ : Kernel) s
 obtain ⟨l59, hl60, hr⟩ := bd hr
 replace hl60 := Option.some.inj hl60
 refine qM (ow kT127 127 (.slice (ad g51 o52) a1.length D2) l59 :: V) (fun w s => by rw [← hl60]; exact s) ?_
 refine q_next (c_seq ?_)
 obtain ⟨r65, hx66, hr⟩ := bd hr
 refine c_region (lS R (lI R (lO (vIa sl56 sz127 R R hg50) (lO (vz (.pointer (some ⟨g51, o52 + i48.toNat * 7 + 1, none⟩)) (v_fa fo127_1 R R)) (t_focus (K := kT127) sP127 0 i48 R hg50.1 hg50.2 ?_)))))
 rintro ⟨⟨A61, D61⟩, ⟨A62, D62⟩, ⟨-, -, ⟨A63, D63⟩⟩, -, ⟨A64, D64⟩⟩
 refine lN (hol kT127 127 (.slice (ad g51 o52) a1.length D2) l59 i48.toNat [(sc A61 ((ix l59 i48).Loops) D61), (sc A62 ((ix l59 i48).Loads) D62), (iv (ix l59 i48).Store.Buffer), (iv (ix l59 i48).Store.Offset), (sc A63 ((ix l59 i48).Store.Steps) D63), (.bool (ix l59 i48).Sum), (sc A64 ((ix l59 i48).Code) D64)] :: OO kT3 3 A61 D61 ((ix l59 i48).Loops) :: OO kT124 124 A62 D62 ((ix l59 i48).Loads) :: OO kT3 3 A63 D63 ((ix l59 i48).Store.Steps) :: OO kT216 216 A64 D64 ((ix l59 i48).Code) :: V) ?_
 refine lO (v_holf (fo := 1) 0 ag122 R R R) (lI R (lM (ow _ _ _ _ :: hol _ _ _ _ _ _ :: ow _ _ _ _ :: ow _ _ _ _ :: ow _ _ _ _ :: V) (fun w s => (s.e 5 [2, 0, 1, 3, 4])) ?_))
 refine lC 1 cb140 R (laws_markAccessS_ok hx66) R ?_
 rintro _
 refine lN (ow kT124 124 (.slice A62 ((ix l59 i48).Loads).length D62) r65.2 :: _ :: _ :: _ :: _ :: V) ?_
 refine lI R (l_nil (qM (ow kT127 127 (.slice (ad g51 o52) a1.length D2) (l59.set i48.toNat (⟨(ix l59 i48).Loops, r65.2, (ix l59 i48).Store, (ix l59 i48).Sum, (ix l59 i48).Code⟩ : Kernel)) :: V) (fun w s => St.unfocus (E := [OO kT3 3 A61 D61 ((ix l59 i48).Loops), ow kT124 124 (.slice A62 ((ix l59 i48).Loads).length D62) r65.2, OO kT3 3 A63 D63 ((ix l59 i48).Store.Steps), OO kT216 216 A64 D64 ((ix l59 i48).Code)]) (⟨(ix l59 i48).Loops, r65.2, (ix l59 i48).Store, (ix l59 i48).Sum, (ix l59 i48).Code⟩ : Kernel) (s.e 5 [1, 2, 0, 3, 4]) ?_) ?_))
 exact fun I h s => (mO127).put I h ((sc A61 ((ix l59 i48).Loops) D61), (sc A62 ((ix l59 i48).Loads) D62), ((), (), (sc A63 ((ix l59 i48).Store.Steps) D63)), (), (sc A64 ((ix l59 i48).Code) D64)) (⟨(ix l59 i48).Loops, r65.2, (ix l59 i48).Store, (ix l59 i48).Sum, (ix l59 i48).Code⟩ : Kernel) s
 obtain ⟨l67, hl68, hr⟩ := bd hr
 replace hl68 := Option.some.inj hl68
 refine qM (ow kT127 127 (.slice (ad g51 o52) a1.length D2) l67 :: V) (fun w s => by rw [← hl68]; exact s) ?_
 refine q_next (c_seq (c_region (lS R (lI R (lI R (lO (vIa sl56 sz127 R R hg50) (lO (vz (.pointer (some ⟨g51, o52 + i48.toNat * 7 + 2, none⟩)) (v_fa fo127_2 R R)) (lO (vz (.pointer (some ⟨g51, o52 + i48.toNat * 7 + 2, none⟩)) (v_fa fo124_0 R R)) (l_ste (K := kT127) (fo := 2) (v := (iv r65.1)) (f := (fun x : Kernel => (⟨x.Loops, x.Loads, (⟨r65.1, x.Store.Offset, x.Store.Steps⟩ : Access), x.Sum, x.Code⟩ : Kernel))) 0 i48 R R sz3 ?_ R R R R hg50.1 hg50.2 ?_)))))))))
 exact SetL.deep sP127 mO127 (fun a x => ((.slice a.1.1 x.Loops.length a.1.2), (.slice a.2.1.1 x.Loads.length a.2.1.2), ((), (), (.slice a.2.2.1.2.2.1 x.Store.Steps.length a.2.2.1.2.2.2)), (), (.slice a.2.2.2.2.1 x.Code.length a.2.2.2.2.2))) R (fun _ _ => R) (fun _ _ => R)
 refine lN (ow kT127 127 (.slice (ad g51 o52) a1.length D2) (l67.set i48.toNat (⟨(ix l67 i48).Loops, (ix l67 i48).Loads, (⟨r65.1, (ix l67 i48).Store.Offset, (ix l67 i48).Store.Steps⟩ : Access), (ix l67 i48).Sum, (ix l67 i48).Code⟩ : Kernel)) :: V) ?_
 refine l_nil ?_
 obtain ⟨l69, hl70, hr⟩ := bd hr
 replace hl70 := Option.some.inj hl70
 refine qM (ow kT127 127 (.slice (ad g51 o52) a1.length D2) l69 :: V) (fun w s => by rw [← hl70]; exact s) ?_
 refine q_next (c_seq (c_region (lI R (lO (vAd R R) (lI R (l_nil (q_next (c_seq (c_region (lS R (lI R (lI R (lO (vIa sl56 sz127 R R hg50) (lO (vz (.pointer (some ⟨g51, o52 + i48.toNat * 7 + 2, none⟩)) (v_fa fo127_2 R R)) (lO (vz (.pointer (some ⟨g51, o52 + i48.toNat * 7 + 3, none⟩)) (v_fa fo124_1 R R)) (l_ste (K := kT127) (fo := 3) (v := (iv (w64 (r65.1 + (1 : Int))))) (f := (fun x : Kernel => (⟨x.Loops, x.Loads, (⟨x.Store.Buffer, (w64 (r65.1 + (1 : Int))), x.Store.Steps⟩ : Access), x.Sum, x.Code⟩ : Kernel))) 0 i48 R R sz3 ?_ R R R R hg50.1 hg50.2 ?_))))))))))))))))
 exact SetL.deep sP127 mO127 (fun a x => ((.slice a.1.1 x.Loops.length a.1.2), (.slice a.2.1.1 x.Loads.length a.2.1.2), ((), (), (.slice a.2.2.1.2.2.1 x.Store.Steps.length a.2.2.1.2.2.2)), (), (.slice a.2.2.2.2.1 x.Code.length a.2.2.2.2.2))) R (fun _ _ => R) (fun _ _ => R)
 refine lN (ow kT127 127 (.slice (ad g51 o52) a1.length D2) (l69.set i48.toNat (⟨(ix l69 i48).Loops, (ix l69 i48).Loads, (⟨(ix l69 i48).Store.Buffer, (w64 (r65.1 + (1 : Int))), (ix l69 i48).Store.Steps⟩ : Access), (ix l69 i48).Sum, (ix l69 i48).Code⟩ : Kernel)) :: V) ?_
 refine l_nil ?_
 obtain ⟨l71, hl72, hr⟩ := bd hr
 replace hl72 := Option.some.inj hl72
 refine qM (ow kT127 127 (.slice (ad g51 o52) a1.length D2) l71 :: V) (fun w s => by rw [← hl72]; exact s) ?_
 refine q_next (c_seq (c_region (lI R (lO (vAd R R) (lI R (l_nil (q_next (c_seq ?_))))))))
 obtain ⟨r77, hx78, hr⟩ := bd hr
 refine c_region (lS R (lI R (lO (vIa sl56 sz127 R R hg50) (lO (vz (.pointer (some ⟨g51, o52 + i48.toNat * 7 + 2, none⟩)) (v_fa fo127_2 R R)) (lO (vz (.pointer (some ⟨g51, o52 + i48.toNat * 7 + 4, none⟩)) (v_fa fo124_2 R R)) (t_focus (K := kT127) sP127 0 i48 R hg50.1 hg50.2 ?_))))))
 rintro ⟨⟨A73, D73⟩, ⟨A74, D74⟩, ⟨-, -, ⟨A75, D75⟩⟩, -, ⟨A76, D76⟩⟩
 refine lN (hol kT127 127 (.slice (ad g51 o52) a1.length D2) l71 i48.toNat [(sc A73 ((ix l71 i48).Loops) D73), (sc A74 ((ix l71 i48).Loads) D74), (iv (ix l71 i48).Store.Buffer), (iv (ix l71 i48).Store.Offset), (sc A75 ((ix l71 i48).Store.Steps) D75), (.bool (ix l71 i48).Sum), (sc A76 ((ix l71 i48).Code) D76)] :: OO kT3 3 A73 D73 ((ix l71 i48).Loops) :: OO kT124 124 A74 D74 ((ix l71 i48).Loads) :: OO kT3 3 A75 D75 ((ix l71 i48).Store.Steps) :: OO kT216 216 A76 D76 ((ix l71 i48).Code) :: V) ?_
 refine lO (v_holf (fo := 4) 0 ag29 R R R) (lI R (lM (ow _ _ _ _ :: hol _ _ _ _ _ _ :: ow _ _ _ _ :: ow _ _ _ _ :: ow _ _ _ _ :: V) (fun w s => (s.e 5 [3, 0, 1, 2, 4])) ?_))
 refine lC 1 cb20 R (laws_markIntS_ok hx78) R ?_
 rintro _
 refine lN (ow kT3 3 (.slice A75 ((ix l71 i48).Store.Steps).length D75) r77.2 :: _ :: _ :: _ :: _ :: V) ?_
 refine lI R (l_nil (qM (ow kT127 127 (.slice (ad g51 o52) a1.length D2) (l71.set i48.toNat (⟨(ix l71 i48).Loops, (ix l71 i48).Loads, (⟨(ix l71 i48).Store.Buffer, (ix l71 i48).Store.Offset, r77.2⟩ : Access), (ix l71 i48).Sum, (ix l71 i48).Code⟩ : Kernel)) :: V) (fun w s => St.unfocus (E := [OO kT3 3 A73 D73 ((ix l71 i48).Loops), OO kT124 124 A74 D74 ((ix l71 i48).Loads), ow kT3 3 (.slice A75 ((ix l71 i48).Store.Steps).length D75) r77.2, OO kT216 216 A76 D76 ((ix l71 i48).Code)]) (⟨(ix l71 i48).Loops, (ix l71 i48).Loads, (⟨(ix l71 i48).Store.Buffer, (ix l71 i48).Store.Offset, r77.2⟩ : Access), (ix l71 i48).Sum, (ix l71 i48).Code⟩ : Kernel) (s.e 5 [1, 2, 3, 0, 4]) ?_) ?_))
 exact fun I h s => (mO127).put I h ((sc A73 ((ix l71 i48).Loops) D73), (sc A74 ((ix l71 i48).Loads) D74), ((), (), (sc A75 ((ix l71 i48).Store.Steps) D75)), (), (sc A76 ((ix l71 i48).Code) D76)) (⟨(ix l71 i48).Loops, (ix l71 i48).Loads, (⟨(ix l71 i48).Store.Buffer, (ix l71 i48).Store.Offset, r77.2⟩ : Access), (ix l71 i48).Sum, (ix l71 i48).Code⟩ : Kernel) s
 obtain ⟨l79, hl80, hr⟩ := bd hr
 replace hl80 := Option.some.inj hl80
 refine qM (ow kT127 127 (.slice (ad g51 o52) a1.length D2) l79 :: V) (fun w s => by rw [← hl80]; exact s) ?_
 refine q_next (c_seq (c_region (lS R (lI R (lI R (lO (v_rem R R (by decide)) (lO (vEq R R) (lO (vIa sl56 sz127 R R hg50) (lO (vz (.pointer (some ⟨g51, o52 + i48.toNat * 7 + 5, none⟩)) (v_fa fo127_3 R R)) (l_ste (K := kT127) (fo := 5) (v := (.bool ((r77.1.tmod (3 : Int)) == (0 : Int)))) (f := (fun x : Kernel => (⟨x.Loops, x.Loads, x.Store, ((r77.1.tmod (3 : Int)) == (0 : Int)), x.Code⟩ : Kernel))) 0 i48 R R sz4 ?_ R R R R hg50.1 hg50.2 ?_))))))))))
 exact SetL.deep sP127 mO127 (fun a x => ((.slice a.1.1 x.Loops.length a.1.2), (.slice a.2.1.1 x.Loads.length a.2.1.2), ((), (), (.slice a.2.2.1.2.2.1 x.Store.Steps.length a.2.2.1.2.2.2)), (), (.slice a.2.2.2.2.1 x.Code.length a.2.2.2.2.2))) R (fun _ _ => R) (fun _ _ => R)
 refine lN (ow kT127 127 (.slice (ad g51 o52) a1.length D2) (l79.set i48.toNat (⟨(ix l79 i48).Loops, (ix l79 i48).Loads, (ix l79 i48).Store, ((r77.1.tmod (3 : Int)) == (0 : Int)), (ix l79 i48).Code⟩ : Kernel)) :: V) ?_
 refine l_nil ?_
 obtain ⟨l81, hl82, hr⟩ := bd hr
 replace hl82 := Option.some.inj hl82
 refine qM (ow kT127 127 (.slice (ad g51 o52) a1.length D2) l81 :: V) (fun w s => by rw [← hl82]; exact s) ?_
 refine q_next (c_seq (c_region (lI R (lO (vAd R R) (lI R (l_nil (q_next ?_)))))))
 obtain ⟨r87, hx88, hr⟩ := bd hr
 refine c_region (lS R (lI R (lO (vIa sl56 sz127 R R hg50) (lO (vz (.pointer (some ⟨g51, o52 + i48.toNat * 7 + 6, none⟩)) (v_fa fo127_4 R R)) (t_focus (K := kT127) sP127 0 i48 R hg50.1 hg50.2 ?_)))))
 rintro ⟨⟨A83, D83⟩, ⟨A84, D84⟩, ⟨-, -, ⟨A85, D85⟩⟩, -, ⟨A86, D86⟩⟩
 refine lN (hol kT127 127 (.slice (ad g51 o52) a1.length D2) l81 i48.toNat [(sc A83 ((ix l81 i48).Loops) D83), (sc A84 ((ix l81 i48).Loads) D84), (iv (ix l81 i48).Store.Buffer), (iv (ix l81 i48).Store.Offset), (sc A85 ((ix l81 i48).Store.Steps) D85), (.bool (ix l81 i48).Sum), (sc A86 ((ix l81 i48).Code) D86)] :: OO kT3 3 A83 D83 ((ix l81 i48).Loops) :: OO kT124 124 A84 D84 ((ix l81 i48).Loads) :: OO kT3 3 A85 D85 ((ix l81 i48).Store.Steps) :: OO kT216 216 A86 D86 ((ix l81 i48).Code) :: V) ?_
 refine lO (v_holf (fo := 6) 0 ag125 R R R) (lI R (lM (ow _ _ _ _ :: hol _ _ _ _ _ _ :: ow _ _ _ _ :: ow _ _ _ _ :: ow _ _ _ _ :: V) (fun w s => (s.f 5 [4, 1, 0, 4])) ?_))
 refine lC 1 cb141 R (laws_markCalcS_ok hx88) R ?_
 rintro _
 refine lN (ow kT216 216 (.slice A86 ((ix l81 i48).Code).length D86) r87.2 :: _ :: _ :: _ :: _ :: V) ?_
 refine lI R (l_nil (qM (ow kT127 127 (.slice (ad g51 o52) a1.length D2) (l81.set i48.toNat (⟨(ix l81 i48).Loops, (ix l81 i48).Loads, (ix l81 i48).Store, (ix l81 i48).Sum, r87.2⟩ : Kernel)) :: V) (fun w s => St.unfocus (E := [OO kT3 3 A83 D83 ((ix l81 i48).Loops), OO kT124 124 A84 D84 ((ix l81 i48).Loads), OO kT3 3 A85 D85 ((ix l81 i48).Store.Steps), ow kT216 216 (.slice A86 ((ix l81 i48).Code).length D86) r87.2]) (⟨(ix l81 i48).Loops, (ix l81 i48).Loads, (ix l81 i48).Store, (ix l81 i48).Sum, r87.2⟩ : Kernel) (s.f 5 [1, 4, 0, 1]) ?_) ?_))
 exact fun I h s => (mO127).put I h ((sc A83 ((ix l81 i48).Loops) D83), (sc A84 ((ix l81 i48).Loads) D84), ((), (), (sc A85 ((ix l81 i48).Store.Steps) D85)), (), (sc A86 ((ix l81 i48).Code) D86)) (⟨(ix l81 i48).Loops, (ix l81 i48).Loads, (ix l81 i48).Store, (ix l81 i48).Sum, r87.2⟩ : Kernel) s
 obtain ⟨l89, hl90, hr⟩ := bd hr
 replace hl90 := Option.some.inj hl90
 refine qM (ow kT127 127 (.slice (ad g51 o52) a1.length D2) l89 :: V) (fun w s => by rw [← hl90]; exact s) ?_
 refine q_blockn (q_next (c_region (lI R (lO (vAd R R) (lI R (l_nil ?_))))))
 obtain rfl := so hr
 exact qA () (fun w s => s)
 refine c_false R hb49 (c_exit (q_exit ?_))
 obtain rfl := so hr
 obtain rfl := he1 _ R
 have hr := hk1
 refine q_exit (q_block ?_)
 exact qI ((k47, a46), ()) hr (fun w s => s)
 rintro ⟨⟨k94, p95⟩, _⟩ σ1 hr
 replace hr : laws_markKernelS_J1 k94 p95 = some r := hr
 unfold laws_markKernelS_J1 at hr
 refine c_seq (c_region (lI R (lI R (l_nil (q_next (c_ret ?_))))))
 obtain rfl := so hr
 exact qF () (fun w s => s)
theorem laws_markNest_ok {a1 : Nest} {k7 : Int} {r : Int × (List Int) × (List Int) × (List Fix) × (List Kernel) × (List Int)} (hr : laws_markNest a1 k7 = some r) :
 FnOk Try.prog 27 [(.agg [(.slice A2 N2 D2), (.slice A3 N3 D3), (.slice A4 N4 D4), (.slice A5 N5 D5), (.slice A6 N6 D6)].toArray), (iv k7)] [ow kT3 3 (.slice A2 N2 D2) a1.Sizes, ow kT3 3 (.slice A3 N3 D3) a1.Ins, ow kT159 159 (.slice A4 N4 D4) a1.Fixed, ow kT127 127 (.slice A5 N5 D5) a1.Kernels, ow kT3 3 (.slice A6 N6 D6) a1.Outs] (fun (h : Unit) => ((iv r.1), [ow kT3 3 (.slice A2 N2 D2) r.2.1, ow kT3 3 (.slice A3 N3 D3) r.2.2.1, ow kT159 159 (.slice A4 N4 D4) r.2.2.2.1, ow kT127 127 (.slice A5 N5 D5) r.2.2.2.2.1, ow kT3 3 (.slice A6 N6 D6) r.2.2.2.2.2])) := by
 unfold laws_markNest at hr
 refine fn_ok Try.func27 R 26 R R fun C V => ?_
 refine cN (_ :: _ :: _ :: _ :: _ :: V) ?_
 refine cL 0 sees_ow ?_
 rintro rfl
 refine cL 1 sees_ow ?_
 rintro rfl
 refine cL 2 sees_ow ?_
 rintro rfl
 refine cL 3 sees_ow ?_
 rintro rfl
 refine cL 4 sees_ow ?_
 rintro rfl
 refine c_seq (c_region (lBx R (fun b8 => (lI R (l_nil (qM (ow _ _ _ _ :: ow _ _ _ _ :: ow _ _ _ _ :: ow _ _ _ _ :: ow _ _ _ _ :: bxl _ _ _ :: V) (fun w s => (s.f 6 [1, 5, 0, 1])) ?_))))))
 let W1 : List HP := bxl b8 [(sc A2 a1.Sizes D2), (sc A3 a1.Ins D3), (sc A4 a1.Fixed D4), (sc A5 a1.Kernels D5), (sc A6 a1.Outs D6)] 58 :: V
 refine qN (_ :: _ :: _ :: _ :: _ :: W1) ?_
 refine q_next (c_seq ?_)
 obtain ⟨r9, hx10, hr⟩ := bd hr
 refine c_region (lO (vFa 0 fo58_0 R) (lO (vLd 5 ag29 R R R) (lI R (lC 1 cb20 R (laws_markIntS_ok hx10) R ?_))))
 rintro _
 refine lN (ow kT3 3 (.slice A2 a1.Sizes.length D2) r9.2 :: _ :: _ :: _ :: _ :: W1) ?_
 refine lI R (l_nil (q_next (c_seq ?_)))
 obtain ⟨r11, hx12, hr⟩ := bd hr
 refine c_region (lO (vFa 1 fo58_1 R) (lO (vLd 5 ag29 R R R) (lI R (lM (ow _ _ _ _ :: ow _ _ _ _ :: ow _ _ _ _ :: ow _ _ _ _ :: ow _ _ _ _ :: W1) (fun w s => (s.e 5 [1, 0, 2, 3, 4])) ?_))))
 refine lC 1 cb20 R (laws_markIntS_ok hx12) R ?_
 rintro _
 refine lN (ow kT3 3 (.slice A3 a1.Ins.length D3) r11.2 :: _ :: _ :: _ :: _ :: W1) ?_
 refine lI R (l_nil (q_next (c_seq ?_)))
 obtain ⟨r13, hx14, hr⟩ := bd hr
 refine c_region (lO (vFa 2 fo58_2 R) (lO (vLd 5 ag55 R R R) (lI R (lM (ow _ _ _ _ :: ow _ _ _ _ :: ow _ _ _ _ :: ow _ _ _ _ :: ow _ _ _ _ :: W1) (fun w s => (s.e 5 [2, 0, 1, 3, 4])) ?_))))
 refine lC 1 cb79 R (laws_markFixS_ok hx14) R ?_
 rintro _
 refine lN (ow kT159 159 (.slice A4 a1.Fixed.length D4) r13.2 :: _ :: _ :: _ :: _ :: W1) ?_
 refine lI R (l_nil (q_next (c_seq ?_)))
 obtain ⟨r15, hx16, hr⟩ := bd hr
 refine c_region (lO (vFa 3 fo58_3 R) (lO (vLd 5 ag56 R R R) (lI R (lM (ow _ _ _ _ :: ow _ _ _ _ :: ow _ _ _ _ :: ow _ _ _ _ :: ow _ _ _ _ :: W1) (fun w s => (s.e 5 [3, 0, 1, 2, 4])) ?_))))
 refine lC 1 cb80 R (laws_markKernelS_ok hx16) R ?_
 rintro _
 refine lN (ow kT127 127 (.slice A5 a1.Kernels.length D5) r15.2 :: _ :: _ :: _ :: _ :: W1) ?_
 refine lI R (l_nil (q_next (c_seq ?_)))
 obtain ⟨r17, hx18, hr⟩ := bd hr
 refine c_region (lO (vFa 4 fo58_4 R) (lO (vLd 5 ag29 R R R) (lI R (lM (ow _ _ _ _ :: ow _ _ _ _ :: ow _ _ _ _ :: ow _ _ _ _ :: ow _ _ _ _ :: W1) (fun w s => (s.f 5 [4, 1, 0, 4])) ?_))))
 refine lC 1 cb20 R (laws_markIntS_ok hx18) R ?_
 rintro _
 refine lN (ow kT3 3 (.slice A6 a1.Outs.length D6) r17.2 :: _ :: _ :: _ :: _ :: W1) ?_
 refine lI R (l_nil (q_next (c_seq (c_region (lI R (lI R (l_nil (q_next (c_ret ?_)))))))))
 obtain rfl := so hr
 exact qF () (fun w s => (s.e 6 [4, 3, 2, 1, 0]))
theorem laws_heldIntS_ok {a1 : (List Int)} {k3 : Int} {r : Int} (hr : laws_heldIntS a1 k3 = some r) :
 FnOk Try.prog 21 [(.slice A2 N2 D2), (iv k3)] [rds kT3 (.slice A2 N2 D2) a1] (fun (h : Unit) => ((iv r), [])) := by
 unfold laws_heldIntS at hr
 refine fn_ok Try.func21 R 21 R R fun C V => ?_
 refine cN (_ :: V) ?_
 refine cL 0 sees_rd ?_
 rintro rfl
 let W0 : List HP := RR kT3 A2 D2 a1 :: V
 refine cN W0 ?_
 refine c_seq (c_region (lI R (l_nil (q_next (c_seq (c_cut (A := (Int) × (Unit)) (fun a => laws_heldIntS_J1 a.1 = some r) (fun a => [(1, (iv a.1))]) (fun a => W0) ?_ ?_))))))
 refine c_seq (c_region (lI R (l_nil (q_next (c_block ?_)))))
 obtain ⟨e1, hl1, hk1⟩ := bd hr
 refine c_loop (A := Unit) hl1 (fun s a => [(0, (sc A2 a1 D2)), (1, (iv s.1)), (5, (iv s.2))]) (fun s a => W0) () (aS R) (fun w s => s) ?_
 rintro ⟨k9, i10⟩ _ σ1 out1 hr he1
 replace hr : laws_heldIntS_L1 a1 k9 i10 = some out1 := hr
 unfold laws_heldIntS_L1 at hr
 refine c_seq (c_seq (c_region (lI R (lS R (lO (v_len sl29 R) (lO (vLt R R) (l_nil (q_next ?_))))))))
 rcases bif_ hr with ⟨hb11, hr⟩ | ⟨hb11, hr⟩
 refine c_true R hb11 (c_skip (q_next (c_seq (c_block (c_seq (c_seq ?_))))))
 obtain ⟨hg12, hr⟩ := gd hr
 refine c_region (lS R (lI R (t_some 0 sees_rd (show 0 < a1.length by have := hg12; omega) (fun g13 o14 ha => ?_))))
 subst ha
 refine lO (vIa sl29 sz3 R R hg12) (lO (vLi 0 ag3 sees_rd R hg12) (lI R (lO (vNe R R) (l_nil (q_next ?_)))))
 rcases bif_ hr with ⟨hb15, hr⟩ | ⟨hb15, hr⟩
 refine c_true R hb15 (c_seq (c_region (lI R (l_nil (q_next (c_ret (q_ret (q_blockr (q_ret ?_)))))))))
 obtain rfl := so hr
 obtain rfl := he1 _ R
 have hr := hk1
 refine q_ret (q_blockr (q_ret ?_))
 obtain rfl := so hr
 exact qF () (fun w s => (s.e 1 []))
 refine c_false R hb15 (c_skip (q_next (c_region (lI R (lO (vAd R R) (lI R (l_nil (q_blockn (q_next (c_region (lI R (lO (vAd R R) (lI R (l_nil ?_))))))))))))))
 obtain rfl := so hr
 exact qA () (fun w s => s)
 refine c_false R hb11 (c_exit (q_exit ?_))
 obtain rfl := so hr
 obtain rfl := he1 _ R
 have hr := hk1
 refine q_exit (q_block ?_)
 exact qI (k9, ()) hr (fun w s => s)
 rintro ⟨k18, _⟩ σ1 hr
 replace hr : laws_heldIntS_J1 k18 = some r := hr
 unfold laws_heldIntS_J1 at hr
 refine c_seq (c_region (lI R (lI R (l_nil (q_next (c_ret ?_))))))
 obtain rfl := so hr
 exact qF () (fun w s => (s.e 1 []))
theorem laws_heldFixS_ok {a1 : (List Fix)} {k3 : Int} {r : Int} (hr : laws_heldFixS a1 k3 = some r) :
 FnOk Try.prog 81 [(.slice A2 N2 D2), (iv k3)] [rds kT159 (.slice A2 N2 D2) a1] (fun (h : Unit) => ((iv r), [])) := by
 unfold laws_heldFixS at hr
 refine fn_ok Try.func81 R 31 R R fun C V => ?_
 refine cN (_ :: V) ?_
 refine cL 0 sees_rd ?_
 rintro rfl
 let W0 : List HP := RR kT159 A2 D2 a1 :: V
 refine cN W0 ?_
 refine c_seq (c_region (lI R (l_nil (q_next (c_seq (c_cut (A := (Int) × (Unit)) (fun a => laws_heldFixS_J1 a.1 = some r) (fun a => [(1, (iv a.1))]) (fun a => W0) ?_ ?_))))))
 refine c_seq (c_region (lI R (l_nil (q_next (c_block ?_)))))
 obtain ⟨e1, hl1, hk1⟩ := bd hr
 refine c_loop (A := Unit) hl1 (fun s a => [(0, (sc A2 a1 D2)), (1, (iv s.1)), (5, (iv s.2))]) (fun s a => W0) () (aS R) (fun w s => s) ?_
 rintro ⟨k13, i14⟩ _ σ1 out1 hr he1
 replace hr : laws_heldFixS_L1 a1 k13 i14 = some out1 := hr
 unfold laws_heldFixS_L1 at hr
 refine c_seq (c_seq (c_region (lI R (lS R (lO (v_len sl55 R) (lO (vLt R R) (l_nil (q_next ?_))))))))
 rcases bif_ hr with ⟨hb15, hr⟩ | ⟨hb15, hr⟩
 refine c_true R hb15 (c_skip (q_next (c_seq (c_block (c_seq (c_seq ?_))))))
 obtain ⟨hg16, hr⟩ := gd hr
 refine c_region (lS R (lI R (t_some 0 sees_rd (show 0 < a1.length by have := hg16; omega) (fun g17 o18 ha => ?_))))
 subst ha
 refine lO (vIa sl55 sz159 R R hg16) (lO (vz (.pointer (some ⟨g17, o18 + i14.toNat * 2, none⟩)) (v_fa fo159_0 R R)) (lO (vz (iv (ix a1 i14).Buffer) (v_lde (K := kT159) (fo := 0) (pr := fun x => (iv x.Buffer)) 0 i14 ag3 (dT159.leaf fun _ _ => R) sees_rd R hg16.1 hg16.2)) (lI R (lO (vNe R R) (l_nil (q_next ?_))))))
 rcases bif_ hr with ⟨hb19, hr⟩ | ⟨hb19, hr⟩
 refine c_true R hb19 (c_seq (c_region (lI R (l_nil (q_next (c_ret (q_ret (q_blockr (q_ret ?_)))))))))
 obtain rfl := so hr
 obtain rfl := he1 _ R
 have hr := hk1
 refine q_ret (q_blockr (q_ret ?_))
 obtain rfl := so hr
 exact qF () (fun w s => (s.e 1 []))
 refine c_false R hb19 (c_skip (q_next (c_seq (c_region (lI R (lO (vAd R R) (lI R (l_nil (q_next (c_seq ?_))))))))))
 obtain ⟨r21, hx22, hr⟩ := bd hr
 refine c_region (lS R (lI R (lO (vIa sl55 sz159 R R hg16) (lO (vz (.pointer (some ⟨g17, o18 + i14.toNat * 2 + 1, none⟩)) (v_fa fo159_1 R R)) (t_elem (K := kT159) 0 i14 dT159.dec R hg16.1 hg16.2 ?_)))))
 rintro ⟨-, ⟨A20, D20⟩⟩
 refine lN (cl g17 (o18 + i14.toNat * 2) [(iv (ix a1 i14).Buffer), (sc A20 ((ix a1 i14).Data) D20)] :: RR kT3 A20 D20 ((ix a1 i14).Data) :: W0) ?_
 refine lO (v_clf (fo := 1) 0 ag29 R R R) (lI R (lM (_ :: _ :: _ :: W0) (fun w s => (s.d 1 R)) ?_))
 refine lC 1 cb21 R (laws_heldIntS_ok hx22) R ?_
 rintro _
 refine lN (_ :: _ :: W0) ?_
 refine lI R (l_nil (q_next (c_seq (c_region (lI R (lO (vLt R R) (l_nil (q_next ?_))))))))
 rcases bif_ hr with ⟨hb23, hr⟩ | ⟨hb23, hr⟩
 refine c_true R hb23 (c_seq (c_region (lI R (l_nil (q_next (c_ret (q_blockr (q_ret ?_))))))))
 obtain rfl := so hr
 obtain rfl := he1 _ R
 have hr := hk1
 refine q_ret (q_blockr (q_ret ?_))
 obtain rfl := so hr
 exact qF () (fun w s => (s.e 3 []))
 refine c_false R hb23 (c_skip (q_blockn (q_next (c_region (lI R (lO (vAd R R) (lI R (l_nil ?_))))))))
 obtain rfl := so hr
 exact qA () (fun w s => (s.e 2 []))
 refine c_false R hb15 (c_exit (q_exit ?_))
 obtain rfl := so hr
 obtain rfl := he1 _ R
 have hr := hk1
 refine q_exit (q_block ?_)
 exact qI (k13, ()) hr (fun w s => s)
 rintro ⟨k26, _⟩ σ1 hr
 replace hr : laws_heldFixS_J1 k26 = some r := hr
 unfold laws_heldFixS_J1 at hr
 refine c_seq (c_region (lI R (lI R (l_nil (q_next (c_ret ?_))))))
 obtain rfl := so hr
 exact qF () (fun w s => (s.e 1 []))
theorem laws_heldAccessS_ok {a1 : (List Access)} {k3 : Int} {r : Int} (hr : laws_heldAccessS a1 k3 = some r) :
 FnOk Try.prog 142 [(.slice A2 N2 D2), (iv k3)] [rds kT124 (.slice A2 N2 D2) a1] (fun (h : Unit) => ((iv r), [])) := by
 unfold laws_heldAccessS at hr
 refine fn_ok Try.func142 R 40 R R fun C V => ?_
 refine cN (_ :: V) ?_
 refine cL 0 sees_rd ?_
 rintro rfl
 let W0 : List HP := RR kT124 A2 D2 a1 :: V
 refine cN W0 ?_
 refine c_seq (c_region (lI R (l_nil (q_next (c_seq (c_cut (A := (Int) × (Unit)) (fun a => laws_heldAccessS_J1 a.1 = some r) (fun a => [(1, (iv a.1))]) (fun a => W0) ?_ ?_))))))
 refine c_seq (c_region (lI R (l_nil (q_next (c_block ?_)))))
 obtain ⟨e1, hl1, hk1⟩ := bd hr
 refine c_loop (A := Unit) hl1 (fun s a => [(0, (sc A2 a1 D2)), (1, (iv s.1)), (5, (iv s.2))]) (fun s a => W0) () (aS R) (fun w s => s) ?_
 rintro ⟨k14, i15⟩ _ σ1 out1 hr he1
 replace hr : laws_heldAccessS_L1 a1 k14 i15 = some out1 := hr
 unfold laws_heldAccessS_L1 at hr
 refine c_seq (c_seq (c_region (lI R (lS R (lO (v_len sl122 R) (lO (vLt R R) (l_nil (q_next ?_))))))))
 rcases bif_ hr with ⟨hb16, hr⟩ | ⟨hb16, hr⟩
 refine c_true R hb16 (c_skip (q_next (c_seq (c_block (c_seq (c_seq ?_))))))
 obtain ⟨hg17, hr⟩ := gd hr
 refine c_region (lS R (lI R (t_some 0 sees_rd (show 0 < a1.length by have := hg17; omega) (fun g18 o19 ha => ?_))))
 subst ha
 refine lO (vIa sl122 sz124 R R hg17) (lO (vz (.pointer (some ⟨g18, o19 + i15.toNat * 3, none⟩)) (v_fa fo124_0 R R)) (lO (vz (iv (ix a1 i15).Buffer) (v_lde (K := kT124) (fo := 0) (pr := fun x => (iv x.Buffer)) 0 i15 ag3 (dT124.leaf fun _ _ => R) sees_rd R hg17.1 hg17.2)) (lI R (lO (vNe R R) (l_nil (q_next ?_))))))
 rcases bif_ hr with ⟨hb20, hr⟩ | ⟨hb20, hr⟩
 refine c_true R hb20 (c_seq (c_region (lI R (l_nil (q_next (c_ret (q_ret (q_blockr (q_ret ?_)))))))))
 obtain rfl := so hr
 obtain rfl := he1 _ R
 have hr := hk1
 refine q_ret (q_blockr (q_ret ?_))
 obtain rfl := so hr
 exact qF () (fun w s => (s.e 1 []))
 refine c_false R hb20 (c_skip (q_next (c_seq (c_region (lI R (lO (vAd R R) (lI R (l_nil (q_next (c_seq (c_seq (c_region (lS R (lI R (lO (vIa sl122 sz124 R R hg17) (lO (vz (.pointer (some ⟨g18, o19 + i15.toNat * 3 + 1, none⟩)) (v_fa fo124_1 R R)) (lO (vz (iv (ix a1 i15).Offset) (v_lde (K := kT124) (fo := 1) (pr := fun x => (iv x.Offset)) 0 i15 ag3 (dT124.leaf fun _ _ => R) sees_rd R hg17.1 hg17.2)) (lI R (lO (vNe R R) (l_nil (q_next ?_)))))))))))))))))))))
 rcases bif_ hr with ⟨hb21, hr⟩ | ⟨hb21, hr⟩
 refine c_true R hb21 (c_seq (c_region (lI R (l_nil (q_next (c_ret (q_ret (q_blockr (q_ret ?_)))))))))
 obtain rfl := so hr
 obtain rfl := he1 _ R
 have hr := hk1
 refine q_ret (q_blockr (q_ret ?_))
 obtain rfl := so hr
 exact qF () (fun w s => (s.e 1 []))
 refine c_false R hb21 (c_skip (q_next (c_seq (c_region (lI R (lO (vAd R R) (lI R (l_nil (q_next (c_seq ?_))))))))))
 obtain ⟨r23, hx24, hr⟩ := bd hr
 refine c_region (lS R (lI R (lO (vIa sl122 sz124 R R hg17) (lO (vz (.pointer (some ⟨g18, o19 + i15.toNat * 3 + 2, none⟩)) (v_fa fo124_2 R R)) (t_elem (K := kT124) 0 i15 dT124.dec R hg17.1 hg17.2 ?_)))))
 rintro ⟨-, -, ⟨A22, D22⟩⟩
 refine lN (cl g18 (o19 + i15.toNat * 3) [(iv (ix a1 i15).Buffer), (iv (ix a1 i15).Offset), (sc A22 ((ix a1 i15).Steps) D22)] :: RR kT3 A22 D22 ((ix a1 i15).Steps) :: W0) ?_
 refine lO (v_clf (fo := 2) 0 ag29 R R R) (lI R (lM (_ :: _ :: _ :: W0) (fun w s => (s.d 1 R)) ?_))
 refine lC 1 cb21 R (laws_heldIntS_ok hx24) R ?_
 rintro _
 refine lN (_ :: _ :: W0) ?_
 refine lI R (l_nil (q_next (c_seq (c_region (lI R (lO (vLt R R) (l_nil (q_next ?_))))))))
 rcases bif_ hr with ⟨hb25, hr⟩ | ⟨hb25, hr⟩
 refine c_true R hb25 (c_seq (c_region (lI R (l_nil (q_next (c_ret (q_blockr (q_ret ?_))))))))
 obtain rfl := so hr
 obtain rfl := he1 _ R
 have hr := hk1
 refine q_ret (q_blockr (q_ret ?_))
 obtain rfl := so hr
 exact qF () (fun w s => (s.e 3 []))
 refine c_false R hb25 (c_skip (q_blockn (q_next (c_region (lI R (lO (vAd R R) (lI R (l_nil ?_))))))))
 obtain rfl := so hr
 exact qA () (fun w s => (s.e 2 []))
 refine c_false R hb16 (c_exit (q_exit ?_))
 obtain rfl := so hr
 obtain rfl := he1 _ R
 have hr := hk1
 refine q_exit (q_block ?_)
 exact qI (k14, ()) hr (fun w s => s)
 rintro ⟨k28, _⟩ σ1 hr
 replace hr : laws_heldAccessS_J1 k28 = some r := hr
 unfold laws_heldAccessS_J1 at hr
 refine c_seq (c_region (lI R (lI R (l_nil (q_next (c_ret ?_))))))
 obtain rfl := so hr
 exact qF () (fun w s => (s.e 1 []))
theorem laws_heldCalcS_ok {a1 : (List Calc)} {k3 : Int} {r : Int} (hr : laws_heldCalcS a1 k3 = some r) :
 FnOk Try.prog 143 [(.slice A2 N2 D2), (iv k3)] [rds kT216 (.slice A2 N2 D2) a1] (fun (h : Unit) => ((iv r), [])) := by
 unfold laws_heldCalcS at hr
 refine fn_ok Try.func143 R 40 R R fun C V => ?_
 refine cN (_ :: V) ?_
 refine cL 0 sees_rd ?_
 rintro rfl
 let W0 : List HP := RR kT216 A2 D2 a1 :: V
 refine cN W0 ?_
 refine c_seq (c_region (lI R (l_nil (q_next (c_seq (c_cut (A := (Int) × (Unit)) (fun a => laws_heldCalcS_J1 a.1 = some r) (fun a => [(1, (iv a.1))]) (fun a => W0) ?_ ?_))))))
 refine c_seq (c_region (lI R (l_nil (q_next (c_block ?_)))))
 obtain ⟨e1, hl1, hk1⟩ := bd hr
 refine c_loop (A := Unit) hl1 (fun s a => [(0, (sc A2 a1 D2)), (1, (iv s.1)), (5, (iv s.2))]) (fun s a => W0) () (aS R) (fun w s => s) ?_
 rintro ⟨k11, i12⟩ _ σ1 out1 hr he1
 replace hr : laws_heldCalcS_L1 a1 k11 i12 = some out1 := hr
 unfold laws_heldCalcS_L1 at hr
 refine c_seq (c_seq (c_region (lI R (lS R (lO (v_len sl125 R) (lO (vLt R R) (l_nil (q_next ?_))))))))
 rcases bif_ hr with ⟨hb13, hr⟩ | ⟨hb13, hr⟩
 refine c_true R hb13 (c_skip (q_next (c_seq (c_block (c_seq (c_seq ?_))))))
 obtain ⟨hg14, hr⟩ := gd hr
 refine c_region (lS R (lI R (t_some 0 sees_rd (show 0 < a1.length by have := hg14; omega) (fun g15 o16 ha => ?_))))
 subst ha
 refine lO (vIa sl125 sz216 R R hg14) (lO (vz (.pointer (some ⟨g15, o16 + i12.toNat * 3, none⟩)) (v_fa fo216_0 R R)) (lO (vz (iv (ix a1 i12).Op) (v_lde (K := kT216) (fo := 0) (pr := fun x => (iv x.Op)) 0 i12 ag3 (dT216.leaf fun _ _ => R) sees_rd R hg14.1 hg14.2)) (lI R (lO (vNe R R) (l_nil (q_next ?_))))))
 rcases bif_ hr with ⟨hb17, hr⟩ | ⟨hb17, hr⟩
 refine c_true R hb17 (c_seq (c_region (lI R (l_nil (q_next (c_ret (q_ret (q_blockr (q_ret ?_)))))))))
 obtain rfl := so hr
 obtain rfl := he1 _ R
 have hr := hk1
 refine q_ret (q_blockr (q_ret ?_))
 obtain rfl := so hr
 exact qF () (fun w s => (s.e 1 []))
 refine c_false R hb17 (c_skip (q_next (c_seq (c_region (lI R (lO (vAd R R) (lI R (l_nil (q_next (c_seq (c_seq (c_region (lS R (lI R (lO (vIa sl125 sz216 R R hg14) (lO (vz (.pointer (some ⟨g15, o16 + i12.toNat * 3 + 1, none⟩)) (v_fa fo216_1 R R)) (lO (vz (iv (ix a1 i12).A) (v_lde (K := kT216) (fo := 1) (pr := fun x => (iv x.A)) 0 i12 ag3 (dT216.leaf fun _ _ => R) sees_rd R hg14.1 hg14.2)) (lI R (lO (vNe R R) (l_nil (q_next ?_)))))))))))))))))))))
 rcases bif_ hr with ⟨hb18, hr⟩ | ⟨hb18, hr⟩
 refine c_true R hb18 (c_seq (c_region (lI R (l_nil (q_next (c_ret (q_ret (q_blockr (q_ret ?_)))))))))
 obtain rfl := so hr
 obtain rfl := he1 _ R
 have hr := hk1
 refine q_ret (q_blockr (q_ret ?_))
 obtain rfl := so hr
 exact qF () (fun w s => (s.e 1 []))
 refine c_false R hb18 (c_skip (q_next (c_seq (c_region (lI R (lO (vAd R R) (lI R (l_nil (q_next (c_seq (c_seq (c_region (lS R (lI R (lO (vIa sl125 sz216 R R hg14) (lO (vz (.pointer (some ⟨g15, o16 + i12.toNat * 3 + 2, none⟩)) (v_fa fo216_2 R R)) (lO (vz (iv (ix a1 i12).B) (v_lde (K := kT216) (fo := 2) (pr := fun x => (iv x.B)) 0 i12 ag3 (dT216.leaf fun _ _ => R) sees_rd R hg14.1 hg14.2)) (lI R (lO (vNe R R) (l_nil (q_next ?_)))))))))))))))))))))
 rcases bif_ hr with ⟨hb19, hr⟩ | ⟨hb19, hr⟩
 refine c_true R hb19 (c_seq (c_region (lI R (l_nil (q_next (c_ret (q_ret (q_blockr (q_ret ?_)))))))))
 obtain rfl := so hr
 obtain rfl := he1 _ R
 have hr := hk1
 refine q_ret (q_blockr (q_ret ?_))
 obtain rfl := so hr
 exact qF () (fun w s => (s.e 1 []))
 refine c_false R hb19 (c_skip (q_next (c_region (lI R (lO (vAd R R) (lI R (l_nil (q_blockn (q_next (c_region (lI R (lO (vAd R R) (lI R (l_nil ?_))))))))))))))
 obtain rfl := so hr
 exact qA () (fun w s => s)
 refine c_false R hb13 (c_exit (q_exit ?_))
 obtain rfl := so hr
 obtain rfl := he1 _ R
 have hr := hk1
 refine q_exit (q_block ?_)
 exact qI (k11, ()) hr (fun w s => s)
 rintro ⟨k22, _⟩ σ1 hr
 replace hr : laws_heldCalcS_J1 k22 = some r := hr
 unfold laws_heldCalcS_J1 at hr
 refine c_seq (c_region (lI R (lI R (l_nil (q_next (c_ret ?_))))))
 obtain rfl := so hr
 exact qF () (fun w s => (s.e 1 []))
end Go.Proofs.Ytbdchgofcejiiaa
