import Derived.Test.YtbdchgofcejiiaaFuW3
set_option linter.unusedVariables false
set_option maxRecDepth 20000
namespace Go.Proofs.Ytbdchgofcejiiaa
open Go Go.Pg
variable {A2 A3 A4 A5 A6 : Option Addr} {D2 D3 D4 D5 D6 N2 N3 N4 N5 N6 : Nat}
theorem spec_l11CopyKernel_ok {k1 : Kernel} {r : Kernel} (hr : spec_l11CopyKernel k1 = some r) :
 FnOk Try.prog 126 [(.agg [(.slice A2 N2 D2), (.slice A3 N3 D3), (iv k1.Store.Buffer), (iv k1.Store.Offset), (.slice A4 N4 D4), (.bool k1.Sum), (.slice A5 N5 D5)].toArray)] [rds kT3 (.slice A2 N2 D2) k1.Loops, rds kT124 (.slice A3 N3 D3) k1.Loads, rds kT3 (.slice A4 N4 D4) k1.Store.Steps, rds kT216 (.slice A5 N5 D5) k1.Code] (fun (h : HH × HH × HH × HH) => ((.agg [(.slice h.1.1 h.1.2.1 h.1.2.2), (.slice h.2.1.1 h.2.1.2.1 h.2.1.2.2), (iv r.Store.Buffer), (iv r.Store.Offset), (.slice h.2.2.1.1 h.2.2.1.2.1 h.2.2.1.2.2), (.bool r.Sum), (.slice h.2.2.2.1 h.2.2.2.2.1 h.2.2.2.2.2)].toArray), [ow kT3 3 (.slice h.1.1 h.1.2.1 h.1.2.2) r.Loops, ow kT124 124 (.slice h.2.1.1 h.2.1.2.1 h.2.1.2.2) r.Loads, ow kT3 3 (.slice h.2.2.1.1 h.2.2.1.2.1 h.2.2.1.2.2) r.Store.Steps, ow kT216 216 (.slice h.2.2.2.1 h.2.2.2.2.1 h.2.2.2.2.2) r.Code])) := by
 unfold spec_l11CopyKernel at hr
 refine fn_ok Try.func126 R 59 R R fun C V => ?_
 refine cN (_ :: _ :: _ :: _ :: V) ?_
 refine cL 0 sees_rd ?_
 rintro rfl
 refine cL 1 sees_rd ?_
 rintro rfl
 refine cL 2 sees_rd ?_
 rintro rfl
 refine cL 3 sees_rd ?_
 rintro rfl
 let W0 : List HP := RR kT3 A2 D2 k1.Loops :: RR kT124 A3 D3 k1.Loads :: RR kT3 A4 D4 k1.Store.Steps :: RR kT216 A5 D5 k1.Code :: V
 refine cN W0 ?_
 refine c_seq (c_region (lBx R (fun b6 => (l_alloc R R zc127 (fun b7 => (l_nil ?_))))))
 let W1 : List HP := bxl b6 [(sc A2 k1.Loops D2), (sc A3 k1.Loads D3), (iv k1.Store.Buffer), (iv k1.Store.Offset), (sc A4 k1.Store.Steps D4), (.bool k1.Sum), (sc A5 k1.Code D5)] 127 :: W0
 refine qN (_ :: W1) ?_
 refine q_next (c_seq ?_)
 obtain ⟨r8, hx9, hr⟩ := bd hr
 obtain ⟨r11, hx12, hr⟩ := bd hr
 obtain ⟨hg15, hr⟩ := gd hr
 refine c_cutq (A := (Unit) × (Nat × HH × HH × HH)) (fun _ => True) (fun a => [(1, (pt b6 0)), (2, (pt b7 0)), (3, (pt a.2.1 0))]) (fun a => bxl b7 [(.slice none 0 0), (.slice none 0 0), (iv 0), (iv 0), (.slice none 0 0), (.bool false), (.slice none 0 0)] 127 :: bxl a.2.1 [(.slice a.2.2.1.1 a.2.2.1.2.1 a.2.2.1.2.2), (.slice none 0 0), (iv k1.Store.Buffer), (iv k1.Store.Offset), (.slice a.2.2.2.1.1 a.2.2.2.1.2.1 a.2.2.2.1.2.2), (.bool k1.Sum), (.slice a.2.2.2.2.1 a.2.2.2.2.2.1 a.2.2.2.2.2.2)] 127 :: ow kT3 3 (.slice a.2.2.1.1 a.2.2.1.2.1 a.2.2.1.2.2) r8 :: ow kT3 3 (.slice a.2.2.2.1.1 a.2.2.2.1.2.1 a.2.2.2.1.2.2) r11 :: ow kT216 216 (.slice a.2.2.2.2.1 a.2.2.2.2.2.1 a.2.2.2.2.2.2) (([] : List Calc) ++ k1.Code) :: W1) ?_ ?_
 refine cdr 23 [] mixo (fun ht hn => (dR 0 R (vFa 0 fo127_0 R) (dR 1 R (vLd 1 ag29 R R R) (dR 3 R (vFa 2 fo127_2 R) (dR 4 R (vFa 2 fo124_0 R) (dR 5 R (vLd 1 ag3 R R R) (dR 6 R (vFa 2 fo127_2 R) (dR 7 R (vFa 3 fo124_1 R) (dR 8 R (vLd 1 ag3 R R R) (dR 9 R (vFa 2 fo127_2 R) (dR 10 R (vFa 4 fo124_2 R) (dR 11 R (vLd 1 ag29 R R R) (dR 14 R (vFa 5 fo127_3 R) (dR 15 R (vLd 1 ag4 R R R) (dR 17 R (vFa 6 fo127_4 R) (dR 18 R (vLd 1 ag125 R R R) (d_all [2, 16, 21] (by kernel_rfl) R ⟨?_, ?_, ?_, trivial⟩)))))))))))))))))
 refine lM (RR kT3 A2 D2 k1.Loops :: _ :: W1) (fun w s => (s.d 2 R)) ?_
 refine lC 1 cb60 R (spec_l3Ints_ok hx9) R ?_
 rintro ⟨A10, N10, D10⟩
 refine lN (ow kT3 3 (.slice A10 N10 D10) r8 :: _ :: W1) ?_
 refine l_len 0 sees_ow ?_
 rintro rfl
 refine l_nil (q_draw (sL [0]) (d_all [12, 16, 21] (by kernel_rfl) R ⟨?_, ?_, ?_, trivial⟩))
 refine lM (RR kT3 A4 D4 k1.Store.Steps :: _ :: _ :: W1) (fun w s => (s.d 5 R)) ?_
 refine lC 1 cb60 R (spec_l3Ints_ok hx12) R ?_
 rintro ⟨A13, N13, D13⟩
 refine lN (ow kT3 3 (.slice A13 N13 D13) r11 :: _ :: _ :: W1) ?_
 refine l_len 0 sees_ow ?_
 rintro rfl
 refine l_nil (q_draw (sL [1, 0]) (dR 13 R (vz (.agg [(iv k1.Store.Buffer), (iv k1.Store.Offset), (sc A13 r11 D13)].toArray) (v_build pl124 zc124 R R)) (hS := (sL [1, 0])) (d_all [16, 21] (by kernel_rfl) R ⟨?_, ?_, trivial⟩)))
 refine l_build (K := kT216) (xs := ([] : List Calc)) (vs := []) 0 R R sl125 sz216 zc216 R R R R R R ?_ R (fun A14 D14 => ?_)
 exact fun I h s => (mO216).list [] I h s
 refine lN (OO kT216 216 A14 D14 ([] : List Calc) :: _ :: _ :: _ :: W1) ?_
 refine l_nil (q_draw (sL [2, 1, 0]) (d_all [19, 21] (by kernel_rfl) R ⟨?_, ?_, trivial⟩))
 refine lM (_ :: RR kT216 A5 D5 k1.Code :: _ :: _ :: _ :: W1) (fun w s => ((s.dup 8 R).mv 1)) ?_
 refine l_app (K := kT216) 5864062014805 R R sl125 sz216 by216 (Zr.zk zT216 zc216) R R R R R R (src_rd (Kind.iso_flat (Kind.pair_flat (Kind.scal_flat _ _) (Kind.pair_flat (Kind.scal_flat _ _) (Kind.scal_flat _ _))) _)) hg15 (fun A16 D16 => (lN (OO kT216 216 A16 D16 (([] : List Calc) ++ k1.Code) :: _ :: _ :: _ :: W1) ?_))
 refine l_nil (q_draw (sL [2, 1, 0]) (dR 20 R (vz (.agg [(sc A10 r8 D10), (.slice none 0 0), (iv k1.Store.Buffer), (iv k1.Store.Offset), (sc A13 r11 D13), (.bool k1.Sum), (sc A16 (([] : List Calc) ++ k1.Code) D16)].toArray) (v_build pl127 zc127 R R)) (hS := (sL [2, 1, 0])) (d_one 21 (by kernel_rfl) R (l_alloc R R zc127 (fun b17 => (l_nil (q_draw (sL [3, 2, 1, 0]) (d_one 22 (by kernel_rfl) R (l_stores 0 R R sz127 R R R R R R (lN (bxl b17 [(sc A10 r8 D10), (.slice none 0 0), (iv k1.Store.Buffer), (iv k1.Store.Offset), (sc A13 r11 D13), (.bool k1.Sum), (sc A16 (([] : List Calc) ++ k1.Code) D16)] 127 :: _ :: _ :: _ :: _ :: W1) ?_))))))))))
 refine l_nil (q_draw (sL [3, 2, 1, 0]) (d_done (by kernel_rfl) ?_))
 exact q_join ((), (b17, (A10, r8.length, D10), (A13, r11.length, D13), (A16, (([] : List Calc) ++ k1.Code).length, D16))) trivial (aS R) (fun w s => (s.e 5 [4, 0, 3, 2, 1]))
 refine l_alloc R R zc127 (fun b17 => (l_nil (q_draw (sL [3, 2, 1, 0]) (d_one 19 (by kernel_rfl) R (lM (OO kT216 216 A14 D14 ([] : List Calc) :: RR kT216 A5 D5 k1.Code :: _ :: _ :: _ :: _ :: W1) (fun w s => ((s.dup 9 R).mv 2)) ?_)))))
 refine l_app (K := kT216) 5864062014805 R R sl125 sz216 by216 (Zr.zk zT216 zc216) R R R R R R (src_rd (Kind.iso_flat (Kind.pair_flat (Kind.scal_flat _ _) (Kind.pair_flat (Kind.scal_flat _ _) (Kind.scal_flat _ _))) _)) hg15 (fun A16 D16 => (lN (OO kT216 216 A16 D16 (([] : List Calc) ++ k1.Code) :: _ :: _ :: _ :: _ :: W1) ?_))
 refine l_nil (q_draw (sL [3, 2, 1, 0]) (dR 20 R (vz (.agg [(sc A10 r8 D10), (.slice none 0 0), (iv k1.Store.Buffer), (iv k1.Store.Offset), (sc A13 r11 D13), (.bool k1.Sum), (sc A16 (([] : List Calc) ++ k1.Code) D16)].toArray) (v_build pl127 zc127 R R)) (hS := (sL [3, 2, 1, 0])) (d_one 22 (by kernel_rfl) R (l_stores 1 R R sz127 R R R R R R (lN (_ :: bxl b17 [(sc A10 r8 D10), (.slice none 0 0), (iv k1.Store.Buffer), (iv k1.Store.Offset), (sc A13 r11 D13), (.bool k1.Sum), (sc A16 (([] : List Calc) ++ k1.Code) D16)] 127 :: _ :: _ :: _ :: W1) ?_)))))
 refine l_nil (q_draw (sL [3, 2, 1, 0]) (d_done (by kernel_rfl) ?_))
 exact q_join ((), (b17, (A10, r8.length, D10), (A13, r11.length, D13), (A16, (([] : List Calc) ++ k1.Code).length, D16))) trivial (aS R) (fun w s => (s.e 5 [4, 1, 3, 2, 0]))
 refine l_alloc R R zc127 (fun b17 => (l_nil (q_draw (sL [2, 1, 0]) (d_one 16 (by kernel_rfl) R (l_build (K := kT216) (xs := ([] : List Calc)) (vs := []) 0 R R sl125 sz216 zc216 R R R R R R ?_ R (fun A14 D14 => ?_))))))
 exact fun I h s => (mO216).list [] I h s
 refine lN (OO kT216 216 A14 D14 ([] : List Calc) :: _ :: _ :: _ :: _ :: W1) ?_
 refine l_nil (q_draw (sL [3, 2, 1, 0]) (d_one 19 (by kernel_rfl) R (lM (_ :: RR kT216 A5 D5 k1.Code :: _ :: _ :: _ :: _ :: W1) (fun w s => ((s.dup 9 R).mv 1)) ?_)))
 refine l_app (K := kT216) 5864062014805 R R sl125 sz216 by216 (Zr.zk zT216 zc216) R R R R R R (src_rd (Kind.iso_flat (Kind.pair_flat (Kind.scal_flat _ _) (Kind.pair_flat (Kind.scal_flat _ _) (Kind.scal_flat _ _))) _)) hg15 (fun A16 D16 => (lN (OO kT216 216 A16 D16 (([] : List Calc) ++ k1.Code) :: _ :: _ :: _ :: _ :: W1) ?_))
 refine l_nil (q_draw (sL [3, 2, 1, 0]) (dR 20 R (vz (.agg [(sc A10 r8 D10), (.slice none 0 0), (iv k1.Store.Buffer), (iv k1.Store.Offset), (sc A13 r11 D13), (.bool k1.Sum), (sc A16 (([] : List Calc) ++ k1.Code) D16)].toArray) (v_build pl127 zc127 R R)) (hS := (sL [3, 2, 1, 0])) (d_one 22 (by kernel_rfl) R (l_stores 1 R R sz127 R R R R R R (lN (_ :: bxl b17 [(sc A10 r8 D10), (.slice none 0 0), (iv k1.Store.Buffer), (iv k1.Store.Offset), (sc A13 r11 D13), (.bool k1.Sum), (sc A16 (([] : List Calc) ++ k1.Code) D16)] 127 :: _ :: _ :: _ :: W1) ?_)))))
 refine l_nil (q_draw (sL [3, 2, 1, 0]) (d_done (by kernel_rfl) ?_))
 exact q_join ((), (b17, (A10, r8.length, D10), (A13, r11.length, D13), (A16, (([] : List Calc) ++ k1.Code).length, D16))) trivial (aS R) (fun w s => (s.e 5 [4, 1, 3, 2, 0]))
 refine l_build (K := kT216) (xs := ([] : List Calc)) (vs := []) 0 R R sl125 sz216 zc216 R R R R R R ?_ R (fun A14 D14 => ?_)
 exact fun I h s => (mO216).list [] I h s
 refine lN (OO kT216 216 A14 D14 ([] : List Calc) :: _ :: _ :: W1) ?_
 refine l_nil (q_draw (sL [1, 0]) (d_all [12, 21] (by kernel_rfl) R ⟨?_, ?_, trivial⟩))
 refine lM (RR kT3 A4 D4 k1.Store.Steps :: _ :: _ :: _ :: W1) (fun w s => (s.d 6 R)) ?_
 refine lC 1 cb60 R (spec_l3Ints_ok hx12) R ?_
 rintro ⟨A13, N13, D13⟩
 refine lN (ow kT3 3 (.slice A13 N13 D13) r11 :: _ :: _ :: _ :: W1) ?_
 refine l_len 0 sees_ow ?_
 rintro rfl
 refine l_nil (q_draw (sL [2, 1, 0]) (dR 13 R (vz (.agg [(iv k1.Store.Buffer), (iv k1.Store.Offset), (sc A13 r11 D13)].toArray) (v_build pl124 zc124 R R)) (hS := (sL [2, 1, 0])) (d_all [19, 21] (by kernel_rfl) R ⟨?_, ?_, trivial⟩)))
 refine lM (_ :: RR kT216 A5 D5 k1.Code :: _ :: _ :: _ :: W1) (fun w s => ((s.dup 8 R).mv 2)) ?_
 refine l_app (K := kT216) 5864062014805 R R sl125 sz216 by216 (Zr.zk zT216 zc216) R R R R R R (src_rd (Kind.iso_flat (Kind.pair_flat (Kind.scal_flat _ _) (Kind.pair_flat (Kind.scal_flat _ _) (Kind.scal_flat _ _))) _)) hg15 (fun A16 D16 => (lN (OO kT216 216 A16 D16 (([] : List Calc) ++ k1.Code) :: _ :: _ :: _ :: W1) ?_))
 refine l_nil (q_draw (sL [2, 1, 0]) (dR 20 R (vz (.agg [(sc A10 r8 D10), (.slice none 0 0), (iv k1.Store.Buffer), (iv k1.Store.Offset), (sc A13 r11 D13), (.bool k1.Sum), (sc A16 (([] : List Calc) ++ k1.Code) D16)].toArray) (v_build pl127 zc127 R R)) (hS := (sL [2, 1, 0])) (d_one 21 (by kernel_rfl) R (l_alloc R R zc127 (fun b17 => (l_nil (q_draw (sL [3, 2, 1, 0]) (d_one 22 (by kernel_rfl) R (l_stores 0 R R sz127 R R R R R R (lN (bxl b17 [(sc A10 r8 D10), (.slice none 0 0), (iv k1.Store.Buffer), (iv k1.Store.Offset), (sc A13 r11 D13), (.bool k1.Sum), (sc A16 (([] : List Calc) ++ k1.Code) D16)] 127 :: _ :: _ :: _ :: _ :: W1) ?_))))))))))
 refine l_nil (q_draw (sL [3, 2, 1, 0]) (d_done (by kernel_rfl) ?_))
 exact q_join ((), (b17, (A10, r8.length, D10), (A13, r11.length, D13), (A16, (([] : List Calc) ++ k1.Code).length, D16))) trivial (aS R) (fun w s => (s.e 5 [4, 0, 3, 2, 1]))
 refine l_alloc R R zc127 (fun b17 => (l_nil (q_draw (sL [3, 2, 1, 0]) (d_one 19 (by kernel_rfl) R (lM (OO kT216 216 A14 D14 ([] : List Calc) :: RR kT216 A5 D5 k1.Code :: _ :: _ :: _ :: _ :: W1) (fun w s => ((s.dup 9 R).mv 3)) ?_)))))
 refine l_app (K := kT216) 5864062014805 R R sl125 sz216 by216 (Zr.zk zT216 zc216) R R R R R R (src_rd (Kind.iso_flat (Kind.pair_flat (Kind.scal_flat _ _) (Kind.pair_flat (Kind.scal_flat _ _) (Kind.scal_flat _ _))) _)) hg15 (fun A16 D16 => (lN (OO kT216 216 A16 D16 (([] : List Calc) ++ k1.Code) :: _ :: _ :: _ :: _ :: W1) ?_))
 refine l_nil (q_draw (sL [3, 2, 1, 0]) (dR 20 R (vz (.agg [(sc A10 r8 D10), (.slice none 0 0), (iv k1.Store.Buffer), (iv k1.Store.Offset), (sc A13 r11 D13), (.bool k1.Sum), (sc A16 (([] : List Calc) ++ k1.Code) D16)].toArray) (v_build pl127 zc127 R R)) (hS := (sL [3, 2, 1, 0])) (d_one 22 (by kernel_rfl) R (l_stores 1 R R sz127 R R R R R R (lN (_ :: bxl b17 [(sc A10 r8 D10), (.slice none 0 0), (iv k1.Store.Buffer), (iv k1.Store.Offset), (sc A13 r11 D13), (.bool k1.Sum), (sc A16 (([] : List Calc) ++ k1.Code) D16)] 127 :: _ :: _ :: _ :: W1) ?_)))))
 refine l_nil (q_draw (sL [3, 2, 1, 0]) (d_done (by kernel_rfl) ?_))
 exact q_join ((), (b17, (A10, r8.length, D10), (A13, r11.length, D13), (A16, (([] : List Calc) ++ k1.Code).length, D16))) trivial (aS R) (fun w s => (s.e 5 [4, 1, 3, 2, 0]))
 refine l_alloc R R zc127 (fun b17 => (l_nil (q_draw (sL [2, 1, 0]) (d_one 12 (by kernel_rfl) R (lM (RR kT3 A4 D4 k1.Store.Steps :: _ :: OO kT216 216 A14 D14 ([] : List Calc) :: _ :: _ :: W1) (fun w s => (s.d 7 R)) ?_)))))
 refine lC 1 cb60 R (spec_l3Ints_ok hx12) R ?_
 rintro ⟨A13, N13, D13⟩
 refine lN (ow kT3 3 (.slice A13 N13 D13) r11 :: _ :: _ :: _ :: _ :: W1) ?_
 refine l_len 0 sees_ow ?_
 rintro rfl
 refine l_nil (q_draw (sL [3, 2, 1, 0]) (dR 13 R (vz (.agg [(iv k1.Store.Buffer), (iv k1.Store.Offset), (sc A13 r11 D13)].toArray) (v_build pl124 zc124 R R)) (hS := (sL [3, 2, 1, 0])) (d_one 19 (by kernel_rfl) R (lM (_ :: RR kT216 A5 D5 k1.Code :: _ :: _ :: _ :: _ :: W1) (fun w s => ((s.dup 9 R).mv 3)) ?_))))
 refine l_app (K := kT216) 5864062014805 R R sl125 sz216 by216 (Zr.zk zT216 zc216) R R R R R R (src_rd (Kind.iso_flat (Kind.pair_flat (Kind.scal_flat _ _) (Kind.pair_flat (Kind.scal_flat _ _) (Kind.scal_flat _ _))) _)) hg15 (fun A16 D16 => (lN (OO kT216 216 A16 D16 (([] : List Calc) ++ k1.Code) :: _ :: _ :: _ :: _ :: W1) ?_))
 refine l_nil (q_draw (sL [3, 2, 1, 0]) (dR 20 R (vz (.agg [(sc A10 r8 D10), (.slice none 0 0), (iv k1.Store.Buffer), (iv k1.Store.Offset), (sc A13 r11 D13), (.bool k1.Sum), (sc A16 (([] : List Calc) ++ k1.Code) D16)].toArray) (v_build pl127 zc127 R R)) (hS := (sL [3, 2, 1, 0])) (d_one 22 (by kernel_rfl) R (l_stores 2 R R sz127 R R R R R R (lN (_ :: _ :: bxl b17 [(sc A10 r8 D10), (.slice none 0 0), (iv k1.Store.Buffer), (iv k1.Store.Offset), (sc A13 r11 D13), (.bool k1.Sum), (sc A16 (([] : List Calc) ++ k1.Code) D16)] 127 :: _ :: _ :: W1) ?_)))))
 refine l_nil (q_draw (sL [3, 2, 1, 0]) (d_done (by kernel_rfl) ?_))
 exact q_join ((), (b17, (A10, r8.length, D10), (A13, r11.length, D13), (A16, (([] : List Calc) ++ k1.Code).length, D16))) trivial (aS R) (fun w s => (s.e 5 [4, 2, 3, 1, 0]))
 refine l_alloc R R zc127 (fun b17 => (l_nil (q_draw (sL [1, 0]) (d_all [12, 16] (by kernel_rfl) R ⟨?_, ?_, trivial⟩))))
 refine lM (RR kT3 A4 D4 k1.Store.Steps :: _ :: _ :: _ :: W1) (fun w s => (s.d 6 R)) ?_
 refine lC 1 cb60 R (spec_l3Ints_ok hx12) R ?_
 rintro ⟨A13, N13, D13⟩
 refine lN (ow kT3 3 (.slice A13 N13 D13) r11 :: _ :: _ :: _ :: W1) ?_
 refine l_len 0 sees_ow ?_
 rintro rfl
 refine l_nil (q_draw (sL [2, 1, 0]) (dR 13 R (vz (.agg [(iv k1.Store.Buffer), (iv k1.Store.Offset), (sc A13 r11 D13)].toArray) (v_build pl124 zc124 R R)) (hS := (sL [2, 1, 0])) (d_one 16 (by kernel_rfl) R (l_build (K := kT216) (xs := ([] : List Calc)) (vs := []) 0 R R sl125 sz216 zc216 R R R R R R ?_ R (fun A14 D14 => ?_)))))
 exact fun I h s => (mO216).list [] I h s
 refine lN (OO kT216 216 A14 D14 ([] : List Calc) :: _ :: _ :: _ :: _ :: W1) ?_
 refine l_nil (q_draw (sL [3, 2, 1, 0]) (d_one 19 (by kernel_rfl) R (lM (_ :: RR kT216 A5 D5 k1.Code :: _ :: _ :: _ :: _ :: W1) (fun w s => ((s.dup 9 R).mv 1)) ?_)))
 refine l_app (K := kT216) 5864062014805 R R sl125 sz216 by216 (Zr.zk zT216 zc216) R R R R R R (src_rd (Kind.iso_flat (Kind.pair_flat (Kind.scal_flat _ _) (Kind.pair_flat (Kind.scal_flat _ _) (Kind.scal_flat _ _))) _)) hg15 (fun A16 D16 => (lN (OO kT216 216 A16 D16 (([] : List Calc) ++ k1.Code) :: _ :: _ :: _ :: _ :: W1) ?_))
 refine l_nil (q_draw (sL [3, 2, 1, 0]) (dR 20 R (vz (.agg [(sc A10 r8 D10), (.slice none 0 0), (iv k1.Store.Buffer), (iv k1.Store.Offset), (sc A13 r11 D13), (.bool k1.Sum), (sc A16 (([] : List Calc) ++ k1.Code) D16)].toArray) (v_build pl127 zc127 R R)) (hS := (sL [3, 2, 1, 0])) (d_one 22 (by kernel_rfl) R (l_stores 2 R R sz127 R R R R R R (lN (_ :: _ :: bxl b17 [(sc A10 r8 D10), (.slice none 0 0), (iv k1.Store.Buffer), (iv k1.Store.Offset), (sc A13 r11 D13), (.bool k1.Sum), (sc A16 (([] : List Calc) ++ k1.Code) D16)] 127 :: _ :: _ :: W1) ?_)))))
 refine l_nil (q_draw (sL [3, 2, 1, 0]) (d_done (by kernel_rfl) ?_))
 exact q_join ((), (b17, (A10, r8.length, D10), (A13, r11.length, D13), (A16, (([] : List Calc) ++ k1.Code).length, D16))) trivial (aS R) (fun w s => (s.e 5 [4, 2, 3, 1, 0]))
 refine l_build (K := kT216) (xs := ([] : List Calc)) (vs := []) 0 R R sl125 sz216 zc216 R R R R R R ?_ R (fun A14 D14 => ?_)
 exact fun I h s => (mO216).list [] I h s
 refine lN (OO kT216 216 A14 D14 ([] : List Calc) :: bxl b17 [(.slice none 0 0), (.slice none 0 0), (iv 0), (iv 0), (.slice none 0 0), (.bool false), (.slice none 0 0)] 127 :: _ :: _ :: W1) ?_
 refine l_nil (q_draw (sL [2, 1, 0]) (d_one 12 (by kernel_rfl) R (lM (RR kT3 A4 D4 k1.Store.Steps :: _ :: _ :: _ :: _ :: W1) (fun w s => (s.d 7 R)) ?_)))
 refine lC 1 cb60 R (spec_l3Ints_ok hx12) R ?_
 rintro ⟨A13, N13, D13⟩
 refine lN (ow kT3 3 (.slice A13 N13 D13) r11 :: _ :: _ :: _ :: _ :: W1) ?_
 refine l_len 0 sees_ow ?_
 rintro rfl
 refine l_nil (q_draw (sL [3, 2, 1, 0]) (dR 13 R (vz (.agg [(iv k1.Store.Buffer), (iv k1.Store.Offset), (sc A13 r11 D13)].toArray) (v_build pl124 zc124 R R)) (hS := (sL [3, 2, 1, 0])) (d_one 19 (by kernel_rfl) R (lM (_ :: RR kT216 A5 D5 k1.Code :: _ :: _ :: _ :: _ :: W1) (fun w s => ((s.dup 9 R).mv 2)) ?_))))
 refine l_app (K := kT216) 5864062014805 R R sl125 sz216 by216 (Zr.zk zT216 zc216) R R R R R R (src_rd (Kind.iso_flat (Kind.pair_flat (Kind.scal_flat _ _) (Kind.pair_flat (Kind.scal_flat _ _) (Kind.scal_flat _ _))) _)) hg15 (fun A16 D16 => (lN (OO kT216 216 A16 D16 (([] : List Calc) ++ k1.Code) :: _ :: _ :: _ :: _ :: W1) ?_))
 refine l_nil (q_draw (sL [3, 2, 1, 0]) (dR 20 R (vz (.agg [(sc A10 r8 D10), (.slice none 0 0), (iv k1.Store.Buffer), (iv k1.Store.Offset), (sc A13 r11 D13), (.bool k1.Sum), (sc A16 (([] : List Calc) ++ k1.Code) D16)].toArray) (v_build pl127 zc127 R R)) (hS := (sL [3, 2, 1, 0])) (d_one 22 (by kernel_rfl) R (l_stores 2 R R sz127 R R R R R R (lN (_ :: _ :: bxl b17 [(sc A10 r8 D10), (.slice none 0 0), (iv k1.Store.Buffer), (iv k1.Store.Offset), (sc A13 r11 D13), (.bool k1.Sum), (sc A16 (([] : List Calc) ++ k1.Code) D16)] 127 :: _ :: _ :: W1) ?_)))))
 refine l_nil (q_draw (sL [3, 2, 1, 0]) (d_done (by kernel_rfl) ?_))
 exact q_join ((), (b17, (A10, r8.length, D10), (A13, r11.length, D13), (A16, (([] : List Calc) ++ k1.Code).length, D16))) trivial (aS R) (fun w s => (s.e 5 [4, 2, 3, 1, 0]))
 refine l_build (K := kT216) (xs := ([] : List Calc)) (vs := []) 0 R R sl125 sz216 zc216 R R R R R R ?_ R (fun A14 D14 => ?_)
 exact fun I h s => (mO216).list [] I h s
 refine lN (OO kT216 216 A14 D14 ([] : List Calc) :: _ :: W1) ?_
 refine l_nil (q_draw (sL [0]) (d_all [2, 21] (by kernel_rfl) R ⟨?_, ?_, trivial⟩))
 refine lM (RR kT3 A2 D2 k1.Loops :: _ :: _ :: W1) (fun w s => (s.d 3 R)) ?_
 refine lC 1 cb60 R (spec_l3Ints_ok hx9) R ?_
 rintro ⟨A10, N10, D10⟩
 refine lN (ow kT3 3 (.slice A10 N10 D10) r8 :: _ :: _ :: W1) ?_
 refine l_len 0 sees_ow ?_
 rintro rfl
 refine l_nil (q_draw (sL [1, 0]) (d_all [12, 21] (by kernel_rfl) R ⟨?_, ?_, trivial⟩))
 refine lM (RR kT3 A4 D4 k1.Store.Steps :: _ :: _ :: _ :: W1) (fun w s => (s.d 6 R)) ?_
 refine lC 1 cb60 R (spec_l3Ints_ok hx12) R ?_
 rintro ⟨A13, N13, D13⟩
 refine lN (ow kT3 3 (.slice A13 N13 D13) r11 :: _ :: _ :: _ :: W1) ?_
 refine l_len 0 sees_ow ?_
 rintro rfl
 refine l_nil (q_draw (sL [2, 1, 0]) (dR 13 R (vz (.agg [(iv k1.Store.Buffer), (iv k1.Store.Offset), (sc A13 r11 D13)].toArray) (v_build pl124 zc124 R R)) (hS := (sL [2, 1, 0])) (d_all [19, 21] (by kernel_rfl) R ⟨?_, ?_, trivial⟩)))
 refine lM (_ :: RR kT216 A5 D5 k1.Code :: _ :: _ :: _ :: W1) (fun w s => ((s.dup 8 R).mv 3)) ?_
 refine l_app (K := kT216) 5864062014805 R R sl125 sz216 by216 (Zr.zk zT216 zc216) R R R R R R (src_rd (Kind.iso_flat (Kind.pair_flat (Kind.scal_flat _ _) (Kind.pair_flat (Kind.scal_flat _ _) (Kind.scal_flat _ _))) _)) hg15 (fun A16 D16 => (lN (OO kT216 216 A16 D16 (([] : List Calc) ++ k1.Code) :: _ :: _ :: _ :: W1) ?_))
 refine l_nil (q_draw (sL [2, 1, 0]) (dR 20 R (vz (.agg [(sc A10 r8 D10), (.slice none 0 0), (iv k1.Store.Buffer), (iv k1.Store.Offset), (sc A13 r11 D13), (.bool k1.Sum), (sc A16 (([] : List Calc) ++ k1.Code) D16)].toArray) (v_build pl127 zc127 R R)) (hS := (sL [2, 1, 0])) (d_one 21 (by kernel_rfl) R (l_alloc R R zc127 (fun b17 => (l_nil (q_draw (sL [3, 2, 1, 0]) (d_one 22 (by kernel_rfl) R (l_stores 0 R R sz127 R R R R R R (lN (bxl b17 [(sc A10 r8 D10), (.slice none 0 0), (iv k1.Store.Buffer), (iv k1.Store.Offset), (sc A13 r11 D13), (.bool k1.Sum), (sc A16 (([] : List Calc) ++ k1.Code) D16)] 127 :: _ :: _ :: _ :: _ :: W1) ?_))))))))))
 refine l_nil (q_draw (sL [3, 2, 1, 0]) (d_done (by kernel_rfl) ?_))
 exact q_join ((), (b17, (A10, r8.length, D10), (A13, r11.length, D13), (A16, (([] : List Calc) ++ k1.Code).length, D16))) trivial (aS R) (fun w s => (s.e 5 [4, 0, 3, 2, 1]))
 refine l_alloc R R zc127 (fun b17 => (l_nil (q_draw (sL [3, 2, 1, 0]) (d_one 19 (by kernel_rfl) R (lM (OO kT216 216 A14 D14 ([] : List Calc) :: RR kT216 A5 D5 k1.Code :: _ :: _ :: _ :: _ :: W1) (fun w s => ((s.dup 9 R).mv 4)) ?_)))))
 refine l_app (K := kT216) 5864062014805 R R sl125 sz216 by216 (Zr.zk zT216 zc216) R R R R R R (src_rd (Kind.iso_flat (Kind.pair_flat (Kind.scal_flat _ _) (Kind.pair_flat (Kind.scal_flat _ _) (Kind.scal_flat _ _))) _)) hg15 (fun A16 D16 => (lN (OO kT216 216 A16 D16 (([] : List Calc) ++ k1.Code) :: _ :: _ :: _ :: _ :: W1) ?_))
 refine l_nil (q_draw (sL [3, 2, 1, 0]) (dR 20 R (vz (.agg [(sc A10 r8 D10), (.slice none 0 0), (iv k1.Store.Buffer), (iv k1.Store.Offset), (sc A13 r11 D13), (.bool k1.Sum), (sc A16 (([] : List Calc) ++ k1.Code) D16)].toArray) (v_build pl127 zc127 R R)) (hS := (sL [3, 2, 1, 0])) (d_one 22 (by kernel_rfl) R (l_stores 1 R R sz127 R R R R R R (lN (_ :: bxl b17 [(sc A10 r8 D10), (.slice none 0 0), (iv k1.Store.Buffer), (iv k1.Store.Offset), (sc A13 r11 D13), (.bool k1.Sum), (sc A16 (([] : List Calc) ++ k1.Code) D16)] 127 :: _ :: _ :: _ :: W1) ?_)))))
 refine l_nil (q_draw (sL [3, 2, 1, 0]) (d_done (by kernel_rfl) ?_))
 exact q_join ((), (b17, (A10, r8.length, D10), (A13, r11.length, D13), (A16, (([] : List Calc) ++ k1.Code).length, D16))) trivial (aS R) (fun w s => (s.e 5 [4, 1, 3, 2, 0]))
 refine l_alloc R R zc127 (fun b17 => (l_nil (q_draw (sL [2, 1, 0]) (d_one 12 (by kernel_rfl) R (lM (RR kT3 A4 D4 k1.Store.Steps :: _ :: _ :: OO kT216 216 A14 D14 ([] : List Calc) :: _ :: W1) (fun w s => (s.d 7 R)) ?_)))))
 refine lC 1 cb60 R (spec_l3Ints_ok hx12) R ?_
 rintro ⟨A13, N13, D13⟩
 refine lN (ow kT3 3 (.slice A13 N13 D13) r11 :: _ :: _ :: _ :: _ :: W1) ?_
 refine l_len 0 sees_ow ?_
 rintro rfl
 refine l_nil (q_draw (sL [3, 2, 1, 0]) (dR 13 R (vz (.agg [(iv k1.Store.Buffer), (iv k1.Store.Offset), (sc A13 r11 D13)].toArray) (v_build pl124 zc124 R R)) (hS := (sL [3, 2, 1, 0])) (d_one 19 (by kernel_rfl) R (lM (_ :: RR kT216 A5 D5 k1.Code :: _ :: _ :: _ :: _ :: W1) (fun w s => ((s.dup 9 R).mv 4)) ?_))))
 refine l_app (K := kT216) 5864062014805 R R sl125 sz216 by216 (Zr.zk zT216 zc216) R R R R R R (src_rd (Kind.iso_flat (Kind.pair_flat (Kind.scal_flat _ _) (Kind.pair_flat (Kind.scal_flat _ _) (Kind.scal_flat _ _))) _)) hg15 (fun A16 D16 => (lN (OO kT216 216 A16 D16 (([] : List Calc) ++ k1.Code) :: _ :: _ :: _ :: _ :: W1) ?_))
 refine l_nil (q_draw (sL [3, 2, 1, 0]) (dR 20 R (vz (.agg [(sc A10 r8 D10), (.slice none 0 0), (iv k1.Store.Buffer), (iv k1.Store.Offset), (sc A13 r11 D13), (.bool k1.Sum), (sc A16 (([] : List Calc) ++ k1.Code) D16)].toArray) (v_build pl127 zc127 R R)) (hS := (sL [3, 2, 1, 0])) (d_one 22 (by kernel_rfl) R (l_stores 2 R R sz127 R R R R R R (lN (_ :: _ :: bxl b17 [(sc A10 r8 D10), (.slice none 0 0), (iv k1.Store.Buffer), (iv k1.Store.Offset), (sc A13 r11 D13), (.bool k1.Sum), (sc A16 (([] : List Calc) ++ k1.Code) D16)] 127 :: _ :: _ :: W1) ?_)))))
 refine l_nil (q_draw (sL [3, 2, 1, 0]) (d_done (by kernel_rfl) ?_))
 exact q_join ((), (b17, (A10, r8.length, D10), (A13, r11.length, D13), (A16, (([] : List Calc) ++ k1.Code).length, D16))) trivial (aS R) (fun w s => (s.e 5 [4, 2, 3, 1, 0]))
 refine l_alloc R R zc127 (fun b17 => (l_nil (q_draw (sL [1, 0]) (d_one 2 (by kernel_rfl) R (lM (RR kT3 A2 D2 k1.Loops :: _ :: OO kT216 216 A14 D14 ([] : List Calc) :: _ :: W1) (fun w s => (s.d 4 R)) ?_)))))
 refine lC 1 cb60 R (spec_l3Ints_ok hx9) R ?_
 rintro ⟨A10, N10, D10⟩
 refine lN (ow kT3 3 (.slice A10 N10 D10) r8 :: _ :: _ :: _ :: W1) ?_
 refine l_len 0 sees_ow ?_
 rintro rfl
 refine l_nil (q_draw (sL [2, 1, 0]) (d_one 12 (by kernel_rfl) R (lM (RR kT3 A4 D4 k1.Store.Steps :: _ :: _ :: _ :: _ :: W1) (fun w s => (s.d 7 R)) ?_)))
 refine lC 1 cb60 R (spec_l3Ints_ok hx12) R ?_
 rintro ⟨A13, N13, D13⟩
 refine lN (ow kT3 3 (.slice A13 N13 D13) r11 :: _ :: _ :: _ :: _ :: W1) ?_
 refine l_len 0 sees_ow ?_
 rintro rfl
 refine l_nil (q_draw (sL [3, 2, 1, 0]) (dR 13 R (vz (.agg [(iv k1.Store.Buffer), (iv k1.Store.Offset), (sc A13 r11 D13)].toArray) (v_build pl124 zc124 R R)) (hS := (sL [3, 2, 1, 0])) (d_one 19 (by kernel_rfl) R (lM (_ :: RR kT216 A5 D5 k1.Code :: _ :: _ :: _ :: _ :: W1) (fun w s => ((s.dup 9 R).mv 4)) ?_))))
 refine l_app (K := kT216) 5864062014805 R R sl125 sz216 by216 (Zr.zk zT216 zc216) R R R R R R (src_rd (Kind.iso_flat (Kind.pair_flat (Kind.scal_flat _ _) (Kind.pair_flat (Kind.scal_flat _ _) (Kind.scal_flat _ _))) _)) hg15 (fun A16 D16 => (lN (OO kT216 216 A16 D16 (([] : List Calc) ++ k1.Code) :: _ :: _ :: _ :: _ :: W1) ?_))
 refine l_nil (q_draw (sL [3, 2, 1, 0]) (dR 20 R (vz (.agg [(sc A10 r8 D10), (.slice none 0 0), (iv k1.Store.Buffer), (iv k1.Store.Offset), (sc A13 r11 D13), (.bool k1.Sum), (sc A16 (([] : List Calc) ++ k1.Code) D16)].toArray) (v_build pl127 zc127 R R)) (hS := (sL [3, 2, 1, 0])) (d_one 22 (by kernel_rfl) R (l_stores 3 R R sz127 R R R R R R (lN (_ :: _ :: _ :: bxl b17 [(sc A10 r8 D10), (.slice none 0 0), (iv k1.Store.Buffer), (iv k1.Store.Offset), (sc A13 r11 D13), (.bool k1.Sum), (sc A16 (([] : List Calc) ++ k1.Code) D16)] 127 :: _ :: W1) ?_)))))
 refine l_nil (q_draw (sL [3, 2, 1, 0]) (d_done (by kernel_rfl) ?_))
 exact q_join ((), (b17, (A10, r8.length, D10), (A13, r11.length, D13), (A16, (([] : List Calc) ++ k1.Code).length, D16))) trivial (aS R) (fun w s => (s.e 5 [4, 3, 2, 1, 0]))
 refine l_alloc R R zc127 (fun b17 => (l_nil (q_draw (sL [0]) (d_all [2, 16] (by kernel_rfl) R ⟨?_, ?_, trivial⟩))))
 refine lM (RR kT3 A2 D2 k1.Loops :: _ :: _ :: W1) (fun w s => (s.d 3 R)) ?_
 refine lC 1 cb60 R (spec_l3Ints_ok hx9) R ?_
 rintro ⟨A10, N10, D10⟩
 refine lN (ow kT3 3 (.slice A10 N10 D10) r8 :: _ :: _ :: W1) ?_
 refine l_len 0 sees_ow ?_
 rintro rfl
 refine l_nil (q_draw (sL [1, 0]) (d_all [12, 16] (by kernel_rfl) R ⟨?_, ?_, trivial⟩))
 refine lM (RR kT3 A4 D4 k1.Store.Steps :: _ :: _ :: _ :: W1) (fun w s => (s.d 6 R)) ?_
 refine lC 1 cb60 R (spec_l3Ints_ok hx12) R ?_
 rintro ⟨A13, N13, D13⟩
 refine lN (ow kT3 3 (.slice A13 N13 D13) r11 :: _ :: _ :: _ :: W1) ?_
 refine l_len 0 sees_ow ?_
 rintro rfl
 refine l_nil (q_draw (sL [2, 1, 0]) (dR 13 R (vz (.agg [(iv k1.Store.Buffer), (iv k1.Store.Offset), (sc A13 r11 D13)].toArray) (v_build pl124 zc124 R R)) (hS := (sL [2, 1, 0])) (d_one 16 (by kernel_rfl) R (l_build (K := kT216) (xs := ([] : List Calc)) (vs := []) 0 R R sl125 sz216 zc216 R R R R R R ?_ R (fun A14 D14 => ?_)))))
 exact fun I h s => (mO216).list [] I h s
 refine lN (OO kT216 216 A14 D14 ([] : List Calc) :: _ :: _ :: _ :: _ :: W1) ?_
 refine l_nil (q_draw (sL [3, 2, 1, 0]) (d_one 19 (by kernel_rfl) R (lM (_ :: RR kT216 A5 D5 k1.Code :: _ :: _ :: _ :: _ :: W1) (fun w s => ((s.dup 9 R).mv 1)) ?_)))
 refine l_app (K := kT216) 5864062014805 R R sl125 sz216 by216 (Zr.zk zT216 zc216) R R R R R R (src_rd (Kind.iso_flat (Kind.pair_flat (Kind.scal_flat _ _) (Kind.pair_flat (Kind.scal_flat _ _) (Kind.scal_flat _ _))) _)) hg15 (fun A16 D16 => (lN (OO kT216 216 A16 D16 (([] : List Calc) ++ k1.Code) :: _ :: _ :: _ :: _ :: W1) ?_))
 refine l_nil (q_draw (sL [3, 2, 1, 0]) (dR 20 R (vz (.agg [(sc A10 r8 D10), (.slice none 0 0), (iv k1.Store.Buffer), (iv k1.Store.Offset), (sc A13 r11 D13), (.bool k1.Sum), (sc A16 (([] : List Calc) ++ k1.Code) D16)].toArray) (v_build pl127 zc127 R R)) (hS := (sL [3, 2, 1, 0])) (d_one 22 (by kernel_rfl) R (l_stores 3 R R sz127 R R R R R R (lN (_ :: _ :: _ :: bxl b17 [(sc A10 r8 D10), (.slice none 0 0), (iv k1.Store.Buffer), (iv k1.Store.Offset), (sc A13 r11 D13), (.bool k1.Sum), (sc A16 (([] : List Calc) ++ k1.Code) D16)] 127 :: _ :: W1) ?_)))))
 refine l_nil (q_draw (sL [3, 2, 1, 0]) (d_done (by kernel_rfl) ?_))
 exact q_join ((), (b17, (A10, r8.length, D10), (A13, r11.length, D13), (A16, (([] : List Calc) ++ k1.Code).length, D16))) trivial (aS R) (fun w s => (s.e 5 [4, 3, 2, 1, 0]))
 refine l_build (K := kT216) (xs := ([] : List Calc)) (vs := []) 0 R R sl125 sz216 zc216 R R R R R R ?_ R (fun A14 D14 => ?_)
 exact fun I h s => (mO216).list [] I h s
 refine lN (OO kT216 216 A14 D14 ([] : List Calc) :: _ :: bxl b17 [(.slice none 0 0), (.slice none 0 0), (iv 0), (iv 0), (.slice none 0 0), (.bool false), (.slice none 0 0)] 127 :: _ :: W1) ?_
 refine l_nil (q_draw (sL [2, 1, 0]) (d_one 12 (by kernel_rfl) R (lM (RR kT3 A4 D4 k1.Store.Steps :: _ :: _ :: _ :: _ :: W1) (fun w s => (s.d 7 R)) ?_)))
 refine lC 1 cb60 R (spec_l3Ints_ok hx12) R ?_
 rintro ⟨A13, N13, D13⟩
 refine lN (ow kT3 3 (.slice A13 N13 D13) r11 :: _ :: _ :: _ :: _ :: W1) ?_
 refine l_len 0 sees_ow ?_
 rintro rfl
 refine l_nil (q_draw (sL [3, 2, 1, 0]) (dR 13 R (vz (.agg [(iv k1.Store.Buffer), (iv k1.Store.Offset), (sc A13 r11 D13)].toArray) (v_build pl124 zc124 R R)) (hS := (sL [3, 2, 1, 0])) (d_one 19 (by kernel_rfl) R (lM (_ :: RR kT216 A5 D5 k1.Code :: _ :: _ :: _ :: _ :: W1) (fun w s => ((s.dup 9 R).mv 2)) ?_))))
 refine l_app (K := kT216) 5864062014805 R R sl125 sz216 by216 (Zr.zk zT216 zc216) R R R R R R (src_rd (Kind.iso_flat (Kind.pair_flat (Kind.scal_flat _ _) (Kind.pair_flat (Kind.scal_flat _ _) (Kind.scal_flat _ _))) _)) hg15 (fun A16 D16 => (lN (OO kT216 216 A16 D16 (([] : List Calc) ++ k1.Code) :: _ :: _ :: _ :: _ :: W1) ?_))
 refine l_nil (q_draw (sL [3, 2, 1, 0]) (dR 20 R (vz (.agg [(sc A10 r8 D10), (.slice none 0 0), (iv k1.Store.Buffer), (iv k1.Store.Offset), (sc A13 r11 D13), (.bool k1.Sum), (sc A16 (([] : List Calc) ++ k1.Code) D16)].toArray) (v_build pl127 zc127 R R)) (hS := (sL [3, 2, 1, 0])) (d_one 22 (by kernel_rfl) R (l_stores 3 R R sz127 R R R R R R (lN (_ :: _ :: _ :: bxl b17 [(sc A10 r8 D10), (.slice none 0 0), (iv k1.Store.Buffer), (iv k1.Store.Offset), (sc A13 r11 D13), (.bool k1.Sum), (sc A16 (([] : List Calc) ++ k1.Code) D16)] 127 :: _ :: W1) ?_)))))
 refine l_nil (q_draw (sL [3, 2, 1, 0]) (d_done (by kernel_rfl) ?_))
 exact q_join ((), (b17, (A10, r8.length, D10), (A13, r11.length, D13), (A16, (([] : List Calc) ++ k1.Code).length, D16))) trivial (aS R) (fun w s => (s.e 5 [4, 3, 2, 1, 0]))
 refine l_build (K := kT216) (xs := ([] : List Calc)) (vs := []) 0 R R sl125 sz216 zc216 R R R R R R ?_ R (fun A14 D14 => ?_)
 exact fun I h s => (mO216).list [] I h s
 refine lN (OO kT216 216 A14 D14 ([] : List Calc) :: bxl b17 [(.slice none 0 0), (.slice none 0 0), (iv 0), (iv 0), (.slice none 0 0), (.bool false), (.slice none 0 0)] 127 :: _ :: W1) ?_
 refine l_nil (q_draw (sL [1, 0]) (d_one 2 (by kernel_rfl) R (lM (RR kT3 A2 D2 k1.Loops :: _ :: _ :: _ :: W1) (fun w s => (s.d 4 R)) ?_)))
 refine lC 1 cb60 R (spec_l3Ints_ok hx9) R ?_
 rintro ⟨A10, N10, D10⟩
 refine lN (ow kT3 3 (.slice A10 N10 D10) r8 :: _ :: _ :: _ :: W1) ?_
 refine l_len 0 sees_ow ?_
 rintro rfl
 refine l_nil (q_draw (sL [2, 1, 0]) (d_one 12 (by kernel_rfl) R (lM (RR kT3 A4 D4 k1.Store.Steps :: _ :: _ :: _ :: _ :: W1) (fun w s => (s.d 7 R)) ?_)))
 refine lC 1 cb60 R (spec_l3Ints_ok hx12) R ?_
 rintro ⟨A13, N13, D13⟩
 refine lN (ow kT3 3 (.slice A13 N13 D13) r11 :: _ :: _ :: _ :: _ :: W1) ?_
 refine l_len 0 sees_ow ?_
 rintro rfl
 refine l_nil (q_draw (sL [3, 2, 1, 0]) (dR 13 R (vz (.agg [(iv k1.Store.Buffer), (iv k1.Store.Offset), (sc A13 r11 D13)].toArray) (v_build pl124 zc124 R R)) (hS := (sL [3, 2, 1, 0])) (d_one 19 (by kernel_rfl) R (lM (_ :: RR kT216 A5 D5 k1.Code :: _ :: _ :: _ :: _ :: W1) (fun w s => ((s.dup 9 R).mv 3)) ?_))))
 refine l_app (K := kT216) 5864062014805 R R sl125 sz216 by216 (Zr.zk zT216 zc216) R R R R R R (src_rd (Kind.iso_flat (Kind.pair_flat (Kind.scal_flat _ _) (Kind.pair_flat (Kind.scal_flat _ _) (Kind.scal_flat _ _))) _)) hg15 (fun A16 D16 => (lN (OO kT216 216 A16 D16 (([] : List Calc) ++ k1.Code) :: _ :: _ :: _ :: _ :: W1) ?_))
 refine l_nil (q_draw (sL [3, 2, 1, 0]) (dR 20 R (vz (.agg [(sc A10 r8 D10), (.slice none 0 0), (iv k1.Store.Buffer), (iv k1.Store.Offset), (sc A13 r11 D13), (.bool k1.Sum), (sc A16 (([] : List Calc) ++ k1.Code) D16)].toArray) (v_build pl127 zc127 R R)) (hS := (sL [3, 2, 1, 0])) (d_one 22 (by kernel_rfl) R (l_stores 3 R R sz127 R R R R R R (lN (_ :: _ :: _ :: bxl b17 [(sc A10 r8 D10), (.slice none 0 0), (iv k1.Store.Buffer), (iv k1.Store.Offset), (sc A13 r11 D13), (.bool k1.Sum), (sc A16 (([] : List Calc) ++ k1.Code) D16)] 127 :: _ :: W1) ?_)))))
 refine l_nil (q_draw (sL [3, 2, 1, 0]) (d_done (by kernel_rfl) ?_))
 exact q_join ((), (b17, (A10, r8.length, D10), (A13, r11.length, D13), (A16, (([] : List Calc) ++ k1.Code).length, D16))) trivial (aS R) (fun w s => (s.e 5 [4, 3, 2, 1, 0]))
 rintro ⟨_, ⟨b18, ⟨A19, N19, D19⟩, ⟨A20, N20, D20⟩, ⟨A21, N21, D21⟩⟩⟩ σ1 -
 refine q_len 2 sees_ow (fun (hn : N19 = r8.length) => ?_)
 subst hn
 refine q_len 3 sees_ow (fun (hn : N20 = r11.length) => ?_)
 subst hn
 refine q_len 4 sees_ow (fun (hn : N21 = (([] : List Calc) ++ k1.Code).length) => ?_)
 subst hn
 refine q_next (c_seq (c_cut (A := ((List Access)) × (HH)) (fun a => spec_l11CopyKernel_J1 k1 r8 r11 a.1 = some r) (fun a => [(2, (pt b7 0)), (3, (pt b18 0))]) (fun a => bxl b7 [(.slice none 0 0), (.slice none 0 0), (iv 0), (iv 0), (.slice none 0 0), (.bool false), (.slice none 0 0)] 127 :: bxl b18 [(sc A19 r8 D19), (.slice a.2.1 a.2.2.1 a.2.2.2), (iv k1.Store.Buffer), (iv k1.Store.Offset), (sc A20 r11 D20), (.bool k1.Sum), (sc A21 (([] : List Calc) ++ k1.Code) D21)] 127 :: OO kT3 3 A19 D19 r8 :: ow kT124 124 (.slice a.2.1 a.2.2.1 a.2.2.2) a.1 :: OO kT3 3 A20 D20 r11 :: OO kT216 216 A21 D21 (([] : List Calc) ++ k1.Code) :: W1) ?_ ?_))
 refine c_seq (c_region (lI R (l_nil (q_next (c_block ?_)))))
 obtain ⟨e1, hl1, hk1⟩ := bd hr
 refine c_loop (A := HH) hl1 (fun s a => [(1, (pt b6 0)), (2, (pt b7 0)), (3, (pt b18 0)), (4, (iv s.2))]) (fun s a => bxl b7 [(.slice none 0 0), (.slice none 0 0), (iv 0), (iv 0), (.slice none 0 0), (.bool false), (.slice none 0 0)] 127 :: bxl b18 [(sc A19 r8 D19), (.slice a.1 a.2.1 a.2.2), (iv k1.Store.Buffer), (iv k1.Store.Offset), (sc A20 r11 D20), (.bool k1.Sum), (sc A21 (([] : List Calc) ++ k1.Code) D21)] 127 :: OO kT3 3 A19 D19 r8 :: ow kT124 124 (.slice a.1 a.2.1 a.2.2) s.1 :: OO kT3 3 A20 D20 r11 :: OO kT216 216 A21 D21 (([] : List Calc) ++ k1.Code) :: W1) (none, 0, 0) (aS R) (fun w s => ((s.nilo kT124 124).e 6 [1, 2, 3, 0, 4, 5])) ?_
 rintro ⟨x33, i35⟩ ⟨A34, N34, D34⟩ σ1 out1 hr he1
 replace hr : spec_l11CopyKernel_L1 k1 x33 i35 = some out1 := hr
 unfold spec_l11CopyKernel_L1 at hr
 refine c_len 3 sees_ow (fun (hn : N34 = x33.length) => ?_)
 subst hn
 refine c_seq (c_seq (c_region (lI R (lO (vFa 1 fo127_1 R) (lO (vLd 6 ag122 R R R) (lO (v_len sl122 R) (lO (vLt R R) (l_nil (q_next ?_)))))))))
 rcases bif_ hr with ⟨hb36, hr⟩ | ⟨hb36, hr⟩
 refine c_true R hb36 (c_skip (q_next (c_seq (c_block ?_))))
 obtain ⟨hg37, hr⟩ := gd hr
 obtain ⟨r41, hx42, hr⟩ := bd hr
 obtain ⟨hg45, hr⟩ := gd hr
 refine c_some 8 sees_rd (show 0 < k1.Loads.length by have := hg37; omega) (fun g38 o39 ha => ?_)
 subst ha
 refine c_elem (K := kT124) 8 i35 dT124.dec R hg37.1 hg37.2 ?_
 rintro ⟨-, -, ⟨A40, D40⟩⟩
 refine cN (cl g38 (o39 + i35.toNat * 3) [(iv (ix k1.Loads i35).Buffer), (iv (ix k1.Loads i35).Offset), (sc A40 ((ix k1.Loads i35).Steps) D40)] :: RR kT3 A40 D40 ((ix k1.Loads i35).Steps) :: _ :: bxl b18 [(sc A19 r8 D19), (sc A34 x33 D34), (iv k1.Store.Buffer), (iv k1.Store.Offset), (sc A20 r11 D20), (.bool k1.Sum), (sc A21 (([] : List Calc) ++ k1.Code) D21)] 127 :: OO kT3 3 A19 D19 r8 :: OO kT124 124 A34 D34 x33 :: OO kT3 3 A20 D20 r11 :: OO kT216 216 A21 D21 (([] : List Calc) ++ k1.Code) :: W1) ?_
 refine cdr 23 [] mixo (fun ht hn => (dR 0 R (vFa 1 fo127_1 R) (dR 1 R (vLd 3 ag122 R R R) (dR 2 R (vFa 1 fo127_1 R) (dR 3 R (vLd 8 ag122 R R R) (dR 4 R (vI R) (dR 5 R (vIa sl122 sz124 R R hg37) (dR 6 R (vz (.pointer (some ⟨g38, o39 + i35.toNat * 3, none⟩)) (v_fa fo124_0 R R)) (dR 7 R (vz (iv (ix k1.Loads i35).Buffer) (v_lde (K := kT124) (fo := 0) (pr := fun x => (iv x.Buffer)) 10 i35 ag3 (dT124.leaf fun _ _ => R) sees_rd R hg37.1 hg37.2)) (dR 8 R (vFa 1 fo127_1 R) (dR 9 R (vLd 8 ag122 R R R) (dR 10 R (vI R) (dR 11 R (vIa sl122 sz124 R R hg37) (dR 12 R (vz (.pointer (some ⟨g38, o39 + i35.toNat * 3 + 1, none⟩)) (v_fa fo124_1 R R)) (dR 13 R (vz (iv (ix k1.Loads i35).Offset) (v_lde (K := kT124) (fo := 1) (pr := fun x => (iv x.Offset)) 10 i35 ag3 (dT124.leaf fun _ _ => R) sees_rd R hg37.1 hg37.2)) (dR 14 R (vFa 1 fo127_1 R) (dR 15 R (vLd 8 ag122 R R R) (dR 16 R (vI R) (dR 17 R (vIa sl122 sz124 R R hg37) (dR 18 R (vz (.pointer (some ⟨g38, o39 + i35.toNat * 3 + 2, none⟩)) (v_fa fo124_2 R R)) (dR 19 R (v_clf (fo := 2) 0 ag29 R R R) (d_one 20 (by kernel_rfl) R ?_))))))))))))))))))))))
 refine lM (_ :: _ :: _ :: _ :: _ :: _ :: _ :: _ :: _ :: W1) (fun w s => (s.d 1 R)) ?_
 refine lC 1 cb60 R (spec_l3Ints_ok hx42) R ?_
 rintro ⟨A43, N43, D43⟩
 refine lN (ow kT3 3 (.slice A43 N43 D43) r41 :: _ :: _ :: _ :: _ :: _ :: _ :: _ :: _ :: W1) ?_
 refine l_len 0 sees_ow ?_
 rintro rfl
 refine l_nil (q_draw (sL [0]) (dR 21 R (vz (.agg [(iv (ix k1.Loads i35).Buffer), (iv (ix k1.Loads i35).Offset), (sc A43 r41 D43)].toArray) (v_build pl124 zc124 R R)) (hS := (sL [0])) (d_one 22 (by kernel_rfl) R (l_build (K := kT124) (xs := ([(⟨(ix k1.Loads i35).Buffer, (ix k1.Loads i35).Offset, r41⟩ : Access)] : List Access)) (vs := [(.agg [(iv (ix k1.Loads i35).Buffer), (iv (ix k1.Loads i35).Offset), (sc A43 r41 D43)].toArray)]) 1 R R sl122 sz124 zc124 R R R R R R ?_ R (fun A44 D44 => ?_)))))
 exact fun I h s => (mO124).list [(((), (), (sc A43 r41 D43)), (⟨(ix k1.Loads i35).Buffer, (ix k1.Loads i35).Offset, r41⟩ : Access))] I h s
 refine lN (OO kT124 124 A44 D44 ([(⟨(ix k1.Loads i35).Buffer, (ix k1.Loads i35).Offset, r41⟩ : Access)] : List Access) :: _ :: _ :: _ :: _ :: _ :: _ :: _ :: _ :: W1) ?_
 refine l_nil (q_draw (sL [0]) (d_one 23 (by kernel_rfl) R (lM (ow _ _ _ _ :: ow _ _ _ _ :: cl _ _ _ :: rds _ _ _ :: bxl _ _ _ :: bxl _ _ _ :: ow _ _ _ _ :: ow _ _ _ _ :: ow _ _ _ _ :: W1) (fun w s => (s.f 9 [6, 1, 0, 6, 7, 2])) ?_)))
 refine l_app (K := kT124) 3518437208883 R R sl122 sz124 by124 (Zr.zk zT124 zc124) R R R R R R src_ow hg45 (fun A46 D46 => (lN (OO kT124 124 A46 D46 (x33 ++ ([(⟨(ix k1.Loads i35).Buffer, (ix k1.Loads i35).Offset, r41⟩ : Access)] : List Access)) :: _ :: _ :: _ :: _ :: _ :: _ :: _ :: W1) ?_))
 refine l_nil (q_last R (d_one 24 (by kernel_rfl) R (lO (vFa 1 fo127_1 R) (l_nil (q_last R (d_one 25 (by kernel_rfl) R (l_store 4 R R sz122 R R R R R (lN (_ :: _ :: _ :: _ :: bxl b18 [(sc A19 r8 D19), (sc A46 (x33 ++ ([(⟨(ix k1.Loads i35).Buffer, (ix k1.Loads i35).Offset, r41⟩ : Access)] : List Access)) D46), (iv k1.Store.Buffer), (iv k1.Store.Offset), (sc A20 r11 D20), (.bool k1.Sum), (sc A21 (([] : List Calc) ++ k1.Code) D21)] 127 :: _ :: _ :: _ :: W1) ?_))))))))
 refine l_nil (q_last R (d_done (by kernel_rfl) (q_blockn (q_next (c_region (lI R (lO (vAd R R) (lI R (l_nil ?_)))))))))
 obtain rfl := so hr
 exact qA (A46, (x33 ++ ([(⟨(ix k1.Loads i35).Buffer, (ix k1.Loads i35).Offset, r41⟩ : Access)] : List Access)).length, D46) (fun w s => (s.e 8 [3, 4, 5, 0, 6, 7]))
 refine c_false R hb36 (c_exit (q_exit ?_))
 obtain rfl := so hr
 obtain rfl := he1 _ R
 have hr := hk1
 refine q_exit (q_block ?_)
 exact qI (x33, (A34, x33.length, D34)) hr (fun w s => s)
 rintro ⟨x50, ⟨A51, N51, D51⟩⟩ σ1 hr
 replace hr : spec_l11CopyKernel_J1 k1 r8 r11 x50 = some r := hr
 unfold spec_l11CopyKernel_J1 at hr
 refine c_len 3 sees_ow (fun (hn : N51 = x50.length) => ?_)
 subst hn
 refine c_seq (c_region (lO (vz (.agg [(sc A19 r8 D19), (sc A51 x50 D51), (iv k1.Store.Buffer), (iv k1.Store.Offset), (sc A20 r11 D20), (.bool k1.Sum), (sc A21 (([] : List Calc) ++ k1.Code) D21)].toArray) (v_loadw 1 ag127 sz127 R R R R)) (l_stores 0 R R sz127 R R R R R R (lN (bxl b7 [(sc A19 r8 D19), (sc A51 x50 D51), (iv k1.Store.Buffer), (iv k1.Store.Offset), (sc A20 r11 D20), (.bool k1.Sum), (sc A21 (([] : List Calc) ++ k1.Code) D21)] 127 :: bxl b18 [(sc A19 r8 D19), (sc A51 x50 D51), (iv k1.Store.Buffer), (iv k1.Store.Offset), (sc A20 r11 D20), (.bool k1.Sum), (sc A21 (([] : List Calc) ++ k1.Code) D21)] 127 :: _ :: OO kT124 124 A51 D51 x50 :: _ :: _ :: W1) ?_))))
 refine l_nil (q_next (c_ret ?_))
 obtain rfl := so hr
 exact q_fin (vs := [(.agg [(sc A19 r8 D19), (sc A51 x50 D51), (iv k1.Store.Buffer), (iv k1.Store.Offset), (sc A20 r11 D20), (.bool k1.Sum), (sc A21 (([] : List Calc) ++ k1.Code) D21)].toArray)]) (.inl R) ((A19, r8.length, D19), (A51, x50.length, D51), (A20, r11.length, D20), (A21, (([] : List Calc) ++ k1.Code).length, D21)) R ⟨⟨0, b7, _, _, R, R, .inl ⟨ag127, sz127, R⟩⟩, trivial⟩ R (fun w s => (s.f 11 [2, 4]))
theorem spec_l11CopyNest_ok {l1 : Nest} {r : Nest} (hr : spec_l11CopyNest l1 = some r) :
 FnOk Try.prog 71 [(.agg [(.slice A2 N2 D2), (.slice A3 N3 D3), (.slice A4 N4 D4), (.slice A5 N5 D5), (.slice A6 N6 D6)].toArray)] [rds kT3 (.slice A2 N2 D2) l1.Sizes, rds kT3 (.slice A3 N3 D3) l1.Ins, rds kT159 (.slice A4 N4 D4) l1.Fixed, rds kT127 (.slice A5 N5 D5) l1.Kernels, rds kT3 (.slice A6 N6 D6) l1.Outs] (fun (h : HH × HH × HH × HH × HH) => ((.agg [(.slice h.1.1 h.1.2.1 h.1.2.2), (.slice h.2.1.1 h.2.1.2.1 h.2.1.2.2), (.slice h.2.2.1.1 h.2.2.1.2.1 h.2.2.1.2.2), (.slice h.2.2.2.1.1 h.2.2.2.1.2.1 h.2.2.2.1.2.2), (.slice h.2.2.2.2.1 h.2.2.2.2.2.1 h.2.2.2.2.2.2)].toArray), [ow kT3 3 (.slice h.1.1 h.1.2.1 h.1.2.2) r.Sizes, ow kT3 3 (.slice h.2.1.1 h.2.1.2.1 h.2.1.2.2) r.Ins, ow kT159 159 (.slice h.2.2.1.1 h.2.2.1.2.1 h.2.2.1.2.2) r.Fixed, ow kT127 127 (.slice h.2.2.2.1.1 h.2.2.2.1.2.1 h.2.2.2.1.2.2) r.Kernels, ow kT3 3 (.slice h.2.2.2.2.1 h.2.2.2.2.2.1 h.2.2.2.2.2.2) r.Outs])) := by
 unfold spec_l11CopyNest at hr
 refine fn_ok Try.func71 R 61 R R fun C V => ?_
 refine cN (_ :: _ :: _ :: _ :: _ :: V) ?_
 refine cL 0 sees_rd ?_
 rintro rfl
 refine cL 1 sees_rd ?_
 rintro rfl
 refine cL 2 sees_rd ?_
 rintro rfl
 refine cL 3 sees_rd ?_
 rintro rfl
 refine cL 4 sees_rd ?_
 rintro rfl
 let W0 : List HP := RR kT3 A2 D2 l1.Sizes :: RR kT3 A3 D3 l1.Ins :: RR kT159 A4 D4 l1.Fixed :: RR kT127 A5 D5 l1.Kernels :: RR kT3 A6 D6 l1.Outs :: V
 refine cN W0 ?_
 refine c_seq (c_region (lBx R (fun b7 => (l_alloc R R zc58 (fun b8 => (l_nil ?_))))))
 let W1 : List HP := bxl b7 [(sc A2 l1.Sizes D2), (sc A3 l1.Ins D3), (sc A4 l1.Fixed D4), (sc A5 l1.Kernels D5), (sc A6 l1.Outs D6)] 58 :: W0
 refine qN (_ :: W1) ?_
 refine q_next (c_seq ?_)
 obtain ⟨r9, hx10, hr⟩ := bd hr
 obtain ⟨r12, hx13, hr⟩ := bd hr
 obtain ⟨r15, hx16, hr⟩ := bd hr
 refine c_cutq (A := (Unit) × (Nat × HH × HH × HH)) (fun _ => True) (fun a => [(1, (pt b7 0)), (2, (pt b8 0)), (3, (pt a.2.1 0))]) (fun a => bxl b8 [(.slice none 0 0), (.slice none 0 0), (.slice none 0 0), (.slice none 0 0), (.slice none 0 0)] 58 :: bxl a.2.1 [(.slice a.2.2.1.1 a.2.2.1.2.1 a.2.2.1.2.2), (.slice a.2.2.2.1.1 a.2.2.2.1.2.1 a.2.2.2.1.2.2), (.slice none 0 0), (.slice none 0 0), (.slice a.2.2.2.2.1 a.2.2.2.2.2.1 a.2.2.2.2.2.2)] 58 :: ow kT3 3 (.slice a.2.2.1.1 a.2.2.1.2.1 a.2.2.1.2.2) r9 :: ow kT3 3 (.slice a.2.2.2.1.1 a.2.2.2.1.2.1 a.2.2.2.1.2.2) r12 :: ow kT3 3 (.slice a.2.2.2.2.1 a.2.2.2.2.2.1 a.2.2.2.2.2.2) r15 :: W1) ?_ ?_
 refine cdr 12 [] mixo (fun ht hn => (dR 0 R (vFa 0 fo58_0 R) (dR 1 R (vLd 1 ag29 R R R) (dR 3 R (vFa 1 fo58_1 R) (dR 4 R (vLd 1 ag29 R R R) (dR 6 R (vFa 4 fo58_4 R) (dR 7 R (vLd 1 ag29 R R R) (d_all [2, 10] (by kernel_rfl) R ⟨?_, ?_, trivial⟩))))))))
 refine lM (RR kT3 A2 D2 l1.Sizes :: _ :: W1) (fun w s => (s.d 2 R)) ?_
 refine lC 1 cb60 R (spec_l3Ints_ok hx10) R ?_
 rintro ⟨A11, N11, D11⟩
 refine lN (ow kT3 3 (.slice A11 N11 D11) r9 :: _ :: W1) ?_
 refine l_len 0 sees_ow ?_
 rintro rfl
 refine l_nil (q_draw (sL [0]) (d_all [5, 10] (by kernel_rfl) R ⟨?_, ?_, trivial⟩))
 refine lM (RR kT3 A3 D3 l1.Ins :: _ :: _ :: W1) (fun w s => (s.d 4 R)) ?_
 refine lC 1 cb60 R (spec_l3Ints_ok hx13) R ?_
 rintro ⟨A14, N14, D14⟩
 refine lN (ow kT3 3 (.slice A14 N14 D14) r12 :: _ :: _ :: W1) ?_
 refine l_len 0 sees_ow ?_
 rintro rfl
 refine l_nil (q_draw (sL [1, 0]) (d_all [8, 10] (by kernel_rfl) R ⟨?_, ?_, trivial⟩))
 refine lM (RR kT3 A6 D6 l1.Outs :: _ :: _ :: _ :: W1) (fun w s => (s.d 8 R)) ?_
 refine lC 1 cb60 R (spec_l3Ints_ok hx16) R ?_
 rintro ⟨A17, N17, D17⟩
 refine lN (ow kT3 3 (.slice A17 N17 D17) r15 :: _ :: _ :: _ :: W1) ?_
 refine l_len 0 sees_ow ?_
 rintro rfl
 refine l_nil (q_draw (sL [2, 1, 0]) (dR 9 R (vz (.agg [(sc A11 r9 D11), (sc A14 r12 D14), (.slice none 0 0), (.slice none 0 0), (sc A17 r15 D17)].toArray) (v_build pl58 zc58 R R)) (hS := (sL [2, 1, 0])) (d_one 10 (by kernel_rfl) R (l_alloc R R zc58 (fun b18 => (l_nil (q_draw (sL [3, 2, 1, 0]) (d_one 11 (by kernel_rfl) R (l_stores 0 R R sz58 R R R R R R (lN (bxl b18 [(sc A11 r9 D11), (sc A14 r12 D14), (.slice none 0 0), (.slice none 0 0), (sc A17 r15 D17)] 58 :: _ :: _ :: _ :: _ :: W1) ?_))))))))))
 refine l_nil (q_draw (sL [3, 2, 1, 0]) (d_done (by kernel_rfl) ?_))
 exact q_join ((), (b18, (A11, r9.length, D11), (A14, r12.length, D14), (A17, r15.length, D17))) trivial (aS R) (fun w s => (s.e 5 [4, 0, 3, 2, 1]))
 refine l_alloc R R zc58 (fun b18 => (l_nil (q_draw (sL [2, 1, 0]) (d_one 8 (by kernel_rfl) R (lM (RR kT3 A6 D6 l1.Outs :: _ :: _ :: _ :: _ :: W1) (fun w s => (s.d 9 R)) ?_)))))
 refine lC 1 cb60 R (spec_l3Ints_ok hx16) R ?_
 rintro ⟨A17, N17, D17⟩
 refine lN (ow kT3 3 (.slice A17 N17 D17) r15 :: _ :: _ :: _ :: _ :: W1) ?_
 refine l_len 0 sees_ow ?_
 rintro rfl
 refine l_nil (q_draw (sL [3, 2, 1, 0]) (dR 9 R (vz (.agg [(sc A11 r9 D11), (sc A14 r12 D14), (.slice none 0 0), (.slice none 0 0), (sc A17 r15 D17)].toArray) (v_build pl58 zc58 R R)) (hS := (sL [3, 2, 1, 0])) (d_one 11 (by kernel_rfl) R (l_stores 1 R R sz58 R R R R R R (lN (_ :: bxl b18 [(sc A11 r9 D11), (sc A14 r12 D14), (.slice none 0 0), (.slice none 0 0), (sc A17 r15 D17)] 58 :: _ :: _ :: _ :: W1) ?_)))))
 refine l_nil (q_draw (sL [3, 2, 1, 0]) (d_done (by kernel_rfl) ?_))
 exact q_join ((), (b18, (A11, r9.length, D11), (A14, r12.length, D14), (A17, r15.length, D17))) trivial (aS R) (fun w s => (s.e 5 [4, 1, 3, 2, 0]))
 refine l_alloc R R zc58 (fun b18 => (l_nil (q_draw (sL [1, 0]) (d_one 5 (by kernel_rfl) R (lM (RR kT3 A3 D3 l1.Ins :: _ :: _ :: _ :: W1) (fun w s => (s.d 5 R)) ?_)))))
 refine lC 1 cb60 R (spec_l3Ints_ok hx13) R ?_
 rintro ⟨A14, N14, D14⟩
 refine lN (ow kT3 3 (.slice A14 N14 D14) r12 :: _ :: _ :: _ :: W1) ?_
 refine l_len 0 sees_ow ?_
 rintro rfl
 refine l_nil (q_draw (sL [2, 1, 0]) (d_one 8 (by kernel_rfl) R (lM (RR kT3 A6 D6 l1.Outs :: _ :: _ :: _ :: _ :: W1) (fun w s => (s.d 9 R)) ?_)))
 refine lC 1 cb60 R (spec_l3Ints_ok hx16) R ?_
 rintro ⟨A17, N17, D17⟩
 refine lN (ow kT3 3 (.slice A17 N17 D17) r15 :: _ :: _ :: _ :: _ :: W1) ?_
 refine l_len 0 sees_ow ?_
 rintro rfl
 refine l_nil (q_draw (sL [3, 2, 1, 0]) (dR 9 R (vz (.agg [(sc A11 r9 D11), (sc A14 r12 D14), (.slice none 0 0), (.slice none 0 0), (sc A17 r15 D17)].toArray) (v_build pl58 zc58 R R)) (hS := (sL [3, 2, 1, 0])) (d_one 11 (by kernel_rfl) R (l_stores 2 R R sz58 R R R R R R (lN (_ :: _ :: bxl b18 [(sc A11 r9 D11), (sc A14 r12 D14), (.slice none 0 0), (.slice none 0 0), (sc A17 r15 D17)] 58 :: _ :: _ :: W1) ?_)))))
 refine l_nil (q_draw (sL [3, 2, 1, 0]) (d_done (by kernel_rfl) ?_))
 exact q_join ((), (b18, (A11, r9.length, D11), (A14, r12.length, D14), (A17, r15.length, D17))) trivial (aS R) (fun w s => (s.e 5 [4, 2, 3, 1, 0]))
 refine l_alloc R R zc58 (fun b18 => (l_nil (q_draw (sL [0]) (d_one 2 (by kernel_rfl) R (lM (RR kT3 A2 D2 l1.Sizes :: _ :: _ :: W1) (fun w s => (s.d 3 R)) ?_)))))
 refine lC 1 cb60 R (spec_l3Ints_ok hx10) R ?_
 rintro ⟨A11, N11, D11⟩
 refine lN (ow kT3 3 (.slice A11 N11 D11) r9 :: _ :: _ :: W1) ?_
 refine l_len 0 sees_ow ?_
 rintro rfl
 refine l_nil (q_draw (sL [1, 0]) (d_one 5 (by kernel_rfl) R (lM (RR kT3 A3 D3 l1.Ins :: _ :: _ :: _ :: W1) (fun w s => (s.d 5 R)) ?_)))
 refine lC 1 cb60 R (spec_l3Ints_ok hx13) R ?_
 rintro ⟨A14, N14, D14⟩
 refine lN (ow kT3 3 (.slice A14 N14 D14) r12 :: _ :: _ :: _ :: W1) ?_
 refine l_len 0 sees_ow ?_
 rintro rfl
 refine l_nil (q_draw (sL [2, 1, 0]) (d_one 8 (by kernel_rfl) R (lM (RR kT3 A6 D6 l1.Outs :: _ :: _ :: _ :: _ :: W1) (fun w s => (s.d 9 R)) ?_)))
 refine lC 1 cb60 R (spec_l3Ints_ok hx16) R ?_
 rintro ⟨A17, N17, D17⟩
 refine lN (ow kT3 3 (.slice A17 N17 D17) r15 :: _ :: _ :: _ :: _ :: W1) ?_
 refine l_len 0 sees_ow ?_
 rintro rfl
 refine l_nil (q_draw (sL [3, 2, 1, 0]) (dR 9 R (vz (.agg [(sc A11 r9 D11), (sc A14 r12 D14), (.slice none 0 0), (.slice none 0 0), (sc A17 r15 D17)].toArray) (v_build pl58 zc58 R R)) (hS := (sL [3, 2, 1, 0])) (d_one 11 (by kernel_rfl) R (l_stores 3 R R sz58 R R R R R R (lN (_ :: _ :: _ :: bxl b18 [(sc A11 r9 D11), (sc A14 r12 D14), (.slice none 0 0), (.slice none 0 0), (sc A17 r15 D17)] 58 :: _ :: W1) ?_)))))
 refine l_nil (q_draw (sL [3, 2, 1, 0]) (d_done (by kernel_rfl) ?_))
 exact q_join ((), (b18, (A11, r9.length, D11), (A14, r12.length, D14), (A17, r15.length, D17))) trivial (aS R) (fun w s => (s.e 5 [4, 3, 2, 1, 0]))
 rintro ⟨_, ⟨b19, ⟨A20, N20, D20⟩, ⟨A21, N21, D21⟩, ⟨A22, N22, D22⟩⟩⟩ σ1 -
 refine q_len 2 sees_ow (fun (hn : N20 = r9.length) => ?_)
 subst hn
 refine q_len 3 sees_ow (fun (hn : N21 = r12.length) => ?_)
 subst hn
 refine q_len 4 sees_ow (fun (hn : N22 = r15.length) => ?_)
 subst hn
 refine q_next (c_seq (c_cut (A := ((List Fix)) × (HH)) (fun a => spec_l11CopyNest_J1 l1 r9 r12 r15 a.1 = some r) (fun a => [(1, (pt b7 0)), (2, (pt b8 0)), (3, (pt b19 0))]) (fun a => bxl b8 [(.slice none 0 0), (.slice none 0 0), (.slice none 0 0), (.slice none 0 0), (.slice none 0 0)] 58 :: bxl b19 [(sc A20 r9 D20), (sc A21 r12 D21), (.slice a.2.1 a.2.2.1 a.2.2.2), (.slice none 0 0), (sc A22 r15 D22)] 58 :: OO kT3 3 A20 D20 r9 :: OO kT3 3 A21 D21 r12 :: ow kT159 159 (.slice a.2.1 a.2.2.1 a.2.2.2) a.1 :: OO kT3 3 A22 D22 r15 :: W1) ?_ ?_))
 refine c_seq (c_region (lI R (l_nil (q_next (c_block ?_)))))
 obtain ⟨e1, hl1, hk1⟩ := bd hr
 refine c_loop (A := HH) hl1 (fun s a => [(1, (pt b7 0)), (2, (pt b8 0)), (3, (pt b19 0)), (4, (iv s.2))]) (fun s a => bxl b8 [(.slice none 0 0), (.slice none 0 0), (.slice none 0 0), (.slice none 0 0), (.slice none 0 0)] 58 :: bxl b19 [(sc A20 r9 D20), (sc A21 r12 D21), (.slice a.1 a.2.1 a.2.2), (.slice none 0 0), (sc A22 r15 D22)] 58 :: OO kT3 3 A20 D20 r9 :: OO kT3 3 A21 D21 r12 :: ow kT159 159 (.slice a.1 a.2.1 a.2.2) s.1 :: OO kT3 3 A22 D22 r15 :: W1) (none, 0, 0) (aS R) (fun w s => ((s.nilo kT159 159).e 6 [1, 2, 3, 4, 0, 5])) ?_
 rintro ⟨x34, i36⟩ ⟨A35, N35, D35⟩ σ1 out1 hr he1
 replace hr : spec_l11CopyNest_L1 l1 x34 i36 = some out1 := hr
 unfold spec_l11CopyNest_L1 at hr
 refine c_len 4 sees_ow (fun (hn : N35 = x34.length) => ?_)
 subst hn
 refine c_seq (c_seq (c_region (lI R (lO (vFa 2 fo58_2 R) (lO (vLd 6 ag55 R R R) (lO (v_len sl55 R) (lO (vLt R R) (l_nil (q_next ?_)))))))))
 rcases bif_ hr with ⟨hb37, hr⟩ | ⟨hb37, hr⟩
 refine c_true R hb37 (c_skip (q_next (c_seq (c_block ?_))))
 obtain ⟨hg38, hr⟩ := gd hr
 obtain ⟨r42, hx43, hr⟩ := bd hr
 obtain ⟨hg46, hr⟩ := gd hr
 refine c_some 9 sees_rd (show 0 < l1.Fixed.length by have := hg38; omega) (fun g39 o40 ha => ?_)
 subst ha
 refine c_elem (K := kT159) 9 i36 dT159.dec R hg38.1 hg38.2 ?_
 rintro ⟨-, ⟨A41, D41⟩⟩
 refine cN (cl g39 (o40 + i36.toNat * 2) [(iv (ix l1.Fixed i36).Buffer), (sc A41 ((ix l1.Fixed i36).Data) D41)] :: RR kT3 A41 D41 ((ix l1.Fixed i36).Data) :: _ :: bxl b19 [(sc A20 r9 D20), (sc A21 r12 D21), (sc A35 x34 D35), (.slice none 0 0), (sc A22 r15 D22)] 58 :: OO kT3 3 A20 D20 r9 :: OO kT3 3 A21 D21 r12 :: OO kT159 159 A35 D35 x34 :: OO kT3 3 A22 D22 r15 :: W1) ?_
 refine cdr 17 [] mixo (fun ht hn => (dR 0 R (vFa 2 fo58_2 R) (dR 1 R (vLd 3 ag55 R R R) (dR 2 R (vFa 2 fo58_2 R) (dR 3 R (vLd 8 ag55 R R R) (dR 4 R (vI R) (dR 5 R (vIa sl55 sz159 R R hg38) (dR 6 R (vz (.pointer (some ⟨g39, o40 + i36.toNat * 2, none⟩)) (v_fa fo159_0 R R)) (dR 7 R (vz (iv (ix l1.Fixed i36).Buffer) (v_lde (K := kT159) (fo := 0) (pr := fun x => (iv x.Buffer)) 11 i36 ag3 (dT159.leaf fun _ _ => R) sees_rd R hg38.1 hg38.2)) (dR 8 R (vFa 2 fo58_2 R) (dR 9 R (vLd 8 ag55 R R R) (dR 10 R (vI R) (dR 11 R (vIa sl55 sz159 R R hg38) (dR 12 R (vz (.pointer (some ⟨g39, o40 + i36.toNat * 2 + 1, none⟩)) (v_fa fo159_1 R R)) (dR 13 R (v_clf (fo := 1) 0 ag29 R R R) (d_one 14 (by kernel_rfl) R (lM (_ :: _ :: _ :: _ :: _ :: _ :: _ :: _ :: _ :: W1) (fun w s => (s.d 1 R)) ?_)))))))))))))))))
 refine lC 1 cb60 R (spec_l3Ints_ok hx43) R ?_
 rintro ⟨A44, N44, D44⟩
 refine lN (ow kT3 3 (.slice A44 N44 D44) r42 :: _ :: _ :: _ :: _ :: _ :: _ :: _ :: _ :: W1) ?_
 refine l_len 0 sees_ow ?_
 rintro rfl
 refine l_nil (q_draw (sL [0]) (dR 15 R (vz (.agg [(iv (ix l1.Fixed i36).Buffer), (sc A44 r42 D44)].toArray) (v_build pl159 zc159 R R)) (hS := (sL [0])) (d_one 16 (by kernel_rfl) R (l_build (K := kT159) (xs := ([(⟨(ix l1.Fixed i36).Buffer, r42⟩ : Fix)] : List Fix)) (vs := [(.agg [(iv (ix l1.Fixed i36).Buffer), (sc A44 r42 D44)].toArray)]) 1 R R sl55 sz159 zc159 R R R R R R ?_ R (fun A45 D45 => ?_)))))
 exact fun I h s => (mO159).list [(((), (sc A44 r42 D44)), (⟨(ix l1.Fixed i36).Buffer, r42⟩ : Fix))] I h s
 refine lN (OO kT159 159 A45 D45 ([(⟨(ix l1.Fixed i36).Buffer, r42⟩ : Fix)] : List Fix) :: _ :: _ :: _ :: _ :: _ :: _ :: _ :: _ :: W1) ?_
 refine l_nil (q_draw (sL [0]) (d_one 17 (by kernel_rfl) R (lM (ow _ _ _ _ :: ow _ _ _ _ :: cl _ _ _ :: rds _ _ _ :: bxl _ _ _ :: bxl _ _ _ :: ow _ _ _ _ :: ow _ _ _ _ :: ow _ _ _ _ :: W1) (fun w s => (s.f 9 [7, 1, 0, 7, 8, 1])) ?_)))
 refine l_app (K := kT159) 4398046511104 R R sl55 sz159 by159 (Zr.zk zT159 zc159) R R R R R R src_ow hg46 (fun A47 D47 => (lN (OO kT159 159 A47 D47 (x34 ++ ([(⟨(ix l1.Fixed i36).Buffer, r42⟩ : Fix)] : List Fix)) :: _ :: _ :: _ :: _ :: _ :: _ :: _ :: W1) ?_))
 refine l_nil (q_last R (d_one 18 (by kernel_rfl) R (lO (vFa 2 fo58_2 R) (l_nil (q_last R (d_one 19 (by kernel_rfl) R (l_store 4 R R sz55 R R R R R (lN (_ :: _ :: _ :: _ :: bxl b19 [(sc A20 r9 D20), (sc A21 r12 D21), (sc A47 (x34 ++ ([(⟨(ix l1.Fixed i36).Buffer, r42⟩ : Fix)] : List Fix)) D47), (.slice none 0 0), (sc A22 r15 D22)] 58 :: _ :: _ :: _ :: W1) ?_))))))))
 refine l_nil (q_last R (d_done (by kernel_rfl) (q_blockn (q_next (c_region (lI R (lO (vAd R R) (lI R (l_nil ?_)))))))))
 obtain rfl := so hr
 exact qA (A47, (x34 ++ ([(⟨(ix l1.Fixed i36).Buffer, r42⟩ : Fix)] : List Fix)).length, D47) (fun w s => (s.e 8 [3, 4, 5, 6, 0, 7]))
 refine c_false R hb37 (c_exit (q_exit ?_))
 obtain rfl := so hr
 obtain rfl := he1 _ R
 have hr := hk1
 refine q_exit (q_block ?_)
 exact qI (x34, (A35, x34.length, D35)) hr (fun w s => s)
 rintro ⟨x51, ⟨A52, N52, D52⟩⟩ σ1 hr
 replace hr : spec_l11CopyNest_J1 l1 r9 r12 r15 x51 = some r := hr
 unfold spec_l11CopyNest_J1 at hr
 refine c_len 4 sees_ow (fun (hn : N52 = x51.length) => ?_)
 subst hn
 refine c_seq (c_cut (A := ((List Kernel)) × (HH)) (fun a => spec_l11CopyNest_J2 r9 r12 r15 x51 a.1 = some r) (fun a => [(2, (pt b8 0)), (3, (pt b19 0))]) (fun a => bxl b8 [(.slice none 0 0), (.slice none 0 0), (.slice none 0 0), (.slice none 0 0), (.slice none 0 0)] 58 :: bxl b19 [(sc A20 r9 D20), (sc A21 r12 D21), (sc A52 x51 D52), (.slice a.2.1 a.2.2.1 a.2.2.2), (sc A22 r15 D22)] 58 :: OO kT3 3 A20 D20 r9 :: OO kT3 3 A21 D21 r12 :: OO kT159 159 A52 D52 x51 :: ow kT127 127 (.slice a.2.1 a.2.2.1 a.2.2.2) a.1 :: OO kT3 3 A22 D22 r15 :: W1) ?_ ?_)
 refine c_seq (c_region (lI R (l_nil (q_next (c_block ?_)))))
 obtain ⟨e2, hl2, hk2⟩ := bd hr
 refine c_loop (A := HH) hl2 (fun s a => [(1, (pt b7 0)), (2, (pt b8 0)), (3, (pt b19 0)), (5, (iv s.2))]) (fun s a => bxl b8 [(.slice none 0 0), (.slice none 0 0), (.slice none 0 0), (.slice none 0 0), (.slice none 0 0)] 58 :: bxl b19 [(sc A20 r9 D20), (sc A21 r12 D21), (sc A52 x51 D52), (.slice a.1 a.2.1 a.2.2), (sc A22 r15 D22)] 58 :: OO kT3 3 A20 D20 r9 :: OO kT3 3 A21 D21 r12 :: OO kT159 159 A52 D52 x51 :: ow kT127 127 (.slice a.1 a.2.1 a.2.2) s.1 :: OO kT3 3 A22 D22 r15 :: W1) (none, 0, 0) (aS R) (fun w s => ((s.nilo kT127 127).f 7 [1, 5, 0, 1, 6, 1])) ?_
 rintro ⟨x70, i72⟩ ⟨A71, N71, D71⟩ σ1 out2 hr he2
 replace hr : spec_l11CopyNest_L2 l1 x70 i72 = some out2 := hr
 unfold spec_l11CopyNest_L2 at hr
 refine c_len 5 sees_ow (fun (hn : N71 = x70.length) => ?_)
 subst hn
 refine c_seq (c_seq (c_region (lI R (lO (vFa 3 fo58_3 R) (lO (vLd 7 ag56 R R R) (lO (v_len sl56 R) (lO (vLt R R) (l_nil (q_next ?_)))))))))
 rcases bif_ hr with ⟨hb73, hr⟩ | ⟨hb73, hr⟩
 refine c_true R hb73 (c_skip (q_next (c_seq (c_block ?_))))
 obtain ⟨hg74, hr⟩ := gd hr
 obtain ⟨r81, hx82, hr⟩ := bd hr
 obtain ⟨hg88, hr⟩ := gd hr
 refine c_some 11 sees_rd (show 0 < l1.Kernels.length by have := hg74; omega) (fun g75 o76 ha => ?_)
 subst ha
 refine c_elem (K := kT127) 11 i72 dT127.dec R hg74.1 hg74.2 ?_
 rintro ⟨⟨A77, D77⟩, ⟨A78, D78⟩, ⟨-, -, ⟨A79, D79⟩⟩, -, ⟨A80, D80⟩⟩
 refine cN (cl g75 (o76 + i72.toNat * 7) [(sc A77 ((ix l1.Kernels i72).Loops) D77), (sc A78 ((ix l1.Kernels i72).Loads) D78), (iv (ix l1.Kernels i72).Store.Buffer), (iv (ix l1.Kernels i72).Store.Offset), (sc A79 ((ix l1.Kernels i72).Store.Steps) D79), (.bool (ix l1.Kernels i72).Sum), (sc A80 ((ix l1.Kernels i72).Code) D80)] :: RR kT3 A77 D77 ((ix l1.Kernels i72).Loops) :: RR kT124 A78 D78 ((ix l1.Kernels i72).Loads) :: RR kT3 A79 D79 ((ix l1.Kernels i72).Store.Steps) :: RR kT216 A80 D80 ((ix l1.Kernels i72).Code) :: _ :: bxl b19 [(sc A20 r9 D20), (sc A21 r12 D21), (sc A52 x51 D52), (sc A71 x70 D71), (sc A22 r15 D22)] 58 :: _ :: _ :: OO kT159 159 A52 D52 x51 :: OO kT127 127 A71 D71 x70 :: _ :: W1) ?_
 refine cdr 9 [] mixo (fun ht hn => (dR 0 R (vFa 3 fo58_3 R) (dR 1 R (vLd 6 ag56 R R R) (dR 2 R (vFa 3 fo58_3 R) (dR 3 R (vLd 12 ag56 R R R) (dR 4 R (vI R) (dR 5 R (vIa sl56 sz127 R R hg74) (dR 6 R (vz (.agg [(sc A77 ((ix l1.Kernels i72).Loops) D77), (sc A78 ((ix l1.Kernels i72).Loads) D78), (iv (ix l1.Kernels i72).Store.Buffer), (iv (ix l1.Kernels i72).Store.Offset), (sc A79 ((ix l1.Kernels i72).Store.Steps) D79), (.bool (ix l1.Kernels i72).Sum), (sc A80 ((ix l1.Kernels i72).Code) D80)].toArray) (v_clfs (fo := 0) 0 ag127 sz127 R R R R)) (d_one 7 (by kernel_rfl) R (lM (rds _ _ _ :: rds _ _ _ :: rds _ _ _ :: rds _ _ _ :: cl _ _ _ :: rds _ _ _ :: rds _ _ _ :: rds _ _ _ :: rds _ _ _ :: bxl _ _ _ :: bxl _ _ _ :: ow _ _ _ _ :: ow _ _ _ _ :: ow _ _ _ _ :: ow _ _ _ _ :: ow _ _ _ _ :: W1) (fun w s => (((((s.d 1 R).d 3 R).d 5 R).d 7 R).f 16 [3, 1, 2, 1, 1, 1, 0, 1, 4, 12])) ?_))))))))))
 refine lC 4 cb126 R (spec_l11CopyKernel_ok hx82) R ?_
 rintro ⟨⟨A83, N83, D83⟩, ⟨A84, N84, D84⟩, ⟨A85, N85, D85⟩, ⟨A86, N86, D86⟩⟩
 refine lN (ow kT3 3 (.slice A83 N83 D83) r81.Loops :: ow kT124 124 (.slice A84 N84 D84) r81.Loads :: ow kT3 3 (.slice A85 N85 D85) r81.Store.Steps :: ow kT216 216 (.slice A86 N86 D86) r81.Code :: _ :: _ :: _ :: _ :: _ :: _ :: _ :: _ :: _ :: _ :: _ :: _ :: W1) ?_
 refine l_len 0 sees_ow ?_
 rintro rfl
 refine l_len 1 sees_ow ?_
 rintro rfl
 refine l_len 2 sees_ow ?_
 rintro rfl
 refine l_len 3 sees_ow ?_
 rintro rfl
 refine l_nil (q_draw (sL [3, 2, 1, 0]) (d_one 8 (by kernel_rfl) R (l_build (K := kT127) (xs := ([r81] : List Kernel)) (vs := [(.agg [(sc A83 r81.Loops D83), (sc A84 r81.Loads D84), (iv r81.Store.Buffer), (iv r81.Store.Offset), (sc A85 r81.Store.Steps D85), (.bool r81.Sum), (sc A86 r81.Code D86)].toArray)]) 4 R R sl56 sz127 zc127 R R R R R R ?_ R (fun A87 D87 => ?_))))
 exact fun I h s => (mO127).list [(((sc A83 r81.Loops D83), (sc A84 r81.Loads D84), ((), (), (sc A85 r81.Store.Steps D85)), (), (sc A86 r81.Code D86)), r81)] I h s
 refine lN (OO kT127 127 A87 D87 ([r81] : List Kernel) :: _ :: _ :: _ :: _ :: _ :: _ :: _ :: _ :: _ :: _ :: _ :: _ :: W1) ?_
 refine l_nil (q_draw (sL [0]) (d_one 9 (by kernel_rfl) R (lM (ow _ _ _ _ :: ow _ _ _ _ :: cl _ _ _ :: rds _ _ _ :: rds _ _ _ :: rds _ _ _ :: rds _ _ _ :: bxl _ _ _ :: bxl _ _ _ :: ow _ _ _ _ :: ow _ _ _ _ :: ow _ _ _ _ :: ow _ _ _ _ :: W1) (fun w s => (s.f 13 [11, 1, 0, 11, 12, 1])) ?_)))
 refine l_app (K := kT127) 1172812402961 R R sl56 sz127 by127 (Zr.zk zT127 zc127) R R R R R R src_ow hg88 (fun A89 D89 => (lN (OO kT127 127 A89 D89 (x70 ++ ([r81] : List Kernel)) :: _ :: _ :: _ :: _ :: _ :: _ :: _ :: _ :: _ :: _ :: _ :: W1) ?_))
 refine l_nil (q_last R (d_one 10 (by kernel_rfl) R (lO (vFa 3 fo58_3 R) (l_nil (q_last R (d_one 11 (by kernel_rfl) R (l_store 7 R R sz56 R R R R R (lN (_ :: _ :: _ :: _ :: _ :: _ :: _ :: bxl b19 [(sc A20 r9 D20), (sc A21 r12 D21), (sc A52 x51 D52), (sc A89 (x70 ++ ([r81] : List Kernel)) D89), (sc A22 r15 D22)] 58 :: _ :: _ :: _ :: _ :: W1) ?_))))))))
 refine l_nil (q_last R (d_done (by kernel_rfl) (q_blockn (q_next (c_region (lI R (lO (vAd R R) (lI R (l_nil ?_)))))))))
 obtain rfl := so hr
 exact qA (A89, (x70 ++ ([r81] : List Kernel)).length, D89) (fun w s => (s.f 12 [6, 5, 0, 1, 11, 1]))
 refine c_false R hb73 (c_exit (q_exit ?_))
 obtain rfl := so hr
 obtain rfl := he2 _ R
 have hr := hk2
 refine q_exit (q_block ?_)
 exact qI (x70, (A71, x70.length, D71)) hr (fun w s => s)
 rintro ⟨x93, ⟨A94, N94, D94⟩⟩ σ1 hr
 replace hr : spec_l11CopyNest_J2 r9 r12 r15 x51 x93 = some r := hr
 unfold spec_l11CopyNest_J2 at hr
 refine c_len 5 sees_ow (fun (hn : N94 = x93.length) => ?_)
 subst hn
 refine c_seq (c_region (lO (vz (.agg [(sc A20 r9 D20), (sc A21 r12 D21), (sc A52 x51 D52), (sc A94 x93 D94), (sc A22 r15 D22)].toArray) (v_loadw 1 ag58 sz58 R R R R)) (l_stores 0 R R sz58 R R R R R R (lN (bxl b8 [(sc A20 r9 D20), (sc A21 r12 D21), (sc A52 x51 D52), (sc A94 x93 D94), (sc A22 r15 D22)] 58 :: bxl b19 [(sc A20 r9 D20), (sc A21 r12 D21), (sc A52 x51 D52), (sc A94 x93 D94), (sc A22 r15 D22)] 58 :: _ :: _ :: _ :: OO kT127 127 A94 D94 x93 :: _ :: W1) ?_))))
 refine l_nil (q_next (c_ret ?_))
 obtain rfl := so hr
 exact q_fin (vs := [(.agg [(sc A20 r9 D20), (sc A21 r12 D21), (sc A52 x51 D52), (sc A94 x93 D94), (sc A22 r15 D22)].toArray)]) (.inl R) ((A20, r9.length, D20), (A21, r12.length, D21), (A52, x51.length, D52), (A94, x93.length, D94), (A22, r15.length, D22)) R ⟨⟨0, b8, _, _, R, R, .inl ⟨ag58, sz58, R⟩⟩, trivial⟩ R (fun w s => (s.f 13 [2, 5]))
theorem spec_Fuse_ok {l1 : Nest} {r : Nest} (hr : spec_Fuse l1 = some r) :
 FnOk Try.prog 23 [(.agg [(.slice A2 N2 D2), (.slice A3 N3 D3), (.slice A4 N4 D4), (.slice A5 N5 D5), (.slice A6 N6 D6)].toArray)] [rds kT3 (.slice A2 N2 D2) l1.Sizes, rds kT3 (.slice A3 N3 D3) l1.Ins, rds kT159 (.slice A4 N4 D4) l1.Fixed, rds kT127 (.slice A5 N5 D5) l1.Kernels, rds kT3 (.slice A6 N6 D6) l1.Outs] (fun (h : HH × HH × HH × HH × HH) => ((.agg [(.slice h.1.1 h.1.2.1 h.1.2.2), (.slice h.2.1.1 h.2.1.2.1 h.2.1.2.2), (.slice h.2.2.1.1 h.2.2.1.2.1 h.2.2.1.2.2), (.slice h.2.2.2.1.1 h.2.2.2.1.2.1 h.2.2.2.1.2.2), (.slice h.2.2.2.2.1 h.2.2.2.2.2.1 h.2.2.2.2.2.2)].toArray), [ow kT3 3 (.slice h.1.1 h.1.2.1 h.1.2.2) r.Sizes, ow kT3 3 (.slice h.2.1.1 h.2.1.2.1 h.2.1.2.2) r.Ins, ow kT159 159 (.slice h.2.2.1.1 h.2.2.1.2.1 h.2.2.1.2.2) r.Fixed, ow kT127 127 (.slice h.2.2.2.1.1 h.2.2.2.1.2.1 h.2.2.2.1.2.2) r.Kernels, ow kT3 3 (.slice h.2.2.2.2.1 h.2.2.2.2.2.1 h.2.2.2.2.2.2) r.Outs])) := by
 unfold spec_Fuse at hr
 refine fn_ok Try.func23 R 27 R R fun C V => ?_
 refine cN (_ :: _ :: _ :: _ :: _ :: V) ?_
 refine cL 0 sees_rd ?_
 rintro rfl
 refine cL 1 sees_rd ?_
 rintro rfl
 refine cL 2 sees_rd ?_
 rintro rfl
 refine cL 3 sees_rd ?_
 rintro rfl
 refine cL 4 sees_rd ?_
 rintro rfl
 let W0 : List HP := RR kT3 A2 D2 l1.Sizes :: RR kT3 A3 D3 l1.Ins :: RR kT159 A4 D4 l1.Fixed :: RR kT127 A5 D5 l1.Kernels :: RR kT3 A6 D6 l1.Outs :: V
 refine cN W0 ?_
 refine c_seq (c_region (lBx R (fun b7 => (l_alloc R R zc58 (fun b8 => (l_nil (q_next (c_seq (c_seq ?_)))))))))
 obtain ⟨r9, hx10, hr⟩ := bd hr
 refine c_region (lO (vz (.agg [(sc A2 l1.Sizes D2), (sc A3 l1.Ins D3), (sc A4 l1.Fixed D4), (sc A5 l1.Kernels D5), (sc A6 l1.Outs D6)].toArray) (v_loadw 1 ag58 sz58 R R R R)) (lM (RR kT3 A2 D2 l1.Sizes :: RR kT3 A3 D3 l1.Ins :: RR kT159 A4 D4 l1.Fixed :: RR kT127 A5 D5 l1.Kernels :: RR kT3 A6 D6 l1.Outs :: bxl _ _ _ :: bxl _ _ _ :: W0) (fun w s => ((((((s.d 2 R).d 4 R).d 6 R).d 8 R).d 10 R).e 7 [4, 3, 2, 1, 0, 5, 6])) ?_))
 refine lC 5 cb69 R (spec_NestOk_ok hx10) R ?_
 rintro _
 refine lN (_ :: _ :: W0) ?_
 refine lO (vNo R) (l_nil (q_next ?_))
 rcases bif_ hr with ⟨hb11, hr⟩ | ⟨hb11, hr⟩
 refine c_true R hb11 (c_seq (c_region (lO (vz (.agg [(.slice none 0 0), (.slice none 0 0), (.slice none 0 0), (.slice none 0 0), (.slice none 0 0)].toArray) (v_build pl58 zc58 R R)) (l_stores 0 R R sz58 R R R R R R (l_nil (q_next (c_ret (q_ret ?_))))))))
 obtain rfl := so hr
 exact q_fin (vs := [(.agg [(.slice none 0 0), (.slice none 0 0), (.slice none 0 0), (.slice none 0 0), (.slice none 0 0)].toArray)]) (.inl R) ((none, 0, 0), (none, 0, 0), (none, 0, 0), (none, 0, 0), (none, 0, 0)) R ⟨⟨0, b8, _, _, R, R, .inl ⟨ag58, sz58, R⟩⟩, trivial⟩ R (fun w s => ((((((s.nilo kT3 3).nilo kT3 3).nilo kT159 159).nilo kT127 127).nilo kT3 3).e 12 [4, 3, 2, 1, 0]))
 refine c_false R hb11 (c_skip (q_next (c_seq (c_cut (A := ((List Int) × (List Int) × (List Fix) × (List Kernel) × (List Int)) × (HH × HH × HH × HH × HH)) (fun a => spec_Fuse_J1 a.1.1 a.1.2.1 a.1.2.2.1 a.1.2.2.2.1 a.1.2.2.2.2 = some r) (fun a => [(1, (pt b7 0)), (2, (pt b8 0))]) (fun a => bxl b7 [(.slice a.2.1.1 a.2.1.2.1 a.2.1.2.2), (.slice a.2.2.1.1 a.2.2.1.2.1 a.2.2.1.2.2), (.slice a.2.2.2.1.1 a.2.2.2.1.2.1 a.2.2.2.1.2.2), (.slice a.2.2.2.2.1.1 a.2.2.2.2.1.2.1 a.2.2.2.2.1.2.2), (.slice a.2.2.2.2.2.1 a.2.2.2.2.2.2.1 a.2.2.2.2.2.2.2)] 58 :: rds kT3 (.slice a.2.1.1 a.2.1.2.1 a.2.1.2.2) a.1.1 :: rds kT3 (.slice a.2.2.1.1 a.2.2.1.2.1 a.2.2.1.2.2) a.1.2.1 :: rds kT159 (.slice a.2.2.2.1.1 a.2.2.2.1.2.1 a.2.2.2.1.2.2) a.1.2.2.1 :: rds kT127 (.slice a.2.2.2.2.1.1 a.2.2.2.2.1.2.1 a.2.2.2.2.1.2.2) a.1.2.2.2.1 :: rds kT3 (.slice a.2.2.2.2.2.1 a.2.2.2.2.2.2.1 a.2.2.2.2.2.2.2) a.1.2.2.2.2 :: bxl b8 [(.slice none 0 0), (.slice none 0 0), (.slice none 0 0), (.slice none 0 0), (.slice none 0 0)] 58 :: W0) ?_ ?_))))
 refine c_seq (c_region (lI R (l_nil (q_next (c_block ?_)))))
 obtain ⟨e1, hl1, hk1⟩ := bd hr
 refine c_loop (A := HH × HH × HH × HH × HH) hl1 (fun s a => [(1, (pt b7 0)), (2, (pt b8 0)), (3, (iv s.2.2.2.2.2))]) (fun s a => bxl b7 [(.slice a.1.1 a.1.2.1 a.1.2.2), (.slice a.2.1.1 a.2.1.2.1 a.2.1.2.2), (.slice a.2.2.1.1 a.2.2.1.2.1 a.2.2.1.2.2), (.slice a.2.2.2.1.1 a.2.2.2.1.2.1 a.2.2.2.1.2.2), (.slice a.2.2.2.2.1 a.2.2.2.2.2.1 a.2.2.2.2.2.2)] 58 :: rds kT3 (.slice a.1.1 a.1.2.1 a.1.2.2) s.1 :: rds kT3 (.slice a.2.1.1 a.2.1.2.1 a.2.1.2.2) s.2.1 :: rds kT159 (.slice a.2.2.1.1 a.2.2.1.2.1 a.2.2.1.2.2) s.2.2.1 :: rds kT127 (.slice a.2.2.2.1.1 a.2.2.2.1.2.1 a.2.2.2.1.2.2) s.2.2.2.1 :: rds kT3 (.slice a.2.2.2.2.1 a.2.2.2.2.2.1 a.2.2.2.2.2.2) s.2.2.2.2.1 :: bxl b8 [(.slice none 0 0), (.slice none 0 0), (.slice none 0 0), (.slice none 0 0), (.slice none 0 0)] 58 :: W0) ((A2, l1.Sizes.length, D2), (A3, l1.Ins.length, D3), (A4, l1.Fixed.length, D4), (A5, l1.Kernels.length, D5), (A6, l1.Outs.length, D6)) (aS R) (fun w s => ((((((s.d 2 R).d 4 R).d 6 R).d 8 R).d 10 R).e 7 [6, 4, 3, 2, 1, 0, 5])) ?_
 rintro ⟨l22, l24, l26, l28, l30, x32⟩ ⟨⟨A23, N23, D23⟩, ⟨A25, N25, D25⟩, ⟨A27, N27, D27⟩, ⟨A29, N29, D29⟩, ⟨A31, N31, D31⟩⟩ σ1 out1 hr he1
 replace hr : spec_Fuse_L1 l22 l24 l26 l28 l30 x32 = some out1 := hr
 unfold spec_Fuse_L1 at hr
 refine c_len 1 sees_rd (fun (hn : N23 = l22.length) => ?_)
 subst hn
 refine c_len 2 sees_rd (fun (hn : N25 = l24.length) => ?_)
 subst hn
 refine c_len 3 sees_rd (fun (hn : N27 = l26.length) => ?_)
 subst hn
 refine c_len 4 sees_rd (fun (hn : N29 = l28.length) => ?_)
 subst hn
 refine c_len 5 sees_rd (fun (hn : N31 = l30.length) => ?_)
 subst hn
 refine c_seq (c_seq (c_region (lI R (lO (vFa 3 fo58_3 R) (lO (vLd 0 ag56 R R R) (lO (v_len sl56 R) (lO (vLt R R) (l_nil (q_next ?_)))))))))
 rcases bif_ hr with ⟨hb33, hr⟩ | ⟨hb33, hr⟩
 refine c_true R hb33 (c_skip (q_next (c_block (c_seq ?_))))
 obtain ⟨r34, hx35, hr⟩ := bd hr
 refine c_region (lO (vz (.agg [(sc A23 l22 D23), (sc A25 l24 D25), (sc A27 l26 D27), (sc A29 l28 D29), (sc A31 l30 D31)].toArray) (v_loadw 0 ag58 sz58 R R R R)) (lI R (lM (RR kT3 A23 D23 l22 :: RR kT3 A25 D25 l24 :: RR kT159 A27 D27 l26 :: RR kT127 A29 D29 l28 :: RR kT3 A31 D31 l30 :: bxl b7 [(sc A23 l22 D23), (sc A25 l24 D25), (sc A27 l26 D27), (sc A29 l28 D29), (sc A31 l30 D31)] 58 :: RR kT3 A23 D23 l22 :: RR kT3 A25 D25 l24 :: RR kT159 A27 D27 l26 :: RR kT127 A29 D29 l28 :: RR kT3 A31 D31 l30 :: bxl _ _ _ :: W0) (fun w s => ((((((s.d 1 R).d 3 R).d 5 R).d 7 R).d 9 R).e 12 [4, 3, 2, 1, 0, 5, 6, 7, 8, 9, 10, 11])) ?_)))
 refine lC 5 cb70 R (spec_l11Try_ok hx35) R ?_
 rintro ⟨⟨A36, N36, D36⟩, ⟨A37, N37, D37⟩, ⟨A38, N38, D38⟩, ⟨A39, N39, D39⟩, ⟨A40, N40, D40⟩⟩
 refine lN (rds kT3 (.slice A36 N36 D36) r34.1.Sizes :: rds kT3 (.slice A37 N37 D37) r34.1.Ins :: rds kT159 (.slice A38 N38 D38) r34.1.Fixed :: rds kT127 (.slice A39 N39 D39) r34.1.Kernels :: rds kT3 (.slice A40 N40 D40) r34.1.Outs :: _ :: _ :: _ :: _ :: _ :: _ :: _ :: W0) ?_
 refine l_len 0 sees_rd ?_
 rintro rfl
 refine l_len 1 sees_rd ?_
 rintro rfl
 refine l_len 2 sees_rd ?_
 rintro rfl
 refine l_len 3 sees_rd ?_
 rintro rfl
 refine l_len 4 sees_rd ?_
 rintro rfl
 refine lO (vT R) (lO (vA R) (lB R (l_alloc R R zc58 (fun b41 => (l_stores 0 R R sz58 R R R R R R (lN (bxl b41 [(sc A36 r34.1.Sizes D36), (sc A37 r34.1.Ins D37), (sc A38 r34.1.Fixed D38), (sc A39 r34.1.Kernels D39), (sc A40 r34.1.Outs D40)] 58 :: _ :: _ :: _ :: _ :: _ :: _ :: _ :: _ :: _ :: _ :: _ :: _ :: W0) ?_))))))
 refine lB R (l_nil (q_next (c_seq (c_region (lB R (l_nil (q_next ?_)))))))
 rcases bif_ hr with ⟨hb42, hr⟩ | ⟨hb42, hr⟩
 refine c_true R hb42 (c_seq (c_region (lO (vz (.agg [(sc A36 r34.1.Sizes D36), (sc A37 r34.1.Ins D37), (sc A38 r34.1.Fixed D38), (sc A39 r34.1.Kernels D39), (sc A40 r34.1.Outs D40)].toArray) (v_loadw 0 ag58 sz58 R R R R)) (l_stores 6 R R sz58 R R R R R R (lN (_ :: _ :: _ :: _ :: _ :: _ :: bxl b7 [(sc A36 r34.1.Sizes D36), (sc A37 r34.1.Ins D37), (sc A38 r34.1.Fixed D38), (sc A39 r34.1.Kernels D39), (sc A40 r34.1.Outs D40)] 58 :: _ :: _ :: _ :: _ :: _ :: _ :: W0) ?_)))))
 refine l_nil (q_next (c_region (lI R (l_nil (q_blockn ?_)))))
 obtain rfl := so hr
 exact qA ((A36, r34.1.Sizes.length, D36), (A37, r34.1.Ins.length, D37), (A38, r34.1.Fixed.length, D38), (A39, r34.1.Kernels.length, D39), (A40, r34.1.Outs.length, D40)) (fun w s => (s.f 13 [6, 1, 1, 5, 12, 1]))
 refine c_false R hb42 (c_region (lI R (lO (vAd R R) (lI R (l_nil (q_blockn ?_))))))
 obtain rfl := so hr
 exact qA ((A23, l22.length, D23), (A25, l24.length, D25), (A27, l26.length, D27), (A29, l28.length, D29), (A31, l30.length, D31)) (fun w s => (s.f 13 [6, 7]))
 refine c_false R hb33 (c_exit (q_exit ?_))
 obtain rfl := so hr
 obtain rfl := he1 _ R
 have hr := hk1
 refine q_exit (q_block ?_)
 exact qI ((l22, l24, l26, l28, l30), ((A23, l22.length, D23), (A25, l24.length, D25), (A27, l26.length, D27), (A29, l28.length, D29), (A31, l30.length, D31))) hr (fun w s => s)
 rintro ⟨⟨l54, l56, l58, l60, l62⟩, ⟨⟨A55, N55, D55⟩, ⟨A57, N57, D57⟩, ⟨A59, N59, D59⟩, ⟨A61, N61, D61⟩, ⟨A63, N63, D63⟩⟩⟩ σ1 hr
 replace hr : spec_Fuse_J1 l54 l56 l58 l60 l62 = some r := hr
 unfold spec_Fuse_J1 at hr
 refine c_len 1 sees_rd (fun (hn : N55 = l54.length) => ?_)
 subst hn
 refine c_len 2 sees_rd (fun (hn : N57 = l56.length) => ?_)
 subst hn
 refine c_len 3 sees_rd (fun (hn : N59 = l58.length) => ?_)
 subst hn
 refine c_len 4 sees_rd (fun (hn : N61 = l60.length) => ?_)
 subst hn
 refine c_len 5 sees_rd (fun (hn : N63 = l62.length) => ?_)
 subst hn
 refine c_seq ?_
 obtain ⟨r64, hx65, hr⟩ := bd hr
 refine c_region (lO (vz (.agg [(sc A55 l54 D55), (sc A57 l56 D57), (sc A59 l58 D59), (sc A61 l60 D61), (sc A63 l62 D63)].toArray) (v_loadw 0 ag58 sz58 R R R R)) (lM (RR kT3 A55 D55 l54 :: RR kT3 A57 D57 l56 :: RR kT159 A59 D59 l58 :: RR kT127 A61 D61 l60 :: RR kT3 A63 D63 l62 :: bxl b7 [(sc A55 l54 D55), (sc A57 l56 D57), (sc A59 l58 D59), (sc A61 l60 D61), (sc A63 l62 D63)] 58 :: RR kT3 A55 D55 l54 :: RR kT3 A57 D57 l56 :: RR kT159 A59 D59 l58 :: RR kT127 A61 D61 l60 :: RR kT3 A63 D63 l62 :: bxl _ _ _ :: W0) (fun w s => ((((((s.d 1 R).d 3 R).d 5 R).d 7 R).d 9 R).e 12 [4, 3, 2, 1, 0, 5, 6, 7, 8, 9, 10, 11])) ?_))
 refine lC 5 cb71 R (spec_l11CopyNest_ok hx65) R ?_
 rintro ⟨⟨A66, N66, D66⟩, ⟨A67, N67, D67⟩, ⟨A68, N68, D68⟩, ⟨A69, N69, D69⟩, ⟨A70, N70, D70⟩⟩
 refine lN (ow kT3 3 (.slice A66 N66 D66) r64.Sizes :: ow kT3 3 (.slice A67 N67 D67) r64.Ins :: ow kT159 159 (.slice A68 N68 D68) r64.Fixed :: ow kT127 127 (.slice A69 N69 D69) r64.Kernels :: ow kT3 3 (.slice A70 N70 D70) r64.Outs :: _ :: _ :: _ :: _ :: _ :: _ :: _ :: W0) ?_
 refine l_len 0 sees_ow ?_
 rintro rfl
 refine l_len 1 sees_ow ?_
 rintro rfl
 refine l_len 2 sees_ow ?_
 rintro rfl
 refine l_len 3 sees_ow ?_
 rintro rfl
 refine l_len 4 sees_ow ?_
 rintro rfl
 refine l_stores 11 R R sz58 R R R R R R (lN (_ :: _ :: _ :: _ :: _ :: _ :: _ :: _ :: _ :: _ :: _ :: bxl b8 [(sc A66 r64.Sizes D66), (sc A67 r64.Ins D67), (sc A68 r64.Fixed D68), (sc A69 r64.Kernels D69), (sc A70 r64.Outs D70)] 58 :: W0) ?_)
 refine l_nil (q_next (c_ret ?_))
 obtain rfl := so hr
 exact q_fin (vs := [(.agg [(sc A66 r64.Sizes D66), (sc A67 r64.Ins D67), (sc A68 r64.Fixed D68), (sc A69 r64.Kernels D69), (sc A70 r64.Outs D70)].toArray)]) (.inl R) ((A66, r64.Sizes.length, D66), (A67, r64.Ins.length, D67), (A68, r64.Fixed.length, D68), (A69, r64.Kernels.length, D69), (A70, r64.Outs.length, D70)) R ⟨⟨11, b8, _, _, R, R, .inl ⟨ag58, sz58, R⟩⟩, trivial⟩ R (fun w s => (s.f 17 [0, 5]))
theorem impl_Nest_given_1_ok {b1 : Int} {p2 : (List Bool)} {b3 : Nat} {r : Bool × (List Bool)} (hr : impl_Nest_given_1 b1 p2 = some r) :
 FnOk Try.prog 180 [(iv b1), (pt b3 0)] [ow kT4 4 (.slice A4 N4 D4) p2, bxl b3 [(.slice A4 N4 D4)] 168] (fun (h : HH) => ((.bool r.1), [ow kT4 4 (.slice h.1 h.2.1 h.2.2) r.2, bxl b3 [(.slice h.1 h.2.1 h.2.2)] 168])) := by
 unfold impl_Nest_given_1 at hr
 refine fn_ok Try.func180 R 21 R R fun C V => ?_
 refine cN (_ :: _ :: V) ?_
 refine cL 0 sees_ow ?_
 rintro rfl
 refine c_seq (c_region (lB R (l_nil ?_)))
 let W1 : List HP := bxl b3 [(sc A4 p2 D4)] 168 :: V
 refine qN (_ :: W1) ?_
 refine q_next (c_seq (c_seq ?_))
 obtain ⟨hg5, hr⟩ := gd hr
 refine cQ [(0, (iv b1)), (1, (pt b3 0)), (17, (.bool (((decide (b1 < (0 : Int))) || (decide (b1 ≥ (p2.length : Int)))) || (ix p2 b1))))] (OO kT4 4 A4 D4 p2 :: W1) ?_ ?_
 refine c_region (lI R (lO (vLt R R) (lB R ?_)))
 rcases bo (decide (b1 < (0 : Int))) with hc8 | hc8
 refine lf (wfT hc8) (lf (wfT hc8) (lf (wfT hc8) (lf (wfT hc8) (lO (pOT (decide (b1 ≥ (p2.length : Int))) R hc8) (lB R (lf (wfT (oT hc8)) (lf (wfT (oT hc8)) (lf (wfT (oT hc8)) (lf (wfT (oT hc8)) (lO (pOT (ix p2 b1) R (oT hc8)) (l_nil ?_)))))))))))
 exact qJ (fun w s => s)
 refine lW (wnF hc8) (vI R) (lW (wnF hc8) (vLd 1 ag168 R R R) (lW (wnF hc8) (v_len sl168 R) (lW (wnF hc8) (vGe R R) (lO (pOF R hc8 R) (lB R ?_)))))
 rcases bo ((decide (b1 < (0 : Int))) || (decide (b1 ≥ (p2.length : Int)))) with hc9 | hc9
 refine lf (wfT hc9) (lf (wfT hc9) (lf (wfT hc9) (lf (wfT hc9) (lO (pOT (ix p2 b1) R hc9) (l_nil ?_)))))
 exact qJ (fun w s => s)
 refine lW (wnF hc9) (vLd 1 ag168 R R R) (lW (wnF hc9) (vI R) (t_some 0 sees_ow (show 0 < p2.length by have := (hg5 hc9); omega) (fun g6 o7 ha => ?_)))
 subst ha
 refine lW (wnF hc9) (vIa sl168 sz4 R R (hg5 hc9)) (lW (wnF hc9) (vz (.bool (ix p2 b1)) (v_lde (K := kT4) (fo := 0) (pr := fun x => (.bool x)) 0 b1 ag4 (dT4.leaf fun _ _ => R) sees_ow R (hg5 hc9).1 (hg5 hc9).2)) (lO (pOF R hc9 R) (l_nil ?_)))
 exact qJ (fun w s => s)
 rintro σ1
 refine q_next ?_
 rcases bif_ hr with ⟨hb10, hr⟩ | ⟨hb10, hr⟩
 refine c_true R hb10 (c_seq (c_region (lB R (l_nil (q_next (c_ret (q_ret ?_)))))))
 obtain rfl := so hr
 exact qF (A4, p2.length, D4) (fun w s => s)
 refine c_false R hb10 (c_skip (q_next (c_seq ?_)))
 obtain ⟨hg11, hr⟩ := gd hr
 refine c_region (lO (vLd 1 ag168 R R R) (lI R (t_some 0 sees_ow (show 0 < p2.length by have := hg11; omega) (fun g12 o13 ha => ?_))))
 subst ha
 refine lO (vIa sl168 sz4 R R hg11) (lN (OO kT4 4 (ad g12 o13) D4 p2 :: W1) ?_)
 refine l_stx (K := kT4) (x' := true) 0 b1 R R sz4 R R hg11.1 hg11.2 ?_ ?_
 exact fun I h s => (mO4).put I h () true s
 refine lN (ow kT4 4 (.slice (ad g12 o13) p2.length D4) (p2.set b1.toNat true) :: W1) ?_
 refine l_nil (q_next (c_seq (c_region (lB R (l_nil (q_next (c_ret ?_)))))))
 obtain rfl := so hr
 exact qF ((ad g12 o13), p2.length, D4) (fun w s => s)
theorem impl_isNum_ok {p1 : Int} {r : Bool} (hr : impl_isNum p1 = some r) :
 FnOk Try.prog 211 [(iv p1)] [] (fun (h : Unit) => ((.bool r), [])) := by
 unfold impl_isNum at hr
 refine fn_ok Try.func211 R 9 R R fun C V => ?_
 refine cN V ?_
 refine c_seq (c_region (lB R (l_nil (q_next (c_seq (cQ [(2, (.bool ((decide (p1 ≥ (0 : Int))) && (decide (p1 < (2147483647 : Int))))))] (V) ?_ ?_))))))
 refine c_region (lI R (lO (vGe R R) (lB R ?_)))
 rcases bo (decide (p1 ≥ (0 : Int))) with hc2 | hc2
 refine lW (wnT hc2) (vI R) (lW (wnT hc2) (vLt R R) (lO (pAT R hc2 R) (lB R (l_nil ?_))))
 exact qJ (fun w s => s)
 refine lf (wfF hc2) (lf (wfF hc2) (lO (pAF (decide (p1 < (2147483647 : Int))) R hc2) (lB R (l_nil ?_))))
 exact qJ (fun w s => s)
 rintro σ1
 refine q_next (c_ret ?_)
 obtain rfl := so hr
 exact qF () (fun w s => s)
theorem impl_allNums_ok {xs1 : (List Int)} {r : Bool} (hr : impl_allNums xs1 = some r) :
 FnOk Try.prog 181 [(.slice A2 N2 D2)] [rds kT3 (.slice A2 N2 D2) xs1] (fun (h : Unit) => ((.bool r), [])) := by
 unfold impl_allNums at hr
 refine fn_ok Try.func181 R 15 R R fun C V => ?_
 refine cN (_ :: V) ?_
 refine cL 0 sees_rd ?_
 rintro rfl
 let W0 : List HP := RR kT3 A2 D2 xs1 :: V
 refine cN W0 ?_
 refine c_seq (c_region (lB R (l_nil (q_next (c_seq (c_cut (A := (Unit) × (Unit)) (fun a => impl_allNums_J1 = some r) (fun a => []) (fun a => W0) ?_ ?_))))))
 refine c_seq (c_region (lS R (lO (v_len sl29 R) (lI R (l_nil (q_next (c_block ?_)))))))
 obtain ⟨e1, hl1, hk1⟩ := bd hr
 refine c_loop (A := Unit) hl1 (fun s a => [(5, (sc A2 xs1 D2)), (6, (il xs1)), (7, (iv s))]) (fun s a => W0) () (aS R) (fun w s => s) ?_
 rintro x10 _ σ1 out1 hr he1
 replace hr : impl_allNums_L1 xs1 x10 = some out1 := hr
 unfold impl_allNums_L1 at hr
 refine c_seq (c_region (lO (vLt R R) (l_nil (q_next (c_seq ?_)))))
 rcases bif_ hr with ⟨hb11, hr⟩ | ⟨hb11, hr⟩
 refine c_true R hb11 (c_skip (q_next (c_seq (c_block (c_seq ?_)))))
 obtain ⟨hg12, hr⟩ := gd hr
 refine c_region (t_some 0 sees_rd (show 0 < xs1.length by have := hg12; omega) (fun g13 o14 ha => ?_))
 subst ha
 refine lO (vIa sl29 sz3 R R hg12) (lO (vLi 0 ag3 sees_rd R hg12) (lI R (l_nil (q_next (c_seq ?_)))))
 obtain ⟨r15, hx16, hr⟩ := bd hr
 refine c_region (lI R (lC 0 cb211 R (impl_isNum_ok hx16) R ?_))
 rintro _
 refine lO (vNo R) (l_nil (q_next ?_))
 rcases bif_ hr with ⟨hb17, hr⟩ | ⟨hb17, hr⟩
 refine c_true R hb17 (c_seq (c_region (lB R (l_nil (q_next (c_ret (q_blockr (q_ret ?_))))))))
 obtain rfl := so hr
 obtain rfl := he1 _ R
 have hr := hk1
 refine q_ret (q_blockr (q_ret ?_))
 obtain rfl := so hr
 exact qF () (fun w s => (s.e 1 []))
 refine c_false R hb17 (c_skip (q_blockn (q_next (c_region (lO (vAd R R) (lI R (l_nil ?_)))))))
 obtain rfl := so hr
 exact qA () (fun w s => s)
 refine c_false R hb11 (c_exit (q_exit ?_))
 obtain rfl := so hr
 obtain rfl := he1 _ R
 have hr := hk1
 refine q_exit (q_block ?_)
 exact q_join ((), ()) hr trivial (fun w s => s)
 rintro ⟨_, _⟩ σ1 hr
 replace hr : impl_allNums_J1 = some r := hr
 unfold impl_allNums_J1 at hr
 refine c_seq (c_region (lB R (l_nil (q_next (c_ret ?_)))))
 obtain rfl := so hr
 exact qF () (fun w s => (s.e 1 []))
theorem impl_Nest_given_ok {l1 : Nest} {r : (List Bool) × Bool} (hr : impl_Nest_given l1 = some r) :
 FnOk Try.prog 129 [(.agg [(.slice A2 N2 D2), (.slice A3 N3 D3), (.slice A4 N4 D4), (.slice A5 N5 D5), (.slice A6 N6 D6)].toArray)] [rds kT3 (.slice A2 N2 D2) l1.Sizes, rds kT3 (.slice A3 N3 D3) l1.Ins, rds kT159 (.slice A4 N4 D4) l1.Fixed, rds kT127 (.slice A5 N5 D5) l1.Kernels, rds kT3 (.slice A6 N6 D6) l1.Outs] (fun (h : HH) => ((.tuple [(.slice h.1 h.2.1 h.2.2), (.bool r.2)].toArray), [ow kT4 4 (.slice h.1 h.2.1 h.2.2) r.1])) := by
 unfold impl_Nest_given at hr
 refine fn_ok Try.func129 R 59 R R fun C V => ?_
 refine cN (_ :: _ :: _ :: _ :: _ :: V) ?_
 refine cL 0 sees_rd ?_
 rintro rfl
 refine cL 1 sees_rd ?_
 rintro rfl
 refine cL 2 sees_rd ?_
 rintro rfl
 refine cL 3 sees_rd ?_
 rintro rfl
 refine cL 4 sees_rd ?_
 rintro rfl
 let W0 : List HP := RR kT3 A2 D2 l1.Sizes :: RR kT3 A3 D3 l1.Ins :: RR kT159 A4 D4 l1.Fixed :: RR kT127 A5 D5 l1.Kernels :: RR kT3 A6 D6 l1.Outs :: V
 refine cN W0 ?_
 refine c_seq (c_region (lBx R (fun b7 => (lS R (lB R (l_nil ?_))))))
 let W1 : List HP := bxl b7 [(sc A2 l1.Sizes D2), (sc A3 l1.Ins D3), (sc A4 l1.Fixed D4), (sc A5 l1.Kernels D5), (sc A6 l1.Outs D6)] 58 :: W0
 refine qN W1 ?_
 refine q_next (c_seq ?_)
 obtain ⟨hg8, hr⟩ := gd hr
 refine c_region (lO (vFa 0 fo58_0 R) (lO (vLd 0 ag29 R R R) (lO (v_len sl29 R) (l_make (K := kT4) (m := (l1.Sizes.length : Int)) (z := false) R R sl168 sz4 by4 (Zr.zk zT4 zc4) (by decide) R R hg8.1 hg8.2.1 hg8.2.2 (fun A9 D9 => (l_alloc R R zc168 (fun b10 => (l_store 0 R R sz168 R R R R R (lN (bxl b10 [(sc A9 (List.replicate (l1.Sizes.length : Int).toNat false) D9)] 168 :: OO kT4 4 A9 D9 (List.replicate (l1.Sizes.length : Int).toNat false) :: W1) ?_)))))))))
 refine l_nil (q_next (c_seq (c_region (lO (vp (.func (.func 180) [].toArray [(pt b10 0)].toArray) R) (lO (vp (.func (.func 180) [].toArray [(pt b10 0)].toArray) R) (l_nil (q_next (c_seq (c_cut (A := ((List Bool)) × (HH)) (fun a => impl_Nest_given_J1 l1 a.1 = some r) (fun a => [(1, (pt b7 0)), (4, (pt b10 0)), (5, (.func (.func 180) [].toArray [(pt b10 0)].toArray))]) (fun a => bxl b10 [(.slice a.2.1 a.2.2.1 a.2.2.2)] 168 :: ow kT4 4 (.slice a.2.1 a.2.2.1 a.2.2.2) a.1 :: W1) ?_ ?_)))))))))
 refine c_seq (c_region (lO (vFa 1 fo58_1 R) (lO (vLd 2 ag29 R R R) (lO (v_len sl29 R) (lI R (l_nil (q_next (c_block ?_))))))))
 obtain ⟨e1, hl1, hk1⟩ := bd hr
 refine c_loop (A := HH) hl1 (fun s a => [(1, (pt b7 0)), (4, (pt b10 0)), (5, (.func (.func 180) [].toArray [(pt b10 0)].toArray)), (16, (sc A3 l1.Ins D3)), (17, (il l1.Ins)), (18, (iv s.2))]) (fun s a => bxl b10 [(.slice a.1 a.2.1 a.2.2)] 168 :: ow kT4 4 (.slice a.1 a.2.1 a.2.2) s.1 :: W1) (A9, (List.replicate (l1.Sizes.length : Int).toNat false).length, D9) (aS R) (fun w s => s) ?_
 rintro ⟨x19, x21⟩ ⟨A20, N20, D20⟩ σ1 out1 hr he1
 replace hr : impl_Nest_given_L1 l1 x19 x21 = some out1 := hr
 unfold impl_Nest_given_L1 at hr
 refine c_len 1 sees_ow (fun (hn : N20 = x19.length) => ?_)
 subst hn
 refine c_seq (c_region (lO (vLt R R) (l_nil (q_next (c_seq ?_)))))
 rcases bif_ hr with ⟨hb22, hr⟩ | ⟨hb22, hr⟩
 refine c_true R hb22 (c_skip (q_next (c_seq (c_block (c_seq ?_)))))
 obtain ⟨hg23, hr⟩ := gd hr
 refine c_region (t_some 4 sees_rd (show 0 < l1.Ins.length by have := hg23; omega) (fun g24 o25 ha => ?_))
 subst ha
 refine lO (vIa sl29 sz3 R R hg23) (lO (vLi 4 ag3 sees_rd R hg23) (lI R (l_nil (q_next (c_seq ?_)))))
 obtain ⟨r26, hx27, hr⟩ := bd hr
 refine c_region (lO (vp (.func (.func 180) [].toArray [(pt b10 0)].toArray) R) (lI R (lM (OO kT4 4 A20 D20 x19 :: bxl b10 [(sc A20 x19 D20)] 168 :: W1) (fun w s => (s.e 2 [1, 0])) ?_)))
 refine l_callvn (fs := []) (cs := [(pt b10 0)]) 2 R R cb180 R R (impl_Nest_given_1_ok hx27) R ?_
 rintro ⟨A28, N28, D28⟩
 refine lN (ow kT4 4 (.slice A28 N28 D28) r26.2 :: bxl b10 [(.slice A28 N28 D28)] 168 :: W1) ?_
 refine l_len 0 sees_ow ?_
 rintro rfl
 refine lO (vNo R) (l_nil (q_next ?_))
 rcases bif_ hr with ⟨hb29, hr⟩ | ⟨hb29, hr⟩
 refine c_true R hb29 (c_seq (c_region (lS R (lB R (l_nil (q_next (c_ret (q_blockr (q_ret ?_)))))))))
 obtain rfl := so hr
 obtain rfl := he1 _ R
 have hr := hk1
 refine q_ret (q_blockr (q_ret ?_))
 obtain rfl := so hr
 exact q_fin (vs := [(.slice none 0 0), (.bool false)]) (.inl R) (none, 0, 0) R ⟨R, R, trivial⟩ R (fun w s => ((s.nilo kT4 4).e 9 [0]))
 refine c_false R hb29 (c_skip (q_blockn (q_next (c_region (lO (vAd R R) (lI R (l_nil ?_)))))))
 obtain rfl := so hr
 exact qA (A28, r26.2.length, D28) (fun w s => (s.e 2 [1, 0]))
 refine c_false R hb22 (c_exit (q_exit ?_))
 obtain rfl := so hr
 obtain rfl := he1 _ R
 have hr := hk1
 refine q_exit (q_block ?_)
 exact qI (x19, (A20, x19.length, D20)) hr (fun w s => s)
 rintro ⟨x33, ⟨A34, N34, D34⟩⟩ σ1 hr
 replace hr : impl_Nest_given_J1 l1 x33 = some r := hr
 unfold impl_Nest_given_J1 at hr
 refine c_len 1 sees_ow (fun (hn : N34 = x33.length) => ?_)
 subst hn
 refine c_seq (c_cut (A := ((List Bool)) × (HH)) (fun a => impl_Nest_given_J2 a.1 = some r) (fun a => [(4, (pt b10 0))]) (fun a => bxl b10 [(.slice a.2.1 a.2.2.1 a.2.2.2)] 168 :: ow kT4 4 (.slice a.2.1 a.2.2.1 a.2.2.2) a.1 :: W1) ?_ ?_)
 refine c_seq (c_region (lO (vFa 2 fo58_2 R) (lO (vLd 2 ag55 R R R) (lO (v_len sl55 R) (lI R (l_nil (q_next (c_block ?_))))))))
 obtain ⟨e2, hl2, hk2⟩ := bd hr
 refine c_loop (A := HH × HH) hl2 (fun s a => [(1, (pt b7 0)), (4, (pt b10 0)), (5, (.func (.func 180) [].toArray [(pt b10 0)].toArray)), (28, (.slice a.2.1 a.2.2.1 a.2.2.2)), (29, (il l1.Fixed)), (30, (iv s.2))]) (fun s a => bxl b10 [(.slice a.1.1 a.1.2.1 a.1.2.2)] 168 :: ow kT4 4 (.slice a.1.1 a.1.2.1 a.1.2.2) s.1 :: rds kT159 (.slice a.2.1 a.2.2.1 a.2.2.2) l1.Fixed :: W1) ((A34, x33.length, D34), (A4, l1.Fixed.length, D4)) (aS R) (fun w s => ((s.d 5 R).e 3 [1, 2, 0])) ?_
 rintro ⟨x53, x56⟩ ⟨⟨A54, N54, D54⟩, ⟨A55, N55, D55⟩⟩ σ1 out2 hr he2
 replace hr : impl_Nest_given_L2 l1 x53 x56 = some out2 := hr
 unfold impl_Nest_given_L2 at hr
 refine c_len 1 sees_ow (fun (hn : N54 = x53.length) => ?_)
 subst hn
 refine c_len 2 sees_rd (fun (hn : N55 = l1.Fixed.length) => ?_)
 subst hn
 refine c_seq (c_region (lO (vLt R R) (l_nil (q_next (c_seq ?_)))))
 rcases bif_ hr with ⟨hb57, hr⟩ | ⟨hb57, hr⟩
 refine c_true R hb57 (c_skip (q_next (c_seq (c_block (c_seq ?_)))))
 obtain ⟨hg58, hr⟩ := gd hr
 refine c_region (t_some 2 sees_rd (show 0 < l1.Fixed.length by have := hg58; omega) (fun g59 o60 ha => ?_))
 subst ha
 refine lO (vIa sl55 sz159 R R hg58) (t_elem (K := kT159) 2 x56 dT159.dec R hg58.1 hg58.2 ?_)
 rintro ⟨-, ⟨A61, D61⟩⟩
 refine lN (cl g59 (o60 + x56.toNat * 2) [(iv (ix l1.Fixed x56).Buffer), (sc A61 ((ix l1.Fixed x56).Data) D61)] :: RR kT3 A61 D61 ((ix l1.Fixed x56).Data) :: bxl b10 [(sc A54 x53 D54)] 168 :: OO kT4 4 A54 D54 x53 :: RR kT159 (ad g59 o60) D55 l1.Fixed :: W1) ?_
 refine lO (vz (.agg [(iv (ix l1.Fixed x56).Buffer), (sc A61 ((ix l1.Fixed x56).Data) D61)].toArray) (v_clfs (fo := 0) 0 ag159 sz159 R R R R)) (l_alloc R R zc159 (fun b62 => (l_stores 0 R R sz159 R R R R R R (lN (bxl b62 [(iv (ix l1.Fixed x56).Buffer), (sc A61 ((ix l1.Fixed x56).Data) D61)] 159 :: _ :: _ :: _ :: _ :: _ :: W1) ?_))))
 refine l_nil (q_next (c_seq ?_))
 obtain ⟨r63, hx64, hr⟩ := bd hr
 obtain ⟨hg66, hr⟩ := gd hr
 obtain ⟨r69, hx70, hr⟩ := bd hr
 refine c_cutq (A := (Unit) × (HH)) (fun _ => True) (fun a => [(1, (pt b7 0)), (4, (pt b10 0)), (5, (.func (.func 180) [].toArray [(pt b10 0)].toArray)), (28, (sc (ad g59 o60) l1.Fixed D55)), (29, (il l1.Fixed)), (30, (iv x56)), (56, (.bool (((!r63.1) || ((((ix l1.Fixed x56).Data).length : Int) != (ix l1.Sizes (ix l1.Fixed x56).Buffer))) || (!r69))))]) (fun a => bxl b10 [(.slice a.2.1 a.2.2.1 a.2.2.2)] 168 :: ow kT4 4 (.slice a.2.1 a.2.2.1 a.2.2.2) r63.2 :: RR kT159 (ad g59 o60) D55 l1.Fixed :: W1) ?_ ?_
 rcases bo (!r63.1) with hc71 | hc71
 refine cdr 23 [4, 3] mixo (fun ht hn => (dR 0 R (vp (.func (.func 180) [].toArray [(pt b10 0)].toArray) R) (hS := (sL [4, 3])) (dR 1 R (vFa 0 fo159_0 R) (hS := (sL [4, 3])) (dR 2 R (vLd 0 ag3 R R R) (hS := (sL [4, 3])) (d_one 3 (by kernel_rfl) R (lM (ow _ _ _ _ :: bxl _ _ _ :: bxl _ _ _ :: cl _ _ _ :: rds _ _ _ :: rds _ _ _ :: W1) (fun w s => (s.e 6 [4, 3, 0, 1, 2, 5])) ?_))))))
 refine l_callvn (fs := []) (cs := [(pt b10 0)]) 2 R R cb180 R R (impl_Nest_given_1_ok hx64) R ?_
 rintro ⟨A65, N65, D65⟩
 refine lN (ow kT4 4 (.slice A65 N65 D65) r63.2 :: bxl b10 [(.slice A65 N65 D65)] 168 :: _ :: _ :: _ :: _ :: W1) ?_
 refine l_len 0 sees_ow ?_
 rintro rfl
 refine l_nil (q_draw (sL [1, 0]) (dR 4 R (vNo R) (hS := (sL [1, 0])) (dR 5 R (vB R) (hS := (sL [1, 0])) (dF 6 R (wfT hc71) (hS := (sL [1, 0])) (dF 7 R (wfT hc71) (hS := (sL [1, 0])) (dF 8 R (wfT hc71) (hS := (sL [1, 0])) (dF 9 R (wfT hc71) (hS := (sL [1, 0])) (dF 10 R (wfT hc71) (hS := (sL [1, 0])) (dF 11 R (wfT hc71) (hS := (sL [1, 0])) (dF 12 R (wfT hc71) (hS := (sL [1, 0])) (dF 13 R (wfT hc71) (hS := (sL [1, 0])) (dF 14 R (wfT hc71) (hS := (sL [1, 0])) (dF 15 R (wfT hc71) (hS := (sL [1, 0])) (dR 16 R (pOT ((((ix l1.Fixed x56).Data).length : Int) != (ix l1.Sizes (ix l1.Fixed x56).Buffer)) R hc71) (hS := (sL [1, 0])) (dR 17 R (vB R) (hS := (sL [1, 0])) (dF 18 R (wfT (oT hc71)) (hS := (sL [1, 0])) (dF 19 R (wfT (oT hc71)) (hS := (sL [1, 0])) (dF 20 R (wfT (oT hc71)) (hS := (sL [1, 0])) (dF 21 R (wfT (oT hc71)) (hS := (sL [1, 0])) (dR 22 R (pOT (!r69) R (oT hc71)) (hS := (sL [1, 0])) (d_done (by kernel_rfl) ?_)))))))))))))))))))))
 exact q_join ((), (A65, r63.2.length, D65)) trivial (aS R) (fun w s => (s.e 6 [1, 0, 5]))
 rcases bo ((!r63.1) || ((((ix l1.Fixed x56).Data).length : Int) != (ix l1.Sizes (ix l1.Fixed x56).Buffer))) with hc72 | hc72
 refine c_some 7 sees_rd (show 0 < l1.Sizes.length by have := (hg66 hc71); omega) (fun g67 o68 ha => ?_)
 subst ha
 refine cdr 23 [4, 3] mixo (fun ht hn => (dR 0 R (vp (.func (.func 180) [].toArray [(pt b10 0)].toArray) R) (hS := (sL [4, 3])) (dR 1 R (vFa 0 fo159_0 R) (hS := (sL [4, 3])) (dR 2 R (vLd 0 ag3 R R R) (hS := (sL [4, 3])) (d_one 3 (by kernel_rfl) R (lM (OO kT4 4 A54 D54 x53 :: bxl b10 [(sc A54 x53 D54)] 168 :: bxl _ _ _ :: cl _ _ _ :: rds _ _ _ :: rds _ _ _ :: W1) (fun w s => (s.e 6 [4, 3, 0, 1, 2, 5])) ?_))))))
 refine l_callvn (fs := []) (cs := [(pt b10 0)]) 2 R R cb180 R R (impl_Nest_given_1_ok hx64) R ?_
 rintro ⟨A65, N65, D65⟩
 refine lN (ow kT4 4 (.slice A65 N65 D65) r63.2 :: bxl b10 [(.slice A65 N65 D65)] 168 :: _ :: _ :: _ :: _ :: W1) ?_
 refine l_len 0 sees_ow ?_
 rintro rfl
 refine l_nil (q_draw (sL [1, 0]) (dR 4 R (vNo R) (hS := (sL [1, 0])) (dR 5 R (vB R) (hS := (sL [1, 0])) (dW 6 R (wnF hc71) (vFa 1 fo159_1 R) (hS := (sL [1, 0])) (dW 7 R (wnF hc71) (vLd 0 ag29 R R R) (hS := (sL [1, 0])) (dW 8 R (wnF hc71) (v_len sl29 R) (hS := (sL [1, 0])) (dW 9 R (wnF hc71) (vFa 0 fo58_0 R) (hS := (sL [1, 0])) (dW 10 R (wnF hc71) (vLd 4 ag29 R R R) (hS := (sL [1, 0])) (dW 11 R (wnF hc71) (vFa 0 fo159_0 R) (hS := (sL [1, 0])) (dW 12 R (wnF hc71) (vLd 0 ag3 R R R) (hS := (sL [1, 0])) (dW 13 R (wnF hc71) (vIa sl29 sz3 R R (hg66 hc71)) (hS := (sL [1, 0])) (dW 14 R (wnF hc71) (vLi 5 ag3 sees_rd R (hg66 hc71)) (hS := (sL [1, 0])) (dW 15 R (wnF hc71) (vNe R R) (hS := (sL [1, 0])) (dR 16 R (pOF R hc71 R) (hS := (sL [1, 0])) (dR 17 R (vB R) (hS := (sL [1, 0])) (dF 18 R (wfT hc72) (hS := (sL [1, 0])) (dF 19 R (wfT hc72) (hS := (sL [1, 0])) (dF 20 R (wfT hc72) (hS := (sL [1, 0])) (dF 21 R (wfT hc72) (hS := (sL [1, 0])) (dR 22 R (pOT (!r69) R hc72) (hS := (sL [1, 0])) (d_done (by kernel_rfl) ?_)))))))))))))))))))))
 exact q_join ((), (A65, r63.2.length, D65)) trivial (aS R) (fun w s => (s.e 6 [1, 0, 5]))
 refine c_some 7 sees_rd (show 0 < l1.Sizes.length by have := (hg66 hc71); omega) (fun g67 o68 ha => ?_)
 subst ha
 refine cdr 23 [4, 3] mixo (fun ht hn => (dR 0 R (vp (.func (.func 180) [].toArray [(pt b10 0)].toArray) R) (hS := (sL [4, 3])) (dR 1 R (vFa 0 fo159_0 R) (hS := (sL [4, 3])) (dR 2 R (vLd 0 ag3 R R R) (hS := (sL [4, 3])) (d_one 3 (by kernel_rfl) R (lM (OO kT4 4 A54 D54 x53 :: bxl b10 [(sc A54 x53 D54)] 168 :: bxl _ _ _ :: cl _ _ _ :: rds _ _ _ :: rds _ _ _ :: W1) (fun w s => (s.e 6 [4, 3, 0, 1, 2, 5])) ?_))))))
 refine l_callvn (fs := []) (cs := [(pt b10 0)]) 2 R R cb180 R R (impl_Nest_given_1_ok hx64) R ?_
 rintro ⟨A65, N65, D65⟩
 refine lN (ow kT4 4 (.slice A65 N65 D65) r63.2 :: bxl b10 [(.slice A65 N65 D65)] 168 :: _ :: _ :: _ :: _ :: W1) ?_
 refine l_len 0 sees_ow ?_
 rintro rfl
 refine l_nil (q_draw (sL [1, 0]) (dR 4 R (vNo R) (hS := (sL [1, 0])) (dR 5 R (vB R) (hS := (sL [1, 0])) (dW 6 R (wnF hc71) (vFa 1 fo159_1 R) (hS := (sL [1, 0])) (dW 7 R (wnF hc71) (vLd 0 ag29 R R R) (hS := (sL [1, 0])) (dW 8 R (wnF hc71) (v_len sl29 R) (hS := (sL [1, 0])) (dW 9 R (wnF hc71) (vFa 0 fo58_0 R) (hS := (sL [1, 0])) (dW 10 R (wnF hc71) (vLd 4 ag29 R R R) (hS := (sL [1, 0])) (dW 11 R (wnF hc71) (vFa 0 fo159_0 R) (hS := (sL [1, 0])) (dW 12 R (wnF hc71) (vLd 0 ag3 R R R) (hS := (sL [1, 0])) (dW 13 R (wnF hc71) (vIa sl29 sz3 R R (hg66 hc71)) (hS := (sL [1, 0])) (dW 14 R (wnF hc71) (vLi 5 ag3 sees_rd R (hg66 hc71)) (hS := (sL [1, 0])) (dW 15 R (wnF hc71) (vNe R R) (hS := (sL [1, 0])) (dR 16 R (pOF R hc71 R) (hS := (sL [1, 0])) (dR 17 R (vB R) (hS := (sL [1, 0])) (dW 18 R (wnF hc72) (vFa 1 fo159_1 R) (hS := (sL [1, 0])) (dW 19 R (wnF hc72) (vLd 0 ag29 R R R) (hS := (sL [1, 0])) (d_one 20 (by kernel_rfl) R (lM (_ :: _ :: bxl b10 [(sc A65 r63.2 D65)] 168 :: _ :: _ :: _ :: _ :: W1) (fun w s => (s.d 4 R)) ?_)))))))))))))))))))
 refine l_calln 1 R (wnF hc72) cb181 R (impl_allNums_ok (gcall_t hx70 (not_ff hc72))) R ?_
 rintro _
 refine lN (_ :: _ :: _ :: _ :: _ :: _ :: W1) ?_
 refine l_nil (q_draw (sL [1, 0]) (dW 21 R (wnF hc72) (vNo R) (hS := (sL [1, 0])) (dR 22 R (pOF R hc72 R) (hS := (sL [1, 0])) (d_done (by kernel_rfl) ?_))))
 exact q_join ((), (A65, r63.2.length, D65)) trivial (aS R) (fun w s => (s.e 6 [1, 0, 5]))
 rintro ⟨_, ⟨A73, N73, D73⟩⟩ σ1 -
 refine q_len 1 sees_ow (fun (hn : N73 = r63.2.length) => ?_)
 subst hn
 refine q_next ?_
 rcases bif_ hr with ⟨hb74, hr⟩ | ⟨hb74, hr⟩
 refine c_true R hb74 (c_seq (c_region (lS R (lB R (l_nil (q_next (c_ret (q_blockr (q_ret ?_)))))))))
 obtain rfl := so hr
 obtain rfl := he2 _ R
 have hr := hk2
 refine q_ret (q_blockr (q_ret ?_))
 obtain rfl := so hr
 exact q_fin (vs := [(.slice none 0 0), (.bool false)]) (.inl R) (none, 0, 0) R ⟨R, R, trivial⟩ R (fun w s => ((s.nilo kT4 4).e 10 [0]))
 refine c_false R hb74 (c_skip (q_blockn (q_next (c_region (lO (vAd R R) (lI R (l_nil ?_)))))))
 obtain rfl := so hr
 exact qA ((A73, r63.2.length, D73), ((ad g59 o60), l1.Fixed.length, D55)) (fun w s => s)
 refine c_false R hb57 (c_exit (q_exit ?_))
 obtain rfl := so hr
 obtain rfl := he2 _ R
 have hr := hk2
 refine q_exit (q_block ?_)
 exact qI (x53, (A54, x53.length, D54)) hr (fun w s => (s.e 3 [0, 1]))
 rintro ⟨x79, ⟨A80, N80, D80⟩⟩ σ1 hr
 replace hr : impl_Nest_given_J2 x79 = some r := hr
 unfold impl_Nest_given_J2 at hr
 refine c_len 1 sees_ow (fun (hn : N80 = x79.length) => ?_)
 subst hn
 refine c_seq (c_region (lO (vLd 0 ag168 R R R) (lS R (lB R (l_nil (q_next (c_ret ?_)))))))
 obtain rfl := so hr
 exact q_fin (vs := [(sc A80 x79 D80), (.bool true)]) (.inl R) (A80, x79.length, D80) R ⟨R, R, trivial⟩ R (fun w s => (s.e 8 [1]))
theorem impl_work_ok {loops1 : (List Int)} {r : Int × Bool} (hr : impl_work loops1 = some r) :
 FnOk Try.prog 182 [(.slice A2 N2 D2)] [rds kT3 (.slice A2 N2 D2) loops1] (fun (h : Unit) => ((.tuple [(iv r.1), (.bool r.2)].toArray), [])) := by
 unfold impl_work at hr
 refine fn_ok Try.func182 R 29 R R fun C V => ?_
 refine cN (_ :: V) ?_
 refine cL 0 sees_rd ?_
 rintro rfl
 let W0 : List HP := RR kT3 A2 D2 loops1 :: V
 refine cN W0 ?_
 refine c_seq (c_region (lI R (lB R (l_nil (q_next (c_seq (c_region (lI R (l_nil (q_next (c_seq (c_cut (A := (Int) × (HH)) (fun a => impl_work_J1 loops1 a.1 = some r) (fun a => [(0, (.slice a.2.1 a.2.2.1 a.2.2.2)), (4, (iv a.1))]) (fun a => rds kT3 (.slice a.2.1 a.2.2.1 a.2.2.2) loops1 :: W0) ?_ ?_))))))))))))
 refine c_seq (c_region (lS R (lO (v_len sl29 R) (lI R (l_nil (q_next (c_block ?_)))))))
 obtain ⟨e1, hl1, hk1⟩ := bd hr
 refine c_loop (A := HH) hl1 (fun s a => [(0, (.slice a.1 a.2.1 a.2.2)), (4, (iv s.1)), (7, (.slice a.1 a.2.1 a.2.2)), (8, (il loops1)), (9, (iv s.2))]) (fun s a => rds kT3 (.slice a.1 a.2.1 a.2.2) loops1 :: W0) (A2, loops1.length, D2) (aS R) (fun w s => (s.d 0 R)) ?_
 rintro ⟨n11, x12⟩ ⟨A10, N10, D10⟩ σ1 out1 hr he1
 replace hr : impl_work_L1 loops1 n11 x12 = some out1 := hr
 unfold impl_work_L1 at hr
 refine c_len 0 sees_rd (fun (hn : N10 = loops1.length) => ?_)
 subst hn
 refine c_seq (c_region (lO (vLt R R) (l_nil (q_next (c_seq ?_)))))
 rcases bif_ hr with ⟨hb13, hr⟩ | ⟨hb13, hr⟩
 refine c_true R hb13 (c_skip (q_next (c_seq (c_block (c_seq ?_)))))
 obtain ⟨hg14, hr⟩ := gd hr
 refine c_region (t_some 0 sees_rd (show 0 < loops1.length by have := hg14; omega) (fun g15 o16 ha => ?_))
 subst ha
 refine lO (vIa sl29 sz3 R R hg14) (lO (vLi 0 ag3 sees_rd R hg14) (lI R (l_nil (q_next (c_seq (c_seq (cQ [(0, (sc (ad g15 o16) loops1 D10)), (4, (iv n11)), (6, (iv (ix loops1 x12))), (7, (sc (ad g15 o16) loops1 D10)), (8, (il loops1)), (9, (iv x12)), (18, (.bool ((decide ((ix loops1 x12) < (1 : Int))) || (decide ((ix loops1 x12) > (65536 : Int))))))] (RR kT3 (ad g15 o16) D10 loops1 :: W0) ?_ ?_)))))))
 refine c_region (lI R (lO (vLt R R) (lB R ?_)))
 rcases bo (decide ((ix loops1 x12) < (1 : Int))) with hc17 | hc17
 refine lf (wfT hc17) (lf (wfT hc17) (lO (pOT (decide ((ix loops1 x12) > (65536 : Int))) R hc17) (l_nil ?_)))
 exact qJ (fun w s => s)
 refine lW (wnF hc17) (vI R) (lW (wnF hc17) (vGt R R) (lO (pOF R hc17 R) (l_nil ?_)))
 exact qJ (fun w s => s)
 rintro σ1
 refine q_next ?_
 rcases bif_ hr with ⟨hb18, hr⟩ | ⟨hb18, hr⟩
 refine c_true R hb18 (c_seq (c_region (lI R (lB R (l_nil (q_next (c_ret (q_ret (q_blockr (q_ret ?_))))))))))
 obtain rfl := so hr
 obtain rfl := he1 _ R
 have hr := hk1
 refine q_ret (q_blockr (q_ret ?_))
 obtain rfl := so hr
 exact q_fin (vs := [(iv 0), (.bool false)]) (.inl R) () R ⟨R, R, trivial⟩ R (fun w s => (s.e 2 []))
 refine c_false R hb18 (c_skip (q_next (c_seq (c_region (lI R (lI R (lO (vMu R R) (lI R (l_nil (q_next (c_seq (c_region (lI R (lO (vGt R R) (l_nil (q_next ?_))))))))))))))))
 rcases bif_ hr with ⟨hb19, hr⟩ | ⟨hb19, hr⟩
 refine c_true R hb19 (c_seq (c_region (lI R (lB R (l_nil (q_next (c_ret (q_blockr (q_ret ?_)))))))))
 obtain rfl := so hr
 obtain rfl := he1 _ R
 have hr := hk1
 refine q_ret (q_blockr (q_ret ?_))
 obtain rfl := so hr
 exact q_fin (vs := [(iv 0), (.bool false)]) (.inl R) () R ⟨R, R, trivial⟩ R (fun w s => (s.e 2 []))
 refine c_false R hb19 (c_skip (q_blockn (q_next (c_region (lO (vAd R R) (lI R (l_nil ?_)))))))
 obtain rfl := so hr
 exact qA ((ad g15 o16), loops1.length, D10) (fun w s => s)
 refine c_false R hb13 (c_exit (q_exit ?_))
 obtain rfl := so hr
 obtain rfl := he1 _ R
 have hr := hk1
 refine q_exit (q_block ?_)
 exact qI (n11, (A10, loops1.length, D10)) hr (fun w s => s)
 rintro ⟨n24, ⟨A23, N23, D23⟩⟩ σ1 hr
 replace hr : impl_work_J1 loops1 n24 = some r := hr
 unfold impl_work_J1 at hr
 refine c_len 0 sees_rd (fun (hn : N23 = loops1.length) => ?_)
 subst hn
 refine c_seq (c_region (lI R (lS R (lO (v_len sl29 R) (lO (vLe R R) (lI R (lB R (l_nil (q_next (c_ret ?_))))))))))
 obtain rfl := so hr
 exact q_fin (vs := [(iv n24), (.bool (decide ((loops1.length : Int) ≤ (12 : Int))))]) (.inl R) () R ⟨R, R, trivial⟩ R (fun w s => (s.e 2 []))
theorem impl_codeOk_ok {code1 : (List Calc)} {loads3 : Int} {r : Bool} (hr : impl_codeOk code1 loads3 = some r) :
 FnOk Try.prog 183 [(.slice A2 N2 D2), (iv loads3)] [rds kT216 (.slice A2 N2 D2) code1] (fun (h : Unit) => ((.bool r), [])) := by
 unfold impl_codeOk at hr
 refine fn_ok Try.func183 R 97 R R fun C V => ?_
 refine cN (_ :: V) ?_
 refine cL 0 sees_rd ?_
 rintro rfl
 let W0 : List HP := RR kT216 A2 D2 code1 :: V
 refine cN W0 ?_
 refine c_seq (c_region (lB R (l_nil (q_next (c_seq (c_seq (cQ [(0, (sc A2 code1 D2)), (1, (iv loads3)), (15, (.bool ((decide ((code1.length : Int) < (1 : Int))) || (decide ((code1.length : Int) > (60 : Int))))))] (W0) ?_ ?_)))))))
 refine c_region (lS R (lO (v_len sl125 R) (lO (vLt R R) (lB R ?_))))
 rcases bo (decide ((code1.length : Int) < (1 : Int))) with hc4 | hc4
 refine lf (wfT hc4) (lf (wfT hc4) (lf (wfT hc4) (lO (pOT (decide ((code1.length : Int) > (60 : Int))) R hc4) (l_nil ?_))))
 exact qJ (fun w s => s)
 refine lW (wnF hc4) (vS R) (lW (wnF hc4) (v_len sl125 R) (lW (wnF hc4) (vGt R R) (lO (pOF R hc4 R) (l_nil ?_))))
 exact qJ (fun w s => s)
 rintro σ1
 refine q_next ?_
 rcases bif_ hr with ⟨hb5, hr⟩ | ⟨hb5, hr⟩
 refine c_true R hb5 (c_seq (c_region (lB R (l_nil (q_next (c_ret (q_ret ?_)))))))
 obtain rfl := so hr
 exact qF () (fun w s => (s.e 1 []))
 refine c_false R hb5 (c_skip (q_next (c_seq (c_cut (A := (Unit) × (Unit)) (fun a => impl_codeOk_J7 = some r) (fun a => []) (fun a => W0) ?_ ?_))))
 refine c_seq (c_region (lS R (lO (v_len sl125 R) (lI R (l_nil (q_next (c_block ?_)))))))
 obtain ⟨e1, hl1, hk1⟩ := bd hr
 refine c_loop (A := HH) hl1 (fun s a => [(1, (iv loads3)), (16, (.slice a.1 a.2.1 a.2.2)), (17, (il code1)), (18, (iv s))]) (fun s a => rds kT216 (.slice a.1 a.2.1 a.2.2) code1 :: W0) (A2, code1.length, D2) (aS R) (fun w s => (s.d 0 R)) ?_
 rintro x35 ⟨A34, N34, D34⟩ σ1 out1 hr he1
 replace hr : impl_codeOk_L1 code1 loads3 x35 = some out1 := hr
 unfold impl_codeOk_L1 at hr
 refine c_len 0 sees_rd (fun (hn : N34 = code1.length) => ?_)
 subst hn
 refine c_seq (c_region (lO (vLt R R) (l_nil (q_next (c_seq ?_)))))
 rcases bif_ hr with ⟨hb36, hr⟩ | ⟨hb36, hr⟩
 refine c_true R hb36 (c_skip (q_next (c_seq (c_block (c_seq ?_)))))
 obtain ⟨hg37, hr⟩ := gd hr
 refine c_region (lI R (t_some 0 sees_rd (show 0 < code1.length by have := hg37; omega) (fun g38 o39 ha => ?_)))
 subst ha
 refine lO (vIa sl125 sz216 R R hg37) (l_v (.agg [(iv (ix code1 x35).Op), (iv (ix code1 x35).A), (iv (ix code1 x35).B)].toArray) ?_ R R ?_)
 exact (v_ldef (K := kT216) (cells := fun x => [(iv x.Op), (iv x.A), (iv x.B)]) 0 x35 ag216 sz216 (DecK.flat dT216 fun _ _ => R) sees_rd R hg37.1 hg37.2)
 refine l_alloc R R zc216 (fun b40 => (lI R (l_stores 0 R R sz216 R R R R R R (lN (bxl b40 [(iv (ix code1 x35).Op), (iv (ix code1 x35).A), (iv (ix code1 x35).B)] 216 :: RR kT216 (ad g38 o39) D34 code1 :: W0) ?_))))
 refine l_nil (q_next (c_seq (c_region (lB R (l_nil (q_next (c_seq (c_cut (A := (Bool) × (Unit)) (fun a => impl_codeOk_J6 x35 a.1 = some out1) (fun a => [(1, (iv loads3)), (7, (.bool a.1)), (16, (sc (ad g38 o39) code1 D34)), (17, (il code1)), (18, (iv x35))]) (fun a => RR kT216 (ad g38 o39) D34 code1 :: W0) ?_ ?_))))))))
 refine c_seq (c_region (lO (vFa 0 fo216_0 R) (lO (vLd 0 ag3 R R R) (l_nil (q_next (c_block (c_seq (c_region (lO (vEq R R) (lB R (l_nil (q_next ?_))))))))))))
 rcases bif_ hr with ⟨hb41, hr⟩ | ⟨hb41, hr⟩
 refine c_true R hb41 (cQ [(1, (iv loads3)), (7, (.bool (((decide ((ix code1 x35).A ≥ (0 : Int))) && (decide ((ix code1 x35).A < loads3))) && ((ix code1 x35).B == (0 : Int))))), (16, (sc (ad g38 o39) code1 D34)), (17, (il code1)), (18, (iv x35))] (RR kT216 (ad g38 o39) D34 code1 :: W0) ?_ ?_)
 refine c_region (lO (vFa 1 fo216_1 R) (lO (vLd 0 ag3 R R R) (lO (vGe R R) (lB R ?_))))
 rcases bo (decide ((ix code1 x35).A ≥ (0 : Int))) with hc42 | hc42
 refine lW (wnT hc42) (vFa 1 fo216_1 R) (lW (wnT hc42) (vLd 0 ag3 R R R) (lW (wnT hc42) (vI R) (lW (wnT hc42) (vLt R R) (lO (pAT R hc42 R) (lB R ?_)))))
 rcases bo ((decide ((ix code1 x35).A ≥ (0 : Int))) && (decide ((ix code1 x35).A < loads3))) with hc43 | hc43
 refine lW (wnT hc43) (vFa 2 fo216_2 R) (lW (wnT hc43) (vLd 0 ag3 R R R) (lW (wnT hc43) (vEq R R) (lO (pAT R hc43 R) (lB R (l_nil ?_)))))
 exact qJ (fun w s => (s.e 2 [1]))
 refine lf (wfF hc43) (lf (wfF hc43) (lf (wfF hc43) (lO (pAF ((ix code1 x35).B == (0 : Int)) R hc43) (lB R (l_nil ?_)))))
 exact qJ (fun w s => (s.e 2 [1]))
 refine lf (wfF hc42) (lf (wfF hc42) (lf (wfF hc42) (lf (wfF hc42) (lO (pAF (decide ((ix code1 x35).A < loads3)) R hc42) (lB R (lf (wfF (aF hc42)) (lf (wfF (aF hc42)) (lf (wfF (aF hc42)) (lO (pAF ((ix code1 x35).B == (0 : Int)) R (aF hc42)) (lB R (l_nil ?_)))))))))))
 exact qJ (fun w s => (s.e 2 [1]))
 rintro σ1
 refine q_blockn ?_
 exact qI ((((decide ((ix code1 x35).A ≥ (0 : Int))) && (decide ((ix code1 x35).A < loads3))) && ((ix code1 x35).B == (0 : Int))), ()) hr (fun w s => s)
 refine c_false R hb41 (c_seq (c_region (lO (vEq R R) (lB R (l_nil (q_next ?_))))))
 rcases bif_ hr with ⟨hb44, hr⟩ | ⟨hb44, hr⟩
 refine c_true R hb44 ?_
 obtain ⟨r45, hx46, hr⟩ := bd hr
 refine cQ [(1, (iv loads3)), (7, (.bool (r45 && ((ix code1 x35).B == (0 : Int))))), (16, (sc (ad g38 o39) code1 D34)), (17, (il code1)), (18, (iv x35))] (RR kT216 (ad g38 o39) D34 code1 :: W0) ?_ ?_
 refine c_region (lO (vFa 1 fo216_1 R) (lO (vLd 0 ag3 R R R) (lC 0 cb211 R (impl_isNum_ok hx46) R ?_)))
 rintro _
 refine lB R ?_
 rcases bo r45 with hc47 | hc47
 refine lW (wnT hc47) (vFa 2 fo216_2 R) (lW (wnT hc47) (vLd 0 ag3 R R R) (lW (wnT hc47) (vEq R R) (lO (pAT R hc47 R) (lB R (l_nil ?_)))))
 exact qJ (fun w s => (s.e 2 [1]))
 refine lf (wfF hc47) (lf (wfF hc47) (lf (wfF hc47) (lO (pAF ((ix code1 x35).B == (0 : Int)) R hc47) (lB R (l_nil ?_)))))
 exact qJ (fun w s => (s.e 2 [1]))
 rintro σ1
 refine q_blockn ?_
 exact qI ((r45 && ((ix code1 x35).B == (0 : Int))), ()) hr (fun w s => s)
 refine c_false R hb44 (c_seq (c_cut (A := (Bool) × (Unit)) (fun a => impl_codeOk_J4 code1 x35 a.1 = some out1) (fun a => [(1, (iv loads3)), (5, (iv x35)), (6, (pt b40 0)), (7, (.bool false)), (16, (sc (ad g38 o39) code1 D34)), (17, (il code1)), (18, (iv x35)), (24, (iv (ix code1 x35).Op)), (51, (.bool a.1))]) (fun a => bxl b40 [(iv (ix code1 x35).Op), (iv (ix code1 x35).A), (iv (ix code1 x35).B)] 216 :: RR kT216 (ad g38 o39) D34 code1 :: W0) ?_ ?_))
 refine c_seq (c_region (lO (vEq R R) (lB R (l_nil (q_next ?_)))))
 rcases bif_ hr with ⟨hb48, hr⟩ | ⟨hb48, hr⟩
 refine c_true R hb48 (c_skip ?_)
 exact qI (((ix code1 x35).Op == (3 : Int)), ()) hr (fun w s => s)
 refine c_false R hb48 (c_seq (c_region (lO (vEq R R) (lB R (l_nil (q_next ?_))))))
 rcases bif_ hr with ⟨hb49, hr⟩ | ⟨hb49, hr⟩
 refine c_true R hb49 (c_skip ?_)
 exact qI (((ix code1 x35).Op == (4 : Int)), ()) hr (fun w s => s)
 refine c_false R hb49 (c_region (lO (vEq R R) (lB R (l_nil ?_))))
 exact qI (((ix code1 x35).Op == (5 : Int)), ()) hr (fun w s => s)
 rintro ⟨x50, _⟩ σ1 hr
 replace hr : impl_codeOk_J4 code1 x35 x50 = some out1 := hr
 unfold impl_codeOk_J4 at hr
 rcases bif_ hr with ⟨hb51, hr⟩ | ⟨hb51, hr⟩
 refine c_true R hb51 (cQ [(1, (iv loads3)), (7, (.bool ((((decide ((ix code1 x35).A ≥ (0 : Int))) && (decide ((ix code1 x35).A < x35))) && (decide ((ix code1 x35).B ≥ (0 : Int)))) && (decide ((ix code1 x35).B < x35))))), (16, (sc (ad g38 o39) code1 D34)), (17, (il code1)), (18, (iv x35))] (RR kT216 (ad g38 o39) D34 code1 :: W0) ?_ ?_)
 refine c_region (lO (vFa 1 fo216_1 R) (lO (vLd 0 ag3 R R R) (lO (vGe R R) (lB R ?_))))
 rcases bo (decide ((ix code1 x35).A ≥ (0 : Int))) with hc52 | hc52
 refine lW (wnT hc52) (vFa 1 fo216_1 R) (lW (wnT hc52) (vLd 0 ag3 R R R) (lW (wnT hc52) (vI R) (lW (wnT hc52) (vLt R R) (lO (pAT R hc52 R) (lB R ?_)))))
 rcases bo ((decide ((ix code1 x35).A ≥ (0 : Int))) && (decide ((ix code1 x35).A < x35))) with hc53 | hc53
 refine lW (wnT hc53) (vFa 2 fo216_2 R) (lW (wnT hc53) (vLd 0 ag3 R R R) (lW (wnT hc53) (vGe R R) (lO (pAT R hc53 R) (lB R ?_))))
 rcases bo (((decide ((ix code1 x35).A ≥ (0 : Int))) && (decide ((ix code1 x35).A < x35))) && (decide ((ix code1 x35).B ≥ (0 : Int)))) with hc54 | hc54
 refine lW (wnT hc54) (vFa 2 fo216_2 R) (lW (wnT hc54) (vLd 0 ag3 R R R) (lW (wnT hc54) (vI R) (lW (wnT hc54) (vLt R R) (lO (pAT R hc54 R) (lB R (l_nil ?_))))))
 exact qJ (fun w s => (s.e 2 [1]))
 refine lf (wfF hc54) (lf (wfF hc54) (lf (wfF hc54) (lf (wfF hc54) (lO (pAF (decide ((ix code1 x35).B < x35)) R hc54) (lB R (l_nil ?_))))))
 exact qJ (fun w s => (s.e 2 [1]))
 refine lf (wfF hc53) (lf (wfF hc53) (lf (wfF hc53) (lO (pAF (decide ((ix code1 x35).B ≥ (0 : Int))) R hc53) (lB R (lf (wfF (aF hc53)) (lf (wfF (aF hc53)) (lf (wfF (aF hc53)) (lf (wfF (aF hc53)) (lO (pAF (decide ((ix code1 x35).B < x35)) R (aF hc53)) (lB R (l_nil ?_)))))))))))
 exact qJ (fun w s => (s.e 2 [1]))
 refine lf (wfF hc52) (lf (wfF hc52) (lf (wfF hc52) (lf (wfF hc52) (lO (pAF (decide ((ix code1 x35).A < x35)) R hc52) (lB R (lf (wfF (aF hc52)) (lf (wfF (aF hc52)) (lf (wfF (aF hc52)) (lO (pAF (decide ((ix code1 x35).B ≥ (0 : Int))) R (aF hc52)) (lB R (lf (wfF (aF (aF hc52))) (lf (wfF (aF (aF hc52))) (lf (wfF (aF (aF hc52))) (lf (wfF (aF (aF hc52))) (lO (pAF (decide ((ix code1 x35).B < x35)) R (aF (aF hc52))) (lB R (l_nil ?_)))))))))))))))))
 exact qJ (fun w s => (s.e 2 [1]))
 rintro σ1
 refine q_blockn ?_
 exact qI (((((decide ((ix code1 x35).A ≥ (0 : Int))) && (decide ((ix code1 x35).A < x35))) && (decide ((ix code1 x35).B ≥ (0 : Int)))) && (decide ((ix code1 x35).B < x35))), ()) hr (fun w s => s)
 refine c_false R hb51 (c_seq (c_cut (A := (Bool) × (Unit)) (fun a => impl_codeOk_J5 code1 x35 a.1 = some out1) (fun a => [(1, (iv loads3)), (5, (iv x35)), (6, (pt b40 0)), (7, (.bool false)), (16, (sc (ad g38 o39) code1 D34)), (17, (il code1)), (18, (iv x35)), (75, (.bool a.1))]) (fun a => bxl b40 [(iv (ix code1 x35).Op), (iv (ix code1 x35).A), (iv (ix code1 x35).B)] 216 :: RR kT216 (ad g38 o39) D34 code1 :: W0) ?_ ?_))
 refine c_seq (c_region (lO (vEq R R) (lB R (l_nil (q_next ?_)))))
 rcases bif_ hr with ⟨hb55, hr⟩ | ⟨hb55, hr⟩
 refine c_true R hb55 (c_skip ?_)
 exact qI (((ix code1 x35).Op == (6 : Int)), ()) hr (fun w s => s)
 refine c_false R hb55 (c_seq (c_region (lO (vEq R R) (lB R (l_nil (q_next ?_))))))
 rcases bif_ hr with ⟨hb56, hr⟩ | ⟨hb56, hr⟩
 refine c_true R hb56 (c_skip ?_)
 exact qI (((ix code1 x35).Op == (7 : Int)), ()) hr (fun w s => s)
 refine c_false R hb56 (c_seq (c_region (lO (vEq R R) (lB R (l_nil (q_next ?_))))))
 rcases bif_ hr with ⟨hb57, hr⟩ | ⟨hb57, hr⟩
 refine c_true R hb57 (c_skip ?_)
 exact qI (((ix code1 x35).Op == (8 : Int)), ()) hr (fun w s => s)
 refine c_false R hb57 (c_region (lO (vEq R R) (lB R (l_nil ?_))))
 exact qI (((ix code1 x35).Op == (9 : Int)), ()) hr (fun w s => s)
 rintro ⟨x58, _⟩ σ1 hr
 replace hr : impl_codeOk_J5 code1 x35 x58 = some out1 := hr
 unfold impl_codeOk_J5 at hr
 rcases bif_ hr with ⟨hb59, hr⟩ | ⟨hb59, hr⟩
 refine c_true R hb59 (cQ [(1, (iv loads3)), (7, (.bool (((decide ((ix code1 x35).A ≥ (0 : Int))) && (decide ((ix code1 x35).A < x35))) && ((ix code1 x35).B == (0 : Int))))), (16, (sc (ad g38 o39) code1 D34)), (17, (il code1)), (18, (iv x35))] (RR kT216 (ad g38 o39) D34 code1 :: W0) ?_ ?_)
 refine c_region (lO (vFa 1 fo216_1 R) (lO (vLd 0 ag3 R R R) (lO (vGe R R) (lB R ?_))))
 rcases bo (decide ((ix code1 x35).A ≥ (0 : Int))) with hc60 | hc60
 refine lW (wnT hc60) (vFa 1 fo216_1 R) (lW (wnT hc60) (vLd 0 ag3 R R R) (lW (wnT hc60) (vI R) (lW (wnT hc60) (vLt R R) (lO (pAT R hc60 R) (lB R ?_)))))
 rcases bo ((decide ((ix code1 x35).A ≥ (0 : Int))) && (decide ((ix code1 x35).A < x35))) with hc61 | hc61
 refine lW (wnT hc61) (vFa 2 fo216_2 R) (lW (wnT hc61) (vLd 0 ag3 R R R) (lW (wnT hc61) (vEq R R) (lO (pAT R hc61 R) (lB R (l_nil ?_)))))
 exact qJ (fun w s => (s.e 2 [1]))
 refine lf (wfF hc61) (lf (wfF hc61) (lf (wfF hc61) (lO (pAF ((ix code1 x35).B == (0 : Int)) R hc61) (lB R (l_nil ?_)))))
 exact qJ (fun w s => (s.e 2 [1]))
 refine lf (wfF hc60) (lf (wfF hc60) (lf (wfF hc60) (lf (wfF hc60) (lO (pAF (decide ((ix code1 x35).A < x35)) R hc60) (lB R (lf (wfF (aF hc60)) (lf (wfF (aF hc60)) (lf (wfF (aF hc60)) (lO (pAF ((ix code1 x35).B == (0 : Int)) R (aF hc60)) (lB R (l_nil ?_)))))))))))
 exact qJ (fun w s => (s.e 2 [1]))
 rintro σ1
 refine q_blockn ?_
 exact qI ((((decide ((ix code1 x35).A ≥ (0 : Int))) && (decide ((ix code1 x35).A < x35))) && ((ix code1 x35).B == (0 : Int))), ()) hr (fun w s => s)
 refine c_false R hb59 (c_skip (q_blockn ?_))
 exact qI (false, ()) hr (fun w s => (s.e 2 [1]))
 rintro ⟨ok62, _⟩ σ1 hr
 replace hr : impl_codeOk_J6 x35 ok62 = some out1 := hr
 unfold impl_codeOk_J6 at hr
 refine c_seq (c_region (lB R (lO (vNo R) (l_nil (q_next ?_)))))
 rcases bif_ hr with ⟨hb63, hr⟩ | ⟨hb63, hr⟩
 refine c_true R hb63 (c_seq (c_region (lB R (l_nil (q_next (c_ret (q_blockr (q_ret ?_))))))))
 obtain rfl := so hr
 obtain rfl := he1 _ R
 have hr := hk1
 refine q_ret (q_blockr (q_ret ?_))
 obtain rfl := so hr
 exact qF () (fun w s => (s.e 2 []))
 refine c_false R hb63 (c_skip (q_blockn (q_next (c_region (lO (vAd R R) (lI R (l_nil ?_)))))))
 obtain rfl := so hr
 exact qA ((ad g38 o39), code1.length, D34) (fun w s => s)
 refine c_false R hb36 (c_exit (q_exit ?_))
 obtain rfl := so hr
 obtain rfl := he1 _ R
 have hr := hk1
 refine q_exit (q_block ?_)
 exact q_join ((), ()) hr trivial (fun w s => (s.e 1 []))
 rintro ⟨_, _⟩ σ1 hr
 replace hr : impl_codeOk_J7 = some r := hr
 unfold impl_codeOk_J7 at hr
 refine c_seq (c_region (lB R (l_nil (q_next (c_ret ?_)))))
 obtain rfl := so hr
 exact qF () (fun w s => (s.e 1 []))
theorem slices_Clone_impl_Access_impl_Access_ok {s1 : List Access} {a_2 : Option Addr} {n_2 c_2 : Nat} {r : (List Access)} (hr : slices_Clone_impl_Access_impl_Access s1 = some r) :
    FnOk Try.prog 184 [(.slice a_2 n_2 c_2)] [rds kT124 (.slice a_2 n_2 c_2) s1] (fun (h : (Option Addr × Nat × Nat)) => ((.slice h.1 h.2.1 h.2.2), [ow (kT124).share 124 (.slice h.1 h.2.1 h.2.2) r])) := by
  unfold slices_Clone_impl_Access_impl_Access at hr
  obtain ⟨hg, hr⟩ := gd hr
  obtain rfl := Option.some.inj hr
  refine fn_ok Try.func184 rfl 8 rfl rfl fun C V => ?_
  refine c_st (V' := rds kT124 (.slice a_2 n_2 c_2) s1 :: V) (fun w s => s) ?_
  refine c_len 0 sees_rd (fun (hn : n_2 = s1.length) => ?_)
  subst hn
  refine c_seq (c_region ?_)
  refine l_v (.slice none 0 0) (v_pv rfl) rfl rfl ?_
  refine l_nil (q_next ?_)
  refine c_seq (c_seq (c_region ?_))
  refine l_v (.slice a_2 s1.length c_2) (v_pv rfl) rfl rfl ?_
  refine l_v (.bool a_2.isNone) (v_snil sl122 rfl rfl) rfl rfl ?_
  refine l_nil (q_next ?_)
  rcases Bool.eq_false_or_eq_true a_2.isNone with ha | ha
  · refine c_true rfl ha ?_
    refine c_nilx 0 sees_rd ha (fun (hx : s1 = []) => ?_)
    subst hx
    refine c_seq (c_region ?_)
    refine l_v (.slice none 0 0) (v_pv rfl) rfl rfl ?_
    refine l_nil (q_next ?_)
    refine c_ret (q_ret ?_)
    exact q_fin (vs := [(.slice none 0 0)]) (.inl rfl) (none, 0, 0) rfl ⟨rfl, trivial⟩ rfl (fun w s => ((s.nilo (kT124).share 124).sel 2 [0] rfl rfl))
  · refine c_false rfl ha (c_skip (q_next ?_))
    refine c_seq (c_region ?_)
    refine l_build (K := (kT124).share) (xs := ([] : List Access)) (vs := []) 0 rfl rfl sl122 sz124 zc124 rfl rfl rfl rfl rfl rfl ?_ rfl (fun a_3 c_3 => ?_)
    · exact fun I h s => (mS124).list [] I h s
    refine l_v (.slice a_2 s1.length c_2) (v_pv rfl) rfl rfl ?_
    refine l_app (K := (kT124).share) 3518437208883 rfl rfl sl122 sz124 by124 (Zr.zk (Zr.share zT124) zc124) rfl rfl rfl rfl rfl rfl src_sh (by simpa using hg) (fun a_4 c_4 => ?_)
    refine l_v (.slice a_4 s1.length c_4) (v_pv rfl) rfl rfl ?_
    refine l_nil (q_next ?_)
    refine c_ret ?_
    exact q_fin (vs := [(.slice a_4 s1.length c_4)]) (.inl rfl) (a_4, s1.length, c_4) rfl ⟨rfl, trivial⟩ rfl (fun w s => s)
end Go.Proofs.Ytbdchgofcejiiaa
