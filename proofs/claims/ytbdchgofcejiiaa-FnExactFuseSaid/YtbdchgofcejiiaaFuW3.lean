import Derived.Test.YtbdchgofcejiiaaFuW2
set_option linter.unusedVariables false
set_option maxRecDepth 20000
namespace Go.Proofs.Ytbdchgofcejiiaa
open Go Go.Pg
variable {A2 A3 A4 A5 A6 A7 A8 A9 A10 A12 : Option Addr} {D2 D3 D4 D5 D6 D7 D8 D9 D10 D12 N2 N3 N4 N5 N6 N7 N8 N9 N10 N12 : Nat}
theorem spec_l11Into_ok {p1 : Kernel} {c6 : Kernel} {partners11 : (List Int)} {r : Kernel} (hr : spec_l11Into p1 c6 partners11 = some r) :
 FnOk Try.prog 125 [(.agg [(.slice A2 N2 D2), (.slice A3 N3 D3), (iv p1.Store.Buffer), (iv p1.Store.Offset), (.slice A4 N4 D4), (.bool p1.Sum), (.slice A5 N5 D5)].toArray), (.agg [(.slice A7 N7 D7), (.slice A8 N8 D8), (iv c6.Store.Buffer), (iv c6.Store.Offset), (.slice A9 N9 D9), (.bool c6.Sum), (.slice A10 N10 D10)].toArray), (.slice A12 N12 D12)] [rds kT3 (.slice A2 N2 D2) p1.Loops, rds kT124 (.slice A3 N3 D3) p1.Loads, rds kT3 (.slice A4 N4 D4) p1.Store.Steps, rds kT216 (.slice A5 N5 D5) p1.Code, rds kT3 (.slice A7 N7 D7) c6.Loops, rds kT124 (.slice A8 N8 D8) c6.Loads, rds kT3 (.slice A9 N9 D9) c6.Store.Steps, rds kT216 (.slice A10 N10 D10) c6.Code, rds kT3 (.slice A12 N12 D12) partners11] (fun (h : HH × HH × HH × HH) => ((.agg [(.slice h.1.1 h.1.2.1 h.1.2.2), (.slice h.2.1.1 h.2.1.2.1 h.2.1.2.2), (iv r.Store.Buffer), (iv r.Store.Offset), (.slice h.2.2.1.1 h.2.2.1.2.1 h.2.2.1.2.2), (.bool r.Sum), (.slice h.2.2.2.1 h.2.2.2.2.1 h.2.2.2.2.2)].toArray), [ow kT3 3 (.slice h.1.1 h.1.2.1 h.1.2.2) r.Loops, ow (kT124).share 124 (.slice h.2.1.1 h.2.1.2.1 h.2.1.2.2) r.Loads, ow kT3 3 (.slice h.2.2.1.1 h.2.2.1.2.1 h.2.2.1.2.2) r.Store.Steps, ow kT216 216 (.slice h.2.2.2.1 h.2.2.2.2.1 h.2.2.2.2.2) r.Code])) := by
 unfold spec_l11Into at hr
 refine fn_ok Try.func125 R 244 R R fun C V => ?_
 refine cN (_ :: _ :: _ :: _ :: _ :: _ :: _ :: _ :: _ :: V) ?_
 refine cL 0 sees_rd ?_
 rintro rfl
 refine cL 1 sees_rd ?_
 rintro rfl
 refine cL 2 sees_rd ?_
 rintro rfl
 refine cL 3 sees_rd ?_
 rintro rfl
 refine cL 4 sees_rd ?_
 rintro rfl
 refine cL 5 sees_rd ?_
 rintro rfl
 refine cL 6 sees_rd ?_
 rintro rfl
 refine cL 7 sees_rd ?_
 rintro rfl
 refine cL 8 sees_rd ?_
 rintro rfl
 let W0 : List HP := RR kT3 A2 D2 p1.Loops :: RR kT124 A3 D3 p1.Loads :: RR kT3 A4 D4 p1.Store.Steps :: RR kT216 A5 D5 p1.Code :: RR kT3 A7 D7 c6.Loops :: RR kT124 A8 D8 c6.Loads :: RR kT3 A9 D9 c6.Store.Steps :: RR kT216 A10 D10 c6.Code :: RR kT3 A12 D12 partners11 :: V
 refine cN W0 ?_
 refine c_seq (c_region (lBx R (fun b13 => (lBx R (fun b14 => (l_alloc R R zc127 (fun b15 => (l_nil ?_))))))))
 let W1 : List HP := bxl b14 [(sc A7 c6.Loops D7), (sc A8 c6.Loads D8), (iv c6.Store.Buffer), (iv c6.Store.Offset), (sc A9 c6.Store.Steps D9), (.bool c6.Sum), (sc A10 c6.Code D10)] 127 :: bxl b13 [(sc A2 p1.Loops D2), (sc A3 p1.Loads D3), (iv p1.Store.Buffer), (iv p1.Store.Offset), (sc A4 p1.Store.Steps D4), (.bool p1.Sum), (sc A5 p1.Code D5)] 127 :: W0
 refine qN (_ :: W1) ?_
 refine q_next (c_seq (c_region (lO (vFa 2 fo127_2 R) (lO (vFa 2 fo124_0 R) (lO (vLd 2 ag3 R R R) (lI R (l_nil (q_next (c_seq ?_)))))))))
 obtain ⟨r16, hx17, hr⟩ := bd hr
 obtain ⟨r19, hx20, hr⟩ := bd hr
 refine c_cutq (A := (Unit) × (Nat × HH × HH)) (fun _ => True) (fun a => [(2, (sc A12 partners11 D12)), (3, (pt b13 0)), (4, (pt b14 0)), (6, (pt b15 0)), (7, (iv p1.Store.Buffer)), (8, (pt a.2.1 0))]) (fun a => bxl b15 [(.slice none 0 0), (.slice none 0 0), (iv 0), (iv 0), (.slice none 0 0), (.bool false), (.slice none 0 0)] 127 :: bxl a.2.1 [(.slice a.2.2.1.1 a.2.2.1.2.1 a.2.2.1.2.2), (.slice none 0 0), (iv c6.Store.Buffer), (iv c6.Store.Offset), (.slice a.2.2.2.1 a.2.2.2.2.1 a.2.2.2.2.2), (.bool c6.Sum), (.slice none 0 0)] 127 :: ow kT3 3 (.slice a.2.2.1.1 a.2.2.1.2.1 a.2.2.1.2.2) r16 :: ow kT3 3 (.slice a.2.2.2.1 a.2.2.2.2.1 a.2.2.2.2.2) r19 :: W1) ?_ ?_
 refine cdr 19 [] mixo (fun ht hn => (dR 0 R (vFa 0 fo127_0 R) (dR 1 R (vLd 1 ag29 R R R) (dR 3 R (vFa 2 fo127_2 R) (dR 4 R (vFa 2 fo124_0 R) (dR 5 R (vLd 1 ag3 R R R) (dR 6 R (vFa 2 fo127_2 R) (dR 7 R (vFa 3 fo124_1 R) (dR 8 R (vLd 1 ag3 R R R) (dR 9 R (vFa 2 fo127_2 R) (dR 10 R (vFa 4 fo124_2 R) (dR 11 R (vLd 1 ag29 R R R) (dR 14 R (vFa 5 fo127_3 R) (dR 15 R (vLd 1 ag4 R R R) (d_all [2, 17] (by kernel_rfl) R ⟨?_, ?_, trivial⟩)))))))))))))))
 refine lM (RR kT3 A7 D7 c6.Loops :: _ :: W1) (fun w s => (s.d 7 R)) ?_
 refine lC 1 cb60 R (spec_l3Ints_ok hx17) R ?_
 rintro ⟨A18, N18, D18⟩
 refine lN (ow kT3 3 (.slice A18 N18 D18) r16 :: _ :: W1) ?_
 refine l_len 0 sees_ow ?_
 rintro rfl
 refine l_nil (q_draw (sL [0]) (d_all [12, 17] (by kernel_rfl) R ⟨?_, ?_, trivial⟩))
 refine lM (RR kT3 A9 D9 c6.Store.Steps :: _ :: _ :: W1) (fun w s => (s.d 10 R)) ?_
 refine lC 1 cb60 R (spec_l3Ints_ok hx20) R ?_
 rintro ⟨A21, N21, D21⟩
 refine lN (ow kT3 3 (.slice A21 N21 D21) r19 :: _ :: _ :: W1) ?_
 refine l_len 0 sees_ow ?_
 rintro rfl
 refine l_nil (q_draw (sL [1, 0]) (dR 13 R (vz (.agg [(iv c6.Store.Buffer), (iv c6.Store.Offset), (sc A21 r19 D21)].toArray) (v_build pl124 zc124 R R)) (hS := (sL [1, 0])) (dR 16 R (vz (.agg [(sc A18 r16 D18), (.slice none 0 0), (iv c6.Store.Buffer), (iv c6.Store.Offset), (sc A21 r19 D21), (.bool c6.Sum), (.slice none 0 0)].toArray) (v_build pl127 zc127 R R)) (hS := (sL [1, 0])) (d_one 17 (by kernel_rfl) R (l_alloc R R zc127 (fun b22 => (l_nil (q_draw (sL [2, 1, 0]) (d_one 18 (by kernel_rfl) R (l_stores 0 R R sz127 R R R R R R (lN (bxl b22 [(sc A18 r16 D18), (.slice none 0 0), (iv c6.Store.Buffer), (iv c6.Store.Offset), (sc A21 r19 D21), (.bool c6.Sum), (.slice none 0 0)] 127 :: _ :: _ :: _ :: W1) ?_)))))))))))
 refine l_nil (q_draw (sL [2, 1, 0]) (d_done (by kernel_rfl) ?_))
 exact q_join ((), (b22, (A18, r16.length, D18), (A21, r19.length, D21))) trivial (aS R) (fun w s => (s.e 4 [3, 0, 2, 1]))
 refine l_alloc R R zc127 (fun b22 => (l_nil (q_draw (sL [1, 0]) (d_one 12 (by kernel_rfl) R (lM (RR kT3 A9 D9 c6.Store.Steps :: _ :: _ :: _ :: W1) (fun w s => (s.d 11 R)) ?_)))))
 refine lC 1 cb60 R (spec_l3Ints_ok hx20) R ?_
 rintro ⟨A21, N21, D21⟩
 refine lN (ow kT3 3 (.slice A21 N21 D21) r19 :: _ :: _ :: _ :: W1) ?_
 refine l_len 0 sees_ow ?_
 rintro rfl
 refine l_nil (q_draw (sL [2, 1, 0]) (dR 13 R (vz (.agg [(iv c6.Store.Buffer), (iv c6.Store.Offset), (sc A21 r19 D21)].toArray) (v_build pl124 zc124 R R)) (hS := (sL [2, 1, 0])) (dR 16 R (vz (.agg [(sc A18 r16 D18), (.slice none 0 0), (iv c6.Store.Buffer), (iv c6.Store.Offset), (sc A21 r19 D21), (.bool c6.Sum), (.slice none 0 0)].toArray) (v_build pl127 zc127 R R)) (hS := (sL [2, 1, 0])) (d_one 18 (by kernel_rfl) R (l_stores 1 R R sz127 R R R R R R (lN (_ :: bxl b22 [(sc A18 r16 D18), (.slice none 0 0), (iv c6.Store.Buffer), (iv c6.Store.Offset), (sc A21 r19 D21), (.bool c6.Sum), (.slice none 0 0)] 127 :: _ :: _ :: W1) ?_))))))
 refine l_nil (q_draw (sL [2, 1, 0]) (d_done (by kernel_rfl) ?_))
 exact q_join ((), (b22, (A18, r16.length, D18), (A21, r19.length, D21))) trivial (aS R) (fun w s => (s.e 4 [3, 1, 2, 0]))
 refine l_alloc R R zc127 (fun b22 => (l_nil (q_draw (sL [0]) (d_one 2 (by kernel_rfl) R (lM (RR kT3 A7 D7 c6.Loops :: _ :: _ :: W1) (fun w s => (s.d 8 R)) ?_)))))
 refine lC 1 cb60 R (spec_l3Ints_ok hx17) R ?_
 rintro ⟨A18, N18, D18⟩
 refine lN (ow kT3 3 (.slice A18 N18 D18) r16 :: _ :: _ :: W1) ?_
 refine l_len 0 sees_ow ?_
 rintro rfl
 refine l_nil (q_draw (sL [1, 0]) (d_one 12 (by kernel_rfl) R (lM (RR kT3 A9 D9 c6.Store.Steps :: _ :: _ :: _ :: W1) (fun w s => (s.d 11 R)) ?_)))
 refine lC 1 cb60 R (spec_l3Ints_ok hx20) R ?_
 rintro ⟨A21, N21, D21⟩
 refine lN (ow kT3 3 (.slice A21 N21 D21) r19 :: _ :: _ :: _ :: W1) ?_
 refine l_len 0 sees_ow ?_
 rintro rfl
 refine l_nil (q_draw (sL [2, 1, 0]) (dR 13 R (vz (.agg [(iv c6.Store.Buffer), (iv c6.Store.Offset), (sc A21 r19 D21)].toArray) (v_build pl124 zc124 R R)) (hS := (sL [2, 1, 0])) (dR 16 R (vz (.agg [(sc A18 r16 D18), (.slice none 0 0), (iv c6.Store.Buffer), (iv c6.Store.Offset), (sc A21 r19 D21), (.bool c6.Sum), (.slice none 0 0)].toArray) (v_build pl127 zc127 R R)) (hS := (sL [2, 1, 0])) (d_one 18 (by kernel_rfl) R (l_stores 2 R R sz127 R R R R R R (lN (_ :: _ :: bxl b22 [(sc A18 r16 D18), (.slice none 0 0), (iv c6.Store.Buffer), (iv c6.Store.Offset), (sc A21 r19 D21), (.bool c6.Sum), (.slice none 0 0)] 127 :: _ :: W1) ?_))))))
 refine l_nil (q_draw (sL [2, 1, 0]) (d_done (by kernel_rfl) ?_))
 exact q_join ((), (b22, (A18, r16.length, D18), (A21, r19.length, D21))) trivial (aS R) (fun w s => (s.e 4 [3, 2, 1, 0]))
 rintro ⟨_, ⟨b23, ⟨A24, N24, D24⟩, ⟨A25, N25, D25⟩⟩⟩ σ1 -
 refine q_len 2 sees_ow (fun (hn : N24 = r16.length) => ?_)
 subst hn
 refine q_len 3 sees_ow (fun (hn : N25 = r19.length) => ?_)
 subst hn
 refine q_next (c_seq (c_region (l_build (K := kT3) (xs := ([] : List Int)) (vs := []) 0 R R sl29 sz3 zc3 R R R R R R ?_ R (fun A26 D26 => ?_))))
 exact fun I h s => (mO3).list [] I h s
 refine lN (OO kT3 3 A26 D26 ([] : List Int) :: _ :: bxl b23 [(sc A24 r16 D24), (.slice none 0 0), (iv c6.Store.Buffer), (iv c6.Store.Offset), (sc A25 r19 D25), (.bool c6.Sum), (.slice none 0 0)] 127 :: OO kT3 3 A24 D24 r16 :: OO kT3 3 A25 D25 r19 :: W1) ?_
 refine lS R (l_nil (q_next (c_seq (c_cut (A := ((List Access) × (List Int)) × (HH × HH)) (fun a => spec_l11Into_J3 p1 c6 partners11 r16 r19 a.1.1 a.1.2 = some r) (fun a => [(2, (sc A12 partners11 D12)), (3, (pt b13 0)), (4, (pt b14 0)), (6, (pt b15 0)), (7, (iv p1.Store.Buffer)), (8, (pt b23 0)), (9, (.slice a.2.2.1 a.2.2.2.1 a.2.2.2.2))]) (fun a => bxl b15 [(.slice none 0 0), (.slice none 0 0), (iv 0), (iv 0), (.slice none 0 0), (.bool false), (.slice none 0 0)] 127 :: bxl b23 [(sc A24 r16 D24), (.slice a.2.1.1 a.2.1.2.1 a.2.1.2.2), (iv c6.Store.Buffer), (iv c6.Store.Offset), (sc A25 r19 D25), (.bool c6.Sum), (.slice none 0 0)] 127 :: OO kT3 3 A24 D24 r16 :: ow kT124 124 (.slice a.2.1.1 a.2.1.2.1 a.2.1.2.2) a.1.1 :: OO kT3 3 A25 D25 r19 :: ow kT3 3 (.slice a.2.2.1 a.2.2.2.1 a.2.2.2.2) a.1.2 :: W1) ?_ ?_))))
 refine c_seq (c_region (lI R (l_nil (q_next (c_block ?_)))))
 obtain ⟨e1, hl1, hk1⟩ := bd hr
 refine c_loop (A := HH × HH) hl1 (fun s a => [(2, (sc A12 partners11 D12)), (3, (pt b13 0)), (4, (pt b14 0)), (6, (pt b15 0)), (7, (iv p1.Store.Buffer)), (8, (pt b23 0)), (9, (.slice a.2.1 a.2.2.1 a.2.2.2)), (10, (iv s.2.2))]) (fun s a => bxl b15 [(.slice none 0 0), (.slice none 0 0), (iv 0), (iv 0), (.slice none 0 0), (.bool false), (.slice none 0 0)] 127 :: bxl b23 [(sc A24 r16 D24), (.slice a.1.1 a.1.2.1 a.1.2.2), (iv c6.Store.Buffer), (iv c6.Store.Offset), (sc A25 r19 D25), (.bool c6.Sum), (.slice none 0 0)] 127 :: OO kT3 3 A24 D24 r16 :: ow kT124 124 (.slice a.1.1 a.1.2.1 a.1.2.2) s.1 :: OO kT3 3 A25 D25 r19 :: ow kT3 3 (.slice a.2.1 a.2.2.1 a.2.2.2) s.2.1 :: W1) ((none, 0, 0), (A26, ([] : List Int).length, D26)) (aS R) (fun w s => ((s.nilo kT124 124).e 6 [2, 3, 4, 0, 5, 1])) ?_
 rintro ⟨x45, to47, i49⟩ ⟨⟨A46, N46, D46⟩, ⟨A48, N48, D48⟩⟩ σ1 out1 hr he1
 replace hr : spec_l11Into_L1 p1 c6 x45 to47 i49 = some out1 := hr
 unfold spec_l11Into_L1 at hr
 refine c_len 3 sees_ow (fun (hn : N46 = x45.length) => ?_)
 subst hn
 refine c_len 5 sees_ow (fun (hn : N48 = to47.length) => ?_)
 subst hn
 refine c_seq (c_seq (c_region (lI R (lO (vFa 1 fo127_1 R) (lO (vLd 6 ag122 R R R) (lO (v_len sl122 R) (lO (vLt R R) (l_nil (q_next ?_)))))))))
 rcases bif_ hr with ⟨hb50, hr⟩ | ⟨hb50, hr⟩
 refine c_true R hb50 (c_skip (q_next (c_seq (c_cut (A := ((List Access)) × (HH × HH)) (fun a => spec_l11Into_J2 x45 to47 i49 a.1 = some out1) (fun a => [(2, (sc A12 partners11 D12)), (3, (pt b13 0)), (4, (pt b14 0)), (6, (pt b15 0)), (7, (iv p1.Store.Buffer)), (8, (pt b23 0)), (9, (.slice a.2.2.1 a.2.2.2.1 a.2.2.2.2)), (10, (iv i49))]) (fun a => bxl b15 [(.slice none 0 0), (.slice none 0 0), (iv 0), (iv 0), (.slice none 0 0), (.bool false), (.slice none 0 0)] 127 :: bxl b23 [(sc A24 r16 D24), (.slice a.2.1.1 a.2.1.2.1 a.2.1.2.2), (iv c6.Store.Buffer), (iv c6.Store.Offset), (sc A25 r19 D25), (.bool c6.Sum), (.slice none 0 0)] 127 :: OO kT3 3 A24 D24 r16 :: ow kT124 124 (.slice a.2.1.1 a.2.1.2.1 a.2.1.2.2) a.1 :: OO kT3 3 A25 D25 r19 :: ow kT3 3 (.slice a.2.2.1 a.2.2.2.1 a.2.2.2.2) (to47 ++ ([(x45.length : Int)] : List Int)) :: W1) ?_ ?_))))
 refine c_block (c_seq ?_)
 obtain ⟨hg52, hr⟩ := gd hr
 refine c_region (lS R (lO (vFa 1 fo127_1 R) (lO (vLd 1 ag122 R R R) (lO (v_len sl122 R) (l_build (K := kT3) (xs := ([(x45.length : Int)] : List Int)) (vs := [(il x45)]) 0 R R sl29 sz3 zc3 R R R R R R ?_ R (fun A51 D51 => ?_))))))
 exact fun I h s => (mO3).list [((), (x45.length : Int))] I h s
 refine lN (OO kT3 3 A51 D51 ([(x45.length : Int)] : List Int) :: _ :: bxl b23 [(sc A24 r16 D24), (sc A46 x45 D46), (iv c6.Store.Buffer), (iv c6.Store.Offset), (sc A25 r19 D25), (.bool c6.Sum), (.slice none 0 0)] 127 :: _ :: OO kT124 124 A46 D46 x45 :: _ :: OO kT3 3 A48 D48 to47 :: W1) ?_
 refine lM (ow _ _ _ _ :: ow _ _ _ _ :: bxl _ _ _ :: bxl _ _ _ :: ow _ _ _ _ :: ow _ _ _ _ :: ow _ _ _ _ :: W1) (fun w s => (s.f 7 [6, 1, 0, 6])) ?_
 refine l_app (K := kT3) 17592186044416 R R sl29 sz3 by3 (Zr.zk zT3 zc3) R R R R R R src_ow hg52 (fun A53 D53 => (lN (OO kT3 3 A53 D53 (to47 ++ ([(x45.length : Int)] : List Int)) :: _ :: _ :: _ :: _ :: _ :: W1) ?_))
 refine lS R (l_nil (q_next (c_seq ?_)))
 obtain ⟨hg54, hr⟩ := gd hr
 refine c_region (lO (vFa 1 fo127_1 R) (lO (vLd 6 ag122 R R R) (lI R (t_some 13 sees_rd (show 0 < c6.Loads.length by have := hg54; omega) (fun g55 o56 ha => ?_)))))
 subst ha
 refine lO (vIa sl122 sz124 R R hg54) (lO (vz (.pointer (some ⟨g55, o56 + i49.toNat * 3, none⟩)) (v_fa fo124_0 R R)) (lO (vz (iv (ix c6.Loads i49).Buffer) (v_lde (K := kT124) (fo := 0) (pr := fun x => (iv x.Buffer)) 13 i49 ag3 (dT124.leaf fun _ _ => R) sees_rd R hg54.1 hg54.2)) (lI R (lO (vNe R R) (l_nil (q_next ?_))))))
 rcases bif_ hr with ⟨hb57, hr⟩ | ⟨hb57, hr⟩
 refine c_true R hb57 ?_
 obtain ⟨r59, hx60, hr⟩ := bd hr
 obtain ⟨hg63, hr⟩ := gd hr
 refine c_elem (K := kT124) 13 i49 dT124.dec R hg54.1 hg54.2 ?_
 rintro ⟨-, -, ⟨A58, D58⟩⟩
 refine cN (cl g55 (o56 + i49.toNat * 3) [(iv (ix c6.Loads i49).Buffer), (iv (ix c6.Loads i49).Offset), (sc A58 ((ix c6.Loads i49).Steps) D58)] :: RR kT3 A58 D58 ((ix c6.Loads i49).Steps) :: _ :: _ :: _ :: _ :: _ :: _ :: W1) ?_
 refine cdr 23 [] mixo (fun ht hn => (dR 0 R (vFa 1 fo127_1 R) (dR 1 R (vLd 4 ag122 R R R) (dR 2 R (vFa 1 fo127_1 R) (dR 3 R (vLd 8 ag122 R R R) (dR 4 R (vI R) (dR 5 R (vIa sl122 sz124 R R hg54) (dR 6 R (vz (.pointer (some ⟨g55, o56 + i49.toNat * 3, none⟩)) (v_fa fo124_0 R R)) (dR 7 R (vz (iv (ix c6.Loads i49).Buffer) (v_lde (K := kT124) (fo := 0) (pr := fun x => (iv x.Buffer)) 15 i49 ag3 (dT124.leaf fun _ _ => R) sees_rd R hg54.1 hg54.2)) (dR 8 R (vFa 1 fo127_1 R) (dR 9 R (vLd 8 ag122 R R R) (dR 10 R (vI R) (dR 11 R (vIa sl122 sz124 R R hg54) (dR 12 R (vz (.pointer (some ⟨g55, o56 + i49.toNat * 3 + 1, none⟩)) (v_fa fo124_1 R R)) (dR 13 R (vz (iv (ix c6.Loads i49).Offset) (v_lde (K := kT124) (fo := 1) (pr := fun x => (iv x.Offset)) 15 i49 ag3 (dT124.leaf fun _ _ => R) sees_rd R hg54.1 hg54.2)) (dR 14 R (vFa 1 fo127_1 R) (dR 15 R (vLd 8 ag122 R R R) (dR 16 R (vI R) (dR 17 R (vIa sl122 sz124 R R hg54) (dR 18 R (vz (.pointer (some ⟨g55, o56 + i49.toNat * 3 + 2, none⟩)) (v_fa fo124_2 R R)) (dR 19 R (v_clf (fo := 2) 0 ag29 R R R) (d_one 20 (by kernel_rfl) R ?_))))))))))))))))))))))
 refine lM (_ :: _ :: _ :: _ :: _ :: _ :: _ :: _ :: _ :: W1) (fun w s => (s.d 1 R)) ?_
 refine lC 1 cb60 R (spec_l3Ints_ok hx60) R ?_
 rintro ⟨A61, N61, D61⟩
 refine lN (ow kT3 3 (.slice A61 N61 D61) r59 :: _ :: _ :: _ :: _ :: _ :: _ :: _ :: _ :: W1) ?_
 refine l_len 0 sees_ow ?_
 rintro rfl
 refine l_nil (q_draw (sL [0]) (dR 21 R (vz (.agg [(iv (ix c6.Loads i49).Buffer), (iv (ix c6.Loads i49).Offset), (sc A61 r59 D61)].toArray) (v_build pl124 zc124 R R)) (hS := (sL [0])) (d_one 22 (by kernel_rfl) R (l_build (K := kT124) (xs := ([(⟨(ix c6.Loads i49).Buffer, (ix c6.Loads i49).Offset, r59⟩ : Access)] : List Access)) (vs := [(.agg [(iv (ix c6.Loads i49).Buffer), (iv (ix c6.Loads i49).Offset), (sc A61 r59 D61)].toArray)]) 1 R R sl122 sz124 zc124 R R R R R R ?_ R (fun A62 D62 => ?_)))))
 exact fun I h s => (mO124).list [(((), (), (sc A61 r59 D61)), (⟨(ix c6.Loads i49).Buffer, (ix c6.Loads i49).Offset, r59⟩ : Access))] I h s
 refine lN (OO kT124 124 A62 D62 ([(⟨(ix c6.Loads i49).Buffer, (ix c6.Loads i49).Offset, r59⟩ : Access)] : List Access) :: _ :: _ :: _ :: _ :: _ :: _ :: _ :: _ :: W1) ?_
 refine l_nil (q_draw (sL [0]) (d_one 23 (by kernel_rfl) R (lM (ow _ _ _ _ :: ow _ _ _ _ :: cl _ _ _ :: rds _ _ _ :: ow _ _ _ _ :: bxl _ _ _ :: bxl _ _ _ :: ow _ _ _ _ :: ow _ _ _ _ :: W1) (fun w s => (s.f 9 [7, 1, 0, 7, 8, 1])) ?_)))
 refine l_app (K := kT124) 3518437208883 R R sl122 sz124 by124 (Zr.zk zT124 zc124) R R R R R R src_ow hg63 (fun A64 D64 => (lN (OO kT124 124 A64 D64 (x45 ++ ([(⟨(ix c6.Loads i49).Buffer, (ix c6.Loads i49).Offset, r59⟩ : Access)] : List Access)) :: _ :: _ :: _ :: _ :: _ :: _ :: _ :: W1) ?_))
 refine l_nil (q_last R (d_one 24 (by kernel_rfl) R (lO (vFa 1 fo127_1 R) (l_nil (q_last R (d_one 25 (by kernel_rfl) R (l_store 5 R R sz122 R R R R R (lN (_ :: _ :: _ :: _ :: _ :: bxl b23 [(sc A24 r16 D24), (sc A64 (x45 ++ ([(⟨(ix c6.Loads i49).Buffer, (ix c6.Loads i49).Offset, r59⟩ : Access)] : List Access)) D64), (iv c6.Store.Buffer), (iv c6.Store.Offset), (sc A25 r19 D25), (.bool c6.Sum), (.slice none 0 0)] 127 :: _ :: _ :: W1) ?_))))))))
 refine l_nil (q_last R (d_done (by kernel_rfl) (q_blockn ?_)))
 exact qI ((x45 ++ ([(⟨(ix c6.Loads i49).Buffer, (ix c6.Loads i49).Offset, r59⟩ : Access)] : List Access)), ((A64, (x45 ++ ([(⟨(ix c6.Loads i49).Buffer, (ix c6.Loads i49).Offset, r59⟩ : Access)] : List Access)).length, D64), (A53, (to47 ++ ([(x45.length : Int)] : List Int)).length, D53))) hr (fun w s => (s.e 8 [4, 5, 6, 0, 7, 3]))
 refine c_false R hb57 (c_skip (q_blockn ?_))
 exact qI (x45, ((A46, x45.length, D46), (A53, (to47 ++ ([(x45.length : Int)] : List Int)).length, D53))) hr (fun w s => (s.f 6 [1, 5, 0, 1]))
 rintro ⟨x65, ⟨⟨A66, N66, D66⟩, ⟨A67, N67, D67⟩⟩⟩ σ1 hr
 replace hr : spec_l11Into_J2 x45 to47 i49 x65 = some out1 := hr
 unfold spec_l11Into_J2 at hr
 refine c_len 3 sees_ow (fun (hn : N66 = x65.length) => ?_)
 subst hn
 refine c_len 5 sees_ow (fun (hn : N67 = (to47 ++ ([(x45.length : Int)] : List Int)).length) => ?_)
 subst hn
 refine c_region (lI R (lO (vAd R R) (lI R (l_nil ?_))))
 obtain rfl := so hr
 exact qA ((A66, x65.length, D66), (A67, (to47 ++ ([(x45.length : Int)] : List Int)).length, D67)) (fun w s => s)
 refine c_false R hb50 (c_exit (q_exit ?_))
 obtain rfl := so hr
 obtain rfl := he1 _ R
 have hr := hk1
 refine q_exit (q_block ?_)
 exact qI ((x45, to47), ((A46, x45.length, D46), (A48, to47.length, D48))) hr (fun w s => s)
 rintro ⟨⟨x73, to75⟩, ⟨⟨A74, N74, D74⟩, ⟨A76, N76, D76⟩⟩⟩ σ1 hr
 replace hr : spec_l11Into_J3 p1 c6 partners11 r16 r19 x73 to75 = some r := hr
 unfold spec_l11Into_J3 at hr
 refine c_len 3 sees_ow (fun (hn : N74 = x73.length) => ?_)
 subst hn
 refine c_len 5 sees_ow (fun (hn : N76 = to75.length) => ?_)
 subst hn
 refine c_seq (c_region (lO (vFa 1 fo127_1 R) (lO (vLd 1 ag122 R R R) (lO (v_len sl122 R) (lI R (l_nil (q_next (c_seq (c_cut (A := ((List Access)) × (HH)) (fun a => spec_l11Into_J6 p1 c6 r16 r19 x73 to75 a.1 = some r) (fun a => [(3, (pt b13 0)), (4, (pt b14 0)), (6, (pt b15 0)), (7, (iv p1.Store.Buffer)), (8, (pt b23 0)), (9, (sc A76 to75 D76)), (11, (il x73))]) (fun a => bxl b15 [(.slice none 0 0), (.slice none 0 0), (iv 0), (iv 0), (.slice none 0 0), (.bool false), (.slice none 0 0)] 127 :: bxl b23 [(sc A24 r16 D24), (.slice a.2.1 a.2.2.1 a.2.2.2), (iv c6.Store.Buffer), (iv c6.Store.Offset), (sc A25 r19 D25), (.bool c6.Sum), (.slice none 0 0)] 127 :: OO kT3 3 A24 D24 r16 :: ow (kT124).share 124 (.slice a.2.1 a.2.2.1 a.2.2.2) a.1 :: OO kT3 3 A25 D25 r19 :: OO kT3 3 A76 D76 to75 :: W1) ?_ ?_)))))))))
 refine c_seq (c_region (lI R (l_nil (q_next (c_block ?_)))))
 obtain ⟨e2, hl2, hk2⟩ := bd hr
 refine c_loop (A := HH) hl2 (fun s a => [(2, (sc A12 partners11 D12)), (3, (pt b13 0)), (4, (pt b14 0)), (6, (pt b15 0)), (7, (iv p1.Store.Buffer)), (8, (pt b23 0)), (9, (sc A76 to75 D76)), (11, (il x73)), (12, (iv s.2))]) (fun s a => bxl b15 [(.slice none 0 0), (.slice none 0 0), (iv 0), (iv 0), (.slice none 0 0), (.bool false), (.slice none 0 0)] 127 :: bxl b23 [(sc A24 r16 D24), (.slice a.1 a.2.1 a.2.2), (iv c6.Store.Buffer), (iv c6.Store.Offset), (sc A25 r19 D25), (.bool c6.Sum), (.slice none 0 0)] 127 :: OO kT3 3 A24 D24 r16 :: ow (kT124).share 124 (.slice a.1 a.2.1 a.2.2) s.1 :: OO kT3 3 A25 D25 r19 :: OO kT3 3 A76 D76 to75 :: W1) (A74, x73.length, D74) (aS R) (fun w s => ((s.wk 3 R).e 6 [1, 2, 3, 0, 4, 5])) ?_
 rintro ⟨x124, i126⟩ ⟨A125, N125, D125⟩ σ1 out2 hr he2
 replace hr : spec_l11Into_L2 p1 c6 partners11 x124 i126 = some out2 := hr
 unfold spec_l11Into_L2 at hr
 refine c_len 3 sees_sh (fun (hn : N125 = x124.length) => ?_)
 subst hn
 refine c_seq (c_seq (c_region (lI R (lO (vFa 1 fo127_1 R) (lO (vLd 7 ag122 R R R) (lO (v_len sl122 R) (lO (vLt R R) (l_nil (q_next ?_)))))))))
 rcases bif_ hr with ⟨hb127, hr⟩ | ⟨hb127, hr⟩
 refine c_true R hb127 (c_skip (q_next (c_seq (c_block (c_seq ?_)))))
 obtain ⟨hg128, hr⟩ := gd hr
 obtain ⟨hg131, hr⟩ := gd hr
 refine c_cutq (A := (Unit) × (Nat × HH)) (fun _ => True) (fun a => [(2, (sc A12 partners11 D12)), (3, (pt b13 0)), (4, (pt b14 0)), (6, (pt b15 0)), (7, (iv p1.Store.Buffer)), (8, (pt b23 0)), (9, (sc A76 to75 D76)), (11, (il x73)), (12, (iv i126)), (13, (pt a.2.1 0))]) (fun a => bxl b15 [(.slice none 0 0), (.slice none 0 0), (iv 0), (iv 0), (.slice none 0 0), (.bool false), (.slice none 0 0)] 127 :: bxl b23 [(sc A24 r16 D24), (sc A125 x124 D125), (iv c6.Store.Buffer), (iv c6.Store.Offset), (sc A25 r19 D25), (.bool c6.Sum), (.slice none 0 0)] 127 :: OO kT3 3 A24 D24 r16 :: OO (kT124).share 124 A125 D125 x124 :: OO kT3 3 A25 D25 r19 :: OO kT3 3 A76 D76 to75 :: bxl a.2.1 [(iv (ix p1.Loads i126).Buffer), (iv (ix p1.Loads i126).Offset), (.slice a.2.2.1 a.2.2.2.1 a.2.2.2.2)] 124 :: ow kT3 3 (.slice a.2.2.1 a.2.2.2.1 a.2.2.2.2) (List.replicate (c6.Loops.length : Int).toNat (0 : Int)) :: W1) ?_ ?_
 refine c_some 9 sees_rd (show 0 < p1.Loads.length by have := hg128; omega) (fun g129 o130 ha => ?_)
 subst ha
 refine cdr 19 [] mixo (fun ht hn => (dR 0 R (vFa 1 fo127_1 R) (dR 1 R (vLd 7 ag122 R R R) (dR 2 R (vI R) (dR 3 R (vIa sl122 sz124 R R hg128) (dR 4 R (vz (.pointer (some ⟨g129, o130 + i126.toNat * 3, none⟩)) (v_fa fo124_0 R R)) (dR 5 R (vz (iv (ix p1.Loads i126).Buffer) (v_lde (K := kT124) (fo := 0) (pr := fun x => (iv x.Buffer)) 9 i126 ag3 (dT124.leaf fun _ _ => R) sees_rd R hg128.1 hg128.2)) (dR 6 R (vFa 1 fo127_1 R) (dR 7 R (vLd 7 ag122 R R R) (dR 8 R (vI R) (dR 9 R (vIa sl122 sz124 R R hg128) (dR 10 R (vz (.pointer (some ⟨g129, o130 + i126.toNat * 3 + 1, none⟩)) (v_fa fo124_1 R R)) (dR 11 R (vz (iv (ix p1.Loads i126).Offset) (v_lde (K := kT124) (fo := 1) (pr := fun x => (iv x.Offset)) 9 i126 ag3 (dT124.leaf fun _ _ => R) sees_rd R hg128.1 hg128.2)) (dR 12 R (vFa 0 fo127_0 R) (dR 13 R (vLd 6 ag29 R R R) (dR 14 R (v_len sl29 R) (d_all [15, 17] (by kernel_rfl) R ⟨?_, ?_, trivial⟩)))))))))))))))))
 refine l_make (K := kT3) (m := (c6.Loops.length : Int)) (z := (0 : Int)) R R sl29 sz3 by3 (Zr.zk zT3 zc3) (by decide) R R hg131.1 hg131.2.1 hg131.2.2 (fun A132 D132 => (l_nil (q_draw (sL [0]) (dR 16 R (vz (.agg [(iv (ix p1.Loads i126).Buffer), (iv (ix p1.Loads i126).Offset), (sc A132 (List.replicate (c6.Loops.length : Int).toNat (0 : Int)) D132)].toArray) (v_build pl124 zc124 R R)) (hS := (sL [0])) (d_one 17 (by kernel_rfl) R (l_alloc R R zc124 (fun b133 => (l_nil (q_draw (sL [1, 0]) (d_one 18 (by kernel_rfl) R (l_stores 0 R R sz124 R R R R R R (lN (bxl b133 [(iv (ix p1.Loads i126).Buffer), (iv (ix p1.Loads i126).Offset), (sc A132 (List.replicate (c6.Loops.length : Int).toNat (0 : Int)) D132)] 124 :: OO kT3 3 A132 D132 (List.replicate (c6.Loops.length : Int).toNat (0 : Int)) :: _ :: bxl b23 [(sc A24 r16 D24), (sc A125 x124 D125), (iv c6.Store.Buffer), (iv c6.Store.Offset), (sc A25 r19 D25), (.bool c6.Sum), (.slice none 0 0)] 127 :: _ :: OO (kT124).share 124 A125 D125 x124 :: _ :: OO kT3 3 A76 D76 to75 :: W1) ?_))))))))))))
 refine l_nil (q_draw (sL [1, 0]) (d_done (by kernel_rfl) ?_))
 exact q_join ((), (b133, (A132, (List.replicate (c6.Loops.length : Int).toNat (0 : Int)).length, D132))) trivial (aS R) (fun w s => (s.f 8 [2, 6, 0, 2]))
 refine l_alloc R R zc124 (fun b133 => (l_nil (q_draw (sL [0]) (d_one 15 (by kernel_rfl) R (l_make (K := kT3) (m := (c6.Loops.length : Int)) (z := (0 : Int)) R R sl29 sz3 by3 (Zr.zk zT3 zc3) (by decide) R R hg131.1 hg131.2.1 hg131.2.2 (fun A132 D132 => (l_nil (q_draw (sL [1, 0]) (dR 16 R (vz (.agg [(iv (ix p1.Loads i126).Buffer), (iv (ix p1.Loads i126).Offset), (sc A132 (List.replicate (c6.Loops.length : Int).toNat (0 : Int)) D132)].toArray) (v_build pl124 zc124 R R)) (hS := (sL [1, 0])) (d_one 18 (by kernel_rfl) R (l_stores 1 R R sz124 R R R R R R (lN (_ :: _ :: _ :: _ :: _ :: _ :: _ :: _ :: W1) ?_))))))))))))
 refine l_nil (q_draw (sL [1, 0]) (d_done (by kernel_rfl) ?_))
 exact q_join ((), (b133, (A132, (List.replicate (c6.Loops.length : Int).toNat (0 : Int)).length, D132))) trivial (aS R) (fun w s => (s.f 8 [2, 6, 1, 1, 0, 1]))
 rintro ⟨_, ⟨b134, ⟨A135, N135, D135⟩⟩⟩ σ1 -
 refine q_len 7 sees_ow (fun (hn : N135 = (List.replicate (c6.Loops.length : Int).toNat (0 : Int)).length) => ?_)
 subst hn
 refine q_next (c_seq (c_cut (A := ((List Int)) × (Unit)) (fun a => spec_l11Into_J5 p1 x124 i126 a.1 = some out2) (fun a => [(2, (sc A12 partners11 D12)), (3, (pt b13 0)), (4, (pt b14 0)), (6, (pt b15 0)), (7, (iv p1.Store.Buffer)), (8, (pt b23 0)), (9, (sc A76 to75 D76)), (11, (il x73)), (12, (iv i126)), (13, (pt b134 0))]) (fun a => bxl b15 [(.slice none 0 0), (.slice none 0 0), (iv 0), (iv 0), (.slice none 0 0), (.bool false), (.slice none 0 0)] 127 :: bxl b23 [(sc A24 r16 D24), (sc A125 x124 D125), (iv c6.Store.Buffer), (iv c6.Store.Offset), (sc A25 r19 D25), (.bool c6.Sum), (.slice none 0 0)] 127 :: OO kT3 3 A24 D24 r16 :: OO (kT124).share 124 A125 D125 x124 :: OO kT3 3 A25 D25 r19 :: OO kT3 3 A76 D76 to75 :: bxl b134 [(iv (ix p1.Loads i126).Buffer), (iv (ix p1.Loads i126).Offset), (sc A135 (List.replicate (c6.Loops.length : Int).toNat (0 : Int)) D135)] 124 :: ow kT3 3 (.slice A135 (List.replicate (c6.Loops.length : Int).toNat (0 : Int)).length D135) a.1 :: W1) ?_ ?_))
 refine c_seq (c_region (lI R (l_nil (q_next (c_block ?_)))))
 obtain ⟨e3, hl3, hk3⟩ := bd hr
 refine c_loop (A := Unit) hl3 (fun s a => [(2, (sc A12 partners11 D12)), (3, (pt b13 0)), (4, (pt b14 0)), (6, (pt b15 0)), (7, (iv p1.Store.Buffer)), (8, (pt b23 0)), (9, (sc A76 to75 D76)), (11, (il x73)), (12, (iv i126)), (13, (pt b134 0)), (14, (iv s.2))]) (fun s a => bxl b15 [(.slice none 0 0), (.slice none 0 0), (iv 0), (iv 0), (.slice none 0 0), (.bool false), (.slice none 0 0)] 127 :: bxl b23 [(sc A24 r16 D24), (sc A125 x124 D125), (iv c6.Store.Buffer), (iv c6.Store.Offset), (sc A25 r19 D25), (.bool c6.Sum), (.slice none 0 0)] 127 :: OO kT3 3 A24 D24 r16 :: OO (kT124).share 124 A125 D125 x124 :: OO kT3 3 A25 D25 r19 :: OO kT3 3 A76 D76 to75 :: bxl b134 [(iv (ix p1.Loads i126).Buffer), (iv (ix p1.Loads i126).Offset), (sc A135 (List.replicate (c6.Loops.length : Int).toNat (0 : Int)) D135)] 124 :: ow kT3 3 (.slice A135 (List.replicate (c6.Loops.length : Int).toNat (0 : Int)).length D135) s.1 :: W1) () (aS R) (fun w s => s) ?_
 rintro ⟨a151, j152⟩ _ σ1 out3 hr he3
 replace hr : spec_l11Into_L3 p1 c6 partners11 i126 a151 j152 = some out3 := hr
 unfold spec_l11Into_L3 at hr
 refine c_seq (c_seq (c_region (lI R (lS R (lO (v_len sl29 R) (lO (vLt R R) (l_nil (q_next ?_))))))))
 rcases bif_ hr with ⟨hb153, hr⟩ | ⟨hb153, hr⟩
 refine c_true R hb153 (c_skip (q_next (c_seq (c_block ?_))))
 obtain ⟨hg154, hr⟩ := gd hr
 obtain ⟨hg160, hr⟩ := gd hr
 obtain ⟨hg163, hr⟩ := gd hr
 refine c_some 18 sees_rd (show 0 < partners11.length by have := hg154; omega) (fun g155 o156 ha => ?_)
 subst ha
 refine c_some 11 sees_rd (show 0 < p1.Loads.length by have := hg128; omega) (fun g157 o158 ha => ?_)
 subst ha
 refine c_elem (K := kT124) 11 i126 dT124.dec R hg128.1 hg128.2 ?_
 rintro ⟨-, -, ⟨A159, D159⟩⟩
 refine cN (cl g157 (o158 + i126.toNat * 3) [(iv (ix p1.Loads i126).Buffer), (iv (ix p1.Loads i126).Offset), (sc A159 ((ix p1.Loads i126).Steps) D159)] :: RR kT3 A159 D159 ((ix p1.Loads i126).Steps) :: _ :: _ :: _ :: _ :: _ :: _ :: bxl b134 [(iv (ix p1.Loads i126).Buffer), (iv (ix p1.Loads i126).Offset), (sc A135 (List.replicate (c6.Loops.length : Int).toNat (0 : Int)) D135)] 124 :: ow kT3 3 (.slice A135 (List.replicate (c6.Loops.length : Int).toNat (0 : Int)).length D135) a151 :: W1) ?_
 refine c_some 1 sees_rd (show 0 < ((ix p1.Loads i126).Steps).length by have := hg160; omega) (fun g161 o162 ha => ?_)
 subst ha
 refine c_some 9 sees_ow (show 0 < (List.replicate (c6.Loops.length : Int).toNat (0 : Int)).length by have := hg163; omega) (fun g164 o165 ha => ?_)
 subst ha
 refine cdr 17 [9] mixo (fun ht hn => (dR 0 R (vFa 2 fo124_2 R) (hS := (sL [9])) (dR 1 R (vLd 8 ag29 R R R) (hS := (sL [9])) (dR 2 R (vS R) (hS := (sL [9])) (dR 3 R (vI R) (hS := (sL [9])) (dR 4 R (vIa sl29 sz3 R R hg154) (hS := (sL [9])) (dR 5 R (vLi 19 ag3 sees_rd R hg154) (hS := (sL [9])) (dR 6 R (vFa 1 fo127_1 R) (hS := (sL [9])) (dR 7 R (vLd 10 ag122 R R R) (hS := (sL [9])) (dR 8 R (vI R) (hS := (sL [9])) (dR 9 R (vIa sl122 sz124 R R hg128) (hS := (sL [9])) (dR 10 R (vz (.pointer (some ⟨g157, o158 + i126.toNat * 3 + 2, none⟩)) (v_fa fo124_2 R R)) (hS := (sL [9])) (dR 11 R (v_clf (fo := 2) 0 ag29 R R R) (hS := (sL [9])) (dR 12 R (vI R) (hS := (sL [9])) (dR 13 R (vIa sl29 sz3 R R hg160) (hS := (sL [9])) (dR 14 R (vLi 1 ag3 sees_rd R hg160) (hS := (sL [9])) (dR 15 R (vIa sl29 sz3 R R hg163) (hS := (sL [9])) (d_one 16 (by kernel_rfl) R ?_))))))))))))))))))
 refine lM (ow kT3 3 (.slice (ad g164 o165) (List.replicate (c6.Loops.length : Int).toNat (0 : Int)).length D135) a151 :: cl g157 (o158 + i126.toNat * 3) [(iv (ix p1.Loads i126).Buffer), (iv (ix p1.Loads i126).Offset), (sc (ad g161 o162) ((ix p1.Loads i126).Steps) D159)] :: RR kT3 (ad g161 o162) D159 ((ix p1.Loads i126).Steps) :: bxl _ _ _ :: bxl _ _ _ :: ow _ _ _ _ :: ow _ _ _ _ :: ow _ _ _ _ :: ow _ _ _ _ :: bxl b134 [(iv (ix p1.Loads i126).Buffer), (iv (ix p1.Loads i126).Offset), (sc (ad g164 o165) (List.replicate (c6.Loops.length : Int).toNat (0 : Int)) D135)] 124 :: W1) (fun w s => (s.f 10 [9, 1, 0, 9])) ?_
 refine l_stx (K := kT3) (x' := (ix ((ix p1.Loads i126).Steps) j152)) 0 (ix partners11 j152) R R sz3 R R hg163.1 hg163.2 ?_ ?_
 exact fun I h s => (mO3).put I h () (ix ((ix p1.Loads i126).Steps) j152) s
 refine lN (ow kT3 3 (.slice (ad g164 o165) (List.replicate (c6.Loops.length : Int).toNat (0 : Int)).length D135) (a151.set (ix partners11 j152).toNat (ix ((ix p1.Loads i126).Steps) j152)) :: _ :: _ :: _ :: _ :: _ :: _ :: _ :: _ :: _ :: W1) ?_
 refine l_nil (q_draw (sL [0]) (d_done (by kernel_rfl) ?_))
 obtain ⟨l166, hl167, hr⟩ := bd hr
 replace hl167 := Option.some.inj hl167
 refine qM (ow kT3 3 (.slice (ad g164 o165) (List.replicate (c6.Loops.length : Int).toNat (0 : Int)).length D135) l166 :: _ :: _ :: _ :: _ :: _ :: _ :: _ :: _ :: _ :: W1) (fun w s => by rw [← hl167]; exact s) ?_
 refine q_blockn (q_next (c_region (lI R (lO (vAd R R) (lI R (l_nil ?_))))))
 obtain rfl := so hr
 exact qA () (fun w s => (s.f 10 [3, 7, 0, 1]))
 refine c_false R hb153 (c_exit (q_exit ?_))
 obtain rfl := so hr
 obtain rfl := he3 _ R
 have hr := hk3
 refine q_exit (q_block ?_)
 exact qI (a151, ()) hr (fun w s => s)
 rintro ⟨a170, _⟩ σ1 hr
 replace hr : spec_l11Into_J5 p1 x124 i126 a170 = some out2 := hr
 unfold spec_l11Into_J5 at hr
 obtain ⟨hg172, hr⟩ := gd hr
 refine c_region (lO (vFa 1 fo127_1 R) (lO (vLd 1 ag122 R R R) (lO (vz (.agg [(iv (ix p1.Loads i126).Buffer), (iv (ix p1.Loads i126).Offset), (sc A135 (List.replicate (c6.Loops.length : Int).toNat (0 : Int)) D135)].toArray) (v_loadw 6 ag124 sz124 R R R R)) (lM (rds kT3 (.slice A135 (List.replicate (c6.Loops.length : Int).toNat (0 : Int)).length D135) a170 :: rds kT3 (.slice A135 (List.replicate (c6.Loops.length : Int).toNat (0 : Int)).length D135) a170 :: _ :: _ :: _ :: _ :: _ :: _ :: bxl b134 [(iv (ix p1.Loads i126).Buffer), (iv (ix p1.Loads i126).Offset), (sc A135 (List.replicate (c6.Loops.length : Int).toNat (0 : Int)) D135)] 124 :: W1) (fun w s => ((s.shr 7 R).d 0 R)) ?_))))
 refine l_build (K := (kT124).share) (xs := ([(⟨(ix p1.Loads i126).Buffer, (ix p1.Loads i126).Offset, a170⟩ : Access)] : List Access)) (vs := [(.agg [(iv (ix p1.Loads i126).Buffer), (iv (ix p1.Loads i126).Offset), (sc A135 (List.replicate (c6.Loops.length : Int).toNat (0 : Int)) D135)].toArray)]) 1 R R sl122 sz124 zc124 R R R R R R ?_ R (fun A171 D171 => ?_)
 exact fun I h s => (mS124).list [(((), (), (sc A135 (List.replicate (c6.Loops.length : Int).toNat (0 : Int)) D135)), (⟨(ix p1.Loads i126).Buffer, (ix p1.Loads i126).Offset, a170⟩ : Access))] I h s
 refine lN (OO (kT124).share 124 A171 D171 ([(⟨(ix p1.Loads i126).Buffer, (ix p1.Loads i126).Offset, a170⟩ : Access)] : List Access) :: _ :: _ :: _ :: _ :: _ :: _ :: _ :: _ :: W1) ?_
 refine lM (ow _ _ _ _ :: ow _ _ _ _ :: rds _ _ _ :: bxl _ _ _ :: bxl _ _ _ :: ow _ _ _ _ :: ow _ _ _ _ :: ow _ _ _ _ :: bxl _ _ _ :: W1) (fun w s => (s.f 9 [5, 1, 0, 5, 6, 3])) ?_
 refine l_app (K := (kT124).share) 3518437208883 R R sl122 sz124 by124 (Zr.zk (Zr.share zT124) zc124) R R R R R R src_ow hg172 (fun A173 D173 => (lN (OO (kT124).share 124 A173 D173 (x124 ++ ([(⟨(ix p1.Loads i126).Buffer, (ix p1.Loads i126).Offset, a170⟩ : Access)] : List Access)) :: _ :: _ :: _ :: _ :: _ :: _ :: _ :: W1) ?_))
 refine lO (vFa 1 fo127_1 R) (l_store 3 R R sz122 R R R R R (lN (_ :: _ :: _ :: bxl b23 [(sc A24 r16 D24), (sc A173 (x124 ++ ([(⟨(ix p1.Loads i126).Buffer, (ix p1.Loads i126).Offset, a170⟩ : Access)] : List Access)) D173), (iv c6.Store.Buffer), (iv c6.Store.Offset), (sc A25 r19 D25), (.bool c6.Sum), (.slice none 0 0)] 127 :: _ :: _ :: _ :: _ :: W1) ?_))
 refine l_nil (q_blockn (q_next (c_region (lI R (lO (vAd R R) (lI R (l_nil ?_)))))))
 obtain rfl := so hr
 exact qA (A173, (x124 ++ ([(⟨(ix p1.Loads i126).Buffer, (ix p1.Loads i126).Offset, a170⟩ : Access)] : List Access)).length, D173) (fun w s => (s.e 8 [2, 3, 4, 0, 5, 6]))
 refine c_false R hb127 (c_exit (q_exit ?_))
 obtain rfl := so hr
 obtain rfl := he2 _ R
 have hr := hk2
 refine q_exit (q_block ?_)
 exact qI (x124, (A125, x124.length, D125)) hr (fun w s => s)
 rintro ⟨x177, ⟨A178, N178, D178⟩⟩ σ1 hr
 replace hr : spec_l11Into_J6 p1 c6 r16 r19 x73 to75 x177 = some r := hr
 unfold spec_l11Into_J6 at hr
 refine c_len 3 sees_sh (fun (hn : N178 = x177.length) => ?_)
 subst hn
 refine c_seq (c_cut (A := ((List Calc)) × (HH)) (fun a => spec_l11Into_J9 p1 c6 r16 r19 to75 x177 a.1 = some r) (fun a => [(3, (pt b13 0)), (4, (pt b14 0)), (6, (pt b15 0)), (7, (iv p1.Store.Buffer)), (8, (pt b23 0)), (9, (sc A76 to75 D76))]) (fun a => bxl b15 [(.slice none 0 0), (.slice none 0 0), (iv 0), (iv 0), (.slice none 0 0), (.bool false), (.slice none 0 0)] 127 :: bxl b23 [(sc A24 r16 D24), (sc A178 x177 D178), (iv c6.Store.Buffer), (iv c6.Store.Offset), (sc A25 r19 D25), (.bool c6.Sum), (.slice a.2.1 a.2.2.1 a.2.2.2)] 127 :: OO kT3 3 A24 D24 r16 :: OO (kT124).share 124 A178 D178 x177 :: OO kT3 3 A25 D25 r19 :: ow kT216 216 (.slice a.2.1 a.2.2.1 a.2.2.2) a.1 :: OO kT3 3 A76 D76 to75 :: W1) ?_ ?_)
 refine c_seq (c_region (lI R (l_nil (q_next (c_block ?_)))))
 obtain ⟨e4, hl4, hk4⟩ := bd hr
 refine c_loop (A := HH) hl4 (fun s a => [(3, (pt b13 0)), (4, (pt b14 0)), (6, (pt b15 0)), (7, (iv p1.Store.Buffer)), (8, (pt b23 0)), (9, (sc A76 to75 D76)), (11, (il x73)), (15, (iv s.2))]) (fun s a => bxl b15 [(.slice none 0 0), (.slice none 0 0), (iv 0), (iv 0), (.slice none 0 0), (.bool false), (.slice none 0 0)] 127 :: bxl b23 [(sc A24 r16 D24), (sc A178 x177 D178), (iv c6.Store.Buffer), (iv c6.Store.Offset), (sc A25 r19 D25), (.bool c6.Sum), (.slice a.1 a.2.1 a.2.2)] 127 :: OO kT3 3 A24 D24 r16 :: OO (kT124).share 124 A178 D178 x177 :: OO kT3 3 A25 D25 r19 :: ow kT216 216 (.slice a.1 a.2.1 a.2.2) s.1 :: OO kT3 3 A76 D76 to75 :: W1) (none, 0, 0) (aS R) (fun w s => ((s.nilo kT216 216).f 7 [1, 5, 0, 1, 6, 1])) ?_
 rintro ⟨x189, i191⟩ ⟨A190, N190, D190⟩ σ1 out4 hr he4
 replace hr : spec_l11Into_L4 p1 x73 x189 i191 = some out4 := hr
 unfold spec_l11Into_L4 at hr
 refine c_len 5 sees_ow (fun (hn : N190 = x189.length) => ?_)
 subst hn
 refine c_seq (c_seq (c_region (lI R (lO (vFa 6 fo127_4 R) (lO (vLd 8 ag125 R R R) (lO (v_len sl125 R) (lO (vLt R R) (l_nil (q_next ?_)))))))))
 rcases bif_ hr with ⟨hb192, hr⟩ | ⟨hb192, hr⟩
 refine c_true R hb192 (c_skip (q_next (c_seq (c_block (c_seq ?_)))))
 obtain ⟨hg193, hr⟩ := gd hr
 refine c_region (lO (vFa 6 fo127_4 R) (lO (vLd 8 ag125 R R R) (lI R (t_some 12 sees_rd (show 0 < p1.Code.length by have := hg193; omega) (fun g194 o195 ha => ?_)))))
 subst ha
 refine lO (vIa sl125 sz216 R R hg193) (l_v (.agg [(iv (ix p1.Code i191).Op), (iv (ix p1.Code i191).A), (iv (ix p1.Code i191).B)].toArray) ?_ R R ?_)
 exact (v_ldef (K := kT216) (cells := fun x => [(iv x.Op), (iv x.A), (iv x.B)]) 12 i191 ag216 sz216 (DecK.flat dT216 fun _ _ => R) sees_rd R hg193.1 hg193.2)
 refine l_alloc R R zc216 (fun b196 => (l_stores 0 R R sz216 R R R R R R (lN (bxl b196 [(iv (ix p1.Code i191).Op), (iv (ix p1.Code i191).A), (iv (ix p1.Code i191).B)] 216 :: _ :: bxl b23 [(sc A24 r16 D24), (sc A178 x177 D178), (iv c6.Store.Buffer), (iv c6.Store.Offset), (sc A25 r19 D25), (.bool c6.Sum), (sc A190 x189 D190)] 127 :: _ :: OO (kT124).share 124 A178 D178 x177 :: _ :: OO kT216 216 A190 D190 x189 :: _ :: W1) ?_)))
 refine l_nil (q_next (c_seq (c_cut (A := (Int) × (Unit)) (fun a => spec_l11Into_J8 p1 x189 i191 a.1 = some out4) (fun a => [(3, (pt b13 0)), (4, (pt b14 0)), (6, (pt b15 0)), (7, (iv p1.Store.Buffer)), (8, (pt b23 0)), (9, (sc A76 to75 D76)), (11, (il x73)), (15, (iv i191)), (16, (pt b196 0))]) (fun a => bxl b15 [(.slice none 0 0), (.slice none 0 0), (iv 0), (iv 0), (.slice none 0 0), (.bool false), (.slice none 0 0)] 127 :: bxl b23 [(sc A24 r16 D24), (sc A178 x177 D178), (iv c6.Store.Buffer), (iv c6.Store.Offset), (sc A25 r19 D25), (.bool c6.Sum), (sc A190 x189 D190)] 127 :: OO kT3 3 A24 D24 r16 :: OO (kT124).share 124 A178 D178 x177 :: OO kT3 3 A25 D25 r19 :: OO kT216 216 A190 D190 x189 :: OO kT3 3 A76 D76 to75 :: bxl b196 [(iv (ix p1.Code i191).Op), (iv a.1), (iv (ix p1.Code i191).B)] 216 :: W1) ?_ ?_)))
 refine c_seq (c_region (lO (vFa 0 fo216_0 R) (lO (vLd 0 ag3 R R R) (lO (vEq R R) (l_nil (q_next ?_))))))
 rcases bif_ hr with ⟨hb197, hr⟩ | ⟨hb197, hr⟩
 refine c_true R hb197 (c_region (lO (vFa 1 fo216_1 R) (lO (vLd 0 ag3 R R R) (lI R (lO (vAd R R) (lO (vFa 1 fo216_1 R) (l_store 0 R R sz3 R R R R R (lN (bxl b196 [(iv (ix p1.Code i191).Op), (iv (w64 ((ix p1.Code i191).A + (x73.length : Int)))), (iv (ix p1.Code i191).B)] 216 :: _ :: _ :: _ :: _ :: _ :: _ :: _ :: W1) ?_))))))))
 refine l_nil ?_
 exact qI ((w64 ((ix p1.Code i191).A + (x73.length : Int))), ()) hr (fun w s => (s.f 8 [1, 7, 0, 1]))
 refine c_false R hb197 (c_skip ?_)
 exact qI ((ix p1.Code i191).A, ()) hr (fun w s => (s.f 8 [1, 7, 0, 1]))
 rintro ⟨x198, _⟩ σ1 hr
 replace hr : spec_l11Into_J8 p1 x189 i191 x198 = some out4 := hr
 unfold spec_l11Into_J8 at hr
 obtain ⟨hg200, hr⟩ := gd hr
 refine c_region (lO (vFa 6 fo127_4 R) (lO (vLd 1 ag125 R R R) (lO (vz (.agg [(iv (ix p1.Code i191).Op), (iv x198), (iv (ix p1.Code i191).B)].toArray) (v_loadw 7 ag216 sz216 R R R R)) (l_build (K := kT216) (xs := ([(⟨(ix p1.Code i191).Op, x198, (ix p1.Code i191).B⟩ : Calc)] : List Calc)) (vs := [(.agg [(iv (ix p1.Code i191).Op), (iv x198), (iv (ix p1.Code i191).B)].toArray)]) 0 R R sl125 sz216 zc216 R R R R R R ?_ R (fun A199 D199 => ?_)))))
 exact fun I h s => (mO216).list [(((), (), ()), (⟨(ix p1.Code i191).Op, x198, (ix p1.Code i191).B⟩ : Calc))] I h s
 refine lN (OO kT216 216 A199 D199 ([(⟨(ix p1.Code i191).Op, x198, (ix p1.Code i191).B⟩ : Calc)] : List Calc) :: _ :: _ :: _ :: _ :: _ :: _ :: _ :: bxl b196 [(iv (ix p1.Code i191).Op), (iv x198), (iv (ix p1.Code i191).B)] 216 :: W1) ?_
 refine lM (ow _ _ _ _ :: ow _ _ _ _ :: bxl _ _ _ :: bxl _ _ _ :: ow _ _ _ _ :: ow _ _ _ _ :: ow _ _ _ _ :: ow _ _ _ _ :: bxl _ _ _ :: W1) (fun w s => (s.f 9 [6, 1, 0, 6, 7, 2])) ?_
 refine l_app (K := kT216) 5864062014805 R R sl125 sz216 by216 (Zr.zk zT216 zc216) R R R R R R src_ow hg200 (fun A201 D201 => (lN (OO kT216 216 A201 D201 (x189 ++ ([(⟨(ix p1.Code i191).Op, x198, (ix p1.Code i191).B⟩ : Calc)] : List Calc)) :: _ :: _ :: _ :: _ :: _ :: _ :: _ :: W1) ?_))
 refine lO (vFa 6 fo127_4 R) (l_store 2 R R sz125 R R R R R (lN (_ :: _ :: bxl b23 [(sc A24 r16 D24), (sc A178 x177 D178), (iv c6.Store.Buffer), (iv c6.Store.Offset), (sc A25 r19 D25), (.bool c6.Sum), (sc A201 (x189 ++ ([(⟨(ix p1.Code i191).Op, x198, (ix p1.Code i191).B⟩ : Calc)] : List Calc)) D201)] 127 :: _ :: _ :: _ :: _ :: _ :: W1) ?_))
 refine l_nil (q_blockn (q_next (c_region (lI R (lO (vAd R R) (lI R (l_nil ?_)))))))
 obtain rfl := so hr
 exact qA (A201, (x189 ++ ([(⟨(ix p1.Code i191).Op, x198, (ix p1.Code i191).B⟩ : Calc)] : List Calc)).length, D201) (fun w s => (s.f 8 [1, 5, 0, 1, 6, 1]))
 refine c_false R hb192 (c_exit (q_exit ?_))
 obtain rfl := so hr
 obtain rfl := he4 _ R
 have hr := hk4
 refine q_exit (q_block ?_)
 exact qI (x189, (A190, x189.length, D190)) hr (fun w s => s)
 rintro ⟨x205, ⟨A206, N206, D206⟩⟩ σ1 hr
 replace hr : spec_l11Into_J9 p1 c6 r16 r19 to75 x177 x205 = some r := hr
 unfold spec_l11Into_J9 at hr
 refine c_len 5 sees_ow (fun (hn : N206 = x205.length) => ?_)
 subst hn
 refine c_seq (c_region (l_build (K := kT3) (xs := ([] : List Int)) (vs := []) 0 R R sl29 sz3 zc3 R R R R R R ?_ R (fun A207 D207 => ?_)))
 exact fun I h s => (mO3).list [] I h s
 refine lN (OO kT3 3 A207 D207 ([] : List Int) :: _ :: bxl b23 [(sc A24 r16 D24), (sc A178 x177 D178), (iv c6.Store.Buffer), (iv c6.Store.Offset), (sc A25 r19 D25), (.bool c6.Sum), (sc A206 x205 D206)] 127 :: _ :: _ :: _ :: OO kT216 216 A206 D206 x205 :: _ :: W1) ?_
 refine lS R (l_nil (q_next (c_seq (c_cut (A := ((List Calc)) × (HH)) (fun a => spec_l11Into_J16 c6 r16 r19 x177 a.1 = some r) (fun a => [(6, (pt b15 0)), (8, (pt b23 0))]) (fun a => bxl b15 [(.slice none 0 0), (.slice none 0 0), (iv 0), (iv 0), (.slice none 0 0), (.bool false), (.slice none 0 0)] 127 :: bxl b23 [(sc A24 r16 D24), (sc A178 x177 D178), (iv c6.Store.Buffer), (iv c6.Store.Offset), (sc A25 r19 D25), (.bool c6.Sum), (.slice a.2.1 a.2.2.1 a.2.2.2)] 127 :: OO kT3 3 A24 D24 r16 :: OO (kT124).share 124 A178 D178 x177 :: OO kT3 3 A25 D25 r19 :: ow kT216 216 (.slice a.2.1 a.2.2.1 a.2.2.2) a.1 :: W1) ?_ ?_))))
 refine c_seq (c_region (lI R (l_nil (q_next (c_block ?_)))))
 obtain ⟨e5, hl5, hk5⟩ := bd hr
 refine c_loop (A := HH × HH) hl5 (fun s a => [(3, (pt b13 0)), (4, (pt b14 0)), (6, (pt b15 0)), (7, (iv p1.Store.Buffer)), (8, (pt b23 0)), (9, (sc A76 to75 D76)), (17, (.slice a.2.1 a.2.2.1 a.2.2.2)), (18, (iv s.2.2))]) (fun s a => bxl b15 [(.slice none 0 0), (.slice none 0 0), (iv 0), (iv 0), (.slice none 0 0), (.bool false), (.slice none 0 0)] 127 :: bxl b23 [(sc A24 r16 D24), (sc A178 x177 D178), (iv c6.Store.Buffer), (iv c6.Store.Offset), (sc A25 r19 D25), (.bool c6.Sum), (.slice a.1.1 a.1.2.1 a.1.2.2)] 127 :: OO kT3 3 A24 D24 r16 :: OO (kT124).share 124 A178 D178 x177 :: OO kT3 3 A25 D25 r19 :: ow kT216 216 (.slice a.1.1 a.1.2.1 a.1.2.2) s.1 :: OO kT3 3 A76 D76 to75 :: ow kT3 3 (.slice a.2.1 a.2.2.1 a.2.2.2) s.2.1 :: W1) ((A206, x205.length, D206), (A207, ([] : List Int).length, D207)) (aS R) (fun w s => (s.f 8 [1, 7, 0, 1])) ?_
 rintro ⟨x248, value250, i252⟩ ⟨⟨A249, N249, D249⟩, ⟨A251, N251, D251⟩⟩ σ1 out5 hr he5
 replace hr : spec_l11Into_L5 p1 c6 to75 x248 value250 i252 = some out5 := hr
 unfold spec_l11Into_L5 at hr
 refine c_len 5 sees_ow (fun (hn : N249 = x248.length) => ?_)
 subst hn
 refine c_len 7 sees_ow (fun (hn : N251 = value250.length) => ?_)
 subst hn
 refine c_seq (c_seq (c_region (lI R (lO (vFa 6 fo127_4 R) (lO (vLd 8 ag125 R R R) (lO (v_len sl125 R) (lO (vLt R R) (l_nil (q_next ?_)))))))))
 rcases bif_ hr with ⟨hb253, hr⟩ | ⟨hb253, hr⟩
 refine c_true R hb253 (c_skip (q_next (c_seq (c_cut (A := ((List Calc) × (List Int)) × (HH × HH)) (fun a => spec_l11Into_J15 i252 a.1.1 a.1.2 = some out5) (fun a => [(3, (pt b13 0)), (4, (pt b14 0)), (6, (pt b15 0)), (7, (iv p1.Store.Buffer)), (8, (pt b23 0)), (9, (sc A76 to75 D76)), (17, (.slice a.2.2.1 a.2.2.2.1 a.2.2.2.2)), (18, (iv i252))]) (fun a => bxl b15 [(.slice none 0 0), (.slice none 0 0), (iv 0), (iv 0), (.slice none 0 0), (.bool false), (.slice none 0 0)] 127 :: bxl b23 [(sc A24 r16 D24), (sc A178 x177 D178), (iv c6.Store.Buffer), (iv c6.Store.Offset), (sc A25 r19 D25), (.bool c6.Sum), (.slice a.2.1.1 a.2.1.2.1 a.2.1.2.2)] 127 :: OO kT3 3 A24 D24 r16 :: OO (kT124).share 124 A178 D178 x177 :: OO kT3 3 A25 D25 r19 :: ow kT216 216 (.slice a.2.1.1 a.2.1.2.1 a.2.1.2.2) a.1.1 :: OO kT3 3 A76 D76 to75 :: ow kT3 3 (.slice a.2.2.1 a.2.2.2.1 a.2.2.2.2) a.1.2 :: W1) ?_ ?_))))
 refine c_block (c_seq ?_)
 obtain ⟨hg254, hr⟩ := gd hr
 refine c_region (lO (vFa 6 fo127_4 R) (lO (vLd 8 ag125 R R R) (lI R (t_some 17 sees_rd (show 0 < c6.Code.length by have := hg254; omega) (fun g255 o256 ha => ?_)))))
 subst ha
 refine lO (vIa sl125 sz216 R R hg254) (l_v (.agg [(iv (ix c6.Code i252).Op), (iv (ix c6.Code i252).A), (iv (ix c6.Code i252).B)].toArray) ?_ R R ?_)
 exact (v_ldef (K := kT216) (cells := fun x => [(iv x.Op), (iv x.A), (iv x.B)]) 17 i252 ag216 sz216 (DecK.flat dT216 fun _ _ => R) sees_rd R hg254.1 hg254.2)
 refine l_alloc R R zc216 (fun b257 => (l_stores 0 R R sz216 R R R R R R (lN (bxl b257 [(iv (ix c6.Code i252).Op), (iv (ix c6.Code i252).A), (iv (ix c6.Code i252).B)] 216 :: _ :: bxl b23 [(sc A24 r16 D24), (sc A178 x177 D178), (iv c6.Store.Buffer), (iv c6.Store.Offset), (sc A25 r19 D25), (.bool c6.Sum), (sc A249 x248 D249)] 127 :: _ :: _ :: _ :: OO kT216 216 A249 D249 x248 :: _ :: OO kT3 3 A251 D251 value250 :: W1) ?_)))
 refine l_nil (q_next (c_seq (c_cut (A := (Int × Int) × (Unit)) (fun a => spec_l11Into_J14 c6 x248 value250 i252 a.1.1 a.1.2 = some out5) (fun a => [(3, (pt b13 0)), (4, (pt b14 0)), (6, (pt b15 0)), (7, (iv p1.Store.Buffer)), (8, (pt b23 0)), (9, (sc A76 to75 D76)), (17, (sc A251 value250 D251)), (18, (iv i252)), (19, (pt b257 0))]) (fun a => bxl b15 [(.slice none 0 0), (.slice none 0 0), (iv 0), (iv 0), (.slice none 0 0), (.bool false), (.slice none 0 0)] 127 :: bxl b23 [(sc A24 r16 D24), (sc A178 x177 D178), (iv c6.Store.Buffer), (iv c6.Store.Offset), (sc A25 r19 D25), (.bool c6.Sum), (sc A249 x248 D249)] 127 :: OO kT3 3 A24 D24 r16 :: OO (kT124).share 124 A178 D178 x177 :: OO kT3 3 A25 D25 r19 :: OO kT216 216 A249 D249 x248 :: OO kT3 3 A76 D76 to75 :: OO kT3 3 A251 D251 value250 :: bxl b257 [(iv (ix c6.Code i252).Op), (iv a.1.1), (iv a.1.2)] 216 :: W1) ?_ ?_)))
 refine c_seq (c_region (lO (vFa 0 fo216_0 R) (lO (vLd 0 ag3 R R R) (l_nil (q_next (c_block (c_seq (c_region (lO (vEq R R) (lB R (l_nil (q_next ?_))))))))))))
 rcases bif_ hr with ⟨hb258, hr⟩ | ⟨hb258, hr⟩
 refine c_true R hb258 (c_seq (c_seq ?_))
 obtain ⟨hg259, hr⟩ := gd hr
 refine c_region (lO (vFa 1 fo127_1 R) (lO (vLd 9 ag122 R R R) (lO (vFa 1 fo216_1 R) (lO (vLd 0 ag3 R R R) (t_some 16 sees_rd (show 0 < c6.Loads.length by have := hg259; omega) (fun g260 o261 ha => ?_))))))
 subst ha
 refine lO (vIa sl122 sz124 R R hg259) (lO (vz (.pointer (some ⟨g260, o261 + (ix c6.Code i252).A.toNat * 3, none⟩)) (v_fa fo124_0 R R)) (lO (vz (iv (ix c6.Loads (ix c6.Code i252).A).Buffer) (v_lde (K := kT124) (fo := 0) (pr := fun x => (iv x.Buffer)) 16 (ix c6.Code i252).A ag3 (dT124.leaf fun _ _ => R) sees_rd R hg259.1 hg259.2)) (lI R (lO (vEq R R) (l_nil (q_next ?_))))))
 rcases bif_ hr with ⟨hb262, hr⟩ | ⟨hb262, hr⟩
 refine c_true R hb262 (c_seq ?_)
 obtain ⟨hg264, hr⟩ := gd hr
 refine c_region (lS R (lO (vFa 6 fo127_4 R) (lO (vLd 10 ag125 R R R) (lO (v_len sl125 R) (lO (vSb R R) (l_build (K := kT3) (xs := ([(w64 ((p1.Code.length : Int) - (1 : Int)))] : List Int)) (vs := [(iv (w64 ((p1.Code.length : Int) - (1 : Int))))]) 0 R R sl29 sz3 zc3 R R R R R R ?_ R (fun A263 D263 => ?_)))))))
 exact fun I h s => (mO3).list [((), (w64 ((p1.Code.length : Int) - (1 : Int))))] I h s
 refine lN (OO kT3 3 A263 D263 ([(w64 ((p1.Code.length : Int) - (1 : Int)))] : List Int) :: _ :: _ :: _ :: _ :: _ :: _ :: _ :: _ :: _ :: W1) ?_
 refine lM (ow _ _ _ _ :: ow _ _ _ _ :: bxl _ _ _ :: bxl _ _ _ :: bxl _ _ _ :: ow _ _ _ _ :: ow _ _ _ _ :: ow _ _ _ _ :: ow _ _ _ _ :: ow _ _ _ _ :: W1) (fun w s => (s.f 10 [9, 1, 0, 9])) ?_
 refine l_app (K := kT3) 17592186044416 R R sl29 sz3 by3 (Zr.zk zT3 zc3) R R R R R R src_ow hg264 (fun A265 D265 => (lN (OO kT3 3 A265 D265 (value250 ++ ([(w64 ((p1.Code.length : Int) - (1 : Int)))] : List Int)) :: _ :: _ :: _ :: _ :: _ :: _ :: _ :: _ :: W1) ?_))
 refine lS R (l_nil (q_next (c_exit (q_exit (q_pass R (q_exit (q_block ?_)))))))
 exact qI ((x248, (value250 ++ ([(w64 ((p1.Code.length : Int) - (1 : Int)))] : List Int))), ((A249, x248.length, D249), (A265, (value250 ++ ([(w64 ((p1.Code.length : Int) - (1 : Int)))] : List Int)).length, D265))) hr (fun w s => (s.f 9 [2, 7, 0, 1]))
 refine c_false R hb262 (c_skip (q_next ?_))
 obtain ⟨hg266, hr⟩ := gd hr
 refine c_region (lS R (lO (vFa 1 fo216_1 R) (lO (vLd 0 ag3 R R R) (t_some 7 sees_ow (show 0 < to75.length by have := hg266; omega) (fun g267 o268 ha => ?_)))))
 subst ha
 refine lO (vIa sl29 sz3 R R hg266) (lO (vLi 7 ag3 sees_ow R hg266) (lO (vFa 1 fo216_1 R) (l_store 0 R R sz3 R R R R R (lN (bxl b257 [(iv (ix c6.Code i252).Op), (iv (ix to75 (ix c6.Code i252).A)), (iv (ix c6.Code i252).B)] 216 :: _ :: _ :: _ :: _ :: _ :: _ :: OO kT3 3 (ad g267 o268) D76 to75 :: OO kT3 3 A251 D251 value250 :: W1) ?_))))
 refine l_nil (q_blockn ?_)
 exact qI (((ix to75 (ix c6.Code i252).A), (ix c6.Code i252).B), ()) hr (fun w s => (s.f 9 [1, 8, 0, 1]))
 refine c_false R hb258 (c_seq (c_region (lO (vEq R R) (lB R (l_nil (q_next ?_))))))
 rcases bif_ hr with ⟨hb269, hr⟩ | ⟨hb269, hr⟩
 refine c_true R hb269 (c_skip (q_blockn ?_))
 exact qI (((ix c6.Code i252).A, (ix c6.Code i252).B), ()) hr (fun w s => (s.f 9 [1, 8, 0, 1]))
 refine c_false R hb269 (c_seq (c_cut (A := (Bool) × (Unit)) (fun a => spec_l11Into_J13 c6 x248 value250 i252 a.1 = some out5) (fun a => [(3, (pt b13 0)), (4, (pt b14 0)), (6, (pt b15 0)), (7, (iv p1.Store.Buffer)), (8, (pt b23 0)), (9, (sc A76 to75 D76)), (17, (sc A251 value250 D251)), (18, (iv i252)), (19, (pt b257 0)), (215, (.bool a.1))]) (fun a => bxl b15 [(.slice none 0 0), (.slice none 0 0), (iv 0), (iv 0), (.slice none 0 0), (.bool false), (.slice none 0 0)] 127 :: bxl b23 [(sc A24 r16 D24), (sc A178 x177 D178), (iv c6.Store.Buffer), (iv c6.Store.Offset), (sc A25 r19 D25), (.bool c6.Sum), (sc A249 x248 D249)] 127 :: OO kT3 3 A24 D24 r16 :: OO (kT124).share 124 A178 D178 x177 :: OO kT3 3 A25 D25 r19 :: OO kT216 216 A249 D249 x248 :: OO kT3 3 A76 D76 to75 :: OO kT3 3 A251 D251 value250 :: bxl b257 [(iv (ix c6.Code i252).Op), (iv (ix c6.Code i252).A), (iv (ix c6.Code i252).B)] 216 :: W1) ?_ ?_))
 refine c_seq (c_region (lO (vEq R R) (lB R (l_nil (q_next ?_)))))
 rcases bif_ hr with ⟨hb270, hr⟩ | ⟨hb270, hr⟩
 refine c_true R hb270 (c_skip ?_)
 exact qI (((ix c6.Code i252).Op == (3 : Int)), ()) hr (fun w s => (s.f 9 [1, 8, 0, 1]))
 refine c_false R hb270 (c_seq (c_region (lO (vEq R R) (lB R (l_nil (q_next ?_))))))
 rcases bif_ hr with ⟨hb271, hr⟩ | ⟨hb271, hr⟩
 refine c_true R hb271 (c_skip ?_)
 exact qI (((ix c6.Code i252).Op == (4 : Int)), ()) hr (fun w s => (s.f 9 [1, 8, 0, 1]))
 refine c_false R hb271 (c_region (lO (vEq R R) (lB R (l_nil ?_))))
 exact qI (((ix c6.Code i252).Op == (5 : Int)), ()) hr (fun w s => (s.f 9 [1, 8, 0, 1]))
 rintro ⟨x272, _⟩ σ1 hr
 replace hr : spec_l11Into_J13 c6 x248 value250 i252 x272 = some out5 := hr
 unfold spec_l11Into_J13 at hr
 rcases bif_ hr with ⟨hb273, hr⟩ | ⟨hb273, hr⟩
 refine c_true R hb273 (c_seq ?_)
 obtain ⟨hg274, hr⟩ := gd hr
 refine c_region (lS R (lO (vFa 1 fo216_1 R) (lO (vLd 8 ag3 R R R) (t_some 7 sees_ow (show 0 < value250.length by have := hg274; omega) (fun g275 o276 ha => ?_)))))
 subst ha
 refine lO (vIa sl29 sz3 R R hg274) (lO (vLi 7 ag3 sees_ow R hg274) (lO (vFa 1 fo216_1 R) (l_store 8 R R sz3 R R R R R (lN (_ :: _ :: _ :: _ :: _ :: _ :: OO kT3 3 A76 D76 to75 :: OO kT3 3 (ad g275 o276) D251 value250 :: bxl b257 [(iv (ix c6.Code i252).Op), (iv (ix value250 (ix c6.Code i252).A)), (iv (ix c6.Code i252).B)] 216 :: W1) ?_))))
 refine l_nil (q_next ?_)
 obtain ⟨hg277, hr⟩ := gd hr
 refine c_region (lS R (lO (vFa 2 fo216_2 R) (lO (vLd 8 ag3 R R R) (lO (vIa sl29 sz3 R R hg277) (lO (vLi 7 ag3 sees_ow R hg277) (lO (vFa 2 fo216_2 R) (l_store 8 R R sz3 R R R R R (lN (_ :: _ :: _ :: _ :: _ :: _ :: _ :: _ :: bxl b257 [(iv (ix c6.Code i252).Op), (iv (ix value250 (ix c6.Code i252).A)), (iv (ix value250 (ix c6.Code i252).B))] 216 :: W1) ?_))))))))
 refine l_nil (q_blockn ?_)
 exact qI (((ix value250 (ix c6.Code i252).A), (ix value250 (ix c6.Code i252).B)), ()) hr (fun w s => s)
 refine c_false R hb273 ?_
 obtain ⟨hg278, hr⟩ := gd hr
 refine c_region (lS R (lO (vFa 1 fo216_1 R) (lO (vLd 8 ag3 R R R) (t_some 7 sees_ow (show 0 < value250.length by have := hg278; omega) (fun g279 o280 ha => ?_)))))
 subst ha
 refine lO (vIa sl29 sz3 R R hg278) (lO (vLi 7 ag3 sees_ow R hg278) (lO (vFa 1 fo216_1 R) (l_store 8 R R sz3 R R R R R (lN (_ :: _ :: _ :: _ :: _ :: _ :: _ :: OO kT3 3 (ad g279 o280) D251 value250 :: bxl b257 [(iv (ix c6.Code i252).Op), (iv (ix value250 (ix c6.Code i252).A)), (iv (ix c6.Code i252).B)] 216 :: W1) ?_))))
 refine l_nil (q_blockn ?_)
 exact qI (((ix value250 (ix c6.Code i252).A), (ix c6.Code i252).B), ()) hr (fun w s => s)
 rintro ⟨⟨x281, x282⟩, _⟩ σ1 hr
 replace hr : spec_l11Into_J14 c6 x248 value250 i252 x281 x282 = some out5 := hr
 unfold spec_l11Into_J14 at hr
 refine c_seq ?_
 obtain ⟨hg284, hr⟩ := gd hr
 refine c_region (lS R (lO (vFa 6 fo127_4 R) (lO (vLd 1 ag125 R R R) (lO (v_len sl125 R) (l_build (K := kT3) (xs := ([(x248.length : Int)] : List Int)) (vs := [(il x248)]) 0 R R sl29 sz3 zc3 R R R R R R ?_ R (fun A283 D283 => ?_))))))
 exact fun I h s => (mO3).list [((), (x248.length : Int))] I h s
 refine lN (OO kT3 3 A283 D283 ([(x248.length : Int)] : List Int) :: _ :: _ :: _ :: _ :: _ :: _ :: _ :: OO kT3 3 A251 D251 value250 :: bxl b257 [(iv (ix c6.Code i252).Op), (iv x281), (iv x282)] 216 :: W1) ?_
 refine lM (ow _ _ _ _ :: ow _ _ _ _ :: bxl _ _ _ :: bxl _ _ _ :: ow _ _ _ _ :: ow _ _ _ _ :: ow _ _ _ _ :: ow _ _ _ _ :: ow _ _ _ _ :: bxl _ _ _ :: W1) (fun w s => (s.f 10 [8, 1, 0, 8, 9, 1])) ?_
 refine l_app (K := kT3) 17592186044416 R R sl29 sz3 by3 (Zr.zk zT3 zc3) R R R R R R src_ow hg284 (fun A285 D285 => (lN (OO kT3 3 A285 D285 (value250 ++ ([(x248.length : Int)] : List Int)) :: _ :: _ :: _ :: _ :: _ :: _ :: _ :: _ :: W1) ?_))
 refine lS R (l_nil (q_next ?_))
 obtain ⟨hg287, hr⟩ := gd hr
 refine c_region (lO (vFa 6 fo127_4 R) (lO (vLd 2 ag125 R R R) (lO (vz (.agg [(iv (ix c6.Code i252).Op), (iv x281), (iv x282)].toArray) (v_loadw 8 ag216 sz216 R R R R)) (l_build (K := kT216) (xs := ([(⟨(ix c6.Code i252).Op, x281, x282⟩ : Calc)] : List Calc)) (vs := [(.agg [(iv (ix c6.Code i252).Op), (iv x281), (iv x282)].toArray)]) 0 R R sl125 sz216 zc216 R R R R R R ?_ R (fun A286 D286 => ?_)))))
 exact fun I h s => (mO216).list [(((), (), ()), (⟨(ix c6.Code i252).Op, x281, x282⟩ : Calc))] I h s
 refine lN (OO kT216 216 A286 D286 ([(⟨(ix c6.Code i252).Op, x281, x282⟩ : Calc)] : List Calc) :: _ :: _ :: _ :: _ :: _ :: _ :: _ :: _ :: _ :: W1) ?_
 refine lM (ow _ _ _ _ :: ow _ _ _ _ :: ow _ _ _ _ :: bxl _ _ _ :: bxl _ _ _ :: ow _ _ _ _ :: ow _ _ _ _ :: ow _ _ _ _ :: ow _ _ _ _ :: bxl _ _ _ :: W1) (fun w s => (s.f 10 [7, 1, 0, 7, 8, 2])) ?_
 refine l_app (K := kT216) 5864062014805 R R sl125 sz216 by216 (Zr.zk zT216 zc216) R R R R R R src_ow hg287 (fun A288 D288 => (lN (OO kT216 216 A288 D288 (x248 ++ ([(⟨(ix c6.Code i252).Op, x281, x282⟩ : Calc)] : List Calc)) :: _ :: _ :: _ :: _ :: _ :: _ :: _ :: _ :: W1) ?_))
 refine lO (vFa 6 fo127_4 R) (l_store 3 R R sz125 R R R R R (lN (_ :: _ :: _ :: bxl b23 [(sc A24 r16 D24), (sc A178 x177 D178), (iv c6.Store.Buffer), (iv c6.Store.Offset), (sc A25 r19 D25), (.bool c6.Sum), (sc A288 (x248 ++ ([(⟨(ix c6.Code i252).Op, x281, x282⟩ : Calc)] : List Calc)) D288)] 127 :: _ :: _ :: _ :: _ :: _ :: W1) ?_))
 refine l_nil (q_blockn ?_)
 exact qI (((x248 ++ ([(⟨(ix c6.Code i252).Op, x281, x282⟩ : Calc)] : List Calc)), (value250 ++ ([(x248.length : Int)] : List Int))), ((A288, (x248 ++ ([(⟨(ix c6.Code i252).Op, x281, x282⟩ : Calc)] : List Calc)).length, D288), (A285, (value250 ++ ([(x248.length : Int)] : List Int)).length, D285))) hr (fun w s => (s.e 9 [2, 3, 4, 5, 6, 0, 7, 1]))
 rintro ⟨⟨x289, value291⟩, ⟨⟨A290, N290, D290⟩, ⟨A292, N292, D292⟩⟩⟩ σ1 hr
 replace hr : spec_l11Into_J15 i252 x289 value291 = some out5 := hr
 unfold spec_l11Into_J15 at hr
 refine c_len 5 sees_ow (fun (hn : N290 = x289.length) => ?_)
 subst hn
 refine c_len 7 sees_ow (fun (hn : N292 = value291.length) => ?_)
 subst hn
 refine c_region (lI R (lO (vAd R R) (lI R (l_nil ?_))))
 obtain rfl := so hr
 exact qA ((A290, x289.length, D290), (A292, value291.length, D292)) (fun w s => s)
 refine c_false R hb253 (c_exit (q_exit ?_))
 obtain rfl := so hr
 obtain rfl := he5 _ R
 have hr := hk5
 refine q_exit (q_block ?_)
 exact qI (x248, (A249, x248.length, D249)) hr (fun w s => (s.f 8 [0, 6]))
 rintro ⟨x298, ⟨A299, N299, D299⟩⟩ σ1 hr
 replace hr : spec_l11Into_J16 c6 r16 r19 x177 x298 = some r := hr
 unfold spec_l11Into_J16 at hr
 refine c_len 5 sees_ow (fun (hn : N299 = x298.length) => ?_)
 subst hn
 refine c_seq (c_region (lO (vz (.agg [(sc A24 r16 D24), (sc A178 x177 D178), (iv c6.Store.Buffer), (iv c6.Store.Offset), (sc A25 r19 D25), (.bool c6.Sum), (sc A299 x298 D299)].toArray) (v_loadw 1 ag127 sz127 R R R R)) (l_stores 0 R R sz127 R R R R R R (lN (bxl b15 [(sc A24 r16 D24), (sc A178 x177 D178), (iv c6.Store.Buffer), (iv c6.Store.Offset), (sc A25 r19 D25), (.bool c6.Sum), (sc A299 x298 D299)] 127 :: bxl b23 [(sc A24 r16 D24), (sc A178 x177 D178), (iv c6.Store.Buffer), (iv c6.Store.Offset), (sc A25 r19 D25), (.bool c6.Sum), (sc A299 x298 D299)] 127 :: _ :: _ :: _ :: OO kT216 216 A299 D299 x298 :: W1) ?_))))
 refine l_nil (q_next (c_ret ?_))
 obtain rfl := so hr
 exact q_fin (vs := [(.agg [(sc A24 r16 D24), (sc A178 x177 D178), (iv c6.Store.Buffer), (iv c6.Store.Offset), (sc A25 r19 D25), (.bool c6.Sum), (sc A299 x298 D299)].toArray)]) (.inl R) ((A24, r16.length, D24), (A178, x177.length, D178), (A25, r19.length, D25), (A299, x298.length, D299)) R ⟨⟨0, b15, _, _, R, R, .inl ⟨ag127, sz127, R⟩⟩, trivial⟩ R (fun w s => (s.f 17 [2, 4]))
theorem spec_l11Try_ok {l1 : Nest} {p7 : Int} {r : Nest × Bool} (hr : spec_l11Try l1 p7 = some r) :
 FnOk Try.prog 70 [(.agg [(.slice A2 N2 D2), (.slice A3 N3 D3), (.slice A4 N4 D4), (.slice A5 N5 D5), (.slice A6 N6 D6)].toArray), (iv p7)] [rds kT3 (.slice A2 N2 D2) l1.Sizes, rds kT3 (.slice A3 N3 D3) l1.Ins, rds kT159 (.slice A4 N4 D4) l1.Fixed, rds kT127 (.slice A5 N5 D5) l1.Kernels, rds kT3 (.slice A6 N6 D6) l1.Outs] (fun (h : HH × HH × HH × HH × HH) => ((.tuple [(.agg [(.slice h.1.1 h.1.2.1 h.1.2.2), (.slice h.2.1.1 h.2.1.2.1 h.2.1.2.2), (.slice h.2.2.1.1 h.2.2.1.2.1 h.2.2.1.2.2), (.slice h.2.2.2.1.1 h.2.2.2.1.2.1 h.2.2.2.1.2.2), (.slice h.2.2.2.2.1 h.2.2.2.2.2.1 h.2.2.2.2.2.2)].toArray), (.bool r.2)].toArray), [rds kT3 (.slice h.1.1 h.1.2.1 h.1.2.2) r.1.Sizes, rds kT3 (.slice h.2.1.1 h.2.1.2.1 h.2.1.2.2) r.1.Ins, rds kT159 (.slice h.2.2.1.1 h.2.2.1.2.1 h.2.2.1.2.2) r.1.Fixed, rds kT127 (.slice h.2.2.2.1.1 h.2.2.2.1.2.1 h.2.2.2.1.2.2) r.1.Kernels, rds kT3 (.slice h.2.2.2.2.1 h.2.2.2.2.2.1 h.2.2.2.2.2.2) r.1.Outs])) := by
 unfold spec_l11Try at hr
 refine fn_ok Try.func70 R 148 R R fun C V => ?_
 refine cN (_ :: _ :: _ :: _ :: _ :: V) ?_
 refine cL 0 sees_rd ?_
 rintro rfl
 refine cL 1 sees_rd ?_
 rintro rfl
 refine cL 2 sees_rd ?_
 rintro rfl
 refine cL 3 sees_rd ?_
 rintro rfl
 refine cL 4 sees_rd ?_
 rintro rfl
 let W0 : List HP := RR kT3 A2 D2 l1.Sizes :: RR kT3 A3 D3 l1.Ins :: RR kT159 A4 D4 l1.Fixed :: RR kT127 A5 D5 l1.Kernels :: RR kT3 A6 D6 l1.Outs :: V
 refine cN W0 ?_
 refine c_seq (c_region (lBx R (fun b8 => (l_alloc R R zc58 (fun b9 => (lB R (l_nil ?_)))))))
 let W1 : List HP := bxl b8 [(sc A2 l1.Sizes D2), (sc A3 l1.Ins D3), (sc A4 l1.Fixed D4), (sc A5 l1.Kernels D5), (sc A6 l1.Outs D6)] 58 :: W0
 refine qN (_ :: W1) ?_
 refine q_next (c_seq ?_)
 obtain ⟨hg10, hr⟩ := gd hr
 refine c_region (lO (vFa 3 fo58_3 R) (lO (vLd 1 ag56 R R R) (lI R (t_some 5 sees_rd (show 0 < l1.Kernels.length by have := hg10; omega) (fun g11 o12 ha => ?_)))))
 subst ha
 refine lO (vIa sl56 sz127 R R hg10) (t_elem (K := kT127) 5 p7 dT127.dec R hg10.1 hg10.2 ?_)
 rintro ⟨⟨A13, D13⟩, ⟨A14, D14⟩, ⟨-, -, ⟨A15, D15⟩⟩, -, ⟨A16, D16⟩⟩
 refine lN (cl g11 (o12 + p7.toNat * 7) [(sc A13 ((ix l1.Kernels p7).Loops) D13), (sc A14 ((ix l1.Kernels p7).Loads) D14), (iv (ix l1.Kernels p7).Store.Buffer), (iv (ix l1.Kernels p7).Store.Offset), (sc A15 ((ix l1.Kernels p7).Store.Steps) D15), (.bool (ix l1.Kernels p7).Sum), (sc A16 ((ix l1.Kernels p7).Code) D16)] :: RR kT3 A13 D13 ((ix l1.Kernels p7).Loops) :: RR kT124 A14 D14 ((ix l1.Kernels p7).Loads) :: RR kT3 A15 D15 ((ix l1.Kernels p7).Store.Steps) :: RR kT216 A16 D16 ((ix l1.Kernels p7).Code) :: _ :: W1) ?_
 refine lO (vz (.agg [(sc A13 ((ix l1.Kernels p7).Loops) D13), (sc A14 ((ix l1.Kernels p7).Loads) D14), (iv (ix l1.Kernels p7).Store.Buffer), (iv (ix l1.Kernels p7).Store.Offset), (sc A15 ((ix l1.Kernels p7).Store.Steps) D15), (.bool (ix l1.Kernels p7).Sum), (sc A16 ((ix l1.Kernels p7).Code) D16)].toArray) (v_clfs (fo := 0) 0 ag127 sz127 R R R R)) (l_alloc R R zc127 (fun b17 => (l_stores 0 R R sz127 R R R R R R (lN (bxl b17 [(sc A13 ((ix l1.Kernels p7).Loops) D13), (sc A14 ((ix l1.Kernels p7).Loads) D14), (iv (ix l1.Kernels p7).Store.Buffer), (iv (ix l1.Kernels p7).Store.Offset), (sc A15 ((ix l1.Kernels p7).Store.Steps) D15), (.bool (ix l1.Kernels p7).Sum), (sc A16 ((ix l1.Kernels p7).Code) D16)] 127 :: _ :: _ :: _ :: _ :: _ :: _ :: W1) ?_))))
 refine l_nil (q_next (c_seq ?_))
 obtain ⟨r18, hx19, hr⟩ := bd hr
 refine c_region (lO (vFa 3 fo58_3 R) (lO (vLd 7 ag56 R R R) (lO (vFa 2 fo127_2 R) (lO (vFa 2 fo124_0 R) (lO (vLd 0 ag3 R R R) (lM (RR kT127 (ad g11 o12) D5 l1.Kernels :: _ :: _ :: _ :: _ :: _ :: _ :: _ :: W1) (fun w s => (s.d 11 R)) ?_))))))
 refine lC 1 cb121 R (spec_l11Reader_ok hx19) R ?_
 rintro _
 refine lN (_ :: _ :: _ :: _ :: _ :: _ :: _ :: W1) ?_
 refine lI R (l_nil (q_next (c_seq (c_seq ?_))))
 obtain ⟨r20, hx21, hr⟩ := bd hr
 refine cQ [(1, (iv p7)), (2, (pt b8 0)), (4, (pt b9 0)), (6, (pt b17 0)), (7, (iv r18)), (35, (.bool ((decide (r18 ≤ p7)) || (!r20))))] (bxl b9 [(.slice none 0 0), (.slice none 0 0), (.slice none 0 0), (.slice none 0 0), (.slice none 0 0)] 58 :: bxl b17 [(sc A13 ((ix l1.Kernels p7).Loops) D13), (sc A14 ((ix l1.Kernels p7).Loads) D14), (iv (ix l1.Kernels p7).Store.Buffer), (iv (ix l1.Kernels p7).Store.Offset), (sc A15 ((ix l1.Kernels p7).Store.Steps) D15), (.bool (ix l1.Kernels p7).Sum), (sc A16 ((ix l1.Kernels p7).Code) D16)] 127 :: RR kT3 A13 D13 ((ix l1.Kernels p7).Loops) :: RR kT124 A14 D14 ((ix l1.Kernels p7).Loads) :: RR kT3 A15 D15 ((ix l1.Kernels p7).Store.Steps) :: RR kT216 A16 D16 ((ix l1.Kernels p7).Code) :: W1) ?_ ?_
 refine c_region (lI R (lI R (lO (vLe R R) (lB R ?_))))
 rcases bo (decide (r18 ≤ p7)) with hc22 | hc22
 refine lf (wfT hc22) (lf (wfT hc22) (lf (wfT hc22) (lf (wfT hc22) (lO (pOT (!r20) R hc22) (l_nil ?_)))))
 exact qJ (fun w s => (s.e 7 [6, 0, 2, 3, 4, 5]))
 refine lW (wnF hc22) (vz (.agg [(sc A2 l1.Sizes D2), (sc A3 l1.Ins D3), (sc A4 l1.Fixed D4), (sc (ad g11 o12) l1.Kernels D5), (sc A6 l1.Outs D6)].toArray) (v_loadw 7 ag58 sz58 R R R R)) (lW (wnF hc22) (vI R) (lM (RR kT3 A2 D2 l1.Sizes :: RR kT3 A3 D3 l1.Ins :: RR kT159 A4 D4 l1.Fixed :: RR kT127 (ad g11 o12) D5 l1.Kernels :: RR kT3 A6 D6 l1.Outs :: bxl _ _ _ :: cl _ _ _ :: rds _ _ _ :: rds _ _ _ :: rds _ _ _ :: rds _ _ _ :: bxl _ _ _ :: W1) (fun w s => ((((((s.d 8 R).d 10 R).d 12 R).d 14 R).d 16 R).e 12 [4, 3, 2, 1, 0, 5, 6, 7, 8, 9, 10, 11])) ?_))
 refine l_calln 5 R (wnF hc22) cb122 R (spec_l11Whole_ok (gcall_t hx21 (not_ff hc22))) R ?_
 rintro _
 refine lN (_ :: _ :: _ :: _ :: _ :: _ :: _ :: W1) ?_
 refine lW (wnF hc22) (vNo R) (lO (pOF R hc22 R) (l_nil ?_))
 exact qJ (fun w s => (s.e 7 [6, 0, 2, 3, 4, 5]))
 rintro σ1
 refine q_next ?_
 rcases bif_ hr with ⟨hb23, hr⟩ | ⟨hb23, hr⟩
 refine c_true R hb23 (c_seq (c_region (lO (vz (.agg [(sc A2 l1.Sizes D2), (sc A3 l1.Ins D3), (sc A4 l1.Fixed D4), (sc (ad g11 o12) l1.Kernels D5), (sc A6 l1.Outs D6)].toArray) (v_loadw 6 ag58 sz58 R R R R)) (l_stores 0 R R sz58 R R R R R R (lN (bxl b9 [(sc A2 l1.Sizes D2), (sc A3 l1.Ins D3), (sc A4 l1.Fixed D4), (sc (ad g11 o12) l1.Kernels D5), (sc A6 l1.Outs D6)] 58 :: _ :: _ :: _ :: _ :: _ :: W1) ?_)))))
 refine lB R (l_nil (q_next (c_ret (q_ret ?_))))
 obtain rfl := so hr
 exact q_fin (vs := [(.agg [(sc A2 l1.Sizes D2), (sc A3 l1.Ins D3), (sc A4 l1.Fixed D4), (sc (ad g11 o12) l1.Kernels D5), (sc A6 l1.Outs D6)].toArray), (.bool false)]) (.inl R) ((A2, l1.Sizes.length, D2), (A3, l1.Ins.length, D3), (A4, l1.Fixed.length, D4), ((ad g11 o12), l1.Kernels.length, D5), (A6, l1.Outs.length, D6)) R ⟨⟨0, b9, _, _, R, R, .inl ⟨ag58, sz58, R⟩⟩, R, trivial⟩ R (fun w s => (s.f 12 [7, 5]))
 refine c_false R hb23 (c_skip (q_next (c_seq ?_)))
 obtain ⟨hg24, hr⟩ := gd hr
 obtain ⟨r29, hx30, hr⟩ := bd hr
 refine c_elem (K := kT127) 10 r18 dT127.dec R hg24.1 hg24.2 ?_
 rintro ⟨⟨A25, D25⟩, ⟨A26, D26⟩, ⟨-, -, ⟨A27, D27⟩⟩, -, ⟨A28, D28⟩⟩
 refine cN (cl g11 (o12 + r18.toNat * 7) [(sc A25 ((ix l1.Kernels r18).Loops) D25), (sc A26 ((ix l1.Kernels r18).Loads) D26), (iv (ix l1.Kernels r18).Store.Buffer), (iv (ix l1.Kernels r18).Store.Offset), (sc A27 ((ix l1.Kernels r18).Store.Steps) D27), (.bool (ix l1.Kernels r18).Sum), (sc A28 ((ix l1.Kernels r18).Code) D28)] :: RR kT3 A25 D25 ((ix l1.Kernels r18).Loops) :: RR kT124 A26 D26 ((ix l1.Kernels r18).Loads) :: RR kT3 A27 D27 ((ix l1.Kernels r18).Store.Steps) :: RR kT216 A28 D28 ((ix l1.Kernels r18).Code) :: bxl b9 [(.slice none 0 0), (.slice none 0 0), (.slice none 0 0), (.slice none 0 0), (.slice none 0 0)] 58 :: _ :: _ :: _ :: _ :: _ :: W1) ?_
 refine cdr 10 [] mixo (fun ht hn => (dR 0 R (vFa 3 fo58_3 R) (dR 1 R (vLd 11 ag56 R R R) (dR 2 R (vI R) (dR 3 R (vIa sl56 sz127 R R hg24) (dR 4 R (vz (.agg [(sc A25 ((ix l1.Kernels r18).Loops) D25), (sc A26 ((ix l1.Kernels r18).Loads) D26), (iv (ix l1.Kernels r18).Store.Buffer), (iv (ix l1.Kernels r18).Store.Offset), (sc A27 ((ix l1.Kernels r18).Store.Steps) D27), (.bool (ix l1.Kernels r18).Sum), (sc A28 ((ix l1.Kernels r18).Code) D28)].toArray) (v_clfs (fo := 0) 0 ag127 sz127 R R R R)) (dR 5 R (vFa 2 fo127_2 R) (dR 6 R (vFa 2 fo124_0 R) (dR 7 R (vLd 6 ag3 R R R) (d_one 8 (by kernel_rfl) R (lM (rds _ _ _ :: rds _ _ _ :: rds _ _ _ :: rds _ _ _ :: cl _ _ _ :: rds _ _ _ :: rds _ _ _ :: rds _ _ _ :: rds _ _ _ :: bxl _ _ _ :: bxl _ _ _ :: rds _ _ _ :: rds _ _ _ :: rds _ _ _ :: rds _ _ _ :: W1) (fun w s => (((((s.d 1 R).d 3 R).d 5 R).d 7 R).f 15 [3, 1, 2, 1, 1, 1, 0, 1, 4, 11])) ?_)))))))))))
 refine lC 4 cb123 R (spec_l11Uses_ok hx30) R ?_
 rintro ⟨A31, N31, D31⟩
 refine lN (ow kT3 3 (.slice A31 N31 D31) r29 :: _ :: _ :: _ :: _ :: _ :: _ :: _ :: _ :: _ :: _ :: _ :: W1) ?_
 refine l_len 0 sees_ow ?_
 rintro rfl
 refine l_nil (q_draw (sL [0]) (dR 9 R (vS R) (hS := (sL [0])) (d_done (by kernel_rfl) (q_next (c_seq (c_region (l_build (K := kT3) (xs := ([] : List Int)) (vs := []) 0 R R sl29 sz3 zc3 R R R R R R ?_ R (fun A32 D32 => ?_))))))))
 exact fun I h s => (mO3).list [] I h s
 refine lN (OO kT3 3 A32 D32 ([] : List Int) :: _ :: _ :: _ :: _ :: _ :: _ :: _ :: _ :: _ :: _ :: _ :: _ :: W1) ?_
 refine lS R (l_nil (q_next (c_seq (c_cut (A := ((List Int)) × (HH)) (fun a => spec_l11Try_J1 l1 p7 r18 a.1 = some r) (fun a => [(1, (iv p7)), (2, (pt b8 0)), (4, (pt b9 0)), (6, (pt b17 0)), (7, (iv r18)), (9, (.slice a.2.1 a.2.2.1 a.2.2.2))]) (fun a => bxl b9 [(.slice none 0 0), (.slice none 0 0), (.slice none 0 0), (.slice none 0 0), (.slice none 0 0)] 58 :: bxl b17 [(sc A13 ((ix l1.Kernels p7).Loops) D13), (sc A14 ((ix l1.Kernels p7).Loads) D14), (iv (ix l1.Kernels p7).Store.Buffer), (iv (ix l1.Kernels p7).Store.Offset), (sc A15 ((ix l1.Kernels p7).Store.Steps) D15), (.bool (ix l1.Kernels p7).Sum), (sc A16 ((ix l1.Kernels p7).Code) D16)] 127 :: RR kT3 A13 D13 ((ix l1.Kernels p7).Loops) :: RR kT124 A14 D14 ((ix l1.Kernels p7).Loads) :: RR kT3 A15 D15 ((ix l1.Kernels p7).Store.Steps) :: RR kT216 A16 D16 ((ix l1.Kernels p7).Code) :: ow kT3 3 (.slice a.2.1 a.2.2.1 a.2.2.2) a.1 :: W1) ?_ ?_))))
 refine c_seq (c_region (lI R (l_nil (q_next (c_block ?_)))))
 obtain ⟨e1, hl1, hk1⟩ := bd hr
 refine c_loop (A := HH × HH) hl1 (fun s a => [(1, (iv p7)), (2, (pt b8 0)), (4, (pt b9 0)), (6, (pt b17 0)), (7, (iv r18)), (8, (.slice a.1.1 a.1.2.1 a.1.2.2)), (9, (.slice a.2.1 a.2.2.1 a.2.2.2)), (10, (iv s.2))]) (fun s a => bxl b9 [(.slice none 0 0), (.slice none 0 0), (.slice none 0 0), (.slice none 0 0), (.slice none 0 0)] 58 :: bxl b17 [(sc A13 ((ix l1.Kernels p7).Loops) D13), (sc A14 ((ix l1.Kernels p7).Loads) D14), (iv (ix l1.Kernels p7).Store.Buffer), (iv (ix l1.Kernels p7).Store.Offset), (sc A15 ((ix l1.Kernels p7).Store.Steps) D15), (.bool (ix l1.Kernels p7).Sum), (sc A16 ((ix l1.Kernels p7).Code) D16)] 127 :: RR kT3 A13 D13 ((ix l1.Kernels p7).Loops) :: RR kT124 A14 D14 ((ix l1.Kernels p7).Loads) :: RR kT3 A15 D15 ((ix l1.Kernels p7).Store.Steps) :: RR kT216 A16 D16 ((ix l1.Kernels p7).Code) :: ow kT3 3 (.slice a.1.1 a.1.2.1 a.1.2.2) r29 :: ow kT3 3 (.slice a.2.1 a.2.2.1 a.2.2.2) s.1 :: W1) ((A31, r29.length, D31), (A32, ([] : List Int).length, D32)) (aS R) (fun w s => (s.f 13 [7, 6, 1, 1, 0, 1])) ?_
 rintro ⟨partners54, i56⟩ ⟨⟨A53, N53, D53⟩, ⟨A55, N55, D55⟩⟩ σ1 out1 hr he1
 replace hr : spec_l11Try_L1 l1 p7 r18 r29 partners54 i56 = some out1 := hr
 unfold spec_l11Try_L1 at hr
 refine c_len 6 sees_ow (fun (hn : N53 = r29.length) => ?_)
 subst hn
 refine c_len 7 sees_ow (fun (hn : N55 = partners54.length) => ?_)
 subst hn
 refine c_seq (c_seq (c_region (lI R (lS R (lO (v_len sl29 R) (lO (vLt R R) (l_nil (q_next ?_))))))))
 rcases bif_ hr with ⟨hb57, hr⟩ | ⟨hb57, hr⟩
 refine c_true R hb57 (c_skip (q_next (c_seq (c_block (c_seq ?_)))))
 obtain ⟨hg62, hr⟩ := gd hr
 obtain ⟨hg65, hr⟩ := gd hr
 obtain ⟨r69, hx70, hr⟩ := bd hr
 refine c_elem (K := kT127) 12 r18 dT127.dec R hg24.1 hg24.2 ?_
 rintro ⟨⟨A58, D58⟩, ⟨A59, D59⟩, ⟨-, -, ⟨A60, D60⟩⟩, -, ⟨A61, D61⟩⟩
 refine cN (cl g11 (o12 + r18.toNat * 7) [(sc A58 ((ix l1.Kernels r18).Loops) D58), (sc A59 ((ix l1.Kernels r18).Loads) D59), (iv (ix l1.Kernels r18).Store.Buffer), (iv (ix l1.Kernels r18).Store.Offset), (sc A60 ((ix l1.Kernels r18).Store.Steps) D60), (.bool (ix l1.Kernels r18).Sum), (sc A61 ((ix l1.Kernels r18).Code) D61)] :: RR kT3 A58 D58 ((ix l1.Kernels r18).Loops) :: RR kT124 A59 D59 ((ix l1.Kernels r18).Loads) :: RR kT3 A60 D60 ((ix l1.Kernels r18).Store.Steps) :: RR kT216 A61 D61 ((ix l1.Kernels r18).Code) :: _ :: _ :: _ :: _ :: _ :: _ :: OO kT3 3 A53 D53 r29 :: OO kT3 3 A55 D55 partners54 :: W1) ?_
 refine c_some 11 sees_ow (show 0 < r29.length by have := hg62; omega) (fun g63 o64 ha => ?_)
 subst ha
 refine c_some 2 sees_rd (show 0 < ((ix l1.Kernels r18).Loads).length by have := hg65; omega) (fun g66 o67 ha => ?_)
 subst ha
 refine c_elem (K := kT124) 2 (ix r29 i56) dT124.dec R hg65.1 hg65.2 ?_
 rintro ⟨-, -, ⟨A68, D68⟩⟩
 refine cN (cl g66 (o67 + (ix r29 i56).toNat * 3) [(iv (ix ((ix l1.Kernels r18).Loads) (ix r29 i56)).Buffer), (iv (ix ((ix l1.Kernels r18).Loads) (ix r29 i56)).Offset), (sc A68 ((ix ((ix l1.Kernels r18).Loads) (ix r29 i56)).Steps) D68)] :: RR kT3 A68 D68 ((ix ((ix l1.Kernels r18).Loads) (ix r29 i56)).Steps) :: cl g11 (o12 + r18.toNat * 7) [(sc A58 ((ix l1.Kernels r18).Loops) D58), (sc (ad g66 o67) ((ix l1.Kernels r18).Loads) D59), (iv (ix l1.Kernels r18).Store.Buffer), (iv (ix l1.Kernels r18).Store.Offset), (sc A60 ((ix l1.Kernels r18).Store.Steps) D60), (.bool (ix l1.Kernels r18).Sum), (sc A61 ((ix l1.Kernels r18).Code) D61)] :: _ :: RR kT124 (ad g66 o67) D59 ((ix l1.Kernels r18).Loads) :: _ :: _ :: _ :: _ :: _ :: _ :: _ :: _ :: OO kT3 3 (ad g63 o64) D53 r29 :: _ :: W1) ?_
 refine cdr 24 [] mixo (fun ht hn => (dR 0 R (vz (.agg [(sc A13 ((ix l1.Kernels p7).Loops) D13), (sc A14 ((ix l1.Kernels p7).Loads) D14), (iv (ix l1.Kernels p7).Store.Buffer), (iv (ix l1.Kernels p7).Store.Offset), (sc A15 ((ix l1.Kernels p7).Store.Steps) D15), (.bool (ix l1.Kernels p7).Sum), (sc A16 ((ix l1.Kernels p7).Code) D16)].toArray) (v_loadw 8 ag127 sz127 R R R R)) (dR 1 R (vFa 3 fo58_3 R) (dR 2 R (vLd 15 ag56 R R R) (dR 3 R (vI R) (dR 4 R (vIa sl56 sz127 R R hg24) (dR 5 R (vz (.agg [(sc A58 ((ix l1.Kernels r18).Loops) D58), (sc (ad g66 o67) ((ix l1.Kernels r18).Loads) D59), (iv (ix l1.Kernels r18).Store.Buffer), (iv (ix l1.Kernels r18).Store.Offset), (sc A60 ((ix l1.Kernels r18).Store.Steps) D60), (.bool (ix l1.Kernels r18).Sum), (sc A61 ((ix l1.Kernels r18).Code) D61)].toArray) (v_clfs (fo := 0) 2 ag127 sz127 R R R R)) (dR 6 R (vFa 3 fo58_3 R) (dR 7 R (vLd 15 ag56 R R R) (dR 8 R (vI R) (dR 9 R (vIa sl56 sz127 R R hg24) (dR 10 R (vz (.pointer (some ⟨g11, o12 + r18.toNat * 7 + 1, none⟩)) (v_fa fo127_1 R R)) (dR 11 R (v_clf (fo := 1) 2 ag122 R R R) (dR 12 R (vS R) (dR 13 R (vI R) (dR 14 R (vIa sl29 sz3 R R hg62) ?_))))))))))))))))
 refine dR 15 R (vLi 13 ag3 sees_ow R hg62) (dR 16 R (vIa sl122 sz124 R R hg65) (dR 17 R (vz (.agg [(iv (ix ((ix l1.Kernels r18).Loads) (ix r29 i56)).Buffer), (iv (ix ((ix l1.Kernels r18).Loads) (ix r29 i56)).Offset), (sc A68 ((ix ((ix l1.Kernels r18).Loads) (ix r29 i56)).Steps) D68)].toArray) (v_clfs (fo := 0) 0 ag124 sz124 R R R R)) (d_one 18 (by kernel_rfl) R (lM (rds _ _ _ :: rds _ _ _ :: rds _ _ _ :: rds _ _ _ :: rds _ _ _ :: rds _ _ _ :: rds _ _ _ :: rds _ _ _ :: rds _ _ _ :: cl _ _ _ :: rds _ _ _ :: cl _ _ _ :: rds _ _ _ :: rds _ _ _ :: rds _ _ _ :: rds _ _ _ :: bxl _ _ _ :: bxl _ _ _ :: rds _ _ _ :: rds _ _ _ :: rds _ _ _ :: rds _ _ _ :: ow _ _ _ _ :: ow _ _ _ _ :: W1) (fun w s => ((((((((((s.d 9 R).d 11 R).d 13 R).d 15 R).d 7 R).d 9 R).d 11 R).d 13 R).d 9 R).f 24 [8, 1, 7, 1, 6, 1, 5, 1, 4, 1, 3, 1, 2, 1, 1, 1, 0, 1, 9, 15])) ?_))))
 refine lC 9 cb124 R (spec_l11Partners_ok hx70) R ?_
 rintro ⟨A71, N71, D71⟩
 refine lN (ow kT3 3 (.slice A71 N71 D71) r69.1 :: _ :: _ :: _ :: _ :: _ :: _ :: _ :: _ :: _ :: _ :: _ :: _ :: _ :: _ :: _ :: W1) ?_
 refine l_len 0 sees_ow ?_
 rintro rfl
 refine l_nil (q_draw (sL [0]) (dR 19 R (vT R) (hS := (sL [0])) (dR 20 R (vS R) (hS := (sL [0])) (dR 21 R (vB R) (hS := (sL [0])) (dR 22 R (vS R) (hS := (sL [0])) (dR 23 R (vB R) (hS := (sL [0])) (d_done (by kernel_rfl) (q_next (c_seq (c_seq ?_))))))))))
 obtain ⟨r72, hx73, hr⟩ := bd hr
 refine cQ [(1, (iv p7)), (2, (pt b8 0)), (4, (pt b9 0)), (6, (pt b17 0)), (7, (iv r18)), (8, (sc (ad g63 o64) r29 D53)), (10, (iv i56)), (11, (sc A71 r69.1 D71)), (86, (.bool ((!r69.2) || ((decide (i56 > (0 : Int))) && (!r72)))))] (bxl b9 [(.slice none 0 0), (.slice none 0 0), (.slice none 0 0), (.slice none 0 0), (.slice none 0 0)] 58 :: bxl b17 [(sc A13 ((ix l1.Kernels p7).Loops) D13), (sc A14 ((ix l1.Kernels p7).Loads) D14), (iv (ix l1.Kernels p7).Store.Buffer), (iv (ix l1.Kernels p7).Store.Offset), (sc A15 ((ix l1.Kernels p7).Store.Steps) D15), (.bool (ix l1.Kernels p7).Sum), (sc A16 ((ix l1.Kernels p7).Code) D16)] 127 :: RR kT3 A13 D13 ((ix l1.Kernels p7).Loops) :: RR kT124 A14 D14 ((ix l1.Kernels p7).Loads) :: RR kT3 A15 D15 ((ix l1.Kernels p7).Store.Steps) :: RR kT216 A16 D16 ((ix l1.Kernels p7).Code) :: OO kT3 3 (ad g63 o64) D53 r29 :: OO kT3 3 A71 D71 r69.1 :: W1) ?_ ?_
 refine c_region (lB R (lO (vNo R) (lB R ?_)))
 rcases bo (!r69.2) with hc74 | hc74
 refine lf (wfT hc74) (lf (wfT hc74) (lf (wfT hc74) (lf R (lf R (lf R (lf R (lf (wfT hc74) (lO (pOT ((decide (i56 > (0 : Int))) && (!r72)) R hc74) (l_nil ?_)))))))))
 exact qJ (fun w s => (s.f 16 [8, 7, 0, 1]))
 refine lW (wnF hc74) (vI R) (lW (wnF hc74) (vGt R R) (lW (wnF hc74) (vB R) ?_))
 rcases bo (decide (i56 > (0 : Int))) with hc75 | hc75
 refine lW (wnT hc75) (vS R) (lW (wnT hc75) (vS R) (lM (ow _ _ _ _ :: ow _ _ _ _ :: cl _ _ _ :: rds _ _ _ :: cl _ _ _ :: rds _ _ _ :: rds _ _ _ :: rds _ _ _ :: rds _ _ _ :: bxl _ _ _ :: bxl _ _ _ :: rds _ _ _ :: rds _ _ _ :: rds _ _ _ :: rds _ _ _ :: ow _ _ _ _ :: W1) (fun w s => (s.f 16 [0, 1, 15, 1, 1, 14])) ?_))
 refine l_calln 2 R (wnT hc75) cb93 R (FnOk.lends (A' := [OO kT3 3 A71 D71 r69.1, OO kT3 3 A55 D55 partners54]) (A := [RR kT3 A71 D71 r69.1, RR kT3 A55 D55 partners54]) (B := []) (spec_l3SameInts_ok (gcall_t hx73 (and_tt (not_ff hc74) hc75))) ⟨lend_ow, lend_ow, trivial⟩ (fun _ => trivial)) R ?_
 rintro _
 refine lW (wnT hc75) (vNo R) (lW (wnF hc74) (pAT R hc75 R) (lO (pOF R hc74 R) (l_nil ?_)))
 exact qJ (fun w s => (s.f 16 [9, 7, 0, 1]))
 refine lf (wfF hc75) (lf (wfF hc75) (lf (wfF hc75) (lf (wfF hc75) (lW (wnF hc74) (pAF (!r72) R hc75) (lO (pOF R hc74 R) (l_nil ?_))))))
 exact qJ (fun w s => (s.f 16 [8, 7, 0, 1]))
 rintro σ1
 refine q_next ?_
 rcases bif_ hr with ⟨hb76, hr⟩ | ⟨hb76, hr⟩
 refine c_true R hb76 (c_seq (c_region (lO (vz (.agg [(sc A2 l1.Sizes D2), (sc A3 l1.Ins D3), (sc A4 l1.Fixed D4), (sc (ad g11 o12) l1.Kernels D5), (sc A6 l1.Outs D6)].toArray) (v_loadw 8 ag58 sz58 R R R R)) (l_stores 0 R R sz58 R R R R R R (lN (bxl b9 [(sc A2 l1.Sizes D2), (sc A3 l1.Ins D3), (sc A4 l1.Fixed D4), (sc (ad g11 o12) l1.Kernels D5), (sc A6 l1.Outs D6)] 58 :: _ :: _ :: _ :: _ :: _ :: _ :: _ :: W1) ?_)))))
 refine lB R (l_nil (q_next (c_ret (q_ret (q_blockr (q_ret ?_))))))
 obtain rfl := so hr
 obtain rfl := he1 _ R
 have hr := hk1
 refine q_ret (q_blockr (q_ret ?_))
 obtain rfl := so hr
 exact q_fin (vs := [(.agg [(sc A2 l1.Sizes D2), (sc A3 l1.Ins D3), (sc A4 l1.Fixed D4), (sc (ad g11 o12) l1.Kernels D5), (sc A6 l1.Outs D6)].toArray), (.bool false)]) (.inl R) ((A2, l1.Sizes.length, D2), (A3, l1.Ins.length, D3), (A4, l1.Fixed.length, D4), ((ad g11 o12), l1.Kernels.length, D5), (A6, l1.Outs.length, D6)) R ⟨⟨0, b9, _, _, R, R, .inl ⟨ag58, sz58, R⟩⟩, R, trivial⟩ R (fun w s => (s.f 14 [9, 5]))
 refine c_false R hb76 (c_skip (q_next (c_region (lS R (lS R (l_nil (q_blockn (q_next (c_region (lI R (lO (vAd R R) (lI R (l_nil ?_)))))))))))))
 obtain rfl := so hr
 exact qA (((ad g63 o64), r29.length, D53), (A71, r69.1.length, D71)) (fun w s => s)
 refine c_false R hb57 (c_exit (q_exit ?_))
 obtain rfl := so hr
 obtain rfl := he1 _ R
 have hr := hk1
 refine q_exit (q_block ?_)
 exact qI (partners54, (A55, partners54.length, D55)) hr (fun w s => (s.f 8 [0, 6, 7, 1]))
 rintro ⟨partners81, ⟨A82, N82, D82⟩⟩ σ1 hr
 replace hr : spec_l11Try_J1 l1 p7 r18 partners81 = some r := hr
 unfold spec_l11Try_J1 at hr
 refine c_len 6 sees_ow (fun (hn : N82 = partners81.length) => ?_)
 subst hn
 refine c_seq ?_
 obtain ⟨r87, hx88, hr⟩ := bd hr
 refine c_cutq (A := (Unit) × (Nat × HH × HH × HH × HH)) (fun _ => True) (fun a => [(1, (iv p7)), (2, (pt b8 0)), (4, (pt b9 0)), (7, (iv r18)), (13, (pt a.2.1 0))]) (fun a => bxl b9 [(.slice none 0 0), (.slice none 0 0), (.slice none 0 0), (.slice none 0 0), (.slice none 0 0)] 58 :: bxl a.2.1 [(.slice a.2.2.1.1 a.2.2.1.2.1 a.2.2.1.2.2), (.slice a.2.2.2.1.1 a.2.2.2.1.2.1 a.2.2.2.1.2.2), (iv r87.Store.Buffer), (iv r87.Store.Offset), (.slice a.2.2.2.2.1.1 a.2.2.2.2.1.2.1 a.2.2.2.2.1.2.2), (.bool r87.Sum), (.slice a.2.2.2.2.2.1 a.2.2.2.2.2.2.1 a.2.2.2.2.2.2.2)] 127 :: ow kT3 3 (.slice a.2.2.1.1 a.2.2.1.2.1 a.2.2.1.2.2) r87.Loops :: ow (kT124).share 124 (.slice a.2.2.2.1.1 a.2.2.2.1.2.1 a.2.2.2.1.2.2) r87.Loads :: ow kT3 3 (.slice a.2.2.2.2.1.1 a.2.2.2.2.1.2.1 a.2.2.2.2.1.2.2) r87.Store.Steps :: ow kT216 216 (.slice a.2.2.2.2.2.1 a.2.2.2.2.2.2.1 a.2.2.2.2.2.2.2) r87.Code :: W1) ?_ ?_
 refine c_elem (K := kT127) 11 r18 dT127.dec R hg24.1 hg24.2 ?_
 rintro ⟨⟨A83, D83⟩, ⟨A84, D84⟩, ⟨-, -, ⟨A85, D85⟩⟩, -, ⟨A86, D86⟩⟩
 refine cN (cl g11 (o12 + r18.toNat * 7) [(sc A83 ((ix l1.Kernels r18).Loops) D83), (sc A84 ((ix l1.Kernels r18).Loads) D84), (iv (ix l1.Kernels r18).Store.Buffer), (iv (ix l1.Kernels r18).Store.Offset), (sc A85 ((ix l1.Kernels r18).Store.Steps) D85), (.bool (ix l1.Kernels r18).Sum), (sc A86 ((ix l1.Kernels r18).Code) D86)] :: RR kT3 A83 D83 ((ix l1.Kernels r18).Loops) :: RR kT124 A84 D84 ((ix l1.Kernels r18).Loads) :: RR kT3 A85 D85 ((ix l1.Kernels r18).Store.Steps) :: RR kT216 A86 D86 ((ix l1.Kernels r18).Code) :: bxl b9 [(.slice none 0 0), (.slice none 0 0), (.slice none 0 0), (.slice none 0 0), (.slice none 0 0)] 58 :: _ :: _ :: _ :: _ :: _ :: OO kT3 3 A82 D82 partners81 :: W1) ?_
 refine c_st (fun w s => s.shr 11 R) (cdr 10 [] mixo (fun ht hn => (dR 0 R (vz (.agg [(sc A13 ((ix l1.Kernels p7).Loops) D13), (sc A14 ((ix l1.Kernels p7).Loads) D14), (iv (ix l1.Kernels p7).Store.Buffer), (iv (ix l1.Kernels p7).Store.Offset), (sc A15 ((ix l1.Kernels p7).Store.Steps) D15), (.bool (ix l1.Kernels p7).Sum), (sc A16 ((ix l1.Kernels p7).Code) D16)].toArray) (v_loadw 7 ag127 sz127 R R R R)) (dR 1 R (vFa 3 fo58_3 R) (dR 2 R (vLd 12 ag56 R R R) (dR 3 R (vI R) (dR 4 R (vIa sl56 sz127 R R hg24) (dR 5 R (vz (.agg [(sc A83 ((ix l1.Kernels r18).Loops) D83), (sc A84 ((ix l1.Kernels r18).Loads) D84), (iv (ix l1.Kernels r18).Store.Buffer), (iv (ix l1.Kernels r18).Store.Offset), (sc A85 ((ix l1.Kernels r18).Store.Steps) D85), (.bool (ix l1.Kernels r18).Sum), (sc A86 ((ix l1.Kernels r18).Code) D86)].toArray) (v_clfs (fo := 0) 1 ag127 sz127 R R R R)) (dR 6 R (vS R) (d_all [7, 8] (by kernel_rfl) R ⟨?_, ?_, trivial⟩))))))))))
 refine lM (rds _ _ _ :: rds _ _ _ :: rds _ _ _ :: rds _ _ _ :: rds _ _ _ :: rds _ _ _ :: rds _ _ _ :: rds _ _ _ :: RR kT3 A82 D82 partners81 :: RR kT3 A82 D82 partners81 :: cl _ _ _ :: rds _ _ _ :: rds _ _ _ :: rds _ _ _ :: rds _ _ _ :: bxl _ _ _ :: bxl _ _ _ :: rds _ _ _ :: rds _ _ _ :: rds _ _ _ :: rds _ _ _ :: W1) (fun w s => ((((((((((s.d 8 R).d 10 R).d 12 R).d 14 R).d 6 R).d 8 R).d 10 R).d 12 R).d 8 R).f 21 [8, 1, 7, 1, 6, 1, 5, 1, 4, 1, 3, 1, 2, 1, 1, 1, 0, 1, 9, 12])) ?_
 refine lC 9 cb125 R (spec_l11Into_ok hx88) R ?_
 rintro ⟨⟨A89, N89, D89⟩, ⟨A90, N90, D90⟩, ⟨A91, N91, D91⟩, ⟨A92, N92, D92⟩⟩
 refine lN (ow kT3 3 (.slice A89 N89 D89) r87.Loops :: ow (kT124).share 124 (.slice A90 N90 D90) r87.Loads :: ow kT3 3 (.slice A91 N91 D91) r87.Store.Steps :: ow kT216 216 (.slice A92 N92 D92) r87.Code :: _ :: _ :: _ :: _ :: _ :: _ :: _ :: _ :: _ :: _ :: _ :: _ :: W1) ?_
 refine l_len 0 sees_ow ?_
 rintro rfl
 refine l_len 1 sees_sh ?_
 rintro rfl
 refine l_len 2 sees_ow ?_
 rintro rfl
 refine l_len 3 sees_ow ?_
 rintro rfl
 refine l_nil (q_draw (sL [3, 2, 1, 0]) (d_one 8 (by kernel_rfl) R (l_alloc R R zc127 (fun b93 => (l_nil (q_draw (sL [4, 3, 2, 1, 0]) (d_one 9 (by kernel_rfl) R (l_stores 0 R R sz127 R R R R R R (lN (bxl b93 [(sc A89 r87.Loops D89), (sc A90 r87.Loads D90), (iv r87.Store.Buffer), (iv r87.Store.Offset), (sc A91 r87.Store.Steps D91), (.bool r87.Sum), (sc A92 r87.Code D92)] 127 :: _ :: _ :: _ :: _ :: _ :: _ :: _ :: _ :: _ :: _ :: _ :: _ :: _ :: _ :: _ :: _ :: W1) ?_)))))))))
 refine l_nil (q_draw (sL [4, 3, 2, 1, 0]) (d_done (by kernel_rfl) ?_))
 exact q_join ((), (b93, (A89, r87.Loops.length, D89), (A90, r87.Loads.length, D90), (A91, r87.Store.Steps.length, D91), (A92, r87.Code.length, D92))) trivial (aS R) (fun w s => (s.f 17 [11, 1, 0, 5]))
 refine l_alloc R R zc127 (fun b93 => (l_nil (q_draw (sL [0]) (d_one 7 (by kernel_rfl) R (lM (rds _ _ _ :: rds _ _ _ :: rds _ _ _ :: rds _ _ _ :: rds _ _ _ :: rds _ _ _ :: rds _ _ _ :: rds _ _ _ :: rds _ _ _ :: bxl _ _ _ :: rds _ _ _ :: cl _ _ _ :: rds _ _ _ :: rds _ _ _ :: rds _ _ _ :: rds _ _ _ :: bxl _ _ _ :: bxl _ _ _ :: rds _ _ _ :: rds _ _ _ :: rds _ _ _ :: rds _ _ _ :: W1) (fun w s => ((((((((((s.d 9 R).d 11 R).d 13 R).d 15 R).d 7 R).d 9 R).d 11 R).d 13 R).d 9 R).f 22 [8, 1, 7, 1, 6, 1, 5, 1, 4, 1, 3, 1, 2, 1, 1, 1, 0, 1, 9, 13])) ?_)))))
 refine lC 9 cb125 R (spec_l11Into_ok hx88) R ?_
 rintro ⟨⟨A89, N89, D89⟩, ⟨A90, N90, D90⟩, ⟨A91, N91, D91⟩, ⟨A92, N92, D92⟩⟩
 refine lN (ow kT3 3 (.slice A89 N89 D89) r87.Loops :: ow (kT124).share 124 (.slice A90 N90 D90) r87.Loads :: ow kT3 3 (.slice A91 N91 D91) r87.Store.Steps :: ow kT216 216 (.slice A92 N92 D92) r87.Code :: _ :: _ :: _ :: _ :: _ :: _ :: _ :: _ :: _ :: _ :: _ :: _ :: _ :: W1) ?_
 refine l_len 0 sees_ow ?_
 rintro rfl
 refine l_len 1 sees_sh ?_
 rintro rfl
 refine l_len 2 sees_ow ?_
 rintro rfl
 refine l_len 3 sees_ow ?_
 rintro rfl
 refine l_nil (q_draw (sL [4, 3, 2, 1, 0]) (d_one 9 (by kernel_rfl) R (l_stores 4 R R sz127 R R R R R R (lN (_ :: _ :: _ :: _ :: bxl b93 [(sc A89 r87.Loops D89), (sc A90 r87.Loads D90), (iv r87.Store.Buffer), (iv r87.Store.Offset), (sc A91 r87.Store.Steps D91), (.bool r87.Sum), (sc A92 r87.Code D92)] 127 :: _ :: _ :: _ :: _ :: _ :: _ :: _ :: _ :: _ :: _ :: _ :: _ :: W1) ?_))))
 refine l_nil (q_draw (sL [4, 3, 2, 1, 0]) (d_done (by kernel_rfl) ?_))
 exact q_join ((), (b93, (A89, r87.Loops.length, D89), (A90, r87.Loads.length, D90), (A91, r87.Store.Steps.length, D91), (A92, r87.Code.length, D92))) trivial (aS R) (fun w s => (s.e 17 [11, 4, 0, 1, 2, 3]))
 rintro ⟨_, ⟨b94, ⟨A95, N95, D95⟩, ⟨A96, N96, D96⟩, ⟨A97, N97, D97⟩, ⟨A98, N98, D98⟩⟩⟩ σ1 -
 refine q_len 2 sees_ow (fun (hn : N95 = r87.Loops.length) => ?_)
 subst hn
 refine q_len 3 sees_sh (fun (hn : N96 = r87.Loads.length) => ?_)
 subst hn
 refine q_len 4 sees_ow (fun (hn : N97 = r87.Store.Steps.length) => ?_)
 subst hn
 refine q_len 5 sees_ow (fun (hn : N98 = r87.Code.length) => ?_)
 subst hn
 refine q_next (c_seq (c_seq (cQ [(1, (iv p7)), (2, (pt b8 0)), (4, (pt b9 0)), (7, (iv r18)), (13, (pt b94 0)), (112, (.bool (((decide ((r87.Loads.length : Int) > (30 : Int))) || (decide ((r87.Code.length : Int) > (60 : Int)))) || ((r87.Code.length : Int) == (0 : Int)))))] (bxl b9 [(.slice none 0 0), (.slice none 0 0), (.slice none 0 0), (.slice none 0 0), (.slice none 0 0)] 58 :: bxl b94 [(sc A95 r87.Loops D95), (sc A96 r87.Loads D96), (iv r87.Store.Buffer), (iv r87.Store.Offset), (sc A97 r87.Store.Steps D97), (.bool r87.Sum), (sc A98 r87.Code D98)] 127 :: OO kT3 3 A95 D95 r87.Loops :: OO (kT124).share 124 A96 D96 r87.Loads :: OO kT3 3 A97 D97 r87.Store.Steps :: OO kT216 216 A98 D98 r87.Code :: W1) ?_ ?_)))
 refine c_region (lO (vFa 1 fo127_1 R) (lO (vLd 1 ag122 R R R) (lO (v_len sl122 R) (lO (vGt R R) (lB R ?_)))))
 rcases bo (decide ((r87.Loads.length : Int) > (30 : Int))) with hc99 | hc99
 refine lf (wfT hc99) (lf (wfT hc99) (lf (wfT hc99) (lf (wfT hc99) (lO (pOT (decide ((r87.Code.length : Int) > (60 : Int))) R hc99) (lB R (lf (wfT (oT hc99)) (lf (wfT (oT hc99)) (lf (wfT (oT hc99)) (lf (wfT (oT hc99)) (lO (pOT ((r87.Code.length : Int) == (0 : Int)) R (oT hc99)) (l_nil ?_)))))))))))
 exact qJ (fun w s => s)
 refine lW (wnF hc99) (vFa 6 fo127_4 R) (lW (wnF hc99) (vLd 1 ag125 R R R) (lW (wnF hc99) (v_len sl125 R) (lW (wnF hc99) (vGt R R) (lO (pOF R hc99 R) (lB R ?_)))))
 rcases bo ((decide ((r87.Loads.length : Int) > (30 : Int))) || (decide ((r87.Code.length : Int) > (60 : Int)))) with hc100 | hc100
 refine lf (wfT hc100) (lf (wfT hc100) (lf (wfT hc100) (lf (wfT hc100) (lO (pOT ((r87.Code.length : Int) == (0 : Int)) R hc100) (l_nil ?_)))))
 exact qJ (fun w s => s)
 refine lW (wnF hc100) (vFa 6 fo127_4 R) (lW (wnF hc100) (vLd 1 ag125 R R R) (lW (wnF hc100) (v_len sl125 R) (lW (wnF hc100) (vEq R R) (lO (pOF R hc100 R) (l_nil ?_)))))
 exact qJ (fun w s => s)
 rintro σ1
 refine q_next ?_
 rcases bif_ hr with ⟨hb101, hr⟩ | ⟨hb101, hr⟩
 refine c_true R hb101 (c_seq (c_region (lO (vz (.agg [(sc A2 l1.Sizes D2), (sc A3 l1.Ins D3), (sc A4 l1.Fixed D4), (sc (ad g11 o12) l1.Kernels D5), (sc A6 l1.Outs D6)].toArray) (v_loadw 6 ag58 sz58 R R R R)) (l_stores 0 R R sz58 R R R R R R (lN (bxl b9 [(sc A2 l1.Sizes D2), (sc A3 l1.Ins D3), (sc A4 l1.Fixed D4), (sc (ad g11 o12) l1.Kernels D5), (sc A6 l1.Outs D6)] 58 :: bxl b94 [(sc A95 r87.Loops D95), (sc A96 r87.Loads D96), (iv r87.Store.Buffer), (iv r87.Store.Offset), (sc A97 r87.Store.Steps D97), (.bool r87.Sum), (sc A98 r87.Code D98)] 127 :: OO kT3 3 A95 D95 r87.Loops :: OO (kT124).share 124 A96 D96 r87.Loads :: OO kT3 3 A97 D97 r87.Store.Steps :: OO kT216 216 A98 D98 r87.Code :: W1) ?_)))))
 refine lB R (l_nil (q_next (c_ret (q_ret ?_))))
 obtain rfl := so hr
 exact q_fin (vs := [(.agg [(sc A2 l1.Sizes D2), (sc A3 l1.Ins D3), (sc A4 l1.Fixed D4), (sc (ad g11 o12) l1.Kernels D5), (sc A6 l1.Outs D6)].toArray), (.bool false)]) (.inl R) ((A2, l1.Sizes.length, D2), (A3, l1.Ins.length, D3), (A4, l1.Fixed.length, D4), ((ad g11 o12), l1.Kernels.length, D5), (A6, l1.Outs.length, D6)) R ⟨⟨0, b9, _, _, R, R, .inl ⟨ag58, sz58, R⟩⟩, R, trivial⟩ R (fun w s => (s.f 12 [7, 5]))
 refine c_false R hb101 (c_skip (q_next (c_seq (c_region (lO (vz (.agg [(sc A2 l1.Sizes D2), (sc A3 l1.Ins D3), (sc A4 l1.Fixed D4), (sc (ad g11 o12) l1.Kernels D5), (sc A6 l1.Outs D6)].toArray) (v_loadw 6 ag58 sz58 R R R R)) (l_alloc R R zc58 (fun b102 => (l_stores 0 R R sz58 R R R R R R (lN (bxl b102 [(sc A2 l1.Sizes D2), (sc A3 l1.Ins D3), (sc A4 l1.Fixed D4), (sc (ad g11 o12) l1.Kernels D5), (sc A6 l1.Outs D6)] 58 :: bxl b9 [(.slice none 0 0), (.slice none 0 0), (.slice none 0 0), (.slice none 0 0), (.slice none 0 0)] 58 :: _ :: _ :: _ :: _ :: _ :: W1) ?_)))))))))
 refine l_nil (q_next (c_seq (c_region (l_build (K := kT127) (xs := ([] : List Kernel)) (vs := []) 0 R R sl56 sz127 zc127 R R R R R R ?_ R (fun A103 D103 => ?_)))))
 exact fun I h s => (mO127).list [] I h s
 refine lN (OO kT127 127 A103 D103 ([] : List Kernel) :: _ :: _ :: _ :: _ :: _ :: _ :: _ :: W1) ?_
 refine lO (vFa 3 fo58_3 R) (l_store 1 R R sz56 R R R R R (lN (_ :: bxl b102 [(sc A2 l1.Sizes D2), (sc A3 l1.Ins D3), (sc A4 l1.Fixed D4), (sc A103 ([] : List Kernel) D103), (sc A6 l1.Outs D6)] 58 :: _ :: _ :: _ :: _ :: _ :: _ :: W1) ?_))
 refine l_nil (q_next (c_seq (c_cut (A := ((List Kernel)) × (HH)) (fun a => spec_l11Try_J4 l1 a.1 = some r) (fun a => [(4, (pt b9 0)), (14, (pt b102 0))]) (fun a => bxl b9 [(.slice none 0 0), (.slice none 0 0), (.slice none 0 0), (.slice none 0 0), (.slice none 0 0)] 58 :: bxl b102 [(sc A2 l1.Sizes D2), (sc A3 l1.Ins D3), (sc A4 l1.Fixed D4), (.slice a.2.1 a.2.2.1 a.2.2.2), (sc A6 l1.Outs D6)] 58 :: ow (kT127).share 127 (.slice a.2.1 a.2.2.1 a.2.2.2) a.1 :: W1) ?_ ?_)))
 refine c_seq (c_region (lI R (l_nil (q_next (c_block ?_)))))
 obtain ⟨e2, hl2, hk2⟩ := bd hr
 refine c_loop (A := HH) hl2 (fun s a => [(1, (iv p7)), (2, (pt b8 0)), (4, (pt b9 0)), (7, (iv r18)), (13, (pt b94 0)), (14, (pt b102 0)), (15, (iv s.2))]) (fun s a => bxl b9 [(.slice none 0 0), (.slice none 0 0), (.slice none 0 0), (.slice none 0 0), (.slice none 0 0)] 58 :: bxl b94 [(sc A95 r87.Loops D95), (sc A96 r87.Loads D96), (iv r87.Store.Buffer), (iv r87.Store.Offset), (sc A97 r87.Store.Steps D97), (.bool r87.Sum), (sc A98 r87.Code D98)] 127 :: RR kT3 A95 D95 r87.Loops :: RR kT124 A96 D96 r87.Loads :: RR kT3 A97 D97 r87.Store.Steps :: RR kT216 A98 D98 r87.Code :: bxl b102 [(sc A2 l1.Sizes D2), (sc A3 l1.Ins D3), (sc A4 l1.Fixed D4), (.slice a.1 a.2.1 a.2.2), (sc A6 l1.Outs D6)] 58 :: ow (kT127).share 127 (.slice a.1 a.2.1 a.2.2) s.1 :: W1) (A103, ([] : List Kernel).length, D103) (aS R) (fun w s => ((((((s.shr 4 R).shs 5 R).shr 6 R).shr 7 R).wk 4 R).e 8 [6, 7, 4, 3, 2, 1, 5, 0])) ?_
 rintro ⟨x120, i122⟩ ⟨A121, N121, D121⟩ σ1 out2 hr he2
 replace hr : spec_l11Try_L2 l1 p7 r18 r87 x120 i122 = some out2 := hr
 unfold spec_l11Try_L2 at hr
 refine c_len 7 sees_sh (fun (hn : N121 = x120.length) => ?_)
 subst hn
 refine c_seq (c_seq (c_region (lI R (lO (vFa 3 fo58_3 R) (lO (vLd 8 ag56 R R R) (lO (v_len sl56 R) (lO (vLt R R) (l_nil (q_next ?_)))))))))
 rcases bif_ hr with ⟨hb123, hr⟩ | ⟨hb123, hr⟩
 refine c_true R hb123 (c_skip (q_next (c_seq (c_cut (A := ((List Kernel)) × (HH)) (fun a => spec_l11Try_J3 i122 a.1 = some out2) (fun a => [(1, (iv p7)), (2, (pt b8 0)), (4, (pt b9 0)), (7, (iv r18)), (13, (pt b94 0)), (14, (pt b102 0)), (15, (iv i122))]) (fun a => bxl b9 [(.slice none 0 0), (.slice none 0 0), (.slice none 0 0), (.slice none 0 0), (.slice none 0 0)] 58 :: bxl b94 [(sc A95 r87.Loops D95), (sc A96 r87.Loads D96), (iv r87.Store.Buffer), (iv r87.Store.Offset), (sc A97 r87.Store.Steps D97), (.bool r87.Sum), (sc A98 r87.Code D98)] 127 :: RR kT3 A95 D95 r87.Loops :: RR kT124 A96 D96 r87.Loads :: RR kT3 A97 D97 r87.Store.Steps :: RR kT216 A98 D98 r87.Code :: bxl b102 [(sc A2 l1.Sizes D2), (sc A3 l1.Ins D3), (sc A4 l1.Fixed D4), (.slice a.2.1 a.2.2.1 a.2.2.2), (sc A6 l1.Outs D6)] 58 :: ow (kT127).share 127 (.slice a.2.1 a.2.2.1 a.2.2.2) a.1 :: W1) ?_ ?_))))
 refine c_block (c_seq (c_region (lI R (l_nil (q_next (c_block (c_seq (c_region (lI R (lO (vEq R R) (lB R (l_nil (q_next ?_)))))))))))))
 rcases bif_ hr with ⟨hb124, hr⟩ | ⟨hb124, hr⟩
 refine c_true R hb124 (c_skip (q_blockn (q_blockn ?_)))
 exact qI (x120, (A121, x120.length, D121)) hr (fun w s => s)
 refine c_false R hb124 (c_seq (c_region (lI R (lO (vEq R R) (lB R (l_nil (q_next ?_)))))))
 rcases bif_ hr with ⟨hb125, hr⟩ | ⟨hb125, hr⟩
 refine c_true R hb125 ?_
 obtain ⟨hg127, hr⟩ := gd hr
 refine c_region (lO (vFa 3 fo58_3 R) (lO (vLd 6 ag56 R R R) (lO (vz (.agg [(sc A95 r87.Loops D95), (sc A96 r87.Loads D96), (iv r87.Store.Buffer), (iv r87.Store.Offset), (sc A97 r87.Store.Steps D97), (.bool r87.Sum), (sc A98 r87.Code D98)].toArray) (v_loadw 1 ag127 sz127 R R R R)) (lM (RR kT3 A95 D95 r87.Loops :: RR kT124 A96 D96 r87.Loads :: RR kT3 A97 D97 r87.Store.Steps :: RR kT216 A98 D98 r87.Code :: bxl _ _ _ :: bxl _ _ _ :: RR kT3 A95 D95 r87.Loops :: RR kT124 A96 D96 r87.Loads :: RR kT3 A97 D97 r87.Store.Steps :: RR kT216 A98 D98 r87.Code :: bxl b102 [(sc A2 l1.Sizes D2), (sc A3 l1.Ins D3), (sc A4 l1.Fixed D4), (sc A121 x120 D121), (sc A6 l1.Outs D6)] 58 :: OO (kT127).share 127 A121 D121 x120 :: W1) (fun w s => (((((s.d 2 R).d 4 R).d 6 R).d 8 R).f 12 [3, 1, 2, 1, 1, 1, 0, 1, 4, 8])) ?_))))
 refine l_build (K := (kT127).share) (xs := ([r87] : List Kernel)) (vs := [(.agg [(sc A95 r87.Loops D95), (sc A96 r87.Loads D96), (iv r87.Store.Buffer), (iv r87.Store.Offset), (sc A97 r87.Store.Steps D97), (.bool r87.Sum), (sc A98 r87.Code D98)].toArray)]) 4 R R sl56 sz127 zc127 R R R R R R ?_ R (fun A126 D126 => ?_)
 exact fun I h s => (mS127).list [(((sc A95 r87.Loops D95), (sc A96 r87.Loads D96), ((), (), (sc A97 r87.Store.Steps D97)), (), (sc A98 r87.Code D98)), r87)] I h s
 refine lN (OO (kT127).share 127 A126 D126 ([r87] : List Kernel) :: _ :: _ :: _ :: _ :: _ :: _ :: _ :: _ :: W1) ?_
 refine lM (ow _ _ _ _ :: ow _ _ _ _ :: bxl _ _ _ :: bxl _ _ _ :: rds _ _ _ :: rds _ _ _ :: rds _ _ _ :: rds _ _ _ :: bxl _ _ _ :: W1) (fun w s => (s.f 9 [8, 1, 0, 8])) ?_
 refine l_app (K := (kT127).share) 1172812402961 R R sl56 sz127 by127 (Zr.zk (Zr.share zT127) zc127) R R R R R R src_ow hg127 (fun A128 D128 => (lN (OO (kT127).share 127 A128 D128 (x120 ++ ([r87] : List Kernel)) :: _ :: _ :: _ :: _ :: _ :: _ :: _ :: W1) ?_))
 refine lO (vFa 3 fo58_3 R) (l_store 7 R R sz56 R R R R R (lN (_ :: _ :: _ :: _ :: _ :: _ :: _ :: bxl b102 [(sc A2 l1.Sizes D2), (sc A3 l1.Ins D3), (sc A4 l1.Fixed D4), (sc A128 (x120 ++ ([r87] : List Kernel)) D128), (sc A6 l1.Outs D6)] 58 :: W1) ?_))
 refine l_nil (q_blockn (q_blockn ?_))
 exact qI ((x120 ++ ([r87] : List Kernel)), (A128, (x120 ++ ([r87] : List Kernel)).length, D128)) hr (fun w s => (s.f 8 [1, 7, 0, 1]))
 refine c_false R hb125 ?_
 obtain ⟨hg129, hr⟩ := gd hr
 obtain ⟨hg135, hr⟩ := gd hr
 refine c_elem (K := kT127) 12 i122 dT127.dec R hg129.1 hg129.2 ?_
 rintro ⟨⟨A130, D130⟩, ⟨A131, D131⟩, ⟨-, -, ⟨A132, D132⟩⟩, -, ⟨A133, D133⟩⟩
 refine cN (cl g11 (o12 + i122.toNat * 7) [(sc A130 ((ix l1.Kernels i122).Loops) D130), (sc A131 ((ix l1.Kernels i122).Loads) D131), (iv (ix l1.Kernels i122).Store.Buffer), (iv (ix l1.Kernels i122).Store.Offset), (sc A132 ((ix l1.Kernels i122).Store.Steps) D132), (.bool (ix l1.Kernels i122).Sum), (sc A133 ((ix l1.Kernels i122).Code) D133)] :: RR kT3 A130 D130 ((ix l1.Kernels i122).Loops) :: RR kT124 A131 D131 ((ix l1.Kernels i122).Loads) :: RR kT3 A132 D132 ((ix l1.Kernels i122).Store.Steps) :: RR kT216 A133 D133 ((ix l1.Kernels i122).Code) :: _ :: _ :: _ :: _ :: _ :: _ :: bxl b102 [(sc A2 l1.Sizes D2), (sc A3 l1.Ins D3), (sc A4 l1.Fixed D4), (sc A121 x120 D121), (sc A6 l1.Outs D6)] 58 :: OO (kT127).share 127 A121 D121 x120 :: W1) ?_
 refine cdr 8 [] mixo (fun ht hn => (dR 0 R (vFa 3 fo58_3 R) (dR 1 R (vLd 11 ag56 R R R) (dR 2 R (vFa 3 fo58_3 R) (dR 3 R (vLd 13 ag56 R R R) (dR 4 R (vI R) (dR 5 R (vIa sl56 sz127 R R hg129) (dR 6 R (vz (.agg [(sc A130 ((ix l1.Kernels i122).Loops) D130), (sc A131 ((ix l1.Kernels i122).Loads) D131), (iv (ix l1.Kernels i122).Store.Buffer), (iv (ix l1.Kernels i122).Store.Offset), (sc A132 ((ix l1.Kernels i122).Store.Steps) D132), (.bool (ix l1.Kernels i122).Sum), (sc A133 ((ix l1.Kernels i122).Code) D133)].toArray) (v_clfs (fo := 0) 0 ag127 sz127 R R R R)) (d_one 7 (by kernel_rfl) R (lM (rds _ _ _ :: rds _ _ _ :: rds _ _ _ :: rds _ _ _ :: cl _ _ _ :: rds _ _ _ :: rds _ _ _ :: rds _ _ _ :: rds _ _ _ :: bxl _ _ _ :: bxl _ _ _ :: rds _ _ _ :: rds _ _ _ :: rds _ _ _ :: rds _ _ _ :: bxl _ _ _ :: ow _ _ _ _ :: W1) (fun w s => (((((s.d 1 R).d 3 R).d 5 R).d 7 R).f 17 [3, 1, 2, 1, 1, 1, 0, 1, 4, 13])) ?_))))))))))
 refine l_build (K := (kT127).share) (xs := ([(ix l1.Kernels i122)] : List Kernel)) (vs := [(.agg [(sc A130 ((ix l1.Kernels i122).Loops) D130), (sc A131 ((ix l1.Kernels i122).Loads) D131), (iv (ix l1.Kernels i122).Store.Buffer), (iv (ix l1.Kernels i122).Store.Offset), (sc A132 ((ix l1.Kernels i122).Store.Steps) D132), (.bool (ix l1.Kernels i122).Sum), (sc A133 ((ix l1.Kernels i122).Code) D133)].toArray)]) 4 R R sl56 sz127 zc127 R R R R R R ?_ R (fun A134 D134 => ?_)
 exact fun I h s => (mS127).list [(((sc A130 ((ix l1.Kernels i122).Loops) D130), (sc A131 ((ix l1.Kernels i122).Loads) D131), ((), (), (sc A132 ((ix l1.Kernels i122).Store.Steps) D132)), (), (sc A133 ((ix l1.Kernels i122).Code) D133)), (ix l1.Kernels i122))] I h s
 refine lN (OO (kT127).share 127 A134 D134 ([(ix l1.Kernels i122)] : List Kernel) :: _ :: _ :: _ :: _ :: _ :: _ :: _ :: _ :: _ :: _ :: _ :: _ :: _ :: W1) ?_
 refine l_nil (q_draw (sL [0]) (d_one 8 (by kernel_rfl) R (lM (ow _ _ _ _ :: ow _ _ _ _ :: cl _ _ _ :: rds _ _ _ :: rds _ _ _ :: rds _ _ _ :: rds _ _ _ :: bxl _ _ _ :: bxl _ _ _ :: rds _ _ _ :: rds _ _ _ :: rds _ _ _ :: rds _ _ _ :: bxl _ _ _ :: W1) (fun w s => (s.f 14 [13, 1, 0, 13])) ?_)))
 refine l_app (K := (kT127).share) 1172812402961 R R sl56 sz127 by127 (Zr.zk (Zr.share zT127) zc127) R R R R R R src_ow hg135 (fun A136 D136 => (lN (OO (kT127).share 127 A136 D136 (x120 ++ ([(ix l1.Kernels i122)] : List Kernel)) :: _ :: _ :: _ :: _ :: _ :: _ :: _ :: _ :: _ :: _ :: _ :: _ :: W1) ?_))
 refine l_nil (q_last R (d_one 9 (by kernel_rfl) R (lO (vFa 3 fo58_3 R) (l_nil (q_last R (d_one 10 (by kernel_rfl) R (l_store 12 R R sz56 R R R R R (lN (_ :: _ :: _ :: _ :: _ :: _ :: _ :: _ :: _ :: _ :: _ :: _ :: bxl b102 [(sc A2 l1.Sizes D2), (sc A3 l1.Ins D3), (sc A4 l1.Fixed D4), (sc A136 (x120 ++ ([(ix l1.Kernels i122)] : List Kernel)) D136), (sc A6 l1.Outs D6)] 58 :: W1) ?_))))))))
 refine l_nil (q_last R (d_done (by kernel_rfl) (q_blockn (q_blockn ?_))))
 exact qI ((x120 ++ ([(ix l1.Kernels i122)] : List Kernel)), (A136, (x120 ++ ([(ix l1.Kernels i122)] : List Kernel)).length, D136)) hr (fun w s => (s.f 13 [6, 7, 0, 1]))
 rintro ⟨x137, ⟨A138, N138, D138⟩⟩ σ1 hr
 replace hr : spec_l11Try_J3 i122 x137 = some out2 := hr
 unfold spec_l11Try_J3 at hr
 refine c_len 7 sees_sh (fun (hn : N138 = x137.length) => ?_)
 subst hn
 refine c_region (lI R (lO (vAd R R) (lI R (l_nil ?_))))
 obtain rfl := so hr
 exact qA (A138, x137.length, D138) (fun w s => s)
 refine c_false R hb123 (c_exit (q_exit ?_))
 obtain rfl := so hr
 obtain rfl := he2 _ R
 have hr := hk2
 refine q_exit (q_block ?_)
 exact qI (x120, (A121, x120.length, D121)) hr (fun w s => (s.e 8 [0, 6, 7]))
 rintro ⟨x142, ⟨A143, N143, D143⟩⟩ σ1 hr
 replace hr : spec_l11Try_J4 l1 x142 = some r := hr
 unfold spec_l11Try_J4 at hr
 refine c_len 2 sees_sh (fun (hn : N143 = x142.length) => ?_)
 subst hn
 refine c_seq (c_region (lO (vz (.agg [(sc A2 l1.Sizes D2), (sc A3 l1.Ins D3), (sc A4 l1.Fixed D4), (sc A143 x142 D143), (sc A6 l1.Outs D6)].toArray) (v_loadw 1 ag58 sz58 R R R R)) (l_stores 0 R R sz58 R R R R R R (lN (bxl b9 [(sc A2 l1.Sizes D2), (sc A3 l1.Ins D3), (sc A4 l1.Fixed D4), (sc A143 x142 D143), (sc A6 l1.Outs D6)] 58 :: bxl b102 [(sc A2 l1.Sizes D2), (sc A3 l1.Ins D3), (sc A4 l1.Fixed D4), (sc A143 x142 D143), (sc A6 l1.Outs D6)] 58 :: OO (kT127).share 127 A143 D143 x142 :: W1) ?_))))
 refine lB R (l_nil (q_next (c_ret ?_)))
 obtain rfl := so hr
 exact q_fin (vs := [(.agg [(sc A2 l1.Sizes D2), (sc A3 l1.Ins D3), (sc A4 l1.Fixed D4), (sc A143 x142 D143), (sc A6 l1.Outs D6)].toArray), (.bool true)]) (.inl R) ((A2, l1.Sizes.length, D2), (A3, l1.Ins.length, D3), (A4, l1.Fixed.length, D4), (A143, x142.length, D143), (A6, l1.Outs.length, D6)) R ⟨⟨0, b9, _, _, R, R, .inl ⟨ag58, sz58, R⟩⟩, R, trivial⟩ R (fun w s => ((s.shs 2 R).e 9 [4, 5, 6, 0, 8]))
end Go.Proofs.Ytbdchgofcejiiaa
