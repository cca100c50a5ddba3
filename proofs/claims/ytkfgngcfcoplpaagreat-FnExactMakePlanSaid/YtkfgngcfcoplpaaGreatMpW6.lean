import Derived.Test.YtkfgngcfcoplpaaGreatMpW5
set_option linter.unusedVariables false
set_option maxRecDepth 20000
namespace Go.Proofs.YtkfgngcfcoplpaaGreat
open Go Go.Pg
variable {A2 A3 A4 A5 A6 A7 A8 A9 A10 A11 A12 A13 A14 : Option Addr} {D2 D3 D4 D5 D6 D7 D8 D9 D10 D11 D12 D13 D14 N2 N3 N4 N5 N6 N7 N8 N9 N10 N11 N12 N13 N14 : Nat}
theorem Z0d_ok  {list1 : (List Fix)} {r : (List Fix)} (hr : Z0d list1 = some r) :
 FnOk Tryz.prog 107 [(.slice A2 N2 D2), (.func (.func 108) [].toArray [].toArray)] [rds kT57 (.slice A2 N2 D2) list1] (fun (h : HH) => ((.slice h.1 h.2.1 h.2.2), [ow kT57 57 (.slice h.1 h.2.1 h.2.2) r])) := by
 unfold Z0d at hr
 refine fn_ok Tryz.func107 R 26 R R fun C V => ?_
 refine cN (_ :: V) ?_
 refine cL 0 sees_rd ?_
 rintro rfl
 let W0 : List HP := RR kT57 A2 D2 list1 :: V
 refine cN W0 ?_
 refine c_seq (c_region (lS R (l_nil (q_next (c_seq ?_)))))
 obtain ⟨hg4, hr⟩ := gd hr
 refine c_region (lS R (lO (v_len sl33 R) (l_make (K := kT57) (m := (list1.length : Int)) (z := zT57.z) R R sl33 sz57 by57 (Zr.zk zT57 zc57) (by decide) R R hg4.1 hg4.2.1 hg4.2.2 (fun A5 D5 => (lS R (l_nil (q_next (c_seq (c_cut (A := ((List Fix)) × (Unit)) (fun a => Z0d_J1 a.1 = some r) (fun a => [(5, (sc A5 (List.replicate (list1.length : Int).toNat zT57.z) D5))]) (fun a => ow kT57 57 (.slice A5 (List.replicate (list1.length : Int).toNat zT57.z).length D5) a.1 :: W0) ?_ ?_)))))))))
 refine c_seq (c_region (lS R (lO (v_len sl33 R) (lI R (l_nil (q_next (c_block ?_)))))))
 obtain ⟨e1, hl1, hk1⟩ := bd hr
 refine c_loop (A := Unit) hl1 (fun s a => [(1, (.func (.func 108) [].toArray [].toArray)), (5, (sc A5 (List.replicate (list1.length : Int).toNat zT57.z) D5)), (11, (sc A2 list1 D2)), (12, (il list1)), (13, (iv s.2))]) (fun s a => ow kT57 57 (.slice A5 (List.replicate (list1.length : Int).toNat zT57.z).length D5) s.1 :: W0) () (aS R) (fun w s => s) ?_
 rintro ⟨x20, x21⟩ _ σ1 out1 hr he1
 replace hr : Z0d_L1 list1 x20 x21 = some out1 := hr
 unfold Z0d_L1 at hr
 refine c_seq (c_region (lO (vLt R R) (l_nil (q_next (c_seq ?_)))))
 rcases bif_ hr with ⟨hb22, hr⟩ | ⟨hb22, hr⟩
 refine c_true R hb22 (c_skip (q_next (c_seq (c_block (c_seq ?_)))))
 obtain ⟨hg23, hr⟩ := gd hr
 refine c_region (lI R (t_some 1 sees_rd (show 0 < list1.length by have := hg23; omega) (fun g24 o25 ha => ?_)))
 subst ha
 refine lO (vIa sl33 sz57 R R hg23) (t_elem (K := kT57) 1 x21 dT57.dec R hg23.1 hg23.2 ?_)
 rintro ⟨-, ⟨A26, D26⟩⟩
 refine lN (cl g24 (o25 + x21.toNat * 2) [(iv (ix list1 x21).Buffer), (sc A26 ((ix list1 x21).Data) D26)] :: RR kT3 A26 D26 ((ix list1 x21).Data) :: ow kT57 57 (.slice A5 (List.replicate (list1.length : Int).toNat zT57.z).length D5) x20 :: W0) ?_
 refine lO (vz (.agg [(iv (ix list1 x21).Buffer), (sc A26 ((ix list1 x21).Data) D26)].toArray) (v_clfs (fo := 0) 0 ag57 sz57 R R R R)) (l_alloc R R zc57 (fun b27 => (lI R (l_stores 0 R R sz57 R R R R R R (lN (bxl b27 [(iv (ix list1 x21).Buffer), (sc A26 ((ix list1 x21).Data) D26)] 57 :: _ :: _ :: _ :: W0) ?_)))))
 refine l_nil (q_next ?_)
 obtain ⟨r28, hx29, hr⟩ := bd hr
 obtain ⟨hg31, hr⟩ := gd hr
 refine c_region (lS R (lI R (lO (vp (.func (.func 108) [].toArray [].toArray) R) (lO (vz (.agg [(iv (ix list1 x21).Buffer), (sc A26 ((ix list1 x21).Data) D26)].toArray) (v_loadw 0 ag57 sz57 R R R R)) (lM (_ :: _ :: _ :: _ :: _ :: W0) (fun w s => (s.d 2 R)) ?_)))))
 refine l_callvn (fs := []) (cs := []) 1 R R cb108 R R (Z1n_ok hx29) R ?_
 rintro ⟨A30, N30, D30⟩
 refine lN (ow kT3 3 (.slice A30 N30 D30) r28.Data :: _ :: _ :: _ :: _ :: W0) ?_
 refine l_len 0 sees_ow ?_
 rintro rfl
 refine t_some 4 sees_ow (show 0 < (List.replicate (list1.length : Int).toNat zT57.z).length by have := hg31; omega) (fun g32 o33 ha => ?_)
 subst ha
 refine lO (vIa sl33 sz57 R R hg31) (lM (ow kT57 57 (.slice (ad g32 o33) (List.replicate (list1.length : Int).toNat zT57.z).length D5) x20 :: ow _ _ _ _ :: bxl _ _ _ :: cl _ _ _ :: rds _ _ _ :: W0) (fun w s => (s.f 5 [4, 1, 0, 4])) ?_)
 refine l_stx (K := kT57) (x' := r28) 1 x21 R R sz57 R R hg31.1 hg31.2 ?_ ?_
 exact fun I h s => (mO57).put I h ((), (sc A30 r28.Data D30)) r28 s
 refine lN (ow kT57 57 (.slice (ad g32 o33) (List.replicate (list1.length : Int).toNat zT57.z).length D5) (x20.set x21.toNat r28) :: _ :: _ :: _ :: W0) ?_
 refine l_nil (q_blockn (q_next (c_region (lO (vAd R R) (lI R (l_nil ?_))))))
 obtain rfl := so hr
 exact qA () (fun w s => (s.e 4 [0]))
 refine c_false R hb22 (c_exit (q_exit ?_))
 obtain rfl := so hr
 obtain rfl := he1 _ R
 have hr := hk1
 refine q_exit (q_block ?_)
 exact qI (x20, ()) hr (fun w s => s)
 rintro ⟨x36, _⟩ σ1 hr
 replace hr : Z0d_J1 x36 = some r := hr
 unfold Z0d_J1 at hr
 refine c_seq (c_region (lS R (lS R (l_nil (q_next (c_ret ?_))))))
 obtain rfl := so hr
 exact qF (A5, (List.replicate (list1.length : Int).toNat zT57.z).length, D5) (fun w s => (s.e 2 [0]))
theorem Z1b_ok  {a1 : Access} {r : Access} (hr : Z1b a1 = some r) :
 FnOk Tryz.prog 154 [(.agg [(iv a1.Buffer), (iv a1.Offset), (.slice A2 N2 D2)].toArray)] [rds kT3 (.slice A2 N2 D2) a1.Steps] (fun (h : HH) => ((.agg [(iv r.Buffer), (iv r.Offset), (.slice h.1 h.2.1 h.2.2)].toArray), [ow kT3 3 (.slice h.1 h.2.1 h.2.2) r.Steps])) := by
 unfold Z1b at hr
 refine fn_ok Tryz.func154 R 11 R R fun C V => ?_
 refine cN (_ :: V) ?_
 refine cL 0 sees_rd ?_
 rintro rfl
 let W0 : List HP := RR kT3 A2 D2 a1.Steps :: V
 refine cN W0 ?_
 refine c_seq (c_region (lBx R (fun b3 => (l_alloc R R zc61 (fun b4 => (l_nil ?_))))))
 let W1 : List HP := bxl b3 [(iv a1.Buffer), (iv a1.Offset), (sc A2 a1.Steps D2)] 61 :: W0
 refine qN (_ :: W1) ?_
 refine q_next (c_seq ?_)
 obtain ⟨r5, hx6, hr⟩ := bd hr
 refine cdr 9 [0] mixo (fun ht hn => (dR 0 R (vFa 0 fo61_0 R) (hS := (sL [0])) (dR 1 R (vLd 0 ag3 R R R) (hS := (sL [0])) (dR 2 R (vFa 1 fo61_1 R) (hS := (sL [0])) (dR 3 R (vLd 0 ag3 R R R) (hS := (sL [0])) (dR 4 R (vFa 2 fo61_2 R) (hS := (sL [0])) (dR 5 R (vLd 0 ag22 R R R) (hS := (sL [0])) (d1 6 R (lM (RR kT3 A2 D2 a1.Steps :: _ :: W1) (fun w s => (s.d 2 R)) ?_)))))))))
 refine lC 1 cb83 R (Z0r_ok hx6) R ?_
 rintro ⟨A7, N7, D7⟩
 refine lN (ow kT3 3 (.slice A7 N7 D7) r5 :: _ :: W1) ?_
 refine l_len 0 sees_ow ?_
 rintro rfl
 refine l_nil (q_draw (sL [1, 0]) (dR 7 R (vz (.agg [(iv a1.Buffer), (iv a1.Offset), (sc A7 r5 D7)].toArray) (v_build pl61 zc61 R R)) (hS := (sL [1, 0])) (d1 8 R (l_stores 1 R R sz61 R R R R R R (lN (_ :: bxl b4 [(iv a1.Buffer), (iv a1.Offset), (sc A7 r5 D7)] 61 :: W1) ?_)))))
 refine l_nil (q_draw (sL [1, 0]) (dD (q_next (c_ret ?_))))
 obtain rfl := so hr
 exact q_fin (vs := [(.agg [(iv a1.Buffer), (iv a1.Offset), (sc A7 r5 D7)].toArray)]) (.inl R) (A7, r5.length, D7) R ⟨⟨1, b4, _, _, R, R, .inl ⟨ag61, sz61, R⟩⟩, trivial⟩ R (fun w s => (s.e 4 [0]))
theorem Z0e_ok  {list1 : (List Access)} {r : (List Access)} (hr : Z0e list1 = some r) :
 FnOk Tryz.prog 153 [(.slice A2 N2 D2), (.func (.func 154) [].toArray [].toArray)] [rds kT61 (.slice A2 N2 D2) list1] (fun (h : HH) => ((.slice h.1 h.2.1 h.2.2), [ow kT61 61 (.slice h.1 h.2.1 h.2.2) r])) := by
 unfold Z0e at hr
 refine fn_ok Tryz.func153 R 26 R R fun C V => ?_
 refine cN (_ :: V) ?_
 refine cL 0 sees_rd ?_
 rintro rfl
 let W0 : List HP := RR kT61 A2 D2 list1 :: V
 refine cN W0 ?_
 refine c_seq (c_region (lS R (l_nil (q_next (c_seq ?_)))))
 obtain ⟨hg4, hr⟩ := gd hr
 refine c_region (lS R (lO (v_len sl59 R) (l_make (K := kT61) (m := (list1.length : Int)) (z := zT61.z) R R sl59 sz61 by61 (Zr.zk zT61 zc61) (by decide) R R hg4.1 hg4.2.1 hg4.2.2 (fun A5 D5 => (lS R (l_nil (q_next (c_seq (c_cut (A := ((List Access)) × (Unit)) (fun a => Z0e_J1 a.1 = some r) (fun a => [(5, (sc A5 (List.replicate (list1.length : Int).toNat zT61.z) D5))]) (fun a => ow kT61 61 (.slice A5 (List.replicate (list1.length : Int).toNat zT61.z).length D5) a.1 :: W0) ?_ ?_)))))))))
 refine c_seq (c_region (lS R (lO (v_len sl59 R) (lI R (l_nil (q_next (c_block ?_)))))))
 obtain ⟨e1, hl1, hk1⟩ := bd hr
 refine c_loop (A := Unit) hl1 (fun s a => [(1, (.func (.func 154) [].toArray [].toArray)), (5, (sc A5 (List.replicate (list1.length : Int).toNat zT61.z) D5)), (11, (sc A2 list1 D2)), (12, (il list1)), (13, (iv s.2))]) (fun s a => ow kT61 61 (.slice A5 (List.replicate (list1.length : Int).toNat zT61.z).length D5) s.1 :: W0) () (aS R) (fun w s => s) ?_
 rintro ⟨x20, x21⟩ _ σ1 out1 hr he1
 replace hr : Z0e_L1 list1 x20 x21 = some out1 := hr
 unfold Z0e_L1 at hr
 refine c_seq (c_region (lO (vLt R R) (l_nil (q_next (c_seq ?_)))))
 rcases bif_ hr with ⟨hb22, hr⟩ | ⟨hb22, hr⟩
 refine c_true R hb22 (c_skip (q_next (c_seq (c_block (c_seq ?_)))))
 obtain ⟨hg23, hr⟩ := gd hr
 refine c_region (lI R (t_some 1 sees_rd (show 0 < list1.length by have := hg23; omega) (fun g24 o25 ha => ?_)))
 subst ha
 refine lO (vIa sl59 sz61 R R hg23) (t_elem (K := kT61) 1 x21 dT61.dec R hg23.1 hg23.2 ?_)
 rintro ⟨-, -, ⟨A26, D26⟩⟩
 refine lN (cl g24 (o25 + x21.toNat * 3) [(iv (ix list1 x21).Buffer), (iv (ix list1 x21).Offset), (sc A26 ((ix list1 x21).Steps) D26)] :: RR kT3 A26 D26 ((ix list1 x21).Steps) :: ow kT61 61 (.slice A5 (List.replicate (list1.length : Int).toNat zT61.z).length D5) x20 :: W0) ?_
 refine lO (vz (.agg [(iv (ix list1 x21).Buffer), (iv (ix list1 x21).Offset), (sc A26 ((ix list1 x21).Steps) D26)].toArray) (v_clfs (fo := 0) 0 ag61 sz61 R R R R)) (l_alloc R R zc61 (fun b27 => (lI R (l_stores 0 R R sz61 R R R R R R (lN (bxl b27 [(iv (ix list1 x21).Buffer), (iv (ix list1 x21).Offset), (sc A26 ((ix list1 x21).Steps) D26)] 61 :: _ :: _ :: _ :: W0) ?_)))))
 refine l_nil (q_next ?_)
 obtain ⟨r28, hx29, hr⟩ := bd hr
 obtain ⟨hg31, hr⟩ := gd hr
 refine c_region (lS R (lI R (lO (vp (.func (.func 154) [].toArray [].toArray) R) (lO (vz (.agg [(iv (ix list1 x21).Buffer), (iv (ix list1 x21).Offset), (sc A26 ((ix list1 x21).Steps) D26)].toArray) (v_loadw 0 ag61 sz61 R R R R)) (lM (_ :: _ :: _ :: _ :: _ :: W0) (fun w s => (s.d 2 R)) ?_)))))
 refine l_callvn (fs := []) (cs := []) 1 R R cb154 R R (Z1b_ok hx29) R ?_
 rintro ⟨A30, N30, D30⟩
 refine lN (ow kT3 3 (.slice A30 N30 D30) r28.Steps :: _ :: _ :: _ :: _ :: W0) ?_
 refine l_len 0 sees_ow ?_
 rintro rfl
 refine t_some 4 sees_ow (show 0 < (List.replicate (list1.length : Int).toNat zT61.z).length by have := hg31; omega) (fun g32 o33 ha => ?_)
 subst ha
 refine lO (vIa sl59 sz61 R R hg31) (lM (ow kT61 61 (.slice (ad g32 o33) (List.replicate (list1.length : Int).toNat zT61.z).length D5) x20 :: ow _ _ _ _ :: bxl _ _ _ :: cl _ _ _ :: rds _ _ _ :: W0) (fun w s => (s.f 5 [4, 1, 0, 4])) ?_)
 refine l_stx (K := kT61) (x' := r28) 1 x21 R R sz61 R R hg31.1 hg31.2 ?_ ?_
 exact fun I h s => (mO61).put I h ((), (), (sc A30 r28.Steps D30)) r28 s
 refine lN (ow kT61 61 (.slice (ad g32 o33) (List.replicate (list1.length : Int).toNat zT61.z).length D5) (x20.set x21.toNat r28) :: _ :: _ :: _ :: W0) ?_
 refine l_nil (q_blockn (q_next (c_region (lO (vAd R R) (lI R (l_nil ?_))))))
 obtain rfl := so hr
 exact qA () (fun w s => (s.e 4 [0]))
 refine c_false R hb22 (c_exit (q_exit ?_))
 obtain rfl := so hr
 obtain rfl := he1 _ R
 have hr := hk1
 refine q_exit (q_block ?_)
 exact qI (x20, ()) hr (fun w s => s)
 rintro ⟨x36, _⟩ σ1 hr
 replace hr : Z0e_J1 x36 = some r := hr
 unfold Z0e_J1 at hr
 refine c_seq (c_region (lS R (lS R (l_nil (q_next (c_ret ?_))))))
 obtain rfl := so hr
 exact qF (A5, (List.replicate (list1.length : Int).toNat zT61.z).length, D5) (fun w s => (s.e 2 [0]))
theorem Z27_ok {s1 : List Calc} {a_2 : Option Addr} {n_2 c_2 : Nat} {r : (List Calc)} (hr : Z27 s1 = some r) :
    FnOk Tryz.prog 155 [(.slice a_2 n_2 c_2)] [rds kT101 (.slice a_2 n_2 c_2) s1] (fun (h : (Option Addr × Nat × Nat)) => ((.slice h.1 h.2.1 h.2.2), [ow kT101 101 (.slice h.1 h.2.1 h.2.2) r])) := by
  unfold Z27 at hr
  obtain ⟨hg, hr⟩ := gd hr
  obtain rfl := Option.some.inj hr
  refine fn_ok Tryz.func155 rfl 8 rfl rfl fun C V => (c_st (V' := rds kT101 (.slice a_2 n_2 c_2) s1 :: V) (fun w s => s) (c_len 0 sees_rd (fun (hn : n_2 = s1.length) => ?_)))
  subst hn
  refine c_seq (c_region (lS rfl (l_nil (q_next (c_seq (c_seq (c_region (lS rfl (l_v (.bool a_2.isNone) (v_snil sl62 rfl rfl) rfl rfl (l_nil (q_next ?_)))))))))))
  rcases Bool.eq_false_or_eq_true a_2.isNone with ha | ha
  · refine c_true rfl ha ?_
    refine c_nilx 0 sees_rd ha (fun (hx : s1 = []) => ?_)
    subst hx
    refine c_seq (c_region (lS rfl (l_nil (q_next (c_ret (q_ret ?_))))))
    exact q_fin (vs := [(.slice none 0 0)]) (.inl rfl) (none, 0, 0) rfl ⟨rfl, trivial⟩ rfl (fun w s => ((s.nilo kT101 101).sel 2 [0] rfl rfl))
  · refine c_false rfl ha (c_skip (q_next ?_))
    refine c_seq (c_region (l_build (K := kT101) (xs := ([] : List Calc)) (vs := []) 0 rfl rfl sl62 sz101 zc101 rfl rfl rfl rfl rfl rfl ?_ rfl (fun a_3 c_3 => ?_)))
    · exact fun I h s => (mO101).list [] I h s
    refine lS rfl (l_app (K := kT101) 5864062014805 rfl rfl sl62 sz101 by101 (Zr.zk zT101 zc101) rfl rfl rfl rfl rfl rfl (src_rd (Kind.iso_flat (Kind.pair_flat (Kind.scal_flat _ _) (Kind.pair_flat (Kind.scal_flat _ _) (Kind.scal_flat _ _))) _)) (by simpa using hg) (fun a_4 c_4 => (lS rfl (l_nil (q_next (c_ret ?_))))))
    exact q_fin (vs := [(.slice a_4 s1.length c_4)]) (.inl rfl) (a_4, s1.length, c_4) rfl ⟨rfl, trivial⟩ rfl (fun w s => s)
theorem Z1l_ok  {k1 : Kernel} {r : Kernel} (hr : Z1l k1 = some r) :
 FnOk Tryz.prog 110 [(.agg [(.slice A2 N2 D2), (.slice A3 N3 D3), (iv k1.Store.Buffer), (iv k1.Store.Offset), (.slice A4 N4 D4), (.bool k1.Sum), (.slice A5 N5 D5)].toArray)] [rds kT3 (.slice A2 N2 D2) k1.Loops, rds kT61 (.slice A3 N3 D3) k1.Loads, rds kT3 (.slice A4 N4 D4) k1.Store.Steps, rds kT101 (.slice A5 N5 D5) k1.Code] (fun (h : HH × HH × HH × HH) => ((.agg [(.slice h.1.1 h.1.2.1 h.1.2.2), (.slice h.2.1.1 h.2.1.2.1 h.2.1.2.2), (iv r.Store.Buffer), (iv r.Store.Offset), (.slice h.2.2.1.1 h.2.2.1.2.1 h.2.2.1.2.2), (.bool r.Sum), (.slice h.2.2.2.1 h.2.2.2.2.1 h.2.2.2.2.2)].toArray), [ow kT3 3 (.slice h.1.1 h.1.2.1 h.1.2.2) r.Loops, ow kT61 61 (.slice h.2.1.1 h.2.1.2.1 h.2.1.2.2) r.Loads, ow kT3 3 (.slice h.2.2.1.1 h.2.2.1.2.1 h.2.2.1.2.2) r.Store.Steps, ow kT101 101 (.slice h.2.2.2.1 h.2.2.2.2.1 h.2.2.2.2.2) r.Code])) := by
 unfold Z1l at hr
 refine fn_ok Tryz.func110 R 18 R R fun C V => ?_
 refine cN (_ :: _ :: _ :: _ :: V) ?_
 refine cL 0 sees_rd ?_
 rintro rfl
 refine cL 1 sees_rd ?_
 rintro rfl
 refine cL 2 sees_rd ?_
 rintro rfl
 refine cL 3 sees_rd ?_
 rintro rfl
 let W0 : List HP := RR kT3 A2 D2 k1.Loops :: RR kT61 A3 D3 k1.Loads :: RR kT3 A4 D4 k1.Store.Steps :: RR kT101 A5 D5 k1.Code :: V
 refine cN W0 ?_
 refine c_seq (c_region (lBx R (fun b6 => (l_alloc R R zc64 (fun b7 => (l_nil ?_))))))
 let W1 : List HP := bxl b6 [(sc A2 k1.Loops D2), (sc A3 k1.Loads D3), (iv k1.Store.Buffer), (iv k1.Store.Offset), (sc A4 k1.Store.Steps D4), (.bool k1.Sum), (sc A5 k1.Code D5)] 64 :: W0
 refine qN (_ :: W1) ?_
 refine q_next (c_seq ?_)
 obtain ⟨r8, hx9, hr⟩ := bd hr
 obtain ⟨r11, hx12, hr⟩ := bd hr
 obtain ⟨r14, hx15, hr⟩ := bd hr
 obtain ⟨r17, hx18, hr⟩ := bd hr
 refine cdr 16 [0] mixo (fun ht hn => (dR 0 R (vFa 0 fo64_0 R) (hS := (sL [0])) (dR 1 R (vLd 0 ag22 R R R) (hS := (sL [0])) (dR 3 R (vFa 1 fo64_1 R) (hS := (sL [0])) (dR 4 R (vLd 0 ag59 R R R) (hS := (sL [0])) (dR 6 R (vFa 2 fo64_2 R) (hS := (sL [0])) (dR 7 R (vz (.agg [(iv k1.Store.Buffer), (iv k1.Store.Offset), (sc A4 k1.Store.Steps D4)].toArray) (v_loadw 0 ag61 sz61 R R R R)) (hS := (sL [0])) (dR 9 R (vFa 5 fo64_3 R) (hS := (sL [0])) (dR 10 R (vLd 0 ag4 R R R) (hS := (sL [0])) (dR 11 R (vFa 6 fo64_4 R) (hS := (sL [0])) (dR 12 R (vLd 0 ag62 R R R) (hS := (sL [0])) (d1 2 R (lM (RR kT3 A2 D2 k1.Loops :: _ :: W1) (fun w s => (s.d 2 R)) ?_)))))))))))))
 refine lC 1 cb83 R (Z0r_ok hx9) R ?_
 rintro ⟨A10, N10, D10⟩
 refine lN (ow kT3 3 (.slice A10 N10 D10) r8 :: _ :: W1) ?_
 refine l_len 0 sees_ow ?_
 rintro rfl
 refine l_nil (q_draw (sL [1, 0]) (d1 5 R (lM (RR kT61 A3 D3 k1.Loads :: _ :: _ :: W1) (fun w s => (s.d 4 R)) ?_)))
 refine lC 1 cb153 R (Z0e_ok hx12) R ?_
 rintro ⟨A13, N13, D13⟩
 refine lN (ow kT61 61 (.slice A13 N13 D13) r11 :: _ :: _ :: W1) ?_
 refine l_len 0 sees_ow ?_
 rintro rfl
 refine l_nil (q_draw (sL [2, 1, 0]) (d1 8 R (lM (RR kT3 A4 D4 k1.Store.Steps :: _ :: _ :: _ :: W1) (fun w s => (s.d 6 R)) ?_)))
 refine lC 1 cb154 R (Z1b_ok hx15) R ?_
 rintro ⟨A16, N16, D16⟩
 refine lN (ow kT3 3 (.slice A16 N16 D16) r14.Steps :: _ :: _ :: _ :: W1) ?_
 refine l_len 0 sees_ow ?_
 rintro rfl
 refine l_nil (q_draw (sL [3, 2, 1, 0]) (d1 13 R (lM (RR kT101 A5 D5 k1.Code :: _ :: _ :: _ :: _ :: W1) (fun w s => (s.d 8 R)) ?_)))
 refine lC 1 cb155 R (Z27_ok hx18) R ?_
 rintro ⟨A19, N19, D19⟩
 refine lN (ow kT101 101 (.slice A19 N19 D19) r17 :: _ :: _ :: _ :: _ :: W1) ?_
 refine l_len 0 sees_ow ?_
 rintro rfl
 refine l_nil (q_draw (sL [4, 3, 2, 1, 0]) (dR 14 R (vz (.agg [(sc A10 r8 D10), (sc A13 r11 D13), (iv r14.Buffer), (iv r14.Offset), (sc A16 r14.Steps D16), (.bool k1.Sum), (sc A19 r17 D19)].toArray) (v_build pl64 zc64 R R)) (hS := (sL [4, 3, 2, 1, 0])) (d1 15 R (l_stores 4 R R sz64 R R R R R R (lN (_ :: _ :: _ :: _ :: bxl b7 [(sc A10 r8 D10), (sc A13 r11 D13), (iv r14.Buffer), (iv r14.Offset), (sc A16 r14.Steps D16), (.bool k1.Sum), (sc A19 r17 D19)] 64 :: W1) ?_)))))
 refine l_nil (q_draw (sL [4, 3, 2, 1, 0]) (dD (q_next (c_ret ?_))))
 obtain rfl := so hr
 exact q_fin (vs := [(.agg [(sc A10 r8 D10), (sc A13 r11 D13), (iv r14.Buffer), (iv r14.Offset), (sc A16 r14.Steps D16), (.bool k1.Sum), (sc A19 r17 D19)].toArray)]) (.inl R) ((A10, r8.length, D10), (A13, r11.length, D13), (A16, r14.Steps.length, D16), (A19, r17.length, D19)) R ⟨⟨4, b7, _, _, R, R, .inl ⟨ag64, sz64, R⟩⟩, trivial⟩ R (fun w s => (s.e 10 [3, 2, 1, 0]))
theorem Z0f_ok  {list1 : (List Kernel)} {r : (List Kernel)} (hr : Z0f list1 = some r) :
 FnOk Tryz.prog 109 [(.slice A2 N2 D2), (.func (.func 110) [].toArray [].toArray)] [rds kT64 (.slice A2 N2 D2) list1] (fun (h : HH) => ((.slice h.1 h.2.1 h.2.2), [ow kT64 64 (.slice h.1 h.2.1 h.2.2) r])) := by
 unfold Z0f at hr
 refine fn_ok Tryz.func109 R 26 R R fun C V => ?_
 refine cN (_ :: V) ?_
 refine cL 0 sees_rd ?_
 rintro rfl
 let W0 : List HP := RR kT64 A2 D2 list1 :: V
 refine cN W0 ?_
 refine c_seq (c_region (lS R (l_nil (q_next (c_seq ?_)))))
 obtain ⟨hg4, hr⟩ := gd hr
 refine c_region (lS R (lO (v_len sl34 R) (l_make (K := kT64) (m := (list1.length : Int)) (z := zT64.z) R R sl34 sz64 by64 (Zr.zk zT64 zc64) (by decide) R R hg4.1 hg4.2.1 hg4.2.2 (fun A5 D5 => (lS R (l_nil (q_next (c_seq (c_cut (A := ((List Kernel)) × (Unit)) (fun a => Z0f_J1 a.1 = some r) (fun a => [(5, (sc A5 (List.replicate (list1.length : Int).toNat zT64.z) D5))]) (fun a => ow kT64 64 (.slice A5 (List.replicate (list1.length : Int).toNat zT64.z).length D5) a.1 :: W0) ?_ ?_)))))))))
 refine c_seq (c_region (lS R (lO (v_len sl34 R) (lI R (l_nil (q_next (c_block ?_)))))))
 obtain ⟨e1, hl1, hk1⟩ := bd hr
 refine c_loop (A := Unit) hl1 (fun s a => [(1, (.func (.func 110) [].toArray [].toArray)), (5, (sc A5 (List.replicate (list1.length : Int).toNat zT64.z) D5)), (11, (sc A2 list1 D2)), (12, (il list1)), (13, (iv s.2))]) (fun s a => ow kT64 64 (.slice A5 (List.replicate (list1.length : Int).toNat zT64.z).length D5) s.1 :: W0) () (aS R) (fun w s => s) ?_
 rintro ⟨x26, x27⟩ _ σ1 out1 hr he1
 replace hr : Z0f_L1 list1 x26 x27 = some out1 := hr
 unfold Z0f_L1 at hr
 refine c_seq (c_region (lO (vLt R R) (l_nil (q_next (c_seq ?_)))))
 rcases bif_ hr with ⟨hb28, hr⟩ | ⟨hb28, hr⟩
 refine c_true R hb28 (c_skip (q_next (c_seq (c_block (c_seq ?_)))))
 obtain ⟨hg29, hr⟩ := gd hr
 refine c_region (lI R (t_some 1 sees_rd (show 0 < list1.length by have := hg29; omega) (fun g30 o31 ha => ?_)))
 subst ha
 refine lO (vIa sl34 sz64 R R hg29) (t_elem (K := kT64) 1 x27 dT64.dec R hg29.1 hg29.2 ?_)
 rintro ⟨⟨A32, D32⟩, ⟨A33, D33⟩, ⟨-, -, ⟨A34, D34⟩⟩, -, ⟨A35, D35⟩⟩
 refine lN (cl g30 (o31 + x27.toNat * 7) [(sc A32 ((ix list1 x27).Loops) D32), (sc A33 ((ix list1 x27).Loads) D33), (iv (ix list1 x27).Store.Buffer), (iv (ix list1 x27).Store.Offset), (sc A34 ((ix list1 x27).Store.Steps) D34), (.bool (ix list1 x27).Sum), (sc A35 ((ix list1 x27).Code) D35)] :: RR kT3 A32 D32 ((ix list1 x27).Loops) :: RR kT61 A33 D33 ((ix list1 x27).Loads) :: RR kT3 A34 D34 ((ix list1 x27).Store.Steps) :: RR kT101 A35 D35 ((ix list1 x27).Code) :: ow kT64 64 (.slice A5 (List.replicate (list1.length : Int).toNat zT64.z).length D5) x26 :: W0) ?_
 refine lO (vz (.agg [(sc A32 ((ix list1 x27).Loops) D32), (sc A33 ((ix list1 x27).Loads) D33), (iv (ix list1 x27).Store.Buffer), (iv (ix list1 x27).Store.Offset), (sc A34 ((ix list1 x27).Store.Steps) D34), (.bool (ix list1 x27).Sum), (sc A35 ((ix list1 x27).Code) D35)].toArray) (v_clfs (fo := 0) 0 ag64 sz64 R R R R)) (l_alloc R R zc64 (fun b36 => (lI R (l_stores 0 R R sz64 R R R R R R (lN (bxl b36 [(sc A32 ((ix list1 x27).Loops) D32), (sc A33 ((ix list1 x27).Loads) D33), (iv (ix list1 x27).Store.Buffer), (iv (ix list1 x27).Store.Offset), (sc A34 ((ix list1 x27).Store.Steps) D34), (.bool (ix list1 x27).Sum), (sc A35 ((ix list1 x27).Code) D35)] 64 :: _ :: _ :: _ :: _ :: _ :: _ :: W0) ?_)))))
 refine l_nil (q_next ?_)
 obtain ⟨r37, hx38, hr⟩ := bd hr
 obtain ⟨hg43, hr⟩ := gd hr
 refine c_region (lS R (lI R (lO (vp (.func (.func 110) [].toArray [].toArray) R) (lO (vz (.agg [(sc A32 ((ix list1 x27).Loops) D32), (sc A33 ((ix list1 x27).Loads) D33), (iv (ix list1 x27).Store.Buffer), (iv (ix list1 x27).Store.Offset), (sc A34 ((ix list1 x27).Store.Steps) D34), (.bool (ix list1 x27).Sum), (sc A35 ((ix list1 x27).Code) D35)].toArray) (v_loadw 0 ag64 sz64 R R R R)) (lM (rds _ _ _ :: rds _ _ _ :: rds _ _ _ :: rds _ _ _ :: bxl _ _ _ :: cl _ _ _ :: rds _ _ _ :: rds _ _ _ :: rds _ _ _ :: rds _ _ _ :: ow _ _ _ _ :: W0) (fun w s => (((((s.d 2 R).d 4 R).d 6 R).d 8 R).f 11 [3, 1, 2, 1, 1, 1, 0, 1, 4, 7])) ?_)))))
 refine l_callvn (fs := []) (cs := []) 4 R R cb110 R R (Z1l_ok hx38) R ?_
 rintro ⟨⟨A39, N39, D39⟩, ⟨A40, N40, D40⟩, ⟨A41, N41, D41⟩, ⟨A42, N42, D42⟩⟩
 refine lN (ow kT3 3 (.slice A39 N39 D39) r37.Loops :: ow kT61 61 (.slice A40 N40 D40) r37.Loads :: ow kT3 3 (.slice A41 N41 D41) r37.Store.Steps :: ow kT101 101 (.slice A42 N42 D42) r37.Code :: _ :: _ :: _ :: _ :: _ :: _ :: _ :: W0) ?_
 refine l_len 0 sees_ow ?_
 rintro rfl
 refine l_len 1 sees_ow ?_
 rintro rfl
 refine l_len 2 sees_ow ?_
 rintro rfl
 refine l_len 3 sees_ow ?_
 rintro rfl
 refine t_some 10 sees_ow (show 0 < (List.replicate (list1.length : Int).toNat zT64.z).length by have := hg43; omega) (fun g44 o45 ha => ?_)
 subst ha
 refine lO (vIa sl34 sz64 R R hg43) (lM (ow kT64 64 (.slice (ad g44 o45) (List.replicate (list1.length : Int).toNat zT64.z).length D5) x26 :: ow _ _ _ _ :: ow _ _ _ _ :: ow _ _ _ _ :: ow _ _ _ _ :: bxl _ _ _ :: cl _ _ _ :: rds _ _ _ :: rds _ _ _ :: rds _ _ _ :: rds _ _ _ :: W0) (fun w s => (s.f 11 [10, 1, 0, 10])) ?_)
 refine l_stx (K := kT64) (x' := r37) 4 x27 R R sz64 R R hg43.1 hg43.2 ?_ ?_
 exact fun I h s => (mO64).put I h ((sc A39 r37.Loops D39), (sc A40 r37.Loads D40), ((), (), (sc A41 r37.Store.Steps D41)), (), (sc A42 r37.Code D42)) r37 s
 refine lN (ow kT64 64 (.slice (ad g44 o45) (List.replicate (list1.length : Int).toNat zT64.z).length D5) (x26.set x27.toNat r37) :: _ :: _ :: _ :: _ :: _ :: _ :: W0) ?_
 refine l_nil (q_blockn (q_next (c_region (lO (vAd R R) (lI R (l_nil ?_))))))
 obtain rfl := so hr
 exact qA () (fun w s => (s.e 7 [0]))
 refine c_false R hb28 (c_exit (q_exit ?_))
 obtain rfl := so hr
 obtain rfl := he1 _ R
 have hr := hk1
 refine q_exit (q_block ?_)
 exact qI (x26, ()) hr (fun w s => s)
 rintro ⟨x48, _⟩ σ1 hr
 replace hr : Z0f_J1 x48 = some r := hr
 unfold Z0f_J1 at hr
 refine c_seq (c_region (lS R (lS R (l_nil (q_next (c_ret ?_))))))
 obtain rfl := so hr
 exact qF (A5, (List.replicate (list1.length : Int).toNat zT64.z).length, D5) (fun w s => (s.e 2 [0]))
theorem Z13_ok  {l1 : Nest} {r : Nest} (hr : Z13 l1 = some r) :
 FnOk Tryz.prog 58 [(.agg [(.slice A2 N2 D2), (.slice A3 N3 D3), (.slice A4 N4 D4), (.slice A5 N5 D5), (.slice A6 N6 D6)].toArray)] [rds kT3 (.slice A2 N2 D2) l1.Sizes, rds kT3 (.slice A3 N3 D3) l1.Ins, rds kT57 (.slice A4 N4 D4) l1.Fixed, rds kT64 (.slice A5 N5 D5) l1.Kernels, rds kT3 (.slice A6 N6 D6) l1.Outs] (fun (h : HH × HH × HH × HH × HH) => ((.agg [(.slice h.1.1 h.1.2.1 h.1.2.2), (.slice h.2.1.1 h.2.1.2.1 h.2.1.2.2), (.slice h.2.2.1.1 h.2.2.1.2.1 h.2.2.1.2.2), (.slice h.2.2.2.1.1 h.2.2.2.1.2.1 h.2.2.2.1.2.2), (.slice h.2.2.2.2.1 h.2.2.2.2.2.1 h.2.2.2.2.2.2)].toArray), [ow kT3 3 (.slice h.1.1 h.1.2.1 h.1.2.2) r.Sizes, ow kT3 3 (.slice h.2.1.1 h.2.1.2.1 h.2.1.2.2) r.Ins, ow kT57 57 (.slice h.2.2.1.1 h.2.2.1.2.1 h.2.2.1.2.2) r.Fixed, ow kT64 64 (.slice h.2.2.2.1.1 h.2.2.2.1.2.1 h.2.2.2.1.2.2) r.Kernels, ow kT3 3 (.slice h.2.2.2.2.1 h.2.2.2.2.2.1 h.2.2.2.2.2.2) r.Outs])) := by
 unfold Z13 at hr
 refine fn_ok Tryz.func58 R 21 R R fun C V => ?_
 refine cN (_ :: _ :: _ :: _ :: _ :: V) ?_
 refine cL 0 sees_rd ?_
 rintro rfl
 refine cL 1 sees_rd ?_
 rintro rfl
 refine cL 2 sees_rd ?_
 rintro rfl
 refine cL 3 sees_rd ?_
 rintro rfl
 refine cL 4 sees_rd ?_
 rintro rfl
 let W0 : List HP := RR kT3 A2 D2 l1.Sizes :: RR kT3 A3 D3 l1.Ins :: RR kT57 A4 D4 l1.Fixed :: RR kT64 A5 D5 l1.Kernels :: RR kT3 A6 D6 l1.Outs :: V
 refine cN W0 ?_
 refine c_seq (c_region (lBx R (fun b7 => (l_alloc R R zc36 (fun b8 => (l_nil ?_))))))
 let W1 : List HP := bxl b7 [(sc A2 l1.Sizes D2), (sc A3 l1.Ins D3), (sc A4 l1.Fixed D4), (sc A5 l1.Kernels D5), (sc A6 l1.Outs D6)] 36 :: W0
 refine qN (_ :: W1) ?_
 refine q_next (c_seq ?_)
 obtain ⟨r9, hx10, hr⟩ := bd hr
 refine c_region (lO (vFa 2 fo36_2 R) (lO (vLd 1 ag33 R R R) (lM (RR kT57 A4 D4 l1.Fixed :: _ :: W1) (fun w s => (s.d 4 R)) ?_)))
 refine lC 1 cb107 R (Z0d_ok hx10) R ?_
 rintro ⟨A11, N11, D11⟩
 refine lN (ow kT57 57 (.slice A11 N11 D11) r9 :: _ :: W1) ?_
 refine l_len 0 sees_ow ?_
 rintro rfl
 refine lS R (l_nil (q_next (c_seq ?_)))
 obtain ⟨r12, hx13, hr⟩ := bd hr
 obtain ⟨r15, hx16, hr⟩ := bd hr
 obtain ⟨r18, hx19, hr⟩ := bd hr
 obtain ⟨r21, hx22, hr⟩ := bd hr
 refine cdr 15 [1] mixo (fun ht hn => (dR 0 R (vFa 0 fo36_0 R) (hS := (sL [1])) (dR 1 R (vLd 1 ag22 R R R) (hS := (sL [1])) (dR 3 R (vFa 1 fo36_1 R) (hS := (sL [1])) (dR 4 R (vLd 1 ag22 R R R) (hS := (sL [1])) (dR 6 R (vS R) (hS := (sL [1])) (dR 7 R (vFa 3 fo36_3 R) (hS := (sL [1])) (dR 8 R (vLd 1 ag34 R R R) (hS := (sL [1])) (dR 10 R (vFa 4 fo36_4 R) (hS := (sL [1])) (dR 11 R (vLd 1 ag22 R R R) (hS := (sL [1])) (d1 2 R (lM (RR kT3 A2 D2 l1.Sizes :: _ :: _ :: W1) (fun w s => (s.d 3 R)) ?_))))))))))))
 refine lC 1 cb83 R (Z0r_ok hx13) R ?_
 rintro ⟨A14, N14, D14⟩
 refine lN (ow kT3 3 (.slice A14 N14 D14) r12 :: _ :: _ :: W1) ?_
 refine l_len 0 sees_ow ?_
 rintro rfl
 refine l_nil (q_draw (sL [2, 0]) (d1 5 R (lM (RR kT3 A3 D3 l1.Ins :: _ :: _ :: _ :: W1) (fun w s => (s.d 5 R)) ?_)))
 refine lC 1 cb83 R (Z0r_ok hx16) R ?_
 rintro ⟨A17, N17, D17⟩
 refine lN (ow kT3 3 (.slice A17 N17 D17) r15 :: _ :: _ :: _ :: W1) ?_
 refine l_len 0 sees_ow ?_
 rintro rfl
 refine l_nil (q_draw (sL [3, 1, 0]) (d1 9 R (lM (RR kT64 A5 D5 l1.Kernels :: _ :: _ :: _ :: _ :: W1) (fun w s => (s.d 8 R)) ?_)))
 refine lC 1 cb109 R (Z0f_ok hx19) R ?_
 rintro ⟨A20, N20, D20⟩
 refine lN (ow kT64 64 (.slice A20 N20 D20) r18 :: _ :: _ :: _ :: _ :: W1) ?_
 refine l_len 0 sees_ow ?_
 rintro rfl
 refine l_nil (q_draw (sL [4, 2, 1, 0]) (d1 12 R (lM (RR kT3 A6 D6 l1.Outs :: _ :: _ :: _ :: _ :: _ :: W1) (fun w s => (s.d 10 R)) ?_)))
 refine lC 1 cb83 R (Z0r_ok hx22) R ?_
 rintro ⟨A23, N23, D23⟩
 refine lN (ow kT3 3 (.slice A23 N23 D23) r21 :: _ :: _ :: _ :: _ :: _ :: W1) ?_
 refine l_len 0 sees_ow ?_
 rintro rfl
 refine l_nil (q_draw (sL [5, 3, 2, 1, 0]) (dR 13 R (vz (.agg [(sc A14 r12 D14), (sc A17 r15 D17), (sc A11 r9 D11), (sc A20 r18 D20), (sc A23 r21 D23)].toArray) (v_build pl36 zc36 R R)) (hS := (sL [5, 3, 2, 1, 0])) (d1 14 R (l_stores 5 R R sz36 R R R R R R (lN (_ :: _ :: _ :: _ :: _ :: bxl b8 [(sc A14 r12 D14), (sc A17 r15 D17), (sc A11 r9 D11), (sc A20 r18 D20), (sc A23 r21 D23)] 36 :: W1) ?_)))))
 refine l_nil (q_draw (sL [5, 3, 2, 1, 0]) (dD (q_next (c_ret ?_))))
 obtain rfl := so hr
 exact q_fin (vs := [(.agg [(sc A14 r12 D14), (sc A17 r15 D17), (sc A11 r9 D11), (sc A20 r18 D20), (sc A23 r21 D23)].toArray)]) (.inl R) ((A14, r12.length, D14), (A17, r15.length, D17), (A11, r9.length, D11), (A20, r18.length, D20), (A23, r21.length, D23)) R ⟨⟨5, b8, _, _, R, R, .inl ⟨ag36, sz36, R⟩⟩, trivial⟩ R (fun w s => (s.e 12 [3, 2, 4, 1, 0]))
theorem Z20_ok  {p1 : Int} {y2 : Int} {r : Int × Int} (hr : Z20 p1 y2 = some r) :
 FnOk Tryz.prog 157 [(.int .u64 p1), (.int .u64 y2)] [] (fun (h : Unit) => ((.tuple [(.int .u64 r.1), (.int .u64 r.2)].toArray), [])) := by
 unfold Z20 at hr
 refine fn_ok Tryz.func157 R 51 R R fun C V => ?_
 refine cN V ?_
 refine c_seq (c_region (lI R (lI R (l_nil (q_next (c_seq (c_region (lI R (lO (vp (.int .u64 (bits .and .u64 p1 (4294967295 : Int))) R) (lI R (l_nil (q_next (c_seq (c_region (lI R (lO (vz (.int .u64 (p1 / 2 ^ (32 : Int).toNat)) (v_shr R R (by decide) (by decide))) (lI R (l_nil (q_next (c_seq (c_region (lI R (lO (vp (.int .u64 (bits .and .u64 y2 (4294967295 : Int))) R) (lI R (l_nil (q_next (c_seq (c_region (lI R (lO (vz (.int .u64 (y2 / 2 ^ (32 : Int).toNat)) (v_shr R R (by decide) (by decide))) (lI R (l_nil (q_next (c_seq (c_region (lI R (lI R (lO (vp (.int .u64 (IntKind.wrap .u64 ((bits .and .u64 p1 (4294967295 : Int)) * (bits .and .u64 y2 (4294967295 : Int))))) R) (lI R (l_nil (q_next (c_seq (c_region (lI R (lI R (lO (vp (.int .u64 (IntKind.wrap .u64 ((p1 / 2 ^ (32 : Int).toNat) * (bits .and .u64 y2 (4294967295 : Int))))) R) (lI R (lO (vz (.int .u64 ((IntKind.wrap .u64 ((bits .and .u64 p1 (4294967295 : Int)) * (bits .and .u64 y2 (4294967295 : Int)))) / 2 ^ (32 : Int).toNat)) (v_shr R R (by decide) (by decide))) ?_))))))))))))))))))))))))))))))))))))))))))))))))
 refine lO (vp (.int .u64 (IntKind.wrap .u64 ((IntKind.wrap .u64 ((p1 / 2 ^ (32 : Int).toNat) * (bits .and .u64 y2 (4294967295 : Int)))) + ((IntKind.wrap .u64 ((bits .and .u64 p1 (4294967295 : Int)) * (bits .and .u64 y2 (4294967295 : Int)))) / 2 ^ (32 : Int).toNat)))) R) (lI R (l_nil (q_next (c_seq (c_region (lI R (lO (vp (.int .u64 (bits .and .u64 (IntKind.wrap .u64 ((IntKind.wrap .u64 ((p1 / 2 ^ (32 : Int).toNat) * (bits .and .u64 y2 (4294967295 : Int)))) + ((IntKind.wrap .u64 ((bits .and .u64 p1 (4294967295 : Int)) * (bits .and .u64 y2 (4294967295 : Int)))) / 2 ^ (32 : Int).toNat))) (4294967295 : Int))) R) (lI R (l_nil (q_next (c_seq (c_region (lI R (lO (vz (.int .u64 ((IntKind.wrap .u64 ((IntKind.wrap .u64 ((p1 / 2 ^ (32 : Int).toNat) * (bits .and .u64 y2 (4294967295 : Int)))) + ((IntKind.wrap .u64 ((bits .and .u64 p1 (4294967295 : Int)) * (bits .and .u64 y2 (4294967295 : Int)))) / 2 ^ (32 : Int).toNat))) / 2 ^ (32 : Int).toNat)) (v_shr R R (by decide) (by decide))) (lI R (l_nil (q_next (c_seq (c_region (lI R (lI R (lI R (lO (vp (.int .u64 (IntKind.wrap .u64 ((bits .and .u64 p1 (4294967295 : Int)) * (y2 / 2 ^ (32 : Int).toNat)))) R) ?_)))))))))))))))))))))))
 refine lO (vp (.int .u64 (IntKind.wrap .u64 ((bits .and .u64 (IntKind.wrap .u64 ((IntKind.wrap .u64 ((p1 / 2 ^ (32 : Int).toNat) * (bits .and .u64 y2 (4294967295 : Int)))) + ((IntKind.wrap .u64 ((bits .and .u64 p1 (4294967295 : Int)) * (bits .and .u64 y2 (4294967295 : Int)))) / 2 ^ (32 : Int).toNat))) (4294967295 : Int)) + (IntKind.wrap .u64 ((bits .and .u64 p1 (4294967295 : Int)) * (y2 / 2 ^ (32 : Int).toNat)))))) R) (lI R (l_nil (q_next (c_seq (c_region (lI R (lI R (lO (vp (.int .u64 (IntKind.wrap .u64 ((p1 / 2 ^ (32 : Int).toNat) * (y2 / 2 ^ (32 : Int).toNat)))) R) (lI R (lO (vp (.int .u64 (IntKind.wrap .u64 ((IntKind.wrap .u64 ((p1 / 2 ^ (32 : Int).toNat) * (y2 / 2 ^ (32 : Int).toNat))) + ((IntKind.wrap .u64 ((IntKind.wrap .u64 ((p1 / 2 ^ (32 : Int).toNat) * (bits .and .u64 y2 (4294967295 : Int)))) + ((IntKind.wrap .u64 ((bits .and .u64 p1 (4294967295 : Int)) * (bits .and .u64 y2 (4294967295 : Int)))) / 2 ^ (32 : Int).toNat))) / 2 ^ (32 : Int).toNat)))) R) (lI R ?_)))))))))))
 refine lO (vz (.int .u64 ((IntKind.wrap .u64 ((bits .and .u64 (IntKind.wrap .u64 ((IntKind.wrap .u64 ((p1 / 2 ^ (32 : Int).toNat) * (bits .and .u64 y2 (4294967295 : Int)))) + ((IntKind.wrap .u64 ((bits .and .u64 p1 (4294967295 : Int)) * (bits .and .u64 y2 (4294967295 : Int)))) / 2 ^ (32 : Int).toNat))) (4294967295 : Int)) + (IntKind.wrap .u64 ((bits .and .u64 p1 (4294967295 : Int)) * (y2 / 2 ^ (32 : Int).toNat))))) / 2 ^ (32 : Int).toNat)) (v_shr R R (by decide) (by decide))) ?_
 refine lO (vp (.int .u64 (IntKind.wrap .u64 ((IntKind.wrap .u64 ((IntKind.wrap .u64 ((p1 / 2 ^ (32 : Int).toNat) * (y2 / 2 ^ (32 : Int).toNat))) + ((IntKind.wrap .u64 ((IntKind.wrap .u64 ((p1 / 2 ^ (32 : Int).toNat) * (bits .and .u64 y2 (4294967295 : Int)))) + ((IntKind.wrap .u64 ((bits .and .u64 p1 (4294967295 : Int)) * (bits .and .u64 y2 (4294967295 : Int)))) / 2 ^ (32 : Int).toNat))) / 2 ^ (32 : Int).toNat))) + ((IntKind.wrap .u64 ((bits .and .u64 (IntKind.wrap .u64 ((IntKind.wrap .u64 ((p1 / 2 ^ (32 : Int).toNat) * (bits .and .u64 y2 (4294967295 : Int)))) + ((IntKind.wrap .u64 ((bits .and .u64 p1 (4294967295 : Int)) * (bits .and .u64 y2 (4294967295 : Int)))) / 2 ^ (32 : Int).toNat))) (4294967295 : Int)) + (IntKind.wrap .u64 ((bits .and .u64 p1 (4294967295 : Int)) * (y2 / 2 ^ (32 : Int).toNat))))) / 2 ^ (32 : Int).toNat)))) R) (lI R (l_nil (q_next (c_seq (c_region (lI R (lI R (lO (vp (.int .u64 (IntKind.wrap .u64 (p1 * y2))) R) (lI R (l_nil (q_next (c_ret ?_))))))))))))
 obtain rfl := so hr
 exact q_fin (vs := [(.int .u64 (IntKind.wrap .u64 ((IntKind.wrap .u64 ((IntKind.wrap .u64 ((p1 / 2 ^ (32 : Int).toNat) * (y2 / 2 ^ (32 : Int).toNat))) + ((IntKind.wrap .u64 ((IntKind.wrap .u64 ((p1 / 2 ^ (32 : Int).toNat) * (bits .and .u64 y2 (4294967295 : Int)))) + ((IntKind.wrap .u64 ((bits .and .u64 p1 (4294967295 : Int)) * (bits .and .u64 y2 (4294967295 : Int)))) / 2 ^ (32 : Int).toNat))) / 2 ^ (32 : Int).toNat))) + ((IntKind.wrap .u64 ((bits .and .u64 (IntKind.wrap .u64 ((IntKind.wrap .u64 ((p1 / 2 ^ (32 : Int).toNat) * (bits .and .u64 y2 (4294967295 : Int)))) + ((IntKind.wrap .u64 ((bits .and .u64 p1 (4294967295 : Int)) * (bits .and .u64 y2 (4294967295 : Int)))) / 2 ^ (32 : Int).toNat))) (4294967295 : Int)) + (IntKind.wrap .u64 ((bits .and .u64 p1 (4294967295 : Int)) * (y2 / 2 ^ (32 : Int).toNat))))) / 2 ^ (32 : Int).toNat)))), (.int .u64 (IntKind.wrap .u64 (p1 * y2)))]) (.inl R) () R ⟨R, R, trivial⟩ R (fun w s => s)
theorem Z23_ok  {p1 : Int} {y2 : Int} {r : Int × Int} (hr : Z23 p1 y2 = some r) :
 FnOk Tryz.prog 111 [(.int .u64 p1), (.int .u64 y2)] [] (fun (h : Unit) => ((.tuple [(.int .u64 r.1), (.int .u64 r.2)].toArray), [])) := by
 unfold Z23 at hr
 refine fn_ok Tryz.func111 R 30 R R fun C V => ?_
 refine cN V ?_
 refine c_seq (c_region (lI R (lI R (l_nil (q_next (c_seq (c_false R R (c_skip (q_next (c_seq ?_))))))))))
 obtain ⟨r3, hx4, hr⟩ := bd hr
 refine c_region (lI R (lI R (lC 0 cb157 R (Z20_ok hx4) R ?_)))
 rintro _
 refine lO (vT R) (lI R (lI R (lI R (lI R (l_nil (q_next (c_seq (c_region (lI R (lI R (lI R (lI R (l_nil (q_next (c_ret ?_)))))))))))))))
 obtain rfl := so hr
 exact q_fin (vs := [(.int .u64 r3.1), (.int .u64 r3.2)]) (.inl R) () R ⟨R, R, trivial⟩ R (fun w s => s)
theorem Z0x_mul (n : Nat) (h : n ≤ 1099511627776) : Z23 (IntKind.wrap .u64 1) (IntKind.wrap .u64 (n : Int)) = some (0, (n : Int)) := by
  have e1 : IntKind.wrap .u64 1 = 1 := by decide
  have w : ∀ m : Nat, m < 18446744073709551616 → IntKind.wrap .u64 (m : Int) = (m : Int) := fun m hm => by
    simp [IntKind.wrap, IntKind.bits, IntKind.signed]
    omega
  have e2 : (1 : Int) / 2 ^ (32 : Int).toNat = 0 := by decide
  have e3 : (2 : Int) ^ (32 : Int).toNat = 4294967296 := by decide
  have w0 : IntKind.wrap .u64 0 = 0 := by decide
  unfold Z23 Z20
  rw [e1, w n (by omega), e2, e3, Z2f n (by omega), Z2e]
  simp only [Int.zero_mul, Int.one_mul, w0, Int.zero_add]
  have d1 : ((n % 4294967296 : Nat) : Int) / 4294967296 = 0 := by omega
  rw [w _ (by omega), d1, w0, show bits .and .u64 (0 : Int) 4294967295 = 0 by decide, Int.zero_add, show (n : Int) / 4294967296 = ((n / 4294967296 : Nat) : Int) by omega, w _ (by omega), w _ (by omega),
    show ((n / 4294967296 : Nat) : Int) / 4294967296 = 0 by omega, show (0 : Int) / 4294967296 = 0 by decide, w0, Int.zero_add, w0, w n (by omega)]
  rfl
theorem Z0x_ok {s1 : List Int} {k2 : Int} {a_2 : Option Addr} {n_2 c_2 : Nat} {r : (List Int)} (hr : Z0x s1 k2 = some r) :
    FnOk Tryz.prog 59 [(.slice a_2 n_2 c_2), (.int .i64 k2)] [rds kT3 (.slice a_2 n_2 c_2) s1] (fun (h : (Option Addr × Nat × Nat)) => ((.slice h.1 h.2.1 h.2.2), [ow kT3 3 (.slice h.1 h.2.1 h.2.2) r])) := by
  unfold Z0x at hr
  obtain ⟨⟨g1, g2, g3⟩, hr⟩ := gd hr
  replace hr := Option.some.inj hr
  obtain ⟨v, rfl⟩ : ∃ v, s1 = [v] := by
    match s1, g1 with
    | [v], _ => exact ⟨v, rfl⟩
  obtain ⟨n, rfl⟩ := Int.eq_ofNat_of_zero_le g2
  have hn : n ≤ 1099511627776 := by omega
  replace hr : List.replicate n v = r := hr
  refine fn_ok Tryz.func59 rfl 48 rfl rfl fun C V => (c_st (V' := rds kT3 (.slice a_2 n_2 c_2) [v] :: V) (fun w s => s) (c_len 0 sees_rd (fun (hn : n_2 = [v].length) => ?_)))
  subst hn
  refine c_some 0 sees_rd (by simp) (fun gx ox ha => ?_)
  subst ha
  have wI : IntKind.wrap .i64 (n : Int) = (n : Int) := w64_id (by omega) (by omega)
  have hneg : decide ((n : Int) < 0) = false := decide_eq_false (by omega)
  have hbig : decide ((n : Int) > 9223372036854775807) = false := decide_eq_false (by omega)
  refine c_seq (c_region (lS rfl (l_nil (q_next (c_seq (c_seq (c_region (lI rfl (lB rfl (l_nil (q_next (c_false rfl hneg (c_skip (q_next (c_seq (c_region (lS rfl (l_v (.int .i64 1) (v_len sl22 rfl) rfl rfl (l_v (.int .u64 (IntKind.wrap .u64 1)) (v_conv un3 un145 rfl) rfl rfl (lI rfl (l_v (.int .u64 (IntKind.wrap .u64 (n : Int))) (v_conv un3 un145 rfl) rfl rfl (lC 0 cb111 rfl (Z23_ok (Z0x_mul n hn)) rfl ?_))))))))))))))))))))))
  rintro _
  refine l_v (.tuple [(.int .u64 0), (.int .u64 (n : Int))].toArray) (v_pv rfl) rfl rfl (lI rfl (lI rfl (lI rfl (lI rfl (l_nil (q_next (c_seq (c_seq (c_region (lI rfl (lB rfl (lB rfl (lW (wnF rfl) (v := .int .u64 (n : Int)) (v_pv rfl) (lW (wnF rfl) (v := .bool (decide ((n : Int) > 9223372036854775807))) (v_pv rfl) (l_v (.bool (decide ((n : Int) > 9223372036854775807))) (v_pickF rfl rfl rfl rfl) rfl rfl (l_nil (q_next (c_false rfl hbig (c_skip (q_next (c_seq (c_region (lI rfl (l_v (.int .i64 (n : Int)) (by rw [show Value.int .i64 (n : Int) = .int .i64 (IntKind.wrap .i64 (n : Int)) by rw [wI]]; exact v_conv un145 un3 rfl) rfl rfl (l_make (K := kT3) (m := (n : Int)) (z := (0 : Int)) rfl rfl sl22 sz3 by3 (Zr.zk zT3 zc3) (by decide) rfl rfl (by omega) (by omega) (by omega) (fun a c => ?_))))))))))))))))))))))))))
  rw [show (List.replicate (n : Int).toNat (0 : Int)).length = n by simp]
  refine lN (ow kT3 3 (.slice a n c) (List.replicate n 0) :: rds kT3 (.slice (some ⟨gx, ox, none⟩) 1 c_2) [v] :: V) (lS rfl (l_nil (q_next ?_)))
  rcases Nat.eq_zero_or_pos n with hz | hpos
  · subst hz
    refine c_seq (c_region (lS rfl (lS rfl (l_cp0 rfl rfl sl22 sz3 rfl rfl (by show min _ 0 = 0; simp) (lI rfl (l_nil (q_next (c_seq (c_block (c_loop (S := Unit) (E := Unit) (A := Unit) (f := fun _ => some (.inr ())) (s0 := ()) (e := ()) (loopM_end rfl) (fun _ _ => [(7, .slice a 0 c), (8, .int .i64 0)]) (fun _ _ => ow kT3 3 (.slice a 0 c) (List.replicate 0 0) :: rds kT3 (.slice (some ⟨gx, ox, none⟩) 1 c_2) [v] :: V) () (aS R) (fun w s => s) ?_))))))))))
    rintro _ _ σ1 out hf he
    refine c_seq (c_seq (c_region (lI rfl (lS rfl (l_v (.int .i64 ((0 : Nat) : Int)) (v_len sl22 rfl) rfl rfl (lB rfl (l_nil (q_next (c_false rfl rfl (c_exit (q_exit (q_exit (q_block (q_next (c_seq (c_region (lS rfl (lS rfl (l_nil (q_next (c_ret ?_)))))))))))))))))))))
    subst hr
    exact q_fin (vs := [(.slice a 0 c)]) (.inl rfl) (a, 0, c) rfl ⟨rfl, trivial⟩ rfl (fun w s => s.sel 2 [0] rfl rfl)
  refine c_some 0 sees_ow hpos (fun g o ha => ?_)
  subst ha
  refine c_ncap 0 sees_ow (fun (hnc : n ≤ c) => (c_seq (c_region (lS rfl (lS rfl (l_cpw (K := kT3) (xs := List.replicate n 0) (zs := [v]) (lo := 0) (l2 := 0) (k := 1) 0 1 (Kind.scal_flat _ _) (Kind.scal_bare _ _) cT3 rfl rfl sl22 sz3 rfl sees_rd rfl rfl (Nat.min_eq_left hpos) (by simp; omega) (by simp) ?_))))))
  have hE : (List.replicate n (0 : Int)).take 0 ++ (([v] : List Int).drop 0).take 1 ++ (List.replicate n (0 : Int)).drop (0 + 1) = List.replicate 1 v ++ List.replicate (n - 1) 0 := by
    rw [List.drop_replicate]; rfl
  refine l_st (V' := ow kT3 3 (.slice (some ⟨g, o, none⟩) n c) (List.replicate 1 v ++ List.replicate (n - 1) 0) :: rds kT3 (.slice (some ⟨gx, ox, none⟩) 1 c_2) [v] :: V) (fun w s => by rw [← hE]; exact s) (lI rfl (l_nil (q_next (c_seq (c_block (c_loop (S := Nat) (E := Unit) (A := Unit) (f := repF n) (s0 := 1) (e := ()) (repF_end n hpos) (fun m _ => [(7, .slice (some ⟨g, o, none⟩) n c), (8, .int .i64 (m : Int))]) (fun m _ => ow kT3 3 (.slice (some ⟨g, o, none⟩) n c) (List.replicate m v ++ List.replicate (n - m) 0) :: rds kT3 (.slice (some ⟨gx, ox, none⟩) 1 c_2) [v] :: V) () (aS R) (fun w s => s) ?_))))))
  rintro m _ σ1 out hf he
  unfold repF at hf
  obtain ⟨⟨hm0, hmn⟩, hf⟩ := gd hf
  refine c_seq (c_seq (c_region (lI rfl (lS rfl (l_v (.int .i64 (n : Int)) (v_len sl22 rfl) rfl rfl (lB rfl (l_nil (q_next ?_))))))))
  by_cases hlt : m < n
  · rw [if_pos hlt] at hf
    obtain rfl := so hf
    have hb : decide ((m : Int) < (n : Int)) = true := decide_eq_true (by omega)
    refine c_true rfl hb (c_skip (q_next (c_block ?_)))
    have hk1 : Nat.min m (n - m) ≤ m := Nat.min_le_left _ _
    have hk2 : Nat.min m (n - m) ≤ n - m := Nat.min_le_right _ _
    generalize hk : Nat.min m (n - m) = k at hk1 hk2
    have hw : w64 ((m : Int) + (k : Int)) = ((m + k : Nat) : Int) := by rw [w64_id (by omega) (by omega)]; omega
    refine cdr 8 [0] mixo (fun ht hn => (d_v 0 (.int .i64 (m : Int)) rfl (v_pv rfl) rfl rfl rfl ht hn (by kernel_rfl) (fun w s => s.rm 0) (d_v 1 (.slice (some ⟨g, o, none⟩) n c) rfl (v_pv rfl) rfl rfl rfl ht hn (by kernel_rfl) (fun w s => s.rm 0) (d_v 2 (.int .i64 (m : Int)) rfl (v_pv rfl) rfl rfl rfl ht hn (by kernel_rfl) (fun w s => s.rm 0) (d_v 3 (.slice (some ⟨g, o + m * 1, none⟩) (n - m) (c - m)) rfl (v_cutn (sz := 1) (l := m) (h := n) sl22 sz3 rfl rfl rfl (by omega) (by omega) (by omega)) rfl rfl rfl ht hn (by kernel_rfl) (fun w s => s.rm 0) (d_v 4 (.slice (some ⟨g, o, none⟩) n c) rfl (v_pv rfl) rfl rfl rfl ht hn (by kernel_rfl) (fun w s => s.rm 0) (d_v 5 (.int .i64 (m : Int)) rfl (v_pv rfl) rfl rfl rfl ht hn (by kernel_rfl) (fun w s => s.rm 0) (d_v 6 (.slice (some ⟨g, o, none⟩) m c) rfl (v_cutn (sz := 1) (l := 0) (h := m) sl22 sz3 rfl rfl rfl (by omega) (by omega) (by omega)) rfl rfl rfl ht hn (by kernel_rfl) (fun w s => s.rm 0) (d1 7 rfl ?_)))))))))
    refine l_cpw (K := kT3) (xs := List.replicate m v ++ List.replicate (n - m) 0) (zs := List.replicate m v ++ List.replicate (n - m) 0) (lo := m) (l2 := 0) (k := k) 0 0 (Kind.scal_flat _ _) (Kind.scal_bare _ _) cT3 rfl rfl sl22 sz3 rfl sees_ow rfl rfl hk (by simp; omega) (by simp; omega) (l_nil (q_draw (fun w s => s.rm 0) (k_st (V' := ow kT3 3 (.slice (some ⟨g, o, none⟩) n c) (List.replicate (m + k) v ++ List.replicate (n - (m + k)) 0) :: rds kT3 (.slice (some ⟨gx, ox, none⟩) 1 c_2) [v] :: V) (fun w s => by rw [← rep_step v (0 : Int) hk1 (show m + k ≤ n by omega)]; exact s) (d1 8 rfl (l_v (.int .i64 ((m + k : Nat) : Int)) (by rw [← hw]; exact v_pv rfl) rfl rfl (l_nil (qE (d1 9 rfl (lI rfl (l_nil (qE (dD (q_blockn ?_)))))))))))))
    exact qA () (fun w s => s)
  · rw [if_neg hlt] at hf
    obtain rfl := so hf
    obtain rfl : m = n := by omega
    have hb : decide ((m : Int) < (m : Int)) = false := decide_eq_false (by omega)
    refine c_false rfl hb (c_exit (q_exit (q_exit (q_block (q_next (c_seq (c_region (lS rfl (lS rfl (l_nil (q_next (c_ret ?_))))))))))))
    have hE2 : List.replicate m v ++ List.replicate (m - m) 0 = r := by rw [← hr]; simp
    exact q_fin (vs := [(.slice (some ⟨g, o, none⟩) m c)]) (.inl rfl) (some ⟨g, o, none⟩, m, c) rfl ⟨rfl, trivial⟩ rfl (fun w s => by rw [← hE2]; exact s.sel 2 [0] rfl rfl)
theorem Zt_ok  {l1 : Nest} {r : Plan × Bool} (hr : Zt l1 = some r) :
 FnOk Tryz.prog 19 [(.agg [(.slice A2 N2 D2), (.slice A3 N3 D3), (.slice A4 N4 D4), (.slice A5 N5 D5), (.slice A6 N6 D6)].toArray)] [rds kT3 (.slice A2 N2 D2) l1.Sizes, rds kT3 (.slice A3 N3 D3) l1.Ins, rds kT57 (.slice A4 N4 D4) l1.Fixed, rds kT64 (.slice A5 N5 D5) l1.Kernels, rds kT3 (.slice A6 N6 D6) l1.Outs] (fun (h : HH × HH × HH × HH × HH × HH) => ((.tuple [(.agg [(.slice h.1.1 h.1.2.1 h.1.2.2), (.slice h.2.1.1 h.2.1.2.1 h.2.1.2.2), (.slice h.2.2.1.1 h.2.2.1.2.1 h.2.2.1.2.2), (.slice h.2.2.2.1.1 h.2.2.2.1.2.1 h.2.2.2.1.2.2), (.slice h.2.2.2.2.1.1 h.2.2.2.2.1.2.1 h.2.2.2.2.1.2.2), (.slice h.2.2.2.2.2.1 h.2.2.2.2.2.2.1 h.2.2.2.2.2.2.2), (iv r.1.Arena)].toArray), (.bool r.2)].toArray), [ow kT3 3 (.slice h.1.1 h.1.2.1 h.1.2.2) r.1.Nest.Sizes, ow kT3 3 (.slice h.2.1.1 h.2.1.2.1 h.2.1.2.2) r.1.Nest.Ins, ow kT57 57 (.slice h.2.2.1.1 h.2.2.1.2.1 h.2.2.1.2.2) r.1.Nest.Fixed, ow kT64 64 (.slice h.2.2.2.1.1 h.2.2.2.1.2.1 h.2.2.2.1.2.2) r.1.Nest.Kernels, ow kT3 3 (.slice h.2.2.2.2.1.1 h.2.2.2.2.1.2.1 h.2.2.2.2.1.2.2) r.1.Nest.Outs, ow kT3 3 (.slice h.2.2.2.2.2.1 h.2.2.2.2.2.2.1 h.2.2.2.2.2.2.2) r.1.Offsets])) := by
 unfold Zt at hr
 refine fn_ok Tryz.func19 R 48 R R fun C V => ?_
 refine cN (_ :: _ :: _ :: _ :: _ :: V) ?_
 refine cL 0 sees_rd ?_
 rintro rfl
 refine cL 1 sees_rd ?_
 rintro rfl
 refine cL 2 sees_rd ?_
 rintro rfl
 refine cL 3 sees_rd ?_
 rintro rfl
 refine cL 4 sees_rd ?_
 rintro rfl
 let W0 : List HP := RR kT3 A2 D2 l1.Sizes :: RR kT3 A3 D3 l1.Ins :: RR kT57 A4 D4 l1.Fixed :: RR kT64 A5 D5 l1.Kernels :: RR kT3 A6 D6 l1.Outs :: V
 refine cN W0 ?_
 refine c_seq (c_region (lBx R (fun b7 => (l_alloc R R zc38 (fun b8 => (lB R (l_nil ?_)))))))
 let W1 : List HP := bxl b7 [(sc A2 l1.Sizes D2), (sc A3 l1.Ins D3), (sc A4 l1.Fixed D4), (sc A5 l1.Kernels D5), (sc A6 l1.Outs D6)] 36 :: W0
 refine qN (_ :: W1) ?_
 refine q_next (c_seq (c_seq ?_))
 obtain ⟨r9, hx10, hr⟩ := bd hr
 refine c_region (lO (vz (.agg [(sc A2 l1.Sizes D2), (sc A3 l1.Ins D3), (sc A4 l1.Fixed D4), (sc A5 l1.Kernels D5), (sc A6 l1.Outs D6)].toArray) (v_loadw 1 ag36 sz36 R R R R)) (lM (RR kT3 A2 D2 l1.Sizes :: RR kT3 A3 D3 l1.Ins :: RR kT57 A4 D4 l1.Fixed :: RR kT64 A5 D5 l1.Kernels :: RR kT3 A6 D6 l1.Outs :: bxl _ _ _ :: W1) (fun w s => ((((((s.d 2 R).d 4 R).d 6 R).d 8 R).d 10 R).e 6 [4, 3, 2, 1, 0, 5])) ?_))
 refine lC 5 cb55 R (Z4_ok hx10) R ?_
 rintro _
 refine lN (_ :: W1) ?_
 refine lO (vNo R) (l_nil (q_next ?_))
 rcases bif_ hr with ⟨hb11, hr⟩ | ⟨hb11, hr⟩
 refine c_true R hb11 (c_seq (c_region (lO (vz (.agg [(.slice none 0 0), (.slice none 0 0), (.slice none 0 0), (.slice none 0 0), (.slice none 0 0), (.slice none 0 0), (iv 0)].toArray) (v_build pl38 zc38 R R)) (l_stores 0 R R sz38 R R R R R R (lB R (l_nil (q_next (c_ret (q_ret ?_)))))))))
 obtain rfl := so hr
 exact q_fin (vs := [(.agg [(.slice none 0 0), (.slice none 0 0), (.slice none 0 0), (.slice none 0 0), (.slice none 0 0), (.slice none 0 0), (iv 0)].toArray), (.bool false)]) (.inl R) ((none, 0, 0), (none, 0, 0), (none, 0, 0), (none, 0, 0), (none, 0, 0), (none, 0, 0)) R ⟨⟨0, b8, _, _, R, R, .inl ⟨ag38, sz38, R⟩⟩, R, trivial⟩ R (fun w s => (((((((s.nilo kT3 3).nilo kT3 3).nilo kT57 57).nilo kT64 64).nilo kT3 3).nilo kT3 3).e 13 [5, 4, 3, 2, 1, 0]))
 refine c_false R hb11 (c_skip (q_next (c_seq ?_)))
 obtain ⟨r12, hx13, hr⟩ := bd hr
 refine c_region (lO (vz (.agg [(sc A2 l1.Sizes D2), (sc A3 l1.Ins D3), (sc A4 l1.Fixed D4), (sc A5 l1.Kernels D5), (sc A6 l1.Outs D6)].toArray) (v_loadw 1 ag36 sz36 R R R R)) (lM (RR kT3 A2 D2 l1.Sizes :: RR kT3 A3 D3 l1.Ins :: RR kT57 A4 D4 l1.Fixed :: RR kT64 A5 D5 l1.Kernels :: RR kT3 A6 D6 l1.Outs :: bxl _ _ _ :: W1) (fun w s => ((((((s.d 2 R).d 4 R).d 6 R).d 8 R).d 10 R).e 6 [4, 3, 2, 1, 0, 5])) ?_))
 refine lC 5 cb56 R (Z2_ok hx13) R ?_
 rintro ⟨A14, N14, D14⟩
 refine lN (ow kT88 88 (.slice A14 N14 D14) r12 :: _ :: W1) ?_
 refine l_len 0 sees_ow ?_
 rintro rfl
 refine lS R (l_nil (q_next (c_seq ?_)))
 obtain ⟨r15, hx16, hr⟩ := bd hr
 refine c_region (lS R (lC 1 cb57 R (FnOk.lends (A' := [OO kT88 88 A14 D14 r12]) (A := [RR kT88 A14 D14 r12]) (B := []) (Z8_ok hx16) ⟨lend_ow, trivial⟩ (fun _ => ⟨(closed_ow cT3), trivial⟩)) R ?_))
 rintro ⟨A17, N17, D17⟩
 refine lN (_ :: ow kT3 3 (.slice A17 N17 D17) r15.1 :: _ :: W1) ?_
 refine l_len 1 sees_ow ?_
 rintro rfl
 refine lO (vT R) (lS R (lI R (lS R (lI R (l_nil (q_next (c_seq ?_)))))))
 obtain ⟨r18, hx19, hr⟩ := bd hr
 obtain ⟨r26, hx27, hr⟩ := bd hr
 refine c_cutq (A := (Unit) × (Nat × HH × HH × HH × HH × HH × HH)) (fun _ => True) (fun a => [(2, (pt b8 0)), (4, (sc A14 r12 D14)), (5, (sc A17 r15.1 D17)), (7, (pt a.2.1 0))]) (fun a => bxl b8 [(.slice none 0 0), (.slice none 0 0), (.slice none 0 0), (.slice none 0 0), (.slice none 0 0), (.slice none 0 0), (iv 0)] 38 :: OO kT88 88 A14 D14 r12 :: OO kT3 3 A17 D17 r15.1 :: bxl a.2.1 [(.slice a.2.2.1.1 a.2.2.1.2.1 a.2.2.1.2.2), (.slice a.2.2.2.1.1 a.2.2.2.1.2.1 a.2.2.2.1.2.2), (.slice a.2.2.2.2.1.1 a.2.2.2.2.1.2.1 a.2.2.2.2.1.2.2), (.slice a.2.2.2.2.2.1.1 a.2.2.2.2.2.1.2.1 a.2.2.2.2.2.1.2.2), (.slice a.2.2.2.2.2.2.1.1 a.2.2.2.2.2.2.1.2.1 a.2.2.2.2.2.2.1.2.2), (.slice a.2.2.2.2.2.2.2.1 a.2.2.2.2.2.2.2.2.1 a.2.2.2.2.2.2.2.2.2), (iv r15.2)] 38 :: ow kT3 3 (.slice a.2.2.1.1 a.2.2.1.2.1 a.2.2.1.2.2) r18.Sizes :: ow kT3 3 (.slice a.2.2.2.1.1 a.2.2.2.1.2.1 a.2.2.2.1.2.2) r18.Ins :: ow kT57 57 (.slice a.2.2.2.2.1.1 a.2.2.2.2.1.2.1 a.2.2.2.2.1.2.2) r18.Fixed :: ow kT64 64 (.slice a.2.2.2.2.2.1.1 a.2.2.2.2.2.1.2.1 a.2.2.2.2.2.1.2.2) r18.Kernels :: ow kT3 3 (.slice a.2.2.2.2.2.2.1.1 a.2.2.2.2.2.2.1.2.1 a.2.2.2.2.2.2.1.2.2) r18.Outs :: ow kT3 3 (.slice a.2.2.2.2.2.2.2.1 a.2.2.2.2.2.2.2.2.1 a.2.2.2.2.2.2.2.2.2) r26 :: W1) ?_ ?_
 refine cdr 11 [] mixo (fun ht hn => (dR 0 R (vz (.agg [(sc A2 l1.Sizes D2), (sc A3 l1.Ins D3), (sc A4 l1.Fixed D4), (sc A5 l1.Kernels D5), (sc A6 l1.Outs D6)].toArray) (v_loadw 3 ag36 sz36 R R R R)) (dR 3 R (vFa 0 fo36_0 R) (dR 4 R (vLd 3 ag22 R R R) (dR 5 R (v_len sl22 R) (dR 7 R (vI R) (d_all [1, 2, 9] (by kernel_rfl) R ⟨?_, ?_, ?_, trivial⟩)))))))
 refine lM (RR kT3 A2 D2 l1.Sizes :: RR kT3 A3 D3 l1.Ins :: RR kT57 A4 D4 l1.Fixed :: RR kT64 A5 D5 l1.Kernels :: RR kT3 A6 D6 l1.Outs :: ow _ _ _ _ :: ow _ _ _ _ :: bxl _ _ _ :: W1) (fun w s => ((((((s.d 4 R).d 6 R).d 8 R).d 10 R).d 12 R).e 8 [4, 3, 2, 1, 0, 5, 6, 7])) ?_
 refine lC 5 cb58 R (Z13_ok hx19) R ?_
 rintro ⟨⟨A20, N20, D20⟩, ⟨A21, N21, D21⟩, ⟨A22, N22, D22⟩, ⟨A23, N23, D23⟩, ⟨A24, N24, D24⟩⟩
 refine lN (ow kT3 3 (.slice A20 N20 D20) r18.Sizes :: ow kT3 3 (.slice A21 N21 D21) r18.Ins :: ow kT57 57 (.slice A22 N22 D22) r18.Fixed :: ow kT64 64 (.slice A23 N23 D23) r18.Kernels :: ow kT3 3 (.slice A24 N24 D24) r18.Outs :: _ :: _ :: _ :: W1) ?_
 refine l_len 0 sees_ow ?_
 rintro rfl
 refine l_len 1 sees_ow ?_
 rintro rfl
 refine l_len 2 sees_ow ?_
 rintro rfl
 refine l_len 3 sees_ow ?_
 rintro rfl
 refine l_len 4 sees_ow ?_
 rintro rfl
 refine l_nil (q_draw (sL [4, 3, 2, 1, 0]) (d_all [2, 9] (by kernel_rfl) R ⟨?_, ?_, trivial⟩))
 refine l_build (K := kT3) (xs := ([(-1 : Int)] : List Int)) (vs := [(iv (-1))]) 0 R R sl22 sz3 zc3 R R R R R R ?_ R (fun A25 D25 => ?_)
 exact fun I h s => (mO3).list [((), (-1 : Int))] I h s
 refine lN (OO kT3 3 A25 D25 ([(-1 : Int)] : List Int) :: _ :: _ :: _ :: _ :: _ :: _ :: _ :: _ :: W1) ?_
 refine l_nil (q_draw (sL [5, 4, 3, 2, 1, 0]) (d_all [6, 9] (by kernel_rfl) R ⟨?_, ?_, trivial⟩))
 refine lC 1 cb59 R (FnOk.lends (A' := [OO kT3 3 A25 D25 ([(-1 : Int)] : List Int)]) (A := [RR kT3 A25 D25 ([(-1 : Int)] : List Int)]) (B := []) (Z0x_ok hx27) ⟨lend_ow, trivial⟩ (fun _ => ⟨(closed_ow cT3), trivial⟩)) R ?_
 rintro ⟨A28, N28, D28⟩
 refine lN (_ :: ow kT3 3 (.slice A28 N28 D28) r26 :: _ :: _ :: _ :: _ :: _ :: _ :: _ :: _ :: W1) ?_
 refine l_len 1 sees_ow ?_
 rintro rfl
 refine l_nil (q_draw (sL [6, 5, 4, 3, 2, 1, 0]) (dR 8 R (vz (.agg [(sc A20 r18.Sizes D20), (sc A21 r18.Ins D21), (sc A22 r18.Fixed D22), (sc A23 r18.Kernels D23), (sc A24 r18.Outs D24), (sc A28 r26 D28), (iv r15.2)].toArray) (v_build pl38 zc38 R R)) (hS := (sL [6, 5, 4, 3, 2, 1, 0])) (d1 9 R (l_alloc R R zc38 (fun b29 => (l_nil (q_draw (sL [7, 6, 5, 4, 3, 2, 1, 0]) (d1 10 R (l_stores 0 R R sz38 R R R R R R (lN (bxl b29 [(sc A20 r18.Sizes D20), (sc A21 r18.Ins D21), (sc A22 r18.Fixed D22), (sc A23 r18.Kernels D23), (sc A24 r18.Outs D24), (sc A28 r26 D28), (iv r15.2)] 38 :: _ :: _ :: _ :: _ :: _ :: _ :: _ :: _ :: _ :: _ :: W1) ?_))))))))))
 refine l_nil (q_draw (sL [7, 6, 5, 4, 3, 2, 1, 0]) (dD ?_))
 exact q_join ((), (b29, (A20, r18.Sizes.length, D20), (A21, r18.Ins.length, D21), (A22, r18.Fixed.length, D22), (A23, r18.Kernels.length, D23), (A24, r18.Outs.length, D24), (A28, r26.length, D28))) trivial (aS R) (fun w s => (s.e 11 [10, 8, 9, 0, 3, 4, 5, 6, 7, 2]))
 refine l_alloc R R zc38 (fun b29 => (l_nil (q_draw (sL [6, 5, 4, 3, 2, 1, 0]) (d1 6 R (lM (ow _ _ _ _ :: bxl _ _ _ :: ow _ _ _ _ :: ow _ _ _ _ :: ow _ _ _ _ :: ow _ _ _ _ :: ow _ _ _ _ :: ow _ _ _ _ :: ow _ _ _ _ :: bxl _ _ _ :: W1) (fun w s => (s.f 10 [1, 1, 0, 1, 2, 8])) ?_)))))
 refine lC 1 cb59 R (FnOk.lends (A' := [OO kT3 3 A25 D25 ([(-1 : Int)] : List Int)]) (A := [RR kT3 A25 D25 ([(-1 : Int)] : List Int)]) (B := []) (Z0x_ok hx27) ⟨lend_ow, trivial⟩ (fun _ => ⟨(closed_ow cT3), trivial⟩)) R ?_
 rintro ⟨A28, N28, D28⟩
 refine lN (_ :: ow kT3 3 (.slice A28 N28 D28) r26 :: _ :: _ :: _ :: _ :: _ :: _ :: _ :: _ :: _ :: W1) ?_
 refine l_len 1 sees_ow ?_
 rintro rfl
 refine l_nil (q_draw (sL [7, 6, 5, 4, 3, 2, 1, 0]) (dR 8 R (vz (.agg [(sc A20 r18.Sizes D20), (sc A21 r18.Ins D21), (sc A22 r18.Fixed D22), (sc A23 r18.Kernels D23), (sc A24 r18.Outs D24), (sc A28 r26 D28), (iv r15.2)].toArray) (v_build pl38 zc38 R R)) (hS := (sL [7, 6, 5, 4, 3, 2, 1, 0])) (d1 10 R (l_stores 2 R R sz38 R R R R R R (lN (_ :: _ :: bxl b29 [(sc A20 r18.Sizes D20), (sc A21 r18.Ins D21), (sc A22 r18.Fixed D22), (sc A23 r18.Kernels D23), (sc A24 r18.Outs D24), (sc A28 r26 D28), (iv r15.2)] 38 :: _ :: _ :: _ :: _ :: _ :: _ :: _ :: _ :: W1) ?_)))))
 refine l_nil (q_draw (sL [7, 6, 5, 4, 3, 2, 1, 0]) (dD ?_))
 exact q_join ((), (b29, (A20, r18.Sizes.length, D20), (A21, r18.Ins.length, D21), (A22, r18.Fixed.length, D22), (A23, r18.Kernels.length, D23), (A24, r18.Outs.length, D24), (A28, r26.length, D28))) trivial (aS R) (fun w s => (s.f 11 [10, 1, 8, 2, 2, 6, 1, 1]))
 refine l_alloc R R zc38 (fun b29 => (l_nil (q_draw (sL [5, 4, 3, 2, 1, 0]) (d1 2 R (l_build (K := kT3) (xs := ([(-1 : Int)] : List Int)) (vs := [(iv (-1))]) 0 R R sl22 sz3 zc3 R R R R R R ?_ R (fun A25 D25 => ?_))))))
 exact fun I h s => (mO3).list [((), (-1 : Int))] I h s
 refine lN (_ :: _ :: _ :: _ :: _ :: _ :: _ :: _ :: _ :: _ :: W1) ?_
 refine l_nil (q_draw (sL [6, 5, 4, 3, 2, 1, 0]) (d1 6 R (lC 1 cb59 R (FnOk.lends (A' := [OO kT3 3 A25 D25 ([(-1 : Int)] : List Int)]) (A := [RR kT3 A25 D25 ([(-1 : Int)] : List Int)]) (B := []) (Z0x_ok hx27) ⟨lend_ow, trivial⟩ (fun _ => ⟨(closed_ow cT3), trivial⟩)) R ?_)))
 rintro ⟨A28, N28, D28⟩
 refine lN (_ :: ow kT3 3 (.slice A28 N28 D28) r26 :: _ :: _ :: _ :: _ :: _ :: _ :: _ :: _ :: _ :: W1) ?_
 refine l_len 1 sees_ow ?_
 rintro rfl
 refine l_nil (q_draw (sL [7, 6, 5, 4, 3, 2, 1, 0]) (dR 8 R (vz (.agg [(sc A20 r18.Sizes D20), (sc A21 r18.Ins D21), (sc A22 r18.Fixed D22), (sc A23 r18.Kernels D23), (sc A24 r18.Outs D24), (sc A28 r26 D28), (iv r15.2)].toArray) (v_build pl38 zc38 R R)) (hS := (sL [7, 6, 5, 4, 3, 2, 1, 0])) (d1 10 R (l_stores 2 R R sz38 R R R R R R (lN (_ :: _ :: bxl b29 [(sc A20 r18.Sizes D20), (sc A21 r18.Ins D21), (sc A22 r18.Fixed D22), (sc A23 r18.Kernels D23), (sc A24 r18.Outs D24), (sc A28 r26 D28), (iv r15.2)] 38 :: _ :: _ :: _ :: _ :: _ :: _ :: _ :: _ :: W1) ?_)))))
 refine l_nil (q_draw (sL [7, 6, 5, 4, 3, 2, 1, 0]) (dD ?_))
 exact q_join ((), (b29, (A20, r18.Sizes.length, D20), (A21, r18.Ins.length, D21), (A22, r18.Fixed.length, D22), (A23, r18.Kernels.length, D23), (A24, r18.Outs.length, D24), (A28, r26.length, D28))) trivial (aS R) (fun w s => (s.f 11 [10, 1, 8, 2, 2, 6, 1, 1]))
 refine l_build (K := kT3) (xs := ([(-1 : Int)] : List Int)) (vs := [(iv (-1))]) 0 R R sl22 sz3 zc3 R R R R R R ?_ R (fun A25 D25 => ?_)
 exact fun I h s => (mO3).list [((), (-1 : Int))] I h s
 refine lN (_ :: _ :: _ :: _ :: W1) ?_
 refine l_nil (q_draw (sL [0]) (d_all [1, 9] (by kernel_rfl) R ⟨?_, ?_, trivial⟩))
 refine lM (RR kT3 A2 D2 l1.Sizes :: RR kT3 A3 D3 l1.Ins :: RR kT57 A4 D4 l1.Fixed :: RR kT64 A5 D5 l1.Kernels :: RR kT3 A6 D6 l1.Outs :: ow _ _ _ _ :: ow _ _ _ _ :: ow _ _ _ _ :: bxl _ _ _ :: W1) (fun w s => ((((((s.d 5 R).d 7 R).d 9 R).d 11 R).d 13 R).e 9 [4, 3, 2, 1, 0, 5, 6, 7, 8])) ?_
 refine lC 5 cb58 R (Z13_ok hx19) R ?_
 rintro ⟨⟨A20, N20, D20⟩, ⟨A21, N21, D21⟩, ⟨A22, N22, D22⟩, ⟨A23, N23, D23⟩, ⟨A24, N24, D24⟩⟩
 refine lN (ow kT3 3 (.slice A20 N20 D20) r18.Sizes :: ow kT3 3 (.slice A21 N21 D21) r18.Ins :: ow kT57 57 (.slice A22 N22 D22) r18.Fixed :: ow kT64 64 (.slice A23 N23 D23) r18.Kernels :: ow kT3 3 (.slice A24 N24 D24) r18.Outs :: _ :: _ :: _ :: _ :: W1) ?_
 refine l_len 0 sees_ow ?_
 rintro rfl
 refine l_len 1 sees_ow ?_
 rintro rfl
 refine l_len 2 sees_ow ?_
 rintro rfl
 refine l_len 3 sees_ow ?_
 rintro rfl
 refine l_len 4 sees_ow ?_
 rintro rfl
 refine l_nil (q_draw (sL [5, 4, 3, 2, 1, 0]) (d_all [6, 9] (by kernel_rfl) R ⟨?_, ?_, trivial⟩))
 refine lM (ow _ _ _ _ :: ow _ _ _ _ :: ow _ _ _ _ :: ow _ _ _ _ :: ow _ _ _ _ :: ow _ _ _ _ :: ow _ _ _ _ :: ow _ _ _ _ :: bxl _ _ _ :: W1) (fun w s => (s.f 9 [5, 1, 0, 5, 6, 3])) ?_
 refine lC 1 cb59 R (FnOk.lends (A' := [OO kT3 3 A25 D25 ([(-1 : Int)] : List Int)]) (A := [RR kT3 A25 D25 ([(-1 : Int)] : List Int)]) (B := []) (Z0x_ok hx27) ⟨lend_ow, trivial⟩ (fun _ => ⟨(closed_ow cT3), trivial⟩)) R ?_
 rintro ⟨A28, N28, D28⟩
 refine lN (_ :: ow kT3 3 (.slice A28 N28 D28) r26 :: _ :: _ :: _ :: _ :: _ :: _ :: _ :: _ :: W1) ?_
 refine l_len 1 sees_ow ?_
 rintro rfl
 refine l_nil (q_draw (sL [6, 5, 4, 3, 2, 1, 0]) (dR 8 R (vz (.agg [(sc A20 r18.Sizes D20), (sc A21 r18.Ins D21), (sc A22 r18.Fixed D22), (sc A23 r18.Kernels D23), (sc A24 r18.Outs D24), (sc A28 r26 D28), (iv r15.2)].toArray) (v_build pl38 zc38 R R)) (hS := (sL [6, 5, 4, 3, 2, 1, 0])) (d1 9 R (l_alloc R R zc38 (fun b29 => (l_nil (q_draw (sL [7, 6, 5, 4, 3, 2, 1, 0]) (d1 10 R (l_stores 0 R R sz38 R R R R R R (lN (bxl b29 [(sc A20 r18.Sizes D20), (sc A21 r18.Ins D21), (sc A22 r18.Fixed D22), (sc A23 r18.Kernels D23), (sc A24 r18.Outs D24), (sc A28 r26 D28), (iv r15.2)] 38 :: _ :: _ :: _ :: _ :: _ :: _ :: _ :: _ :: _ :: _ :: W1) ?_))))))))))
 refine l_nil (q_draw (sL [7, 6, 5, 4, 3, 2, 1, 0]) (dD ?_))
 exact q_join ((), (b29, (A20, r18.Sizes.length, D20), (A21, r18.Ins.length, D21), (A22, r18.Fixed.length, D22), (A23, r18.Kernels.length, D23), (A24, r18.Outs.length, D24), (A28, r26.length, D28))) trivial (aS R) (fun w s => (s.e 11 [10, 8, 9, 0, 3, 4, 5, 6, 7, 2]))
 refine l_alloc R R zc38 (fun b29 => (l_nil (q_draw (sL [6, 5, 4, 3, 2, 1, 0]) (d1 6 R (lM (ow _ _ _ _ :: bxl _ _ _ :: ow _ _ _ _ :: ow _ _ _ _ :: ow _ _ _ _ :: ow _ _ _ _ :: ow _ _ _ _ :: ow _ _ _ _ :: ow _ _ _ _ :: bxl _ _ _ :: W1) (fun w s => (s.f 10 [6, 1, 0, 6, 7, 3])) ?_)))))
 refine lC 1 cb59 R (FnOk.lends (A' := [OO kT3 3 A25 D25 ([(-1 : Int)] : List Int)]) (A := [RR kT3 A25 D25 ([(-1 : Int)] : List Int)]) (B := []) (Z0x_ok hx27) ⟨lend_ow, trivial⟩ (fun _ => ⟨(closed_ow cT3), trivial⟩)) R ?_
 rintro ⟨A28, N28, D28⟩
 refine lN (_ :: ow kT3 3 (.slice A28 N28 D28) r26 :: _ :: _ :: _ :: _ :: _ :: _ :: _ :: _ :: _ :: W1) ?_
 refine l_len 1 sees_ow ?_
 rintro rfl
 refine l_nil (q_draw (sL [7, 6, 5, 4, 3, 2, 1, 0]) (dR 8 R (vz (.agg [(sc A20 r18.Sizes D20), (sc A21 r18.Ins D21), (sc A22 r18.Fixed D22), (sc A23 r18.Kernels D23), (sc A24 r18.Outs D24), (sc A28 r26 D28), (iv r15.2)].toArray) (v_build pl38 zc38 R R)) (hS := (sL [7, 6, 5, 4, 3, 2, 1, 0])) (d1 10 R (l_stores 2 R R sz38 R R R R R R (lN (_ :: _ :: bxl b29 [(sc A20 r18.Sizes D20), (sc A21 r18.Ins D21), (sc A22 r18.Fixed D22), (sc A23 r18.Kernels D23), (sc A24 r18.Outs D24), (sc A28 r26 D28), (iv r15.2)] 38 :: _ :: _ :: _ :: _ :: _ :: _ :: _ :: _ :: W1) ?_)))))
 refine l_nil (q_draw (sL [7, 6, 5, 4, 3, 2, 1, 0]) (dD ?_))
 exact q_join ((), (b29, (A20, r18.Sizes.length, D20), (A21, r18.Ins.length, D21), (A22, r18.Fixed.length, D22), (A23, r18.Kernels.length, D23), (A24, r18.Outs.length, D24), (A28, r26.length, D28))) trivial (aS R) (fun w s => (s.f 11 [10, 1, 8, 2, 2, 6, 1, 1]))
 refine l_alloc R R zc38 (fun b29 => (l_nil (q_draw (sL [1, 0]) (d1 1 R (lM (RR kT3 A2 D2 l1.Sizes :: RR kT3 A3 D3 l1.Ins :: RR kT57 A4 D4 l1.Fixed :: RR kT64 A5 D5 l1.Kernels :: RR kT3 A6 D6 l1.Outs :: bxl _ _ _ :: ow _ _ _ _ :: ow _ _ _ _ :: ow _ _ _ _ :: bxl _ _ _ :: W1) (fun w s => ((((((s.d 6 R).d 8 R).d 10 R).d 12 R).d 14 R).e 10 [4, 3, 2, 1, 0, 5, 6, 7, 8, 9])) ?_)))))
 refine lC 5 cb58 R (Z13_ok hx19) R ?_
 rintro ⟨⟨A20, N20, D20⟩, ⟨A21, N21, D21⟩, ⟨A22, N22, D22⟩, ⟨A23, N23, D23⟩, ⟨A24, N24, D24⟩⟩
 refine lN (ow kT3 3 (.slice A20 N20 D20) r18.Sizes :: ow kT3 3 (.slice A21 N21 D21) r18.Ins :: ow kT57 57 (.slice A22 N22 D22) r18.Fixed :: ow kT64 64 (.slice A23 N23 D23) r18.Kernels :: ow kT3 3 (.slice A24 N24 D24) r18.Outs :: _ :: _ :: _ :: _ :: _ :: W1) ?_
 refine l_len 0 sees_ow ?_
 rintro rfl
 refine l_len 1 sees_ow ?_
 rintro rfl
 refine l_len 2 sees_ow ?_
 rintro rfl
 refine l_len 3 sees_ow ?_
 rintro rfl
 refine l_len 4 sees_ow ?_
 rintro rfl
 refine l_nil (q_draw (sL [6, 5, 4, 3, 2, 1, 0]) (d1 6 R (lM (ow _ _ _ _ :: ow _ _ _ _ :: ow _ _ _ _ :: ow _ _ _ _ :: ow _ _ _ _ :: ow _ _ _ _ :: bxl _ _ _ :: ow _ _ _ _ :: ow _ _ _ _ :: bxl _ _ _ :: W1) (fun w s => (s.f 10 [6, 1, 0, 6, 7, 3])) ?_)))
 refine lC 1 cb59 R (FnOk.lends (A' := [OO kT3 3 A25 D25 ([(-1 : Int)] : List Int)]) (A := [RR kT3 A25 D25 ([(-1 : Int)] : List Int)]) (B := []) (Z0x_ok hx27) ⟨lend_ow, trivial⟩ (fun _ => ⟨(closed_ow cT3), trivial⟩)) R ?_
 rintro ⟨A28, N28, D28⟩
 refine lN (_ :: ow kT3 3 (.slice A28 N28 D28) r26 :: _ :: _ :: _ :: _ :: _ :: _ :: _ :: _ :: _ :: W1) ?_
 refine l_len 1 sees_ow ?_
 rintro rfl
 refine l_nil (q_draw (sL [7, 6, 5, 4, 3, 2, 1, 0]) (dR 8 R (vz (.agg [(sc A20 r18.Sizes D20), (sc A21 r18.Ins D21), (sc A22 r18.Fixed D22), (sc A23 r18.Kernels D23), (sc A24 r18.Outs D24), (sc A28 r26 D28), (iv r15.2)].toArray) (v_build pl38 zc38 R R)) (hS := (sL [7, 6, 5, 4, 3, 2, 1, 0])) (d1 10 R (l_stores 7 R R sz38 R R R R R R (lN (_ :: _ :: _ :: _ :: _ :: _ :: _ :: bxl b29 [(sc A20 r18.Sizes D20), (sc A21 r18.Ins D21), (sc A22 r18.Fixed D22), (sc A23 r18.Kernels D23), (sc A24 r18.Outs D24), (sc A28 r26 D28), (iv r15.2)] 38 :: _ :: _ :: _ :: W1) ?_)))))
 refine l_nil (q_draw (sL [7, 6, 5, 4, 3, 2, 1, 0]) (dD ?_))
 exact q_join ((), (b29, (A20, r18.Sizes.length, D20), (A21, r18.Ins.length, D21), (A22, r18.Fixed.length, D22), (A23, r18.Kernels.length, D23), (A24, r18.Outs.length, D24), (A28, r26.length, D28))) trivial (aS R) (fun w s => (s.e 11 [10, 8, 9, 7, 2, 3, 4, 5, 6, 1]))
 refine l_alloc R R zc38 (fun b29 => (l_nil (q_draw (sL [0]) (d_all [1, 2] (by kernel_rfl) R ⟨?_, ?_, trivial⟩))))
 refine lM (RR kT3 A2 D2 l1.Sizes :: RR kT3 A3 D3 l1.Ins :: RR kT57 A4 D4 l1.Fixed :: RR kT64 A5 D5 l1.Kernels :: RR kT3 A6 D6 l1.Outs :: bxl _ _ _ :: ow _ _ _ _ :: ow _ _ _ _ :: bxl _ _ _ :: W1) (fun w s => ((((((s.d 5 R).d 7 R).d 9 R).d 11 R).d 13 R).e 9 [4, 3, 2, 1, 0, 5, 6, 7, 8])) ?_
 refine lC 5 cb58 R (Z13_ok hx19) R ?_
 rintro ⟨⟨A20, N20, D20⟩, ⟨A21, N21, D21⟩, ⟨A22, N22, D22⟩, ⟨A23, N23, D23⟩, ⟨A24, N24, D24⟩⟩
 refine lN (ow kT3 3 (.slice A20 N20 D20) r18.Sizes :: ow kT3 3 (.slice A21 N21 D21) r18.Ins :: ow kT57 57 (.slice A22 N22 D22) r18.Fixed :: ow kT64 64 (.slice A23 N23 D23) r18.Kernels :: ow kT3 3 (.slice A24 N24 D24) r18.Outs :: _ :: _ :: _ :: _ :: W1) ?_
 refine l_len 0 sees_ow ?_
 rintro rfl
 refine l_len 1 sees_ow ?_
 rintro rfl
 refine l_len 2 sees_ow ?_
 rintro rfl
 refine l_len 3 sees_ow ?_
 rintro rfl
 refine l_len 4 sees_ow ?_
 rintro rfl
 refine l_nil (q_draw (sL [5, 4, 3, 2, 1, 0]) (d1 2 R (l_build (K := kT3) (xs := ([(-1 : Int)] : List Int)) (vs := [(iv (-1))]) 0 R R sl22 sz3 zc3 R R R R R R ?_ R (fun A25 D25 => ?_))))
 exact fun I h s => (mO3).list [((), (-1 : Int))] I h s
 refine lN (OO kT3 3 A25 D25 ([(-1 : Int)] : List Int) :: _ :: _ :: _ :: _ :: _ :: _ :: _ :: _ :: _ :: W1) ?_
 refine l_nil (q_draw (sL [6, 5, 4, 3, 2, 1, 0]) (d1 6 R (lC 1 cb59 R (FnOk.lends (A' := [OO kT3 3 A25 D25 ([(-1 : Int)] : List Int)]) (A := [RR kT3 A25 D25 ([(-1 : Int)] : List Int)]) (B := []) (Z0x_ok hx27) ⟨lend_ow, trivial⟩ (fun _ => ⟨(closed_ow cT3), trivial⟩)) R ?_)))
 rintro ⟨A28, N28, D28⟩
 refine lN (_ :: ow kT3 3 (.slice A28 N28 D28) r26 :: _ :: _ :: _ :: _ :: _ :: _ :: _ :: _ :: _ :: W1) ?_
 refine l_len 1 sees_ow ?_
 rintro rfl
 refine l_nil (q_draw (sL [7, 6, 5, 4, 3, 2, 1, 0]) (dR 8 R (vz (.agg [(sc A20 r18.Sizes D20), (sc A21 r18.Ins D21), (sc A22 r18.Fixed D22), (sc A23 r18.Kernels D23), (sc A24 r18.Outs D24), (sc A28 r26 D28), (iv r15.2)].toArray) (v_build pl38 zc38 R R)) (hS := (sL [7, 6, 5, 4, 3, 2, 1, 0])) (d1 10 R (l_stores 7 R R sz38 R R R R R R (lN (_ :: _ :: _ :: _ :: _ :: _ :: _ :: bxl b29 [(sc A20 r18.Sizes D20), (sc A21 r18.Ins D21), (sc A22 r18.Fixed D22), (sc A23 r18.Kernels D23), (sc A24 r18.Outs D24), (sc A28 r26 D28), (iv r15.2)] 38 :: _ :: _ :: _ :: W1) ?_)))))
 refine l_nil (q_draw (sL [7, 6, 5, 4, 3, 2, 1, 0]) (dD ?_))
 exact q_join ((), (b29, (A20, r18.Sizes.length, D20), (A21, r18.Ins.length, D21), (A22, r18.Fixed.length, D22), (A23, r18.Kernels.length, D23), (A24, r18.Outs.length, D24), (A28, r26.length, D28))) trivial (aS R) (fun w s => (s.e 11 [10, 8, 9, 7, 2, 3, 4, 5, 6, 1]))
 refine l_build (K := kT3) (xs := ([(-1 : Int)] : List Int)) (vs := [(iv (-1))]) 0 R R sl22 sz3 zc3 R R R R R R ?_ R (fun A25 D25 => ?_)
 exact fun I h s => (mO3).list [((), (-1 : Int))] I h s
 refine lN (_ :: bxl b29 [(.slice none 0 0), (.slice none 0 0), (.slice none 0 0), (.slice none 0 0), (.slice none 0 0), (.slice none 0 0), (iv 0)] 38 :: _ :: _ :: _ :: W1) ?_
 refine l_nil (q_draw (sL [1, 0]) (d1 1 R (lM (RR kT3 A2 D2 l1.Sizes :: RR kT3 A3 D3 l1.Ins :: RR kT57 A4 D4 l1.Fixed :: RR kT64 A5 D5 l1.Kernels :: RR kT3 A6 D6 l1.Outs :: ow _ _ _ _ :: bxl _ _ _ :: ow _ _ _ _ :: ow _ _ _ _ :: bxl _ _ _ :: W1) (fun w s => ((((((s.d 6 R).d 8 R).d 10 R).d 12 R).d 14 R).e 10 [4, 3, 2, 1, 0, 5, 6, 7, 8, 9])) ?_)))
 refine lC 5 cb58 R (Z13_ok hx19) R ?_
 rintro ⟨⟨A20, N20, D20⟩, ⟨A21, N21, D21⟩, ⟨A22, N22, D22⟩, ⟨A23, N23, D23⟩, ⟨A24, N24, D24⟩⟩
 refine lN (ow kT3 3 (.slice A20 N20 D20) r18.Sizes :: ow kT3 3 (.slice A21 N21 D21) r18.Ins :: ow kT57 57 (.slice A22 N22 D22) r18.Fixed :: ow kT64 64 (.slice A23 N23 D23) r18.Kernels :: ow kT3 3 (.slice A24 N24 D24) r18.Outs :: _ :: _ :: _ :: _ :: _ :: W1) ?_
 refine l_len 0 sees_ow ?_
 rintro rfl
 refine l_len 1 sees_ow ?_
 rintro rfl
 refine l_len 2 sees_ow ?_
 rintro rfl
 refine l_len 3 sees_ow ?_
 rintro rfl
 refine l_len 4 sees_ow ?_
 rintro rfl
 refine l_nil (q_draw (sL [6, 5, 4, 3, 2, 1, 0]) (d1 6 R (lM (ow _ _ _ _ :: ow _ _ _ _ :: ow _ _ _ _ :: ow _ _ _ _ :: ow _ _ _ _ :: ow _ _ _ _ :: bxl _ _ _ :: ow _ _ _ _ :: ow _ _ _ _ :: bxl _ _ _ :: W1) (fun w s => (s.f 10 [5, 1, 0, 5, 6, 4])) ?_)))
 refine lC 1 cb59 R (FnOk.lends (A' := [OO kT3 3 A25 D25 ([(-1 : Int)] : List Int)]) (A := [RR kT3 A25 D25 ([(-1 : Int)] : List Int)]) (B := []) (Z0x_ok hx27) ⟨lend_ow, trivial⟩ (fun _ => ⟨(closed_ow cT3), trivial⟩)) R ?_
 rintro ⟨A28, N28, D28⟩
 refine lN (_ :: ow kT3 3 (.slice A28 N28 D28) r26 :: _ :: _ :: _ :: _ :: _ :: _ :: _ :: _ :: _ :: W1) ?_
 refine l_len 1 sees_ow ?_
 rintro rfl
 refine l_nil (q_draw (sL [7, 6, 5, 4, 3, 2, 1, 0]) (dR 8 R (vz (.agg [(sc A20 r18.Sizes D20), (sc A21 r18.Ins D21), (sc A22 r18.Fixed D22), (sc A23 r18.Kernels D23), (sc A24 r18.Outs D24), (sc A28 r26 D28), (iv r15.2)].toArray) (v_build pl38 zc38 R R)) (hS := (sL [7, 6, 5, 4, 3, 2, 1, 0])) (d1 10 R (l_stores 7 R R sz38 R R R R R R (lN (_ :: _ :: _ :: _ :: _ :: _ :: _ :: bxl b29 [(sc A20 r18.Sizes D20), (sc A21 r18.Ins D21), (sc A22 r18.Fixed D22), (sc A23 r18.Kernels D23), (sc A24 r18.Outs D24), (sc A28 r26 D28), (iv r15.2)] 38 :: _ :: _ :: _ :: W1) ?_)))))
 refine l_nil (q_draw (sL [7, 6, 5, 4, 3, 2, 1, 0]) (dD ?_))
 exact q_join ((), (b29, (A20, r18.Sizes.length, D20), (A21, r18.Ins.length, D21), (A22, r18.Fixed.length, D22), (A23, r18.Kernels.length, D23), (A24, r18.Outs.length, D24), (A28, r26.length, D28))) trivial (aS R) (fun w s => (s.e 11 [10, 8, 9, 7, 2, 3, 4, 5, 6, 1]))
 rintro ⟨_, ⟨b30, ⟨A31, N31, D31⟩, ⟨A32, N32, D32⟩, ⟨A33, N33, D33⟩, ⟨A34, N34, D34⟩, ⟨A35, N35, D35⟩, ⟨A36, N36, D36⟩⟩⟩ σ1 -
 refine q_len 4 sees_ow (fun (hn : N31 = r18.Sizes.length) => ?_)
 subst hn
 refine q_len 5 sees_ow (fun (hn : N32 = r18.Ins.length) => ?_)
 subst hn
 refine q_len 6 sees_ow (fun (hn : N33 = r18.Fixed.length) => ?_)
 subst hn
 refine q_len 7 sees_ow (fun (hn : N34 = r18.Kernels.length) => ?_)
 subst hn
 refine q_len 8 sees_ow (fun (hn : N35 = r18.Outs.length) => ?_)
 subst hn
 refine q_len 9 sees_ow (fun (hn : N36 = r26.length) => ?_)
 subst hn
 refine q_next (c_seq (c_cut (A := ((List Int)) × (Unit)) (fun a => Zt_J1 r15 r18 a.1 = some r) (fun a => [(2, (pt b8 0)), (7, (pt b30 0))]) (fun a => bxl b8 [(.slice none 0 0), (.slice none 0 0), (.slice none 0 0), (.slice none 0 0), (.slice none 0 0), (.slice none 0 0), (iv 0)] 38 :: bxl b30 [(sc A31 r18.Sizes D31), (sc A32 r18.Ins D32), (sc A33 r18.Fixed D33), (sc A34 r18.Kernels D34), (sc A35 r18.Outs D35), (sc A36 r26 D36), (iv r15.2)] 38 :: OO kT3 3 A31 D31 r18.Sizes :: OO kT3 3 A32 D32 r18.Ins :: OO kT57 57 A33 D33 r18.Fixed :: OO kT64 64 A34 D34 r18.Kernels :: OO kT3 3 A35 D35 r18.Outs :: ow kT3 3 (.slice A36 r26.length D36) a.1 :: W1) ?_ ?_))
 refine c_seq (c_region (lS R (lO (v_len sl83 R) (lI R (l_nil (q_next (c_block ?_)))))))
 obtain ⟨e1, hl1, hk1⟩ := bd hr
 refine c_loop (A := Unit) hl1 (fun s a => [(2, (pt b8 0)), (5, (sc A17 r15.1 D17)), (7, (pt b30 0)), (30, (sc A14 r12 D14)), (31, (il r12)), (32, (iv s.2))]) (fun s a => bxl b8 [(.slice none 0 0), (.slice none 0 0), (.slice none 0 0), (.slice none 0 0), (.slice none 0 0), (.slice none 0 0), (iv 0)] 38 :: OO kT3 3 A17 D17 r15.1 :: bxl b30 [(sc A31 r18.Sizes D31), (sc A32 r18.Ins D32), (sc A33 r18.Fixed D33), (sc A34 r18.Kernels D34), (sc A35 r18.Outs D35), (sc A36 r26 D36), (iv r15.2)] 38 :: OO kT3 3 A31 D31 r18.Sizes :: OO kT3 3 A32 D32 r18.Ins :: OO kT57 57 A33 D33 r18.Fixed :: OO kT64 64 A34 D34 r18.Kernels :: OO kT3 3 A35 D35 r18.Outs :: ow kT3 3 (.slice A36 r26.length D36) s.1 :: OO kT88 88 A14 D14 r12 :: W1) () (aS R) (fun w s => (s.f 10 [0, 1, 2, 8, 1, 1])) ?_
 rintro ⟨p50, x51⟩ _ σ1 out1 hr he1
 replace hr : Zt_L1 r12 r15 r26 p50 x51 = some out1 := hr
 unfold Zt_L1 at hr
 refine c_seq (c_region (lO (vLt R R) (l_nil (q_next (c_seq ?_)))))
 rcases bif_ hr with ⟨hb52, hr⟩ | ⟨hb52, hr⟩
 refine c_true R hb52 (c_skip (q_next (c_seq (c_block (c_seq ?_)))))
 obtain ⟨hg53, hr⟩ := gd hr
 refine c_region (lI R (t_some 9 sees_ow (show 0 < r12.length by have := hg53; omega) (fun g54 o55 ha => ?_)))
 subst ha
 refine lO (vIa sl83 sz88 R R hg53) (l_v (.agg [(iv (ix r12 x51).Buffer), (iv (ix r12 x51).Size), (iv (ix r12 x51).From), (iv (ix r12 x51).To)].toArray) ?_ R R ?_)
 exact (v_ldef (K := kT88) (cells := fun x => [(iv x.Buffer), (iv x.Size), (iv x.From), (iv x.To)]) 9 x51 ag88 sz88 (DecK.flat dT88 fun _ _ => R) sees_ow R hg53.1 hg53.2)
 refine l_alloc R R zc88 (fun b56 => (lI R (l_stores 0 R R sz88 R R R R R R (lN (bxl b56 [(iv (ix r12 x51).Buffer), (iv (ix r12 x51).Size), (iv (ix r12 x51).From), (iv (ix r12 x51).To)] 88 :: _ :: _ :: bxl b30 [(sc A31 r18.Sizes D31), (sc A32 r18.Ins D32), (sc A33 r18.Fixed D33), (sc A34 r18.Kernels D34), (sc A35 r18.Outs D35), (sc A36 r26 D36), (iv r15.2)] 38 :: OO kT3 3 A31 D31 r18.Sizes :: OO kT3 3 A32 D32 r18.Ins :: OO kT57 57 A33 D33 r18.Fixed :: OO kT64 64 A34 D34 r18.Kernels :: OO kT3 3 A35 D35 r18.Outs :: ow kT3 3 (.slice A36 r26.length D36) p50 :: OO kT88 88 (ad g54 o55) D14 r12 :: W1) ?_))))
 refine l_nil (q_next ?_)
 obtain ⟨hg57, hr⟩ := gd hr
 obtain ⟨hg60, hr⟩ := gd hr
 refine c_some 2 sees_ow (show 0 < r15.1.length by have := hg57; omega) (fun g58 o59 ha => ?_)
 subst ha
 refine c_some 9 sees_ow (show 0 < r26.length by have := hg60; omega) (fun g61 o62 ha => ?_)
 subst ha
 refine cdr 10 [9] mixo (fun ht hn => (dR 0 R (vFa 5 fo38_1 R) (hS := (sL [9])) (dR 1 R (vLd 3 ag22 R R R) (hS := (sL [9])) (dR 2 R (vFa 0 fo88_0 R) (hS := (sL [9])) (dR 3 R (vLd 0 ag3 R R R) (hS := (sL [9])) (dR 4 R (vS R) (hS := (sL [9])) (dR 5 R (vI R) (hS := (sL [9])) (dR 6 R (vIa sl22 sz3 R R hg57) (hS := (sL [9])) (dR 7 R (vLi 2 ag3 sees_ow R hg57) (hS := (sL [9])) (dR 8 R (vIa sl22 sz3 R R hg60) (hS := (sL [9])) (d1 9 R (lM (ow kT3 3 (.slice (ad g61 o62) r26.length D36) p50 :: bxl _ _ _ :: bxl _ _ _ :: OO kT3 3 (ad g58 o59) D17 r15.1 :: bxl b30 [(sc A31 r18.Sizes D31), (sc A32 r18.Ins D32), (sc A33 r18.Fixed D33), (sc A34 r18.Kernels D34), (sc A35 r18.Outs D35), (sc (ad g61 o62) r26 D36), (iv r15.2)] 38 :: ow _ _ _ _ :: ow _ _ _ _ :: ow _ _ _ _ :: ow _ _ _ _ :: ow _ _ _ _ :: ow _ _ _ _ :: W1) (fun w s => (s.f 11 [9, 1, 0, 9, 10, 1])) ?_))))))))))))
 refine l_stx (K := kT3) (x' := (ix r15.1 x51)) 0 (ix r12 x51).Buffer R R sz3 R R hg60.1 hg60.2 ?_ ?_
 exact fun I h s => (mO3).put I h () (ix r15.1 x51) s
 refine lN (ow kT3 3 (.slice (ad g61 o62) r26.length D36) (p50.set (ix r12 x51).Buffer.toNat (ix r15.1 x51)) :: _ :: _ :: _ :: _ :: _ :: _ :: _ :: _ :: _ :: _ :: W1) ?_
 refine l_nil (q_draw (sL [0]) (dD (q_blockn (q_next (c_region (lO (vAd R R) (lI R (l_nil ?_))))))))
 obtain rfl := so hr
 exact qA () (fun w s => (s.f 11 [2, 8, 0, 1, 10, 1]))
 refine c_false R hb52 (c_exit (q_exit ?_))
 obtain rfl := so hr
 obtain rfl := he1 _ R
 have hr := hk1
 refine q_exit (q_block ?_)
 exact qI (p50, ()) hr (fun w s => (s.f 10 [0, 1, 2, 7]))
 rintro ⟨p65, _⟩ σ1 hr
 replace hr : Zt_J1 r15 r18 p65 = some r := hr
 unfold Zt_J1 at hr
 refine c_seq (c_region (lO (vz (.agg [(sc A31 r18.Sizes D31), (sc A32 r18.Ins D32), (sc A33 r18.Fixed D33), (sc A34 r18.Kernels D34), (sc A35 r18.Outs D35), (sc A36 r26 D36), (iv r15.2)].toArray) (v_loadw 1 ag38 sz38 R R R R)) (l_stores 0 R R sz38 R R R R R R (lN (bxl b8 [(sc A31 r18.Sizes D31), (sc A32 r18.Ins D32), (sc A33 r18.Fixed D33), (sc A34 r18.Kernels D34), (sc A35 r18.Outs D35), (sc A36 r26 D36), (iv r15.2)] 38 :: bxl b30 [(sc A31 r18.Sizes D31), (sc A32 r18.Ins D32), (sc A33 r18.Fixed D33), (sc A34 r18.Kernels D34), (sc A35 r18.Outs D35), (sc A36 r26 D36), (iv r15.2)] 38 :: _ :: _ :: _ :: _ :: _ :: ow kT3 3 (.slice A36 r26.length D36) p65 :: W1) ?_))))
 refine lB R (l_nil (q_next (c_ret ?_)))
 obtain rfl := so hr
 exact q_fin (vs := [(.agg [(sc A31 r18.Sizes D31), (sc A32 r18.Ins D32), (sc A33 r18.Fixed D33), (sc A34 r18.Kernels D34), (sc A35 r18.Outs D35), (sc A36 r26 D36), (iv r15.2)].toArray), (.bool true)]) (.inl R) ((A31, r18.Sizes.length, D31), (A32, r18.Ins.length, D32), (A33, r18.Fixed.length, D33), (A34, r18.Kernels.length, D34), (A35, r18.Outs.length, D35), (A36, r26.length, D36)) R ⟨⟨0, b8, _, _, R, R, .inl ⟨ag38, sz38, R⟩⟩, R, trivial⟩ R (fun w s => (s.f 14 [2, 6]))
theorem Zp_ok  {a1 : (List Int)} {b3 : (List Int)} {r : Bool} (hr : Zp a1 b3 = some r) :
 FnOk Tryz.prog 44 [(.slice A2 N2 D2), (.slice A4 N4 D4)] [rds kT3 (.slice A2 N2 D2) a1, rds kT3 (.slice A4 N4 D4) b3] (fun (h : Unit) => ((.bool r), [])) := by
 unfold Zp at hr
 refine fn_ok Tryz.func44 R 26 R R fun C V => ?_
 refine cN (_ :: _ :: V) ?_
 refine cL 0 sees_rd ?_
 rintro rfl
 refine cL 1 sees_rd ?_
 rintro rfl
 let W0 : List HP := RR kT3 A2 D2 a1 :: RR kT3 A4 D4 b3 :: V
 refine cN W0 ?_
 refine c_seq (c_region (lB R (l_nil (q_next (c_seq (c_seq (c_region (lS R (lO (v_len sl22 R) (lS R (lO (v_len sl22 R) (lO (vNe R R) (l_nil (q_next ?_))))))))))))))
 rcases bif_ hr with ⟨hb5, hr⟩ | ⟨hb5, hr⟩
 refine c_true R hb5 (c_seq (c_region (lB R (l_nil (q_next (c_ret (q_ret ?_)))))))
 obtain rfl := so hr
 exact qF () (fun w s => (s.e 2 []))
 refine c_false R hb5 (c_skip (q_next (c_seq (c_cut (A := (Unit) × (Unit)) (fun a => Zp_J1 = some r) (fun a => []) (fun a => W0) ?_ ?_))))
 refine c_seq (c_region (lI R (l_nil (q_next (c_block ?_)))))
 obtain ⟨e1, hl1, hk1⟩ := bd hr
 refine c_loop (A := Unit) hl1 (fun s a => [(0, (sc A2 a1 D2)), (1, (sc A4 b3 D4)), (5, (iv s))]) (fun s a => W0) () (aS R) (fun w s => s) ?_
 rintro i14 _ σ1 out1 hr he1
 replace hr : Zp_L1 a1 b3 i14 = some out1 := hr
 unfold Zp_L1 at hr
 refine c_seq (c_seq (c_region (lI R (lS R (lO (v_len sl22 R) (lO (vLt R R) (l_nil (q_next ?_))))))))
 rcases bif_ hr with ⟨hb15, hr⟩ | ⟨hb15, hr⟩
 refine c_true R hb15 (c_skip (q_next (c_seq (c_block (c_seq ?_)))))
 obtain ⟨hg16, hr⟩ := gd hr
 obtain ⟨hg19, hr⟩ := gd hr
 refine c_some 0 sees_rd (show 0 < a1.length by have := hg16; omega) (fun g17 o18 ha => ?_)
 subst ha
 refine c_some 1 sees_rd (show 0 < b3.length by have := hg19; omega) (fun g20 o21 ha => ?_)
 subst ha
 refine cdr 9 [] mixo (fun ht hn => (dR 0 R (vS R) (dR 1 R (vI R) (dR 2 R (vIa sl22 sz3 R R hg16) (dR 3 R (vLi 0 ag3 sees_rd R hg16) (dR 4 R (vS R) (dR 5 R (vI R) (dR 6 R (vIa sl22 sz3 R R hg19) (dR 7 R (vLi 1 ag3 sees_rd R hg19) (dR 8 R (vNe R R) (dD (q_next ?_))))))))))))
 rcases bif_ hr with ⟨hb22, hr⟩ | ⟨hb22, hr⟩
 refine c_true R hb22 (c_seq (c_region (lB R (l_nil (q_next (c_ret (q_blockr (q_ret ?_))))))))
 obtain rfl := so hr
 obtain rfl := he1 _ R
 have hr := hk1
 refine q_ret (q_blockr (q_ret ?_))
 obtain rfl := so hr
 exact qF () (fun w s => (s.e 2 []))
 refine c_false R hb22 (c_skip (q_blockn (q_next (c_region (lI R (lO (vAd R R) (lI R (l_nil ?_))))))))
 obtain rfl := so hr
 exact qA () (fun w s => s)
 refine c_false R hb15 (c_exit (q_exit ?_))
 obtain rfl := so hr
 obtain rfl := he1 _ R
 have hr := hk1
 refine q_exit (q_block ?_)
 exact q_join ((), ()) hr trivial (fun w s => s)
 rintro ⟨_, _⟩ σ1 hr
 replace hr : Zp_J1 = some r := hr
 unfold Zp_J1 at hr
 refine c_seq (c_region (lB R (l_nil (q_next (c_ret ?_)))))
 obtain rfl := so hr
 exact qF () (fun w s => (s.e 2 []))
theorem Z1j_ok  {a1 : Fix} {b3 : Fix} {r : Bool} (hr : Z1j a1 b3 = some r) :
 FnOk Tryz.prog 112 [(.agg [(iv a1.Buffer), (.slice A2 N2 D2)].toArray), (.agg [(iv b3.Buffer), (.slice A4 N4 D4)].toArray)] [rds kT3 (.slice A2 N2 D2) a1.Data, rds kT3 (.slice A4 N4 D4) b3.Data] (fun (h : Unit) => ((.bool r), [])) := by
 unfold Z1j at hr
 refine fn_ok Tryz.func112 R 16 R R fun C V => ?_
 refine cN (_ :: _ :: V) ?_
 refine cL 0 sees_rd ?_
 rintro rfl
 refine cL 1 sees_rd ?_
 rintro rfl
 let W0 : List HP := RR kT3 A2 D2 a1.Data :: RR kT3 A4 D4 b3.Data :: V
 refine cN W0 ?_
 refine c_seq (c_region (lBx R (fun b5 => (lBx R (fun b6 => (lB R (l_nil ?_)))))))
 let W1 : List HP := bxl b6 [(iv b3.Buffer), (sc A4 b3.Data D4)] 57 :: bxl b5 [(iv a1.Buffer), (sc A2 a1.Data D2)] 57 :: W0
 refine qN W1 ?_
 refine q_next (c_seq (c_seq (c_region (lO (vFa 0 fo57_0 R) (lO (vLd 1 ag3 R R R) (lO (vFa 0 fo57_0 R) (lO (vLd 0 ag3 R R R) (lO (vNe R R) (l_nil (q_next ?_))))))))))
 rcases bif_ hr with ⟨hb7, hr⟩ | ⟨hb7, hr⟩
 refine c_true R hb7 (c_seq (c_region (lB R (l_nil (q_next (c_ret (q_ret ?_)))))))
 obtain rfl := so hr
 exact qF () (fun w s => (s.e 4 []))
 refine c_false R hb7 (c_skip (q_next (c_seq (c_seq ?_))))
 obtain ⟨r8, hx9, hr⟩ := bd hr
 refine c_region (lO (vFa 1 fo57_1 R) (lO (vLd 1 ag22 R R R) (lO (vFa 1 fo57_1 R) (lO (vLd 0 ag22 R R R) (lM (RR kT3 A2 D2 a1.Data :: RR kT3 A4 D4 b3.Data :: W1) (fun w s => (((s.d 2 R).d 4 R).e 2 [1, 0])) ?_)))))
 refine lC 2 cb44 R (Zp_ok hx9) R ?_
 rintro _
 refine lN W1 ?_
 refine lO (vNo R) (l_nil (q_next ?_))
 rcases bif_ hr with ⟨hb10, hr⟩ | ⟨hb10, hr⟩
 refine c_true R hb10 (c_seq (c_region (lB R (l_nil (q_next (c_ret (q_ret ?_)))))))
 obtain rfl := so hr
 exact qF () (fun w s => (s.e 4 []))
 refine c_false R hb10 (c_skip (q_next (c_seq (c_region (lB R (l_nil (q_next (c_ret ?_))))))))
 obtain rfl := so hr
 exact qF () (fun w s => (s.e 4 []))
theorem Z0t_ok  {a1 : (List Fix)} {b3 : (List Fix)} {r : Bool} (hr : Z0t a1 b3 = some r) :
 FnOk Tryz.prog 60 [(.slice A2 N2 D2), (.slice A4 N4 D4)] [rds kT57 (.slice A2 N2 D2) a1, rds kT57 (.slice A4 N4 D4) b3] (fun (h : Unit) => ((.bool r), [])) := by
 unfold Z0t at hr
 refine fn_ok Tryz.func60 R 27 R R fun C V => ?_
 refine cN (_ :: _ :: V) ?_
 refine cL 0 sees_rd ?_
 rintro rfl
 refine cL 1 sees_rd ?_
 rintro rfl
 let W0 : List HP := RR kT57 A2 D2 a1 :: RR kT57 A4 D4 b3 :: V
 refine cN W0 ?_
 refine c_seq (c_region (lB R (l_nil (q_next (c_seq (c_seq (c_region (lS R (lO (v_len sl33 R) (lS R (lO (v_len sl33 R) (lO (vNe R R) (l_nil (q_next ?_))))))))))))))
 rcases bif_ hr with ⟨hb5, hr⟩ | ⟨hb5, hr⟩
 refine c_true R hb5 (c_seq (c_region (lB R (l_nil (q_next (c_ret (q_ret ?_)))))))
 obtain rfl := so hr
 exact qF () (fun w s => (s.e 2 []))
 refine c_false R hb5 (c_skip (q_next (c_seq (c_cut (A := (Unit) × (Unit)) (fun a => Z0t_J1 = some r) (fun a => []) (fun a => W0) ?_ ?_))))
 refine c_seq (c_region (lI R (l_nil (q_next (c_block ?_)))))
 obtain ⟨e1, hl1, hk1⟩ := bd hr
 refine c_loop (A := Unit) hl1 (fun s a => [(0, (sc A2 a1 D2)), (1, (sc A4 b3 D4)), (5, (iv s))]) (fun s a => W0) () (aS R) (fun w s => s) ?_
 rintro i18 _ σ1 out1 hr he1
 replace hr : Z0t_L1 a1 b3 i18 = some out1 := hr
 unfold Z0t_L1 at hr
 refine c_seq (c_seq (c_region (lI R (lS R (lO (v_len sl33 R) (lO (vLt R R) (l_nil (q_next ?_))))))))
 rcases bif_ hr with ⟨hb19, hr⟩ | ⟨hb19, hr⟩
 refine c_true R hb19 (c_skip (q_next (c_seq (c_block (c_seq ?_)))))
 obtain ⟨hg20, hr⟩ := gd hr
 obtain ⟨hg24, hr⟩ := gd hr
 obtain ⟨r28, hx29, hr⟩ := bd hr
 refine c_some 0 sees_rd (show 0 < a1.length by have := hg20; omega) (fun g21 o22 ha => ?_)
 subst ha
 refine c_elem (K := kT57) 0 i18 dT57.dec R hg20.1 hg20.2 ?_
 rintro ⟨-, ⟨A23, D23⟩⟩
 refine cN (cl g21 (o22 + i18.toNat * 2) [(iv (ix a1 i18).Buffer), (sc A23 ((ix a1 i18).Data) D23)] :: RR kT3 A23 D23 ((ix a1 i18).Data) :: W0) ?_
 refine c_some 3 sees_rd (show 0 < b3.length by have := hg24; omega) (fun g25 o26 ha => ?_)
 subst ha
 refine c_elem (K := kT57) 3 i18 dT57.dec R hg24.1 hg24.2 ?_
 rintro ⟨-, ⟨A27, D27⟩⟩
 refine cN (cl g25 (o26 + i18.toNat * 2) [(iv (ix b3 i18).Buffer), (sc A27 ((ix b3 i18).Data) D27)] :: RR kT3 A27 D27 ((ix b3 i18).Data) :: _ :: _ :: W0) ?_
 refine cdr 10 [] mixo (fun ht hn => (dR 0 R (vS R) (dR 1 R (vI R) (dR 2 R (vIa sl33 sz57 R R hg20) (dR 3 R (vz (.agg [(iv (ix a1 i18).Buffer), (sc A23 ((ix a1 i18).Data) D23)].toArray) (v_clfs (fo := 0) 2 ag57 sz57 R R R R)) (dR 4 R (vS R) (dR 5 R (vI R) (dR 6 R (vIa sl33 sz57 R R hg24) (dR 7 R (vz (.agg [(iv (ix b3 i18).Buffer), (sc A27 ((ix b3 i18).Data) D27)].toArray) (v_clfs (fo := 0) 0 ag57 sz57 R R R R)) (d1 8 R (lM (rds _ _ _ :: rds _ _ _ :: cl _ _ _ :: rds _ _ _ :: cl _ _ _ :: rds _ _ _ :: W0) (fun w s => (((s.d 3 R).d 2 R).e 6 [1, 0, 2, 3, 4, 5])) ?_)))))))))))
 refine lC 2 cb112 R (Z1j_ok hx29) R ?_
 rintro _
 refine lN (_ :: _ :: _ :: _ :: W0) ?_
 refine l_nil (q_draw (sL []) (dR 9 R (vNo R) (dD (q_next ?_))))
 rcases bif_ hr with ⟨hb30, hr⟩ | ⟨hb30, hr⟩
 refine c_true R hb30 (c_seq (c_region (lB R (l_nil (q_next (c_ret (q_blockr (q_ret ?_))))))))
 obtain rfl := so hr
 obtain rfl := he1 _ R
 have hr := hk1
 refine q_ret (q_blockr (q_ret ?_))
 obtain rfl := so hr
 exact qF () (fun w s => (s.e 6 []))
 refine c_false R hb30 (c_skip (q_blockn (q_next (c_region (lI R (lO (vAd R R) (lI R (l_nil ?_))))))))
 obtain rfl := so hr
 exact qA () (fun w s => (s.e 4 []))
 refine c_false R hb19 (c_exit (q_exit ?_))
 obtain rfl := so hr
 obtain rfl := he1 _ R
 have hr := hk1
 refine q_exit (q_block ?_)
 exact q_join ((), ()) hr trivial (fun w s => s)
 rintro ⟨_, _⟩ σ1 hr
 replace hr : Z0t_J1 = some r := hr
 unfold Z0t_J1 at hr
 refine c_seq (c_region (lB R (l_nil (q_next (c_ret ?_)))))
 obtain rfl := so hr
 exact qF () (fun w s => (s.e 2 []))
theorem Z17_ok  {a1 : Access} {b3 : Access} {r : Bool} (hr : Z17 a1 b3 = some r) :
 FnOk Tryz.prog 159 [(.agg [(iv a1.Buffer), (iv a1.Offset), (.slice A2 N2 D2)].toArray), (.agg [(iv b3.Buffer), (iv b3.Offset), (.slice A4 N4 D4)].toArray)] [rds kT3 (.slice A2 N2 D2) a1.Steps, rds kT3 (.slice A4 N4 D4) b3.Steps] (fun (h : Unit) => ((.bool r), [])) := by
 unfold Z17 at hr
 refine fn_ok Tryz.func159 R 21 R R fun C V => ?_
 refine cN (_ :: _ :: V) ?_
 refine cL 0 sees_rd ?_
 rintro rfl
 refine cL 1 sees_rd ?_
 rintro rfl
 let W0 : List HP := RR kT3 A2 D2 a1.Steps :: RR kT3 A4 D4 b3.Steps :: V
 refine cN W0 ?_
 refine c_seq (c_region (lBx R (fun b5 => (lBx R (fun b6 => (lB R (l_nil ?_)))))))
 let W1 : List HP := bxl b6 [(iv b3.Buffer), (iv b3.Offset), (sc A4 b3.Steps D4)] 61 :: bxl b5 [(iv a1.Buffer), (iv a1.Offset), (sc A2 a1.Steps D2)] 61 :: W0
 refine qN W1 ?_
 refine q_next (c_seq (c_seq (c_region (lO (vFa 0 fo61_0 R) (lO (vLd 1 ag3 R R R) (lO (vFa 0 fo61_0 R) (lO (vLd 0 ag3 R R R) (lO (vNe R R) (l_nil (q_next ?_))))))))))
 rcases bif_ hr with ⟨hb7, hr⟩ | ⟨hb7, hr⟩
 refine c_true R hb7 (c_seq (c_region (lB R (l_nil (q_next (c_ret (q_ret ?_)))))))
 obtain rfl := so hr
 exact qF () (fun w s => (s.e 4 []))
 refine c_false R hb7 (c_skip (q_next (c_seq (c_seq (c_region (lO (vFa 1 fo61_1 R) (lO (vLd 1 ag3 R R R) (lO (vFa 1 fo61_1 R) (lO (vLd 0 ag3 R R R) (lO (vNe R R) (l_nil (q_next ?_))))))))))))
 rcases bif_ hr with ⟨hb8, hr⟩ | ⟨hb8, hr⟩
 refine c_true R hb8 (c_seq (c_region (lB R (l_nil (q_next (c_ret (q_ret ?_)))))))
 obtain rfl := so hr
 exact qF () (fun w s => (s.e 4 []))
 refine c_false R hb8 (c_skip (q_next (c_seq (c_seq ?_))))
 obtain ⟨r9, hx10, hr⟩ := bd hr
 refine c_region (lO (vFa 2 fo61_2 R) (lO (vLd 1 ag22 R R R) (lO (vFa 2 fo61_2 R) (lO (vLd 0 ag22 R R R) (lM (RR kT3 A2 D2 a1.Steps :: RR kT3 A4 D4 b3.Steps :: W1) (fun w s => (((s.d 2 R).d 4 R).e 2 [1, 0])) ?_)))))
 refine lC 2 cb44 R (Zp_ok hx10) R ?_
 rintro _
 refine lN W1 ?_
 refine lO (vNo R) (l_nil (q_next ?_))
 rcases bif_ hr with ⟨hb11, hr⟩ | ⟨hb11, hr⟩
 refine c_true R hb11 (c_seq (c_region (lB R (l_nil (q_next (c_ret (q_ret ?_)))))))
 obtain rfl := so hr
 exact qF () (fun w s => (s.e 4 []))
 refine c_false R hb11 (c_skip (q_next (c_seq (c_region (lB R (l_nil (q_next (c_ret ?_))))))))
 obtain rfl := so hr
 exact qF () (fun w s => (s.e 4 []))
theorem Z0v_ok  {a1 : (List Access)} {b3 : (List Access)} {r : Bool} (hr : Z0v a1 b3 = some r) :
 FnOk Tryz.prog 158 [(.slice A2 N2 D2), (.slice A4 N4 D4)] [rds kT61 (.slice A2 N2 D2) a1, rds kT61 (.slice A4 N4 D4) b3] (fun (h : Unit) => ((.bool r), [])) := by
 unfold Z0v at hr
 refine fn_ok Tryz.func158 R 27 R R fun C V => ?_
 refine cN (_ :: _ :: V) ?_
 refine cL 0 sees_rd ?_
 rintro rfl
 refine cL 1 sees_rd ?_
 rintro rfl
 let W0 : List HP := RR kT61 A2 D2 a1 :: RR kT61 A4 D4 b3 :: V
 refine cN W0 ?_
 refine c_seq (c_region (lB R (l_nil (q_next (c_seq (c_seq (c_region (lS R (lO (v_len sl59 R) (lS R (lO (v_len sl59 R) (lO (vNe R R) (l_nil (q_next ?_))))))))))))))
 rcases bif_ hr with ⟨hb5, hr⟩ | ⟨hb5, hr⟩
 refine c_true R hb5 (c_seq (c_region (lB R (l_nil (q_next (c_ret (q_ret ?_)))))))
 obtain rfl := so hr
 exact qF () (fun w s => (s.e 2 []))
 refine c_false R hb5 (c_skip (q_next (c_seq (c_cut (A := (Unit) × (Unit)) (fun a => Z0v_J1 = some r) (fun a => []) (fun a => W0) ?_ ?_))))
 refine c_seq (c_region (lI R (l_nil (q_next (c_block ?_)))))
 obtain ⟨e1, hl1, hk1⟩ := bd hr
 refine c_loop (A := Unit) hl1 (fun s a => [(0, (sc A2 a1 D2)), (1, (sc A4 b3 D4)), (5, (iv s))]) (fun s a => W0) () (aS R) (fun w s => s) ?_
 rintro i18 _ σ1 out1 hr he1
 replace hr : Z0v_L1 a1 b3 i18 = some out1 := hr
 unfold Z0v_L1 at hr
 refine c_seq (c_seq (c_region (lI R (lS R (lO (v_len sl59 R) (lO (vLt R R) (l_nil (q_next ?_))))))))
 rcases bif_ hr with ⟨hb19, hr⟩ | ⟨hb19, hr⟩
 refine c_true R hb19 (c_skip (q_next (c_seq (c_block (c_seq ?_)))))
 obtain ⟨hg20, hr⟩ := gd hr
 obtain ⟨hg24, hr⟩ := gd hr
 obtain ⟨r28, hx29, hr⟩ := bd hr
 refine c_some 0 sees_rd (show 0 < a1.length by have := hg20; omega) (fun g21 o22 ha => ?_)
 subst ha
 refine c_elem (K := kT61) 0 i18 dT61.dec R hg20.1 hg20.2 ?_
 rintro ⟨-, -, ⟨A23, D23⟩⟩
 refine cN (cl g21 (o22 + i18.toNat * 3) [(iv (ix a1 i18).Buffer), (iv (ix a1 i18).Offset), (sc A23 ((ix a1 i18).Steps) D23)] :: RR kT3 A23 D23 ((ix a1 i18).Steps) :: W0) ?_
 refine c_some 3 sees_rd (show 0 < b3.length by have := hg24; omega) (fun g25 o26 ha => ?_)
 subst ha
 refine c_elem (K := kT61) 3 i18 dT61.dec R hg24.1 hg24.2 ?_
 rintro ⟨-, -, ⟨A27, D27⟩⟩
 refine cN (cl g25 (o26 + i18.toNat * 3) [(iv (ix b3 i18).Buffer), (iv (ix b3 i18).Offset), (sc A27 ((ix b3 i18).Steps) D27)] :: RR kT3 A27 D27 ((ix b3 i18).Steps) :: _ :: _ :: W0) ?_
 refine cdr 10 [] mixo (fun ht hn => (dR 0 R (vS R) (dR 1 R (vI R) (dR 2 R (vIa sl59 sz61 R R hg20) (dR 3 R (vz (.agg [(iv (ix a1 i18).Buffer), (iv (ix a1 i18).Offset), (sc A23 ((ix a1 i18).Steps) D23)].toArray) (v_clfs (fo := 0) 2 ag61 sz61 R R R R)) (dR 4 R (vS R) (dR 5 R (vI R) (dR 6 R (vIa sl59 sz61 R R hg24) (dR 7 R (vz (.agg [(iv (ix b3 i18).Buffer), (iv (ix b3 i18).Offset), (sc A27 ((ix b3 i18).Steps) D27)].toArray) (v_clfs (fo := 0) 0 ag61 sz61 R R R R)) (d1 8 R (lM (rds _ _ _ :: rds _ _ _ :: cl _ _ _ :: rds _ _ _ :: cl _ _ _ :: rds _ _ _ :: W0) (fun w s => (((s.d 3 R).d 2 R).e 6 [1, 0, 2, 3, 4, 5])) ?_)))))))))))
 refine lC 2 cb159 R (Z17_ok hx29) R ?_
 rintro _
 refine lN (_ :: _ :: _ :: _ :: W0) ?_
 refine l_nil (q_draw (sL []) (dR 9 R (vNo R) (dD (q_next ?_))))
 rcases bif_ hr with ⟨hb30, hr⟩ | ⟨hb30, hr⟩
 refine c_true R hb30 (c_seq (c_region (lB R (l_nil (q_next (c_ret (q_blockr (q_ret ?_))))))))
 obtain rfl := so hr
 obtain rfl := he1 _ R
 have hr := hk1
 refine q_ret (q_blockr (q_ret ?_))
 obtain rfl := so hr
 exact qF () (fun w s => (s.e 6 []))
 refine c_false R hb30 (c_skip (q_blockn (q_next (c_region (lI R (lO (vAd R R) (lI R (l_nil ?_))))))))
 obtain rfl := so hr
 exact qA () (fun w s => (s.e 4 []))
 refine c_false R hb19 (c_exit (q_exit ?_))
 obtain rfl := so hr
 obtain rfl := he1 _ R
 have hr := hk1
 refine q_exit (q_block ?_)
 exact q_join ((), ()) hr trivial (fun w s => s)
 rintro ⟨_, _⟩ σ1 hr
 replace hr : Z0v_J1 = some r := hr
 unfold Z0v_J1 at hr
 refine c_seq (c_region (lB R (l_nil (q_next (c_ret ?_)))))
 obtain rfl := so hr
 exact qF () (fun w s => (s.e 2 []))
theorem Z1f_ok  {a1 : Calc} {b2 : Calc} {r : Bool} (hr : Z1f a1 b2 = some r) :
 FnOk Tryz.prog 174 [(.agg [(iv a1.Op), (iv a1.A), (iv a1.B)].toArray), (.agg [(iv b2.Op), (iv b2.A), (iv b2.B)].toArray)] [] (fun (h : Unit) => ((.bool r), [])) := by
 unfold Z1f at hr
 refine fn_ok Tryz.func174 R 20 R R fun C V => ?_
 refine cN V ?_
 refine c_seq (c_region (lBx R (fun b3 => (lBx R (fun b4 => (lB R (l_nil ?_)))))))
 let W1 : List HP := bxl b4 [(iv b2.Op), (iv b2.A), (iv b2.B)] 101 :: bxl b3 [(iv a1.Op), (iv a1.A), (iv a1.B)] 101 :: V
 refine qN W1 ?_
 refine q_next (c_seq (c_seq (c_region (lO (vFa 0 fo101_0 R) (lO (vLd 1 ag3 R R R) (lO (vFa 0 fo101_0 R) (lO (vLd 0 ag3 R R R) (lO (vNe R R) (l_nil (q_next ?_))))))))))
 rcases bif_ hr with ⟨hb5, hr⟩ | ⟨hb5, hr⟩
 refine c_true R hb5 (c_seq (c_region (lB R (l_nil (q_next (c_ret (q_ret ?_)))))))
 obtain rfl := so hr
 exact qF () (fun w s => (s.e 2 []))
 refine c_false R hb5 (c_skip (q_next (c_seq (c_seq (c_region (lO (vFa 1 fo101_1 R) (lO (vLd 1 ag3 R R R) (lO (vFa 1 fo101_1 R) (lO (vLd 0 ag3 R R R) (lO (vNe R R) (l_nil (q_next ?_))))))))))))
 rcases bif_ hr with ⟨hb6, hr⟩ | ⟨hb6, hr⟩
 refine c_true R hb6 (c_seq (c_region (lB R (l_nil (q_next (c_ret (q_ret ?_)))))))
 obtain rfl := so hr
 exact qF () (fun w s => (s.e 2 []))
 refine c_false R hb6 (c_skip (q_next (c_seq (c_seq (c_region (lO (vFa 2 fo101_2 R) (lO (vLd 1 ag3 R R R) (lO (vFa 2 fo101_2 R) (lO (vLd 0 ag3 R R R) (lO (vNe R R) (l_nil (q_next ?_))))))))))))
 rcases bif_ hr with ⟨hb7, hr⟩ | ⟨hb7, hr⟩
 refine c_true R hb7 (c_seq (c_region (lB R (l_nil (q_next (c_ret (q_ret ?_)))))))
 obtain rfl := so hr
 exact qF () (fun w s => (s.e 2 []))
 refine c_false R hb7 (c_skip (q_next (c_seq (c_region (lB R (l_nil (q_next (c_ret ?_))))))))
 obtain rfl := so hr
 exact qF () (fun w s => (s.e 2 []))
theorem Z0s_ok  {a1 : (List Calc)} {b3 : (List Calc)} {r : Bool} (hr : Z0s a1 b3 = some r) :
 FnOk Tryz.prog 160 [(.slice A2 N2 D2), (.slice A4 N4 D4)] [rds kT101 (.slice A2 N2 D2) a1, rds kT101 (.slice A4 N4 D4) b3] (fun (h : Unit) => ((.bool r), [])) := by
 unfold Z0s at hr
 refine fn_ok Tryz.func160 R 27 R R fun C V => ?_
 refine cN (_ :: _ :: V) ?_
 refine cL 0 sees_rd ?_
 rintro rfl
 refine cL 1 sees_rd ?_
 rintro rfl
 let W0 : List HP := RR kT101 A2 D2 a1 :: RR kT101 A4 D4 b3 :: V
 refine cN W0 ?_
 refine c_seq (c_region (lB R (l_nil (q_next (c_seq (c_seq (c_region (lS R (lO (v_len sl62 R) (lS R (lO (v_len sl62 R) (lO (vNe R R) (l_nil (q_next ?_))))))))))))))
 rcases bif_ hr with ⟨hb5, hr⟩ | ⟨hb5, hr⟩
 refine c_true R hb5 (c_seq (c_region (lB R (l_nil (q_next (c_ret (q_ret ?_)))))))
 obtain rfl := so hr
 exact qF () (fun w s => (s.e 2 []))
 refine c_false R hb5 (c_skip (q_next (c_seq (c_cut (A := (Unit) × (Unit)) (fun a => Z0s_J1 = some r) (fun a => []) (fun a => W0) ?_ ?_))))
 refine c_seq (c_region (lI R (l_nil (q_next (c_block ?_)))))
 obtain ⟨e1, hl1, hk1⟩ := bd hr
 refine c_loop (A := Unit) hl1 (fun s a => [(0, (sc A2 a1 D2)), (1, (sc A4 b3 D4)), (5, (iv s))]) (fun s a => W0) () (aS R) (fun w s => s) ?_
 rintro i16 _ σ1 out1 hr he1
 replace hr : Z0s_L1 a1 b3 i16 = some out1 := hr
 unfold Z0s_L1 at hr
 refine c_seq (c_seq (c_region (lI R (lS R (lO (v_len sl62 R) (lO (vLt R R) (l_nil (q_next ?_))))))))
 rcases bif_ hr with ⟨hb17, hr⟩ | ⟨hb17, hr⟩
 refine c_true R hb17 (c_skip (q_next (c_seq (c_block (c_seq ?_)))))
 obtain ⟨hg18, hr⟩ := gd hr
 obtain ⟨hg21, hr⟩ := gd hr
 obtain ⟨r24, hx25, hr⟩ := bd hr
 refine c_some 0 sees_rd (show 0 < a1.length by have := hg18; omega) (fun g19 o20 ha => ?_)
 subst ha
 refine c_some 1 sees_rd (show 0 < b3.length by have := hg21; omega) (fun g22 o23 ha => ?_)
 subst ha
 refine cdr 10 [] mixo (fun ht hn => (dR 0 R (vS R) (dR 1 R (vI R) (dR 2 R (vIa sl62 sz101 R R hg18) (d_v 3 (.agg [(iv (ix a1 i16).Op), (iv (ix a1 i16).A), (iv (ix a1 i16).B)].toArray) R ?_ R R R ht hn (by kernel_rfl) (sL []) ?_)))))
 exact (v_ldef (K := kT101) (cells := fun x => [(iv x.Op), (iv x.A), (iv x.B)]) 0 i16 ag101 sz101 (DecK.flat dT101 fun _ _ => R) sees_rd R hg18.1 hg18.2)
 refine dR 4 R (vS R) (dR 5 R (vI R) (dR 6 R (vIa sl62 sz101 R R hg21) (d_v 7 (.agg [(iv (ix b3 i16).Op), (iv (ix b3 i16).A), (iv (ix b3 i16).B)].toArray) R ?_ R R R ht hn (by kernel_rfl) (sL []) ?_)))
 exact (v_ldef (K := kT101) (cells := fun x => [(iv x.Op), (iv x.A), (iv x.B)]) 1 i16 ag101 sz101 (DecK.flat dT101 fun _ _ => R) sees_rd R hg21.1 hg21.2)
 refine d1 8 R (lC 0 cb174 R (Z1f_ok hx25) R ?_)
 rintro _
 refine l_nil (q_draw (sL []) (dR 9 R (vNo R) (dD (q_next ?_))))
 rcases bif_ hr with ⟨hb26, hr⟩ | ⟨hb26, hr⟩
 refine c_true R hb26 (c_seq (c_region (lB R (l_nil (q_next (c_ret (q_blockr (q_ret ?_))))))))
 obtain rfl := so hr
 obtain rfl := he1 _ R
 have hr := hk1
 refine q_ret (q_blockr (q_ret ?_))
 obtain rfl := so hr
 exact qF () (fun w s => (s.e 2 []))
 refine c_false R hb26 (c_skip (q_blockn (q_next (c_region (lI R (lO (vAd R R) (lI R (l_nil ?_))))))))
 obtain rfl := so hr
 exact qA () (fun w s => s)
 refine c_false R hb17 (c_exit (q_exit ?_))
 obtain rfl := so hr
 obtain rfl := he1 _ R
 have hr := hk1
 refine q_exit (q_block ?_)
 exact q_join ((), ()) hr trivial (fun w s => s)
 rintro ⟨_, _⟩ σ1 hr
 replace hr : Z0s_J1 = some r := hr
 unfold Z0s_J1 at hr
 refine c_seq (c_region (lB R (l_nil (q_next (c_ret ?_)))))
 obtain rfl := so hr
 exact qF () (fun w s => (s.e 2 []))
theorem Z1i_ok  {a1 : Kernel} {b6 : Kernel} {r : Bool} (hr : Z1i a1 b6 = some r) :
 FnOk Tryz.prog 113 [(.agg [(.slice A2 N2 D2), (.slice A3 N3 D3), (iv a1.Store.Buffer), (iv a1.Store.Offset), (.slice A4 N4 D4), (.bool a1.Sum), (.slice A5 N5 D5)].toArray), (.agg [(.slice A7 N7 D7), (.slice A8 N8 D8), (iv b6.Store.Buffer), (iv b6.Store.Offset), (.slice A9 N9 D9), (.bool b6.Sum), (.slice A10 N10 D10)].toArray)] [rds kT3 (.slice A2 N2 D2) a1.Loops, rds kT61 (.slice A3 N3 D3) a1.Loads, rds kT3 (.slice A4 N4 D4) a1.Store.Steps, rds kT101 (.slice A5 N5 D5) a1.Code, rds kT3 (.slice A7 N7 D7) b6.Loops, rds kT61 (.slice A8 N8 D8) b6.Loads, rds kT3 (.slice A9 N9 D9) b6.Store.Steps, rds kT101 (.slice A10 N10 D10) b6.Code] (fun (h : Unit) => ((.bool r), [])) := by
 unfold Z1i at hr
 refine fn_ok Tryz.func113 R 34 R R fun C V => ?_
 refine cN (_ :: _ :: _ :: _ :: _ :: _ :: _ :: _ :: V) ?_
 refine cL 0 sees_rd ?_
 rintro rfl
 refine cL 1 sees_rd ?_
 rintro rfl
 refine cL 2 sees_rd ?_
 rintro rfl
 refine cL 3 sees_rd ?_
 rintro rfl
 refine cL 4 sees_rd ?_
 rintro rfl
 refine cL 5 sees_rd ?_
 rintro rfl
 refine cL 6 sees_rd ?_
 rintro rfl
 refine cL 7 sees_rd ?_
 rintro rfl
 let W0 : List HP := RR kT3 A2 D2 a1.Loops :: RR kT61 A3 D3 a1.Loads :: RR kT3 A4 D4 a1.Store.Steps :: RR kT101 A5 D5 a1.Code :: RR kT3 A7 D7 b6.Loops :: RR kT61 A8 D8 b6.Loads :: RR kT3 A9 D9 b6.Store.Steps :: RR kT101 A10 D10 b6.Code :: V
 refine cN W0 ?_
 refine c_seq (c_region (lBx R (fun b11 => (lBx R (fun b12 => (lB R (l_nil ?_)))))))
 let W1 : List HP := bxl b12 [(sc A7 b6.Loops D7), (sc A8 b6.Loads D8), (iv b6.Store.Buffer), (iv b6.Store.Offset), (sc A9 b6.Store.Steps D9), (.bool b6.Sum), (sc A10 b6.Code D10)] 64 :: bxl b11 [(sc A2 a1.Loops D2), (sc A3 a1.Loads D3), (iv a1.Store.Buffer), (iv a1.Store.Offset), (sc A4 a1.Store.Steps D4), (.bool a1.Sum), (sc A5 a1.Code D5)] 64 :: W0
 refine qN W1 ?_
 refine q_next (c_seq (c_seq ?_))
 obtain ⟨r13, hx14, hr⟩ := bd hr
 refine c_region (lO (vFa 0 fo64_0 R) (lO (vLd 1 ag22 R R R) (lO (vFa 0 fo64_0 R) (lO (vLd 0 ag22 R R R) (lM (RR kT3 A2 D2 a1.Loops :: RR kT3 A7 D7 b6.Loops :: W1) (fun w s => (((s.d 2 R).d 7 R).e 2 [1, 0])) ?_)))))
 refine lC 2 cb44 R (Zp_ok hx14) R ?_
 rintro _
 refine lN W1 ?_
 refine lO (vNo R) (l_nil (q_next ?_))
 rcases bif_ hr with ⟨hb15, hr⟩ | ⟨hb15, hr⟩
 refine c_true R hb15 (c_seq (c_region (lB R (l_nil (q_next (c_ret (q_ret ?_)))))))
 obtain rfl := so hr
 exact qF () (fun w s => (s.e 10 []))
 refine c_false R hb15 (c_skip (q_next (c_seq (c_seq ?_))))
 obtain ⟨r16, hx17, hr⟩ := bd hr
 refine c_region (lO (vFa 1 fo64_1 R) (lO (vLd 1 ag59 R R R) (lO (vFa 1 fo64_1 R) (lO (vLd 0 ag59 R R R) (lM (RR kT61 A3 D3 a1.Loads :: RR kT61 A8 D8 b6.Loads :: W1) (fun w s => (((s.d 3 R).d 8 R).e 2 [1, 0])) ?_)))))
 refine lC 2 cb158 R (Z0v_ok hx17) R ?_
 rintro _
 refine lN W1 ?_
 refine lO (vNo R) (l_nil (q_next ?_))
 rcases bif_ hr with ⟨hb18, hr⟩ | ⟨hb18, hr⟩
 refine c_true R hb18 (c_seq (c_region (lB R (l_nil (q_next (c_ret (q_ret ?_)))))))
 obtain rfl := so hr
 exact qF () (fun w s => (s.e 10 []))
 refine c_false R hb18 (c_skip (q_next (c_seq (c_seq ?_))))
 obtain ⟨r19, hx20, hr⟩ := bd hr
 refine c_region (lO (vFa 2 fo64_2 R) (lO (vz (.agg [(iv a1.Store.Buffer), (iv a1.Store.Offset), (sc A4 a1.Store.Steps D4)].toArray) (v_loadw 1 ag61 sz61 R R R R)) (lO (vFa 2 fo64_2 R) (lO (vz (.agg [(iv b6.Store.Buffer), (iv b6.Store.Offset), (sc A9 b6.Store.Steps D9)].toArray) (v_loadw 0 ag61 sz61 R R R R)) (lM (RR kT3 A4 D4 a1.Store.Steps :: RR kT3 A9 D9 b6.Store.Steps :: W1) (fun w s => (((s.d 4 R).d 9 R).e 2 [1, 0])) ?_)))))
 refine lC 2 cb159 R (Z17_ok hx20) R ?_
 rintro _
 refine lN W1 ?_
 refine lO (vNo R) (l_nil (q_next ?_))
 rcases bif_ hr with ⟨hb21, hr⟩ | ⟨hb21, hr⟩
 refine c_true R hb21 (c_seq (c_region (lB R (l_nil (q_next (c_ret (q_ret ?_)))))))
 obtain rfl := so hr
 exact qF () (fun w s => (s.e 10 []))
 refine c_false R hb21 (c_skip (q_next (c_seq (c_seq (c_region (lO (vFa 5 fo64_3 R) (lO (vLd 1 ag4 R R R) (lO (vFa 5 fo64_3 R) (lO (vLd 0 ag4 R R R) (lO (v_bne un4 R R) (l_nil (q_next ?_))))))))))))
 rcases bif_ hr with ⟨hb22, hr⟩ | ⟨hb22, hr⟩
 refine c_true R hb22 (c_seq (c_region (lB R (l_nil (q_next (c_ret (q_ret ?_)))))))
 obtain rfl := so hr
 exact qF () (fun w s => (s.e 10 []))
 refine c_false R hb22 (c_skip (q_next (c_seq (c_seq ?_))))
 obtain ⟨r23, hx24, hr⟩ := bd hr
 refine c_region (lO (vFa 6 fo64_4 R) (lO (vLd 1 ag62 R R R) (lO (vFa 6 fo64_4 R) (lO (vLd 0 ag62 R R R) (lM (RR kT101 A5 D5 a1.Code :: RR kT101 A10 D10 b6.Code :: W1) (fun w s => (((s.d 5 R).d 10 R).e 2 [1, 0])) ?_)))))
 refine lC 2 cb160 R (Z0s_ok hx24) R ?_
 rintro _
 refine lN W1 ?_
 refine lO (vNo R) (l_nil (q_next ?_))
 rcases bif_ hr with ⟨hb25, hr⟩ | ⟨hb25, hr⟩
 refine c_true R hb25 (c_seq (c_region (lB R (l_nil (q_next (c_ret (q_ret ?_)))))))
 obtain rfl := so hr
 exact qF () (fun w s => (s.e 10 []))
 refine c_false R hb25 (c_skip (q_next (c_seq (c_region (lB R (l_nil (q_next (c_ret ?_))))))))
 obtain rfl := so hr
 exact qF () (fun w s => (s.e 10 []))
theorem Z0u_ok  {a1 : (List Kernel)} {b3 : (List Kernel)} {r : Bool} (hr : Z0u a1 b3 = some r) :
 FnOk Tryz.prog 61 [(.slice A2 N2 D2), (.slice A4 N4 D4)] [rds kT64 (.slice A2 N2 D2) a1, rds kT64 (.slice A4 N4 D4) b3] (fun (h : Unit) => ((.bool r), [])) := by
 unfold Z0u at hr
 refine fn_ok Tryz.func61 R 27 R R fun C V => ?_
 refine cN (_ :: _ :: V) ?_
 refine cL 0 sees_rd ?_
 rintro rfl
 refine cL 1 sees_rd ?_
 rintro rfl
 let W0 : List HP := RR kT64 A2 D2 a1 :: RR kT64 A4 D4 b3 :: V
 refine cN W0 ?_
 refine c_seq (c_region (lB R (l_nil (q_next (c_seq (c_seq (c_region (lS R (lO (v_len sl34 R) (lS R (lO (v_len sl34 R) (lO (vNe R R) (l_nil (q_next ?_))))))))))))))
 rcases bif_ hr with ⟨hb5, hr⟩ | ⟨hb5, hr⟩
 refine c_true R hb5 (c_seq (c_region (lB R (l_nil (q_next (c_ret (q_ret ?_)))))))
 obtain rfl := so hr
 exact qF () (fun w s => (s.e 2 []))
 refine c_false R hb5 (c_skip (q_next (c_seq (c_cut (A := (Unit) × (Unit)) (fun a => Z0u_J1 = some r) (fun a => []) (fun a => W0) ?_ ?_))))
 refine c_seq (c_region (lI R (l_nil (q_next (c_block ?_)))))
 obtain ⟨e1, hl1, hk1⟩ := bd hr
 refine c_loop (A := Unit) hl1 (fun s a => [(0, (sc A2 a1 D2)), (1, (sc A4 b3 D4)), (5, (iv s))]) (fun s a => W0) () (aS R) (fun w s => s) ?_
 rintro i24 _ σ1 out1 hr he1
 replace hr : Z0u_L1 a1 b3 i24 = some out1 := hr
 unfold Z0u_L1 at hr
 refine c_seq (c_seq (c_region (lI R (lS R (lO (v_len sl34 R) (lO (vLt R R) (l_nil (q_next ?_))))))))
 rcases bif_ hr with ⟨hb25, hr⟩ | ⟨hb25, hr⟩
 refine c_true R hb25 (c_skip (q_next (c_seq (c_block (c_seq ?_)))))
 obtain ⟨hg26, hr⟩ := gd hr
 obtain ⟨hg33, hr⟩ := gd hr
 obtain ⟨r40, hx41, hr⟩ := bd hr
 refine c_some 0 sees_rd (show 0 < a1.length by have := hg26; omega) (fun g27 o28 ha => ?_)
 subst ha
 refine c_elem (K := kT64) 0 i24 dT64.dec R hg26.1 hg26.2 ?_
 rintro ⟨⟨A29, D29⟩, ⟨A30, D30⟩, ⟨-, -, ⟨A31, D31⟩⟩, -, ⟨A32, D32⟩⟩
 refine cN (cl g27 (o28 + i24.toNat * 7) [(sc A29 ((ix a1 i24).Loops) D29), (sc A30 ((ix a1 i24).Loads) D30), (iv (ix a1 i24).Store.Buffer), (iv (ix a1 i24).Store.Offset), (sc A31 ((ix a1 i24).Store.Steps) D31), (.bool (ix a1 i24).Sum), (sc A32 ((ix a1 i24).Code) D32)] :: RR kT3 A29 D29 ((ix a1 i24).Loops) :: RR kT61 A30 D30 ((ix a1 i24).Loads) :: RR kT3 A31 D31 ((ix a1 i24).Store.Steps) :: RR kT101 A32 D32 ((ix a1 i24).Code) :: W0) ?_
 refine c_some 6 sees_rd (show 0 < b3.length by have := hg33; omega) (fun g34 o35 ha => ?_)
 subst ha
 refine c_elem (K := kT64) 6 i24 dT64.dec R hg33.1 hg33.2 ?_
 rintro ⟨⟨A36, D36⟩, ⟨A37, D37⟩, ⟨-, -, ⟨A38, D38⟩⟩, -, ⟨A39, D39⟩⟩
 refine cN (cl g34 (o35 + i24.toNat * 7) [(sc A36 ((ix b3 i24).Loops) D36), (sc A37 ((ix b3 i24).Loads) D37), (iv (ix b3 i24).Store.Buffer), (iv (ix b3 i24).Store.Offset), (sc A38 ((ix b3 i24).Store.Steps) D38), (.bool (ix b3 i24).Sum), (sc A39 ((ix b3 i24).Code) D39)] :: RR kT3 A36 D36 ((ix b3 i24).Loops) :: RR kT61 A37 D37 ((ix b3 i24).Loads) :: RR kT3 A38 D38 ((ix b3 i24).Store.Steps) :: RR kT101 A39 D39 ((ix b3 i24).Code) :: _ :: _ :: _ :: _ :: _ :: W0) ?_
 refine cdr 10 [] mixo (fun ht hn => (dR 0 R (vS R) (dR 1 R (vI R) (dR 2 R (vIa sl34 sz64 R R hg26) (dR 3 R (vz (.agg [(sc A29 ((ix a1 i24).Loops) D29), (sc A30 ((ix a1 i24).Loads) D30), (iv (ix a1 i24).Store.Buffer), (iv (ix a1 i24).Store.Offset), (sc A31 ((ix a1 i24).Store.Steps) D31), (.bool (ix a1 i24).Sum), (sc A32 ((ix a1 i24).Code) D32)].toArray) (v_clfs (fo := 0) 5 ag64 sz64 R R R R)) (dR 4 R (vS R) (dR 5 R (vI R) (dR 6 R (vIa sl34 sz64 R R hg33) (dR 7 R (vz (.agg [(sc A36 ((ix b3 i24).Loops) D36), (sc A37 ((ix b3 i24).Loads) D37), (iv (ix b3 i24).Store.Buffer), (iv (ix b3 i24).Store.Offset), (sc A38 ((ix b3 i24).Store.Steps) D38), (.bool (ix b3 i24).Sum), (sc A39 ((ix b3 i24).Code) D39)].toArray) (v_clfs (fo := 0) 0 ag64 sz64 R R R R)) (d1 8 R (lM (rds _ _ _ :: rds _ _ _ :: rds _ _ _ :: rds _ _ _ :: rds _ _ _ :: rds _ _ _ :: rds _ _ _ :: rds _ _ _ :: cl _ _ _ :: rds _ _ _ :: rds _ _ _ :: rds _ _ _ :: rds _ _ _ :: cl _ _ _ :: rds _ _ _ :: rds _ _ _ :: rds _ _ _ :: rds _ _ _ :: W0) (fun w s => (((((((((s.d 6 R).d 8 R).d 10 R).d 12 R).d 5 R).d 7 R).d 9 R).d 11 R).e 18 [7, 6, 5, 4, 3, 2, 1, 0, 8, 9, 10, 11, 12, 13, 14, 15, 16, 17])) ?_)))))))))))
 refine lC 8 cb113 R (Z1i_ok hx41) R ?_
 rintro _
 refine lN (_ :: _ :: _ :: _ :: _ :: _ :: _ :: _ :: _ :: _ :: W0) ?_
 refine l_nil (q_draw (sL []) (dR 9 R (vNo R) (dD (q_next ?_))))
 rcases bif_ hr with ⟨hb42, hr⟩ | ⟨hb42, hr⟩
 refine c_true R hb42 (c_seq (c_region (lB R (l_nil (q_next (c_ret (q_blockr (q_ret ?_))))))))
 obtain rfl := so hr
 obtain rfl := he1 _ R
 have hr := hk1
 refine q_ret (q_blockr (q_ret ?_))
 obtain rfl := so hr
 exact qF () (fun w s => (s.e 12 []))
 refine c_false R hb42 (c_skip (q_blockn (q_next (c_region (lI R (lO (vAd R R) (lI R (l_nil ?_))))))))
 obtain rfl := so hr
 exact qA () (fun w s => (s.e 10 []))
 refine c_false R hb25 (c_exit (q_exit ?_))
 obtain rfl := so hr
 obtain rfl := he1 _ R
 have hr := hk1
 refine q_exit (q_block ?_)
 exact q_join ((), ()) hr trivial (fun w s => s)
 rintro ⟨_, _⟩ σ1 hr
 replace hr : Z0u_J1 = some r := hr
 unfold Z0u_J1 at hr
 refine c_seq (c_region (lB R (l_nil (q_next (c_ret ?_)))))
 obtain rfl := so hr
 exact qF () (fun w s => (s.e 2 []))
theorem Z1c_ok  {a1 : Nest} {b7 : Nest} {r : Bool} (hr : Z1c a1 b7 = some r) :
 FnOk Tryz.prog 20 [(.agg [(.slice A2 N2 D2), (.slice A3 N3 D3), (.slice A4 N4 D4), (.slice A5 N5 D5), (.slice A6 N6 D6)].toArray), (.agg [(.slice A8 N8 D8), (.slice A9 N9 D9), (.slice A10 N10 D10), (.slice A11 N11 D11), (.slice A12 N12 D12)].toArray)] [rds kT3 (.slice A2 N2 D2) a1.Sizes, rds kT3 (.slice A3 N3 D3) a1.Ins, rds kT57 (.slice A4 N4 D4) a1.Fixed, rds kT64 (.slice A5 N5 D5) a1.Kernels, rds kT3 (.slice A6 N6 D6) a1.Outs, rds kT3 (.slice A8 N8 D8) b7.Sizes, rds kT3 (.slice A9 N9 D9) b7.Ins, rds kT57 (.slice A10 N10 D10) b7.Fixed, rds kT64 (.slice A11 N11 D11) b7.Kernels, rds kT3 (.slice A12 N12 D12) b7.Outs] (fun (h : Unit) => ((.bool r), [])) := by
 unfold Z1c at hr
 refine fn_ok Tryz.func20 R 35 R R fun C V => ?_
 refine cN (_ :: _ :: _ :: _ :: _ :: _ :: _ :: _ :: _ :: _ :: V) ?_
 refine cL 0 sees_rd ?_
 rintro rfl
 refine cL 1 sees_rd ?_
 rintro rfl
 refine cL 2 sees_rd ?_
 rintro rfl
 refine cL 3 sees_rd ?_
 rintro rfl
 refine cL 4 sees_rd ?_
 rintro rfl
 refine cL 5 sees_rd ?_
 rintro rfl
 refine cL 6 sees_rd ?_
 rintro rfl
 refine cL 7 sees_rd ?_
 rintro rfl
 refine cL 8 sees_rd ?_
 rintro rfl
 refine cL 9 sees_rd ?_
 rintro rfl
 let W0 : List HP := RR kT3 A2 D2 a1.Sizes :: RR kT3 A3 D3 a1.Ins :: RR kT57 A4 D4 a1.Fixed :: RR kT64 A5 D5 a1.Kernels :: RR kT3 A6 D6 a1.Outs :: RR kT3 A8 D8 b7.Sizes :: RR kT3 A9 D9 b7.Ins :: RR kT57 A10 D10 b7.Fixed :: RR kT64 A11 D11 b7.Kernels :: RR kT3 A12 D12 b7.Outs :: V
 refine cN W0 ?_
 refine c_seq (c_region (lBx R (fun b13 => (lBx R (fun b14 => (lB R (l_nil ?_)))))))
 let W1 : List HP := bxl b14 [(sc A8 b7.Sizes D8), (sc A9 b7.Ins D9), (sc A10 b7.Fixed D10), (sc A11 b7.Kernels D11), (sc A12 b7.Outs D12)] 36 :: bxl b13 [(sc A2 a1.Sizes D2), (sc A3 a1.Ins D3), (sc A4 a1.Fixed D4), (sc A5 a1.Kernels D5), (sc A6 a1.Outs D6)] 36 :: W0
 refine qN W1 ?_
 refine q_next (c_seq (c_seq ?_))
 obtain ⟨r15, hx16, hr⟩ := bd hr
 refine c_region (lO (vFa 0 fo36_0 R) (lO (vLd 1 ag22 R R R) (lO (vFa 0 fo36_0 R) (lO (vLd 0 ag22 R R R) (lM (RR kT3 A2 D2 a1.Sizes :: RR kT3 A8 D8 b7.Sizes :: W1) (fun w s => (((s.d 2 R).d 8 R).e 2 [1, 0])) ?_)))))
 refine lC 2 cb44 R (Zp_ok hx16) R ?_
 rintro _
 refine lN W1 ?_
 refine lO (vNo R) (l_nil (q_next ?_))
 rcases bif_ hr with ⟨hb17, hr⟩ | ⟨hb17, hr⟩
 refine c_true R hb17 (c_seq (c_region (lB R (l_nil (q_next (c_ret (q_ret ?_)))))))
 obtain rfl := so hr
 exact qF () (fun w s => (s.e 12 []))
 refine c_false R hb17 (c_skip (q_next (c_seq (c_seq ?_))))
 obtain ⟨r18, hx19, hr⟩ := bd hr
 refine c_region (lO (vFa 1 fo36_1 R) (lO (vLd 1 ag22 R R R) (lO (vFa 1 fo36_1 R) (lO (vLd 0 ag22 R R R) (lM (RR kT3 A3 D3 a1.Ins :: RR kT3 A9 D9 b7.Ins :: W1) (fun w s => (((s.d 3 R).d 9 R).e 2 [1, 0])) ?_)))))
 refine lC 2 cb44 R (Zp_ok hx19) R ?_
 rintro _
 refine lN W1 ?_
 refine lO (vNo R) (l_nil (q_next ?_))
 rcases bif_ hr with ⟨hb20, hr⟩ | ⟨hb20, hr⟩
 refine c_true R hb20 (c_seq (c_region (lB R (l_nil (q_next (c_ret (q_ret ?_)))))))
 obtain rfl := so hr
 exact qF () (fun w s => (s.e 12 []))
 refine c_false R hb20 (c_skip (q_next (c_seq (c_seq ?_))))
 obtain ⟨r21, hx22, hr⟩ := bd hr
 refine c_region (lO (vFa 2 fo36_2 R) (lO (vLd 1 ag33 R R R) (lO (vFa 2 fo36_2 R) (lO (vLd 0 ag33 R R R) (lM (RR kT57 A4 D4 a1.Fixed :: RR kT57 A10 D10 b7.Fixed :: W1) (fun w s => (((s.d 4 R).d 10 R).e 2 [1, 0])) ?_)))))
 refine lC 2 cb60 R (Z0t_ok hx22) R ?_
 rintro _
 refine lN W1 ?_
 refine lO (vNo R) (l_nil (q_next ?_))
 rcases bif_ hr with ⟨hb23, hr⟩ | ⟨hb23, hr⟩
 refine c_true R hb23 (c_seq (c_region (lB R (l_nil (q_next (c_ret (q_ret ?_)))))))
 obtain rfl := so hr
 exact qF () (fun w s => (s.e 12 []))
 refine c_false R hb23 (c_skip (q_next (c_seq (c_seq ?_))))
 obtain ⟨r24, hx25, hr⟩ := bd hr
 refine c_region (lO (vFa 3 fo36_3 R) (lO (vLd 1 ag34 R R R) (lO (vFa 3 fo36_3 R) (lO (vLd 0 ag34 R R R) (lM (RR kT64 A5 D5 a1.Kernels :: RR kT64 A11 D11 b7.Kernels :: W1) (fun w s => (((s.d 5 R).d 11 R).e 2 [1, 0])) ?_)))))
 refine lC 2 cb61 R (Z0u_ok hx25) R ?_
 rintro _
 refine lN W1 ?_
 refine lO (vNo R) (l_nil (q_next ?_))
 rcases bif_ hr with ⟨hb26, hr⟩ | ⟨hb26, hr⟩
 refine c_true R hb26 (c_seq (c_region (lB R (l_nil (q_next (c_ret (q_ret ?_)))))))
 obtain rfl := so hr
 exact qF () (fun w s => (s.e 12 []))
 refine c_false R hb26 (c_skip (q_next (c_seq (c_seq ?_))))
 obtain ⟨r27, hx28, hr⟩ := bd hr
 refine c_region (lO (vFa 4 fo36_4 R) (lO (vLd 1 ag22 R R R) (lO (vFa 4 fo36_4 R) (lO (vLd 0 ag22 R R R) (lM (RR kT3 A6 D6 a1.Outs :: RR kT3 A12 D12 b7.Outs :: W1) (fun w s => (((s.d 6 R).d 12 R).e 2 [1, 0])) ?_)))))
 refine lC 2 cb44 R (Zp_ok hx28) R ?_
 rintro _
 refine lN W1 ?_
 refine lO (vNo R) (l_nil (q_next ?_))
 rcases bif_ hr with ⟨hb29, hr⟩ | ⟨hb29, hr⟩
 refine c_true R hb29 (c_seq (c_region (lB R (l_nil (q_next (c_ret (q_ret ?_)))))))
 obtain rfl := so hr
 exact qF () (fun w s => (s.e 12 []))
 refine c_false R hb29 (c_skip (q_next (c_seq (c_region (lB R (l_nil (q_next (c_ret ?_))))))))
 obtain rfl := so hr
 exact qF () (fun w s => (s.e 12 []))
theorem Z14_ok  {a1 : Plan} {b8 : Plan} {r : Bool} (hr : Z14 a1 b8 = some r) :
 FnOk Tryz.prog 12 [(.agg [(.slice A2 N2 D2), (.slice A3 N3 D3), (.slice A4 N4 D4), (.slice A5 N5 D5), (.slice A6 N6 D6), (.slice A7 N7 D7), (iv a1.Arena)].toArray), (.agg [(.slice A9 N9 D9), (.slice A10 N10 D10), (.slice A11 N11 D11), (.slice A12 N12 D12), (.slice A13 N13 D13), (.slice A14 N14 D14), (iv b8.Arena)].toArray)] [rds kT3 (.slice A2 N2 D2) a1.Nest.Sizes, rds kT3 (.slice A3 N3 D3) a1.Nest.Ins, rds kT57 (.slice A4 N4 D4) a1.Nest.Fixed, rds kT64 (.slice A5 N5 D5) a1.Nest.Kernels, rds kT3 (.slice A6 N6 D6) a1.Nest.Outs, rds kT3 (.slice A7 N7 D7) a1.Offsets, rds kT3 (.slice A9 N9 D9) b8.Nest.Sizes, rds kT3 (.slice A10 N10 D10) b8.Nest.Ins, rds kT57 (.slice A11 N11 D11) b8.Nest.Fixed, rds kT64 (.slice A12 N12 D12) b8.Nest.Kernels, rds kT3 (.slice A13 N13 D13) b8.Nest.Outs, rds kT3 (.slice A14 N14 D14) b8.Offsets] (fun (h : Unit) => ((.bool r), [])) := by
 unfold Z14 at hr
 refine fn_ok Tryz.func12 R 22 R R fun C V => ?_
 refine cN (_ :: _ :: _ :: _ :: _ :: _ :: _ :: _ :: _ :: _ :: _ :: _ :: V) ?_
 refine cL 0 sees_rd ?_
 rintro rfl
 refine cL 1 sees_rd ?_
 rintro rfl
 refine cL 2 sees_rd ?_
 rintro rfl
 refine cL 3 sees_rd ?_
 rintro rfl
 refine cL 4 sees_rd ?_
 rintro rfl
 refine cL 5 sees_rd ?_
 rintro rfl
 refine cL 6 sees_rd ?_
 rintro rfl
 refine cL 7 sees_rd ?_
 rintro rfl
 refine cL 8 sees_rd ?_
 rintro rfl
 refine cL 9 sees_rd ?_
 rintro rfl
 refine cL 10 sees_rd ?_
 rintro rfl
 refine cL 11 sees_rd ?_
 rintro rfl
 let W0 : List HP := RR kT3 A2 D2 a1.Nest.Sizes :: RR kT3 A3 D3 a1.Nest.Ins :: RR kT57 A4 D4 a1.Nest.Fixed :: RR kT64 A5 D5 a1.Nest.Kernels :: RR kT3 A6 D6 a1.Nest.Outs :: RR kT3 A7 D7 a1.Offsets :: RR kT3 A9 D9 b8.Nest.Sizes :: RR kT3 A10 D10 b8.Nest.Ins :: RR kT57 A11 D11 b8.Nest.Fixed :: RR kT64 A12 D12 b8.Nest.Kernels :: RR kT3 A13 D13 b8.Nest.Outs :: RR kT3 A14 D14 b8.Offsets :: V
 refine cN W0 ?_
 refine c_seq (c_region (lBx R (fun b15 => (lBx R (fun b16 => (lB R (l_nil ?_)))))))
 let W1 : List HP := bxl b16 [(sc A9 b8.Nest.Sizes D9), (sc A10 b8.Nest.Ins D10), (sc A11 b8.Nest.Fixed D11), (sc A12 b8.Nest.Kernels D12), (sc A13 b8.Nest.Outs D13), (sc A14 b8.Offsets D14), (iv b8.Arena)] 38 :: bxl b15 [(sc A2 a1.Nest.Sizes D2), (sc A3 a1.Nest.Ins D3), (sc A4 a1.Nest.Fixed D4), (sc A5 a1.Nest.Kernels D5), (sc A6 a1.Nest.Outs D6), (sc A7 a1.Offsets D7), (iv a1.Arena)] 38 :: W0
 refine qN W1 ?_
 refine q_next (c_seq (c_seq ?_))
 obtain ⟨r17, hx18, hr⟩ := bd hr
 refine c_region (lO (vFa 0 fo38_0 R) (lO (vz (.agg [(sc A2 a1.Nest.Sizes D2), (sc A3 a1.Nest.Ins D3), (sc A4 a1.Nest.Fixed D4), (sc A5 a1.Nest.Kernels D5), (sc A6 a1.Nest.Outs D6)].toArray) (v_loadw 1 ag36 sz36 R R R R)) (lO (vFa 0 fo38_0 R) (lO (vz (.agg [(sc A9 b8.Nest.Sizes D9), (sc A10 b8.Nest.Ins D10), (sc A11 b8.Nest.Fixed D11), (sc A12 b8.Nest.Kernels D12), (sc A13 b8.Nest.Outs D13)].toArray) (v_loadw 0 ag36 sz36 R R R R)) (lM (RR kT3 A2 D2 a1.Nest.Sizes :: RR kT3 A3 D3 a1.Nest.Ins :: RR kT57 A4 D4 a1.Nest.Fixed :: RR kT64 A5 D5 a1.Nest.Kernels :: RR kT3 A6 D6 a1.Nest.Outs :: RR kT3 A9 D9 b8.Nest.Sizes :: RR kT3 A10 D10 b8.Nest.Ins :: RR kT57 A11 D11 b8.Nest.Fixed :: RR kT64 A12 D12 b8.Nest.Kernels :: RR kT3 A13 D13 b8.Nest.Outs :: W1) (fun w s => (((((((((((s.d 2 R).d 4 R).d 6 R).d 8 R).d 10 R).d 13 R).d 15 R).d 17 R).d 19 R).d 21 R).e 10 [9, 8, 7, 6, 5, 4, 3, 2, 1, 0])) ?_)))))
 refine lC 10 cb20 R (Z1c_ok hx18) R ?_
 rintro _
 refine lN W1 ?_
 refine lO (vNo R) (l_nil (q_next ?_))
 rcases bif_ hr with ⟨hb19, hr⟩ | ⟨hb19, hr⟩
 refine c_true R hb19 (c_seq (c_region (lB R (l_nil (q_next (c_ret (q_ret ?_)))))))
 obtain rfl := so hr
 exact qF () (fun w s => (s.e 14 []))
 refine c_false R hb19 (c_skip (q_next (c_seq (c_seq ?_))))
 obtain ⟨r20, hx21, hr⟩ := bd hr
 refine c_region (lO (vFa 5 fo38_1 R) (lO (vLd 1 ag22 R R R) (lO (vFa 5 fo38_1 R) (lO (vLd 0 ag22 R R R) (lM (RR kT3 A7 D7 a1.Offsets :: RR kT3 A14 D14 b8.Offsets :: W1) (fun w s => (((s.d 7 R).d 14 R).e 2 [1, 0])) ?_)))))
 refine lC 2 cb44 R (Zp_ok hx21) R ?_
 rintro _
 refine lN W1 ?_
 refine lO (vNo R) (l_nil (q_next ?_))
 rcases bif_ hr with ⟨hb22, hr⟩ | ⟨hb22, hr⟩
 refine c_true R hb22 (c_seq (c_region (lB R (l_nil (q_next (c_ret (q_ret ?_)))))))
 obtain rfl := so hr
 exact qF () (fun w s => (s.e 14 []))
 refine c_false R hb22 (c_skip (q_next (c_seq (c_seq (c_region (lO (vFa 6 fo38_2 R) (lO (vLd 1 ag3 R R R) (lO (vFa 6 fo38_2 R) (lO (vLd 0 ag3 R R R) (lO (vNe R R) (l_nil (q_next ?_))))))))))))
 rcases bif_ hr with ⟨hb23, hr⟩ | ⟨hb23, hr⟩
 refine c_true R hb23 (c_seq (c_region (lB R (l_nil (q_next (c_ret (q_ret ?_)))))))
 obtain rfl := so hr
 exact qF () (fun w s => (s.e 14 []))
 refine c_false R hb23 (c_skip (q_next (c_seq (c_region (lB R (l_nil (q_next (c_ret ?_))))))))
 obtain rfl := so hr
 exact qF () (fun w s => (s.e 14 []))
end Go.Proofs.YtkfgngcfcoplpaaGreat
