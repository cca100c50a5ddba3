import Derived.Test.YtkfgngcfcoplpaaGeF
set_option linter.unusedVariables false
set_option maxRecDepth 20000
namespace Go.Proofs.Ytkfgngcfcoplpaa
open Go Go.Pg
variable {A2 A3 A4 A5 : Option Addr} {D2 D3 D4 D5 N2 N3 N4 N5 : Nat}
theorem Z1g_ok  {code1 : (List Int)} {r : Bool} (hr : Z1g code1 = some r) :
 FnOk Try.prog 5 [(.slice A2 N2 D2)] [rds kT5 (.slice A2 N2 D2) code1] (fun (h : Unit) => ((.bool r), [])) := by
 unfold Z1g at hr
 refine fn_ok Try.func5 R 6 R R fun C V => ?_
 refine cN (_ :: V) ?_
 refine cL 0 sees_rd ?_
 rintro rfl
 let W0 : List HP := RR kT5 A2 D2 code1 :: V
 refine cN W0 ?_
 refine c_seq (c_region (lB R (l_nil (q_next (c_seq (c_region (lS R (lO (v_len sl22 R) (lO (vGt R R) (lB R (l_nil (q_next (c_ret ?_)))))))))))))
 obtain rfl := so hr
 exact qF () (fun w s => (s.e 1 []))
theorem Z0e_ok  {code1 : (List Int)} {r : l1Cur} (hr : Z0e code1 = some r) :
 FnOk Try.prog 20 [(.slice A2 N2 D2)] [rds kT5 (.slice A2 N2 D2) code1] (fun (h : HH × Nat) => ((pt h.2 0), [rds kT5 (.slice h.1.1 h.1.2.1 h.1.2.2) r.b, bxl h.2 [(.slice h.1.1 h.1.2.1 h.1.2.2), (iv r.i), (iv r.h_)] 72])) := by
 unfold Z0e at hr
 refine fn_ok Try.func20 R 32 R R fun C V => ?_
 refine cN (_ :: V) ?_
 refine cL 0 sees_rd ?_
 rintro rfl
 let W0 : List HP := RR kT5 A2 D2 code1 :: V
 refine cN W0 ?_
 refine c_seq (c_region (lO (vp (.pointer none) R) (l_nil (q_next (c_seq (c_region (lS R (lO (v_len sl22 R) (lO (vAd R R) (lI R (l_nil (q_next (c_seq (c_cut (A := (Int) × (Unit)) (fun a => Z0e_J1 code1 a.1 = some r) (fun a => [(0, (sc A2 code1 D2)), (3, (iv a.1))]) (fun a => W0) ?_ ?_))))))))))))))
 refine c_seq (c_region (lI R (l_nil (q_next (c_block ?_)))))
 obtain ⟨e1, hl1, hk1⟩ := bd hr
 refine c_loop (A := Unit) hl1 (fun s a => [(0, (sc A2 code1 D2)), (3, (iv s.1)), (4, (iv s.2))]) (fun s a => W0) () (aS R) (fun w s => s) ?_
 rintro ⟨x8, i9⟩ _ σ1 out1 hr he1
 replace hr : Z0e_L1 code1 x8 i9 = some out1 := hr
 unfold Z0e_L1 at hr
 refine c_seq (c_seq (cQ [(0, (sc A2 code1 D2)), (3, (iv x8)), (4, (iv i9)), (15, (.bool ((decide (i9 < (code1.length : Int))) && (decide (i9 < (4000 : Int))))))] (W0) ?_ ?_))
 refine c_region (lI R (lS R (lO (v_len sl22 R) (lO (vLt R R) (lB R ?_)))))
 rcases bo (decide (i9 < (code1.length : Int))) with hc10 | hc10
 refine lW (wnT hc10) (vI R) (lW (wnT hc10) (vLt R R) (lO (pAT R hc10 R) (l_nil ?_)))
 exact qJ (fun w s => s)
 refine lf (wfF hc10) (lf (wfF hc10) (lO (pAF (decide (i9 < (4000 : Int))) R hc10) (l_nil ?_)))
 exact qJ (fun w s => s)
 rintro σ1
 refine q_next ?_
 rcases bif_ hr with ⟨hb11, hr⟩ | ⟨hb11, hr⟩
 refine c_true R hb11 (c_skip (q_next (c_seq (c_block ?_))))
 obtain ⟨hg12, hr⟩ := gd hr
 refine c_region (lI R (lO (vMu R R) (lS R (lI R (t_some 0 sees_rd (show 0 < code1.length by have := hg12; omega) (fun g13 o14 ha => ?_))))))
 subst ha
 refine lO (vIa sl22 sz5 R R hg12) (lO (vz (.int .u8 (ix code1 i9)) (v_lde (K := kT5) (fo := 0) (pr := fun x => (.int .u8 x)) 0 i9 ag5 (dT5.leaf fun _ _ => R) sees_rd R hg12.1 hg12.2)) (lO (vz (iv (w64 ((ix code1 i9)))) (v_conv un5 un3 R)) (lO (vAd R R) (lO (vAd R R) (lO (vp (iv (bits .and .i64 (w64 ((w64 ((w64 (x8 * (131 : Int))) + (w64 ((ix code1 i9))))) + (7 : Int))) (1073741823 : Int))) R) (lI R (l_nil (q_blockn (q_next (c_region (lI R (lO (vAd R R) (lI R (l_nil ?_))))))))))))))
 obtain rfl := so hr
 exact qA () (fun w s => s)
 refine c_false R hb11 (c_exit (q_exit ?_))
 obtain rfl := so hr
 obtain rfl := he1 _ R
 have hr := hk1
 refine q_exit (q_block ?_)
 exact qI (x8, ()) hr (fun w s => s)
 rintro ⟨x17, _⟩ σ1 hr
 replace hr : Z0e_J1 code1 x17 = some r := hr
 unfold Z0e_J1 at hr
 refine c_seq (c_region (lS R (lI R (lO (vz (.agg [(sc A2 code1 D2), (iv 0), (iv x17)].toArray) (v_build pl72 zc72 R R)) (lBx R (fun b18 => (lP R (l_nil (q_next (c_ret ?_))))))))))
 obtain rfl := so hr
 exact qF ((A2, code1.length, D2), b18) (fun w s => (s.e 2 [1, 0]))
theorem Z06_ok  {c1 : l1Cur} {b2 : Nat} {r : Int × l1Cur} (hr : Z06 c1 = some r) :
 FnOk Try.prog 48 [(pt b2 0)] [rds kT5 (.slice A3 N3 D3) c1.b, bxl b2 [(.slice A3 N3 D3), (iv c1.i), (iv c1.h_)] 72] (fun (h : HH) => ((iv r.1), [rds kT5 (.slice h.1 h.2.1 h.2.2) r.2.b, bxl b2 [(.slice h.1 h.2.1 h.2.2), (iv r.2.i), (iv r.2.h_)] 72])) := by
 unfold Z06 at hr
 refine fn_ok Try.func48 R 58 R R fun C V => ?_
 refine cM (bxl _ _ _ :: rds _ _ _ :: V) (fun w s => (s.e 2 [1, 0])) ?_
 refine cL 1 sees_rd ?_
 rintro rfl
 let W0 : List HP := RR kT5 A3 D3 c1.b :: V
 refine cN (bxl b2 [(sc A3 c1.b D3), (iv c1.i), (iv c1.h_)] 72 :: W0) ?_
 refine c_seq (c_region (lI R (l_nil (q_next (c_seq (c_region (lP R (lP R (lP R (lO (vFa 2 fo72_2 R) (lO (vLd 0 ag3 R R R) (lO (vMu R R) (lO (vAd R R) (lP R (lO (vFa 2 fo72_2 R) (l_store 0 R R sz3 R R R R R (lN (bxl b2 [(sc A3 c1.b D3), (iv c1.i), (iv (w64 ((w64 (c1.h_ * (6364136223846793005 : Int))) + (1442695040888963407 : Int))))] 72 :: W0) ?_)))))))))))))))))
 refine l_nil (q_next (c_seq (cdr 13 [] mixo (fun ht hn => (dR 0 R (vP R) (dR 1 R (vP R) (dR 2 R (vFa 2 fo72_2 R) (dR 3 R (vLd 0 ag3 R R R) (dR 4 R (vz (iv ((w64 ((w64 (c1.h_ * (6364136223846793005 : Int))) + (1442695040888963407 : Int))) / 2 ^ (33 : Int).toNat)) (v_shr R R (by decide) (by decide))) (dR 5 R (vP R) (dR 6 R (vP R) (dR 7 R (vFa 2 fo72_2 R) (dR 8 R (vLd 0 ag3 R R R) (dR 9 R (vz (iv ((w64 ((w64 (c1.h_ * (6364136223846793005 : Int))) + (1442695040888963407 : Int))) / 2 ^ (45 : Int).toNat)) (v_shr R R (by decide) (by decide))) (dR 10 R (vp (iv (bits .xor .i64 ((w64 ((w64 (c1.h_ * (6364136223846793005 : Int))) + (1442695040888963407 : Int))) / 2 ^ (33 : Int).toNat) ((w64 ((w64 (c1.h_ * (6364136223846793005 : Int))) + (1442695040888963407 : Int))) / 2 ^ (45 : Int).toNat))) R) (dR 11 R (vp (iv (bits .and .i64 (bits .xor .i64 ((w64 ((w64 (c1.h_ * (6364136223846793005 : Int))) + (1442695040888963407 : Int))) / 2 ^ (33 : Int).toNat) ((w64 ((w64 (c1.h_ * (6364136223846793005 : Int))) + (1442695040888963407 : Int))) / 2 ^ (45 : Int).toNat)) (255 : Int))) R) (dR 12 R (vI R) (dD (q_next ?_)))))))))))))))))))
 refine c_seq (c_cut (A := (Int × Int) × (Unit)) (fun a => Z06_J1 c1 a.1.1 a.1.2 = some r) (fun a => [(3, (iv a.1.1))]) (fun a => bxl b2 [(sc A3 c1.b D3), (iv a.1.2), (iv (w64 ((w64 (c1.h_ * (6364136223846793005 : Int))) + (1442695040888963407 : Int))))] 72 :: W0) ?_ ?_)
 refine c_seq (cdr 10 [] mixo (fun ht hn => (dR 0 R (vP R) (dR 1 R (vP R) (dR 2 R (vFa 1 fo72_1 R) (dR 3 R (vLd 0 ag3 R R R) (dR 4 R (vP R) (dR 5 R (vP R) (dR 6 R (vFa 0 fo72_0 R) (dR 7 R (vLd 0 ag22 R R R) (dR 8 R (v_len sl22 R) (dR 9 R (vLt R R) (dD (q_next ?_))))))))))))))
 rcases bif_ hr with ⟨hb4, hr⟩ | ⟨hb4, hr⟩
 refine c_true R hb4 (c_seq ?_)
 obtain ⟨hg5, hr⟩ := gd hr
 refine c_some 1 sees_rd (show 0 < c1.b.length by have := hg5; omega) (fun g6 o7 ha => ?_)
 subst ha
 refine cdr 15 [] mixo (fun ht hn => (dR 0 R (vI R) (dR 1 R (vP R) (dR 2 R (vP R) (dR 3 R (vFa 0 fo72_0 R) (dR 4 R (vLd 0 ag22 R R R) (dR 5 R (vP R) (dR 6 R (vP R) (dR 7 R (vFa 1 fo72_1 R) (dR 8 R (vLd 0 ag3 R R R) (dR 9 R (vIa sl22 sz5 R R hg5) (dR 10 R (vz (.int .u8 (ix c1.b c1.i)) (v_lde (K := kT5) (fo := 0) (pr := fun x => (.int .u8 x)) 1 c1.i ag5 (dT5.leaf fun _ _ => R) sees_rd R hg5.1 hg5.2)) (dR 11 R (vz (iv (w64 ((ix c1.b c1.i)))) (v_conv un5 un3 R)) (dR 12 R (vAd R R) (dR 13 R (vp (iv (bits .and .i64 (w64 ((bits .and .i64 (bits .xor .i64 ((w64 ((w64 (c1.h_ * (6364136223846793005 : Int))) + (1442695040888963407 : Int))) / 2 ^ (33 : Int).toNat) ((w64 ((w64 (c1.h_ * (6364136223846793005 : Int))) + (1442695040888963407 : Int))) / 2 ^ (45 : Int).toNat)) (255 : Int)) + (w64 ((ix c1.b c1.i))))) (255 : Int))) R) (dR 14 R (vI R) (dD (q_next (c_region (lP R (lP R (lP R (lO (vFa 1 fo72_1 R) (lO (vLd 0 ag3 R R R) (lO (vAd R R) (lP R (lO (vFa 1 fo72_1 R) (l_store 0 R R sz3 R R R R R ?_))))))))))))))))))))))))))))
 refine lN (bxl b2 [(sc (ad g6 o7) c1.b D3), (iv (w64 (c1.i + (1 : Int)))), (iv (w64 ((w64 (c1.h_ * (6364136223846793005 : Int))) + (1442695040888963407 : Int))))] 72 :: W0) ?_
 refine l_nil ?_
 exact qI (((bits .and .i64 (w64 ((bits .and .i64 (bits .xor .i64 ((w64 ((w64 (c1.h_ * (6364136223846793005 : Int))) + (1442695040888963407 : Int))) / 2 ^ (33 : Int).toNat) ((w64 ((w64 (c1.h_ * (6364136223846793005 : Int))) + (1442695040888963407 : Int))) / 2 ^ (45 : Int).toNat)) (255 : Int)) + (w64 ((ix c1.b c1.i))))) (255 : Int)), (w64 (c1.i + (1 : Int)))), ()) hr (fun w s => s)
 refine c_false R hb4 (c_skip ?_)
 exact qI (((bits .and .i64 (bits .xor .i64 ((w64 ((w64 (c1.h_ * (6364136223846793005 : Int))) + (1442695040888963407 : Int))) / 2 ^ (33 : Int).toNat) ((w64 ((w64 (c1.h_ * (6364136223846793005 : Int))) + (1442695040888963407 : Int))) / 2 ^ (45 : Int).toNat)) (255 : Int)), c1.i), ()) hr (fun w s => s)
 rintro ⟨⟨x8, p9⟩, _⟩ σ1 hr
 replace hr : Z06_J1 c1 x8 p9 = some r := hr
 unfold Z06_J1 at hr
 refine c_seq (c_region (lI R (lI R (l_nil (q_next (c_ret ?_))))))
 obtain rfl := so hr
 exact qF (A3, c1.b.length, D3) (fun w s => (s.e 2 [1, 0]))
theorem Zb_ok  {c1 : l1Cur} {n4 : Int} {b2 : Nat} {r : Int × l1Cur} (hr : Zb c1 n4 = some r) :
 FnOk Try.prog 21 [(pt b2 0), (iv n4)] [rds kT5 (.slice A3 N3 D3) c1.b, bxl b2 [(.slice A3 N3 D3), (iv c1.i), (iv c1.h_)] 72] (fun (h : HH) => ((iv r.1), [rds kT5 (.slice h.1 h.2.1 h.2.2) r.2.b, bxl b2 [(.slice h.1 h.2.1 h.2.2), (iv r.2.i), (iv r.2.h_)] 72])) := by
 unfold Zb at hr
 refine fn_ok Try.func21 R 37 R R fun C V => ?_
 refine cM (bxl _ _ _ :: rds _ _ _ :: V) (fun w s => (s.e 2 [1, 0])) ?_
 refine cL 1 sees_rd ?_
 rintro rfl
 let W0 : List HP := RR kT5 A3 D3 c1.b :: V
 refine cN (bxl b2 [(sc A3 c1.b D3), (iv c1.i), (iv c1.h_)] 72 :: W0) ?_
 refine c_seq (c_region (lI R (l_nil (q_next (c_seq (c_seq (c_region (lI R (lO (vLe R R) (l_nil (q_next ?_)))))))))))
 rcases bif_ hr with ⟨hb5, hr⟩ | ⟨hb5, hr⟩
 refine c_true R hb5 (c_seq (c_region (lI R (l_nil (q_next (c_ret (q_ret ?_)))))))
 obtain rfl := so hr
 exact qF (A3, c1.b.length, D3) (fun w s => (s.e 2 [1, 0]))
 refine c_false R hb5 (c_skip (q_next (c_seq (c_seq (c_region (lI R (lO (vLe R R) (l_nil (q_next ?_)))))))))
 rcases bif_ hr with ⟨hb6, hr⟩ | ⟨hb6, hr⟩
 refine c_true R hb6 (c_seq ?_)
 obtain ⟨r7, hx8, hr⟩ := bd hr
 obtain ⟨hg10, hr⟩ := gd hr
 refine c_region (lP R (lM (RR kT5 A3 D3 c1.b :: _ :: W0) (fun w s => (s.d 1 R)) ?_))
 refine lC 2 cb48 R (Z06_ok hx8) R ?_
 rintro ⟨A9, N9, D9⟩
 refine lN (rds kT5 (.slice A9 N9 D9) r7.2.b :: bxl b2 [(.slice A9 N9 D9), (iv r7.2.i), (iv r7.2.h_)] 72 :: W0) ?_
 refine l_len 0 sees_rd ?_
 rintro rfl
 refine lI R (lO (v_rem R R hg10) (lI R (l_nil (q_next (c_ret (q_ret ?_))))))
 obtain rfl := so hr
 exact qF (A9, r7.2.b.length, D9) (fun w s => (s.e 3 [0, 1]))
 refine c_false R hb6 (c_skip (q_next (c_seq ?_)))
 obtain ⟨r11, hx12, hr⟩ := bd hr
 refine c_region (lP R (lM (RR kT5 A3 D3 c1.b :: bxl b2 [(sc A3 c1.b D3), (iv c1.i), (iv c1.h_)] 72 :: W0) (fun w s => (s.d 1 R)) ?_))
 refine lC 2 cb48 R (Z06_ok hx12) R ?_
 rintro ⟨A13, N13, D13⟩
 refine lN (rds kT5 (.slice A13 N13 D13) r11.2.b :: bxl b2 [(.slice A13 N13 D13), (iv r11.2.i), (iv r11.2.h_)] 72 :: W0) ?_
 refine l_len 0 sees_rd ?_
 rintro rfl
 refine lI R (l_nil (q_next (c_seq ?_)))
 obtain ⟨r14, hx15, hr⟩ := bd hr
 refine c_region (lP R (lM (rds _ _ _ :: bxl b2 [(sc A13 r11.2.b D13), (iv r11.2.i), (iv r11.2.h_)] 72 :: rds _ _ _ :: W0) (fun w s => ((s.d 0 R).e 3 [0, 2, 1])) ?_))
 refine lC 2 cb48 R (Z06_ok hx15) R ?_
 rintro ⟨A16, N16, D16⟩
 refine lN (rds kT5 (.slice A16 N16 D16) r14.2.b :: bxl b2 [(.slice A16 N16 D16), (iv r14.2.i), (iv r14.2.h_)] 72 :: _ :: W0) ?_
 refine l_len 0 sees_rd ?_
 rintro rfl
 refine lI R (l_nil (q_next (c_seq ?_)))
 obtain ⟨r17, hx18, hr⟩ := bd hr
 refine c_region (lP R (lM (rds _ _ _ :: bxl b2 [(sc A16 r14.2.b D16), (iv r14.2.i), (iv r14.2.h_)] 72 :: rds _ _ _ :: rds _ _ _ :: W0) (fun w s => ((s.d 0 R).e 4 [0, 2, 1, 3])) ?_))
 refine lC 2 cb48 R (Z06_ok hx18) R ?_
 rintro ⟨A19, N19, D19⟩
 refine lN (rds kT5 (.slice A19 N19 D19) r17.2.b :: bxl b2 [(.slice A19 N19 D19), (iv r17.2.i), (iv r17.2.h_)] 72 :: _ :: _ :: W0) ?_
 refine l_len 0 sees_rd ?_
 rintro rfl
 refine lI R (l_nil (q_next (c_seq ?_)))
 obtain ⟨r20, hx21, hr⟩ := bd hr
 refine c_region (lP R (lM (rds _ _ _ :: bxl b2 [(sc A19 r17.2.b D19), (iv r17.2.i), (iv r17.2.h_)] 72 :: rds _ _ _ :: rds _ _ _ :: rds _ _ _ :: W0) (fun w s => ((s.d 0 R).e 5 [0, 2, 1, 3, 4])) ?_))
 refine lC 2 cb48 R (Z06_ok hx21) R ?_
 rintro ⟨A22, N22, D22⟩
 refine lN (rds kT5 (.slice A22 N22 D22) r20.2.b :: bxl b2 [(.slice A22 N22 D22), (iv r20.2.i), (iv r20.2.h_)] 72 :: _ :: _ :: _ :: W0) ?_
 refine l_len 0 sees_rd ?_
 rintro rfl
 refine lI R (l_nil (q_next (c_seq ?_)))
 obtain ⟨hg23, hr⟩ := gd hr
 refine c_region (lI R (lO (vMu R R) (lI R (lO (vMu R R) (lO (vAd R R) (lI R (lO (vMu R R) (lO (vAd R R) (lI R (lO (vAd R R) (lI R (lO (v_rem R R hg23) (lI R (l_nil (q_next (c_ret ?_))))))))))))))))
 obtain rfl := so hr
 exact qF (A22, r20.2.b.length, D22) (fun w s => (s.e 6 [0, 1]))
theorem Z09_ok  {c1 : l1Cur} {size4 : Int} {n5 : Int} {b2 : Nat} {r : (List Int) × l1Cur} (hr : Z09 c1 size4 n5 = some r) :
 FnOk Try.prog 25 [(pt b2 0), (iv size4), (iv n5)] [rds kT5 (.slice A3 N3 D3) c1.b, bxl b2 [(.slice A3 N3 D3), (iv c1.i), (iv c1.h_)] 72] (fun (h : HH × HH) => ((.slice h.1.1 h.1.2.1 h.1.2.2), [ow kT3 3 (.slice h.1.1 h.1.2.1 h.1.2.2) r.1, rds kT5 (.slice h.2.1 h.2.2.1 h.2.2.2) r.2.b, bxl b2 [(.slice h.2.1 h.2.2.1 h.2.2.2), (iv r.2.i), (iv r.2.h_)] 72])) := by
 unfold Z09 at hr
 refine fn_ok Try.func25 R 20 R R fun C V => ?_
 refine cM (bxl _ _ _ :: rds _ _ _ :: V) (fun w s => (s.e 2 [1, 0])) ?_
 refine cL 1 sees_rd ?_
 rintro rfl
 let W0 : List HP := RR kT5 A3 D3 c1.b :: V
 refine cN (bxl b2 [(sc A3 c1.b D3), (iv c1.i), (iv c1.h_)] 72 :: W0) ?_
 refine c_seq (c_region (lS R (l_nil (q_next (c_seq (c_region (l_build (K := kT3) (xs := ([] : List Int)) (vs := []) 0 R R sl29 sz3 zc3 R R R R R R ?_ R (fun A6 D6 => ?_))))))))
 exact fun I h s => (mO3).list [] I h s
 refine lN (OO kT3 3 A6 D6 ([] : List Int) :: _ :: W0) ?_
 refine lS R (l_nil (q_next (c_seq (c_cut (A := ((List Int) × (List Int) × Int × Int) × (HH × HH)) (fun a => Z09_J1 a.1.1 a.1.2.1 a.1.2.2.1 a.1.2.2.2 = some r) (fun a => [(7, (.slice a.2.1.1 a.2.1.2.1 a.2.1.2.2))]) (fun a => ow kT3 3 (.slice a.2.1.1 a.2.1.2.1 a.2.1.2.2) a.1.1 :: bxl b2 [(.slice a.2.2.1 a.2.2.2.1 a.2.2.2.2), (iv a.1.2.2.1), (iv a.1.2.2.2)] 72 :: rds kT5 (.slice a.2.2.1 a.2.2.2.1 a.2.2.2.2) a.1.2.1 :: W0) ?_ ?_))))
 refine c_block ?_
 obtain ⟨e1, hl1, hk1⟩ := bd hr
 refine c_loop (A := HH × HH) hl1 (fun s a => [(0, (pt b2 0)), (1, (iv size4)), (2, (iv s.2.2.2.1)), (7, (.slice a.2.1 a.2.2.1 a.2.2.2))]) (fun s a => bxl b2 [(.slice a.1.1 a.1.2.1 a.1.2.2), (iv s.2.1), (iv s.2.2.1)] 72 :: rds kT5 (.slice a.1.1 a.1.2.1 a.1.2.2) s.1 :: ow kT3 3 (.slice a.2.1 a.2.2.1 a.2.2.2) s.2.2.2.2 :: W0) ((A3, c1.b.length, D3), (A6, ([] : List Int).length, D6)) (aS R) (fun w s => ((s.d 2 R).e 3 [2, 0, 1])) ?_
 rintro ⟨c14, c16, c17, n18, x19⟩ ⟨⟨A15, N15, D15⟩, ⟨A20, N20, D20⟩⟩ σ1 out1 hr he1
 replace hr : Z09_L1 size4 c14 c16 c17 n18 x19 = some out1 := hr
 unfold Z09_L1 at hr
 refine c_len 1 sees_rd (fun (hn : N15 = c14.length) => ?_)
 subst hn
 refine c_len 2 sees_ow (fun (hn : N20 = x19.length) => ?_)
 subst hn
 refine c_seq (c_seq (c_region (lI R (lO (vGt R R) (l_nil (q_next ?_))))))
 rcases bif_ hr with ⟨hb21, hr⟩ | ⟨hb21, hr⟩
 refine c_true R hb21 (c_skip (q_next (c_seq (c_block ?_))))
 obtain ⟨r22, hx23, hr⟩ := bd hr
 obtain ⟨hg26, hr⟩ := gd hr
 refine c_region (lS R (lP R (lI R (lM (RR kT5 A15 D15 c14 :: bxl b2 [(sc A15 c14 D15), (iv c16), (iv c17)] 72 :: RR kT5 A15 D15 c14 :: OO kT3 3 A20 D20 x19 :: W0) (fun w s => (s.d 1 R)) ?_))))
 refine lC 2 cb21 R (Zb_ok hx23) R ?_
 rintro ⟨A24, N24, D24⟩
 refine lN (rds kT5 (.slice A24 N24 D24) r22.2.b :: bxl b2 [(.slice A24 N24 D24), (iv r22.2.i), (iv r22.2.h_)] 72 :: _ :: _ :: W0) ?_
 refine l_len 0 sees_rd ?_
 rintro rfl
 refine l_build (K := kT3) (xs := ([r22.1] : List Int)) (vs := [(iv r22.1)]) 0 R R sl29 sz3 zc3 R R R R R R ?_ R (fun A25 D25 => ?_)
 exact fun I h s => (mO3).list [((), r22.1)] I h s
 refine lN (OO kT3 3 A25 D25 ([r22.1] : List Int) :: _ :: bxl b2 [(sc A24 r22.2.b D24), (iv r22.2.i), (iv r22.2.h_)] 72 :: _ :: _ :: W0) ?_
 refine lM (ow _ _ _ _ :: ow _ _ _ _ :: rds _ _ _ :: bxl _ _ _ :: rds _ _ _ :: W0) (fun w s => (s.f 5 [4, 1, 0, 4])) ?_
 refine l_app (K := kT3) 17592186044416 R R sl29 sz3 by3 (Zr.zk zT3 zc3) R R R R R R src_ow hg26 (fun A27 D27 => (lN (OO kT3 3 A27 D27 (x19 ++ ([r22.1] : List Int)) :: _ :: _ :: _ :: W0) ?_))
 refine lS R (l_nil (q_blockn (q_next (c_region (lI R (lO (vSb R R) (lI R (l_nil ?_))))))))
 obtain rfl := so hr
 exact qA ((A24, r22.2.b.length, D24), (A27, (x19 ++ ([r22.1] : List Int)).length, D27)) (fun w s => (s.e 4 [2, 1, 0]))
 refine c_false R hb21 (c_exit (q_exit ?_))
 obtain rfl := so hr
 obtain rfl := he1 _ R
 have hr := hk1
 refine q_exit (q_block ?_)
 exact qI ((x19, c14, c16, c17), ((A20, x19.length, D20), (A15, c14.length, D15))) hr (fun w s => (s.e 3 [2, 0, 1]))
 rintro ⟨⟨x35, p37, p39, p40⟩, ⟨⟨A36, N36, D36⟩, ⟨A38, N38, D38⟩⟩⟩ σ1 hr
 replace hr : Z09_J1 x35 p37 p39 p40 = some r := hr
 unfold Z09_J1 at hr
 refine c_len 0 sees_ow (fun (hn : N36 = x35.length) => ?_)
 subst hn
 refine c_len 2 sees_rd (fun (hn : N38 = p37.length) => ?_)
 subst hn
 refine c_seq (c_region (lS R (lS R (l_nil (q_next (c_ret ?_))))))
 obtain rfl := so hr
 exact qF ((A36, x35.length, D36), (A38, p37.length, D38)) (fun w s => (s.e 4 [0, 2, 1]))
theorem Z0l_ok  {c1 : l1Cur} {list4 : (List Int)} {b2 : Nat} {r : Int × l1Cur} (hr : Z0l c1 list4 = some r) :
 FnOk Try.prog 49 [(pt b2 0), (.slice A5 N5 D5)] [rds kT5 (.slice A3 N3 D3) c1.b, bxl b2 [(.slice A3 N3 D3), (iv c1.i), (iv c1.h_)] 72, rds kT3 (.slice A5 N5 D5) list4] (fun (h : HH) => ((iv r.1), [rds kT5 (.slice h.1 h.2.1 h.2.2) r.2.b, bxl b2 [(.slice h.1 h.2.1 h.2.2), (iv r.2.i), (iv r.2.h_)] 72])) := by
 unfold Z0l at hr
 refine fn_ok Try.func49 R 12 R R fun C V => ?_
 refine cM (bxl _ _ _ :: rds _ _ _ :: rds _ _ _ :: V) (fun w s => (s.e 3 [1, 0, 2])) ?_
 refine cL 1 sees_rd ?_
 rintro rfl
 refine cL 2 sees_rd ?_
 rintro rfl
 let W0 : List HP := RR kT5 A3 D3 c1.b :: RR kT3 A5 D5 list4 :: V
 refine cN (bxl b2 [(sc A3 c1.b D3), (iv c1.i), (iv c1.h_)] 72 :: W0) ?_
 refine c_seq (c_region (lI R (l_nil (q_next (c_seq ?_)))))
 obtain ⟨r6, hx7, hr⟩ := bd hr
 obtain ⟨hg9, hr⟩ := gd hr
 refine c_region (lS R (lP R (lS R (lO (v_len sl29 R) (lM (RR kT5 A3 D3 c1.b :: _ :: W0) (fun w s => (s.d 1 R)) ?_)))))
 refine lC 2 cb21 R (Zb_ok hx7) R ?_
 rintro ⟨A8, N8, D8⟩
 refine lN (rds kT5 (.slice A8 N8 D8) r6.2.b :: bxl b2 [(.slice A8 N8 D8), (iv r6.2.i), (iv r6.2.h_)] 72 :: W0) ?_
 refine l_len 0 sees_rd ?_
 rintro rfl
 refine t_some 3 sees_rd (show 0 < list4.length by have := hg9; omega) (fun g10 o11 ha => ?_)
 subst ha
 refine lO (vIa sl29 sz3 R R hg9) (lO (vLi 3 ag3 sees_rd R hg9) (lI R (l_nil (q_next (c_ret ?_)))))
 obtain rfl := so hr
 exact qF (A8, r6.2.b.length, D8) (fun w s => (s.e 4 [0, 1]))
theorem Zo_ok  {a1 : (List Int)} {b3 : (List Int)} {r : Bool} (hr : Zo a1 b3 = some r) :
 FnOk Try.prog 50 [(.slice A2 N2 D2), (.slice A4 N4 D4)] [rds kT3 (.slice A2 N2 D2) a1, rds kT3 (.slice A4 N4 D4) b3] (fun (h : Unit) => ((.bool r), [])) := by
 unfold Zo at hr
 refine fn_ok Try.func50 R 26 R R fun C V => ?_
 refine cN (_ :: _ :: V) ?_
 refine cL 0 sees_rd ?_
 rintro rfl
 refine cL 1 sees_rd ?_
 rintro rfl
 let W0 : List HP := RR kT3 A2 D2 a1 :: RR kT3 A4 D4 b3 :: V
 refine cN W0 ?_
 refine c_seq (c_region (lB R (l_nil (q_next (c_seq (c_seq (c_region (lS R (lO (v_len sl29 R) (lS R (lO (v_len sl29 R) (lO (vNe R R) (l_nil (q_next ?_))))))))))))))
 rcases bif_ hr with ⟨hb5, hr⟩ | ⟨hb5, hr⟩
 refine c_true R hb5 (c_seq (c_region (lB R (l_nil (q_next (c_ret (q_ret ?_)))))))
 obtain rfl := so hr
 exact qF () (fun w s => (s.e 2 []))
 refine c_false R hb5 (c_skip (q_next (c_seq (c_cut (A := (Unit) × (Unit)) (fun a => Zo_J1 = some r) (fun a => []) (fun a => W0) ?_ ?_))))
 refine c_seq (c_region (lI R (l_nil (q_next (c_block ?_)))))
 obtain ⟨e1, hl1, hk1⟩ := bd hr
 refine c_loop (A := Unit) hl1 (fun s a => [(0, (sc A2 a1 D2)), (1, (sc A4 b3 D4)), (5, (iv s))]) (fun s a => W0) () (aS R) (fun w s => s) ?_
 rintro i14 _ σ1 out1 hr he1
 replace hr : Zo_L1 a1 b3 i14 = some out1 := hr
 unfold Zo_L1 at hr
 refine c_seq (c_seq (c_region (lI R (lS R (lO (v_len sl29 R) (lO (vLt R R) (l_nil (q_next ?_))))))))
 rcases bif_ hr with ⟨hb15, hr⟩ | ⟨hb15, hr⟩
 refine c_true R hb15 (c_skip (q_next (c_seq (c_block (c_seq ?_)))))
 obtain ⟨hg16, hr⟩ := gd hr
 obtain ⟨hg19, hr⟩ := gd hr
 refine c_some 0 sees_rd (show 0 < a1.length by have := hg16; omega) (fun g17 o18 ha => ?_)
 subst ha
 refine c_some 1 sees_rd (show 0 < b3.length by have := hg19; omega) (fun g20 o21 ha => ?_)
 subst ha
 refine cdr 9 [] mixo (fun ht hn => (dR 0 R (vS R) (dR 1 R (vI R) (dR 2 R (vIa sl29 sz3 R R hg16) (dR 3 R (vLi 0 ag3 sees_rd R hg16) (dR 4 R (vS R) (dR 5 R (vI R) (dR 6 R (vIa sl29 sz3 R R hg19) (dR 7 R (vLi 1 ag3 sees_rd R hg19) (dR 8 R (vNe R R) (dD (q_next ?_))))))))))))
 rcases bif_ hr with ⟨hb22, hr⟩ | ⟨hb22, hr⟩
 refine c_true R hb22 (c_seq (c_region (lB R (l_nil (q_next (c_ret (q_blockr (q_ret ?_))))))))
 obtain rfl := so hr
 obtain rfl := he1 _ R
 have hr := hk1
 refine q_ret (q_blockr (q_ret ?_))
 obtain rfl := so hr
 exact qF () (fun w s => (s.e 2 []))
 refine c_false R hb22 (c_skip (q_blockn (q_next (c_region (lI R (lO (vAd R R) (lI R (l_nil ?_))))))))
 obtain rfl := so hr
 exact qA () (fun w s => s)
 refine c_false R hb15 (c_exit (q_exit ?_))
 obtain rfl := so hr
 obtain rfl := he1 _ R
 have hr := hk1
 refine q_exit (q_block ?_)
 exact q_join ((), ()) hr trivial (fun w s => s)
 rintro ⟨_, _⟩ σ1 hr
 replace hr : Zo_J1 = some r := hr
 unfold Zo_J1 at hr
 refine c_seq (c_region (lB R (l_nil (q_next (c_ret ?_)))))
 obtain rfl := so hr
 exact qF () (fun w s => (s.e 2 []))
theorem Z0g_ok  {c1 : l1Cur} {n4 : Int} {b2 : Nat} {r : Bool × l1Cur} (hr : Z0g c1 n4 = some r) :
 FnOk Try.prog 23 [(pt b2 0), (iv n4)] [rds kT5 (.slice A3 N3 D3) c1.b, bxl b2 [(.slice A3 N3 D3), (iv c1.i), (iv c1.h_)] 72] (fun (h : HH) => ((.bool r.1), [rds kT5 (.slice h.1 h.2.1 h.2.2) r.2.b, bxl b2 [(.slice h.1 h.2.1 h.2.2), (iv r.2.i), (iv r.2.h_)] 72])) := by
 unfold Z0g at hr
 refine fn_ok Try.func23 R 9 R R fun C V => ?_
 refine cM (bxl _ _ _ :: rds _ _ _ :: V) (fun w s => (s.e 2 [1, 0])) ?_
 refine cL 1 sees_rd ?_
 rintro rfl
 let W0 : List HP := RR kT5 A3 D3 c1.b :: V
 refine cN (bxl b2 [(sc A3 c1.b D3), (iv c1.i), (iv c1.h_)] 72 :: W0) ?_
 refine c_seq (c_region (lB R (l_nil (q_next (c_seq ?_)))))
 obtain ⟨r5, hx6, hr⟩ := bd hr
 refine c_region (lP R (lI R (lM (RR kT5 A3 D3 c1.b :: _ :: W0) (fun w s => (s.d 1 R)) ?_)))
 refine lC 2 cb21 R (Zb_ok hx6) R ?_
 rintro ⟨A7, N7, D7⟩
 refine lN (rds kT5 (.slice A7 N7 D7) r5.2.b :: bxl b2 [(.slice A7 N7 D7), (iv r5.2.i), (iv r5.2.h_)] 72 :: W0) ?_
 refine l_len 0 sees_rd ?_
 rintro rfl
 refine lO (vEq R R) (lB R (l_nil (q_next (c_ret ?_))))
 obtain rfl := so hr
 exact qF (A7, r5.2.b.length, D7) (fun w s => (s.e 3 [0, 1]))
theorem Z0_ok  {c1 : l1Cur} {size4 : Int} {b2 : Nat} {r : Lm × l1Cur} (hr : Z0 c1 size4 = some r) :
 FnOk Try.prog 22 [(pt b2 0), (iv size4)] [rds kT5 (.slice A3 N3 D3) c1.b, bxl b2 [(.slice A3 N3 D3), (iv c1.i), (iv c1.h_)] 72] (fun (h : HH × HH) => ((.agg [(iv r.1.Size), (.slice h.1.1 h.1.2.1 h.1.2.2)].toArray), [rds kT33 (.slice h.1.1 h.1.2.1 h.1.2.2) r.1.Rows, rds kT5 (.slice h.2.1 h.2.2.1 h.2.2.2) r.2.b, bxl b2 [(.slice h.2.1 h.2.2.1 h.2.2.2), (iv r.2.i), (iv r.2.h_)] 72])) := by
 unfold Z0 at hr
 refine fn_ok Try.func22 R 157 R R fun C V => ?_
 refine cM (bxl _ _ _ :: rds _ _ _ :: V) (fun w s => (s.e 2 [1, 0])) ?_
 refine cL 1 sees_rd ?_
 rintro rfl
 let W0 : List HP := RR kT5 A3 D3 c1.b :: V
 refine cN (bxl b2 [(sc A3 c1.b D3), (iv c1.i), (iv c1.h_)] 72 :: W0) ?_
 refine c_seq (c_region (l_alloc R R zc26 (fun b5 => (l_nil (q_next (c_seq (c_region (lI R (lO (vz (.agg [(.slice none 0 0), (.slice none 0 0)].toArray) (v_build pl33 zc33 R R)) (lM (rds kT3 (.slice none 0 0) ([] : List Int) :: rds kT3 (.slice none 0 0) ([] : List Int) :: bxl _ _ _ :: bxl _ _ _ :: W0) (fun w s => (((s.nilr kT3).nilr kT3).e 4 [1, 0, 2, 3])) ?_))))))))))
 refine l_build (K := (kT33).share) (xs := ([(⟨([] : List Int), ([] : List Int)⟩ : Row)] : List Row)) (vs := [(.agg [(.slice none 0 0), (.slice none 0 0)].toArray)]) 2 R R sl24 sz33 zc33 R R R R R R ?_ R (fun A6 D6 => ?_)
 exact fun I h s => (mS33).list [(((.slice none 0 0), (.slice none 0 0)), (⟨([] : List Int), ([] : List Int)⟩ : Row))] I h s
 refine lN (OO (kT33).share 33 A6 D6 ([(⟨([] : List Int), ([] : List Int)⟩ : Row)] : List Row) :: _ :: _ :: W0) ?_
 refine lO (vz (.agg [(iv size4), (sc A6 ([(⟨([] : List Int), ([] : List Int)⟩ : Row)] : List Row) D6)].toArray) (v_build pl26 zc26 R R)) (l_alloc R R zc26 (fun b7 => (l_stores 0 R R sz26 R R R R R R (lN (bxl b7 [(iv size4), (sc A6 ([(⟨([] : List Int), ([] : List Int)⟩ : Row)] : List Row) D6)] 26 :: _ :: _ :: _ :: W0) ?_))))
 refine l_nil (q_next (c_seq (c_cut (A := ((List Int) × Int × Int × (List Row)) × (HH × HH)) (fun a => Z0_J1 size4 a.1.1 a.1.2.1 a.1.2.2.1 a.1.2.2.2 = some r) (fun a => [(0, (pt b2 0)), (1, (iv size4)), (4, (pt b5 0)), (5, (pt b7 0))]) (fun a => bxl b2 [(.slice a.2.1.1 a.2.1.2.1 a.2.1.2.2), (iv a.1.2.1), (iv a.1.2.2.1)] 72 :: rds kT5 (.slice a.2.1.1 a.2.1.2.1 a.2.1.2.2) a.1.1 :: bxl b5 [(iv 0), (.slice none 0 0)] 26 :: ow (kT33).share 33 (.slice none 0 0) ([] : List Row) :: bxl b7 [(iv size4), (.slice a.2.2.1 a.2.2.2.1 a.2.2.2.2)] 26 :: ow (kT33).share 33 (.slice a.2.2.1 a.2.2.2.1 a.2.2.2.2) a.1.2.2.2 :: W0) ?_ ?_)))
 refine c_seq ?_
 obtain ⟨r8, hx9, hr⟩ := bd hr
 refine c_region (lP R (lM (RR kT5 A3 D3 c1.b :: bxl _ _ _ :: bxl _ _ _ :: ow _ _ _ _ :: bxl _ _ _ :: W0) (fun w s => ((s.d 4 R).e 5 [0, 4, 1, 2, 3])) ?_))
 refine lC 2 cb21 R (Zb_ok hx9) R ?_
 rintro ⟨A10, N10, D10⟩
 refine lN (rds kT5 (.slice A10 N10 D10) r8.2.b :: bxl b2 [(.slice A10 N10 D10), (iv r8.2.i), (iv r8.2.h_)] 72 :: _ :: _ :: _ :: W0) ?_
 refine l_len 0 sees_rd ?_
 rintro rfl
 refine lI R (l_nil (q_next (c_block (cM (ow (kT33).share 33 (.slice none 0 0) ([] : List Row) :: _ :: bxl b2 [(sc A10 r8.2.b D10), (iv r8.2.i), (iv r8.2.h_)] 72 :: _ :: _ :: _ :: W0) (fun w s => s.nilo (kT33).share 33) ?_))))
 obtain ⟨e1, hl1, hk1⟩ := bd hr
 refine c_loop (A := HH × HH) hl1 (fun s a => [(0, (pt b2 0)), (1, (iv size4)), (4, (pt b5 0)), (5, (pt b7 0)), (6, (iv s.2.2.2.2))]) (fun s a => bxl b2 [(.slice a.1.1 a.1.2.1 a.1.2.2), (iv s.2.1), (iv s.2.2.1)] 72 :: rds kT5 (.slice a.1.1 a.1.2.1 a.1.2.2) s.1 :: bxl b5 [(iv 0), (.slice none 0 0)] 26 :: ow (kT33).share 33 (.slice none 0 0) ([] : List Row) :: bxl b7 [(iv size4), (.slice a.2.1 a.2.2.1 a.2.2.2)] 26 :: ow (kT33).share 33 (.slice a.2.1 a.2.2.1 a.2.2.2) s.2.2.2.1 :: W0) ((A10, r8.2.b.length, D10), (A6, ([(⟨([] : List Int), ([] : List Int)⟩ : Row)] : List Row).length, D6)) (aS R) (fun w s => (s.e 6 [2, 1, 5, 0, 3, 4])) ?_
 rintro ⟨c22, c24, c25, m26, n28⟩ ⟨⟨A23, N23, D23⟩, ⟨A27, N27, D27⟩⟩ σ1 out1 hr he1
 replace hr : Z0_L1 size4 c22 c24 c25 m26 n28 = some out1 := hr
 unfold Z0_L1 at hr
 refine c_len 1 sees_rd (fun (hn : N23 = c22.length) => ?_)
 subst hn
 refine c_len 5 sees_sh (fun (hn : N27 = m26.length) => ?_)
 subst hn
 refine c_seq (c_seq (c_region (lI R (lO (vGt R R) (l_nil (q_next ?_))))))
 rcases bif_ hr with ⟨hb29, hr⟩ | ⟨hb29, hr⟩
 refine c_true R hb29 (c_skip (q_next (c_seq (c_block ?_))))
 obtain ⟨r30, hx31, hr⟩ := bd hr
 obtain ⟨r33, hx34, hr⟩ := bd hr
 obtain ⟨hg38, hr⟩ := gd hr
 refine cdr 10 [0] mixo (fun ht hn => (dR 0 R (vFa 1 fo26_1 R) (hS := (sL [0])) (dR 1 R (vLd 3 ag24 R R R) (hS := (sL [0])) (dR 2 R (vP R) (hS := (sL [0])) (dR 3 R (vI R) (hS := (sL [0])) (dR 4 R (vP R) (hS := (sL [0])) (d1 5 R (lM (RR kT5 A23 D23 c22 :: bxl b2 [(sc A23 c22 D23), (iv c24), (iv c25)] 72 :: RR kT5 A23 D23 c22 :: _ :: _ :: bxl b7 [(iv size4), (sc A27 m26 D27)] 26 :: OO (kT33).share 33 A27 D27 m26 :: W0) (fun w s => (s.d 1 R)) ?_))))))))
 refine lC 2 cb21 R (Zb_ok hx31) R ?_
 rintro ⟨A32, N32, D32⟩
 refine lN (rds kT5 (.slice A32 N32 D32) r30.2.b :: bxl b2 [(.slice A32 N32 D32), (iv r30.2.i), (iv r30.2.h_)] 72 :: _ :: _ :: _ :: _ :: _ :: W0) ?_
 refine l_len 0 sees_rd ?_
 rintro rfl
 refine l_nil (q_draw (sL [1, 0]) (dR 6 R (vAd R R) (hS := (sL [1, 0])) (d1 7 R (lM (rds _ _ _ :: bxl b2 [(sc A32 r30.2.b D32), (iv r30.2.i), (iv r30.2.h_)] 72 :: rds _ _ _ :: rds _ _ _ :: bxl _ _ _ :: ow _ _ _ _ :: bxl _ _ _ :: ow _ _ _ _ :: W0) (fun w s => ((s.d 0 R).e 8 [0, 2, 1, 3, 4, 5, 6, 7])) ?_))))
 refine lC 2 cb25 R (Z09_ok hx34) R ?_
 rintro ⟨⟨A35, N35, D35⟩, ⟨A36, N36, D36⟩⟩
 refine lN (ow kT3 3 (.slice A35 N35 D35) r33.1 :: rds kT5 (.slice A36 N36 D36) r33.2.b :: bxl b2 [(.slice A36 N36 D36), (iv r33.2.i), (iv r33.2.h_)] 72 :: _ :: _ :: _ :: _ :: _ :: _ :: W0) ?_
 refine l_len 0 sees_ow ?_
 rintro rfl
 refine l_len 1 sees_rd ?_
 rintro rfl
 refine l_nil (q_draw (sL [3, 2, 1, 0]) (dR 8 R (vz (.agg [(sc A35 r33.1 D35), (.slice none 0 0)].toArray) (v_build pl33 zc33 R R)) (hS := (sL [3, 2, 1, 0])) (d1 9 R (lM (ow _ _ _ _ :: ow kT3 3 (.slice none 0 0) ([] : List Int) :: rds _ _ _ :: bxl b2 [(sc A36 r33.2.b D36), (iv r33.2.i), (iv r33.2.h_)] 72 :: rds _ _ _ :: rds _ _ _ :: bxl _ _ _ :: ow _ _ _ _ :: bxl _ _ _ :: ow _ _ _ _ :: W0) (fun w s => ((s.nilo kT3 3).f 10 [1, 1, 0, 1, 2, 8])) ?_))))
 refine l_build (K := kT33) (xs := ([(⟨r33.1, ([] : List Int)⟩ : Row)] : List Row)) (vs := [(.agg [(sc A35 r33.1 D35), (.slice none 0 0)].toArray)]) 2 R R sl24 sz33 zc33 R R R R R R ?_ R (fun A37 D37 => ?_)
 exact fun I h s => (mO33).list [(((sc A35 r33.1 D35), (.slice none 0 0)), (⟨r33.1, ([] : List Int)⟩ : Row))] I h s
 refine lN (OO kT33 33 A37 D37 ([(⟨r33.1, ([] : List Int)⟩ : Row)] : List Row) :: _ :: _ :: _ :: _ :: _ :: _ :: _ :: _ :: W0) ?_
 refine l_nil (q_draw (sL [3, 2, 1, 0]) (d1 10 R (lM (ow _ _ _ _ :: OO (kT33).share 33 A37 D37 ([(⟨r33.1, ([] : List Int)⟩ : Row)] : List Row) :: rds _ _ _ :: bxl _ _ _ :: rds _ _ _ :: rds _ _ _ :: bxl _ _ _ :: ow _ _ _ _ :: bxl _ _ _ :: W0) (fun w s => ((s.wk 0 R).f 9 [8, 1, 0, 8])) ?_)))
 refine l_app (K := (kT33).share) 2932031007402 R R sl24 sz33 by33 (Zr.zk (Zr.share zT33) zc33) R R R R R R src_ow hg38 (fun A39 D39 => (lN (OO (kT33).share 33 A39 D39 (m26 ++ ([(⟨r33.1, ([] : List Int)⟩ : Row)] : List Row)) :: _ :: _ :: _ :: _ :: _ :: _ :: _ :: W0) ?_))
 refine l_nil (qE (d1 11 R (lO (vFa 1 fo26_1 R) (l_nil (qE (d1 12 R (l_store 7 R R sz24 R R R R R (lN (_ :: _ :: _ :: _ :: _ :: _ :: _ :: bxl b7 [(iv size4), (sc A39 (m26 ++ ([(⟨r33.1, ([] : List Int)⟩ : Row)] : List Row)) D39)] 26 :: W0) ?_))))))))
 refine l_nil (qE (dD (q_blockn (q_next (c_region (lI R (lO (vSb R R) (lI R (l_nil ?_)))))))))
 obtain rfl := so hr
 exact qA ((A36, r33.2.b.length, D36), (A39, (m26 ++ ([(⟨r33.1, ([] : List Int)⟩ : Row)] : List Row)).length, D39)) (fun w s => (s.e 8 [2, 1, 5, 6, 7, 0]))
 refine c_false R hb29 (c_exit (q_exit ?_))
 obtain rfl := so hr
 obtain rfl := he1 _ R
 have hr := hk1
 refine q_exit (q_block ?_)
 exact qI ((c22, c24, c25, m26), ((A23, c22.length, D23), (A27, m26.length, D27))) hr (fun w s => s)
 rintro ⟨⟨c47, c49, c50, m51⟩, ⟨⟨A48, N48, D48⟩, ⟨A52, N52, D52⟩⟩⟩ σ1 hr
 replace hr : Z0_J1 size4 c47 c49 c50 m51 = some r := hr
 unfold Z0_J1 at hr
 refine c_len 1 sees_rd (fun (hn : N48 = c47.length) => ?_)
 subst hn
 refine c_len 5 sees_sh (fun (hn : N52 = m51.length) => ?_)
 subst hn
 refine c_seq (c_cut (A := ((List Int) × Int × Int × (List Row) × (List Int)) × (HH × HH)) (fun a => Z0_J4 size4 m51 a.1.1 a.1.2.1 a.1.2.2.1 a.1.2.2.2.1 a.1.2.2.2.2 = some r) (fun a => [(0, (pt b2 0)), (1, (iv size4)), (4, (pt b5 0)), (5, (pt b7 0))]) (fun a => bxl b2 [(.slice a.2.1.1 a.2.1.2.1 a.2.1.2.2), (iv a.1.2.1), (iv a.1.2.2.1)] 72 :: rds kT5 (.slice a.2.1.1 a.2.1.2.1 a.2.1.2.2) a.1.1 :: bxl b5 [(iv 0), (.slice none 0 0)] 26 :: ow (kT33).share 33 (.slice none 0 0) ([] : List Row) :: bxl b7 [(iv size4), (sc A52 m51 D52)] 26 :: ow (kV a.2.2.1 a.2.2.2.1 a.2.2.2.2).share 33 (.slice A52 m51.length D52) a.1.2.2.2.1 :: ow kT3 3 (.slice a.2.2.1 a.2.2.2.1 a.2.2.2.2) a.1.2.2.2.2 :: W0) ?_ ?_)
 refine c_seq (c_region (lI R (l_nil (q_next (c_block ?_)))))
 obtain ⟨e2, hl2, hk2⟩ := bd hr
 refine c_loop (A := HH × HH) hl2 (fun s a => [(0, (pt b2 0)), (1, (iv size4)), (4, (pt b5 0)), (5, (pt b7 0)), (7, (iv s.2.2.2.2.2))]) (fun s a => bxl b2 [(.slice a.1.1 a.1.2.1 a.1.2.2), (iv s.2.1), (iv s.2.2.1)] 72 :: rds kT5 (.slice a.1.1 a.1.2.1 a.1.2.2) s.1 :: bxl b5 [(iv 0), (.slice none 0 0)] 26 :: ow (kT33).share 33 (.slice none 0 0) ([] : List Row) :: bxl b7 [(iv size4), (sc A52 m51 D52)] 26 :: iz s.2.2.2.2.2 (ow (kT33).share 33 (.slice A52 m51.length D52) s.2.2.2.1) (ow (kV a.2.1 a.2.2.1 a.2.2.2).share 33 (.slice A52 m51.length D52) s.2.2.2.1) :: iz s.2.2.2.2.2 emp (ow kT3 3 (.slice a.2.1 a.2.2.1 a.2.2.2) s.2.2.2.2.1) :: W0) ((A48, c47.length, D48), (none, 0, 0)) (aS R) (fun w s => (s.em.e 7 [1, 2, 3, 4, 5, 6, 0])) ?_
 rintro ⟨c114, c116, c117, m118, w0, i119⟩ ⟨⟨A115, N115, D115⟩, ⟨A0, N0, D0⟩⟩ σ1 out2 hr he2
 let W2 : List HP := iz i119 emp (ow kT3 3 (.slice A0 N0 D0) w0) :: W0
 replace hr : Z0_L2 size4 m51 c114 c116 c117 m118 w0 i119 = some out2 := hr
 unfold Z0_L2 at hr
 refine c_len 1 sees_rd (fun (hn : N115 = c114.length) => ?_)
 subst hn
 refine c_seq (c_seq (c_region (lI R (lO (vFa 1 fo26_1 R) (lO (vLd 4 ag24 R R R) (lO (v_len sl24 R) (lO (vLt R R) (l_nil (q_next ?_)))))))))
 rcases bif_ hr with ⟨hb120, hr⟩ | ⟨hb120, hr⟩
 refine c_true R hb120 (c_skip (q_next (c_seq (c_block (c_seq (c_region (l_build (K := kT3) (xs := ([] : List Int)) (vs := []) 0 R R sl29 sz3 zc3 R R R R R R ?_ R (fun A121 D121 => ?_))))))))
 exact fun I h s => (mO3).list [] I h s
 refine lN (OO kT3 3 A121 D121 ([] : List Int) :: bxl b2 [(sc A115 c114 D115), (iv c116), (iv c117)] 72 :: RR kT5 A115 D115 c114 :: _ :: _ :: bxl b7 [(iv size4), (sc A52 m51 D52)] 26 :: iz i119 (ow (kT33).share 33 (.slice A52 m51.length D52) m118) (ow (kV A0 N0 D0).share 33 (.slice A52 m51.length D52) m118) :: W2) ?_
 refine lS R (l_nil (q_next (c_seq (c_cut (A := ((List Int) × Int × Int × (List Int)) × (HH × HH)) (fun a => Z0_J3 size4 m51 m118 w0 i119 a.1.1 a.1.2.1 a.1.2.2.1 a.1.2.2.2 = some out2) (fun a => [(0, (pt b2 0)), (1, (iv size4)), (4, (pt b5 0)), (5, (pt b7 0)), (7, (iv i119)), (8, (.slice a.2.2.1 a.2.2.2.1 a.2.2.2.2))]) (fun a => bxl b2 [(.slice a.2.1.1 a.2.1.2.1 a.2.1.2.2), (iv a.1.2.1), (iv a.1.2.2.1)] 72 :: rds kT5 (.slice a.2.1.1 a.2.1.2.1 a.2.1.2.2) a.1.1 :: bxl b5 [(iv 0), (.slice none 0 0)] 26 :: ow (kT33).share 33 (.slice none 0 0) ([] : List Row) :: bxl b7 [(iv size4), (sc A52 m51 D52)] 26 :: iz i119 (ow (kT33).share 33 (.slice A52 m51.length D52) m118) (ow (kV A0 N0 D0).share 33 (.slice A52 m51.length D52) m118) :: ow kT3 3 (.slice a.2.2.1 a.2.2.2.1 a.2.2.2.2) a.1.2.2.2 :: W2) ?_ ?_))))
 refine c_seq (c_region (lI R (l_nil (q_next (c_block ?_)))))
 obtain ⟨e3, hl3, hk3⟩ := bd hr
 refine c_loop (A := HH × HH) hl3 (fun s a => [(0, (pt b2 0)), (1, (iv size4)), (4, (pt b5 0)), (5, (pt b7 0)), (7, (iv i119)), (8, (.slice a.2.1 a.2.2.1 a.2.2.2)), (9, (iv s.2.2.2.2))]) (fun s a => bxl b2 [(.slice a.1.1 a.1.2.1 a.1.2.2), (iv s.2.1), (iv s.2.2.1)] 72 :: rds kT5 (.slice a.1.1 a.1.2.1 a.1.2.2) s.1 :: bxl b5 [(iv 0), (.slice none 0 0)] 26 :: ow (kT33).share 33 (.slice none 0 0) ([] : List Row) :: bxl b7 [(iv size4), (sc A52 m51 D52)] 26 :: iz i119 (ow (kT33).share 33 (.slice A52 m51.length D52) m118) (ow (kV A0 N0 D0).share 33 (.slice A52 m51.length D52) m118) :: ow kT3 3 (.slice a.2.1 a.2.2.1 a.2.2.2) s.2.2.2.1 :: W2) ((A115, c114.length, D115), (A121, ([] : List Int).length, D121)) (aS R) (fun w s => (s.f 7 [1, 6, 0, 1])) ?_
 rintro ⟨c136, c138, c139, x140, t142⟩ ⟨⟨A137, N137, D137⟩, ⟨A141, N141, D141⟩⟩ σ1 out3 hr he3
 replace hr : Z0_L3 size4 c136 c138 c139 x140 t142 = some out3 := hr
 unfold Z0_L3 at hr
 refine c_len 1 sees_rd (fun (hn : N137 = c136.length) => ?_)
 subst hn
 refine c_len 6 sees_ow (fun (hn : N141 = x140.length) => ?_)
 subst hn
 refine c_seq (c_seq (c_region (lI R (lI R (lO (vLt R R) (l_nil (q_next ?_)))))))
 rcases bif_ hr with ⟨hb143, hr⟩ | ⟨hb143, hr⟩
 refine c_true R hb143 (c_skip (q_next (c_seq (c_block ?_))))
 obtain ⟨r144, hx145, hr⟩ := bd hr
 obtain ⟨r147, hx148, hr⟩ := bd hr
 obtain ⟨r151, hx152, hr⟩ := bd hr
 obtain ⟨hg155, hr⟩ := gd hr
 refine c_region (lS R (lP R (lP R (lM (RR kT5 A137 D137 c136 :: bxl b2 [(sc A137 c136 D137), (iv c138), (iv c139)] 72 :: RR kT5 A137 D137 c136 :: _ :: _ :: _ :: _ :: OO kT3 3 A141 D141 x140 :: W2) (fun w s => (s.d 1 R)) ?_))))
 refine lC 2 cb21 R (Zb_ok hx145) R ?_
 rintro ⟨A146, N146, D146⟩
 refine lN (rds kT5 (.slice A146 N146 D146) r144.2.b :: bxl b2 [(.slice A146 N146 D146), (iv r144.2.i), (iv r144.2.h_)] 72 :: _ :: _ :: _ :: _ :: _ :: _ :: W2) ?_
 refine l_len 0 sees_rd ?_
 rintro rfl
 refine lP R (lM (rds _ _ _ :: bxl b2 [(sc A146 r144.2.b D146), (iv r144.2.i), (iv r144.2.h_)] 72 :: rds _ _ _ :: rds _ _ _ :: bxl _ _ _ :: ow _ _ _ _ :: bxl _ _ _ :: iz _ _ _ :: ow _ _ _ _ :: W2) (fun w s => ((s.d 0 R).f 9 [0, 1, 2, 1, 1, 1, 3, 6])) ?_)
 refine lC 2 cb21 R (Zb_ok hx148) R ?_
 rintro ⟨A149, N149, D149⟩
 refine lN (rds kT5 (.slice A149 N149 D149) r147.2.b :: bxl b2 [(.slice A149 N149 D149), (iv r147.2.i), (iv r147.2.h_)] 72 :: _ :: _ :: _ :: _ :: _ :: _ :: _ :: W2) ?_
 refine l_len 0 sees_rd ?_
 rintro rfl
 refine l_build (K := kT3) (xs := ([(0 : Int), (1 : Int), (2 : Int), (5 : Int), r144.1, r147.1] : List Int)) (vs := [(iv 0), (iv 1), (iv 2), (iv 5), (iv r144.1), (iv r147.1)]) 0 R R sl29 sz3 zc3 R R R R R R ?_ R (fun A150 D150 => ?_)
 exact fun I h s => (mO3).list [((), (0 : Int)), ((), (1 : Int)), ((), (2 : Int)), ((), (5 : Int)), ((), r144.1), ((), r147.1)] I h s
 refine lN (OO kT3 3 A150 D150 ([(0 : Int), (1 : Int), (2 : Int), (5 : Int), r144.1, r147.1] : List Int) :: _ :: bxl b2 [(sc A149 r147.2.b D149), (iv r147.2.i), (iv r147.2.h_)] 72 :: _ :: _ :: _ :: _ :: _ :: _ :: _ :: W2) ?_
 refine l_st (fun w s => s.shr 0 R) (lM (rds _ _ _ :: bxl _ _ _ :: RR kT3 A150 D150 ([(0 : Int), (1 : Int), (2 : Int), (5 : Int), r144.1, r147.1] : List Int) :: RR kT3 A150 D150 ([(0 : Int), (1 : Int), (2 : Int), (5 : Int), r144.1, r147.1] : List Int) :: rds _ _ _ :: rds _ _ _ :: rds _ _ _ :: bxl _ _ _ :: ow _ _ _ _ :: bxl _ _ _ :: iz _ _ _ :: ow _ _ _ _ :: W2) (fun w s => (((s.d 1 R).d 1 R).f 12 [1, 1, 4, 1, 0, 1, 2, 2, 5, 7])) ?_)
 refine lC 3 cb49 R (Z0l_ok hx152) R ?_
 rintro ⟨A153, N153, D153⟩
 refine lN (rds kT5 (.slice A153 N153 D153) r151.2.b :: bxl b2 [(.slice A153 N153 D153), (iv r151.2.i), (iv r151.2.h_)] 72 :: _ :: _ :: _ :: _ :: _ :: _ :: _ :: _ :: _ :: W2) ?_
 refine l_len 0 sees_rd ?_
 rintro rfl
 refine l_build (K := kT3) (xs := ([r151.1] : List Int)) (vs := [(iv r151.1)]) 0 R R sl29 sz3 zc3 R R R R R R ?_ R (fun A154 D154 => ?_)
 exact fun I h s => (mO3).list [((), r151.1)] I h s
 refine lN (OO kT3 3 A154 D154 ([r151.1] : List Int) :: _ :: bxl b2 [(sc A153 r151.2.b D153), (iv r151.2.i), (iv r151.2.h_)] 72 :: _ :: _ :: _ :: _ :: _ :: _ :: _ :: _ :: _ :: W2) ?_
 refine lM (ow _ _ _ _ :: ow _ _ _ _ :: rds _ _ _ :: bxl _ _ _ :: rds _ _ _ :: rds _ _ _ :: rds _ _ _ :: rds _ _ _ :: bxl _ _ _ :: ow _ _ _ _ :: bxl _ _ _ :: iz _ _ _ :: W2) (fun w s => (s.f 12 [11, 1, 0, 11])) ?_
 refine l_app (K := kT3) 17592186044416 R R sl29 sz3 by3 (Zr.zk zT3 zc3) R R R R R R src_ow hg155 (fun A156 D156 => (lN (OO kT3 3 A156 D156 (x140 ++ ([r151.1] : List Int)) :: _ :: _ :: _ :: _ :: _ :: _ :: _ :: _ :: _ :: _ :: W2) ?_))
 refine lS R (l_nil (q_blockn (q_next (c_region (lI R (lO (vAd R R) (lI R (l_nil ?_))))))))
 obtain rfl := so hr
 exact qA ((A153, r151.2.b.length, D153), (A156, (x140 ++ ([r151.1] : List Int)).length, D156)) (fun w s => (s.e 11 [2, 1, 7, 8, 9, 10, 0]))
 refine c_false R hb143 (c_exit (q_exit ?_))
 obtain rfl := so hr
 obtain rfl := he3 _ R
 have hr := hk3
 refine q_exit (q_block ?_)
 exact qI ((c136, c138, c139, x140), ((A137, c136.length, D137), (A141, x140.length, D141))) hr (fun w s => s)
 rintro ⟨⟨c164, c166, c167, x168⟩, ⟨⟨A165, N165, D165⟩, ⟨A169, N169, D169⟩⟩⟩ σ1 hr
 replace hr : Z0_J3 size4 m51 m118 w0 i119 c164 c166 c167 x168 = some out2 := hr
 unfold Z0_J3 at hr
 refine c_len 1 sees_rd (fun (hn : N165 = c164.length) => ?_)
 subst hn
 refine c_len 6 sees_ow (fun (hn : N169 = x168.length) => ?_)
 subst hn
 refine c_seq ?_
 obtain ⟨r170, hx171, hr⟩ := bd hr
 obtain ⟨hg173, hr⟩ := gd hr
 refine c_region (lS R (lP R (lI R (lM (RR kT5 A165 D165 c164 :: bxl b2 [(sc A165 c164 D165), (iv c166), (iv c167)] 72 :: RR kT5 A165 D165 c164 :: _ :: _ :: _ :: _ :: OO kT3 3 A169 D169 x168 :: W2) (fun w s => (s.d 1 R)) ?_))))
 refine lC 2 cb21 R (Zb_ok hx171) R ?_
 rintro ⟨A172, N172, D172⟩
 refine lN (rds kT5 (.slice A172 N172 D172) r170.2.b :: bxl b2 [(.slice A172 N172 D172), (iv r170.2.i), (iv r170.2.h_)] 72 :: _ :: _ :: _ :: _ :: _ :: _ :: W2) ?_
 refine l_len 0 sees_rd ?_
 rintro rfl
 refine t_some 7 sees_ow (show 0 < x168.length by have := hg173; omega) (fun g174 o175 ha => ?_)
 subst ha
 refine lO (vIa sl29 sz3 R R hg173) (lM (OO kT3 3 (ad g174 o175) D169 x168 :: rds _ _ _ :: bxl b2 [(sc A172 r170.2.b D172), (iv r170.2.i), (iv r170.2.h_)] 72 :: rds _ _ _ :: bxl _ _ _ :: ow _ _ _ _ :: bxl _ _ _ :: iz _ _ _ :: W2) (fun w s => (s.f 8 [7, 1, 0, 7])) ?_)
 refine l_stx (K := kT3) (x' := (3 : Int)) 0 r170.1 R R sz3 R R hg173.1 hg173.2 ?_ ?_
 exact fun I h s => (mO3).put I h () (3 : Int) s
 refine lN (ow kT3 3 (.slice (ad g174 o175) x168.length D169) (x168.set r170.1.toNat (3 : Int)) :: _ :: _ :: _ :: _ :: _ :: _ :: _ :: W2) ?_
 refine l_nil (q_next ?_)
 obtain ⟨hg176, hr⟩ := gd hr
 obtain ⟨hi1, hr⟩ := gd hr
 by_cases hi : i119 = 0
 rw [if_pos hi] at hr
 obtain ⟨hm, hr⟩ := gd hr
 refine cM (ow (kV (ad g174 o175) x168.length D169).share 33 (.slice A52 m51.length D52) m118 :: ow kT3 3 (.slice (ad g174 o175) x168.length D169) (x168.set r170.1.toNat (3 : Int)) :: rds _ _ _ :: bxl _ _ _ :: rds _ _ _ :: bxl _ _ _ :: ow _ _ _ _ :: bxl _ _ _ :: W0) (fun w s => St.toLz (g := fun x : Row => (x.Key, x.Weights)) hm ((s.iz0 hi 7 R).iz0 hi 8 R).uem 0 R) ?_
 refine c_region (lO (vFa 1 fo26_1 R) (lO (vLd 7 ag24 R R R) (lI R (lS R (t_some 0 sees_sh (show 0 < m51.length by have := hg176; omega) (fun g177 o178 ha => ?_))))))
 subst ha
 refine lO (vIa sl24 sz33 R R hg176) (lO (vz (.pointer (some ⟨g177, o178 + i119.toNat * 2 + 1, none⟩)) (v_fa fo33_1 R R)) ?_)
 refine l_ste (K := (kV (ad g174 o175) x168.length D169).share) (fo := 1) (v := (.slice (ad g174 o175) x168.length D169)) (f := (fun x : Row => (⟨x.Key, [-1]⟩ : Row))) 0 i119 R R sz29 (setL_lz R (fun _ => R)) R R R R hg176.1 hg176.2 ?_
 refine l_nil (q_blockn (q_next (c_region (lI R (lO (vAd R R) (lI R (l_nil ?_)))))))
 obtain rfl := so hr
 exact qA ((A172, r170.2.b.length, D172), ((ad g174 o175), x168.length, D169)) (fun w s => by simp only [iz_n hi1]; exact s.e 8 [3, 2, 5, 6, 7, 0, 1])
 rw [if_neg hi] at hr
 obtain ⟨hw, hr⟩ := gd hr
 refine cM (rds kT3 (.slice (ad g174 o175) x168.length D169) (x168.set r170.1.toNat (3 : Int)) :: ow kT3 3 (.slice A0 N0 D0) w0 :: ow (kV A0 N0 D0).share 33 (.slice A52 m51.length D52) m118 :: rds _ _ _ :: bxl _ _ _ :: rds _ _ _ :: bxl _ _ _ :: ow _ _ _ _ :: bxl _ _ _ :: W0) (fun w s => (((s.izn hi 7 R).izn hi 8 R).shr 2 R)) ?_
 refine c_region (lO (vFa 1 fo26_1 R) (lO (vLd 8 ag24 R R R) (lI R (lS R (t_some 2 sees_sh (show 0 < m51.length by have := hg176; omega) (fun g177 o178 ha => ?_))))))
 subst ha
 refine lO (vIa sl24 sz33 R R hg176) (lO (vz (.pointer (some ⟨g177, o178 + i119.toNat * 2 + 1, none⟩)) (v_fa fo33_1 R R)) ?_)
 refine l_steR (K := (kV A0 N0 D0).share) (L := kT3) (fo := 1) (v := (.slice (ad g174 o175) x168.length D169)) (f := (fun x : Row => (⟨x.Key, (x168.set r170.1.toNat (3 : Int))⟩ : Row))) 2 0 i119 R R sz29 R (setR_lz R hw (fun _ => R)) R R R R hg176.1 hg176.2 ?_
 refine l_nil (q_blockn (q_next (c_region (lI R (lO (vAd R R) (lI R (l_nil ?_)))))))
 obtain rfl := so hr
 exact qA ((A172, r170.2.b.length, D172), (A0, N0, D0)) (fun w s => by simp only [iz_n hi1]; exact s.e 9 [4, 3, 6, 7, 8, 2, 1])
 refine c_false R hb120 (c_exit (q_exit ?_))
 obtain ⟨hi, hr⟩ := gd hr
 obtain rfl := so hr
 obtain rfl := he2 _ R
 have hr := hk2
 refine q_exit (q_block ?_)
 exact qI ((c114, c116, c117, m118, w0), ((A115, c114.length, D115), (A0, N0, D0))) hr (fun w s => by rw [iz_n hi] at s; have s : St _ _ (_ :: _ :: _ :: _ :: _ :: _ :: iz i119 emp (ow kT3 3 (.slice A0 N0 D0) w0) :: W0) := s; rw [iz_n hi] at s; exact s)
 rintro ⟨⟨c187, c189, c190, m191, w0⟩, ⟨⟨A188, N188, D188⟩, ⟨A0, N0, D0⟩⟩⟩ σ1 hr
 let W1 : List HP := ow kT3 3 (.slice A0 N0 D0) w0 :: W0
 replace hr : Z0_J4 size4 m51 c187 c189 c190 m191 w0 = some r := hr
 unfold Z0_J4 at hr
 refine c_len 1 sees_rd (fun (hn : N188 = c187.length) => ?_)
 subst hn
 refine c_seq (c_region (lI R (lO (vz (.agg [(iv size4), (.slice none 0 0)].toArray) (v_build pl26 zc26 R R)) (l_alloc R R zc26 (fun b192 => (l_stores 0 R R sz26 R R R R R R (lN (bxl b192 [(iv size4), (.slice none 0 0)] 26 :: bxl b2 [(sc A188 c187 D188), (iv c189), (iv c190)] 72 :: RR kT5 A188 D188 c187 :: _ :: _ :: bxl b7 [(iv size4), (sc A52 m51 D52)] 26 :: ow (kV A0 N0 D0).share 33 (.slice A52 m51.length D52) m191 :: W1) ?_)))))))
 refine l_nil (q_next (c_seq (c_cut (A := ((List Int) × Int × Int × (List Row)) × (HH × HH)) (fun a => Z0_J9 size4 a.1.1 a.1.2.1 a.1.2.2.1 a.1.2.2.2 w0 = some r) (fun a => [(0, (pt b2 0)), (1, (iv size4)), (4, (pt b5 0)), (10, (pt b192 0))]) (fun a => bxl b2 [(.slice a.2.1.1 a.2.1.2.1 a.2.1.2.2), (iv a.1.2.1), (iv a.1.2.2.1)] 72 :: rds kT5 (.slice a.2.1.1 a.2.1.2.1 a.2.1.2.2) a.1.1 :: bxl b5 [(iv 0), (.slice none 0 0)] 26 :: ow (kT33).share 33 (.slice none 0 0) ([] : List Row) :: bxl b192 [(iv size4), (.slice a.2.2.1 a.2.2.2.1 a.2.2.2.2)] 26 :: ow (kV A0 N0 D0).share 33 (.slice a.2.2.1 a.2.2.2.1 a.2.2.2.2) a.1.2.2.2 :: W1) ?_ ?_)))
 refine c_seq (c_region (lI R (l_nil (q_next (c_block (cM (_ :: _ :: _ :: _ :: _ :: _ :: _ :: _ :: W1) (fun w s => s.nilo (kV A0 N0 D0).share 33) ?_))))))
 obtain ⟨e4, hl4, hk4⟩ := bd hr
 refine c_loop (A := HH × HH) hl4 (fun s a => [(0, (pt b2 0)), (1, (iv size4)), (4, (pt b5 0)), (5, (pt b7 0)), (10, (pt b192 0)), (11, (iv s.2.2.2.2))]) (fun s a => bxl b2 [(.slice a.1.1 a.1.2.1 a.1.2.2), (iv s.2.1), (iv s.2.2.1)] 72 :: rds kT5 (.slice a.1.1 a.1.2.1 a.1.2.2) s.1 :: bxl b5 [(iv 0), (.slice none 0 0)] 26 :: ow (kT33).share 33 (.slice none 0 0) ([] : List Row) :: bxl b7 [(iv size4), (sc A52 m51 D52)] 26 :: ow (kV A0 N0 D0).share 33 (.slice A52 m51.length D52) m191 :: bxl b192 [(iv size4), (.slice a.2.1 a.2.2.1 a.2.2.2)] 26 :: ow (kV A0 N0 D0).share 33 (.slice a.2.1 a.2.2.1 a.2.2.2) s.2.2.2.1 :: W1) ((A188, c187.length, D188), (none, 0, 0)) (aS R) (fun w s => (s.f 8 [2, 6, 1, 1, 0, 1])) ?_
 rintro ⟨c249, c251, c252, x253, i255⟩ ⟨⟨A250, N250, D250⟩, ⟨A254, N254, D254⟩⟩ σ1 out4 hr he4
 replace hr : Z0_L4 m51 m191 c249 c251 c252 x253 i255 = some out4 := hr
 unfold Z0_L4 at hr
 refine c_len 1 sees_rd (fun (hn : N250 = c249.length) => ?_)
 subst hn
 refine c_len 7 sees_sh (fun (hn : N254 = x253.length) => ?_)
 subst hn
 refine c_seq (c_seq (c_region (lI R (lO (vFa 1 fo26_1 R) (lO (vLd 4 ag24 R R R) (lO (v_len sl24 R) (lO (vLt R R) (l_nil (q_next ?_)))))))))
 rcases bif_ hr with ⟨hb256, hr⟩ | ⟨hb256, hr⟩
 refine c_true R hb256 (c_skip (q_next (c_seq (c_cut (A := ((List Int) × Int × Int × (List Row)) × (HH × HH)) (fun a => Z0_J8 i255 a.1.1 a.1.2.1 a.1.2.2.1 a.1.2.2.2 = some out4) (fun a => [(0, (pt b2 0)), (1, (iv size4)), (4, (pt b5 0)), (5, (pt b7 0)), (10, (pt b192 0)), (11, (iv i255))]) (fun a => bxl b2 [(.slice a.2.1.1 a.2.1.2.1 a.2.1.2.2), (iv a.1.2.1), (iv a.1.2.2.1)] 72 :: rds kT5 (.slice a.2.1.1 a.2.1.2.1 a.2.1.2.2) a.1.1 :: bxl b5 [(iv 0), (.slice none 0 0)] 26 :: ow (kT33).share 33 (.slice none 0 0) ([] : List Row) :: bxl b7 [(iv size4), (sc A52 m51 D52)] 26 :: ow (kV A0 N0 D0).share 33 (.slice A52 m51.length D52) m191 :: bxl b192 [(iv size4), (.slice a.2.2.1 a.2.2.2.1 a.2.2.2.2)] 26 :: ow (kV A0 N0 D0).share 33 (.slice a.2.2.1 a.2.2.2.1 a.2.2.2.2) a.1.2.2.2 :: W1) ?_ ?_))))
 refine c_block (c_seq (c_region (lB R (l_nil (q_next (c_seq (c_cut (A := (Bool) × (Unit)) (fun a => Z0_J7 m51 m191 c249 c251 c252 x253 i255 a.1 = some out4) (fun a => [(0, (pt b2 0)), (1, (iv size4)), (4, (pt b5 0)), (5, (pt b7 0)), (10, (pt b192 0)), (11, (iv i255)), (12, (.bool a.1))]) (fun a => bxl b2 [(sc A250 c249 D250), (iv c251), (iv c252)] 72 :: RR kT5 A250 D250 c249 :: bxl b5 [(iv 0), (.slice none 0 0)] 26 :: ow (kT33).share 33 (.slice none 0 0) ([] : List Row) :: bxl b7 [(iv size4), (sc A52 m51 D52)] 26 :: ow (kV A0 N0 D0).share 33 (.slice A52 m51.length D52) m191 :: bxl b192 [(iv size4), (sc A254 x253 D254)] 26 :: OO (kV A0 N0 D0).share 33 A254 D254 x253 :: W1) ?_ ?_)))))))
 refine c_seq (c_region (lI R (l_nil (q_next (c_block ?_)))))
 obtain ⟨e5, hl5, hk5⟩ := bd hr
 refine c_loop (A := Unit) hl5 (fun s a => [(0, (pt b2 0)), (1, (iv size4)), (4, (pt b5 0)), (5, (pt b7 0)), (10, (pt b192 0)), (11, (iv i255)), (12, (.bool s.1)), (13, (iv s.2))]) (fun s a => bxl b2 [(sc A250 c249 D250), (iv c251), (iv c252)] 72 :: RR kT5 A250 D250 c249 :: bxl b5 [(iv 0), (.slice none 0 0)] 26 :: ow (kT33).share 33 (.slice none 0 0) ([] : List Row) :: bxl b7 [(iv size4), (sc A52 m51 D52)] 26 :: ow (kV A0 N0 D0).share 33 (.slice A52 m51.length D52) m191 :: bxl b192 [(iv size4), (sc A254 x253 D254)] 26 :: OO (kV A0 N0 D0).share 33 A254 D254 x253 :: W1) () (aS R) (fun w s => s) ?_
 rintro ⟨x272, k273⟩ _ σ1 out5 hr he5
 replace hr : Z0_L5 m51 m191 x253 i255 x272 k273 = some out5 := hr
 unfold Z0_L5 at hr
 refine c_seq (c_seq (c_region (lI R (lO (vFa 1 fo26_1 R) (lO (vLd 6 ag24 R R R) (lO (v_len sl24 R) (lO (vLt R R) (l_nil (q_next ?_)))))))))
 rcases bif_ hr with ⟨hb274, hr⟩ | ⟨hb274, hr⟩
 refine c_true R hb274 (c_skip (q_next (c_seq (c_block ?_))))
 obtain ⟨hg275, hr⟩ := gd hr
 obtain ⟨hg280, hr⟩ := gd hr
 obtain ⟨r285, hx286, hr⟩ := bd hr
 refine cQ [(0, (pt b2 0)), (1, (iv size4)), (4, (pt b5 0)), (5, (pt b7 0)), (10, (pt b192 0)), (11, (iv i255)), (12, (.bool (x272 || r285))), (13, (iv k273))] (bxl b2 [(sc A250 c249 D250), (iv c251), (iv c252)] 72 :: RR kT5 A250 D250 c249 :: bxl b5 [(iv 0), (.slice none 0 0)] 26 :: ow (kT33).share 33 (.slice none 0 0) ([] : List Row) :: bxl b7 [(iv size4), (sc A52 m51 D52)] 26 :: ow (kV A0 N0 D0).share 33 (.slice A52 m51.length D52) m191 :: bxl b192 [(iv size4), (sc A254 x253 D254)] 26 :: OO (kV A0 N0 D0).share 33 A254 D254 x253 :: W1) ?_ ?_
 rcases bo x272 with hc287 | hc287
 refine cdr 17 [] mixo (fun ht hn => (dR 0 R (vB R) (dR 1 R (vB R) (dF 2 R (wfT hc287) (dF 3 R (wfT hc287) (dF 4 R (wfT hc287) (dF 5 R (wfT hc287) (dF 6 R (wfT hc287) (dF 7 R (wfT hc287) (dF 8 R (wfT hc287) (dF 9 R (wfT hc287) (dF 10 R (wfT hc287) (dF 11 R (wfT hc287) (dF 12 R (wfT hc287) (dF 13 R (wfT hc287) (dF 14 R (wfT hc287) (dR 15 R (pOT r285 R hc287) (dR 16 R (vB R) (dD ?_)))))))))))))))))))
 exact qJ (fun w s => s)
 refine c_some 7 sees_sh (show 0 < x253.length by have := (hg275 hc287); omega) (fun g276 o277 ha => ?_)
 subst ha
 refine c_some 5 sees_sh (show 0 < m51.length by have := (hg280 hc287); omega) (fun g281 o282 ha => ?_)
 subst ha
 refine cdr 17 [] mixo (fun ht hn => (dR 0 R (vB R) (dR 1 R (vB R) (dW 2 R (wnF hc287) (vFa 1 fo26_1 R) (dW 3 R (wnF hc287) (vLd 6 ag24 R R R) (dW 4 R (wnF hc287) (vI R) (dW 5 R (wnF hc287) (vIa sl24 sz33 R R (hg275 hc287)) (dW 6 R (wnF hc287) (vz (.pointer (some ⟨g276, o277 + k273.toNat * 2, none⟩)) (v_fa fo33_0 R R)) (dW 8 R (wnF hc287) (vFa 1 fo26_1 R) (dW 9 R (wnF hc287) (vLd 4 ag24 R R R) (dW 10 R (wnF hc287) (vI R) (dW 11 R (wnF hc287) (vIa sl24 sz33 R R (hg280 hc287)) (dW 12 R (wnF hc287) (vz (.pointer (some ⟨g281, o282 + i255.toNat * 2, none⟩)) (v_fa fo33_0 R R)) (d_all [7, 13] (by kernel_rfl) R ⟨?_, ?_, trivial⟩))))))))))))))
 refine l_ldof (K := (kV A0 N0 D0).share) (fo := 0) 7 k273 R (wnF hc287) ag29 (dV A0 N0 D0).own (fun _ _ => R) R R (hg275 hc287).1 (hg275 hc287).2 ?_
 rintro ⟨⟨A278, D278⟩, v279⟩
 refine lN (RR kT3 A278 D278 ((ix x253 k273).Key) :: rz kT3 A0 N0 D0 v279 ((ix x253 k273).Weights) :: bxl b2 [(sc A250 c249 D250), (iv c251), (iv c252)] 72 :: RR kT5 A250 D250 c249 :: _ :: _ :: bxl b7 [(iv size4), (sc (ad g281 o282) m51 D52)] 26 :: ow (kV A0 N0 D0).share 33 (.slice (ad g281 o282) m51.length D52) m191 :: bxl b192 [(iv size4), (sc (ad g276 o277) x253 D254)] 26 :: OO (kV A0 N0 D0).share 33 (ad g276 o277) D254 x253 :: W1) ?_
 refine l_nil (q_draw (sL [1, 0]) (d1 13 R (l_ldof (K := (kV A0 N0 D0).share) (fo := 0) 7 i255 R (wnF hc287) ag29 (dV A0 N0 D0).own (fun _ _ => R) R R (hg280 hc287).1 (hg280 hc287).2 ?_)))
 rintro ⟨⟨A283, D283⟩, v284⟩
 refine lN (RR kT3 A283 D283 ((ix m191 i255).Key) :: rz kT3 A0 N0 D0 v284 ((ix m191 i255).Weights) :: _ :: _ :: _ :: _ :: _ :: _ :: _ :: _ :: _ :: _ :: W1) ?_
 refine l_nil (q_draw (sL [3, 2, 1, 0]) (d1 14 R (lM (rds _ _ _ :: rds _ _ _ :: rds _ _ _ :: rz _ _ _ _ _ _ :: rds _ _ _ :: rz _ _ _ _ _ _ :: bxl _ _ _ :: rds _ _ _ :: bxl _ _ _ :: ow _ _ _ _ :: bxl _ _ _ :: ow _ _ _ _ :: bxl _ _ _ :: ow _ _ _ _ :: W1) (fun w s => (((s.d 2 R).d 1 R).f 14 [1, 1, 0, 1, 2, 12])) ?_)))
 refine l_calln 2 R (wnF hc287) cb50 R (Zo_ok (gcall_t hx286 (not_ff hc287))) R ?_
 rintro _
 refine lN (_ :: _ :: _ :: _ :: _ :: _ :: _ :: _ :: _ :: _ :: _ :: _ :: W1) ?_
 refine l_nil (q_draw (sL [3, 2, 1, 0]) (dR 15 R (pOF R hc287 R) (hS := (sL [3, 2, 1, 0])) (dR 16 R (vB R) (hS := (sL [3, 2, 1, 0])) (dD ?_))))
 exact qJ (fun w s => (s.f 12 [4, 8]))
 refine l_ldof (K := (kV A0 N0 D0).share) (fo := 0) 5 i255 R (wnF hc287) ag29 (dV A0 N0 D0).own (fun _ _ => R) R R (hg280 hc287).1 (hg280 hc287).2 ?_
 rintro ⟨⟨A283, D283⟩, v284⟩
 refine lN (_ :: _ :: _ :: _ :: _ :: _ :: _ :: _ :: _ :: _ :: W1) ?_
 refine l_nil (q_draw (sL [1, 0]) (d1 7 R (l_ldof (K := (kV A0 N0 D0).share) (fo := 0) 9 k273 R (wnF hc287) ag29 (dV A0 N0 D0).own (fun _ _ => R) R R (hg275 hc287).1 (hg275 hc287).2 ?_)))
 rintro ⟨⟨A278, D278⟩, v279⟩
 refine lN (RR kT3 A278 D278 ((ix x253 k273).Key) :: rz kT3 A0 N0 D0 v279 ((ix x253 k273).Weights) :: _ :: _ :: _ :: _ :: _ :: _ :: _ :: _ :: _ :: _ :: W1) ?_
 refine l_nil (q_draw (sL [3, 2, 1, 0]) (d1 14 R (lM (rds _ _ _ :: rds _ _ _ :: rds _ _ _ :: rz _ _ _ _ _ _ :: rds _ _ _ :: rz _ _ _ _ _ _ :: bxl _ _ _ :: rds _ _ _ :: bxl _ _ _ :: ow _ _ _ _ :: bxl _ _ _ :: ow _ _ _ _ :: bxl _ _ _ :: ow _ _ _ _ :: W1) (fun w s => (((s.d 0 R).d 3 R).f 14 [1, 1, 0, 1, 2, 12])) ?_)))
 refine l_calln 2 R (wnF hc287) cb50 R (Zo_ok (gcall_t hx286 (not_ff hc287))) R ?_
 rintro _
 refine lN (_ :: _ :: _ :: _ :: _ :: _ :: _ :: _ :: _ :: _ :: _ :: _ :: W1) ?_
 refine l_nil (q_draw (sL [3, 2, 1, 0]) (dR 15 R (pOF R hc287 R) (hS := (sL [3, 2, 1, 0])) (dR 16 R (vB R) (hS := (sL [3, 2, 1, 0])) (dD ?_))))
 exact qJ (fun w s => (s.f 12 [4, 8]))
 rintro σ1
 refine q_blockn (q_next (c_region (lI R (lO (vAd R R) (lI R (l_nil ?_))))))
 obtain rfl := so hr
 exact qA () (fun w s => s)
 refine c_false R hb274 (c_exit (q_exit ?_))
 obtain rfl := so hr
 obtain rfl := he5 _ R
 have hr := hk5
 refine q_exit (q_block ?_)
 exact qI (x272, ()) hr (fun w s => s)
 rintro ⟨x290, _⟩ σ1 hr
 replace hr : Z0_J7 m51 m191 c249 c251 c252 x253 i255 x290 = some out4 := hr
 unfold Z0_J7 at hr
 refine c_seq ?_
 obtain ⟨r291, hx292, hr⟩ := bd hr
 refine c_cutq (A := (Unit) × (HH)) (fun _ => True) (fun a => [(0, (pt b2 0)), (1, (iv size4)), (4, (pt b5 0)), (5, (pt b7 0)), (10, (pt b192 0)), (11, (iv i255)), (107, (.bool ((!x290) || r291.1)))]) (fun a => bxl b2 [(.slice a.2.1 a.2.2.1 a.2.2.2), (iv r291.2.i), (iv r291.2.h_)] 72 :: rds kT5 (.slice a.2.1 a.2.2.1 a.2.2.2) r291.2.b :: bxl b5 [(iv 0), (.slice none 0 0)] 26 :: ow (kT33).share 33 (.slice none 0 0) ([] : List Row) :: bxl b7 [(iv size4), (sc A52 m51 D52)] 26 :: ow (kV A0 N0 D0).share 33 (.slice A52 m51.length D52) m191 :: bxl b192 [(iv size4), (sc A254 x253 D254)] 26 :: OO (kV A0 N0 D0).share 33 A254 D254 x253 :: W1) ?_ ?_
 refine c_region (lB R (lO (vNo R) (lB R ?_)))
 rcases bo (!x290) with hc294 | hc294
 refine lf (wfT hc294) (lf (wfT hc294) ?_)
 have hq295 : (default, (⟨c249, c251, c252⟩ : l1Cur)) = r291 := gcallv_f hx292 (by rw [show (!x290) = true from hc294]; exact R)
 refine lM (bxl b2 [(.slice A250 r291.2.b.length D250), (iv r291.2.i), (iv r291.2.h_)] 72 :: rds kT5 (.slice A250 r291.2.b.length D250) r291.2.b :: _ :: _ :: bxl b7 [(iv size4), (sc A52 m51 D52)] 26 :: ow (kV A0 N0 D0).share 33 (.slice A52 m51.length D52) m191 :: bxl b192 [(iv size4), (sc A254 x253 D254)] 26 :: OO (kV A0 N0 D0).share 33 A254 D254 x253 :: W1) (fun w s => by subst hq295; exact s) ?_
 refine lO (pOT r291.1 R hc294) (l_nil ?_)
 exact q_join ((), (A250, r291.2.b.length, D250)) trivial (aS R) (fun w s => s)
 refine lW (wnF hc294) (vP R) (lM (RR kT5 A250 D250 c249 :: bxl b2 [(sc A250 c249 D250), (iv c251), (iv c252)] 72 :: RR kT5 A250 D250 c249 :: _ :: _ :: _ :: _ :: _ :: _ :: W1) (fun w s => (s.d 1 R)) ?_)
 refine l_calln 2 R (wnF hc294) cb23 R (Z0g_ok (gcallv_t hx292 (not_ff hc294))) R ?_
 rintro ⟨A293, N293, D293⟩
 refine lN (rds kT5 (.slice A293 N293 D293) r291.2.b :: bxl b2 [(.slice A293 N293 D293), (iv r291.2.i), (iv r291.2.h_)] 72 :: _ :: _ :: _ :: _ :: _ :: _ :: _ :: W1) ?_
 refine l_len 0 sees_rd ?_
 rintro rfl
 refine lO (pOF R hc294 R) (l_nil ?_)
 exact q_join ((), (A293, r291.2.b.length, D293)) trivial (aS R) (fun w s => (s.f 9 [1, 1, 0, 1, 3, 6]))
 rintro ⟨_, ⟨A296, N296, D296⟩⟩ σ1 -
 refine q_len 1 sees_rd (fun (hn : N296 = r291.2.b.length) => ?_)
 subst hn
 refine q_next ?_
 rcases bif_ hr with ⟨hb297, hr⟩ | ⟨hb297, hr⟩
 refine c_true R hb297 ?_
 obtain ⟨hg298, hr⟩ := gd hr
 obtain ⟨hg304, hr⟩ := gd hr
 refine c_some 5 sees_sh (show 0 < m51.length by have := hg298; omega) (fun g299 o300 ha => ?_)
 subst ha
 refine cdr 8 [] mixo (fun ht hn => (dR 0 R (vFa 1 fo26_1 R) (dR 1 R (vLd 6 ag24 R R R) (dR 2 R (vFa 1 fo26_1 R) (dR 3 R (vLd 4 ag24 R R R) (dR 4 R (vI R) (dR 5 R (vIa sl24 sz33 R R hg298) (d1 6 R (l_ldo (K := (kV A0 N0 D0).share) 5 i255 R R ag33 sz33 (dV A0 N0 D0).own R R hg298.1 hg298.2 ?_)))))))))
 rintro ⟨⟨A301, D301⟩, v302⟩
 refine lN (RR kT3 A301 D301 ((ix m191 i255).Key) :: rz kT3 A0 N0 D0 v302 ((ix m191 i255).Weights) :: bxl b2 [(sc A296 r291.2.b D296), (iv r291.2.i), (iv r291.2.h_)] 72 :: RR kT5 A296 D296 r291.2.b :: _ :: _ :: bxl b7 [(iv size4), (sc (ad g299 o300) m51 D52)] 26 :: ow (kV A0 N0 D0).share 33 (.slice (ad g299 o300) m51.length D52) m191 :: _ :: _ :: W1) ?_
 refine l_nil (q_draw (sL [1, 0]) (d1 7 R (lM (rds _ _ _ :: rz _ _ _ _ _ _ :: rds _ _ _ :: rz _ _ _ _ _ _ :: bxl _ _ _ :: rds _ _ _ :: bxl _ _ _ :: ow _ _ _ _ :: bxl _ _ _ :: ow _ _ _ _ :: bxl _ _ _ :: ow _ _ _ _ :: W1) (fun w s => (((s.d 0 R).dz 2 R).f 12 [1, 1, 0, 1, 2, 10])) ?_)))
 refine l_build (K := (kV A0 N0 D0).share) (xs := ([(ix m191 i255)] : List Row)) (vs := [(.agg [(sc A301 ((ix m191 i255).Key) D301), v302].toArray)]) 2 R R sl24 sz33 zc33 R R R R R R ?_ R (fun A303 D303 => ?_)
 exact fun I h s => (mSV A0 N0 D0).list [(((sc A301 ((ix m191 i255).Key) D301), v302), (ix m191 i255))] I h s
 refine lN (OO (kV A0 N0 D0).share 33 A303 D303 ([(ix m191 i255)] : List Row) :: _ :: _ :: _ :: _ :: _ :: _ :: _ :: _ :: _ :: _ :: W1) ?_
 refine l_nil (q_draw (sL [2, 1, 0]) (d1 8 R (lM (ow _ _ _ _ :: ow _ _ _ _ :: rds _ _ _ :: rz _ _ _ _ _ _ :: bxl _ _ _ :: rds _ _ _ :: bxl _ _ _ :: ow _ _ _ _ :: bxl _ _ _ :: ow _ _ _ _ :: bxl _ _ _ :: W1) (fun w s => (s.f 11 [10, 1, 0, 10])) ?_)))
 refine l_app (K := (kV A0 N0 D0).share) 2932031007402 R R sl24 sz33 by33 (Zr.zk (Zr.share (zV A0 N0 D0)) zc33) R R R R R R src_ow hg304 (fun A305 D305 => (lN (OO (kV A0 N0 D0).share 33 A305 D305 (x253 ++ ([(ix m191 i255)] : List Row)) :: _ :: _ :: _ :: _ :: _ :: _ :: _ :: _ :: _ :: W1) ?_))
 refine l_nil (qE (d1 9 R (lO (vFa 1 fo26_1 R) (l_nil (qE (d1 10 R (l_store 9 R R sz24 R R R R R (lN (_ :: _ :: _ :: _ :: _ :: _ :: _ :: _ :: _ :: bxl b192 [(iv size4), (sc A305 (x253 ++ ([(ix m191 i255)] : List Row)) D305)] 26 :: W1) ?_))))))))
 refine l_nil (qE (dD (q_blockn ?_)))
 exact qI ((r291.2.b, r291.2.i, r291.2.h_, (x253 ++ ([(ix m191 i255)] : List Row))), ((A296, r291.2.b.length, D296), (A305, (x253 ++ ([(ix m191 i255)] : List Row)).length, D305))) hr (fun w s => (s.f 10 [3, 7, 0, 1]))
 refine c_false R hb297 (c_skip (q_blockn ?_))
 exact qI ((r291.2.b, r291.2.i, r291.2.h_, x253), ((A296, r291.2.b.length, D296), (A254, x253.length, D254))) hr (fun w s => s)
 rintro ⟨⟨c306, c308, c309, x310⟩, ⟨⟨A307, N307, D307⟩, ⟨A311, N311, D311⟩⟩⟩ σ1 hr
 replace hr : Z0_J8 i255 c306 c308 c309 x310 = some out4 := hr
 unfold Z0_J8 at hr
 refine c_len 1 sees_rd (fun (hn : N307 = c306.length) => ?_)
 subst hn
 refine c_len 7 sees_sh (fun (hn : N311 = x310.length) => ?_)
 subst hn
 refine c_region (lI R (lO (vAd R R) (lI R (l_nil ?_))))
 obtain rfl := so hr
 exact qA ((A307, c306.length, D307), (A311, x310.length, D311)) (fun w s => s)
 refine c_false R hb256 (c_exit (q_exit ?_))
 obtain rfl := so hr
 obtain rfl := he4 _ R
 have hr := hk4
 refine q_exit (q_block ?_)
 exact qI ((c249, c251, c252, x253), ((A250, c249.length, D250), (A254, x253.length, D254))) hr (fun w s => (s.f 8 [0, 4, 6, 2]))
 rintro ⟨⟨c319, c321, c322, x323⟩, ⟨⟨A320, N320, D320⟩, ⟨A324, N324, D324⟩⟩⟩ σ1 hr
 replace hr : Z0_J9 size4 c319 c321 c322 x323 w0 = some r := hr
 unfold Z0_J9 at hr
 refine c_len 1 sees_rd (fun (hn : N320 = c319.length) => ?_)
 subst hn
 refine c_len 5 sees_sh (fun (hn : N324 = x323.length) => ?_)
 subst hn
 refine c_seq (c_cut (A := (Int × (List Row) × (List Int) × Int × Int) × (HH × HH)) (fun a => Z0_J10 a.1.1 a.1.2.1 a.1.2.2.1 a.1.2.2.2.1 a.1.2.2.2.2 = some r) (fun a => [(4, (pt b5 0)), (10, (pt b192 0))]) (fun a => bxl b5 [(iv 0), (.slice none 0 0)] 26 :: ow (kT33).share 33 (.slice none 0 0) ([] : List Row) :: bxl b192 [(iv a.1.1), (.slice a.2.1.1 a.2.1.2.1 a.2.1.2.2)] 26 :: rds kT33 (.slice a.2.1.1 a.2.1.2.1 a.2.1.2.2) a.1.2.1 :: bxl b2 [(.slice a.2.2.1 a.2.2.2.1 a.2.2.2.2), (iv a.1.2.2.2.1), (iv a.1.2.2.2.2)] 72 :: rds kT5 (.slice a.2.2.1 a.2.2.2.1 a.2.2.2.2) a.1.2.2.1 :: W0) ?_ ?_)
 refine c_seq ?_
 obtain ⟨r325, hx326, hr⟩ := bd hr
 refine c_region (lP R (lM (RR kT5 A320 D320 c319 :: bxl b2 [(sc A320 c319 D320), (iv c321), (iv c322)] 72 :: RR kT5 A320 D320 c319 :: _ :: _ :: bxl b192 [(iv size4), (sc A324 x323 D324)] 26 :: OO (kV A0 N0 D0).share 33 A324 D324 x323 :: W1) (fun w s => (s.d 1 R)) ?_))
 refine lC 2 cb23 R (Z0g_ok hx326) R ?_
 rintro ⟨A327, N327, D327⟩
 refine lN (rds kT5 (.slice A327 N327 D327) r325.2.b :: bxl b2 [(.slice A327 N327 D327), (iv r325.2.i), (iv r325.2.h_)] 72 :: _ :: _ :: _ :: _ :: _ :: W1) ?_
 refine l_len 0 sees_rd ?_
 rintro rfl
 refine l_nil (q_next ?_)
 rcases bif_ hr with ⟨hb328, hr⟩ | ⟨hb328, hr⟩
 refine c_true R hb328 (c_seq ?_)
 obtain ⟨r329, hx330, hr⟩ := bd hr
 refine c_region (lP R (lM (rds _ _ _ :: bxl b2 [(sc A327 r325.2.b D327), (iv r325.2.i), (iv r325.2.h_)] 72 :: rds _ _ _ :: rds _ _ _ :: bxl _ _ _ :: ow _ _ _ _ :: bxl _ _ _ :: ow _ _ _ _ :: W1) (fun w s => ((s.d 0 R).e 8 [0, 2, 1, 3, 4, 5, 6, 7])) ?_))
 refine lC 2 cb21 R (Zb_ok hx330) R ?_
 rintro ⟨A331, N331, D331⟩
 refine lN (rds kT5 (.slice A331 N331 D331) r329.2.b :: bxl b2 [(.slice A331 N331 D331), (iv r329.2.i), (iv r329.2.h_)] 72 :: _ :: _ :: _ :: _ :: _ :: _ :: W1) ?_
 refine l_len 0 sees_rd ?_
 rintro rfl
 refine l_nil (q_next (c_block (c_seq (c_region (lO (vEq R R) (lB R (l_nil (q_next ?_))))))))
 rcases bif_ hr with ⟨hb332, hr⟩ | ⟨hb332, hr⟩
 refine c_true R hb332 ?_
 obtain ⟨hg333, hr⟩ := gd hr
 refine c_region (lO (vFa 1 fo26_1 R) (lO (vLd 6 ag24 R R R) (l_st (fun w s => (St.unl (g := fun x : Row => (x.Key, x.Weights)) (fun x : Row => (⟨x.Key, if x.Weights = [-1] then w0 else x.Weights⟩ : Row)) (fun _ => rfl) s 8 7 R R).shs 0 R) (l_cut (K := kT33) (1 : Int) (x323.length : Int) 0 R R sl24 sz33 R R R R hg333.1 hg333.2.1 hg333.2.2 (fun A334 D334 => (lO (vFa 1 fo26_1 R) (l_store 9 R R sz24 R R R R R (lN (RR kT33 A334 D334 (sub (unz w0 x323) (1 : Int) (x323.length : Int)) :: rds kT33 (.slice A324 x323.length D324) (unz w0 x323) :: rds kT3 (.slice A0 N0 D0) w0 :: _ :: bxl b2 [(sc A331 r329.2.b D331), (iv r329.2.i), (iv r329.2.h_)] 72 :: _ :: _ :: _ :: _ :: bxl b192 [(iv size4), (sc A334 (sub (unz w0 x323) (1 : Int) (x323.length : Int)) D334)] 26 :: W0) ?_))))))))
 refine l_nil (q_blockn ?_)
 exact qI ((size4, (sub (unz w0 x323) (1 : Int) (x323.length : Int)), r329.2.b, r329.2.i, r329.2.h_), ((A334, (sub (unz w0 x323) (1 : Int) (x323.length : Int)).length, D334), (A331, r329.2.b.length, D331))) hr (fun w s => (s.e 10 [7, 8, 9, 0, 4, 3]))
 refine c_false R hb332 (c_seq (c_region (lO (vEq R R) (lB R (l_nil (q_next ?_))))))
 rcases bif_ hr with ⟨hb335, hr⟩ | ⟨hb335, hr⟩
 refine c_true R hb335 ?_
 obtain ⟨hg336, hr⟩ := gd hr
 obtain ⟨hg338, hr⟩ := gd hr
 obtain ⟨hgz, hr⟩ := gd hr
 refine c_some 7 sees_sh (show 0 < x323.length by have := hg338; omega) (fun g339 o340 ha => ?_)
 subst ha
 refine cdr 7 [7] mixo (fun ht hn => (dR 0 R (vFa 1 fo26_1 R) (hS := (sL [7])) (dR 1 R (vLd 6 ag24 R R R) (hS := (sL [7])) (dR 2 R (vI R) (hS := (sL [7])) (d1 3 R (l_make (K := kT3) (m := size4) (z := (0 : Int)) R R sl29 sz3 by3 (Zr.zk zT3 zc3) (by decide) R R hg336.1 hg336.2.1 hg336.2.2 (fun A337 D337 => (l_nil (q_draw (sL [8, 0]) (dR 4 R (vIa sl24 sz33 R R hg338) (hS := (sL [8, 0])) (dR 5 R (vz (.pointer (some ⟨g339, o340 + (0 : Int).toNat * 2 + 1, none⟩)) (v_fa fo33_1 R R)) (hS := (sL [8, 0])) (d1 6 R (lM (RR kT3 A337 D337 (List.replicate size4.toNat (0 : Int)) :: RR kT3 A337 D337 (List.replicate size4.toNat (0 : Int)) :: _ :: _ :: _ :: _ :: _ :: _ :: bxl b192 [(iv size4), (sc (ad g339 o340) x323 D324)] 26 :: OO (kV A0 N0 D0).share 33 (ad g339 o340) D324 x323 :: W1) (fun w s => ((s.shr 0 R).d 0 R)) ?_)))))))))))))
 refine l_steR (K := (kV A0 N0 D0).share) (L := kT3) (fo := 1) (v := (sc A337 (List.replicate size4.toNat (0 : Int)) D337)) (f := (fun x : Row => (⟨x.Key, (List.replicate size4.toNat (0 : Int))⟩ : Row))) 9 0 (0 : Int) R R sz29 R ?_ R R R R hg338.1 hg338.2 ?_
 exact setR_lz R hgz (fun _ => R)
 refine lN (_ :: _ :: _ :: _ :: _ :: _ :: _ :: _ :: _ :: ow (kV A0 N0 D0).share 33 (.slice (ad g339 o340) x323.length D324) (x323.set (0 : Int).toNat (⟨(ix x323 (0 : Int)).Key, (List.replicate size4.toNat (0 : Int))⟩ : Row)) :: W1) ?_
 refine l_nil (q_draw (sL [9, 1, 0]) (dD ?_))
 obtain ⟨l341, hl342, hr⟩ := bd hr
 replace hl342 := Option.some.inj hl342
 refine qM (_ :: _ :: _ :: _ :: _ :: _ :: _ :: _ :: _ :: ow (kV A0 N0 D0).share 33 (.slice (ad g339 o340) x323.length D324) l341 :: W1) (fun w s => by rw [← hl342]; exact s) ?_
 refine q_blockn ?_
 exact qI ((size4, (unz w0 l341), r329.2.b, r329.2.i, r329.2.h_), (((ad g339 o340), x323.length, D324), (A331, r329.2.b.length, D331))) hr (fun w s => (((St.unl (g := fun x : Row => (x.Key, x.Weights)) (fun x : Row => (⟨x.Key, if x.Weights = [-1] then w0 else x.Weights⟩ : Row)) (fun _ => rfl) s 10 9 R R).shs 0 R).e 11 [8, 9, 10, 0, 5, 4]))
 refine c_false R hb335 (c_seq (c_region (lO (vEq R R) (lB R (l_nil (q_next ?_))))))
 rcases bif_ hr with ⟨hb343, hr⟩ | ⟨hb343, hr⟩
 refine c_true R hb343 ?_
 obtain ⟨hg344, hr⟩ := gd hr
 obtain ⟨hgw, hr⟩ := gd hr
 obtain ⟨hg349, hr⟩ := gd hr
 refine c_region (lO (vFa 1 fo26_1 R) (lO (vLd 6 ag24 R R R) (t_some 7 sees_sh (show 0 < x323.length by have := hg344; omega) (fun g345 o346 ha => ?_))))
 subst ha
 refine lO (vIa sl24 sz33 R R hg344) (lO (vz (.pointer (some ⟨g345, o346 + (0 : Int).toNat * 2 + 1, none⟩)) (v_fa fo33_1 R R)) (l_ldof (K := (kV A0 N0 D0).share) (fo := 1) 7 (0 : Int) R R ag29 (dV A0 N0 D0).own (fun _ _ => R) R R hg344.1 hg344.2 ?_))
 rintro ⟨⟨A347, D347⟩, v348⟩
 refine lN (RR kT3 A347 D347 ((ix x323 (0 : Int)).Key) :: rz kT3 A0 N0 D0 v348 ((ix x323 (0 : Int)).Weights) :: _ :: _ :: _ :: _ :: _ :: _ :: bxl b192 [(iv size4), (sc (ad g345 o346) x323 D324)] 26 :: OO (kV A0 N0 D0).share 33 (ad g345 o346) D324 x323 :: W1) ?_
 refine t_rz 1 (by rw [← hgw]; exact R) (fun hv => ?_)
 subst hv
 refine lM (ow kT3 3 (.slice A0 N0 D0) w0 :: rds _ _ _ :: bxl _ _ _ :: rds _ _ _ :: rds _ _ _ :: bxl _ _ _ :: ow _ _ _ _ :: bxl _ _ _ :: ow _ _ _ _ :: W0) (fun w s => (s.e 11 [10, 2, 3, 4, 5, 6, 7, 8, 9])) ?_
 refine l_len 0 sees_ow (fun (hn : N0 = w0.length) => ?_)
 refine t_some 0 sees_ow (show 0 < N0 by have := hg349; omega) (fun g350 o351 ha => ?_)
 subst ha
 refine lO (vIa sl29 sz3 R R (show (0 : Int) ≤ 0 ∧ (0 : Int) < ((N0 : Nat) : Int) by have := hg349; omega)) ?_
 refine l_stx (K := kT3) (x' := (1001 : Int)) 0 (0 : Int) R R sz3 R R (Int.le_refl 0) (by have := hg349; omega) ?_ ?_
 exact fun I h s => (mO3).put I h () (1001 : Int) s
 refine l_nil (q_blockn ?_)
 exact qI ((size4, (unz (w0.set (0 : Int).toNat (1001 : Int)) x323), r329.2.b, r329.2.i, r329.2.h_), (((ad g345 o346), x323.length, D324), (A331, r329.2.b.length, D331))) hr (fun w s => (((St.unl (g := fun x : Row => (x.Key, x.Weights)) (fun x : Row => (⟨x.Key, if x.Weights = [-1] then (w0.set (0 : Int).toNat (1001 : Int)) else x.Weights⟩ : Row)) (fun _ => rfl) s 0 7 R R).shs 0 R).e 9 [6, 7, 8, 0, 3, 2]))
 refine c_false R hb343 (c_seq (c_region (lO (vEq R R) (lB R (l_nil (q_next ?_))))))
 rcases bif_ hr with ⟨hb352, hr⟩ | ⟨hb352, hr⟩
 refine c_true R hb352 (c_region (lI R (lO (vAd R R) (lO (vFa 0 fo26_0 R) (l_store 6 R R sz3 R R R R R (lN (_ :: _ :: _ :: _ :: _ :: _ :: bxl b192 [(iv (w64 (size4 + (1 : Int)))), (sc A324 x323 D324)] 26 :: OO (kV A0 N0 D0).share 33 A324 D324 x323 :: W1) ?_))))))
 refine l_nil (q_blockn ?_)
 exact qI (((w64 (size4 + (1 : Int))), (unz w0 x323), r329.2.b, r329.2.i, r329.2.h_), ((A324, x323.length, D324), (A331, r329.2.b.length, D331))) hr (fun w s => (((St.unl (g := fun x : Row => (x.Key, x.Weights)) (fun x : Row => (⟨x.Key, if x.Weights = [-1] then w0 else x.Weights⟩ : Row)) (fun _ => rfl) s 8 7 R R).shs 0 R).e 9 [6, 7, 8, 0, 3, 2]))
 refine c_false R hb352 (c_seq (c_region (lO (vEq R R) (lB R (l_nil (q_next ?_))))))
 rcases bif_ hr with ⟨hb353, hr⟩ | ⟨hb353, hr⟩
 refine c_true R hb353 ?_
 obtain ⟨hg355, hr⟩ := gd hr
 refine c_region (lO (vFa 1 fo26_1 R) (lO (vLd 6 ag24 R R R) (l_build (K := kT3) (xs := ([(0 : Int), (0 : Int), (0 : Int), (0 : Int), (0 : Int)] : List Int)) (vs := [(iv 0), (iv 0), (iv 0), (iv 0), (iv 0)]) 0 R R sl29 sz3 zc3 R R R R R R ?_ R (fun A354 D354 => ?_))))
 exact fun I h s => (mO3).list [((), (0 : Int)), ((), (0 : Int)), ((), (0 : Int)), ((), (0 : Int)), ((), (0 : Int))] I h s
 refine lN (OO kT3 3 A354 D354 ([(0 : Int), (0 : Int), (0 : Int), (0 : Int), (0 : Int)] : List Int) :: _ :: _ :: _ :: _ :: _ :: _ :: bxl b192 [(iv size4), (sc A324 x323 D324)] 26 :: _ :: W1) ?_
 refine t_some 8 sees_sh (show 0 < x323.length by have := hg355; omega) (fun g356 o357 ha => ?_)
 subst ha
 refine lO (vIa sl24 sz33 R R hg355) (lO (vz (.pointer (some ⟨g356, o357 + (0 : Int).toNat * 2, none⟩)) (v_fa fo33_0 R R)) (lM (RR kT3 A354 D354 ([(0 : Int), (0 : Int), (0 : Int), (0 : Int), (0 : Int)] : List Int) :: RR kT3 A354 D354 ([(0 : Int), (0 : Int), (0 : Int), (0 : Int), (0 : Int)] : List Int) :: _ :: _ :: _ :: _ :: _ :: _ :: bxl b192 [(iv size4), (sc (ad g356 o357) x323 D324)] 26 :: OO (kV A0 N0 D0).share 33 (ad g356 o357) D324 x323 :: W1) (fun w s => ((s.shr 0 R).d 0 R)) ?_))
 refine l_steR (K := (kV A0 N0 D0).share) (L := kT3) (fo := 0) (v := (sc A354 ([(0 : Int), (0 : Int), (0 : Int), (0 : Int), (0 : Int)] : List Int) D354)) (f := (fun x : Row => (⟨([(0 : Int), (0 : Int), (0 : Int), (0 : Int), (0 : Int)] : List Int), x.Weights⟩ : Row))) 9 0 (0 : Int) R R sz29 R ?_ R R R R hg355.1 hg355.2 ?_
 exact setR_fst (fun _ => R)
 refine lN (_ :: _ :: _ :: _ :: _ :: _ :: _ :: _ :: _ :: ow (kV A0 N0 D0).share 33 (.slice (ad g356 o357) x323.length D324) (x323.set (0 : Int).toNat (⟨([(0 : Int), (0 : Int), (0 : Int), (0 : Int), (0 : Int)] : List Int), (ix x323 (0 : Int)).Weights⟩ : Row)) :: W1) ?_
 refine l_nil ?_
 obtain ⟨l358, hl359, hr⟩ := bd hr
 replace hl359 := Option.some.inj hl359
 refine qM (_ :: _ :: _ :: _ :: _ :: _ :: _ :: _ :: _ :: ow (kV A0 N0 D0).share 33 (.slice (ad g356 o357) x323.length D324) l358 :: W1) (fun w s => by rw [← hl359]; exact s) ?_
 refine q_blockn ?_
 exact qI ((size4, (unz w0 l358), r329.2.b, r329.2.i, r329.2.h_), (((ad g356 o357), x323.length, D324), (A331, r329.2.b.length, D331))) hr (fun w s => (((St.unl (g := fun x : Row => (x.Key, x.Weights)) (fun x : Row => (⟨x.Key, if x.Weights = [-1] then w0 else x.Weights⟩ : Row)) (fun _ => rfl) s 10 9 R R).shs 0 R).e 11 [8, 9, 10, 0, 5, 4]))
 refine c_false R hb353 (c_skip (q_blockn ?_))
 exact qI ((size4, (unz w0 x323), r329.2.b, r329.2.i, r329.2.h_), ((A324, x323.length, D324), (A331, r329.2.b.length, D331))) hr (fun w s => (((St.unl (g := fun x : Row => (x.Key, x.Weights)) (fun x : Row => (⟨x.Key, if x.Weights = [-1] then w0 else x.Weights⟩ : Row)) (fun _ => rfl) s 8 7 R R).shs 0 R).e 9 [6, 7, 8, 0, 3, 2]))
 refine c_false R hb328 (c_skip ?_)
 exact qI ((size4, (unz w0 x323), r325.2.b, r325.2.i, r325.2.h_), ((A324, x323.length, D324), (A327, r325.2.b.length, D327))) hr (fun w s => (((St.unl (g := fun x : Row => (x.Key, x.Weights)) (fun x : Row => (⟨x.Key, if x.Weights = [-1] then w0 else x.Weights⟩ : Row)) (fun _ => rfl) s 7 6 R R).shs 0 R).e 8 [5, 6, 7, 0, 3, 2]))
 rintro ⟨⟨x360, x361, p363, p365, p366⟩, ⟨⟨A362, N362, D362⟩, ⟨A364, N364, D364⟩⟩⟩ σ1 hr
 replace hr : Z0_J10 x360 x361 p363 p365 p366 = some r := hr
 unfold Z0_J10 at hr
 refine c_len 3 sees_rd (fun (hn : N362 = x361.length) => ?_)
 subst hn
 refine c_len 5 sees_rd (fun (hn : N364 = p363.length) => ?_)
 subst hn
 refine c_seq (c_region (lO (vz (.agg [(iv x360), (sc A362 x361 D362)].toArray) (v_loadw 2 ag26 sz26 R R R R)) (l_stores 0 R R sz26 R R R R R R (lN (bxl b5 [(iv x360), (sc A362 x361 D362)] 26 :: _ :: bxl b192 [(iv x360), (sc A362 x361 D362)] 26 :: RR kT33 A362 D362 x361 :: bxl b2 [(sc A364 p363 D364), (iv p365), (iv p366)] 72 :: RR kT5 A364 D364 p363 :: W0) ?_))))
 refine l_nil (q_next (c_ret ?_))
 obtain rfl := so hr
 exact q_fin (vs := [(.agg [(iv x360), (sc A362 x361 D362)].toArray)]) (.inl R) ((A362, x361.length, D362), (A364, p363.length, D364)) R ⟨⟨0, b5, _, _, R, R, .inl ⟨ag26, sz26, R⟩⟩, trivial⟩ R (fun w s => (s.e 7 [3, 5, 4]))
theorem Zv_ok  {c1 : l1Cur} {b2 : Nat} {r : Choice × l1Cur} (hr : Zv c1 = some r) :
 FnOk Try.prog 24 [(pt b2 0)] [rds kT5 (.slice A3 N3 D3) c1.b, bxl b2 [(.slice A3 N3 D3), (iv c1.i), (iv c1.h_)] 72] (fun (h : HH) => ((.agg [(iv r.1.Power), (iv r.1.Cut), (iv r.1.Mass)].toArray), [rds kT5 (.slice h.1 h.2.1 h.2.2) r.2.b, bxl b2 [(.slice h.1 h.2.1 h.2.2), (iv r.2.i), (iv r.2.h_)] 72])) := by
 unfold Zv at hr
 refine fn_ok Try.func24 R 39 R R fun C V => ?_
 refine cM (bxl _ _ _ :: rds _ _ _ :: V) (fun w s => (s.e 2 [1, 0])) ?_
 refine cL 1 sees_rd ?_
 rintro rfl
 let W0 : List HP := RR kT5 A3 D3 c1.b :: V
 refine cN (bxl b2 [(sc A3 c1.b D3), (iv c1.i), (iv c1.h_)] 72 :: W0) ?_
 refine c_seq (c_region (l_alloc R R zc28 (fun b4 => (l_nil (q_next (c_seq ?_))))))
 obtain ⟨r5, hx6, hr⟩ := bd hr
 obtain ⟨r8, hx9, hr⟩ := bd hr
 obtain ⟨r11, hx12, hr⟩ := bd hr
 refine c_region (lP R (lM (RR kT5 A3 D3 c1.b :: bxl _ _ _ :: bxl _ _ _ :: W0) (fun w s => ((s.d 2 R).e 3 [0, 2, 1])) ?_))
 refine lC 2 cb21 R (Zb_ok hx6) R ?_
 rintro ⟨A7, N7, D7⟩
 refine lN (rds kT5 (.slice A7 N7 D7) r5.2.b :: bxl b2 [(.slice A7 N7 D7), (iv r5.2.i), (iv r5.2.h_)] 72 :: _ :: W0) ?_
 refine l_len 0 sees_rd ?_
 rintro rfl
 refine lO (vAd R R) (lP R (lM (rds _ _ _ :: bxl b2 [(sc A7 r5.2.b D7), (iv r5.2.i), (iv r5.2.h_)] 72 :: rds _ _ _ :: bxl _ _ _ :: W0) (fun w s => ((s.d 0 R).e 4 [0, 2, 1, 3])) ?_))
 refine lC 2 cb21 R (Zb_ok hx9) R ?_
 rintro ⟨A10, N10, D10⟩
 refine lN (rds kT5 (.slice A10 N10 D10) r8.2.b :: bxl b2 [(.slice A10 N10 D10), (iv r8.2.i), (iv r8.2.h_)] 72 :: _ :: _ :: W0) ?_
 refine l_len 0 sees_rd ?_
 rintro rfl
 refine lP R (lM (rds _ _ _ :: bxl b2 [(sc A10 r8.2.b D10), (iv r8.2.i), (iv r8.2.h_)] 72 :: rds _ _ _ :: rds _ _ _ :: bxl _ _ _ :: W0) (fun w s => ((s.d 0 R).e 5 [0, 2, 1, 3, 4])) ?_)
 refine lC 2 cb21 R (Zb_ok hx12) R ?_
 rintro ⟨A13, N13, D13⟩
 refine lN (rds kT5 (.slice A13 N13 D13) r11.2.b :: bxl b2 [(.slice A13 N13 D13), (iv r11.2.i), (iv r11.2.h_)] 72 :: _ :: _ :: _ :: W0) ?_
 refine l_len 0 sees_rd ?_
 rintro rfl
 refine lO (vAd R R) (lO (vz (.agg [(iv (w64 ((1 : Int) + r5.1))), (iv r8.1), (iv (w64 ((1 : Int) + r11.1)))].toArray) (v_build pl28 zc28 R R)) (l_alloc R R zc28 (fun b14 => (l_stores 0 R R sz28 R R R R R R (lN (bxl b14 [(iv (w64 ((1 : Int) + r5.1))), (iv r8.1), (iv (w64 ((1 : Int) + r11.1)))] 28 :: _ :: bxl b2 [(sc A13 r11.2.b D13), (iv r11.2.i), (iv r11.2.h_)] 72 :: _ :: _ :: _ :: W0) ?_)))))
 refine l_nil (q_next (c_seq (c_cut (A := ((List Int) × Int × Int × Int) × (HH)) (fun a => Zv_J1 r5 r8 a.1.1 a.1.2.1 a.1.2.2.1 a.1.2.2.2 = some r) (fun a => [(0, (pt b2 0)), (2, (pt b4 0)), (3, (pt b14 0))]) (fun a => bxl b2 [(.slice a.2.1 a.2.2.1 a.2.2.2), (iv a.1.2.1), (iv a.1.2.2.1)] 72 :: rds kT5 (.slice a.2.1 a.2.2.1 a.2.2.2) a.1.1 :: bxl b4 [(iv 0), (iv 0), (iv 0)] 28 :: bxl b14 [(iv (w64 ((1 : Int) + r5.1))), (iv r8.1), (iv a.1.2.2.2)] 28 :: W0) ?_ ?_)))
 refine c_seq ?_
 obtain ⟨r15, hx16, hr⟩ := bd hr
 refine c_region (lP R (lM (rds _ _ _ :: bxl _ _ _ :: bxl _ _ _ :: rds _ _ _ :: rds _ _ _ :: rds _ _ _ :: bxl _ _ _ :: W0) (fun w s => ((s.d 1 R).e 7 [0, 3, 1, 2, 4, 5, 6])) ?_))
 refine lC 2 cb23 R (Z0g_ok hx16) R ?_
 rintro ⟨A17, N17, D17⟩
 refine lN (rds kT5 (.slice A17 N17 D17) r15.2.b :: bxl b2 [(.slice A17 N17 D17), (iv r15.2.i), (iv r15.2.h_)] 72 :: _ :: _ :: _ :: _ :: _ :: W0) ?_
 refine l_len 0 sees_rd ?_
 rintro rfl
 refine l_nil (q_next ?_)
 rcases bif_ hr with ⟨hb18, hr⟩ | ⟨hb18, hr⟩
 refine c_true R hb18 (c_region (lO (vFa 2 fo28_2 R) (l_store 2 R R sz3 R R R R R (lN (_ :: bxl b2 [(sc A17 r15.2.b D17), (iv r15.2.i), (iv r15.2.h_)] 72 :: bxl b14 [(iv (w64 ((1 : Int) + r5.1))), (iv r8.1), (iv 65536)] 28 :: _ :: _ :: _ :: _ :: W0) ?_))))
 refine l_nil ?_
 exact qI ((r15.2.b, r15.2.i, r15.2.h_, (65536 : Int)), (A17, r15.2.b.length, D17)) hr (fun w s => (s.e 7 [1, 0, 6, 2]))
 refine c_false R hb18 (c_skip ?_)
 exact qI ((r15.2.b, r15.2.i, r15.2.h_, (w64 ((1 : Int) + r11.1))), (A17, r15.2.b.length, D17)) hr (fun w s => (s.e 7 [1, 0, 6, 2]))
 rintro ⟨⟨c19, c21, c22, x23⟩, ⟨A20, N20, D20⟩⟩ σ1 hr
 replace hr : Zv_J1 r5 r8 c19 c21 c22 x23 = some r := hr
 unfold Zv_J1 at hr
 refine c_len 1 sees_rd (fun (hn : N20 = c19.length) => ?_)
 subst hn
 refine c_seq (c_cut (A := (Int × Int × Int × (List Int) × Int × Int) × (HH)) (fun a => Zv_J2 a.1.1 a.1.2.1 a.1.2.2.1 a.1.2.2.2.1 a.1.2.2.2.2.1 a.1.2.2.2.2.2 = some r) (fun a => [(2, (pt b4 0)), (3, (pt b14 0))]) (fun a => bxl b4 [(iv 0), (iv 0), (iv 0)] 28 :: bxl b14 [(iv a.1.1), (iv a.1.2.1), (iv a.1.2.2.1)] 28 :: bxl b2 [(.slice a.2.1 a.2.2.1 a.2.2.2), (iv a.1.2.2.2.2.1), (iv a.1.2.2.2.2.2)] 72 :: rds kT5 (.slice a.2.1 a.2.2.1 a.2.2.2) a.1.2.2.2.1 :: W0) ?_ ?_)
 refine c_seq ?_
 obtain ⟨r24, hx25, hr⟩ := bd hr
 refine c_region (lP R (lM (RR kT5 A20 D20 c19 :: bxl b2 [(sc A20 c19 D20), (iv c21), (iv c22)] 72 :: RR kT5 A20 D20 c19 :: _ :: bxl b14 [(iv (w64 ((1 : Int) + r5.1))), (iv r8.1), (iv x23)] 28 :: W0) (fun w s => (s.d 1 R)) ?_))
 refine lC 2 cb23 R (Z0g_ok hx25) R ?_
 rintro ⟨A26, N26, D26⟩
 refine lN (rds kT5 (.slice A26 N26 D26) r24.2.b :: bxl b2 [(.slice A26 N26 D26), (iv r24.2.i), (iv r24.2.h_)] 72 :: _ :: _ :: _ :: W0) ?_
 refine l_len 0 sees_rd ?_
 rintro rfl
 refine l_nil (q_next ?_)
 rcases bif_ hr with ⟨hb27, hr⟩ | ⟨hb27, hr⟩
 refine c_true R hb27 (c_seq ?_)
 obtain ⟨r28, hx29, hr⟩ := bd hr
 refine c_region (lP R (lM (rds _ _ _ :: bxl b2 [(sc A26 r24.2.b D26), (iv r24.2.i), (iv r24.2.h_)] 72 :: rds _ _ _ :: rds _ _ _ :: bxl _ _ _ :: bxl _ _ _ :: W0) (fun w s => ((s.d 0 R).e 6 [0, 2, 1, 3, 4, 5])) ?_))
 refine lC 2 cb21 R (Zb_ok hx29) R ?_
 rintro ⟨A30, N30, D30⟩
 refine lN (rds kT5 (.slice A30 N30 D30) r28.2.b :: bxl b2 [(.slice A30 N30 D30), (iv r28.2.i), (iv r28.2.h_)] 72 :: _ :: _ :: _ :: _ :: W0) ?_
 refine l_len 0 sees_rd ?_
 rintro rfl
 refine l_nil (q_next (c_block (c_seq (c_region (lO (vEq R R) (lB R (l_nil (q_next ?_))))))))
 rcases bif_ hr with ⟨hb31, hr⟩ | ⟨hb31, hr⟩
 refine c_true R hb31 ?_
 obtain ⟨r33, hx34, hr⟩ := bd hr
 refine c_region (lP R (l_build (K := kT3) (xs := ([(0 : Int), (3 : Int)] : List Int)) (vs := [(iv 0), (iv 3)]) 0 R R sl29 sz3 zc3 R R R R R R ?_ R (fun A32 D32 => ?_)))
 exact fun I h s => (mO3).list [((), (0 : Int)), ((), (3 : Int))] I h s
 refine lN (OO kT3 3 A32 D32 ([(0 : Int), (3 : Int)] : List Int) :: _ :: bxl b2 [(sc A30 r28.2.b D30), (iv r28.2.i), (iv r28.2.h_)] 72 :: _ :: _ :: _ :: _ :: W0) ?_
 refine l_st (fun w s => s.shr 0 R) (lM (rds _ _ _ :: bxl _ _ _ :: RR kT3 A32 D32 ([(0 : Int), (3 : Int)] : List Int) :: RR kT3 A32 D32 ([(0 : Int), (3 : Int)] : List Int) :: rds _ _ _ :: rds _ _ _ :: rds _ _ _ :: bxl _ _ _ :: bxl _ _ _ :: W0) (fun w s => (((s.d 1 R).d 1 R).e 9 [1, 4, 0, 2, 3, 5, 6, 7, 8])) ?_)
 refine lC 3 cb49 R (Z0l_ok hx34) R ?_
 rintro ⟨A35, N35, D35⟩
 refine lN (rds kT5 (.slice A35 N35 D35) r33.2.b :: bxl b2 [(.slice A35 N35 D35), (iv r33.2.i), (iv r33.2.h_)] 72 :: _ :: _ :: _ :: _ :: _ :: _ :: W0) ?_
 refine l_len 0 sees_rd ?_
 rintro rfl
 refine lO (vFa 0 fo28_0 R) (l_store 7 R R sz3 R R R R R (lN (_ :: bxl b2 [(sc A35 r33.2.b D35), (iv r33.2.i), (iv r33.2.h_)] 72 :: _ :: _ :: _ :: _ :: _ :: bxl b14 [(iv r33.1), (iv r8.1), (iv x23)] 28 :: W0) ?_))
 refine l_nil (q_blockn ?_)
 exact qI ((r33.1, r8.1, x23, r33.2.b, r33.2.i, r33.2.h_), (A35, r33.2.b.length, D35)) hr (fun w s => (s.e 8 [6, 7, 1, 0]))
 refine c_false R hb31 (c_seq (c_region (lO (vEq R R) (lB R (l_nil (q_next ?_))))))
 rcases bif_ hr with ⟨hb36, hr⟩ | ⟨hb36, hr⟩
 refine c_true R hb36 ?_
 obtain ⟨r38, hx39, hr⟩ := bd hr
 refine c_region (lP R (l_build (K := kT3) (xs := ([(-1 : Int), (64 : Int), (65 : Int)] : List Int)) (vs := [(iv (-1)), (iv 64), (iv 65)]) 0 R R sl29 sz3 zc3 R R R R R R ?_ R (fun A37 D37 => ?_)))
 exact fun I h s => (mO3).list [((), (-1 : Int)), ((), (64 : Int)), ((), (65 : Int))] I h s
 refine lN (OO kT3 3 A37 D37 ([(-1 : Int), (64 : Int), (65 : Int)] : List Int) :: _ :: bxl b2 [(sc A30 r28.2.b D30), (iv r28.2.i), (iv r28.2.h_)] 72 :: _ :: _ :: _ :: bxl b14 [(iv (w64 ((1 : Int) + r5.1))), (iv r8.1), (iv x23)] 28 :: W0) ?_
 refine l_st (fun w s => s.shr 0 R) (lM (rds _ _ _ :: bxl _ _ _ :: RR kT3 A37 D37 ([(-1 : Int), (64 : Int), (65 : Int)] : List Int) :: RR kT3 A37 D37 ([(-1 : Int), (64 : Int), (65 : Int)] : List Int) :: rds _ _ _ :: rds _ _ _ :: rds _ _ _ :: bxl _ _ _ :: bxl _ _ _ :: W0) (fun w s => (((s.d 1 R).d 1 R).e 9 [1, 4, 0, 2, 3, 5, 6, 7, 8])) ?_)
 refine lC 3 cb49 R (Z0l_ok hx39) R ?_
 rintro ⟨A40, N40, D40⟩
 refine lN (rds kT5 (.slice A40 N40 D40) r38.2.b :: bxl b2 [(.slice A40 N40 D40), (iv r38.2.i), (iv r38.2.h_)] 72 :: _ :: _ :: _ :: _ :: _ :: _ :: W0) ?_
 refine l_len 0 sees_rd ?_
 rintro rfl
 refine lO (vFa 1 fo28_1 R) (l_store 7 R R sz3 R R R R R (lN (_ :: bxl b2 [(sc A40 r38.2.b D40), (iv r38.2.i), (iv r38.2.h_)] 72 :: _ :: _ :: _ :: _ :: _ :: bxl b14 [(iv (w64 ((1 : Int) + r5.1))), (iv r38.1), (iv x23)] 28 :: W0) ?_))
 refine l_nil (q_blockn ?_)
 exact qI (((w64 ((1 : Int) + r5.1)), r38.1, x23, r38.2.b, r38.2.i, r38.2.h_), (A40, r38.2.b.length, D40)) hr (fun w s => (s.e 8 [6, 7, 1, 0]))
 refine c_false R hb36 (c_seq (c_region (lO (vEq R R) (lB R (l_nil (q_next ?_))))))
 rcases bif_ hr with ⟨hb41, hr⟩ | ⟨hb41, hr⟩
 refine c_true R hb41 ?_
 obtain ⟨r43, hx44, hr⟩ := bd hr
 refine c_region (lP R (l_build (K := kT3) (xs := ([(0 : Int), (65537 : Int)] : List Int)) (vs := [(iv 0), (iv 65537)]) 0 R R sl29 sz3 zc3 R R R R R R ?_ R (fun A42 D42 => ?_)))
 exact fun I h s => (mO3).list [((), (0 : Int)), ((), (65537 : Int))] I h s
 refine lN (OO kT3 3 A42 D42 ([(0 : Int), (65537 : Int)] : List Int) :: _ :: bxl b2 [(sc A30 r28.2.b D30), (iv r28.2.i), (iv r28.2.h_)] 72 :: _ :: _ :: _ :: bxl b14 [(iv (w64 ((1 : Int) + r5.1))), (iv r8.1), (iv x23)] 28 :: W0) ?_
 refine l_st (fun w s => s.shr 0 R) (lM (rds _ _ _ :: bxl _ _ _ :: RR kT3 A42 D42 ([(0 : Int), (65537 : Int)] : List Int) :: RR kT3 A42 D42 ([(0 : Int), (65537 : Int)] : List Int) :: rds _ _ _ :: rds _ _ _ :: rds _ _ _ :: bxl _ _ _ :: bxl _ _ _ :: W0) (fun w s => (((s.d 1 R).d 1 R).e 9 [1, 4, 0, 2, 3, 5, 6, 7, 8])) ?_)
 refine lC 3 cb49 R (Z0l_ok hx44) R ?_
 rintro ⟨A45, N45, D45⟩
 refine lN (rds kT5 (.slice A45 N45 D45) r43.2.b :: bxl b2 [(.slice A45 N45 D45), (iv r43.2.i), (iv r43.2.h_)] 72 :: _ :: _ :: _ :: _ :: _ :: _ :: W0) ?_
 refine l_len 0 sees_rd ?_
 rintro rfl
 refine lO (vFa 2 fo28_2 R) (l_store 7 R R sz3 R R R R R (lN (_ :: bxl b2 [(sc A45 r43.2.b D45), (iv r43.2.i), (iv r43.2.h_)] 72 :: _ :: _ :: _ :: _ :: _ :: bxl b14 [(iv (w64 ((1 : Int) + r5.1))), (iv r8.1), (iv r43.1)] 28 :: W0) ?_))
 refine l_nil (q_blockn ?_)
 exact qI (((w64 ((1 : Int) + r5.1)), r8.1, r43.1, r43.2.b, r43.2.i, r43.2.h_), (A45, r43.2.b.length, D45)) hr (fun w s => (s.e 8 [6, 7, 1, 0]))
 refine c_false R hb41 (c_skip (q_blockn ?_))
 exact qI (((w64 ((1 : Int) + r5.1)), r8.1, x23, r28.2.b, r28.2.i, r28.2.h_), (A30, r28.2.b.length, D30)) hr (fun w s => (s.e 6 [4, 5, 1, 0]))
 refine c_false R hb27 (c_skip ?_)
 exact qI (((w64 ((1 : Int) + r5.1)), r8.1, x23, r24.2.b, r24.2.i, r24.2.h_), (A26, r24.2.b.length, D26)) hr (fun w s => (s.e 5 [3, 4, 1, 0]))
 rintro ⟨⟨x46, x47, x48, p49, p51, p52⟩, ⟨A50, N50, D50⟩⟩ σ1 hr
 replace hr : Zv_J2 x46 x47 x48 p49 p51 p52 = some r := hr
 unfold Zv_J2 at hr
 refine c_len 3 sees_rd (fun (hn : N50 = p49.length) => ?_)
 subst hn
 refine c_seq (c_region (lO (vz (.agg [(iv x46), (iv x47), (iv x48)].toArray) (v_loadw 1 ag28 sz28 R R R R)) (l_stores 0 R R sz28 R R R R R R (lN (bxl b4 [(iv x46), (iv x47), (iv x48)] 28 :: bxl b14 [(iv x46), (iv x47), (iv x48)] 28 :: bxl b2 [(sc A50 p49 D50), (iv p51), (iv p52)] 72 :: RR kT5 A50 D50 p49 :: W0) ?_))))
 refine l_nil (q_next (c_ret ?_))
 obtain rfl := so hr
 exact q_fin (vs := [(.agg [(iv x46), (iv x47), (iv x48)].toArray)]) (.inl R) (A50, p49.length, D50) R ⟨⟨0, b4, _, _, R, R, .inl ⟨ag28, sz28, R⟩⟩, trivial⟩ R (fun w s => (s.e 5 [3, 2]))
theorem Z1b_ok  {c1 : l1Cur} {b2 : Nat} {r : Int × l1Cur} (hr : Z1b c1 = some r) :
 FnOk Try.prog 26 [(pt b2 0)] [rds kT5 (.slice A3 N3 D3) c1.b, bxl b2 [(.slice A3 N3 D3), (iv c1.i), (iv c1.h_)] 72] (fun (h : HH) => ((iv r.1), [rds kT5 (.slice h.1 h.2.1 h.2.2) r.2.b, bxl b2 [(.slice h.1 h.2.1 h.2.2), (iv r.2.i), (iv r.2.h_)] 72])) := by
 unfold Z1b at hr
 refine fn_ok Try.func26 R 10 R R fun C V => ?_
 refine cM (bxl _ _ _ :: rds _ _ _ :: V) (fun w s => (s.e 2 [1, 0])) ?_
 refine cL 1 sees_rd ?_
 rintro rfl
 let W0 : List HP := RR kT5 A3 D3 c1.b :: V
 refine cN (bxl b2 [(sc A3 c1.b D3), (iv c1.i), (iv c1.h_)] 72 :: W0) ?_
 refine c_seq (c_region (lI R (l_nil (q_next (c_seq (c_seq ?_))))))
 obtain ⟨r4, hx5, hr⟩ := bd hr
 refine c_region (lP R (lM (RR kT5 A3 D3 c1.b :: _ :: W0) (fun w s => (s.d 1 R)) ?_))
 refine lC 2 cb23 R (Z0g_ok hx5) R ?_
 rintro ⟨A6, N6, D6⟩
 refine lN (rds kT5 (.slice A6 N6 D6) r4.2.b :: bxl b2 [(.slice A6 N6 D6), (iv r4.2.i), (iv r4.2.h_)] 72 :: W0) ?_
 refine l_len 0 sees_rd ?_
 rintro rfl
 refine l_nil (q_next ?_)
 rcases bif_ hr with ⟨hb7, hr⟩ | ⟨hb7, hr⟩
 refine c_true R hb7 (c_seq ?_)
 obtain ⟨r9, hx10, hr⟩ := bd hr
 refine c_region (lP R (l_build (K := kT3) (xs := ([(0 : Int), (4294967295 : Int), (4294967296 : Int), (-1 : Int)] : List Int)) (vs := [(iv 0), (iv 4294967295), (iv 4294967296), (iv (-1))]) 0 R R sl29 sz3 zc3 R R R R R R ?_ R (fun A8 D8 => ?_)))
 exact fun I h s => (mO3).list [((), (0 : Int)), ((), (4294967295 : Int)), ((), (4294967296 : Int)), ((), (-1 : Int))] I h s
 refine lN (OO kT3 3 A8 D8 ([(0 : Int), (4294967295 : Int), (4294967296 : Int), (-1 : Int)] : List Int) :: _ :: bxl b2 [(sc A6 r4.2.b D6), (iv r4.2.i), (iv r4.2.h_)] 72 :: W0) ?_
 refine l_st (fun w s => s.shr 0 R) (lM (rds _ _ _ :: bxl _ _ _ :: RR kT3 A8 D8 ([(0 : Int), (4294967295 : Int), (4294967296 : Int), (-1 : Int)] : List Int) :: RR kT3 A8 D8 ([(0 : Int), (4294967295 : Int), (4294967296 : Int), (-1 : Int)] : List Int) :: rds _ _ _ :: W0) (fun w s => (((s.d 1 R).d 1 R).e 5 [1, 4, 0, 2, 3])) ?_)
 refine lC 3 cb49 R (Z0l_ok hx10) R ?_
 rintro ⟨A11, N11, D11⟩
 refine lN (rds kT5 (.slice A11 N11 D11) r9.2.b :: bxl b2 [(.slice A11 N11 D11), (iv r9.2.i), (iv r9.2.h_)] 72 :: _ :: _ :: W0) ?_
 refine l_len 0 sees_rd ?_
 rintro rfl
 refine lI R (l_nil (q_next (c_ret (q_ret ?_))))
 obtain rfl := so hr
 exact qF (A11, r9.2.b.length, D11) (fun w s => (s.e 5 [0, 1]))
 refine c_false R hb7 (c_skip (q_next (c_seq ?_)))
 obtain ⟨r12, hx13, hr⟩ := bd hr
 refine c_region (lP R (lM (rds _ _ _ :: bxl b2 [(sc A6 r4.2.b D6), (iv r4.2.i), (iv r4.2.h_)] 72 :: rds _ _ _ :: W0) (fun w s => ((s.d 0 R).e 3 [0, 2, 1])) ?_))
 refine lC 2 cb21 R (Zb_ok hx13) R ?_
 rintro ⟨A14, N14, D14⟩
 refine lN (rds kT5 (.slice A14 N14 D14) r12.2.b :: bxl b2 [(.slice A14 N14 D14), (iv r12.2.i), (iv r12.2.h_)] 72 :: _ :: W0) ?_
 refine l_len 0 sees_rd ?_
 rintro rfl
 refine lI R (l_nil (q_next (c_ret ?_)))
 obtain rfl := so hr
 exact qF (A14, r12.2.b.length, D14) (fun w s => (s.e 4 [0, 1]))
theorem Z0k_ok  {code1 : (List Int)} {r : Lm × Lm × Choice × (List Int) × Int × Int × Int} (hr : Z0k code1 = some r) :
 FnOk Try.prog 6 [(.slice A2 N2 D2)] [rds kT5 (.slice A2 N2 D2) code1] (fun (h : HH × HH × HH) => ((.tuple [(.agg [(iv r.1.Size), (.slice h.1.1 h.1.2.1 h.1.2.2)].toArray), (.agg [(iv r.2.1.Size), (.slice h.2.1.1 h.2.1.2.1 h.2.1.2.2)].toArray), (.agg [(iv r.2.2.1.Power), (iv r.2.2.1.Cut), (iv r.2.2.1.Mass)].toArray), (.slice h.2.2.1 h.2.2.2.1 h.2.2.2.2), (iv r.2.2.2.2.1), (iv r.2.2.2.2.2.1), (iv r.2.2.2.2.2.2)].toArray), [rds kT33 (.slice h.1.1 h.1.2.1 h.1.2.2) r.1.Rows, rds kT33 (.slice h.2.1.1 h.2.1.2.1 h.2.1.2.2) r.2.1.Rows, ow kT3 3 (.slice h.2.2.1 h.2.2.2.1 h.2.2.2.2) r.2.2.2.1])) := by
 unfold Z0k at hr
 refine fn_ok Try.func6 R 51 R R fun C V => ?_
 refine cN (_ :: V) ?_
 refine cL 0 sees_rd ?_
 rintro rfl
 let W0 : List HP := RR kT5 A2 D2 code1 :: V
 refine cN W0 ?_
 refine c_seq (c_region (l_alloc R R zc26 (fun b3 => (l_alloc R R zc26 (fun b4 => (l_alloc R R zc28 (fun b5 => (lS R (lI R (lI R (lI R (l_nil (q_next (c_seq ?_))))))))))))))
 obtain ⟨r6, hx7, hr⟩ := bd hr
 refine c_region (lS R (lM (RR kT5 A2 D2 code1 :: _ :: _ :: _ :: W0) (fun w s => (s.d 3 R)) ?_))
 refine lC 1 cb20 R (Z0e_ok hx7) R ?_
 rintro ⟨⟨A8, N8, D8⟩, b9⟩
 refine lN (rds kT5 (.slice A8 N8 D8) r6.b :: bxl b9 [(.slice A8 N8 D8), (iv r6.i), (iv r6.h_)] 72 :: _ :: _ :: _ :: W0) ?_
 refine l_len 0 sees_rd ?_
 rintro rfl
 refine lP R (l_nil (q_next (c_seq ?_)))
 obtain ⟨r10, hx11, hr⟩ := bd hr
 refine c_region (lP R (lM (rds _ _ _ :: bxl b9 [(sc A8 r6.b D8), (iv r6.i), (iv r6.h_)] 72 :: rds _ _ _ :: bxl _ _ _ :: bxl _ _ _ :: bxl _ _ _ :: W0) (fun w s => ((s.d 0 R).e 6 [0, 2, 1, 3, 4, 5])) ?_))
 refine lC 2 cb21 R (Zb_ok hx11) R ?_
 rintro ⟨A12, N12, D12⟩
 refine lN (rds kT5 (.slice A12 N12 D12) r10.2.b :: bxl b9 [(.slice A12 N12 D12), (iv r10.2.i), (iv r10.2.h_)] 72 :: _ :: _ :: _ :: _ :: W0) ?_
 refine l_len 0 sees_rd ?_
 rintro rfl
 refine lO (vAd R R) (lI R (l_nil (q_next (c_seq ?_))))
 obtain ⟨r13, hx14, hr⟩ := bd hr
 refine c_region (lP R (lI R (lM (rds _ _ _ :: bxl b9 [(sc A12 r10.2.b D12), (iv r10.2.i), (iv r10.2.h_)] 72 :: rds _ _ _ :: rds _ _ _ :: bxl _ _ _ :: bxl _ _ _ :: bxl _ _ _ :: W0) (fun w s => ((s.d 0 R).e 7 [0, 2, 1, 3, 4, 5, 6])) ?_)))
 refine lC 2 cb22 R (Z0_ok hx14) R ?_
 rintro ⟨⟨A15, N15, D15⟩, ⟨A16, N16, D16⟩⟩
 refine lN (rds kT33 (.slice A15 N15 D15) r13.1.Rows :: rds kT5 (.slice A16 N16 D16) r13.2.b :: bxl b9 [(.slice A16 N16 D16), (iv r13.2.i), (iv r13.2.h_)] 72 :: _ :: _ :: _ :: _ :: _ :: W0) ?_
 refine l_len 0 sees_rd ?_
 rintro rfl
 refine l_len 1 sees_rd ?_
 rintro rfl
 refine l_alloc R R zc26 (fun b17 => (l_stores 0 R R sz26 R R R R R R (lN (bxl b17 [(iv r13.1.Size), (sc A15 r13.1.Rows D15)] 26 :: _ :: _ :: bxl b9 [(sc A16 r13.2.b D16), (iv r13.2.i), (iv r13.2.h_)] 72 :: _ :: _ :: _ :: _ :: _ :: W0) ?_)))
 refine l_nil (q_next (c_seq ?_))
 obtain ⟨r18, hx19, hr⟩ := bd hr
 refine c_region (lP R (lI R (lM (rds _ _ _ :: bxl _ _ _ :: bxl _ _ _ :: rds _ _ _ :: rds _ _ _ :: rds _ _ _ :: rds _ _ _ :: bxl _ _ _ :: bxl _ _ _ :: bxl _ _ _ :: W0) (fun w s => ((s.d 2 R).f 10 [0, 1, 4, 1, 1, 3, 5, 5])) ?_)))
 refine lC 2 cb22 R (Z0_ok hx19) R ?_
 rintro ⟨⟨A20, N20, D20⟩, ⟨A21, N21, D21⟩⟩
 refine lN (rds kT33 (.slice A20 N20 D20) r18.1.Rows :: rds kT5 (.slice A21 N21 D21) r18.2.b :: bxl b9 [(.slice A21 N21 D21), (iv r18.2.i), (iv r18.2.h_)] 72 :: _ :: _ :: _ :: _ :: _ :: _ :: _ :: _ :: W0) ?_
 refine l_len 0 sees_rd ?_
 rintro rfl
 refine l_len 1 sees_rd ?_
 rintro rfl
 refine l_alloc R R zc26 (fun b22 => (l_stores 0 R R sz26 R R R R R R (lN (bxl b22 [(iv r18.1.Size), (sc A20 r18.1.Rows D20)] 26 :: _ :: _ :: bxl b9 [(sc A21 r18.2.b D21), (iv r18.2.i), (iv r18.2.h_)] 72 :: _ :: _ :: _ :: _ :: _ :: _ :: _ :: _ :: W0) ?_)))
 refine l_nil (q_next (c_seq (c_cut (A := ((List Int) × Int × Int × Int × (List Row)) × (HH × HH)) (fun a => Z0k_J1 r10 r13 a.1.1 a.1.2.1 a.1.2.2.1 a.1.2.2.2.1 a.1.2.2.2.2 = some r) (fun a => [(2, (pt b3 0)), (3, (pt b4 0)), (4, (pt b5 0)), (9, (pt b9 0)), (10, (iv (w64 ((1 : Int) + r10.1)))), (11, (pt b17 0)), (12, (pt b22 0))]) (fun a => bxl b3 [(iv 0), (.slice none 0 0)] 26 :: bxl b4 [(iv 0), (.slice none 0 0)] 26 :: bxl b5 [(iv 0), (iv 0), (iv 0)] 28 :: bxl b9 [(.slice a.2.1.1 a.2.1.2.1 a.2.1.2.2), (iv a.1.2.1), (iv a.1.2.2.1)] 72 :: rds kT5 (.slice a.2.1.1 a.2.1.2.1 a.2.1.2.2) a.1.1 :: bxl b17 [(iv r13.1.Size), (sc A15 r13.1.Rows D15)] 26 :: RR kT33 A15 D15 r13.1.Rows :: bxl b22 [(iv a.1.2.2.2.1), (.slice a.2.2.1 a.2.2.2.1 a.2.2.2.2)] 26 :: rds kT33 (.slice a.2.2.1 a.2.2.2.1 a.2.2.2.2) a.1.2.2.2.2 :: W0) ?_ ?_)))
 refine c_seq ?_
 obtain ⟨r23, hx24, hr⟩ := bd hr
 refine c_region (lP R (lM (rds _ _ _ :: bxl _ _ _ :: bxl _ _ _ :: rds _ _ _ :: rds _ _ _ :: bxl _ _ _ :: rds _ _ _ :: rds _ _ _ :: rds _ _ _ :: rds _ _ _ :: bxl _ _ _ :: bxl _ _ _ :: bxl _ _ _ :: W0) (fun w s => ((s.d 2 R).f 13 [0, 1, 4, 1, 1, 3, 5, 8])) ?_))
 refine lC 2 cb23 R (Z0g_ok hx24) R ?_
 rintro ⟨A25, N25, D25⟩
 refine lN (rds kT5 (.slice A25 N25 D25) r23.2.b :: bxl b9 [(.slice A25 N25 D25), (iv r23.2.i), (iv r23.2.h_)] 72 :: _ :: _ :: _ :: _ :: _ :: _ :: _ :: _ :: _ :: _ :: _ :: W0) ?_
 refine l_len 0 sees_rd ?_
 rintro rfl
 refine l_nil (q_next ?_)
 rcases bif_ hr with ⟨hb26, hr⟩ | ⟨hb26, hr⟩
 refine c_true R hb26 (c_region (lO (vz (.agg [(iv r13.1.Size), (sc A15 r13.1.Rows D15)].toArray) (v_loadw 5 ag26 sz26 R R R R)) (l_stores 2 R R sz26 R R R R R R (lN (_ :: bxl b9 [(sc A25 r23.2.b D25), (iv r23.2.i), (iv r23.2.h_)] 72 :: bxl b22 [(iv r13.1.Size), (sc A15 r13.1.Rows D15)] 26 :: _ :: _ :: _ :: _ :: _ :: _ :: _ :: _ :: _ :: _ :: W0) ?_))))
 refine l_nil ?_
 exact qI ((r23.2.b, r23.2.i, r23.2.h_, r13.1.Size, r13.1.Rows), ((A25, r23.2.b.length, D25), (A15, r13.1.Rows.length, D15))) hr (fun w s => ((s.d 6 R).e 14 [13, 12, 11, 2, 1, 6, 7, 3, 0]))
 refine c_false R hb26 (c_skip ?_)
 exact qI ((r23.2.b, r23.2.i, r23.2.h_, r18.1.Size, r18.1.Rows), ((A25, r23.2.b.length, D25), (A20, r18.1.Rows.length, D20))) hr (fun w s => (s.e 13 [12, 11, 10, 1, 0, 5, 6, 2, 3]))
 rintro ⟨⟨c27, c29, c30, d31, d32⟩, ⟨⟨A28, N28, D28⟩, ⟨A33, N33, D33⟩⟩⟩ σ1 hr
 replace hr : Z0k_J1 r10 r13 c27 c29 c30 d31 d32 = some r := hr
 unfold Z0k_J1 at hr
 refine c_len 4 sees_rd (fun (hn : N28 = c27.length) => ?_)
 subst hn
 refine c_len 8 sees_rd (fun (hn : N33 = d32.length) => ?_)
 subst hn
 refine c_seq ?_
 obtain ⟨r34, hx35, hr⟩ := bd hr
 refine c_region (lP R (lM (RR kT5 A28 D28 c27 :: bxl b9 [(sc A28 c27 D28), (iv c29), (iv c30)] 72 :: bxl _ _ _ :: bxl _ _ _ :: bxl _ _ _ :: RR kT5 A28 D28 c27 :: bxl _ _ _ :: rds _ _ _ :: bxl b22 [(iv d31), (sc A33 d32 D33)] 26 :: RR kT33 A33 D33 d32 :: W0) (fun w s => ((s.d 4 R).f 10 [0, 1, 4, 1, 1, 3, 5, 5])) ?_))
 refine lC 2 cb24 R (Zv_ok hx35) R ?_
 rintro ⟨A36, N36, D36⟩
 refine lN (rds kT5 (.slice A36 N36 D36) r34.2.b :: bxl b9 [(.slice A36 N36 D36), (iv r34.2.i), (iv r34.2.h_)] 72 :: _ :: _ :: _ :: _ :: _ :: _ :: _ :: _ :: W0) ?_
 refine l_len 0 sees_rd ?_
 rintro rfl
 refine l_alloc R R zc28 (fun b37 => (l_stores 0 R R sz28 R R R R R R (lN (bxl b37 [(iv r34.1.Power), (iv r34.1.Cut), (iv r34.1.Mass)] 28 :: _ :: bxl b9 [(sc A36 r34.2.b D36), (iv r34.2.i), (iv r34.2.h_)] 72 :: _ :: _ :: _ :: _ :: _ :: _ :: _ :: _ :: W0) ?_)))
 refine l_nil (q_next (c_seq ?_))
 obtain ⟨r38, hx39, hr⟩ := bd hr
 obtain ⟨r41, hx42, hr⟩ := bd hr
 refine c_region (lP R (lI R (lP R (lM (rds _ _ _ :: bxl _ _ _ :: bxl _ _ _ :: rds _ _ _ :: bxl _ _ _ :: bxl _ _ _ :: bxl _ _ _ :: rds _ _ _ :: bxl _ _ _ :: rds _ _ _ :: bxl _ _ _ :: rds _ _ _ :: W0) (fun w s => ((s.d 1 R).f 12 [0, 1, 3, 1, 1, 2, 4, 8])) ?_))))
 refine lC 2 cb21 R (Zb_ok hx39) R ?_
 rintro ⟨A40, N40, D40⟩
 refine lN (rds kT5 (.slice A40 N40 D40) r38.2.b :: bxl b9 [(.slice A40 N40 D40), (iv r38.2.i), (iv r38.2.h_)] 72 :: _ :: _ :: _ :: _ :: _ :: _ :: _ :: _ :: _ :: _ :: W0) ?_
 refine l_len 0 sees_rd ?_
 rintro rfl
 refine lM (rds _ _ _ :: bxl b9 [(sc A40 r38.2.b D40), (iv r38.2.i), (iv r38.2.h_)] 72 :: rds _ _ _ :: bxl _ _ _ :: rds _ _ _ :: bxl _ _ _ :: bxl _ _ _ :: bxl _ _ _ :: rds _ _ _ :: bxl _ _ _ :: rds _ _ _ :: bxl _ _ _ :: rds _ _ _ :: W0) (fun w s => ((s.d 0 R).f 13 [0, 1, 2, 1, 1, 1, 3, 10])) ?_
 refine lC 2 cb25 R (Z09_ok hx42) R ?_
 rintro ⟨⟨A43, N43, D43⟩, ⟨A44, N44, D44⟩⟩
 refine lN (ow kT3 3 (.slice A43 N43 D43) r41.1 :: rds kT5 (.slice A44 N44 D44) r41.2.b :: bxl b9 [(.slice A44 N44 D44), (iv r41.2.i), (iv r41.2.h_)] 72 :: _ :: _ :: _ :: _ :: _ :: _ :: _ :: _ :: _ :: _ :: _ :: W0) ?_
 refine l_len 0 sees_ow ?_
 rintro rfl
 refine l_len 1 sees_rd ?_
 rintro rfl
 refine lS R (l_nil (q_next (c_seq ?_)))
 obtain ⟨r45, hx46, hr⟩ := bd hr
 obtain ⟨r48, hx49, hr⟩ := bd hr
 obtain ⟨r51, hx52, hr⟩ := bd hr
 obtain ⟨r54, hx55, hr⟩ := bd hr
 refine cdr 22 [8, 7, 6, 2] mixo (fun ht hn => (dR 0 R (vz (.agg [(iv r13.1.Size), (sc A15 r13.1.Rows D15)].toArray) (v_loadw 6 ag26 sz26 R R R R)) (hS := (sL [8, 7, 6, 2])) (dR 1 R (vz (.agg [(iv d31), (sc A33 d32 D33)].toArray) (v_loadw 8 ag26 sz26 R R R R)) (hS := (sL [8, 7, 6, 2])) (dR 2 R (vz (.agg [(iv r34.1.Power), (iv r34.1.Cut), (iv r34.1.Mass)].toArray) (v_loadw 3 ag28 sz28 R R R R)) (hS := (sL [8, 7, 6, 2])) (dR 3 R (vS R) (hS := (sL [8, 7, 6, 2])) (dR 4 R (vP R) (hS := (sL [8, 7, 6, 2])) (dR 6 R (vP R) (hS := (sL [8, 7, 6, 2])) (dR 8 R (vP R) (hS := (sL [8, 7, 6, 2])) (dR 11 R (vP R) (hS := (sL [8, 7, 6, 2])) (d1 5 R (lM (rds _ _ _ :: bxl b9 [(sc A44 r41.2.b D44), (iv r41.2.i), (iv r41.2.h_)] 72 :: ow _ _ _ _ :: rds _ _ _ :: rds _ _ _ :: bxl _ _ _ :: rds _ _ _ :: bxl _ _ _ :: bxl _ _ _ :: bxl _ _ _ :: rds _ _ _ :: bxl _ _ _ :: rds _ _ _ :: bxl _ _ _ :: rds _ _ _ :: W0) (fun w s => ((s.d 1 R).f 15 [0, 1, 3, 1, 1, 2, 4, 11])) ?_)))))))))))
 refine lC 2 cb21 R (Zb_ok hx46) R ?_
 rintro ⟨A47, N47, D47⟩
 refine lN (rds kT5 (.slice A47 N47 D47) r45.2.b :: bxl b9 [(.slice A47 N47 D47), (iv r45.2.i), (iv r45.2.h_)] 72 :: _ :: _ :: _ :: _ :: _ :: _ :: _ :: _ :: _ :: _ :: _ :: _ :: _ :: W0) ?_
 refine l_len 0 sees_rd ?_
 rintro rfl
 refine l_nil (q_draw (sL [9, 8, 7, 1, 0]) (d1 7 R (lM (rds _ _ _ :: bxl b9 [(sc A47 r45.2.b D47), (iv r45.2.i), (iv r45.2.h_)] 72 :: rds _ _ _ :: ow _ _ _ _ :: rds _ _ _ :: rds _ _ _ :: bxl _ _ _ :: rds _ _ _ :: bxl _ _ _ :: bxl _ _ _ :: bxl _ _ _ :: rds _ _ _ :: bxl _ _ _ :: rds _ _ _ :: bxl _ _ _ :: rds _ _ _ :: W0) (fun w s => ((s.d 0 R).f 16 [0, 1, 2, 1, 1, 1, 3, 13])) ?_)))
 refine lC 2 cb26 R (Z1b_ok hx49) R ?_
 rintro ⟨A50, N50, D50⟩
 refine lN (rds kT5 (.slice A50 N50 D50) r48.2.b :: bxl b9 [(.slice A50 N50 D50), (iv r48.2.i), (iv r48.2.h_)] 72 :: _ :: _ :: _ :: _ :: _ :: _ :: _ :: _ :: _ :: _ :: _ :: _ :: _ :: _ :: W0) ?_
 refine l_len 0 sees_rd ?_
 rintro rfl
 refine l_nil (q_draw (sL [10, 9, 8, 2, 1, 0]) (d1 9 R (lM (rds _ _ _ :: bxl b9 [(sc A50 r48.2.b D50), (iv r48.2.i), (iv r48.2.h_)] 72 :: rds _ _ _ :: rds _ _ _ :: ow _ _ _ _ :: rds _ _ _ :: rds _ _ _ :: bxl _ _ _ :: rds _ _ _ :: bxl _ _ _ :: bxl _ _ _ :: bxl _ _ _ :: rds _ _ _ :: bxl _ _ _ :: rds _ _ _ :: bxl _ _ _ :: rds _ _ _ :: W0) (fun w s => ((s.d 0 R).f 17 [0, 1, 2, 1, 1, 1, 3, 14])) ?_)))
 refine lC 2 cb21 R (Zb_ok hx52) R ?_
 rintro ⟨A53, N53, D53⟩
 refine lN (rds kT5 (.slice A53 N53 D53) r51.2.b :: bxl b9 [(.slice A53 N53 D53), (iv r51.2.i), (iv r51.2.h_)] 72 :: _ :: _ :: _ :: _ :: _ :: _ :: _ :: _ :: _ :: _ :: _ :: _ :: _ :: _ :: _ :: W0) ?_
 refine l_len 0 sees_rd ?_
 rintro rfl
 refine l_nil (q_draw (sL [11, 10, 9, 3, 2, 1, 0]) (dR 10 R (vAd R R) (hS := (sL [11, 10, 9, 3, 2, 1, 0])) (d1 12 R (lM (rds _ _ _ :: bxl b9 [(sc A53 r51.2.b D53), (iv r51.2.i), (iv r51.2.h_)] 72 :: rds _ _ _ :: rds _ _ _ :: rds _ _ _ :: ow _ _ _ _ :: rds _ _ _ :: rds _ _ _ :: bxl _ _ _ :: rds _ _ _ :: bxl _ _ _ :: bxl _ _ _ :: bxl _ _ _ :: rds _ _ _ :: bxl _ _ _ :: rds _ _ _ :: bxl _ _ _ :: rds _ _ _ :: W0) (fun w s => ((s.d 0 R).f 18 [0, 1, 2, 1, 1, 1, 3, 15])) ?_))))
 refine lC 2 cb21 R (Zb_ok hx55) R ?_
 rintro ⟨A56, N56, D56⟩
 refine lN (rds kT5 (.slice A56 N56 D56) r54.2.b :: bxl b9 [(.slice A56 N56 D56), (iv r54.2.i), (iv r54.2.h_)] 72 :: _ :: _ :: _ :: _ :: _ :: _ :: _ :: _ :: _ :: _ :: _ :: _ :: _ :: _ :: _ :: _ :: W0) ?_
 refine l_len 0 sees_rd ?_
 rintro rfl
 refine l_nil (q_draw (sL [12, 11, 10, 4, 3, 2, 1, 0]) (dR 13 R (vz (iv (w64 (r54.1.tdiv (29 : Int)))) (v_quo R R (by decide))) (hS := (sL [12, 11, 10, 4, 3, 2, 1, 0])) (dR 14 R (vSb R R) (hS := (sL [12, 11, 10, 4, 3, 2, 1, 0])) (d1 15 R (l_stores 10 R R sz26 R R R R R R (lN (_ :: bxl b9 [(sc A56 r54.2.b D56), (iv r54.2.i), (iv r54.2.h_)] 72 :: _ :: _ :: _ :: _ :: _ :: _ :: _ :: _ :: bxl b3 [(iv r13.1.Size), (sc A15 r13.1.Rows D15)] 26 :: _ :: _ :: _ :: _ :: _ :: _ :: _ :: W0) ?_))))))
 refine l_nil (q_draw (sL [12, 11, 10, 4, 3, 2, 1, 0]) (d1 16 R (l_stores 11 R R sz26 R R R R R R (lN (_ :: _ :: _ :: _ :: _ :: _ :: _ :: _ :: _ :: _ :: _ :: bxl b4 [(iv d31), (sc A33 d32 D33)] 26 :: _ :: _ :: _ :: _ :: _ :: _ :: W0) ?_))))
 refine l_nil (q_draw (sL [12, 11, 10, 4, 3, 2, 1, 0]) (d1 17 R (l_stores 12 R R sz28 R R R R R R (lN (_ :: _ :: _ :: _ :: _ :: _ :: _ :: _ :: _ :: _ :: _ :: _ :: bxl b5 [(iv r34.1.Power), (iv r34.1.Cut), (iv r34.1.Mass)] 28 :: _ :: _ :: _ :: _ :: _ :: W0) ?_))))
 refine l_nil (q_draw (sL [12, 11, 10, 4, 3, 2, 1, 0]) (dR 18 R (vS R) (hS := (sL [12, 11, 10, 4, 3, 2, 1, 0])) (dR 19 R (vI R) (hS := (sL [12, 11, 10, 4, 3, 2, 1, 0])) (dR 20 R (vI R) (hS := (sL [12, 11, 10, 4, 3, 2, 1, 0])) (dR 21 R (vI R) (hS := (sL [12, 11, 10, 4, 3, 2, 1, 0])) (dD (q_next (c_ret ?_))))))))
 obtain rfl := so hr
 exact q_fin (vs := [(.agg [(iv r13.1.Size), (sc A15 r13.1.Rows D15)].toArray), (.agg [(iv d31), (sc A33 d32 D33)].toArray), (.agg [(iv r34.1.Power), (iv r34.1.Cut), (iv r34.1.Mass)].toArray), (sc A43 r41.1 D43), (iv r45.1), (iv r48.1), (iv (w64 ((w64 ((1 : Int) + r51.1)) - (w64 (r54.1.tdiv (29 : Int))))))]) (.inl R) ((A15, r13.1.Rows.length, D15), (A33, d32.length, D33), (A43, r41.1.length, D43)) R ⟨⟨10, b3, _, _, R, R, .inl ⟨ag26, sz26, R⟩⟩, ⟨11, b4, _, _, R, R, .inl ⟨ag26, sz26, R⟩⟩, ⟨12, b5, _, _, R, R, .inl ⟨ag28, sz28, R⟩⟩, R, R, R, R, trivial⟩ R (fun w s => (s.e 19 [15, 17, 5]))
theorem Zx_ok  {p1 : Int} {lo2 : Int} {hi3 : Int} {r : Bool} (hr : Zx p1 lo2 hi3 = some r) :
 FnOk Try.prog 31 [(iv p1), (iv lo2), (iv hi3)] [] (fun (h : Unit) => ((.bool r), [])) := by
 unfold Zx at hr
 refine fn_ok Try.func31 R 15 R R fun C V => ?_
 refine cN V ?_
 refine c_seq (c_region (lB R (l_nil (q_next (c_seq (cQ [(6, (.bool ((decide (p1 ≥ lo2)) && (decide (p1 ≤ hi3)))))] (V) ?_ ?_))))))
 refine c_region (lI R (lI R (lO (vGe R R) (lB R ?_))))
 rcases bo (decide (p1 ≥ lo2)) with hc4 | hc4
 refine lW (wnT hc4) (vI R) (lW (wnT hc4) (vI R) (lW (wnT hc4) (vLe R R) (lO (pAT R hc4 R) (lB R (l_nil ?_)))))
 exact qJ (fun w s => s)
 refine lf (wfF hc4) (lf (wfF hc4) (lf (wfF hc4) (lO (pAF (decide (p1 ≤ hi3)) R hc4) (lB R (l_nil ?_)))))
 exact qJ (fun w s => s)
 rintro σ1
 refine q_next (c_ret ?_)
 obtain rfl := so hr
 exact qF () (fun w s => s)
theorem Z1e_ok {s1 : List Row} {a_2 : Option Addr} {n_2 c_2 : Nat} {r : (List Row)} (hr : Z1e s1 = some r) :
    FnOk Try.prog 71 [(.slice a_2 n_2 c_2)] [rds kT33 (.slice a_2 n_2 c_2) s1] (fun (h : (Option Addr × Nat × Nat)) => ((.slice h.1 h.2.1 h.2.2), [ow (kT33).share 33 (.slice h.1 h.2.1 h.2.2) r])) := by
  unfold Z1e at hr
  obtain ⟨hg, hr⟩ := gd hr
  obtain rfl := Option.some.inj hr
  refine fn_ok Try.func71 rfl 8 rfl rfl fun C V => (c_st (V' := rds kT33 (.slice a_2 n_2 c_2) s1 :: V) (fun w s => s) (c_len 0 sees_rd (fun (hn : n_2 = s1.length) => ?_)))
  subst hn
  refine c_seq (c_region (lS rfl (l_nil (q_next (c_seq (c_seq (c_region (lS rfl (l_v (.bool a_2.isNone) (v_snil sl24 rfl rfl) rfl rfl (l_nil (q_next ?_)))))))))))
  rcases Bool.eq_false_or_eq_true a_2.isNone with ha | ha
  · refine c_true rfl ha ?_
    refine c_nilx 0 sees_rd ha (fun (hx : s1 = []) => ?_)
    subst hx
    refine c_seq (c_region (lS rfl (l_nil (q_next (c_ret (q_ret ?_))))))
    exact q_fin (vs := [(.slice none 0 0)]) (.inl rfl) (none, 0, 0) rfl ⟨rfl, trivial⟩ rfl (fun w s => ((s.nilo (kT33).share 33).sel 2 [0] rfl rfl))
  · refine c_false rfl ha (c_skip (q_next ?_))
    refine c_seq (c_region (l_build (K := (kT33).share) (xs := ([] : List Row)) (vs := []) 0 rfl rfl sl24 sz33 zc33 rfl rfl rfl rfl rfl rfl ?_ rfl (fun a_3 c_3 => ?_)))
    · exact fun I h s => (mS33).list [] I h s
    refine lS rfl (l_app (K := (kT33).share) 2932031007402 rfl rfl sl24 sz33 by33 (Zr.zk (Zr.share zT33) zc33) rfl rfl rfl rfl rfl rfl src_sh (by simpa using hg) (fun a_4 c_4 => (lS rfl (l_nil (q_next (c_ret ?_))))))
    exact q_fin (vs := [(.slice a_4 s1.length c_4)]) (.inl rfl) (a_4, s1.length, c_4) rfl ⟨rfl, trivial⟩ rfl (fun w s => s)
theorem Zn_ok  {p1 : Int} {r : Int} (hr : Zn p1 = some r) :
 FnOk Try.prog 100 [(.int .u64 p1)] [] (fun (h : Unit) => ((iv r), [])) := by
 unfold Zn at hr
 refine fn_ok Try.func100 R 25 R R fun C V => ?_
 refine cN V ?_
 refine c_seq (c_region (lI R (l_nil (q_next (c_seq (c_cut (A := (Int × Int) × (Unit)) (fun a => Zn_J1 a.1.1 a.1.2 = some r) (fun a => [(0, (.int .u64 a.1.1)), (2, (iv a.1.2))]) (fun a => V) ?_ ?_))))))
 refine c_seq (c_region (lI R (lO (vp (.bool (decide (p1 ≥ (4294967296 : Int)))) R) (l_nil (q_next ?_)))))
 rcases bif_ hr with ⟨hb2, hr⟩ | ⟨hb2, hr⟩
 refine c_true R hb2 (c_seq (c_region (lI R (lO (vz (.int .u64 (p1 / 2 ^ (32 : Int).toNat)) (v_shr R R (by decide) (by decide))) (lI R (l_nil (q_next (c_region (lI R (l_nil ?_))))))))))
 exact qI (((p1 / 2 ^ (32 : Int).toNat), (32 : Int)), ()) hr (fun w s => s)
 refine c_false R hb2 (c_skip ?_)
 exact qI ((p1, (0 : Int)), ()) hr (fun w s => s)
 rintro ⟨⟨x3, n4⟩, _⟩ σ1 hr
 replace hr : Zn_J1 x3 n4 = some r := hr
 unfold Zn_J1 at hr
 refine c_seq (c_cut (A := (Int × Int) × (Unit)) (fun a => Zn_J2 a.1.1 a.1.2 = some r) (fun a => [(0, (.int .u64 a.1.1)), (2, (iv a.1.2))]) (fun a => V) ?_ ?_)
 refine c_seq (c_region (lI R (lO (vp (.bool (decide (x3 ≥ (65536 : Int)))) R) (l_nil (q_next ?_)))))
 rcases bif_ hr with ⟨hb5, hr⟩ | ⟨hb5, hr⟩
 refine c_true R hb5 (c_seq (c_region (lI R (lO (vz (.int .u64 (x3 / 2 ^ (16 : Int).toNat)) (v_shr R R (by decide) (by decide))) (lI R (l_nil (q_next (c_region (lI R (lO (vAd R R) (lI R (l_nil ?_))))))))))))
 exact qI (((x3 / 2 ^ (16 : Int).toNat), (w64 (n4 + (16 : Int)))), ()) hr (fun w s => s)
 refine c_false R hb5 (c_skip ?_)
 exact qI ((x3, n4), ()) hr (fun w s => s)
 rintro ⟨⟨x6, n7⟩, _⟩ σ1 hr
 replace hr : Zn_J2 x6 n7 = some r := hr
 unfold Zn_J2 at hr
 refine c_seq (c_cut (A := (Int × Int) × (Unit)) (fun a => Zn_J3 a.1.1 a.1.2 = some r) (fun a => [(0, (.int .u64 a.1.1)), (2, (iv a.1.2))]) (fun a => V) ?_ ?_)
 refine c_seq (c_region (lI R (lO (vp (.bool (decide (x6 ≥ (256 : Int)))) R) (l_nil (q_next ?_)))))
 rcases bif_ hr with ⟨hb8, hr⟩ | ⟨hb8, hr⟩
 refine c_true R hb8 (c_seq (c_region (lI R (lO (vz (.int .u64 (x6 / 2 ^ (8 : Int).toNat)) (v_shr R R (by decide) (by decide))) (lI R (l_nil (q_next (c_region (lI R (lO (vAd R R) (lI R (l_nil ?_))))))))))))
 exact qI (((x6 / 2 ^ (8 : Int).toNat), (w64 (n7 + (8 : Int)))), ()) hr (fun w s => s)
 refine c_false R hb8 (c_skip ?_)
 exact qI ((x6, n7), ()) hr (fun w s => s)
 rintro ⟨⟨x9, n10⟩, _⟩ σ1 hr
 replace hr : Zn_J3 x9 n10 = some r := hr
 unfold Zn_J3 at hr
 refine c_seq ?_
 obtain ⟨hg11, hr⟩ := gd hr
 refine c_region (lI R (lI R (lO (vz (.int .u8 (IntKind.wrap .u8 (x9))) (v_conv un118 un5 R)) (lO (vz (.int .u8 (bt str0 (IntKind.wrap .u8 (x9)))) (v_sindex un9 R R hg11.1 hg11.2)) (lO (vz (iv (w64 ((bt str0 (IntKind.wrap .u8 (x9)))))) (v_conv un5 un3 R)) (lO (vAd R R) (lI R (l_nil (q_next (c_ret ?_))))))))))
 obtain rfl := so hr
 exact qF () (fun w s => s)
theorem Z10_ok  {p1 : Int} {r : Int} (hr : Z10 p1 = some r) :
 FnOk Try.prog 87 [(.int .u64 p1)] [] (fun (h : Unit) => ((iv r), [])) := by
 unfold Z10 at hr
 refine fn_ok Try.func87 R 8 R R fun C V => ?_
 refine cN V ?_
 refine c_seq (c_region (lI R (l_nil (q_next (c_seq (c_false R R (c_skip (q_next (c_seq ?_)))))))))
 obtain ⟨r2, hx3, hr⟩ := bd hr
 refine c_region (lI R (lC 0 cb100 R (Zn_ok hx3) R ?_))
 rintro _
 refine lI R (l_nil (q_next (c_ret ?_)))
 obtain rfl := so hr
 exact qF () (fun w s => s)
theorem Z16_ok  {p1 : Int} {r : Bool} (hr : Z16 p1 = some r) :
 FnOk Try.prog 88 [(iv p1)] [] (fun (h : Unit) => ((.bool r), [])) := by
 unfold Z16 at hr
 refine fn_ok Try.func88 R 6 R R fun C V => ?_
 refine cN V ?_
 refine c_seq (c_region (lB R (l_nil (q_next (c_seq (c_region (lI R (lI R (lO (vNe R R) (lB R (l_nil (q_next (c_ret ?_)))))))))))))
 obtain rfl := so hr
 exact qF () (fun w s => s)
theorem Z0r_ok  {p1 : Int} {y2 : Int} {r : Int} (hr : Z0r p1 y2 = some r) :
 FnOk Try.prog 75 [(iv p1), (iv y2)] [] (fun (h : Unit) => ((iv r), [])) := by
 unfold Z0r at hr
 refine fn_ok Try.func75 R 20 R R fun C V => ?_
 refine cN V ?_
 refine c_seq (c_region (lI R (l_nil (q_next (c_seq ?_)))))
 obtain ⟨r3, hx4, hr⟩ := bd hr
 refine c_region (lI R (lC 0 cb88 R (Z16_ok hx4) R ?_))
 rintro _
 refine lB R (l_nil (q_next (c_seq ?_)))
 obtain ⟨r5, hx6, hr⟩ := bd hr
 refine c_region (lI R (lC 0 cb88 R (Z16_ok hx6) R ?_))
 rintro _
 refine lB R (l_nil (q_next (c_seq (c_seq (c_region (lB R (l_nil (q_next ?_))))))))
 rcases bif_ hr with ⟨hb7, hr⟩ | ⟨hb7, hr⟩
 refine c_true R hb7 (c_seq (c_seq (c_region (lB R (l_nil (q_next ?_))))))
 rcases bif_ hr with ⟨hb8, hr⟩ | ⟨hb8, hr⟩
 refine c_true R hb8 (c_seq (c_region (lI R (l_nil (q_next (c_ret (q_ret (q_ret ?_))))))))
 obtain rfl := so hr
 exact qF () (fun w s => s)
 refine c_false R hb8 (c_skip (q_next (c_seq (c_region (lI R (l_nil (q_next (c_ret (q_ret ?_)))))))))
 obtain rfl := so hr
 exact qF () (fun w s => s)
 refine c_false R hb7 (c_skip (q_next (c_seq (c_seq (c_region (lB R (l_nil (q_next ?_))))))))
 rcases bif_ hr with ⟨hb9, hr⟩ | ⟨hb9, hr⟩
 refine c_true R hb9 (c_seq (c_region (lI R (l_nil (q_next (c_ret (q_ret ?_)))))))
 obtain rfl := so hr
 exact qF () (fun w s => s)
 refine c_false R hb9 (c_skip (q_next (c_seq (c_seq (c_region (lI R (lI R (lO (vLt R R) (l_nil (q_next ?_))))))))))
 rcases bif_ hr with ⟨hb10, hr⟩ | ⟨hb10, hr⟩
 refine c_true R hb10 (c_seq (c_region (lI R (l_nil (q_next (c_ret (q_ret ?_)))))))
 obtain rfl := so hr
 exact qF () (fun w s => s)
 refine c_false R hb10 (c_skip (q_next (c_seq (c_seq (c_region (lI R (lI R (lO (vGt R R) (l_nil (q_next ?_))))))))))
 rcases bif_ hr with ⟨hb11, hr⟩ | ⟨hb11, hr⟩
 refine c_true R hb11 (c_seq (c_region (lI R (l_nil (q_next (c_ret (q_ret ?_)))))))
 obtain rfl := so hr
 exact qF () (fun w s => s)
 refine c_false R hb11 (c_skip (q_next (c_seq (c_region (lI R (l_nil (q_next (c_ret ?_))))))))
 obtain rfl := so hr
 exact qF () (fun w s => s)
theorem Z01_ok  {s11 : (List Int)} {s23 : (List Int)} {r : Int} (hr : Z01 s11 s23 = some r) :
 FnOk Try.prog 76 [(.slice A2 N2 D2), (.slice A4 N4 D4)] [rds kT3 (.slice A2 N2 D2) s11, rds kT3 (.slice A4 N4 D4) s23] (fun (h : Unit) => ((iv r), [])) := by
 unfold Z01 at hr
 refine fn_ok Try.func76 R 36 R R fun C V => ?_
 refine cN (_ :: _ :: V) ?_
 refine cL 0 sees_rd ?_
 rintro rfl
 refine cL 1 sees_rd ?_
 rintro rfl
 let W0 : List HP := RR kT3 A2 D2 s11 :: RR kT3 A4 D4 s23 :: V
 refine cN W0 ?_
 refine c_seq (c_region (lI R (l_nil (q_next (c_seq (c_cut (A := (Unit) × (Unit)) (fun a => Z01_J1 s11 s23 = some r) (fun a => [(0, (sc A2 s11 D2)), (1, (sc A4 s23 D4))]) (fun a => W0) ?_ ?_))))))
 refine c_seq (c_region (lS R (lO (v_len sl29 R) (lI R (l_nil (q_next (c_block ?_)))))))
 obtain ⟨e1, hl1, hk1⟩ := bd hr
 refine c_loop (A := Unit) hl1 (fun s a => [(0, (sc A2 s11 D2)), (1, (sc A4 s23 D4)), (9, (sc A2 s11 D2)), (10, (il s11)), (11, (iv s))]) (fun s a => W0) () (aS R) (fun w s => s) ?_
 rintro x16 _ σ1 out1 hr he1
 replace hr : Z01_L1 s11 s23 x16 = some out1 := hr
 unfold Z01_L1 at hr
 refine c_seq (c_region (lO (vLt R R) (l_nil (q_next (c_seq ?_)))))
 rcases bif_ hr with ⟨hb17, hr⟩ | ⟨hb17, hr⟩
 refine c_true R hb17 (c_skip (q_next (c_seq (c_block (c_seq ?_)))))
 obtain ⟨hg18, hr⟩ := gd hr
 refine c_region (lI R (t_some 0 sees_rd (show 0 < s11.length by have := hg18; omega) (fun g19 o20 ha => ?_)))
 subst ha
 refine lO (vIa sl29 sz3 R R hg18) (lO (vLi 0 ag3 sees_rd R hg18) (lI R (lI R (l_nil (q_next (c_seq (c_seq (c_region (lI R (lS R (lO (v_len sl29 R) (lO (vGe R R) (l_nil (q_next ?_))))))))))))))
 rcases bif_ hr with ⟨hb21, hr⟩ | ⟨hb21, hr⟩
 refine c_true R hb21 (c_seq (c_region (lI R (l_nil (q_next (c_ret (q_ret (q_blockr (q_ret ?_)))))))))
 obtain rfl := so hr
 obtain rfl := he1 _ R
 have hr := hk1
 refine q_ret (q_blockr (q_ret ?_))
 obtain rfl := so hr
 exact qF () (fun w s => (s.e 2 []))
 refine c_false R hb21 (c_skip (q_next (c_seq ?_)))
 obtain ⟨hg22, hr⟩ := gd hr
 refine c_region (lS R (lI R (t_some 1 sees_rd (show 0 < s23.length by have := hg22; omega) (fun g23 o24 ha => ?_))))
 subst ha
 refine lO (vIa sl29 sz3 R R hg22) (lO (vLi 1 ag3 sees_rd R hg22) (lI R (l_nil (q_next (c_seq ?_)))))
 obtain ⟨r25, hx26, hr⟩ := bd hr
 refine c_region (lI R (lI R (lC 0 cb75 R (Z0r_ok hx26) R ?_)))
 rintro _
 refine lI R (l_nil (q_next (c_seq (c_region (lI R (lO (vNe R R) (l_nil (q_next ?_))))))))
 rcases bif_ hr with ⟨hb27, hr⟩ | ⟨hb27, hr⟩
 refine c_true R hb27 (c_seq (c_region (lI R (lI R (l_nil (q_next (c_ret (q_blockr (q_ret ?_)))))))))
 obtain rfl := so hr
 obtain rfl := he1 _ R
 have hr := hk1
 refine q_ret (q_blockr (q_ret ?_))
 obtain rfl := so hr
 exact qF () (fun w s => (s.e 2 []))
 refine c_false R hb27 (c_skip (q_blockn (q_next (c_region (lO (vAd R R) (lI R (l_nil ?_)))))))
 obtain rfl := so hr
 exact qA () (fun w s => s)
 refine c_false R hb17 (c_exit (q_exit ?_))
 obtain rfl := so hr
 obtain rfl := he1 _ R
 have hr := hk1
 refine q_exit (q_block ?_)
 exact qI ((), ()) hr (fun w s => s)
 rintro ⟨_, _⟩ σ1 hr
 replace hr : Z01_J1 s11 s23 = some r := hr
 unfold Z01_J1 at hr
 refine c_seq (c_seq (c_region (lS R (lO (v_len sl29 R) (lS R (lO (v_len sl29 R) (lO (vLt R R) (l_nil (q_next ?_)))))))))
 rcases bif_ hr with ⟨hb29, hr⟩ | ⟨hb29, hr⟩
 refine c_true R hb29 (c_seq (c_region (lI R (l_nil (q_next (c_ret (q_ret ?_)))))))
 obtain rfl := so hr
 exact qF () (fun w s => (s.e 2 []))
 refine c_false R hb29 (c_skip (q_next (c_seq (c_region (lI R (l_nil (q_next (c_ret ?_))))))))
 obtain rfl := so hr
 exact qF () (fun w s => (s.e 2 []))
end Go.Proofs.Ytkfgngcfcoplpaa
