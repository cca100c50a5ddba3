import Derived.Test.YtkfgngcfcoplpaaGuW5
set_option linter.unusedVariables false
set_option maxRecDepth 20000
namespace Go.Proofs.Ytkfgngcfcoplpaa
open Go Go.Pg
variable {A2 A4 A7 : Option Addr} {D2 D4 D7 N2 N4 N7 : Nat}
theorem Z09_ok  {a1 : (List Row)} {k3 : Int} {r : Int × (List Row)} (hr : Z09 a1 k3 = some r) :
 FnOk Try.prog 47 [(.slice A2 N2 D2), (iv k3)] [ow kT33 33 (.slice A2 N2 D2) a1] (fun (h : Unit) => ((iv r.1), [ow kT33 33 (.slice A2 N2 D2) r.2])) := by
 unfold Z09 at hr
 refine fn_ok Try.func47 R 27 R R fun C V => ?_
 refine cN (_ :: V) ?_
 refine cL 0 sees_ow ?_
 rintro rfl
 refine c_seq (c_region (lI R (l_nil (q_next (c_seq (c_cut (A := (Int × (List Row)) × (Unit)) (fun a => Z09_J1 a.1.1 a.1.2 = some r) (fun a => [(1, (iv a.1.1))]) (fun a => ow kT33 33 (.slice A2 a1.length D2) a.1.2 :: V) ?_ ?_))))))
 refine c_seq (c_region (lI R (l_nil (q_next (c_block ?_)))))
 obtain ⟨e1, hl1, hk1⟩ := bd hr
 refine c_loop (A := Unit) hl1 (fun s a => [(0, (sc A2 a1 D2)), (1, (iv s.2.1)), (5, (iv s.2.2))]) (fun s a => ow kT33 33 (.slice A2 a1.length D2) s.1 :: V) () (aS R) (fun w s => s) ?_
 rintro ⟨a20, k21, i22⟩ _ σ1 out1 hr he1
 replace hr : Z09_L1 a1 a20 k21 i22 = some out1 := hr
 unfold Z09_L1 at hr
 refine c_seq (c_seq (c_region (lI R (lS R (lO (v_len sl24 R) (lO (vLt R R) (l_nil (q_next ?_))))))))
 rcases bif_ hr with ⟨hb23, hr⟩ | ⟨hb23, hr⟩
 refine c_true R hb23 (c_skip (q_next (c_seq (c_block (c_seq ?_)))))
 obtain ⟨hg24, hr⟩ := gd hr
 obtain ⟨r29, hx30, hr⟩ := bd hr
 refine c_region (lS R (lI R (t_some 0 sees_ow (show 0 < a1.length by have := hg24; omega) (fun g25 o26 ha => ?_))))
 subst ha
 refine lO (vIa sl24 sz33 R R hg24) (lO (vz (.pointer (some ⟨g25, o26 + i22.toNat * 2, none⟩)) (v_fa fo33_0 R R)) (t_focus (K := kT33) sP33 0 i22 R hg24.1 hg24.2 ?_))
 rintro ⟨⟨A27, D27⟩, ⟨A28, D28⟩⟩
 refine lN (hol kT33 33 (.slice (ad g25 o26) a1.length D2) a20 i22.toNat [(sc A27 ((ix a20 i22).Key) D27), (sc A28 ((ix a20 i22).Weights) D28)] :: OO kT3 3 A27 D27 ((ix a20 i22).Key) :: OO kT3 3 A28 D28 ((ix a20 i22).Weights) :: V) ?_
 refine lO (v_holf (fo := 0) 0 ag29 R R R) (lI R (lM (ow _ _ _ _ :: hol _ _ _ _ _ _ :: ow _ _ _ _ :: V) (fun w s => (s.e 3 [1, 0, 2])) ?_))
 refine lC 1 cb18 R (Zm_ok hx30) R ?_
 rintro _
 refine lN (ow kT3 3 (.slice A27 ((ix a20 i22).Key).length D27) r29.2 :: _ :: _ :: V) ?_
 refine lI R (l_nil (qM (ow kT33 33 (.slice (ad g25 o26) a1.length D2) (a20.set i22.toNat (⟨r29.2, (ix a20 i22).Weights⟩ : Row)) :: V) (fun w s => St.unfocus (E := [ow kT3 3 (.slice A27 ((ix a20 i22).Key).length D27) r29.2, OO kT3 3 A28 D28 ((ix a20 i22).Weights)]) (⟨r29.2, (ix a20 i22).Weights⟩ : Row) (s.e 3 [1, 0, 2]) ?_) ?_))
 exact fun I h s => (mO33).put I h ((sc A27 ((ix a20 i22).Key) D27), (sc A28 ((ix a20 i22).Weights) D28)) (⟨r29.2, (ix a20 i22).Weights⟩ : Row) s
 refine q_next ?_
 obtain ⟨r33, hx34, hr⟩ := bd hr
 refine c_region (lS R (lI R (lO (vIa sl24 sz33 R R hg24) (lO (vz (.pointer (some ⟨g25, o26 + i22.toNat * 2 + 1, none⟩)) (v_fa fo33_1 R R)) (t_focus (K := kT33) sP33 0 i22 R hg24.1 hg24.2 ?_)))))
 rintro ⟨⟨A31, D31⟩, ⟨A32, D32⟩⟩
 refine lN (hol kT33 33 (.slice (ad g25 o26) a1.length D2) (a20.set i22.toNat (⟨r29.2, (ix a20 i22).Weights⟩ : Row)) i22.toNat [(sc A31 ((ix (a20.set i22.toNat (⟨r29.2, (ix a20 i22).Weights⟩ : Row)) i22).Key) D31), (sc A32 ((ix (a20.set i22.toNat (⟨r29.2, (ix a20 i22).Weights⟩ : Row)) i22).Weights) D32)] :: OO kT3 3 A31 D31 ((ix (a20.set i22.toNat (⟨r29.2, (ix a20 i22).Weights⟩ : Row)) i22).Key) :: OO kT3 3 A32 D32 ((ix (a20.set i22.toNat (⟨r29.2, (ix a20 i22).Weights⟩ : Row)) i22).Weights) :: V) ?_
 refine lO (v_holf (fo := 1) 0 ag29 R R R) (lI R (lM (ow _ _ _ _ :: hol _ _ _ _ _ _ :: ow _ _ _ _ :: V) (fun w s => (s.e 3 [2, 0, 1])) ?_))
 refine lC 1 cb18 R (Zm_ok hx34) R ?_
 rintro _
 refine lN (ow kT3 3 (.slice A32 ((ix (a20.set i22.toNat (⟨r29.2, (ix a20 i22).Weights⟩ : Row)) i22).Weights).length D32) r33.2 :: _ :: _ :: V) ?_
 refine lI R (l_nil (qM (ow kT33 33 (.slice (ad g25 o26) a1.length D2) ((a20.set i22.toNat (⟨r29.2, (ix a20 i22).Weights⟩ : Row)).set i22.toNat (⟨(ix (a20.set i22.toNat (⟨r29.2, (ix a20 i22).Weights⟩ : Row)) i22).Key, r33.2⟩ : Row)) :: V) (fun w s => St.unfocus (E := [OO kT3 3 A31 D31 ((ix (a20.set i22.toNat (⟨r29.2, (ix a20 i22).Weights⟩ : Row)) i22).Key), ow kT3 3 (.slice A32 ((ix (a20.set i22.toNat (⟨r29.2, (ix a20 i22).Weights⟩ : Row)) i22).Weights).length D32) r33.2]) (⟨(ix (a20.set i22.toNat (⟨r29.2, (ix a20 i22).Weights⟩ : Row)) i22).Key, r33.2⟩ : Row) (s.e 3 [1, 2, 0]) ?_) ?_))
 exact fun I h s => (mO33).put I h ((sc A31 ((ix (a20.set i22.toNat (⟨r29.2, (ix a20 i22).Weights⟩ : Row)) i22).Key) D31), (sc A32 ((ix (a20.set i22.toNat (⟨r29.2, (ix a20 i22).Weights⟩ : Row)) i22).Weights) D32)) (⟨(ix (a20.set i22.toNat (⟨r29.2, (ix a20 i22).Weights⟩ : Row)) i22).Key, r33.2⟩ : Row) s
 obtain ⟨l35, hl36, hr⟩ := bd hr
 replace hl36 := Option.some.inj hl36
 refine qM (ow kT33 33 (.slice (ad g25 o26) a1.length D2) l35 :: V) (fun w s => by rw [← hl36]; exact s) ?_
 refine q_blockn (q_next (c_region (lI R (lO (vAd R R) (lI R (l_nil ?_))))))
 obtain rfl := so hr
 exact qA () (fun w s => s)
 refine c_false R hb23 (c_exit (q_exit ?_))
 obtain rfl := so hr
 obtain rfl := he1 _ R
 have hr := hk1
 refine q_exit (q_block ?_)
 exact qI ((k21, a20), ()) hr (fun w s => s)
 rintro ⟨⟨k40, p41⟩, _⟩ σ1 hr
 replace hr : Z09_J1 k40 p41 = some r := hr
 unfold Z09_J1 at hr
 refine c_seq (c_region (lI R (lI R (l_nil (q_next (c_ret ?_))))))
 obtain rfl := so hr
 exact qF () (fun w s => s)
theorem Z14_ok  {a1 : Lm} {k3 : Int} {r : Int × (List Row)} (hr : Z14 a1 k3 = some r) :
 FnOk Try.prog 17 [(.agg [(iv a1.Size), (.slice A2 N2 D2)].toArray), (iv k3)] [ow kT33 33 (.slice A2 N2 D2) a1.Rows] (fun (h : Unit) => ((iv r.1), [ow kT33 33 (.slice A2 N2 D2) r.2])) := by
 unfold Z14 at hr
 refine fn_ok Try.func17 R 10 R R fun C V => ?_
 refine cN (_ :: V) ?_
 refine cL 0 sees_ow ?_
 rintro rfl
 refine c_seq (c_region (lBx R (fun b4 => (lI R (l_nil (qM (ow _ _ _ _ :: bxl _ _ _ :: V) (fun w s => (s.e 2 [1, 0])) ?_))))))
 let W1 : List HP := bxl b4 [(iv a1.Size), (sc A2 a1.Rows D2)] 26 :: V
 refine qN (_ :: W1) ?_
 refine q_next (c_seq ?_)
 obtain ⟨r5, hx6, hr⟩ := bd hr
 refine c_region (lO (vFa 1 fo26_1 R) (lO (vLd 1 ag24 R R R) (lI R (lC 1 cb47 R (Z09_ok hx6) R ?_))))
 rintro _
 refine lN (ow kT33 33 (.slice A2 a1.Rows.length D2) r5.2 :: W1) ?_
 refine lI R (l_nil (q_next (c_seq (c_region (lI R (lI R (l_nil (q_next (c_ret ?_)))))))))
 obtain rfl := so hr
 exact qF () (fun w s => (s.e 2 [0]))
theorem Z00_ok  {a1 : (List Int)} {k3 : Int} {r : Int} (hr : Z00 a1 k3 = some r) :
 FnOk Try.prog 19 [(.slice A2 N2 D2), (iv k3)] [rds kT3 (.slice A2 N2 D2) a1] (fun (h : Unit) => ((iv r), [])) := by
 unfold Z00 at hr
 refine fn_ok Try.func19 R 21 R R fun C V => ?_
 refine cN (_ :: V) ?_
 refine cL 0 sees_rd ?_
 rintro rfl
 let W0 : List HP := RR kT3 A2 D2 a1 :: V
 refine cN W0 ?_
 refine c_seq (c_region (lI R (l_nil (q_next (c_seq (c_cut (A := (Int) × (Unit)) (fun a => Z00_J1 a.1 = some r) (fun a => [(1, (iv a.1))]) (fun a => W0) ?_ ?_))))))
 refine c_seq (c_region (lI R (l_nil (q_next (c_block ?_)))))
 obtain ⟨e1, hl1, hk1⟩ := bd hr
 refine c_loop (A := Unit) hl1 (fun s a => [(0, (sc A2 a1 D2)), (1, (iv s.1)), (5, (iv s.2))]) (fun s a => W0) () (aS R) (fun w s => s) ?_
 rintro ⟨k9, i10⟩ _ σ1 out1 hr he1
 replace hr : Z00_L1 a1 k9 i10 = some out1 := hr
 unfold Z00_L1 at hr
 refine c_seq (c_seq (c_region (lI R (lS R (lO (v_len sl29 R) (lO (vLt R R) (l_nil (q_next ?_))))))))
 rcases bif_ hr with ⟨hb11, hr⟩ | ⟨hb11, hr⟩
 refine c_true R hb11 (c_skip (q_next (c_seq (c_block (c_seq (c_seq ?_))))))
 obtain ⟨hg12, hr⟩ := gd hr
 refine c_region (lS R (lI R (t_some 0 sees_rd (show 0 < a1.length by have := hg12; omega) (fun g13 o14 ha => ?_))))
 subst ha
 refine lO (vIa sl29 sz3 R R hg12) (lO (vLi 0 ag3 sees_rd R hg12) (lI R (lO (vNe R R) (l_nil (q_next ?_)))))
 rcases bif_ hr with ⟨hb15, hr⟩ | ⟨hb15, hr⟩
 refine c_true R hb15 (c_seq (c_region (lI R (l_nil (q_next (c_ret (q_ret (q_blockr (q_ret ?_)))))))))
 obtain rfl := so hr
 obtain rfl := he1 _ R
 have hr := hk1
 refine q_ret (q_blockr (q_ret ?_))
 obtain rfl := so hr
 exact qF () (fun w s => (s.e 1 []))
 refine c_false R hb15 (c_skip (q_next (c_region (lI R (lO (vAd R R) (lI R (l_nil (q_blockn (q_next (c_region (lI R (lO (vAd R R) (lI R (l_nil ?_))))))))))))))
 obtain rfl := so hr
 exact qA () (fun w s => s)
 refine c_false R hb11 (c_exit (q_exit ?_))
 obtain rfl := so hr
 obtain rfl := he1 _ R
 have hr := hk1
 refine q_exit (q_block ?_)
 exact qI (k9, ()) hr (fun w s => s)
 rintro ⟨k18, _⟩ σ1 hr
 replace hr : Z00_J1 k18 = some r := hr
 unfold Z00_J1 at hr
 refine c_seq (c_region (lI R (lI R (l_nil (q_next (c_ret ?_))))))
 obtain rfl := so hr
 exact qF () (fun w s => (s.e 1 []))
theorem Z1k_ok  {aM1 : Lm} {aDraft3 : Lm} {aC5 : Choice} {aPrompt6 : (List Int)} {aN8 : Int} {aSeed9 : Int} {aAhead10 : Int} {r : Bool} (hr : Z1k aM1 aDraft3 aC5 aPrompt6 aN8 aSeed9 aAhead10 = some r) :
 FnOk Try.prog 4 [(.agg [(iv aM1.Size), (.slice A2 N2 D2)].toArray), (.agg [(iv aDraft3.Size), (.slice A4 N4 D4)].toArray), (.agg [(iv aC5.Power), (iv aC5.Cut), (iv aC5.Mass)].toArray), (.slice A7 N7 D7), (iv aN8), (iv aSeed9), (iv aAhead10)] [rds kT89 (.slice A2 N2 D2) aM1.Rows, rds kT89 (.slice A4 N4 D4) aDraft3.Rows, rds kT3 (.slice A7 N7 D7) aPrompt6] (fun (h : Unit) => ((.bool r), [])) := by
 unfold Z1k at hr
 refine fn_ok Try.func4 R 163 R R fun C V => ?_
 refine cN (_ :: _ :: _ :: V) ?_
 refine cL 0 sees_rd ?_
 rintro rfl
 refine cL 1 sees_rd ?_
 rintro rfl
 refine cL 2 sees_rd ?_
 rintro rfl
 let W0 : List HP := RR kT89 A2 D2 aM1.Rows :: RR kT89 A4 D4 aDraft3.Rows :: RR kT3 A7 D7 aPrompt6 :: V
 refine cN W0 ?_
 refine c_seq (c_region (lBx R (fun b11 => (lBx R (fun b12 => (lBx R (fun b13 => (lB R (l_nil ?_)))))))))
 let W1 : List HP := bxl b13 [(iv aC5.Power), (iv aC5.Cut), (iv aC5.Mass)] 41 :: bxl b12 [(iv aDraft3.Size), (sc A4 aDraft3.Rows D4)] 40 :: bxl b11 [(iv aM1.Size), (sc A2 aM1.Rows D2)] 40 :: W0
 refine qN W1 ?_
 refine q_next (c_seq (c_seq (c_region (lS R (lO (v_len sl29 R) (lO (vGt R R) (l_nil (q_next ?_))))))))
 rcases bif_ hr with ⟨hb14, hr⟩ | ⟨hb14, hr⟩
 refine c_true R hb14 (c_seq (c_region (lB R (l_nil (q_next (c_ret (q_ret ?_)))))))
 obtain rfl := so hr
 exact qF () (fun w s => (s.e 6 []))
 refine c_false R hb14 (c_skip (q_next (c_seq (c_region (lI R (l_nil (q_next (c_seq ?_))))))))
 obtain ⟨r15, hx16, hr⟩ := bd hr
 refine c_region (lO (vz (.agg [(iv aM1.Size), (sc A2 aM1.Rows D2)].toArray) (v_loadw 2 ag40 sz40 R R R R)) (lI R (lM (RR kT89 A2 D2 aM1.Rows :: W1) (fun w s => (s.d 3 R)) ?_)))
 refine lC 1 cb11 R (Z0z_ok hx16) R ?_
 rintro _
 refine lN W1 ?_
 refine lI R (l_nil (q_next (c_seq (c_seq (c_region (lI R (lO (vLt R R) (l_nil (q_next ?_)))))))))
 rcases bif_ hr with ⟨hb17, hr⟩ | ⟨hb17, hr⟩
 refine c_true R hb17 (c_seq (c_region (lB R (l_nil (q_next (c_ret (q_ret ?_)))))))
 obtain rfl := so hr
 exact qF () (fun w s => (s.e 6 []))
 refine c_false R hb17 (c_skip (q_next (c_seq ?_)))
 obtain ⟨r18, hx19, hr⟩ := bd hr
 refine c_region (lO (vz (.agg [(iv aDraft3.Size), (sc A4 aDraft3.Rows D4)].toArray) (v_loadw 1 ag40 sz40 R R R R)) (lI R (lM (RR kT89 A4 D4 aDraft3.Rows :: W1) (fun w s => (s.d 4 R)) ?_)))
 refine lC 1 cb11 R (Z0z_ok hx19) R ?_
 rintro _
 refine lN W1 ?_
 refine lI R (l_nil (q_next (c_seq (c_seq (c_region (lI R (lO (vLt R R) (l_nil (q_next ?_)))))))))
 rcases bif_ hr with ⟨hb20, hr⟩ | ⟨hb20, hr⟩
 refine c_true R hb20 (c_seq (c_region (lB R (l_nil (q_next (c_ret (q_ret ?_)))))))
 obtain rfl := so hr
 exact qF () (fun w s => (s.e 6 []))
 refine c_false R hb20 (c_skip (q_next (c_seq ?_)))
 obtain ⟨r21, hx22, hr⟩ := bd hr
 obtain ⟨r24, hx25, hr⟩ := bd hr
 obtain ⟨r27, hx28, hr⟩ := bd hr
 obtain ⟨r29, hx30, hr⟩ := bd hr
 obtain ⟨r32, hx33, hr⟩ := bd hr
 refine cdr 17 [] mixo (fun ht hn => (dR 0 R (vz (.agg [(iv aM1.Size), (sc A2 aM1.Rows D2)].toArray) (v_loadw 2 ag40 sz40 R R R R)) (dR 2 R (vz (.agg [(iv aDraft3.Size), (sc A4 aDraft3.Rows D4)].toArray) (v_loadw 1 ag40 sz40 R R R R)) (dR 4 R (vz (.agg [(iv aC5.Power), (iv aC5.Cut), (iv aC5.Mass)].toArray) (v_loadw 0 ag41 sz41 R R R R)) (dR 6 R (vS R) (dR 8 R (vI R) (dR 9 R (vI R) (dR 10 R (vI R) (d1 1 R (lM (RR kT89 A2 D2 aM1.Rows :: W1) (fun w s => (s.d 3 R)) ?_))))))))))
 refine lC 1 cb12 R (Z08_ok hx22) R ?_
 rintro ⟨A23, N23, D23⟩
 refine lN (ow kT33 33 (.slice A23 N23 D23) r21.Rows :: W1) ?_
 refine l_len 0 sees_ow ?_
 rintro rfl
 refine l_nil (q_draw (sL [0]) (d1 3 R (lM (RR kT89 A4 D4 aDraft3.Rows :: _ :: W1) (fun w s => (s.d 5 R)) ?_)))
 refine lC 1 cb12 R (Z08_ok hx25) R ?_
 rintro ⟨A26, N26, D26⟩
 refine lN (ow kT33 33 (.slice A26 N26 D26) r24.Rows :: _ :: W1) ?_
 refine l_len 0 sees_ow ?_
 rintro rfl
 refine l_nil (q_draw (sL [1, 0]) (d1 5 R (lC 0 cb13 R (Z0u_ok hx28) R ?_)))
 rintro _
 refine l_nil (q_draw (sL [1, 0]) (d1 7 R (lM (RR kT3 A7 D7 aPrompt6 :: _ :: _ :: W1) (fun w s => (s.d 7 R)) ?_)))
 refine lC 1 cb14 R (Zg_ok hx30) R ?_
 rintro ⟨A31, N31, D31⟩
 refine lN (ow kT3 3 (.slice A31 N31 D31) r29 :: _ :: _ :: W1) ?_
 refine l_len 0 sees_ow ?_
 rintro rfl
 refine l_nil (q_draw (sL [2, 1, 0]) (d1 11 R (l_st (fun w s => s.shr 2 R) (l_st (fun w s => s.shr 2 R) (l_st (fun w s => s.shr 2 R) (lM (RR kT33 A23 D23 r21.Rows :: RR kT33 A26 D26 r24.Rows :: RR kT3 A31 D31 r29 :: RR kT3 A31 D31 r29 :: RR kT33 A26 D26 r24.Rows :: RR kT33 A23 D23 r21.Rows :: W1) (fun w s => ((((s.d 2 R).d 2 R).d 2 R).e 6 [2, 1, 0, 3, 4, 5])) ?_))))))
 refine lC 3 cb9 R (Z9_ok hx33) R ?_
 rintro ⟨A34, N34, D34⟩
 refine lN (rds kT3 (.slice A34 N34 D34) r32.1 :: _ :: _ :: _ :: W1) ?_
 refine l_len 0 sees_rd ?_
 rintro rfl
 refine l_nil (q_draw (sL [3, 2, 1, 0]) (dR 12 R (vT R) (hS := (sL [3, 2, 1, 0])) (dR 13 R (vS R) (hS := (sL [3, 2, 1, 0])) (dR 14 R (vI R) (hS := (sL [3, 2, 1, 0])) (dR 15 R (vS R) (hS := (sL [3, 2, 1, 0])) (dR 16 R (vI R) (hS := (sL [3, 2, 1, 0])) (dD (q_next (c_seq ?_)))))))))
 obtain ⟨r35, hx36, hr⟩ := bd hr
 refine c_region (lO (vz (.agg [(iv aM1.Size), (sc A2 aM1.Rows D2)].toArray) (v_loadw 6 ag40 sz40 R R R R)) (lM (RR kT89 A2 D2 aM1.Rows :: _ :: _ :: _ :: _ :: W1) (fun w s => (s.d 7 R)) ?_))
 refine lC 1 cb12 R (Z08_ok hx36) R ?_
 rintro ⟨A37, N37, D37⟩
 refine lN (ow kT33 33 (.slice A37 N37 D37) r35.Rows :: _ :: _ :: _ :: _ :: W1) ?_
 refine l_len 0 sees_ow ?_
 rintro rfl
 refine l_alloc R R zc26 (fun b38 => (l_stores 0 R R sz26 R R R R R R (lN (bxl b38 [(iv r35.Size), (sc A37 r35.Rows D37)] 26 :: _ :: _ :: _ :: _ :: _ :: W1) ?_)))
 refine l_nil (q_next (c_seq ?_))
 obtain ⟨r39, hx40, hr⟩ := bd hr
 refine c_region (lO (vz (.agg [(iv aDraft3.Size), (sc A4 aDraft3.Rows D4)].toArray) (v_loadw 7 ag40 sz40 R R R R)) (lM (RR kT89 A4 D4 aDraft3.Rows :: _ :: _ :: _ :: _ :: _ :: _ :: W1) (fun w s => (s.d 10 R)) ?_))
 refine lC 1 cb12 R (Z08_ok hx40) R ?_
 rintro ⟨A41, N41, D41⟩
 refine lN (ow kT33 33 (.slice A41 N41 D41) r39.Rows :: _ :: _ :: _ :: _ :: _ :: _ :: W1) ?_
 refine l_len 0 sees_ow ?_
 rintro rfl
 refine l_alloc R R zc26 (fun b42 => (l_stores 0 R R sz26 R R R R R R (lN (bxl b42 [(iv r39.Size), (sc A41 r39.Rows D41)] 26 :: _ :: _ :: _ :: _ :: _ :: _ :: _ :: W1) ?_)))
 refine l_nil (q_next (c_seq ?_))
 obtain ⟨r43, hx44, hr⟩ := bd hr
 refine c_region (lS R (lM (RR kT3 A7 D7 aPrompt6 :: _ :: _ :: _ :: _ :: _ :: _ :: _ :: _ :: W1) (fun w s => (s.d 13 R)) ?_))
 refine lC 1 cb14 R (Zg_ok hx44) R ?_
 rintro ⟨A45, N45, D45⟩
 refine lN (ow kT3 3 (.slice A45 N45 D45) r43 :: _ :: _ :: _ :: _ :: _ :: _ :: _ :: _ :: W1) ?_
 refine l_len 0 sees_ow ?_
 rintro rfl
 refine lS R (l_nil (q_next (c_seq ?_)))
 obtain ⟨r46, hx47, hr⟩ := bd hr
 obtain ⟨r48, hx49, hr⟩ := bd hr
 refine cdr 14 [] mixo (fun ht hn => (dR 0 R (vz (.agg [(iv r35.Size), (sc A37 r35.Rows D37)].toArray) (v_loadw 3 ag26 sz26 R R R R)) (dR 1 R (vz (.agg [(iv r39.Size), (sc A41 r39.Rows D41)].toArray) (v_loadw 1 ag26 sz26 R R R R)) (dR 2 R (vz (.agg [(iv aC5.Power), (iv aC5.Cut), (iv aC5.Mass)].toArray) (v_loadw 9 ag41 sz41 R R R R)) (dR 4 R (vS R) (dR 5 R (vI R) (dR 6 R (vI R) (dR 7 R (vI R) (d1 3 R (lC 0 cb13 R (Z0u_ok hx47) R ?_))))))))))
 rintro _
 refine l_nil (q_draw (sL []) (d1 8 R (lM (ow _ _ _ _ :: ow _ _ _ _ :: ow _ _ _ _ :: bxl _ _ _ :: bxl _ _ _ :: rds _ _ _ :: rds _ _ _ :: rds _ _ _ :: rds _ _ _ :: W1) (fun w s => (s.e 9 [4, 2, 0, 1, 3, 5, 6, 7, 8])) ?_)))
 refine lC 3 cb7 R (FnOk.lends (A' := [OO kT33 33 A37 D37 r35.Rows, OO kT33 33 A41 D41 r39.Rows, OO kT3 3 A45 D45 r43]) (A := [RR kT33 A37 D37 r35.Rows, RR kT33 A41 D41 r39.Rows, RR kT3 A45 D45 r43]) (B := []) (Z4_ok hx49) ⟨lend_ow, lend_ow, lend_ow, trivial⟩ (fun _ => ⟨(closed_ow cT3), trivial⟩)) R ?_
 rintro ⟨A50, N50, D50⟩
 refine lN (_ :: _ :: _ :: ow kT3 3 (.slice A50 N50 D50) r48.1 :: _ :: _ :: _ :: _ :: _ :: _ :: W1) ?_
 refine l_len 3 sees_ow ?_
 rintro rfl
 refine l_nil (q_draw (fun w s => (s.e 10 [2, 4, 1, 5, 0, 6, 7, 8, 9])) (dR 9 R (vT R) (hS := (fun w s => (s.e 10 [2, 4, 1, 5, 0, 6, 7, 8, 9]))) (dR 10 R (vS R) (hS := (fun w s => (s.e 10 [2, 4, 1, 5, 0, 6, 7, 8, 9]))) (dR 11 R (vI R) (hS := (fun w s => (s.e 10 [2, 4, 1, 5, 0, 6, 7, 8, 9]))) (dR 12 R (vS R) (hS := (fun w s => (s.e 10 [2, 4, 1, 5, 0, 6, 7, 8, 9]))) (dR 13 R (vI R) (hS := (fun w s => (s.e 10 [2, 4, 1, 5, 0, 6, 7, 8, 9]))) (dD (q_next (c_seq (c_seq ?_))))))))))
 obtain ⟨r51, hx52, hr⟩ := bd hr
 refine cQ [(3, (sc A7 aPrompt6 D7)), (4, (iv aN8)), (5, (iv aSeed9)), (6, (iv aAhead10)), (7, (pt b11 0)), (8, (pt b12 0)), (9, (pt b13 0)), (16, (sc A34 r32.1 D34)), (17, (iv r32.2)), (18, (pt b38 0)), (19, (pt b42 0)), (20, (sc A45 r43 D45)), (21, (sc A50 r48.1 D50)), (22, (iv r48.2)), (82, (.bool ((!r51) || (r48.2 != r32.2))))] (RR kT3 A34 D34 r32.1 :: bxl b38 [(iv r35.Size), (sc A37 r35.Rows D37)] 26 :: OO kT33 33 A37 D37 r35.Rows :: bxl b42 [(iv r39.Size), (sc A41 r39.Rows D41)] 26 :: OO kT33 33 A41 D41 r39.Rows :: OO kT3 3 A45 D45 r43 :: OO kT3 3 A50 D50 r48.1 :: W1) ?_ ?_
 refine c_region (lS R (lS R (lM (ow _ _ _ _ :: rds _ _ _ :: ow _ _ _ _ :: ow _ _ _ _ :: ow _ _ _ _ :: bxl _ _ _ :: bxl _ _ _ :: rds _ _ _ :: rds _ _ _ :: rds _ _ _ :: rds _ _ _ :: W1) (fun w s => ((s.d 6 R).f 11 [4, 1, 0, 4, 5, 6])) ?_)))
 refine lC 2 cb15 R (FnOk.lends (A' := [OO kT3 3 A50 D50 r48.1]) (A := [RR kT3 A50 D50 r48.1]) (B := [RR kT3 A34 D34 r32.1]) (Zs_ok hx52) ⟨lend_ow, trivial⟩ (fun _ => trivial)) R ?_
 rintro _
 refine lN (_ :: _ :: _ :: _ :: _ :: _ :: _ :: _ :: _ :: _ :: W1) ?_
 refine lO (vNo R) (lB R ?_)
 rcases bo (!r51) with hc53 | hc53
 refine lf (wfT hc53) (lf (wfT hc53) (lf (wfT hc53) (lO (pOT (r48.2 != r32.2) R hc53) (l_nil ?_))))
 exact qJ (fun w s => (s.e 10 [6, 5, 1, 4, 2, 3, 0]))
 refine lW (wnF hc53) (vI R) (lW (wnF hc53) (vI R) (lW (wnF hc53) (vNe R R) (lO (pOF R hc53 R) (l_nil ?_))))
 exact qJ (fun w s => (s.e 10 [6, 5, 1, 4, 2, 3, 0]))
 rintro σ1
 refine q_next ?_
 rcases bif_ hr with ⟨hb54, hr⟩ | ⟨hb54, hr⟩
 refine c_true R hb54 (c_seq (c_region (lB R (l_nil (q_next (c_ret (q_ret ?_)))))))
 obtain rfl := so hr
 exact qF () (fun w s => (s.e 13 []))
 refine c_false R hb54 (c_skip (q_next (c_seq (c_seq ?_))))
 obtain ⟨r55, hx56, hr⟩ := bd hr
 obtain ⟨r58, hx59, hr⟩ := bd hr
 refine cdr 5 [] mixo (fun ht hn => (dR 0 R (vz (.agg [(iv r35.Size), (sc A37 r35.Rows D37)].toArray) (v_loadw 1 ag26 sz26 R R R R)) (dR 1 R (vz (.agg [(iv aM1.Size), (sc A2 aM1.Rows D2)].toArray) (v_loadw 9 ag40 sz40 R R R R)) (d1 2 R (lM (RR kT89 A2 D2 aM1.Rows :: _ :: _ :: _ :: _ :: _ :: _ :: _ :: W1) (fun w s => (s.d 10 R)) ?_)))))
 refine lC 1 cb12 R (Z08_ok hx56) R ?_
 rintro ⟨A57, N57, D57⟩
 refine lN (ow kT33 33 (.slice A57 N57 D57) r55.Rows :: _ :: _ :: _ :: _ :: _ :: _ :: _ :: W1) ?_
 refine l_len 0 sees_ow ?_
 rintro rfl
 refine l_nil (q_draw (sL [0]) (d1 3 R (lM (ow _ _ _ _ :: ow _ _ _ _ :: rds _ _ _ :: bxl _ _ _ :: bxl _ _ _ :: ow _ _ _ _ :: ow _ _ _ _ :: ow _ _ _ _ :: W1) (fun w s => (s.f 8 [3, 1, 0, 3, 4, 4])) ?_)))
 refine lC 2 cb16 R (FnOk.lends (A' := [OO kT33 33 A37 D37 r35.Rows, OO kT33 33 A57 D57 r55.Rows]) (A := [RR kT33 A37 D37 r35.Rows, RR kT33 A57 D57 r55.Rows]) (B := []) (Z11_ok hx59) ⟨lend_ow, lend_ow, trivial⟩ (fun _ => trivial)) R ?_
 rintro _
 refine l_nil (q_draw (fun w s => (s.f 8 [2, 2, 0, 1, 4, 4])) (dR 4 R (vNo R) (hS := (fun w s => (s.f 8 [2, 2, 0, 1, 4, 4]))) (dD (q_next ?_))))
 rcases bif_ hr with ⟨hb60, hr⟩ | ⟨hb60, hr⟩
 refine c_true R hb60 (c_seq (c_region (lB R (l_nil (q_next (c_ret (q_ret ?_)))))))
 obtain rfl := so hr
 exact qF () (fun w s => (s.e 14 []))
 refine c_false R hb60 (c_skip (q_next (c_seq (c_seq ?_))))
 obtain ⟨r61, hx62, hr⟩ := bd hr
 obtain ⟨r64, hx65, hr⟩ := bd hr
 refine cdr 5 [] mixo (fun ht hn => (dR 0 R (vz (.agg [(iv r39.Size), (sc A41 r39.Rows D41)].toArray) (v_loadw 4 ag26 sz26 R R R R)) (dR 1 R (vz (.agg [(iv aDraft3.Size), (sc A4 aDraft3.Rows D4)].toArray) (v_loadw 9 ag40 sz40 R R R R)) (d1 2 R (lM (RR kT89 A4 D4 aDraft3.Rows :: _ :: _ :: _ :: _ :: _ :: _ :: _ :: _ :: W1) (fun w s => (s.d 12 R)) ?_)))))
 refine lC 1 cb12 R (Z08_ok hx62) R ?_
 rintro ⟨A63, N63, D63⟩
 refine lN (ow kT33 33 (.slice A63 N63 D63) r61.Rows :: _ :: _ :: _ :: _ :: _ :: _ :: _ :: _ :: W1) ?_
 refine l_len 0 sees_ow ?_
 rintro rfl
 refine l_nil (q_draw (sL [0]) (d1 3 R (lM (ow _ _ _ _ :: ow _ _ _ _ :: ow _ _ _ _ :: ow _ _ _ _ :: rds _ _ _ :: bxl _ _ _ :: bxl _ _ _ :: ow _ _ _ _ :: ow _ _ _ _ :: W1) (fun w s => (s.f 9 [6, 1, 0, 6, 7, 2])) ?_)))
 refine lC 2 cb16 R (FnOk.lends (A' := [OO kT33 33 A41 D41 r39.Rows, OO kT33 33 A63 D63 r61.Rows]) (A := [RR kT33 A41 D41 r39.Rows, RR kT33 A63 D63 r61.Rows]) (B := []) (Z11_ok hx65) ⟨lend_ow, lend_ow, trivial⟩ (fun _ => trivial)) R ?_
 rintro _
 refine l_nil (q_draw (fun w s => (s.f 9 [2, 5, 0, 1, 7, 2])) (dR 4 R (vNo R) (hS := (fun w s => (s.f 9 [2, 5, 0, 1, 7, 2]))) (dD (q_next ?_))))
 rcases bif_ hr with ⟨hb66, hr⟩ | ⟨hb66, hr⟩
 refine c_true R hb66 (c_seq (c_region (lB R (l_nil (q_next (c_ret (q_ret ?_)))))))
 obtain rfl := so hr
 exact qF () (fun w s => (s.e 15 []))
 refine c_false R hb66 (c_skip (q_next (c_seq (c_seq ?_))))
 obtain ⟨r67, hx68, hr⟩ := bd hr
 obtain ⟨r70, hx71, hr⟩ := bd hr
 refine c_region (lS R (lS R (lM (RR kT3 A7 D7 aPrompt6 :: _ :: _ :: _ :: _ :: _ :: _ :: _ :: _ :: _ :: W1) (fun w s => (s.d 14 R)) ?_)))
 refine lC 1 cb14 R (Zg_ok hx68) R ?_
 rintro ⟨A69, N69, D69⟩
 refine lN (ow kT3 3 (.slice A69 N69 D69) r67 :: _ :: _ :: _ :: _ :: _ :: _ :: _ :: _ :: _ :: W1) ?_
 refine l_len 0 sees_ow ?_
 rintro rfl
 refine lM (ow _ _ _ _ :: ow _ _ _ _ :: ow _ _ _ _ :: ow _ _ _ _ :: ow _ _ _ _ :: ow _ _ _ _ :: rds _ _ _ :: bxl _ _ _ :: bxl _ _ _ :: ow _ _ _ _ :: W1) (fun w s => (s.f 10 [8, 1, 0, 8, 9, 1])) ?_
 refine lC 2 cb15 R (FnOk.lends (A' := [OO kT3 3 A45 D45 r43, OO kT3 3 A69 D69 r67]) (A := [RR kT3 A45 D45 r43, RR kT3 A69 D69 r67]) (B := []) (Zs_ok hx71) ⟨lend_ow, lend_ow, trivial⟩ (fun _ => trivial)) R ?_
 rintro _
 refine lO (vNo R) (l_nil (q_next ?_))
 rcases bif_ hr with ⟨hb72, hr⟩ | ⟨hb72, hr⟩
 refine c_true R hb72 (c_seq (c_region (lB R (l_nil (q_next (c_ret (q_ret ?_)))))))
 obtain rfl := so hr
 exact qF () (fun w s => (s.e 16 []))
 refine c_false R hb72 (c_skip (q_next (c_seq (c_region (lI R (l_nil (q_next (c_seq ?_))))))))
 obtain ⟨r73, hx74, hr⟩ := bd hr
 refine c_region (lO (vz (.agg [(iv r35.Size), (sc A37 r35.Rows D37)].toArray) (v_loadw 7 ag26 sz26 R R R R)) (lI R (lM (ow _ _ _ _ :: ow _ _ _ _ :: ow _ _ _ _ :: ow _ _ _ _ :: ow _ _ _ _ :: ow _ _ _ _ :: rds _ _ _ :: bxl _ _ _ :: bxl _ _ _ :: ow _ _ _ _ :: W1) (fun w s => (s.f 10 [4, 1, 0, 4, 5, 5])) ?_)))
 refine lC 1 cb17 R (Z14_ok hx74) R ?_
 rintro _
 refine lN (ow kT33 33 (.slice A37 r35.Rows.length D37) r73.2 :: _ :: _ :: _ :: _ :: _ :: _ :: _ :: _ :: _ :: W1) ?_
 refine lI R (l_nil (q_next (c_seq ?_)))
 obtain ⟨r75, hx76, hr⟩ := bd hr
 refine c_region (lO (vz (.agg [(iv r39.Size), (sc A41 r39.Rows D41)].toArray) (v_loadw 8 ag26 sz26 R R R R)) (lI R (lM (ow _ _ _ _ :: ow _ _ _ _ :: ow _ _ _ _ :: ow _ _ _ _ :: ow _ _ _ _ :: ow _ _ _ _ :: rds _ _ _ :: bxl _ _ _ :: bxl _ _ _ :: ow _ _ _ _ :: W1) (fun w s => (s.f 10 [3, 1, 0, 3, 4, 6])) ?_)))
 refine lC 1 cb17 R (Z14_ok hx76) R ?_
 rintro _
 refine lN (ow kT33 33 (.slice A41 r39.Rows.length D41) r75.2 :: _ :: _ :: _ :: _ :: _ :: _ :: _ :: _ :: _ :: W1) ?_
 refine lI R (l_nil (q_next (c_seq ?_)))
 obtain ⟨r77, hx78, hr⟩ := bd hr
 refine c_region (lS R (lI R (lM (ow _ _ _ _ :: ow _ _ _ _ :: ow _ _ _ _ :: ow _ _ _ _ :: ow _ _ _ _ :: ow _ _ _ _ :: rds _ _ _ :: bxl _ _ _ :: bxl _ _ _ :: ow _ _ _ _ :: W1) (fun w s => (s.f 10 [2, 1, 0, 2, 3, 7])) ?_)))
 refine lC 1 cb18 R (Zm_ok hx78) R ?_
 rintro _
 refine lN (ow kT3 3 (.slice A45 r43.length D45) r77.2 :: _ :: _ :: _ :: _ :: _ :: _ :: _ :: _ :: _ :: W1) ?_
 refine lI R (l_nil (q_next (c_seq (c_seq ?_))))
 obtain ⟨r79, hx80, hr⟩ := bd hr
 refine cQ [(3, (sc A7 aPrompt6 D7)), (4, (iv aN8)), (5, (iv aSeed9)), (6, (iv aAhead10)), (7, (pt b11 0)), (8, (pt b12 0)), (9, (pt b13 0)), (16, (sc A34 r32.1 D34)), (17, (iv r32.2)), (21, (sc A50 r48.1 D50)), (119, (.bool (((decide (r77.1 < (0 : Int))) || (!r79)) || (r48.2 != r32.2))))] (RR kT3 A34 D34 r32.1 :: OO kT3 3 A50 D50 r48.1 :: W1) ?_ ?_
 refine c_region (lI R (lO (vLt R R) (lB R ?_)))
 rcases bo (decide (r77.1 < (0 : Int))) with hc81 | hc81
 refine lf (wfT hc81) (lf (wfT hc81) (lf (wfT hc81) (lf (wfT hc81) (lO (pOT (!r79) R hc81) (lB R (lf (wfT (oT hc81)) (lf (wfT (oT hc81)) (lf (wfT (oT hc81)) (lO (pOT (r48.2 != r32.2) R (oT hc81)) (l_nil ?_))))))))))
 exact qJ (fun w s => (s.e 10 [6, 9]))
 refine lW (wnF hc81) (vS R) (lW (wnF hc81) (vS R) (lM (ow _ _ _ _ :: rds _ _ _ :: ow _ _ _ _ :: ow _ _ _ _ :: ow _ _ _ _ :: ow _ _ _ _ :: ow _ _ _ _ :: ow _ _ _ _ :: rds _ _ _ :: bxl _ _ _ :: bxl _ _ _ :: W1) (fun w s => ((s.d 6 R).f 11 [10, 1, 0, 10])) ?_))
 refine l_calln 2 R (wnF hc81) cb15 R (FnOk.lends (A' := [OO kT3 3 A50 D50 r48.1]) (A := [RR kT3 A50 D50 r48.1]) (B := [RR kT3 A34 D34 r32.1]) (Zs_ok (gcall_t hx80 (not_ff hc81))) ⟨lend_ow, trivial⟩ (fun _ => trivial)) R ?_
 rintro _
 refine lN (_ :: _ :: _ :: _ :: _ :: _ :: _ :: _ :: _ :: _ :: W1) ?_
 refine lW (wnF hc81) (vNo R) (lO (pOF R hc81 R) (lB R ?_))
 rcases bo ((decide (r77.1 < (0 : Int))) || (!r79)) with hc82 | hc82
 refine lf (wfT hc82) (lf (wfT hc82) (lf (wfT hc82) (lO (pOT (r48.2 != r32.2) R hc82) (l_nil ?_))))
 exact qJ (fun w s => (s.e 10 [7, 0]))
 refine lW (wnF hc82) (vI R) (lW (wnF hc82) (vI R) (lW (wnF hc82) (vNe R R) (lO (pOF R hc82 R) (l_nil ?_))))
 exact qJ (fun w s => (s.e 10 [7, 0]))
 rintro σ1
 refine q_next ?_
 rcases bif_ hr with ⟨hb83, hr⟩ | ⟨hb83, hr⟩
 refine c_true R hb83 (c_seq (c_region (lB R (l_nil (q_next (c_ret (q_ret ?_)))))))
 obtain rfl := so hr
 exact qF () (fun w s => (s.e 8 []))
 refine c_false R hb83 (c_skip (q_next (c_seq (c_region (lI R (l_nil (q_next (c_seq ?_))))))))
 obtain ⟨r84, hx85, hr⟩ := bd hr
 refine c_region (lS R (lI R (lM (ow _ _ _ _ :: rds _ _ _ :: W1) (fun w s => (s.e 2 [1, 0])) ?_)))
 refine lC 1 cb18 R (Zm_ok hx85) R ?_
 rintro _
 refine lN (ow kT3 3 (.slice A50 r48.1.length D50) r84.2 :: _ :: W1) ?_
 refine lI R (l_nil (q_next (c_seq (c_region (lI R (l_nil (q_next (c_seq ?_))))))))
 obtain ⟨r86, hx87, hr⟩ := bd hr
 refine c_region (lS R (lI R (lC 1 cb19 R (FnOk.lends (A' := [ow kT3 3 (.slice A50 r48.1.length D50) r84.2]) (A := [rds kT3 (.slice A50 r48.1.length D50) r84.2]) (B := []) (Z00_ok hx87) ⟨lend_ow, trivial⟩ (fun _ => trivial)) R ?_)))
 rintro _
 refine lI R (l_nil (q_next (c_seq (c_seq (c_region (lI R (lO (vLt R R) (l_nil (q_next ?_)))))))))
 rcases bif_ hr with ⟨hb88, hr⟩ | ⟨hb88, hr⟩
 refine c_true R hb88 (c_seq (c_region (lB R (l_nil (q_next (c_ret (q_ret ?_)))))))
 obtain rfl := so hr
 exact qF () (fun w s => (s.e 8 []))
 refine c_false R hb88 (c_skip (q_next (c_seq (c_seq (c_region (lI R (lI R (lO (vNe R R) (l_nil (q_next ?_))))))))))
 rcases bif_ hr with ⟨hb89, hr⟩ | ⟨hb89, hr⟩
 refine c_true R hb89 (c_seq (c_region (lB R (l_nil (q_next (c_ret (q_ret ?_)))))))
 obtain rfl := so hr
 exact qF () (fun w s => (s.e 8 []))
 refine c_false R hb89 (c_skip (q_next (c_seq ?_)))
 obtain ⟨r90, hx91, hr⟩ := bd hr
 obtain ⟨r93, hx94, hr⟩ := bd hr
 obtain ⟨r96, hx97, hr⟩ := bd hr
 obtain ⟨r98, hx99, hr⟩ := bd hr
 obtain ⟨r101, hx102, hr⟩ := bd hr
 refine cdr 17 [] mixo (fun ht hn => (dR 0 R (vz (.agg [(iv aM1.Size), (sc A2 aM1.Rows D2)].toArray) (v_loadw 4 ag40 sz40 R R R R)) (dR 2 R (vz (.agg [(iv aDraft3.Size), (sc A4 aDraft3.Rows D4)].toArray) (v_loadw 3 ag40 sz40 R R R R)) (dR 4 R (vz (.agg [(iv aC5.Power), (iv aC5.Cut), (iv aC5.Mass)].toArray) (v_loadw 2 ag41 sz41 R R R R)) (dR 6 R (vS R) (dR 8 R (vI R) (dR 9 R (vI R) (dR 10 R (vI R) (d1 1 R (lM (RR kT89 A2 D2 aM1.Rows :: _ :: _ :: W1) (fun w s => (s.d 5 R)) ?_))))))))))
 refine lC 1 cb12 R (Z08_ok hx91) R ?_
 rintro ⟨A92, N92, D92⟩
 refine lN (ow kT33 33 (.slice A92 N92 D92) r90.Rows :: _ :: _ :: W1) ?_
 refine l_len 0 sees_ow ?_
 rintro rfl
 refine l_nil (q_draw (sL [0]) (d1 3 R (lM (RR kT89 A4 D4 aDraft3.Rows :: _ :: _ :: _ :: W1) (fun w s => (s.d 7 R)) ?_)))
 refine lC 1 cb12 R (Z08_ok hx94) R ?_
 rintro ⟨A95, N95, D95⟩
 refine lN (ow kT33 33 (.slice A95 N95 D95) r93.Rows :: _ :: _ :: _ :: W1) ?_
 refine l_len 0 sees_ow ?_
 rintro rfl
 refine l_nil (q_draw (sL [1, 0]) (d1 5 R (lC 0 cb13 R (Z0u_ok hx97) R ?_)))
 rintro _
 refine l_nil (q_draw (sL [1, 0]) (d1 7 R (lM (RR kT3 A7 D7 aPrompt6 :: _ :: _ :: _ :: _ :: W1) (fun w s => (s.d 9 R)) ?_)))
 refine lC 1 cb14 R (Zg_ok hx99) R ?_
 rintro ⟨A100, N100, D100⟩
 refine lN (ow kT3 3 (.slice A100 N100 D100) r98 :: _ :: _ :: _ :: _ :: W1) ?_
 refine l_len 0 sees_ow ?_
 rintro rfl
 refine l_nil (q_draw (sL [2, 1, 0]) (d1 11 R (lM (ow _ _ _ _ :: ow _ _ _ _ :: ow _ _ _ _ :: ow _ _ _ _ :: rds _ _ _ :: W1) (fun w s => (s.e 5 [2, 1, 0, 3, 4])) ?_)))
 refine lC 3 cb7 R (FnOk.lends (A' := [OO kT33 33 A92 D92 r90.Rows, OO kT33 33 A95 D95 r93.Rows, OO kT3 3 A100 D100 r98]) (A := [RR kT33 A92 D92 r90.Rows, RR kT33 A95 D95 r93.Rows, RR kT3 A100 D100 r98]) (B := []) (Z4_ok hx102) ⟨lend_ow, lend_ow, lend_ow, trivial⟩ (fun _ => ⟨(closed_ow cT3), trivial⟩)) R ?_
 rintro ⟨A103, N103, D103⟩
 refine lN (_ :: _ :: _ :: ow kT3 3 (.slice A103 N103 D103) r101.1 :: _ :: _ :: W1) ?_
 refine l_len 3 sees_ow ?_
 rintro rfl
 refine l_nil (q_draw (sL [3, 2, 1, 0]) (dR 12 R (vT R) (hS := (sL [3, 2, 1, 0])) (dR 13 R (vS R) (hS := (sL [3, 2, 1, 0])) (dR 14 R (vI R) (hS := (sL [3, 2, 1, 0])) (dR 15 R (vS R) (hS := (sL [3, 2, 1, 0])) (dR 16 R (vI R) (hS := (sL [3, 2, 1, 0])) (dD (q_next (c_seq (c_seq ?_))))))))))
 obtain ⟨r104, hx105, hr⟩ := bd hr
 refine cQ [(21, (sc A50 r48.1 D50)), (24, (iv r84.1)), (154, (.bool ((!r104) || (r101.2 != r32.2))))] (ow kT3 3 (.slice A50 r48.1.length D50) r84.2 :: W1) ?_ ?_
 refine c_region (lS R (lS R (lM (ow _ _ _ _ :: rds _ _ _ :: ow _ _ _ _ :: ow _ _ _ _ :: ow _ _ _ _ :: ow _ _ _ _ :: rds _ _ _ :: W1) (fun w s => ((s.d 5 R).f 7 [4, 1, 0, 4, 5, 2])) ?_)))
 refine lC 2 cb15 R (FnOk.lends (A' := [OO kT3 3 A103 D103 r101.1]) (A := [RR kT3 A103 D103 r101.1]) (B := [RR kT3 A34 D34 r32.1]) (Zs_ok hx105) ⟨lend_ow, trivial⟩ (fun _ => trivial)) R ?_
 rintro _
 refine lN (_ :: _ :: _ :: _ :: _ :: _ :: W1) ?_
 refine lO (vNo R) (lB R ?_)
 rcases bo (!r104) with hc106 | hc106
 refine lf (wfT hc106) (lf (wfT hc106) (lf (wfT hc106) (lO (pOT (r101.2 != r32.2) R hc106) (l_nil ?_))))
 exact qJ (fun w s => (s.e 6 [4]))
 refine lW (wnF hc106) (vI R) (lW (wnF hc106) (vI R) (lW (wnF hc106) (vNe R R) (lO (pOF R hc106 R) (l_nil ?_))))
 exact qJ (fun w s => (s.e 6 [4]))
 rintro σ1
 refine q_next ?_
 rcases bif_ hr with ⟨hb107, hr⟩ | ⟨hb107, hr⟩
 refine c_true R hb107 (c_seq (c_region (lB R (l_nil (q_next (c_ret (q_ret ?_)))))))
 obtain rfl := so hr
 exact qF () (fun w s => (s.e 7 []))
 refine c_false R hb107 (c_skip (q_next (c_seq (c_region (lI R (l_nil (q_next (c_seq ?_))))))))
 obtain ⟨r108, hx109, hr⟩ := bd hr
 refine c_region (lS R (lI R (lC 1 cb19 R (FnOk.lends (A' := [ow kT3 3 (.slice A50 r48.1.length D50) r84.2]) (A := [rds kT3 (.slice A50 r48.1.length D50) r84.2]) (B := []) (Z00_ok hx109) ⟨lend_ow, trivial⟩ (fun _ => trivial)) R ?_)))
 rintro _
 refine lN (_ :: W1) ?_
 refine lI R (l_nil (q_next (c_seq (c_seq (c_region (lI R (lO (vLt R R) (l_nil (q_next ?_)))))))))
 rcases bif_ hr with ⟨hb110, hr⟩ | ⟨hb110, hr⟩
 refine c_true R hb110 (c_seq (c_region (lB R (l_nil (q_next (c_ret (q_ret ?_)))))))
 obtain rfl := so hr
 exact qF () (fun w s => (s.e 7 []))
 refine c_false R hb110 (c_skip (q_next (c_seq (c_seq (c_region (lI R (lI R (lO (vNe R R) (l_nil (q_next ?_))))))))))
 rcases bif_ hr with ⟨hb111, hr⟩ | ⟨hb111, hr⟩
 refine c_true R hb111 (c_seq (c_region (lB R (l_nil (q_next (c_ret (q_ret ?_)))))))
 obtain rfl := so hr
 exact qF () (fun w s => (s.e 7 []))
 refine c_false R hb111 (c_skip (q_next (c_seq (c_region (lB R (l_nil (q_next (c_ret ?_))))))))
 obtain rfl := so hr
 exact qF () (fun w s => (s.e 7 []))
end Go.Proofs.Ytkfgngcfcoplpaa
