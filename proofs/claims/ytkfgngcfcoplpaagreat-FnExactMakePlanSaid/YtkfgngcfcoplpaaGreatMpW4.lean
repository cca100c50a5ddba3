import Derived.Test.YtkfgngcfcoplpaaGreatMpW3
set_option linter.unusedVariables false
set_option maxRecDepth 20000
namespace Go.Proofs.YtkfgngcfcoplpaaGreat
open Go Go.Pg
variable {A2 A3 A4 A5 A6 A7 A8 A9 A10 A11 A13 : Option Addr} {D2 D3 D4 D5 D6 D7 D8 D9 D10 D11 D13 N2 N3 N4 N5 N6 N7 N8 N9 N10 N11 N13 : Nat}
theorem Zb_ok  {code1 : (List Calc)} {loads3 : Int} {r : Bool} (hr : Zb code1 loads3 = some r) :
 FnOk Tryz.prog 144 [(.slice A2 N2 D2), (iv loads3)] [rds kT101 (.slice A2 N2 D2) code1] (fun (h : Unit) => ((.bool r), [])) := by
 unfold Zb at hr
 refine fn_ok Tryz.func144 R 97 R R fun C V => ?_
 refine cN (_ :: V) ?_
 refine cL 0 sees_rd ?_
 rintro rfl
 let W0 : List HP := RR kT101 A2 D2 code1 :: V
 refine cN W0 ?_
 refine c_seq (c_region (lB R (l_nil (q_next (c_seq (c_seq (cQ [(0, (sc A2 code1 D2)), (1, (iv loads3)), (15, (.bool ((decide ((code1.length : Int) < (1 : Int))) || (decide ((code1.length : Int) > (60 : Int))))))] (W0) ?_ ?_)))))))
 refine c_region (lS R (lO (v_len sl62 R) (lO (vLt R R) (lB R ?_))))
 rcases bo (decide ((code1.length : Int) < (1 : Int))) with hc4 | hc4
 refine lf (wfT hc4) (lf (wfT hc4) (lf (wfT hc4) (lO (pOT (decide ((code1.length : Int) > (60 : Int))) R hc4) (l_nil ?_))))
 exact qJ (fun w s => s)
 refine lW (wnF hc4) (vS R) (lW (wnF hc4) (v_len sl62 R) (lW (wnF hc4) (vGt R R) (lO (pOF R hc4 R) (l_nil ?_))))
 exact qJ (fun w s => s)
 rintro σ1
 refine q_next ?_
 rcases bif_ hr with ⟨hb5, hr⟩ | ⟨hb5, hr⟩
 refine c_true R hb5 (c_seq (c_region (lB R (l_nil (q_next (c_ret (q_ret ?_)))))))
 obtain rfl := so hr
 exact qF () (fun w s => (s.e 1 []))
 refine c_false R hb5 (c_skip (q_next (c_seq (c_cut (A := (Unit) × (Unit)) (fun a => Zb_J7 = some r) (fun a => []) (fun a => W0) ?_ ?_))))
 refine c_seq (c_region (lS R (lO (v_len sl62 R) (lI R (l_nil (q_next (c_block ?_)))))))
 obtain ⟨e1, hl1, hk1⟩ := bd hr
 refine c_loop (A := HH) hl1 (fun s a => [(1, (iv loads3)), (16, (.slice a.1 a.2.1 a.2.2)), (17, (il code1)), (18, (iv s))]) (fun s a => rds kT101 (.slice a.1 a.2.1 a.2.2) code1 :: W0) (A2, code1.length, D2) (aS R) (fun w s => (s.d 0 R)) ?_
 rintro x35 ⟨A34, N34, D34⟩ σ1 out1 hr he1
 replace hr : Zb_L1 code1 loads3 x35 = some out1 := hr
 unfold Zb_L1 at hr
 refine c_len 0 sees_rd (fun (hn : N34 = code1.length) => ?_)
 subst hn
 refine c_seq (c_region (lO (vLt R R) (l_nil (q_next (c_seq ?_)))))
 rcases bif_ hr with ⟨hb36, hr⟩ | ⟨hb36, hr⟩
 refine c_true R hb36 (c_skip (q_next (c_seq (c_block (c_seq ?_)))))
 obtain ⟨hg37, hr⟩ := gd hr
 refine c_region (lI R (t_some 0 sees_rd (show 0 < code1.length by have := hg37; omega) (fun g38 o39 ha => ?_)))
 subst ha
 refine lO (vIa sl62 sz101 R R hg37) (l_v (.agg [(iv (ix code1 x35).Op), (iv (ix code1 x35).A), (iv (ix code1 x35).B)].toArray) ?_ R R ?_)
 exact (v_ldef (K := kT101) (cells := fun x => [(iv x.Op), (iv x.A), (iv x.B)]) 0 x35 ag101 sz101 (DecK.flat dT101 fun _ _ => R) sees_rd R hg37.1 hg37.2)
 refine l_alloc R R zc101 (fun b40 => (lI R (l_stores 0 R R sz101 R R R R R R (lN (bxl b40 [(iv (ix code1 x35).Op), (iv (ix code1 x35).A), (iv (ix code1 x35).B)] 101 :: RR kT101 (ad g38 o39) D34 code1 :: W0) ?_))))
 refine l_nil (q_next (c_seq (c_region (lB R (l_nil (q_next (c_seq (c_cut (A := (Bool) × (Unit)) (fun a => Zb_J6 x35 a.1 = some out1) (fun a => [(1, (iv loads3)), (7, (.bool a.1)), (16, (sc (ad g38 o39) code1 D34)), (17, (il code1)), (18, (iv x35))]) (fun a => RR kT101 (ad g38 o39) D34 code1 :: W0) ?_ ?_))))))))
 refine c_seq (c_region (lO (vFa 0 fo101_0 R) (lO (vLd 0 ag3 R R R) (l_nil (q_next (c_block (c_seq (c_region (lO (vEq R R) (lB R (l_nil (q_next ?_))))))))))))
 rcases bif_ hr with ⟨hb41, hr⟩ | ⟨hb41, hr⟩
 refine c_true R hb41 (cQ [(1, (iv loads3)), (7, (.bool (((decide ((ix code1 x35).A ≥ (0 : Int))) && (decide ((ix code1 x35).A < loads3))) && ((ix code1 x35).B == (0 : Int))))), (16, (sc (ad g38 o39) code1 D34)), (17, (il code1)), (18, (iv x35))] (RR kT101 (ad g38 o39) D34 code1 :: W0) ?_ ?_)
 refine c_region (lO (vFa 1 fo101_1 R) (lO (vLd 0 ag3 R R R) (lO (vGe R R) (lB R ?_))))
 rcases bo (decide ((ix code1 x35).A ≥ (0 : Int))) with hc42 | hc42
 refine lW (wnT hc42) (vFa 1 fo101_1 R) (lW (wnT hc42) (vLd 0 ag3 R R R) (lW (wnT hc42) (vI R) (lW (wnT hc42) (vLt R R) (lO (pAT R hc42 R) (lB R ?_)))))
 rcases bo ((decide ((ix code1 x35).A ≥ (0 : Int))) && (decide ((ix code1 x35).A < loads3))) with hc43 | hc43
 refine lW (wnT hc43) (vFa 2 fo101_2 R) (lW (wnT hc43) (vLd 0 ag3 R R R) (lW (wnT hc43) (vEq R R) (lO (pAT R hc43 R) (lB R (l_nil ?_)))))
 exact qJ (fun w s => (s.e 2 [1]))
 refine lf (wfF hc43) (lf (wfF hc43) (lf (wfF hc43) (lO (pAF ((ix code1 x35).B == (0 : Int)) R hc43) (lB R (l_nil ?_)))))
 exact qJ (fun w s => (s.e 2 [1]))
 refine lf (wfF hc42) (lf (wfF hc42) (lf (wfF hc42) (lf (wfF hc42) (lO (pAF (decide ((ix code1 x35).A < loads3)) R hc42) (lB R (lf (wfF (aF hc42)) (lf (wfF (aF hc42)) (lf (wfF (aF hc42)) (lO (pAF ((ix code1 x35).B == (0 : Int)) R (aF hc42)) (lB R (l_nil ?_)))))))))))
 exact qJ (fun w s => (s.e 2 [1]))
 rintro σ1
 refine q_blockn ?_
 exact qI ((((decide ((ix code1 x35).A ≥ (0 : Int))) && (decide ((ix code1 x35).A < loads3))) && ((ix code1 x35).B == (0 : Int))), ()) hr (fun w s => s)
 refine c_false R hb41 (c_seq (c_region (lO (vEq R R) (lB R (l_nil (q_next ?_))))))
 rcases bif_ hr with ⟨hb44, hr⟩ | ⟨hb44, hr⟩
 refine c_true R hb44 ?_
 obtain ⟨r45, hx46, hr⟩ := bd hr
 refine cQ [(1, (iv loads3)), (7, (.bool (r45 && ((ix code1 x35).B == (0 : Int))))), (16, (sc (ad g38 o39) code1 D34)), (17, (il code1)), (18, (iv x35))] (RR kT101 (ad g38 o39) D34 code1 :: W0) ?_ ?_
 refine c_region (lO (vFa 1 fo101_1 R) (lO (vLd 0 ag3 R R R) (lC 0 cb124 R (Z1o_ok hx46) R ?_)))
 rintro _
 refine lB R ?_
 rcases bo r45 with hc47 | hc47
 refine lW (wnT hc47) (vFa 2 fo101_2 R) (lW (wnT hc47) (vLd 0 ag3 R R R) (lW (wnT hc47) (vEq R R) (lO (pAT R hc47 R) (lB R (l_nil ?_)))))
 exact qJ (fun w s => (s.e 2 [1]))
 refine lf (wfF hc47) (lf (wfF hc47) (lf (wfF hc47) (lO (pAF ((ix code1 x35).B == (0 : Int)) R hc47) (lB R (l_nil ?_)))))
 exact qJ (fun w s => (s.e 2 [1]))
 rintro σ1
 refine q_blockn ?_
 exact qI ((r45 && ((ix code1 x35).B == (0 : Int))), ()) hr (fun w s => s)
 refine c_false R hb44 (c_seq (c_cut (A := (Bool) × (Unit)) (fun a => Zb_J4 code1 x35 a.1 = some out1) (fun a => [(1, (iv loads3)), (5, (iv x35)), (6, (pt b40 0)), (7, (.bool false)), (16, (sc (ad g38 o39) code1 D34)), (17, (il code1)), (18, (iv x35)), (24, (iv (ix code1 x35).Op)), (51, (.bool a.1))]) (fun a => bxl b40 [(iv (ix code1 x35).Op), (iv (ix code1 x35).A), (iv (ix code1 x35).B)] 101 :: RR kT101 (ad g38 o39) D34 code1 :: W0) ?_ ?_))
 refine c_seq (c_region (lO (vEq R R) (lB R (l_nil (q_next ?_)))))
 rcases bif_ hr with ⟨hb48, hr⟩ | ⟨hb48, hr⟩
 refine c_true R hb48 (c_skip ?_)
 exact qI (((ix code1 x35).Op == (3 : Int)), ()) hr (fun w s => s)
 refine c_false R hb48 (c_seq (c_region (lO (vEq R R) (lB R (l_nil (q_next ?_))))))
 rcases bif_ hr with ⟨hb49, hr⟩ | ⟨hb49, hr⟩
 refine c_true R hb49 (c_skip ?_)
 exact qI (((ix code1 x35).Op == (4 : Int)), ()) hr (fun w s => s)
 refine c_false R hb49 (c_region (lO (vEq R R) (lB R (l_nil ?_))))
 exact qI (((ix code1 x35).Op == (5 : Int)), ()) hr (fun w s => s)
 rintro ⟨x50, _⟩ σ1 hr
 replace hr : Zb_J4 code1 x35 x50 = some out1 := hr
 unfold Zb_J4 at hr
 rcases bif_ hr with ⟨hb51, hr⟩ | ⟨hb51, hr⟩
 refine c_true R hb51 (cQ [(1, (iv loads3)), (7, (.bool ((((decide ((ix code1 x35).A ≥ (0 : Int))) && (decide ((ix code1 x35).A < x35))) && (decide ((ix code1 x35).B ≥ (0 : Int)))) && (decide ((ix code1 x35).B < x35))))), (16, (sc (ad g38 o39) code1 D34)), (17, (il code1)), (18, (iv x35))] (RR kT101 (ad g38 o39) D34 code1 :: W0) ?_ ?_)
 refine c_region (lO (vFa 1 fo101_1 R) (lO (vLd 0 ag3 R R R) (lO (vGe R R) (lB R ?_))))
 rcases bo (decide ((ix code1 x35).A ≥ (0 : Int))) with hc52 | hc52
 refine lW (wnT hc52) (vFa 1 fo101_1 R) (lW (wnT hc52) (vLd 0 ag3 R R R) (lW (wnT hc52) (vI R) (lW (wnT hc52) (vLt R R) (lO (pAT R hc52 R) (lB R ?_)))))
 rcases bo ((decide ((ix code1 x35).A ≥ (0 : Int))) && (decide ((ix code1 x35).A < x35))) with hc53 | hc53
 refine lW (wnT hc53) (vFa 2 fo101_2 R) (lW (wnT hc53) (vLd 0 ag3 R R R) (lW (wnT hc53) (vGe R R) (lO (pAT R hc53 R) (lB R ?_))))
 rcases bo (((decide ((ix code1 x35).A ≥ (0 : Int))) && (decide ((ix code1 x35).A < x35))) && (decide ((ix code1 x35).B ≥ (0 : Int)))) with hc54 | hc54
 refine lW (wnT hc54) (vFa 2 fo101_2 R) (lW (wnT hc54) (vLd 0 ag3 R R R) (lW (wnT hc54) (vI R) (lW (wnT hc54) (vLt R R) (lO (pAT R hc54 R) (lB R (l_nil ?_))))))
 exact qJ (fun w s => (s.e 2 [1]))
 refine lf (wfF hc54) (lf (wfF hc54) (lf (wfF hc54) (lf (wfF hc54) (lO (pAF (decide ((ix code1 x35).B < x35)) R hc54) (lB R (l_nil ?_))))))
 exact qJ (fun w s => (s.e 2 [1]))
 refine lf (wfF hc53) (lf (wfF hc53) (lf (wfF hc53) (lO (pAF (decide ((ix code1 x35).B ≥ (0 : Int))) R hc53) (lB R (lf (wfF (aF hc53)) (lf (wfF (aF hc53)) (lf (wfF (aF hc53)) (lf (wfF (aF hc53)) (lO (pAF (decide ((ix code1 x35).B < x35)) R (aF hc53)) (lB R (l_nil ?_)))))))))))
 exact qJ (fun w s => (s.e 2 [1]))
 refine lf (wfF hc52) (lf (wfF hc52) (lf (wfF hc52) (lf (wfF hc52) (lO (pAF (decide ((ix code1 x35).A < x35)) R hc52) (lB R (lf (wfF (aF hc52)) (lf (wfF (aF hc52)) (lf (wfF (aF hc52)) (lO (pAF (decide ((ix code1 x35).B ≥ (0 : Int))) R (aF hc52)) (lB R (lf (wfF (aF (aF hc52))) (lf (wfF (aF (aF hc52))) (lf (wfF (aF (aF hc52))) (lf (wfF (aF (aF hc52))) (lO (pAF (decide ((ix code1 x35).B < x35)) R (aF (aF hc52))) (lB R (l_nil ?_)))))))))))))))))
 exact qJ (fun w s => (s.e 2 [1]))
 rintro σ1
 refine q_blockn ?_
 exact qI (((((decide ((ix code1 x35).A ≥ (0 : Int))) && (decide ((ix code1 x35).A < x35))) && (decide ((ix code1 x35).B ≥ (0 : Int)))) && (decide ((ix code1 x35).B < x35))), ()) hr (fun w s => s)
 refine c_false R hb51 (c_seq (c_cut (A := (Bool) × (Unit)) (fun a => Zb_J5 code1 x35 a.1 = some out1) (fun a => [(1, (iv loads3)), (5, (iv x35)), (6, (pt b40 0)), (7, (.bool false)), (16, (sc (ad g38 o39) code1 D34)), (17, (il code1)), (18, (iv x35)), (75, (.bool a.1))]) (fun a => bxl b40 [(iv (ix code1 x35).Op), (iv (ix code1 x35).A), (iv (ix code1 x35).B)] 101 :: RR kT101 (ad g38 o39) D34 code1 :: W0) ?_ ?_))
 refine c_seq (c_region (lO (vEq R R) (lB R (l_nil (q_next ?_)))))
 rcases bif_ hr with ⟨hb55, hr⟩ | ⟨hb55, hr⟩
 refine c_true R hb55 (c_skip ?_)
 exact qI (((ix code1 x35).Op == (6 : Int)), ()) hr (fun w s => s)
 refine c_false R hb55 (c_seq (c_region (lO (vEq R R) (lB R (l_nil (q_next ?_))))))
 rcases bif_ hr with ⟨hb56, hr⟩ | ⟨hb56, hr⟩
 refine c_true R hb56 (c_skip ?_)
 exact qI (((ix code1 x35).Op == (7 : Int)), ()) hr (fun w s => s)
 refine c_false R hb56 (c_seq (c_region (lO (vEq R R) (lB R (l_nil (q_next ?_))))))
 rcases bif_ hr with ⟨hb57, hr⟩ | ⟨hb57, hr⟩
 refine c_true R hb57 (c_skip ?_)
 exact qI (((ix code1 x35).Op == (8 : Int)), ()) hr (fun w s => s)
 refine c_false R hb57 (c_region (lO (vEq R R) (lB R (l_nil ?_))))
 exact qI (((ix code1 x35).Op == (9 : Int)), ()) hr (fun w s => s)
 rintro ⟨x58, _⟩ σ1 hr
 replace hr : Zb_J5 code1 x35 x58 = some out1 := hr
 unfold Zb_J5 at hr
 rcases bif_ hr with ⟨hb59, hr⟩ | ⟨hb59, hr⟩
 refine c_true R hb59 (cQ [(1, (iv loads3)), (7, (.bool (((decide ((ix code1 x35).A ≥ (0 : Int))) && (decide ((ix code1 x35).A < x35))) && ((ix code1 x35).B == (0 : Int))))), (16, (sc (ad g38 o39) code1 D34)), (17, (il code1)), (18, (iv x35))] (RR kT101 (ad g38 o39) D34 code1 :: W0) ?_ ?_)
 refine c_region (lO (vFa 1 fo101_1 R) (lO (vLd 0 ag3 R R R) (lO (vGe R R) (lB R ?_))))
 rcases bo (decide ((ix code1 x35).A ≥ (0 : Int))) with hc60 | hc60
 refine lW (wnT hc60) (vFa 1 fo101_1 R) (lW (wnT hc60) (vLd 0 ag3 R R R) (lW (wnT hc60) (vI R) (lW (wnT hc60) (vLt R R) (lO (pAT R hc60 R) (lB R ?_)))))
 rcases bo ((decide ((ix code1 x35).A ≥ (0 : Int))) && (decide ((ix code1 x35).A < x35))) with hc61 | hc61
 refine lW (wnT hc61) (vFa 2 fo101_2 R) (lW (wnT hc61) (vLd 0 ag3 R R R) (lW (wnT hc61) (vEq R R) (lO (pAT R hc61 R) (lB R (l_nil ?_)))))
 exact qJ (fun w s => (s.e 2 [1]))
 refine lf (wfF hc61) (lf (wfF hc61) (lf (wfF hc61) (lO (pAF ((ix code1 x35).B == (0 : Int)) R hc61) (lB R (l_nil ?_)))))
 exact qJ (fun w s => (s.e 2 [1]))
 refine lf (wfF hc60) (lf (wfF hc60) (lf (wfF hc60) (lf (wfF hc60) (lO (pAF (decide ((ix code1 x35).A < x35)) R hc60) (lB R (lf (wfF (aF hc60)) (lf (wfF (aF hc60)) (lf (wfF (aF hc60)) (lO (pAF ((ix code1 x35).B == (0 : Int)) R (aF hc60)) (lB R (l_nil ?_)))))))))))
 exact qJ (fun w s => (s.e 2 [1]))
 rintro σ1
 refine q_blockn ?_
 exact qI ((((decide ((ix code1 x35).A ≥ (0 : Int))) && (decide ((ix code1 x35).A < x35))) && ((ix code1 x35).B == (0 : Int))), ()) hr (fun w s => s)
 refine c_false R hb59 (c_skip (q_blockn ?_))
 exact qI (false, ()) hr (fun w s => (s.e 2 [1]))
 rintro ⟨ok62, _⟩ σ1 hr
 replace hr : Zb_J6 x35 ok62 = some out1 := hr
 unfold Zb_J6 at hr
 refine c_seq (c_region (lB R (lO (vNo R) (l_nil (q_next ?_)))))
 rcases bif_ hr with ⟨hb63, hr⟩ | ⟨hb63, hr⟩
 refine c_true R hb63 (c_seq (c_region (lB R (l_nil (q_next (c_ret (q_blockr (q_ret ?_))))))))
 obtain rfl := so hr
 obtain rfl := he1 _ R
 have hr := hk1
 refine q_ret (q_blockr (q_ret ?_))
 obtain rfl := so hr
 exact qF () (fun w s => (s.e 2 []))
 refine c_false R hb63 (c_skip (q_blockn (q_next (c_region (lO (vAd R R) (lI R (l_nil ?_)))))))
 obtain rfl := so hr
 exact qA ((ad g38 o39), code1.length, D34) (fun w s => s)
 refine c_false R hb36 (c_exit (q_exit ?_))
 obtain rfl := so hr
 obtain rfl := he1 _ R
 have hr := hk1
 refine q_exit (q_block ?_)
 exact q_join ((), ()) hr trivial (fun w s => (s.e 1 []))
 rintro ⟨_, _⟩ σ1 hr
 replace hr : Zb_J7 = some r := hr
 unfold Zb_J7 at hr
 refine c_seq (c_region (lB R (l_nil (q_next (c_ret ?_)))))
 obtain rfl := so hr
 exact qF () (fun w s => (s.e 1 []))
theorem Z1q_ok {s1 : List Access} {a_2 : Option Addr} {n_2 c_2 : Nat} {r : (List Access)} (hr : Z1q s1 = some r) :
    FnOk Tryz.prog 74 [(.slice a_2 n_2 c_2)] [rds kT61 (.slice a_2 n_2 c_2) s1] (fun (h : (Option Addr × Nat × Nat)) => ((.slice h.1 h.2.1 h.2.2), [ow (kT61).share 61 (.slice h.1 h.2.1 h.2.2) r])) := by
  unfold Z1q at hr
  obtain ⟨hg, hr⟩ := gd hr
  obtain rfl := Option.some.inj hr
  refine fn_ok Tryz.func74 rfl 8 rfl rfl fun C V => (c_st (V' := rds kT61 (.slice a_2 n_2 c_2) s1 :: V) (fun w s => s) (c_len 0 sees_rd (fun (hn : n_2 = s1.length) => ?_)))
  subst hn
  refine c_seq (c_region (lS rfl (l_nil (q_next (c_seq (c_seq (c_region (lS rfl (l_v (.bool a_2.isNone) (v_snil sl59 rfl rfl) rfl rfl (l_nil (q_next ?_)))))))))))
  rcases Bool.eq_false_or_eq_true a_2.isNone with ha | ha
  · refine c_true rfl ha ?_
    refine c_nilx 0 sees_rd ha (fun (hx : s1 = []) => ?_)
    subst hx
    refine c_seq (c_region (lS rfl (l_nil (q_next (c_ret (q_ret ?_))))))
    exact q_fin (vs := [(.slice none 0 0)]) (.inl rfl) (none, 0, 0) rfl ⟨rfl, trivial⟩ rfl (fun w s => ((s.nilo (kT61).share 61).sel 2 [0] rfl rfl))
  · refine c_false rfl ha (c_skip (q_next ?_))
    refine c_seq (c_region (l_build (K := (kT61).share) (xs := ([] : List Access)) (vs := []) 0 rfl rfl sl59 sz61 zc61 rfl rfl rfl rfl rfl rfl ?_ rfl (fun a_3 c_3 => ?_)))
    · exact fun I h s => (mS61).list [] I h s
    refine lS rfl (l_app (K := (kT61).share) 3518437208883 rfl rfl sl59 sz61 by61 (Zr.zk (Zr.share zT61) zc61) rfl rfl rfl rfl rfl rfl src_sh (by simpa using hg) (fun a_4 c_4 => (lS rfl (l_nil (q_next (c_ret ?_))))))
    exact q_fin (vs := [(.slice a_4 s1.length c_4)]) (.inl rfl) (a_4, s1.length, c_4) rfl ⟨rfl, trivial⟩ rfl (fun w s => s)
theorem Z02_ok  {a1 : Access} {loops3 : (List Int)} {size5 : Int} {r : Bool} (hr : Z02 a1 loops3 size5 = some r) :
 FnOk Tryz.prog 145 [(.agg [(iv a1.Buffer), (iv a1.Offset), (.slice A2 N2 D2)].toArray), (.slice A4 N4 D4), (iv size5)] [rds kT3 (.slice A2 N2 D2) a1.Steps, rds kT3 (.slice A4 N4 D4) loops3] (fun (h : Unit) => ((.bool r), [])) := by
 unfold Z02 at hr
 refine fn_ok Tryz.func145 R 85 R R fun C V => ?_
 refine cN (_ :: _ :: V) ?_
 refine cL 0 sees_rd ?_
 rintro rfl
 refine cL 1 sees_rd ?_
 rintro rfl
 let W0 : List HP := RR kT3 A2 D2 a1.Steps :: RR kT3 A4 D4 loops3 :: V
 refine cN W0 ?_
 refine c_seq (c_region (lBx R (fun b6 => (lB R (l_nil ?_)))))
 let W1 : List HP := bxl b6 [(iv a1.Buffer), (iv a1.Offset), (sc A2 a1.Steps D2)] 61 :: W0
 refine qN W1 ?_
 refine q_next (c_seq (c_seq (cQ [(1, (sc A4 loops3 D4)), (2, (iv size5)), (3, (pt b6 0)), (27, (.bool ((((a1.Steps.length : Int) != (loops3.length : Int)) || (decide (a1.Offset < (0 : Int)))) || (decide (a1.Offset ≥ size5)))))] (W1) ?_ ?_)))
 refine c_region (lO (vFa 2 fo61_2 R) (lO (vLd 0 ag22 R R R) (lO (v_len sl22 R) (lS R (lO (v_len sl22 R) (lO (vNe R R) (lB R ?_)))))))
 rcases bo ((a1.Steps.length : Int) != (loops3.length : Int)) with hc7 | hc7
 refine lf (wfT hc7) (lf (wfT hc7) (lf (wfT hc7) (lO (pOT (decide (a1.Offset < (0 : Int))) R hc7) (lB R (lf (wfT (oT hc7)) (lf (wfT (oT hc7)) (lf (wfT (oT hc7)) (lf (wfT (oT hc7)) (lO (pOT (decide (a1.Offset ≥ size5)) R (oT hc7)) (l_nil ?_))))))))))
 exact qJ (fun w s => s)
 refine lW (wnF hc7) (vFa 1 fo61_1 R) (lW (wnF hc7) (vLd 0 ag3 R R R) (lW (wnF hc7) (vLt R R) (lO (pOF R hc7 R) (lB R ?_))))
 rcases bo (((a1.Steps.length : Int) != (loops3.length : Int)) || (decide (a1.Offset < (0 : Int)))) with hc8 | hc8
 refine lf (wfT hc8) (lf (wfT hc8) (lf (wfT hc8) (lf (wfT hc8) (lO (pOT (decide (a1.Offset ≥ size5)) R hc8) (l_nil ?_)))))
 exact qJ (fun w s => s)
 refine lW (wnF hc8) (vFa 1 fo61_1 R) (lW (wnF hc8) (vLd 0 ag3 R R R) (lW (wnF hc8) (vI R) (lW (wnF hc8) (vGe R R) (lO (pOF R hc8 R) (l_nil ?_)))))
 exact qJ (fun w s => s)
 rintro σ1
 refine q_next ?_
 rcases bif_ hr with ⟨hb9, hr⟩ | ⟨hb9, hr⟩
 refine c_true R hb9 (c_seq (c_region (lB R (l_nil (q_next (c_ret (q_ret ?_)))))))
 obtain rfl := so hr
 exact qF () (fun w s => (s.e 3 []))
 refine c_false R hb9 (c_skip (q_next (c_seq (cdr 6 [] mixo (fun ht hn => (dR 0 R (vFa 1 fo61_1 R) (dR 1 R (vLd 0 ag3 R R R) (dR 2 R (vFa 1 fo61_1 R) (dR 3 R (vLd 0 ag3 R R R) (dR 4 R (vI R) (dR 5 R (vI R) (dD (q_next (c_seq (c_cut (A := (Int × Int) × (Unit)) (fun a => Z02_J1 size5 a.1.1 a.1.2 = some r) (fun a => [(2, (iv size5)), (7, (iv a.1.1)), (8, (iv a.1.2))]) (fun a => W1) ?_ ?_)))))))))))))))
 refine c_seq (c_region (lO (vFa 2 fo61_2 R) (lO (vLd 0 ag22 R R R) (lO (v_len sl22 R) (lI R (l_nil (q_next (c_block ?_))))))))
 obtain ⟨e1, hl1, hk1⟩ := bd hr
 refine c_loop (A := HH) hl1 (fun s a => [(1, (sc A4 loops3 D4)), (2, (iv size5)), (7, (iv s.1)), (8, (iv s.2.1)), (33, (.slice a.1 a.2.1 a.2.2)), (34, (il a1.Steps)), (35, (iv s.2.2))]) (fun s a => rds kT3 (.slice a.1 a.2.1 a.2.2) a1.Steps :: W1) (A2, a1.Steps.length, D2) (aS R) (fun w s => (s.d 1 R)) ?_
 rintro ⟨lo24, hi25, x27⟩ ⟨A26, N26, D26⟩ σ1 out1 hr he1
 replace hr : Z02_L1 a1 loops3 lo24 hi25 x27 = some out1 := hr
 unfold Z02_L1 at hr
 refine c_len 0 sees_rd (fun (hn : N26 = a1.Steps.length) => ?_)
 subst hn
 refine c_seq (c_region (lO (vLt R R) (l_nil (q_next (c_seq ?_)))))
 rcases bif_ hr with ⟨hb28, hr⟩ | ⟨hb28, hr⟩
 refine c_true R hb28 (c_skip (q_next (c_seq (c_block (c_seq ?_)))))
 obtain ⟨hg29, hr⟩ := gd hr
 refine c_region (lI R (t_some 0 sees_rd (show 0 < a1.Steps.length by have := hg29; omega) (fun g30 o31 ha => ?_)))
 subst ha
 refine lO (vIa sl22 sz3 R R hg29) (lO (vLi 0 ag3 sees_rd R hg29) (lI R (lI R (l_nil (q_next (c_seq (c_seq ?_)))))))
 obtain ⟨hg32, hr⟩ := gd hr
 refine cQ [(1, (sc A4 loops3 D4)), (2, (iv size5)), (7, (iv lo24)), (8, (iv hi25)), (9, (iv x27)), (10, (iv (ix a1.Steps x27))), (33, (sc (ad g30 o31) a1.Steps D26)), (34, (il a1.Steps)), (35, (iv x27)), (56, (.bool (((decide ((ix a1.Steps x27) < (-4096 : Int))) || (decide ((ix a1.Steps x27) > (4096 : Int)))) || (((ix loops3 x27) == (1 : Int)) && ((ix a1.Steps x27) != (0 : Int))))))] (RR kT3 (ad g30 o31) D26 a1.Steps :: W1) ?_ ?_
 refine c_region (lI R (lO (vLt R R) (lB R ?_)))
 rcases bo (decide ((ix a1.Steps x27) < (-4096 : Int))) with hc35 | hc35
 refine lf (wfT hc35) (lf (wfT hc35) (lO (pOT (decide ((ix a1.Steps x27) > (4096 : Int))) R hc35) (lB R (lf (wfT (oT hc35)) (lf (wfT (oT hc35)) (lf (wfT (oT hc35)) (lf (wfT (oT hc35)) (lf (wfT (oT hc35)) (lf (wfT (oT hc35)) (lf R (lf R (lf (wfT (oT hc35)) (lO (pOT (((ix loops3 x27) == (1 : Int)) && ((ix a1.Steps x27) != (0 : Int))) R (oT hc35)) (l_nil ?_))))))))))))))
 exact qJ (fun w s => s)
 refine lW (wnF hc35) (vI R) (lW (wnF hc35) (vGt R R) (lO (pOF R hc35 R) (lB R ?_)))
 rcases bo ((decide ((ix a1.Steps x27) < (-4096 : Int))) || (decide ((ix a1.Steps x27) > (4096 : Int)))) with hc36 | hc36
 refine lf (wfT hc36) (lf (wfT hc36) (lf (wfT hc36) (lf (wfT hc36) (lf (wfT hc36) (lf (wfT hc36) (lf R (lf R (lf (wfT hc36) (lO (pOT (((ix loops3 x27) == (1 : Int)) && ((ix a1.Steps x27) != (0 : Int))) R hc36) (l_nil ?_))))))))))
 exact qJ (fun w s => s)
 refine lW (wnF hc36) (vS R) (lW (wnF hc36) (vI R) (t_some 3 sees_rd (show 0 < loops3.length by have := (hg32 hc36); omega) (fun g33 o34 ha => ?_)))
 subst ha
 refine lW (wnF hc36) (vIa sl22 sz3 R R (hg32 hc36)) (lW (wnF hc36) (vLi 3 ag3 sees_rd R (hg32 hc36)) (lW (wnF hc36) (vEq R R) (lW (wnF hc36) (vB R) ?_)))
 rcases bo ((ix loops3 x27) == (1 : Int)) with hc37 | hc37
 refine lW (wnT hc37) (vI R) (lW (wnT hc37) (vNe R R) (lW (wnF hc36) (pAT R hc37 R) (lO (pOF R hc36 R) (l_nil ?_))))
 exact qJ (fun w s => s)
 refine lf (wfF hc37) (lf (wfF hc37) (lW (wnF hc36) (pAF ((ix a1.Steps x27) != (0 : Int)) R hc37) (lO (pOF R hc36 R) (l_nil ?_))))
 exact qJ (fun w s => s)
 rintro σ1
 refine q_next ?_
 rcases bif_ hr with ⟨hb38, hr⟩ | ⟨hb38, hr⟩
 refine c_true R hb38 (c_seq (c_region (lB R (l_nil (q_next (c_ret (q_ret (q_blockr (q_ret ?_)))))))))
 obtain rfl := so hr
 obtain rfl := he1 _ R
 have hr := hk1
 refine q_ret (q_blockr (q_ret ?_))
 obtain rfl := so hr
 exact qF () (fun w s => (s.e 4 []))
 refine c_false R hb38 (c_skip (q_next (c_seq ?_)))
 obtain ⟨hg39, hr⟩ := gd hr
 refine c_region (lI R (lI R (lS R (lI R (t_some 3 sees_rd (show 0 < loops3.length by have := hg39; omega) (fun g40 o41 ha => ?_))))))
 subst ha
 refine lO (vIa sl22 sz3 R R hg39) (lO (vLi 3 ag3 sees_rd R hg39) (lO (vSb R R) (lO (vMu R R) (lO (vz (iv (if (w64 ((ix a1.Steps x27) * (w64 ((ix loops3 x27) - (1 : Int))))) < (0 : Int) then (w64 ((ix a1.Steps x27) * (w64 ((ix loops3 x27) - (1 : Int))))) else (0 : Int))) (v_min R R)) (lO (vAd R R) (lI R (l_nil (q_next (c_region (lI R (lI R (lS R (lI R (lO (vIa sl22 sz3 R R hg39) (lO (vLi 3 ag3 sees_rd R hg39) (lO (vSb R R) (lO (vMu R R) (lO (vz (iv (if (w64 ((ix a1.Steps x27) * (w64 ((ix loops3 x27) - (1 : Int))))) > (0 : Int) then (w64 ((ix a1.Steps x27) * (w64 ((ix loops3 x27) - (1 : Int))))) else (0 : Int))) (v_max R R)) (lO (vAd R R) (lI R (l_nil (q_blockn (q_next (c_region (lO (vAd R R) (lI R (l_nil ?_)))))))))))))))))))))))))))
 obtain rfl := so hr
 exact qA ((ad g30 o31), a1.Steps.length, D26) (fun w s => s)
 refine c_false R hb28 (c_exit (q_exit ?_))
 obtain rfl := so hr
 obtain rfl := he1 _ R
 have hr := hk1
 refine q_exit (q_block ?_)
 exact qI ((lo24, hi25), ()) hr (fun w s => (s.e 1 []))
 rintro ⟨⟨lo46, hi47⟩, _⟩ σ1 hr
 replace hr : Z02_J1 size5 lo46 hi47 = some r := hr
 unfold Z02_J1 at hr
 refine c_seq (cQ [(6, (.bool ((decide (lo46 ≥ (0 : Int))) && (decide (hi47 < size5)))))] (W1) ?_ ?_)
 refine c_region (lI R (lO (vGe R R) (lB R ?_)))
 rcases bo (decide (lo46 ≥ (0 : Int))) with hc48 | hc48
 refine lW (wnT hc48) (vI R) (lW (wnT hc48) (vI R) (lW (wnT hc48) (vLt R R) (lO (pAT R hc48 R) (lB R (l_nil ?_)))))
 exact qJ (fun w s => s)
 refine lf (wfF hc48) (lf (wfF hc48) (lf (wfF hc48) (lO (pAF (decide (hi47 < size5)) R hc48) (lB R (l_nil ?_)))))
 exact qJ (fun w s => s)
 rintro σ1
 refine q_next (c_ret ?_)
 obtain rfl := so hr
 exact qF () (fun w s => (s.e 3 []))
theorem Zk_ok  {l1 : Nest} {k7 : Kernel} {given12 : (List Bool)} {r : Int × Bool} (hr : Zk l1 k7 given12 = some r) :
 FnOk Tryz.prog 95 [(.agg [(.slice A2 N2 D2), (.slice A3 N3 D3), (.slice A4 N4 D4), (.slice A5 N5 D5), (.slice A6 N6 D6)].toArray), (.agg [(.slice A8 N8 D8), (.slice A9 N9 D9), (iv k7.Store.Buffer), (iv k7.Store.Offset), (.slice A10 N10 D10), (.bool k7.Sum), (.slice A11 N11 D11)].toArray), (.slice A13 N13 D13)] [rds kT3 (.slice A2 N2 D2) l1.Sizes, rds kT3 (.slice A3 N3 D3) l1.Ins, rds kT57 (.slice A4 N4 D4) l1.Fixed, rds kT64 (.slice A5 N5 D5) l1.Kernels, rds kT3 (.slice A6 N6 D6) l1.Outs, rds kT3 (.slice A8 N8 D8) k7.Loops, rds kT61 (.slice A9 N9 D9) k7.Loads, rds kT3 (.slice A10 N10 D10) k7.Store.Steps, rds kT101 (.slice A11 N11 D11) k7.Code, rds kT4 (.slice A13 N13 D13) given12] (fun (h : Unit) => ((.tuple [(iv r.1), (.bool r.2)].toArray), [])) := by
 unfold Zk at hr
 refine fn_ok Tryz.func95 R 96 R R fun C V => ?_
 refine cN (_ :: _ :: _ :: _ :: _ :: _ :: _ :: _ :: _ :: _ :: V) ?_
 refine cL 0 sees_rd ?_
 rintro rfl
 refine cL 1 sees_rd ?_
 rintro rfl
 refine cL 2 sees_rd ?_
 rintro rfl
 refine cL 3 sees_rd ?_
 rintro rfl
 refine cL 4 sees_rd ?_
 rintro rfl
 refine cL 5 sees_rd ?_
 rintro rfl
 refine cL 6 sees_rd ?_
 rintro rfl
 refine cL 7 sees_rd ?_
 rintro rfl
 refine cL 8 sees_rd ?_
 rintro rfl
 refine cL 9 sees_rd ?_
 rintro rfl
 let W0 : List HP := RR kT3 A2 D2 l1.Sizes :: RR kT3 A3 D3 l1.Ins :: RR kT57 A4 D4 l1.Fixed :: RR kT64 A5 D5 l1.Kernels :: RR kT3 A6 D6 l1.Outs :: RR kT3 A8 D8 k7.Loops :: RR kT61 A9 D9 k7.Loads :: RR kT3 A10 D10 k7.Store.Steps :: RR kT101 A11 D11 k7.Code :: RR kT4 A13 D13 given12 :: V
 refine cN W0 ?_
 refine c_seq (c_region (lBx R (fun b14 => (lBx R (fun b15 => (lI R (lB R (l_nil ?_))))))))
 let W1 : List HP := bxl b15 [(sc A8 k7.Loops D8), (sc A9 k7.Loads D9), (iv k7.Store.Buffer), (iv k7.Store.Offset), (sc A10 k7.Store.Steps D10), (.bool k7.Sum), (sc A11 k7.Code D11)] 64 :: bxl b14 [(sc A2 l1.Sizes D2), (sc A3 l1.Ins D3), (sc A4 l1.Fixed D4), (sc A5 l1.Kernels D5), (sc A6 l1.Outs D6)] 36 :: W0
 refine qN W1 ?_
 refine q_next (c_seq ?_)
 obtain ⟨r16, hx17, hr⟩ := bd hr
 refine c_region (lO (vFa 0 fo64_0 R) (lO (vLd 0 ag22 R R R) (lM (RR kT3 A8 D8 k7.Loops :: W1) (fun w s => (s.d 7 R)) ?_)))
 refine lC 1 cb143 R (Z03_ok hx17) R ?_
 rintro _
 refine lN W1 ?_
 refine lO (vT R) (lI R (lB R (lI R (lB R (l_nil (q_next (c_seq (c_seq ?_))))))))
 obtain ⟨r18, hx19, hr⟩ := bd hr
 refine cQ [(2, (sc A13 given12 D13)), (3, (pt b14 0)), (4, (pt b15 0)), (8, (iv r16.1)), (36, (.bool (((!r16.2) || (decide ((k7.Loads.length : Int) > (30 : Int)))) || (!r18))))] (W1) ?_ ?_
 refine c_region (lB R (lO (vNo R) (lB R ?_)))
 rcases bo (!r16.2) with hc20 | hc20
 refine lf (wfT hc20) (lf (wfT hc20) (lf (wfT hc20) (lf (wfT hc20) (lO (pOT (decide ((k7.Loads.length : Int) > (30 : Int))) R hc20) (lB R (lf (wfT (oT hc20)) (lf (wfT (oT hc20)) (lf (wfT (oT hc20)) (lf (wfT (oT hc20)) (lf (wfT (oT hc20)) (lf (wfT (oT hc20)) (lf (wfT (oT hc20)) (lO (pOT (!r18) R (oT hc20)) (l_nil ?_))))))))))))))
 exact qJ (fun w s => s)
 refine lW (wnF hc20) (vFa 1 fo64_1 R) (lW (wnF hc20) (vLd 0 ag59 R R R) (lW (wnF hc20) (v_len sl59 R) (lW (wnF hc20) (vGt R R) (lO (pOF R hc20 R) (lB R ?_)))))
 rcases bo ((!r16.2) || (decide ((k7.Loads.length : Int) > (30 : Int)))) with hc21 | hc21
 refine lf (wfT hc21) (lf (wfT hc21) (lf (wfT hc21) (lf (wfT hc21) (lf (wfT hc21) (lf (wfT hc21) (lf (wfT hc21) (lO (pOT (!r18) R hc21) (l_nil ?_))))))))
 exact qJ (fun w s => s)
 refine lW (wnF hc21) (vFa 6 fo64_4 R) (lW (wnF hc21) (vLd 0 ag62 R R R) (lW (wnF hc21) (vFa 1 fo64_1 R) (lW (wnF hc21) (vLd 0 ag59 R R R) (lW (wnF hc21) (v_len sl59 R) (lM (RR kT101 A11 D11 k7.Code :: W1) (fun w s => (s.d 10 R)) ?_)))))
 refine l_calln 1 R (wnF hc21) cb144 R (Zb_ok (gcall_t hx19 (not_ff hc21))) R ?_
 rintro _
 refine lN W1 ?_
 refine lW (wnF hc21) (vNo R) (lO (pOF R hc21 R) (l_nil ?_))
 exact qJ (fun w s => s)
 rintro σ1
 refine q_next ?_
 rcases bif_ hr with ⟨hb22, hr⟩ | ⟨hb22, hr⟩
 refine c_true R hb22 (c_seq (c_region (lI R (lB R (l_nil (q_next (c_ret (q_ret ?_))))))))
 obtain rfl := so hr
 exact q_fin (vs := [(iv 0), (.bool false)]) (.inl R) () R ⟨R, R, trivial⟩ R (fun w s => (s.e 12 []))
 refine c_false R hb22 (c_skip (q_next (c_seq (c_cut (A := (Unit) × (Unit)) (fun a => Zk_J1 k7 given12 r16 = some r) (fun a => [(2, (sc A13 given12 D13)), (4, (pt b15 0)), (8, (iv r16.1))]) (fun a => W1) ?_ ?_))))
 refine c_seq ?_
 obtain ⟨r23, hx24, hr⟩ := bd hr
 obtain ⟨hg27, hr⟩ := gd hr
 refine c_cutq (A := (Unit) × (HH)) (fun _ => True) (fun a => [(2, (sc A13 given12 D13)), (3, (pt b14 0)), (4, (pt b15 0)), (8, (iv r16.1)), (43, (.slice a.2.1 a.2.2.1 a.2.2.2)), (44, (il (r23 ++ ([k7.Store] : List Access)))), (45, (iv 0))]) (fun a => ow (kT61).share 61 (.slice a.2.1 a.2.2.1 a.2.2.2) (r23 ++ ([k7.Store] : List Access)) :: W1) ?_ ?_
 refine cdr 9 [] mixo (fun ht hn => (dR 0 R (vFa 1 fo64_1 R) (dR 1 R (vLd 0 ag59 R R R) (dR 3 R (vFa 2 fo64_2 R) (dR 4 R (vz (.agg [(iv k7.Store.Buffer), (iv k7.Store.Offset), (sc A10 k7.Store.Steps D10)].toArray) (v_loadw 0 ag61 sz61 R R R R)) (dR 8 R (vI R) (d_all [2, 5] (by kernel_rfl) R ⟨?_, ?_, trivial⟩)))))))
 refine lM (RR kT61 A9 D9 k7.Loads :: W1) (fun w s => (s.d 8 R)) ?_
 refine lC 1 cb74 R (Z1q_ok hx24) R ?_
 rintro ⟨A25, N25, D25⟩
 refine lN (ow (kT61).share 61 (.slice A25 N25 D25) r23 :: W1) ?_
 refine l_len 0 sees_sh ?_
 rintro rfl
 refine l_nil (q_draw (sL [0]) (d1 5 R (lM (RR kT3 A10 D10 k7.Store.Steps :: _ :: W1) (fun w s => (s.d 10 R)) ?_)))
 refine l_build (K := (kT61).share) (xs := ([k7.Store] : List Access)) (vs := [(.agg [(iv k7.Store.Buffer), (iv k7.Store.Offset), (sc A10 k7.Store.Steps D10)].toArray)]) 1 R R sl59 sz61 zc61 R R R R R R ?_ R (fun A26 D26 => ?_)
 exact fun I h s => (mS61).list [(((), (), (sc A10 k7.Store.Steps D10)), k7.Store)] I h s
 refine lN (OO (kT61).share 61 A26 D26 ([k7.Store] : List Access) :: _ :: W1) ?_
 refine l_nil (q_draw (sL [1, 0]) (d1 6 R (lM (ow _ _ _ _ :: ow _ _ _ _ :: W1) (fun w s => (s.e 2 [1, 0])) ?_)))
 refine l_app (K := (kT61).share) 3518437208883 R R sl59 sz61 by61 (Zr.zk (Zr.share zT61) zc61) R R R R R R src_ow hg27 (fun A28 D28 => (lN (OO (kT61).share 61 A28 D28 (r23 ++ ([k7.Store] : List Access)) :: W1) ?_))
 refine l_nil (q_draw (sL [0]) (dR 7 R (v_len sl59 R) (hS := (sL [0])) (dD ?_)))
 exact q_join ((), (A28, (r23 ++ ([k7.Store] : List Access)).length, D28)) trivial (aS R) (fun w s => s)
 refine lM (RR kT3 A10 D10 k7.Store.Steps :: W1) (fun w s => (s.d 9 R)) ?_
 refine l_build (K := (kT61).share) (xs := ([k7.Store] : List Access)) (vs := [(.agg [(iv k7.Store.Buffer), (iv k7.Store.Offset), (sc A10 k7.Store.Steps D10)].toArray)]) 1 R R sl59 sz61 zc61 R R R R R R ?_ R (fun A26 D26 => ?_)
 exact fun I h s => (mS61).list [(((), (), (sc A10 k7.Store.Steps D10)), k7.Store)] I h s
 refine lN (OO (kT61).share 61 A26 D26 ([k7.Store] : List Access) :: W1) ?_
 refine l_nil (q_draw (sL [0]) (d1 2 R (lM (RR kT61 A9 D9 k7.Loads :: _ :: W1) (fun w s => (s.d 9 R)) ?_)))
 refine lC 1 cb74 R (Z1q_ok hx24) R ?_
 rintro ⟨A25, N25, D25⟩
 refine lN (ow (kT61).share 61 (.slice A25 N25 D25) r23 :: _ :: W1) ?_
 refine l_len 0 sees_sh ?_
 rintro rfl
 refine l_nil (q_draw (sL [1, 0]) (d1 6 R (l_app (K := (kT61).share) 3518437208883 R R sl59 sz61 by61 (Zr.zk (Zr.share zT61) zc61) R R R R R R src_ow hg27 (fun A28 D28 => (lN (OO (kT61).share 61 A28 D28 (r23 ++ ([k7.Store] : List Access)) :: W1) ?_)))))
 refine l_nil (q_draw (sL [0]) (dR 7 R (v_len sl59 R) (hS := (sL [0])) (dD ?_)))
 exact q_join ((), (A28, (r23 ++ ([k7.Store] : List Access)).length, D28)) trivial (aS R) (fun w s => s)
 rintro ⟨_, ⟨A29, N29, D29⟩⟩ σ1 -
 refine q_len 0 sees_sh (fun (hn : N29 = (r23 ++ ([k7.Store] : List Access)).length) => ?_)
 subst hn
 refine q_next (c_block ?_)
 obtain ⟨e1, hl1, hk1⟩ := bd hr
 refine c_loop (A := HH) hl1 (fun s a => [(2, (sc A13 given12 D13)), (3, (pt b14 0)), (4, (pt b15 0)), (8, (iv r16.1)), (43, (.slice a.1 a.2.1 a.2.2)), (44, (il (r23 ++ ([k7.Store] : List Access)))), (45, (iv s))]) (fun s a => ow (kT61).share 61 (.slice a.1 a.2.1 a.2.2) (r23 ++ ([k7.Store] : List Access)) :: W1) (A29, (r23 ++ ([k7.Store] : List Access)).length, D29) (aS R) (fun w s => s) ?_
 rintro x45 ⟨A44, N44, D44⟩ σ1 out1 hr he1
 replace hr : Zk_L1 l1 k7 r23 x45 = some out1 := hr
 unfold Zk_L1 at hr
 refine c_len 0 sees_sh (fun (hn : N44 = (r23 ++ ([k7.Store] : List Access)).length) => ?_)
 subst hn
 refine c_seq (c_region (lO (vLt R R) (l_nil (q_next (c_seq ?_)))))
 rcases bif_ hr with ⟨hb46, hr⟩ | ⟨hb46, hr⟩
 refine c_true R hb46 (c_skip (q_next (c_seq (c_block (c_seq ?_)))))
 obtain ⟨hg47, hr⟩ := gd hr
 refine c_region (t_some 0 sees_sh (show 0 < (r23 ++ ([k7.Store] : List Access)).length by have := hg47; omega) (fun g48 o49 ha => ?_))
 subst ha
 refine lO (vIa sl59 sz61 R R hg47) (l_ldo (K := (kT61).share) 0 x45 R R ag61 sz61 dT61.own R R hg47.1 hg47.2 ?_)
 rintro ⟨-, -, ⟨A50, D50⟩⟩
 refine lN (RR kT3 A50 D50 ((ix (r23 ++ ([k7.Store] : List Access)) x45).Steps) :: OO (kT61).share 61 (ad g48 o49) D44 (r23 ++ ([k7.Store] : List Access)) :: W1) ?_
 refine l_alloc R R zc61 (fun b51 => (l_stores 0 R R sz61 R R R R R R (lN (bxl b51 [(iv (ix (r23 ++ ([k7.Store] : List Access)) x45).Buffer), (iv (ix (r23 ++ ([k7.Store] : List Access)) x45).Offset), (sc A50 ((ix (r23 ++ ([k7.Store] : List Access)) x45).Steps) D50)] 61 :: _ :: _ :: W1) ?_)))
 refine l_nil (q_next (c_seq ?_))
 obtain ⟨hg52, hr⟩ := gd hr
 obtain ⟨r55, hx56, hr⟩ := bd hr
 refine cQ [(2, (sc A13 given12 D13)), (3, (pt b14 0)), (4, (pt b15 0)), (8, (iv r16.1)), (43, (sc (ad g48 o49) (r23 ++ ([k7.Store] : List Access)) D44)), (44, (il (r23 ++ ([k7.Store] : List Access)))), (45, (iv x45)), (72, (.bool (((decide ((ix (r23 ++ ([k7.Store] : List Access)) x45).Buffer < (0 : Int))) || (decide ((ix (r23 ++ ([k7.Store] : List Access)) x45).Buffer ≥ (l1.Sizes.length : Int)))) || (!r55))))] (OO (kT61).share 61 (ad g48 o49) D44 (r23 ++ ([k7.Store] : List Access)) :: W1) ?_ ?_
 rcases bo (decide ((ix (r23 ++ ([k7.Store] : List Access)) x45).Buffer < (0 : Int))) with hc57 | hc57
 refine cdr 24 [] mixo (fun ht hn => (dR 0 R (vFa 0 fo61_0 R) (dR 1 R (vLd 0 ag3 R R R) (dR 2 R (vLt R R) (dR 3 R (vB R) (dF 4 R (wfT hc57) (dF 5 R (wfT hc57) (dF 6 R (wfT hc57) (dF 7 R (wfT hc57) (dF 8 R (wfT hc57) (dF 9 R (wfT hc57) (dR 10 R (pOT (decide ((ix (r23 ++ ([k7.Store] : List Access)) x45).Buffer ≥ (l1.Sizes.length : Int))) R hc57) (dR 11 R (vB R) (dF 12 R (wfT (oT hc57)) (dF 13 R (wfT (oT hc57)) (dF 14 R (wfT (oT hc57)) (dF 15 R (wfT (oT hc57)) (dF 16 R (wfT (oT hc57)) (dF 17 R (wfT (oT hc57)) (dF 18 R (wfT (oT hc57)) (dF 19 R (wfT (oT hc57)) (dF 20 R (wfT (oT hc57)) (dF 21 R (wfT (oT hc57)) (dF 22 R (wfT (oT hc57)) (dR 23 R (pOT (!r55) R (oT hc57)) (dD ?_))))))))))))))))))))))))))
 exact qJ (fun w s => (s.e 3 [2]))
 rcases bo ((decide ((ix (r23 ++ ([k7.Store] : List Access)) x45).Buffer < (0 : Int))) || (decide ((ix (r23 ++ ([k7.Store] : List Access)) x45).Buffer ≥ (l1.Sizes.length : Int)))) with hc58 | hc58
 refine cdr 24 [] mixo (fun ht hn => (dR 0 R (vFa 0 fo61_0 R) (dR 1 R (vLd 0 ag3 R R R) (dR 2 R (vLt R R) (dR 3 R (vB R) (dW 4 R (wnF hc57) (vFa 0 fo61_0 R) (dW 5 R (wnF hc57) (vLd 0 ag3 R R R) (dW 6 R (wnF hc57) (vFa 0 fo36_0 R) (dW 7 R (wnF hc57) (vLd 4 ag22 R R R) (dW 8 R (wnF hc57) (v_len sl22 R) (dW 9 R (wnF hc57) (vGe R R) (dR 10 R (pOF R hc57 R) (dR 11 R (vB R) (dF 12 R (wfT hc58) (dF 13 R (wfT hc58) (dF 14 R (wfT hc58) (dF 15 R (wfT hc58) (dF 16 R (wfT hc58) (dF 17 R (wfT hc58) (dF 18 R (wfT hc58) (dF 19 R (wfT hc58) (dF 20 R (wfT hc58) (dF 21 R (wfT hc58) (dF 22 R (wfT hc58) (dR 23 R (pOT (!r55) R hc58) (dD ?_))))))))))))))))))))))))))
 exact qJ (fun w s => (s.e 3 [2]))
 refine c_some 5 sees_rd (show 0 < l1.Sizes.length by have := (hg52 hc58); omega) (fun g53 o54 ha => ?_)
 subst ha
 refine cdr 24 [] mixo (fun ht hn => (dR 0 R (vFa 0 fo61_0 R) (dR 1 R (vLd 0 ag3 R R R) (dR 2 R (vLt R R) (dR 3 R (vB R) (dW 4 R (wnF hc57) (vFa 0 fo61_0 R) (dW 5 R (wnF hc57) (vLd 0 ag3 R R R) (dW 6 R (wnF hc57) (vFa 0 fo36_0 R) (dW 7 R (wnF hc57) (vLd 4 ag22 R R R) (dW 8 R (wnF hc57) (v_len sl22 R) (dW 9 R (wnF hc57) (vGe R R) (dR 10 R (pOF R hc57 R) (dR 11 R (vB R) (dW 12 R (wnF hc58) (vz (.agg [(iv (ix (r23 ++ ([k7.Store] : List Access)) x45).Buffer), (iv (ix (r23 ++ ([k7.Store] : List Access)) x45).Offset), (sc A50 ((ix (r23 ++ ([k7.Store] : List Access)) x45).Steps) D50)].toArray) (v_loadw 0 ag61 sz61 R R R R)) (dW 13 R (wnF hc58) (vFa 0 fo64_0 R) (dW 14 R (wnF hc58) (vLd 3 ag22 R R R) (dW 15 R (wnF hc58) (vFa 0 fo36_0 R) (dW 16 R (wnF hc58) (vLd 4 ag22 R R R) (dW 17 R (wnF hc58) (vFa 0 fo61_0 R) (dW 18 R (wnF hc58) (vLd 0 ag3 R R R) (dW 19 R (wnF hc58) (vIa sl22 sz3 R R (hg52 hc58)) (dW 20 R (wnF hc58) (vLi 5 ag3 sees_rd R (hg52 hc58)) (d1 21 R (lM (rds _ _ _ :: RR kT3 A8 D8 k7.Loops :: bxl _ _ _ :: rds _ _ _ :: ow _ _ _ _ :: W1) (fun w s => (((s.d 1 R).d 11 R).e 5 [1, 0, 2, 3, 4])) ?_))))))))))))))))))))))))
 refine l_calln 2 R (wnF hc58) cb145 R (Z02_ok (gcall_t hx56 (not_ff hc58))) R ?_
 rintro _
 refine lN (_ :: _ :: _ :: W1) ?_
 refine l_nil (q_draw (sL []) (dW 22 R (wnF hc58) (vNo R) (dR 23 R (pOF R hc58 R) (dD ?_))))
 exact qJ (fun w s => (s.e 3 [2]))
 rintro σ1
 refine q_next ?_
 rcases bif_ hr with ⟨hb59, hr⟩ | ⟨hb59, hr⟩
 refine c_true R hb59 (c_seq (c_region (lI R (lB R (l_nil (q_next (c_ret (q_blockr (q_ret ?_)))))))))
 obtain rfl := so hr
 obtain rfl := he1 _ R
 have hr := hk1
 refine q_ret (q_blockr (q_ret ?_))
 obtain rfl := so hr
 exact q_fin (vs := [(iv 0), (.bool false)]) (.inl R) () R ⟨R, R, trivial⟩ R (fun w s => (s.e 13 []))
 refine c_false R hb59 (c_skip (q_blockn (q_next (c_region (lO (vAd R R) (lI R (l_nil ?_)))))))
 obtain rfl := so hr
 exact qA ((ad g48 o49), (r23 ++ ([k7.Store] : List Access)).length, D44) (fun w s => s)
 refine c_false R hb46 (c_exit (q_exit ?_))
 obtain rfl := so hr
 obtain rfl := he1 _ R
 have hr := hk1
 refine q_exit (q_block ?_)
 exact qI ((), ()) hr (fun w s => (s.e 1 []))
 rintro ⟨_, _⟩ σ1 hr
 replace hr : Zk_J1 k7 given12 r16 = some r := hr
 unfold Zk_J1 at hr
 refine c_seq (c_cut (A := (Unit) × (Unit)) (fun a => Zk_J2 k7 given12 r16 = some r) (fun a => [(2, (sc A13 given12 D13)), (4, (pt b15 0)), (8, (iv r16.1))]) (fun a => W1) ?_ ?_)
 refine c_seq (c_region (lO (vFa 1 fo64_1 R) (lO (vLd 0 ag59 R R R) (lO (v_len sl59 R) (lI R (l_nil (q_next (c_block ?_))))))))
 obtain ⟨e2, hl2, hk2⟩ := bd hr
 refine c_loop (A := Unit) hl2 (fun s a => [(2, (sc A13 given12 D13)), (4, (pt b15 0)), (8, (iv r16.1)), (75, (sc A9 k7.Loads D9)), (76, (il k7.Loads)), (77, (iv s))]) (fun s a => W1) () (aS R) (fun w s => s) ?_
 rintro x69 _ σ1 out2 hr he2
 replace hr : Zk_L2 k7 x69 = some out2 := hr
 unfold Zk_L2 at hr
 refine c_seq (c_region (lO (vLt R R) (l_nil (q_next (c_seq ?_)))))
 rcases bif_ hr with ⟨hb70, hr⟩ | ⟨hb70, hr⟩
 refine c_true R hb70 (c_skip (q_next (c_seq (c_block (c_seq ?_)))))
 obtain ⟨hg71, hr⟩ := gd hr
 refine c_region (t_some 8 sees_rd (show 0 < k7.Loads.length by have := hg71; omega) (fun g72 o73 ha => ?_))
 subst ha
 refine lO (vIa sl59 sz61 R R hg71) (t_elem (K := kT61) 8 x69 dT61.dec R hg71.1 hg71.2 ?_)
 rintro ⟨-, -, ⟨A74, D74⟩⟩
 refine lN (cl g72 (o73 + x69.toNat * 3) [(iv (ix k7.Loads x69).Buffer), (iv (ix k7.Loads x69).Offset), (sc A74 ((ix k7.Loads x69).Steps) D74)] :: RR kT3 A74 D74 ((ix k7.Loads x69).Steps) :: W1) ?_
 refine lO (vz (.agg [(iv (ix k7.Loads x69).Buffer), (iv (ix k7.Loads x69).Offset), (sc A74 ((ix k7.Loads x69).Steps) D74)].toArray) (v_clfs (fo := 0) 0 ag61 sz61 R R R R)) (l_alloc R R zc61 (fun b75 => (l_stores 0 R R sz61 R R R R R R (lN (bxl b75 [(iv (ix k7.Loads x69).Buffer), (iv (ix k7.Loads x69).Offset), (sc A74 ((ix k7.Loads x69).Steps) D74)] 61 :: _ :: _ :: W1) ?_))))
 refine l_nil (q_next (c_seq (c_region (lO (vFa 0 fo61_0 R) (lO (vLd 0 ag3 R R R) (lO (vFa 2 fo64_2 R) (lO (vFa 2 fo61_0 R) (lO (vLd 3 ag3 R R R) (lO (vEq R R) (l_nil (q_next ?_)))))))))))
 rcases bif_ hr with ⟨hb76, hr⟩ | ⟨hb76, hr⟩
 refine c_true R hb76 (c_seq (c_region (lI R (lB R (l_nil (q_next (c_ret (q_blockr (q_ret ?_)))))))))
 obtain rfl := so hr
 obtain rfl := he2 _ R
 have hr := hk2
 refine q_ret (q_blockr (q_ret ?_))
 obtain rfl := so hr
 exact q_fin (vs := [(iv 0), (.bool false)]) (.inl R) () R ⟨R, R, trivial⟩ R (fun w s => (s.e 15 []))
 refine c_false R hb76 (c_skip (q_blockn (q_next (c_region (lO (vAd R R) (lI R (l_nil ?_)))))))
 obtain rfl := so hr
 exact qA () (fun w s => (s.e 3 []))
 refine c_false R hb70 (c_exit (q_exit ?_))
 obtain rfl := so hr
 obtain rfl := he2 _ R
 have hr := hk2
 refine q_exit (q_block ?_)
 exact qI ((), ()) hr (fun w s => s)
 rintro ⟨_, _⟩ σ1 hr
 replace hr : Zk_J2 k7 given12 r16 = some r := hr
 unfold Zk_J2 at hr
 refine c_seq ?_
 obtain ⟨hg78, hr⟩ := gd hr
 refine c_some 11 sees_rd (show 0 < given12.length by have := hg78; omega) (fun g79 o80 ha => ?_)
 subst ha
 refine cdr 10 [] mixo (fun ht hn => (dR 0 R (vI R) (dR 1 R (vS R) (dR 2 R (vFa 2 fo64_2 R) (dR 3 R (vFa 2 fo61_0 R) (dR 4 R (vLd 0 ag3 R R R) (dR 5 R (vIa sl104 sz4 R R hg78) (dR 6 R (vz (.bool (ix given12 k7.Store.Buffer)) (v_lde (K := kT4) (fo := 0) (pr := fun x => (.bool x)) 11 k7.Store.Buffer ag4 (dT4.leaf fun _ _ => R) sees_rd R hg78.1 hg78.2)) (dR 7 R (vNo R) (dR 8 R (vI R) (dR 9 R (vB R) (dD (q_next (c_ret ?_))))))))))))))
 obtain rfl := so hr
 exact q_fin (vs := [(iv r16.1), (.bool (!(ix given12 k7.Store.Buffer)))]) (.inl R) () R ⟨R, R, trivial⟩ R (fun w s => (s.e 12 []))
theorem Z4_ok  {l1 : Nest} {r : Bool} (hr : Z4 l1 = some r) :
 FnOk Tryz.prog 55 [(.agg [(.slice A2 N2 D2), (.slice A3 N3 D3), (.slice A4 N4 D4), (.slice A5 N5 D5), (.slice A6 N6 D6)].toArray)] [rds kT3 (.slice A2 N2 D2) l1.Sizes, rds kT3 (.slice A3 N3 D3) l1.Ins, rds kT57 (.slice A4 N4 D4) l1.Fixed, rds kT64 (.slice A5 N5 D5) l1.Kernels, rds kT3 (.slice A6 N6 D6) l1.Outs] (fun (h : Unit) => ((.bool r), [])) := by
 unfold Z4 at hr
 refine fn_ok Tryz.func55 R 96 R R fun C V => ?_
 refine cN (_ :: _ :: _ :: _ :: _ :: V) ?_
 refine cL 0 sees_rd ?_
 rintro rfl
 refine cL 1 sees_rd ?_
 rintro rfl
 refine cL 2 sees_rd ?_
 rintro rfl
 refine cL 3 sees_rd ?_
 rintro rfl
 refine cL 4 sees_rd ?_
 rintro rfl
 let W0 : List HP := RR kT3 A2 D2 l1.Sizes :: RR kT3 A3 D3 l1.Ins :: RR kT57 A4 D4 l1.Fixed :: RR kT64 A5 D5 l1.Kernels :: RR kT3 A6 D6 l1.Outs :: V
 refine cN W0 ?_
 refine c_seq (c_region (lBx R (fun b7 => (lB R (l_nil ?_)))))
 let W1 : List HP := bxl b7 [(sc A2 l1.Sizes D2), (sc A3 l1.Ins D3), (sc A4 l1.Fixed D4), (sc A5 l1.Kernels D5), (sc A6 l1.Outs D6)] 36 :: W0
 refine qN W1 ?_
 refine q_next (c_seq (c_seq (cQ [(1, (pt b7 0)), (35, (.bool ((((decide ((l1.Sizes.length : Int) > (200 : Int))) || (decide ((l1.Ins.length : Int) > (40 : Int)))) || (decide ((l1.Outs.length : Int) > (40 : Int)))) || (decide ((l1.Kernels.length : Int) > (400 : Int))))))] (W1) ?_ ?_)))
 refine c_region (lO (vFa 0 fo36_0 R) (lO (vLd 0 ag22 R R R) (lO (v_len sl22 R) (lO (vGt R R) (lB R ?_)))))
 rcases bo (decide ((l1.Sizes.length : Int) > (200 : Int))) with hc8 | hc8
 refine lf (wfT hc8) (lf (wfT hc8) (lf (wfT hc8) (lf (wfT hc8) (lO (pOT (decide ((l1.Ins.length : Int) > (40 : Int))) R hc8) (lB R (lf (wfT (oT hc8)) (lf (wfT (oT hc8)) (lf (wfT (oT hc8)) (lf (wfT (oT hc8)) (lO (pOT (decide ((l1.Outs.length : Int) > (40 : Int))) R (oT hc8)) (lB R (lf (wfT (oT (oT hc8))) (lf (wfT (oT (oT hc8))) (lf (wfT (oT (oT hc8))) (lf (wfT (oT (oT hc8))) (lO (pOT (decide ((l1.Kernels.length : Int) > (400 : Int))) R (oT (oT hc8))) (l_nil ?_)))))))))))))))))
 exact qJ (fun w s => s)
 refine lW (wnF hc8) (vFa 1 fo36_1 R) (lW (wnF hc8) (vLd 0 ag22 R R R) (lW (wnF hc8) (v_len sl22 R) (lW (wnF hc8) (vGt R R) (lO (pOF R hc8 R) (lB R ?_)))))
 rcases bo ((decide ((l1.Sizes.length : Int) > (200 : Int))) || (decide ((l1.Ins.length : Int) > (40 : Int)))) with hc9 | hc9
 refine lf (wfT hc9) (lf (wfT hc9) (lf (wfT hc9) (lf (wfT hc9) (lO (pOT (decide ((l1.Outs.length : Int) > (40 : Int))) R hc9) (lB R (lf (wfT (oT hc9)) (lf (wfT (oT hc9)) (lf (wfT (oT hc9)) (lf (wfT (oT hc9)) (lO (pOT (decide ((l1.Kernels.length : Int) > (400 : Int))) R (oT hc9)) (l_nil ?_)))))))))))
 exact qJ (fun w s => s)
 refine lW (wnF hc9) (vFa 4 fo36_4 R) (lW (wnF hc9) (vLd 0 ag22 R R R) (lW (wnF hc9) (v_len sl22 R) (lW (wnF hc9) (vGt R R) (lO (pOF R hc9 R) (lB R ?_)))))
 rcases bo (((decide ((l1.Sizes.length : Int) > (200 : Int))) || (decide ((l1.Ins.length : Int) > (40 : Int)))) || (decide ((l1.Outs.length : Int) > (40 : Int)))) with hc10 | hc10
 refine lf (wfT hc10) (lf (wfT hc10) (lf (wfT hc10) (lf (wfT hc10) (lO (pOT (decide ((l1.Kernels.length : Int) > (400 : Int))) R hc10) (l_nil ?_)))))
 exact qJ (fun w s => s)
 refine lW (wnF hc10) (vFa 3 fo36_3 R) (lW (wnF hc10) (vLd 0 ag34 R R R) (lW (wnF hc10) (v_len sl34 R) (lW (wnF hc10) (vGt R R) (lO (pOF R hc10 R) (l_nil ?_)))))
 exact qJ (fun w s => s)
 rintro σ1
 refine q_next ?_
 rcases bif_ hr with ⟨hb11, hr⟩ | ⟨hb11, hr⟩
 refine c_true R hb11 (c_seq (c_region (lB R (l_nil (q_next (c_ret (q_ret ?_)))))))
 obtain rfl := so hr
 exact qF () (fun w s => (s.e 6 []))
 refine c_false R hb11 (c_skip (q_next (c_seq (c_cut (A := (Unit) × (Unit)) (fun a => Z4_J1 l1 = some r) (fun a => [(1, (pt b7 0))]) (fun a => W1) ?_ ?_))))
 refine c_seq (c_region (lO (vFa 0 fo36_0 R) (lO (vLd 0 ag22 R R R) (lO (v_len sl22 R) (lI R (l_nil (q_next (c_block ?_))))))))
 obtain ⟨e1, hl1, hk1⟩ := bd hr
 refine c_loop (A := HH) hl1 (fun s a => [(1, (pt b7 0)), (37, (.slice a.1 a.2.1 a.2.2)), (38, (il l1.Sizes)), (39, (iv s))]) (fun s a => rds kT3 (.slice a.1 a.2.1 a.2.2) l1.Sizes :: W1) (A2, l1.Sizes.length, D2) (aS R) (fun w s => (s.d 1 R)) ?_
 rintro x19 ⟨A18, N18, D18⟩ σ1 out1 hr he1
 replace hr : Z4_L1 l1 x19 = some out1 := hr
 unfold Z4_L1 at hr
 refine c_len 0 sees_rd (fun (hn : N18 = l1.Sizes.length) => ?_)
 subst hn
 refine c_seq (c_region (lO (vLt R R) (l_nil (q_next (c_seq ?_)))))
 rcases bif_ hr with ⟨hb20, hr⟩ | ⟨hb20, hr⟩
 refine c_true R hb20 (c_skip (q_next (c_seq (c_block (c_seq ?_)))))
 obtain ⟨hg21, hr⟩ := gd hr
 refine c_region (t_some 0 sees_rd (show 0 < l1.Sizes.length by have := hg21; omega) (fun g22 o23 ha => ?_))
 subst ha
 refine lO (vIa sl22 sz3 R R hg21) (lO (vLi 0 ag3 sees_rd R hg21) (lI R (l_nil (q_next (c_seq (cQ [(1, (pt b7 0)), (37, (sc (ad g22 o23) l1.Sizes D18)), (38, (il l1.Sizes)), (39, (iv x19)), (48, (.bool ((decide ((ix l1.Sizes x19) < (0 : Int))) || (decide ((ix l1.Sizes x19) > (4096 : Int))))))] (RR kT3 (ad g22 o23) D18 l1.Sizes :: W1) ?_ ?_))))))
 refine c_region (lI R (lO (vLt R R) (lB R ?_)))
 rcases bo (decide ((ix l1.Sizes x19) < (0 : Int))) with hc24 | hc24
 refine lf (wfT hc24) (lf (wfT hc24) (lO (pOT (decide ((ix l1.Sizes x19) > (4096 : Int))) R hc24) (l_nil ?_)))
 exact qJ (fun w s => s)
 refine lW (wnF hc24) (vI R) (lW (wnF hc24) (vGt R R) (lO (pOF R hc24 R) (l_nil ?_)))
 exact qJ (fun w s => s)
 rintro σ1
 refine q_next ?_
 rcases bif_ hr with ⟨hb25, hr⟩ | ⟨hb25, hr⟩
 refine c_true R hb25 (c_seq (c_region (lB R (l_nil (q_next (c_ret (q_blockr (q_ret ?_))))))))
 obtain rfl := so hr
 obtain rfl := he1 _ R
 have hr := hk1
 refine q_ret (q_blockr (q_ret ?_))
 obtain rfl := so hr
 exact qF () (fun w s => (s.e 7 []))
 refine c_false R hb25 (c_skip (q_blockn (q_next (c_region (lO (vAd R R) (lI R (l_nil ?_)))))))
 obtain rfl := so hr
 exact qA ((ad g22 o23), l1.Sizes.length, D18) (fun w s => s)
 refine c_false R hb20 (c_exit (q_exit ?_))
 obtain rfl := so hr
 obtain rfl := he1 _ R
 have hr := hk1
 refine q_exit (q_block ?_)
 exact qI ((), ()) hr (fun w s => (s.e 1 []))
 rintro ⟨_, _⟩ σ1 hr
 replace hr : Z4_J1 l1 = some r := hr
 unfold Z4_J1 at hr
 refine c_seq (c_cut (A := (Unit) × (Unit)) (fun a => Z4_J2 l1 = some r) (fun a => [(1, (pt b7 0))]) (fun a => W1) ?_ ?_)
 refine c_seq (c_region (lO (vFa 4 fo36_4 R) (lO (vLd 0 ag22 R R R) (lO (v_len sl22 R) (lI R (l_nil (q_next (c_block ?_))))))))
 obtain ⟨e2, hl2, hk2⟩ := bd hr
 refine c_loop (A := HH) hl2 (fun s a => [(1, (pt b7 0)), (51, (.slice a.1 a.2.1 a.2.2)), (52, (il l1.Outs)), (53, (iv s))]) (fun s a => rds kT3 (.slice a.1 a.2.1 a.2.2) l1.Outs :: W1) (A6, l1.Outs.length, D6) (aS R) (fun w s => (s.d 5 R)) ?_
 rintro x35 ⟨A34, N34, D34⟩ σ1 out2 hr he2
 replace hr : Z4_L2 l1 x35 = some out2 := hr
 unfold Z4_L2 at hr
 refine c_len 0 sees_rd (fun (hn : N34 = l1.Outs.length) => ?_)
 subst hn
 refine c_seq (c_region (lO (vLt R R) (l_nil (q_next (c_seq ?_)))))
 rcases bif_ hr with ⟨hb36, hr⟩ | ⟨hb36, hr⟩
 refine c_true R hb36 (c_skip (q_next (c_seq (c_block (c_seq ?_)))))
 obtain ⟨hg37, hr⟩ := gd hr
 refine c_region (t_some 0 sees_rd (show 0 < l1.Outs.length by have := hg37; omega) (fun g38 o39 ha => ?_))
 subst ha
 refine lO (vIa sl22 sz3 R R hg37) (lO (vLi 0 ag3 sees_rd R hg37) (lI R (l_nil (q_next (c_seq (cQ [(1, (pt b7 0)), (51, (sc (ad g38 o39) l1.Outs D34)), (52, (il l1.Outs)), (53, (iv x35)), (65, (.bool ((decide ((ix l1.Outs x35) < (0 : Int))) || (decide ((ix l1.Outs x35) ≥ (l1.Sizes.length : Int))))))] (RR kT3 (ad g38 o39) D34 l1.Outs :: W1) ?_ ?_))))))
 refine c_region (lI R (lO (vLt R R) (lB R ?_)))
 rcases bo (decide ((ix l1.Outs x35) < (0 : Int))) with hc40 | hc40
 refine lf (wfT hc40) (lf (wfT hc40) (lf (wfT hc40) (lf (wfT hc40) (lf (wfT hc40) (lO (pOT (decide ((ix l1.Outs x35) ≥ (l1.Sizes.length : Int))) R hc40) (l_nil ?_))))))
 exact qJ (fun w s => s)
 refine lW (wnF hc40) (vI R) (lW (wnF hc40) (vFa 0 fo36_0 R) (lW (wnF hc40) (vLd 1 ag22 R R R) (lW (wnF hc40) (v_len sl22 R) (lW (wnF hc40) (vGe R R) (lO (pOF R hc40 R) (l_nil ?_))))))
 exact qJ (fun w s => s)
 rintro σ1
 refine q_next ?_
 rcases bif_ hr with ⟨hb41, hr⟩ | ⟨hb41, hr⟩
 refine c_true R hb41 (c_seq (c_region (lB R (l_nil (q_next (c_ret (q_blockr (q_ret ?_))))))))
 obtain rfl := so hr
 obtain rfl := he2 _ R
 have hr := hk2
 refine q_ret (q_blockr (q_ret ?_))
 obtain rfl := so hr
 exact qF () (fun w s => (s.e 7 []))
 refine c_false R hb41 (c_skip (q_blockn (q_next (c_region (lO (vAd R R) (lI R (l_nil ?_)))))))
 obtain rfl := so hr
 exact qA ((ad g38 o39), l1.Outs.length, D34) (fun w s => s)
 refine c_false R hb36 (c_exit (q_exit ?_))
 obtain rfl := so hr
 obtain rfl := he2 _ R
 have hr := hk2
 refine q_exit (q_block ?_)
 exact qI ((), ()) hr (fun w s => (s.e 1 []))
 rintro ⟨_, _⟩ σ1 hr
 replace hr : Z4_J2 l1 = some r := hr
 unfold Z4_J2 at hr
 refine c_seq ?_
 obtain ⟨r44, hx45, hr⟩ := bd hr
 refine c_region (lO (vz (.agg [(sc A2 l1.Sizes D2), (sc A3 l1.Ins D3), (sc A4 l1.Fixed D4), (sc A5 l1.Kernels D5), (sc A6 l1.Outs D6)].toArray) (v_loadw 0 ag36 sz36 R R R R)) (lM (RR kT3 A2 D2 l1.Sizes :: RR kT3 A3 D3 l1.Ins :: RR kT57 A4 D4 l1.Fixed :: RR kT64 A5 D5 l1.Kernels :: RR kT3 A6 D6 l1.Outs :: W1) (fun w s => ((((((s.d 1 R).d 3 R).d 5 R).d 7 R).d 9 R).e 5 [4, 3, 2, 1, 0])) ?_))
 refine lC 5 cb73 R (Z9_ok hx45) R ?_
 rintro ⟨A46, N46, D46⟩
 refine lN (ow kT4 4 (.slice A46 N46 D46) r44.1 :: W1) ?_
 refine l_len 0 sees_ow ?_
 rintro rfl
 refine lO (vT R) (lS R (lB R (lS R (lB R (l_nil (q_next (c_seq (c_seq (c_region (lB R (lO (vNo R) (l_nil (q_next ?_)))))))))))))
 rcases bif_ hr with ⟨hb47, hr⟩ | ⟨hb47, hr⟩
 refine c_true R hb47 (c_seq (c_region (lB R (l_nil (q_next (c_ret (q_ret ?_)))))))
 obtain rfl := so hr
 exact qF () (fun w s => (s.e 7 []))
 refine c_false R hb47 (c_skip (q_next (c_seq (c_region (lI R (l_nil (q_next (c_seq (c_cut (A := (Int) × (Unit)) (fun a => Z4_J3 a.1 = some r) (fun a => [(9, (iv a.1))]) (fun a => W1) ?_ ?_)))))))))
 refine c_seq (c_region (lO (vFa 3 fo36_3 R) (lO (vLd 1 ag34 R R R) (lO (v_len sl34 R) (lI R (l_nil (q_next (c_block ?_))))))))
 obtain ⟨e3, hl3, hk3⟩ := bd hr
 refine c_loop (A := Unit) hl3 (fun s a => [(1, (pt b7 0)), (7, (sc A46 r44.1 D46)), (9, (iv s.1)), (75, (sc A5 l1.Kernels D5)), (76, (il l1.Kernels)), (77, (iv s.2))]) (fun s a => OO kT4 4 A46 D46 r44.1 :: W1) () (aS R) (fun w s => s) ?_
 rintro ⟨sum60, x61⟩ _ σ1 out3 hr he3
 replace hr : Z4_L3 l1 r44 sum60 x61 = some out3 := hr
 unfold Z4_L3 at hr
 refine c_seq (c_region (lO (vLt R R) (l_nil (q_next (c_seq ?_)))))
 rcases bif_ hr with ⟨hb62, hr⟩ | ⟨hb62, hr⟩
 refine c_true R hb62 (c_skip (q_next (c_seq (c_block (c_seq ?_)))))
 obtain ⟨hg63, hr⟩ := gd hr
 refine c_region (t_some 5 sees_rd (show 0 < l1.Kernels.length by have := hg63; omega) (fun g64 o65 ha => ?_))
 subst ha
 refine lO (vIa sl34 sz64 R R hg63) (t_elem (K := kT64) 5 x61 dT64.dec R hg63.1 hg63.2 ?_)
 rintro ⟨⟨A66, D66⟩, ⟨A67, D67⟩, ⟨-, -, ⟨A68, D68⟩⟩, -, ⟨A69, D69⟩⟩
 refine lN (cl g64 (o65 + x61.toNat * 7) [(sc A66 ((ix l1.Kernels x61).Loops) D66), (sc A67 ((ix l1.Kernels x61).Loads) D67), (iv (ix l1.Kernels x61).Store.Buffer), (iv (ix l1.Kernels x61).Store.Offset), (sc A68 ((ix l1.Kernels x61).Store.Steps) D68), (.bool (ix l1.Kernels x61).Sum), (sc A69 ((ix l1.Kernels x61).Code) D69)] :: RR kT3 A66 D66 ((ix l1.Kernels x61).Loops) :: RR kT61 A67 D67 ((ix l1.Kernels x61).Loads) :: RR kT3 A68 D68 ((ix l1.Kernels x61).Store.Steps) :: RR kT101 A69 D69 ((ix l1.Kernels x61).Code) :: _ :: W1) ?_
 refine lO (vz (.agg [(sc A66 ((ix l1.Kernels x61).Loops) D66), (sc A67 ((ix l1.Kernels x61).Loads) D67), (iv (ix l1.Kernels x61).Store.Buffer), (iv (ix l1.Kernels x61).Store.Offset), (sc A68 ((ix l1.Kernels x61).Store.Steps) D68), (.bool (ix l1.Kernels x61).Sum), (sc A69 ((ix l1.Kernels x61).Code) D69)].toArray) (v_clfs (fo := 0) 0 ag64 sz64 R R R R)) (l_alloc R R zc64 (fun b70 => (l_stores 0 R R sz64 R R R R R R (lN (bxl b70 [(sc A66 ((ix l1.Kernels x61).Loops) D66), (sc A67 ((ix l1.Kernels x61).Loads) D67), (iv (ix l1.Kernels x61).Store.Buffer), (iv (ix l1.Kernels x61).Store.Offset), (sc A68 ((ix l1.Kernels x61).Store.Steps) D68), (.bool (ix l1.Kernels x61).Sum), (sc A69 ((ix l1.Kernels x61).Code) D69)] 64 :: _ :: _ :: _ :: _ :: _ :: _ :: W1) ?_))))
 refine l_nil (q_next (c_seq ?_))
 obtain ⟨r71, hx72, hr⟩ := bd hr
 refine c_region (lO (vz (.agg [(sc A2 l1.Sizes D2), (sc A3 l1.Ins D3), (sc A4 l1.Fixed D4), (sc (ad g64 o65) l1.Kernels D5), (sc A6 l1.Outs D6)].toArray) (v_loadw 7 ag36 sz36 R R R R)) (lO (vz (.agg [(sc A66 ((ix l1.Kernels x61).Loops) D66), (sc A67 ((ix l1.Kernels x61).Loads) D67), (iv (ix l1.Kernels x61).Store.Buffer), (iv (ix l1.Kernels x61).Store.Offset), (sc A68 ((ix l1.Kernels x61).Store.Steps) D68), (.bool (ix l1.Kernels x61).Sum), (sc A69 ((ix l1.Kernels x61).Code) D69)].toArray) (v_loadw 0 ag64 sz64 R R R R)) (lS R (lM (ow _ _ _ _ :: RR kT3 A2 D2 l1.Sizes :: RR kT3 A3 D3 l1.Ins :: RR kT57 A4 D4 l1.Fixed :: RR kT64 (ad g64 o65) D5 l1.Kernels :: RR kT3 A6 D6 l1.Outs :: rds _ _ _ :: rds _ _ _ :: rds _ _ _ :: rds _ _ _ :: bxl _ _ _ :: cl _ _ _ :: rds _ _ _ :: rds _ _ _ :: rds _ _ _ :: rds _ _ _ :: W1) (fun w s => ((((((((((s.d 8 R).d 10 R).d 12 R).d 14 R).d 16 R).d 7 R).d 9 R).d 11 R).d 13 R).e 16 [15, 8, 7, 6, 5, 4, 3, 2, 1, 0, 9, 10, 11, 12, 13, 14])) ?_))))
 refine lC 10 cb95 R (FnOk.lends (A' := [OO kT4 4 A46 D46 r44.1]) (A := [RR kT4 A46 D46 r44.1]) (B := [RR kT3 A2 D2 l1.Sizes, RR kT3 A3 D3 l1.Ins, RR kT57 A4 D4 l1.Fixed, RR kT64 (ad g64 o65) D5 l1.Kernels, RR kT3 A6 D6 l1.Outs, RR kT3 A66 D66 ((ix l1.Kernels x61).Loops), RR kT61 A67 D67 ((ix l1.Kernels x61).Loads), RR kT3 A68 D68 ((ix l1.Kernels x61).Store.Steps), RR kT101 A69 D69 ((ix l1.Kernels x61).Code)]) (FnOk.perm (Zk_ok hx72) (Pre' := [RR kT4 A46 D46 r44.1, RR kT3 A2 D2 l1.Sizes, RR kT3 A3 D3 l1.Ins, RR kT57 A4 D4 l1.Fixed, RR kT64 (ad g64 o65) D5 l1.Kernels, RR kT3 A6 D6 l1.Outs, RR kT3 A66 D66 ((ix l1.Kernels x61).Loops), RR kT61 A67 D67 ((ix l1.Kernels x61).Loads), RR kT3 A68 D68 ((ix l1.Kernels x61).Store.Steps), RR kT101 A69 D69 ((ix l1.Kernels x61).Code)]) (fun _ _ _ s => (s.f 10 [1, 9, 0, 1]))) ⟨lend_ow, trivial⟩ (fun _ => trivial)) R ?_
 rintro _
 refine lN (_ :: _ :: _ :: _ :: _ :: _ :: _ :: W1) ?_
 refine lO (vT R) (lI R (lB R (lI R (lB R (l_nil (q_next (c_seq (c_seq (c_region (lB R (lO (vNo R) (l_nil (q_next ?_)))))))))))))
 rcases bif_ hr with ⟨hb73, hr⟩ | ⟨hb73, hr⟩
 refine c_true R hb73 (c_seq (c_region (lB R (l_nil (q_next (c_ret (q_ret (q_blockr (q_ret ?_)))))))))
 obtain rfl := so hr
 obtain rfl := he3 _ R
 have hr := hk3
 refine q_ret (q_blockr (q_ret ?_))
 obtain rfl := so hr
 exact qF () (fun w s => (s.e 13 []))
 refine c_false R hb73 (c_skip (q_next (c_region (lI R (lI R (lO (vAd R R) (lI R (l_nil (q_blockn (q_next (c_region (lO (vAd R R) (lI R (l_nil ?_))))))))))))))
 obtain rfl := so hr
 exact qA () (fun w s => (s.e 7 [0]))
 refine c_false R hb62 (c_exit (q_exit ?_))
 obtain rfl := so hr
 obtain rfl := he3 _ R
 have hr := hk3
 refine q_exit (q_block ?_)
 exact qI (sum60, ()) hr (fun w s => (s.e 1 []))
 rintro ⟨sum76, _⟩ σ1 hr
 replace hr : Z4_J3 sum76 = some r := hr
 unfold Z4_J3 at hr
 refine c_seq (c_region (lI R (lO (vLe R R) (lB R (l_nil (q_next (c_ret ?_)))))))
 obtain rfl := so hr
 exact qF () (fun w s => (s.e 6 []))
theorem Z1y_ok  {b1 : Bool} {r : Int} (hr : Z1y b1 = some r) :
 FnOk Tryz.prog 146 [(.bool b1)] [] (fun (h : Unit) => ((iv r), [])) := by
 unfold Z1y at hr
 refine fn_ok Tryz.func146 R 4 R R fun C V => ?_
 refine cN V ?_
 refine c_seq (c_region (lI R (l_nil (q_next (c_seq (c_seq (c_region (lB R (l_nil (q_next ?_))))))))))
 rcases bif_ hr with ⟨hb2, hr⟩ | ⟨hb2, hr⟩
 refine c_true R hb2 (c_seq (c_region (lI R (l_nil (q_next (c_ret (q_ret ?_)))))))
 obtain rfl := so hr
 exact qF () (fun w s => s)
 refine c_false R hb2 (c_skip (q_next (c_seq (c_region (lI R (l_nil (q_next (c_ret ?_))))))))
 obtain rfl := so hr
 exact qF () (fun w s => s)
theorem Z08_ok  {k1 : Kernel} {b6 : Int} {r : Int} (hr : Z08 k1 b6 = some r) :
 FnOk Tryz.prog 96 [(.agg [(.slice A2 N2 D2), (.slice A3 N3 D3), (iv k1.Store.Buffer), (iv k1.Store.Offset), (.slice A4 N4 D4), (.bool k1.Sum), (.slice A5 N5 D5)].toArray), (iv b6)] [rds kT3 (.slice A2 N2 D2) k1.Loops, rds kT61 (.slice A3 N3 D3) k1.Loads, rds kT3 (.slice A4 N4 D4) k1.Store.Steps, rds kT101 (.slice A5 N5 D5) k1.Code] (fun (h : Unit) => ((iv r), [])) := by
 unfold Z08 at hr
 refine fn_ok Tryz.func96 R 24 R R fun C V => ?_
 refine cN (_ :: _ :: _ :: _ :: V) ?_
 refine cL 0 sees_rd ?_
 rintro rfl
 refine cL 1 sees_rd ?_
 rintro rfl
 refine cL 2 sees_rd ?_
 rintro rfl
 refine cL 3 sees_rd ?_
 rintro rfl
 let W0 : List HP := RR kT3 A2 D2 k1.Loops :: RR kT61 A3 D3 k1.Loads :: RR kT3 A4 D4 k1.Store.Steps :: RR kT101 A5 D5 k1.Code :: V
 refine cN W0 ?_
 refine c_seq (c_region (lBx R (fun b7 => (lI R (l_nil ?_)))))
 let W1 : List HP := bxl b7 [(sc A2 k1.Loops D2), (sc A3 k1.Loads D3), (iv k1.Store.Buffer), (iv k1.Store.Offset), (sc A4 k1.Store.Steps D4), (.bool k1.Sum), (sc A5 k1.Code D5)] 64 :: W0
 refine qN W1 ?_
 refine q_next (c_seq (c_region (lI R (l_nil (q_next (c_seq (c_cut (A := (Int) × (Unit)) (fun a => Z08_J1 a.1 = some r) (fun a => [(5, (iv a.1))]) (fun a => W1) ?_ ?_)))))))
 refine c_seq (c_region (lO (vFa 1 fo64_1 R) (lO (vLd 0 ag59 R R R) (lO (v_len sl59 R) (lI R (l_nil (q_next (c_block ?_))))))))
 obtain ⟨e1, hl1, hk1⟩ := bd hr
 refine c_loop (A := Unit) hl1 (fun s a => [(1, (iv b6)), (5, (iv s.1)), (9, (sc A3 k1.Loads D3)), (10, (il k1.Loads)), (11, (iv s.2))]) (fun s a => W1) () (aS R) (fun w s => s) ?_
 rintro ⟨n16, x17⟩ _ σ1 out1 hr he1
 replace hr : Z08_L1 k1 b6 n16 x17 = some out1 := hr
 unfold Z08_L1 at hr
 refine c_seq (c_region (lO (vLt R R) (l_nil (q_next (c_seq ?_)))))
 rcases bif_ hr with ⟨hb18, hr⟩ | ⟨hb18, hr⟩
 refine c_true R hb18 (c_skip (q_next (c_seq (c_block (c_seq ?_)))))
 obtain ⟨hg19, hr⟩ := gd hr
 refine c_region (t_some 2 sees_rd (show 0 < k1.Loads.length by have := hg19; omega) (fun g20 o21 ha => ?_))
 subst ha
 refine lO (vIa sl59 sz61 R R hg19) (t_elem (K := kT61) 2 x17 dT61.dec R hg19.1 hg19.2 ?_)
 rintro ⟨-, -, ⟨A22, D22⟩⟩
 refine lN (cl g20 (o21 + x17.toNat * 3) [(iv (ix k1.Loads x17).Buffer), (iv (ix k1.Loads x17).Offset), (sc A22 ((ix k1.Loads x17).Steps) D22)] :: RR kT3 A22 D22 ((ix k1.Loads x17).Steps) :: W1) ?_
 refine lO (vz (.agg [(iv (ix k1.Loads x17).Buffer), (iv (ix k1.Loads x17).Offset), (sc A22 ((ix k1.Loads x17).Steps) D22)].toArray) (v_clfs (fo := 0) 0 ag61 sz61 R R R R)) (l_alloc R R zc61 (fun b23 => (l_stores 0 R R sz61 R R R R R R (lN (bxl b23 [(iv (ix k1.Loads x17).Buffer), (iv (ix k1.Loads x17).Offset), (sc A22 ((ix k1.Loads x17).Steps) D22)] 61 :: _ :: _ :: W1) ?_))))
 refine l_nil (q_next ?_)
 obtain ⟨r24, hx25, hr⟩ := bd hr
 refine c_region (lI R (lO (vFa 0 fo61_0 R) (lO (vLd 0 ag3 R R R) (lI R (lO (vEq R R) (lC 0 cb146 R (Z1y_ok hx25) R ?_))))))
 rintro _
 refine lO (vAd R R) (lI R (l_nil (q_blockn (q_next (c_region (lO (vAd R R) (lI R (l_nil ?_))))))))
 obtain rfl := so hr
 exact qA () (fun w s => (s.e 3 []))
 refine c_false R hb18 (c_exit (q_exit ?_))
 obtain rfl := so hr
 obtain rfl := he1 _ R
 have hr := hk1
 refine q_exit (q_block ?_)
 exact qI (n16, ()) hr (fun w s => s)
 rintro ⟨n28, _⟩ σ1 hr
 replace hr : Z08_J1 n28 = some r := hr
 unfold Z08_J1 at hr
 refine c_seq (c_region (lI R (lI R (l_nil (q_next (c_ret ?_))))))
 obtain rfl := so hr
 exact qF () (fun w s => (s.e 5 []))
theorem Z0m_ok  {p1 : (List Int)} {v3 : Int} {r : Int} (hr : Z0m p1 v3 = some r) :
 FnOk Tryz.prog 147 [(.slice A2 N2 D2), (iv v3)] [rds kT3 (.slice A2 N2 D2) p1] (fun (h : Unit) => ((iv r), [])) := by
 unfold Z0m at hr
 refine fn_ok Tryz.func147 R 19 R R fun C V => ?_
 refine cN (_ :: V) ?_
 refine cL 0 sees_rd ?_
 rintro rfl
 let W0 : List HP := RR kT3 A2 D2 p1 :: V
 refine cN W0 ?_
 refine c_seq (c_region (lI R (l_nil (q_next (c_seq (c_cut (A := (Unit) × (Unit)) (fun a => Z0m_J1 = some r) (fun a => []) (fun a => W0) ?_ ?_))))))
 refine c_seq (c_region (lS R (lO (v_len sl22 R) (lI R (l_nil (q_next (c_block ?_)))))))
 obtain ⟨e1, hl1, hk1⟩ := bd hr
 refine c_loop (A := Unit) hl1 (fun s a => [(0, (sc A2 p1 D2)), (1, (iv v3)), (7, (il p1)), (8, (iv s))]) (fun s a => W0) () (aS R) (fun w s => s) ?_
 rintro x9 _ σ1 out1 hr he1
 replace hr : Z0m_L1 p1 v3 x9 = some out1 := hr
 unfold Z0m_L1 at hr
 refine c_seq (c_region (lO (vLt R R) (l_nil (q_next (c_seq ?_)))))
 rcases bif_ hr with ⟨hb10, hr⟩ | ⟨hb10, hr⟩
 refine c_true R hb10 (c_skip (q_next (c_seq (c_block (c_seq (c_region (lI R (lI R (l_nil (q_next (c_seq ?_)))))))))))
 obtain ⟨hg11, hr⟩ := gd hr
 refine c_region (lI R (lS R (lI R (t_some 0 sees_rd (show 0 < p1.length by have := hg11; omega) (fun g12 o13 ha => ?_)))))
 subst ha
 refine lO (vIa sl22 sz3 R R hg11) (lO (vLi 0 ag3 sees_rd R hg11) (lO (vEq R R) (l_nil (q_next ?_))))
 rcases bif_ hr with ⟨hb14, hr⟩ | ⟨hb14, hr⟩
 refine c_true R hb14 (c_seq (c_region (lI R (lI R (l_nil (q_next (c_ret (q_blockr (q_ret ?_)))))))))
 obtain rfl := so hr
 obtain rfl := he1 _ R
 have hr := hk1
 refine q_ret (q_blockr (q_ret ?_))
 obtain rfl := so hr
 exact qF () (fun w s => (s.e 1 []))
 refine c_false R hb14 (c_skip (q_blockn (q_next (c_region (lO (vAd R R) (lI R (l_nil ?_)))))))
 obtain rfl := so hr
 exact qA () (fun w s => s)
 refine c_false R hb10 (c_exit (q_exit ?_))
 obtain rfl := so hr
 obtain rfl := he1 _ R
 have hr := hk1
 refine q_exit (q_block ?_)
 exact q_join ((), ()) hr trivial (fun w s => s)
 rintro ⟨_, _⟩ σ1 hr
 replace hr : Z0m_J1 = some r := hr
 unfold Z0m_J1 at hr
 refine c_seq (c_region (lI R (l_nil (q_next (c_ret ?_)))))
 obtain rfl := so hr
 exact qF () (fun w s => (s.e 1 []))
theorem Z1t_ok  {p1 : (List Int)} {v3 : Int} {r : Bool} (hr : Z1t p1 v3 = some r) :
 FnOk Tryz.prog 97 [(.slice A2 N2 D2), (iv v3)] [rds kT3 (.slice A2 N2 D2) p1] (fun (h : Unit) => ((.bool r), [])) := by
 unfold Z1t at hr
 refine fn_ok Tryz.func97 R 9 R R fun C V => ?_
 refine cN (_ :: V) ?_
 refine cL 0 sees_rd ?_
 rintro rfl
 let W0 : List HP := RR kT3 A2 D2 p1 :: V
 refine cN W0 ?_
 refine c_seq (c_region (lB R (l_nil (q_next (c_seq ?_)))))
 obtain ⟨r4, hx5, hr⟩ := bd hr
 refine c_region (lS R (lI R (lM (RR kT3 A2 D2 p1 :: W0) (fun w s => (s.d 0 R)) ?_)))
 refine lC 1 cb147 R (Z0m_ok hx5) R ?_
 rintro _
 refine lN W0 ?_
 refine lO (vGe R R) (lB R (l_nil (q_next (c_ret ?_))))
 obtain rfl := so hr
 exact qF () (fun w s => (s.e 1 []))
theorem Z2_ok  {l1 : Nest} {r : (List Life)} (hr : Z2 l1 = some r) :
 FnOk Tryz.prog 56 [(.agg [(.slice A2 N2 D2), (.slice A3 N3 D3), (.slice A4 N4 D4), (.slice A5 N5 D5), (.slice A6 N6 D6)].toArray)] [rds kT3 (.slice A2 N2 D2) l1.Sizes, rds kT3 (.slice A3 N3 D3) l1.Ins, rds kT57 (.slice A4 N4 D4) l1.Fixed, rds kT64 (.slice A5 N5 D5) l1.Kernels, rds kT3 (.slice A6 N6 D6) l1.Outs] (fun (h : HH) => ((.slice h.1 h.2.1 h.2.2), [ow kT88 88 (.slice h.1 h.2.1 h.2.2) r])) := by
 unfold Z2 at hr
 refine fn_ok Tryz.func56 R 92 R R fun C V => ?_
 refine cN (_ :: _ :: _ :: _ :: _ :: V) ?_
 refine cL 0 sees_rd ?_
 rintro rfl
 refine cL 1 sees_rd ?_
 rintro rfl
 refine cL 2 sees_rd ?_
 rintro rfl
 refine cL 3 sees_rd ?_
 rintro rfl
 refine cL 4 sees_rd ?_
 rintro rfl
 let W0 : List HP := RR kT3 A2 D2 l1.Sizes :: RR kT3 A3 D3 l1.Ins :: RR kT57 A4 D4 l1.Fixed :: RR kT64 A5 D5 l1.Kernels :: RR kT3 A6 D6 l1.Outs :: V
 refine cN W0 ?_
 refine c_seq (c_region (lBx R (fun b7 => (lS R (l_nil ?_)))))
 let W1 : List HP := bxl b7 [(sc A2 l1.Sizes D2), (sc A3 l1.Ins D3), (sc A4 l1.Fixed D4), (sc A5 l1.Kernels D5), (sc A6 l1.Outs D6)] 36 :: W0
 refine qN W1 ?_
 refine q_next (c_seq ?_)
 obtain ⟨r8, hx9, hr⟩ := bd hr
 refine c_region (lO (vz (.agg [(sc A2 l1.Sizes D2), (sc A3 l1.Ins D3), (sc A4 l1.Fixed D4), (sc A5 l1.Kernels D5), (sc A6 l1.Outs D6)].toArray) (v_loadw 0 ag36 sz36 R R R R)) (lM (RR kT3 A2 D2 l1.Sizes :: RR kT3 A3 D3 l1.Ins :: RR kT57 A4 D4 l1.Fixed :: RR kT64 A5 D5 l1.Kernels :: RR kT3 A6 D6 l1.Outs :: W1) (fun w s => ((((((s.d 1 R).d 3 R).d 5 R).d 7 R).d 9 R).e 5 [4, 3, 2, 1, 0])) ?_))
 refine lC 5 cb73 R (Z9_ok hx9) R ?_
 rintro ⟨A10, N10, D10⟩
 refine lN (ow kT4 4 (.slice A10 N10 D10) r8.1 :: W1) ?_
 refine l_len 0 sees_ow ?_
 rintro rfl
 refine lO (vT R) (lS R (lB R (lS R (lB R (l_nil (q_next (c_seq (c_region (l_build (K := kT88) (xs := ([] : List Life)) (vs := []) 0 R R sl83 sz88 zc88 R R R R R R ?_ R (fun A11 D11 => ?_))))))))))
 exact fun I h s => (mO88).list [] I h s
 refine lN (OO kT88 88 A11 D11 ([] : List Life) :: _ :: W1) ?_
 refine lS R (l_nil (q_next (c_seq (c_cut (A := ((List Life)) × (HH)) (fun a => Z2_J17 a.1 = some r) (fun a => [(5, (.slice a.2.1 a.2.2.1 a.2.2.2))]) (fun a => ow kT88 88 (.slice a.2.1 a.2.2.1 a.2.2.2) a.1 :: W1) ?_ ?_))))
 refine c_seq (c_region (lO (vFa 0 fo36_0 R) (lO (vLd 2 ag22 R R R) (lO (v_len sl22 R) (lI R (l_nil (q_next (c_block ?_))))))))
 obtain ⟨e1, hl1, hk1⟩ := bd hr
 refine c_loop (A := HH × HH) hl1 (fun s a => [(1, (pt b7 0)), (3, (sc A10 r8.1 D10)), (5, (.slice a.1.1 a.1.2.1 a.1.2.2)), (20, (.slice a.2.1 a.2.2.1 a.2.2.2)), (21, (il l1.Sizes)), (22, (iv s.2))]) (fun s a => OO kT4 4 A10 D10 r8.1 :: ow kT88 88 (.slice a.1.1 a.1.2.1 a.1.2.2) s.1 :: rds kT3 (.slice a.2.1 a.2.2.1 a.2.2.2) l1.Sizes :: W1) ((A11, ([] : List Life).length, D11), (A2, l1.Sizes.length, D2)) (aS R) (fun w s => ((s.d 3 R).e 3 [2, 1, 0])) ?_
 rintro ⟨x84, x87⟩ ⟨⟨A85, N85, D85⟩, ⟨A86, N86, D86⟩⟩ σ1 out1 hr he1
 replace hr : Z2_L1 l1 r8 x84 x87 = some out1 := hr
 unfold Z2_L1 at hr
 refine c_len 1 sees_ow (fun (hn : N85 = x84.length) => ?_)
 subst hn
 refine c_len 2 sees_rd (fun (hn : N86 = l1.Sizes.length) => ?_)
 subst hn
 refine c_seq (c_region (lO (vLt R R) (l_nil (q_next (c_seq ?_)))))
 rcases bif_ hr with ⟨hb88, hr⟩ | ⟨hb88, hr⟩
 refine c_true R hb88 (c_skip (q_next (c_seq (c_cut (A := ((List Life)) × (HH × HH)) (fun a => Z2_J16 x87 a.1 = some out1) (fun a => [(1, (pt b7 0)), (3, (sc A10 r8.1 D10)), (5, (.slice a.2.1.1 a.2.1.2.1 a.2.1.2.2)), (20, (.slice a.2.2.1 a.2.2.2.1 a.2.2.2.2)), (21, (il l1.Sizes)), (22, (iv x87))]) (fun a => OO kT4 4 A10 D10 r8.1 :: ow kT88 88 (.slice a.2.1.1 a.2.1.2.1 a.2.1.2.2) a.1 :: rds kT3 (.slice a.2.2.1 a.2.2.2.1 a.2.2.2.2) l1.Sizes :: W1) ?_ ?_))))
 refine c_block (c_seq ?_)
 obtain ⟨hg89, hr⟩ := gd hr
 refine c_region (lI R (t_some 2 sees_rd (show 0 < l1.Sizes.length by have := hg89; omega) (fun g90 o91 ha => ?_)))
 subst ha
 refine lO (vIa sl22 sz3 R R hg89) (lO (vLi 2 ag3 sees_rd R hg89) (lI R (lI R (l_nil (q_next (c_seq (c_region (lI R (lI R (l_nil (q_next (c_seq (c_cut (A := (Int × Int) × (Unit)) (fun a => Z2_J13 l1 r8 x84 x87 a.1.1 a.1.2 = some out1) (fun a => [(1, (pt b7 0)), (3, (sc A10 r8.1 D10)), (5, (sc A85 x84 D85)), (6, (iv x87)), (7, (iv (ix l1.Sizes x87))), (8, (iv a.1.1)), (9, (iv a.1.2)), (20, (sc (ad g90 o91) l1.Sizes D86)), (21, (il l1.Sizes)), (22, (iv x87))]) (fun a => OO kT4 4 A10 D10 r8.1 :: OO kT88 88 A85 D85 x84 :: RR kT3 (ad g90 o91) D86 l1.Sizes :: W1) ?_ ?_)))))))))))))
 refine c_seq (c_region (lO (vFa 3 fo36_3 R) (lO (vLd 3 ag34 R R R) (lO (v_len sl34 R) (lI R (l_nil (q_next (c_block ?_))))))))
 obtain ⟨e2, hl2, hk2⟩ := bd hr
 refine c_loop (A := HH) hl2 (fun s a => [(1, (pt b7 0)), (3, (sc A10 r8.1 D10)), (5, (sc A85 x84 D85)), (6, (iv x87)), (7, (iv (ix l1.Sizes x87))), (8, (iv s.1)), (9, (iv s.2.1)), (20, (sc (ad g90 o91) l1.Sizes D86)), (21, (il l1.Sizes)), (22, (iv x87)), (28, (.slice a.1 a.2.1 a.2.2)), (29, (il l1.Kernels)), (30, (iv s.2.2))]) (fun s a => OO kT4 4 A10 D10 r8.1 :: OO kT88 88 A85 D85 x84 :: RR kT3 (ad g90 o91) D86 l1.Sizes :: rds kT64 (.slice a.1 a.2.1 a.2.2) l1.Kernels :: W1) (A5, l1.Kernels.length, D5) (aS R) (fun w s => ((s.d 7 R).e 4 [1, 2, 3, 0])) ?_
 rintro ⟨x110, to111, x113⟩ ⟨A112, N112, D112⟩ σ1 out2 hr he2
 replace hr : Z2_L2 l1 x87 x110 to111 x113 = some out2 := hr
 unfold Z2_L2 at hr
 refine c_len 3 sees_rd (fun (hn : N112 = l1.Kernels.length) => ?_)
 subst hn
 refine c_seq (c_region (lO (vLt R R) (l_nil (q_next (c_seq ?_)))))
 rcases bif_ hr with ⟨hb114, hr⟩ | ⟨hb114, hr⟩
 refine c_true R hb114 (c_skip (q_next (c_seq (c_cut (A := (Int × Int) × (HH)) (fun a => Z2_J12 x113 a.1.1 a.1.2 = some out2) (fun a => [(1, (pt b7 0)), (3, (sc A10 r8.1 D10)), (5, (sc A85 x84 D85)), (6, (iv x87)), (7, (iv (ix l1.Sizes x87))), (8, (iv a.1.1)), (9, (iv a.1.2)), (20, (sc (ad g90 o91) l1.Sizes D86)), (21, (il l1.Sizes)), (22, (iv x87)), (28, (.slice a.2.1 a.2.2.1 a.2.2.2)), (29, (il l1.Kernels)), (30, (iv x113))]) (fun a => OO kT4 4 A10 D10 r8.1 :: OO kT88 88 A85 D85 x84 :: RR kT3 (ad g90 o91) D86 l1.Sizes :: rds kT64 (.slice a.2.1 a.2.2.1 a.2.2.2) l1.Kernels :: W1) ?_ ?_))))
 refine c_block (c_seq ?_)
 obtain ⟨hg115, hr⟩ := gd hr
 refine c_region (lI R (t_some 3 sees_rd (show 0 < l1.Kernels.length by have := hg115; omega) (fun g116 o117 ha => ?_)))
 subst ha
 refine lO (vIa sl34 sz64 R R hg115) (t_elem (K := kT64) 3 x113 dT64.dec R hg115.1 hg115.2 ?_)
 rintro ⟨⟨A118, D118⟩, ⟨A119, D119⟩, ⟨-, -, ⟨A120, D120⟩⟩, -, ⟨A121, D121⟩⟩
 refine lN (cl g116 (o117 + x113.toNat * 7) [(sc A118 ((ix l1.Kernels x113).Loops) D118), (sc A119 ((ix l1.Kernels x113).Loads) D119), (iv (ix l1.Kernels x113).Store.Buffer), (iv (ix l1.Kernels x113).Store.Offset), (sc A120 ((ix l1.Kernels x113).Store.Steps) D120), (.bool (ix l1.Kernels x113).Sum), (sc A121 ((ix l1.Kernels x113).Code) D121)] :: RR kT3 A118 D118 ((ix l1.Kernels x113).Loops) :: RR kT61 A119 D119 ((ix l1.Kernels x113).Loads) :: RR kT3 A120 D120 ((ix l1.Kernels x113).Store.Steps) :: RR kT101 A121 D121 ((ix l1.Kernels x113).Code) :: _ :: OO kT88 88 A85 D85 x84 :: RR kT3 (ad g90 o91) D86 l1.Sizes :: RR kT64 (ad g116 o117) D112 l1.Kernels :: W1) ?_
 refine lO (vz (.agg [(sc A118 ((ix l1.Kernels x113).Loops) D118), (sc A119 ((ix l1.Kernels x113).Loads) D119), (iv (ix l1.Kernels x113).Store.Buffer), (iv (ix l1.Kernels x113).Store.Offset), (sc A120 ((ix l1.Kernels x113).Store.Steps) D120), (.bool (ix l1.Kernels x113).Sum), (sc A121 ((ix l1.Kernels x113).Code) D121)].toArray) (v_clfs (fo := 0) 0 ag64 sz64 R R R R)) (l_alloc R R zc64 (fun b122 => (lI R (l_stores 0 R R sz64 R R R R R R (lN (bxl b122 [(sc A118 ((ix l1.Kernels x113).Loops) D118), (sc A119 ((ix l1.Kernels x113).Loads) D119), (iv (ix l1.Kernels x113).Store.Buffer), (iv (ix l1.Kernels x113).Store.Offset), (sc A120 ((ix l1.Kernels x113).Store.Steps) D120), (.bool (ix l1.Kernels x113).Sum), (sc A121 ((ix l1.Kernels x113).Code) D121)] 64 :: _ :: _ :: _ :: _ :: _ :: _ :: _ :: _ :: _ :: W1) ?_)))))
 refine l_nil (q_next (c_seq ?_))
 obtain ⟨r123, hx124, hr⟩ := bd hr
 refine cQ [(1, (pt b7 0)), (3, (sc A10 r8.1 D10)), (5, (sc A85 x84 D85)), (6, (iv x87)), (7, (iv (ix l1.Sizes x87))), (8, (iv x110)), (9, (iv to111)), (10, (iv x113)), (20, (sc (ad g90 o91) l1.Sizes D86)), (21, (il l1.Sizes)), (22, (iv x87)), (28, (sc (ad g116 o117) l1.Kernels D112)), (29, (il l1.Kernels)), (30, (iv x113)), (45, (.bool (((ix l1.Kernels x113).Store.Buffer == x87) || (decide (r123 > (0 : Int))))))] (OO kT4 4 A10 D10 r8.1 :: OO kT88 88 A85 D85 x84 :: RR kT3 (ad g90 o91) D86 l1.Sizes :: RR kT64 (ad g116 o117) D112 l1.Kernels :: W1) ?_ ?_
 refine c_region (lO (vFa 2 fo64_2 R) (lO (vFa 2 fo61_0 R) (lO (vLd 0 ag3 R R R) (lI R (lO (vEq R R) (lB R ?_))))))
 rcases bo ((ix l1.Kernels x113).Store.Buffer == x87) with hc125 | hc125
 refine lf (wfT hc125) (lf (wfT hc125) (lf (wfT hc125) (lf (wfT hc125) (lO (pOT (decide (r123 > (0 : Int))) R hc125) (l_nil ?_)))))
 exact qJ (fun w s => (s.f 10 [6, 4]))
 refine lW (wnF hc125) (vz (.agg [(sc A118 ((ix l1.Kernels x113).Loops) D118), (sc A119 ((ix l1.Kernels x113).Loads) D119), (iv (ix l1.Kernels x113).Store.Buffer), (iv (ix l1.Kernels x113).Store.Offset), (sc A120 ((ix l1.Kernels x113).Store.Steps) D120), (.bool (ix l1.Kernels x113).Sum), (sc A121 ((ix l1.Kernels x113).Code) D121)].toArray) (v_loadw 0 ag64 sz64 R R R R)) (lW (wnF hc125) (vI R) (lM (rds _ _ _ :: rds _ _ _ :: rds _ _ _ :: rds _ _ _ :: bxl _ _ _ :: cl _ _ _ :: rds _ _ _ :: rds _ _ _ :: rds _ _ _ :: rds _ _ _ :: ow _ _ _ _ :: ow _ _ _ _ :: rds _ _ _ :: rds _ _ _ :: W1) (fun w s => (((((s.d 2 R).d 4 R).d 6 R).d 8 R).f 14 [3, 1, 2, 1, 1, 1, 0, 1, 4, 10])) ?_))
 refine l_calln 4 R (wnF hc125) cb96 R (Z08_ok (gcall_t hx124 (not_ff hc125))) R ?_
 rintro _
 refine lN (_ :: _ :: _ :: _ :: _ :: _ :: _ :: _ :: _ :: _ :: W1) ?_
 refine lW (wnF hc125) (vGt R R) (lO (pOF R hc125 R) (l_nil ?_))
 exact qJ (fun w s => (s.f 10 [6, 4]))
 rintro σ1
 refine q_next ?_
 rcases bif_ hr with ⟨hb126, hr⟩ | ⟨hb126, hr⟩
 refine c_true R hb126 (c_seq (c_cut (A := (Int) × (Unit)) (fun a => Z2_J11 x113 a.1 = some out2) (fun a => [(1, (pt b7 0)), (3, (sc A10 r8.1 D10)), (5, (sc A85 x84 D85)), (6, (iv x87)), (7, (iv (ix l1.Sizes x87))), (8, (iv a.1)), (10, (iv x113)), (20, (sc (ad g90 o91) l1.Sizes D86)), (21, (il l1.Sizes)), (22, (iv x87)), (28, (sc (ad g116 o117) l1.Kernels D112)), (29, (il l1.Kernels)), (30, (iv x113))]) (fun a => OO kT4 4 A10 D10 r8.1 :: OO kT88 88 A85 D85 x84 :: RR kT3 (ad g90 o91) D86 l1.Sizes :: RR kT64 (ad g116 o117) D112 l1.Kernels :: W1) ?_ ?_))
 refine c_seq (c_region (lI R (lO (vLt R R) (l_nil (q_next ?_)))))
 rcases bif_ hr with ⟨hb127, hr⟩ | ⟨hb127, hr⟩
 refine c_true R hb127 (c_region (lI R (lI R (l_nil ?_))))
 exact qI (x113, ()) hr (fun w s => s)
 refine c_false R hb127 (c_skip ?_)
 exact qI (x110, ()) hr (fun w s => s)
 rintro ⟨x128, _⟩ σ1 hr
 replace hr : Z2_J11 x113 x128 = some out2 := hr
 unfold Z2_J11 at hr
 refine c_region (lI R (lI R (l_nil (q_blockn ?_))))
 exact qI ((x128, x113), ((ad g116 o117), l1.Kernels.length, D112)) hr (fun w s => s)
 refine c_false R hb126 (c_skip (q_blockn ?_))
 exact qI ((x110, to111), ((ad g116 o117), l1.Kernels.length, D112)) hr (fun w s => s)
 rintro ⟨⟨x129, to130⟩, ⟨A131, N131, D131⟩⟩ σ1 hr
 replace hr : Z2_J12 x113 x129 to130 = some out2 := hr
 unfold Z2_J12 at hr
 refine c_len 3 sees_rd (fun (hn : N131 = l1.Kernels.length) => ?_)
 subst hn
 refine c_region (lO (vAd R R) (lI R (l_nil ?_)))
 obtain rfl := so hr
 exact qA (A131, l1.Kernels.length, D131) (fun w s => s)
 refine c_false R hb114 (c_exit (q_exit ?_))
 obtain rfl := so hr
 obtain rfl := he2 _ R
 have hr := hk2
 refine q_exit (q_block ?_)
 exact qI ((x110, to111), ()) hr (fun w s => (s.f 4 [0, 3]))
 rintro ⟨⟨x136, to137⟩, _⟩ σ1 hr
 replace hr : Z2_J13 l1 r8 x84 x87 x136 to137 = some out1 := hr
 unfold Z2_J13 at hr
 refine c_seq ?_
 obtain ⟨r138, hx139, hr⟩ := bd hr
 refine c_region (lO (vFa 4 fo36_4 R) (lO (vLd 3 ag22 R R R) (lI R (lM (RR kT3 A6 D6 l1.Outs :: _ :: _ :: _ :: W1) (fun w s => (s.d 8 R)) ?_))))
 refine lC 1 cb97 R (Z1t_ok hx139) R ?_
 rintro _
 refine lN (_ :: _ :: _ :: W1) ?_
 refine lB R (l_nil (q_next (c_seq (c_seq ?_))))
 obtain ⟨hg140, hr⟩ := gd hr
 refine cQ [(1, (pt b7 0)), (3, (sc A10 r8.1 D10)), (5, (sc A85 x84 D85)), (6, (iv x87)), (7, (iv (ix l1.Sizes x87))), (8, (iv x136)), (9, (iv to137)), (12, (.bool r138)), (20, (sc (ad g90 o91) l1.Sizes D86)), (21, (il l1.Sizes)), (22, (iv x87)), (71, (.bool (((ix l1.Sizes x87) == (0 : Int)) || (((decide (x136 < (0 : Int))) && (!(ix r8.1 x87))) && (!r138)))))] (OO kT4 4 A10 D10 r8.1 :: OO kT88 88 A85 D85 x84 :: RR kT3 (ad g90 o91) D86 l1.Sizes :: W1) ?_ ?_
 refine c_region (lI R (lO (vEq R R) (lB R ?_)))
 rcases bo ((ix l1.Sizes x87) == (0 : Int)) with hc143 | hc143
 refine lf (wfT hc143) (lf (wfT hc143) (lf (wfT hc143) (lf R (lf R (lf R (lf R (lf R (lf (wfT hc143) (lf (wfT hc143) (lf R (lf R (lf (wfT hc143) (lO (pOT (((decide (x136 < (0 : Int))) && (!(ix r8.1 x87))) && (!r138)) R hc143) (l_nil ?_))))))))))))))
 exact qJ (fun w s => s)
 refine lW (wnF hc143) (vI R) (lW (wnF hc143) (vLt R R) (lW (wnF hc143) (vB R) ?_))
 rcases bo (decide (x136 < (0 : Int))) with hc144 | hc144
 refine lW (wnT hc144) (vS R) (lW (wnT hc144) (vI R) (t_some 0 sees_ow (show 0 < r8.1.length by have := (hg140 hc143 hc144); omega) (fun g141 o142 ha => ?_)))
 subst ha
 refine lW (wnT hc144) (vIa sl104 sz4 R R (hg140 hc143 hc144)) (lW (wnT hc144) (vz (.bool (ix r8.1 x87)) (v_lde (K := kT4) (fo := 0) (pr := fun x => (.bool x)) 0 x87 ag4 (dT4.leaf fun _ _ => R) sees_ow R (hg140 hc143 hc144).1 (hg140 hc143 hc144).2)) (lW (wnT hc144) (vNo R) (lW (wnF hc143) (pAT R hc144 R) (lW (wnF hc143) (vB R) ?_))))
 rcases bo ((decide (x136 < (0 : Int))) && (!(ix r8.1 x87))) with hc145 | hc145
 refine lW (wnT hc145) (vB R) (lW (wnT hc145) (vNo R) (lW (wnF hc143) (pAT R hc145 R) (lO (pOF R hc143 R) (l_nil ?_))))
 exact qJ (fun w s => s)
 refine lf (wfF hc145) (lf (wfF hc145) (lW (wnF hc143) (pAF (!r138) R hc145) (lO (pOF R hc143 R) (l_nil ?_))))
 exact qJ (fun w s => s)
 refine lf (wfF hc144) (lf (wfF hc144) (lf (wfF hc144) (lf (wfF hc144) (lf (wfF hc144) (lW (wnF hc143) (pAF (!(ix r8.1 x87)) R hc144) (lW (wnF hc143) (vB R) (lf (wfF (aF hc144)) (lf (wfF (aF hc144)) (lW (wnF hc143) (pAF (!r138) R (aF hc144)) (lO (pOF R hc143 R) (l_nil ?_)))))))))))
 exact qJ (fun w s => s)
 rintro σ1
 refine q_next ?_
 rcases bif_ hr with ⟨hb146, hr⟩ | ⟨hb146, hr⟩
 refine c_true R hb146 (c_exit (q_exit (q_block ?_)))
 exact qI (x84, ((A85, x84.length, D85), ((ad g90 o91), l1.Sizes.length, D86))) hr (fun w s => s)
 refine c_false R hb146 (c_skip (q_next (c_seq (c_cut (A := (Int) × (Unit)) (fun a => Z2_J14 l1 x84 x87 to137 r138 a.1 = some out1) (fun a => [(1, (pt b7 0)), (3, (sc A10 r8.1 D10)), (5, (sc A85 x84 D85)), (6, (iv x87)), (7, (iv (ix l1.Sizes x87))), (8, (iv a.1)), (9, (iv to137)), (12, (.bool r138)), (20, (sc (ad g90 o91) l1.Sizes D86)), (21, (il l1.Sizes)), (22, (iv x87))]) (fun a => OO kT4 4 A10 D10 r8.1 :: OO kT88 88 A85 D85 x84 :: RR kT3 (ad g90 o91) D86 l1.Sizes :: W1) ?_ ?_))))
 refine c_seq ?_
 obtain ⟨hg147, hr⟩ := gd hr
 refine c_region (lS R (lI R (t_some 0 sees_ow (show 0 < r8.1.length by have := hg147; omega) (fun g148 o149 ha => ?_))))
 subst ha
 refine lO (vIa sl104 sz4 R R hg147) (lO (vz (.bool (ix r8.1 x87)) (v_lde (K := kT4) (fo := 0) (pr := fun x => (.bool x)) 0 x87 ag4 (dT4.leaf fun _ _ => R) sees_ow R hg147.1 hg147.2)) (l_nil (q_next ?_)))
 rcases bif_ hr with ⟨hb150, hr⟩ | ⟨hb150, hr⟩
 refine c_true R hb150 (c_region (lI R (l_nil ?_)))
 exact qI ((0 : Int), ()) hr (fun w s => s)
 refine c_false R hb150 (c_skip ?_)
 exact qI (x136, ()) hr (fun w s => s)
 rintro ⟨x151, _⟩ σ1 hr
 replace hr : Z2_J14 l1 x84 x87 to137 r138 x151 = some out1 := hr
 unfold Z2_J14 at hr
 refine c_seq (c_cut (A := (Int) × (Unit)) (fun a => Z2_J15 l1 x84 x87 x151 a.1 = some out1) (fun a => [(1, (pt b7 0)), (3, (sc A10 r8.1 D10)), (5, (sc A85 x84 D85)), (6, (iv x87)), (7, (iv (ix l1.Sizes x87))), (8, (iv x151)), (9, (iv a.1)), (20, (sc (ad g90 o91) l1.Sizes D86)), (21, (il l1.Sizes)), (22, (iv x87))]) (fun a => OO kT4 4 A10 D10 r8.1 :: OO kT88 88 A85 D85 x84 :: RR kT3 (ad g90 o91) D86 l1.Sizes :: W1) ?_ ?_)
 refine c_seq (c_region (lB R (l_nil (q_next ?_))))
 rcases bif_ hr with ⟨hb152, hr⟩ | ⟨hb152, hr⟩
 refine c_true R hb152 (c_region (lO (vFa 3 fo36_3 R) (lO (vLd 3 ag34 R R R) (lO (v_len sl34 R) (lI R (l_nil ?_))))))
 exact qI ((l1.Kernels.length : Int), ()) hr (fun w s => s)
 refine c_false R hb152 (c_skip ?_)
 exact qI (to137, ()) hr (fun w s => s)
 rintro ⟨to153, _⟩ σ1 hr
 replace hr : Z2_J15 l1 x84 x87 x151 to153 = some out1 := hr
 unfold Z2_J15 at hr
 obtain ⟨hg155, hr⟩ := gd hr
 refine c_region (lS R (lI R (lI R (lI R (lO (vz (iv (if (0 : Int) > x151 then (0 : Int) else x151)) (v_max R R)) (lI R (lO (vz (iv (if (0 : Int) > to153 then (0 : Int) else to153)) (v_max R R)) (lO (vz (.agg [(iv x87), (iv (ix l1.Sizes x87)), (iv (if (0 : Int) > x151 then (0 : Int) else x151)), (iv (if (0 : Int) > to153 then (0 : Int) else to153))].toArray) (v_build pl88 zc88 R R)) (l_build (K := kT88) (xs := ([(⟨x87, (ix l1.Sizes x87), (if (0 : Int) > x151 then (0 : Int) else x151), (if (0 : Int) > to153 then (0 : Int) else to153)⟩ : Life)] : List Life)) (vs := [(.agg [(iv x87), (iv (ix l1.Sizes x87)), (iv (if (0 : Int) > x151 then (0 : Int) else x151)), (iv (if (0 : Int) > to153 then (0 : Int) else to153))].toArray)]) 0 R R sl83 sz88 zc88 R R R R R R ?_ R (fun A154 D154 => ?_))))))))))
 exact fun I h s => (mO88).list [(((), (), (), ()), (⟨x87, (ix l1.Sizes x87), (if (0 : Int) > x151 then (0 : Int) else x151), (if (0 : Int) > to153 then (0 : Int) else to153)⟩ : Life))] I h s
 refine lN (OO kT88 88 A154 D154 ([(⟨x87, (ix l1.Sizes x87), (if (0 : Int) > x151 then (0 : Int) else x151), (if (0 : Int) > to153 then (0 : Int) else to153)⟩ : Life)] : List Life) :: _ :: _ :: _ :: W1) ?_
 refine lM (ow _ _ _ _ :: ow _ _ _ _ :: ow _ _ _ _ :: rds _ _ _ :: W1) (fun w s => (s.e 4 [2, 0, 1, 3])) ?_
 refine l_app (K := kT88) 4398046511104 R R sl83 sz88 by88 (Zr.zk zT88 zc88) R R R R R R src_ow hg155 (fun A156 D156 => (lN (OO kT88 88 A156 D156 (x84 ++ ([(⟨x87, (ix l1.Sizes x87), (if (0 : Int) > x151 then (0 : Int) else x151), (if (0 : Int) > to153 then (0 : Int) else to153)⟩ : Life)] : List Life)) :: _ :: _ :: W1) ?_))
 refine lS R (l_nil (q_blockn ?_))
 exact qI ((x84 ++ ([(⟨x87, (ix l1.Sizes x87), (if (0 : Int) > x151 then (0 : Int) else x151), (if (0 : Int) > to153 then (0 : Int) else to153)⟩ : Life)] : List Life)), ((A156, (x84 ++ ([(⟨x87, (ix l1.Sizes x87), (if (0 : Int) > x151 then (0 : Int) else x151), (if (0 : Int) > to153 then (0 : Int) else to153)⟩ : Life)] : List Life)).length, D156), ((ad g90 o91), l1.Sizes.length, D86))) hr (fun w s => (s.e 3 [1, 0, 2]))
 rintro ⟨x157, ⟨⟨A158, N158, D158⟩, ⟨A159, N159, D159⟩⟩⟩ σ1 hr
 replace hr : Z2_J16 x87 x157 = some out1 := hr
 unfold Z2_J16 at hr
 refine c_len 1 sees_ow (fun (hn : N158 = x157.length) => ?_)
 subst hn
 refine c_len 2 sees_rd (fun (hn : N159 = l1.Sizes.length) => ?_)
 subst hn
 refine c_region (lO (vAd R R) (lI R (l_nil ?_)))
 obtain rfl := so hr
 exact qA ((A158, x157.length, D158), (A159, l1.Sizes.length, D159)) (fun w s => s)
 refine c_false R hb88 (c_exit (q_exit ?_))
 obtain rfl := so hr
 obtain rfl := he1 _ R
 have hr := hk1
 refine q_exit (q_block ?_)
 exact qI (x84, (A85, x84.length, D85)) hr (fun w s => (s.e 3 [1]))
 rintro ⟨x164, ⟨A165, N165, D165⟩⟩ σ1 hr
 replace hr : Z2_J17 x164 = some r := hr
 unfold Z2_J17 at hr
 refine c_len 0 sees_ow (fun (hn : N165 = x164.length) => ?_)
 subst hn
 refine c_seq (c_region (lS R (lS R (l_nil (q_next (c_ret ?_))))))
 obtain rfl := so hr
 exact qF (A165, x164.length, D165) (fun w s => (s.e 7 [0]))
theorem Z00_ok  {lives1 : (List Life)} {r : Bool} (hr : Z00 lives1 = some r) :
 FnOk Tryz.prog 98 [(.slice A2 N2 D2)] [rds kT88 (.slice A2 N2 D2) lives1] (fun (h : Unit) => ((.bool r), [])) := by
 unfold Z00 at hr
 refine fn_ok Tryz.func98 R 40 R R fun C V => ?_
 refine cN (_ :: V) ?_
 refine cL 0 sees_rd ?_
 rintro rfl
 let W0 : List HP := RR kT88 A2 D2 lives1 :: V
 refine cN W0 ?_
 refine c_seq (c_region (lB R (l_nil (q_next (c_seq (c_cut (A := (Unit) × (HH)) (fun a => Z00_J1 lives1 = some r) (fun a => [(0, (.slice a.2.1 a.2.2.1 a.2.2.2))]) (fun a => rds kT88 (.slice a.2.1 a.2.2.1 a.2.2.2) lives1 :: W0) ?_ ?_))))))
 refine c_seq (c_region (lS R (lO (v_len sl83 R) (lI R (l_nil (q_next (c_block ?_)))))))
 obtain ⟨e1, hl1, hk1⟩ := bd hr
 refine c_loop (A := HH) hl1 (fun s a => [(0, (.slice a.1 a.2.1 a.2.2)), (5, (.slice a.1 a.2.1 a.2.2)), (6, (il lives1)), (7, (iv s))]) (fun s a => rds kT88 (.slice a.1 a.2.1 a.2.2) lives1 :: W0) (A2, lives1.length, D2) (aS R) (fun w s => (s.d 0 R)) ?_
 rintro x14 ⟨A13, N13, D13⟩ σ1 out1 hr he1
 replace hr : Z00_L1 lives1 x14 = some out1 := hr
 unfold Z00_L1 at hr
 refine c_len 0 sees_rd (fun (hn : N13 = lives1.length) => ?_)
 subst hn
 refine c_seq (c_region (lO (vLt R R) (l_nil (q_next (c_seq ?_)))))
 rcases bif_ hr with ⟨hb15, hr⟩ | ⟨hb15, hr⟩
 refine c_true R hb15 (c_skip (q_next (c_seq (c_block (c_seq ?_)))))
 obtain ⟨hg16, hr⟩ := gd hr
 refine c_region (t_some 0 sees_rd (show 0 < lives1.length by have := hg16; omega) (fun g17 o18 ha => ?_))
 subst ha
 refine lO (vIa sl83 sz88 R R hg16) (l_v (.agg [(iv (ix lives1 x14).Buffer), (iv (ix lives1 x14).Size), (iv (ix lives1 x14).From), (iv (ix lives1 x14).To)].toArray) ?_ R R ?_)
 exact (v_ldef (K := kT88) (cells := fun x => [(iv x.Buffer), (iv x.Size), (iv x.From), (iv x.To)]) 0 x14 ag88 sz88 (DecK.flat dT88 fun _ _ => R) sees_rd R hg16.1 hg16.2)
 refine l_alloc R R zc88 (fun b19 => (l_stores 0 R R sz88 R R R R R R (lN (bxl b19 [(iv (ix lives1 x14).Buffer), (iv (ix lives1 x14).Size), (iv (ix lives1 x14).From), (iv (ix lives1 x14).To)] 88 :: RR kT88 (ad g17 o18) D13 lives1 :: W0) ?_)))
 refine l_nil (q_next (c_seq (cQ [(0, (sc (ad g17 o18) lives1 D13)), (5, (sc (ad g17 o18) lives1 D13)), (6, (il lives1)), (7, (iv x14)), (35, (.bool (((((decide ((ix lives1 x14).Size < (1 : Int))) || (decide ((ix lives1 x14).Size > (4096 : Int)))) || (decide ((ix lives1 x14).From < (0 : Int)))) || (decide ((ix lives1 x14).From > (ix lives1 x14).To))) || (decide ((ix lives1 x14).To > (400 : Int))))))] (RR kT88 (ad g17 o18) D13 lives1 :: W0) ?_ ?_)))
 refine c_region (lO (vFa 1 fo88_1 R) (lO (vLd 0 ag3 R R R) (lO (vLt R R) (lB R ?_))))
 rcases bo (decide ((ix lives1 x14).Size < (1 : Int))) with hc20 | hc20
 refine lf (wfT hc20) (lf (wfT hc20) (lf (wfT hc20) (lO (pOT (decide ((ix lives1 x14).Size > (4096 : Int))) R hc20) (lB R (lf (wfT (oT hc20)) (lf (wfT (oT hc20)) (lf (wfT (oT hc20)) (lO (pOT (decide ((ix lives1 x14).From < (0 : Int))) R (oT hc20)) (lB R (lf (wfT (oT (oT hc20))) (lf (wfT (oT (oT hc20))) (lf (wfT (oT (oT hc20))) (lf (wfT (oT (oT hc20))) (lf (wfT (oT (oT hc20))) (lO (pOT (decide ((ix lives1 x14).From > (ix lives1 x14).To)) R (oT (oT hc20))) (lB R (lf (wfT (oT (oT (oT hc20)))) (lf (wfT (oT (oT (oT hc20)))) (lf (wfT (oT (oT (oT hc20)))) (lO (pOT (decide ((ix lives1 x14).To > (400 : Int))) R (oT (oT (oT hc20)))) (l_nil ?_)))))))))))))))))))))
 exact qJ (fun w s => (s.e 2 [1]))
 refine lW (wnF hc20) (vFa 1 fo88_1 R) (lW (wnF hc20) (vLd 0 ag3 R R R) (lW (wnF hc20) (vGt R R) (lO (pOF R hc20 R) (lB R ?_))))
 rcases bo ((decide ((ix lives1 x14).Size < (1 : Int))) || (decide ((ix lives1 x14).Size > (4096 : Int)))) with hc21 | hc21
 refine lf (wfT hc21) (lf (wfT hc21) (lf (wfT hc21) (lO (pOT (decide ((ix lives1 x14).From < (0 : Int))) R hc21) (lB R (lf (wfT (oT hc21)) (lf (wfT (oT hc21)) (lf (wfT (oT hc21)) (lf (wfT (oT hc21)) (lf (wfT (oT hc21)) (lO (pOT (decide ((ix lives1 x14).From > (ix lives1 x14).To)) R (oT hc21)) (lB R (lf (wfT (oT (oT hc21))) (lf (wfT (oT (oT hc21))) (lf (wfT (oT (oT hc21))) (lO (pOT (decide ((ix lives1 x14).To > (400 : Int))) R (oT (oT hc21))) (l_nil ?_))))))))))))))))
 exact qJ (fun w s => (s.e 2 [1]))
 refine lW (wnF hc21) (vFa 2 fo88_2 R) (lW (wnF hc21) (vLd 0 ag3 R R R) (lW (wnF hc21) (vLt R R) (lO (pOF R hc21 R) (lB R ?_))))
 rcases bo (((decide ((ix lives1 x14).Size < (1 : Int))) || (decide ((ix lives1 x14).Size > (4096 : Int)))) || (decide ((ix lives1 x14).From < (0 : Int)))) with hc22 | hc22
 refine lf (wfT hc22) (lf (wfT hc22) (lf (wfT hc22) (lf (wfT hc22) (lf (wfT hc22) (lO (pOT (decide ((ix lives1 x14).From > (ix lives1 x14).To)) R hc22) (lB R (lf (wfT (oT hc22)) (lf (wfT (oT hc22)) (lf (wfT (oT hc22)) (lO (pOT (decide ((ix lives1 x14).To > (400 : Int))) R (oT hc22)) (l_nil ?_)))))))))))
 exact qJ (fun w s => (s.e 2 [1]))
 refine lW (wnF hc22) (vFa 2 fo88_2 R) (lW (wnF hc22) (vLd 0 ag3 R R R) (lW (wnF hc22) (vFa 3 fo88_3 R) (lW (wnF hc22) (vLd 0 ag3 R R R) (lW (wnF hc22) (vGt R R) (lO (pOF R hc22 R) (lB R ?_))))))
 rcases bo ((((decide ((ix lives1 x14).Size < (1 : Int))) || (decide ((ix lives1 x14).Size > (4096 : Int)))) || (decide ((ix lives1 x14).From < (0 : Int)))) || (decide ((ix lives1 x14).From > (ix lives1 x14).To))) with hc23 | hc23
 refine lf (wfT hc23) (lf (wfT hc23) (lf (wfT hc23) (lO (pOT (decide ((ix lives1 x14).To > (400 : Int))) R hc23) (l_nil ?_))))
 exact qJ (fun w s => (s.e 2 [1]))
 refine lW (wnF hc23) (vFa 3 fo88_3 R) (lW (wnF hc23) (vLd 0 ag3 R R R) (lW (wnF hc23) (vGt R R) (lO (pOF R hc23 R) (l_nil ?_))))
 exact qJ (fun w s => (s.e 2 [1]))
 rintro σ1
 refine q_next ?_
 rcases bif_ hr with ⟨hb24, hr⟩ | ⟨hb24, hr⟩
 refine c_true R hb24 (c_seq (c_region (lB R (l_nil (q_next (c_ret (q_blockr (q_ret ?_))))))))
 obtain rfl := so hr
 obtain rfl := he1 _ R
 have hr := hk1
 refine q_ret (q_blockr (q_ret ?_))
 obtain rfl := so hr
 exact qF () (fun w s => (s.e 2 []))
 refine c_false R hb24 (c_skip (q_blockn (q_next (c_region (lO (vAd R R) (lI R (l_nil ?_)))))))
 obtain rfl := so hr
 exact qA ((ad g17 o18), lives1.length, D13) (fun w s => s)
 refine c_false R hb15 (c_exit (q_exit ?_))
 obtain rfl := so hr
 obtain rfl := he1 _ R
 have hr := hk1
 refine q_exit (q_block ?_)
 exact qI ((), (A13, lives1.length, D13)) hr (fun w s => s)
 rintro ⟨_, ⟨A27, N27, D27⟩⟩ σ1 hr
 replace hr : Z00_J1 lives1 = some r := hr
 unfold Z00_J1 at hr
 refine c_len 0 sees_rd (fun (hn : N27 = lives1.length) => ?_)
 subst hn
 refine c_seq (c_region (lS R (lO (v_len sl83 R) (lO (vLe R R) (lB R (l_nil (q_next (c_ret ?_))))))))
 obtain rfl := so hr
 exact qF () (fun w s => (s.e 2 []))
theorem Z1g_ok  {p1 : Int} {r : Bool} (hr : Z1g p1 = some r) :
 FnOk Tryz.prog 150 [(iv p1)] [] (fun (h : Unit) => ((.bool r), [])) := by
 unfold Z1g at hr
 refine fn_ok Tryz.func150 R 6 R R fun C V => ?_
 refine cN V ?_
 refine c_seq (c_region (lB R (l_nil (q_next (c_seq (c_region (lI R (lI R (lO (vNe R R) (lB R (l_nil (q_next (c_ret ?_)))))))))))))
 obtain rfl := so hr
 exact qF () (fun w s => s)
theorem Z1a_ok  {p1 : Int} {y2 : Int} {r : Int} (hr : Z1a p1 y2 = some r) :
 FnOk Tryz.prog 102 [(iv p1), (iv y2)] [] (fun (h : Unit) => ((iv r), [])) := by
 unfold Z1a at hr
 refine fn_ok Tryz.func102 R 20 R R fun C V => ?_
 refine cN V ?_
 refine c_seq (c_region (lI R (l_nil (q_next (c_seq ?_)))))
 obtain ⟨r3, hx4, hr⟩ := bd hr
 refine c_region (lI R (lC 0 cb150 R (Z1g_ok hx4) R ?_))
 rintro _
 refine lB R (l_nil (q_next (c_seq ?_)))
 obtain ⟨r5, hx6, hr⟩ := bd hr
 refine c_region (lI R (lC 0 cb150 R (Z1g_ok hx6) R ?_))
 rintro _
 refine lB R (l_nil (q_next (c_seq (c_seq (c_region (lB R (l_nil (q_next ?_))))))))
 rcases bif_ hr with ⟨hb7, hr⟩ | ⟨hb7, hr⟩
 refine c_true R hb7 (c_seq (c_seq (c_region (lB R (l_nil (q_next ?_))))))
 rcases bif_ hr with ⟨hb8, hr⟩ | ⟨hb8, hr⟩
 refine c_true R hb8 (c_seq (c_region (lI R (l_nil (q_next (c_ret (q_ret (q_ret ?_))))))))
 obtain rfl := so hr
 exact qF () (fun w s => s)
 refine c_false R hb8 (c_skip (q_next (c_seq (c_region (lI R (l_nil (q_next (c_ret (q_ret ?_)))))))))
 obtain rfl := so hr
 exact qF () (fun w s => s)
 refine c_false R hb7 (c_skip (q_next (c_seq (c_seq (c_region (lB R (l_nil (q_next ?_))))))))
 rcases bif_ hr with ⟨hb9, hr⟩ | ⟨hb9, hr⟩
 refine c_true R hb9 (c_seq (c_region (lI R (l_nil (q_next (c_ret (q_ret ?_)))))))
 obtain rfl := so hr
 exact qF () (fun w s => s)
 refine c_false R hb9 (c_skip (q_next (c_seq (c_seq (c_region (lI R (lI R (lO (vLt R R) (l_nil (q_next ?_))))))))))
 rcases bif_ hr with ⟨hb10, hr⟩ | ⟨hb10, hr⟩
 refine c_true R hb10 (c_seq (c_region (lI R (l_nil (q_next (c_ret (q_ret ?_)))))))
 obtain rfl := so hr
 exact qF () (fun w s => s)
 refine c_false R hb10 (c_skip (q_next (c_seq (c_seq (c_region (lI R (lI R (lO (vGt R R) (l_nil (q_next ?_))))))))))
 rcases bif_ hr with ⟨hb11, hr⟩ | ⟨hb11, hr⟩
 refine c_true R hb11 (c_seq (c_region (lI R (l_nil (q_next (c_ret (q_ret ?_)))))))
 obtain rfl := so hr
 exact qF () (fun w s => s)
 refine c_false R hb11 (c_skip (q_next (c_seq (c_region (lI R (l_nil (q_next (c_ret ?_))))))))
 obtain rfl := so hr
 exact qF () (fun w s => s)
theorem Zq_ok  {vals1 : (List Int)} {r : Int} (hr : Zq vals1 = some r) :
 FnOk Tryz.prog 101 [(.slice A2 N2 D2)] [rds kT3 (.slice A2 N2 D2) vals1] (fun (h : Unit) => ((iv r), [])) := by
 unfold Zq at hr
 refine fn_ok Tryz.func101 R 18 R R fun C V => ?_
 refine cN (_ :: V) ?_
 refine cL 0 sees_rd ?_
 rintro rfl
 let W0 : List HP := RR kT3 A2 D2 vals1 :: V
 refine cN W0 ?_
 refine c_seq (c_region (lI R (l_nil (q_next (c_seq (c_region (lI R (l_nil (q_next (c_seq (c_cut (A := (Unit) × (Unit)) (fun a => Zq_J1 = some r) (fun a => [(3, (iv 0))]) (fun a => W0) ?_ ?_)))))))))))
 refine c_seq (c_region (lS R (lO (v_len sl22 R) (lI R (l_nil (q_next (c_block ?_)))))))
 obtain ⟨e1, hl1, hk1⟩ := bd hr
 refine c_loop (A := Unit) hl1 (fun s a => [(3, (iv 0)), (6, (sc A2 vals1 D2)), (7, (il vals1)), (8, (iv s))]) (fun s a => W0) () (aS R) (fun w s => s) ?_
 rintro x8 _ σ1 out1 hr he1
 replace hr : Zq_L1 vals1 x8 = some out1 := hr
 unfold Zq_L1 at hr
 refine c_seq (c_region (lO (vLt R R) (l_nil (q_next (c_seq ?_)))))
 rcases bif_ hr with ⟨hb9, hr⟩ | ⟨hb9, hr⟩
 refine c_true R hb9 (c_skip (q_next (c_seq (c_block (c_seq ?_)))))
 obtain ⟨hg10, hr⟩ := gd hr
 refine c_region (t_some 0 sees_rd (show 0 < vals1.length by have := hg10; omega) (fun g11 o12 ha => ?_))
 subst ha
 refine lO (vIa sl22 sz3 R R hg10) (lO (vLi 0 ag3 sees_rd R hg10) (lI R (l_nil (q_next (c_seq (c_region (lI R (lI R (lO (vNe R R) (l_nil (q_next ?_)))))))))))
 rcases bif_ hr with ⟨hb13, hr⟩ | ⟨hb13, hr⟩
 refine c_true R hb13 (c_seq (c_region (lI R (lI R (l_nil (q_next (c_ret (q_blockr (q_ret ?_)))))))))
 obtain rfl := so hr
 obtain rfl := he1 _ R
 have hr := hk1
 refine q_ret (q_blockr (q_ret ?_))
 obtain rfl := so hr
 exact qF () (fun w s => (s.e 1 []))
 refine c_false R hb13 (c_skip (q_blockn (q_next (c_region (lO (vAd R R) (lI R (l_nil ?_)))))))
 obtain rfl := so hr
 exact qA () (fun w s => s)
 refine c_false R hb9 (c_exit (q_exit ?_))
 obtain rfl := so hr
 obtain rfl := he1 _ R
 have hr := hk1
 refine q_exit (q_block ?_)
 exact qI ((), ()) hr (fun w s => s)
 rintro ⟨_, _⟩ σ1 hr
 replace hr : Zq_J1 = some r := hr
 unfold Zq_J1 at hr
 refine c_seq (c_region (lI R (lI R (l_nil (q_next (c_ret ?_))))))
 obtain rfl := so hr
 exact qF () (fun w s => (s.e 1 []))
theorem Z26_ok  {a1 : Life} {b2 : Life} {r : Int} (hr : Z26 a1 b2 = some r) :
 FnOk Tryz.prog 100 [(.agg [(iv a1.Buffer), (iv a1.Size), (iv a1.From), (iv a1.To)].toArray), (.agg [(iv b2.Buffer), (iv b2.Size), (iv b2.From), (iv b2.To)].toArray)] [] (fun (h : Unit) => ((iv r), [])) := by
 unfold Z26 at hr
 refine fn_ok Tryz.func100 R 17 R R fun C V => ?_
 refine cN V ?_
 refine c_seq (c_region (lBx R (fun b3 => (lBx R (fun b4 => (lI R (l_nil ?_)))))))
 let W1 : List HP := bxl b4 [(iv b2.Buffer), (iv b2.Size), (iv b2.From), (iv b2.To)] 88 :: bxl b3 [(iv a1.Buffer), (iv a1.Size), (iv a1.From), (iv a1.To)] 88 :: V
 refine qN W1 ?_
 refine q_next (c_seq ?_)
 obtain ⟨r5, hx6, hr⟩ := bd hr
 obtain ⟨r7, hx8, hr⟩ := bd hr
 obtain ⟨r10, hx11, hr⟩ := bd hr
 refine cdr 13 [] mixo (fun ht hn => (dR 0 R (vFa 1 fo88_1 R) (dR 1 R (vLd 0 ag3 R R R) (dR 2 R (vFa 1 fo88_1 R) (dR 3 R (vLd 1 ag3 R R R) (dR 5 R (vFa 2 fo88_2 R) (dR 6 R (vLd 1 ag3 R R R) (dR 7 R (vFa 2 fo88_2 R) (dR 8 R (vLd 0 ag3 R R R) (d1 4 R (lC 0 cb102 R (Z1a_ok hx6) R ?_)))))))))))
 rintro _
 refine l_nil (q_draw (sL []) (d1 9 R (lC 0 cb102 R (Z1a_ok hx8) R ?_)))
 rintro _
 refine l_nil (q_draw (sL []) (d1 10 R (l_build (K := kT3) (xs := ([r5, r7] : List Int)) (vs := [(iv r5), (iv r7)]) 0 R R sl22 sz3 zc3 R R R R R R ?_ R (fun A9 D9 => ?_))))
 exact fun I h s => (mO3).list [((), r5), ((), r7)] I h s
 refine lN (OO kT3 3 A9 D9 ([r5, r7] : List Int) :: W1) ?_
 refine l_nil (q_draw (sL [0]) (d1 11 R (lC 1 cb101 R (FnOk.lends (A' := [OO kT3 3 A9 D9 ([r5, r7] : List Int)]) (A := [RR kT3 A9 D9 ([r5, r7] : List Int)]) (B := []) (Zq_ok hx11) ⟨lend_ow, trivial⟩ (fun _ => trivial)) R ?_)))
 rintro _
 refine l_nil (q_draw (sL [0]) (dR 12 R (vI R) (hS := (sL [0])) (dD (q_next (c_ret ?_)))))
 obtain rfl := so hr
 exact qF () (fun w s => (s.e 3 []))
theorem Z0z_ok  {i1 : Int} {j2 : Int} {p5 : (List Life)} {b4 : Nat} {b6 : Nat} {r : Int} (hr : Z0z i1 j2 p5 = some r) :
 FnOk Tryz.prog 149 [(iv i1), (iv j2), (pt b4 0), (pt b6 0)] [bxl b4 [(.func (.func 100) [].toArray [].toArray)] 134, rds kT88 (.slice A7 N7 D7) p5, bxl b6 [(.slice A7 N7 D7)] 83] (fun (h : Unit) => ((iv r), [bxl b4 [(.func (.func 100) [].toArray [].toArray)] 134, bxl b6 [(.slice A7 N7 D7)] 83])) := by
 unfold Z0z at hr
 refine fn_ok Tryz.func149 R 17 R R fun C V => ?_
 refine cM (bxl _ _ _ :: bxl _ _ _ :: rds _ _ _ :: V) (fun w s => (s.e 3 [0, 2, 1])) ?_
 refine cL 2 sees_rd ?_
 rintro rfl
 let W0 : List HP := RR kT88 A7 D7 p5 :: V
 refine cN (_ :: bxl b6 [(sc A7 p5 D7)] 83 :: W0) ?_
 refine c_seq (c_region (lI R (l_nil ?_)))
 let W1 : List HP := bxl b4 [(.func (.func 100) [].toArray [].toArray)] 134 :: bxl b6 [(sc A7 p5 D7)] 83 :: W0
 refine qN W1 ?_
 refine q_next (c_seq ?_)
 obtain ⟨hg8, hr⟩ := gd hr
 obtain ⟨hg11, hr⟩ := gd hr
 obtain ⟨r12, hx13, hr⟩ := bd hr
 refine c_some 2 sees_rd (show 0 < p5.length by have := hg8; omega) (fun g9 o10 ha => ?_)
 subst ha
 refine cdr 11 [] mixo (fun ht hn => (dR 0 R (vLd 0 ag134 R R R) (dR 1 R (vLd 1 ag83 R R R) (dR 2 R (vI R) (dR 3 R (vIa sl83 sz88 R R hg8) (d_v 4 (.agg [(iv (ix p5 i1).Buffer), (iv (ix p5 i1).Size), (iv (ix p5 i1).From), (iv (ix p5 i1).To)].toArray) R ?_ R R R ht hn (by kernel_rfl) (sL []) ?_))))))
 exact (v_ldef (K := kT88) (cells := fun x => [(iv x.Buffer), (iv x.Size), (iv x.From), (iv x.To)]) 2 i1 ag88 sz88 (DecK.flat dT88 fun _ _ => R) sees_rd R hg8.1 hg8.2)
 refine dR 5 R (vLd 1 ag83 R R R) (dR 6 R (vI R) (dR 7 R (vIa sl83 sz88 R R hg11) (d_v 8 (.agg [(iv (ix p5 j2).Buffer), (iv (ix p5 j2).Size), (iv (ix p5 j2).From), (iv (ix p5 j2).To)].toArray) R ?_ R R R ht hn (by kernel_rfl) (sL []) ?_)))
 exact (v_ldef (K := kT88) (cells := fun x => [(iv x.Buffer), (iv x.Size), (iv x.From), (iv x.To)]) 2 j2 ag88 sz88 (DecK.flat dT88 fun _ _ => R) sees_rd R hg11.1 hg11.2)
 refine d1 9 R (l_callvn (fs := []) (cs := []) 0 R R cb100 R R (Z26_ok hx13) R ?_)
 rintro _
 refine l_nil (q_draw (sL []) (dR 10 R (vI R) (dD (q_next (c_ret ?_)))))
 obtain rfl := so hr
 exact qF () (fun w s => (s.e 3 [0, 1]))
theorem Z0i_ok  {data1 : (List Int)} {a3 : Int} {b4 : Int} {q8 : (List Life)} {b7 : Nat} {b9 : Nat} {r : (List Int)} (hr : Z0i data1 a3 b4 q8 = some r) :
 FnOk Tryz.prog 177 [(.slice A2 N2 D2), (iv a3), (iv b4), (.func (.func 149) [].toArray [(pt b7 0), (pt b9 0)].toArray)] [ow kT3 3 (.slice A2 N2 D2) data1, bxl b7 [(.func (.func 100) [].toArray [].toArray)] 134, rds kT88 (.slice A10 N10 D10) q8, bxl b9 [(.slice A10 N10 D10)] 83] (fun (h : Unit) => ((.tuple [].toArray), [ow kT3 3 (.slice A2 N2 D2) r, bxl b7 [(.func (.func 100) [].toArray [].toArray)] 134, bxl b9 [(.slice A10 N10 D10)] 83])) := by
 unfold Z0i at hr
 refine fn_ok Tryz.func177 R 53 R R fun C V => ?_
 refine cM (ow _ _ _ _ :: bxl _ _ _ :: bxl _ _ _ :: rds _ _ _ :: V) (fun w s => (s.e 4 [0, 1, 3, 2])) ?_
 refine cL 0 sees_ow ?_
 rintro rfl
 refine cL 3 sees_rd ?_
 rintro rfl
 let W0 : List HP := RR kT88 A10 D10 q8 :: V
 refine cN (_ :: _ :: bxl b9 [(sc A10 q8 D10)] 83 :: W0) ?_
 refine c_seq (c_region (lI R (lO (vAd R R) (lI R (l_nil (q_next (c_block ?_)))))))
 obtain ⟨e1, hl1, hk1⟩ := bd hr
 refine c_loop (A := Unit) hl1 (fun s a => [(0, (sc A2 data1 D2)), (1, (iv a3)), (2, (iv b4)), (3, (.func (.func 149) [].toArray [(pt b7 0), (pt b9 0)].toArray)), (8, (iv s.2))]) (fun s a => ow kT3 3 (.slice A2 data1.length D2) s.1 :: bxl b7 [(.func (.func 100) [].toArray [].toArray)] 134 :: bxl b9 [(sc A10 q8 D10)] 83 :: W0) () (aS R) (fun w s => s) ?_
 rintro ⟨data45, i46⟩ _ σ1 out1 hr he1
 replace hr : Z0i_L1 data1 a3 b4 q8 data45 i46 = some out1 := hr
 unfold Z0i_L1 at hr
 refine c_seq (c_seq (c_region (lI R (lI R (lO (vLt R R) (l_nil (q_next ?_)))))))
 rcases bif_ hr with ⟨hb47, hr⟩ | ⟨hb47, hr⟩
 refine c_true R hb47 (c_skip (q_next (c_seq (c_cut (A := ((List Int)) × (Unit)) (fun a => Z0i_J2 i46 a.1 = some out1) (fun a => [(0, (sc A2 data1 D2)), (1, (iv a3)), (2, (iv b4)), (3, (.func (.func 149) [].toArray [(pt b7 0), (pt b9 0)].toArray)), (8, (iv i46))]) (fun a => ow kT3 3 (.slice A2 data1.length D2) a.1 :: bxl b7 [(.func (.func 100) [].toArray [].toArray)] 134 :: bxl b9 [(sc A10 q8 D10)] 83 :: W0) ?_ ?_))))
 refine c_block (c_seq (c_region (lI R (lI R (l_nil (q_next (c_block ?_)))))))
 obtain ⟨e2, hl2, hk2⟩ := bd hr
 refine c_loop (A := Unit) hl2 (fun s a => [(0, (sc A2 data1 D2)), (1, (iv a3)), (2, (iv b4)), (3, (.func (.func 149) [].toArray [(pt b7 0), (pt b9 0)].toArray)), (8, (iv i46)), (9, (iv s.2))]) (fun s a => ow kT3 3 (.slice A2 data1.length D2) s.1 :: bxl b7 [(.func (.func 100) [].toArray [].toArray)] 134 :: bxl b9 [(sc A10 q8 D10)] 83 :: W0) () (aS R) (fun w s => s) ?_
 rintro ⟨data62, j63⟩ _ σ1 out2 hr he2
 replace hr : Z0i_L2 data1 a3 q8 data62 j63 = some out2 := hr
 unfold Z0i_L2 at hr
 refine c_seq (c_seq ?_)
 obtain ⟨hg64, hr⟩ := gd hr
 obtain ⟨hg67, hr⟩ := gd hr
 obtain ⟨r68, hx69, hr⟩ := bd hr
 refine cQ [(0, (sc A2 data1 D2)), (1, (iv a3)), (2, (iv b4)), (3, (.func (.func 149) [].toArray [(pt b7 0), (pt b9 0)].toArray)), (8, (iv i46)), (9, (iv j63)), (34, (.bool ((decide (j63 > a3)) && (decide (r68 < (0 : Int))))))] (ow kT3 3 (.slice A2 data1.length D2) data62 :: bxl b7 [(.func (.func 100) [].toArray [].toArray)] 134 :: bxl b9 [(sc A10 q8 D10)] 83 :: W0) ?_ ?_
 rcases bo (decide (j63 > a3)) with hc70 | hc70
 refine c_some 0 sees_ow (show 0 < data1.length by have := (hg64 hc70); omega) (fun g65 o66 ha => ?_)
 subst ha
 refine cdr 17 [] mixo (fun ht hn => (dR 0 R (vI R) (dR 1 R (vI R) (dR 2 R (vGt R R) (dR 3 R (vB R) (dW 4 R (wnT hc70) (vp (.func (.func 149) [].toArray [(pt b7 0), (pt b9 0)].toArray) R) (dW 5 R (wnT hc70) (vS R) (dW 6 R (wnT hc70) (vI R) (dW 7 R (wnT hc70) (vIa sl22 sz3 R R (hg64 hc70)) (dW 8 R (wnT hc70) (vLi 0 ag3 sees_ow R (hg64 hc70)) (dW 9 R (wnT hc70) (vS R) (dW 10 R (wnT hc70) (vI R) (dW 11 R (wnT hc70) (vSb R R) (dW 12 R (wnT hc70) (vIa sl22 sz3 R R (hg67 hc70)) (dW 13 R (wnT hc70) (vLi 0 ag3 sees_ow R (hg67 hc70)) (d1 14 R (lM (bxl _ _ _ :: RR kT88 A10 D10 q8 :: bxl _ _ _ :: ow kT3 3 (.slice (ad g65 o66) data1.length D2) data62 :: W0) (fun w s => ((s.d 3 R).e 4 [2, 0, 3, 1])) ?_)))))))))))))))))
 refine l_callvn (fs := []) (cs := [(pt b7 0), (pt b9 0)]) 3 R (wnT hc70) cb149 R R (Z0z_ok (gcall_t hx69 hc70)) R ?_
 rintro _
 refine lN (_ :: _ :: _ :: W0) ?_
 refine l_nil (q_draw (fun w s => (s.e 3 [2, 0, 1])) (dW 15 R (wnT hc70) (vLt R R) (hS := (fun w s => (s.e 3 [2, 0, 1]))) (dR 16 R (pAT R hc70 R) (hS := (fun w s => (s.e 3 [2, 0, 1]))) (dD ?_))))
 exact qJ (fun w s => (s.e 3 [2, 0, 1]))
 refine cdr 17 [] mixo (fun ht hn => (dR 0 R (vI R) (dR 1 R (vI R) (dR 2 R (vGt R R) (dR 3 R (vB R) (dF 4 R (wfF hc70) (dF 5 R (wfF hc70) (dF 6 R (wfF hc70) (dF 7 R (wfF hc70) (dF 8 R (wfF hc70) (dF 9 R (wfF hc70) (dF 10 R (wfF hc70) (dF 11 R (wfF hc70) (dF 12 R (wfF hc70) (dF 13 R (wfF hc70) (dF 14 R (wfF hc70) (dF 15 R (wfF hc70) (dR 16 R (pAF (decide (r68 < (0 : Int))) R hc70) (dD ?_)))))))))))))))))))
 exact qJ (fun w s => s)
 rintro σ1
 refine q_next ?_
 rcases bif_ hr with ⟨hb71, hr⟩ | ⟨hb71, hr⟩
 refine c_true R hb71 (c_skip (q_next (c_seq (c_block ?_))))
 obtain ⟨hg72, hr⟩ := gd hr
 obtain ⟨hg75, hr⟩ := gd hr
 refine cQ [(0, (sc A2 data1 D2)), (1, (iv a3)), (2, (iv b4)), (3, (.func (.func 149) [].toArray [(pt b7 0), (pt b9 0)].toArray)), (8, (iv i46)), (9, (iv j63))] (ow kT3 3 (.slice A2 data1.length D2) ((data62.set j63.toNat (ix data62 (w64 (j63 - (1 : Int))))).set (w64 (j63 - (1 : Int))).toNat (ix data62 j63)) :: bxl b7 [(.func (.func 100) [].toArray [].toArray)] 134 :: bxl b9 [(sc A10 q8 D10)] 83 :: W0) ?_ ?_
 refine c_some 0 sees_ow (show 0 < data1.length by have := hg72; omega) (fun g73 o74 ha => ?_)
 subst ha
 refine cdr 18 [0] mixo (fun ht hn => (dR 0 R (vS R) (hS := (sL [0])) (dR 1 R (vI R) (hS := (sL [0])) (dR 2 R (vS R) (hS := (sL [0])) (dR 3 R (vI R) (hS := (sL [0])) (dR 4 R (vSb R R) (hS := (sL [0])) (dR 5 R (vS R) (hS := (sL [0])) (dR 6 R (vI R) (hS := (sL [0])) (dR 7 R (vSb R R) (hS := (sL [0])) (dR 8 R (vIa sl22 sz3 R R hg72) (hS := (sL [0])) (dR 10 R (vS R) (hS := (sL [0])) (dR 11 R (vI R) (hS := (sL [0])) (dR 12 R (vIa sl22 sz3 R R hg75) (hS := (sL [0])) (d_all [9, 13] (by kernel_rfl) R ⟨?_, ?_, trivial⟩))))))))))))))
 refine lO (vLi 0 ag3 sees_ow R hg72) (l_nil (q_draw (sL [0]) (d1 13 R (lO (vLi 0 ag3 sees_ow R hg75) (l_nil (q_draw (sL [0]) (dR 14 R (vIa sl22 sz3 R R hg75) (hS := (sL [0])) (d1 15 R (lN (ow kT3 3 (.slice (ad g73 o74) data1.length D2) data62 :: _ :: _ :: W0) ?_)))))))))
 refine l_stx (K := kT3) (x' := (ix data62 (w64 (j63 - (1 : Int))))) 0 j63 R R sz3 R R hg75.1 hg75.2 ?_ ?_
 exact fun I h s => (mO3).put I h () (ix data62 (w64 (j63 - (1 : Int)))) s
 refine lN (ow kT3 3 (.slice (ad g73 o74) data1.length D2) (data62.set j63.toNat (ix data62 (w64 (j63 - (1 : Int))))) :: _ :: _ :: W0) ?_
 refine l_nil (q_draw (sL [0]) (dR 16 R (vIa sl22 sz3 R R hg72) (hS := (sL [0])) (d1 17 R (l_stx (K := kT3) (x' := (ix data62 j63)) 0 (w64 (j63 - (1 : Int))) R R sz3 R R hg72.1 hg72.2 ?_ ?_))))
 exact fun I h s => (mO3).put I h () (ix data62 j63) s
 refine lN (ow kT3 3 (.slice (ad g73 o74) data1.length D2) ((data62.set j63.toNat (ix data62 (w64 (j63 - (1 : Int))))).set (w64 (j63 - (1 : Int))).toNat (ix data62 j63)) :: _ :: _ :: W0) ?_
 refine l_nil (q_draw (sL [0]) (dD ?_))
 exact qJ (fun w s => s)
 refine lO (vLi 0 ag3 sees_ow R hg75) (l_nil (q_draw (sL [0]) (d1 9 R (lO (vLi 0 ag3 sees_ow R hg72) (l_nil (q_draw (sL [0]) (dR 14 R (vIa sl22 sz3 R R hg75) (hS := (sL [0])) (d1 15 R (lN (ow kT3 3 (.slice (ad g73 o74) data1.length D2) data62 :: _ :: _ :: W0) ?_)))))))))
 refine l_stx (K := kT3) (x' := (ix data62 (w64 (j63 - (1 : Int))))) 0 j63 R R sz3 R R hg75.1 hg75.2 ?_ ?_
 exact fun I h s => (mO3).put I h () (ix data62 (w64 (j63 - (1 : Int)))) s
 refine lN (ow kT3 3 (.slice (ad g73 o74) data1.length D2) (data62.set j63.toNat (ix data62 (w64 (j63 - (1 : Int))))) :: _ :: _ :: W0) ?_
 refine l_nil (q_draw (sL [0]) (dR 16 R (vIa sl22 sz3 R R hg72) (hS := (sL [0])) (d1 17 R (l_stx (K := kT3) (x' := (ix data62 j63)) 0 (w64 (j63 - (1 : Int))) R R sz3 R R hg72.1 hg72.2 ?_ ?_))))
 exact fun I h s => (mO3).put I h () (ix data62 j63) s
 refine lN (ow kT3 3 (.slice (ad g73 o74) data1.length D2) ((data62.set j63.toNat (ix data62 (w64 (j63 - (1 : Int))))).set (w64 (j63 - (1 : Int))).toNat (ix data62 j63)) :: _ :: _ :: W0) ?_
 refine l_nil (q_draw (sL [0]) (dD ?_))
 exact qJ (fun w s => s)
 rintro σ1
 obtain ⟨l76, hl77, hr⟩ := bd hr
 replace hl77 := Option.some.inj hl77
 refine qM (ow kT3 3 (.slice A2 data1.length D2) l76 :: _ :: _ :: W0) (fun w s => by rw [← hl77]; exact s) ?_
 refine q_blockn (q_next (c_region (lI R (lO (vSb R R) (lI R (l_nil ?_))))))
 obtain rfl := so hr
 exact qA () (fun w s => s)
 refine c_false R hb71 (c_exit (q_exit ?_))
 obtain rfl := so hr
 obtain rfl := he2 _ R
 have hr := hk2
 refine q_exit (q_block (q_blockn ?_))
 exact qI (data62, ()) hr (fun w s => s)
 rintro ⟨data80, _⟩ σ1 hr
 replace hr : Z0i_J2 i46 data80 = some out1 := hr
 unfold Z0i_J2 at hr
 refine c_region (lI R (lO (vAd R R) (lI R (l_nil ?_))))
 obtain rfl := so hr
 exact qA () (fun w s => s)
 refine c_false R hb47 (c_exit (q_exit ?_))
 obtain rfl := so hr
 obtain rfl := he1 _ R
 have hr := hk1
 refine q_exit (q_block ?_)
 obtain rfl := so hr
 exact q_fin (vs := []) (.inr R) () R trivial R (fun w s => (s.f 4 [0, 3]))
theorem Z10_ok  {data1 : (List Int)} {a3 : Int} {b4 : Int} {n5 : Int} {q9 : (List Life)} {b8 : Nat} {b10 : Nat} {r : (List Int)} (hr : Z10 data1 a3 b4 n5 q9 = some r) :
 FnOk Tryz.prog 182 [(.slice A2 N2 D2), (iv a3), (iv b4), (iv n5), (.func (.func 149) [].toArray [(pt b8 0), (pt b10 0)].toArray)] [ow kT3 3 (.slice A2 N2 D2) data1, bxl b8 [(.func (.func 100) [].toArray [].toArray)] 134, rds kT88 (.slice A11 N11 D11) q9, bxl b10 [(.slice A11 N11 D11)] 83] (fun (h : Unit) => ((.tuple [].toArray), [ow kT3 3 (.slice A2 N2 D2) r, bxl b8 [(.func (.func 100) [].toArray [].toArray)] 134, bxl b10 [(.slice A11 N11 D11)] 83])) := by
 unfold Z10 at hr
 refine fn_ok Tryz.func182 R 38 R R fun C V => ?_
 refine cM (ow _ _ _ _ :: bxl _ _ _ :: bxl _ _ _ :: rds _ _ _ :: V) (fun w s => (s.e 4 [0, 1, 3, 2])) ?_
 refine cL 0 sees_ow ?_
 rintro rfl
 refine cL 3 sees_rd ?_
 rintro rfl
 let W0 : List HP := RR kT88 A11 D11 q9 :: V
 refine cN (_ :: _ :: bxl b10 [(sc A11 q9 D11)] 83 :: W0) ?_
 refine c_seq (c_region (lI R (l_nil ?_)))
 let W1 : List HP := bxl b8 [(.func (.func 100) [].toArray [].toArray)] 134 :: bxl b10 [(sc A11 q9 D11)] 83 :: W0
 refine qN (_ :: W1) ?_
 refine q_next (c_block ?_)
 obtain ⟨e1, hl1, hk1⟩ := bd hr
 refine c_loop (A := Unit) hl1 (fun s a => [(0, (sc A2 data1 D2)), (1, (iv a3)), (2, (iv b4)), (3, (iv n5)), (10, (iv s.2))]) (fun s a => ow kT3 3 (.slice A2 data1.length D2) s.1 :: W1) () (aS R) (fun w s => s) ?_
 rintro ⟨data19, i20⟩ _ σ1 out1 hr he1
 replace hr : Z10_L1 data1 a3 b4 n5 data19 i20 = some out1 := hr
 unfold Z10_L1 at hr
 refine c_seq (c_seq (c_region (lI R (lI R (lO (vLt R R) (l_nil (q_next ?_)))))))
 rcases bif_ hr with ⟨hb21, hr⟩ | ⟨hb21, hr⟩
 refine c_true R hb21 (c_skip (q_next (c_seq (c_block ?_))))
 obtain ⟨hg22, hr⟩ := gd hr
 obtain ⟨hg25, hr⟩ := gd hr
 refine cQ [(0, (sc A2 data1 D2)), (1, (iv a3)), (2, (iv b4)), (3, (iv n5)), (10, (iv i20))] (ow kT3 3 (.slice A2 data1.length D2) ((data19.set (w64 (a3 + i20)).toNat (ix data19 (w64 (b4 + i20)))).set (w64 (b4 + i20)).toNat (ix data19 (w64 (a3 + i20)))) :: W1) ?_ ?_
 refine c_some 0 sees_ow (show 0 < data1.length by have := hg22; omega) (fun g23 o24 ha => ?_)
 subst ha
 refine cdr 24 [0] mixo (fun ht hn => (dR 0 R (vS R) (hS := (sL [0])) (dR 1 R (vI R) (hS := (sL [0])) (dR 2 R (vI R) (hS := (sL [0])) (dR 3 R (vAd R R) (hS := (sL [0])) (dR 4 R (vS R) (hS := (sL [0])) (dR 5 R (vI R) (hS := (sL [0])) (dR 6 R (vI R) (hS := (sL [0])) (dR 7 R (vAd R R) (hS := (sL [0])) (dR 8 R (vS R) (hS := (sL [0])) (dR 9 R (vI R) (hS := (sL [0])) (dR 10 R (vI R) (hS := (sL [0])) (dR 11 R (vAd R R) (hS := (sL [0])) (dR 12 R (vIa sl22 sz3 R R hg22) (hS := (sL [0])) (dR 14 R (vS R) (hS := (sL [0])) (dR 15 R (vI R) (hS := (sL [0])) (dR 16 R (vI R) (hS := (sL [0])) (dR 17 R (vAd R R) (hS := (sL [0])) (dR 18 R (vIa sl22 sz3 R R hg25) (hS := (sL [0])) (d_all [13, 19] (by kernel_rfl) R ⟨?_, ?_, trivial⟩))))))))))))))))))))
 refine lO (vLi 0 ag3 sees_ow R hg22) (l_nil (q_draw (sL [0]) (d1 19 R (lO (vLi 0 ag3 sees_ow R hg25) (l_nil (q_draw (sL [0]) (dR 20 R (vIa sl22 sz3 R R hg25) (hS := (sL [0])) (d1 21 R (lN (ow kT3 3 (.slice (ad g23 o24) data1.length D2) data19 :: W1) ?_)))))))))
 refine l_stx (K := kT3) (x' := (ix data19 (w64 (b4 + i20)))) 0 (w64 (a3 + i20)) R R sz3 R R hg25.1 hg25.2 ?_ ?_
 exact fun I h s => (mO3).put I h () (ix data19 (w64 (b4 + i20))) s
 refine lN (ow kT3 3 (.slice (ad g23 o24) data1.length D2) (data19.set (w64 (a3 + i20)).toNat (ix data19 (w64 (b4 + i20)))) :: W1) ?_
 refine l_nil (q_draw (sL [0]) (dR 22 R (vIa sl22 sz3 R R hg22) (hS := (sL [0])) (d1 23 R (l_stx (K := kT3) (x' := (ix data19 (w64 (a3 + i20)))) 0 (w64 (b4 + i20)) R R sz3 R R hg22.1 hg22.2 ?_ ?_))))
 exact fun I h s => (mO3).put I h () (ix data19 (w64 (a3 + i20))) s
 refine lN (ow kT3 3 (.slice (ad g23 o24) data1.length D2) ((data19.set (w64 (a3 + i20)).toNat (ix data19 (w64 (b4 + i20)))).set (w64 (b4 + i20)).toNat (ix data19 (w64 (a3 + i20)))) :: W1) ?_
 refine l_nil (q_draw (sL [0]) (dD ?_))
 exact qJ (fun w s => s)
 refine lO (vLi 0 ag3 sees_ow R hg25) (l_nil (q_draw (sL [0]) (d1 13 R (lO (vLi 0 ag3 sees_ow R hg22) (l_nil (q_draw (sL [0]) (dR 20 R (vIa sl22 sz3 R R hg25) (hS := (sL [0])) (d1 21 R (lN (ow kT3 3 (.slice (ad g23 o24) data1.length D2) data19 :: W1) ?_)))))))))
 refine l_stx (K := kT3) (x' := (ix data19 (w64 (b4 + i20)))) 0 (w64 (a3 + i20)) R R sz3 R R hg25.1 hg25.2 ?_ ?_
 exact fun I h s => (mO3).put I h () (ix data19 (w64 (b4 + i20))) s
 refine lN (ow kT3 3 (.slice (ad g23 o24) data1.length D2) (data19.set (w64 (a3 + i20)).toNat (ix data19 (w64 (b4 + i20)))) :: W1) ?_
 refine l_nil (q_draw (sL [0]) (dR 22 R (vIa sl22 sz3 R R hg22) (hS := (sL [0])) (d1 23 R (l_stx (K := kT3) (x' := (ix data19 (w64 (a3 + i20)))) 0 (w64 (b4 + i20)) R R sz3 R R hg22.1 hg22.2 ?_ ?_))))
 exact fun I h s => (mO3).put I h () (ix data19 (w64 (a3 + i20))) s
 refine lN (ow kT3 3 (.slice (ad g23 o24) data1.length D2) ((data19.set (w64 (a3 + i20)).toNat (ix data19 (w64 (b4 + i20)))).set (w64 (b4 + i20)).toNat (ix data19 (w64 (a3 + i20)))) :: W1) ?_
 refine l_nil (q_draw (sL [0]) (dD ?_))
 exact qJ (fun w s => s)
 rintro σ1
 obtain ⟨l26, hl27, hr⟩ := bd hr
 replace hl27 := Option.some.inj hl27
 refine qM (ow kT3 3 (.slice A2 data1.length D2) l26 :: W1) (fun w s => by rw [← hl27]; exact s) ?_
 refine q_blockn (q_next (c_region (lI R (lO (vAd R R) (lI R (l_nil ?_))))))
 obtain rfl := so hr
 exact qA () (fun w s => s)
 refine c_false R hb21 (c_exit (q_exit ?_))
 obtain rfl := so hr
 obtain rfl := he1 _ R
 have hr := hk1
 refine q_exit (q_block ?_)
 obtain rfl := so hr
 exact q_fin (vs := []) (.inr R) () R trivial R (fun w s => (s.f 4 [0, 3]))
end Go.Proofs.YtkfgngcfcoplpaaGreat
