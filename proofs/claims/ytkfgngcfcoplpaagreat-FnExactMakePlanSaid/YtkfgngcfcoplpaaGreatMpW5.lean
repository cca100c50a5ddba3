import Derived.Test.YtkfgngcfcoplpaaGreatMpW4
set_option linter.unusedVariables false
set_option maxRecDepth 20000
namespace Go.Proofs.YtkfgngcfcoplpaaGreat
open Go Go.Pg
variable {A2 A4 A6 A8 A9 A11 : Option Addr} {D2 D4 D6 D8 D9 D11 N2 N4 N6 N8 N9 N11 : Nat}
theorem Z0y_ok  {data1 : (List Int)} {a3 : Int} {m4 : Int} {b5 : Int} {q9 : (List Life)} {b8 : Nat} {b10 : Nat} {r : (List Int)} (hr : Z0y data1 a3 m4 b5 q9 = some r) :
 FnOk Tryz.prog 180 [(.slice A2 N2 D2), (iv a3), (iv m4), (iv b5), (.func (.func 149) [].toArray [(pt b8 0), (pt b10 0)].toArray)] [ow kT3 3 (.slice A2 N2 D2) data1, bxl b8 [(.func (.func 100) [].toArray [].toArray)] 134, rds kT88 (.slice A11 N11 D11) q9, bxl b10 [(.slice A11 N11 D11)] 83] (fun (h : Unit) => ((.tuple [].toArray), [ow kT3 3 (.slice A2 N2 D2) r, bxl b8 [(.func (.func 100) [].toArray [].toArray)] 134, bxl b10 [(.slice A11 N11 D11)] 83])) := by
 unfold Z0y at hr
 refine fn_ok Tryz.func180 R 58 R R fun C V => ?_
 refine cM (ow _ _ _ _ :: bxl _ _ _ :: bxl _ _ _ :: rds _ _ _ :: V) (fun w s => (s.e 4 [0, 1, 3, 2])) ?_
 refine cL 0 sees_ow ?_
 rintro rfl
 refine cL 3 sees_rd ?_
 rintro rfl
 let W0 : List HP := RR kT88 A11 D11 q9 :: V
 refine cN (_ :: _ :: bxl b10 [(sc A11 q9 D11)] 83 :: W0) ?_
 refine c_seq (c_region (lI R (lI R (lO (vSb R R) (lI R (l_nil (q_next (c_seq (c_region (lI R (lI R (lO (vSb R R) (lI R (l_nil (q_next (c_seq (c_cut (A := ((List Int) × Int) × (Unit)) (fun a => Z0y_J1 m4 q9 a.1.1 a.1.2 = some r) (fun a => [(0, (sc A2 data1 D2)), (2, (iv m4)), (4, (.func (.func 149) [].toArray [(pt b8 0), (pt b10 0)].toArray)), (10, (iv a.1.2))]) (fun a => ow kT3 3 (.slice A2 data1.length D2) a.1.1 :: bxl b8 [(.func (.func 100) [].toArray [].toArray)] 134 :: bxl b10 [(sc A11 q9 D11)] 83 :: W0) ?_ ?_)))))))))))))))))
 refine c_block ?_
 obtain ⟨e1, hl1, hk1⟩ := bd hr
 refine c_loop (A := Unit) hl1 (fun s a => [(0, (sc A2 data1 D2)), (2, (iv m4)), (4, (.func (.func 149) [].toArray [(pt b8 0), (pt b10 0)].toArray)), (10, (iv s.2.1)), (11, (iv s.2.2))]) (fun s a => ow kT3 3 (.slice A2 data1.length D2) s.1 :: bxl b8 [(.func (.func 100) [].toArray [].toArray)] 134 :: bxl b10 [(sc A11 q9 D11)] 83 :: W0) () (aS R) (fun w s => s) ?_
 rintro ⟨data18, i19, j20⟩ _ σ1 out1 hr he1
 replace hr : Z0y_L1 m4 q9 data18 i19 j20 = some out1 := hr
 unfold Z0y_L1 at hr
 refine c_seq (c_seq (c_region (lI R (lI R (lO (vNe R R) (l_nil (q_next ?_)))))))
 rcases bif_ hr with ⟨hb21, hr⟩ | ⟨hb21, hr⟩
 refine c_true R hb21 (c_skip (q_next (c_block (c_seq (c_region (lI R (lI R (lO (vGt R R) (l_nil (q_next ?_))))))))))
 rcases bif_ hr with ⟨hb22, hr⟩ | ⟨hb22, hr⟩
 refine c_true R hb22 (c_seq ?_)
 obtain ⟨r23, hx24, hr⟩ := bd hr
 refine c_region (lS R (lI R (lI R (lO (vSb R R) (lI R (lI R (lO (vp (.func (.func 149) [].toArray [(pt b8 0), (pt b10 0)].toArray) R) (lM (ow kT3 3 (.slice A2 data1.length D2) data18 :: bxl _ _ _ :: RR kT88 A11 D11 q9 :: bxl _ _ _ :: W0) (fun w s => ((s.d 3 R).e 4 [1, 2, 0, 3])) ?_))))))))
 refine lC 4 cb182 R (Z10_ok hx24) R ?_
 rintro _
 refine lN (ow kT3 3 (.slice A2 data1.length D2) r23 :: _ :: _ :: W0) ?_
 refine l_nil (q_next (c_region (lI R (lI R (lO (vSb R R) (lI R (l_nil (q_blockn ?_))))))))
 obtain rfl := so hr
 exact qA () (fun w s => s)
 refine c_false R hb22 (c_seq ?_)
 obtain ⟨r25, hx26, hr⟩ := bd hr
 refine c_region (lS R (lI R (lI R (lO (vSb R R) (lI R (lI R (lO (vAd R R) (lI R (lO (vSb R R) (lI R (lO (vp (.func (.func 149) [].toArray [(pt b8 0), (pt b10 0)].toArray) R) (lM (ow kT3 3 (.slice A2 data1.length D2) data18 :: bxl _ _ _ :: RR kT88 A11 D11 q9 :: bxl _ _ _ :: W0) (fun w s => ((s.d 3 R).e 4 [1, 2, 0, 3])) ?_))))))))))))
 refine lC 4 cb182 R (Z10_ok hx26) R ?_
 rintro _
 refine lN (ow kT3 3 (.slice A2 data1.length D2) r25 :: _ :: _ :: W0) ?_
 refine l_nil (q_next (c_region (lI R (lI R (lO (vSb R R) (lI R (l_nil (q_blockn ?_))))))))
 obtain rfl := so hr
 exact qA () (fun w s => s)
 refine c_false R hb21 (c_exit (q_exit ?_))
 obtain rfl := so hr
 obtain rfl := he1 _ R
 have hr := hk1
 refine q_exit (q_block ?_)
 exact qI ((data18, i19), ()) hr (fun w s => s)
 rintro ⟨⟨data30, i31⟩, _⟩ σ1 hr
 replace hr : Z0y_J1 m4 q9 data30 i31 = some r := hr
 unfold Z0y_J1 at hr
 obtain ⟨r32, hx33, hr⟩ := bd hr
 refine c_region (lS R (lI R (lI R (lO (vSb R R) (lI R (lI R (lO (vp (.func (.func 149) [].toArray [(pt b8 0), (pt b10 0)].toArray) R) (lM (ow kT3 3 (.slice A2 data1.length D2) data30 :: bxl _ _ _ :: RR kT88 A11 D11 q9 :: bxl _ _ _ :: W0) (fun w s => ((s.d 3 R).e 4 [1, 2, 0, 3])) ?_))))))))
 refine lC 4 cb182 R (Z10_ok hx33) R ?_
 rintro _
 refine lN (ow kT3 3 (.slice A2 data1.length D2) r32 :: _ :: _ :: W0) ?_
 refine l_nil ?_
 obtain rfl := so hr
 exact q_fin (vs := []) (.inr R) () R trivial R (fun w s => (s.f 4 [0, 3]))
theorem Z0_S_ok {rf : (List Int) → Int → Int → Int → (List Life) → Option ((List Int))} (hrf : ∀ {data1 : (List Int)} {a3 : Int} {m4 : Int} {b5 : Int} {q9 : (List Life)} {b8 : Nat} {b10 : Nat} {A2 A11 : Option Addr} {N2 D2 N11 D11 : Nat} {r : (List Int)}, rf data1 a3 m4 b5 q9 = some r → FnOk Tryz.prog 178 [(.slice A2 N2 D2), (iv a3), (iv m4), (iv b5), (.func (.func 149) [].toArray [(pt b8 0), (pt b10 0)].toArray)] [ow kT3 3 (.slice A2 N2 D2) data1, bxl b8 [(.func (.func 100) [].toArray [].toArray)] 134, rds kT88 (.slice A11 N11 D11) q9, bxl b10 [(.slice A11 N11 D11)] 83] (fun (h : Unit) => ((.tuple [].toArray), [ow kT3 3 (.slice A2 N2 D2) r, bxl b8 [(.func (.func 100) [].toArray [].toArray)] 134, bxl b10 [(.slice A11 N11 D11)] 83]))) {data1 : (List Int)} {a3 : Int} {m4 : Int} {b5 : Int} {q9 : (List Life)} {b8 : Nat} {b10 : Nat} {r : (List Int)} (hr : Z0_S rf data1 a3 m4 b5 q9 = some r) :
 FnOk Tryz.prog 178 [(.slice A2 N2 D2), (iv a3), (iv m4), (iv b5), (.func (.func 149) [].toArray [(pt b8 0), (pt b10 0)].toArray)] [ow kT3 3 (.slice A2 N2 D2) data1, bxl b8 [(.func (.func 100) [].toArray [].toArray)] 134, rds kT88 (.slice A11 N11 D11) q9, bxl b10 [(.slice A11 N11 D11)] 83] (fun (h : Unit) => ((.tuple [].toArray), [ow kT3 3 (.slice A2 N2 D2) r, bxl b8 [(.func (.func 100) [].toArray [].toArray)] 134, bxl b10 [(.slice A11 N11 D11)] 83])) := by
 unfold Z0_S at hr
 refine fn_ok Tryz.func178 R 220 R R fun C V => ?_
 refine cM (ow _ _ _ _ :: bxl _ _ _ :: bxl _ _ _ :: rds _ _ _ :: V) (fun w s => (s.e 4 [0, 1, 3, 2])) ?_
 refine cL 0 sees_ow ?_
 rintro rfl
 refine cL 3 sees_rd ?_
 rintro rfl
 let W0 : List HP := RR kT88 A11 D11 q9 :: V
 refine cN (_ :: _ :: bxl b10 [(sc A11 q9 D11)] 83 :: W0) ?_
 refine c_seq (c_seq (c_region (lI R (lI R (lO (vSb R R) (lO (vEq R R) (l_nil (q_next ?_))))))))
 rcases bif_ hr with ⟨hb12, hr⟩ | ⟨hb12, hr⟩
 refine c_true R hb12 (c_seq (c_region (lI R (lI R (l_nil (q_next (c_seq (c_region (lI R (lI R (l_nil (q_next (c_seq (c_cut (A := (Int) × (Unit)) (fun a => Z0_J9 data1 a3 a.1 = some r) (fun a => [(0, (sc A2 data1 D2)), (1, (iv a3)), (10, (iv a.1))]) (fun a => OO kT3 3 A2 D2 data1 :: bxl b8 [(.func (.func 100) [].toArray [].toArray)] 134 :: bxl b10 [(sc A11 q9 D11)] 83 :: W0) ?_ ?_))))))))))))))
 refine c_block ?_
 obtain ⟨e1, hl1, hk1⟩ := bd hr
 refine c_loop (A := Unit) hl1 (fun s a => [(0, (sc A2 data1 D2)), (1, (iv a3)), (4, (.func (.func 149) [].toArray [(pt b8 0), (pt b10 0)].toArray)), (10, (iv s.1)), (11, (iv s.2))]) (fun s a => OO kT3 3 A2 D2 data1 :: bxl b8 [(.func (.func 100) [].toArray [].toArray)] 134 :: bxl b10 [(sc A11 q9 D11)] 83 :: W0) () (aS R) (fun w s => s) ?_
 rintro ⟨i21, j22⟩ _ σ1 out1 hr he1
 replace hr : Z0_L1 data1 a3 q9 i21 j22 = some out1 := hr
 unfold Z0_L1 at hr
 refine c_seq (c_seq (c_region (lI R (lI R (lO (vLt R R) (l_nil (q_next ?_)))))))
 rcases bif_ hr with ⟨hb23, hr⟩ | ⟨hb23, hr⟩
 refine c_true R hb23 (c_skip (q_next (c_block (c_seq (c_region (lI R (lI R (lO (vAd R R) (lO (vz (.int .u64 (IntKind.wrap .u64 ((w64 (i21 + j22))))) (v_conv un3 un145 R)) (lO (vz (.int .u64 ((IntKind.wrap .u64 ((w64 (i21 + j22)))) / 2 ^ (1 : Int).toNat)) (v_shr R R (by decide) (by decide))) (lO (vz (iv (w64 (((IntKind.wrap .u64 ((w64 (i21 + j22)))) / 2 ^ (1 : Int).toNat)))) (v_conv un145 un3 R)) (lI R (l_nil (q_next (c_seq ?_)))))))))))))))
 obtain ⟨hg24, hr⟩ := gd hr
 obtain ⟨hg27, hr⟩ := gd hr
 obtain ⟨r28, hx29, hr⟩ := bd hr
 refine c_some 0 sees_ow (show 0 < data1.length by have := hg24; omega) (fun g25 o26 ha => ?_)
 subst ha
 refine cdr 11 [] mixo (fun ht hn => (dR 0 R (vp (.func (.func 149) [].toArray [(pt b8 0), (pt b10 0)].toArray) R) (dR 1 R (vS R) (dR 2 R (vI R) (dR 3 R (vIa sl22 sz3 R R hg24) (dR 4 R (vLi 0 ag3 sees_ow R hg24) (dR 5 R (vS R) (dR 6 R (vI R) (dR 7 R (vIa sl22 sz3 R R hg27) (dR 8 R (vLi 0 ag3 sees_ow R hg27) (d1 9 R (lM (bxl _ _ _ :: RR kT88 A11 D11 q9 :: bxl _ _ _ :: OO kT3 3 (ad g25 o26) D2 data1 :: W0) (fun w s => ((s.d 3 R).e 4 [2, 0, 3, 1])) ?_))))))))))))
 refine l_callvn (fs := []) (cs := [(pt b8 0), (pt b10 0)]) 3 R R cb149 R R (Z0z_ok hx29) R ?_
 rintro _
 refine lN (_ :: _ :: _ :: W0) ?_
 refine l_nil (q_draw (fun w s => (s.e 3 [2, 0, 1])) (dR 10 R (vLt R R) (hS := (fun w s => (s.e 3 [2, 0, 1]))) (dD (q_next ?_))))
 rcases bif_ hr with ⟨hb30, hr⟩ | ⟨hb30, hr⟩
 refine c_true R hb30 (c_region (lI R (lO (vAd R R) (lI R (l_nil (q_blockn ?_))))))
 obtain rfl := so hr
 exact qA () (fun w s => (s.e 3 [2, 0, 1]))
 refine c_false R hb30 (c_region (lI R (lI R (l_nil (q_blockn ?_)))))
 obtain rfl := so hr
 exact qA () (fun w s => (s.e 3 [2, 0, 1]))
 refine c_false R hb23 (c_exit (q_exit ?_))
 obtain rfl := so hr
 obtain rfl := he1 _ R
 have hr := hk1
 refine q_exit (q_block ?_)
 exact qI (i21, ()) hr (fun w s => s)
 rintro ⟨i33, _⟩ σ1 hr
 replace hr : Z0_J9 data1 a3 i33 = some r := hr
 unfold Z0_J9 at hr
 refine c_seq (c_cut (A := ((List Int)) × (Unit)) (fun a => Z0_J10 a.1 = some r) (fun a => []) (fun a => ow kT3 3 (.slice A2 data1.length D2) a.1 :: bxl b8 [(.func (.func 100) [].toArray [].toArray)] 134 :: bxl b10 [(sc A11 q9 D11)] 83 :: W0) ?_ ?_)
 refine c_seq (c_region (lI R (lI R (l_nil (q_next (c_block ?_))))))
 obtain ⟨e2, hl2, hk2⟩ := bd hr
 refine c_loop (A := Unit) hl2 (fun s a => [(0, (sc A2 data1 D2)), (10, (iv i33)), (13, (iv s.2))]) (fun s a => ow kT3 3 (.slice A2 data1.length D2) s.1 :: bxl b8 [(.func (.func 100) [].toArray [].toArray)] 134 :: bxl b10 [(sc A11 q9 D11)] 83 :: W0) () (aS R) (fun w s => s) ?_
 rintro ⟨data41, k42⟩ _ σ1 out2 hr he2
 replace hr : Z0_L2 data1 i33 data41 k42 = some out2 := hr
 unfold Z0_L2 at hr
 refine c_seq (c_seq (c_region (lI R (lI R (lO (vSb R R) (lO (vLt R R) (l_nil (q_next ?_))))))))
 rcases bif_ hr with ⟨hb43, hr⟩ | ⟨hb43, hr⟩
 refine c_true R hb43 (c_skip (q_next (c_seq (c_block ?_))))
 obtain ⟨hg44, hr⟩ := gd hr
 obtain ⟨hg47, hr⟩ := gd hr
 refine cQ [(0, (sc A2 data1 D2)), (10, (iv i33)), (13, (iv k42))] (ow kT3 3 (.slice A2 data1.length D2) ((data41.set k42.toNat (ix data41 (w64 (k42 + (1 : Int))))).set (w64 (k42 + (1 : Int))).toNat (ix data41 k42)) :: bxl b8 [(.func (.func 100) [].toArray [].toArray)] 134 :: bxl b10 [(sc A11 q9 D11)] 83 :: W0) ?_ ?_
 refine c_some 0 sees_ow (show 0 < data1.length by have := hg44; omega) (fun g45 o46 ha => ?_)
 subst ha
 refine cdr 18 [0] mixo (fun ht hn => (dR 0 R (vS R) (hS := (sL [0])) (dR 1 R (vI R) (hS := (sL [0])) (dR 2 R (vS R) (hS := (sL [0])) (dR 3 R (vI R) (hS := (sL [0])) (dR 4 R (vAd R R) (hS := (sL [0])) (dR 5 R (vS R) (hS := (sL [0])) (dR 6 R (vI R) (hS := (sL [0])) (dR 7 R (vAd R R) (hS := (sL [0])) (dR 8 R (vIa sl22 sz3 R R hg44) (hS := (sL [0])) (dR 10 R (vS R) (hS := (sL [0])) (dR 11 R (vI R) (hS := (sL [0])) (dR 12 R (vIa sl22 sz3 R R hg47) (hS := (sL [0])) (d_all [9, 13] (by kernel_rfl) R ⟨?_, ?_, trivial⟩))))))))))))))
 refine lO (vLi 0 ag3 sees_ow R hg44) (l_nil (q_draw (sL [0]) (d1 13 R (lO (vLi 0 ag3 sees_ow R hg47) (l_nil (q_draw (sL [0]) (dR 14 R (vIa sl22 sz3 R R hg47) (hS := (sL [0])) (d1 15 R (lN (ow kT3 3 (.slice (ad g45 o46) data1.length D2) data41 :: _ :: _ :: W0) ?_)))))))))
 refine l_stx (K := kT3) (x' := (ix data41 (w64 (k42 + (1 : Int))))) 0 k42 R R sz3 R R hg47.1 hg47.2 ?_ ?_
 exact fun I h s => (mO3).put I h () (ix data41 (w64 (k42 + (1 : Int)))) s
 refine lN (ow kT3 3 (.slice (ad g45 o46) data1.length D2) (data41.set k42.toNat (ix data41 (w64 (k42 + (1 : Int))))) :: _ :: _ :: W0) ?_
 refine l_nil (q_draw (sL [0]) (dR 16 R (vIa sl22 sz3 R R hg44) (hS := (sL [0])) (d1 17 R (l_stx (K := kT3) (x' := (ix data41 k42)) 0 (w64 (k42 + (1 : Int))) R R sz3 R R hg44.1 hg44.2 ?_ ?_))))
 exact fun I h s => (mO3).put I h () (ix data41 k42) s
 refine lN (ow kT3 3 (.slice (ad g45 o46) data1.length D2) ((data41.set k42.toNat (ix data41 (w64 (k42 + (1 : Int))))).set (w64 (k42 + (1 : Int))).toNat (ix data41 k42)) :: _ :: _ :: W0) ?_
 refine l_nil (q_draw (sL [0]) (dD ?_))
 exact qJ (fun w s => s)
 refine lO (vLi 0 ag3 sees_ow R hg47) (l_nil (q_draw (sL [0]) (d1 9 R (lO (vLi 0 ag3 sees_ow R hg44) (l_nil (q_draw (sL [0]) (dR 14 R (vIa sl22 sz3 R R hg47) (hS := (sL [0])) (d1 15 R (lN (ow kT3 3 (.slice (ad g45 o46) data1.length D2) data41 :: _ :: _ :: W0) ?_)))))))))
 refine l_stx (K := kT3) (x' := (ix data41 (w64 (k42 + (1 : Int))))) 0 k42 R R sz3 R R hg47.1 hg47.2 ?_ ?_
 exact fun I h s => (mO3).put I h () (ix data41 (w64 (k42 + (1 : Int)))) s
 refine lN (ow kT3 3 (.slice (ad g45 o46) data1.length D2) (data41.set k42.toNat (ix data41 (w64 (k42 + (1 : Int))))) :: _ :: _ :: W0) ?_
 refine l_nil (q_draw (sL [0]) (dR 16 R (vIa sl22 sz3 R R hg44) (hS := (sL [0])) (d1 17 R (l_stx (K := kT3) (x' := (ix data41 k42)) 0 (w64 (k42 + (1 : Int))) R R sz3 R R hg44.1 hg44.2 ?_ ?_))))
 exact fun I h s => (mO3).put I h () (ix data41 k42) s
 refine lN (ow kT3 3 (.slice (ad g45 o46) data1.length D2) ((data41.set k42.toNat (ix data41 (w64 (k42 + (1 : Int))))).set (w64 (k42 + (1 : Int))).toNat (ix data41 k42)) :: _ :: _ :: W0) ?_
 refine l_nil (q_draw (sL [0]) (dD ?_))
 exact qJ (fun w s => s)
 rintro σ1
 obtain ⟨l48, hl49, hr⟩ := bd hr
 replace hl49 := Option.some.inj hl49
 refine qM (ow kT3 3 (.slice A2 data1.length D2) l48 :: _ :: _ :: W0) (fun w s => by rw [← hl49]; exact s) ?_
 refine q_blockn (q_next (c_region (lI R (lO (vAd R R) (lI R (l_nil ?_))))))
 obtain rfl := so hr
 exact qA () (fun w s => s)
 refine c_false R hb43 (c_exit (q_exit ?_))
 obtain rfl := so hr
 obtain rfl := he2 _ R
 have hr := hk2
 refine q_exit (q_block ?_)
 exact q_join (data41, ()) hr trivial (fun w s => s)
 rintro ⟨p52, _⟩ σ1 hr
 replace hr : Z0_J10 p52 = some r := hr
 unfold Z0_J10 at hr
 refine c_ret (q_ret ?_)
 obtain rfl := so hr
 exact q_fin (vs := []) (.inl R) () R trivial R (fun w s => (s.f 4 [0, 3]))
 refine c_false R hb12 (c_skip (q_next (c_seq (c_seq (c_region (lI R (lI R (lO (vSb R R) (lO (vEq R R) (l_nil (q_next ?_)))))))))))
 rcases bif_ hr with ⟨hb53, hr⟩ | ⟨hb53, hr⟩
 refine c_true R hb53 (c_seq (c_region (lI R (lI R (l_nil (q_next (c_seq (c_region (lI R (lI R (l_nil (q_next (c_seq (c_cut (A := (Int) × (Unit)) (fun a => Z0_J11 data1 m4 a.1 = some r) (fun a => [(0, (sc A2 data1 D2)), (2, (iv m4)), (14, (iv a.1))]) (fun a => OO kT3 3 A2 D2 data1 :: bxl b8 [(.func (.func 100) [].toArray [].toArray)] 134 :: bxl b10 [(sc A11 q9 D11)] 83 :: W0) ?_ ?_))))))))))))))
 refine c_block ?_
 obtain ⟨e3, hl3, hk3⟩ := bd hr
 refine c_loop (A := Unit) hl3 (fun s a => [(0, (sc A2 data1 D2)), (2, (iv m4)), (4, (.func (.func 149) [].toArray [(pt b8 0), (pt b10 0)].toArray)), (14, (iv s.1)), (15, (iv s.2))]) (fun s a => OO kT3 3 A2 D2 data1 :: bxl b8 [(.func (.func 100) [].toArray [].toArray)] 134 :: bxl b10 [(sc A11 q9 D11)] 83 :: W0) () (aS R) (fun w s => s) ?_
 rintro ⟨i62, j63⟩ _ σ1 out3 hr he3
 replace hr : Z0_L3 data1 m4 q9 i62 j63 = some out3 := hr
 unfold Z0_L3 at hr
 refine c_seq (c_seq (c_region (lI R (lI R (lO (vLt R R) (l_nil (q_next ?_)))))))
 rcases bif_ hr with ⟨hb64, hr⟩ | ⟨hb64, hr⟩
 refine c_true R hb64 (c_skip (q_next (c_block (c_seq (c_region (lI R (lI R (lO (vAd R R) (lO (vz (.int .u64 (IntKind.wrap .u64 ((w64 (i62 + j63))))) (v_conv un3 un145 R)) (lO (vz (.int .u64 ((IntKind.wrap .u64 ((w64 (i62 + j63)))) / 2 ^ (1 : Int).toNat)) (v_shr R R (by decide) (by decide))) (lO (vz (iv (w64 (((IntKind.wrap .u64 ((w64 (i62 + j63)))) / 2 ^ (1 : Int).toNat)))) (v_conv un145 un3 R)) (lI R (l_nil (q_next (c_seq ?_)))))))))))))))
 obtain ⟨hg65, hr⟩ := gd hr
 obtain ⟨hg68, hr⟩ := gd hr
 obtain ⟨r69, hx70, hr⟩ := bd hr
 refine c_some 0 sees_ow (show 0 < data1.length by have := hg65; omega) (fun g66 o67 ha => ?_)
 subst ha
 refine cdr 12 [] mixo (fun ht hn => (dR 0 R (vp (.func (.func 149) [].toArray [(pt b8 0), (pt b10 0)].toArray) R) (dR 1 R (vS R) (dR 2 R (vI R) (dR 3 R (vIa sl22 sz3 R R hg65) (dR 4 R (vLi 0 ag3 sees_ow R hg65) (dR 5 R (vS R) (dR 6 R (vI R) (dR 7 R (vIa sl22 sz3 R R hg68) (dR 8 R (vLi 0 ag3 sees_ow R hg68) (d1 9 R (lM (bxl _ _ _ :: RR kT88 A11 D11 q9 :: bxl _ _ _ :: OO kT3 3 (ad g66 o67) D2 data1 :: W0) (fun w s => ((s.d 3 R).e 4 [2, 0, 3, 1])) ?_))))))))))))
 refine l_callvn (fs := []) (cs := [(pt b8 0), (pt b10 0)]) 3 R R cb149 R R (Z0z_ok hx70) R ?_
 rintro _
 refine lN (_ :: _ :: _ :: W0) ?_
 refine l_nil (q_draw (fun w s => (s.e 3 [2, 0, 1])) (dR 10 R (vLt R R) (hS := (fun w s => (s.e 3 [2, 0, 1]))) (dR 11 R (vNo R) (hS := (fun w s => (s.e 3 [2, 0, 1]))) (dD (q_next ?_)))))
 rcases bif_ hr with ⟨hb71, hr⟩ | ⟨hb71, hr⟩
 refine c_true R hb71 (c_region (lI R (lO (vAd R R) (lI R (l_nil (q_blockn ?_))))))
 obtain rfl := so hr
 exact qA () (fun w s => (s.e 3 [2, 0, 1]))
 refine c_false R hb71 (c_region (lI R (lI R (l_nil (q_blockn ?_)))))
 obtain rfl := so hr
 exact qA () (fun w s => (s.e 3 [2, 0, 1]))
 refine c_false R hb64 (c_exit (q_exit ?_))
 obtain rfl := so hr
 obtain rfl := he3 _ R
 have hr := hk3
 refine q_exit (q_block ?_)
 exact qI (i62, ()) hr (fun w s => s)
 rintro ⟨i74, _⟩ σ1 hr
 replace hr : Z0_J11 data1 m4 i74 = some r := hr
 unfold Z0_J11 at hr
 refine c_seq (c_cut (A := ((List Int)) × (Unit)) (fun a => Z0_J12 a.1 = some r) (fun a => []) (fun a => ow kT3 3 (.slice A2 data1.length D2) a.1 :: bxl b8 [(.func (.func 100) [].toArray [].toArray)] 134 :: bxl b10 [(sc A11 q9 D11)] 83 :: W0) ?_ ?_)
 refine c_seq (c_region (lI R (lI R (l_nil (q_next (c_block ?_))))))
 obtain ⟨e4, hl4, hk4⟩ := bd hr
 refine c_loop (A := Unit) hl4 (fun s a => [(0, (sc A2 data1 D2)), (14, (iv i74)), (17, (iv s.2))]) (fun s a => ow kT3 3 (.slice A2 data1.length D2) s.1 :: bxl b8 [(.func (.func 100) [].toArray [].toArray)] 134 :: bxl b10 [(sc A11 q9 D11)] 83 :: W0) () (aS R) (fun w s => s) ?_
 rintro ⟨data82, k83⟩ _ σ1 out4 hr he4
 replace hr : Z0_L4 data1 i74 data82 k83 = some out4 := hr
 unfold Z0_L4 at hr
 refine c_seq (c_seq (c_region (lI R (lI R (lO (vGt R R) (l_nil (q_next ?_)))))))
 rcases bif_ hr with ⟨hb84, hr⟩ | ⟨hb84, hr⟩
 refine c_true R hb84 (c_skip (q_next (c_seq (c_block ?_))))
 obtain ⟨hg85, hr⟩ := gd hr
 obtain ⟨hg88, hr⟩ := gd hr
 refine cQ [(0, (sc A2 data1 D2)), (14, (iv i74)), (17, (iv k83))] (ow kT3 3 (.slice A2 data1.length D2) ((data82.set k83.toNat (ix data82 (w64 (k83 - (1 : Int))))).set (w64 (k83 - (1 : Int))).toNat (ix data82 k83)) :: bxl b8 [(.func (.func 100) [].toArray [].toArray)] 134 :: bxl b10 [(sc A11 q9 D11)] 83 :: W0) ?_ ?_
 refine c_some 0 sees_ow (show 0 < data1.length by have := hg85; omega) (fun g86 o87 ha => ?_)
 subst ha
 refine cdr 18 [0] mixo (fun ht hn => (dR 0 R (vS R) (hS := (sL [0])) (dR 1 R (vI R) (hS := (sL [0])) (dR 2 R (vS R) (hS := (sL [0])) (dR 3 R (vI R) (hS := (sL [0])) (dR 4 R (vSb R R) (hS := (sL [0])) (dR 5 R (vS R) (hS := (sL [0])) (dR 6 R (vI R) (hS := (sL [0])) (dR 7 R (vSb R R) (hS := (sL [0])) (dR 8 R (vIa sl22 sz3 R R hg85) (hS := (sL [0])) (dR 10 R (vS R) (hS := (sL [0])) (dR 11 R (vI R) (hS := (sL [0])) (dR 12 R (vIa sl22 sz3 R R hg88) (hS := (sL [0])) (d_all [9, 13] (by kernel_rfl) R ⟨?_, ?_, trivial⟩))))))))))))))
 refine lO (vLi 0 ag3 sees_ow R hg85) (l_nil (q_draw (sL [0]) (d1 13 R (lO (vLi 0 ag3 sees_ow R hg88) (l_nil (q_draw (sL [0]) (dR 14 R (vIa sl22 sz3 R R hg88) (hS := (sL [0])) (d1 15 R (lN (ow kT3 3 (.slice (ad g86 o87) data1.length D2) data82 :: _ :: _ :: W0) ?_)))))))))
 refine l_stx (K := kT3) (x' := (ix data82 (w64 (k83 - (1 : Int))))) 0 k83 R R sz3 R R hg88.1 hg88.2 ?_ ?_
 exact fun I h s => (mO3).put I h () (ix data82 (w64 (k83 - (1 : Int)))) s
 refine lN (ow kT3 3 (.slice (ad g86 o87) data1.length D2) (data82.set k83.toNat (ix data82 (w64 (k83 - (1 : Int))))) :: _ :: _ :: W0) ?_
 refine l_nil (q_draw (sL [0]) (dR 16 R (vIa sl22 sz3 R R hg85) (hS := (sL [0])) (d1 17 R (l_stx (K := kT3) (x' := (ix data82 k83)) 0 (w64 (k83 - (1 : Int))) R R sz3 R R hg85.1 hg85.2 ?_ ?_))))
 exact fun I h s => (mO3).put I h () (ix data82 k83) s
 refine lN (ow kT3 3 (.slice (ad g86 o87) data1.length D2) ((data82.set k83.toNat (ix data82 (w64 (k83 - (1 : Int))))).set (w64 (k83 - (1 : Int))).toNat (ix data82 k83)) :: _ :: _ :: W0) ?_
 refine l_nil (q_draw (sL [0]) (dD ?_))
 exact qJ (fun w s => s)
 refine lO (vLi 0 ag3 sees_ow R hg88) (l_nil (q_draw (sL [0]) (d1 9 R (lO (vLi 0 ag3 sees_ow R hg85) (l_nil (q_draw (sL [0]) (dR 14 R (vIa sl22 sz3 R R hg88) (hS := (sL [0])) (d1 15 R (lN (ow kT3 3 (.slice (ad g86 o87) data1.length D2) data82 :: _ :: _ :: W0) ?_)))))))))
 refine l_stx (K := kT3) (x' := (ix data82 (w64 (k83 - (1 : Int))))) 0 k83 R R sz3 R R hg88.1 hg88.2 ?_ ?_
 exact fun I h s => (mO3).put I h () (ix data82 (w64 (k83 - (1 : Int)))) s
 refine lN (ow kT3 3 (.slice (ad g86 o87) data1.length D2) (data82.set k83.toNat (ix data82 (w64 (k83 - (1 : Int))))) :: _ :: _ :: W0) ?_
 refine l_nil (q_draw (sL [0]) (dR 16 R (vIa sl22 sz3 R R hg85) (hS := (sL [0])) (d1 17 R (l_stx (K := kT3) (x' := (ix data82 k83)) 0 (w64 (k83 - (1 : Int))) R R sz3 R R hg85.1 hg85.2 ?_ ?_))))
 exact fun I h s => (mO3).put I h () (ix data82 k83) s
 refine lN (ow kT3 3 (.slice (ad g86 o87) data1.length D2) ((data82.set k83.toNat (ix data82 (w64 (k83 - (1 : Int))))).set (w64 (k83 - (1 : Int))).toNat (ix data82 k83)) :: _ :: _ :: W0) ?_
 refine l_nil (q_draw (sL [0]) (dD ?_))
 exact qJ (fun w s => s)
 rintro σ1
 obtain ⟨l89, hl90, hr⟩ := bd hr
 replace hl90 := Option.some.inj hl90
 refine qM (ow kT3 3 (.slice A2 data1.length D2) l89 :: _ :: _ :: W0) (fun w s => by rw [← hl90]; exact s) ?_
 refine q_blockn (q_next (c_region (lI R (lO (vSb R R) (lI R (l_nil ?_))))))
 obtain rfl := so hr
 exact qA () (fun w s => s)
 refine c_false R hb84 (c_exit (q_exit ?_))
 obtain rfl := so hr
 obtain rfl := he4 _ R
 have hr := hk4
 refine q_exit (q_block ?_)
 exact q_join (data82, ()) hr trivial (fun w s => s)
 rintro ⟨p93, _⟩ σ1 hr
 replace hr : Z0_J12 p93 = some r := hr
 unfold Z0_J12 at hr
 refine c_ret (q_ret ?_)
 obtain rfl := so hr
 exact q_fin (vs := []) (.inl R) () R trivial R (fun w s => (s.f 4 [0, 3]))
 refine c_false R hb53 (c_skip (q_next (c_seq (c_region (lI R (lI R (lO (vAd R R) (lO (vz (.int .u64 (IntKind.wrap .u64 ((w64 (a3 + b5))))) (v_conv un3 un145 R)) (lO (vz (.int .u64 ((IntKind.wrap .u64 ((w64 (a3 + b5)))) / 2 ^ (1 : Int).toNat)) (v_shr R R (by decide) (by decide))) (lO (vz (iv (w64 (((IntKind.wrap .u64 ((w64 (a3 + b5)))) / 2 ^ (1 : Int).toNat)))) (v_conv un145 un3 R)) (lI R (l_nil (q_next (c_seq (c_region (lI R (lI R (lO (vAd R R) (lI R (l_nil (q_next (c_seq (c_region (lI R (lI R (l_nil (q_next ?_)))))))))))))))))))))))))))
 refine c_seq (c_cut (A := (Int × Int) × (Unit)) (fun a => Z0_J13 data1 a3 m4 b5 q9 rf a.1.1 a.1.2 = some r) (fun a => [(0, (sc A2 data1 D2)), (1, (iv a3)), (2, (iv m4)), (3, (iv b5)), (4, (.func (.func 149) [].toArray [(pt b8 0), (pt b10 0)].toArray)), (18, (iv (w64 (((IntKind.wrap .u64 ((w64 (a3 + b5)))) / 2 ^ (1 : Int).toNat))))), (19, (iv (w64 ((w64 (((IntKind.wrap .u64 ((w64 (a3 + b5)))) / 2 ^ (1 : Int).toNat))) + m4)))), (20, (iv a.1.1)), (21, (iv a.1.2))]) (fun a => OO kT3 3 A2 D2 data1 :: bxl b8 [(.func (.func 100) [].toArray [].toArray)] 134 :: bxl b10 [(sc A11 q9 D11)] 83 :: W0) ?_ ?_)
 refine c_seq (c_region (lI R (lI R (lO (vGt R R) (l_nil (q_next ?_))))))
 rcases bif_ hr with ⟨hb94, hr⟩ | ⟨hb94, hr⟩
 refine c_true R hb94 (c_seq (c_region (lI R (lI R (lO (vSb R R) (lI R (l_nil (q_next (c_region (lI R (lI R (l_nil ?_))))))))))))
 exact qI (((w64 ((w64 ((w64 (((IntKind.wrap .u64 ((w64 (a3 + b5)))) / 2 ^ (1 : Int).toNat))) + m4)) - b5)), (w64 (((IntKind.wrap .u64 ((w64 (a3 + b5)))) / 2 ^ (1 : Int).toNat)))), ()) hr (fun w s => s)
 refine c_false R hb94 (c_seq (c_region (lI R (lI R (l_nil (q_next (c_region (lI R (lI R (l_nil ?_))))))))))
 exact qI ((a3, m4), ()) hr (fun w s => s)
 rintro ⟨⟨start95, r96⟩, _⟩ σ1 hr
 replace hr : Z0_J13 data1 a3 m4 b5 q9 rf start95 r96 = some r := hr
 unfold Z0_J13 at hr
 refine c_seq (c_region (lI R (lO (vSb R R) (lI R (l_nil (q_next (c_seq (c_cut (A := (Int) × (Unit)) (fun a => Z0_J14 data1 a3 m4 b5 q9 rf a.1 = some r) (fun a => [(0, (sc A2 data1 D2)), (1, (iv a3)), (2, (iv m4)), (3, (iv b5)), (4, (.func (.func 149) [].toArray [(pt b8 0), (pt b10 0)].toArray)), (18, (iv (w64 (((IntKind.wrap .u64 ((w64 (a3 + b5)))) / 2 ^ (1 : Int).toNat))))), (19, (iv (w64 ((w64 (((IntKind.wrap .u64 ((w64 (a3 + b5)))) / 2 ^ (1 : Int).toNat))) + m4)))), (20, (iv a.1))]) (fun a => OO kT3 3 A2 D2 data1 :: bxl b8 [(.func (.func 100) [].toArray [].toArray)] 134 :: bxl b10 [(sc A11 q9 D11)] 83 :: W0) ?_ ?_))))))))
 refine c_block ?_
 obtain ⟨e5, hl5, hk5⟩ := bd hr
 refine c_loop (A := Unit) hl5 (fun s a => [(0, (sc A2 data1 D2)), (1, (iv a3)), (2, (iv m4)), (3, (iv b5)), (4, (.func (.func 149) [].toArray [(pt b8 0), (pt b10 0)].toArray)), (18, (iv (w64 (((IntKind.wrap .u64 ((w64 (a3 + b5)))) / 2 ^ (1 : Int).toNat))))), (19, (iv (w64 ((w64 (((IntKind.wrap .u64 ((w64 (a3 + b5)))) / 2 ^ (1 : Int).toNat))) + m4)))), (20, (iv s.1)), (21, (iv s.2)), (22, (iv (w64 ((w64 ((w64 (((IntKind.wrap .u64 ((w64 (a3 + b5)))) / 2 ^ (1 : Int).toNat))) + m4)) - (1 : Int)))))]) (fun s a => OO kT3 3 A2 D2 data1 :: bxl b8 [(.func (.func 100) [].toArray [].toArray)] 134 :: bxl b10 [(sc A11 q9 D11)] 83 :: W0) () (aS R) (fun w s => s) ?_
 rintro ⟨start105, r106⟩ _ σ1 out5 hr he5
 replace hr : Z0_L5 data1 a3 m4 b5 q9 start105 r106 = some out5 := hr
 unfold Z0_L5 at hr
 refine c_seq (c_seq (c_region (lI R (lI R (lO (vLt R R) (l_nil (q_next ?_)))))))
 rcases bif_ hr with ⟨hb107, hr⟩ | ⟨hb107, hr⟩
 refine c_true R hb107 (c_skip (q_next (c_block (c_seq (c_region (lI R (lI R (lO (vAd R R) (lO (vz (.int .u64 (IntKind.wrap .u64 ((w64 (start105 + r106))))) (v_conv un3 un145 R)) (lO (vz (.int .u64 ((IntKind.wrap .u64 ((w64 (start105 + r106)))) / 2 ^ (1 : Int).toNat)) (v_shr R R (by decide) (by decide))) (lO (vz (iv (w64 (((IntKind.wrap .u64 ((w64 (start105 + r106)))) / 2 ^ (1 : Int).toNat)))) (v_conv un145 un3 R)) (lI R (l_nil (q_next (c_seq ?_)))))))))))))))
 obtain ⟨hg108, hr⟩ := gd hr
 obtain ⟨hg111, hr⟩ := gd hr
 obtain ⟨r112, hx113, hr⟩ := bd hr
 refine c_some 0 sees_ow (show 0 < data1.length by have := hg108; omega) (fun g109 o110 ha => ?_)
 subst ha
 refine cdr 14 [] mixo (fun ht hn => (dR 0 R (vp (.func (.func 149) [].toArray [(pt b8 0), (pt b10 0)].toArray) R) (dR 1 R (vS R) (dR 2 R (vI R) (dR 3 R (vI R) (dR 4 R (vSb R R) (dR 5 R (vIa sl22 sz3 R R hg108) (dR 6 R (vLi 0 ag3 sees_ow R hg108) (dR 7 R (vS R) (dR 8 R (vI R) (dR 9 R (vIa sl22 sz3 R R hg111) (dR 10 R (vLi 0 ag3 sees_ow R hg111) (d1 11 R (lM (bxl _ _ _ :: RR kT88 A11 D11 q9 :: bxl _ _ _ :: OO kT3 3 (ad g109 o110) D2 data1 :: W0) (fun w s => ((s.d 3 R).e 4 [2, 0, 3, 1])) ?_))))))))))))))
 refine l_callvn (fs := []) (cs := [(pt b8 0), (pt b10 0)]) 3 R R cb149 R R (Z0z_ok hx113) R ?_
 rintro _
 refine lN (_ :: _ :: _ :: W0) ?_
 refine l_nil (q_draw (fun w s => (s.e 3 [2, 0, 1])) (dR 12 R (vLt R R) (hS := (fun w s => (s.e 3 [2, 0, 1]))) (dR 13 R (vNo R) (hS := (fun w s => (s.e 3 [2, 0, 1]))) (dD (q_next ?_)))))
 rcases bif_ hr with ⟨hb114, hr⟩ | ⟨hb114, hr⟩
 refine c_true R hb114 (c_region (lI R (lO (vAd R R) (lI R (l_nil (q_blockn ?_))))))
 obtain rfl := so hr
 exact qA () (fun w s => (s.e 3 [2, 0, 1]))
 refine c_false R hb114 (c_region (lI R (lI R (l_nil (q_blockn ?_)))))
 obtain rfl := so hr
 exact qA () (fun w s => (s.e 3 [2, 0, 1]))
 refine c_false R hb107 (c_exit (q_exit ?_))
 obtain rfl := so hr
 obtain rfl := he5 _ R
 have hr := hk5
 refine q_exit (q_block ?_)
 exact qI (start105, ()) hr (fun w s => s)
 rintro ⟨start117, _⟩ σ1 hr
 replace hr : Z0_J14 data1 a3 m4 b5 q9 rf start117 = some r := hr
 unfold Z0_J14 at hr
 refine c_seq (c_region (lI R (lI R (lO (vSb R R) (lI R (l_nil (q_next (c_seq (c_cut (A := ((List Int)) × (Unit)) (fun a => Z0_J15 a3 m4 b5 q9 rf start117 a.1 = some r) (fun a => [(0, (sc A2 data1 D2)), (1, (iv a3)), (3, (iv b5)), (4, (.func (.func 149) [].toArray [(pt b8 0), (pt b10 0)].toArray)), (18, (iv (w64 (((IntKind.wrap .u64 ((w64 (a3 + b5)))) / 2 ^ (1 : Int).toNat))))), (20, (iv start117)), (24, (iv (w64 ((w64 ((w64 (((IntKind.wrap .u64 ((w64 (a3 + b5)))) / 2 ^ (1 : Int).toNat))) + m4)) - start117))))]) (fun a => ow kT3 3 (.slice A2 data1.length D2) a.1 :: bxl b8 [(.func (.func 100) [].toArray [].toArray)] 134 :: bxl b10 [(sc A11 q9 D11)] 83 :: W0) ?_ ?_)))))))))
 refine c_seq (cQ [(0, (sc A2 data1 D2)), (1, (iv a3)), (2, (iv m4)), (3, (iv b5)), (4, (.func (.func 149) [].toArray [(pt b8 0), (pt b10 0)].toArray)), (18, (iv (w64 (((IntKind.wrap .u64 ((w64 (a3 + b5)))) / 2 ^ (1 : Int).toNat))))), (20, (iv start117)), (24, (iv (w64 ((w64 ((w64 (((IntKind.wrap .u64 ((w64 (a3 + b5)))) / 2 ^ (1 : Int).toNat))) + m4)) - start117)))), (185, (.bool ((decide (start117 < m4)) && (decide (m4 < (w64 ((w64 ((w64 (((IntKind.wrap .u64 ((w64 (a3 + b5)))) / 2 ^ (1 : Int).toNat))) + m4)) - start117)))))))] (OO kT3 3 A2 D2 data1 :: bxl b8 [(.func (.func 100) [].toArray [].toArray)] 134 :: bxl b10 [(sc A11 q9 D11)] 83 :: W0) ?_ ?_)
 refine c_region (lI R (lI R (lO (vLt R R) (lB R ?_))))
 rcases bo (decide (start117 < m4)) with hc118 | hc118
 refine lW (wnT hc118) (vI R) (lW (wnT hc118) (vI R) (lW (wnT hc118) (vLt R R) (lO (pAT R hc118 R) (l_nil ?_))))
 exact qJ (fun w s => s)
 refine lf (wfF hc118) (lf (wfF hc118) (lf (wfF hc118) (lO (pAF (decide (m4 < (w64 ((w64 ((w64 (((IntKind.wrap .u64 ((w64 (a3 + b5)))) / 2 ^ (1 : Int).toNat))) + m4)) - start117)))) R hc118) (l_nil ?_))))
 exact qJ (fun w s => s)
 rintro σ1
 refine q_next ?_
 rcases bif_ hr with ⟨hb119, hr⟩ | ⟨hb119, hr⟩
 refine c_true R hb119 ?_
 obtain ⟨r120, hx121, hr⟩ := bd hr
 refine c_region (lS R (lI R (lI R (lI R (lO (vp (.func (.func 149) [].toArray [(pt b8 0), (pt b10 0)].toArray) R) (lM (OO kT3 3 A2 D2 data1 :: bxl _ _ _ :: RR kT88 A11 D11 q9 :: bxl _ _ _ :: W0) (fun w s => ((s.d 3 R).e 4 [1, 2, 0, 3])) ?_))))))
 refine lC 4 cb180 R (Z0y_ok hx121) R ?_
 rintro _
 refine lN (ow kT3 3 (.slice A2 data1.length D2) r120 :: _ :: _ :: W0) ?_
 refine l_nil ?_
 exact qI (r120, ()) hr (fun w s => s)
 refine c_false R hb119 (c_skip ?_)
 exact qI (data1, ()) hr (fun w s => s)
 rintro ⟨data122, _⟩ σ1 hr
 replace hr : Z0_J15 a3 m4 b5 q9 rf start117 data122 = some r := hr
 unfold Z0_J15 at hr
 refine c_seq (c_cut (A := ((List Int)) × (Unit)) (fun a => Z0_J16 a3 m4 b5 q9 rf start117 a.1 = some r) (fun a => [(0, (sc A2 data1 D2)), (3, (iv b5)), (4, (.func (.func 149) [].toArray [(pt b8 0), (pt b10 0)].toArray)), (18, (iv (w64 (((IntKind.wrap .u64 ((w64 (a3 + b5)))) / 2 ^ (1 : Int).toNat))))), (24, (iv (w64 ((w64 ((w64 (((IntKind.wrap .u64 ((w64 (a3 + b5)))) / 2 ^ (1 : Int).toNat))) + m4)) - start117))))]) (fun a => ow kT3 3 (.slice A2 data1.length D2) a.1 :: bxl b8 [(.func (.func 100) [].toArray [].toArray)] 134 :: bxl b10 [(sc A11 q9 D11)] 83 :: W0) ?_ ?_)
 refine c_seq (cQ [(0, (sc A2 data1 D2)), (1, (iv a3)), (3, (iv b5)), (4, (.func (.func 149) [].toArray [(pt b8 0), (pt b10 0)].toArray)), (18, (iv (w64 (((IntKind.wrap .u64 ((w64 (a3 + b5)))) / 2 ^ (1 : Int).toNat))))), (20, (iv start117)), (24, (iv (w64 ((w64 ((w64 (((IntKind.wrap .u64 ((w64 (a3 + b5)))) / 2 ^ (1 : Int).toNat))) + m4)) - start117)))), (199, (.bool ((decide (a3 < start117)) && (decide (start117 < (w64 (((IntKind.wrap .u64 ((w64 (a3 + b5)))) / 2 ^ (1 : Int).toNat))))))))] (ow kT3 3 (.slice A2 data1.length D2) data122 :: bxl b8 [(.func (.func 100) [].toArray [].toArray)] 134 :: bxl b10 [(sc A11 q9 D11)] 83 :: W0) ?_ ?_)
 refine c_region (lI R (lI R (lO (vLt R R) (lB R ?_))))
 rcases bo (decide (a3 < start117)) with hc123 | hc123
 refine lW (wnT hc123) (vI R) (lW (wnT hc123) (vI R) (lW (wnT hc123) (vLt R R) (lO (pAT R hc123 R) (l_nil ?_))))
 exact qJ (fun w s => s)
 refine lf (wfF hc123) (lf (wfF hc123) (lf (wfF hc123) (lO (pAF (decide (start117 < (w64 (((IntKind.wrap .u64 ((w64 (a3 + b5)))) / 2 ^ (1 : Int).toNat))))) R hc123) (l_nil ?_))))
 exact qJ (fun w s => s)
 rintro σ1
 refine q_next ?_
 rcases bif_ hr with ⟨hb124, hr⟩ | ⟨hb124, hr⟩
 refine c_true R hb124 ?_
 obtain ⟨r125, hx126, hr⟩ := bd hr
 refine c_region (lS R (lI R (lI R (lI R (lO (vp (.func (.func 149) [].toArray [(pt b8 0), (pt b10 0)].toArray) R) (lM (ow kT3 3 (.slice A2 data1.length D2) data122 :: bxl _ _ _ :: RR kT88 A11 D11 q9 :: bxl _ _ _ :: W0) (fun w s => ((s.d 3 R).e 4 [1, 2, 0, 3])) ?_))))))
 refine lC 4 cb178 R (hrf hx126) R ?_
 rintro _
 refine lN (ow kT3 3 (.slice A2 data1.length D2) r125 :: _ :: _ :: W0) ?_
 refine l_nil ?_
 exact qI (r125, ()) hr (fun w s => s)
 refine c_false R hb124 (c_skip ?_)
 exact qI (data122, ()) hr (fun w s => s)
 rintro ⟨data127, _⟩ σ1 hr
 replace hr : Z0_J16 a3 m4 b5 q9 rf start117 data127 = some r := hr
 unfold Z0_J16 at hr
 refine c_seq (cQ [(0, (sc A2 data1 D2)), (3, (iv b5)), (4, (.func (.func 149) [].toArray [(pt b8 0), (pt b10 0)].toArray)), (18, (iv (w64 (((IntKind.wrap .u64 ((w64 (a3 + b5)))) / 2 ^ (1 : Int).toNat))))), (24, (iv (w64 ((w64 ((w64 (((IntKind.wrap .u64 ((w64 (a3 + b5)))) / 2 ^ (1 : Int).toNat))) + m4)) - start117)))), (213, (.bool ((decide ((w64 (((IntKind.wrap .u64 ((w64 (a3 + b5)))) / 2 ^ (1 : Int).toNat))) < (w64 ((w64 ((w64 (((IntKind.wrap .u64 ((w64 (a3 + b5)))) / 2 ^ (1 : Int).toNat))) + m4)) - start117)))) && (decide ((w64 ((w64 ((w64 (((IntKind.wrap .u64 ((w64 (a3 + b5)))) / 2 ^ (1 : Int).toNat))) + m4)) - start117)) < b5)))))] (ow kT3 3 (.slice A2 data1.length D2) data127 :: bxl b8 [(.func (.func 100) [].toArray [].toArray)] 134 :: bxl b10 [(sc A11 q9 D11)] 83 :: W0) ?_ ?_)
 refine c_region (lI R (lI R (lO (vLt R R) (lB R ?_))))
 rcases bo (decide ((w64 (((IntKind.wrap .u64 ((w64 (a3 + b5)))) / 2 ^ (1 : Int).toNat))) < (w64 ((w64 ((w64 (((IntKind.wrap .u64 ((w64 (a3 + b5)))) / 2 ^ (1 : Int).toNat))) + m4)) - start117)))) with hc128 | hc128
 refine lW (wnT hc128) (vI R) (lW (wnT hc128) (vI R) (lW (wnT hc128) (vLt R R) (lO (pAT R hc128 R) (l_nil ?_))))
 exact qJ (fun w s => s)
 refine lf (wfF hc128) (lf (wfF hc128) (lf (wfF hc128) (lO (pAF (decide ((w64 ((w64 ((w64 (((IntKind.wrap .u64 ((w64 (a3 + b5)))) / 2 ^ (1 : Int).toNat))) + m4)) - start117)) < b5)) R hc128) (l_nil ?_))))
 exact qJ (fun w s => s)
 rintro σ1
 refine q_next ?_
 rcases bif_ hr with ⟨hb129, hr⟩ | ⟨hb129, hr⟩
 refine c_true R hb129 ?_
 obtain ⟨r130, hx131, hr⟩ := bd hr
 refine c_region (lS R (lI R (lI R (lI R (lO (vp (.func (.func 149) [].toArray [(pt b8 0), (pt b10 0)].toArray) R) (lM (ow kT3 3 (.slice A2 data1.length D2) data127 :: bxl _ _ _ :: RR kT88 A11 D11 q9 :: bxl _ _ _ :: W0) (fun w s => ((s.d 3 R).e 4 [1, 2, 0, 3])) ?_))))))
 refine lC 4 cb178 R (hrf hx131) R ?_
 rintro _
 refine lN (ow kT3 3 (.slice A2 data1.length D2) r130 :: _ :: _ :: W0) ?_
 refine l_nil ?_
 obtain rfl := so hr
 exact q_fin (vs := []) (.inr R) () R trivial R (fun w s => (s.f 4 [0, 3]))
 refine c_false R hb129 (c_skip ?_)
 obtain rfl := so hr
 exact q_fin (vs := []) (.inr R) () R trivial R (fun w s => (s.f 4 [0, 3]))
theorem Z0_R_ok (n : Nat) : ∀ {data1 : (List Int)} {a3 : Int} {m4 : Int} {b5 : Int} {q9 : (List Life)} {b8 : Nat} {b10 : Nat} {A2 A11 : Option Addr} {N2 D2 N11 D11 : Nat} {r : (List Int)}, Z0_R n data1 a3 m4 b5 q9 = some r → FnOk Tryz.prog 178 [(.slice A2 N2 D2), (iv a3), (iv m4), (iv b5), (.func (.func 149) [].toArray [(pt b8 0), (pt b10 0)].toArray)] [ow kT3 3 (.slice A2 N2 D2) data1, bxl b8 [(.func (.func 100) [].toArray [].toArray)] 134, rds kT88 (.slice A11 N11 D11) q9, bxl b10 [(.slice A11 N11 D11)] 83] (fun (h : Unit) => ((.tuple [].toArray), [ow kT3 3 (.slice A2 N2 D2) r, bxl b8 [(.func (.func 100) [].toArray [].toArray)] 134, bxl b10 [(.slice A11 N11 D11)] 83])) := by
 induction n with
 | zero => intros; rename_i h; cases h
 | succ n ih => intros; rename_i h; exact Z0_S_ok ih h
theorem Z0_ok {data1 : (List Int)} {a3 : Int} {m4 : Int} {b5 : Int} {q9 : (List Life)} {b8 : Nat} {b10 : Nat} {A2 A11 : Option Addr} {N2 D2 N11 D11 : Nat} {r : (List Int)} (hr : Z0 data1 a3 m4 b5 q9 = some r) : FnOk Tryz.prog 178 [(.slice A2 N2 D2), (iv a3), (iv m4), (iv b5), (.func (.func 149) [].toArray [(pt b8 0), (pt b10 0)].toArray)] [ow kT3 3 (.slice A2 N2 D2) data1, bxl b8 [(.func (.func 100) [].toArray [].toArray)] 134, rds kT88 (.slice A11 N11 D11) q9, bxl b10 [(.slice A11 N11 D11)] 83] (fun (h : Unit) => ((.tuple [].toArray), [ow kT3 3 (.slice A2 N2 D2) r, bxl b8 [(.func (.func 100) [].toArray [].toArray)] 134, bxl b10 [(.slice A11 N11 D11)] 83])) := Z0_R_ok recFuel hr
theorem Za_ok  {data1 : (List Int)} {n3 : Int} {q7 : (List Life)} {b6 : Nat} {b8 : Nat} {r : (List Int)} (hr : Za data1 n3 q7 = some r) :
 FnOk Tryz.prog 171 [(.slice A2 N2 D2), (iv n3), (.func (.func 149) [].toArray [(pt b6 0), (pt b8 0)].toArray)] [ow kT3 3 (.slice A2 N2 D2) data1, bxl b6 [(.func (.func 100) [].toArray [].toArray)] 134, rds kT88 (.slice A9 N9 D9) q7, bxl b8 [(.slice A9 N9 D9)] 83] (fun (h : Unit) => ((.tuple [].toArray), [ow kT3 3 (.slice A2 N2 D2) r, bxl b6 [(.func (.func 100) [].toArray [].toArray)] 134, bxl b8 [(.slice A9 N9 D9)] 83])) := by
 unfold Za at hr
 refine fn_ok Tryz.func171 R 63 R R fun C V => ?_
 refine cM (ow _ _ _ _ :: bxl _ _ _ :: bxl _ _ _ :: rds _ _ _ :: V) (fun w s => (s.e 4 [0, 1, 3, 2])) ?_
 refine cL 0 sees_ow ?_
 rintro rfl
 refine cL 3 sees_rd ?_
 rintro rfl
 let W0 : List HP := RR kT88 A9 D9 q7 :: V
 refine cN (_ :: _ :: bxl b8 [(sc A9 q7 D9)] 83 :: W0) ?_
 refine c_seq (c_region (lI R (l_nil (q_next (c_seq (c_region (lI R (lI R (lI R (l_nil (q_next (c_seq (c_cut (A := ((List Int) × Int) × (Unit)) (fun a => Za_J1 n3 q7 a.1.1 a.1.2 = some r) (fun a => [(0, (sc A2 data1 D2)), (1, (iv n3)), (2, (.func (.func 149) [].toArray [(pt b6 0), (pt b8 0)].toArray)), (6, (iv 20)), (7, (iv a.1.2))]) (fun a => ow kT3 3 (.slice A2 data1.length D2) a.1.1 :: bxl b6 [(.func (.func 100) [].toArray [].toArray)] 134 :: bxl b8 [(sc A9 q7 D9)] 83 :: W0) ?_ ?_)))))))))))))
 refine c_block ?_
 obtain ⟨e1, hl1, hk1⟩ := bd hr
 refine c_loop (A := Unit) hl1 (fun s a => [(0, (sc A2 data1 D2)), (1, (iv n3)), (2, (.func (.func 149) [].toArray [(pt b6 0), (pt b8 0)].toArray)), (6, (iv 20)), (7, (iv s.2.1)), (8, (iv s.2.2))]) (fun s a => ow kT3 3 (.slice A2 data1.length D2) s.1 :: bxl b6 [(.func (.func 100) [].toArray [].toArray)] 134 :: bxl b8 [(sc A9 q7 D9)] 83 :: W0) () (aS R) (fun w s => s) ?_
 rintro ⟨data13, a14, b15⟩ _ σ1 out1 hr he1
 replace hr : Za_L1 n3 q7 data13 a14 b15 = some out1 := hr
 unfold Za_L1 at hr
 refine c_seq (c_seq (c_region (lI R (lI R (lO (vLe R R) (l_nil (q_next ?_)))))))
 rcases bif_ hr with ⟨hb16, hr⟩ | ⟨hb16, hr⟩
 refine c_true R hb16 (c_skip (q_next (c_block (c_seq ?_))))
 obtain ⟨r17, hx18, hr⟩ := bd hr
 refine c_region (lS R (lI R (lI R (lO (vp (.func (.func 149) [].toArray [(pt b6 0), (pt b8 0)].toArray) R) (lM (ow kT3 3 (.slice A2 data1.length D2) data13 :: bxl _ _ _ :: RR kT88 A9 D9 q7 :: bxl _ _ _ :: W0) (fun w s => ((s.d 3 R).e 4 [1, 2, 0, 3])) ?_)))))
 refine lC 4 cb177 R (Z0i_ok hx18) R ?_
 rintro _
 refine lN (ow kT3 3 (.slice A2 data1.length D2) r17 :: _ :: _ :: W0) ?_
 refine l_nil (q_next (c_seq (c_region (lI R (lI R (l_nil (q_next (c_region (lI R (lI R (lO (vAd R R) (lI R (l_nil (q_blockn ?_))))))))))))))
 obtain rfl := so hr
 exact qA () (fun w s => s)
 refine c_false R hb16 (c_exit (q_exit ?_))
 obtain rfl := so hr
 obtain rfl := he1 _ R
 have hr := hk1
 refine q_exit (q_block ?_)
 exact qI ((data13, a14), ()) hr (fun w s => s)
 rintro ⟨⟨data22, a23⟩, _⟩ σ1 hr
 replace hr : Za_J1 n3 q7 data22 a23 = some r := hr
 unfold Za_J1 at hr
 refine c_seq ?_
 obtain ⟨r24, hx25, hr⟩ := bd hr
 refine c_region (lS R (lI R (lI R (lO (vp (.func (.func 149) [].toArray [(pt b6 0), (pt b8 0)].toArray) R) (lM (ow kT3 3 (.slice A2 data1.length D2) data22 :: bxl _ _ _ :: RR kT88 A9 D9 q7 :: bxl _ _ _ :: W0) (fun w s => ((s.d 3 R).e 4 [1, 2, 0, 3])) ?_)))))
 refine lC 4 cb177 R (Z0i_ok hx25) R ?_
 rintro _
 refine lN (ow kT3 3 (.slice A2 data1.length D2) r24 :: _ :: _ :: W0) ?_
 refine l_nil (q_next (c_block ?_))
 obtain ⟨e2, hl2, hk2⟩ := bd hr
 refine c_loop (A := Unit) hl2 (fun s a => [(0, (sc A2 data1 D2)), (1, (iv n3)), (2, (.func (.func 149) [].toArray [(pt b6 0), (pt b8 0)].toArray)), (6, (iv s.2))]) (fun s a => ow kT3 3 (.slice A2 data1.length D2) s.1 :: bxl b6 [(.func (.func 100) [].toArray [].toArray)] 134 :: bxl b8 [(sc A9 q7 D9)] 83 :: W0) () (aS R) (fun w s => s) ?_
 rintro ⟨data45, blockSize46⟩ _ σ1 out2 hr he2
 replace hr : Za_L2 n3 q7 data45 blockSize46 = some out2 := hr
 unfold Za_L2 at hr
 refine c_seq (c_seq (c_region (lI R (lI R (lO (vLt R R) (l_nil (q_next ?_)))))))
 rcases bif_ hr with ⟨hb47, hr⟩ | ⟨hb47, hr⟩
 refine c_true R hb47 (c_skip (q_next (c_block (c_seq (c_region (lI R (lO (vMu R R) (lI R (lI R (l_nil (q_next (c_seq (c_cut (A := ((List Int) × Int) × (Unit)) (fun a => Za_J4 n3 q7 blockSize46 a.1.1 a.1.2 = some out2) (fun a => [(0, (sc A2 data1 D2)), (1, (iv n3)), (2, (.func (.func 149) [].toArray [(pt b6 0), (pt b8 0)].toArray)), (6, (iv blockSize46)), (7, (iv a.1.2))]) (fun a => ow kT3 3 (.slice A2 data1.length D2) a.1.1 :: bxl b6 [(.func (.func 100) [].toArray [].toArray)] 134 :: bxl b8 [(sc A9 q7 D9)] 83 :: W0) ?_ ?_)))))))))))))
 refine c_block ?_
 obtain ⟨e3, hl3, hk3⟩ := bd hr
 refine c_loop (A := Unit) hl3 (fun s a => [(0, (sc A2 data1 D2)), (1, (iv n3)), (2, (.func (.func 149) [].toArray [(pt b6 0), (pt b8 0)].toArray)), (6, (iv blockSize46)), (7, (iv s.2.1)), (8, (iv s.2.2))]) (fun s a => ow kT3 3 (.slice A2 data1.length D2) s.1 :: bxl b6 [(.func (.func 100) [].toArray [].toArray)] 134 :: bxl b8 [(sc A9 q7 D9)] 83 :: W0) () (aS R) (fun w s => s) ?_
 rintro ⟨data51, a52, b53⟩ _ σ1 out3 hr he3
 replace hr : Za_L3 n3 q7 blockSize46 data51 a52 b53 = some out3 := hr
 unfold Za_L3 at hr
 refine c_seq (c_seq (c_region (lI R (lI R (lO (vLe R R) (l_nil (q_next ?_)))))))
 rcases bif_ hr with ⟨hb54, hr⟩ | ⟨hb54, hr⟩
 refine c_true R hb54 (c_skip (q_next (c_block (c_seq ?_))))
 obtain ⟨r55, hx56, hr⟩ := bd hr
 refine c_region (lS R (lI R (lI R (lI R (lO (vAd R R) (lI R (lO (vp (.func (.func 149) [].toArray [(pt b6 0), (pt b8 0)].toArray) R) (lM (ow kT3 3 (.slice A2 data1.length D2) data51 :: bxl _ _ _ :: RR kT88 A9 D9 q7 :: bxl _ _ _ :: W0) (fun w s => ((s.d 3 R).e 4 [1, 2, 0, 3])) ?_))))))))
 refine lC 4 cb178 R (Z0_ok hx56) R ?_
 rintro _
 refine lN (ow kT3 3 (.slice A2 data1.length D2) r55 :: _ :: _ :: W0) ?_
 refine l_nil (q_next (c_seq (c_region (lI R (lI R (l_nil (q_next (c_region (lI R (lI R (lO (vMu R R) (lO (vAd R R) (lI R (l_nil (q_blockn ?_)))))))))))))))
 obtain rfl := so hr
 exact qA () (fun w s => s)
 refine c_false R hb54 (c_exit (q_exit ?_))
 obtain rfl := so hr
 obtain rfl := he3 _ R
 have hr := hk3
 refine q_exit (q_block ?_)
 exact qI ((data51, a52), ()) hr (fun w s => s)
 rintro ⟨⟨data60, a61⟩, _⟩ σ1 hr
 replace hr : Za_J4 n3 q7 blockSize46 data60 a61 = some out2 := hr
 unfold Za_J4 at hr
 refine c_seq (c_cut (A := ((List Int)) × (Unit)) (fun a => Za_J5 blockSize46 a.1 = some out2) (fun a => [(0, (sc A2 data1 D2)), (1, (iv n3)), (2, (.func (.func 149) [].toArray [(pt b6 0), (pt b8 0)].toArray)), (6, (iv blockSize46))]) (fun a => ow kT3 3 (.slice A2 data1.length D2) a.1 :: bxl b6 [(.func (.func 100) [].toArray [].toArray)] 134 :: bxl b8 [(sc A9 q7 D9)] 83 :: W0) ?_ ?_)
 refine c_seq (c_region (lI R (lI R (lO (vAd R R) (lI R (l_nil (q_next (c_seq (c_region (lI R (lI R (lO (vLt R R) (l_nil (q_next ?_))))))))))))))
 rcases bif_ hr with ⟨hb62, hr⟩ | ⟨hb62, hr⟩
 refine c_true R hb62 ?_
 obtain ⟨r63, hx64, hr⟩ := bd hr
 refine c_region (lS R (lI R (lI R (lI R (lO (vp (.func (.func 149) [].toArray [(pt b6 0), (pt b8 0)].toArray) R) (lM (ow kT3 3 (.slice A2 data1.length D2) data60 :: bxl _ _ _ :: RR kT88 A9 D9 q7 :: bxl _ _ _ :: W0) (fun w s => ((s.d 3 R).e 4 [1, 2, 0, 3])) ?_))))))
 refine lC 4 cb178 R (Z0_ok hx64) R ?_
 rintro _
 refine lN (ow kT3 3 (.slice A2 data1.length D2) r63 :: _ :: _ :: W0) ?_
 refine l_nil ?_
 exact qI (r63, ()) hr (fun w s => s)
 refine c_false R hb62 (c_skip ?_)
 exact qI (data60, ()) hr (fun w s => s)
 rintro ⟨data65, _⟩ σ1 hr
 replace hr : Za_J5 blockSize46 data65 = some out2 := hr
 unfold Za_J5 at hr
 refine c_region (lI R (lO (vMu R R) (lI R (l_nil (q_blockn ?_)))))
 obtain rfl := so hr
 exact qA () (fun w s => s)
 refine c_false R hb47 (c_exit (q_exit ?_))
 obtain rfl := so hr
 obtain rfl := he2 _ R
 have hr := hk2
 refine q_exit (q_block ?_)
 obtain rfl := so hr
 exact q_fin (vs := []) (.inr R) () R trivial R (fun w s => (s.f 4 [0, 3]))
theorem Z1w_ok  {p1 : (List Int)} {q6 : (List Life)} {b5 : Nat} {b7 : Nat} {r : (List Int)} (hr : Z1w p1 q6 = some r) :
 FnOk Tryz.prog 148 [(.slice A2 N2 D2), (.func (.func 149) [].toArray [(pt b5 0), (pt b7 0)].toArray)] [ow kT3 3 (.slice A2 N2 D2) p1, bxl b5 [(.func (.func 100) [].toArray [].toArray)] 134, rds kT88 (.slice A8 N8 D8) q6, bxl b7 [(.slice A8 N8 D8)] 83] (fun (h : Unit) => ((.tuple [].toArray), [ow kT3 3 (.slice A2 N2 D2) r, bxl b5 [(.func (.func 100) [].toArray [].toArray)] 134, bxl b7 [(.slice A8 N8 D8)] 83])) := by
 unfold Z1w at hr
 refine fn_ok Tryz.func148 R 9 R R fun C V => ?_
 refine cM (ow _ _ _ _ :: bxl _ _ _ :: bxl _ _ _ :: rds _ _ _ :: V) (fun w s => (s.e 4 [0, 1, 3, 2])) ?_
 refine cL 0 sees_ow ?_
 rintro rfl
 refine cL 3 sees_rd ?_
 rintro rfl
 let W0 : List HP := RR kT88 A8 D8 q6 :: V
 refine cN (_ :: _ :: bxl b7 [(sc A8 q6 D8)] 83 :: W0) ?_
 obtain ⟨r9, hx10, hr⟩ := bd hr
 refine c_region (lS R (lS R (lO (v_len sl22 R) (lO (vp (.func (.func 149) [].toArray [(pt b5 0), (pt b7 0)].toArray) R) (lM (ow _ _ _ _ :: bxl _ _ _ :: RR kT88 A8 D8 q6 :: bxl _ _ _ :: W0) (fun w s => ((s.d 3 R).e 4 [1, 2, 0, 3])) ?_)))))
 refine lC 4 cb171 R (Za_ok hx10) R ?_
 rintro _
 refine lN (ow kT3 3 (.slice A2 p1.length D2) r9 :: _ :: _ :: W0) ?_
 refine l_nil ?_
 let W1 : List HP := bxl b5 [(.func (.func 100) [].toArray [].toArray)] 134 :: bxl b7 [(sc A8 q6 D8)] 83 :: W0
 refine qN (_ :: W1) ?_
 obtain rfl := so hr
 exact q_fin (vs := []) (.inr R) () R trivial R (fun w s => (s.f 4 [0, 3]))
theorem Zz_ok  {list1 : (List Life)} {r : (List Int)} (hr : Zz list1 = some r) :
 FnOk Tryz.prog 99 [(.slice A2 N2 D2), (.func (.func 100) [].toArray [].toArray)] [rds kT88 (.slice A2 N2 D2) list1] (fun (h : HH) => ((.slice h.1 h.2.1 h.2.2), [ow kT3 3 (.slice h.1 h.2.1 h.2.2) r])) := by
 unfold Zz at hr
 refine fn_ok Tryz.func99 R 24 R R fun C V => ?_
 refine cN (_ :: V) ?_
 refine cL 0 sees_rd ?_
 rintro rfl
 let W0 : List HP := RR kT88 A2 D2 list1 :: V
 refine cN W0 ?_
 refine c_seq (c_region (l_box (cs := [(sc A2 list1 D2)]) R R R (fun b4 => (l_box (cs := [(.func (.func 100) [].toArray [].toArray)]) R R R (fun b5 => (lS R (l_nil (q_next (c_seq ?_)))))))))
 obtain ⟨hg6, hr⟩ := gd hr
 refine c_region (lO (vLd 1 ag83 R R R) (lO (v_len sl83 R) (l_make (K := kT3) (m := (list1.length : Int)) (z := (0 : Int)) R R sl22 sz3 by3 (Zr.zk zT3 zc3) (by decide) R R hg6.1 hg6.2.1 hg6.2.2 (fun A7 D7 => (lS R (l_nil (q_next (c_seq (c_cut (A := ((List Int)) × (Unit)) (fun a => Zz_J1 list1 a.1 = some r) (fun a => [(2, (pt b4 0)), (3, (pt b5 0)), (5, (sc A7 (List.replicate (list1.length : Int).toNat (0 : Int)) D7))]) (fun a => bxl b4 [(sc A2 list1 D2)] 83 :: bxl b5 [(.func (.func 100) [].toArray [].toArray)] 134 :: ow kT3 3 (.slice A7 (List.replicate (list1.length : Int).toNat (0 : Int)).length D7) a.1 :: W0) ?_ ?_)))))))))
 refine c_seq (c_region (lS R (lO (v_len sl22 R) (lI R (l_nil (q_next (c_block ?_)))))))
 obtain ⟨e1, hl1, hk1⟩ := bd hr
 refine c_loop (A := Unit) hl1 (fun s a => [(2, (pt b4 0)), (3, (pt b5 0)), (5, (sc A7 (List.replicate (list1.length : Int).toNat (0 : Int)) D7)), (11, (il (List.replicate (list1.length : Int).toNat (0 : Int)))), (12, (iv s.2))]) (fun s a => bxl b4 [(sc A2 list1 D2)] 83 :: bxl b5 [(.func (.func 100) [].toArray [].toArray)] 134 :: ow kT3 3 (.slice A7 (List.replicate (list1.length : Int).toNat (0 : Int)).length D7) s.1 :: W0) () (aS R) (fun w s => (s.e 3 [2, 1, 0])) ?_
 rintro ⟨x14, x15⟩ _ σ1 out1 hr he1
 replace hr : Zz_L1 list1 x14 x15 = some out1 := hr
 unfold Zz_L1 at hr
 refine c_seq (c_region (lO (vLt R R) (l_nil (q_next (c_seq ?_)))))
 rcases bif_ hr with ⟨hb16, hr⟩ | ⟨hb16, hr⟩
 refine c_true R hb16 (c_skip (q_next (c_seq (c_block (c_seq (c_region (lI R (lI R (l_nil (q_next ?_))))))))))
 obtain ⟨hg17, hr⟩ := gd hr
 refine c_region (lS R (lI R (lI R (t_some 2 sees_ow (show 0 < (List.replicate (list1.length : Int).toNat (0 : Int)).length by have := hg17; omega) (fun g18 o19 ha => ?_)))))
 subst ha
 refine lO (vIa sl22 sz3 R R hg17) (lM (ow kT3 3 (.slice (ad g18 o19) (List.replicate (list1.length : Int).toNat (0 : Int)).length D7) x14 :: bxl _ _ _ :: bxl _ _ _ :: W0) (fun w s => (s.e 3 [2, 0, 1])) ?_)
 refine l_stx (K := kT3) (x' := x15) 0 x15 R R sz3 R R hg17.1 hg17.2 ?_ ?_
 exact fun I h s => (mO3).put I h () x15 s
 refine lN (ow kT3 3 (.slice (ad g18 o19) (List.replicate (list1.length : Int).toNat (0 : Int)).length D7) (x14.set x15.toNat x15) :: _ :: _ :: W0) ?_
 refine l_nil (q_blockn (q_next (c_region (lO (vAd R R) (lI R (l_nil ?_))))))
 obtain rfl := so hr
 exact qA () (fun w s => (s.e 3 [1, 2, 0]))
 refine c_false R hb16 (c_exit (q_exit ?_))
 obtain rfl := so hr
 obtain rfl := he1 _ R
 have hr := hk1
 refine q_exit (q_block ?_)
 exact qI (x14, ()) hr (fun w s => s)
 rintro ⟨x22, _⟩ σ1 hr
 replace hr : Zz_J1 list1 x22 = some r := hr
 unfold Zz_J1 at hr
 refine c_seq ?_
 obtain ⟨r23, hx24, hr⟩ := bd hr
 refine c_region (lS R (lO (vp (.func (.func 149) [].toArray [(pt b5 0), (pt b4 0)].toArray) R) (lM (ow kT3 3 (.slice A7 (List.replicate (list1.length : Int).toNat (0 : Int)).length D7) x22 :: bxl _ _ _ :: RR kT88 A2 D2 list1 :: bxl _ _ _ :: W0) (fun w s => ((s.d 3 R).e 4 [3, 2, 0, 1])) ?_)))
 refine lC 4 cb148 R (Z1w_ok hx24) R ?_
 rintro _
 refine lN (ow kT3 3 (.slice A7 (List.replicate (list1.length : Int).toNat (0 : Int)).length D7) r23 :: _ :: _ :: W0) ?_
 refine l_nil (q_next (c_seq (c_region (lS R (lS R (l_nil (q_next (c_ret ?_))))))))
 obtain rfl := so hr
 exact qF (A7, (List.replicate (list1.length : Int).toNat (0 : Int)).length, D7) (fun w s => (s.e 4 [0]))
theorem Z24_ok  {a1 : Life} {b2 : Life} {r : Bool} (hr : Z24 a1 b2 = some r) :
 FnOk Tryz.prog 103 [(.agg [(iv a1.Buffer), (iv a1.Size), (iv a1.From), (iv a1.To)].toArray), (.agg [(iv b2.Buffer), (iv b2.Size), (iv b2.From), (iv b2.To)].toArray)] [] (fun (h : Unit) => ((.bool r), [])) := by
 unfold Z24 at hr
 refine fn_ok Tryz.func103 R 17 R R fun C V => ?_
 refine cN V ?_
 refine c_seq (c_region (lBx R (fun b3 => (lBx R (fun b4 => (lB R (l_nil ?_)))))))
 let W1 : List HP := bxl b4 [(iv b2.Buffer), (iv b2.Size), (iv b2.From), (iv b2.To)] 88 :: bxl b3 [(iv a1.Buffer), (iv a1.Size), (iv a1.From), (iv a1.To)] 88 :: V
 refine qN W1 ?_
 refine q_next (c_seq (cQ [(4, (.bool ((decide (a1.From ≤ b2.To)) && (decide (b2.From ≤ a1.To)))))] (W1) ?_ ?_))
 refine c_region (lO (vFa 2 fo88_2 R) (lO (vLd 1 ag3 R R R) (lO (vFa 3 fo88_3 R) (lO (vLd 0 ag3 R R R) (lO (vLe R R) (lB R ?_))))))
 rcases bo (decide (a1.From ≤ b2.To)) with hc5 | hc5
 refine lW (wnT hc5) (vFa 2 fo88_2 R) (lW (wnT hc5) (vLd 0 ag3 R R R) (lW (wnT hc5) (vFa 3 fo88_3 R) (lW (wnT hc5) (vLd 1 ag3 R R R) (lW (wnT hc5) (vLe R R) (lO (pAT R hc5 R) (lB R (l_nil ?_)))))))
 exact qJ (fun w s => s)
 refine lf (wfF hc5) (lf (wfF hc5) (lf (wfF hc5) (lf (wfF hc5) (lf (wfF hc5) (lO (pAF (decide (b2.From ≤ a1.To)) R hc5) (lB R (l_nil ?_)))))))
 exact qJ (fun w s => s)
 rintro σ1
 refine q_next (c_ret ?_)
 obtain rfl := so hr
 exact qF () (fun w s => (s.e 2 []))
theorem Z1m_ok {s1 : List hole} {i2 j3 : Int} {a_4 : Option Addr} {n_4 c_4 : Nat} {r : (List hole)} (hr : Z1m s1 i2 j3 = some r) :
    FnOk Tryz.prog 151 [(.slice a_4 n_4 c_4), (.int .i64 i2), (.int .i64 j3)] [ow kT136 136 (.slice a_4 n_4 c_4) s1] (fun (h : (Option Addr × Nat × Nat)) => ((.slice h.1 h.2.1 h.2.2), [ow kT136 136 (.slice h.1 h.2.1 h.2.2) r])) := by
  unfold Z1m at hr
  obtain ⟨⟨g0, g1, g2⟩, hr⟩ := gd hr
  replace hr := Option.some.inj hr
  refine fn_ok Tryz.func151 rfl 33 rfl rfl fun C V => (c_st (V' := ow kT136 136 (.slice a_4 n_4 c_4) s1 :: V) (fun w s => s) (c_len 0 sees_ow (fun (hn : n_4 = s1.length) => (c_ncap 0 sees_ow (fun (hc : n_4 ≤ c_4) => ?_)))))
  subst hn
  refine c_seq (c_region (lS rfl (l_nil (q_next (c_seq (c_region (lS rfl (lI rfl (lI rfl (lS rfl (l_v (.int .i64 (s1.length : Int)) (v_len sl137 rfl) rfl rfl (l_vo rfl rfl (v_cut3 (sz := 2) (l := i2) (h := j3) (m := (s1.length : Int)) sl137 sz136 rfl rfl rfl rfl g0 g1 g2 (by omega)) (l_nil (q_next (c_seq (c_seq (c_region (lI rfl (lI rfl (lB rfl (l_nil (q_next ?_))))))))))))))))))))))
  rcases Bool.eq_false_or_eq_true (i2 == j3) with hb | hb
  · refine c_true rfl hb ?_
    have e : i2 = j3 := by simpa using hb
    subst e
    rw [List.take_append_drop] at hr
    subst hr
    refine c_seq (c_region (lS rfl (lS rfl (l_nil (q_next (c_ret (q_ret ?_)))))))
    exact q_fin (vs := [(.slice a_4 s1.length c_4)]) (.inl rfl) (a_4, s1.length, c_4) rfl ⟨rfl, trivial⟩ rfl (fun w s => s)
  · have hne : i2 ≠ j3 := by simpa using hb
    refine c_false rfl hb (c_skip (q_next ?_))
    obtain ⟨i, rfl⟩ := Int.eq_ofNat_of_zero_le g0
    obtain ⟨j, rfl⟩ := Int.eq_ofNat_of_zero_le (Int.le_trans g0 g1)
    have hij : i < j := by omega
    have hjn : j ≤ s1.length := by omega
    simp only [Int.toNat_natCast] at hr
    subst hr
    refine c_open (by omega) (fun g pre used spare fr ha q1 q2 q3 q4 q5 q6 => ?_)
    subst ha
    obtain ⟨u1, u2, u3, rfl, l1, l2, l3⟩ : ∃ u1 u2 u3 : List Value, used = u1 ++ (u2 ++ u3) ∧ u1.length = i * 2 ∧ u2.length = (j - i) * 2 ∧ u3.length = (s1.length - j) * 2 := by
      refine ⟨used.take (i * 2), (used.drop (i * 2)).take ((j - i) * 2), (used.drop (i * 2)).drop ((j - i) * 2), by rw [List.take_append_drop, List.take_append_drop], ?_, ?_, ?_⟩ <;>
        · have q5' : used.length = s1.length * 2 := q5
          simp only [List.length_take, List.length_drop]
          omega
    have hsp : spare.length = (c_4 - s1.length) * 2 := q3
    have hcl : (pre ++ (u1 ++ (u2 ++ u3)) ++ spare).length = pre.length + (i * 2 + ((j - i) * 2 + (s1.length - j) * 2)) + (c_4 - s1.length) * 2 := by simp only [List.length_append, l1, l2, l3, hsp]
    have hfr : fr = (0, 0) ∨ (pre ++ (u1 ++ (u2 ++ u3)) ++ spare).length ≤ fr.1 := by
      rcases q4 with q4 | q4
      · exact .inl q4
      · exact .inr (by simp only [List.length_append] at q4 ⊢; omega)
    refine c_seq (c_region (lS rfl (l_v (.int .i64 (s1.length : Int)) (v_len sl137 rfl) rfl rfl (lI rfl (l_nil (q_next (c_seq (c_draw 6 (raw g 136 fr (pre ++ (u1 ++ (u2 ++ u3)) ++ spare) :: own' kT136 s1 (u1 ++ (u2 ++ u3)) :: V) mixo (by kernel_rfl) ?_))))))))
    intro ht hn
    refine dR 0 rfl (vS rfl) (dR 1 rfl (vI rfl) (d_v 2 (.slice (cutA (some ⟨g, pre.length, none⟩) c_4 (0 : Int).toNat 2) ((i : Int).toNat - (0 : Int).toNat) (c_4 - (0 : Int).toNat)) rfl (v_cutp sl137 sz136 rfl rfl rfl (Int.le_refl 0) (by omega) (by omega)) rfl rfl rfl ht hn (by kernel_rfl) (fun w s => s) (dR 3 rfl (vS rfl) (dR 4 rfl (vI rfl) (d_v 5 (.slice (cutA (some ⟨g, pre.length, none⟩) c_4 (j : Int).toNat 2) ((s1.length : Int).toNat - (j : Int).toNat) (c_4 - (j : Int).toNat)) rfl (v_cutp sl137 sz136 rfl rfl rfl (by omega) (by omega) (by omega)) rfl rfl rfl ht hn (by kernel_rfl) (fun w s => s) (d1 6 rfl (l_apr (g := g) (k0 := pre.length) (m1 := i) (c := c_4) (o2 := if c_4 = j then pre.length else pre.length + j * 2) (n2 := s1.length - j) (c2 := c_4 - j) (sz := 2) (news := u3) 0 rfl rfl sl137 sz136 rfl hfr ?_ ?_ l3 ?_ (by omega) (by rw [hcl, l3]; omega) (fun v hv => q6 v (by simp [hv])) ?_)))))))
    · show Value.slice (cutA (some ⟨g, pre.length, none⟩) c_4 (0 : Int).toNat 2) ((i : Int).toNat - (0 : Int).toNat) (c_4 - (0 : Int).toNat) = _
      simp only [cutA_some, Int.toNat_natCast, Int.toNat_zero, Nat.zero_mul, Nat.add_zero, ite_self, Nat.sub_zero]
    · show Value.slice (cutA (some ⟨g, pre.length, none⟩) c_4 (j : Int).toNat 2) ((s1.length : Int).toNat - (j : Int).toNat) (c_4 - (j : Int).toNat) = _
      simp only [cutA_some, Int.toNat_natCast]
    · intro q v hq
      have hlt := (List.getElem?_eq_some_iff.1 hq).1
      rw [if_neg (by rw [l3] at hlt; intro e; subst e; have : s1.length - c_4 = 0 := by omega
                     rw [this] at hlt; omega)]
      rw [show pre ++ (u1 ++ (u2 ++ u3)) ++ spare = (pre ++ u1 ++ u2) ++ (u3 ++ spare) by simp [List.append_assoc], List.getElem?_append_right (by simp only [List.length_append]; omega),
        show pre.length + j * 2 + q - (pre ++ u1 ++ u2).length = q by simp only [List.length_append]; omega, List.getElem?_append_left hlt]
      exact hq
    have hE : (pre ++ (u1 ++ (u2 ++ u3)) ++ spare).take (pre.length + i * 2) ++ u3 ++ (pre ++ (u1 ++ (u2 ++ u3)) ++ spare).drop (pre.length + i * 2 + u3.length) = pre ++ (u1 ++ u3) ++ (u2 ++ (u3 ++ spare)).drop u3.length := by
      rw [show pre ++ (u1 ++ (u2 ++ u3)) ++ spare = (pre ++ u1) ++ (u2 ++ (u3 ++ spare)) by simp [List.append_assoc], show pre.length + i * 2 = (pre ++ u1).length by simp [l1], List.take_left, List.drop_append]
      simp [List.append_assoc]
    refine l_nil (qE (k_st (V' := raw g 136 fr (pre ++ (u1 ++ u3) ++ (u2 ++ (u3 ++ spare)).drop u3.length) :: own' kT136 s1 (u1 ++ (u2 ++ u3)) :: V) (fun w s => by rw [← hE]; exact s) (d1 7 rfl (lS rfl (l_nil (qE (dD (q_next ?_))))))))
    generalize hR : (u2 ++ (u3 ++ spare)).drop u3.length = R
    have hRl : R.length = (c_4 - (i + (s1.length - j))) * 2 := by rw [← hR]; simp only [List.length_drop, List.length_append, l2, l3, hsp]; omega
    refine c_seq (c_region (lS rfl (lS rfl (l_v (.int .i64 ((i + (s1.length - j) : Nat) : Int)) (v_len sl137 rfl) rfl rfl (lI rfl (l_vo rfl rfl (v_cutp (sz := 2) (l := ((i + (s1.length - j) : Nat) : Int)) (h := (s1.length : Int)) sl137 sz136 rfl rfl rfl (by omega) (by omega) (by omega)) (l_clr (K := kT136) (g := g) (o2 := pre.length + (i + (s1.length - j)) * 2) (n2 := s1.length - (i + (s1.length - j))) (c2 := c_4 - (i + (s1.length - j))) 0 rfl rfl sl137 (Zr.zk zT136 zc136) (by decide) rfl ?_ ?_ ?_ ?_)))))))
    · rcases hfr with hfr | hfr
      · exact .inl hfr
      · refine .inr ?_
        rw [hcl] at hfr
        simp only [List.length_append, l1, l3, hRl]
        omega
    · show Value.slice (cutA (some ⟨g, pre.length, none⟩) c_4 ((i + (s1.length - j) : Nat) : Int).toNat 2) ((s1.length : Int).toNat - ((i + (s1.length - j) : Nat) : Int).toNat) (c_4 - ((i + (s1.length - j) : Nat) : Int).toNat) = _
      simp only [cutA_some, Int.toNat_natCast]
      rw [if_neg (by omega)]
    · show pre.length + (i + (s1.length - j)) * 2 + (s1.length - (i + (s1.length - j))) * 2 ≤ _
      simp only [List.length_append, l1, l3, hRl]
      omega
    intro zs hz
    replace hz : zs.length = (s1.length - (i + (s1.length - j))) * 2 := hz
    have hE2 : (pre ++ (u1 ++ u3) ++ R).take (pre.length + (i + (s1.length - j)) * 2) ++ zs ++ (pre ++ (u1 ++ u3) ++ R).drop (pre.length + (i + (s1.length - j)) * 2 + zs.length) = pre ++ (u1 ++ u3) ++ (zs ++ R.drop zs.length) := by
      rw [show pre.length + (i + (s1.length - j)) * 2 = (pre ++ (u1 ++ u3)).length by simp only [List.length_append, l1, l3]; omega, List.take_left, List.drop_append]
      simp [List.append_assoc]
    refine l_nil (q_next (c_st (V' := ow kT136 136 (.slice (some ⟨g, pre.length, none⟩) (s1.take i ++ s1.drop j).length c_4) (s1.take i ++ s1.drop j) :: V) (fun w s => ?_) ?_))
    · replace s : St C w (raw g 136 fr (pre ++ (u1 ++ u3) ++ (zs ++ R.drop zs.length)) :: own' kT136 (s1.take i ++ ((s1.drop i).take (j - i) ++ s1.drop j)) (u1 ++ (u2 ++ u3)) :: V) := by
        rw [← hE2]
        have : s1.take i ++ ((s1.drop i).take (j - i) ++ s1.drop j) = s1 := by
          rw [show s1.drop j = (s1.drop i).drop (j - i) by rw [List.drop_drop]; congr 1; omega, List.take_append_drop, List.take_append_drop]
        rw [this]
        exact s
      have hlen : (s1.take i ++ s1.drop j).length = i + (s1.length - j) := by simp only [List.length_append, List.length_take, List.length_drop]; omega
      refine s.closed ?_ ?_ (by rw [hlen]; omega) q2 ?_ ?_
      · show u1.length = (s1.take i).length * 2
        rw [l1, List.length_take, Nat.min_eq_left (by omega)]
      · show u2.length = ((s1.drop i).take (j - i)).length * 2
        rw [l2, List.length_take, List.length_drop, Nat.min_eq_left (by omega)]
      · show (zs ++ R.drop zs.length).length = (c_4 - (s1.take i ++ s1.drop j).length) * 2
        rw [hlen, ← hRl, List.length_append, List.length_drop]
        have : zs.length ≤ R.length := by rw [hz, hRl]; omega
        omega
      · rcases hfr with hfr | hfr
        · exact .inl hfr
        · refine .inr ?_
          rw [hcl] at hfr
          have : zs.length ≤ R.length := by rw [hz, hRl]; omega
          simp only [List.length_append, List.length_drop, l1, l3]
          rw [hRl] at this ⊢
          omega
    have hlen : i + (s1.length - j) = (s1.take i ++ s1.drop j).length := by simp only [List.length_append, List.length_take, List.length_drop]; omega
    rw [hlen]
    refine c_seq (c_region (lS rfl (lS rfl (l_nil (q_next (c_ret ?_))))))
    exact q_fin (vs := [(.slice (some ⟨g, pre.length, none⟩) (s1.take i ++ s1.drop j).length c_4)]) (.inl rfl) (some ⟨g, pre.length, none⟩, (s1.take i ++ s1.drop j).length, c_4) rfl ⟨rfl, trivial⟩ rfl (fun w s => s)
theorem Z19_ok {s1 : List hole} {i2 : Int} {y3 : hole} {b : Nat} {a_4 : Option Addr} {n_4 c_4 : Nat} {r : (List hole)} (hr : Z19 s1 i2 [y3] = some r) :
    FnOk Tryz.prog 152 [(.slice a_4 n_4 c_4), (.int .i64 i2), (.slice (some ⟨b, 0, none⟩) 1 1)] [ow kT136 136 (.slice a_4 n_4 c_4) s1, bxl b [(iv y3.from_), (iv y3.to)] 136] (fun (h : (Option Addr × Nat × Nat)) => ((.slice h.1 h.2.1 h.2.2), [ow kT136 136 (.slice h.1 h.2.1 h.2.2) r])) := by
  unfold Z19 at hr
  obtain ⟨⟨g0, g1, g2⟩, hr⟩ := gd hr
  replace hr := Option.some.inj hr
  have hyK : ∀ I, (kT136).own I Hp.none y3 [(iv y3.from_), (iv y3.to)] := fun I => (Kind.iso_flat (Kind.pair_flat (Kind.scal_flat _ _) (Kind.scal_flat _ _)) _) I y3 _ ⟨_, _, rfl, rfl, rfl⟩
  have hy1 : ∀ v ∈ ([(iv y3.from_), (iv y3.to)] : List Value), v.oneCell' = true := fun v hv => (kT136).own_one (hyK Hp.none) v hv
  generalize hyc : ([(iv y3.from_), (iv y3.to)] : List Value) = yc at hyK hy1
  have hyl : yc.length = 2 := by rw [← hyc]; rfl
  simp only [List.length_singleton] at g2
  obtain ⟨i, rfl⟩ := Int.eq_ofNat_of_zero_le g0
  have hin : i ≤ s1.length := by omega
  simp only [Int.toNat_natCast, List.append_assoc, List.singleton_append] at hr
  refine fn_ok Tryz.func152 rfl 95 rfl rfl fun C V => (c_st (V' := ow kT136 136 (.slice a_4 n_4 c_4) s1 :: bxl b yc 136 :: V) (fun w s => s) (c_len 0 sees_ow (fun (hn : n_4 = s1.length) => (c_ncap 0 sees_ow (fun (hc : n_4 ≤ c_4) => ?_)))))
  subst hn
  have en1 : w64 ((s1.length : Int) + 1) = ((s1.length + 1 : Nat) : Int) := by rw [w64_id (by omega) (by omega)]; omega
  refine c_seq (c_region (lS rfl (l_nil (q_next (c_seq (c_region (lS rfl (lI rfl (l_vo rfl rfl (v_cutp (sz := 2) (l := (i : Int)) (h := (s1.length : Int)) sl137 sz136 rfl rfl rfl (by omega) (by omega) (by omega)) (l_nil (q_next (c_seq (c_region (lS rfl (l_v (.int .i64 1) (v_len sl137 rfl) rfl rfl (lI rfl (l_nil (q_next (c_seq (c_seq (c_region (lI rfl (lB rfl (l_nil (q_next (c_false rfl rfl (c_skip (q_next (c_seq (c_region (lS rfl (l_v (.int .i64 (s1.length : Int)) (v_len sl137 rfl) rfl rfl (lI rfl (l_nil (q_next (c_seq (c_seq (c_region (lI rfl (lI rfl (lB rfl (l_nil (q_next ?_)))))))))))))))))))))))))))))))))))))))))))
  rcases Bool.eq_false_or_eq_true ((i : Int) == (s1.length : Int)) with hb | hb
  · have e : i = s1.length := by
      have : (i : Int) = s1.length := by simpa using hb
      omega
    subst e
    rw [List.take_length, List.drop_length] at hr
    subst hr
    refine c_true rfl hb (c_seq (c_region (lS rfl (lS rfl (l_app (K := kT136) (ys := [y3]) 8796093022208 rfl rfl sl137 sz136 by136 (Zr.zk zT136 zc136) rfl rfl rfl rfl rfl rfl (src_box hyK) (by simpa using g2) (fun a_5 c_5 => (lS rfl (l_nil (q_next (c_ret (q_ret ?_)))))))))))
    exact q_fin (vs := [(.slice a_5 (s1 ++ [y3]).length c_5)]) (.inl rfl) (a_5, (s1 ++ [y3]).length, c_5) rfl ⟨rfl, trivial⟩ rfl (fun w s => s)
  have hne : i ≠ s1.length := by intro e; subst e; simp at hb
  have hlt : i < s1.length := by omega
  refine c_false rfl hb (c_skip (q_next (c_open (by omega) (fun g pre used spare fr ha q1 q2 q3 q4 q5 q6 => ?_))))
  subst ha
  obtain ⟨u1, u2, rfl, l1, l2⟩ : ∃ u1 u2 : List Value, used = u1 ++ u2 ∧ u1.length = i * 2 ∧ u2.length = (s1.length - i) * 2 := by
    refine ⟨used.take (i * 2), used.drop (i * 2), by rw [List.take_append_drop], ?_, ?_⟩ <;>
      · have q5' : used.length = s1.length * 2 := q5
        simp only [List.length_take, List.length_drop]
        omega
  have hsp : spare.length = (c_4 - s1.length) * 2 := q3
  have q5' : (u1 ++ u2).length = s1.length * 2 := q5
  have hcl : (pre ++ (u1 ++ u2) ++ spare).length = pre.length + s1.length * 2 + (c_4 - s1.length) * 2 := by
    rw [List.length_append, List.length_append, q5', hsp]
  have hfr : fr = (0, 0) ∨ (pre ++ (u1 ++ u2) ++ spare).length ≤ fr.1 := by
    rcases q4 with q4 | q4
    · exact .inl q4
    · exact .inr (by simp only [List.length_append] at q4 ⊢; omega)
  have ei1 : w64 ((i : Int) + 1) = ((i + 1 : Nat) : Int) := by rw [w64_id (by omega) (by omega)]; omega
  have eni : w64 (((s1.length + 1 : Nat) : Int) - (i : Int)) = ((s1.length + 1 - i : Nat) : Int) := by rw [w64_id (by omega) (by omega)]; omega
  have hu2 : ∀ v ∈ u2, v.oneCell' = true := fun v hv => q6 v (List.mem_append_right _ hv)
  have hxs : s1.take i ++ s1.drop i = s1 := List.take_append_drop i s1
  have htl : (s1.take i).length = i := by rw [List.length_take, Nat.min_eq_left hin]
  have hrl : (s1.take i ++ y3 :: s1.drop i).length = s1.length + 1 := by simp only [List.length_append, List.length_cons, List.length_take, List.length_drop]; omega
  refine c_seq (c_seq (c_region (lI rfl (lI rfl (l_v (.int .i64 ((s1.length + 1 : Nat) : Int)) (by rw [← en1]; exact v_pv rfl) rfl rfl (lS rfl (l_v (.int .i64 (c_4 : Int)) (v_cap sl137 rfl) rfl rfl (lB rfl (l_nil (q_next ?_))))))))))
  rcases Bool.eq_false_or_eq_true (decide (((s1.length + 1 : Nat) : Int) > (c_4 : Int))) with hb2 | hb2
  · have hcn : c_4 < s1.length + 1 := by have := of_decide_eq_true hb2; omega
    refine c_true rfl hb2 (c_seq (c_region (lS rfl (lI rfl (l_v (.slice (some ⟨g, pre.length, none⟩) i c_4) (v_cutn (sz := 2) (l := 0) (h := i) sl137 sz136 rfl rfl rfl (by omega) (by omega) (by omega)) rfl rfl (lI rfl (lI rfl (l_v (.int .i64 ((s1.length + 1 : Nat) : Int)) (by rw [← en1]; exact v_pv rfl) rfl rfl (lI rfl (l_v (.int .i64 ((s1.length + 1 - i : Nat) : Int)) (by rw [← eni]; exact v_pv rfl) rfl rfl (l_agz (K := kT136) (g := g) (k0 := pre.length) (m1 := i) (c := c_4) (k := s1.length + 1 - i) (olds := u1) (fr := fr) (cs := pre ++ (u1 ++ u2) ++ spare) 0 rfl rfl sl137 un3 sz136 by136 (Zr.zk zT136 zc136) (by decide) (by decide) rfl rfl rfl l1 ?_ (by omega) (by omega) (by omega) (fun g2 c2 zs hzl hc2 hm2 => ?_))))))))))))
    · intro j v hj
      have hjl := (List.getElem?_eq_some_iff.1 hj).1
      rw [List.append_assoc, List.getElem?_append_right (by omega), Nat.add_sub_cancel_left, List.append_assoc, List.getElem?_append_left hjl]
      exact hj
    replace hzl : zs.length = (c2 - i) * 2 := hzl
    rw [show i + (s1.length + 1 - i) = s1.length + 1 by omega]
    refine lS rfl (l_nil (q_next (c_seq (c_region (lS rfl (lI rfl (l_v (.slice (some ⟨g2, 0 + i * 2, none⟩) (s1.length + 1 - i) (c2 - i)) (v_cutn (sz := 2) (l := i) (h := s1.length + 1) sl137 sz136 rfl rfl rfl (by omega) (by omega) (by omega)) rfl rfl (lS rfl (l_cpy (g := g2) (k0 := 0 + i * 2) (g2 := b) (o2 := 0) (n := 1) (sz := 2) (news := yc) 0 rfl rfl sl137 sz136 rfl (.inl rfl) rfl rfl (Nat.min_eq_left (by omega)) (by rw [hyl]) ?_ (by rw [List.length_append, l1, hyl, hzl]; omega) hy1 ?_)))))))))
    · intro w s j v hj
      have hbx := look_bx s 3 rfl
      rw [Nat.zero_add, cell_bx hbx]
      exact hj
    have hE : (u1 ++ zs).take (0 + i * 2) ++ yc ++ (u1 ++ zs).drop (0 + i * 2 + yc.length) = u1 ++ yc ++ zs.drop yc.length := by
      rw [show 0 + i * 2 = u1.length by rw [l1, Nat.zero_add], List.take_left, List.drop_append]
      simp
    refine l_nil (q_next (c_st (V' := raw g2 136 (0, 0) (u1 ++ yc ++ zs.drop yc.length) :: raw g 136 fr (pre ++ (u1 ++ u2) ++ spare) :: own' kT136 s1 (u1 ++ u2) :: bxl b yc 136 :: V) (fun w s => by rw [← hE]; exact s) ?_))
    have hzd : (zs.drop yc.length).length = (c2 - i - 1) * 2 := by rw [List.length_drop, hzl, hyl]; omega
    generalize hZ : zs.drop yc.length = zz at hzd
    refine c_seq (cdr 8 [] mixo (fun ht hn => (dR 0 rfl (vS rfl) (dR 1 rfl (vI rfl) (dR 2 rfl (vI rfl) (d_v 3 (.int .i64 ((i + 1 : Nat) : Int)) rfl (by rw [← ei1]; exact v_pv rfl) rfl rfl rfl ht hn (by kernel_rfl) (fun w s => s) (d_v 4 (.slice (some ⟨g2, 0 + (i + 1) * 2, none⟩) (s1.length + 1 - (i + 1)) (c2 - (i + 1))) rfl (v_cutn (sz := 2) (l := i + 1) (h := s1.length + 1) sl137 sz136 rfl rfl rfl (by omega) (by omega) (by omega)) rfl rfl rfl ht hn (by kernel_rfl) (fun w s => s) (dR 5 rfl (vS rfl) (dR 6 rfl (vI rfl) (d_v 7 (.slice (some ⟨g, pre.length + i * 2, none⟩) (s1.length - i) (c_4 - i)) rfl (v_cutn (sz := 2) (l := i) (h := s1.length) sl137 sz136 rfl rfl rfl (by omega) (by omega) (by omega)) rfl rfl rfl ht hn (by kernel_rfl) (fun w s => s) (d1 8 rfl ?_)))))))))))
    refine l_cpy (g := g2) (k0 := 0 + (i + 1) * 2) (g2 := g) (o2 := pre.length + i * 2) (n := s1.length - i) (sz := 2) (news := u2) 0 rfl rfl sl137 sz136 rfl (.inl rfl) rfl rfl (by show Nat.min (s1.length - i) (s1.length + 1 - (i + 1)) = _; rw [show s1.length + 1 - (i + 1) = s1.length - i by omega]; exact Nat.min_self _) l2 ?_ (by simp only [List.length_append, l1, l2, hyl, hzd]; omega) hu2 ?_
    · intro w s j v hj
      have hjl := (List.getElem?_eq_some_iff.1 hj).1
      refine s.raw_cell 1 rfl _ _ ?_
      rw [show pre ++ (u1 ++ u2) ++ spare = (pre ++ u1) ++ (u2 ++ spare) by simp [List.append_assoc], List.getElem?_append_right (by simp only [List.length_append, l1]; omega), show pre.length + i * 2 + j - (pre ++ u1).length = j by simp only [List.length_append, l1]; omega, List.getElem?_append_left hjl]
      exact hj
    have hE2 : (u1 ++ yc ++ zz).take (0 + (i + 1) * 2) ++ u2 ++ (u1 ++ yc ++ zz).drop (0 + (i + 1) * 2 + u2.length) = [] ++ (u1 ++ (yc ++ u2)) ++ zz.drop u2.length := by
      rw [show 0 + (i + 1) * 2 = (u1 ++ yc).length by simp only [List.length_append, l1, hyl]; omega, List.take_left, List.drop_append]
      simp [List.append_assoc]
    refine l_nil (qE (dD (q_next (c_st (V' := ow kT136 136 (.slice (some ⟨g2, ([] : List Value).length, none⟩) (s1.take i ++ y3 :: s1.drop i).length c2) (s1.take i ++ y3 :: s1.drop i) :: V) (fun w s => ?_) ?_))))
    · have s2 : St C w (raw g2 136 (0, 0) ([] ++ (u1 ++ (yc ++ u2)) ++ zz.drop u2.length) :: own' kT136 (s1.take i ++ s1.drop i) (u1 ++ u2) :: V) := by
        rw [← hE2, hxs]
        exact (s.rm 1).rm 2
      refine s2.inserted hyK (by rw [htl]; exact l1) (by rw [hrl]; omega) hm2 ?_ (.inl rfl)
      show _ = (c2 - (s1.take i ++ y3 :: s1.drop i).length) * 2
      rw [hrl, List.length_drop, hzd, l2]; omega
    rw [hrl]
    refine c_seq (c_region (lS rfl (lS rfl (l_nil (q_next (c_ret (q_ret ?_)))))))
    subst hr
    exact q_fin (vs := [(.slice (some ⟨g2, 0, none⟩) (s1.length + 1) c2)]) (.inl rfl) (some ⟨g2, 0, none⟩, s1.length + 1, c2) rfl ⟨rfl, trivial⟩ rfl (fun w s => s)
  have hcn : s1.length + 1 ≤ c_4 := by have := of_decide_eq_false hb2; omega
  refine c_false rfl hb2 (c_skip (q_next (c_seq (c_region (lS rfl (lI rfl (lI rfl (l_v (.int .i64 ((s1.length + 1 : Nat) : Int)) (by rw [← en1]; exact v_pv rfl) rfl rfl (l_v (.slice (some ⟨g, pre.length, none⟩) (s1.length + 1) c_4) (v_cutn (sz := 2) (l := 0) (h := s1.length + 1) sl137 sz136 rfl rfl rfl (by omega) (by omega) (by omega)) rfl rfl (lS rfl (l_nil (q_next (c_seq (c_seq (c_region (lS rfl (lS rfl (lI rfl (lI rfl (l_v (.int .i64 ((i + 1 : Nat) : Int)) (by rw [← ei1]; exact v_pv rfl) rfl rfl (l_v (.slice (some ⟨g, pre.length + (i + 1) * 2, none⟩) (s1.length + 1 - (i + 1)) (c_4 - (i + 1))) (v_cutn (sz := 2) (l := i + 1) (h := s1.length + 1) sl137 sz136 rfl rfl rfl (by omega) (by omega) (by omega)) rfl rfl (l_ovl (fn := Tryz.f172) (tS := 137) (tR := 4) (b := b) (g := g) (bs := yc) 2 0 rfl rfl rfl (by kernel_rfl) (by kernel_rfl) (by kernel_rfl) (by kernel_rfl) sl137 sz136 rfl (fun C w s => s.box_raw_ne) rfl rfl (by rw [hcl]; omega) (lB rfl ?_)))))))))))))))))))))))
  refine l_nil (q_next (c_true rfl rfl (c_seq (cdr 8 [] mixo (fun ht hn => (dR 0 rfl (vS rfl) (dR 1 rfl (vI rfl) (dR 2 rfl (vI rfl) (d_v 3 (.int .i64 ((i + 1 : Nat) : Int)) rfl (by rw [← ei1]; exact v_pv rfl) rfl rfl rfl ht hn (by kernel_rfl) (fun w s => s) (d_v 4 (.slice (some ⟨g, pre.length + (i + 1) * 2, none⟩) (s1.length + 1 - (i + 1)) (c_4 - (i + 1))) rfl (v_cutn (sz := 2) (l := i + 1) (h := s1.length + 1) sl137 sz136 rfl rfl rfl (by omega) (by omega) (by omega)) rfl rfl rfl ht hn (by kernel_rfl) (fun w s => s) (dR 5 rfl (vS rfl) (dR 6 rfl (vI rfl) (d_v 7 (.slice (some ⟨g, pre.length + i * 2, none⟩) (s1.length + 1 - i) (c_4 - i)) rfl (v_cutn (sz := 2) (l := i) (h := s1.length + 1) sl137 sz136 rfl rfl rfl (by omega) (by omega) (by omega)) rfl rfl rfl ht hn (by kernel_rfl) (fun w s => s) (d1 8 rfl ?_))))))))))))))
  refine l_cpy (g := g) (k0 := pre.length + (i + 1) * 2) (g2 := g) (o2 := pre.length + i * 2) (n := s1.length - i) (sz := 2) (news := u2) 0 rfl rfl sl137 sz136 rfl hfr rfl rfl (by show min (s1.length + 1 - i) (s1.length + 1 - (i + 1)) = _; rw [Nat.min_eq_right (by omega)]; omega) l2 ?_ (by rw [hcl, l2]; omega) hu2 ?_
  · intro w s j v hj
    have hjl := (List.getElem?_eq_some_iff.1 hj).1
    refine s.raw_cell 0 rfl _ _ ?_
    rw [show pre ++ (u1 ++ u2) ++ spare = (pre ++ u1) ++ (u2 ++ spare) by simp [List.append_assoc], List.getElem?_append_right (by simp only [List.length_append, l1]; omega), show pre.length + i * 2 + j - (pre ++ u1).length = j by simp only [List.length_append, l1]; omega, List.getElem?_append_left hjl]
    exact hj
  have hML : ((u2 ++ spare).take 2).length = 2 := by simp only [List.length_take, List.length_append, l2, hsp]; omega
  have hE1 : (pre ++ (u1 ++ u2) ++ spare).take (pre.length + (i + 1) * 2) ++ u2 ++ (pre ++ (u1 ++ u2) ++ spare).drop (pre.length + (i + 1) * 2 + u2.length) = (pre ++ u1) ++ ((u2 ++ spare).take 2 ++ (u2 ++ spare.drop 2)) := by
    have e1 : pre ++ (u1 ++ u2) ++ spare = (pre ++ u1) ++ (u2 ++ spare) := by simp [List.append_assoc]
    have e2 : pre ++ (u1 ++ u2) ++ spare = (pre ++ u1 ++ u2) ++ spare := by simp [List.append_assoc]
    rw [show (pre ++ (u1 ++ u2) ++ spare).take (pre.length + (i + 1) * 2) = (pre ++ u1) ++ (u2 ++ spare).take 2 by rw [e1, show pre.length + (i + 1) * 2 = (pre ++ u1).length + 2 by simp only [List.length_append, l1]; omega, List.take_length_add_append]]
    rw [show (pre ++ (u1 ++ u2) ++ spare).drop (pre.length + (i + 1) * 2 + u2.length) = spare.drop 2 by rw [e2, show pre.length + (i + 1) * 2 + u2.length = (pre ++ u1 ++ u2).length + 2 by simp only [List.length_append, l1]; omega, List.drop_append]; simp]
    simp [List.append_assoc]
  refine l_nil (qE (dD (q_next ?_)))
  generalize hM : (u2 ++ spare).take 2 = M at hE1 hML
  refine c_st (V' := raw g 136 fr ((pre ++ u1) ++ (M ++ (u2 ++ spare.drop 2))) :: own' kT136 s1 (u1 ++ u2) :: bxl b yc 136 :: V) (fun w s => by rw [← hE1]; exact s) ?_
  have hsl : spare.length = (spare.drop 2).length + 2 := by rw [List.length_drop, hsp]; omega
  refine c_seq (c_region (lS rfl (lI rfl (l_v (.slice (some ⟨g, pre.length + i * 2, none⟩) (s1.length + 1 - i) (c_4 - i)) (v_cutn (sz := 2) (l := i) (h := s1.length + 1) sl137 sz136 rfl rfl rfl (by omega) (by omega) (by omega)) rfl rfl (lS rfl (l_cpy (g := g) (k0 := pre.length + i * 2) (g2 := b) (o2 := 0) (n := 1) (sz := 2) (news := yc) 0 rfl rfl sl137 sz136 rfl (hfr.imp id (fun h => by rw [hcl] at h; simp only [List.length_append, l1, l2, hML, List.length_drop, hsp]; omega)) rfl rfl (Nat.min_eq_left (by omega)) (by rw [hyl]) ?_ (by simp only [List.length_append, l1, hyl, hML]; omega) hy1 ?_))))))
  · intro w s j v hj
    have hbx := look_bx s 2 rfl
    rw [Nat.zero_add, cell_bx hbx]
    exact hj
  have hE3 : ((pre ++ u1) ++ (M ++ (u2 ++ spare.drop 2))).take (pre.length + i * 2) ++ yc ++ ((pre ++ u1) ++ (M ++ (u2 ++ spare.drop 2))).drop (pre.length + i * 2 + yc.length) = pre ++ (u1 ++ (yc ++ u2)) ++ spare.drop 2 := by
    rw [show pre.length + i * 2 = (pre ++ u1).length by simp [l1], List.take_left, show (pre ++ u1).length + yc.length = (pre ++ u1 ++ M).length by simp only [List.length_append, hyl, hML]]
    rw [show (pre ++ u1) ++ (M ++ (u2 ++ spare.drop 2)) = (pre ++ u1 ++ M) ++ (u2 ++ spare.drop 2) by simp only [List.append_assoc], List.drop_left]
    simp [List.append_assoc]
  refine l_nil (q_next (c_st (V' := ow kT136 136 (.slice (some ⟨g, pre.length, none⟩) (s1.take i ++ y3 :: s1.drop i).length c_4) (s1.take i ++ y3 :: s1.drop i) :: V) (fun w s => ?_) ?_))
  · have s2 : St C w (raw g 136 fr (pre ++ (u1 ++ (yc ++ u2)) ++ spare.drop 2) :: own' kT136 (s1.take i ++ s1.drop i) (u1 ++ u2) :: V) := by
      rw [← hE3, hxs]
      exact s.rm 2
    refine s2.inserted hyK (by rw [htl]; exact l1) (by rw [hrl]; omega) q2 ?_ ?_
    · show _ = (c_4 - (s1.take i ++ y3 :: s1.drop i).length) * 2
      rw [hrl, List.length_drop, hsp]; omega
    · rcases hfr with h | h
      · exact .inl h
      · refine .inr ?_
        rw [hcl] at h
        simp only [List.length_append, l1, l2, hyl, List.length_drop, hsp]
        omega
  rw [hrl]
  refine c_seq (c_region (lS rfl (lS rfl (l_nil (q_next (c_ret (q_ret ?_)))))))
  subst hr
  exact q_fin (vs := [(.slice (some ⟨g, pre.length, none⟩) (s1.length + 1) c_4)]) (.inl rfl) (some ⟨g, pre.length, none⟩, s1.length + 1, c_4) rfl ⟨rfl, trivial⟩ rfl (fun w s => s)
theorem Z6_ok  {free1 : (List hole)} {p3 : Int} {to4 : Int} {r : (List hole)} (hr : Z6 free1 p3 to4 = some r) :
 FnOk Tryz.prog 104 [(.slice A2 N2 D2), (iv p3), (iv to4)] [ow kT136 136 (.slice A2 N2 D2) free1] (fun (h : HH) => ((.slice h.1 h.2.1 h.2.2), [ow kT136 136 (.slice h.1 h.2.1 h.2.2) r])) := by
 unfold Z6 at hr
 refine fn_ok Tryz.func104 R 65 R R fun C V => ?_
 refine cN (_ :: V) ?_
 refine cL 0 sees_ow ?_
 rintro rfl
 refine c_seq (c_region (lS R (l_nil (q_next (c_seq (c_cut (A := ((List hole)) × (HH)) (fun a => Z6_J7 a.1 = some r) (fun a => [(0, (.slice a.2.1 a.2.2.1 a.2.2.2))]) (fun a => ow kT136 136 (.slice a.2.1 a.2.2.1 a.2.2.2) a.1 :: V) ?_ ?_))))))
 refine c_seq (c_region (lI R (l_nil (q_next (c_block ?_)))))
 obtain ⟨e1, hl1, hk1⟩ := bd hr
 refine c_loop (A := HH) hl1 (fun s a => [(0, (.slice a.1 a.2.1 a.2.2)), (1, (iv p3)), (2, (iv to4)), (7, (iv s.2))]) (fun s a => ow kT136 136 (.slice a.1 a.2.1 a.2.2) s.1 :: V) (A2, free1.length, D2) (aS R) (fun w s => s) ?_
 rintro ⟨free34, i36⟩ ⟨A35, N35, D35⟩ σ1 out1 hr he1
 replace hr : Z6_L1 p3 to4 free34 i36 = some out1 := hr
 unfold Z6_L1 at hr
 refine c_len 0 sees_ow (fun (hn : N35 = free34.length) => ?_)
 subst hn
 refine c_seq (c_seq (c_region (lI R (lS R (lO (v_len sl137 R) (lO (vLt R R) (l_nil (q_next ?_))))))))
 rcases bif_ hr with ⟨hb37, hr⟩ | ⟨hb37, hr⟩
 refine c_true R hb37 (c_skip (q_next (c_seq (c_cut (A := ((List hole) × Int) × (HH)) (fun a => Z6_J6 a.1.1 a.1.2 = some out1) (fun a => [(0, (.slice a.2.1 a.2.2.1 a.2.2.2)), (1, (iv p3)), (2, (iv to4)), (7, (iv a.1.2))]) (fun a => ow kT136 136 (.slice a.2.1 a.2.2.1 a.2.2.2) a.1.1 :: V) ?_ ?_))))
 refine c_block (c_seq ?_)
 obtain ⟨hg38, hr⟩ := gd hr
 refine c_region (lS R (lI R (t_some 0 sees_ow (show 0 < free34.length by have := hg38; omega) (fun g39 o40 ha => ?_))))
 subst ha
 refine lO (vIa sl137 sz136 R R hg38) (l_v (.agg [(iv (ix free34 i36).from_), (iv (ix free34 i36).to)].toArray) ?_ R R ?_)
 exact (v_ldef (K := kT136) (cells := fun x => [(iv x.from_), (iv x.to)]) 0 i36 ag136 sz136 (DecK.flat dT136 fun _ _ => R) sees_ow R hg38.1 hg38.2)
 refine l_alloc R R zc136 (fun b41 => (l_stores 0 R R sz136 R R R R R R (lN (bxl b41 [(iv (ix free34 i36).from_), (iv (ix free34 i36).to)] 136 :: OO kT136 136 (ad g39 o40) D35 free34 :: V) ?_)))
 refine l_nil (q_next (c_seq (c_seq (cQ [(0, (sc (ad g39 o40) free34 D35)), (1, (iv p3)), (2, (iv to4)), (7, (iv i36)), (8, (pt b41 0)), (28, (.bool ((decide (to4 ≤ (ix free34 i36).from_)) || (decide ((ix free34 i36).to ≤ p3)))))] (OO kT136 136 (ad g39 o40) D35 free34 :: bxl b41 [(iv (ix free34 i36).from_), (iv (ix free34 i36).to)] 136 :: V) ?_ ?_))))
 refine c_region (lI R (lO (vFa 0 fo136_0 R) (lO (vLd 0 ag3 R R R) (lO (vLe R R) (lB R ?_)))))
 rcases bo (decide (to4 ≤ (ix free34 i36).from_)) with hc42 | hc42
 refine lf (wfT hc42) (lf (wfT hc42) (lf (wfT hc42) (lf (wfT hc42) (lO (pOT (decide ((ix free34 i36).to ≤ p3)) R hc42) (l_nil ?_)))))
 exact qJ (fun w s => (s.e 2 [1, 0]))
 refine lW (wnF hc42) (vFa 1 fo136_1 R) (lW (wnF hc42) (vLd 0 ag3 R R R) (lW (wnF hc42) (vI R) (lW (wnF hc42) (vLe R R) (lO (pOF R hc42 R) (l_nil ?_)))))
 exact qJ (fun w s => (s.e 2 [1, 0]))
 rintro σ1
 refine q_next ?_
 rcases bif_ hr with ⟨hb43, hr⟩ | ⟨hb43, hr⟩
 refine c_true R hb43 (c_exit (q_exit (q_block ?_)))
 exact qI ((free34, i36), ((ad g39 o40), free34.length, D35)) hr (fun w s => (s.e 2 [0]))
 refine c_false R hb43 (c_skip (q_next (c_seq ?_)))
 obtain ⟨r44, hx45, hr⟩ := bd hr
 refine c_region (lS R (lI R (lI R (lO (vAd R R) (lC 1 cb151 R (Z1m_ok hx45) R ?_)))))
 rintro ⟨A46, N46, D46⟩
 refine lN (ow kT136 136 (.slice A46 N46 D46) r44 :: _ :: V) ?_
 refine l_len 0 sees_ow ?_
 rintro rfl
 refine lS R (l_nil (q_next (c_seq (c_cut (A := ((List hole) × Int) × (HH)) (fun a => Z6_J4 to4 free34 i36 a.1.1 a.1.2 = some out1) (fun a => [(0, (.slice a.2.1 a.2.2.1 a.2.2.2)), (1, (iv p3)), (2, (iv to4)), (7, (iv a.1.2)), (8, (pt b41 0))]) (fun a => ow kT136 136 (.slice a.2.1 a.2.2.1 a.2.2.2) a.1.1 :: bxl b41 [(iv (ix free34 i36).from_), (iv (ix free34 i36).to)] 136 :: V) ?_ ?_))))
 refine c_seq (c_region (lO (vFa 0 fo136_0 R) (lO (vLd 1 ag3 R R R) (lI R (lO (vLt R R) (l_nil (q_next ?_)))))))
 rcases bif_ hr with ⟨hb47, hr⟩ | ⟨hb47, hr⟩
 refine c_true R hb47 (c_seq ?_)
 obtain ⟨r49, hx50, hr⟩ := bd hr
 refine c_region (lS R (lI R (lO (vFa 0 fo136_0 R) (lO (vLd 1 ag3 R R R) (lI R (lO (vz (.agg [(iv (ix free34 i36).from_), (iv p3)].toArray) (v_build pl136 zc136 R R)) (l_buildb (cs := [(iv (ix free34 i36).from_), (iv p3)]) R R sl137 sz136 zc136 R R R R R R (fun b48 => (lM (ow _ _ _ _ :: bxl _ _ _ :: bxl _ _ _ :: V) (fun w s => (s.e 3 [1, 0, 2])) ?_)))))))))
 refine lC 2 cb152 R (Z19_ok hx50) R ?_
 rintro ⟨A51, N51, D51⟩
 refine lN (ow kT136 136 (.slice A51 N51 D51) r49 :: _ :: V) ?_
 refine l_len 0 sees_ow ?_
 rintro rfl
 refine lS R (l_nil (q_next (c_region (lI R (lO (vAd R R) (lI R (l_nil ?_)))))))
 exact qI ((r49, (w64 (i36 + (1 : Int)))), (A51, r49.length, D51)) hr (fun w s => s)
 refine c_false R hb47 (c_skip ?_)
 exact qI ((r44, i36), (A46, r44.length, D46)) hr (fun w s => s)
 rintro ⟨⟨free52, i54⟩, ⟨A53, N53, D53⟩⟩ σ1 hr
 replace hr : Z6_J4 to4 free34 i36 free52 i54 = some out1 := hr
 unfold Z6_J4 at hr
 refine c_len 0 sees_ow (fun (hn : N53 = free52.length) => ?_)
 subst hn
 refine c_seq (c_cut (A := ((List hole) × Int) × (HH)) (fun a => Z6_J5 a.1.1 a.1.2 = some out1) (fun a => [(0, (.slice a.2.1 a.2.2.1 a.2.2.2)), (1, (iv p3)), (2, (iv to4)), (7, (iv a.1.2))]) (fun a => ow kT136 136 (.slice a.2.1 a.2.2.1 a.2.2.2) a.1.1 :: V) ?_ ?_)
 refine c_seq (c_region (lI R (lO (vFa 1 fo136_1 R) (lO (vLd 1 ag3 R R R) (lO (vLt R R) (l_nil (q_next ?_)))))))
 rcases bif_ hr with ⟨hb55, hr⟩ | ⟨hb55, hr⟩
 refine c_true R hb55 (c_seq ?_)
 obtain ⟨r57, hx58, hr⟩ := bd hr
 refine c_region (lS R (lI R (lI R (lO (vFa 1 fo136_1 R) (lO (vLd 1 ag3 R R R) (lO (vz (.agg [(iv to4), (iv (ix free34 i36).to)].toArray) (v_build pl136 zc136 R R)) (l_buildb (cs := [(iv to4), (iv (ix free34 i36).to)]) R R sl137 sz136 zc136 R R R R R R (fun b56 => (lM (OO kT136 136 A53 D53 free52 :: bxl _ _ _ :: bxl _ _ _ :: V) (fun w s => (s.e 3 [1, 0, 2])) ?_)))))))))
 refine lC 2 cb152 R (Z19_ok hx58) R ?_
 rintro ⟨A59, N59, D59⟩
 refine lN (ow kT136 136 (.slice A59 N59 D59) r57 :: _ :: V) ?_
 refine l_len 0 sees_ow ?_
 rintro rfl
 refine lS R (l_nil (q_next (c_region (lI R (lO (vAd R R) (lI R (l_nil ?_)))))))
 exact qI ((r57, (w64 (i54 + (1 : Int)))), (A59, r57.length, D59)) hr (fun w s => (s.e 2 [0]))
 refine c_false R hb55 (c_skip ?_)
 exact qI ((free52, i54), (A53, free52.length, D53)) hr (fun w s => (s.e 2 [0]))
 rintro ⟨⟨free60, i62⟩, ⟨A61, N61, D61⟩⟩ σ1 hr
 replace hr : Z6_J5 free60 i62 = some out1 := hr
 unfold Z6_J5 at hr
 refine c_len 0 sees_ow (fun (hn : N61 = free60.length) => ?_)
 subst hn
 refine c_region (lI R (lO (vSb R R) (lI R (l_nil (q_blockn ?_)))))
 exact qI ((free60, (w64 (i62 - (1 : Int)))), (A61, free60.length, D61)) hr (fun w s => s)
 rintro ⟨⟨free63, i65⟩, ⟨A64, N64, D64⟩⟩ σ1 hr
 replace hr : Z6_J6 free63 i65 = some out1 := hr
 unfold Z6_J6 at hr
 refine c_len 0 sees_ow (fun (hn : N64 = free63.length) => ?_)
 subst hn
 refine c_region (lI R (lO (vAd R R) (lI R (l_nil ?_))))
 obtain rfl := so hr
 exact qA (A64, free63.length, D64) (fun w s => s)
 refine c_false R hb37 (c_exit (q_exit ?_))
 obtain rfl := so hr
 obtain rfl := he1 _ R
 have hr := hk1
 refine q_exit (q_block ?_)
 exact qI (free34, (A35, free34.length, D35)) hr (fun w s => s)
 rintro ⟨free69, ⟨A70, N70, D70⟩⟩ σ1 hr
 replace hr : Z6_J7 free69 = some r := hr
 unfold Z6_J7 at hr
 refine c_len 0 sees_ow (fun (hn : N70 = free69.length) => ?_)
 subst hn
 refine c_seq (c_region (lS R (lS R (l_nil (q_next (c_ret ?_))))))
 obtain rfl := so hr
 exact qF (A70, free69.length, D70) (fun w s => s)
theorem Z28_ok  {p1 : hole} {p2 : (List Life)} {p5 : Int} {b3 : Nat} {b6 : Nat} {r : Bool} (hr : Z28 p1 p2 p5 = some r) :
 FnOk Tryz.prog 106 [(.agg [(iv p1.from_), (iv p1.to)].toArray), (pt b3 0), (pt b6 0)] [rds kT88 (.slice A4 N4 D4) p2, bxl b3 [(.slice A4 N4 D4)] 83, bxl b6 [(iv p5)] 3] (fun (h : Unit) => ((.bool r), [bxl b3 [(.slice A4 N4 D4)] 83, bxl b6 [(iv p5)] 3])) := by
 unfold Z28 at hr
 refine fn_ok Tryz.func106 R 16 R R fun C V => ?_
 refine cM (bxl _ _ _ :: bxl _ _ _ :: rds _ _ _ :: V) (fun w s => (s.e 3 [1, 2, 0])) ?_
 refine cL 2 sees_rd ?_
 rintro rfl
 let W0 : List HP := RR kT88 A4 D4 p2 :: V
 refine cN (bxl b3 [(sc A4 p2 D4)] 83 :: _ :: W0) ?_
 refine c_seq (c_region (lBx R (fun b7 => (lB R (l_nil ?_)))))
 let W1 : List HP := bxl b7 [(iv p1.from_), (iv p1.to)] 136 :: bxl b3 [(sc A4 p2 D4)] 83 :: bxl b6 [(iv p5)] 3 :: W0
 refine qN W1 ?_
 refine q_next (c_seq ?_)
 obtain ⟨hg8, hr⟩ := gd hr
 refine c_some 3 sees_rd (show 0 < p2.length by have := hg8; omega) (fun g9 o10 ha => ?_)
 subst ha
 refine cdr 12 [] mixo (fun ht hn => (dR 0 R (vFa 1 fo136_1 R) (dR 1 R (vLd 0 ag3 R R R) (dR 2 R (vFa 0 fo136_0 R) (dR 3 R (vLd 0 ag3 R R R) (dR 4 R (vSb R R) (dR 5 R (vLd 1 ag83 R R R) (dR 6 R (vLd 2 ag3 R R R) (dR 7 R (vIa sl83 sz88 R R hg8) (dR 8 R (vz (.pointer (some ⟨g9, o10 + p5.toNat * 4 + 1, none⟩)) (v_fa fo88_1 R R)) (dR 9 R (vz (iv (ix p2 p5).Size) (v_lde (K := kT88) (fo := 1) (pr := fun x => (iv x.Size)) 3 p5 ag3 (dT88.leaf fun _ _ => R) sees_rd R hg8.1 hg8.2)) (dR 10 R (vGe R R) (dR 11 R (vB R) (dD (q_next (c_ret ?_))))))))))))))))
 obtain rfl := so hr
 exact qF () (fun w s => (s.e 4 [1, 2]))
theorem Z0k_ok  {p1 : (List hole)} {q4 : (List Life)} {q7 : Int} {b5 : Nat} {b8 : Nat} {r : Int} (hr : Z0k p1 q4 q7 = some r) :
 FnOk Tryz.prog 105 [(.slice A2 N2 D2), (.func (.func 106) [].toArray [(pt b5 0), (pt b8 0)].toArray)] [rds kT136 (.slice A2 N2 D2) p1, rds kT88 (.slice A6 N6 D6) q4, bxl b5 [(.slice A6 N6 D6)] 83, bxl b8 [(iv q7)] 3] (fun (h : Unit) => ((iv r), [bxl b5 [(.slice A6 N6 D6)] 83, bxl b8 [(iv q7)] 3])) := by
 unfold Z0k at hr
 refine fn_ok Tryz.func105 R 19 R R fun C V => ?_
 refine cM (bxl _ _ _ :: bxl _ _ _ :: rds _ _ _ :: rds _ _ _ :: V) (fun w s => (s.e 4 [2, 3, 0, 1])) ?_
 refine cL 2 sees_rd ?_
 rintro rfl
 refine cL 3 sees_rd ?_
 rintro rfl
 let W0 : List HP := RR kT136 A2 D2 p1 :: RR kT88 A6 D6 q4 :: V
 refine cN (bxl b5 [(sc A6 q4 D6)] 83 :: _ :: W0) ?_
 refine c_seq (c_region (lI R (l_nil (q_next (c_seq (c_cut (A := (Unit) × (Unit)) (fun a => Z0k_J1 = some r) (fun a => []) (fun a => bxl b5 [(sc A6 q4 D6)] 83 :: bxl b8 [(iv q7)] 3 :: W0) ?_ ?_))))))
 refine c_seq (c_region (lS R (lO (v_len sl137 R) (lI R (l_nil (q_next (c_block ?_)))))))
 obtain ⟨e1, hl1, hk1⟩ := bd hr
 refine c_loop (A := Unit) hl1 (fun s a => [(0, (sc A2 p1 D2)), (1, (.func (.func 106) [].toArray [(pt b5 0), (pt b8 0)].toArray)), (7, (il p1)), (8, (iv s))]) (fun s a => bxl b5 [(sc A6 q4 D6)] 83 :: bxl b8 [(iv q7)] 3 :: W0) () (aS R) (fun w s => s) ?_
 rintro x16 _ σ1 out1 hr he1
 replace hr : Z0k_L1 p1 q4 q7 x16 = some out1 := hr
 unfold Z0k_L1 at hr
 refine c_seq (c_region (lO (vLt R R) (l_nil (q_next (c_seq ?_)))))
 rcases bif_ hr with ⟨hb17, hr⟩ | ⟨hb17, hr⟩
 refine c_true R hb17 (c_skip (q_next (c_seq (c_block (c_seq (c_region (lI R (lI R (l_nil (q_next (c_seq ?_)))))))))))
 obtain ⟨hg18, hr⟩ := gd hr
 obtain ⟨r21, hx22, hr⟩ := bd hr
 refine c_region (lO (vp (.func (.func 106) [].toArray [(pt b5 0), (pt b8 0)].toArray) R) (lS R (lI R (t_some 2 sees_rd (show 0 < p1.length by have := hg18; omega) (fun g19 o20 ha => ?_)))))
 subst ha
 refine lO (vIa sl137 sz136 R R hg18) (l_v (.agg [(iv (ix p1 x16).from_), (iv (ix p1 x16).to)].toArray) ?_ R R ?_)
 exact (v_ldef (K := kT136) (cells := fun x => [(iv x.from_), (iv x.to)]) 2 x16 ag136 sz136 (DecK.flat dT136 fun _ _ => R) sees_rd R hg18.1 hg18.2)
 refine lM (RR kT88 A6 D6 q4 :: _ :: _ :: W0) (fun w s => (s.d 3 R)) ?_
 refine l_callvn (fs := []) (cs := [(pt b5 0), (pt b8 0)]) 3 R R cb106 R R (Z28_ok hx22) R ?_
 rintro _
 refine lN (_ :: _ :: W0) ?_
 refine l_nil (q_next ?_)
 rcases bif_ hr with ⟨hb23, hr⟩ | ⟨hb23, hr⟩
 refine c_true R hb23 (c_seq (c_region (lI R (lI R (l_nil (q_next (c_ret (q_blockr (q_ret ?_)))))))))
 obtain rfl := so hr
 obtain rfl := he1 _ R
 have hr := hk1
 refine q_ret (q_blockr (q_ret ?_))
 obtain rfl := so hr
 exact qF () (fun w s => (s.e 4 [0, 1]))
 refine c_false R hb23 (c_skip (q_blockn (q_next (c_region (lO (vAd R R) (lI R (l_nil ?_)))))))
 obtain rfl := so hr
 exact qA () (fun w s => s)
 refine c_false R hb17 (c_exit (q_exit ?_))
 obtain rfl := so hr
 obtain rfl := he1 _ R
 have hr := hk1
 refine q_exit (q_block ?_)
 exact q_join ((), ()) hr trivial (fun w s => s)
 rintro ⟨_, _⟩ σ1 hr
 replace hr : Z0k_J1 = some r := hr
 unfold Z0k_J1 at hr
 refine c_seq (c_region (lI R (l_nil (q_next (c_ret ?_)))))
 obtain rfl := so hr
 exact qF () (fun w s => (s.e 4 [0, 1]))
theorem Z8_ok  {lives1 : (List Life)} {r : (List Int) × Int} (hr : Z8 lives1 = some r) :
 FnOk Tryz.prog 57 [(.slice A2 N2 D2)] [rds kT88 (.slice A2 N2 D2) lives1] (fun (h : HH) => ((.tuple [(.slice h.1 h.2.1 h.2.2), (iv r.2)].toArray), [ow kT3 3 (.slice h.1 h.2.1 h.2.2) r.1])) := by
 unfold Z8 at hr
 refine fn_ok Tryz.func57 R 90 R R fun C V => ?_
 refine cN (_ :: V) ?_
 refine cL 0 sees_rd ?_
 rintro rfl
 let W0 : List HP := RR kT88 A2 D2 lives1 :: V
 refine cN W0 ?_
 refine c_seq (c_region (l_box (cs := [(sc A2 lives1 D2)]) R R R (fun b3 => (lS R (lI R (l_nil (q_next (c_seq (c_seq ?_)))))))))
 obtain ⟨r4, hx5, hr⟩ := bd hr
 refine c_region (lO (vLd 0 ag83 R R R) (lM (RR kT88 A2 D2 lives1 :: _ :: W0) (fun w s => (s.d 1 R)) ?_))
 refine lC 1 cb98 R (Z00_ok hx5) R ?_
 rintro _
 refine lN (_ :: W0) ?_
 refine lO (vNo R) (l_nil (q_next ?_))
 rcases bif_ hr with ⟨hb6, hr⟩ | ⟨hb6, hr⟩
 refine c_true R hb6 (c_seq (c_region (lS R (lI R (l_nil (q_next (c_ret (q_ret ?_))))))))
 obtain rfl := so hr
 exact q_fin (vs := [(.slice none 0 0), (iv 0)]) (.inl R) (none, 0, 0) R ⟨R, R, trivial⟩ R (fun w s => ((s.nilo kT3 3).e 3 [0]))
 refine c_false R hb6 (c_skip (q_next (c_seq ?_)))
 obtain ⟨r7, hx8, hr⟩ := bd hr
 refine c_region (lO (vLd 0 ag83 R R R) (lM (RR kT88 A2 D2 lives1 :: _ :: W0) (fun w s => (s.d 1 R)) ?_))
 refine lC 1 cb99 R (Zz_ok hx8) R ?_
 rintro ⟨A9, N9, D9⟩
 refine lN (ow kT3 3 (.slice A9 N9 D9) r7 :: _ :: W0) ?_
 refine l_len 0 sees_ow ?_
 rintro rfl
 refine lS R (l_nil (q_next (c_seq ?_)))
 obtain ⟨hg10, hr⟩ := gd hr
 refine c_region (lO (vLd 1 ag83 R R R) (lO (v_len sl83 R) (l_make (K := kT3) (m := (lives1.length : Int)) (z := (0 : Int)) R R sl22 sz3 by3 (Zr.zk zT3 zc3) (by decide) R R hg10.1 hg10.2.1 hg10.2.2 (fun A11 D11 => (lS R (l_nil (q_next (c_seq (c_region (lI R (l_nil (q_next (c_seq (c_cut (A := ((List Int) × Int) × (Unit)) (fun a => Z8_J7 a.1.1 a.1.2 = some r) (fun a => [(5, (sc A11 (List.replicate (lives1.length : Int).toNat (0 : Int)) D11)), (6, (iv a.1.2))]) (fun a => ow kT3 3 (.slice A11 (List.replicate (lives1.length : Int).toNat (0 : Int)).length D11) a.1.1 :: W0) ?_ ?_))))))))))))))
 refine c_seq (c_region (lS R (lO (v_len sl22 R) (lI R (l_nil (q_next (c_block ?_)))))))
 obtain ⟨e1, hl1, hk1⟩ := bd hr
 refine c_loop (A := HH) hl1 (fun s a => [(1, (pt b3 0)), (4, (.slice a.1 a.2.1 a.2.2)), (5, (sc A11 (List.replicate (lives1.length : Int).toNat (0 : Int)) D11)), (6, (iv s.2.1)), (21, (.slice a.1 a.2.1 a.2.2)), (22, (il r7)), (23, (iv s.2.2))]) (fun s a => bxl b3 [(sc A2 lives1 D2)] 83 :: rds kT3 (.slice a.1 a.2.1 a.2.2) r7 :: ow kT3 3 (.slice A11 (List.replicate (lives1.length : Int).toNat (0 : Int)).length D11) s.1 :: W0) (A9, r7.length, D9) (aS R) (fun w s => ((s.shr 1 R).e 3 [2, 0, 1])) ?_
 rintro ⟨offsets80, peak81, x82⟩ ⟨A79, N79, D79⟩ σ1 out1 hr he1
 replace hr : Z8_L1 lives1 r7 offsets80 peak81 x82 = some out1 := hr
 unfold Z8_L1 at hr
 refine c_len 1 sees_rd (fun (hn : N79 = r7.length) => ?_)
 subst hn
 refine c_seq (c_region (lO (vLt R R) (l_nil (q_next (c_seq ?_)))))
 rcases bif_ hr with ⟨hb83, hr⟩ | ⟨hb83, hr⟩
 refine c_true R hb83 (c_skip (q_next (c_seq (c_block (c_seq ?_)))))
 obtain ⟨hg84, hr⟩ := gd hr
 refine c_region (lI R (t_some 1 sees_rd (show 0 < r7.length by have := hg84; omega) (fun g85 o86 ha => ?_)))
 subst ha
 refine lO (vIa sl22 sz3 R R hg84) (lO (vLi 1 ag3 sees_rd R hg84) (l_alloc R R zc3 (fun b87 => (lI R (l_store 0 R R sz3 R R R R R (lN (bxl b87 [(iv (ix r7 x82))] 3 :: _ :: RR kT3 (ad g85 o86) D79 r7 :: ow kT3 3 (.slice A11 (List.replicate (lives1.length : Int).toNat (0 : Int)).length D11) offsets80 :: W0) ?_))))))
 refine l_nil (q_next (c_seq (c_region (lO (vz (.agg [(iv 0), (iv 823296)].toArray) (v_build pl136 zc136 R R)) (l_build (K := kT136) (xs := ([(⟨(0 : Int), (823296 : Int)⟩ : hole)] : List hole)) (vs := [(.agg [(iv 0), (iv 823296)].toArray)]) 0 R R sl137 sz136 zc136 R R R R R R ?_ R (fun A88 D88 => ?_))))))
 exact fun I h s => (mO136).list [(((), ()), (⟨(0 : Int), (823296 : Int)⟩ : hole))] I h s
 refine lN (OO kT136 136 A88 D88 ([(⟨(0 : Int), (823296 : Int)⟩ : hole)] : List hole) :: _ :: _ :: _ :: _ :: W0) ?_
 refine lS R (l_nil (q_next (c_seq (c_cut (A := ((List hole)) × (HH)) (fun a => Z8_J6 lives1 r7 offsets80 peak81 x82 a.1 = some out1) (fun a => [(1, (pt b3 0)), (4, (sc (ad g85 o86) r7 D79)), (5, (sc A11 (List.replicate (lives1.length : Int).toNat (0 : Int)) D11)), (6, (iv peak81)), (8, (pt b87 0)), (9, (.slice a.2.1 a.2.2.1 a.2.2.2)), (21, (sc (ad g85 o86) r7 D79)), (22, (il r7)), (23, (iv x82))]) (fun a => bxl b3 [(sc A2 lives1 D2)] 83 :: RR kT3 (ad g85 o86) D79 r7 :: ow kT3 3 (.slice A11 (List.replicate (lives1.length : Int).toNat (0 : Int)).length D11) offsets80 :: bxl b87 [(iv (ix r7 x82))] 3 :: ow kT136 136 (.slice a.2.1 a.2.2.1 a.2.2.2) a.1 :: W0) ?_ ?_))))
 refine c_seq ?_
 obtain ⟨hg89, hr⟩ := gd hr
 refine c_region (lS R (lI R (l_cut (K := kT3) (0 : Int) x82 3 R R sl22 sz3 R R R R hg89.1 hg89.2.1 hg89.2.2 (fun A90 D90 => (lO (v_len sl22 R) (lI R (l_nil (q_next (c_block ?_)))))))))
 obtain ⟨e2, hl2, hk2⟩ := bd hr
 refine c_loop (A := HH) hl2 (fun s a => [(1, (pt b3 0)), (4, (sc (ad g85 o86) r7 D79)), (5, (sc A11 (List.replicate (lives1.length : Int).toNat (0 : Int)) D11)), (6, (iv peak81)), (8, (pt b87 0)), (9, (.slice a.1 a.2.1 a.2.2)), (21, (sc (ad g85 o86) r7 D79)), (22, (il r7)), (23, (iv x82)), (32, (sc A90 (sub r7 (0 : Int) x82) D90)), (33, (il (sub r7 (0 : Int) x82))), (34, (iv s.2))]) (fun s a => bxl b3 [(sc A2 lives1 D2)] 83 :: RR kT3 (ad g85 o86) D79 r7 :: ow kT3 3 (.slice A11 (List.replicate (lives1.length : Int).toNat (0 : Int)).length D11) offsets80 :: bxl b87 [(iv (ix r7 x82))] 3 :: ow kT136 136 (.slice a.1 a.2.1 a.2.2) s.1 :: RR kT3 A90 D90 (sub r7 (0 : Int) x82) :: W0) (A88, ([(⟨(0 : Int), (823296 : Int)⟩ : hole)] : List hole).length, D88) (aS R) (fun w s => (s.e 6 [3, 4, 5, 2, 1, 0])) ?_
 rintro ⟨free110, x112⟩ ⟨A111, N111, D111⟩ σ1 out2 hr he2
 replace hr : Z8_L2 lives1 r7 offsets80 x82 free110 x112 = some out2 := hr
 unfold Z8_L2 at hr
 refine c_len 4 sees_ow (fun (hn : N111 = free110.length) => ?_)
 subst hn
 refine c_seq (c_region (lO (vLt R R) (l_nil (q_next (c_seq ?_)))))
 rcases bif_ hr with ⟨hb113, hr⟩ | ⟨hb113, hr⟩
 refine c_true R hb113 (c_skip (q_next (c_seq (c_cut (A := ((List hole)) × (HH)) (fun a => Z8_J5 x112 a.1 = some out2) (fun a => [(1, (pt b3 0)), (4, (sc (ad g85 o86) r7 D79)), (5, (sc A11 (List.replicate (lives1.length : Int).toNat (0 : Int)) D11)), (6, (iv peak81)), (8, (pt b87 0)), (9, (.slice a.2.1 a.2.2.1 a.2.2.2)), (21, (sc (ad g85 o86) r7 D79)), (22, (il r7)), (23, (iv x82)), (32, (sc A90 (sub r7 (0 : Int) x82) D90)), (33, (il (sub r7 (0 : Int) x82))), (34, (iv x112))]) (fun a => bxl b3 [(sc A2 lives1 D2)] 83 :: RR kT3 (ad g85 o86) D79 r7 :: ow kT3 3 (.slice A11 (List.replicate (lives1.length : Int).toNat (0 : Int)).length D11) offsets80 :: bxl b87 [(iv (ix r7 x82))] 3 :: ow kT136 136 (.slice a.2.1 a.2.2.1 a.2.2.2) a.1 :: RR kT3 A90 D90 (sub r7 (0 : Int) x82) :: W0) ?_ ?_))))
 refine c_block (c_seq ?_)
 obtain ⟨hg114, hr⟩ := gd hr
 refine c_region (t_some 5 sees_rd (show 0 < (sub r7 (0 : Int) x82).length by have := hg114; omega) (fun g115 o116 ha => ?_))
 subst ha
 refine lO (vIa sl22 sz3 R R hg114) (lO (vLi 5 ag3 sees_rd R hg114) (lI R (l_nil (q_next (c_seq ?_)))))
 obtain ⟨hg117, hr⟩ := gd hr
 obtain ⟨hg120, hr⟩ := gd hr
 obtain ⟨r121, hx122, hr⟩ := bd hr
 refine c_some 6 sees_rd (show 0 < lives1.length by have := hg117; omega) (fun g118 o119 ha => ?_)
 subst ha
 refine cdr 9 [] mixo (fun ht hn => (dR 0 R (vLd 0 ag83 R R R) (dR 1 R (vLd 3 ag3 R R R) (dR 2 R (vIa sl83 sz88 R R hg117) (d_v 3 (.agg [(iv (ix lives1 (ix r7 x82)).Buffer), (iv (ix lives1 (ix r7 x82)).Size), (iv (ix lives1 (ix r7 x82)).From), (iv (ix lives1 (ix r7 x82)).To)].toArray) R ?_ R R R ht hn (by kernel_rfl) (sL []) ?_)))))
 exact (v_ldef (K := kT88) (cells := fun x => [(iv x.Buffer), (iv x.Size), (iv x.From), (iv x.To)]) 6 (ix r7 x82) ag88 sz88 (DecK.flat dT88 fun _ _ => R) sees_rd R hg117.1 hg117.2)
 refine dR 4 R (vLd 0 ag83 R R R) (dR 5 R (vI R) (dR 6 R (vIa sl83 sz88 R R hg120) (d_v 7 (.agg [(iv (ix lives1 (ix (sub r7 (0 : Int) x82) x112)).Buffer), (iv (ix lives1 (ix (sub r7 (0 : Int) x82) x112)).Size), (iv (ix lives1 (ix (sub r7 (0 : Int) x82) x112)).From), (iv (ix lives1 (ix (sub r7 (0 : Int) x82) x112)).To)].toArray) R ?_ R R R ht hn (by kernel_rfl) (sL []) ?_)))
 exact (v_ldef (K := kT88) (cells := fun x => [(iv x.Buffer), (iv x.Size), (iv x.From), (iv x.To)]) 6 (ix (sub r7 (0 : Int) x82) x112) ag88 sz88 (DecK.flat dT88 fun _ _ => R) sees_rd R hg120.1 hg120.2)
 refine d1 8 R (lC 0 cb103 R (Z24_ok hx122) R ?_)
 rintro _
 refine lN (bxl b3 [(sc (ad g118 o119) lives1 D2)] 83 :: _ :: _ :: _ :: OO kT136 136 A111 D111 free110 :: RR kT3 (ad g115 o116) D90 (sub r7 (0 : Int) x82) :: W0) ?_
 refine l_nil (q_draw (sL []) (dD (q_next ?_)))
 rcases bif_ hr with ⟨hb123, hr⟩ | ⟨hb123, hr⟩
 refine c_true R hb123 ?_
 obtain ⟨hg124, hr⟩ := gd hr
 obtain ⟨r127, hx128, hr⟩ := bd hr
 refine c_some 2 sees_ow (show 0 < (List.replicate (lives1.length : Int).toNat (0 : Int)).length by have := hg124; omega) (fun g125 o126 ha => ?_)
 subst ha
 refine cdr 17 [4] mixo (fun ht hn => (dR 0 R (vS R) (hS := (sL [4])) (dR 1 R (vS R) (hS := (sL [4])) (dR 2 R (vI R) (hS := (sL [4])) (dR 3 R (vIa sl22 sz3 R R hg124) (hS := (sL [4])) (dR 4 R (vLi 2 ag3 sees_ow R hg124) (hS := (sL [4])) (dR 5 R (vS R) (hS := (sL [4])) (dR 6 R (vI R) (hS := (sL [4])) (dR 7 R (vIa sl22 sz3 R R hg124) (hS := (sL [4])) (dR 8 R (vLi 2 ag3 sees_ow R hg124) (hS := (sL [4])) (dR 9 R (vLd 0 ag83 R R R) (hS := (sL [4])) (dR 10 R (vI R) (hS := (sL [4])) (dR 11 R (vIa sl83 sz88 R R hg120) (hS := (sL [4])) (dR 12 R (vz (.pointer (some ⟨g118, o119 + (ix (sub r7 (0 : Int) x82) x112).toNat * 4 + 1, none⟩)) (v_fa fo88_1 R R)) (hS := (sL [4])) (dR 13 R (vz (iv (ix lives1 (ix (sub r7 (0 : Int) x82) x112)).Size) (v_lde (K := kT88) (fo := 1) (pr := fun x => (iv x.Size)) 5 (ix (sub r7 (0 : Int) x82) x112) ag3 (dT88.leaf fun _ _ => R) sees_rd R hg120.1 hg120.2)) (hS := (sL [4])) (dR 14 R (vAd R R) (hS := (sL [4])) (d1 15 R ?_)))))))))))))))))
 refine lM (ow _ _ _ _ :: bxl _ _ _ :: rds _ _ _ :: ow kT3 3 (.slice (ad g125 o126) (List.replicate (lives1.length : Int).toNat (0 : Int)).length D11) offsets80 :: bxl _ _ _ :: rds _ _ _ :: W0) (fun w s => (s.e 6 [4, 0, 1, 2, 3, 5])) ?_
 refine lC 1 cb104 R (Z6_ok hx128) R ?_
 rintro ⟨A129, N129, D129⟩
 refine lN (ow kT136 136 (.slice A129 N129 D129) r127 :: _ :: _ :: _ :: _ :: _ :: W0) ?_
 refine l_len 0 sees_ow ?_
 rintro rfl
 refine l_nil (q_draw (sL [0]) (dR 16 R (vS R) (hS := (sL [0])) (dD (q_blockn ?_))))
 exact qI (r127, (A129, r127.length, D129)) hr (fun w s => (s.e 6 [1, 2, 3, 4, 0, 5]))
 refine c_false R hb123 (c_skip (q_blockn ?_))
 exact qI (free110, (A111, free110.length, D111)) hr (fun w s => s)
 rintro ⟨free130, ⟨A131, N131, D131⟩⟩ σ1 hr
 replace hr : Z8_J5 x112 free130 = some out2 := hr
 unfold Z8_J5 at hr
 refine c_len 4 sees_ow (fun (hn : N131 = free130.length) => ?_)
 subst hn
 refine c_region (lO (vAd R R) (lI R (l_nil ?_)))
 obtain rfl := so hr
 exact qA (A131, free130.length, D131) (fun w s => s)
 refine c_false R hb113 (c_exit (q_exit ?_))
 obtain rfl := so hr
 obtain rfl := he2 _ R
 have hr := hk2
 refine q_exit (q_block ?_)
 exact qI (free110, (A111, free110.length, D111)) hr (fun w s => (s.f 6 [0, 5]))
 rintro ⟨free135, ⟨A136, N136, D136⟩⟩ σ1 hr
 replace hr : Z8_J6 lives1 r7 offsets80 peak81 x82 free135 = some out1 := hr
 unfold Z8_J6 at hr
 refine c_len 4 sees_ow (fun (hn : N136 = free135.length) => ?_)
 subst hn
 refine c_seq ?_
 obtain ⟨r137, hx138, hr⟩ := bd hr
 refine c_region (lS R (lO (vp (.func (.func 106) [].toArray [(pt b3 0), (pt b87 0)].toArray) R) (lM (OO kT136 136 A136 D136 free135 :: RR kT88 A2 D2 lives1 :: bxl b3 [(sc A2 lives1 D2)] 83 :: bxl _ _ _ :: rds _ _ _ :: ow kT3 3 (.slice A11 (List.replicate (lives1.length : Int).toNat (0 : Int)).length D11) offsets80 :: W0) (fun w s => ((s.d 5 R).e 6 [5, 0, 1, 4, 2, 3])) ?_)))
 refine lC 4 cb105 R (FnOk.lends (A' := [OO kT136 136 A136 D136 free135]) (A := [RR kT136 A136 D136 free135]) (B := [RR kT88 A2 D2 lives1, bxl b3 [(sc A2 lives1 D2)] 83, bxl b87 [(iv (ix r7 x82))] 3]) (Z0k_ok hx138) ⟨lend_ow, trivial⟩ (fun _ => ⟨closed_bx, closed_bx, trivial⟩)) R ?_
 rintro _
 refine lN (_ :: _ :: _ :: _ :: _ :: W0) ?_
 refine lI R (l_nil (q_next (c_seq ?_)))
 obtain ⟨hg139, hr⟩ := gd hr
 obtain ⟨hg142, hr⟩ := gd hr
 refine c_some 0 sees_ow (show 0 < free135.length by have := hg139; omega) (fun g140 o141 ha => ?_)
 subst ha
 refine c_some 4 sees_ow (show 0 < (List.replicate (lives1.length : Int).toNat (0 : Int)).length by have := hg142; omega) (fun g143 o144 ha => ?_)
 subst ha
 refine cdr 9 [4] mixo (fun ht hn => (dR 0 R (vS R) (hS := (sL [4])) (dR 1 R (vLd 2 ag3 R R R) (hS := (sL [4])) (dR 2 R (vS R) (hS := (sL [4])) (dR 3 R (vI R) (hS := (sL [4])) (dR 4 R (vIa sl137 sz136 R R hg139) (hS := (sL [4])) (dR 5 R (vz (.pointer (some ⟨g140, o141 + r137.toNat * 2, none⟩)) (v_fa fo136_0 R R)) (hS := (sL [4])) (dR 6 R (vz (iv (ix free135 r137).from_) (v_lde (K := kT136) (fo := 0) (pr := fun x => (iv x.from_)) 0 r137 ag3 (dT136.leaf fun _ _ => R) sees_ow R hg139.1 hg139.2)) (hS := (sL [4])) (dR 7 R (vIa sl22 sz3 R R hg142) (hS := (sL [4])) (d1 8 R (lM (ow kT3 3 (.slice (ad g143 o144) (List.replicate (lives1.length : Int).toNat (0 : Int)).length D11) offsets80 :: OO kT136 136 (ad g140 o141) D136 free135 :: bxl _ _ _ :: bxl _ _ _ :: rds _ _ _ :: W0) (fun w s => (s.f 5 [4, 1, 0, 4])) ?_)))))))))))
 refine l_stx (K := kT3) (x' := (ix free135 r137).from_) 0 (ix r7 x82) R R sz3 R R hg142.1 hg142.2 ?_ ?_
 exact fun I h s => (mO3).put I h () ((ix free135 r137).from_) s
 refine lN (ow kT3 3 (.slice (ad g143 o144) (List.replicate (lives1.length : Int).toNat (0 : Int)).length D11) (offsets80.set (ix r7 x82).toNat ((ix free135 r137).from_)) :: _ :: _ :: _ :: _ :: W0) ?_
 refine l_nil (q_draw (sL [0]) (dD (q_next ?_)))
 obtain ⟨hg145, hr⟩ := gd hr
 refine c_some 5 sees_rd (show 0 < lives1.length by have := hg145; omega) (fun g146 o147 ha => ?_)
 subst ha
 refine cdr 13 [] mixo (fun ht hn => (dR 0 R (vI R) (dR 1 R (vS R) (dR 2 R (vLd 3 ag3 R R R) (dR 3 R (vIa sl22 sz3 R R hg142) (dR 4 R (vLi 0 ag3 sees_ow R hg142) (dR 5 R (vLd 2 ag83 R R R) (dR 6 R (vLd 3 ag3 R R R) (dR 7 R (vIa sl83 sz88 R R hg145) (dR 8 R (vz (.pointer (some ⟨g146, o147 + (ix r7 x82).toNat * 4 + 1, none⟩)) (v_fa fo88_1 R R)) (dR 9 R (vz (iv (ix lives1 (ix r7 x82)).Size) (v_lde (K := kT88) (fo := 1) (pr := fun x => (iv x.Size)) 5 (ix r7 x82) ag3 (dT88.leaf fun _ _ => R) sees_rd R hg145.1 hg145.2)) (dR 10 R (vAd R R) (dR 11 R (vz (iv (if (w64 ((ix (offsets80.set (ix r7 x82).toNat ((ix free135 r137).from_)) (ix r7 x82)) + (ix lives1 (ix r7 x82)).Size)) > peak81 then (w64 ((ix (offsets80.set (ix r7 x82).toNat ((ix free135 r137).from_)) (ix r7 x82)) + (ix lives1 (ix r7 x82)).Size)) else peak81)) (v_max R R)) (dR 12 R (vI R) (dD (q_blockn (q_next (c_region (lO (vAd R R) (lI R (l_nil ?_)))))))))))))))))))))
 obtain rfl := so hr
 exact qA ((ad g85 o86), r7.length, D79) (fun w s => (s.e 5 [2, 4, 0]))
 refine c_false R hb83 (c_exit (q_exit ?_))
 obtain rfl := so hr
 obtain rfl := he1 _ R
 have hr := hk1
 refine q_exit (q_block ?_)
 exact qI ((offsets80, peak81), ()) hr (fun w s => (s.e 3 [2]))
 rintro ⟨⟨offsets152, peak153⟩, _⟩ σ1 hr
 replace hr : Z8_J7 offsets152 peak153 = some r := hr
 unfold Z8_J7 at hr
 refine c_seq (c_region (lS R (lI R (lS R (lI R (l_nil (q_next (c_ret ?_))))))))
 obtain rfl := so hr
 exact q_fin (vs := [(sc A11 (List.replicate (lives1.length : Int).toNat (0 : Int)) D11), (iv peak153)]) (.inl R) (A11, (List.replicate (lives1.length : Int).toNat (0 : Int)).length, D11) R ⟨R, R, trivial⟩ R (fun w s => (s.e 2 [0]))
theorem Z0r_ok {s1 : List Int} {a_2 : Option Addr} {n_2 c_2 : Nat} {r : (List Int)} (hr : Z0r s1 = some r) :
    FnOk Tryz.prog 83 [(.slice a_2 n_2 c_2)] [rds kT3 (.slice a_2 n_2 c_2) s1] (fun (h : (Option Addr × Nat × Nat)) => ((.slice h.1 h.2.1 h.2.2), [ow kT3 3 (.slice h.1 h.2.1 h.2.2) r])) := by
  unfold Z0r at hr
  obtain ⟨hg, hr⟩ := gd hr
  obtain rfl := Option.some.inj hr
  refine fn_ok Tryz.func83 rfl 8 rfl rfl fun C V => (c_st (V' := rds kT3 (.slice a_2 n_2 c_2) s1 :: V) (fun w s => s) (c_len 0 sees_rd (fun (hn : n_2 = s1.length) => ?_)))
  subst hn
  refine c_seq (c_region (lS rfl (l_nil (q_next (c_seq (c_seq (c_region (lS rfl (l_v (.bool a_2.isNone) (v_snil sl22 rfl rfl) rfl rfl (l_nil (q_next ?_)))))))))))
  rcases Bool.eq_false_or_eq_true a_2.isNone with ha | ha
  · refine c_true rfl ha ?_
    refine c_nilx 0 sees_rd ha (fun (hx : s1 = []) => ?_)
    subst hx
    refine c_seq (c_region (lS rfl (l_nil (q_next (c_ret (q_ret ?_))))))
    exact q_fin (vs := [(.slice none 0 0)]) (.inl rfl) (none, 0, 0) rfl ⟨rfl, trivial⟩ rfl (fun w s => ((s.nilo kT3 3).sel 2 [0] rfl rfl))
  · refine c_false rfl ha (c_skip (q_next ?_))
    refine c_seq (c_region (l_build (K := kT3) (xs := ([] : List Int)) (vs := []) 0 rfl rfl sl22 sz3 zc3 rfl rfl rfl rfl rfl rfl ?_ rfl (fun a_3 c_3 => ?_)))
    · exact fun I h s => (mO3).list [] I h s
    refine lS rfl (l_app (K := kT3) 17592186044416 rfl rfl sl22 sz3 by3 (Zr.zk zT3 zc3) rfl rfl rfl rfl rfl rfl (src_rd (Kind.scal_flat _ _)) (by simpa using hg) (fun a_4 c_4 => (lS rfl (l_nil (q_next (c_ret ?_))))))
    exact q_fin (vs := [(.slice a_4 s1.length c_4)]) (.inl rfl) (a_4, s1.length, c_4) rfl ⟨rfl, trivial⟩ rfl (fun w s => s)
theorem Z1n_ok  {f1 : Fix} {r : Fix} (hr : Z1n f1 = some r) :
 FnOk Tryz.prog 108 [(.agg [(iv f1.Buffer), (.slice A2 N2 D2)].toArray)] [rds kT3 (.slice A2 N2 D2) f1.Data] (fun (h : HH) => ((.agg [(iv r.Buffer), (.slice h.1 h.2.1 h.2.2)].toArray), [ow kT3 3 (.slice h.1 h.2.1 h.2.2) r.Data])) := by
 unfold Z1n at hr
 refine fn_ok Tryz.func108 R 9 R R fun C V => ?_
 refine cN (_ :: V) ?_
 refine cL 0 sees_rd ?_
 rintro rfl
 let W0 : List HP := RR kT3 A2 D2 f1.Data :: V
 refine cN W0 ?_
 refine c_seq (c_region (lBx R (fun b3 => (l_alloc R R zc57 (fun b4 => (l_nil ?_))))))
 let W1 : List HP := bxl b3 [(iv f1.Buffer), (sc A2 f1.Data D2)] 57 :: W0
 refine qN (_ :: W1) ?_
 refine q_next (c_seq ?_)
 obtain ⟨r5, hx6, hr⟩ := bd hr
 refine cdr 7 [0] mixo (fun ht hn => (dR 0 R (vFa 0 fo57_0 R) (hS := (sL [0])) (dR 1 R (vLd 0 ag3 R R R) (hS := (sL [0])) (dR 2 R (vFa 1 fo57_1 R) (hS := (sL [0])) (dR 3 R (vLd 0 ag22 R R R) (hS := (sL [0])) (d1 4 R (lM (RR kT3 A2 D2 f1.Data :: _ :: W1) (fun w s => (s.d 2 R)) ?_)))))))
 refine lC 1 cb83 R (Z0r_ok hx6) R ?_
 rintro ⟨A7, N7, D7⟩
 refine lN (ow kT3 3 (.slice A7 N7 D7) r5 :: _ :: W1) ?_
 refine l_len 0 sees_ow ?_
 rintro rfl
 refine l_nil (q_draw (sL [1, 0]) (dR 5 R (vz (.agg [(iv f1.Buffer), (sc A7 r5 D7)].toArray) (v_build pl57 zc57 R R)) (hS := (sL [1, 0])) (d1 6 R (l_stores 1 R R sz57 R R R R R R (lN (_ :: bxl b4 [(iv f1.Buffer), (sc A7 r5 D7)] 57 :: W1) ?_)))))
 refine l_nil (q_draw (sL [1, 0]) (dD (q_next (c_ret ?_))))
 obtain rfl := so hr
 exact q_fin (vs := [(.agg [(iv f1.Buffer), (sc A7 r5 D7)].toArray)]) (.inl R) (A7, r5.length, D7) R ⟨⟨1, b4, _, _, R, R, .inl ⟨ag57, sz57, R⟩⟩, trivial⟩ R (fun w s => (s.e 4 [0]))
end Go.Proofs.YtkfgngcfcoplpaaGreat
