import Derived.Test.YtkfgngcfcoplpaaGuW4
set_option linter.unusedVariables false
set_option maxRecDepth 20000
namespace Go.Proofs.Ytkfgngcfcoplpaa
open Go Go.Pg
variable {A2 A3 A4 A5 A6 A7 A8 A9 A11 : Option Addr} {D2 D3 D4 D5 D6 D7 D8 D9 D11 N2 N3 N4 N5 N6 N7 N8 N9 N11 : Nat}
theorem Z0_S_ok {rf : (List Int) → Int → Int → Int → (List Int) → Option ((List Int))} (hrf : ∀ {data1 : (List Int)} {a3 : Int} {m4 : Int} {b5 : Int} {q9 : (List Int)} {b8 : Nat} {b10 : Nat} {A2 A11 : Option Addr} {N2 D2 N11 D11 : Nat} {r : (List Int)}, rf data1 a3 m4 b5 q9 = some r → FnOk Try.prog 108 [(.slice A2 N2 D2), (iv a3), (iv m4), (iv b5), (.func (.func 90) [].toArray [(pt b8 0), (pt b10 0)].toArray)] [ow (kT3).share 3 (.slice A2 N2 D2) data1, bxl b8 [(.func (.func 80) [].toArray [].toArray)] 97, rds kT3 (.slice A11 N11 D11) q9, bxl b10 [(.slice A11 N11 D11)] 29] (fun (h : Unit) => ((.tuple [].toArray), [ow (kT3).share 3 (.slice A2 N2 D2) r, bxl b8 [(.func (.func 80) [].toArray [].toArray)] 97, bxl b10 [(.slice A11 N11 D11)] 29]))) {data1 : (List Int)} {a3 : Int} {m4 : Int} {b5 : Int} {q9 : (List Int)} {b8 : Nat} {b10 : Nat} {r : (List Int)} (hr : Z0_S rf data1 a3 m4 b5 q9 = some r) :
 FnOk Try.prog 108 [(.slice A2 N2 D2), (iv a3), (iv m4), (iv b5), (.func (.func 90) [].toArray [(pt b8 0), (pt b10 0)].toArray)] [ow (kT3).share 3 (.slice A2 N2 D2) data1, bxl b8 [(.func (.func 80) [].toArray [].toArray)] 97, rds kT3 (.slice A11 N11 D11) q9, bxl b10 [(.slice A11 N11 D11)] 29] (fun (h : Unit) => ((.tuple [].toArray), [ow (kT3).share 3 (.slice A2 N2 D2) r, bxl b8 [(.func (.func 80) [].toArray [].toArray)] 97, bxl b10 [(.slice A11 N11 D11)] 29])) := by
 unfold Z0_S at hr
 refine fn_ok Try.func108 R 220 R R fun C V => ?_
 refine cM (ow _ _ _ _ :: bxl _ _ _ :: bxl _ _ _ :: rds _ _ _ :: V) (fun w s => (s.e 4 [0, 1, 3, 2])) ?_
 refine cL 0 sees_sh ?_
 rintro rfl
 refine cL 3 sees_rd ?_
 rintro rfl
 let W0 : List HP := RR kT3 A11 D11 q9 :: V
 refine cN (_ :: _ :: bxl b10 [(sc A11 q9 D11)] 29 :: W0) ?_
 refine c_seq (c_seq (c_region (lI R (lI R (lO (vSb R R) (lO (vEq R R) (l_nil (q_next ?_))))))))
 rcases bif_ hr with ⟨hb12, hr⟩ | ⟨hb12, hr⟩
 refine c_true R hb12 (c_seq (c_region (lI R (lI R (l_nil (q_next (c_seq (c_region (lI R (lI R (l_nil (q_next (c_seq (c_cut (A := (Int) × (Unit)) (fun a => Z0_J9 data1 a3 a.1 = some r) (fun a => [(0, (sc A2 data1 D2)), (1, (iv a3)), (10, (iv a.1))]) (fun a => OO (kT3).share 3 A2 D2 data1 :: bxl b8 [(.func (.func 80) [].toArray [].toArray)] 97 :: bxl b10 [(sc A11 q9 D11)] 29 :: W0) ?_ ?_))))))))))))))
 refine c_block ?_
 obtain ⟨e1, hl1, hk1⟩ := bd hr
 refine c_loop (A := Unit) hl1 (fun s a => [(0, (sc A2 data1 D2)), (1, (iv a3)), (4, (.func (.func 90) [].toArray [(pt b8 0), (pt b10 0)].toArray)), (10, (iv s.1)), (11, (iv s.2))]) (fun s a => OO (kT3).share 3 A2 D2 data1 :: bxl b8 [(.func (.func 80) [].toArray [].toArray)] 97 :: bxl b10 [(sc A11 q9 D11)] 29 :: W0) () (aS R) (fun w s => s) ?_
 rintro ⟨i21, j22⟩ _ σ1 out1 hr he1
 replace hr : Z0_L1 data1 a3 q9 i21 j22 = some out1 := hr
 unfold Z0_L1 at hr
 refine c_seq (c_seq (c_region (lI R (lI R (lO (vLt R R) (l_nil (q_next ?_)))))))
 rcases bif_ hr with ⟨hb23, hr⟩ | ⟨hb23, hr⟩
 refine c_true R hb23 (c_skip (q_next (c_block (c_seq (c_region (lI R (lI R (lO (vAd R R) (lO (vz (.int .u64 (IntKind.wrap .u64 ((w64 (i21 + j22))))) (v_conv un3 un92 R)) (lO (vz (.int .u64 ((IntKind.wrap .u64 ((w64 (i21 + j22)))) / 2 ^ (1 : Int).toNat)) (v_shr R R (by decide) (by decide))) (lO (vz (iv (w64 (((IntKind.wrap .u64 ((w64 (i21 + j22)))) / 2 ^ (1 : Int).toNat)))) (v_conv un92 un3 R)) (lI R (l_nil (q_next (c_seq ?_)))))))))))))))
 obtain ⟨hg24, hr⟩ := gd hr
 obtain ⟨hg27, hr⟩ := gd hr
 obtain ⟨r28, hx29, hr⟩ := bd hr
 refine c_some 0 sees_sh (show 0 < data1.length by have := hg24; omega) (fun g25 o26 ha => ?_)
 subst ha
 refine cdr 11 [] mixo (fun ht hn => (dR 0 R (vp (.func (.func 90) [].toArray [(pt b8 0), (pt b10 0)].toArray) R) (dR 1 R (vS R) (dR 2 R (vI R) (dR 3 R (vIa sl29 sz3 R R hg24) (dR 4 R (vLi 0 ag3 sees_sh R hg24) (dR 5 R (vS R) (dR 6 R (vI R) (dR 7 R (vIa sl29 sz3 R R hg27) (dR 8 R (vLi 0 ag3 sees_sh R hg27) (d1 9 R (lM (bxl _ _ _ :: RR kT3 A11 D11 q9 :: bxl _ _ _ :: OO (kT3).share 3 (ad g25 o26) D2 data1 :: W0) (fun w s => ((s.d 3 R).e 4 [2, 0, 3, 1])) ?_))))))))))))
 refine l_callvn (fs := []) (cs := [(pt b8 0), (pt b10 0)]) 3 R R cb90 R R (Z0j_ok hx29) R ?_
 rintro _
 refine lN (_ :: _ :: _ :: W0) ?_
 refine l_nil (q_draw (fun w s => (s.e 3 [2, 0, 1])) (dR 10 R (vLt R R) (hS := (fun w s => (s.e 3 [2, 0, 1]))) (dD (q_next ?_))))
 rcases bif_ hr with ⟨hb30, hr⟩ | ⟨hb30, hr⟩
 refine c_true R hb30 (c_region (lI R (lO (vAd R R) (lI R (l_nil (q_blockn ?_))))))
 obtain rfl := so hr
 exact qA () (fun w s => (s.e 3 [2, 0, 1]))
 refine c_false R hb30 (c_region (lI R (lI R (l_nil (q_blockn ?_)))))
 obtain rfl := so hr
 exact qA () (fun w s => (s.e 3 [2, 0, 1]))
 refine c_false R hb23 (c_exit (q_exit ?_))
 obtain rfl := so hr
 obtain rfl := he1 _ R
 have hr := hk1
 refine q_exit (q_block ?_)
 exact qI (i21, ()) hr (fun w s => s)
 rintro ⟨i33, _⟩ σ1 hr
 replace hr : Z0_J9 data1 a3 i33 = some r := hr
 unfold Z0_J9 at hr
 refine c_seq (c_cut (A := ((List Int)) × (Unit)) (fun a => Z0_J10 a.1 = some r) (fun a => []) (fun a => ow (kT3).share 3 (.slice A2 data1.length D2) a.1 :: bxl b8 [(.func (.func 80) [].toArray [].toArray)] 97 :: bxl b10 [(sc A11 q9 D11)] 29 :: W0) ?_ ?_)
 refine c_seq (c_region (lI R (lI R (l_nil (q_next (c_block ?_))))))
 obtain ⟨e2, hl2, hk2⟩ := bd hr
 refine c_loop (A := Unit) hl2 (fun s a => [(0, (sc A2 data1 D2)), (10, (iv i33)), (13, (iv s.2))]) (fun s a => ow (kT3).share 3 (.slice A2 data1.length D2) s.1 :: bxl b8 [(.func (.func 80) [].toArray [].toArray)] 97 :: bxl b10 [(sc A11 q9 D11)] 29 :: W0) () (aS R) (fun w s => s) ?_
 rintro ⟨data41, k42⟩ _ σ1 out2 hr he2
 replace hr : Z0_L2 data1 i33 data41 k42 = some out2 := hr
 unfold Z0_L2 at hr
 refine c_seq (c_seq (c_region (lI R (lI R (lO (vSb R R) (lO (vLt R R) (l_nil (q_next ?_))))))))
 rcases bif_ hr with ⟨hb43, hr⟩ | ⟨hb43, hr⟩
 refine c_true R hb43 (c_skip (q_next (c_seq (c_block ?_))))
 obtain ⟨hg44, hr⟩ := gd hr
 obtain ⟨hg47, hr⟩ := gd hr
 refine cQ [(0, (sc A2 data1 D2)), (10, (iv i33)), (13, (iv k42))] (ow (kT3).share 3 (.slice A2 data1.length D2) ((data41.set k42.toNat (ix data41 (w64 (k42 + (1 : Int))))).set (w64 (k42 + (1 : Int))).toNat (ix data41 k42)) :: bxl b8 [(.func (.func 80) [].toArray [].toArray)] 97 :: bxl b10 [(sc A11 q9 D11)] 29 :: W0) ?_ ?_
 refine c_some 0 sees_sh (show 0 < data1.length by have := hg44; omega) (fun g45 o46 ha => ?_)
 subst ha
 refine cdr 18 [0] mixo (fun ht hn => (dR 0 R (vS R) (hS := (sL [0])) (dR 1 R (vI R) (hS := (sL [0])) (dR 2 R (vS R) (hS := (sL [0])) (dR 3 R (vI R) (hS := (sL [0])) (dR 4 R (vAd R R) (hS := (sL [0])) (dR 5 R (vS R) (hS := (sL [0])) (dR 6 R (vI R) (hS := (sL [0])) (dR 7 R (vAd R R) (hS := (sL [0])) (dR 8 R (vIa sl29 sz3 R R hg44) (hS := (sL [0])) (dR 10 R (vS R) (hS := (sL [0])) (dR 11 R (vI R) (hS := (sL [0])) (dR 12 R (vIa sl29 sz3 R R hg47) (hS := (sL [0])) (d_all [9, 13] (by kernel_rfl) R ⟨?_, ?_, trivial⟩))))))))))))))
 refine lO (vLi 0 ag3 sees_sh R hg44) (l_nil (q_draw (sL [0]) (d1 13 R (lO (vLi 0 ag3 sees_sh R hg47) (l_nil (q_draw (sL [0]) (dR 14 R (vIa sl29 sz3 R R hg47) (hS := (sL [0])) (d1 15 R (lN (ow (kT3).share 3 (.slice (ad g45 o46) data1.length D2) data41 :: _ :: _ :: W0) ?_)))))))))
 refine l_stx (K := (kT3).share) (x' := (ix data41 (w64 (k42 + (1 : Int))))) 0 k42 R R sz3 R R hg47.1 hg47.2 ?_ ?_
 exact fun I h s => (mS3).put I h () (ix data41 (w64 (k42 + (1 : Int)))) s
 refine lN (ow (kT3).share 3 (.slice (ad g45 o46) data1.length D2) (data41.set k42.toNat (ix data41 (w64 (k42 + (1 : Int))))) :: _ :: _ :: W0) ?_
 refine l_nil (q_draw (sL [0]) (dR 16 R (vIa sl29 sz3 R R hg44) (hS := (sL [0])) (d1 17 R (l_stx (K := (kT3).share) (x' := (ix data41 k42)) 0 (w64 (k42 + (1 : Int))) R R sz3 R R hg44.1 hg44.2 ?_ ?_))))
 exact fun I h s => (mS3).put I h () (ix data41 k42) s
 refine lN (ow (kT3).share 3 (.slice (ad g45 o46) data1.length D2) ((data41.set k42.toNat (ix data41 (w64 (k42 + (1 : Int))))).set (w64 (k42 + (1 : Int))).toNat (ix data41 k42)) :: _ :: _ :: W0) ?_
 refine l_nil (q_draw (sL [0]) (dD ?_))
 exact qJ (fun w s => s)
 refine lO (vLi 0 ag3 sees_sh R hg47) (l_nil (q_draw (sL [0]) (d1 9 R (lO (vLi 0 ag3 sees_sh R hg44) (l_nil (q_draw (sL [0]) (dR 14 R (vIa sl29 sz3 R R hg47) (hS := (sL [0])) (d1 15 R (lN (ow (kT3).share 3 (.slice (ad g45 o46) data1.length D2) data41 :: _ :: _ :: W0) ?_)))))))))
 refine l_stx (K := (kT3).share) (x' := (ix data41 (w64 (k42 + (1 : Int))))) 0 k42 R R sz3 R R hg47.1 hg47.2 ?_ ?_
 exact fun I h s => (mS3).put I h () (ix data41 (w64 (k42 + (1 : Int)))) s
 refine lN (ow (kT3).share 3 (.slice (ad g45 o46) data1.length D2) (data41.set k42.toNat (ix data41 (w64 (k42 + (1 : Int))))) :: _ :: _ :: W0) ?_
 refine l_nil (q_draw (sL [0]) (dR 16 R (vIa sl29 sz3 R R hg44) (hS := (sL [0])) (d1 17 R (l_stx (K := (kT3).share) (x' := (ix data41 k42)) 0 (w64 (k42 + (1 : Int))) R R sz3 R R hg44.1 hg44.2 ?_ ?_))))
 exact fun I h s => (mS3).put I h () (ix data41 k42) s
 refine lN (ow (kT3).share 3 (.slice (ad g45 o46) data1.length D2) ((data41.set k42.toNat (ix data41 (w64 (k42 + (1 : Int))))).set (w64 (k42 + (1 : Int))).toNat (ix data41 k42)) :: _ :: _ :: W0) ?_
 refine l_nil (q_draw (sL [0]) (dD ?_))
 exact qJ (fun w s => s)
 rintro σ1
 obtain ⟨l48, hl49, hr⟩ := bd hr
 replace hl49 := Option.some.inj hl49
 refine qM (ow (kT3).share 3 (.slice A2 data1.length D2) l48 :: _ :: _ :: W0) (fun w s => by rw [← hl49]; exact s) ?_
 refine q_blockn (q_next (c_region (lI R (lO (vAd R R) (lI R (l_nil ?_))))))
 obtain rfl := so hr
 exact qA () (fun w s => s)
 refine c_false R hb43 (c_exit (q_exit ?_))
 obtain rfl := so hr
 obtain rfl := he2 _ R
 have hr := hk2
 refine q_exit (q_block ?_)
 exact q_join (data41, ()) hr trivial (fun w s => s)
 rintro ⟨p52, _⟩ σ1 hr
 replace hr : Z0_J10 p52 = some r := hr
 unfold Z0_J10 at hr
 refine c_ret (q_ret ?_)
 obtain rfl := so hr
 exact q_fin (vs := []) (.inl R) () R trivial R (fun w s => (s.f 4 [0, 3]))
 refine c_false R hb12 (c_skip (q_next (c_seq (c_seq (c_region (lI R (lI R (lO (vSb R R) (lO (vEq R R) (l_nil (q_next ?_)))))))))))
 rcases bif_ hr with ⟨hb53, hr⟩ | ⟨hb53, hr⟩
 refine c_true R hb53 (c_seq (c_region (lI R (lI R (l_nil (q_next (c_seq (c_region (lI R (lI R (l_nil (q_next (c_seq (c_cut (A := (Int) × (Unit)) (fun a => Z0_J11 data1 m4 a.1 = some r) (fun a => [(0, (sc A2 data1 D2)), (2, (iv m4)), (14, (iv a.1))]) (fun a => OO (kT3).share 3 A2 D2 data1 :: bxl b8 [(.func (.func 80) [].toArray [].toArray)] 97 :: bxl b10 [(sc A11 q9 D11)] 29 :: W0) ?_ ?_))))))))))))))
 refine c_block ?_
 obtain ⟨e3, hl3, hk3⟩ := bd hr
 refine c_loop (A := Unit) hl3 (fun s a => [(0, (sc A2 data1 D2)), (2, (iv m4)), (4, (.func (.func 90) [].toArray [(pt b8 0), (pt b10 0)].toArray)), (14, (iv s.1)), (15, (iv s.2))]) (fun s a => OO (kT3).share 3 A2 D2 data1 :: bxl b8 [(.func (.func 80) [].toArray [].toArray)] 97 :: bxl b10 [(sc A11 q9 D11)] 29 :: W0) () (aS R) (fun w s => s) ?_
 rintro ⟨i62, j63⟩ _ σ1 out3 hr he3
 replace hr : Z0_L3 data1 m4 q9 i62 j63 = some out3 := hr
 unfold Z0_L3 at hr
 refine c_seq (c_seq (c_region (lI R (lI R (lO (vLt R R) (l_nil (q_next ?_)))))))
 rcases bif_ hr with ⟨hb64, hr⟩ | ⟨hb64, hr⟩
 refine c_true R hb64 (c_skip (q_next (c_block (c_seq (c_region (lI R (lI R (lO (vAd R R) (lO (vz (.int .u64 (IntKind.wrap .u64 ((w64 (i62 + j63))))) (v_conv un3 un92 R)) (lO (vz (.int .u64 ((IntKind.wrap .u64 ((w64 (i62 + j63)))) / 2 ^ (1 : Int).toNat)) (v_shr R R (by decide) (by decide))) (lO (vz (iv (w64 (((IntKind.wrap .u64 ((w64 (i62 + j63)))) / 2 ^ (1 : Int).toNat)))) (v_conv un92 un3 R)) (lI R (l_nil (q_next (c_seq ?_)))))))))))))))
 obtain ⟨hg65, hr⟩ := gd hr
 obtain ⟨hg68, hr⟩ := gd hr
 obtain ⟨r69, hx70, hr⟩ := bd hr
 refine c_some 0 sees_sh (show 0 < data1.length by have := hg65; omega) (fun g66 o67 ha => ?_)
 subst ha
 refine cdr 12 [] mixo (fun ht hn => (dR 0 R (vp (.func (.func 90) [].toArray [(pt b8 0), (pt b10 0)].toArray) R) (dR 1 R (vS R) (dR 2 R (vI R) (dR 3 R (vIa sl29 sz3 R R hg65) (dR 4 R (vLi 0 ag3 sees_sh R hg65) (dR 5 R (vS R) (dR 6 R (vI R) (dR 7 R (vIa sl29 sz3 R R hg68) (dR 8 R (vLi 0 ag3 sees_sh R hg68) (d1 9 R (lM (bxl _ _ _ :: RR kT3 A11 D11 q9 :: bxl _ _ _ :: OO (kT3).share 3 (ad g66 o67) D2 data1 :: W0) (fun w s => ((s.d 3 R).e 4 [2, 0, 3, 1])) ?_))))))))))))
 refine l_callvn (fs := []) (cs := [(pt b8 0), (pt b10 0)]) 3 R R cb90 R R (Z0j_ok hx70) R ?_
 rintro _
 refine lN (_ :: _ :: _ :: W0) ?_
 refine l_nil (q_draw (fun w s => (s.e 3 [2, 0, 1])) (dR 10 R (vLt R R) (hS := (fun w s => (s.e 3 [2, 0, 1]))) (dR 11 R (vNo R) (hS := (fun w s => (s.e 3 [2, 0, 1]))) (dD (q_next ?_)))))
 rcases bif_ hr with ⟨hb71, hr⟩ | ⟨hb71, hr⟩
 refine c_true R hb71 (c_region (lI R (lO (vAd R R) (lI R (l_nil (q_blockn ?_))))))
 obtain rfl := so hr
 exact qA () (fun w s => (s.e 3 [2, 0, 1]))
 refine c_false R hb71 (c_region (lI R (lI R (l_nil (q_blockn ?_)))))
 obtain rfl := so hr
 exact qA () (fun w s => (s.e 3 [2, 0, 1]))
 refine c_false R hb64 (c_exit (q_exit ?_))
 obtain rfl := so hr
 obtain rfl := he3 _ R
 have hr := hk3
 refine q_exit (q_block ?_)
 exact qI (i62, ()) hr (fun w s => s)
 rintro ⟨i74, _⟩ σ1 hr
 replace hr : Z0_J11 data1 m4 i74 = some r := hr
 unfold Z0_J11 at hr
 refine c_seq (c_cut (A := ((List Int)) × (Unit)) (fun a => Z0_J12 a.1 = some r) (fun a => []) (fun a => ow (kT3).share 3 (.slice A2 data1.length D2) a.1 :: bxl b8 [(.func (.func 80) [].toArray [].toArray)] 97 :: bxl b10 [(sc A11 q9 D11)] 29 :: W0) ?_ ?_)
 refine c_seq (c_region (lI R (lI R (l_nil (q_next (c_block ?_))))))
 obtain ⟨e4, hl4, hk4⟩ := bd hr
 refine c_loop (A := Unit) hl4 (fun s a => [(0, (sc A2 data1 D2)), (14, (iv i74)), (17, (iv s.2))]) (fun s a => ow (kT3).share 3 (.slice A2 data1.length D2) s.1 :: bxl b8 [(.func (.func 80) [].toArray [].toArray)] 97 :: bxl b10 [(sc A11 q9 D11)] 29 :: W0) () (aS R) (fun w s => s) ?_
 rintro ⟨data82, k83⟩ _ σ1 out4 hr he4
 replace hr : Z0_L4 data1 i74 data82 k83 = some out4 := hr
 unfold Z0_L4 at hr
 refine c_seq (c_seq (c_region (lI R (lI R (lO (vGt R R) (l_nil (q_next ?_)))))))
 rcases bif_ hr with ⟨hb84, hr⟩ | ⟨hb84, hr⟩
 refine c_true R hb84 (c_skip (q_next (c_seq (c_block ?_))))
 obtain ⟨hg85, hr⟩ := gd hr
 obtain ⟨hg88, hr⟩ := gd hr
 refine cQ [(0, (sc A2 data1 D2)), (14, (iv i74)), (17, (iv k83))] (ow (kT3).share 3 (.slice A2 data1.length D2) ((data82.set k83.toNat (ix data82 (w64 (k83 - (1 : Int))))).set (w64 (k83 - (1 : Int))).toNat (ix data82 k83)) :: bxl b8 [(.func (.func 80) [].toArray [].toArray)] 97 :: bxl b10 [(sc A11 q9 D11)] 29 :: W0) ?_ ?_
 refine c_some 0 sees_sh (show 0 < data1.length by have := hg85; omega) (fun g86 o87 ha => ?_)
 subst ha
 refine cdr 18 [0] mixo (fun ht hn => (dR 0 R (vS R) (hS := (sL [0])) (dR 1 R (vI R) (hS := (sL [0])) (dR 2 R (vS R) (hS := (sL [0])) (dR 3 R (vI R) (hS := (sL [0])) (dR 4 R (vSb R R) (hS := (sL [0])) (dR 5 R (vS R) (hS := (sL [0])) (dR 6 R (vI R) (hS := (sL [0])) (dR 7 R (vSb R R) (hS := (sL [0])) (dR 8 R (vIa sl29 sz3 R R hg85) (hS := (sL [0])) (dR 10 R (vS R) (hS := (sL [0])) (dR 11 R (vI R) (hS := (sL [0])) (dR 12 R (vIa sl29 sz3 R R hg88) (hS := (sL [0])) (d_all [9, 13] (by kernel_rfl) R ⟨?_, ?_, trivial⟩))))))))))))))
 refine lO (vLi 0 ag3 sees_sh R hg85) (l_nil (q_draw (sL [0]) (d1 13 R (lO (vLi 0 ag3 sees_sh R hg88) (l_nil (q_draw (sL [0]) (dR 14 R (vIa sl29 sz3 R R hg88) (hS := (sL [0])) (d1 15 R (lN (ow (kT3).share 3 (.slice (ad g86 o87) data1.length D2) data82 :: _ :: _ :: W0) ?_)))))))))
 refine l_stx (K := (kT3).share) (x' := (ix data82 (w64 (k83 - (1 : Int))))) 0 k83 R R sz3 R R hg88.1 hg88.2 ?_ ?_
 exact fun I h s => (mS3).put I h () (ix data82 (w64 (k83 - (1 : Int)))) s
 refine lN (ow (kT3).share 3 (.slice (ad g86 o87) data1.length D2) (data82.set k83.toNat (ix data82 (w64 (k83 - (1 : Int))))) :: _ :: _ :: W0) ?_
 refine l_nil (q_draw (sL [0]) (dR 16 R (vIa sl29 sz3 R R hg85) (hS := (sL [0])) (d1 17 R (l_stx (K := (kT3).share) (x' := (ix data82 k83)) 0 (w64 (k83 - (1 : Int))) R R sz3 R R hg85.1 hg85.2 ?_ ?_))))
 exact fun I h s => (mS3).put I h () (ix data82 k83) s
 refine lN (ow (kT3).share 3 (.slice (ad g86 o87) data1.length D2) ((data82.set k83.toNat (ix data82 (w64 (k83 - (1 : Int))))).set (w64 (k83 - (1 : Int))).toNat (ix data82 k83)) :: _ :: _ :: W0) ?_
 refine l_nil (q_draw (sL [0]) (dD ?_))
 exact qJ (fun w s => s)
 refine lO (vLi 0 ag3 sees_sh R hg88) (l_nil (q_draw (sL [0]) (d1 9 R (lO (vLi 0 ag3 sees_sh R hg85) (l_nil (q_draw (sL [0]) (dR 14 R (vIa sl29 sz3 R R hg88) (hS := (sL [0])) (d1 15 R (lN (ow (kT3).share 3 (.slice (ad g86 o87) data1.length D2) data82 :: _ :: _ :: W0) ?_)))))))))
 refine l_stx (K := (kT3).share) (x' := (ix data82 (w64 (k83 - (1 : Int))))) 0 k83 R R sz3 R R hg88.1 hg88.2 ?_ ?_
 exact fun I h s => (mS3).put I h () (ix data82 (w64 (k83 - (1 : Int)))) s
 refine lN (ow (kT3).share 3 (.slice (ad g86 o87) data1.length D2) (data82.set k83.toNat (ix data82 (w64 (k83 - (1 : Int))))) :: _ :: _ :: W0) ?_
 refine l_nil (q_draw (sL [0]) (dR 16 R (vIa sl29 sz3 R R hg85) (hS := (sL [0])) (d1 17 R (l_stx (K := (kT3).share) (x' := (ix data82 k83)) 0 (w64 (k83 - (1 : Int))) R R sz3 R R hg85.1 hg85.2 ?_ ?_))))
 exact fun I h s => (mS3).put I h () (ix data82 k83) s
 refine lN (ow (kT3).share 3 (.slice (ad g86 o87) data1.length D2) ((data82.set k83.toNat (ix data82 (w64 (k83 - (1 : Int))))).set (w64 (k83 - (1 : Int))).toNat (ix data82 k83)) :: _ :: _ :: W0) ?_
 refine l_nil (q_draw (sL [0]) (dD ?_))
 exact qJ (fun w s => s)
 rintro σ1
 obtain ⟨l89, hl90, hr⟩ := bd hr
 replace hl90 := Option.some.inj hl90
 refine qM (ow (kT3).share 3 (.slice A2 data1.length D2) l89 :: _ :: _ :: W0) (fun w s => by rw [← hl90]; exact s) ?_
 refine q_blockn (q_next (c_region (lI R (lO (vSb R R) (lI R (l_nil ?_))))))
 obtain rfl := so hr
 exact qA () (fun w s => s)
 refine c_false R hb84 (c_exit (q_exit ?_))
 obtain rfl := so hr
 obtain rfl := he4 _ R
 have hr := hk4
 refine q_exit (q_block ?_)
 exact q_join (data82, ()) hr trivial (fun w s => s)
 rintro ⟨p93, _⟩ σ1 hr
 replace hr : Z0_J12 p93 = some r := hr
 unfold Z0_J12 at hr
 refine c_ret (q_ret ?_)
 obtain rfl := so hr
 exact q_fin (vs := []) (.inl R) () R trivial R (fun w s => (s.f 4 [0, 3]))
 refine c_false R hb53 (c_skip (q_next (c_seq (c_region (lI R (lI R (lO (vAd R R) (lO (vz (.int .u64 (IntKind.wrap .u64 ((w64 (a3 + b5))))) (v_conv un3 un92 R)) (lO (vz (.int .u64 ((IntKind.wrap .u64 ((w64 (a3 + b5)))) / 2 ^ (1 : Int).toNat)) (v_shr R R (by decide) (by decide))) (lO (vz (iv (w64 (((IntKind.wrap .u64 ((w64 (a3 + b5)))) / 2 ^ (1 : Int).toNat)))) (v_conv un92 un3 R)) (lI R (l_nil (q_next (c_seq (c_region (lI R (lI R (lO (vAd R R) (lI R (l_nil (q_next (c_seq (c_region (lI R (lI R (l_nil (q_next ?_)))))))))))))))))))))))))))
 refine c_seq (c_cut (A := (Int × Int) × (Unit)) (fun a => Z0_J13 data1 a3 m4 b5 q9 rf a.1.1 a.1.2 = some r) (fun a => [(0, (sc A2 data1 D2)), (1, (iv a3)), (2, (iv m4)), (3, (iv b5)), (4, (.func (.func 90) [].toArray [(pt b8 0), (pt b10 0)].toArray)), (18, (iv (w64 (((IntKind.wrap .u64 ((w64 (a3 + b5)))) / 2 ^ (1 : Int).toNat))))), (19, (iv (w64 ((w64 (((IntKind.wrap .u64 ((w64 (a3 + b5)))) / 2 ^ (1 : Int).toNat))) + m4)))), (20, (iv a.1.1)), (21, (iv a.1.2))]) (fun a => OO (kT3).share 3 A2 D2 data1 :: bxl b8 [(.func (.func 80) [].toArray [].toArray)] 97 :: bxl b10 [(sc A11 q9 D11)] 29 :: W0) ?_ ?_)
 refine c_seq (c_region (lI R (lI R (lO (vGt R R) (l_nil (q_next ?_))))))
 rcases bif_ hr with ⟨hb94, hr⟩ | ⟨hb94, hr⟩
 refine c_true R hb94 (c_seq (c_region (lI R (lI R (lO (vSb R R) (lI R (l_nil (q_next (c_region (lI R (lI R (l_nil ?_))))))))))))
 exact qI (((w64 ((w64 ((w64 (((IntKind.wrap .u64 ((w64 (a3 + b5)))) / 2 ^ (1 : Int).toNat))) + m4)) - b5)), (w64 (((IntKind.wrap .u64 ((w64 (a3 + b5)))) / 2 ^ (1 : Int).toNat)))), ()) hr (fun w s => s)
 refine c_false R hb94 (c_seq (c_region (lI R (lI R (l_nil (q_next (c_region (lI R (lI R (l_nil ?_))))))))))
 exact qI ((a3, m4), ()) hr (fun w s => s)
 rintro ⟨⟨start95, r96⟩, _⟩ σ1 hr
 replace hr : Z0_J13 data1 a3 m4 b5 q9 rf start95 r96 = some r := hr
 unfold Z0_J13 at hr
 refine c_seq (c_region (lI R (lO (vSb R R) (lI R (l_nil (q_next (c_seq (c_cut (A := (Int) × (Unit)) (fun a => Z0_J14 data1 a3 m4 b5 q9 rf a.1 = some r) (fun a => [(0, (sc A2 data1 D2)), (1, (iv a3)), (2, (iv m4)), (3, (iv b5)), (4, (.func (.func 90) [].toArray [(pt b8 0), (pt b10 0)].toArray)), (18, (iv (w64 (((IntKind.wrap .u64 ((w64 (a3 + b5)))) / 2 ^ (1 : Int).toNat))))), (19, (iv (w64 ((w64 (((IntKind.wrap .u64 ((w64 (a3 + b5)))) / 2 ^ (1 : Int).toNat))) + m4)))), (20, (iv a.1))]) (fun a => OO (kT3).share 3 A2 D2 data1 :: bxl b8 [(.func (.func 80) [].toArray [].toArray)] 97 :: bxl b10 [(sc A11 q9 D11)] 29 :: W0) ?_ ?_))))))))
 refine c_block ?_
 obtain ⟨e5, hl5, hk5⟩ := bd hr
 refine c_loop (A := Unit) hl5 (fun s a => [(0, (sc A2 data1 D2)), (1, (iv a3)), (2, (iv m4)), (3, (iv b5)), (4, (.func (.func 90) [].toArray [(pt b8 0), (pt b10 0)].toArray)), (18, (iv (w64 (((IntKind.wrap .u64 ((w64 (a3 + b5)))) / 2 ^ (1 : Int).toNat))))), (19, (iv (w64 ((w64 (((IntKind.wrap .u64 ((w64 (a3 + b5)))) / 2 ^ (1 : Int).toNat))) + m4)))), (20, (iv s.1)), (21, (iv s.2)), (22, (iv (w64 ((w64 ((w64 (((IntKind.wrap .u64 ((w64 (a3 + b5)))) / 2 ^ (1 : Int).toNat))) + m4)) - (1 : Int)))))]) (fun s a => OO (kT3).share 3 A2 D2 data1 :: bxl b8 [(.func (.func 80) [].toArray [].toArray)] 97 :: bxl b10 [(sc A11 q9 D11)] 29 :: W0) () (aS R) (fun w s => s) ?_
 rintro ⟨start105, r106⟩ _ σ1 out5 hr he5
 replace hr : Z0_L5 data1 a3 m4 b5 q9 start105 r106 = some out5 := hr
 unfold Z0_L5 at hr
 refine c_seq (c_seq (c_region (lI R (lI R (lO (vLt R R) (l_nil (q_next ?_)))))))
 rcases bif_ hr with ⟨hb107, hr⟩ | ⟨hb107, hr⟩
 refine c_true R hb107 (c_skip (q_next (c_block (c_seq (c_region (lI R (lI R (lO (vAd R R) (lO (vz (.int .u64 (IntKind.wrap .u64 ((w64 (start105 + r106))))) (v_conv un3 un92 R)) (lO (vz (.int .u64 ((IntKind.wrap .u64 ((w64 (start105 + r106)))) / 2 ^ (1 : Int).toNat)) (v_shr R R (by decide) (by decide))) (lO (vz (iv (w64 (((IntKind.wrap .u64 ((w64 (start105 + r106)))) / 2 ^ (1 : Int).toNat)))) (v_conv un92 un3 R)) (lI R (l_nil (q_next (c_seq ?_)))))))))))))))
 obtain ⟨hg108, hr⟩ := gd hr
 obtain ⟨hg111, hr⟩ := gd hr
 obtain ⟨r112, hx113, hr⟩ := bd hr
 refine c_some 0 sees_sh (show 0 < data1.length by have := hg108; omega) (fun g109 o110 ha => ?_)
 subst ha
 refine cdr 14 [] mixo (fun ht hn => (dR 0 R (vp (.func (.func 90) [].toArray [(pt b8 0), (pt b10 0)].toArray) R) (dR 1 R (vS R) (dR 2 R (vI R) (dR 3 R (vI R) (dR 4 R (vSb R R) (dR 5 R (vIa sl29 sz3 R R hg108) (dR 6 R (vLi 0 ag3 sees_sh R hg108) (dR 7 R (vS R) (dR 8 R (vI R) (dR 9 R (vIa sl29 sz3 R R hg111) (dR 10 R (vLi 0 ag3 sees_sh R hg111) (d1 11 R (lM (bxl _ _ _ :: RR kT3 A11 D11 q9 :: bxl _ _ _ :: OO (kT3).share 3 (ad g109 o110) D2 data1 :: W0) (fun w s => ((s.d 3 R).e 4 [2, 0, 3, 1])) ?_))))))))))))))
 refine l_callvn (fs := []) (cs := [(pt b8 0), (pt b10 0)]) 3 R R cb90 R R (Z0j_ok hx113) R ?_
 rintro _
 refine lN (_ :: _ :: _ :: W0) ?_
 refine l_nil (q_draw (fun w s => (s.e 3 [2, 0, 1])) (dR 12 R (vLt R R) (hS := (fun w s => (s.e 3 [2, 0, 1]))) (dR 13 R (vNo R) (hS := (fun w s => (s.e 3 [2, 0, 1]))) (dD (q_next ?_)))))
 rcases bif_ hr with ⟨hb114, hr⟩ | ⟨hb114, hr⟩
 refine c_true R hb114 (c_region (lI R (lO (vAd R R) (lI R (l_nil (q_blockn ?_))))))
 obtain rfl := so hr
 exact qA () (fun w s => (s.e 3 [2, 0, 1]))
 refine c_false R hb114 (c_region (lI R (lI R (l_nil (q_blockn ?_)))))
 obtain rfl := so hr
 exact qA () (fun w s => (s.e 3 [2, 0, 1]))
 refine c_false R hb107 (c_exit (q_exit ?_))
 obtain rfl := so hr
 obtain rfl := he5 _ R
 have hr := hk5
 refine q_exit (q_block ?_)
 exact qI (start105, ()) hr (fun w s => s)
 rintro ⟨start117, _⟩ σ1 hr
 replace hr : Z0_J14 data1 a3 m4 b5 q9 rf start117 = some r := hr
 unfold Z0_J14 at hr
 refine c_seq (c_region (lI R (lI R (lO (vSb R R) (lI R (l_nil (q_next (c_seq (c_cut (A := ((List Int)) × (Unit)) (fun a => Z0_J15 a3 m4 b5 q9 rf start117 a.1 = some r) (fun a => [(0, (sc A2 data1 D2)), (1, (iv a3)), (3, (iv b5)), (4, (.func (.func 90) [].toArray [(pt b8 0), (pt b10 0)].toArray)), (18, (iv (w64 (((IntKind.wrap .u64 ((w64 (a3 + b5)))) / 2 ^ (1 : Int).toNat))))), (20, (iv start117)), (24, (iv (w64 ((w64 ((w64 (((IntKind.wrap .u64 ((w64 (a3 + b5)))) / 2 ^ (1 : Int).toNat))) + m4)) - start117))))]) (fun a => ow (kT3).share 3 (.slice A2 data1.length D2) a.1 :: bxl b8 [(.func (.func 80) [].toArray [].toArray)] 97 :: bxl b10 [(sc A11 q9 D11)] 29 :: W0) ?_ ?_)))))))))
 refine c_seq (cQ [(0, (sc A2 data1 D2)), (1, (iv a3)), (2, (iv m4)), (3, (iv b5)), (4, (.func (.func 90) [].toArray [(pt b8 0), (pt b10 0)].toArray)), (18, (iv (w64 (((IntKind.wrap .u64 ((w64 (a3 + b5)))) / 2 ^ (1 : Int).toNat))))), (20, (iv start117)), (24, (iv (w64 ((w64 ((w64 (((IntKind.wrap .u64 ((w64 (a3 + b5)))) / 2 ^ (1 : Int).toNat))) + m4)) - start117)))), (185, (.bool ((decide (start117 < m4)) && (decide (m4 < (w64 ((w64 ((w64 (((IntKind.wrap .u64 ((w64 (a3 + b5)))) / 2 ^ (1 : Int).toNat))) + m4)) - start117)))))))] (OO (kT3).share 3 A2 D2 data1 :: bxl b8 [(.func (.func 80) [].toArray [].toArray)] 97 :: bxl b10 [(sc A11 q9 D11)] 29 :: W0) ?_ ?_)
 refine c_region (lI R (lI R (lO (vLt R R) (lB R ?_))))
 rcases bo (decide (start117 < m4)) with hc118 | hc118
 refine lW (wnT hc118) (vI R) (lW (wnT hc118) (vI R) (lW (wnT hc118) (vLt R R) (lO (pAT R hc118 R) (l_nil ?_))))
 exact qJ (fun w s => s)
 refine lf (wfF hc118) (lf (wfF hc118) (lf (wfF hc118) (lO (pAF (decide (m4 < (w64 ((w64 ((w64 (((IntKind.wrap .u64 ((w64 (a3 + b5)))) / 2 ^ (1 : Int).toNat))) + m4)) - start117)))) R hc118) (l_nil ?_))))
 exact qJ (fun w s => s)
 rintro σ1
 refine q_next ?_
 rcases bif_ hr with ⟨hb119, hr⟩ | ⟨hb119, hr⟩
 refine c_true R hb119 ?_
 obtain ⟨r120, hx121, hr⟩ := bd hr
 refine c_region (lS R (lI R (lI R (lI R (lO (vp (.func (.func 90) [].toArray [(pt b8 0), (pt b10 0)].toArray) R) (lM (OO (kT3).share 3 A2 D2 data1 :: bxl _ _ _ :: RR kT3 A11 D11 q9 :: bxl _ _ _ :: W0) (fun w s => ((s.d 3 R).e 4 [1, 2, 0, 3])) ?_))))))
 refine lC 4 cb110 R (Z0k_ok hx121) R ?_
 rintro _
 refine lN (ow (kT3).share 3 (.slice A2 data1.length D2) r120 :: _ :: _ :: W0) ?_
 refine l_nil ?_
 exact qI (r120, ()) hr (fun w s => s)
 refine c_false R hb119 (c_skip ?_)
 exact qI (data1, ()) hr (fun w s => s)
 rintro ⟨data122, _⟩ σ1 hr
 replace hr : Z0_J15 a3 m4 b5 q9 rf start117 data122 = some r := hr
 unfold Z0_J15 at hr
 refine c_seq (c_cut (A := ((List Int)) × (Unit)) (fun a => Z0_J16 a3 m4 b5 q9 rf start117 a.1 = some r) (fun a => [(0, (sc A2 data1 D2)), (3, (iv b5)), (4, (.func (.func 90) [].toArray [(pt b8 0), (pt b10 0)].toArray)), (18, (iv (w64 (((IntKind.wrap .u64 ((w64 (a3 + b5)))) / 2 ^ (1 : Int).toNat))))), (24, (iv (w64 ((w64 ((w64 (((IntKind.wrap .u64 ((w64 (a3 + b5)))) / 2 ^ (1 : Int).toNat))) + m4)) - start117))))]) (fun a => ow (kT3).share 3 (.slice A2 data1.length D2) a.1 :: bxl b8 [(.func (.func 80) [].toArray [].toArray)] 97 :: bxl b10 [(sc A11 q9 D11)] 29 :: W0) ?_ ?_)
 refine c_seq (cQ [(0, (sc A2 data1 D2)), (1, (iv a3)), (3, (iv b5)), (4, (.func (.func 90) [].toArray [(pt b8 0), (pt b10 0)].toArray)), (18, (iv (w64 (((IntKind.wrap .u64 ((w64 (a3 + b5)))) / 2 ^ (1 : Int).toNat))))), (20, (iv start117)), (24, (iv (w64 ((w64 ((w64 (((IntKind.wrap .u64 ((w64 (a3 + b5)))) / 2 ^ (1 : Int).toNat))) + m4)) - start117)))), (199, (.bool ((decide (a3 < start117)) && (decide (start117 < (w64 (((IntKind.wrap .u64 ((w64 (a3 + b5)))) / 2 ^ (1 : Int).toNat))))))))] (ow (kT3).share 3 (.slice A2 data1.length D2) data122 :: bxl b8 [(.func (.func 80) [].toArray [].toArray)] 97 :: bxl b10 [(sc A11 q9 D11)] 29 :: W0) ?_ ?_)
 refine c_region (lI R (lI R (lO (vLt R R) (lB R ?_))))
 rcases bo (decide (a3 < start117)) with hc123 | hc123
 refine lW (wnT hc123) (vI R) (lW (wnT hc123) (vI R) (lW (wnT hc123) (vLt R R) (lO (pAT R hc123 R) (l_nil ?_))))
 exact qJ (fun w s => s)
 refine lf (wfF hc123) (lf (wfF hc123) (lf (wfF hc123) (lO (pAF (decide (start117 < (w64 (((IntKind.wrap .u64 ((w64 (a3 + b5)))) / 2 ^ (1 : Int).toNat))))) R hc123) (l_nil ?_))))
 exact qJ (fun w s => s)
 rintro σ1
 refine q_next ?_
 rcases bif_ hr with ⟨hb124, hr⟩ | ⟨hb124, hr⟩
 refine c_true R hb124 ?_
 obtain ⟨r125, hx126, hr⟩ := bd hr
 refine c_region (lS R (lI R (lI R (lI R (lO (vp (.func (.func 90) [].toArray [(pt b8 0), (pt b10 0)].toArray) R) (lM (ow (kT3).share 3 (.slice A2 data1.length D2) data122 :: bxl _ _ _ :: RR kT3 A11 D11 q9 :: bxl _ _ _ :: W0) (fun w s => ((s.d 3 R).e 4 [1, 2, 0, 3])) ?_))))))
 refine lC 4 cb108 R (hrf hx126) R ?_
 rintro _
 refine lN (ow (kT3).share 3 (.slice A2 data1.length D2) r125 :: _ :: _ :: W0) ?_
 refine l_nil ?_
 exact qI (r125, ()) hr (fun w s => s)
 refine c_false R hb124 (c_skip ?_)
 exact qI (data122, ()) hr (fun w s => s)
 rintro ⟨data127, _⟩ σ1 hr
 replace hr : Z0_J16 a3 m4 b5 q9 rf start117 data127 = some r := hr
 unfold Z0_J16 at hr
 refine c_seq (cQ [(0, (sc A2 data1 D2)), (3, (iv b5)), (4, (.func (.func 90) [].toArray [(pt b8 0), (pt b10 0)].toArray)), (18, (iv (w64 (((IntKind.wrap .u64 ((w64 (a3 + b5)))) / 2 ^ (1 : Int).toNat))))), (24, (iv (w64 ((w64 ((w64 (((IntKind.wrap .u64 ((w64 (a3 + b5)))) / 2 ^ (1 : Int).toNat))) + m4)) - start117)))), (213, (.bool ((decide ((w64 (((IntKind.wrap .u64 ((w64 (a3 + b5)))) / 2 ^ (1 : Int).toNat))) < (w64 ((w64 ((w64 (((IntKind.wrap .u64 ((w64 (a3 + b5)))) / 2 ^ (1 : Int).toNat))) + m4)) - start117)))) && (decide ((w64 ((w64 ((w64 (((IntKind.wrap .u64 ((w64 (a3 + b5)))) / 2 ^ (1 : Int).toNat))) + m4)) - start117)) < b5)))))] (ow (kT3).share 3 (.slice A2 data1.length D2) data127 :: bxl b8 [(.func (.func 80) [].toArray [].toArray)] 97 :: bxl b10 [(sc A11 q9 D11)] 29 :: W0) ?_ ?_)
 refine c_region (lI R (lI R (lO (vLt R R) (lB R ?_))))
 rcases bo (decide ((w64 (((IntKind.wrap .u64 ((w64 (a3 + b5)))) / 2 ^ (1 : Int).toNat))) < (w64 ((w64 ((w64 (((IntKind.wrap .u64 ((w64 (a3 + b5)))) / 2 ^ (1 : Int).toNat))) + m4)) - start117)))) with hc128 | hc128
 refine lW (wnT hc128) (vI R) (lW (wnT hc128) (vI R) (lW (wnT hc128) (vLt R R) (lO (pAT R hc128 R) (l_nil ?_))))
 exact qJ (fun w s => s)
 refine lf (wfF hc128) (lf (wfF hc128) (lf (wfF hc128) (lO (pAF (decide ((w64 ((w64 ((w64 (((IntKind.wrap .u64 ((w64 (a3 + b5)))) / 2 ^ (1 : Int).toNat))) + m4)) - start117)) < b5)) R hc128) (l_nil ?_))))
 exact qJ (fun w s => s)
 rintro σ1
 refine q_next ?_
 rcases bif_ hr with ⟨hb129, hr⟩ | ⟨hb129, hr⟩
 refine c_true R hb129 ?_
 obtain ⟨r130, hx131, hr⟩ := bd hr
 refine c_region (lS R (lI R (lI R (lI R (lO (vp (.func (.func 90) [].toArray [(pt b8 0), (pt b10 0)].toArray) R) (lM (ow (kT3).share 3 (.slice A2 data1.length D2) data127 :: bxl _ _ _ :: RR kT3 A11 D11 q9 :: bxl _ _ _ :: W0) (fun w s => ((s.d 3 R).e 4 [1, 2, 0, 3])) ?_))))))
 refine lC 4 cb108 R (hrf hx131) R ?_
 rintro _
 refine lN (ow (kT3).share 3 (.slice A2 data1.length D2) r130 :: _ :: _ :: W0) ?_
 refine l_nil ?_
 obtain rfl := so hr
 exact q_fin (vs := []) (.inr R) () R trivial R (fun w s => (s.f 4 [0, 3]))
 refine c_false R hb129 (c_skip ?_)
 obtain rfl := so hr
 exact q_fin (vs := []) (.inr R) () R trivial R (fun w s => (s.f 4 [0, 3]))
theorem Z0_R_ok (n : Nat) : ∀ {data1 : (List Int)} {a3 : Int} {m4 : Int} {b5 : Int} {q9 : (List Int)} {b8 : Nat} {b10 : Nat} {A2 A11 : Option Addr} {N2 D2 N11 D11 : Nat} {r : (List Int)}, Z0_R n data1 a3 m4 b5 q9 = some r → FnOk Try.prog 108 [(.slice A2 N2 D2), (iv a3), (iv m4), (iv b5), (.func (.func 90) [].toArray [(pt b8 0), (pt b10 0)].toArray)] [ow (kT3).share 3 (.slice A2 N2 D2) data1, bxl b8 [(.func (.func 80) [].toArray [].toArray)] 97, rds kT3 (.slice A11 N11 D11) q9, bxl b10 [(.slice A11 N11 D11)] 29] (fun (h : Unit) => ((.tuple [].toArray), [ow (kT3).share 3 (.slice A2 N2 D2) r, bxl b8 [(.func (.func 80) [].toArray [].toArray)] 97, bxl b10 [(.slice A11 N11 D11)] 29])) := by
 induction n with
 | zero => intros; rename_i h; cases h
 | succ n ih => intros; rename_i h; exact Z0_S_ok ih h
theorem Z0_ok {data1 : (List Int)} {a3 : Int} {m4 : Int} {b5 : Int} {q9 : (List Int)} {b8 : Nat} {b10 : Nat} {A2 A11 : Option Addr} {N2 D2 N11 D11 : Nat} {r : (List Int)} (hr : Z0 data1 a3 m4 b5 q9 = some r) : FnOk Try.prog 108 [(.slice A2 N2 D2), (iv a3), (iv m4), (iv b5), (.func (.func 90) [].toArray [(pt b8 0), (pt b10 0)].toArray)] [ow (kT3).share 3 (.slice A2 N2 D2) data1, bxl b8 [(.func (.func 80) [].toArray [].toArray)] 97, rds kT3 (.slice A11 N11 D11) q9, bxl b10 [(.slice A11 N11 D11)] 29] (fun (h : Unit) => ((.tuple [].toArray), [ow (kT3).share 3 (.slice A2 N2 D2) r, bxl b8 [(.func (.func 80) [].toArray [].toArray)] 97, bxl b10 [(.slice A11 N11 D11)] 29])) := Z0_R_ok recFuel hr
theorem Za_ok  {data1 : (List Int)} {n3 : Int} {q7 : (List Int)} {b6 : Nat} {b8 : Nat} {r : (List Int)} (hr : Za data1 n3 q7 = some r) :
 FnOk Try.prog 101 [(.slice A2 N2 D2), (iv n3), (.func (.func 90) [].toArray [(pt b6 0), (pt b8 0)].toArray)] [ow (kT3).share 3 (.slice A2 N2 D2) data1, bxl b6 [(.func (.func 80) [].toArray [].toArray)] 97, rds kT3 (.slice A9 N9 D9) q7, bxl b8 [(.slice A9 N9 D9)] 29] (fun (h : Unit) => ((.tuple [].toArray), [ow (kT3).share 3 (.slice A2 N2 D2) r, bxl b6 [(.func (.func 80) [].toArray [].toArray)] 97, bxl b8 [(.slice A9 N9 D9)] 29])) := by
 unfold Za at hr
 refine fn_ok Try.func101 R 63 R R fun C V => ?_
 refine cM (ow _ _ _ _ :: bxl _ _ _ :: bxl _ _ _ :: rds _ _ _ :: V) (fun w s => (s.e 4 [0, 1, 3, 2])) ?_
 refine cL 0 sees_sh ?_
 rintro rfl
 refine cL 3 sees_rd ?_
 rintro rfl
 let W0 : List HP := RR kT3 A9 D9 q7 :: V
 refine cN (_ :: _ :: bxl b8 [(sc A9 q7 D9)] 29 :: W0) ?_
 refine c_seq (c_region (lI R (l_nil (q_next (c_seq (c_region (lI R (lI R (lI R (l_nil (q_next (c_seq (c_cut (A := ((List Int) × Int) × (Unit)) (fun a => Za_J1 n3 q7 a.1.1 a.1.2 = some r) (fun a => [(0, (sc A2 data1 D2)), (1, (iv n3)), (2, (.func (.func 90) [].toArray [(pt b6 0), (pt b8 0)].toArray)), (6, (iv 20)), (7, (iv a.1.2))]) (fun a => ow (kT3).share 3 (.slice A2 data1.length D2) a.1.1 :: bxl b6 [(.func (.func 80) [].toArray [].toArray)] 97 :: bxl b8 [(sc A9 q7 D9)] 29 :: W0) ?_ ?_)))))))))))))
 refine c_block ?_
 obtain ⟨e1, hl1, hk1⟩ := bd hr
 refine c_loop (A := Unit) hl1 (fun s a => [(0, (sc A2 data1 D2)), (1, (iv n3)), (2, (.func (.func 90) [].toArray [(pt b6 0), (pt b8 0)].toArray)), (6, (iv 20)), (7, (iv s.2.1)), (8, (iv s.2.2))]) (fun s a => ow (kT3).share 3 (.slice A2 data1.length D2) s.1 :: bxl b6 [(.func (.func 80) [].toArray [].toArray)] 97 :: bxl b8 [(sc A9 q7 D9)] 29 :: W0) () (aS R) (fun w s => s) ?_
 rintro ⟨data13, a14, b15⟩ _ σ1 out1 hr he1
 replace hr : Za_L1 n3 q7 data13 a14 b15 = some out1 := hr
 unfold Za_L1 at hr
 refine c_seq (c_seq (c_region (lI R (lI R (lO (vLe R R) (l_nil (q_next ?_)))))))
 rcases bif_ hr with ⟨hb16, hr⟩ | ⟨hb16, hr⟩
 refine c_true R hb16 (c_skip (q_next (c_block (c_seq ?_))))
 obtain ⟨r17, hx18, hr⟩ := bd hr
 refine c_region (lS R (lI R (lI R (lO (vp (.func (.func 90) [].toArray [(pt b6 0), (pt b8 0)].toArray) R) (lM (ow (kT3).share 3 (.slice A2 data1.length D2) data13 :: bxl _ _ _ :: RR kT3 A9 D9 q7 :: bxl _ _ _ :: W0) (fun w s => ((s.d 3 R).e 4 [1, 2, 0, 3])) ?_)))))
 refine lC 4 cb107 R (Z0a_ok hx18) R ?_
 rintro _
 refine lN (ow (kT3).share 3 (.slice A2 data1.length D2) r17 :: _ :: _ :: W0) ?_
 refine l_nil (q_next (c_seq (c_region (lI R (lI R (l_nil (q_next (c_region (lI R (lI R (lO (vAd R R) (lI R (l_nil (q_blockn ?_))))))))))))))
 obtain rfl := so hr
 exact qA () (fun w s => s)
 refine c_false R hb16 (c_exit (q_exit ?_))
 obtain rfl := so hr
 obtain rfl := he1 _ R
 have hr := hk1
 refine q_exit (q_block ?_)
 exact qI ((data13, a14), ()) hr (fun w s => s)
 rintro ⟨⟨data22, a23⟩, _⟩ σ1 hr
 replace hr : Za_J1 n3 q7 data22 a23 = some r := hr
 unfold Za_J1 at hr
 refine c_seq ?_
 obtain ⟨r24, hx25, hr⟩ := bd hr
 refine c_region (lS R (lI R (lI R (lO (vp (.func (.func 90) [].toArray [(pt b6 0), (pt b8 0)].toArray) R) (lM (ow (kT3).share 3 (.slice A2 data1.length D2) data22 :: bxl _ _ _ :: RR kT3 A9 D9 q7 :: bxl _ _ _ :: W0) (fun w s => ((s.d 3 R).e 4 [1, 2, 0, 3])) ?_)))))
 refine lC 4 cb107 R (Z0a_ok hx25) R ?_
 rintro _
 refine lN (ow (kT3).share 3 (.slice A2 data1.length D2) r24 :: _ :: _ :: W0) ?_
 refine l_nil (q_next (c_block ?_))
 obtain ⟨e2, hl2, hk2⟩ := bd hr
 refine c_loop (A := Unit) hl2 (fun s a => [(0, (sc A2 data1 D2)), (1, (iv n3)), (2, (.func (.func 90) [].toArray [(pt b6 0), (pt b8 0)].toArray)), (6, (iv s.2))]) (fun s a => ow (kT3).share 3 (.slice A2 data1.length D2) s.1 :: bxl b6 [(.func (.func 80) [].toArray [].toArray)] 97 :: bxl b8 [(sc A9 q7 D9)] 29 :: W0) () (aS R) (fun w s => s) ?_
 rintro ⟨data45, blockSize46⟩ _ σ1 out2 hr he2
 replace hr : Za_L2 n3 q7 data45 blockSize46 = some out2 := hr
 unfold Za_L2 at hr
 refine c_seq (c_seq (c_region (lI R (lI R (lO (vLt R R) (l_nil (q_next ?_)))))))
 rcases bif_ hr with ⟨hb47, hr⟩ | ⟨hb47, hr⟩
 refine c_true R hb47 (c_skip (q_next (c_block (c_seq (c_region (lI R (lO (vMu R R) (lI R (lI R (l_nil (q_next (c_seq (c_cut (A := ((List Int) × Int) × (Unit)) (fun a => Za_J4 n3 q7 blockSize46 a.1.1 a.1.2 = some out2) (fun a => [(0, (sc A2 data1 D2)), (1, (iv n3)), (2, (.func (.func 90) [].toArray [(pt b6 0), (pt b8 0)].toArray)), (6, (iv blockSize46)), (7, (iv a.1.2))]) (fun a => ow (kT3).share 3 (.slice A2 data1.length D2) a.1.1 :: bxl b6 [(.func (.func 80) [].toArray [].toArray)] 97 :: bxl b8 [(sc A9 q7 D9)] 29 :: W0) ?_ ?_)))))))))))))
 refine c_block ?_
 obtain ⟨e3, hl3, hk3⟩ := bd hr
 refine c_loop (A := Unit) hl3 (fun s a => [(0, (sc A2 data1 D2)), (1, (iv n3)), (2, (.func (.func 90) [].toArray [(pt b6 0), (pt b8 0)].toArray)), (6, (iv blockSize46)), (7, (iv s.2.1)), (8, (iv s.2.2))]) (fun s a => ow (kT3).share 3 (.slice A2 data1.length D2) s.1 :: bxl b6 [(.func (.func 80) [].toArray [].toArray)] 97 :: bxl b8 [(sc A9 q7 D9)] 29 :: W0) () (aS R) (fun w s => s) ?_
 rintro ⟨data51, a52, b53⟩ _ σ1 out3 hr he3
 replace hr : Za_L3 n3 q7 blockSize46 data51 a52 b53 = some out3 := hr
 unfold Za_L3 at hr
 refine c_seq (c_seq (c_region (lI R (lI R (lO (vLe R R) (l_nil (q_next ?_)))))))
 rcases bif_ hr with ⟨hb54, hr⟩ | ⟨hb54, hr⟩
 refine c_true R hb54 (c_skip (q_next (c_block (c_seq ?_))))
 obtain ⟨r55, hx56, hr⟩ := bd hr
 refine c_region (lS R (lI R (lI R (lI R (lO (vAd R R) (lI R (lO (vp (.func (.func 90) [].toArray [(pt b6 0), (pt b8 0)].toArray) R) (lM (ow (kT3).share 3 (.slice A2 data1.length D2) data51 :: bxl _ _ _ :: RR kT3 A9 D9 q7 :: bxl _ _ _ :: W0) (fun w s => ((s.d 3 R).e 4 [1, 2, 0, 3])) ?_))))))))
 refine lC 4 cb108 R (Z0_ok hx56) R ?_
 rintro _
 refine lN (ow (kT3).share 3 (.slice A2 data1.length D2) r55 :: _ :: _ :: W0) ?_
 refine l_nil (q_next (c_seq (c_region (lI R (lI R (l_nil (q_next (c_region (lI R (lI R (lO (vMu R R) (lO (vAd R R) (lI R (l_nil (q_blockn ?_)))))))))))))))
 obtain rfl := so hr
 exact qA () (fun w s => s)
 refine c_false R hb54 (c_exit (q_exit ?_))
 obtain rfl := so hr
 obtain rfl := he3 _ R
 have hr := hk3
 refine q_exit (q_block ?_)
 exact qI ((data51, a52), ()) hr (fun w s => s)
 rintro ⟨⟨data60, a61⟩, _⟩ σ1 hr
 replace hr : Za_J4 n3 q7 blockSize46 data60 a61 = some out2 := hr
 unfold Za_J4 at hr
 refine c_seq (c_cut (A := ((List Int)) × (Unit)) (fun a => Za_J5 blockSize46 a.1 = some out2) (fun a => [(0, (sc A2 data1 D2)), (1, (iv n3)), (2, (.func (.func 90) [].toArray [(pt b6 0), (pt b8 0)].toArray)), (6, (iv blockSize46))]) (fun a => ow (kT3).share 3 (.slice A2 data1.length D2) a.1 :: bxl b6 [(.func (.func 80) [].toArray [].toArray)] 97 :: bxl b8 [(sc A9 q7 D9)] 29 :: W0) ?_ ?_)
 refine c_seq (c_region (lI R (lI R (lO (vAd R R) (lI R (l_nil (q_next (c_seq (c_region (lI R (lI R (lO (vLt R R) (l_nil (q_next ?_))))))))))))))
 rcases bif_ hr with ⟨hb62, hr⟩ | ⟨hb62, hr⟩
 refine c_true R hb62 ?_
 obtain ⟨r63, hx64, hr⟩ := bd hr
 refine c_region (lS R (lI R (lI R (lI R (lO (vp (.func (.func 90) [].toArray [(pt b6 0), (pt b8 0)].toArray) R) (lM (ow (kT3).share 3 (.slice A2 data1.length D2) data60 :: bxl _ _ _ :: RR kT3 A9 D9 q7 :: bxl _ _ _ :: W0) (fun w s => ((s.d 3 R).e 4 [1, 2, 0, 3])) ?_))))))
 refine lC 4 cb108 R (Z0_ok hx64) R ?_
 rintro _
 refine lN (ow (kT3).share 3 (.slice A2 data1.length D2) r63 :: _ :: _ :: W0) ?_
 refine l_nil ?_
 exact qI (r63, ()) hr (fun w s => s)
 refine c_false R hb62 (c_skip ?_)
 exact qI (data60, ()) hr (fun w s => s)
 rintro ⟨data65, _⟩ σ1 hr
 replace hr : Za_J5 blockSize46 data65 = some out2 := hr
 unfold Za_J5 at hr
 refine c_region (lI R (lO (vMu R R) (lI R (l_nil (q_blockn ?_)))))
 obtain rfl := so hr
 exact qA () (fun w s => s)
 refine c_false R hb47 (c_exit (q_exit ?_))
 obtain rfl := so hr
 obtain rfl := he2 _ R
 have hr := hk2
 refine q_exit (q_block ?_)
 obtain rfl := so hr
 exact q_fin (vs := []) (.inr R) () R trivial R (fun w s => (s.f 4 [0, 3]))
theorem Z1e_ok  {p1 : (List Int)} {q6 : (List Int)} {b5 : Nat} {b7 : Nat} {r : (List Int)} (hr : Z1e p1 q6 = some r) :
 FnOk Try.prog 89 [(.slice A2 N2 D2), (.func (.func 90) [].toArray [(pt b5 0), (pt b7 0)].toArray)] [ow (kT3).share 3 (.slice A2 N2 D2) p1, bxl b5 [(.func (.func 80) [].toArray [].toArray)] 97, rds kT3 (.slice A8 N8 D8) q6, bxl b7 [(.slice A8 N8 D8)] 29] (fun (h : Unit) => ((.tuple [].toArray), [ow (kT3).share 3 (.slice A2 N2 D2) r, bxl b5 [(.func (.func 80) [].toArray [].toArray)] 97, bxl b7 [(.slice A8 N8 D8)] 29])) := by
 unfold Z1e at hr
 refine fn_ok Try.func89 R 9 R R fun C V => ?_
 refine cM (ow _ _ _ _ :: bxl _ _ _ :: bxl _ _ _ :: rds _ _ _ :: V) (fun w s => (s.e 4 [0, 1, 3, 2])) ?_
 refine cL 0 sees_sh ?_
 rintro rfl
 refine cL 3 sees_rd ?_
 rintro rfl
 let W0 : List HP := RR kT3 A8 D8 q6 :: V
 refine cN (_ :: _ :: bxl b7 [(sc A8 q6 D8)] 29 :: W0) ?_
 obtain ⟨r9, hx10, hr⟩ := bd hr
 refine c_region (lS R (lS R (lO (v_len sl29 R) (lO (vp (.func (.func 90) [].toArray [(pt b5 0), (pt b7 0)].toArray) R) (lM (ow _ _ _ _ :: bxl _ _ _ :: RR kT3 A8 D8 q6 :: bxl _ _ _ :: W0) (fun w s => ((s.d 3 R).e 4 [1, 2, 0, 3])) ?_)))))
 refine lC 4 cb101 R (Za_ok hx10) R ?_
 rintro _
 refine lN (ow (kT3).share 3 (.slice A2 p1.length D2) r9 :: _ :: _ :: W0) ?_
 refine l_nil ?_
 let W1 : List HP := bxl b5 [(.func (.func 80) [].toArray [].toArray)] 97 :: bxl b7 [(sc A8 q6 D8)] 29 :: W0
 refine qN (_ :: W1) ?_
 obtain rfl := so hr
 exact q_fin (vs := []) (.inr R) () R trivial R (fun w s => (s.f 4 [0, 3]))
theorem Zy_ok  {list1 : (List Int)} {r : (List Int)} (hr : Zy list1 = some r) :
 FnOk Try.prog 79 [(.slice A2 N2 D2), (.func (.func 80) [].toArray [].toArray)] [rds kT3 (.slice A2 N2 D2) list1] (fun (h : HH) => ((.slice h.1 h.2.1 h.2.2), [ow (kT3).share 3 (.slice h.1 h.2.1 h.2.2) r])) := by
 unfold Zy at hr
 refine fn_ok Try.func79 R 24 R R fun C V => ?_
 refine cN (_ :: V) ?_
 refine cL 0 sees_rd ?_
 rintro rfl
 let W0 : List HP := RR kT3 A2 D2 list1 :: V
 refine cN W0 ?_
 refine c_seq (c_region (l_box (cs := [(sc A2 list1 D2)]) R R R (fun b4 => (l_box (cs := [(.func (.func 80) [].toArray [].toArray)]) R R R (fun b5 => (lS R (l_nil (q_next (c_seq ?_)))))))))
 obtain ⟨hg6, hr⟩ := gd hr
 refine c_region (lO (vLd 1 ag29 R R R) (lO (v_len sl29 R) (l_make (K := kT3) (m := (list1.length : Int)) (z := (0 : Int)) R R sl29 sz3 by3 (Zr.zk zT3 zc3) (by decide) R R hg6.1 hg6.2.1 hg6.2.2 (fun A7 D7 => (lS R (l_nil (q_next (c_seq (c_cut (A := ((List Int)) × (Unit)) (fun a => Zy_J1 list1 a.1 = some r) (fun a => [(2, (pt b4 0)), (3, (pt b5 0)), (5, (sc A7 (List.replicate (list1.length : Int).toNat (0 : Int)) D7))]) (fun a => bxl b4 [(sc A2 list1 D2)] 29 :: bxl b5 [(.func (.func 80) [].toArray [].toArray)] 97 :: ow kT3 3 (.slice A7 (List.replicate (list1.length : Int).toNat (0 : Int)).length D7) a.1 :: W0) ?_ ?_)))))))))
 refine c_seq (c_region (lS R (lO (v_len sl29 R) (lI R (l_nil (q_next (c_block ?_)))))))
 obtain ⟨e1, hl1, hk1⟩ := bd hr
 refine c_loop (A := Unit) hl1 (fun s a => [(2, (pt b4 0)), (3, (pt b5 0)), (5, (sc A7 (List.replicate (list1.length : Int).toNat (0 : Int)) D7)), (11, (il (List.replicate (list1.length : Int).toNat (0 : Int)))), (12, (iv s.2))]) (fun s a => bxl b4 [(sc A2 list1 D2)] 29 :: bxl b5 [(.func (.func 80) [].toArray [].toArray)] 97 :: ow kT3 3 (.slice A7 (List.replicate (list1.length : Int).toNat (0 : Int)).length D7) s.1 :: W0) () (aS R) (fun w s => (s.e 3 [2, 1, 0])) ?_
 rintro ⟨x14, x15⟩ _ σ1 out1 hr he1
 replace hr : Zy_L1 list1 x14 x15 = some out1 := hr
 unfold Zy_L1 at hr
 refine c_seq (c_region (lO (vLt R R) (l_nil (q_next (c_seq ?_)))))
 rcases bif_ hr with ⟨hb16, hr⟩ | ⟨hb16, hr⟩
 refine c_true R hb16 (c_skip (q_next (c_seq (c_block (c_seq (c_region (lI R (lI R (l_nil (q_next ?_))))))))))
 obtain ⟨hg17, hr⟩ := gd hr
 refine c_region (lS R (lI R (lI R (t_some 2 sees_ow (show 0 < (List.replicate (list1.length : Int).toNat (0 : Int)).length by have := hg17; omega) (fun g18 o19 ha => ?_)))))
 subst ha
 refine lO (vIa sl29 sz3 R R hg17) (lM (ow kT3 3 (.slice (ad g18 o19) (List.replicate (list1.length : Int).toNat (0 : Int)).length D7) x14 :: bxl _ _ _ :: bxl _ _ _ :: W0) (fun w s => (s.e 3 [2, 0, 1])) ?_)
 refine l_stx (K := kT3) (x' := x15) 0 x15 R R sz3 R R hg17.1 hg17.2 ?_ ?_
 exact fun I h s => (mO3).put I h () x15 s
 refine lN (ow kT3 3 (.slice (ad g18 o19) (List.replicate (list1.length : Int).toNat (0 : Int)).length D7) (x14.set x15.toNat x15) :: _ :: _ :: W0) ?_
 refine l_nil (q_blockn (q_next (c_region (lO (vAd R R) (lI R (l_nil ?_))))))
 obtain rfl := so hr
 exact qA () (fun w s => (s.e 3 [1, 2, 0]))
 refine c_false R hb16 (c_exit (q_exit ?_))
 obtain rfl := so hr
 obtain rfl := he1 _ R
 have hr := hk1
 refine q_exit (q_block ?_)
 exact qI (x14, ()) hr (fun w s => s)
 rintro ⟨x22, _⟩ σ1 hr
 replace hr : Zy_J1 list1 x22 = some r := hr
 unfold Zy_J1 at hr
 refine c_seq ?_
 obtain ⟨r23, hx24, hr⟩ := bd hr
 refine c_region (lS R (lO (vp (.func (.func 90) [].toArray [(pt b5 0), (pt b4 0)].toArray) R) (lM (ow (kT3).share 3 (.slice A7 (List.replicate (list1.length : Int).toNat (0 : Int)).length D7) x22 :: bxl _ _ _ :: RR kT3 A2 D2 list1 :: bxl _ _ _ :: W0) (fun w s => (((s.wk 2 R).d 3 R).e 4 [1, 3, 0, 2])) ?_)))
 refine lC 4 cb89 R (Z1e_ok hx24) R ?_
 rintro _
 refine lN (ow (kT3).share 3 (.slice A7 (List.replicate (list1.length : Int).toNat (0 : Int)).length D7) r23 :: _ :: _ :: W0) ?_
 refine l_nil (q_next (c_seq (c_region (lS R (lS R (l_nil (q_next (c_ret ?_))))))))
 obtain rfl := so hr
 exact qF (A7, (List.replicate (list1.length : Int).toNat (0 : Int)).length, D7) (fun w s => (s.e 4 [0]))
theorem Z6_ok  {c1 : Choice} {weights2 : (List Int)} {r : (List Int)} (hr : Z6 c1 weights2 = some r) :
 FnOk Try.prog 56 [(.agg [(iv c1.Power), (iv c1.Cut), (iv c1.Mass)].toArray), (.slice A3 N3 D3)] [rds kT3 (.slice A3 N3 D3) weights2] (fun (h : HH) => ((.slice h.1 h.2.1 h.2.2), [ow kT3 3 (.slice h.1 h.2.1 h.2.2) r])) := by
 unfold Z6 at hr
 refine fn_ok Try.func56 R 77 R R fun C V => ?_
 refine cN (_ :: V) ?_
 refine cL 0 sees_rd ?_
 rintro rfl
 let W0 : List HP := RR kT3 A3 D3 weights2 :: V
 refine cN W0 ?_
 refine c_seq (c_region (lBx R (fun b4 => (lS R (l_nil ?_)))))
 let W1 : List HP := bxl b4 [(iv c1.Power), (iv c1.Cut), (iv c1.Mass)] 28 :: W0
 refine qN W1 ?_
 refine q_next (c_seq ?_)
 obtain ⟨r5, hx6, hr⟩ := bd hr
 refine c_region (lS R (lM (RR kT3 A3 D3 weights2 :: W1) (fun w s => (s.d 1 R)) ?_))
 refine lC 1 cb33 R (Z0m_ok hx6) R ?_
 rintro ⟨A7, N7, D7⟩
 refine lN (ow kT3 3 (.slice A7 N7 D7) r5 :: W1) ?_
 refine l_len 0 sees_ow ?_
 rintro rfl
 refine lS R (l_nil (q_next (c_seq (c_cut (A := ((List Int)) × (HH)) (fun a => Z6_J1 c1 a.1 = some r) (fun a => [(2, (pt b4 0)), (5, (.slice a.2.1 a.2.2.1 a.2.2.2))]) (fun a => ow kT3 3 (.slice a.2.1 a.2.2.1 a.2.2.2) a.1 :: W1) ?_ ?_))))
 refine c_seq (c_region (lO (vFa 0 fo28_0 R) (lO (vLd 1 ag3 R R R) (lO (vEq R R) (l_nil (q_next ?_))))))
 rcases bif_ hr with ⟨hb8, hr⟩ | ⟨hb8, hr⟩
 refine c_true R hb8 ?_
 obtain ⟨r9, hx10, hr⟩ := bd hr
 refine c_region (lS R (lC 1 cb77 R (FnOk.lends (A' := [OO kT3 3 A7 D7 r5]) (A := [RR kT3 A7 D7 r5]) (B := []) (Z0c_ok hx10) ⟨lend_ow, trivial⟩ (fun _ => ⟨(closed_ow cT3), trivial⟩)) R ?_))
 rintro ⟨A11, N11, D11⟩
 refine lN (_ :: ow kT3 3 (.slice A11 N11 D11) r9 :: W1) ?_
 refine l_len 1 sees_ow ?_
 rintro rfl
 refine lS R (l_nil ?_)
 exact qI (r9, (A11, r9.length, D11)) hr (fun w s => (s.e 2 [1]))
 refine c_false R hb8 (c_skip ?_)
 exact qI (r5, (A7, r5.length, D7)) hr (fun w s => s)
 rintro ⟨x12, ⟨A13, N13, D13⟩⟩ σ1 hr
 replace hr : Z6_J1 c1 x12 = some r := hr
 unfold Z6_J1 at hr
 refine c_len 0 sees_ow (fun (hn : N13 = x12.length) => ?_)
 subst hn
 refine c_seq ?_
 obtain ⟨r14, hx15, hr⟩ := bd hr
 refine c_region (lS R (l_st (fun w s => s.shr 0 R) (lM (RR kT3 A13 D13 x12 :: RR kT3 A13 D13 x12 :: W1) (fun w s => (s.d 0 R)) ?_)))
 refine lC 1 cb79 R (Zy_ok hx15) R ?_
 rintro ⟨A16, N16, D16⟩
 refine lN (ow (kT3).share 3 (.slice A16 N16 D16) r14 :: _ :: W1) ?_
 refine l_len 0 sees_sh ?_
 rintro rfl
 refine lS R (l_nil (q_next (c_seq (c_cut (A := ((List Int)) × (HH)) (fun a => Z6_J2 c1 x12 a.1 = some r) (fun a => [(2, (pt b4 0)), (5, (sc A13 x12 D13)), (6, (.slice a.2.1 a.2.2.1 a.2.2.2))]) (fun a => RR kT3 A13 D13 x12 :: rds kT3 (.slice a.2.1 a.2.2.1 a.2.2.2) a.1 :: W1) ?_ ?_))))
 refine c_seq (c_region (lO (vFa 1 fo28_1 R) (lO (vLd 2 ag3 R R R) (lO (vGt R R) (l_nil (q_next ?_))))))
 rcases bif_ hr with ⟨hb17, hr⟩ | ⟨hb17, hr⟩
 refine c_true R hb17 ?_
 obtain ⟨hg18, hr⟩ := gd hr
 refine c_region (lS R (lO (vFa 1 fo28_1 R) (lO (vLd 2 ag3 R R R) (lS R (lO (v_len sl29 R) (lO (vz (iv (if (r14.length : Int) < c1.Cut then (r14.length : Int) else c1.Cut)) (v_min R R)) (l_st (fun w s => s.shs 0 R) (l_cut (K := kT3) (0 : Int) (if (r14.length : Int) < c1.Cut then (r14.length : Int) else c1.Cut) 0 R R sl29 sz3 R R R R hg18.1 hg18.2.1 hg18.2.2 (fun A19 D19 => (lS R (l_nil ?_)))))))))))
 exact qI ((sub r14 (0 : Int) (if (r14.length : Int) < c1.Cut then (r14.length : Int) else c1.Cut)), (A19, (sub r14 (0 : Int) (if (r14.length : Int) < c1.Cut then (r14.length : Int) else c1.Cut)).length, D19)) hr (fun w s => (s.e 3 [2, 0]))
 refine c_false R hb17 (c_skip ?_)
 exact qI (r14, (A16, r14.length, D16)) hr (fun w s => ((s.shs 0 R).e 2 [1, 0]))
 rintro ⟨order20, ⟨A21, N21, D21⟩⟩ σ1 hr
 replace hr : Z6_J2 c1 x12 order20 = some r := hr
 unfold Z6_J2 at hr
 refine c_len 1 sees_rd (fun (hn : N21 = order20.length) => ?_)
 subst hn
 refine c_seq (c_region (lI R (l_nil (q_next (c_seq (c_cut (A := (Int) × (Unit)) (fun a => Z6_J3 c1 x12 order20 a.1 = some r) (fun a => [(2, (pt b4 0)), (5, (sc A13 x12 D13)), (6, (sc A21 order20 D21)), (7, (iv a.1))]) (fun a => RR kT3 A13 D13 x12 :: RR kT3 A21 D21 order20 :: W1) ?_ ?_))))))
 refine c_seq (c_region (lS R (lO (v_len sl29 R) (lI R (l_nil (q_next (c_block ?_)))))))
 obtain ⟨e1, hl1, hk1⟩ := bd hr
 refine c_loop (A := Unit) hl1 (fun s a => [(2, (pt b4 0)), (5, (sc A13 x12 D13)), (6, (sc A21 order20 D21)), (7, (iv s.1)), (33, (sc A21 order20 D21)), (34, (il order20)), (35, (iv s.2))]) (fun s a => RR kT3 A13 D13 x12 :: RR kT3 A21 D21 order20 :: W1) () (aS R) (fun w s => s) ?_
 rintro ⟨sum29, x30⟩ _ σ1 out1 hr he1
 replace hr : Z6_L1 x12 order20 sum29 x30 = some out1 := hr
 unfold Z6_L1 at hr
 refine c_seq (c_region (lO (vLt R R) (l_nil (q_next (c_seq ?_)))))
 rcases bif_ hr with ⟨hb31, hr⟩ | ⟨hb31, hr⟩
 refine c_true R hb31 (c_skip (q_next (c_seq (c_block (c_seq ?_)))))
 obtain ⟨hg32, hr⟩ := gd hr
 refine c_region (t_some 1 sees_rd (show 0 < order20.length by have := hg32; omega) (fun g33 o34 ha => ?_))
 subst ha
 refine lO (vIa sl29 sz3 R R hg32) (lO (vLi 1 ag3 sees_rd R hg32) (lI R (l_nil (q_next ?_))))
 obtain ⟨hg35, hr⟩ := gd hr
 refine c_region (lI R (lS R (lI R (t_some 0 sees_rd (show 0 < x12.length by have := hg35; omega) (fun g36 o37 ha => ?_)))))
 subst ha
 refine lO (vIa sl29 sz3 R R hg35) (lO (vLi 0 ag3 sees_rd R hg35) (lO (vAd R R) (lI R (l_nil (q_blockn (q_next (c_region (lO (vAd R R) (lI R (l_nil ?_))))))))))
 obtain rfl := so hr
 exact qA () (fun w s => s)
 refine c_false R hb31 (c_exit (q_exit ?_))
 obtain rfl := so hr
 obtain rfl := he1 _ R
 have hr := hk1
 refine q_exit (q_block ?_)
 exact qI (sum29, ()) hr (fun w s => s)
 rintro ⟨sum40, _⟩ σ1 hr
 replace hr : Z6_J3 c1 x12 order20 sum40 = some r := hr
 unfold Z6_J3 at hr
 refine c_seq ?_
 obtain ⟨hg41, hr⟩ := gd hr
 refine c_region (lS R (lO (v_len sl29 R) (l_make (K := kT3) (m := (x12.length : Int)) (z := (0 : Int)) R R sl29 sz3 by3 (Zr.zk zT3 zc3) (by decide) R R hg41.1 hg41.2.1 hg41.2.2 (fun A42 D42 => (lS R (l_nil (q_next (c_seq (c_region (lI R (l_nil (q_next (c_seq (c_cut (A := ((List Int)) × (Unit)) (fun a => Z6_J4 a.1 = some r) (fun a => [(10, (sc A42 (List.replicate (x12.length : Int).toNat (0 : Int)) D42))]) (fun a => ow kT3 3 (.slice A42 (List.replicate (x12.length : Int).toNat (0 : Int)).length D42) a.1 :: W1) ?_ ?_))))))))))))))
 refine c_seq (c_region (lS R (lO (v_len sl29 R) (lI R (l_nil (q_next (c_block ?_)))))))
 obtain ⟨e2, hl2, hk2⟩ := bd hr
 refine c_loop (A := Unit) hl2 (fun s a => [(2, (pt b4 0)), (5, (sc A13 x12 D13)), (7, (iv sum40)), (10, (sc A42 (List.replicate (x12.length : Int).toNat (0 : Int)) D42)), (11, (iv s.2.1)), (49, (sc A21 order20 D21)), (50, (il order20)), (51, (iv s.2.2))]) (fun s a => RR kT3 A13 D13 x12 :: ow kT3 3 (.slice A42 (List.replicate (x12.length : Int).toNat (0 : Int)).length D42) s.1 :: RR kT3 A21 D21 order20 :: W1) () (aS R) (fun w s => (s.e 3 [1, 0, 2])) ?_
 rintro ⟨x56, x57, x58⟩ _ σ1 out2 hr he2
 replace hr : Z6_L2 c1 x12 order20 sum40 x56 x57 x58 = some out2 := hr
 unfold Z6_L2 at hr
 refine c_seq (c_region (lO (vLt R R) (l_nil (q_next (c_seq ?_)))))
 rcases bif_ hr with ⟨hb59, hr⟩ | ⟨hb59, hr⟩
 refine c_true R hb59 (c_skip (q_next (c_seq (c_block (c_seq ?_)))))
 obtain ⟨hg60, hr⟩ := gd hr
 refine c_region (t_some 2 sees_rd (show 0 < order20.length by have := hg60; omega) (fun g61 o62 ha => ?_))
 subst ha
 refine lO (vIa sl29 sz3 R R hg60) (lO (vLi 2 ag3 sees_rd R hg60) (lI R (l_nil (q_next (c_seq ?_)))))
 obtain ⟨hg63, hr⟩ := gd hr
 obtain ⟨hg66, hr⟩ := gd hr
 refine c_region (lS R (lI R (lS R (lI R (t_some 0 sees_rd (show 0 < x12.length by have := hg63; omega) (fun g64 o65 ha => ?_))))))
 subst ha
 refine lO (vIa sl29 sz3 R R hg63) (lO (vLi 0 ag3 sees_rd R hg63) (t_some 1 sees_ow (show 0 < (List.replicate (x12.length : Int).toNat (0 : Int)).length by have := hg66; omega) (fun g67 o68 ha => ?_)))
 subst ha
 refine lO (vIa sl29 sz3 R R hg66) (lM (ow kT3 3 (.slice (ad g67 o68) (List.replicate (x12.length : Int).toNat (0 : Int)).length D42) x56 :: RR kT3 (ad g64 o65) D13 x12 :: RR kT3 (ad g61 o62) D21 order20 :: W1) (fun w s => (s.e 3 [1, 0, 2])) ?_)
 refine l_stx (K := kT3) (x' := (ix x12 (ix order20 x58))) 0 (ix order20 x58) R R sz3 R R hg66.1 hg66.2 ?_ ?_
 exact fun I h s => (mO3).put I h () (ix x12 (ix order20 x58)) s
 refine lN (ow kT3 3 (.slice (ad g67 o68) (List.replicate (x12.length : Int).toNat (0 : Int)).length D42) (x56.set (ix order20 x58).toNat (ix x12 (ix order20 x58))) :: _ :: _ :: W1) ?_
 refine l_nil (q_next (c_seq (c_region (lI R (lS R (lI R (lO (vIa sl29 sz3 R R hg63) (lO (vLi 1 ag3 sees_rd R hg63) (lO (vAd R R) (lI R (l_nil (q_next (c_seq (c_region (lI R (lO (vMu R R) (lO (vFa 2 fo28_2 R) (lO (vLd 3 ag3 R R R) (lI R (lO (vMu R R) (lO (vGe R R) (l_nil (q_next ?_)))))))))))))))))))))))
 rcases bif_ hr with ⟨hb69, hr⟩ | ⟨hb69, hr⟩
 refine c_true R hb69 (c_exit (q_pass R (q_exit ?_)))
 obtain rfl := so hr
 obtain rfl := he2 _ R
 have hr := hk2
 refine q_exit (q_block ?_)
 exact qI ((x56.set (ix order20 x58).toNat (ix x12 (ix order20 x58))), ()) hr (fun w s => (s.e 3 [0]))
 refine c_false R hb69 (c_skip (q_blockn (q_next (c_region (lO (vAd R R) (lI R (l_nil ?_)))))))
 obtain rfl := so hr
 exact qA () (fun w s => (s.e 3 [1, 0, 2]))
 refine c_false R hb59 (c_exit (q_exit ?_))
 obtain rfl := so hr
 obtain rfl := he2 _ R
 have hr := hk2
 refine q_exit (q_block ?_)
 exact qI (x56, ()) hr (fun w s => (s.e 3 [1]))
 rintro ⟨x73, _⟩ σ1 hr
 replace hr : Z6_J4 x73 = some r := hr
 unfold Z6_J4 at hr
 refine c_seq (c_region (lS R (lS R (l_nil (q_next (c_ret ?_))))))
 obtain rfl := so hr
 exact qF (A42, (List.replicate (x12.length : Int).toNat (0 : Int)).length, D42) (fun w s => (s.e 3 [0]))
theorem Z16_ok  {p1 : Int} {n2 : Int} {r : Int × Int} (hr : Z16 p1 n2 = some r) :
 FnOk Try.prog 58 [(iv p1), (iv n2)] [] (fun (h : Unit) => ((.tuple [(iv r.1), (iv r.2)].toArray), [])) := by
 unfold Z16 at hr
 refine fn_ok Try.func58 R 22 R R fun C V => ?_
 refine cN V ?_
 refine c_seq (c_region (lI R (lI R (l_nil (q_next (c_seq (c_seq ?_)))))))
 obtain ⟨r3, hx4, hr⟩ := bd hr
 obtain ⟨r5, hx6, hr⟩ := bd hr
 refine cQ [(0, (iv p1)), (1, (iv n2)), (13, (.bool ((!r3) || (!r5))))] (V) ?_ ?_
 refine c_region (lI R (lC 0 cb29 R (Z0o_ok hx4) R ?_))
 rintro _
 refine lO (vNo R) (lB R ?_)
 rcases bo (!r3) with hc7 | hc7
 refine lf (wfT hc7) (lf (wfT hc7) (lf (wfT hc7) (lO (pOT (!r5) R hc7) (l_nil ?_))))
 exact qJ (fun w s => s)
 refine lW (wnF hc7) (vI R) (l_calln 0 R (wnF hc7) cb31 R (Zt_ok (gcall_t hx6 (not_ff hc7))) R ?_)
 rintro _
 refine lW (wnF hc7) (vNo R) (lO (pOF R hc7 R) (l_nil ?_))
 exact qJ (fun w s => s)
 rintro σ1
 refine q_next ?_
 rcases bif_ hr with ⟨hb8, hr⟩ | ⟨hb8, hr⟩
 refine c_true R hb8 (c_seq (c_region (lI R (lI R (lI R (l_nil (q_next (c_ret (q_ret ?_)))))))))
 obtain rfl := so hr
 exact q_fin (vs := [(iv 0), (iv p1)]) (.inl R) () R ⟨R, R, trivial⟩ R (fun w s => s)
 refine c_false R hb8 (c_skip (q_next (c_seq ?_)))
 obtain ⟨r9, hx10, hr⟩ := bd hr
 refine c_region (lI R (lC 0 cb55 R (Z13_ok hx10) R ?_))
 rintro _
 refine lI R (l_nil (q_next (c_seq (c_region (lI R (lI R (lO (vMu R R) (lO (vz (iv ((w64 (r9 * n2)) / 2 ^ (32 : Int).toNat)) (v_shr R R (by decide) (by decide))) (lI R (lI R (lI R (l_nil (q_next (c_ret ?_))))))))))))))
 obtain rfl := so hr
 exact q_fin (vs := [(iv ((w64 (r9 * n2)) / 2 ^ (32 : Int).toNat)), (iv r9)]) (.inl R) () R ⟨R, R, trivial⟩ R (fun w s => s)
theorem Zo_ok  {weights1 : (List Int)} {r3 : Int} {r : Int} (hr : Zo weights1 r3 = some r) :
 FnOk Try.prog 59 [(.slice A2 N2 D2), (iv r3)] [rds kT3 (.slice A2 N2 D2) weights1] (fun (h : Unit) => ((iv r), [])) := by
 unfold Zo at hr
 refine fn_ok Try.func59 R 35 R R fun C V => ?_
 refine cN (_ :: V) ?_
 refine cL 0 sees_rd ?_
 rintro rfl
 let W0 : List HP := RR kT3 A2 D2 weights1 :: V
 refine cN W0 ?_
 refine c_seq (c_region (lI R (l_nil (q_next (c_seq (c_seq ?_))))))
 obtain ⟨r4, hx5, hr⟩ := bd hr
 refine cQ [(0, (sc A2 weights1 D2)), (1, (iv r3)), (19, (.bool (((decide ((weights1.length : Int) > (64 : Int))) || (!r4)) || (decide (r3 < (0 : Int))))))] (W0) ?_ ?_
 refine c_region (lS R (lO (v_len sl29 R) (lO (vGt R R) (lB R ?_))))
 rcases bo (decide ((weights1.length : Int) > (64 : Int))) with hc6 | hc6
 refine lf (wfT hc6) (lf (wfT hc6) (lf (wfT hc6) (lO (pOT (!r4) R hc6) (lB R (lf (wfT (oT hc6)) (lf (wfT (oT hc6)) (lO (pOT (decide (r3 < (0 : Int))) R (oT hc6)) (l_nil ?_))))))))
 exact qJ (fun w s => s)
 refine lW (wnF hc6) (vS R) (lM (RR kT3 A2 D2 weights1 :: W0) (fun w s => (s.d 0 R)) ?_)
 refine l_calln 1 R (wnF hc6) cb51 R (Zv_ok (gcall_t hx5 (not_ff hc6))) R ?_
 rintro _
 refine lN W0 ?_
 refine lW (wnF hc6) (vNo R) (lO (pOF R hc6 R) (lB R ?_))
 rcases bo ((decide ((weights1.length : Int) > (64 : Int))) || (!r4)) with hc7 | hc7
 refine lf (wfT hc7) (lf (wfT hc7) (lO (pOT (decide (r3 < (0 : Int))) R hc7) (l_nil ?_)))
 exact qJ (fun w s => s)
 refine lW (wnF hc7) (vI R) (lW (wnF hc7) (vLt R R) (lO (pOF R hc7 R) (l_nil ?_)))
 exact qJ (fun w s => s)
 rintro σ1
 refine q_next ?_
 rcases bif_ hr with ⟨hb8, hr⟩ | ⟨hb8, hr⟩
 refine c_true R hb8 (c_seq (c_region (lI R (l_nil (q_next (c_ret (q_ret ?_)))))))
 obtain rfl := so hr
 exact qF () (fun w s => (s.e 1 []))
 refine c_false R hb8 (c_skip (q_next (c_seq (c_region (lI R (l_nil (q_next (c_seq (c_cut (A := (Unit) × (Unit)) (fun a => Zo_J1 = some r) (fun a => []) (fun a => W0) ?_ ?_)))))))))
 refine c_seq (c_region (lS R (lO (v_len sl29 R) (lI R (l_nil (q_next (c_block ?_)))))))
 obtain ⟨e1, hl1, hk1⟩ := bd hr
 refine c_loop (A := Unit) hl1 (fun s a => [(1, (iv r3)), (5, (iv s.1)), (20, (sc A2 weights1 D2)), (21, (il weights1)), (22, (iv s.2))]) (fun s a => W0) () (aS R) (fun w s => s) ?_
 rintro ⟨sum14, x15⟩ _ σ1 out1 hr he1
 replace hr : Zo_L1 weights1 r3 sum14 x15 = some out1 := hr
 unfold Zo_L1 at hr
 refine c_seq (c_region (lO (vLt R R) (l_nil (q_next (c_seq ?_)))))
 rcases bif_ hr with ⟨hb16, hr⟩ | ⟨hb16, hr⟩
 refine c_true R hb16 (c_skip (q_next (c_seq (c_block (c_seq ?_)))))
 obtain ⟨hg17, hr⟩ := gd hr
 refine c_region (lI R (t_some 0 sees_rd (show 0 < weights1.length by have := hg17; omega) (fun g18 o19 ha => ?_)))
 subst ha
 refine lO (vIa sl29 sz3 R R hg17) (lO (vLi 0 ag3 sees_rd R hg17) (lI R (lI R (l_nil (q_next (c_seq (c_region (lI R (lI R (lO (vAd R R) (lI R (l_nil (q_next (c_seq (c_region (lI R (lI R (lO (vGt R R) (l_nil (q_next ?_))))))))))))))))))))
 rcases bif_ hr with ⟨hb20, hr⟩ | ⟨hb20, hr⟩
 refine c_true R hb20 (c_seq (c_region (lI R (lI R (l_nil (q_next (c_ret (q_blockr (q_ret ?_)))))))))
 obtain rfl := so hr
 obtain rfl := he1 _ R
 have hr := hk1
 refine q_ret (q_blockr (q_ret ?_))
 obtain rfl := so hr
 exact qF () (fun w s => (s.e 1 []))
 refine c_false R hb20 (c_skip (q_blockn (q_next (c_region (lO (vAd R R) (lI R (l_nil ?_)))))))
 obtain rfl := so hr
 exact qA () (fun w s => s)
 refine c_false R hb16 (c_exit (q_exit ?_))
 obtain rfl := so hr
 obtain rfl := he1 _ R
 have hr := hk1
 refine q_exit (q_block ?_)
 exact q_join ((), ()) hr trivial (fun w s => s)
 rintro ⟨_, _⟩ σ1 hr
 replace hr : Zo_J1 = some r := hr
 unfold Zo_J1 at hr
 refine c_seq (c_region (lI R (l_nil (q_next (c_ret ?_)))))
 obtain rfl := so hr
 exact qF () (fun w s => (s.e 1 []))
theorem Zj_ok  {t1 : talker} {history5 : (List Int)} {i7 : Int} {b2 : Nat} {r : Int} (hr : Zj t1 history5 i7 = some r) :
 FnOk Try.prog 35 [(pt b2 0), (.slice A6 N6 D6), (iv i7)] [rds kT33 (.slice A3 N3 D3) t1.rows, rds kT3 (.slice A4 N4 D4) t1.states, bxl b2 [(.slice A3 N3 D3), (iv t1.choice.Power), (iv t1.choice.Cut), (iv t1.choice.Mass), (.slice A4 N4 D4)] 79, rds kT3 (.slice A6 N6 D6) history5] (fun (h : Unit) => ((iv r), [bxl b2 [(.slice A3 N3 D3), (iv t1.choice.Power), (iv t1.choice.Cut), (iv t1.choice.Mass), (.slice A4 N4 D4)] 79])) := by
 unfold Zj at hr
 refine fn_ok Try.func35 R 49 R R fun C V => ?_
 refine cM (bxl _ _ _ :: rds _ _ _ :: rds _ _ _ :: rds _ _ _ :: V) (fun w s => (s.e 4 [2, 0, 1, 3])) ?_
 refine cL 1 sees_rd ?_
 rintro rfl
 refine cL 2 sees_rd ?_
 rintro rfl
 refine cL 3 sees_rd ?_
 rintro rfl
 let W0 : List HP := RR kT33 A3 D3 t1.rows :: RR kT3 A4 D4 t1.states :: RR kT3 A6 D6 history5 :: V
 refine cN (bxl b2 [(sc A3 t1.rows D3), (iv t1.choice.Power), (iv t1.choice.Cut), (iv t1.choice.Mass), (sc A4 t1.states D4)] 79 :: W0) ?_
 refine c_seq (c_region (lI R (l_nil ?_)))
 let W1 : List HP := bxl b2 [(sc A3 t1.rows D3), (iv t1.choice.Power), (iv t1.choice.Cut), (iv t1.choice.Mass), (sc A4 t1.states D4)] 79 :: W0
 refine qN W1 ?_
 refine q_next (c_seq ?_)
 obtain ⟨r8, hx9, hr⟩ := bd hr
 obtain ⟨r11, hx12, hr⟩ := bd hr
 refine cdr 12 [] mixo (fun ht hn => (dR 0 R (vP R) (dR 1 R (vP R) (dR 2 R (vFa 1 fo79_1 R) (dR 3 R (vz (.agg [(iv t1.choice.Power), (iv t1.choice.Cut), (iv t1.choice.Mass)].toArray) (v_loadw 0 ag28 sz28 R R R R)) (dR 4 R (vP R) (dR 5 R (vP R) (dR 6 R (vFa 0 fo79_0 R) (dR 7 R (vLd 0 ag24 R R R) (dR 8 R (vS R) (d1 9 R (lM (RR kT33 A3 D3 t1.rows :: RR kT3 A6 D6 history5 :: W1) (fun w s => (((s.d 1 R).d 4 R).e 2 [1, 0])) ?_))))))))))))
 refine lC 2 cb57 R (Zu_ok hx9) R ?_
 rintro ⟨A10, N10, D10⟩
 refine lN (rds kT3 (.slice A10 N10 D10) r8 :: W1) ?_
 refine l_len 0 sees_rd ?_
 rintro rfl
 refine l_nil (q_draw (sL [0]) (d1 10 R (lM (_ :: _ :: W1) (fun w s => (s.d 0 R)) ?_)))
 refine lC 1 cb56 R (Z6_ok hx12) R ?_
 rintro ⟨A13, N13, D13⟩
 refine lN (ow kT3 3 (.slice A13 N13 D13) r11 :: _ :: W1) ?_
 refine l_len 0 sees_ow ?_
 rintro rfl
 refine l_nil (q_draw (sL [1, 0]) (dR 11 R (vS R) (hS := (sL [1, 0])) (dD (q_next (c_seq (c_region (lI R (l_nil (q_next (c_seq (c_cut (A := (Int) × (Unit)) (fun a => Zj_J1 t1 i7 r11 a.1 = some r) (fun a => [(0, (pt b2 0)), (2, (iv i7)), (7, (sc A13 r11 D13)), (8, (iv a.1))]) (fun a => OO kT3 3 A13 D13 r11 :: W1) ?_ ?_)))))))))))
 refine c_seq (c_region (lS R (lO (v_len sl29 R) (lI R (l_nil (q_next (c_block ?_)))))))
 obtain ⟨e1, hl1, hk1⟩ := bd hr
 refine c_loop (A := Unit) hl1 (fun s a => [(0, (pt b2 0)), (2, (iv i7)), (7, (sc A13 r11 D13)), (8, (iv s.1)), (24, (sc A13 r11 D13)), (25, (il r11)), (26, (iv s.2))]) (fun s a => OO kT3 3 A13 D13 r11 :: W1) () (aS R) (fun w s => (s.e 2 [0])) ?_
 rintro ⟨sum18, x19⟩ _ σ1 out1 hr he1
 replace hr : Zj_L1 r11 sum18 x19 = some out1 := hr
 unfold Zj_L1 at hr
 refine c_seq (c_region (lO (vLt R R) (l_nil (q_next (c_seq ?_)))))
 rcases bif_ hr with ⟨hb20, hr⟩ | ⟨hb20, hr⟩
 refine c_true R hb20 (c_skip (q_next (c_seq (c_block (c_seq ?_)))))
 obtain ⟨hg21, hr⟩ := gd hr
 refine c_region (t_some 0 sees_ow (show 0 < r11.length by have := hg21; omega) (fun g22 o23 ha => ?_))
 subst ha
 refine lO (vIa sl29 sz3 R R hg21) (lO (vLi 0 ag3 sees_ow R hg21) (lI R (l_nil (q_next (c_region (lI R (lI R (lO (vAd R R) (lI R (l_nil (q_blockn (q_next (c_region (lO (vAd R R) (lI R (l_nil ?_))))))))))))))))
 obtain rfl := so hr
 exact qA () (fun w s => s)
 refine c_false R hb20 (c_exit (q_exit ?_))
 obtain rfl := so hr
 obtain rfl := he1 _ R
 have hr := hk1
 refine q_exit (q_block ?_)
 exact qI (sum18, ()) hr (fun w s => s)
 rintro ⟨sum26, _⟩ σ1 hr
 replace hr : Zj_J1 t1 i7 r11 sum26 = some r := hr
 unfold Zj_J1 at hr
 refine c_seq ?_
 obtain ⟨hg27, hr⟩ := gd hr
 obtain ⟨r30, hx31, hr⟩ := bd hr
 refine c_region (lP R (lP R (lO (vFa 4 fo79_2 R) (lO (vLd 1 ag29 R R R) (lI R (t_some 3 sees_rd (show 0 < t1.states.length by have := hg27; omega) (fun g28 o29 ha => ?_)))))))
 subst ha
 refine lO (vIa sl29 sz3 R R hg27) (lO (vLi 3 ag3 sees_rd R hg27) (lI R (lC 0 cb58 R (Z16_ok hx31) R ?_)))
 rintro _
 refine lN (_ :: W1) ?_
 refine lO (vT R) (lI R (lI R (lI R (lI R (l_nil (q_next (c_seq ?_)))))))
 obtain ⟨r32, hx33, hr⟩ := bd hr
 refine c_region (lS R (lI R (lC 1 cb59 R (FnOk.lends (A' := [OO kT3 3 A13 D13 r11]) (A := [RR kT3 A13 D13 r11]) (B := []) (Zo_ok hx33) ⟨lend_ow, trivial⟩ (fun _ => trivial)) R ?_)))
 rintro _
 refine lI R (l_nil (q_next (c_ret ?_)))
 obtain rfl := so hr
 exact qF () (fun w s => (s.e 5 [1]))
theorem Z4_ok  {m1 : Lm} {draft3 : Lm} {c5 : Choice} {prompt6 : (List Int)} {n8 : Int} {seed9 : Int} {ahead10 : Int} {r : (List Int) × Int} (hr : Z4 m1 draft3 c5 prompt6 n8 seed9 ahead10 = some r) :
 FnOk Try.prog 7 [(.agg [(iv m1.Size), (.slice A2 N2 D2)].toArray), (.agg [(iv draft3.Size), (.slice A4 N4 D4)].toArray), (.agg [(iv c5.Power), (iv c5.Cut), (iv c5.Mass)].toArray), (.slice A7 N7 D7), (iv n8), (iv seed9), (iv ahead10)] [rds kT33 (.slice A2 N2 D2) m1.Rows, rds kT33 (.slice A4 N4 D4) draft3.Rows, rds kT3 (.slice A7 N7 D7) prompt6] (fun (h : HH) => ((.tuple [(.slice h.1 h.2.1 h.2.2), (iv r.2)].toArray), [ow kT3 3 (.slice h.1 h.2.1 h.2.2) r.1])) := by
 unfold Z4 at hr
 refine fn_ok Try.func7 R 142 R R fun C V => ?_
 refine cN (_ :: _ :: _ :: V) ?_
 refine cL 0 sees_rd ?_
 rintro rfl
 refine cL 1 sees_rd ?_
 rintro rfl
 refine cL 2 sees_rd ?_
 rintro rfl
 let W0 : List HP := RR kT33 A2 D2 m1.Rows :: RR kT33 A4 D4 draft3.Rows :: RR kT3 A7 D7 prompt6 :: V
 refine cN W0 ?_
 refine c_seq (c_region (lBx R (fun b11 => (lBx R (fun b12 => (lBx R (fun b13 => (l_box (cs := [(sc A7 prompt6 D7)]) R R R (fun b14 => (lS R (lI R (l_nil ?_))))))))))))
 let W1 : List HP := bxl b13 [(iv c5.Power), (iv c5.Cut), (iv c5.Mass)] 28 :: bxl b12 [(iv draft3.Size), (sc A4 draft3.Rows D4)] 26 :: bxl b11 [(iv m1.Size), (sc A2 m1.Rows D2)] 26 :: W0
 refine qN (_ :: W1) ?_
 refine q_next (c_seq (c_seq ?_))
 obtain ⟨r15, hx16, hr⟩ := bd hr
 obtain ⟨r17, hx18, hr⟩ := bd hr
 obtain ⟨r19, hx20, hr⟩ := bd hr
 obtain ⟨r21, hx22, hr⟩ := bd hr
 obtain ⟨r23, hx24, hr⟩ := bd hr
 refine cQ [(4, (iv n8)), (5, (iv seed9)), (6, (iv ahead10)), (7, (pt b11 0)), (8, (pt b12 0)), (9, (pt b13 0)), (10, (pt b14 0)), (55, (.bool ((((((!r15) || (!r17)) || (!r19)) || (!r21)) || (draft3.Size != m1.Size)) || (!r23))))] (bxl b14 [(sc A7 prompt6 D7)] 29 :: W1) ?_ ?_
 refine c_region (lO (vz (.agg [(iv m1.Size), (sc A2 m1.Rows D2)].toArray) (v_loadw 3 ag26 sz26 R R R R)) (lO (vLd 0 ag29 R R R) (lI R (lM (RR kT33 A2 D2 m1.Rows :: RR kT3 A7 D7 prompt6 :: bxl _ _ _ :: W1) (fun w s => (((s.d 4 R).d 7 R).e 3 [1, 0, 2])) ?_))))
 refine lC 2 cb27 R (Z1c_ok hx16) R ?_
 rintro _
 refine lN (_ :: W1) ?_
 refine lO (vNo R) (lB R ?_)
 rcases bo (!r15) with hc25 | hc25
 refine lf (wfT hc25) (lf (wfT hc25) (lf (wfT hc25) (lO (pOT (!r17) R hc25) (lB R (lf (wfT (oT hc25)) (lf (wfT (oT hc25)) (lf (wfT (oT hc25)) (lO (pOT (!r19) R (oT hc25)) (lB R (lf (wfT (oT (oT hc25))) (lf (wfT (oT (oT hc25))) (lf (wfT (oT (oT hc25))) (lO (pOT (!r21) R (oT (oT hc25))) (lB R (lf (wfT (oT (oT (oT hc25)))) (lf (wfT (oT (oT (oT hc25)))) (lf (wfT (oT (oT (oT hc25)))) (lf (wfT (oT (oT (oT hc25)))) (lf (wfT (oT (oT (oT hc25)))) (lO (pOT (draft3.Size != m1.Size) R (oT (oT (oT hc25)))) (lB R (lf (wfT (oT (oT (oT (oT hc25))))) (lf (wfT (oT (oT (oT (oT hc25))))) (lf (wfT (oT (oT (oT (oT hc25))))) (lO (pOT (!r23) R (oT (oT (oT (oT hc25))))) (l_nil ?_))))))))))))))))))))))))))
 exact qJ (fun w s => s)
 refine lW (wnF hc25) (vz (.agg [(iv c5.Power), (iv c5.Cut), (iv c5.Mass)].toArray) (v_loadw 1 ag28 sz28 R R R R)) (l_calln 0 R (wnF hc25) cb28 R (Z1m_ok (gcall_t hx18 (not_ff hc25))) R ?_)
 rintro _
 refine lW (wnF hc25) (vNo R) (lO (pOF R hc25 R) (lB R ?_))
 rcases bo ((!r15) || (!r17)) with hc26 | hc26
 refine lf (wfT hc26) (lf (wfT hc26) (lf (wfT hc26) (lO (pOT (!r19) R hc26) (lB R (lf (wfT (oT hc26)) (lf (wfT (oT hc26)) (lf (wfT (oT hc26)) (lO (pOT (!r21) R (oT hc26)) (lB R (lf (wfT (oT (oT hc26))) (lf (wfT (oT (oT hc26))) (lf (wfT (oT (oT hc26))) (lf (wfT (oT (oT hc26))) (lf (wfT (oT (oT hc26))) (lO (pOT (draft3.Size != m1.Size) R (oT (oT hc26))) (lB R (lf (wfT (oT (oT (oT hc26)))) (lf (wfT (oT (oT (oT hc26)))) (lf (wfT (oT (oT (oT hc26)))) (lO (pOT (!r23) R (oT (oT (oT hc26)))) (l_nil ?_)))))))))))))))))))))
 exact qJ (fun w s => s)
 refine lW (wnF hc26) (vI R) (l_calln 0 R (wnF hc26) cb29 R (Z0o_ok (gcall_t hx20 (not_ff hc26))) R ?_)
 rintro _
 refine lW (wnF hc26) (vNo R) (lO (pOF R hc26 R) (lB R ?_))
 rcases bo (((!r15) || (!r17)) || (!r19)) with hc27 | hc27
 refine lf (wfT hc27) (lf (wfT hc27) (lf (wfT hc27) (lO (pOT (!r21) R hc27) (lB R (lf (wfT (oT hc27)) (lf (wfT (oT hc27)) (lf (wfT (oT hc27)) (lf (wfT (oT hc27)) (lf (wfT (oT hc27)) (lO (pOT (draft3.Size != m1.Size) R (oT hc27)) (lB R (lf (wfT (oT (oT hc27))) (lf (wfT (oT (oT hc27))) (lf (wfT (oT (oT hc27))) (lO (pOT (!r23) R (oT (oT hc27))) (l_nil ?_))))))))))))))))
 exact qJ (fun w s => s)
 refine lW (wnF hc27) (vz (.agg [(iv draft3.Size), (sc A4 draft3.Rows D4)].toArray) (v_loadw 2 ag26 sz26 R R R R)) (lM (RR kT33 A4 D4 draft3.Rows :: _ :: W1) (fun w s => (s.d 5 R)) ?_)
 refine l_calln 1 R (wnF hc27) cb30 R (Zp_ok (gcall_t hx22 (not_ff hc27))) R ?_
 rintro _
 refine lN (_ :: W1) ?_
 refine lW (wnF hc27) (vNo R) (lO (pOF R hc27 R) (lB R ?_))
 rcases bo ((((!r15) || (!r17)) || (!r19)) || (!r21)) with hc28 | hc28
 refine lf (wfT hc28) (lf (wfT hc28) (lf (wfT hc28) (lf (wfT hc28) (lf (wfT hc28) (lO (pOT (draft3.Size != m1.Size) R hc28) (lB R (lf (wfT (oT hc28)) (lf (wfT (oT hc28)) (lf (wfT (oT hc28)) (lO (pOT (!r23) R (oT hc28)) (l_nil ?_)))))))))))
 exact qJ (fun w s => s)
 refine lW (wnF hc28) (vFa 0 fo26_0 R) (lW (wnF hc28) (vLd 2 ag3 R R R) (lW (wnF hc28) (vFa 0 fo26_0 R) (lW (wnF hc28) (vLd 3 ag3 R R R) (lW (wnF hc28) (vNe R R) (lO (pOF R hc28 R) (lB R ?_))))))
 rcases bo (((((!r15) || (!r17)) || (!r19)) || (!r21)) || (draft3.Size != m1.Size)) with hc29 | hc29
 refine lf (wfT hc29) (lf (wfT hc29) (lf (wfT hc29) (lO (pOT (!r23) R hc29) (l_nil ?_))))
 exact qJ (fun w s => s)
 refine lW (wnF hc29) (vI R) (l_calln 0 R (wnF hc29) cb31 R (Zt_ok (gcall_t hx24 (not_ff hc29))) R ?_)
 rintro _
 refine lW (wnF hc29) (vNo R) (lO (pOF R hc29 R) (l_nil ?_))
 exact qJ (fun w s => s)
 rintro σ1
 refine q_next ?_
 rcases bif_ hr with ⟨hb30, hr⟩ | ⟨hb30, hr⟩
 refine c_true R hb30 (c_seq (c_region (lS R (lI R (l_nil (q_next (c_ret (q_ret ?_))))))))
 obtain rfl := so hr
 exact q_fin (vs := [(.slice none 0 0), (iv 0)]) (.inl R) (none, 0, 0) R ⟨R, R, trivial⟩ R (fun w s => ((s.nilo kT3 3).e 8 [0]))
 refine c_false R hb30 (c_skip (q_next (c_seq ?_)))
 obtain ⟨r31, hx32, hr⟩ := bd hr
 obtain ⟨r36, hx37, hr⟩ := bd hr
 refine cdr 12 [] mixo (fun ht hn => (dR 0 R (vz (.agg [(iv m1.Size), (sc A2 m1.Rows D2)].toArray) (v_loadw 3 ag26 sz26 R R R R)) (dR 1 R (vz (.agg [(iv c5.Power), (iv c5.Cut), (iv c5.Mass)].toArray) (v_loadw 1 ag28 sz28 R R R R)) (dR 2 R (vI R) (dR 3 R (vI R) (dR 5 R (vz (.agg [(iv draft3.Size), (sc A4 draft3.Rows D4)].toArray) (v_loadw 2 ag26 sz26 R R R R)) (dR 6 R (vz (.agg [(iv c5.Power), (iv c5.Cut), (iv c5.Mass)].toArray) (v_loadw 1 ag28 sz28 R R R R)) (dR 7 R (vI R) (dR 8 R (vI R) (d1 4 R (lM (RR kT33 A2 D2 m1.Rows :: _ :: W1) (fun w s => (s.d 4 R)) ?_)))))))))))
 refine lC 1 cb32 R (Zx_ok hx32) R ?_
 rintro ⟨⟨A33, N33, D33⟩, ⟨A34, N34, D34⟩, b35⟩
 refine lN (ow (kT33).share 33 (.slice A33 N33 D33) r31.rows :: ow kT3 3 (.slice A34 N34 D34) r31.states :: bxl b35 [(.slice A33 N33 D33), (iv r31.choice.Power), (iv r31.choice.Cut), (iv r31.choice.Mass), (.slice A34 N34 D34)] 79 :: _ :: W1) ?_
 refine l_len 0 sees_sh ?_
 rintro rfl
 refine l_len 1 sees_ow ?_
 rintro rfl
 refine l_nil (q_draw (sL [2, 1, 0]) (d1 9 R (lM (RR kT33 A4 D4 draft3.Rows :: _ :: _ :: bxl b35 [(sc A33 r31.rows D33), (iv r31.choice.Power), (iv r31.choice.Cut), (iv r31.choice.Mass), (sc A34 r31.states D34)] 79 :: _ :: W1) (fun w s => (s.d 8 R)) ?_)))
 refine lC 1 cb32 R (Zx_ok hx37) R ?_
 rintro ⟨⟨A38, N38, D38⟩, ⟨A39, N39, D39⟩, b40⟩
 refine lN (ow (kT33).share 33 (.slice A38 N38 D38) r36.rows :: ow kT3 3 (.slice A39 N39 D39) r36.states :: bxl b40 [(.slice A38 N38 D38), (iv r36.choice.Power), (iv r36.choice.Cut), (iv r36.choice.Mass), (.slice A39 N39 D39)] 79 :: _ :: _ :: _ :: _ :: W1) ?_
 refine l_len 0 sees_sh ?_
 rintro rfl
 refine l_len 1 sees_ow ?_
 rintro rfl
 refine l_nil (q_draw (sL [5, 4, 3, 2, 1, 0]) (dR 10 R (vP R) (hS := (sL [5, 4, 3, 2, 1, 0])) (dR 11 R (vP R) (hS := (sL [5, 4, 3, 2, 1, 0])) (dD (q_next (c_seq ?_))))))
 obtain ⟨r41, hx42, hr⟩ := bd hr
 refine c_region (lO (vLd 6 ag29 R R R) (lM (RR kT3 A7 D7 prompt6 :: _ :: _ :: bxl b40 [(sc A38 r36.rows D38), (iv r36.choice.Power), (iv r36.choice.Cut), (iv r36.choice.Mass), (sc A39 r36.states D39)] 79 :: _ :: _ :: _ :: _ :: W1) (fun w s => (s.d 12 R)) ?_))
 refine lC 1 cb33 R (Z0m_ok hx42) R ?_
 rintro ⟨A43, N43, D43⟩
 refine lN (ow kT3 3 (.slice A43 N43 D43) r41 :: _ :: _ :: _ :: _ :: _ :: _ :: _ :: W1) ?_
 refine l_len 0 sees_ow ?_
 rintro rfl
 refine l_alloc R R zc29 (fun b44 => (l_store 0 R R sz29 R R R R R (lN (bxl b44 [(sc A43 r41 D43)] 29 :: _ :: _ :: _ :: _ :: _ :: _ :: _ :: _ :: W1) ?_)))
 refine l_nil (q_next (c_seq (c_region (lO (vp (.func (.func 34) [].toArray [(pt b44 0), (pt b14 0)].toArray) R) (lO (vp (.func (.func 34) [].toArray [(pt b44 0), (pt b14 0)].toArray) R) (l_nil (q_next (c_seq (c_region (lI R (l_nil (q_next (c_seq (c_cut (A := ((List Int) × Int) × (HH)) (fun a => Z4_J5 prompt6 a.1.1 a.1.2 = some r) (fun a => [(10, (pt b14 0)), (18, (pt b44 0)), (20, (iv a.1.2))]) (fun a => bxl b14 [(sc A7 prompt6 D7)] 29 :: bxl b44 [(.slice a.2.1 a.2.2.1 a.2.2.2)] 29 :: ow kT3 3 (.slice a.2.1 a.2.2.1 a.2.2.2) a.1.1 :: W1) ?_ ?_))))))))))))))
 refine c_block ?_
 obtain ⟨e1, hl1, hk1⟩ := bd hr
 refine c_loop (A := HH) hl1 (fun s a => [(4, (iv n8)), (6, (iv ahead10)), (10, (pt b14 0)), (16, (pt b35 0)), (17, (pt b40 0)), (18, (pt b44 0)), (19, (.func (.func 34) [].toArray [(pt b44 0), (pt b14 0)].toArray)), (20, (iv s.2))]) (fun s a => bxl b14 [(sc A7 prompt6 D7)] 29 :: bxl b35 [(sc A33 r31.rows D33), (iv r31.choice.Power), (iv r31.choice.Cut), (iv r31.choice.Mass), (sc A34 r31.states D34)] 79 :: OO (kT33).share 33 A33 D33 r31.rows :: OO kT3 3 A34 D34 r31.states :: bxl b40 [(sc A38 r36.rows D38), (iv r36.choice.Power), (iv r36.choice.Cut), (iv r36.choice.Mass), (sc A39 r36.states D39)] 79 :: OO (kT33).share 33 A38 D38 r36.rows :: OO kT3 3 A39 D39 r36.states :: bxl b44 [(.slice a.1 a.2.1 a.2.2)] 29 :: ow kT3 3 (.slice a.1 a.2.1 a.2.2) s.1 :: W1) (A43, r41.length, D43) (aS R) (fun w s => (s.e 9 [8, 7, 5, 6, 4, 2, 3, 0, 1])) ?_
 rintro ⟨all116, passes118⟩ ⟨A117, N117, D117⟩ σ1 out1 hr he1
 replace hr : Z4_L1 prompt6 n8 ahead10 r31 r36 all116 passes118 = some out1 := hr
 unfold Z4_L1 at hr
 refine c_len 8 sees_ow (fun (hn : N117 = all116.length) => ?_)
 subst hn
 refine c_seq (c_seq ?_)
 obtain ⟨r119, hx120, hr⟩ := bd hr
 refine c_region (lO (vp (.func (.func 34) [].toArray [(pt b44 0), (pt b14 0)].toArray) R) (lM (OO kT3 3 A117 D117 all116 :: bxl b44 [(sc A117 all116 D117)] 29 :: RR kT3 A7 D7 prompt6 :: bxl _ _ _ :: bxl _ _ _ :: ow _ _ _ _ :: ow _ _ _ _ :: bxl _ _ _ :: ow _ _ _ _ :: ow _ _ _ _ :: W1) (fun w s => ((s.d 14 R).f 10 [9, 1, 8, 1, 0, 8])) ?_))
 refine l_callvn (fs := []) (cs := [(pt b44 0), (pt b14 0)]) 4 R R cb34 R R (FnOk.lends (A' := [OO kT3 3 A117 D117 all116]) (A := [RR kT3 A117 D117 all116]) (B := [bxl b44 [(sc A117 all116 D117)] 29, RR kT3 A7 D7 prompt6, bxl b14 [(sc A7 prompt6 D7)] 29]) (Z0i_ok hx120) ⟨lend_ow, trivial⟩ (fun _ => ⟨closed_bx, closed_bx, trivial⟩)) R ?_
 rintro _
 refine lN (_ :: _ :: _ :: _ :: _ :: _ :: _ :: _ :: _ :: W1) ?_
 refine lI R (lO (vLt R R) (l_nil (q_next ?_)))
 rcases bif_ hr with ⟨hb121, hr⟩ | ⟨hb121, hr⟩
 refine c_true R hb121 (c_skip (q_next (c_block (c_seq (c_region (lI R (lO (vAd R R) (lI R (l_nil (q_next (c_seq ?_)))))))))))
 obtain ⟨r122, hx123, hr⟩ := bd hr
 refine c_region (lO (vLd 1 ag29 R R R) (lC 1 cb33 R (FnOk.lends (A' := [OO kT3 3 A117 D117 all116]) (A := [RR kT3 A117 D117 all116]) (B := []) (Z0m_ok hx123) ⟨lend_ow, trivial⟩ (fun _ => ⟨(closed_ow cT3), trivial⟩)) R ?_))
 rintro ⟨A124, N124, D124⟩
 refine lN (_ :: ow kT3 3 (.slice A124 N124 D124) r122 :: _ :: _ :: _ :: _ :: _ :: _ :: _ :: _ :: W1) ?_
 refine l_len 1 sees_ow ?_
 rintro rfl
 refine lS R (l_nil (q_next (c_seq (c_cut (A := ((List Int)) × (HH)) (fun a => Z4_J3 prompt6 n8 r31 all116 passes118 a.1 = some out1) (fun a => [(4, (iv n8)), (6, (iv ahead10)), (10, (pt b14 0)), (16, (pt b35 0)), (17, (pt b40 0)), (18, (pt b44 0)), (19, (.func (.func 34) [].toArray [(pt b44 0), (pt b14 0)].toArray)), (20, (iv (w64 (passes118 + (1 : Int))))), (21, (.slice a.2.1 a.2.2.1 a.2.2.2))]) (fun a => bxl b14 [(sc A7 prompt6 D7)] 29 :: bxl b35 [(sc A33 r31.rows D33), (iv r31.choice.Power), (iv r31.choice.Cut), (iv r31.choice.Mass), (sc A34 r31.states D34)] 79 :: OO (kT33).share 33 A33 D33 r31.rows :: OO kT3 3 A34 D34 r31.states :: bxl b40 [(sc A38 r36.rows D38), (iv r36.choice.Power), (iv r36.choice.Cut), (iv r36.choice.Mass), (sc A39 r36.states D39)] 79 :: OO (kT33).share 33 A38 D38 r36.rows :: OO kT3 3 A39 D39 r36.states :: bxl b44 [(sc A117 all116 D117)] 29 :: OO kT3 3 A117 D117 all116 :: ow kT3 3 (.slice a.2.1 a.2.2.1 a.2.2.2) a.1 :: W1) ?_ ?_))))
 refine c_seq ?_
 obtain ⟨r125, hx126, hr⟩ := bd hr
 refine c_region (lI R (lI R (lO (vp (.func (.func 34) [].toArray [(pt b44 0), (pt b14 0)].toArray) R) (lM (ow _ _ _ _ :: bxl _ _ _ :: RR kT3 A7 D7 prompt6 :: bxl _ _ _ :: ow _ _ _ _ :: bxl _ _ _ :: ow _ _ _ _ :: ow _ _ _ _ :: bxl _ _ _ :: ow _ _ _ _ :: ow _ _ _ _ :: W1) (fun w s => ((s.d 15 R).e 11 [1, 3, 0, 4, 2, 5, 6, 7, 8, 9, 10])) ?_))))
 refine l_callvn (fs := []) (cs := [(pt b44 0), (pt b14 0)]) 4 R R cb34 R R (FnOk.lends (A' := [OO kT3 3 A117 D117 all116]) (A := [RR kT3 A117 D117 all116]) (B := [bxl b44 [(sc A117 all116 D117)] 29, RR kT3 A7 D7 prompt6, bxl b14 [(sc A7 prompt6 D7)] 29]) (Z0i_ok hx126) ⟨lend_ow, trivial⟩ (fun _ => ⟨closed_bx, closed_bx, trivial⟩)) R ?_
 rintro _
 refine lN (_ :: _ :: _ :: _ :: _ :: _ :: _ :: _ :: _ :: _ :: W1) ?_
 refine lO (vSb R R) (lO (vz (iv (if (w64 (n8 - r125)) < ahead10 then (w64 (n8 - r125)) else ahead10)) (v_min R R)) (lI R (l_nil (q_next (c_block ?_)))))
 obtain ⟨e2, hl2, hk2⟩ := bd hr
 refine c_loop (A := HH) hl2 (fun s a => [(4, (iv n8)), (6, (iv ahead10)), (10, (pt b14 0)), (16, (pt b35 0)), (17, (pt b40 0)), (18, (pt b44 0)), (19, (.func (.func 34) [].toArray [(pt b44 0), (pt b14 0)].toArray)), (20, (iv (w64 (passes118 + (1 : Int))))), (21, (.slice a.1 a.2.1 a.2.2)), (82, (iv (if (w64 (n8 - r125)) < ahead10 then (w64 (n8 - r125)) else ahead10))), (83, (iv s.2))]) (fun s a => bxl b14 [(sc A7 prompt6 D7)] 29 :: bxl b35 [(sc A33 r31.rows D33), (iv r31.choice.Power), (iv r31.choice.Cut), (iv r31.choice.Mass), (sc A34 r31.states D34)] 79 :: OO (kT33).share 33 A33 D33 r31.rows :: OO kT3 3 A34 D34 r31.states :: bxl b40 [(sc A38 r36.rows D38), (iv r36.choice.Power), (iv r36.choice.Cut), (iv r36.choice.Mass), (sc A39 r36.states D39)] 79 :: OO (kT33).share 33 A38 D38 r36.rows :: OO kT3 3 A39 D39 r36.states :: bxl b44 [(sc A117 all116 D117)] 29 :: OO kT3 3 A117 D117 all116 :: ow kT3 3 (.slice a.1 a.2.1 a.2.2) s.1 :: W1) (A124, r122.length, D124) (aS R) (fun w s => (s.e 10 [2, 4, 5, 6, 7, 8, 9, 1, 0, 3])) ?_
 rintro ⟨guess133, x135⟩ ⟨A134, N134, D134⟩ σ1 out2 hr he2
 replace hr : Z4_L2 prompt6 n8 ahead10 r36 r125 guess133 x135 = some out2 := hr
 unfold Z4_L2 at hr
 refine c_len 9 sees_ow (fun (hn : N134 = guess133.length) => ?_)
 subst hn
 refine c_seq (c_region (lO (vLt R R) (l_nil (q_next (c_seq ?_)))))
 rcases bif_ hr with ⟨hb136, hr⟩ | ⟨hb136, hr⟩
 refine c_true R hb136 (c_skip (q_next (c_seq (c_block ?_))))
 obtain ⟨r137, hx138, hr⟩ := bd hr
 obtain ⟨hg140, hr⟩ := gd hr
 refine c_region (lS R (lP R (lS R (lS R (lO (v_len sl29 R) (lO (vLd 0 ag29 R R R) (lO (v_len sl29 R) (lO (vSb R R) (lM (ow _ _ _ _ :: ow _ _ _ _ :: OO kT3 3 A134 D134 guess133 :: bxl _ _ _ :: bxl _ _ _ :: bxl _ _ _ :: ow _ _ _ _ :: ow _ _ _ _ :: bxl _ _ _ :: ow _ _ _ _ :: W1) (fun w s => (s.e 10 [5, 6, 9, 4, 0, 1, 2, 3, 7, 8])) ?_)))))))))
 refine lC 4 cb35 R (FnOk.lends (A' := [OO (kT33).share 33 A38 D38 r36.rows, OO kT3 3 A39 D39 r36.states, OO kT3 3 A134 D134 guess133]) (A := [RR kT33 A38 D38 r36.rows, RR kT3 A39 D39 r36.states, RR kT3 A134 D134 guess133]) (B := [bxl b40 [(sc A38 r36.rows D38), (iv r36.choice.Power), (iv r36.choice.Cut), (iv r36.choice.Mass), (sc A39 r36.states D39)] 79]) (FnOk.perm (Zj_ok hx138) (Pre' := [RR kT33 A38 D38 r36.rows, RR kT3 A39 D39 r36.states, RR kT3 A134 D134 guess133, bxl b40 [(sc A38 r36.rows D38), (iv r36.choice.Power), (iv r36.choice.Cut), (iv r36.choice.Mass), (sc A39 r36.states D39)] 79]) (fun _ _ _ s => (s.e 4 [0, 1, 3, 2]))) ⟨lend_sh, lend_ow, lend_ow, trivial⟩ (fun _ => ⟨closed_bx, trivial⟩)) R ?_
 rintro _
 refine l_build (K := kT3) (xs := ([r137] : List Int)) (vs := [(iv r137)]) 0 R R sl29 sz3 zc3 R R R R R R ?_ R (fun A139 D139 => ?_)
 exact fun I h s => (mO3).list [((), r137)] I h s
 refine lN (OO kT3 3 A139 D139 ([r137] : List Int) :: _ :: _ :: _ :: _ :: _ :: _ :: _ :: _ :: _ :: _ :: W1) ?_
 refine lM (ow _ _ _ _ :: ow _ _ _ _ :: ow _ _ _ _ :: ow _ _ _ _ :: bxl _ _ _ :: bxl _ _ _ :: bxl _ _ _ :: ow _ _ _ _ :: ow _ _ _ _ :: bxl _ _ _ :: ow _ _ _ _ :: W1) (fun w s => (s.f 11 [3, 1, 0, 3, 4, 7])) ?_
 refine l_app (K := kT3) 17592186044416 R R sl29 sz3 by3 (Zr.zk zT3 zc3) R R R R R R src_ow hg140 (fun A141 D141 => (lN (OO kT3 3 A141 D141 (guess133 ++ ([r137] : List Int)) :: _ :: _ :: _ :: _ :: _ :: _ :: _ :: _ :: _ :: W1) ?_))
 refine lS R (l_nil (q_blockn (q_next (c_region (lO (vAd R R) (lI R (l_nil ?_)))))))
 obtain rfl := so hr
 exact qA (A141, (guess133 ++ ([r137] : List Int)).length, D141) (fun w s => (s.e 10 [4, 5, 6, 7, 3, 1, 2, 8, 9, 0]))
 refine c_false R hb136 (c_exit (q_exit ?_))
 obtain rfl := so hr
 obtain rfl := he2 _ R
 have hr := hk2
 refine q_exit (q_block ?_)
 exact qI (guess133, (A134, guess133.length, D134)) hr (fun w s => s)
 rintro ⟨guess145, ⟨A146, N146, D146⟩⟩ σ1 hr
 replace hr : Z4_J3 prompt6 n8 r31 all116 passes118 guess145 = some out1 := hr
 unfold Z4_J3 at hr
 refine c_len 9 sees_ow (fun (hn : N146 = guess145.length) => ?_)
 subst hn
 refine c_seq (c_region (lB R (l_nil (q_next (c_seq (c_cut (A := ((List Int) × Bool) × (HH)) (fun a => Z4_J4 prompt6 n8 r31 passes118 a.1.1 a.1.2 = some out1) (fun a => [(4, (iv n8)), (6, (iv ahead10)), (10, (pt b14 0)), (16, (pt b35 0)), (17, (pt b40 0)), (18, (pt b44 0)), (19, (.func (.func 34) [].toArray [(pt b44 0), (pt b14 0)].toArray)), (20, (iv (w64 (passes118 + (1 : Int))))), (22, (.bool a.1.2))]) (fun a => bxl b14 [(sc A7 prompt6 D7)] 29 :: bxl b35 [(sc A33 r31.rows D33), (iv r31.choice.Power), (iv r31.choice.Cut), (iv r31.choice.Mass), (sc A34 r31.states D34)] 79 :: OO (kT33).share 33 A33 D33 r31.rows :: OO kT3 3 A34 D34 r31.states :: bxl b40 [(sc A38 r36.rows D38), (iv r36.choice.Power), (iv r36.choice.Cut), (iv r36.choice.Mass), (sc A39 r36.states D39)] 79 :: OO (kT33).share 33 A38 D38 r36.rows :: OO kT3 3 A39 D39 r36.states :: bxl b44 [(.slice a.2.1 a.2.2.1 a.2.2.2)] 29 :: ow kT3 3 (.slice a.2.1 a.2.2.1 a.2.2.2) a.1.1 :: W1) ?_ ?_))))))
 refine c_block ?_
 obtain ⟨e3, hl3, hk3⟩ := bd hr
 refine c_loop (A := HH) hl3 (fun s a => [(4, (iv n8)), (6, (iv ahead10)), (10, (pt b14 0)), (16, (pt b35 0)), (17, (pt b40 0)), (18, (pt b44 0)), (19, (.func (.func 34) [].toArray [(pt b44 0), (pt b14 0)].toArray)), (20, (iv (w64 (passes118 + (1 : Int))))), (21, (sc A146 guess145 D146)), (22, (.bool s.2))]) (fun s a => bxl b14 [(sc A7 prompt6 D7)] 29 :: bxl b35 [(sc A33 r31.rows D33), (iv r31.choice.Power), (iv r31.choice.Cut), (iv r31.choice.Mass), (sc A34 r31.states D34)] 79 :: OO (kT33).share 33 A33 D33 r31.rows :: OO kT3 3 A34 D34 r31.states :: bxl b40 [(sc A38 r36.rows D38), (iv r36.choice.Power), (iv r36.choice.Cut), (iv r36.choice.Mass), (sc A39 r36.states D39)] 79 :: OO (kT33).share 33 A38 D38 r36.rows :: OO kT3 3 A39 D39 r36.states :: bxl b44 [(.slice a.1 a.2.1 a.2.2)] 29 :: ow kT3 3 (.slice a.1 a.2.1 a.2.2) s.1 :: OO kT3 3 A146 D146 guess145 :: W1) (A117, all116.length, D117) (aS R) (fun w s => s) ?_
 rintro ⟨all158, agreed160⟩ ⟨A159, N159, D159⟩ σ1 out3 hr he3
 replace hr : Z4_L3 prompt6 r31 guess145 all158 agreed160 = some out3 := hr
 unfold Z4_L3 at hr
 refine c_len 8 sees_ow (fun (hn : N159 = all158.length) => ?_)
 subst hn
 refine c_seq (c_seq (cQ [(4, (iv n8)), (6, (iv ahead10)), (10, (pt b14 0)), (16, (pt b35 0)), (17, (pt b40 0)), (18, (pt b44 0)), (19, (.func (.func 34) [].toArray [(pt b44 0), (pt b14 0)].toArray)), (20, (iv (w64 (passes118 + (1 : Int))))), (21, (sc A146 guess145 D146)), (22, (.bool agreed160)), (104, (.bool (agreed160 && (decide ((all158.length : Int) < (guess145.length : Int))))))] (bxl b14 [(sc A7 prompt6 D7)] 29 :: bxl b35 [(sc A33 r31.rows D33), (iv r31.choice.Power), (iv r31.choice.Cut), (iv r31.choice.Mass), (sc A34 r31.states D34)] 79 :: OO (kT33).share 33 A33 D33 r31.rows :: OO kT3 3 A34 D34 r31.states :: bxl b40 [(sc A38 r36.rows D38), (iv r36.choice.Power), (iv r36.choice.Cut), (iv r36.choice.Mass), (sc A39 r36.states D39)] 79 :: OO (kT33).share 33 A38 D38 r36.rows :: OO kT3 3 A39 D39 r36.states :: bxl b44 [(sc A159 all158 D159)] 29 :: OO kT3 3 A159 D159 all158 :: OO kT3 3 A146 D146 guess145 :: W1) ?_ ?_))
 refine c_region (lB R (lB R ?_))
 rcases bo agreed160 with hc161 | hc161
 refine lW (wnT hc161) (vLd 7 ag29 R R R) (lW (wnT hc161) (v_len sl29 R) (lW (wnT hc161) (vS R) (lW (wnT hc161) (v_len sl29 R) (lW (wnT hc161) (vLt R R) (lO (pAT R hc161 R) (l_nil ?_))))))
 exact qJ (fun w s => s)
 refine lf (wfF hc161) (lf (wfF hc161) (lf (wfF hc161) (lf (wfF hc161) (lf (wfF hc161) (lO (pAF (decide ((all158.length : Int) < (guess145.length : Int))) R hc161) (l_nil ?_))))))
 exact qJ (fun w s => s)
 rintro σ1
 refine q_next ?_
 rcases bif_ hr with ⟨hb162, hr⟩ | ⟨hb162, hr⟩
 refine c_true R hb162 (c_skip (q_next (c_block (c_seq ?_))))
 obtain ⟨r163, hx164, hr⟩ := bd hr
 obtain ⟨r165, hx166, hr⟩ := bd hr
 refine cdr 6 [] mixo (fun ht hn => (dR 0 R (vP R) (dR 1 R (vLd 7 ag29 R R R) (dR 2 R (vp (.func (.func 34) [].toArray [(pt b44 0), (pt b14 0)].toArray) R) (d1 3 R (lM (OO kT3 3 A159 D159 all158 :: bxl b44 [(sc A159 all158 D159)] 29 :: RR kT3 A7 D7 prompt6 :: bxl _ _ _ :: bxl _ _ _ :: ow _ _ _ _ :: ow _ _ _ _ :: bxl _ _ _ :: ow _ _ _ _ :: ow _ _ _ _ :: OO kT3 3 A146 D146 guess145 :: W1) (fun w s => ((s.d 15 R).f 11 [9, 1, 8, 1, 0, 8, 10, 1])) ?_))))))
 refine l_callvn (fs := []) (cs := [(pt b44 0), (pt b14 0)]) 4 R R cb34 R R (FnOk.lends (A' := [OO kT3 3 A159 D159 all158]) (A := [RR kT3 A159 D159 all158]) (B := [bxl b44 [(sc A159 all158 D159)] 29, RR kT3 A7 D7 prompt6, bxl b14 [(sc A7 prompt6 D7)] 29]) (Z0i_ok hx164) ⟨lend_ow, trivial⟩ (fun _ => ⟨closed_bx, closed_bx, trivial⟩)) R ?_
 rintro _
 refine lN (_ :: _ :: _ :: _ :: _ :: _ :: _ :: _ :: _ :: _ :: W1) ?_
 refine l_nil (q_draw (fun w s => (s.f 10 [2, 7, 1, 1, 0, 1, 9, 1])) (d1 4 R (lM (ow _ _ _ _ :: ow _ _ _ _ :: ow _ _ _ _ :: bxl _ _ _ :: bxl _ _ _ :: bxl _ _ _ :: bxl _ _ _ :: ow _ _ _ _ :: ow _ _ _ _ :: ow _ _ _ _ :: W1) (fun w s => (s.e 10 [4, 5, 0, 3, 1, 2, 6, 7, 8, 9])) ?_)))
 refine lC 4 cb35 R (FnOk.lends (A' := [OO (kT33).share 33 A33 D33 r31.rows, OO kT3 3 A34 D34 r31.states, OO kT3 3 A159 D159 all158]) (A := [RR kT33 A33 D33 r31.rows, RR kT3 A34 D34 r31.states, RR kT3 A159 D159 all158]) (B := [bxl b35 [(sc A33 r31.rows D33), (iv r31.choice.Power), (iv r31.choice.Cut), (iv r31.choice.Mass), (sc A34 r31.states D34)] 79]) (FnOk.perm (Zj_ok hx166) (Pre' := [RR kT33 A33 D33 r31.rows, RR kT3 A34 D34 r31.states, RR kT3 A159 D159 all158, bxl b35 [(sc A33 r31.rows D33), (iv r31.choice.Power), (iv r31.choice.Cut), (iv r31.choice.Mass), (sc A34 r31.states D34)] 79]) (fun _ _ _ s => (s.e 4 [0, 1, 3, 2]))) ⟨lend_sh, lend_ow, lend_ow, trivial⟩ (fun _ => ⟨closed_bx, trivial⟩)) R ?_
 rintro _
 refine l_nil (q_draw (fun w s => (s.e 10 [5, 3, 0, 1, 6, 7, 8, 4, 2, 9])) (dR 5 R (vI R) (hS := (fun w s => (s.e 10 [5, 3, 0, 1, 6, 7, 8, 4, 2, 9]))) (dD (q_next (c_seq ?_)))))
 obtain ⟨hg167, hr⟩ := gd hr
 refine c_region (lI R (lS R (lO (vLd 4 ag29 R R R) (lO (v_len sl29 R) (t_some 9 sees_ow (show 0 < guess145.length by have := hg167; omega) (fun g168 o169 ha => ?_))))))
 subst ha
 refine lO (vIa sl29 sz3 R R hg167) (lO (vLi 9 ag3 sees_ow R hg167) (lO (vEq R R) (lB R (l_nil (q_next ?_)))))
 obtain ⟨hg171, hr⟩ := gd hr
 refine c_region (lO (vLd 4 ag29 R R R) (lI R (l_build (K := kT3) (xs := ([r165] : List Int)) (vs := [(iv r165)]) 0 R R sl29 sz3 zc3 R R R R R R ?_ R (fun A170 D170 => ?_))))
 exact fun I h s => (mO3).list [((), r165)] I h s
 refine lN (OO kT3 3 A170 D170 ([r165] : List Int) :: _ :: _ :: _ :: _ :: _ :: _ :: _ :: _ :: _ :: OO kT3 3 (ad g168 o169) D146 guess145 :: W1) ?_
 refine lM (ow _ _ _ _ :: ow _ _ _ _ :: ow _ _ _ _ :: ow _ _ _ _ :: bxl _ _ _ :: bxl _ _ _ :: bxl _ _ _ :: bxl _ _ _ :: ow _ _ _ _ :: ow _ _ _ _ :: ow _ _ _ _ :: W1) (fun w s => (s.f 11 [3, 1, 0, 3, 4, 7])) ?_
 refine l_app (K := kT3) 17592186044416 R R sl29 sz3 by3 (Zr.zk zT3 zc3) R R R R R R src_ow hg171 (fun A172 D172 => (lN (OO kT3 3 A172 D172 (all158 ++ ([r165] : List Int)) :: _ :: _ :: _ :: _ :: _ :: _ :: _ :: _ :: _ :: W1) ?_))
 refine l_store 4 R R sz29 R R R R R (lN (_ :: _ :: _ :: _ :: bxl b44 [(sc A172 (all158 ++ ([r165] : List Int)) D172)] 29 :: _ :: _ :: _ :: _ :: _ :: W1) ?_)
 refine l_nil (q_blockn ?_)
 obtain rfl := so hr
 exact qA (A172, (all158 ++ ([r165] : List Int)).length, D172) (fun w s => (s.e 10 [5, 3, 1, 2, 6, 7, 8, 4, 0, 9]))
 refine c_false R hb162 (c_exit (q_exit ?_))
 obtain rfl := so hr
 obtain rfl := he3 _ R
 have hr := hk3
 refine q_exit (q_block ?_)
 exact qI ((all158, agreed160), (A159, all158.length, D159)) hr (fun w s => (s.f 10 [0, 9]))
 rintro ⟨⟨all176, agreed178⟩, ⟨A177, N177, D177⟩⟩ σ1 hr
 replace hr : Z4_J4 prompt6 n8 r31 passes118 all176 agreed178 = some out1 := hr
 unfold Z4_J4 at hr
 refine c_len 8 sees_ow (fun (hn : N177 = all176.length) => ?_)
 subst hn
 refine c_seq ?_
 obtain ⟨r179, hx180, hr⟩ := bd hr
 refine cQ [(4, (iv n8)), (6, (iv ahead10)), (10, (pt b14 0)), (16, (pt b35 0)), (17, (pt b40 0)), (18, (pt b44 0)), (19, (.func (.func 34) [].toArray [(pt b44 0), (pt b14 0)].toArray)), (20, (iv (w64 (passes118 + (1 : Int))))), (127, (.bool (agreed178 && (decide (r179 < n8)))))] (bxl b14 [(sc A7 prompt6 D7)] 29 :: bxl b35 [(sc A33 r31.rows D33), (iv r31.choice.Power), (iv r31.choice.Cut), (iv r31.choice.Mass), (sc A34 r31.states D34)] 79 :: OO (kT33).share 33 A33 D33 r31.rows :: OO kT3 3 A34 D34 r31.states :: bxl b40 [(sc A38 r36.rows D38), (iv r36.choice.Power), (iv r36.choice.Cut), (iv r36.choice.Mass), (sc A39 r36.states D39)] 79 :: OO (kT33).share 33 A38 D38 r36.rows :: OO kT3 3 A39 D39 r36.states :: bxl b44 [(sc A177 all176 D177)] 29 :: OO kT3 3 A177 D177 all176 :: W1) ?_ ?_
 refine c_region (lB R (lB R ?_))
 rcases bo agreed178 with hc181 | hc181
 refine lW (wnT hc181) (vp (.func (.func 34) [].toArray [(pt b44 0), (pt b14 0)].toArray) R) (lM (OO kT3 3 A177 D177 all176 :: bxl b44 [(sc A177 all176 D177)] 29 :: RR kT3 A7 D7 prompt6 :: bxl _ _ _ :: bxl _ _ _ :: ow _ _ _ _ :: ow _ _ _ _ :: bxl _ _ _ :: ow _ _ _ _ :: ow _ _ _ _ :: W1) (fun w s => ((s.d 14 R).f 10 [9, 1, 8, 1, 0, 8])) ?_)
 refine l_callvn (fs := []) (cs := [(pt b44 0), (pt b14 0)]) 4 R (wnT hc181) cb34 R R (FnOk.lends (A' := [OO kT3 3 A177 D177 all176]) (A := [RR kT3 A177 D177 all176]) (B := [bxl b44 [(sc A177 all176 D177)] 29, RR kT3 A7 D7 prompt6, bxl b14 [(sc A7 prompt6 D7)] 29]) (Z0i_ok (gcall_t hx180 hc181)) ⟨lend_ow, trivial⟩ (fun _ => ⟨closed_bx, closed_bx, trivial⟩)) R ?_
 rintro _
 refine lN (_ :: _ :: _ :: _ :: _ :: _ :: _ :: _ :: _ :: W1) ?_
 refine lW (wnT hc181) (vI R) (lW (wnT hc181) (vLt R R) (lO (pAT R hc181 R) (l_nil ?_)))
 exact qJ (fun w s => (s.f 9 [2, 7, 1, 1, 0, 1]))
 refine lf (wfF hc181) (lf (wfF hc181) (lf (wfF hc181) (lf (wfF hc181) (lO (pAF (decide (r179 < n8)) R hc181) (l_nil ?_)))))
 exact qJ (fun w s => s)
 rintro σ1
 refine q_next ?_
 rcases bif_ hr with ⟨hb182, hr⟩ | ⟨hb182, hr⟩
 refine c_true R hb182 ?_
 obtain ⟨r183, hx184, hr⟩ := bd hr
 obtain ⟨r185, hx186, hr⟩ := bd hr
 obtain ⟨hg188, hr⟩ := gd hr
 refine cdr 7 [] mixo (fun ht hn => (dR 0 R (vLd 7 ag29 R R R) (dR 1 R (vP R) (dR 2 R (vLd 7 ag29 R R R) (dR 3 R (vp (.func (.func 34) [].toArray [(pt b44 0), (pt b14 0)].toArray) R) (d1 4 R (lM (ow _ _ _ _ :: bxl _ _ _ :: RR kT3 A7 D7 prompt6 :: bxl _ _ _ :: bxl _ _ _ :: ow _ _ _ _ :: ow _ _ _ _ :: bxl _ _ _ :: ow _ _ _ _ :: ow _ _ _ _ :: W1) (fun w s => ((s.d 14 R).f 10 [9, 1, 8, 1, 0, 8])) ?_)))))))
 refine l_callvn (fs := []) (cs := [(pt b44 0), (pt b14 0)]) 4 R R cb34 R R (FnOk.lends (A' := [OO kT3 3 A177 D177 all176]) (A := [RR kT3 A177 D177 all176]) (B := [bxl b44 [(sc A177 all176 D177)] 29, RR kT3 A7 D7 prompt6, bxl b14 [(sc A7 prompt6 D7)] 29]) (Z0i_ok hx184) ⟨lend_ow, trivial⟩ (fun _ => ⟨closed_bx, closed_bx, trivial⟩)) R ?_
 rintro _
 refine lN (_ :: _ :: _ :: _ :: _ :: _ :: _ :: _ :: _ :: W1) ?_
 refine l_nil (q_draw (fun w s => (s.f 9 [2, 7, 1, 1, 0, 1])) (d1 5 R (lM (ow _ _ _ _ :: ow _ _ _ _ :: ow _ _ _ _ :: bxl _ _ _ :: bxl _ _ _ :: bxl _ _ _ :: bxl _ _ _ :: ow _ _ _ _ :: ow _ _ _ _ :: W1) (fun w s => (s.e 9 [4, 5, 0, 3, 1, 2, 6, 7, 8])) ?_)))
 refine lC 4 cb35 R (FnOk.lends (A' := [OO (kT33).share 33 A33 D33 r31.rows, OO kT3 3 A34 D34 r31.states, OO kT3 3 A177 D177 all176]) (A := [RR kT33 A33 D33 r31.rows, RR kT3 A34 D34 r31.states, RR kT3 A177 D177 all176]) (B := [bxl b35 [(sc A33 r31.rows D33), (iv r31.choice.Power), (iv r31.choice.Cut), (iv r31.choice.Mass), (sc A34 r31.states D34)] 79]) (FnOk.perm (Zj_ok hx186) (Pre' := [RR kT33 A33 D33 r31.rows, RR kT3 A34 D34 r31.states, RR kT3 A177 D177 all176, bxl b35 [(sc A33 r31.rows D33), (iv r31.choice.Power), (iv r31.choice.Cut), (iv r31.choice.Mass), (sc A34 r31.states D34)] 79]) (fun _ _ _ s => (s.e 4 [0, 1, 3, 2]))) ⟨lend_sh, lend_ow, lend_ow, trivial⟩ (fun _ => ⟨closed_bx, trivial⟩)) R ?_
 rintro _
 refine l_nil (q_draw (fun w s => (s.e 9 [5, 3, 0, 1, 6, 7, 8, 4, 2])) (d1 6 R (l_build (K := kT3) (xs := ([r185] : List Int)) (vs := [(iv r185)]) 0 R R sl29 sz3 zc3 R R R R R R ?_ R (fun A187 D187 => ?_))))
 exact fun I h s => (mO3).list [((), r185)] I h s
 refine lN (OO kT3 3 A187 D187 ([r185] : List Int) :: _ :: _ :: _ :: _ :: _ :: _ :: _ :: _ :: _ :: W1) ?_
 refine l_nil (q_draw (fun w s => (s.e 10 [6, 4, 1, 2, 7, 8, 9, 5, 3])) (d1 7 R (lM (ow _ _ _ _ :: ow _ _ _ _ :: ow _ _ _ _ :: ow _ _ _ _ :: bxl _ _ _ :: bxl _ _ _ :: bxl _ _ _ :: bxl _ _ _ :: ow _ _ _ _ :: ow _ _ _ _ :: W1) (fun w s => (s.f 10 [3, 1, 0, 3, 4, 6])) ?_)))
 refine l_app (K := kT3) 17592186044416 R R sl29 sz3 by3 (Zr.zk zT3 zc3) R R R R R R src_ow hg188 (fun A189 D189 => (lN (OO kT3 3 A189 D189 (all176 ++ ([r185] : List Int)) :: _ :: _ :: _ :: _ :: _ :: _ :: _ :: _ :: W1) ?_))
 refine l_nil (qE (d1 8 R (l_store 4 R R sz29 R R R R R (lN (_ :: _ :: _ :: _ :: bxl b44 [(sc A189 (all176 ++ ([r185] : List Int)) D189)] 29 :: _ :: _ :: _ :: _ :: W1) ?_))))
 refine l_nil (qE (dD (q_blockn ?_)))
 obtain rfl := so hr
 exact qA (A189, (all176 ++ ([r185] : List Int)).length, D189) (fun w s => (s.e 9 [5, 3, 1, 2, 6, 7, 8, 4, 0]))
 refine c_false R hb182 (c_skip (q_blockn ?_))
 obtain rfl := so hr
 exact qA (A177, all176.length, D177) (fun w s => s)
 refine c_false R hb121 (c_exit (q_exit ?_))
 obtain rfl := so hr
 obtain rfl := he1 _ R
 have hr := hk1
 refine q_exit (q_block ?_)
 exact qI ((all116, passes118), (A117, all116.length, D117)) hr (fun w s => (s.e 9 [2, 1, 0]))
 rintro ⟨⟨all193, passes195⟩, ⟨A194, N194, D194⟩⟩ σ1 hr
 replace hr : Z4_J5 prompt6 all193 passes195 = some r := hr
 unfold Z4_J5 at hr
 refine c_len 2 sees_ow (fun (hn : N194 = all193.length) => ?_)
 subst hn
 refine c_seq ?_
 obtain ⟨hg196, hr⟩ := gd hr
 obtain ⟨r198, hx199, hr⟩ := bd hr
 refine c_region (lO (vLd 1 ag29 R R R) (lO (vLd 0 ag29 R R R) (lO (v_len sl29 R) (l_st (fun w s => s.shr 2 R) (l_cut (K := kT3) (prompt6.length : Int) (all193.length : Int) 0 R R sl29 sz3 R R R R hg196.1 hg196.2.1 hg196.2.2 (fun A197 D197 => (lM (RR kT3 A197 D197 (sub all193 (prompt6.length : Int) (all193.length : Int)) :: RR kT3 A197 D197 (sub all193 (prompt6.length : Int) (all193.length : Int)) :: RR kT3 A194 D194 all193 :: _ :: bxl b44 [(sc A194 all193 D194)] 29 :: W1) (fun w s => (s.d 0 R)) ?_)))))))
 refine lC 1 cb33 R (Z0m_ok hx199) R ?_
 rintro ⟨A200, N200, D200⟩
 refine lN (ow kT3 3 (.slice A200 N200 D200) r198 :: _ :: _ :: _ :: _ :: W1) ?_
 refine l_len 0 sees_ow ?_
 rintro rfl
 refine lI R (lS R (lI R (l_nil (q_next (c_ret ?_)))))
 obtain rfl := so hr
 exact q_fin (vs := [(sc A200 r198 D200), (iv passes195)]) (.inl R) (A200, r198.length, D200) R ⟨R, R, trivial⟩ R (fun w s => (s.e 11 [0]))
theorem Zs_ok  {a1 : (List Int)} {b3 : (List Int)} {r : Bool} (hr : Zs a1 b3 = some r) :
 FnOk Try.prog 15 [(.slice A2 N2 D2), (.slice A4 N4 D4)] [rds kT3 (.slice A2 N2 D2) a1, rds kT3 (.slice A4 N4 D4) b3] (fun (h : Unit) => ((.bool r), [])) := by
 unfold Zs at hr
 refine fn_ok Try.func15 R 26 R R fun C V => ?_
 refine cN (_ :: _ :: V) ?_
 refine cL 0 sees_rd ?_
 rintro rfl
 refine cL 1 sees_rd ?_
 rintro rfl
 let W0 : List HP := RR kT3 A2 D2 a1 :: RR kT3 A4 D4 b3 :: V
 refine cN W0 ?_
 refine c_seq (c_region (lB R (l_nil (q_next (c_seq (c_seq (c_region (lS R (lO (v_len sl29 R) (lS R (lO (v_len sl29 R) (lO (vNe R R) (l_nil (q_next ?_))))))))))))))
 rcases bif_ hr with ⟨hb5, hr⟩ | ⟨hb5, hr⟩
 refine c_true R hb5 (c_seq (c_region (lB R (l_nil (q_next (c_ret (q_ret ?_)))))))
 obtain rfl := so hr
 exact qF () (fun w s => (s.e 2 []))
 refine c_false R hb5 (c_skip (q_next (c_seq (c_cut (A := (Unit) × (Unit)) (fun a => Zs_J1 = some r) (fun a => []) (fun a => W0) ?_ ?_))))
 refine c_seq (c_region (lI R (l_nil (q_next (c_block ?_)))))
 obtain ⟨e1, hl1, hk1⟩ := bd hr
 refine c_loop (A := Unit) hl1 (fun s a => [(0, (sc A2 a1 D2)), (1, (sc A4 b3 D4)), (5, (iv s))]) (fun s a => W0) () (aS R) (fun w s => s) ?_
 rintro i14 _ σ1 out1 hr he1
 replace hr : Zs_L1 a1 b3 i14 = some out1 := hr
 unfold Zs_L1 at hr
 refine c_seq (c_seq (c_region (lI R (lS R (lO (v_len sl29 R) (lO (vLt R R) (l_nil (q_next ?_))))))))
 rcases bif_ hr with ⟨hb15, hr⟩ | ⟨hb15, hr⟩
 refine c_true R hb15 (c_skip (q_next (c_seq (c_block (c_seq ?_)))))
 obtain ⟨hg16, hr⟩ := gd hr
 obtain ⟨hg19, hr⟩ := gd hr
 refine c_some 0 sees_rd (show 0 < a1.length by have := hg16; omega) (fun g17 o18 ha => ?_)
 subst ha
 refine c_some 1 sees_rd (show 0 < b3.length by have := hg19; omega) (fun g20 o21 ha => ?_)
 subst ha
 refine cdr 9 [] mixo (fun ht hn => (dR 0 R (vS R) (dR 1 R (vI R) (dR 2 R (vIa sl29 sz3 R R hg16) (dR 3 R (vLi 0 ag3 sees_rd R hg16) (dR 4 R (vS R) (dR 5 R (vI R) (dR 6 R (vIa sl29 sz3 R R hg19) (dR 7 R (vLi 1 ag3 sees_rd R hg19) (dR 8 R (vNe R R) (dD (q_next ?_))))))))))))
 rcases bif_ hr with ⟨hb22, hr⟩ | ⟨hb22, hr⟩
 refine c_true R hb22 (c_seq (c_region (lB R (l_nil (q_next (c_ret (q_blockr (q_ret ?_))))))))
 obtain rfl := so hr
 obtain rfl := he1 _ R
 have hr := hk1
 refine q_ret (q_blockr (q_ret ?_))
 obtain rfl := so hr
 exact qF () (fun w s => (s.e 2 []))
 refine c_false R hb22 (c_skip (q_blockn (q_next (c_region (lI R (lO (vAd R R) (lI R (l_nil ?_))))))))
 obtain rfl := so hr
 exact qA () (fun w s => s)
 refine c_false R hb15 (c_exit (q_exit ?_))
 obtain rfl := so hr
 obtain rfl := he1 _ R
 have hr := hk1
 refine q_exit (q_block ?_)
 exact q_join ((), ()) hr trivial (fun w s => s)
 rintro ⟨_, _⟩ σ1 hr
 replace hr : Zs_J1 = some r := hr
 unfold Zs_J1 at hr
 refine c_seq (c_region (lB R (l_nil (q_next (c_ret ?_)))))
 obtain rfl := so hr
 exact qF () (fun w s => (s.e 2 []))
theorem Z1h_ok  {a1 : Row} {b4 : Row} {r : Bool} (hr : Z1h a1 b4 = some r) :
 FnOk Try.prog 70 [(.agg [(.slice A2 N2 D2), (.slice A3 N3 D3)].toArray), (.agg [(.slice A5 N5 D5), (.slice A6 N6 D6)].toArray)] [rds kT3 (.slice A2 N2 D2) a1.Key, rds kT3 (.slice A3 N3 D3) a1.Weights, rds kT3 (.slice A5 N5 D5) b4.Key, rds kT3 (.slice A6 N6 D6) b4.Weights] (fun (h : Unit) => ((.bool r), [])) := by
 unfold Z1h at hr
 refine fn_ok Try.func70 R 17 R R fun C V => ?_
 refine cN (_ :: _ :: _ :: _ :: V) ?_
 refine cL 0 sees_rd ?_
 rintro rfl
 refine cL 1 sees_rd ?_
 rintro rfl
 refine cL 2 sees_rd ?_
 rintro rfl
 refine cL 3 sees_rd ?_
 rintro rfl
 let W0 : List HP := RR kT3 A2 D2 a1.Key :: RR kT3 A3 D3 a1.Weights :: RR kT3 A5 D5 b4.Key :: RR kT3 A6 D6 b4.Weights :: V
 refine cN W0 ?_
 refine c_seq (c_region (lBx R (fun b7 => (lBx R (fun b8 => (lB R (l_nil ?_)))))))
 let W1 : List HP := bxl b8 [(sc A5 b4.Key D5), (sc A6 b4.Weights D6)] 33 :: bxl b7 [(sc A2 a1.Key D2), (sc A3 a1.Weights D3)] 33 :: W0
 refine qN W1 ?_
 refine q_next (c_seq (c_seq ?_))
 obtain ⟨r9, hx10, hr⟩ := bd hr
 refine c_region (lO (vFa 0 fo33_0 R) (lO (vLd 1 ag29 R R R) (lO (vFa 0 fo33_0 R) (lO (vLd 0 ag29 R R R) (lM (RR kT3 A2 D2 a1.Key :: RR kT3 A5 D5 b4.Key :: W1) (fun w s => (((s.d 2 R).d 5 R).e 2 [1, 0])) ?_)))))
 refine lC 2 cb15 R (Zs_ok hx10) R ?_
 rintro _
 refine lN W1 ?_
 refine lO (vNo R) (l_nil (q_next ?_))
 rcases bif_ hr with ⟨hb11, hr⟩ | ⟨hb11, hr⟩
 refine c_true R hb11 (c_seq (c_region (lB R (l_nil (q_next (c_ret (q_ret ?_)))))))
 obtain rfl := so hr
 exact qF () (fun w s => (s.e 6 []))
 refine c_false R hb11 (c_skip (q_next (c_seq (c_seq ?_))))
 obtain ⟨r12, hx13, hr⟩ := bd hr
 refine c_region (lO (vFa 1 fo33_1 R) (lO (vLd 1 ag29 R R R) (lO (vFa 1 fo33_1 R) (lO (vLd 0 ag29 R R R) (lM (RR kT3 A3 D3 a1.Weights :: RR kT3 A6 D6 b4.Weights :: W1) (fun w s => (((s.d 3 R).d 6 R).e 2 [1, 0])) ?_)))))
 refine lC 2 cb15 R (Zs_ok hx13) R ?_
 rintro _
 refine lN W1 ?_
 refine lO (vNo R) (l_nil (q_next ?_))
 rcases bif_ hr with ⟨hb14, hr⟩ | ⟨hb14, hr⟩
 refine c_true R hb14 (c_seq (c_region (lB R (l_nil (q_next (c_ret (q_ret ?_)))))))
 obtain rfl := so hr
 exact qF () (fun w s => (s.e 6 []))
 refine c_false R hb14 (c_skip (q_next (c_seq (c_region (lB R (l_nil (q_next (c_ret ?_))))))))
 obtain rfl := so hr
 exact qF () (fun w s => (s.e 6 []))
theorem Z0h_ok  {a1 : (List Row)} {b3 : (List Row)} {r : Bool} (hr : Z0h a1 b3 = some r) :
 FnOk Try.prog 46 [(.slice A2 N2 D2), (.slice A4 N4 D4)] [rds kT33 (.slice A2 N2 D2) a1, rds kT33 (.slice A4 N4 D4) b3] (fun (h : Unit) => ((.bool r), [])) := by
 unfold Z0h at hr
 refine fn_ok Try.func46 R 27 R R fun C V => ?_
 refine cN (_ :: _ :: V) ?_
 refine cL 0 sees_rd ?_
 rintro rfl
 refine cL 1 sees_rd ?_
 rintro rfl
 let W0 : List HP := RR kT33 A2 D2 a1 :: RR kT33 A4 D4 b3 :: V
 refine cN W0 ?_
 refine c_seq (c_region (lB R (l_nil (q_next (c_seq (c_seq (c_region (lS R (lO (v_len sl24 R) (lS R (lO (v_len sl24 R) (lO (vNe R R) (l_nil (q_next ?_))))))))))))))
 rcases bif_ hr with ⟨hb5, hr⟩ | ⟨hb5, hr⟩
 refine c_true R hb5 (c_seq (c_region (lB R (l_nil (q_next (c_ret (q_ret ?_)))))))
 obtain rfl := so hr
 exact qF () (fun w s => (s.e 2 []))
 refine c_false R hb5 (c_skip (q_next (c_seq (c_cut (A := (Unit) × (Unit)) (fun a => Z0h_J1 = some r) (fun a => []) (fun a => W0) ?_ ?_))))
 refine c_seq (c_region (lI R (l_nil (q_next (c_block ?_)))))
 obtain ⟨e1, hl1, hk1⟩ := bd hr
 refine c_loop (A := Unit) hl1 (fun s a => [(0, (sc A2 a1 D2)), (1, (sc A4 b3 D4)), (5, (iv s))]) (fun s a => W0) () (aS R) (fun w s => s) ?_
 rintro i20 _ σ1 out1 hr he1
 replace hr : Z0h_L1 a1 b3 i20 = some out1 := hr
 unfold Z0h_L1 at hr
 refine c_seq (c_seq (c_region (lI R (lS R (lO (v_len sl24 R) (lO (vLt R R) (l_nil (q_next ?_))))))))
 rcases bif_ hr with ⟨hb21, hr⟩ | ⟨hb21, hr⟩
 refine c_true R hb21 (c_skip (q_next (c_seq (c_block (c_seq ?_)))))
 obtain ⟨hg22, hr⟩ := gd hr
 obtain ⟨hg27, hr⟩ := gd hr
 obtain ⟨r32, hx33, hr⟩ := bd hr
 refine c_some 0 sees_rd (show 0 < a1.length by have := hg22; omega) (fun g23 o24 ha => ?_)
 subst ha
 refine c_elem (K := kT33) 0 i20 dT33.dec R hg22.1 hg22.2 ?_
 rintro ⟨⟨A25, D25⟩, ⟨A26, D26⟩⟩
 refine cN (cl g23 (o24 + i20.toNat * 2) [(sc A25 ((ix a1 i20).Key) D25), (sc A26 ((ix a1 i20).Weights) D26)] :: RR kT3 A25 D25 ((ix a1 i20).Key) :: RR kT3 A26 D26 ((ix a1 i20).Weights) :: W0) ?_
 refine c_some 4 sees_rd (show 0 < b3.length by have := hg27; omega) (fun g28 o29 ha => ?_)
 subst ha
 refine c_elem (K := kT33) 4 i20 dT33.dec R hg27.1 hg27.2 ?_
 rintro ⟨⟨A30, D30⟩, ⟨A31, D31⟩⟩
 refine cN (cl g28 (o29 + i20.toNat * 2) [(sc A30 ((ix b3 i20).Key) D30), (sc A31 ((ix b3 i20).Weights) D31)] :: RR kT3 A30 D30 ((ix b3 i20).Key) :: RR kT3 A31 D31 ((ix b3 i20).Weights) :: _ :: _ :: _ :: W0) ?_
 refine cdr 10 [] mixo (fun ht hn => (dR 0 R (vS R) (dR 1 R (vI R) (dR 2 R (vIa sl24 sz33 R R hg22) (dR 3 R (vz (.agg [(sc A25 ((ix a1 i20).Key) D25), (sc A26 ((ix a1 i20).Weights) D26)].toArray) (v_clfs (fo := 0) 3 ag33 sz33 R R R R)) (dR 4 R (vS R) (dR 5 R (vI R) (dR 6 R (vIa sl24 sz33 R R hg27) (dR 7 R (vz (.agg [(sc A30 ((ix b3 i20).Key) D30), (sc A31 ((ix b3 i20).Weights) D31)].toArray) (v_clfs (fo := 0) 0 ag33 sz33 R R R R)) (d1 8 R (lM (rds _ _ _ :: rds _ _ _ :: rds _ _ _ :: rds _ _ _ :: cl _ _ _ :: rds _ _ _ :: rds _ _ _ :: cl _ _ _ :: rds _ _ _ :: rds _ _ _ :: W0) (fun w s => (((((s.d 4 R).d 6 R).d 3 R).d 5 R).e 10 [3, 2, 1, 0, 4, 5, 6, 7, 8, 9])) ?_)))))))))))
 refine lC 4 cb70 R (Z1h_ok hx33) R ?_
 rintro _
 refine lN (_ :: _ :: _ :: _ :: _ :: _ :: W0) ?_
 refine l_nil (q_draw (sL []) (dR 9 R (vNo R) (dD (q_next ?_))))
 rcases bif_ hr with ⟨hb34, hr⟩ | ⟨hb34, hr⟩
 refine c_true R hb34 (c_seq (c_region (lB R (l_nil (q_next (c_ret (q_blockr (q_ret ?_))))))))
 obtain rfl := so hr
 obtain rfl := he1 _ R
 have hr := hk1
 refine q_ret (q_blockr (q_ret ?_))
 obtain rfl := so hr
 exact qF () (fun w s => (s.e 8 []))
 refine c_false R hb34 (c_skip (q_blockn (q_next (c_region (lI R (lO (vAd R R) (lI R (l_nil ?_))))))))
 obtain rfl := so hr
 exact qA () (fun w s => (s.e 6 []))
 refine c_false R hb21 (c_exit (q_exit ?_))
 obtain rfl := so hr
 obtain rfl := he1 _ R
 have hr := hk1
 refine q_exit (q_block ?_)
 exact q_join ((), ()) hr trivial (fun w s => s)
 rintro ⟨_, _⟩ σ1 hr
 replace hr : Z0h_J1 = some r := hr
 unfold Z0h_J1 at hr
 refine c_seq (c_region (lB R (l_nil (q_next (c_ret ?_)))))
 obtain rfl := so hr
 exact qF () (fun w s => (s.e 2 []))
theorem Z11_ok  {a1 : Lm} {b3 : Lm} {r : Bool} (hr : Z11 a1 b3 = some r) :
 FnOk Try.prog 16 [(.agg [(iv a1.Size), (.slice A2 N2 D2)].toArray), (.agg [(iv b3.Size), (.slice A4 N4 D4)].toArray)] [rds kT33 (.slice A2 N2 D2) a1.Rows, rds kT33 (.slice A4 N4 D4) b3.Rows] (fun (h : Unit) => ((.bool r), [])) := by
 unfold Z11 at hr
 refine fn_ok Try.func16 R 16 R R fun C V => ?_
 refine cN (_ :: _ :: V) ?_
 refine cL 0 sees_rd ?_
 rintro rfl
 refine cL 1 sees_rd ?_
 rintro rfl
 let W0 : List HP := RR kT33 A2 D2 a1.Rows :: RR kT33 A4 D4 b3.Rows :: V
 refine cN W0 ?_
 refine c_seq (c_region (lBx R (fun b5 => (lBx R (fun b6 => (lB R (l_nil ?_)))))))
 let W1 : List HP := bxl b6 [(iv b3.Size), (sc A4 b3.Rows D4)] 26 :: bxl b5 [(iv a1.Size), (sc A2 a1.Rows D2)] 26 :: W0
 refine qN W1 ?_
 refine q_next (c_seq (c_seq (c_region (lO (vFa 0 fo26_0 R) (lO (vLd 1 ag3 R R R) (lO (vFa 0 fo26_0 R) (lO (vLd 0 ag3 R R R) (lO (vNe R R) (l_nil (q_next ?_))))))))))
 rcases bif_ hr with ⟨hb7, hr⟩ | ⟨hb7, hr⟩
 refine c_true R hb7 (c_seq (c_region (lB R (l_nil (q_next (c_ret (q_ret ?_)))))))
 obtain rfl := so hr
 exact qF () (fun w s => (s.e 4 []))
 refine c_false R hb7 (c_skip (q_next (c_seq (c_seq ?_))))
 obtain ⟨r8, hx9, hr⟩ := bd hr
 refine c_region (lO (vFa 1 fo26_1 R) (lO (vLd 1 ag24 R R R) (lO (vFa 1 fo26_1 R) (lO (vLd 0 ag24 R R R) (lM (RR kT33 A2 D2 a1.Rows :: RR kT33 A4 D4 b3.Rows :: W1) (fun w s => (((s.d 2 R).d 4 R).e 2 [1, 0])) ?_)))))
 refine lC 2 cb46 R (Z0h_ok hx9) R ?_
 rintro _
 refine lN W1 ?_
 refine lO (vNo R) (l_nil (q_next ?_))
 rcases bif_ hr with ⟨hb10, hr⟩ | ⟨hb10, hr⟩
 refine c_true R hb10 (c_seq (c_region (lB R (l_nil (q_next (c_ret (q_ret ?_)))))))
 obtain rfl := so hr
 exact qF () (fun w s => (s.e 4 []))
 refine c_false R hb10 (c_skip (q_next (c_seq (c_region (lB R (l_nil (q_next (c_ret ?_))))))))
 obtain rfl := so hr
 exact qF () (fun w s => (s.e 4 []))
theorem Zm_ok  {a1 : (List Int)} {k3 : Int} {r : Int × (List Int)} (hr : Zm a1 k3 = some r) :
 FnOk Try.prog 18 [(.slice A2 N2 D2), (iv k3)] [ow kT3 3 (.slice A2 N2 D2) a1] (fun (h : Unit) => ((iv r.1), [ow kT3 3 (.slice A2 N2 D2) r.2])) := by
 unfold Zm at hr
 refine fn_ok Try.func18 R 19 R R fun C V => ?_
 refine cN (_ :: V) ?_
 refine cL 0 sees_ow ?_
 rintro rfl
 refine c_seq (c_region (lI R (l_nil (q_next (c_seq (c_cut (A := (Int × (List Int)) × (Unit)) (fun a => Zm_J1 a.1.1 a.1.2 = some r) (fun a => [(1, (iv a.1.1))]) (fun a => ow kT3 3 (.slice A2 a1.length D2) a.1.2 :: V) ?_ ?_))))))
 refine c_seq (c_region (lI R (l_nil (q_next (c_block ?_)))))
 obtain ⟨e1, hl1, hk1⟩ := bd hr
 refine c_loop (A := Unit) hl1 (fun s a => [(0, (sc A2 a1 D2)), (1, (iv s.2.1)), (5, (iv s.2.2))]) (fun s a => ow kT3 3 (.slice A2 a1.length D2) s.1 :: V) () (aS R) (fun w s => s) ?_
 rintro ⟨a8, k9, i10⟩ _ σ1 out1 hr he1
 replace hr : Zm_L1 a1 a8 k9 i10 = some out1 := hr
 unfold Zm_L1 at hr
 refine c_seq (c_seq (c_region (lI R (lS R (lO (v_len sl29 R) (lO (vLt R R) (l_nil (q_next ?_))))))))
 rcases bif_ hr with ⟨hb11, hr⟩ | ⟨hb11, hr⟩
 refine c_true R hb11 (c_skip (q_next (c_seq (c_block (c_seq ?_)))))
 obtain ⟨hg12, hr⟩ := gd hr
 refine c_region (lS R (lI R (lI R (t_some 0 sees_ow (show 0 < a1.length by have := hg12; omega) (fun g13 o14 ha => ?_)))))
 subst ha
 refine lO (vIa sl29 sz3 R R hg12) (lN (ow kT3 3 (.slice (ad g13 o14) a1.length D2) a8 :: V) ?_)
 refine l_stx (K := kT3) (x' := k9) 0 i10 R R sz3 R R hg12.1 hg12.2 ?_ ?_
 exact fun I h s => (mO3).put I h () k9 s
 refine lN (ow kT3 3 (.slice (ad g13 o14) a1.length D2) (a8.set i10.toNat k9) :: V) ?_
 refine l_nil (q_next (c_region (lI R (lO (vAd R R) (lI R (l_nil (q_blockn (q_next (c_region (lI R (lO (vAd R R) (lI R (l_nil ?_)))))))))))))
 obtain rfl := so hr
 exact qA () (fun w s => s)
 refine c_false R hb11 (c_exit (q_exit ?_))
 obtain rfl := so hr
 obtain rfl := he1 _ R
 have hr := hk1
 refine q_exit (q_block ?_)
 exact qI ((k9, a8), ()) hr (fun w s => s)
 rintro ⟨⟨k18, p19⟩, _⟩ σ1 hr
 replace hr : Zm_J1 k18 p19 = some r := hr
 unfold Zm_J1 at hr
 refine c_seq (c_region (lI R (lI R (l_nil (q_next (c_ret ?_))))))
 obtain rfl := so hr
 exact qF () (fun w s => s)
end Go.Proofs.Ytkfgngcfcoplpaa
