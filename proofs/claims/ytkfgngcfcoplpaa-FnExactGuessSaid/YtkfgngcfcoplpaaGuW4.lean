import Derived.Test.YtkfgngcfcoplpaaGuW3
set_option linter.unusedVariables false
set_option maxRecDepth 20000
namespace Go.Proofs.Ytkfgngcfcoplpaa
open Go Go.Pg
variable {A2 A3 A4 A5 A6 A7 A10 A11 : Option Addr} {D2 D3 D4 D5 D6 D7 D10 D11 N2 N3 N4 N5 N6 N7 N10 N11 : Nat}
theorem Z01_ok  {data1 : (List Row)} {a3 : Int} {b4 : Int} {r : (List Row)} (hr : Z01 data1 a3 b4 = some r) :
 FnOk Try.prog 93 [(.slice A2 N2 D2), (iv a3), (iv b4), (.func (.func 73) [].toArray [].toArray)] [ow (kT33).share 33 (.slice A2 N2 D2) data1] (fun (h : Unit) => ((.tuple [].toArray), [ow (kT33).share 33 (.slice A2 N2 D2) r])) := by
 unfold Z01 at hr
 refine fn_ok Try.func93 R 67 R R fun C V => ?_
 refine cN (_ :: V) ?_
 refine cL 0 sees_sh ?_
 rintro rfl
 refine c_seq (c_region (lI R (lI R (lO (vSb R R) (lI R (l_nil (q_next (c_seq (c_region (lI R (lO (vGe R R) (l_nil (q_next ?_)))))))))))))
 rcases bif_ hr with ⟨hb6, hr⟩ | ⟨hb6, hr⟩
 refine c_true R hb6 (c_seq (c_region (lI R (lO (vz (.int .u64 (IntKind.wrap .u64 ((w64 (b4 - a3))))) (v_conv un3 un120 R)) (l_alloc R R zc120 (fun b7 => (l_store 0 R R sz120 R R R R R (lN (bxl b7 [(.int .u64 (IntKind.wrap .u64 ((w64 (b4 - a3)))))] 120 :: _ :: V) ?_))))))))
 refine l_nil (q_next (c_seq ?_))
 obtain ⟨r8, hx9, hr⟩ := bd hr
 refine c_region (lI R (lC 0 cb103 R (Z1g_ok hx9) R ?_))
 rintro _
 refine lI R (l_nil (q_next (c_seq (c_region (lI R (lI R (lO (vz (iv (w64 ((w64 (b4 - a3)).tdiv (4 : Int)))) (v_quo R R (by decide))) (lO (vMu R R) (lO (vAd R R) (lO (vSb R R) (lI R (l_nil (q_next (c_block ?_))))))))))))))
 obtain ⟨e1, hl1, hk1⟩ := bd hr
 refine c_loop (A := Unit) hl1 (fun s a => [(0, (sc A2 data1 D2)), (1, (iv a3)), (8, (iv (w64 (b4 - a3)))), (9, (pt b7 0)), (10, (.int .u64 r8)), (11, (iv s.2.2))]) (fun s a => ow (kT33).share 33 (.slice A2 data1.length D2) s.1 :: bxl b7 [(.int .u64 s.2.1)] 120 :: V) () (aS R) (fun w s => (s.e 2 [1, 0])) ?_
 rintro ⟨data25, random26, idx27⟩ _ σ1 out1 hr he1
 replace hr : Z01_L1 data1 a3 b4 r8 data25 random26 idx27 = some out1 := hr
 unfold Z01_L1 at hr
 refine c_seq (c_seq (c_region (lI R (lI R (lI R (lO (vz (iv (w64 ((w64 (b4 - a3)).tdiv (4 : Int)))) (v_quo R R (by decide))) (lO (vMu R R) (lO (vAd R R) (lO (vAd R R) (lO (vLe R R) (l_nil (q_next ?_))))))))))))
 rcases bif_ hr with ⟨hb28, hr⟩ | ⟨hb28, hr⟩
 refine c_true R hb28 (c_skip (q_next (c_seq (c_block (c_seq ?_)))))
 obtain ⟨r29, hx30, hr⟩ := bd hr
 refine c_region (lM (bxl b7 [(.int .u64 random26)] 120 :: ow (kT33).share 33 (.slice A2 data1.length D2) data25 :: V) (fun w s => (s.e 2 [1, 0])) ?_)
 refine lC 1 cb104 R (Z1d_ok hx30) R ?_
 rintro _
 refine lN (bxl b7 [(.int .u64 r29.2)] 120 :: _ :: V) ?_
 refine lI R (lO (vp (.int .u64 (IntKind.wrap .u64 (r8 - (1 : Int)))) R) (lO (vp (.int .u64 (bits .and .u64 r29.1 (IntKind.wrap .u64 (r8 - (1 : Int))))) R) (lO (vz (iv (w64 ((bits .and .u64 r29.1 (IntKind.wrap .u64 (r8 - (1 : Int))))))) (v_conv un92 un3 R)) (lI R (l_nil (q_next (c_seq (c_cut (A := (Int) × (Unit)) (fun a => Z01_J3 data1 a3 data25 idx27 r29 a.1 = some out1) (fun a => [(0, (sc A2 data1 D2)), (1, (iv a3)), (8, (iv (w64 (b4 - a3)))), (9, (pt b7 0)), (10, (.int .u64 r8)), (11, (iv idx27)), (12, (iv a.1))]) (fun a => ow (kT33).share 33 (.slice A2 data1.length D2) data25 :: bxl b7 [(.int .u64 r29.2)] 120 :: V) ?_ ?_))))))))
 refine c_seq (c_region (lI R (lI R (lO (vGe R R) (l_nil (q_next ?_))))))
 rcases bif_ hr with ⟨hb31, hr⟩ | ⟨hb31, hr⟩
 refine c_true R hb31 (c_region (lI R (lI R (lO (vSb R R) (lI R (l_nil ?_))))))
 exact qI ((w64 ((w64 ((bits .and .u64 r29.1 (IntKind.wrap .u64 (r8 - (1 : Int)))))) - (w64 (b4 - a3)))), ()) hr (fun w s => (s.e 2 [1, 0]))
 refine c_false R hb31 (c_skip ?_)
 exact qI ((w64 ((bits .and .u64 r29.1 (IntKind.wrap .u64 (r8 - (1 : Int)))))), ()) hr (fun w s => (s.e 2 [1, 0]))
 rintro ⟨other32, _⟩ σ1 hr
 replace hr : Z01_J3 data1 a3 data25 idx27 r29 other32 = some out1 := hr
 unfold Z01_J3 at hr
 obtain ⟨hg33, hr⟩ := gd hr
 obtain ⟨hg38, hr⟩ := gd hr
 refine cQ [(0, (sc A2 data1 D2)), (1, (iv a3)), (8, (iv (w64 (b4 - a3)))), (9, (pt b7 0)), (10, (.int .u64 r8)), (11, (iv idx27))] (ow (kT33).share 33 (.slice A2 data1.length D2) ((data25.set idx27.toNat (ix data25 (w64 (a3 + other32)))).set (w64 (a3 + other32)).toNat (ix data25 idx27)) :: bxl b7 [(.int .u64 r29.2)] 120 :: V) ?_ ?_
 refine c_some 0 sees_sh (show 0 < data1.length by have := hg33; omega) (fun g34 o35 ha => ?_)
 subst ha
 refine cdr 20 [0] mixo (fun ht hn => (dR 0 R (vS R) (hS := (sL [0])) (dR 1 R (vI R) (hS := (sL [0])) (dR 2 R (vS R) (hS := (sL [0])) (dR 3 R (vI R) (hS := (sL [0])) (dR 4 R (vI R) (hS := (sL [0])) (dR 5 R (vAd R R) (hS := (sL [0])) (dR 6 R (vS R) (hS := (sL [0])) (dR 7 R (vI R) (hS := (sL [0])) (dR 8 R (vI R) (hS := (sL [0])) (dR 9 R (vAd R R) (hS := (sL [0])) (dR 10 R (vIa sl24 sz33 R R hg33) (hS := (sL [0])) (dR 12 R (vS R) (hS := (sL [0])) (dR 13 R (vI R) (hS := (sL [0])) (dR 14 R (vIa sl24 sz33 R R hg38) (hS := (sL [0])) (d_all [11, 15] (by kernel_rfl) R ⟨?_, ?_, trivial⟩))))))))))))))))
 refine l_ldo (K := (kT33).share) 0 (w64 (a3 + other32)) R R ag33 sz33 dT33.own R R hg33.1 hg33.2 ?_
 rintro ⟨⟨A36, D36⟩, ⟨A37, D37⟩⟩
 refine lN (RR kT3 A36 D36 ((ix data25 (w64 (a3 + other32))).Key) :: RR kT3 A37 D37 ((ix data25 (w64 (a3 + other32))).Weights) :: ow (kT33).share 33 (.slice (ad g34 o35) data1.length D2) data25 :: _ :: V) ?_
 refine l_nil (q_draw (sL [2, 1, 0]) (d1 15 R (l_ldo (K := (kT33).share) 2 idx27 R R ag33 sz33 dT33.own R R hg38.1 hg38.2 ?_)))
 rintro ⟨⟨A39, D39⟩, ⟨A40, D40⟩⟩
 refine lN (RR kT3 A39 D39 ((ix data25 idx27).Key) :: RR kT3 A40 D40 ((ix data25 idx27).Weights) :: _ :: _ :: _ :: _ :: V) ?_
 refine l_nil (q_draw (sL [4, 3, 2, 1, 0]) (dR 16 R (vIa sl24 sz33 R R hg38) (hS := (sL [4, 3, 2, 1, 0])) (d1 17 R (lM (ow _ _ _ _ :: rds _ _ _ :: rds _ _ _ :: rds _ _ _ :: rds _ _ _ :: rds _ _ _ :: rds _ _ _ :: bxl _ _ _ :: V) (fun w s => (((s.d 2 R).d 4 R).e 8 [6, 1, 0, 2, 3, 4, 5, 7])) ?_))))
 refine l_stx (K := (kT33).share) (x' := (ix data25 (w64 (a3 + other32)))) 2 idx27 R R sz33 R R hg38.1 hg38.2 ?_ ?_
 exact fun I h s => (mS33).put I h ((sc A36 ((ix data25 (w64 (a3 + other32))).Key) D36), (sc A37 ((ix data25 (w64 (a3 + other32))).Weights) D37)) (ix data25 (w64 (a3 + other32))) s
 refine lN (ow (kT33).share 33 (.slice (ad g34 o35) data1.length D2) (data25.set idx27.toNat (ix data25 (w64 (a3 + other32)))) :: _ :: _ :: _ :: _ :: _ :: V) ?_
 refine l_nil (q_draw (sL [4, 3, 2, 1, 0]) (dR 18 R (vIa sl24 sz33 R R hg33) (hS := (sL [4, 3, 2, 1, 0])) (d1 19 R (lM (ow _ _ _ _ :: rds _ _ _ :: rds _ _ _ :: rds _ _ _ :: rds _ _ _ :: rds _ _ _ :: rds _ _ _ :: bxl _ _ _ :: V) (fun w s => (((s.d 1 R).d 3 R).e 8 [2, 1, 0, 3, 4, 5, 6, 7])) ?_))))
 refine l_stx (K := (kT33).share) (x' := (ix data25 idx27)) 2 (w64 (a3 + other32)) R R sz33 R R hg33.1 hg33.2 ?_ ?_
 exact fun I h s => (mS33).put I h ((sc A39 ((ix data25 idx27).Key) D39), (sc A40 ((ix data25 idx27).Weights) D40)) (ix data25 idx27) s
 refine lN (ow (kT33).share 33 (.slice (ad g34 o35) data1.length D2) ((data25.set idx27.toNat (ix data25 (w64 (a3 + other32)))).set (w64 (a3 + other32)).toNat (ix data25 idx27)) :: _ :: _ :: _ :: _ :: _ :: V) ?_
 refine l_nil (q_draw (sL [4, 3, 2, 1, 0]) (dD ?_))
 exact qJ (fun w s => (s.e 6 [0, 5]))
 refine l_ldo (K := (kT33).share) 0 idx27 R R ag33 sz33 dT33.own R R hg38.1 hg38.2 ?_
 rintro ⟨⟨A39, D39⟩, ⟨A40, D40⟩⟩
 refine lN (_ :: _ :: ow (kT33).share 33 (.slice (ad g34 o35) data1.length D2) data25 :: _ :: V) ?_
 refine l_nil (q_draw (sL [2, 1, 0]) (d1 11 R (l_ldo (K := (kT33).share) 2 (w64 (a3 + other32)) R R ag33 sz33 dT33.own R R hg33.1 hg33.2 ?_)))
 rintro ⟨⟨A36, D36⟩, ⟨A37, D37⟩⟩
 refine lN (RR kT3 A36 D36 ((ix data25 (w64 (a3 + other32))).Key) :: RR kT3 A37 D37 ((ix data25 (w64 (a3 + other32))).Weights) :: _ :: _ :: _ :: _ :: V) ?_
 refine l_nil (q_draw (sL [4, 3, 2, 1, 0]) (dR 16 R (vIa sl24 sz33 R R hg38) (hS := (sL [4, 3, 2, 1, 0])) (d1 17 R (lM (ow _ _ _ _ :: rds _ _ _ :: rds _ _ _ :: rds _ _ _ :: rds _ _ _ :: rds _ _ _ :: rds _ _ _ :: bxl _ _ _ :: V) (fun w s => (((s.d 0 R).d 2 R).e 8 [6, 1, 0, 2, 3, 4, 5, 7])) ?_))))
 refine l_stx (K := (kT33).share) (x' := (ix data25 (w64 (a3 + other32)))) 2 idx27 R R sz33 R R hg38.1 hg38.2 ?_ ?_
 exact fun I h s => (mS33).put I h ((sc A36 ((ix data25 (w64 (a3 + other32))).Key) D36), (sc A37 ((ix data25 (w64 (a3 + other32))).Weights) D37)) (ix data25 (w64 (a3 + other32))) s
 refine lN (ow (kT33).share 33 (.slice (ad g34 o35) data1.length D2) (data25.set idx27.toNat (ix data25 (w64 (a3 + other32)))) :: _ :: _ :: _ :: _ :: _ :: V) ?_
 refine l_nil (q_draw (sL [4, 3, 2, 1, 0]) (dR 18 R (vIa sl24 sz33 R R hg33) (hS := (sL [4, 3, 2, 1, 0])) (d1 19 R (lM (ow _ _ _ _ :: rds _ _ _ :: rds _ _ _ :: rds _ _ _ :: rds _ _ _ :: rds _ _ _ :: rds _ _ _ :: bxl _ _ _ :: V) (fun w s => (((s.d 3 R).d 5 R).e 8 [2, 1, 0, 3, 4, 5, 6, 7])) ?_))))
 refine l_stx (K := (kT33).share) (x' := (ix data25 idx27)) 2 (w64 (a3 + other32)) R R sz33 R R hg33.1 hg33.2 ?_ ?_
 exact fun I h s => (mS33).put I h ((sc A39 ((ix data25 idx27).Key) D39), (sc A40 ((ix data25 idx27).Weights) D40)) (ix data25 idx27) s
 refine lN (ow (kT33).share 33 (.slice (ad g34 o35) data1.length D2) ((data25.set idx27.toNat (ix data25 (w64 (a3 + other32)))).set (w64 (a3 + other32)).toNat (ix data25 idx27)) :: _ :: _ :: _ :: _ :: _ :: V) ?_
 refine l_nil (q_draw (sL [4, 3, 2, 1, 0]) (dD ?_))
 exact qJ (fun w s => (s.e 6 [0, 5]))
 rintro σ1
 obtain ⟨l41, hl42, hr⟩ := bd hr
 replace hl42 := Option.some.inj hl42
 refine qM (ow (kT33).share 33 (.slice A2 data1.length D2) l41 :: _ :: V) (fun w s => by rw [← hl42]; exact s) ?_
 refine q_blockn (q_next (c_region (lI R (lO (vAd R R) (lI R (l_nil ?_))))))
 obtain rfl := so hr
 exact qA () (fun w s => s)
 refine c_false R hb28 (c_exit (q_exit ?_))
 obtain rfl := so hr
 obtain rfl := he1 _ R
 have hr := hk1
 refine q_exit (q_block ?_)
 obtain rfl := so hr
 exact q_fin (vs := []) (.inr R) () R trivial R (fun w s => (s.e 2 [0]))
 refine c_false R hb6 (c_skip ?_)
 obtain rfl := so hr
 exact q_fin (vs := []) (.inr R) () R trivial R (fun w s => s)
theorem Z5_S_ok {rf : (List Row) → Int → Int → Int → Option ((List Row))} (hrf : ∀ {data1 : (List Row)} {a3 : Int} {b4 : Int} {limit5 : Int} {A2 : Option Addr} {N2 D2 : Nat} {r : (List Row)}, rf data1 a3 b4 limit5 = some r → FnOk Try.prog 86 [(.slice A2 N2 D2), (iv a3), (iv b4), (iv limit5), (.func (.func 73) [].toArray [].toArray)] [ow (kT33).share 33 (.slice A2 N2 D2) data1] (fun (h : Unit) => ((.tuple [].toArray), [ow (kT33).share 33 (.slice A2 N2 D2) r]))) {data1 : (List Row)} {a3 : Int} {b4 : Int} {limit5 : Int} {r : (List Row)} (hr : Z5_S rf data1 a3 b4 limit5 = some r) :
 FnOk Try.prog 86 [(.slice A2 N2 D2), (iv a3), (iv b4), (iv limit5), (.func (.func 73) [].toArray [].toArray)] [ow (kT33).share 33 (.slice A2 N2 D2) data1] (fun (h : Unit) => ((.tuple [].toArray), [ow (kT33).share 33 (.slice A2 N2 D2) r])) := by
 unfold Z5_S at hr
 refine fn_ok Try.func86 R 148 R R fun C V => ?_
 refine cN (_ :: V) ?_
 refine cL 0 sees_sh ?_
 rintro rfl
 refine c_seq (c_region (lB R (l_nil (q_next (c_seq (c_region (lB R (l_nil (q_next (c_block ?_))))))))))
 obtain ⟨e1, hl1, hk1⟩ := bd hr
 refine c_loop (A := Unit) hl1 (fun s a => [(0, (sc A2 data1 D2)), (1, (iv s.2.1)), (2, (iv s.2.2.1)), (3, (iv s.2.2.2.1)), (4, (.func (.func 73) [].toArray [].toArray)), (10, (.bool s.2.2.2.2.1)), (11, (.bool s.2.2.2.2.2))]) (fun s a => ow (kT33).share 33 (.slice A2 data1.length D2) s.1 :: V) () (aS R) (fun w s => s) ?_
 rintro ⟨data99, a100, b101, limit102, wasBalanced103, wasPartitioned104⟩ _ σ1 out1 hr he1
 replace hr : Z5_L1 data1 rf data99 a100 b101 limit102 wasBalanced103 wasPartitioned104 = some out1 := hr
 unfold Z5_L1 at hr
 refine c_block (c_seq (c_region (lI R (lI R (lO (vSb R R) (lI R (l_nil (q_next (c_seq (c_seq (c_region (lI R (lO (vLe R R) (l_nil (q_next ?_)))))))))))))))
 rcases bif_ hr with ⟨hb105, hr⟩ | ⟨hb105, hr⟩
 refine c_true R hb105 (c_seq ?_)
 obtain ⟨r106, hx107, hr⟩ := bd hr
 refine c_region (lS R (lI R (lI R (lO (vp (.func (.func 73) [].toArray [].toArray) R) (lC 1 cb91 R (Zf_ok hx107) R ?_)))))
 rintro _
 refine lN (ow (kT33).share 33 (.slice A2 data1.length D2) r106 :: V) ?_
 refine l_nil (q_next (c_ret (q_ret (q_blockr ?_))))
 obtain rfl := so hr
 obtain rfl := he1 _ R
 have hr := hk1
 refine q_ret (q_blockr ?_)
 obtain rfl := so hr
 exact q_fin (vs := []) (.inl R) () R trivial R (fun w s => s)
 refine c_false R hb105 (c_skip (q_next (c_seq (c_seq (c_region (lI R (lO (vEq R R) (l_nil (q_next ?_)))))))))
 rcases bif_ hr with ⟨hb108, hr⟩ | ⟨hb108, hr⟩
 refine c_true R hb108 (c_seq ?_)
 obtain ⟨r109, hx110, hr⟩ := bd hr
 refine c_region (lS R (lI R (lI R (lO (vp (.func (.func 73) [].toArray [].toArray) R) (lC 1 cb92 R (Ze_ok hx110) R ?_)))))
 rintro _
 refine lN (ow (kT33).share 33 (.slice A2 data1.length D2) r109 :: V) ?_
 refine l_nil (q_next (c_ret (q_ret (q_blockr ?_))))
 obtain rfl := so hr
 obtain rfl := he1 _ R
 have hr := hk1
 refine q_ret (q_blockr ?_)
 obtain rfl := so hr
 exact q_fin (vs := []) (.inl R) () R trivial R (fun w s => s)
 refine c_false R hb108 (c_skip (q_next (c_seq (c_cut (A := ((List Row) × Int) × (Unit)) (fun a => Z5_J8 data1 rf a100 b101 wasBalanced103 wasPartitioned104 a.1.1 a.1.2 = some out1) (fun a => [(0, (sc A2 data1 D2)), (1, (iv a100)), (2, (iv b101)), (3, (iv a.1.2)), (4, (.func (.func 73) [].toArray [].toArray)), (10, (.bool wasBalanced103)), (11, (.bool wasPartitioned104)), (12, (iv (w64 (b101 - a100))))]) (fun a => ow (kT33).share 33 (.slice A2 data1.length D2) a.1.1 :: V) ?_ ?_))))
 refine c_seq (c_region (lB R (lO (vNo R) (l_nil (q_next ?_)))))
 rcases bif_ hr with ⟨hb111, hr⟩ | ⟨hb111, hr⟩
 refine c_true R hb111 (c_seq ?_)
 obtain ⟨r112, hx113, hr⟩ := bd hr
 refine c_region (lS R (lI R (lI R (lO (vp (.func (.func 73) [].toArray [].toArray) R) (lC 1 cb93 R (Z01_ok hx113) R ?_)))))
 rintro _
 refine lN (ow (kT33).share 33 (.slice A2 data1.length D2) r112 :: V) ?_
 refine l_nil (q_next (c_region (lI R (lO (vSb R R) (lI R (l_nil ?_))))))
 exact qI ((r112, (w64 (limit102 - (1 : Int)))), ()) hr (fun w s => s)
 refine c_false R hb111 (c_skip ?_)
 exact qI ((data99, limit102), ()) hr (fun w s => s)
 rintro ⟨⟨data114, limit115⟩, _⟩ σ1 hr
 replace hr : Z5_J8 data1 rf a100 b101 wasBalanced103 wasPartitioned104 data114 limit115 = some out1 := hr
 unfold Z5_J8 at hr
 refine c_seq ?_
 obtain ⟨r116, hx117, hr⟩ := bd hr
 refine c_region (lS R (lI R (lI R (lO (vp (.func (.func 73) [].toArray [].toArray) R) (lC 1 cb94 R (FnOk.lends (A' := [ow (kT33).share 33 (.slice A2 data1.length D2) data114]) (A := [rds kT33 (.slice A2 data1.length D2) data114]) (B := []) (Z04_ok hx117) ⟨lend_sh, trivial⟩ (fun _ => trivial)) R ?_)))))
 rintro _
 refine lN (ow (kT33).share 33 (.slice A2 data1.length D2) data114 :: V) ?_
 refine lO (vT R) (lI R (lI R (lI R (lI R (l_nil (q_next (c_seq (c_cut (A := ((List Row) × Int × Int) × (Unit)) (fun a => Z5_J9 data1 rf a100 b101 wasBalanced103 wasPartitioned104 limit115 a.1.1 a.1.2.1 a.1.2.2 = some out1) (fun a => [(0, (sc A2 data1 D2)), (1, (iv a100)), (2, (iv b101)), (3, (iv limit115)), (4, (.func (.func 73) [].toArray [].toArray)), (10, (.bool wasBalanced103)), (11, (.bool wasPartitioned104)), (12, (iv (w64 (b101 - a100)))), (13, (iv a.1.2.1)), (14, (iv a.1.2.2))]) (fun a => ow (kT33).share 33 (.slice A2 data1.length D2) a.1.1 :: V) ?_ ?_))))))))
 refine c_seq (c_region (lI R (lO (vEq R R) (l_nil (q_next ?_)))))
 rcases bif_ hr with ⟨hb118, hr⟩ | ⟨hb118, hr⟩
 refine c_true R hb118 (c_seq ?_)
 obtain ⟨r119, hx120, hr⟩ := bd hr
 refine c_region (lS R (lI R (lI R (lO (vp (.func (.func 73) [].toArray [].toArray) R) (lC 1 cb95 R (Z0e_ok hx120) R ?_)))))
 rintro _
 refine lN (ow (kT33).share 33 (.slice A2 data1.length D2) r119 :: V) ?_
 refine l_nil (q_next (c_seq (c_region (lI R (lO (vSb R R) (lI R (lI R (lO (vSb R R) (lO (vSb R R) (lI R (l_nil (q_next (c_region (lI R (l_nil ?_)))))))))))))))
 exact qI ((r119, (w64 ((w64 (b101 - (1 : Int))) - (w64 (r116.1 - a100)))), (1 : Int)), ()) hr (fun w s => s)
 refine c_false R hb118 (c_skip ?_)
 exact qI ((data114, r116.1, r116.2), ()) hr (fun w s => s)
 rintro ⟨⟨data121, pivot122, hint123⟩, _⟩ σ1 hr
 replace hr : Z5_J9 data1 rf a100 b101 wasBalanced103 wasPartitioned104 limit115 data121 pivot122 hint123 = some out1 := hr
 unfold Z5_J9 at hr
 refine c_seq (c_cut (A := ((List Row)) × (Unit)) (fun a => Z5_J10 data1 rf a100 b101 wasBalanced103 wasPartitioned104 limit115 pivot122 a.1 = some out1) (fun a => [(0, (sc A2 data1 D2)), (1, (iv a100)), (2, (iv b101)), (3, (iv limit115)), (4, (.func (.func 73) [].toArray [].toArray)), (10, (.bool wasBalanced103)), (11, (.bool wasPartitioned104)), (12, (iv (w64 (b101 - a100)))), (13, (iv pivot122))]) (fun a => ow (kT33).share 33 (.slice A2 data1.length D2) a.1 :: V) ?_ ?_)
 refine c_seq (cQ [(0, (sc A2 data1 D2)), (1, (iv a100)), (2, (iv b101)), (3, (iv limit115)), (4, (.func (.func 73) [].toArray [].toArray)), (10, (.bool wasBalanced103)), (11, (.bool wasPartitioned104)), (12, (iv (w64 (b101 - a100)))), (13, (iv pivot122)), (75, (.bool ((wasBalanced103 && wasPartitioned104) && (hint123 == (1 : Int)))))] (ow (kT33).share 33 (.slice A2 data1.length D2) data121 :: V) ?_ ?_)
 refine c_region (lB R (lB R ?_))
 rcases bo wasBalanced103 with hc124 | hc124
 refine lW (wnT hc124) (vB R) (lO (pAT R hc124 R) (lB R ?_))
 rcases bo (wasBalanced103 && wasPartitioned104) with hc125 | hc125
 refine lW (wnT hc125) (vI R) (lW (wnT hc125) (vEq R R) (lO (pAT R hc125 R) (l_nil ?_)))
 exact qJ (fun w s => s)
 refine lf (wfF hc125) (lf (wfF hc125) (lO (pAF (hint123 == (1 : Int)) R hc125) (l_nil ?_)))
 exact qJ (fun w s => s)
 refine lf (wfF hc124) (lO (pAF wasPartitioned104 R hc124) (lB R (lf (wfF (aF hc124)) (lf (wfF (aF hc124)) (lO (pAF (hint123 == (1 : Int)) R (aF hc124)) (l_nil ?_))))))
 exact qJ (fun w s => s)
 rintro σ1
 refine q_next ?_
 rcases bif_ hr with ⟨hb126, hr⟩ | ⟨hb126, hr⟩
 refine c_true R hb126 (c_seq ?_)
 obtain ⟨r127, hx128, hr⟩ := bd hr
 refine c_region (lS R (lI R (lI R (lO (vp (.func (.func 73) [].toArray [].toArray) R) (lC 1 cb96 R (Z2_ok hx128) R ?_)))))
 rintro _
 refine lN (ow (kT33).share 33 (.slice A2 data1.length D2) r127.2 :: V) ?_
 refine l_nil (q_next ?_)
 rcases bif_ hr with ⟨hb129, hr⟩ | ⟨hb129, hr⟩
 refine c_true R hb129 (c_ret (q_ret (q_blockr ?_)))
 obtain rfl := so hr
 obtain rfl := he1 _ R
 have hr := hk1
 refine q_ret (q_blockr ?_)
 obtain rfl := so hr
 exact q_fin (vs := []) (.inl R) () R trivial R (fun w s => s)
 refine c_false R hb129 (c_skip ?_)
 exact qI (r127.2, ()) hr (fun w s => s)
 refine c_false R hb126 (c_skip ?_)
 exact qI (data121, ()) hr (fun w s => s)
 rintro ⟨data130, _⟩ σ1 hr
 replace hr : Z5_J10 data1 rf a100 b101 wasBalanced103 wasPartitioned104 limit115 pivot122 data130 = some out1 := hr
 unfold Z5_J10 at hr
 refine c_seq (c_seq ?_)
 obtain ⟨hg131, hr⟩ := gd hr
 obtain ⟨hg136, hr⟩ := gd hr
 obtain ⟨r139, hx140, hr⟩ := bd hr
 refine cQ [(0, (sc A2 data1 D2)), (1, (iv a100)), (2, (iv b101)), (3, (iv limit115)), (4, (.func (.func 73) [].toArray [].toArray)), (10, (.bool wasBalanced103)), (11, (.bool wasPartitioned104)), (12, (iv (w64 (b101 - a100)))), (13, (iv pivot122)), (97, (.bool ((decide (a100 > (0 : Int))) && (!(decide (r139 < (0 : Int)))))))] (ow (kT33).share 33 (.slice A2 data1.length D2) data130 :: V) ?_ ?_
 rcases bo (decide (a100 > (0 : Int))) with hc141 | hc141
 refine c_some 0 sees_sh (show 0 < data1.length by have := (hg131 hc141); omega) (fun g132 o133 ha => ?_)
 subst ha
 refine cdr 17 [] mixo (fun ht hn => (dR 0 R (vI R) (dR 1 R (vGt R R) (dR 2 R (vB R) (dW 3 R (wnT hc141) (vp (.func (.func 73) [].toArray [].toArray) R) (dW 4 R (wnT hc141) (vS R) (dW 5 R (wnT hc141) (vI R) (dW 6 R (wnT hc141) (vSb R R) (dW 7 R (wnT hc141) (vIa sl24 sz33 R R (hg131 hc141)) (dW 9 R (wnT hc141) (vS R) (dW 10 R (wnT hc141) (vI R) (dW 11 R (wnT hc141) (vIa sl24 sz33 R R (hg136 hc141)) (d_all [8, 12] (by kernel_rfl) R ⟨?_, ?_, trivial⟩)))))))))))))
 refine l_ldo (K := (kT33).share) 0 (w64 (a100 - (1 : Int))) R (wnT hc141) ag33 sz33 dT33.own R R (hg131 hc141).1 (hg131 hc141).2 ?_
 rintro ⟨⟨A134, D134⟩, ⟨A135, D135⟩⟩
 refine lN (RR kT3 A134 D134 ((ix data130 (w64 (a100 - (1 : Int)))).Key) :: RR kT3 A135 D135 ((ix data130 (w64 (a100 - (1 : Int)))).Weights) :: ow (kT33).share 33 (.slice (ad g132 o133) data1.length D2) data130 :: V) ?_
 refine l_nil (q_draw (sL [1, 0]) (d1 12 R (l_ldo (K := (kT33).share) 2 pivot122 R (wnT hc141) ag33 sz33 dT33.own R R (hg136 hc141).1 (hg136 hc141).2 ?_)))
 rintro ⟨⟨A137, D137⟩, ⟨A138, D138⟩⟩
 refine lN (RR kT3 A137 D137 ((ix data130 pivot122).Key) :: RR kT3 A138 D138 ((ix data130 pivot122).Weights) :: _ :: _ :: _ :: V) ?_
 refine l_nil (q_draw (sL [3, 2, 1, 0]) (d1 13 R (lM (rds _ _ _ :: rds _ _ _ :: rds _ _ _ :: rds _ _ _ :: rds _ _ _ :: rds _ _ _ :: rds _ _ _ :: rds _ _ _ :: ow _ _ _ _ :: V) (fun w s => (((((s.d 2 R).d 4 R).d 2 R).d 4 R).e 9 [3, 2, 1, 0, 4, 5, 6, 7, 8])) ?_)))
 refine l_callvn (fs := []) (cs := []) 4 R (wnT hc141) cb73 R R (Z8_ok (gcall_t hx140 hc141)) R ?_
 rintro _
 refine lN (_ :: _ :: _ :: _ :: _ :: V) ?_
 refine l_nil (q_draw (sL [3, 2, 1, 0]) (dW 14 R (wnT hc141) (vLt R R) (hS := (sL [3, 2, 1, 0])) (dW 15 R (wnT hc141) (vNo R) (hS := (sL [3, 2, 1, 0])) (dR 16 R (pAT R hc141 R) (hS := (sL [3, 2, 1, 0])) (dD ?_)))))
 exact qJ (fun w s => (s.e 5 [4]))
 refine l_ldo (K := (kT33).share) 0 pivot122 R (wnT hc141) ag33 sz33 dT33.own R R (hg136 hc141).1 (hg136 hc141).2 ?_
 rintro ⟨⟨A137, D137⟩, ⟨A138, D138⟩⟩
 refine lN (_ :: _ :: _ :: V) ?_
 refine l_nil (q_draw (sL [1, 0]) (d1 8 R (l_ldo (K := (kT33).share) 2 (w64 (a100 - (1 : Int))) R (wnT hc141) ag33 sz33 dT33.own R R (hg131 hc141).1 (hg131 hc141).2 ?_)))
 rintro ⟨⟨A134, D134⟩, ⟨A135, D135⟩⟩
 refine lN (RR kT3 A134 D134 ((ix data130 (w64 (a100 - (1 : Int)))).Key) :: RR kT3 A135 D135 ((ix data130 (w64 (a100 - (1 : Int)))).Weights) :: _ :: _ :: _ :: V) ?_
 refine l_nil (q_draw (sL [3, 2, 1, 0]) (d1 13 R (lM (rds _ _ _ :: rds _ _ _ :: rds _ _ _ :: rds _ _ _ :: rds _ _ _ :: rds _ _ _ :: rds _ _ _ :: rds _ _ _ :: ow _ _ _ _ :: V) (fun w s => (((((s.d 0 R).d 2 R).d 4 R).d 6 R).e 9 [3, 2, 1, 0, 4, 5, 6, 7, 8])) ?_)))
 refine l_callvn (fs := []) (cs := []) 4 R (wnT hc141) cb73 R R (Z8_ok (gcall_t hx140 hc141)) R ?_
 rintro _
 refine lN (_ :: _ :: _ :: _ :: _ :: V) ?_
 refine l_nil (q_draw (sL [3, 2, 1, 0]) (dW 14 R (wnT hc141) (vLt R R) (hS := (sL [3, 2, 1, 0])) (dW 15 R (wnT hc141) (vNo R) (hS := (sL [3, 2, 1, 0])) (dR 16 R (pAT R hc141 R) (hS := (sL [3, 2, 1, 0])) (dD ?_)))))
 exact qJ (fun w s => (s.e 5 [4]))
 refine cdr 17 [] mixo (fun ht hn => (dR 0 R (vI R) (dR 1 R (vGt R R) (dR 2 R (vB R) (dF 3 R (wfF hc141) (dF 4 R (wfF hc141) (dF 5 R (wfF hc141) (dF 6 R (wfF hc141) (dF 7 R (wfF hc141) (dF 8 R (wfF hc141) (dF 9 R (wfF hc141) (dF 10 R (wfF hc141) (dF 11 R (wfF hc141) (dF 12 R (wfF hc141) (dF 13 R (wfF hc141) (dF 14 R (wfF hc141) (dF 15 R (wfF hc141) (dR 16 R (pAF (!(decide (r139 < (0 : Int)))) R hc141) (dD ?_)))))))))))))))))))
 exact qJ (fun w s => s)
 rintro σ1
 refine q_next ?_
 rcases bif_ hr with ⟨hb142, hr⟩ | ⟨hb142, hr⟩
 refine c_true R hb142 (c_seq ?_)
 obtain ⟨r143, hx144, hr⟩ := bd hr
 refine c_region (lS R (lI R (lI R (lI R (lO (vp (.func (.func 73) [].toArray [].toArray) R) (lC 1 cb97 R (Z7_ok hx144) R ?_))))))
 rintro _
 refine lN (ow (kT33).share 33 (.slice A2 data1.length D2) r143.2 :: V) ?_
 refine lI R (l_nil (q_next (c_seq (c_region (lI R (lI R (l_nil (q_next (c_exit (q_exit (q_block ?_)))))))))))
 obtain rfl := so hr
 exact qA () (fun w s => s)
 refine c_false R hb142 (c_skip (q_next (c_seq ?_)))
 obtain ⟨r145, hx146, hr⟩ := bd hr
 refine c_region (lS R (lI R (lI R (lI R (lO (vp (.func (.func 73) [].toArray [].toArray) R) (lC 1 cb98 R (Z1_ok hx146) R ?_))))))
 rintro _
 refine lN (ow (kT33).share 33 (.slice A2 data1.length D2) r145.2.2 :: V) ?_
 refine lO (vT R) (lI R (lB R (lI R (lB R (l_nil (q_next (c_seq (c_region (lB R (lB R (l_nil (q_next (c_seq (c_region (lI R (lI R (lO (vSb R R) (lI R (lI R (lO (vSb R R) (lI R (lI R (l_nil (q_next (c_seq (c_region (lI R (lO (vz (iv (w64 ((w64 (b101 - a100)).tdiv (8 : Int)))) (v_quo R R (by decide))) (lI R (l_nil (q_next (c_seq (c_region (lI R (lI R (lO (vLt R R) (l_nil (q_next ?_))))))))))))))))))))))))))))))))))))))
 rcases bif_ hr with ⟨hb147, hr⟩ | ⟨hb147, hr⟩
 refine c_true R hb147 (c_seq (c_region (lI R (lI R (lO (vGe R R) (lB R (l_nil (q_next (c_seq ?_)))))))))
 obtain ⟨r148, hx149, hr⟩ := bd hr
 refine c_region (lS R (lI R (lI R (lI R (lO (vp (.func (.func 73) [].toArray [].toArray) R) (lC 1 cb86 R (hrf hx149) R ?_))))))
 rintro _
 refine lN (ow (kT33).share 33 (.slice A2 data1.length D2) r148 :: V) ?_
 refine l_nil (q_next (c_region (lI R (lO (vAd R R) (lI R (l_nil (q_blockn ?_)))))))
 obtain rfl := so hr
 exact qA () (fun w s => s)
 refine c_false R hb147 (c_seq (c_region (lI R (lI R (lO (vGe R R) (lB R (l_nil (q_next (c_seq ?_)))))))))
 obtain ⟨r150, hx151, hr⟩ := bd hr
 refine c_region (lS R (lI R (lO (vAd R R) (lI R (lI R (lO (vp (.func (.func 73) [].toArray [].toArray) R) (lC 1 cb86 R (hrf hx151) R ?_)))))))
 rintro _
 refine lN (ow (kT33).share 33 (.slice A2 data1.length D2) r150 :: V) ?_
 refine l_nil (q_next (c_region (lI R (lI R (l_nil (q_blockn ?_))))))
 obtain rfl := so hr
 exact qA () (fun w s => s)
theorem Z5_R_ok (n : Nat) : ∀ {data1 : (List Row)} {a3 : Int} {b4 : Int} {limit5 : Int} {A2 : Option Addr} {N2 D2 : Nat} {r : (List Row)}, Z5_R n data1 a3 b4 limit5 = some r → FnOk Try.prog 86 [(.slice A2 N2 D2), (iv a3), (iv b4), (iv limit5), (.func (.func 73) [].toArray [].toArray)] [ow (kT33).share 33 (.slice A2 N2 D2) data1] (fun (h : Unit) => ((.tuple [].toArray), [ow (kT33).share 33 (.slice A2 N2 D2) r])) := by
 induction n with
 | zero => intros; rename_i h; cases h
 | succ n ih => intros; rename_i h; exact Z5_S_ok ih h
theorem Z5_ok {data1 : (List Row)} {a3 : Int} {b4 : Int} {limit5 : Int} {A2 : Option Addr} {N2 D2 : Nat} {r : (List Row)} (hr : Z5 data1 a3 b4 limit5 = some r) : FnOk Try.prog 86 [(.slice A2 N2 D2), (iv a3), (iv b4), (iv limit5), (.func (.func 73) [].toArray [].toArray)] [ow (kT33).share 33 (.slice A2 N2 D2) data1] (fun (h : Unit) => ((.tuple [].toArray), [ow (kT33).share 33 (.slice A2 N2 D2) r])) := Z5_R_ok recFuel hr
theorem Z1f_ok  {p1 : (List Row)} {r : (List Row)} (hr : Z1f p1 = some r) :
 FnOk Try.prog 72 [(.slice A2 N2 D2), (.func (.func 73) [].toArray [].toArray)] [ow (kT33).share 33 (.slice A2 N2 D2) p1] (fun (h : Unit) => ((.tuple [].toArray), [ow (kT33).share 33 (.slice A2 N2 D2) r])) := by
 unfold Z1f at hr
 refine fn_ok Try.func72 R 14 R R fun C V => ?_
 refine cN (_ :: V) ?_
 refine cL 0 sees_sh ?_
 rintro rfl
 refine c_seq (c_region (lS R (lO (v_len sl24 R) (lI R (l_nil (q_next ?_))))))
 obtain ⟨r4, hx5, hr⟩ := bd hr
 obtain ⟨r6, hx7, hr⟩ := bd hr
 refine c_region (lS R (lI R (lI R (lO (vz (.int .u64 (IntKind.wrap .u64 ((p1.length : Int)))) (v_conv un3 un92 R)) (lC 0 cb87 R (Z15_ok hx5) R ?_)))))
 rintro _
 refine lO (vp (.func (.func 73) [].toArray [].toArray) R) (lC 1 cb86 R (Z5_ok hx7) R ?_)
 rintro _
 refine lN (ow (kT33).share 33 (.slice A2 p1.length D2) r6 :: V) ?_
 refine l_nil ?_
 obtain rfl := so hr
 exact q_fin (vs := []) (.inr R) () R trivial R (fun w s => s)
theorem Z0t_ok  {m1 : Lm} {r : (List Row)} (hr : Z0t m1 = some r) :
 FnOk Try.prog 52 [(.agg [(iv m1.Size), (.slice A2 N2 D2)].toArray)] [rds kT33 (.slice A2 N2 D2) m1.Rows] (fun (h : HH) => ((.slice h.1 h.2.1 h.2.2), [ow (kT33).share 33 (.slice h.1 h.2.1 h.2.2) r])) := by
 unfold Z0t at hr
 refine fn_ok Try.func52 R 10 R R fun C V => ?_
 refine cN (_ :: V) ?_
 refine cL 0 sees_rd ?_
 rintro rfl
 let W0 : List HP := RR kT33 A2 D2 m1.Rows :: V
 refine cN W0 ?_
 refine c_seq (c_region (lBx R (fun b3 => (lS R (l_nil ?_)))))
 let W1 : List HP := bxl b3 [(iv m1.Size), (sc A2 m1.Rows D2)] 26 :: W0
 refine qN W1 ?_
 refine q_next (c_seq ?_)
 obtain ⟨r4, hx5, hr⟩ := bd hr
 refine c_region (lO (vFa 1 fo26_1 R) (lO (vLd 0 ag24 R R R) (lM (RR kT33 A2 D2 m1.Rows :: W1) (fun w s => (s.d 1 R)) ?_)))
 refine lC 1 cb71 R (Z1j_ok hx5) R ?_
 rintro ⟨A6, N6, D6⟩
 refine lN (ow (kT33).share 33 (.slice A6 N6 D6) r4 :: W1) ?_
 refine l_len 0 sees_sh ?_
 rintro rfl
 refine lS R (l_nil (q_next (c_seq ?_)))
 obtain ⟨r7, hx8, hr⟩ := bd hr
 refine c_region (lS R (lC 1 cb72 R (Z1f_ok hx8) R ?_))
 rintro _
 refine lN (ow (kT33).share 33 (.slice A6 r4.length D6) r7 :: W1) ?_
 refine l_nil (q_next (c_seq (c_region (lS R (lS R (l_nil (q_next (c_ret ?_))))))))
 obtain rfl := so hr
 exact qF (A6, r4.length, D6) (fun w s => (s.e 3 [0]))
theorem Zv_ok  {xs1 : (List Int)} {lo3 : Int} {hi4 : Int} {r : Bool} (hr : Zv xs1 lo3 hi4 = some r) :
 FnOk Try.prog 51 [(.slice A2 N2 D2), (iv lo3), (iv hi4)] [rds kT3 (.slice A2 N2 D2) xs1] (fun (h : Unit) => ((.bool r), [])) := by
 unfold Zv at hr
 refine fn_ok Try.func51 R 21 R R fun C V => ?_
 refine cN (_ :: V) ?_
 refine cL 0 sees_rd ?_
 rintro rfl
 let W0 : List HP := RR kT3 A2 D2 xs1 :: V
 refine cN W0 ?_
 refine c_seq (c_region (lB R (l_nil (q_next (c_seq (c_cut (A := (Unit) × (Unit)) (fun a => Zv_J1 = some r) (fun a => []) (fun a => W0) ?_ ?_))))))
 refine c_seq (c_region (lS R (lO (v_len sl29 R) (lI R (l_nil (q_next (c_block ?_)))))))
 obtain ⟨e1, hl1, hk1⟩ := bd hr
 refine c_loop (A := Unit) hl1 (fun s a => [(1, (iv lo3)), (2, (iv hi4)), (9, (sc A2 xs1 D2)), (10, (il xs1)), (11, (iv s))]) (fun s a => W0) () (aS R) (fun w s => s) ?_
 rintro x12 _ σ1 out1 hr he1
 replace hr : Zv_L1 xs1 lo3 hi4 x12 = some out1 := hr
 unfold Zv_L1 at hr
 refine c_seq (c_region (lO (vLt R R) (l_nil (q_next (c_seq ?_)))))
 rcases bif_ hr with ⟨hb13, hr⟩ | ⟨hb13, hr⟩
 refine c_true R hb13 (c_skip (q_next (c_seq (c_block (c_seq ?_)))))
 obtain ⟨hg14, hr⟩ := gd hr
 refine c_region (t_some 0 sees_rd (show 0 < xs1.length by have := hg14; omega) (fun g15 o16 ha => ?_))
 subst ha
 refine lO (vIa sl29 sz3 R R hg14) (lO (vLi 0 ag3 sees_rd R hg14) (lI R (l_nil (q_next (c_seq ?_)))))
 obtain ⟨r17, hx18, hr⟩ := bd hr
 refine c_region (lI R (lI R (lI R (lC 0 cb31 R (Zt_ok hx18) R ?_))))
 rintro _
 refine lO (vNo R) (l_nil (q_next ?_))
 rcases bif_ hr with ⟨hb19, hr⟩ | ⟨hb19, hr⟩
 refine c_true R hb19 (c_seq (c_region (lB R (l_nil (q_next (c_ret (q_blockr (q_ret ?_))))))))
 obtain rfl := so hr
 obtain rfl := he1 _ R
 have hr := hk1
 refine q_ret (q_blockr (q_ret ?_))
 obtain rfl := so hr
 exact qF () (fun w s => (s.e 1 []))
 refine c_false R hb19 (c_skip (q_blockn (q_next (c_region (lO (vAd R R) (lI R (l_nil ?_)))))))
 obtain rfl := so hr
 exact qA () (fun w s => s)
 refine c_false R hb13 (c_exit (q_exit ?_))
 obtain rfl := so hr
 obtain rfl := he1 _ R
 have hr := hk1
 refine q_exit (q_block ?_)
 exact q_join ((), ()) hr trivial (fun w s => s)
 rintro ⟨_, _⟩ σ1 hr
 replace hr : Zv_J1 = some r := hr
 unfold Zv_J1 at hr
 refine c_seq (c_region (lB R (l_nil (q_next (c_ret ?_)))))
 obtain rfl := so hr
 exact qF () (fun w s => (s.e 1 []))
theorem Z0d_ok  {xs1 : (List Int)} {p3 : Int} {r : Bool} (hr : Z0d xs1 p3 = some r) :
 FnOk Try.prog 53 [(.slice A2 N2 D2), (iv p3)] [rds kT3 (.slice A2 N2 D2) xs1] (fun (h : Unit) => ((.bool r), [])) := by
 unfold Z0d at hr
 refine fn_ok Try.func53 R 17 R R fun C V => ?_
 refine cN (_ :: V) ?_
 refine cL 0 sees_rd ?_
 rintro rfl
 let W0 : List HP := RR kT3 A2 D2 xs1 :: V
 refine cN W0 ?_
 refine c_seq (c_region (lB R (l_nil (q_next (c_seq (c_cut (A := (Unit) × (Unit)) (fun a => Z0d_J1 = some r) (fun a => []) (fun a => W0) ?_ ?_))))))
 refine c_seq (c_region (lS R (lO (v_len sl29 R) (lI R (l_nil (q_next (c_block ?_)))))))
 obtain ⟨e1, hl1, hk1⟩ := bd hr
 refine c_loop (A := Unit) hl1 (fun s a => [(1, (iv p3)), (7, (sc A2 xs1 D2)), (8, (il xs1)), (9, (iv s))]) (fun s a => W0) () (aS R) (fun w s => s) ?_
 rintro x9 _ σ1 out1 hr he1
 replace hr : Z0d_L1 xs1 p3 x9 = some out1 := hr
 unfold Z0d_L1 at hr
 refine c_seq (c_region (lO (vLt R R) (l_nil (q_next (c_seq ?_)))))
 rcases bif_ hr with ⟨hb10, hr⟩ | ⟨hb10, hr⟩
 refine c_true R hb10 (c_skip (q_next (c_seq (c_block (c_seq ?_)))))
 obtain ⟨hg11, hr⟩ := gd hr
 refine c_region (t_some 0 sees_rd (show 0 < xs1.length by have := hg11; omega) (fun g12 o13 ha => ?_))
 subst ha
 refine lO (vIa sl29 sz3 R R hg11) (lO (vLi 0 ag3 sees_rd R hg11) (lI R (l_nil (q_next (c_seq (c_region (lI R (lI R (lO (vNe R R) (l_nil (q_next ?_)))))))))))
 rcases bif_ hr with ⟨hb14, hr⟩ | ⟨hb14, hr⟩
 refine c_true R hb14 (c_seq (c_region (lB R (l_nil (q_next (c_ret (q_blockr (q_ret ?_))))))))
 obtain rfl := so hr
 obtain rfl := he1 _ R
 have hr := hk1
 refine q_ret (q_blockr (q_ret ?_))
 obtain rfl := so hr
 exact qF () (fun w s => (s.e 1 []))
 refine c_false R hb14 (c_skip (q_blockn (q_next (c_region (lO (vAd R R) (lI R (l_nil ?_)))))))
 obtain rfl := so hr
 exact qA () (fun w s => s)
 refine c_false R hb10 (c_exit (q_exit ?_))
 obtain rfl := so hr
 obtain rfl := he1 _ R
 have hr := hk1
 refine q_exit (q_block ?_)
 exact q_join ((), ()) hr trivial (fun w s => s)
 rintro ⟨_, _⟩ σ1 hr
 replace hr : Z0d_J1 = some r := hr
 unfold Z0d_J1 at hr
 refine c_seq (c_region (lB R (l_nil (q_next (c_ret ?_)))))
 obtain rfl := so hr
 exact qF () (fun w s => (s.e 1 []))
theorem Zp_ok  {m1 : Lm} {r : Bool} (hr : Zp m1 = some r) :
 FnOk Try.prog 30 [(.agg [(iv m1.Size), (.slice A2 N2 D2)].toArray)] [rds kT33 (.slice A2 N2 D2) m1.Rows] (fun (h : Unit) => ((.bool r), [])) := by
 unfold Zp at hr
 refine fn_ok Try.func30 R 83 R R fun C V => ?_
 refine cN (_ :: V) ?_
 refine cL 0 sees_rd ?_
 rintro rfl
 let W0 : List HP := RR kT33 A2 D2 m1.Rows :: V
 refine cN W0 ?_
 refine c_seq (c_region (lBx R (fun b3 => (lB R (l_nil ?_)))))
 let W1 : List HP := bxl b3 [(iv m1.Size), (sc A2 m1.Rows D2)] 26 :: W0
 refine qN W1 ?_
 refine q_next (c_seq (c_seq ?_))
 obtain ⟨r4, hx5, hr⟩ := bd hr
 refine cQ [(1, (pt b3 0)), (15, (.bool ((!r4) || (decide ((m1.Rows.length : Int) > (500 : Int))))))] (W1) ?_ ?_
 refine c_region (lO (vFa 0 fo26_0 R) (lO (vLd 0 ag3 R R R) (lC 0 cb31 R (Zt_ok hx5) R ?_)))
 rintro _
 refine lO (vNo R) (lB R ?_)
 rcases bo (!r4) with hc6 | hc6
 refine lf (wfT hc6) (lf (wfT hc6) (lf (wfT hc6) (lf (wfT hc6) (lO (pOT (decide ((m1.Rows.length : Int) > (500 : Int))) R hc6) (l_nil ?_)))))
 exact qJ (fun w s => s)
 refine lW (wnF hc6) (vFa 1 fo26_1 R) (lW (wnF hc6) (vLd 0 ag24 R R R) (lW (wnF hc6) (v_len sl24 R) (lW (wnF hc6) (vGt R R) (lO (pOF R hc6 R) (l_nil ?_)))))
 exact qJ (fun w s => s)
 rintro σ1
 refine q_next ?_
 rcases bif_ hr with ⟨hb7, hr⟩ | ⟨hb7, hr⟩
 refine c_true R hb7 (c_seq (c_region (lB R (l_nil (q_next (c_ret (q_ret ?_)))))))
 obtain rfl := so hr
 exact qF () (fun w s => (s.e 2 []))
 refine c_false R hb7 (c_skip (q_next (c_seq ?_)))
 obtain ⟨r8, hx9, hr⟩ := bd hr
 refine c_region (lO (vz (.agg [(iv m1.Size), (sc A2 m1.Rows D2)].toArray) (v_loadw 0 ag26 sz26 R R R R)) (lM (RR kT33 A2 D2 m1.Rows :: W1) (fun w s => (s.d 1 R)) ?_))
 refine lC 1 cb52 R (Z0t_ok hx9) R ?_
 rintro ⟨A10, N10, D10⟩
 refine lN (ow (kT33).share 33 (.slice A10 N10 D10) r8 :: W1) ?_
 refine l_len 0 sees_sh ?_
 rintro rfl
 refine lS R (l_nil (q_next (c_seq (c_cut (A := (Unit) × (HH)) (fun a => Zp_J1 r8 = some r) (fun a => [(3, (.slice a.2.1 a.2.2.1 a.2.2.2))]) (fun a => ow (kT33).share 33 (.slice a.2.1 a.2.2.1 a.2.2.2) r8 :: W1) ?_ ?_))))
 refine c_seq (c_region (lS R (lO (v_len sl24 R) (lI R (l_nil (q_next (c_block ?_)))))))
 obtain ⟨e1, hl1, hk1⟩ := bd hr
 refine c_loop (A := HH) hl1 (fun s a => [(1, (pt b3 0)), (3, (.slice a.1 a.2.1 a.2.2)), (18, (.slice a.1 a.2.1 a.2.2)), (19, (il r8)), (20, (iv s))]) (fun s a => ow (kT33).share 33 (.slice a.1 a.2.1 a.2.2) r8 :: W1) (A10, r8.length, D10) (aS R) (fun w s => s) ?_
 rintro x37 ⟨A36, N36, D36⟩ σ1 out1 hr he1
 replace hr : Zp_L1 m1 r8 x37 = some out1 := hr
 unfold Zp_L1 at hr
 refine c_len 0 sees_sh (fun (hn : N36 = r8.length) => ?_)
 subst hn
 refine c_seq (c_region (lO (vLt R R) (l_nil (q_next (c_seq ?_)))))
 rcases bif_ hr with ⟨hb38, hr⟩ | ⟨hb38, hr⟩
 refine c_true R hb38 (c_skip (q_next (c_seq (c_block (c_seq ?_)))))
 obtain ⟨hg39, hr⟩ := gd hr
 refine c_region (lI R (t_some 0 sees_sh (show 0 < r8.length by have := hg39; omega) (fun g40 o41 ha => ?_)))
 subst ha
 refine lO (vIa sl24 sz33 R R hg39) (l_ldo (K := (kT33).share) 0 x37 R R ag33 sz33 dT33.own R R hg39.1 hg39.2 ?_)
 rintro ⟨⟨A42, D42⟩, ⟨A43, D43⟩⟩
 refine lN (RR kT3 A42 D42 ((ix r8 x37).Key) :: RR kT3 A43 D43 ((ix r8 x37).Weights) :: OO (kT33).share 33 (ad g40 o41) D36 r8 :: W1) ?_
 refine l_alloc R R zc33 (fun b44 => (lI R (l_stores 0 R R sz33 R R R R R R (lN (bxl b44 [(sc A42 ((ix r8 x37).Key) D42), (sc A43 ((ix r8 x37).Weights) D43)] 33 :: _ :: _ :: _ :: W1) ?_))))
 refine l_nil (q_next (c_seq (c_seq ?_)))
 obtain ⟨r45, hx46, hr⟩ := bd hr
 obtain ⟨r47, hx48, hr⟩ := bd hr
 obtain ⟨r49, hx50, hr⟩ := bd hr
 refine cQ [(1, (pt b3 0)), (3, (sc (ad g40 o41) r8 D36)), (4, (iv x37)), (5, (pt b44 0)), (18, (sc (ad g40 o41) r8 D36)), (19, (il r8)), (20, (iv x37)), (56, (.bool (((((decide ((((ix r8 x37).Key).length : Int) > (4 : Int))) || (!r45)) || ((((ix r8 x37).Weights).length : Int) != m1.Size)) || (!r47)) || r49)))] (OO (kT33).share 33 (ad g40 o41) D36 r8 :: bxl b44 [(sc A42 ((ix r8 x37).Key) D42), (sc A43 ((ix r8 x37).Weights) D43)] 33 :: RR kT3 A42 D42 ((ix r8 x37).Key) :: RR kT3 A43 D43 ((ix r8 x37).Weights) :: W1) ?_ ?_
 refine c_region (lO (vFa 0 fo33_0 R) (lO (vLd 0 ag29 R R R) (lO (v_len sl29 R) (lO (vGt R R) (lB R ?_)))))
 rcases bo (decide ((((ix r8 x37).Key).length : Int) > (4 : Int))) with hc51 | hc51
 refine lf (wfT hc51) (lf (wfT hc51) (lf (wfT hc51) (lf (wfT hc51) (lf (wfT hc51) (lf (wfT hc51) (lf (wfT hc51) (lO (pOT (!r45) R hc51) (lB R (lf (wfT (oT hc51)) (lf (wfT (oT hc51)) (lf (wfT (oT hc51)) (lf (wfT (oT hc51)) (lf (wfT (oT hc51)) (lf (wfT (oT hc51)) (lO (pOT ((((ix r8 x37).Weights).length : Int) != m1.Size) R (oT hc51)) (lB R (lf (wfT (oT (oT hc51))) (lf (wfT (oT (oT hc51))) (lf (wfT (oT (oT hc51))) (lf (wfT (oT (oT hc51))) (lO (pOT (!r47) R (oT (oT hc51))) (lB R (lf (wfT (oT (oT (oT hc51)))) (lf (wfT (oT (oT (oT hc51)))) (lf (wfT (oT (oT (oT hc51)))) (lO (pOT r49 R (oT (oT (oT hc51)))) (l_nil ?_)))))))))))))))))))))))))))
 exact qJ (fun w s => (s.e 4 [3, 0, 1, 2]))
 refine lW (wnF hc51) (vFa 0 fo33_0 R) (lW (wnF hc51) (vLd 0 ag29 R R R) (lW (wnF hc51) (vFa 0 fo26_0 R) (lW (wnF hc51) (vLd 4 ag3 R R R) (lW (wnF hc51) (vSb R R) (lM (_ :: _ :: _ :: _ :: _ :: W1) (fun w s => (s.d 1 R)) ?_)))))
 refine l_calln 1 R (wnF hc51) cb51 R (Zv_ok (gcall_t hx46 (not_ff hc51))) R ?_
 rintro _
 refine lN (_ :: _ :: _ :: _ :: W1) ?_
 refine lW (wnF hc51) (vNo R) (lO (pOF R hc51 R) (lB R ?_))
 rcases bo ((decide ((((ix r8 x37).Key).length : Int) > (4 : Int))) || (!r45)) with hc52 | hc52
 refine lf (wfT hc52) (lf (wfT hc52) (lf (wfT hc52) (lf (wfT hc52) (lf (wfT hc52) (lf (wfT hc52) (lO (pOT ((((ix r8 x37).Weights).length : Int) != m1.Size) R hc52) (lB R (lf (wfT (oT hc52)) (lf (wfT (oT hc52)) (lf (wfT (oT hc52)) (lf (wfT (oT hc52)) (lO (pOT (!r47) R (oT hc52)) (lB R (lf (wfT (oT (oT hc52))) (lf (wfT (oT (oT hc52))) (lf (wfT (oT (oT hc52))) (lO (pOT r49 R (oT (oT hc52))) (l_nil ?_))))))))))))))))))
 exact qJ (fun w s => (s.e 4 [3, 0, 1, 2]))
 refine lW (wnF hc52) (vFa 1 fo33_1 R) (lW (wnF hc52) (vLd 0 ag29 R R R) (lW (wnF hc52) (v_len sl29 R) (lW (wnF hc52) (vFa 0 fo26_0 R) (lW (wnF hc52) (vLd 4 ag3 R R R) (lW (wnF hc52) (vNe R R) (lO (pOF R hc52 R) (lB R ?_)))))))
 rcases bo (((decide ((((ix r8 x37).Key).length : Int) > (4 : Int))) || (!r45)) || ((((ix r8 x37).Weights).length : Int) != m1.Size)) with hc53 | hc53
 refine lf (wfT hc53) (lf (wfT hc53) (lf (wfT hc53) (lf (wfT hc53) (lO (pOT (!r47) R hc53) (lB R (lf (wfT (oT hc53)) (lf (wfT (oT hc53)) (lf (wfT (oT hc53)) (lO (pOT r49 R (oT hc53)) (l_nil ?_))))))))))
 exact qJ (fun w s => (s.e 4 [3, 0, 1, 2]))
 refine lW (wnF hc53) (vFa 1 fo33_1 R) (lW (wnF hc53) (vLd 0 ag29 R R R) (lM (_ :: _ :: _ :: _ :: _ :: W1) (fun w s => (s.d 2 R)) ?_))
 refine l_calln 1 R (wnF hc53) cb51 R (Zv_ok (gcall_t hx48 (not_ff hc53))) R ?_
 rintro _
 refine lN (_ :: _ :: _ :: _ :: W1) ?_
 refine lW (wnF hc53) (vNo R) (lO (pOF R hc53 R) (lB R ?_))
 rcases bo ((((decide ((((ix r8 x37).Key).length : Int) > (4 : Int))) || (!r45)) || ((((ix r8 x37).Weights).length : Int) != m1.Size)) || (!r47)) with hc54 | hc54
 refine lf (wfT hc54) (lf (wfT hc54) (lf (wfT hc54) (lO (pOT r49 R hc54) (l_nil ?_))))
 exact qJ (fun w s => (s.e 4 [3, 0, 1, 2]))
 refine lW (wnF hc54) (vFa 1 fo33_1 R) (lW (wnF hc54) (vLd 0 ag29 R R R) (lM (_ :: _ :: _ :: _ :: _ :: W1) (fun w s => (s.d 2 R)) ?_))
 refine l_calln 1 R (wnF hc54) cb53 R (Z0d_ok (gcall_t hx50 (not_ff hc54))) R ?_
 rintro _
 refine lN (_ :: _ :: _ :: _ :: W1) ?_
 refine lO (pOF R hc54 R) (l_nil ?_)
 exact qJ (fun w s => (s.e 4 [3, 0, 1, 2]))
 rintro σ1
 refine q_next ?_
 rcases bif_ hr with ⟨hb55, hr⟩ | ⟨hb55, hr⟩
 refine c_true R hb55 (c_seq (c_region (lB R (l_nil (q_next (c_ret (q_ret (q_blockr (q_ret ?_)))))))))
 obtain rfl := so hr
 obtain rfl := he1 _ R
 have hr := hk1
 refine q_ret (q_blockr (q_ret ?_))
 obtain rfl := so hr
 exact qF () (fun w s => (s.e 6 []))
 refine c_false R hb55 (c_skip (q_next (c_seq ?_)))
 obtain ⟨hg56, hr⟩ := gd hr
 obtain ⟨r59, hx60, hr⟩ := bd hr
 refine cQ [(1, (pt b3 0)), (3, (sc (ad g40 o41) r8 D36)), (18, (sc (ad g40 o41) r8 D36)), (19, (il r8)), (20, (iv x37)), (70, (.bool ((decide (x37 > (0 : Int))) && (r59 == (0 : Int)))))] (OO (kT33).share 33 (ad g40 o41) D36 r8 :: W1) ?_ ?_
 rcases bo (decide (x37 > (0 : Int))) with hc61 | hc61
 refine cdr 14 [] mixo (fun ht hn => (dR 0 R (vI R) (dR 1 R (vGt R R) (dR 2 R (vB R) (dW 3 R (wnT hc61) (vS R) (dW 4 R (wnT hc61) (vI R) (dW 5 R (wnT hc61) (vSb R R) (dW 6 R (wnT hc61) (vIa sl24 sz33 R R (hg56 hc61)) (dW 7 R (wnT hc61) (vz (.pointer (some ⟨g40, o41 + (w64 (x37 - (1 : Int))).toNat * 2, none⟩)) (v_fa fo33_0 R R)) (dW 9 R (wnT hc61) (vFa 0 fo33_0 R) (dW 10 R (wnT hc61) (vLd 1 ag29 R R R) (d1 8 R (l_ldof (K := (kT33).share) (fo := 0) 0 (w64 (x37 - (1 : Int))) R (wnT hc61) ag29 dT33.own (fun _ _ => R) R R (hg56 hc61).1 (hg56 hc61).2 ?_)))))))))))))
 rintro ⟨⟨A57, D57⟩, ⟨A58, D58⟩⟩
 refine lN (RR kT3 A57 D57 ((ix r8 (w64 (x37 - (1 : Int)))).Key) :: RR kT3 A58 D58 ((ix r8 (w64 (x37 - (1 : Int)))).Weights) :: _ :: _ :: _ :: _ :: W1) ?_
 refine l_nil (q_draw (sL [1, 0]) (d1 11 R (lM (rds _ _ _ :: rds _ _ _ :: rds _ _ _ :: rds _ _ _ :: ow _ _ _ _ :: bxl _ _ _ :: rds _ _ _ :: rds _ _ _ :: W1) (fun w s => (((s.d 0 R).d 5 R).f 8 [1, 1, 0, 1, 2, 6])) ?_)))
 refine l_calln 2 R (wnT hc61) cb54 R (Z0q_ok (gcall_t hx60 hc61)) R ?_
 rintro _
 refine lN (_ :: _ :: _ :: _ :: _ :: _ :: W1) ?_
 refine l_nil (q_draw (sL [1, 0]) (dW 12 R (wnT hc61) (vEq R R) (hS := (sL [1, 0])) (dR 13 R (pAT R hc61 R) (hS := (sL [1, 0])) (dD ?_))))
 exact qJ (fun w s => (s.e 6 [2]))
 refine cdr 14 [] mixo (fun ht hn => (dR 0 R (vI R) (dR 1 R (vGt R R) (dR 2 R (vB R) (dF 3 R (wfF hc61) (dF 4 R (wfF hc61) (dF 5 R (wfF hc61) (dF 6 R (wfF hc61) (dF 7 R (wfF hc61) (dF 8 R (wfF hc61) (dF 9 R (wfF hc61) (dF 10 R (wfF hc61) (dF 11 R (wfF hc61) (dF 12 R (wfF hc61) (dR 13 R (pAF (r59 == (0 : Int)) R hc61) (dD ?_))))))))))))))))
 exact qJ (fun w s => (s.e 4 [0]))
 rintro σ1
 refine q_next ?_
 rcases bif_ hr with ⟨hb62, hr⟩ | ⟨hb62, hr⟩
 refine c_true R hb62 (c_seq (c_region (lB R (l_nil (q_next (c_ret (q_blockr (q_ret ?_))))))))
 obtain rfl := so hr
 obtain rfl := he1 _ R
 have hr := hk1
 refine q_ret (q_blockr (q_ret ?_))
 obtain rfl := so hr
 exact qF () (fun w s => (s.e 3 []))
 refine c_false R hb62 (c_skip (q_blockn (q_next (c_region (lO (vAd R R) (lI R (l_nil ?_)))))))
 obtain rfl := so hr
 exact qA ((ad g40 o41), r8.length, D36) (fun w s => s)
 refine c_false R hb38 (c_exit (q_exit ?_))
 obtain rfl := so hr
 obtain rfl := he1 _ R
 have hr := hk1
 refine q_exit (q_block ?_)
 exact qI ((), (A36, r8.length, D36)) hr (fun w s => s)
 rintro ⟨_, ⟨A65, N65, D65⟩⟩ σ1 hr
 replace hr : Zp_J1 r8 = some r := hr
 unfold Zp_J1 at hr
 refine c_len 0 sees_sh (fun (hn : N65 = r8.length) => ?_)
 subst hn
 refine c_seq ?_
 obtain ⟨hg66, hr⟩ := gd hr
 refine cQ [(2, (.bool ((decide ((r8.length : Int) > (0 : Int))) && ((((ix r8 (0 : Int)).Key).length : Int) == (0 : Int)))))] (W1) ?_ ?_
 refine c_region (lS R (lO (v_len sl24 R) (lO (vGt R R) (lB R ?_))))
 rcases bo (decide ((r8.length : Int) > (0 : Int))) with hc71 | hc71
 refine lW (wnT hc71) (vS R) (t_some 0 sees_sh (show 0 < r8.length by have := (hg66 hc71); omega) (fun g67 o68 ha => ?_))
 subst ha
 refine lW (wnT hc71) (vIa sl24 sz33 R R (hg66 hc71)) (lW (wnT hc71) (vz (.pointer (some ⟨g67, o68 + (0 : Int).toNat * 2, none⟩)) (v_fa fo33_0 R R)) (l_ldof (K := (kT33).share) (fo := 0) 0 (0 : Int) R (wnT hc71) ag29 dT33.own (fun _ _ => R) R R (hg66 hc71).1 (hg66 hc71).2 ?_))
 rintro ⟨⟨A69, D69⟩, ⟨A70, D70⟩⟩
 refine lN (RR kT3 A69 D69 ((ix r8 (0 : Int)).Key) :: RR kT3 A70 D70 ((ix r8 (0 : Int)).Weights) :: OO (kT33).share 33 (ad g67 o68) D65 r8 :: W1) ?_
 refine lW (wnT hc71) (v_len sl29 R) (lW (wnT hc71) (vEq R R) (lO (pAT R hc71 R) (lB R (l_nil ?_))))
 exact qJ (fun w s => (s.e 3 []))
 refine lf (wfF hc71) (lf (wfF hc71) (lf (wfF hc71) (lf (wfF hc71) (lf (wfF hc71) (lf (wfF hc71) (lO (pAF ((((ix r8 (0 : Int)).Key).length : Int) == (0 : Int)) R hc71) (lB R (l_nil ?_))))))))
 exact qJ (fun w s => (s.e 1 []))
 rintro σ1
 refine q_next (c_ret ?_)
 obtain rfl := so hr
 exact qF () (fun w s => (s.e 2 []))
theorem Z1c_ok  {m1 : Lm} {prompt3 : (List Int)} {n5 : Int} {r : Bool} (hr : Z1c m1 prompt3 n5 = some r) :
 FnOk Try.prog 27 [(.agg [(iv m1.Size), (.slice A2 N2 D2)].toArray), (.slice A4 N4 D4), (iv n5)] [rds kT33 (.slice A2 N2 D2) m1.Rows, rds kT3 (.slice A4 N4 D4) prompt3] (fun (h : Unit) => ((.bool r), [])) := by
 unfold Z1c at hr
 refine fn_ok Try.func27 R 25 R R fun C V => ?_
 refine cN (_ :: _ :: V) ?_
 refine cL 0 sees_rd ?_
 rintro rfl
 refine cL 1 sees_rd ?_
 rintro rfl
 let W0 : List HP := RR kT33 A2 D2 m1.Rows :: RR kT3 A4 D4 prompt3 :: V
 refine cN W0 ?_
 refine c_seq (c_region (lBx R (fun b6 => (lB R (l_nil ?_)))))
 let W1 : List HP := bxl b6 [(iv m1.Size), (sc A2 m1.Rows D2)] 26 :: W0
 refine qN W1 ?_
 refine q_next (c_seq ?_)
 obtain ⟨r7, hx8, hr⟩ := bd hr
 obtain ⟨r9, hx10, hr⟩ := bd hr
 obtain ⟨r11, hx12, hr⟩ := bd hr
 refine cQ [(6, (.bool (((r7 && (decide ((prompt3.length : Int) ≤ (1700 : Int)))) && r9) && r11)))] (W1) ?_ ?_
 refine c_region (lO (vz (.agg [(iv m1.Size), (sc A2 m1.Rows D2)].toArray) (v_loadw 0 ag26 sz26 R R R R)) (lM (RR kT33 A2 D2 m1.Rows :: W1) (fun w s => (s.d 1 R)) ?_))
 refine lC 1 cb30 R (Zp_ok hx8) R ?_
 rintro _
 refine lN W1 ?_
 refine lB R ?_
 rcases bo r7 with hc13 | hc13
 refine lW (wnT hc13) (vS R) (lW (wnT hc13) (v_len sl29 R) (lW (wnT hc13) (vLe R R) (lO (pAT R hc13 R) (lB R ?_))))
 rcases bo (r7 && (decide ((prompt3.length : Int) ≤ (1700 : Int)))) with hc14 | hc14
 refine lW (wnT hc14) (vS R) (lW (wnT hc14) (vFa 0 fo26_0 R) (lW (wnT hc14) (vLd 0 ag3 R R R) (lW (wnT hc14) (vSb R R) (lM (RR kT3 A4 D4 prompt3 :: W1) (fun w s => (s.d 2 R)) ?_))))
 refine l_calln 1 R (wnT hc14) cb51 R (Zv_ok (gcall_t hx10 hc14)) R ?_
 rintro _
 refine lN W1 ?_
 refine lO (pAT R hc14 R) (lB R ?_)
 rcases bo ((r7 && (decide ((prompt3.length : Int) ≤ (1700 : Int)))) && r9) with hc15 | hc15
 refine lW (wnT hc15) (vI R) (l_calln 0 R (wnT hc15) cb31 R (Zt_ok (gcall_t hx12 hc15)) R ?_)
 rintro _
 refine lO (pAT R hc15 R) (lB R (l_nil ?_))
 exact qJ (fun w s => s)
 refine lf (wfF hc15) (lf (wfF hc15) (lO (pAF r11 R hc15) (lB R (l_nil ?_))))
 exact qJ (fun w s => s)
 refine lf (wfF hc14) (lf (wfF hc14) (lf (wfF hc14) (lf (wfF hc14) (lf (wfF hc14) (lO (pAF r9 R hc14) (lB R (lf (wfF (aF hc14)) (lf (wfF (aF hc14)) (lO (pAF r11 R (aF hc14)) (lB R (l_nil ?_)))))))))))
 exact qJ (fun w s => s)
 refine lf (wfF hc13) (lf (wfF hc13) (lf (wfF hc13) (lO (pAF (decide ((prompt3.length : Int) ≤ (1700 : Int))) R hc13) (lB R (lf (wfF (aF hc13)) (lf (wfF (aF hc13)) (lf (wfF (aF hc13)) (lf (wfF (aF hc13)) (lf (wfF (aF hc13)) (lO (pAF r9 R (aF hc13)) (lB R (lf (wfF (aF (aF hc13))) (lf (wfF (aF (aF hc13))) (lO (pAF r11 R (aF (aF hc13))) (lB R (l_nil ?_))))))))))))))))
 exact qJ (fun w s => s)
 rintro σ1
 refine q_next (c_ret ?_)
 obtain rfl := so hr
 exact qF () (fun w s => (s.e 3 []))
theorem Z1m_ok  {c1 : Choice} {r : Bool} (hr : Z1m c1 = some r) :
 FnOk Try.prog 28 [(.agg [(iv c1.Power), (iv c1.Cut), (iv c1.Mass)].toArray)] [] (fun (h : Unit) => ((.bool r), [])) := by
 unfold Z1m at hr
 refine fn_ok Try.func28 R 16 R R fun C V => ?_
 refine cN V ?_
 refine c_seq (c_region (lBx R (fun b2 => (lB R (l_nil ?_)))))
 let W1 : List HP := bxl b2 [(iv c1.Power), (iv c1.Cut), (iv c1.Mass)] 28 :: V
 refine qN W1 ?_
 refine q_next (c_seq ?_)
 obtain ⟨r3, hx4, hr⟩ := bd hr
 obtain ⟨r5, hx6, hr⟩ := bd hr
 obtain ⟨r7, hx8, hr⟩ := bd hr
 refine cQ [(2, (.bool ((r3 && r5) && r7)))] (W1) ?_ ?_
 refine c_region (lO (vFa 0 fo28_0 R) (lO (vLd 0 ag3 R R R) (lC 0 cb31 R (Zt_ok hx4) R ?_)))
 rintro _
 refine lB R ?_
 rcases bo r3 with hc9 | hc9
 refine lW (wnT hc9) (vFa 1 fo28_1 R) (lW (wnT hc9) (vLd 0 ag3 R R R) (l_calln 0 R (wnT hc9) cb31 R (Zt_ok (gcall_t hx6 hc9)) R ?_))
 rintro _
 refine lO (pAT R hc9 R) (lB R ?_)
 rcases bo (r3 && r5) with hc10 | hc10
 refine lW (wnT hc10) (vFa 2 fo28_2 R) (lW (wnT hc10) (vLd 0 ag3 R R R) (l_calln 0 R (wnT hc10) cb31 R (Zt_ok (gcall_t hx8 hc10)) R ?_))
 rintro _
 refine lO (pAT R hc10 R) (lB R (l_nil ?_))
 exact qJ (fun w s => s)
 refine lf (wfF hc10) (lf (wfF hc10) (lf (wfF hc10) (lO (pAF r7 R hc10) (lB R (l_nil ?_)))))
 exact qJ (fun w s => s)
 refine lf (wfF hc9) (lf (wfF hc9) (lf (wfF hc9) (lO (pAF r5 R hc9) (lB R (lf (wfF (aF hc9)) (lf (wfF (aF hc9)) (lf (wfF (aF hc9)) (lO (pAF r7 R (aF hc9)) (lB R (l_nil ?_))))))))))
 exact qJ (fun w s => s)
 rintro σ1
 refine q_next (c_ret ?_)
 obtain rfl := so hr
 exact qF () (fun w s => (s.e 1 []))
theorem Z0o_ok  {p1 : Int} {r : Bool} (hr : Z0o p1 = some r) :
 FnOk Try.prog 29 [(iv p1)] [] (fun (h : Unit) => ((.bool r), [])) := by
 unfold Z0o at hr
 refine fn_ok Try.func29 R 9 R R fun C V => ?_
 refine cN V ?_
 refine c_seq (c_region (lB R (l_nil (q_next (c_seq (cQ [(2, (.bool ((decide (p1 ≥ (0 : Int))) && (decide (p1 < (4294967296 : Int))))))] (V) ?_ ?_))))))
 refine c_region (lI R (lO (vGe R R) (lB R ?_)))
 rcases bo (decide (p1 ≥ (0 : Int))) with hc2 | hc2
 refine lW (wnT hc2) (vI R) (lW (wnT hc2) (vLt R R) (lO (pAT R hc2 R) (lB R (l_nil ?_))))
 exact qJ (fun w s => s)
 refine lf (wfF hc2) (lf (wfF hc2) (lO (pAF (decide (p1 < (4294967296 : Int))) R hc2) (lB R (l_nil ?_))))
 exact qJ (fun w s => s)
 rintro σ1
 refine q_next (c_ret ?_)
 obtain rfl := so hr
 exact qF () (fun w s => s)
theorem Z13_ok  {p1 : Int} {r : Int} (hr : Z13 p1 = some r) :
 FnOk Try.prog 55 [(iv p1)] [] (fun (h : Unit) => ((iv r), [])) := by
 unfold Z13 at hr
 refine fn_ok Try.func55 R 10 R R fun C V => ?_
 refine cN V ?_
 refine c_seq (c_region (lI R (l_nil (q_next (c_seq (c_seq ?_))))))
 obtain ⟨r2, hx3, hr⟩ := bd hr
 refine c_region (lI R (lC 0 cb29 R (Z0o_ok hx3) R ?_))
 rintro _
 refine lO (vNo R) (l_nil (q_next ?_))
 rcases bif_ hr with ⟨hb4, hr⟩ | ⟨hb4, hr⟩
 refine c_true R hb4 (c_seq (c_region (lI R (l_nil (q_next (c_ret (q_ret ?_)))))))
 obtain rfl := so hr
 exact qF () (fun w s => s)
 refine c_false R hb4 (c_skip (q_next (c_seq (c_region (lI R (lO (vMu R R) (lO (vAd R R) (lO (v_rem R R (by decide)) (lI R (l_nil (q_next (c_ret ?_))))))))))))
 obtain rfl := so hr
 exact qF () (fun w s => s)
theorem Zx_ok  {m1 : Lm} {c3 : Choice} {n4 : Int} {seed5 : Int} {r : talker} (hr : Zx m1 c3 n4 seed5 = some r) :
 FnOk Try.prog 32 [(.agg [(iv m1.Size), (.slice A2 N2 D2)].toArray), (.agg [(iv c3.Power), (iv c3.Cut), (iv c3.Mass)].toArray), (iv n4), (iv seed5)] [rds kT33 (.slice A2 N2 D2) m1.Rows] (fun (h : HH × HH × Nat) => ((pt h.2.2 0), [ow (kT33).share 33 (.slice h.1.1 h.1.2.1 h.1.2.2) r.rows, ow kT3 3 (.slice h.2.1.1 h.2.1.2.1 h.2.1.2.2) r.states, bxl h.2.2 [(.slice h.1.1 h.1.2.1 h.1.2.2), (iv r.choice.Power), (iv r.choice.Cut), (iv r.choice.Mass), (.slice h.2.1.1 h.2.1.2.1 h.2.1.2.2)] 79])) := by
 unfold Zx at hr
 refine fn_ok Try.func32 R 33 R R fun C V => ?_
 refine cN (_ :: V) ?_
 refine cL 0 sees_rd ?_
 rintro rfl
 let W0 : List HP := RR kT33 A2 D2 m1.Rows :: V
 refine cN W0 ?_
 refine c_seq (c_region (lBx R (fun b6 => (lBx R (fun b7 => (lO (vp (.pointer none) R) (l_nil ?_)))))))
 let W1 : List HP := bxl b7 [(iv c3.Power), (iv c3.Cut), (iv c3.Mass)] 28 :: bxl b6 [(iv m1.Size), (sc A2 m1.Rows D2)] 26 :: W0
 refine qN W1 ?_
 refine q_next (c_seq ?_)
 obtain ⟨r8, hx9, hr⟩ := bd hr
 refine c_cutq (A := (Unit) × (Nat × HH × HH)) (fun _ => True) (fun a => [(2, (iv n4)), (3, (iv seed5)), (9, (pt a.2.1 0))]) (fun a => bxl a.2.1 [(.slice a.2.2.1.1 a.2.2.1.2.1 a.2.2.1.2.2), (iv c3.Power), (iv c3.Cut), (iv c3.Mass), (.slice a.2.2.2.1 a.2.2.2.2.1 a.2.2.2.2.2)] 79 :: ow (kT33).share 33 (.slice a.2.2.1.1 a.2.2.1.2.1 a.2.2.1.2.2) r8 :: ow kT3 3 (.slice a.2.2.2.1 a.2.2.2.2.1 a.2.2.2.2.2) ([] : List Int) :: W1) ?_ ?_
 refine cdr 7 [] mixo (fun ht hn => (dR 0 R (vz (.agg [(iv m1.Size), (sc A2 m1.Rows D2)].toArray) (v_loadw 1 ag26 sz26 R R R R)) (dR 2 R (vz (.agg [(iv c3.Power), (iv c3.Cut), (iv c3.Mass)].toArray) (v_loadw 0 ag28 sz28 R R R R)) (d_all [1, 3] (by kernel_rfl) R ⟨?_, ?_, trivial⟩))))
 refine lM (RR kT33 A2 D2 m1.Rows :: W1) (fun w s => (s.d 2 R)) ?_
 refine lC 1 cb52 R (Z0t_ok hx9) R ?_
 rintro ⟨A10, N10, D10⟩
 refine lN (ow (kT33).share 33 (.slice A10 N10 D10) r8 :: W1) ?_
 refine l_len 0 sees_sh ?_
 rintro rfl
 refine l_nil (q_draw (sL [0]) (d1 3 R (l_build (K := kT3) (xs := ([] : List Int)) (vs := []) 0 R R sl29 sz3 zc3 R R R R R R ?_ R (fun A11 D11 => ?_))))
 exact fun I h s => (mO3).list [] I h s
 refine lN (OO kT3 3 A11 D11 ([] : List Int) :: _ :: W1) ?_
 refine l_nil (q_draw (sL [1, 0]) (dR 4 R (vz (.agg [(sc A10 r8 D10), (iv c3.Power), (iv c3.Cut), (iv c3.Mass), (sc A11 ([] : List Int) D11)].toArray) (v_build pl79 zc79 R R)) (hS := (sL [1, 0])) (d1 5 R (lBx R (fun b12 => (l_nil (q_draw (sL [2, 1, 0]) (dR 6 R (vP R) (hS := (sL [2, 1, 0])) (dD ?_)))))))))
 exact q_join ((), (b12, (A10, r8.length, D10), (A11, ([] : List Int).length, D11))) trivial (aS R) (fun w s => (s.e 3 [0, 2, 1]))
 refine l_build (K := kT3) (xs := ([] : List Int)) (vs := []) 0 R R sl29 sz3 zc3 R R R R R R ?_ R (fun A11 D11 => ?_)
 exact fun I h s => (mO3).list [] I h s
 refine lN (_ :: W1) ?_
 refine l_nil (q_draw (sL [0]) (d1 1 R (lM (RR kT33 A2 D2 m1.Rows :: _ :: W1) (fun w s => (s.d 3 R)) ?_)))
 refine lC 1 cb52 R (Z0t_ok hx9) R ?_
 rintro ⟨A10, N10, D10⟩
 refine lN (ow (kT33).share 33 (.slice A10 N10 D10) r8 :: _ :: W1) ?_
 refine l_len 0 sees_sh ?_
 rintro rfl
 refine l_nil (q_draw (sL [1, 0]) (dR 4 R (vz (.agg [(sc A10 r8 D10), (iv c3.Power), (iv c3.Cut), (iv c3.Mass), (sc A11 ([] : List Int) D11)].toArray) (v_build pl79 zc79 R R)) (hS := (sL [1, 0])) (d1 5 R (lBx R (fun b12 => (l_nil (q_draw (sL [2, 1, 0]) (dR 6 R (vP R) (hS := (sL [2, 1, 0])) (dD ?_)))))))))
 exact q_join ((), (b12, (A10, r8.length, D10), (A11, ([] : List Int).length, D11))) trivial (aS R) (fun w s => s)
 rintro ⟨_, ⟨b13, ⟨A14, N14, D14⟩, ⟨A15, N15, D15⟩⟩⟩ σ1 -
 refine q_len 1 sees_sh (fun (hn : N14 = r8.length) => ?_)
 subst hn
 refine q_len 2 sees_ow (fun (hn : N15 = ([] : List Int).length) => ?_)
 subst hn
 refine q_next (c_seq (c_cut (A := ((List Int)) × (HH)) (fun a => Zx_J1 c3 r8 a.1 = some r) (fun a => [(9, (pt b13 0))]) (fun a => bxl b13 [(sc A14 r8 D14), (iv c3.Power), (iv c3.Cut), (iv c3.Mass), (.slice a.2.1 a.2.2.1 a.2.2.2)] 79 :: OO (kT33).share 33 A14 D14 r8 :: ow kT3 3 (.slice a.2.1 a.2.2.1 a.2.2.2) a.1 :: W1) ?_ ?_))
 refine c_seq (c_region (lI R (lI R (l_nil (q_next (c_block ?_))))))
 obtain ⟨e1, hl1, hk1⟩ := bd hr
 refine c_loop (A := HH) hl1 (fun s a => [(3, (iv s.1)), (9, (pt b13 0)), (16, (iv n4)), (17, (iv s.2.2))]) (fun s a => bxl b13 [(sc A14 r8 D14), (iv c3.Power), (iv c3.Cut), (iv c3.Mass), (.slice a.1 a.2.1 a.2.2)] 79 :: OO (kT33).share 33 A14 D14 r8 :: ow kT3 3 (.slice a.1 a.2.1 a.2.2) s.2.1 :: W1) (A15, ([] : List Int).length, D15) (aS R) (fun w s => s) ?_
 rintro ⟨seed22, t23, x25⟩ ⟨A24, N24, D24⟩ σ1 out1 hr he1
 replace hr : Zx_L1 n4 seed22 t23 x25 = some out1 := hr
 unfold Zx_L1 at hr
 refine c_len 2 sees_ow (fun (hn : N24 = t23.length) => ?_)
 subst hn
 refine c_seq (c_region (lO (vLt R R) (l_nil (q_next (c_seq ?_)))))
 rcases bif_ hr with ⟨hb26, hr⟩ | ⟨hb26, hr⟩
 refine c_true R hb26 (c_skip (q_next (c_seq (c_block (c_seq ?_)))))
 obtain ⟨hg28, hr⟩ := gd hr
 refine c_region (lP R (lP R (lP R (lO (vFa 4 fo79_2 R) (lO (vLd 0 ag29 R R R) (lI R (l_build (K := kT3) (xs := ([seed22] : List Int)) (vs := [(iv seed22)]) 0 R R sl29 sz3 zc3 R R R R R R ?_ R (fun A27 D27 => ?_))))))))
 exact fun I h s => (mO3).list [((), seed22)] I h s
 refine lN (OO kT3 3 A27 D27 ([seed22] : List Int) :: bxl b13 [(sc A14 r8 D14), (iv c3.Power), (iv c3.Cut), (iv c3.Mass), (sc A24 t23 D24)] 79 :: OO (kT33).share 33 A14 D14 r8 :: OO kT3 3 A24 D24 t23 :: W1) ?_
 refine lM (ow _ _ _ _ :: ow _ _ _ _ :: bxl _ _ _ :: ow _ _ _ _ :: W1) (fun w s => (s.e 4 [3, 0, 1, 2])) ?_
 refine l_app (K := kT3) 17592186044416 R R sl29 sz3 by3 (Zr.zk zT3 zc3) R R R R R R src_ow hg28 (fun A29 D29 => (lN (OO kT3 3 A29 D29 (t23 ++ ([seed22] : List Int)) :: _ :: _ :: W1) ?_))
 refine lP R (lO (vFa 4 fo79_2 R) (l_store 1 R R sz29 R R R R R (lN (_ :: bxl b13 [(sc A14 r8 D14), (iv c3.Power), (iv c3.Cut), (iv c3.Mass), (sc A29 (t23 ++ ([seed22] : List Int)) D29)] 79 :: _ :: W1) ?_)))
 refine l_nil (q_next ?_)
 obtain ⟨r30, hx31, hr⟩ := bd hr
 refine c_region (lI R (lC 0 cb55 R (Z13_ok hx31) R ?_))
 rintro _
 refine lI R (l_nil (q_blockn (q_next (c_region (lO (vAd R R) (lI R (l_nil ?_)))))))
 obtain rfl := so hr
 exact qA (A29, (t23 ++ ([seed22] : List Int)).length, D29) (fun w s => (s.e 3 [1, 2, 0]))
 refine c_false R hb26 (c_exit (q_exit ?_))
 obtain rfl := so hr
 obtain rfl := he1 _ R
 have hr := hk1
 refine q_exit (q_block ?_)
 exact qI (t23, (A24, t23.length, D24)) hr (fun w s => s)
 rintro ⟨t36, ⟨A37, N37, D37⟩⟩ σ1 hr
 replace hr : Zx_J1 c3 r8 t36 = some r := hr
 unfold Zx_J1 at hr
 refine c_len 2 sees_ow (fun (hn : N37 = t36.length) => ?_)
 subst hn
 refine c_seq (c_region (lP R (lP R (l_nil (q_next (c_ret ?_))))))
 obtain rfl := so hr
 exact qF ((A14, r8.length, D14), (A37, t36.length, D37), b13) (fun w s => (s.e 6 [1, 2, 0]))
theorem Z0m_ok {s1 : List Int} {a_2 : Option Addr} {n_2 c_2 : Nat} {r : (List Int)} (hr : Z0m s1 = some r) :
    FnOk Try.prog 33 [(.slice a_2 n_2 c_2)] [rds kT3 (.slice a_2 n_2 c_2) s1] (fun (h : (Option Addr × Nat × Nat)) => ((.slice h.1 h.2.1 h.2.2), [ow kT3 3 (.slice h.1 h.2.1 h.2.2) r])) := by
  unfold Z0m at hr
  obtain ⟨hg, hr⟩ := gd hr
  obtain rfl := Option.some.inj hr
  refine fn_ok Try.func33 rfl 8 rfl rfl fun C V => (c_st (V' := rds kT3 (.slice a_2 n_2 c_2) s1 :: V) (fun w s => s) (c_len 0 sees_rd (fun (hn : n_2 = s1.length) => ?_)))
  subst hn
  refine c_seq (c_region (lS rfl (l_nil (q_next (c_seq (c_seq (c_region (lS rfl (l_v (.bool a_2.isNone) (v_snil sl29 rfl rfl) rfl rfl (l_nil (q_next ?_)))))))))))
  rcases Bool.eq_false_or_eq_true a_2.isNone with ha | ha
  · refine c_true rfl ha ?_
    refine c_nilx 0 sees_rd ha (fun (hx : s1 = []) => ?_)
    subst hx
    refine c_seq (c_region (lS rfl (l_nil (q_next (c_ret (q_ret ?_))))))
    exact q_fin (vs := [(.slice none 0 0)]) (.inl rfl) (none, 0, 0) rfl ⟨rfl, trivial⟩ rfl (fun w s => ((s.nilo kT3 3).sel 2 [0] rfl rfl))
  · refine c_false rfl ha (c_skip (q_next ?_))
    refine c_seq (c_region (l_build (K := kT3) (xs := ([] : List Int)) (vs := []) 0 rfl rfl sl29 sz3 zc3 rfl rfl rfl rfl rfl rfl ?_ rfl (fun a_3 c_3 => ?_)))
    · exact fun I h s => (mO3).list [] I h s
    refine lS rfl (l_app (K := kT3) 17592186044416 rfl rfl sl29 sz3 by3 (Zr.zk zT3 zc3) rfl rfl rfl rfl rfl rfl (src_rd (Kind.scal_flat _ _)) (by simpa using hg) (fun a_4 c_4 => (lS rfl (l_nil (q_next (c_ret ?_))))))
    exact q_fin (vs := [(.slice a_4 s1.length c_4)]) (.inl rfl) (a_4, s1.length, c_4) rfl ⟨rfl, trivial⟩ rfl (fun w s => s)
theorem Z0i_ok  {p1 : (List Int)} {p4 : (List Int)} {b2 : Nat} {b5 : Nat} {r : Int} (hr : Z0i p1 p4 = some r) :
 FnOk Try.prog 34 [(pt b2 0), (pt b5 0)] [rds kT3 (.slice A3 N3 D3) p1, bxl b2 [(.slice A3 N3 D3)] 29, rds kT3 (.slice A6 N6 D6) p4, bxl b5 [(.slice A6 N6 D6)] 29] (fun (h : Unit) => ((iv r), [bxl b2 [(.slice A3 N3 D3)] 29, bxl b5 [(.slice A6 N6 D6)] 29])) := by
 unfold Z0i at hr
 refine fn_ok Try.func34 R 8 R R fun C V => ?_
 refine cM (bxl _ _ _ :: bxl _ _ _ :: rds _ _ _ :: rds _ _ _ :: V) (fun w s => (s.e 4 [1, 3, 0, 2])) ?_
 refine cL 2 sees_rd ?_
 rintro rfl
 refine cL 3 sees_rd ?_
 rintro rfl
 let W0 : List HP := RR kT3 A3 D3 p1 :: RR kT3 A6 D6 p4 :: V
 refine cN (bxl b2 [(sc A3 p1 D3)] 29 :: bxl b5 [(sc A6 p4 D6)] 29 :: W0) ?_
 refine c_seq (c_region (lI R (l_nil ?_)))
 let W1 : List HP := bxl b2 [(sc A3 p1 D3)] 29 :: bxl b5 [(sc A6 p4 D6)] 29 :: W0
 refine qN W1 ?_
 refine q_next (c_seq (c_region (lO (vLd 0 ag29 R R R) (lO (v_len sl29 R) (lO (vLd 1 ag29 R R R) (lO (v_len sl29 R) (lO (vSb R R) (lI R (l_nil (q_next (c_ret ?_)))))))))))
 obtain rfl := so hr
 exact qF () (fun w s => (s.e 4 [0, 1]))
theorem Z0x_ok  {r1 : Row} {k4 : (List Int)} {r : Int} (hr : Z0x r1 k4 = some r) :
 FnOk Try.prog 82 [(.agg [(.slice A2 N2 D2), (.slice A3 N3 D3)].toArray), (.slice A5 N5 D5)] [rds kT3 (.slice A2 N2 D2) r1.Key, rds kT3 (.slice A3 N3 D3) r1.Weights, rds kT3 (.slice A5 N5 D5) k4] (fun (h : Unit) => ((iv r), [])) := by
 unfold Z0x at hr
 refine fn_ok Try.func82 R 9 R R fun C V => ?_
 refine cN (_ :: _ :: _ :: V) ?_
 refine cL 0 sees_rd ?_
 rintro rfl
 refine cL 1 sees_rd ?_
 rintro rfl
 refine cL 2 sees_rd ?_
 rintro rfl
 let W0 : List HP := RR kT3 A2 D2 r1.Key :: RR kT3 A3 D3 r1.Weights :: RR kT3 A5 D5 k4 :: V
 refine cN W0 ?_
 refine c_seq (c_region (lBx R (fun b6 => (lI R (l_nil ?_)))))
 let W1 : List HP := bxl b6 [(sc A2 r1.Key D2), (sc A3 r1.Weights D3)] 33 :: W0
 refine qN W1 ?_
 refine q_next (c_seq ?_)
 obtain ⟨r7, hx8, hr⟩ := bd hr
 refine c_region (lO (vFa 0 fo33_0 R) (lO (vLd 0 ag29 R R R) (lS R (lM (RR kT3 A2 D2 r1.Key :: RR kT3 A5 D5 k4 :: W1) (fun w s => (((s.d 1 R).d 4 R).e 2 [1, 0])) ?_))))
 refine lC 2 cb54 R (Z0q_ok hx8) R ?_
 rintro _
 refine lN W1 ?_
 refine lI R (l_nil (q_next (c_ret ?_)))
 obtain rfl := so hr
 exact qF () (fun w s => (s.e 4 []))
theorem Zq_ok  {list1 : (List Row)} {key3 : (List Int)} {r : Int × Bool} (hr : Zq list1 key3 = some r) :
 FnOk Try.prog 81 [(.slice A2 N2 D2), (.slice A4 N4 D4), (.func (.func 82) [].toArray [].toArray)] [rds kT33 (.slice A2 N2 D2) list1, rds kT3 (.slice A4 N4 D4) key3] (fun (h : Unit) => ((.tuple [(iv r.1), (.bool r.2)].toArray), [])) := by
 unfold Zq at hr
 refine fn_ok Try.func81 R 46 R R fun C V => ?_
 refine cN (_ :: _ :: V) ?_
 refine cL 0 sees_rd ?_
 rintro rfl
 refine cL 1 sees_rd ?_
 rintro rfl
 let W0 : List HP := RR kT33 A2 D2 list1 :: RR kT3 A4 D4 key3 :: V
 refine cN W0 ?_
 refine c_seq (c_region (lI R (lB R (l_nil (q_next (c_seq (c_region (lS R (lO (v_len sl24 R) (lI R (lI R (l_nil (q_next (c_seq (c_cut (A := (Int) × (Unit)) (fun a => Zq_J1 list1 key3 a.1 = some r) (fun a => [(0, (sc A2 list1 D2)), (1, (sc A4 key3 D4)), (2, (.func (.func 82) [].toArray [].toArray)), (8, (iv a.1))]) (fun a => W0) ?_ ?_)))))))))))))))
 refine c_block ?_
 obtain ⟨e1, hl1, hk1⟩ := bd hr
 refine c_loop (A := Unit) hl1 (fun s a => [(0, (sc A2 list1 D2)), (1, (sc A4 key3 D4)), (2, (.func (.func 82) [].toArray [].toArray)), (8, (iv s.1)), (9, (iv s.2))]) (fun s a => W0) () (aS R) (fun w s => s) ?_
 rintro ⟨lo15, hi16⟩ _ σ1 out1 hr he1
 replace hr : Zq_L1 list1 key3 lo15 hi16 = some out1 := hr
 unfold Zq_L1 at hr
 refine c_seq (c_seq (c_region (lI R (lI R (lO (vLt R R) (l_nil (q_next ?_)))))))
 rcases bif_ hr with ⟨hb17, hr⟩ | ⟨hb17, hr⟩
 refine c_true R hb17 (c_skip (q_next (c_block (c_seq (c_region (lI R (lI R (lO (vAd R R) (lO (vz (iv (w64 ((w64 (lo15 + hi16)).tdiv (2 : Int)))) (v_quo R R (by decide))) (lI R (l_nil (q_next (c_seq ?_)))))))))))))
 obtain ⟨hg18, hr⟩ := gd hr
 obtain ⟨r23, hx24, hr⟩ := bd hr
 refine c_region (lO (vp (.func (.func 82) [].toArray [].toArray) R) (lS R (lI R (t_some 0 sees_rd (show 0 < list1.length by have := hg18; omega) (fun g19 o20 ha => ?_)))))
 subst ha
 refine lO (vIa sl24 sz33 R R hg18) (t_elem (K := kT33) 0 (w64 ((w64 (lo15 + hi16)).tdiv (2 : Int))) dT33.dec R hg18.1 hg18.2 ?_)
 rintro ⟨⟨A21, D21⟩, ⟨A22, D22⟩⟩
 refine lN (cl g19 (o20 + (w64 ((w64 (lo15 + hi16)).tdiv (2 : Int))).toNat * 2) [(sc A21 ((ix list1 (w64 ((w64 (lo15 + hi16)).tdiv (2 : Int)))).Key) D21), (sc A22 ((ix list1 (w64 ((w64 (lo15 + hi16)).tdiv (2 : Int)))).Weights) D22)] :: RR kT3 A21 D21 ((ix list1 (w64 ((w64 (lo15 + hi16)).tdiv (2 : Int)))).Key) :: RR kT3 A22 D22 ((ix list1 (w64 ((w64 (lo15 + hi16)).tdiv (2 : Int)))).Weights) :: W0) ?_
 refine lO (vz (.agg [(sc A21 ((ix list1 (w64 ((w64 (lo15 + hi16)).tdiv (2 : Int)))).Key) D21), (sc A22 ((ix list1 (w64 ((w64 (lo15 + hi16)).tdiv (2 : Int)))).Weights) D22)].toArray) (v_clfs (fo := 0) 0 ag33 sz33 R R R R)) (lS R (lM (rds _ _ _ :: rds _ _ _ :: RR kT3 A4 D4 key3 :: cl _ _ _ :: rds _ _ _ :: rds _ _ _ :: W0) (fun w s => ((((s.d 1 R).d 3 R).d 6 R).e 6 [2, 1, 0, 3, 4, 5])) ?_))
 refine l_callvn (fs := []) (cs := []) 3 R R cb82 R R (Z0x_ok hx24) R ?_
 rintro _
 refine lN (_ :: _ :: _ :: W0) ?_
 refine lO (vLt R R) (l_nil (q_next ?_))
 rcases bif_ hr with ⟨hb25, hr⟩ | ⟨hb25, hr⟩
 refine c_true R hb25 (c_region (lI R (lO (vAd R R) (lI R (l_nil (q_blockn ?_))))))
 obtain rfl := so hr
 exact qA () (fun w s => (s.e 3 []))
 refine c_false R hb25 (c_region (lI R (lI R (l_nil (q_blockn ?_)))))
 obtain rfl := so hr
 exact qA () (fun w s => (s.e 3 []))
 refine c_false R hb17 (c_exit (q_exit ?_))
 obtain rfl := so hr
 obtain rfl := he1 _ R
 have hr := hk1
 refine q_exit (q_block ?_)
 exact qI (lo15, ()) hr (fun w s => s)
 rintro ⟨lo28, _⟩ σ1 hr
 replace hr : Zq_J1 list1 key3 lo28 = some r := hr
 unfold Zq_J1 at hr
 refine c_seq ?_
 obtain ⟨hg29, hr⟩ := gd hr
 obtain ⟨r34, hx35, hr⟩ := bd hr
 refine cQ [(6, (iv lo28)), (7, (.bool ((decide (lo28 < (list1.length : Int))) && (r34 == (0 : Int)))))] (W0) ?_ ?_
 refine c_region (lI R (lI R (lS R (lO (v_len sl24 R) (lO (vLt R R) (lB R ?_))))))
 rcases bo (decide (lo28 < (list1.length : Int))) with hc36 | hc36
 refine lW (wnT hc36) (vp (.func (.func 82) [].toArray [].toArray) R) (lW (wnT hc36) (vS R) (lW (wnT hc36) (vI R) (t_some 0 sees_rd (show 0 < list1.length by have := (hg29 hc36); omega) (fun g30 o31 ha => ?_))))
 subst ha
 refine lW (wnT hc36) (vIa sl24 sz33 R R (hg29 hc36)) (t_elem (K := kT33) 0 lo28 dT33.dec R (hg29 hc36).1 (hg29 hc36).2 ?_)
 rintro ⟨⟨A32, D32⟩, ⟨A33, D33⟩⟩
 refine lN (cl g30 (o31 + lo28.toNat * 2) [(sc A32 ((ix list1 lo28).Key) D32), (sc A33 ((ix list1 lo28).Weights) D33)] :: RR kT3 A32 D32 ((ix list1 lo28).Key) :: RR kT3 A33 D33 ((ix list1 lo28).Weights) :: W0) ?_
 refine lW (wnT hc36) (vz (.agg [(sc A32 ((ix list1 lo28).Key) D32), (sc A33 ((ix list1 lo28).Weights) D33)].toArray) (v_clfs (fo := 0) 0 ag33 sz33 R R R R)) (lW (wnT hc36) (vS R) (lM (rds _ _ _ :: rds _ _ _ :: RR kT3 A4 D4 key3 :: cl _ _ _ :: rds _ _ _ :: rds _ _ _ :: W0) (fun w s => ((((s.d 1 R).d 3 R).d 6 R).e 6 [2, 1, 0, 3, 4, 5])) ?_))
 refine l_callvn (fs := []) (cs := []) 3 R (wnT hc36) cb82 R R (Z0x_ok (gcall_t hx35 hc36)) R ?_
 rintro _
 refine lN (_ :: _ :: _ :: W0) ?_
 refine lW (wnT hc36) (vEq R R) (lO (pAT R hc36 R) (lI R (lB R (l_nil ?_))))
 exact qJ (fun w s => (s.e 3 []))
 refine lf (wfF hc36) (lf (wfF hc36) (lf (wfF hc36) (lf (wfF hc36) (lf (wfF hc36) (lf (wfF hc36) (lf (wfF hc36) (lf (wfF hc36) (lO (pAF (r34 == (0 : Int)) R hc36) (lI R (lB R (l_nil ?_)))))))))))
 exact qJ (fun w s => s)
 rintro σ1
 refine q_next (c_ret ?_)
 obtain rfl := so hr
 exact q_fin (vs := [(iv lo28), (.bool ((decide (lo28 < (list1.length : Int))) && (r34 == (0 : Int))))]) (.inl R) () R ⟨R, R, trivial⟩ R (fun w s => (s.e 2 []))
theorem Zu_ok  {rows1 : (List Row)} {history3 : (List Int)} {r : (List Int)} (hr : Zu rows1 history3 = some r) :
 FnOk Try.prog 57 [(.slice A2 N2 D2), (.slice A4 N4 D4)] [rds kT33 (.slice A2 N2 D2) rows1, rds kT3 (.slice A4 N4 D4) history3] (fun (h : HH) => ((.slice h.1 h.2.1 h.2.2), [rds kT3 (.slice h.1 h.2.1 h.2.2) r])) := by
 unfold Zu at hr
 refine fn_ok Try.func57 R 38 R R fun C V => ?_
 refine cN (_ :: _ :: V) ?_
 refine cL 0 sees_rd ?_
 rintro rfl
 refine cL 1 sees_rd ?_
 rintro rfl
 let W0 : List HP := RR kT33 A2 D2 rows1 :: RR kT3 A4 D4 history3 :: V
 refine cN W0 ?_
 refine c_seq (c_region (lS R (l_nil (q_next (c_seq (c_cut (A := (Unit) × (Unit)) (fun a => Zu_J1 rows1 = some r) (fun a => [(0, (sc A2 rows1 D2))]) (fun a => W0) ?_ ?_))))))
 refine c_seq (c_region (lS R (lO (v_len sl29 R) (lO (vz (iv (if (history3.length : Int) < (4 : Int) then (history3.length : Int) else (4 : Int))) (v_min R R)) (lI R (l_nil (q_next (c_block ?_))))))))
 obtain ⟨e1, hl1, hk1⟩ := bd hr
 refine c_loop (A := Unit) hl1 (fun s a => [(0, (sc A2 rows1 D2)), (1, (sc A4 history3 D4)), (5, (iv s))]) (fun s a => W0) () (aS R) (fun w s => s) ?_
 rintro n16 _ σ1 out1 hr he1
 replace hr : Zu_L1 rows1 history3 n16 = some out1 := hr
 unfold Zu_L1 at hr
 refine c_seq (c_seq (c_region (lI R (lO (vGt R R) (l_nil (q_next ?_))))))
 rcases bif_ hr with ⟨hb17, hr⟩ | ⟨hb17, hr⟩
 refine c_true R hb17 (c_skip (q_next (c_seq (c_block (c_seq ?_)))))
 obtain ⟨hg18, hr⟩ := gd hr
 refine c_region (lS R (lS R (lO (v_len sl29 R) (lI R (lO (vSb R R) (l_cut (K := kT3) (w64 ((history3.length : Int) - n16)) (history3.length : Int) 1 R R sl29 sz3 R R R R hg18.1 hg18.2.1 hg18.2.2 (fun A19 D19 => (lS R (l_nil (q_next (c_seq ?_)))))))))))
 obtain ⟨r20, hx21, hr⟩ := bd hr
 refine c_region (lS R (lS R (lM (RR kT33 A2 D2 rows1 :: RR kT3 A19 D19 (sub history3 (w64 ((history3.length : Int) - n16)) (history3.length : Int)) :: RR kT3 A19 D19 (sub history3 (w64 ((history3.length : Int) - n16)) (history3.length : Int)) :: W0) (fun w s => (((s.d 1 R).d 1 R).e 3 [1, 0, 2])) ?_)))
 refine lC 2 cb81 R (Zq_ok hx21) R ?_
 rintro _
 refine lN (_ :: W0) ?_
 refine lO (vT R) (lI R (lB R (lI R (lB R (l_nil (q_next (c_seq (c_region (lB R (l_nil (q_next ?_)))))))))))
 rcases bif_ hr with ⟨hb22, hr⟩ | ⟨hb22, hr⟩
 refine c_true R hb22 (c_seq ?_)
 obtain ⟨hg23, hr⟩ := gd hr
 refine c_region (lS R (lI R (t_some 1 sees_rd (show 0 < rows1.length by have := hg23; omega) (fun g24 o25 ha => ?_))))
 subst ha
 refine lO (vIa sl24 sz33 R R hg23) (lO (vz (.pointer (some ⟨g24, o25 + r20.1.toNat * 2 + 1, none⟩)) (v_fa fo33_1 R R)) (t_elem (K := kT33) 1 r20.1 dT33.dec R hg23.1 hg23.2 ?_))
 rintro ⟨⟨A26, D26⟩, ⟨A27, D27⟩⟩
 refine lN (cl g24 (o25 + r20.1.toNat * 2) [(sc A26 ((ix rows1 r20.1).Key) D26), (sc A27 ((ix rows1 r20.1).Weights) D27)] :: RR kT3 A26 D26 ((ix rows1 r20.1).Key) :: RR kT3 A27 D27 ((ix rows1 r20.1).Weights) :: _ :: W0) ?_
 refine lO (v_clf (fo := 1) 0 ag29 R R R) (lS R (l_nil (q_next (c_ret (q_blockr (q_ret ?_))))))
 obtain rfl := so hr
 obtain rfl := he1 _ R
 have hr := hk1
 refine q_ret (q_blockr (q_ret ?_))
 obtain rfl := so hr
 exact qF (A27, ((ix rows1 r20.1).Weights).length, D27) (fun w s => (s.e 6 [2]))
 refine c_false R hb22 (c_skip (q_blockn (q_next (c_region (lI R (lO (vSb R R) (lI R (l_nil ?_))))))))
 obtain rfl := so hr
 exact qA () (fun w s => (s.e 1 []))
 refine c_false R hb17 (c_exit (q_exit ?_))
 obtain rfl := so hr
 obtain rfl := he1 _ R
 have hr := hk1
 refine q_exit (q_block ?_)
 exact qI ((), ()) hr (fun w s => s)
 rintro ⟨_, _⟩ σ1 hr
 replace hr : Zu_J1 rows1 = some r := hr
 unfold Zu_J1 at hr
 refine c_seq ?_
 obtain ⟨hg29, hr⟩ := gd hr
 refine c_region (lS R (t_some 0 sees_rd (show 0 < rows1.length by have := hg29; omega) (fun g30 o31 ha => ?_)))
 subst ha
 refine lO (vIa sl24 sz33 R R hg29) (lO (vz (.pointer (some ⟨g30, o31 + (0 : Int).toNat * 2 + 1, none⟩)) (v_fa fo33_1 R R)) (t_elem (K := kT33) 0 (0 : Int) dT33.dec R hg29.1 hg29.2 ?_))
 rintro ⟨⟨A32, D32⟩, ⟨A33, D33⟩⟩
 refine lN (cl g30 (o31 + (0 : Int).toNat * 2) [(sc A32 ((ix rows1 (0 : Int)).Key) D32), (sc A33 ((ix rows1 (0 : Int)).Weights) D33)] :: RR kT3 A32 D32 ((ix rows1 (0 : Int)).Key) :: RR kT3 A33 D33 ((ix rows1 (0 : Int)).Weights) :: W0) ?_
 refine lO (v_clf (fo := 1) 0 ag29 R R R) (lS R (l_nil (q_next (c_ret ?_))))
 obtain rfl := so hr
 exact qF (A33, ((ix rows1 (0 : Int)).Weights).length, D33) (fun w s => (s.e 5 [2]))
theorem Z1i_ok  {p1 : Int} {r : Int} (hr : Z1i p1 = some r) :
 FnOk Try.prog 78 [(iv p1)] [] (fun (h : Unit) => ((iv r), [])) := by
 unfold Z1i at hr
 refine fn_ok Try.func78 R 6 R R fun C V => ?_
 refine cN V ?_
 refine c_seq (c_region (lI R (l_nil (q_next (c_seq (c_region (lI R (lI R (lO (vMu R R) (lI R (l_nil (q_next (c_ret ?_)))))))))))))
 obtain rfl := so hr
 exact qF () (fun w s => s)
theorem Z0c_ok  {list1 : (List Int)} {r : (List Int)} (hr : Z0c list1 = some r) :
 FnOk Try.prog 77 [(.slice A2 N2 D2), (.func (.func 78) [].toArray [].toArray)] [rds kT3 (.slice A2 N2 D2) list1] (fun (h : HH) => ((.slice h.1 h.2.1 h.2.2), [ow kT3 3 (.slice h.1 h.2.1 h.2.2) r])) := by
 unfold Z0c at hr
 refine fn_ok Try.func77 R 26 R R fun C V => ?_
 refine cN (_ :: V) ?_
 refine cL 0 sees_rd ?_
 rintro rfl
 let W0 : List HP := RR kT3 A2 D2 list1 :: V
 refine cN W0 ?_
 refine c_seq (c_region (lS R (l_nil (q_next (c_seq ?_)))))
 obtain ⟨hg4, hr⟩ := gd hr
 refine c_region (lS R (lO (v_len sl29 R) (l_make (K := kT3) (m := (list1.length : Int)) (z := (0 : Int)) R R sl29 sz3 by3 (Zr.zk zT3 zc3) (by decide) R R hg4.1 hg4.2.1 hg4.2.2 (fun A5 D5 => (lS R (l_nil (q_next (c_seq (c_cut (A := ((List Int)) × (Unit)) (fun a => Z0c_J1 a.1 = some r) (fun a => [(5, (sc A5 (List.replicate (list1.length : Int).toNat (0 : Int)) D5))]) (fun a => ow kT3 3 (.slice A5 (List.replicate (list1.length : Int).toNat (0 : Int)).length D5) a.1 :: W0) ?_ ?_)))))))))
 refine c_seq (c_region (lS R (lO (v_len sl29 R) (lI R (l_nil (q_next (c_block ?_)))))))
 obtain ⟨e1, hl1, hk1⟩ := bd hr
 refine c_loop (A := Unit) hl1 (fun s a => [(1, (.func (.func 78) [].toArray [].toArray)), (5, (sc A5 (List.replicate (list1.length : Int).toNat (0 : Int)) D5)), (11, (sc A2 list1 D2)), (12, (il list1)), (13, (iv s.2))]) (fun s a => ow kT3 3 (.slice A5 (List.replicate (list1.length : Int).toNat (0 : Int)).length D5) s.1 :: W0) () (aS R) (fun w s => s) ?_
 rintro ⟨x17, x18⟩ _ σ1 out1 hr he1
 replace hr : Z0c_L1 list1 x17 x18 = some out1 := hr
 unfold Z0c_L1 at hr
 refine c_seq (c_region (lO (vLt R R) (l_nil (q_next (c_seq ?_)))))
 rcases bif_ hr with ⟨hb19, hr⟩ | ⟨hb19, hr⟩
 refine c_true R hb19 (c_skip (q_next (c_seq (c_block (c_seq ?_)))))
 obtain ⟨hg20, hr⟩ := gd hr
 refine c_region (lI R (t_some 1 sees_rd (show 0 < list1.length by have := hg20; omega) (fun g21 o22 ha => ?_)))
 subst ha
 refine lO (vIa sl29 sz3 R R hg20) (lO (vLi 1 ag3 sees_rd R hg20) (lI R (lI R (l_nil (q_next ?_)))))
 obtain ⟨r23, hx24, hr⟩ := bd hr
 obtain ⟨hg25, hr⟩ := gd hr
 refine c_region (lS R (lI R (lO (vp (.func (.func 78) [].toArray [].toArray) R) (lI R (l_callvn (fs := []) (cs := []) 0 R R cb78 R R (Z1i_ok hx24) R ?_)))))
 rintro _
 refine lN (ow kT3 3 (.slice A5 (List.replicate (list1.length : Int).toNat (0 : Int)).length D5) x17 :: W0) ?_
 refine t_some 0 sees_ow (show 0 < (List.replicate (list1.length : Int).toNat (0 : Int)).length by have := hg25; omega) (fun g26 o27 ha => ?_)
 subst ha
 refine lO (vIa sl29 sz3 R R hg25) (lN (ow kT3 3 (.slice (ad g26 o27) (List.replicate (list1.length : Int).toNat (0 : Int)).length D5) x17 :: W0) ?_)
 refine l_stx (K := kT3) (x' := r23) 0 x18 R R sz3 R R hg25.1 hg25.2 ?_ ?_
 exact fun I h s => (mO3).put I h () r23 s
 refine lN (ow kT3 3 (.slice (ad g26 o27) (List.replicate (list1.length : Int).toNat (0 : Int)).length D5) (x17.set x18.toNat r23) :: W0) ?_
 refine l_nil (q_blockn (q_next (c_region (lO (vAd R R) (lI R (l_nil ?_))))))
 obtain rfl := so hr
 exact qA () (fun w s => s)
 refine c_false R hb19 (c_exit (q_exit ?_))
 obtain rfl := so hr
 obtain rfl := he1 _ R
 have hr := hk1
 refine q_exit (q_block ?_)
 exact qI (x17, ()) hr (fun w s => s)
 rintro ⟨x30, _⟩ σ1 hr
 replace hr : Z0c_J1 x30 = some r := hr
 unfold Z0c_J1 at hr
 refine c_seq (c_region (lS R (lS R (l_nil (q_next (c_ret ?_))))))
 obtain rfl := so hr
 exact qF (A5, (List.replicate (list1.length : Int).toNat (0 : Int)).length, D5) (fun w s => (s.e 2 [0]))
theorem Z1l_ok  {a1 : Int} {b2 : Int} {r : Int} (hr : Z1l a1 b2 = some r) :
 FnOk Try.prog 80 [(iv a1), (iv b2)] [] (fun (h : Unit) => ((iv r), [])) := by
 unfold Z1l at hr
 refine fn_ok Try.func80 R 8 R R fun C V => ?_
 refine cN V ?_
 refine c_seq (c_region (lI R (l_nil (q_next (c_seq ?_)))))
 obtain ⟨r3, hx4, hr⟩ := bd hr
 refine c_region (lI R (lI R (lC 0 cb75 R (Z0p_ok hx4) R ?_)))
 rintro _
 refine lI R (l_nil (q_next (c_ret ?_)))
 obtain rfl := so hr
 exact qF () (fun w s => s)
theorem Z0j_ok  {i1 : Int} {j2 : Int} {p5 : (List Int)} {b4 : Nat} {b6 : Nat} {r : Int} (hr : Z0j i1 j2 p5 = some r) :
 FnOk Try.prog 90 [(iv i1), (iv j2), (pt b4 0), (pt b6 0)] [bxl b4 [(.func (.func 80) [].toArray [].toArray)] 97, rds kT3 (.slice A7 N7 D7) p5, bxl b6 [(.slice A7 N7 D7)] 29] (fun (h : Unit) => ((iv r), [bxl b4 [(.func (.func 80) [].toArray [].toArray)] 97, bxl b6 [(.slice A7 N7 D7)] 29])) := by
 unfold Z0j at hr
 refine fn_ok Try.func90 R 17 R R fun C V => ?_
 refine cM (bxl _ _ _ :: bxl _ _ _ :: rds _ _ _ :: V) (fun w s => (s.e 3 [0, 2, 1])) ?_
 refine cL 2 sees_rd ?_
 rintro rfl
 let W0 : List HP := RR kT3 A7 D7 p5 :: V
 refine cN (_ :: bxl b6 [(sc A7 p5 D7)] 29 :: W0) ?_
 refine c_seq (c_region (lI R (l_nil ?_)))
 let W1 : List HP := bxl b4 [(.func (.func 80) [].toArray [].toArray)] 97 :: bxl b6 [(sc A7 p5 D7)] 29 :: W0
 refine qN W1 ?_
 refine q_next (c_seq ?_)
 obtain ⟨hg8, hr⟩ := gd hr
 obtain ⟨hg11, hr⟩ := gd hr
 obtain ⟨r12, hx13, hr⟩ := bd hr
 refine c_some 2 sees_rd (show 0 < p5.length by have := hg8; omega) (fun g9 o10 ha => ?_)
 subst ha
 refine cdr 11 [] mixo (fun ht hn => (dR 0 R (vLd 0 ag97 R R R) (dR 1 R (vLd 1 ag29 R R R) (dR 2 R (vI R) (dR 3 R (vIa sl29 sz3 R R hg8) (dR 4 R (vLi 2 ag3 sees_rd R hg8) (dR 5 R (vLd 1 ag29 R R R) (dR 6 R (vI R) (dR 7 R (vIa sl29 sz3 R R hg11) (dR 8 R (vLi 2 ag3 sees_rd R hg11) (d1 9 R (l_callvn (fs := []) (cs := []) 0 R R cb80 R R (Z1l_ok hx13) R ?_))))))))))))
 rintro _
 refine l_nil (q_draw (sL []) (dR 10 R (vI R) (dD (q_next (c_ret ?_)))))
 obtain rfl := so hr
 exact qF () (fun w s => (s.e 3 [0, 1]))
theorem Z0a_ok  {data1 : (List Int)} {a3 : Int} {b4 : Int} {q8 : (List Int)} {b7 : Nat} {b9 : Nat} {r : (List Int)} (hr : Z0a data1 a3 b4 q8 = some r) :
 FnOk Try.prog 107 [(.slice A2 N2 D2), (iv a3), (iv b4), (.func (.func 90) [].toArray [(pt b7 0), (pt b9 0)].toArray)] [ow (kT3).share 3 (.slice A2 N2 D2) data1, bxl b7 [(.func (.func 80) [].toArray [].toArray)] 97, rds kT3 (.slice A10 N10 D10) q8, bxl b9 [(.slice A10 N10 D10)] 29] (fun (h : Unit) => ((.tuple [].toArray), [ow (kT3).share 3 (.slice A2 N2 D2) r, bxl b7 [(.func (.func 80) [].toArray [].toArray)] 97, bxl b9 [(.slice A10 N10 D10)] 29])) := by
 unfold Z0a at hr
 refine fn_ok Try.func107 R 53 R R fun C V => ?_
 refine cM (ow _ _ _ _ :: bxl _ _ _ :: bxl _ _ _ :: rds _ _ _ :: V) (fun w s => (s.e 4 [0, 1, 3, 2])) ?_
 refine cL 0 sees_sh ?_
 rintro rfl
 refine cL 3 sees_rd ?_
 rintro rfl
 let W0 : List HP := RR kT3 A10 D10 q8 :: V
 refine cN (_ :: _ :: bxl b9 [(sc A10 q8 D10)] 29 :: W0) ?_
 refine c_seq (c_region (lI R (lO (vAd R R) (lI R (l_nil (q_next (c_block ?_)))))))
 obtain ⟨e1, hl1, hk1⟩ := bd hr
 refine c_loop (A := Unit) hl1 (fun s a => [(0, (sc A2 data1 D2)), (1, (iv a3)), (2, (iv b4)), (3, (.func (.func 90) [].toArray [(pt b7 0), (pt b9 0)].toArray)), (8, (iv s.2))]) (fun s a => ow (kT3).share 3 (.slice A2 data1.length D2) s.1 :: bxl b7 [(.func (.func 80) [].toArray [].toArray)] 97 :: bxl b9 [(sc A10 q8 D10)] 29 :: W0) () (aS R) (fun w s => s) ?_
 rintro ⟨data45, i46⟩ _ σ1 out1 hr he1
 replace hr : Z0a_L1 data1 a3 b4 q8 data45 i46 = some out1 := hr
 unfold Z0a_L1 at hr
 refine c_seq (c_seq (c_region (lI R (lI R (lO (vLt R R) (l_nil (q_next ?_)))))))
 rcases bif_ hr with ⟨hb47, hr⟩ | ⟨hb47, hr⟩
 refine c_true R hb47 (c_skip (q_next (c_seq (c_cut (A := ((List Int)) × (Unit)) (fun a => Z0a_J2 i46 a.1 = some out1) (fun a => [(0, (sc A2 data1 D2)), (1, (iv a3)), (2, (iv b4)), (3, (.func (.func 90) [].toArray [(pt b7 0), (pt b9 0)].toArray)), (8, (iv i46))]) (fun a => ow (kT3).share 3 (.slice A2 data1.length D2) a.1 :: bxl b7 [(.func (.func 80) [].toArray [].toArray)] 97 :: bxl b9 [(sc A10 q8 D10)] 29 :: W0) ?_ ?_))))
 refine c_block (c_seq (c_region (lI R (lI R (l_nil (q_next (c_block ?_)))))))
 obtain ⟨e2, hl2, hk2⟩ := bd hr
 refine c_loop (A := Unit) hl2 (fun s a => [(0, (sc A2 data1 D2)), (1, (iv a3)), (2, (iv b4)), (3, (.func (.func 90) [].toArray [(pt b7 0), (pt b9 0)].toArray)), (8, (iv i46)), (9, (iv s.2))]) (fun s a => ow (kT3).share 3 (.slice A2 data1.length D2) s.1 :: bxl b7 [(.func (.func 80) [].toArray [].toArray)] 97 :: bxl b9 [(sc A10 q8 D10)] 29 :: W0) () (aS R) (fun w s => s) ?_
 rintro ⟨data62, j63⟩ _ σ1 out2 hr he2
 replace hr : Z0a_L2 data1 a3 q8 data62 j63 = some out2 := hr
 unfold Z0a_L2 at hr
 refine c_seq (c_seq ?_)
 obtain ⟨hg64, hr⟩ := gd hr
 obtain ⟨hg67, hr⟩ := gd hr
 obtain ⟨r68, hx69, hr⟩ := bd hr
 refine cQ [(0, (sc A2 data1 D2)), (1, (iv a3)), (2, (iv b4)), (3, (.func (.func 90) [].toArray [(pt b7 0), (pt b9 0)].toArray)), (8, (iv i46)), (9, (iv j63)), (34, (.bool ((decide (j63 > a3)) && (decide (r68 < (0 : Int))))))] (ow (kT3).share 3 (.slice A2 data1.length D2) data62 :: bxl b7 [(.func (.func 80) [].toArray [].toArray)] 97 :: bxl b9 [(sc A10 q8 D10)] 29 :: W0) ?_ ?_
 rcases bo (decide (j63 > a3)) with hc70 | hc70
 refine c_some 0 sees_sh (show 0 < data1.length by have := (hg64 hc70); omega) (fun g65 o66 ha => ?_)
 subst ha
 refine cdr 17 [] mixo (fun ht hn => (dR 0 R (vI R) (dR 1 R (vI R) (dR 2 R (vGt R R) (dR 3 R (vB R) (dW 4 R (wnT hc70) (vp (.func (.func 90) [].toArray [(pt b7 0), (pt b9 0)].toArray) R) (dW 5 R (wnT hc70) (vS R) (dW 6 R (wnT hc70) (vI R) (dW 7 R (wnT hc70) (vIa sl29 sz3 R R (hg64 hc70)) (dW 8 R (wnT hc70) (vLi 0 ag3 sees_sh R (hg64 hc70)) (dW 9 R (wnT hc70) (vS R) (dW 10 R (wnT hc70) (vI R) (dW 11 R (wnT hc70) (vSb R R) (dW 12 R (wnT hc70) (vIa sl29 sz3 R R (hg67 hc70)) (dW 13 R (wnT hc70) (vLi 0 ag3 sees_sh R (hg67 hc70)) (d1 14 R (lM (bxl _ _ _ :: RR kT3 A10 D10 q8 :: bxl _ _ _ :: ow (kT3).share 3 (.slice (ad g65 o66) data1.length D2) data62 :: W0) (fun w s => ((s.d 3 R).e 4 [2, 0, 3, 1])) ?_)))))))))))))))))
 refine l_callvn (fs := []) (cs := [(pt b7 0), (pt b9 0)]) 3 R (wnT hc70) cb90 R R (Z0j_ok (gcall_t hx69 hc70)) R ?_
 rintro _
 refine lN (_ :: _ :: _ :: W0) ?_
 refine l_nil (q_draw (fun w s => (s.e 3 [2, 0, 1])) (dW 15 R (wnT hc70) (vLt R R) (hS := (fun w s => (s.e 3 [2, 0, 1]))) (dR 16 R (pAT R hc70 R) (hS := (fun w s => (s.e 3 [2, 0, 1]))) (dD ?_))))
 exact qJ (fun w s => (s.e 3 [2, 0, 1]))
 refine cdr 17 [] mixo (fun ht hn => (dR 0 R (vI R) (dR 1 R (vI R) (dR 2 R (vGt R R) (dR 3 R (vB R) (dF 4 R (wfF hc70) (dF 5 R (wfF hc70) (dF 6 R (wfF hc70) (dF 7 R (wfF hc70) (dF 8 R (wfF hc70) (dF 9 R (wfF hc70) (dF 10 R (wfF hc70) (dF 11 R (wfF hc70) (dF 12 R (wfF hc70) (dF 13 R (wfF hc70) (dF 14 R (wfF hc70) (dF 15 R (wfF hc70) (dR 16 R (pAF (decide (r68 < (0 : Int))) R hc70) (dD ?_)))))))))))))))))))
 exact qJ (fun w s => s)
 rintro σ1
 refine q_next ?_
 rcases bif_ hr with ⟨hb71, hr⟩ | ⟨hb71, hr⟩
 refine c_true R hb71 (c_skip (q_next (c_seq (c_block ?_))))
 obtain ⟨hg72, hr⟩ := gd hr
 obtain ⟨hg75, hr⟩ := gd hr
 refine cQ [(0, (sc A2 data1 D2)), (1, (iv a3)), (2, (iv b4)), (3, (.func (.func 90) [].toArray [(pt b7 0), (pt b9 0)].toArray)), (8, (iv i46)), (9, (iv j63))] (ow (kT3).share 3 (.slice A2 data1.length D2) ((data62.set j63.toNat (ix data62 (w64 (j63 - (1 : Int))))).set (w64 (j63 - (1 : Int))).toNat (ix data62 j63)) :: bxl b7 [(.func (.func 80) [].toArray [].toArray)] 97 :: bxl b9 [(sc A10 q8 D10)] 29 :: W0) ?_ ?_
 refine c_some 0 sees_sh (show 0 < data1.length by have := hg72; omega) (fun g73 o74 ha => ?_)
 subst ha
 refine cdr 18 [0] mixo (fun ht hn => (dR 0 R (vS R) (hS := (sL [0])) (dR 1 R (vI R) (hS := (sL [0])) (dR 2 R (vS R) (hS := (sL [0])) (dR 3 R (vI R) (hS := (sL [0])) (dR 4 R (vSb R R) (hS := (sL [0])) (dR 5 R (vS R) (hS := (sL [0])) (dR 6 R (vI R) (hS := (sL [0])) (dR 7 R (vSb R R) (hS := (sL [0])) (dR 8 R (vIa sl29 sz3 R R hg72) (hS := (sL [0])) (dR 10 R (vS R) (hS := (sL [0])) (dR 11 R (vI R) (hS := (sL [0])) (dR 12 R (vIa sl29 sz3 R R hg75) (hS := (sL [0])) (d_all [9, 13] (by kernel_rfl) R ⟨?_, ?_, trivial⟩))))))))))))))
 refine lO (vLi 0 ag3 sees_sh R hg72) (l_nil (q_draw (sL [0]) (d1 13 R (lO (vLi 0 ag3 sees_sh R hg75) (l_nil (q_draw (sL [0]) (dR 14 R (vIa sl29 sz3 R R hg75) (hS := (sL [0])) (d1 15 R (lN (ow (kT3).share 3 (.slice (ad g73 o74) data1.length D2) data62 :: _ :: _ :: W0) ?_)))))))))
 refine l_stx (K := (kT3).share) (x' := (ix data62 (w64 (j63 - (1 : Int))))) 0 j63 R R sz3 R R hg75.1 hg75.2 ?_ ?_
 exact fun I h s => (mS3).put I h () (ix data62 (w64 (j63 - (1 : Int)))) s
 refine lN (ow (kT3).share 3 (.slice (ad g73 o74) data1.length D2) (data62.set j63.toNat (ix data62 (w64 (j63 - (1 : Int))))) :: _ :: _ :: W0) ?_
 refine l_nil (q_draw (sL [0]) (dR 16 R (vIa sl29 sz3 R R hg72) (hS := (sL [0])) (d1 17 R (l_stx (K := (kT3).share) (x' := (ix data62 j63)) 0 (w64 (j63 - (1 : Int))) R R sz3 R R hg72.1 hg72.2 ?_ ?_))))
 exact fun I h s => (mS3).put I h () (ix data62 j63) s
 refine lN (ow (kT3).share 3 (.slice (ad g73 o74) data1.length D2) ((data62.set j63.toNat (ix data62 (w64 (j63 - (1 : Int))))).set (w64 (j63 - (1 : Int))).toNat (ix data62 j63)) :: _ :: _ :: W0) ?_
 refine l_nil (q_draw (sL [0]) (dD ?_))
 exact qJ (fun w s => s)
 refine lO (vLi 0 ag3 sees_sh R hg75) (l_nil (q_draw (sL [0]) (d1 9 R (lO (vLi 0 ag3 sees_sh R hg72) (l_nil (q_draw (sL [0]) (dR 14 R (vIa sl29 sz3 R R hg75) (hS := (sL [0])) (d1 15 R (lN (ow (kT3).share 3 (.slice (ad g73 o74) data1.length D2) data62 :: _ :: _ :: W0) ?_)))))))))
 refine l_stx (K := (kT3).share) (x' := (ix data62 (w64 (j63 - (1 : Int))))) 0 j63 R R sz3 R R hg75.1 hg75.2 ?_ ?_
 exact fun I h s => (mS3).put I h () (ix data62 (w64 (j63 - (1 : Int)))) s
 refine lN (ow (kT3).share 3 (.slice (ad g73 o74) data1.length D2) (data62.set j63.toNat (ix data62 (w64 (j63 - (1 : Int))))) :: _ :: _ :: W0) ?_
 refine l_nil (q_draw (sL [0]) (dR 16 R (vIa sl29 sz3 R R hg72) (hS := (sL [0])) (d1 17 R (l_stx (K := (kT3).share) (x' := (ix data62 j63)) 0 (w64 (j63 - (1 : Int))) R R sz3 R R hg72.1 hg72.2 ?_ ?_))))
 exact fun I h s => (mS3).put I h () (ix data62 j63) s
 refine lN (ow (kT3).share 3 (.slice (ad g73 o74) data1.length D2) ((data62.set j63.toNat (ix data62 (w64 (j63 - (1 : Int))))).set (w64 (j63 - (1 : Int))).toNat (ix data62 j63)) :: _ :: _ :: W0) ?_
 refine l_nil (q_draw (sL [0]) (dD ?_))
 exact qJ (fun w s => s)
 rintro σ1
 obtain ⟨l76, hl77, hr⟩ := bd hr
 replace hl77 := Option.some.inj hl77
 refine qM (ow (kT3).share 3 (.slice A2 data1.length D2) l76 :: _ :: _ :: W0) (fun w s => by rw [← hl77]; exact s) ?_
 refine q_blockn (q_next (c_region (lI R (lO (vSb R R) (lI R (l_nil ?_))))))
 obtain rfl := so hr
 exact qA () (fun w s => s)
 refine c_false R hb71 (c_exit (q_exit ?_))
 obtain rfl := so hr
 obtain rfl := he2 _ R
 have hr := hk2
 refine q_exit (q_block (q_blockn ?_))
 exact qI (data62, ()) hr (fun w s => s)
 rintro ⟨data80, _⟩ σ1 hr
 replace hr : Z0a_J2 i46 data80 = some out1 := hr
 unfold Z0a_J2 at hr
 refine c_region (lI R (lO (vAd R R) (lI R (l_nil ?_))))
 obtain rfl := so hr
 exact qA () (fun w s => s)
 refine c_false R hb47 (c_exit (q_exit ?_))
 obtain rfl := so hr
 obtain rfl := he1 _ R
 have hr := hk1
 refine q_exit (q_block ?_)
 obtain rfl := so hr
 exact q_fin (vs := []) (.inr R) () R trivial R (fun w s => (s.f 4 [0, 3]))
theorem Z0n_ok  {data1 : (List Int)} {a3 : Int} {b4 : Int} {n5 : Int} {q9 : (List Int)} {b8 : Nat} {b10 : Nat} {r : (List Int)} (hr : Z0n data1 a3 b4 n5 q9 = some r) :
 FnOk Try.prog 111 [(.slice A2 N2 D2), (iv a3), (iv b4), (iv n5), (.func (.func 90) [].toArray [(pt b8 0), (pt b10 0)].toArray)] [ow (kT3).share 3 (.slice A2 N2 D2) data1, bxl b8 [(.func (.func 80) [].toArray [].toArray)] 97, rds kT3 (.slice A11 N11 D11) q9, bxl b10 [(.slice A11 N11 D11)] 29] (fun (h : Unit) => ((.tuple [].toArray), [ow (kT3).share 3 (.slice A2 N2 D2) r, bxl b8 [(.func (.func 80) [].toArray [].toArray)] 97, bxl b10 [(.slice A11 N11 D11)] 29])) := by
 unfold Z0n at hr
 refine fn_ok Try.func111 R 38 R R fun C V => ?_
 refine cM (ow _ _ _ _ :: bxl _ _ _ :: bxl _ _ _ :: rds _ _ _ :: V) (fun w s => (s.e 4 [0, 1, 3, 2])) ?_
 refine cL 0 sees_sh ?_
 rintro rfl
 refine cL 3 sees_rd ?_
 rintro rfl
 let W0 : List HP := RR kT3 A11 D11 q9 :: V
 refine cN (_ :: _ :: bxl b10 [(sc A11 q9 D11)] 29 :: W0) ?_
 refine c_seq (c_region (lI R (l_nil ?_)))
 let W1 : List HP := bxl b8 [(.func (.func 80) [].toArray [].toArray)] 97 :: bxl b10 [(sc A11 q9 D11)] 29 :: W0
 refine qN (_ :: W1) ?_
 refine q_next (c_block ?_)
 obtain ⟨e1, hl1, hk1⟩ := bd hr
 refine c_loop (A := Unit) hl1 (fun s a => [(0, (sc A2 data1 D2)), (1, (iv a3)), (2, (iv b4)), (3, (iv n5)), (10, (iv s.2))]) (fun s a => ow (kT3).share 3 (.slice A2 data1.length D2) s.1 :: W1) () (aS R) (fun w s => s) ?_
 rintro ⟨data19, i20⟩ _ σ1 out1 hr he1
 replace hr : Z0n_L1 data1 a3 b4 n5 data19 i20 = some out1 := hr
 unfold Z0n_L1 at hr
 refine c_seq (c_seq (c_region (lI R (lI R (lO (vLt R R) (l_nil (q_next ?_)))))))
 rcases bif_ hr with ⟨hb21, hr⟩ | ⟨hb21, hr⟩
 refine c_true R hb21 (c_skip (q_next (c_seq (c_block ?_))))
 obtain ⟨hg22, hr⟩ := gd hr
 obtain ⟨hg25, hr⟩ := gd hr
 refine cQ [(0, (sc A2 data1 D2)), (1, (iv a3)), (2, (iv b4)), (3, (iv n5)), (10, (iv i20))] (ow (kT3).share 3 (.slice A2 data1.length D2) ((data19.set (w64 (a3 + i20)).toNat (ix data19 (w64 (b4 + i20)))).set (w64 (b4 + i20)).toNat (ix data19 (w64 (a3 + i20)))) :: W1) ?_ ?_
 refine c_some 0 sees_sh (show 0 < data1.length by have := hg22; omega) (fun g23 o24 ha => ?_)
 subst ha
 refine cdr 24 [0] mixo (fun ht hn => (dR 0 R (vS R) (hS := (sL [0])) (dR 1 R (vI R) (hS := (sL [0])) (dR 2 R (vI R) (hS := (sL [0])) (dR 3 R (vAd R R) (hS := (sL [0])) (dR 4 R (vS R) (hS := (sL [0])) (dR 5 R (vI R) (hS := (sL [0])) (dR 6 R (vI R) (hS := (sL [0])) (dR 7 R (vAd R R) (hS := (sL [0])) (dR 8 R (vS R) (hS := (sL [0])) (dR 9 R (vI R) (hS := (sL [0])) (dR 10 R (vI R) (hS := (sL [0])) (dR 11 R (vAd R R) (hS := (sL [0])) (dR 12 R (vIa sl29 sz3 R R hg22) (hS := (sL [0])) (dR 14 R (vS R) (hS := (sL [0])) (dR 15 R (vI R) (hS := (sL [0])) (dR 16 R (vI R) (hS := (sL [0])) (dR 17 R (vAd R R) (hS := (sL [0])) (dR 18 R (vIa sl29 sz3 R R hg25) (hS := (sL [0])) (d_all [13, 19] (by kernel_rfl) R ⟨?_, ?_, trivial⟩))))))))))))))))))))
 refine lO (vLi 0 ag3 sees_sh R hg22) (l_nil (q_draw (sL [0]) (d1 19 R (lO (vLi 0 ag3 sees_sh R hg25) (l_nil (q_draw (sL [0]) (dR 20 R (vIa sl29 sz3 R R hg25) (hS := (sL [0])) (d1 21 R (lN (ow (kT3).share 3 (.slice (ad g23 o24) data1.length D2) data19 :: W1) ?_)))))))))
 refine l_stx (K := (kT3).share) (x' := (ix data19 (w64 (b4 + i20)))) 0 (w64 (a3 + i20)) R R sz3 R R hg25.1 hg25.2 ?_ ?_
 exact fun I h s => (mS3).put I h () (ix data19 (w64 (b4 + i20))) s
 refine lN (ow (kT3).share 3 (.slice (ad g23 o24) data1.length D2) (data19.set (w64 (a3 + i20)).toNat (ix data19 (w64 (b4 + i20)))) :: W1) ?_
 refine l_nil (q_draw (sL [0]) (dR 22 R (vIa sl29 sz3 R R hg22) (hS := (sL [0])) (d1 23 R (l_stx (K := (kT3).share) (x' := (ix data19 (w64 (a3 + i20)))) 0 (w64 (b4 + i20)) R R sz3 R R hg22.1 hg22.2 ?_ ?_))))
 exact fun I h s => (mS3).put I h () (ix data19 (w64 (a3 + i20))) s
 refine lN (ow (kT3).share 3 (.slice (ad g23 o24) data1.length D2) ((data19.set (w64 (a3 + i20)).toNat (ix data19 (w64 (b4 + i20)))).set (w64 (b4 + i20)).toNat (ix data19 (w64 (a3 + i20)))) :: W1) ?_
 refine l_nil (q_draw (sL [0]) (dD ?_))
 exact qJ (fun w s => s)
 refine lO (vLi 0 ag3 sees_sh R hg25) (l_nil (q_draw (sL [0]) (d1 13 R (lO (vLi 0 ag3 sees_sh R hg22) (l_nil (q_draw (sL [0]) (dR 20 R (vIa sl29 sz3 R R hg25) (hS := (sL [0])) (d1 21 R (lN (ow (kT3).share 3 (.slice (ad g23 o24) data1.length D2) data19 :: W1) ?_)))))))))
 refine l_stx (K := (kT3).share) (x' := (ix data19 (w64 (b4 + i20)))) 0 (w64 (a3 + i20)) R R sz3 R R hg25.1 hg25.2 ?_ ?_
 exact fun I h s => (mS3).put I h () (ix data19 (w64 (b4 + i20))) s
 refine lN (ow (kT3).share 3 (.slice (ad g23 o24) data1.length D2) (data19.set (w64 (a3 + i20)).toNat (ix data19 (w64 (b4 + i20)))) :: W1) ?_
 refine l_nil (q_draw (sL [0]) (dR 22 R (vIa sl29 sz3 R R hg22) (hS := (sL [0])) (d1 23 R (l_stx (K := (kT3).share) (x' := (ix data19 (w64 (a3 + i20)))) 0 (w64 (b4 + i20)) R R sz3 R R hg22.1 hg22.2 ?_ ?_))))
 exact fun I h s => (mS3).put I h () (ix data19 (w64 (a3 + i20))) s
 refine lN (ow (kT3).share 3 (.slice (ad g23 o24) data1.length D2) ((data19.set (w64 (a3 + i20)).toNat (ix data19 (w64 (b4 + i20)))).set (w64 (b4 + i20)).toNat (ix data19 (w64 (a3 + i20)))) :: W1) ?_
 refine l_nil (q_draw (sL [0]) (dD ?_))
 exact qJ (fun w s => s)
 rintro σ1
 obtain ⟨l26, hl27, hr⟩ := bd hr
 replace hl27 := Option.some.inj hl27
 refine qM (ow (kT3).share 3 (.slice A2 data1.length D2) l26 :: W1) (fun w s => by rw [← hl27]; exact s) ?_
 refine q_blockn (q_next (c_region (lI R (lO (vAd R R) (lI R (l_nil ?_))))))
 obtain rfl := so hr
 exact qA () (fun w s => s)
 refine c_false R hb21 (c_exit (q_exit ?_))
 obtain rfl := so hr
 obtain rfl := he1 _ R
 have hr := hk1
 refine q_exit (q_block ?_)
 obtain rfl := so hr
 exact q_fin (vs := []) (.inr R) () R trivial R (fun w s => (s.f 4 [0, 3]))
theorem Z0k_ok  {data1 : (List Int)} {a3 : Int} {m4 : Int} {b5 : Int} {q9 : (List Int)} {b8 : Nat} {b10 : Nat} {r : (List Int)} (hr : Z0k data1 a3 m4 b5 q9 = some r) :
 FnOk Try.prog 110 [(.slice A2 N2 D2), (iv a3), (iv m4), (iv b5), (.func (.func 90) [].toArray [(pt b8 0), (pt b10 0)].toArray)] [ow (kT3).share 3 (.slice A2 N2 D2) data1, bxl b8 [(.func (.func 80) [].toArray [].toArray)] 97, rds kT3 (.slice A11 N11 D11) q9, bxl b10 [(.slice A11 N11 D11)] 29] (fun (h : Unit) => ((.tuple [].toArray), [ow (kT3).share 3 (.slice A2 N2 D2) r, bxl b8 [(.func (.func 80) [].toArray [].toArray)] 97, bxl b10 [(.slice A11 N11 D11)] 29])) := by
 unfold Z0k at hr
 refine fn_ok Try.func110 R 58 R R fun C V => ?_
 refine cM (ow _ _ _ _ :: bxl _ _ _ :: bxl _ _ _ :: rds _ _ _ :: V) (fun w s => (s.e 4 [0, 1, 3, 2])) ?_
 refine cL 0 sees_sh ?_
 rintro rfl
 refine cL 3 sees_rd ?_
 rintro rfl
 let W0 : List HP := RR kT3 A11 D11 q9 :: V
 refine cN (_ :: _ :: bxl b10 [(sc A11 q9 D11)] 29 :: W0) ?_
 refine c_seq (c_region (lI R (lI R (lO (vSb R R) (lI R (l_nil (q_next (c_seq (c_region (lI R (lI R (lO (vSb R R) (lI R (l_nil (q_next (c_seq (c_cut (A := ((List Int) × Int) × (Unit)) (fun a => Z0k_J1 m4 q9 a.1.1 a.1.2 = some r) (fun a => [(0, (sc A2 data1 D2)), (2, (iv m4)), (4, (.func (.func 90) [].toArray [(pt b8 0), (pt b10 0)].toArray)), (10, (iv a.1.2))]) (fun a => ow (kT3).share 3 (.slice A2 data1.length D2) a.1.1 :: bxl b8 [(.func (.func 80) [].toArray [].toArray)] 97 :: bxl b10 [(sc A11 q9 D11)] 29 :: W0) ?_ ?_)))))))))))))))))
 refine c_block ?_
 obtain ⟨e1, hl1, hk1⟩ := bd hr
 refine c_loop (A := Unit) hl1 (fun s a => [(0, (sc A2 data1 D2)), (2, (iv m4)), (4, (.func (.func 90) [].toArray [(pt b8 0), (pt b10 0)].toArray)), (10, (iv s.2.1)), (11, (iv s.2.2))]) (fun s a => ow (kT3).share 3 (.slice A2 data1.length D2) s.1 :: bxl b8 [(.func (.func 80) [].toArray [].toArray)] 97 :: bxl b10 [(sc A11 q9 D11)] 29 :: W0) () (aS R) (fun w s => s) ?_
 rintro ⟨data18, i19, j20⟩ _ σ1 out1 hr he1
 replace hr : Z0k_L1 m4 q9 data18 i19 j20 = some out1 := hr
 unfold Z0k_L1 at hr
 refine c_seq (c_seq (c_region (lI R (lI R (lO (vNe R R) (l_nil (q_next ?_)))))))
 rcases bif_ hr with ⟨hb21, hr⟩ | ⟨hb21, hr⟩
 refine c_true R hb21 (c_skip (q_next (c_block (c_seq (c_region (lI R (lI R (lO (vGt R R) (l_nil (q_next ?_))))))))))
 rcases bif_ hr with ⟨hb22, hr⟩ | ⟨hb22, hr⟩
 refine c_true R hb22 (c_seq ?_)
 obtain ⟨r23, hx24, hr⟩ := bd hr
 refine c_region (lS R (lI R (lI R (lO (vSb R R) (lI R (lI R (lO (vp (.func (.func 90) [].toArray [(pt b8 0), (pt b10 0)].toArray) R) (lM (ow (kT3).share 3 (.slice A2 data1.length D2) data18 :: bxl _ _ _ :: RR kT3 A11 D11 q9 :: bxl _ _ _ :: W0) (fun w s => ((s.d 3 R).e 4 [1, 2, 0, 3])) ?_))))))))
 refine lC 4 cb111 R (Z0n_ok hx24) R ?_
 rintro _
 refine lN (ow (kT3).share 3 (.slice A2 data1.length D2) r23 :: _ :: _ :: W0) ?_
 refine l_nil (q_next (c_region (lI R (lI R (lO (vSb R R) (lI R (l_nil (q_blockn ?_))))))))
 obtain rfl := so hr
 exact qA () (fun w s => s)
 refine c_false R hb22 (c_seq ?_)
 obtain ⟨r25, hx26, hr⟩ := bd hr
 refine c_region (lS R (lI R (lI R (lO (vSb R R) (lI R (lI R (lO (vAd R R) (lI R (lO (vSb R R) (lI R (lO (vp (.func (.func 90) [].toArray [(pt b8 0), (pt b10 0)].toArray) R) (lM (ow (kT3).share 3 (.slice A2 data1.length D2) data18 :: bxl _ _ _ :: RR kT3 A11 D11 q9 :: bxl _ _ _ :: W0) (fun w s => ((s.d 3 R).e 4 [1, 2, 0, 3])) ?_))))))))))))
 refine lC 4 cb111 R (Z0n_ok hx26) R ?_
 rintro _
 refine lN (ow (kT3).share 3 (.slice A2 data1.length D2) r25 :: _ :: _ :: W0) ?_
 refine l_nil (q_next (c_region (lI R (lI R (lO (vSb R R) (lI R (l_nil (q_blockn ?_))))))))
 obtain rfl := so hr
 exact qA () (fun w s => s)
 refine c_false R hb21 (c_exit (q_exit ?_))
 obtain rfl := so hr
 obtain rfl := he1 _ R
 have hr := hk1
 refine q_exit (q_block ?_)
 exact qI ((data18, i19), ()) hr (fun w s => s)
 rintro ⟨⟨data30, i31⟩, _⟩ σ1 hr
 replace hr : Z0k_J1 m4 q9 data30 i31 = some r := hr
 unfold Z0k_J1 at hr
 obtain ⟨r32, hx33, hr⟩ := bd hr
 refine c_region (lS R (lI R (lI R (lO (vSb R R) (lI R (lI R (lO (vp (.func (.func 90) [].toArray [(pt b8 0), (pt b10 0)].toArray) R) (lM (ow (kT3).share 3 (.slice A2 data1.length D2) data30 :: bxl _ _ _ :: RR kT3 A11 D11 q9 :: bxl _ _ _ :: W0) (fun w s => ((s.d 3 R).e 4 [1, 2, 0, 3])) ?_))))))))
 refine lC 4 cb111 R (Z0n_ok hx33) R ?_
 rintro _
 refine lN (ow (kT3).share 3 (.slice A2 data1.length D2) r32 :: _ :: _ :: W0) ?_
 refine l_nil ?_
 obtain rfl := so hr
 exact q_fin (vs := []) (.inr R) () R trivial R (fun w s => (s.f 4 [0, 3]))
end Go.Proofs.Ytkfgngcfcoplpaa
