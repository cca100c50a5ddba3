import Derived.Test.YthfhllekobdelaaGreatDoorCvF
set_option linter.unusedVariables false
set_option maxRecDepth 20000
namespace Go.Proofs.YthfhllekobdelaaGreatDoor
open Go Go.Pg
variable {A2 A3 A4 A5 A6 : Option Addr} {D2 D3 D4 D5 D6 N2 N3 N4 N5 N6 : Nat}
theorem Z0h_ok  {g : (List Int)} {r : l1Cur} (m : Z0h g = some r) :
 FnOk Tryz.prog 31 [(.slice A2 N2 D2)] [aQ eC (.slice A2 N2 D2) g] (fun (h : HH × Nat) => ((pt h.2 0), [aQ eC (.slice h.1.1 h.1.2.1 h.1.2.2) r.b, aK h.2 [(.slice h.1.1 h.1.2.1 h.1.2.2), (iv r.i), (iv r.h_)] 145])) := by
 unfold Z0h at m
 refine bN Tryz.func31 R 32 R R fun C V => ?_
 refine cN (_ :: V) ?_
 refine cL 0 aE ?_
 rintro rfl
 let G : List HP := RR eC A2 D2 g :: V
 refine cN G ?_
 refine aD (aA (lO (vp (.pointer none) R) (aC (aB (aD (aA (lS R (lO (bR o9 R) (lO (cX R R) (lI R (aC (aB (aD (bS (A := (Int) × (Unit)) (fun a => Z0h_J1 g a.1 = some r) (fun a => [(0, (sc A2 g D2)), (3, (iv a.1))]) (fun a => G) ?_ ?_))))))))))))))
 refine aD (aA (lI R (aC (aB (aM ?_)))))
 obtain ⟨e1, T, M⟩ := bd m
 refine bQ (A := Unit) T (fun s a => [(0, (sc A2 g D2)), (3, (iv s.1)), (4, (iv s.2))]) (fun s a => G) () (aS R) (fun w s => s) ?_
 rintro ⟨I, D⟩ _ σ1 E m L
 replace m : Z0h_L1 g I D = some E := m
 unfold Z0h_L1 at m
 refine aD (aD (cQ [(0, (sc A2 g D2)), (3, (iv I)), (4, (iv D)), (15, (.bool ((decide (D < (g.length : Int))) && (decide (D < (4000 : Int))))))] (G) ?_ ?_))
 refine aA (lI R (lS R (lO (bR o9 R) (lO (dQ R R) (lB R ?_)))))
 rcases bo (decide (D < (g.length : Int))) with j | j
 refine lW (eB j) (vI R) (lW (eB j) (dQ R R) (lO (kx R j R) (aC ?_)))
 exact qJ (fun w s => s)
 refine lf (dV j) (lf (dV j) (lO (kn (decide (D < (4000 : Int))) R j) (aC ?_)))
 exact qJ (fun w s => s)
 rintro σ1
 refine aB ?_
 rcases bG m with ⟨u, m⟩ | ⟨u, m⟩
 refine aL R u (aN (aB (aD (aM ?_))))
 obtain ⟨q, m⟩ := gd m
 refine aA (lI R (lO (f9 R R) (lS R (lI R (bY 0 aE (show 0 < g.length by have := q; omega) (fun U o14 ha => ?_))))))
 subst ha
 refine lO (cK o9 xV R R q) (lO (vz (.int .u8 (ix g D)) (gi (K := eC) (fo := 0) (pr := fun x => (.int .u8 x)) 0 D xW (dT5.leaf fun _ _ => R) aE R q.1 q.2)) (lO (vz (iv (aG ((ix g D)))) (mu wY xX R)) (lO (cX R R) (lO (cX R R) (lO (vp (iv (bits .and .i64 (aG ((aG ((aG (I * (131 : Int))) + (aG ((ix g D))))) + (7 : Int))) (1073741823 : Int))) R) (lI R (aC (aZ (aB (aA (lI R (lO (cX R R) (lI R (aC ?_))))))))))))))
 obtain rfl := so m
 exact qA () (fun w s => s)
 refine aI R u (bP (aR ?_))
 obtain rfl := so m
 obtain rfl := L _ R
 have m := M
 refine aR (bE ?_)
 exact qI (I, ()) m (fun w s => s)
 rintro ⟨F, _⟩ σ1 m
 replace m : Z0h_J1 g F = some r := m
 unfold Z0h_J1 at m
 refine aD (aA (lS R (lI R (lO (vz (.agg [(sc A2 g D2), (iv 0), (iv F)].toArray) (bW vr vt R R)) (gz R (fun J => (lP R (aC (aB (aW ?_))))))))))
 obtain rfl := so m
 exact qF ((A2, g.length, D2), J) (fun w s => (s.e 2 [1, 0]))
theorem Z02_ok  {c1 : l1Cur} {m : Nat} {r : Int × l1Cur} (g : Z02 c1 = some r) :
 FnOk Tryz.prog 115 [(pt m 0)] [aQ eC (.slice A3 N3 D3) c1.b, aK m [(.slice A3 N3 D3), (iv c1.i), (iv c1.h_)] 145] (fun (h : HH) => ((iv r.1), [aQ eC (.slice h.1 h.2.1 h.2.2) r.2.b, aK m [(.slice h.1 h.2.1 h.2.2), (iv r.2.i), (iv r.2.h_)] 145])) := by
 unfold Z02 at g
 refine bN Tryz.func115 R 58 R R fun C V => ?_
 refine cM (aK _ _ _ :: aQ _ _ _ :: V) (fun w s => (s.e 2 [1, 0])) ?_
 refine cL 1 aE ?_
 rintro rfl
 let u : List HP := RR eC A3 D3 c1.b :: V
 refine cN (aK m [(sc A3 c1.b D3), (iv c1.i), (iv c1.h_)] 145 :: u) ?_
 refine aD (aA (lI R (aC (aB (aD (aA (lP R (lP R (lP R (lO (bT 2 jy R) (lO (bV 0 cE R R R) (lO (f9 R R) (lO (cX R R) (lP R (lO (bT 2 jy R) (dP 0 R R bX R R R R R (lN (aK m [(sc A3 c1.b D3), (iv c1.i), (iv (aG ((aG (c1.h_ * (6364136223846793005 : Int))) + (1442695040888963407 : Int))))] 145 :: u) ?_)))))))))))))))))
 refine aC (aB (aD (eI 13 [] cF (fun E D => (dR 0 R (vP R) (dR 1 R (vP R) (dR 2 R (bT 2 jy R) (dR 3 R (bV 0 cE R R R) (dR 4 R (vz (iv ((aG ((aG (c1.h_ * (6364136223846793005 : Int))) + (1442695040888963407 : Int))) / 2 ^ (33 : Int).toNat)) (se R R (by decide) (by decide))) (dR 5 R (vP R) (dR 6 R (vP R) (dR 7 R (bT 2 jy R) (dR 8 R (bV 0 cE R R R) (dR 9 R (vz (iv ((aG ((aG (c1.h_ * (6364136223846793005 : Int))) + (1442695040888963407 : Int))) / 2 ^ (45 : Int).toNat)) (se R R (by decide) (by decide))) (dR 10 R (vp (iv (bits .xor .i64 ((aG ((aG (c1.h_ * (6364136223846793005 : Int))) + (1442695040888963407 : Int))) / 2 ^ (33 : Int).toNat) ((aG ((aG (c1.h_ * (6364136223846793005 : Int))) + (1442695040888963407 : Int))) / 2 ^ (45 : Int).toNat))) R) (dR 11 R (vp (iv (bits .and .i64 (bits .xor .i64 ((aG ((aG (c1.h_ * (6364136223846793005 : Int))) + (1442695040888963407 : Int))) / 2 ^ (33 : Int).toNat) ((aG ((aG (c1.h_ * (6364136223846793005 : Int))) + (1442695040888963407 : Int))) / 2 ^ (45 : Int).toNat)) (255 : Int))) R) (dR 12 R (vI R) (dD (aB ?_)))))))))))))))))))
 refine aD (bS (A := (Int × Int) × (Unit)) (fun a => Z02_J1 c1 a.1.1 a.1.2 = some r) (fun a => [(3, (iv a.1.1))]) (fun a => aK m [(sc A3 c1.b D3), (iv a.1.2), (iv (aG ((aG (c1.h_ * (6364136223846793005 : Int))) + (1442695040888963407 : Int))))] 145 :: u) ?_ ?_)
 refine aD (eI 10 [] cF (fun E D => (dR 0 R (vP R) (dR 1 R (vP R) (dR 2 R (bT 1 jz R) (dR 3 R (bV 0 cE R R R) (dR 4 R (vP R) (dR 5 R (vP R) (dR 6 R (bT 0 ns R) (dR 7 R (bV 0 vu R R R) (dR 8 R (bR o9 R) (dR 9 R (dQ R R) (dD (aB ?_))))))))))))))
 rcases bG g with ⟨q, g⟩ | ⟨q, g⟩
 refine aL R q (aD ?_)
 obtain ⟨j, g⟩ := gd g
 refine bZ 1 aE (show 0 < c1.b.length by have := j; omega) (fun F o7 G => ?_)
 subst G
 refine eI 15 [] cF (fun E D => (dR 0 R (vI R) (dR 1 R (vP R) (dR 2 R (vP R) (dR 3 R (bT 0 ns R) (dR 4 R (bV 0 vu R R R) (dR 5 R (vP R) (dR 6 R (vP R) (dR 7 R (bT 1 jz R) (dR 8 R (bV 0 cE R R R) (dR 9 R (cK o9 xV R R j) (dR 10 R (vz (.int .u8 (ix c1.b c1.i)) (gi (K := eC) (fo := 0) (pr := fun x => (.int .u8 x)) 1 c1.i xW (dT5.leaf fun _ _ => R) aE R j.1 j.2)) (dR 11 R (vz (iv (aG ((ix c1.b c1.i)))) (mu wY xX R)) (dR 12 R (cX R R) (dR 13 R (vp (iv (bits .and .i64 (aG ((bits .and .i64 (bits .xor .i64 ((aG ((aG (c1.h_ * (6364136223846793005 : Int))) + (1442695040888963407 : Int))) / 2 ^ (33 : Int).toNat) ((aG ((aG (c1.h_ * (6364136223846793005 : Int))) + (1442695040888963407 : Int))) / 2 ^ (45 : Int).toNat)) (255 : Int)) + (aG ((ix c1.b c1.i))))) (255 : Int))) R) (dR 14 R (vI R) (dD (aB (aA (lP R (lP R (lP R (lO (bT 1 jz R) (lO (bV 0 cE R R R) (lO (cX R R) (lP R (lO (bT 1 jz R) (dP 0 R R bX R R R R R ?_))))))))))))))))))))))))))))
 refine lN (aK m [(sc (ad F o7) c1.b D3), (iv (aG (c1.i + (1 : Int)))), (iv (aG ((aG (c1.h_ * (6364136223846793005 : Int))) + (1442695040888963407 : Int))))] 145 :: u) ?_
 refine aC ?_
 exact qI (((bits .and .i64 (aG ((bits .and .i64 (bits .xor .i64 ((aG ((aG (c1.h_ * (6364136223846793005 : Int))) + (1442695040888963407 : Int))) / 2 ^ (33 : Int).toNat) ((aG ((aG (c1.h_ * (6364136223846793005 : Int))) + (1442695040888963407 : Int))) / 2 ^ (45 : Int).toNat)) (255 : Int)) + (aG ((ix c1.b c1.i))))) (255 : Int)), (aG (c1.i + (1 : Int)))), ()) g (fun w s => s)
 refine aI R q (aN ?_)
 exact qI (((bits .and .i64 (bits .xor .i64 ((aG ((aG (c1.h_ * (6364136223846793005 : Int))) + (1442695040888963407 : Int))) / 2 ^ (33 : Int).toNat) ((aG ((aG (c1.h_ * (6364136223846793005 : Int))) + (1442695040888963407 : Int))) / 2 ^ (45 : Int).toNat)) (255 : Int)), c1.i), ()) g (fun w s => s)
 rintro ⟨⟨J, I⟩, _⟩ σ1 g
 replace g : Z02_J1 c1 J I = some r := g
 unfold Z02_J1 at g
 refine aD (aA (lI R (lI R (aC (aB (aW ?_))))))
 obtain rfl := so g
 exact qF (A3, c1.b.length, D3) (fun w s => (s.e 2 [1, 0]))
theorem Z8_ok  {c1 : l1Cur} {n4 : Int} {g : Nat} {r : Int × l1Cur} (a : Z8 c1 n4 = some r) :
 FnOk Tryz.prog 32 [(pt g 0), (iv n4)] [aQ eC (.slice A3 N3 D3) c1.b, aK g [(.slice A3 N3 D3), (iv c1.i), (iv c1.h_)] 145] (fun (h : HH) => ((iv r.1), [aQ eC (.slice h.1 h.2.1 h.2.2) r.2.b, aK g [(.slice h.1 h.2.1 h.2.2), (iv r.2.i), (iv r.2.h_)] 145])) := by
 unfold Z8 at a
 refine bN Tryz.func32 R 37 R R fun C V => ?_
 refine cM (aK _ _ _ :: aQ _ _ _ :: V) (fun w s => (s.e 2 [1, 0])) ?_
 refine cL 1 aE ?_
 rintro rfl
 let u : List HP := RR eC A3 D3 c1.b :: V
 refine cN (aK g [(sc A3 c1.b D3), (iv c1.i), (iv c1.h_)] 145 :: u) ?_
 refine aD (aA (lI R (aC (aB (aD (aD (aA (lI R (lO (sh R R) (aC (aB ?_)))))))))))
 rcases bG a with ⟨M, a⟩ | ⟨M, a⟩
 refine aL R M (aD (aA (lI R (aC (aB (aW (bA ?_)))))))
 obtain rfl := so a
 exact qF (A3, c1.b.length, D3) (fun w s => (s.e 2 [1, 0]))
 refine aI R M (aN (aB (aD (aD (aA (lI R (lO (sh R R) (aC (aB ?_)))))))))
 rcases bG a with ⟨T, a⟩ | ⟨T, a⟩
 refine aL R T (aD ?_)
 obtain ⟨r7, a8, a⟩ := bd a
 obtain ⟨a2, a⟩ := gd a
 refine aA (lP R (lM (RR eC A3 D3 c1.b :: _ :: u) (fun w s => (s.d 1 R)) ?_))
 refine lC 2 lX R (Z02_ok a8) R ?_
 rintro ⟨A9, N9, D9⟩
 refine lN (aQ eC (.slice A9 N9 D9) r7.2.b :: aK g [(.slice A9 N9 D9), (iv r7.2.i), (iv r7.2.h_)] 145 :: u) ?_
 refine aY 0 aE ?_
 rintro rfl
 refine lI R (lO (iC R R a2) (lI R (aC (aB (aW (bA ?_))))))
 obtain rfl := so a
 exact qF (A9, r7.2.b.length, D9) (fun w s => (s.e 3 [0, 1]))
 refine aI R T (aN (aB (aD ?_)))
 obtain ⟨j, a4, a⟩ := bd a
 refine aA (lP R (lM (RR eC A3 D3 c1.b :: aK g [(sc A3 c1.b D3), (iv c1.i), (iv c1.h_)] 145 :: u) (fun w s => (s.d 1 R)) ?_))
 refine lC 2 lX R (Z02_ok a4) R ?_
 rintro ⟨A13, N13, D13⟩
 refine lN (aQ eC (.slice A13 N13 D13) j.2.b :: aK g [(.slice A13 N13 D13), (iv j.2.i), (iv j.2.h_)] 145 :: u) ?_
 refine aY 0 aE ?_
 rintro rfl
 refine lI R (aC (aB (aD ?_)))
 obtain ⟨m, a5, a⟩ := bd a
 refine aA (lP R (lM (aQ _ _ _ :: aK g [(sc A13 j.2.b D13), (iv j.2.i), (iv j.2.h_)] 145 :: aQ _ _ _ :: u) (fun w s => ((s.d 0 R).e 3 [0, 2, 1])) ?_))
 refine lC 2 lX R (Z02_ok a5) R ?_
 rintro ⟨E, U, I⟩
 refine lN (aQ eC (.slice E U I) m.2.b :: aK g [(.slice E U I), (iv m.2.i), (iv m.2.h_)] 145 :: _ :: u) ?_
 refine aY 0 aE ?_
 rintro rfl
 refine lI R (aC (aB (aD ?_)))
 obtain ⟨q, a6, a⟩ := bd a
 refine aA (lP R (lM (aQ _ _ _ :: aK g [(sc E m.2.b I), (iv m.2.i), (iv m.2.h_)] 145 :: aQ _ _ _ :: aQ _ _ _ :: u) (fun w s => ((s.d 0 R).e 4 [0, 2, 1, 3])) ?_))
 refine lC 2 lX R (Z02_ok a6) R ?_
 rintro ⟨F, a0, J⟩
 refine lN (aQ eC (.slice F a0 J) q.2.b :: aK g [(.slice F a0 J), (iv q.2.i), (iv q.2.h_)] 145 :: _ :: _ :: u) ?_
 refine aY 0 aE ?_
 rintro rfl
 refine lI R (aC (aB (aD ?_)))
 obtain ⟨D, a7, a⟩ := bd a
 refine aA (lP R (lM (aQ _ _ _ :: aK g [(sc F q.2.b J), (iv q.2.i), (iv q.2.h_)] 145 :: aQ _ _ _ :: aQ _ _ _ :: aQ _ _ _ :: u) (fun w s => ((s.d 0 R).e 5 [0, 2, 1, 3, 4])) ?_))
 refine lC 2 lX R (Z02_ok a7) R ?_
 rintro ⟨G, a1, L⟩
 refine lN (aQ eC (.slice G a1 L) D.2.b :: aK g [(.slice G a1 L), (iv D.2.i), (iv D.2.h_)] 145 :: _ :: _ :: _ :: u) ?_
 refine aY 0 aE ?_
 rintro rfl
 refine lI R (aC (aB (aD ?_)))
 obtain ⟨a3, a⟩ := gd a
 refine aA (lI R (lO (f9 R R) (lI R (lO (f9 R R) (lO (cX R R) (lI R (lO (f9 R R) (lO (cX R R) (lI R (lO (cX R R) (lI R (lO (iC R R a3) (lI R (aC (aB (aW ?_))))))))))))))))
 obtain rfl := so a
 exact qF (G, D.2.b.length, L) (fun w s => (s.e 6 [0, 1]))
theorem Z0k_ok  {a : (List Int)} {r : (List Int)} (g : Z0k a = some r) :
 FnOk Tryz.prog 79 [(.slice A2 N2 D2)] [aQ kT3 (.slice A2 N2 D2) a] (fun (h : HH) => ((.slice h.1 h.2.1 h.2.2), [ow kT3 3 (.slice h.1 h.2.1 h.2.2) r])) := by
 unfold Z0k at g
 refine bN Tryz.func79 R 6 R R fun C V => ?_
 refine cN (_ :: V) ?_
 refine cL 0 aE ?_
 rintro rfl
 let b : List HP := RR kT3 A2 D2 a :: V
 refine cN b ?_
 refine aD (aA (lS R (aC (aB (aD ?_)))))
 obtain ⟨i, g⟩ := gd g
 refine aA (cC (K := kT3) (xs := ([] : List Int)) (vs := []) 0 R R aV bX fj R R R R R R ?_ R (fun A3 D3 => ?_))
 exact fun I h s => (fw).list [] I h s
 refine lN (OO kT3 3 A3 D3 ([] : List Int) :: b) ?_
 refine lS R (lM (_ :: RR kT3 A2 D2 a :: b) (fun w s => ((s.dup 1 R).mv 1)) ?_)
 refine f6 (K := kT3) 17592186044416 R R aV bX ii (Zr.zk zT3 fj) R R R R R R (oJ (Kind.scal_flat _ _)) i (fun A5 D5 => (lN (OO kT3 3 A5 D5 (([] : List Int) ++ a) :: b) ?_))
 refine lS R (aC (aB (aW ?_)))
 obtain rfl := so g
 exact qF (A5, (([] : List Int) ++ a).length, D5) (fun w s => (s.e 2 [0]))
theorem Zj_ok  {b : (List Int)} {r : Int} (i : Zj b = some r) :
 FnOk Tryz.prog 47 [(.slice A2 N2 D2)] [aQ kT3 (.slice A2 N2 D2) b] (fun (h : Unit) => ((iv r), [])) := by
 unfold Zj at i
 refine bN Tryz.func47 R 32 R R fun C V => ?_
 refine cN (_ :: V) ?_
 refine cL 0 aE ?_
 rintro rfl
 let J : List HP := RR kT3 A2 D2 b :: V
 refine cN J ?_
 refine aD (aA (lI R (aC (aB (aD (aA (lI R (aC (aB (aD (bS (A := (Int) × (Unit)) (fun a => Zj_J1 a.1 = some r) (fun a => [(3, (iv a.1))]) (fun a => J) ?_ ?_)))))))))))
 refine aD (aA (lI R (aC (aB (aM ?_)))))
 obtain ⟨e1, M, F⟩ := bd i
 refine bQ (A := Unit) M (fun s a => [(0, (sc A2 b D2)), (3, (iv s.1)), (4, (iv s.2))]) (fun s a => J) () (aS R) (fun w s => s) ?_
 rintro ⟨G, m⟩ _ σ1 I i E
 replace i : Zj_L1 b G m = some I := i
 unfold Zj_L1 at i
 refine aD (aD (aA (lI R (lS R (lO (bR aV R) (lO (dQ R R) (aC (aB ?_))))))))
 rcases bG i with ⟨q, i⟩ | ⟨q, i⟩
 refine aL R q (aN (aB (aD (aM (aD (aD ?_))))))
 obtain ⟨j, i⟩ := gd i
 refine cQ [(0, (sc A2 b D2)), (3, (iv G)), (4, (iv m)), (22, (.bool ((decide ((ix b m) < (1 : Int))) || (decide ((ix b m) > (4096 : Int))))))] (J) ?_ ?_
 refine aA (lS R (lI R (bY 0 aE (show 0 < b.length by have := j; omega) (fun U o17 L => ?_))))
 subst L
 refine lO (cK aV bX R R j) (lO (dL 0 cE aE R j) (lO (dQ R R) (lB R ?_)))
 rcases bo (decide ((ix b m) < (1 : Int))) with g | g
 refine lf (aT g) (lf (aT g) (lf (aT g) (lf (aT g) (lf (aT g) (lO (cW (decide ((ix b m) > (4096 : Int))) R g) (aC ?_))))))
 exact qJ (fun w s => s)
 refine lW (bI g) (vS R) (lW (bI g) (vI R) (lW (bI g) (cK aV bX R R j) (lW (bI g) (dL 0 cE aE R j) (lW (bI g) (iw R R) (lO (eS R g R) (aC ?_))))))
 exact qJ (fun w s => s)
 rintro σ1
 refine aB ?_
 rcases bG i with ⟨u, i⟩ | ⟨u, i⟩
 refine aL R u (aD (aA (lI R (aC (aB (aW (bA (bB (bA ?_)))))))))
 obtain rfl := so i
 obtain rfl := E _ R
 have i := F
 refine bA (bB (bA ?_))
 obtain rfl := so i
 exact qF () (fun w s => (s.e 1 []))
 refine aI R u (aN (aB (aD (aA (lI R (lS R (lI R (bY 0 aE (show 0 < b.length by have := j; omega) (fun a0 o21 L => ?_)))))))))
 subst L
 refine lO (cK aV bX R R j) (lO (dL 0 cE aE R j) (lO (f9 R R) (lI R (aC (aB (aD (aA (lI R (lO (iw R R) (aC (aB ?_)))))))))))
 rcases bG i with ⟨D, i⟩ | ⟨D, i⟩
 refine aL R D (aD (aA (lI R (aC (aB (aW (bB (bA ?_))))))))
 obtain rfl := so i
 obtain rfl := E _ R
 have i := F
 refine bA (bB (bA ?_))
 obtain rfl := so i
 exact qF () (fun w s => (s.e 1 []))
 refine aI R D (aN (aZ (aB (aA (lI R (lO (cX R R) (lI R (aC ?_))))))))
 obtain rfl := so i
 exact qA () (fun w s => s)
 refine aI R q (bP (aR ?_))
 obtain rfl := so i
 obtain rfl := E _ R
 have i := F
 refine aR (bE ?_)
 exact qI (G, ()) i (fun w s => s)
 rintro ⟨T, _⟩ σ1 i
 replace i : Zj_J1 T = some r := i
 unfold Zj_J1 at i
 refine aD (aA (lI R (lI R (aC (aB (aW ?_))))))
 obtain rfl := so i
 exact qF () (fun w s => (s.e 1 []))
theorem Z0m_ok  {a : (List Int)} {r : Tensor} (b : Z0m a = some r) :
 FnOk Tryz.prog 48 [(.slice A2 N2 D2)] [aQ kT3 (.slice A2 N2 D2) a] (fun (h : HH × HH) => ((.agg [(.slice h.1.1 h.1.2.1 h.1.2.2), (.slice h.2.1 h.2.2.1 h.2.2.2)].toArray), [ow kT3 3 (.slice h.1.1 h.1.2.1 h.1.2.2) r.Dims, ow kT3 3 (.slice h.2.1 h.2.2.1 h.2.2.2) r.Data])) := by
 unfold Z0m at b
 refine bN Tryz.func48 R 9 R R fun C V => ?_
 refine cN (_ :: V) ?_
 refine cL 0 aE ?_
 rintro rfl
 let i : List HP := RR kT3 A2 D2 a :: V
 refine cN i ?_
 refine aD (aA (bM R R dC (fun E => (aC (aB (aD ?_))))))
 obtain ⟨q, u, b⟩ := bd b
 obtain ⟨j, D, b⟩ := bd b
 obtain ⟨g, b⟩ := gd b
 refine aA (lS R (lM (RR kT3 A2 D2 a :: _ :: i) (fun w s => (s.d 1 R)) ?_))
 refine lC 1 oa R (Z0k_ok u) R ?_
 rintro ⟨A6, N6, D6⟩
 refine lN (ow kT3 3 (.slice A6 N6 D6) q :: _ :: i) ?_
 refine aY 0 aH ?_
 rintro rfl
 refine lS R (lM (RR kT3 A2 D2 a :: _ :: _ :: i) (fun w s => (s.d 2 R)) ?_)
 refine lC 1 mF R (Zj_ok D) R ?_
 rintro _
 refine lN (_ :: _ :: i) ?_
 refine fG (K := kT3) (m := j) (z := (0 : Int)) R R aV bX ii (Zr.zk zT3 fj) (by decide) R R g.1 g.2.1 g.2.2 (fun A10 D10 => (lO (vz (.agg [(sc A6 q D6), (sc A10 (List.replicate j.toNat (0 : Int)) D10)].toArray) (bW fF dC R R)) (aU 2 R R bO R R R R R R (lN (OO kT3 3 A10 D10 (List.replicate j.toNat (0 : Int)) :: _ :: aK E [(sc A6 q D6), (sc A10 (List.replicate j.toNat (0 : Int)) D10)] 26 :: i) ?_))))
 refine aC (aB (aW ?_))
 obtain rfl := so b
 exact bU (vs := [(.agg [(sc A6 q D6), (sc A10 (List.replicate j.toNat (0 : Int)) D10)].toArray)]) (.inl R) ((A6, q.length, D6), (A10, (List.replicate j.toNat (0 : Int)).length, D10)) R ⟨⟨2, E, _, _, R, R, .inl ⟨cJ, bO, R⟩⟩, trivial⟩ R (fun w s => (s.e 4 [1, 0]))
theorem Z0u_ok  {c1 : l1Cur} {F : Int} {a : Nat} {r : Bool × l1Cur} (g : Z0u c1 F = some r) :
 FnOk Tryz.prog 35 [(pt a 0), (iv F)] [aQ eC (.slice A3 N3 D3) c1.b, aK a [(.slice A3 N3 D3), (iv c1.i), (iv c1.h_)] 145] (fun (h : HH) => ((.bool r.1), [aQ eC (.slice h.1 h.2.1 h.2.2) r.2.b, aK a [(.slice h.1 h.2.1 h.2.2), (iv r.2.i), (iv r.2.h_)] 145])) := by
 unfold Z0u at g
 refine bN Tryz.func35 R 9 R R fun C V => ?_
 refine cM (aK _ _ _ :: aQ _ _ _ :: V) (fun w s => (s.e 2 [1, 0])) ?_
 refine cL 1 aE ?_
 rintro rfl
 let u : List HP := RR eC A3 D3 c1.b :: V
 refine cN (aK a [(sc A3 c1.b D3), (iv c1.i), (iv c1.h_)] 145 :: u) ?_
 refine aD (aA (lB R (aC (aB (aD ?_)))))
 obtain ⟨j, D, g⟩ := bd g
 refine aA (lP R (lI R (lM (RR eC A3 D3 c1.b :: _ :: u) (fun w s => (s.d 1 R)) ?_)))
 refine lC 2 fX R (Z8_ok D) R ?_
 rintro ⟨m, E, q⟩
 refine lN (aQ eC (.slice m E q) j.2.b :: aK a [(.slice m E q), (iv j.2.i), (iv j.2.h_)] 145 :: u) ?_
 refine aY 0 aE ?_
 rintro rfl
 refine lO (ji R R) (lB R (aC (aB (aW ?_))))
 obtain rfl := so g
 exact qF (m, j.2.b.length, q) (fun w s => (s.e 3 [0, 1]))
theorem Zi_ok  {p1 : Int} {r : Int} (b : Zi p1 = some r) :
 FnOk Tryz.prog 118 [(iv p1)] [] (fun (h : Unit) => ((iv r), [])) := by
 unfold Zi at b
 refine bN Tryz.func118 R 11 R R fun C V => ?_
 refine cN V ?_
 refine aD (aA (lI R (aC (aB (aD (aA (lI R (lO (iC R R (by decide)) (lI R (aC (aB (aD (bS (A := (Int) × (Unit)) (fun a => Zi_J1 a.1 = some r) (fun a => [(3, (iv a.1))]) (fun a => V) ?_ ?_)))))))))))))
 refine aD (aA (lI R (lO (dQ R R) (aC (aB ?_)))))
 rcases bG b with ⟨e, b⟩ | ⟨e, b⟩
 refine aL R e (aA (lI R (lO (cX R R) (lI R (aC ?_)))))
 exact qI ((aG ((p1.tmod (2147483647 : Int)) + (2147483647 : Int))), ()) b (fun w s => s)
 refine aI R e (aN ?_)
 exact qI ((p1.tmod (2147483647 : Int)), ()) b (fun w s => s)
 rintro ⟨g, _⟩ σ1 b
 replace b : Zi_J1 g = some r := b
 unfold Zi_J1 at b
 refine aD (aA (lI R (lI R (aC (aB (aW ?_))))))
 obtain rfl := so b
 exact qF () (fun w s => s)
theorem Z0l_ok  {i : Int} {j : Int} {r : Int} (a : Z0l i j = some r) :
 FnOk Tryz.prog 52 [(iv i), (iv j)] [] (fun (h : Unit) => ((iv r), [])) := by
 unfold Z0l at a
 refine bN Tryz.func52 R 11 R R fun C V => ?_
 refine cN V ?_
 refine aD (aA (lI R (aC (aB (aD ?_)))))
 obtain ⟨m, b, a⟩ := bd a
 obtain ⟨q, e, a⟩ := bd a
 obtain ⟨u, g, a⟩ := bd a
 refine aA (lI R (lC 0 i7 R (Zi_ok b) R ?_))
 rintro _
 refine lI R (lC 0 i7 R (Zi_ok e) R ?_)
 rintro _
 refine lO (f9 R R) (lC 0 i7 R (Zi_ok g) R ?_)
 rintro _
 refine lI R (aC (aB (aW ?_)))
 obtain rfl := so a
 exact qF () (fun w s => s)
theorem Zs_S_ok {F : Int → Int → Option (Int)} (q : ∀ {j : Int} {i : Int} {r : Int}, F j i = some r → FnOk Tryz.prog 185 [(iv j), (iv i)] [] (fun (h : Unit) => ((iv r), []))) {j : Int} {i : Int} {r : Int} (b : Zs_S F j i = some r) :
 FnOk Tryz.prog 185 [(iv j), (iv i)] [] (fun (h : Unit) => ((iv r), [])) := by
 unfold Zs_S at b
 refine bN Tryz.func185 R 22 R R fun C V => ?_
 refine cN V ?_
 refine aD (aA (lI R (aC (aB (aD (aD (aA (lI R (lO (ji R R) (aC (aB ?_)))))))))))
 rcases bG b with ⟨e, b⟩ | ⟨e, b⟩
 refine aL R e (aD (aA (lI R (aC (aB (aW (bA ?_)))))))
 obtain rfl := so b
 exact qF () (fun w s => s)
 refine aI R e (aN (aB (aD ?_)))
 obtain ⟨J, u, b⟩ := bd b
 refine aA (lI R (lI R (lO (vz (iv (aG (i.tdiv (2 : Int)))) (gO R R (by decide))) (lC 0 sn R (q u) R ?_))))
 rintro _
 refine lI R (aC (aB (aD ?_)))
 obtain ⟨G, D, b⟩ := bd b
 refine aA (lI R (lI R (lC 0 pb R (Z0l_ok D) R ?_)))
 rintro _
 refine lI R (aC (aB (aD (bS (A := (Int) × (Unit)) (fun a => Zs_J1 a.1 = some r) (fun a => [(5, (iv a.1))]) (fun a => V) ?_ ?_))))
 refine aD (aA (lI R (lO (iC R R (by decide)) (lO (ji R R) (aC (aB ?_))))))
 rcases bG b with ⟨g, b⟩ | ⟨g, b⟩
 refine aL R g ?_
 obtain ⟨I, m, b⟩ := bd b
 refine aA (lI R (lI R (lC 0 pb R (Z0l_ok m) R ?_)))
 rintro _
 refine lI R (aC ?_)
 exact qI (I, ()) b (fun w s => s)
 refine aI R g (aN ?_)
 exact qI (G, ()) b (fun w s => s)
 rintro ⟨E, _⟩ σ1 b
 replace b : Zs_J1 E = some r := b
 unfold Zs_J1 at b
 refine aD (aA (lI R (lI R (aC (aB (aW ?_))))))
 obtain rfl := so b
 exact qF () (fun w s => s)
theorem Zs_R_ok (n : Nat) : ∀ {a : Int} {b : Int} {r : Int}, Zs_R n a b = some r → FnOk Tryz.prog 185 [(iv a), (iv b)] [] (fun (h : Unit) => ((iv r), [])) := by
 induction n with
 | zero => intros; rename_i h; cases h
 | succ n ih => intros; rename_i h; exact Zs_S_ok ih h
theorem Zs_ok {a : Int} {b : Int} {r : Int} (e : Zs a b = some r) : FnOk Tryz.prog 185 [(iv a), (iv b)] [] (fun (h : Unit) => ((iv r), [])) := Zs_R_ok jx e
theorem Z1w_ok  {g : Int} {r : Int} (a : Z1w g = some r) :
 FnOk Tryz.prog 170 [(iv g)] [] (fun (h : Unit) => ((iv r), [])) := by
 unfold Z1w at a
 refine bN Tryz.func170 R 6 R R fun C V => ?_
 refine cN V ?_
 refine aD (aA (lI R (aC (aB (aD ?_)))))
 obtain ⟨i, b, a⟩ := bd a
 obtain ⟨j, e, a⟩ := bd a
 refine aA (lI R (lC 0 i7 R (Zi_ok b) R ?_))
 rintro _
 refine lC 0 sn R (Zs_ok e) R ?_
 rintro _
 refine lI R (aC (aB (aW ?_)))
 obtain rfl := so a
 exact qF () (fun w s => s)
theorem Z1j_ok  {g : Int} {i : Int} {r : Int} (a : Z1j g i = some r) :
 FnOk Tryz.prog 149 [(iv g), (iv i)] [] (fun (h : Unit) => ((iv r), [])) := by
 unfold Z1j at a
 refine bN Tryz.func149 R 9 R R fun C V => ?_
 refine cN V ?_
 refine aD (aA (lI R (aC (aB (aD ?_)))))
 obtain ⟨j, b, a⟩ := bd a
 obtain ⟨m, e, a⟩ := bd a
 refine aA (lI R (lI R (lC 0 vv R (Z1w_ok b) R ?_)))
 rintro _
 refine lC 0 pb R (Z0l_ok e) R ?_
 rintro _
 refine lI R (aC (aB (aW ?_)))
 obtain rfl := so a
 exact qF () (fun w s => s)
theorem Z1i_ok  {i : Int} {j : Int} {r : Int} (a : Z1i i j = some r) :
 FnOk Tryz.prog 150 [(iv i), (iv j)] [] (fun (h : Unit) => ((iv r), [])) := by
 unfold Z1i at a
 refine bN Tryz.func150 R 11 R R fun C V => ?_
 refine cN V ?_
 refine aD (aA (lI R (aC (aB (aD ?_)))))
 obtain ⟨m, b, a⟩ := bd a
 obtain ⟨q, e, a⟩ := bd a
 obtain ⟨u, g, a⟩ := bd a
 refine aA (lI R (lC 0 i7 R (Zi_ok b) R ?_))
 rintro _
 refine lI R (lC 0 i7 R (Zi_ok e) R ?_)
 rintro _
 refine lO (hM R R) (lC 0 i7 R (Zi_ok g) R ?_)
 rintro _
 refine lI R (aC (aB (aW ?_)))
 obtain rfl := so a
 exact qF () (fun w s => s)
theorem Z10_ok  {c1 : l1Cur} {a : (List Int)} {m : Nat} {r : Int × l1Cur} (j : Z10 c1 a = some r) :
 FnOk Tryz.prog 36 [(pt m 0), (.slice A5 N5 D5)] [aQ eC (.slice A3 N3 D3) c1.b, aK m [(.slice A3 N3 D3), (iv c1.i), (iv c1.h_)] 145, aQ kT3 (.slice A5 N5 D5) a] (fun (h : HH) => ((iv r.1), [aQ eC (.slice h.1 h.2.1 h.2.2) r.2.b, aK m [(.slice h.1 h.2.1 h.2.2), (iv r.2.i), (iv r.2.h_)] 145])) := by
 unfold Z10 at j
 refine bN Tryz.func36 R 12 R R fun C V => ?_
 refine cM (aK _ _ _ :: aQ _ _ _ :: aQ _ _ _ :: V) (fun w s => (s.e 3 [1, 0, 2])) ?_
 refine cL 1 aE ?_
 rintro rfl
 refine cL 2 aE ?_
 rintro rfl
 let E : List HP := RR eC A3 D3 c1.b :: RR kT3 A5 D5 a :: V
 refine cN (aK m [(sc A3 c1.b D3), (iv c1.i), (iv c1.h_)] 145 :: E) ?_
 refine aD (aA (lI R (aC (aB (aD ?_)))))
 obtain ⟨q, F, j⟩ := bd j
 obtain ⟨g, j⟩ := gd j
 refine aA (lS R (lP R (lS R (lO (bR aV R) (lM (RR eC A3 D3 c1.b :: _ :: E) (fun w s => (s.d 1 R)) ?_)))))
 refine lC 2 fX R (Z8_ok F) R ?_
 rintro ⟨u, G, D⟩
 refine lN (aQ eC (.slice u G D) q.2.b :: aK m [(.slice u G D), (iv q.2.i), (iv q.2.h_)] 145 :: E) ?_
 refine aY 0 aE ?_
 rintro rfl
 refine bY 3 aE (show 0 < a.length by have := g; omega) (fun I o11 J => ?_)
 subst J
 refine lO (cK aV bX R R g) (lO (dL 3 cE aE R g) (lI R (aC (aB (aW ?_)))))
 obtain rfl := so j
 exact qF (u, q.2.b.length, D) (fun w s => (s.e 4 [0, 1]))
theorem Z1k_ok  {c1 : l1Cur} {g : Nat} {r : Int × l1Cur} (a : Z1k c1 = some r) :
 FnOk Tryz.prog 116 [(pt g 0)] [aQ eC (.slice A3 N3 D3) c1.b, aK g [(.slice A3 N3 D3), (iv c1.i), (iv c1.h_)] 145] (fun (h : HH) => ((iv r.1), [aQ eC (.slice h.1 h.2.1 h.2.2) r.2.b, aK g [(.slice h.1 h.2.1 h.2.2), (iv r.2.i), (iv r.2.h_)] 145])) := by
 unfold Z1k at a
 refine bN Tryz.func116 R 29 R R fun C V => ?_
 refine cM (aK _ _ _ :: aQ _ _ _ :: V) (fun w s => (s.e 2 [1, 0])) ?_
 refine cL 1 aE ?_
 rintro rfl
 let j : List HP := RR eC A3 D3 c1.b :: V
 refine cN (aK g [(sc A3 c1.b D3), (iv c1.i), (iv c1.h_)] 145 :: j) ?_
 refine aD (aA (lI R (aC (aB (aD (aD ?_))))))
 obtain ⟨m, al, a⟩ := bd a
 refine aA (lP R (lM (RR eC A3 D3 c1.b :: _ :: j) (fun w s => (s.d 1 R)) ?_))
 refine lC 2 fX R (Z8_ok al) R ?_
 rintro ⟨A6, N6, D6⟩
 refine lN (aQ eC (.slice A6 N6 D6) m.2.b :: aK g [(.slice A6 N6 D6), (iv m.2.i), (iv m.2.h_)] 145 :: j) ?_
 refine aY 0 aE ?_
 rintro rfl
 refine aC (aB (aM (aD (aA (lO (ji R R) (lB R (aC (aB ?_))))))))
 rcases bG a with ⟨a7, a⟩ | ⟨a7, a⟩
 refine aL R a7 (aD ?_)
 obtain ⟨r8, am, a⟩ := bd a
 obtain ⟨q, ac, a⟩ := bd a
 obtain ⟨an, ae, a⟩ := bd a
 refine aA (lP R (lM (aQ _ _ _ :: aK g [(sc A6 m.2.b D6), (iv m.2.i), (iv m.2.h_)] 145 :: aQ _ _ _ :: j) (fun w s => ((s.d 0 R).e 3 [0, 2, 1])) ?_))
 refine lC 2 fX R (Z8_ok am) R ?_
 rintro ⟨A10, N10, D10⟩
 refine lN (aQ eC (.slice A10 N10 D10) r8.2.b :: aK g [(.slice A10 N10 D10), (iv r8.2.i), (iv r8.2.h_)] 145 :: _ :: j) ?_
 refine aY 0 aE ?_
 rintro rfl
 refine lP R (lM (aQ _ _ _ :: aK g [(sc A10 r8.2.b D10), (iv r8.2.i), (iv r8.2.h_)] 145 :: aQ _ _ _ :: aQ _ _ _ :: j) (fun w s => ((s.d 0 R).e 4 [0, 2, 1, 3])) ?_)
 refine lC 2 fX R (Z8_ok ac) R ?_
 rintro ⟨A13, N13, D13⟩
 refine lN (aQ eC (.slice A13 N13 D13) q.2.b :: aK g [(.slice A13 N13 D13), (iv q.2.i), (iv q.2.h_)] 145 :: _ :: _ :: j) ?_
 refine aY 0 aE ?_
 rintro rfl
 refine lO (cX R R) (lC 0 vw R (Z1j_ok ae) R ?_)
 rintro _
 refine lN (_ :: aK g [(sc A13 q.2.b D13), (iv q.2.i), (iv q.2.h_)] 145 :: _ :: _ :: j) ?_
 refine lI R (aC (aB (aW (bB (bA ?_)))))
 obtain rfl := so a
 exact qF (A13, q.2.b.length, D13) (fun w s => (s.e 5 [0, 1]))
 refine aI R a7 (aD (aA (lO (ji R R) (lB R (aC (aB ?_))))))
 rcases bG a with ⟨D, a⟩ | ⟨D, a⟩
 refine aL R D (aD ?_)
 obtain ⟨u, ag, a⟩ := bd a
 obtain ⟨ao, ah, a⟩ := bd a
 refine aA (lP R (lM (aQ _ _ _ :: aK g [(sc A6 m.2.b D6), (iv m.2.i), (iv m.2.h_)] 145 :: aQ _ _ _ :: j) (fun w s => ((s.d 0 R).e 3 [0, 2, 1])) ?_))
 refine lC 2 fX R (Z8_ok ag) R ?_
 rintro ⟨G, a8, J⟩
 refine lN (aQ eC (.slice G a8 J) u.2.b :: aK g [(.slice G a8 J), (iv u.2.i), (iv u.2.h_)] 145 :: _ :: j) ?_
 refine aY 0 aE ?_
 rintro rfl
 refine lC 0 vx R (Z1i_ok ah) R ?_
 rintro _
 refine lN (_ :: aK g [(sc G u.2.b J), (iv u.2.i), (iv u.2.h_)] 145 :: _ :: j) ?_
 refine lI R (aC (aB (aW (bB (bA ?_)))))
 obtain rfl := so a
 exact qF (G, u.2.b.length, J) (fun w s => (s.e 4 [0, 1]))
 refine aI R D (aD (aA (lO (ji R R) (lB R (aC (aB ?_))))))
 rcases bG a with ⟨E, a⟩ | ⟨E, a⟩
 refine aL R E (aD ?_)
 obtain ⟨L, ai, a⟩ := bd a
 refine aA (lP R (lM (aQ _ _ _ :: aK g [(sc A6 m.2.b D6), (iv m.2.i), (iv m.2.h_)] 145 :: aQ _ _ _ :: j) (fun w s => ((s.d 0 R).e 3 [0, 2, 1])) ?_))
 refine lC 2 fX R (Z8_ok ai) R ?_
 rintro ⟨U, a9, a3⟩
 refine lN (aQ eC (.slice U a9 a3) L.2.b :: aK g [(.slice U a9 a3), (iv L.2.i), (iv L.2.h_)] 145 :: _ :: j) ?_
 refine aY 0 aE ?_
 rintro rfl
 refine lI R (aC (aB (aW (bB (bA ?_)))))
 obtain rfl := so a
 exact qF (U, L.2.b.length, a3) (fun w s => (s.e 4 [0, 1]))
 refine aI R E (aD (aA (lO (ji R R) (lB R (aC (aB ?_))))))
 rcases bG a with ⟨F, a⟩ | ⟨F, a⟩
 refine aL R F (aD ?_)
 obtain ⟨M, aj, a⟩ := bd a
 refine aA (lP R (cC (K := kT3) (xs := ([(0 : Int), (1 : Int), (2147483646 : Int), (1073741823 : Int), (1073741824 : Int), (32767 : Int), (32768 : Int)] : List Int)) (vs := [(iv 0), (iv 1), (iv 2147483646), (iv 1073741823), (iv 1073741824), (iv 32767), (iv 32768)]) 0 R R aV bX fj R R R R R R ?_ R (fun a0 a4 => ?_)))
 exact fun I h s => (fw).list [((), (0 : Int)), ((), (1 : Int)), ((), (2147483646 : Int)), ((), (1073741823 : Int)), ((), (1073741824 : Int)), ((), (32767 : Int)), ((), (32768 : Int))] I h s
 refine lN (OO kT3 3 a0 a4 ([(0 : Int), (1 : Int), (2147483646 : Int), (1073741823 : Int), (1073741824 : Int), (32767 : Int), (32768 : Int)] : List Int) :: _ :: aK g [(sc A6 m.2.b D6), (iv m.2.i), (iv m.2.h_)] 145 :: j) ?_
 refine ie (fun w s => s.shr 0 R) (lM (aQ _ _ _ :: aK _ _ _ :: RR kT3 a0 a4 ([(0 : Int), (1 : Int), (2147483646 : Int), (1073741823 : Int), (1073741824 : Int), (32767 : Int), (32768 : Int)] : List Int) :: RR kT3 a0 a4 ([(0 : Int), (1 : Int), (2147483646 : Int), (1073741823 : Int), (1073741824 : Int), (32767 : Int), (32768 : Int)] : List Int) :: aQ _ _ _ :: j) (fun w s => (((s.d 1 R).d 1 R).e 5 [1, 4, 0, 2, 3])) ?_)
 refine lC 3 tN R (Z10_ok aj) R ?_
 rintro ⟨a1, aa, a5⟩
 refine lN (aQ eC (.slice a1 aa a5) M.2.b :: aK g [(.slice a1 aa a5), (iv M.2.i), (iv M.2.h_)] 145 :: _ :: _ :: j) ?_
 refine aY 0 aE ?_
 rintro rfl
 refine lI R (aC (aB (aW (bB (bA ?_)))))
 obtain rfl := so a
 exact qF (a1, M.2.b.length, a5) (fun w s => (s.e 5 [0, 1]))
 refine aI R F (aN (aZ (aB (aD ?_))))
 obtain ⟨T, ak, a⟩ := bd a
 refine aA (lP R (lM (aQ _ _ _ :: aK g [(sc A6 m.2.b D6), (iv m.2.i), (iv m.2.h_)] 145 :: aQ _ _ _ :: j) (fun w s => ((s.d 0 R).e 3 [0, 2, 1])) ?_))
 refine lC 2 fX R (Z8_ok ak) R ?_
 rintro ⟨a2, ab, a6⟩
 refine lN (aQ eC (.slice a2 ab a6) T.2.b :: aK g [(.slice a2 ab a6), (iv T.2.i), (iv T.2.h_)] 145 :: _ :: j) ?_
 refine aY 0 aE ?_
 rintro rfl
 refine lI R (aC (aB (aW ?_)))
 obtain rfl := so a
 exact qF (a2, T.2.b.length, a6) (fun w s => (s.e 4 [0, 1]))
theorem Zp_ok  {c1 : l1Cur} {G : (List Int)} {L : Nat} {r : Tensor × l1Cur} (g : Zp c1 G = some r) :
 FnOk Tryz.prog 34 [(pt L 0), (.slice A5 N5 D5)] [aQ eC (.slice A3 N3 D3) c1.b, aK L [(.slice A3 N3 D3), (iv c1.i), (iv c1.h_)] 145, aQ kT3 (.slice A5 N5 D5) G] (fun (h : HH × HH × HH) => ((.agg [(.slice h.1.1 h.1.2.1 h.1.2.2), (.slice h.2.1.1 h.2.1.2.1 h.2.1.2.2)].toArray), [ow kT3 3 (.slice h.1.1 h.1.2.1 h.1.2.2) r.1.Dims, ow kT3 3 (.slice h.2.1.1 h.2.1.2.1 h.2.1.2.2) r.1.Data, aQ eC (.slice h.2.2.1 h.2.2.2.1 h.2.2.2.2) r.2.b, aK L [(.slice h.2.2.1 h.2.2.2.1 h.2.2.2.2), (iv r.2.i), (iv r.2.h_)] 145])) := by
 unfold Zp at g
 refine bN Tryz.func34 R 31 R R fun C V => ?_
 refine cM (aK _ _ _ :: aQ _ _ _ :: aQ _ _ _ :: V) (fun w s => (s.e 3 [1, 0, 2])) ?_
 refine cL 1 aE ?_
 rintro rfl
 refine cL 2 aE ?_
 rintro rfl
 let J : List HP := RR eC A3 D3 c1.b :: RR kT3 A5 D5 G :: V
 refine cN (aK L [(sc A3 c1.b D3), (iv c1.i), (iv c1.h_)] 145 :: J) ?_
 refine aD (aA (bM R R dC (fun b6 => (aC (aB (aD ?_))))))
 obtain ⟨j, b5, g⟩ := bd g
 refine aA (lS R (lM (RR kT3 A5 D5 G :: _ :: _ :: J) (fun w s => (s.d 3 R)) ?_))
 refine lC 1 rp R (Z0m_ok b5) R ?_
 rintro ⟨⟨A9, N9, D9⟩, ⟨A10, N10, D10⟩⟩
 refine lN (ow kT3 3 (.slice A9 N9 D9) j.Dims :: ow kT3 3 (.slice A10 N10 D10) j.Data :: _ :: _ :: J) ?_
 refine aY 0 aH ?_
 rintro rfl
 refine aY 1 aH ?_
 rintro rfl
 refine bM R R dC (fun F => (aU 0 R R bO R R R R R R (lN (aK F [(sc A9 j.Dims D9), (sc A10 j.Data D10)] 26 :: _ :: _ :: _ :: _ :: J) ?_)))
 refine aC (aB (aD (bS (A := ((List Int) × (List Int) × Int × Int) × (HH)) (fun a => Zp_J3 j a.1.1 a.1.2.1 a.1.2.2.1 a.1.2.2.2 = some r) (fun a => [(4, (pt b6 0)), (5, (pt F 0))]) (fun a => aK b6 [(.slice none 0 0), (.slice none 0 0)] 26 :: aK F [(sc A9 j.Dims D9), (sc A10 j.Data D10)] 26 :: OO kT3 3 A9 D9 j.Dims :: ow kT3 3 (.slice A10 j.Data.length D10) a.1.1 :: aK L [(.slice a.2.1 a.2.2.1 a.2.2.2), (iv a.1.2.2.1), (iv a.1.2.2.2)] 145 :: aQ eC (.slice a.2.1 a.2.2.1 a.2.2.2) a.1.2.1 :: J) ?_ ?_)))
 refine aD (aA (lI R (aC (aB (aM ?_)))))
 obtain ⟨e1, b4, b3⟩ := bd g
 refine bQ (A := HH) b4 (fun s a => [(0, (pt L 0)), (4, (pt b6 0)), (5, (pt F 0)), (6, (iv s.2.2.2.2))]) (fun s a => aK L [(.slice a.1 a.2.1 a.2.2), (iv s.2.1), (iv s.2.2.1)] 145 :: aQ eC (.slice a.1 a.2.1 a.2.2) s.1 :: aK b6 [(.slice none 0 0), (.slice none 0 0)] 26 :: aK F [(sc A9 j.Dims D9), (sc A10 j.Data D10)] 26 :: OO kT3 3 A9 D9 j.Dims :: ow kT3 3 (.slice A10 j.Data.length D10) s.2.2.2.1 :: J) (A3, c1.b.length, D3) (aS R) (fun w s => ((s.d 5 R).e 6 [5, 0, 4, 1, 2, 3])) ?_
 rintro ⟨M, a9, aa, T, q⟩ ⟨a3, aw, a6⟩ σ1 a1 g b1
 replace g : Zp_L1 j M a9 aa T q = some a1 := g
 unfold Zp_L1 at g
 refine cD 1 aE (fun (hn : aw = M.length) => ?_)
 subst hn
 refine aD (aD (aA (lI R (lO (bT 1 cA R) (lO (bV 3 bK R R R) (lO (bR aV R) (lO (dQ R R) (aC (aB ?_)))))))))
 rcases bG g with ⟨U, g⟩ | ⟨U, g⟩
 refine aL R U (aN (aB (aD (bS (A := ((List Int) × Int × Int × (List Int)) × (HH)) (fun a => Zp_J2 q a.1.1 a.1.2.1 a.1.2.2.1 a.1.2.2.2 = some a1) (fun a => [(0, (pt L 0)), (4, (pt b6 0)), (5, (pt F 0)), (6, (iv q))]) (fun a => aK L [(.slice a.2.1 a.2.2.1 a.2.2.2), (iv a.1.2.1), (iv a.1.2.2.1)] 145 :: aQ eC (.slice a.2.1 a.2.2.1 a.2.2.2) a.1.1 :: aK b6 [(.slice none 0 0), (.slice none 0 0)] 26 :: aK F [(sc A9 j.Dims D9), (sc A10 j.Data D10)] 26 :: OO kT3 3 A9 D9 j.Dims :: ow kT3 3 (.slice A10 j.Data.length D10) a.1.2.2.2 :: J) ?_ ?_))))
 refine aM (aD ?_)
 obtain ⟨u, am, g⟩ := bd g
 obtain ⟨D, g⟩ := gd g
 refine bZ 5 aH (show 0 < j.Data.length by have := D; omega) (fun ab o45 ha => ?_)
 subst ha
 refine eI 7 [5, 0] cF (fun ht hn => (dR 0 R (bT 1 cA R) (hS := (sL [5, 0])) (dR 1 R (bV 2 bK R R R) (hS := (sL [5, 0])) (dR 2 R (vI R) (hS := (sL [5, 0])) (dR 3 R (vP R) (hS := (sL [5, 0])) (d1 4 R (lM (RR eC a3 a6 M :: aK L [(sc a3 M a6), (iv a9), (iv aa)] 145 :: RR eC a3 a6 M :: _ :: aK F [(sc A9 j.Dims D9), (sc (ad ab o45) j.Data D10)] 26 :: _ :: ow kT3 3 (.slice (ad ab o45) j.Data.length D10) T :: J) (fun w s => (s.d 1 R)) ?_)))))))
 refine lC 2 fX R (Z8_ok (c1 := (⟨M, a9, aa⟩ : l1Cur)) am) R ?_
 rintro ⟨ac, aj, ag⟩
 refine lN (aQ eC (.slice ac aj ag) u.2.b :: aK L [(.slice ac aj ag), (iv u.2.i), (iv u.2.h_)] 145 :: _ :: _ :: _ :: _ :: _ :: J) ?_
 refine aY 0 aE ?_
 rintro rfl
 refine aC (aP (sL [6, 1, 0]) (dR 5 R (cK aV bX R R D) (hS := (sL [6, 1, 0])) (d1 6 R (lM (ow _ _ _ _ :: aQ _ _ _ :: aK L [(sc ac u.2.b ag), (iv u.2.i), (iv u.2.h_)] 145 :: aQ _ _ _ :: aK _ _ _ :: aK _ _ _ :: ow _ _ _ _ :: J) (fun w s => (s.f 7 [6, 1, 0, 6])) ?_))))
 refine eG (K := kT3) (x' := u.1) 0 q R R bX R R D.1 D.2 ?_ ?_
 exact fun I h s => (fw).put I h () u.1 s
 refine lN (ow kT3 3 (.slice (ad ab o45) j.Data.length D10) (T.set q.toNat u.1) :: _ :: _ :: _ :: _ :: _ :: _ :: J) ?_
 refine aC (aP (sL [2, 1, 0]) (dD (aB (aD ?_))))
 obtain ⟨E, an, g⟩ := bd g
 refine aA (lP R (lM (aQ _ _ _ :: aK _ _ _ :: ow _ _ _ _ :: aQ _ _ _ :: aQ _ _ _ :: aK _ _ _ :: aK _ _ _ :: ow _ _ _ _ :: J) (fun w s => ((s.d 1 R).e 8 [0, 3, 1, 2, 4, 5, 6, 7])) ?_))
 refine lC 2 rq R (Z0u_ok an) R ?_
 rintro ⟨a4, ak, a7⟩
 refine lN (aQ eC (.slice a4 ak a7) E.2.b :: aK L [(.slice a4 ak a7), (iv E.2.i), (iv E.2.h_)] 145 :: _ :: _ :: _ :: _ :: _ :: _ :: J) ?_
 refine aY 0 aE ?_
 rintro rfl
 refine aC (aB ?_)
 rcases bG g with ⟨a0, g⟩ | ⟨a0, g⟩
 refine aL R a0 ?_
 obtain ⟨m, ao, g⟩ := bd g
 refine eI 7 [2, 1] cF (fun ht hn => (dR 0 R (bT 1 cA R) (hS := (sL [2, 1])) (dR 1 R (bV 4 bK R R R) (hS := (sL [2, 1])) (dR 2 R (vI R) (hS := (sL [2, 1])) (dR 3 R (vP R) (hS := (sL [2, 1])) (d1 4 R (lM (aQ _ _ _ :: aK L [(sc a4 E.2.b a7), (iv E.2.i), (iv E.2.h_)] 145 :: aQ _ _ _ :: ow _ _ _ _ :: aQ _ _ _ :: aQ _ _ _ :: aK _ _ _ :: aK _ _ _ :: ow _ _ _ _ :: J) (fun w s => ((s.d 0 R).f 9 [0, 1, 2, 1, 1, 1, 3, 6])) ?_)))))))
 refine lC 2 vy R (Z1k_ok ao) R ?_
 rintro ⟨a5, al, a8⟩
 refine lN (aQ eC (.slice a5 al a8) m.2.b :: aK L [(.slice a5 al a8), (iv m.2.i), (iv m.2.h_)] 145 :: _ :: _ :: _ :: _ :: _ :: _ :: _ :: J) ?_
 refine aY 0 aE ?_
 rintro rfl
 refine aC (aP (sL [3, 1, 0]) (dR 5 R (cK aV bX R R D) (hS := (sL [3, 1, 0])) (d1 6 R (lM (ow _ _ _ _ :: aQ _ _ _ :: aK L [(sc a5 m.2.b a8), (iv m.2.i), (iv m.2.h_)] 145 :: aQ _ _ _ :: aQ _ _ _ :: aQ _ _ _ :: aK _ _ _ :: aK _ _ _ :: ow _ _ _ _ :: J) (fun w s => (s.f 9 [3, 1, 0, 3, 4, 5])) ?_))))
 refine eG (K := kT3) (x' := m.1) 0 q R R bX R R D.1 D.2 ?_ ?_
 exact fun I h s => (fw).put I h () m.1 s
 refine lN (ow kT3 3 (.slice (ad ab o45) j.Data.length D10) ((T.set q.toNat u.1).set q.toNat m.1) :: _ :: _ :: _ :: _ :: _ :: _ :: _ :: _ :: J) ?_
 refine aC (aP (sL [2, 1, 0]) (dD (aZ ?_)))
 exact qI ((m.2.b, m.2.i, m.2.h_, ((T.set q.toNat u.1).set q.toNat m.1)), (a5, m.2.b.length, a8)) g (fun w s => (s.e 9 [2, 1, 6, 7, 8, 0]))
 refine aI R a0 (aN (aZ ?_))
 exact qI ((E.2.b, E.2.i, E.2.h_, (T.set q.toNat u.1)), (a4, E.2.b.length, a7)) g (fun w s => (s.e 8 [1, 0, 5, 6, 7, 2]))
 rintro ⟨⟨ai, az, b0, b7⟩, ⟨au, ax, av⟩⟩ σ1 g
 replace g : Zp_J2 q ai az b0 b7 = some a1 := g
 unfold Zp_J2 at g
 refine cD 1 aE (fun (hn : ax = ai.length) => ?_)
 subst hn
 refine aA (lI R (lO (cX R R) (lI R (aC ?_))))
 obtain rfl := so g
 exact qA (au, ai.length, av) (fun w s => s)
 refine aI R U (bP (aR ?_))
 obtain rfl := so g
 obtain rfl := b1 _ R
 have g := b3
 refine aR (bE ?_)
 exact qI ((T, M, a9, aa), (a3, M.length, a6)) g (fun w s => (s.f 6 [2, 4, 0, 2]))
 rintro ⟨⟨ar, a2, ap, aq⟩, ⟨ae, ay, ah⟩⟩ σ1 g
 replace g : Zp_J3 j ar a2 ap aq = some r := g
 unfold Zp_J3 at g
 refine cD 5 aE (fun (hn : ay = a2.length) => ?_)
 subst hn
 refine aD (aA (lO (vz (.agg [(sc A9 j.Dims D9), (sc A10 j.Data D10)].toArray) (bF 1 cJ bO R R R R)) (aU 0 R R bO R R R R R R (lN (aK b6 [(sc A9 j.Dims D9), (sc A10 j.Data D10)] 26 :: aK F [(sc A9 j.Dims D9), (sc A10 j.Data D10)] 26 :: _ :: ow kT3 3 (.slice A10 j.Data.length D10) ar :: aK L [(sc ae a2 ah), (iv ap), (iv aq)] 145 :: RR eC ae ah a2 :: J) ?_))))
 refine aC (aB (aW ?_))
 obtain rfl := so g
 exact bU (vs := [(.agg [(sc A9 j.Dims D9), (sc A10 j.Data D10)].toArray)]) (.inl R) ((A9, j.Dims.length, D9), (A10, j.Data.length, D10), (ae, a2.length, ah)) R ⟨⟨0, b6, _, _, R, R, .inl ⟨cJ, bO, R⟩⟩, trivial⟩ R (fun w s => (s.e 8 [2, 3, 5, 4]))
theorem Z09_ok  {c1 : l1Cur} {t4 : Tensor} {U : Nat} {r : Tensor × l1Cur} (j : Z09 c1 t4 = some r) :
 FnOk Tryz.prog 33 [(pt U 0), (.agg [(.slice A5 N5 D5), (.slice A6 N6 D6)].toArray)] [aQ eC (.slice A3 N3 D3) c1.b, aK U [(.slice A3 N3 D3), (iv c1.i), (iv c1.h_)] 145, ow kT3 3 (.slice A5 N5 D5) t4.Dims, ow kT3 3 (.slice A6 N6 D6) t4.Data] (fun (h : HH × HH × HH) => ((.agg [(.slice h.1.1 h.1.2.1 h.1.2.2), (.slice h.2.1.1 h.2.1.2.1 h.2.1.2.2)].toArray), [ow kT3 3 (.slice h.1.1 h.1.2.1 h.1.2.2) r.1.Dims, ow kT3 3 (.slice h.2.1.1 h.2.1.2.1 h.2.1.2.2) r.1.Data, aQ eC (.slice h.2.2.1 h.2.2.2.1 h.2.2.2.2) r.2.b, aK U [(.slice h.2.2.1 h.2.2.2.1 h.2.2.2.2), (iv r.2.i), (iv r.2.h_)] 145])) := by
 unfold Z09 at j
 refine bN Tryz.func33 R 39 R R fun C V => ?_
 refine cM (aK _ _ _ :: ow _ _ _ _ :: ow _ _ _ _ :: aQ _ _ _ :: V) (fun w s => (s.e 4 [1, 2, 3, 0])) ?_
 refine cL 1 aH ?_
 rintro rfl
 refine cL 2 aH ?_
 rintro rfl
 refine cL 3 aE ?_
 rintro rfl
 let q : List HP := RR eC A3 D3 c1.b :: V
 refine cN (aK U [(sc A3 c1.b D3), (iv c1.i), (iv c1.h_)] 145 :: _ :: _ :: q) ?_
 refine aD (aA (gz R (fun b7 => (bM R R dC (fun b8 => (aC (aB (aD (bS (A := ((List Int) × (List Int) × (List Int) × Int × Int) × (HH × HH × HH)) (fun a => Z09_J1 a.1.1 a.1.2.1 a.1.2.2.1 a.1.2.2.2.1 a.1.2.2.2.2 = some r) (fun a => [(3, (pt b7 0)), (4, (pt b8 0))]) (fun a => aK b7 [(.slice a.2.1.1 a.2.1.2.1 a.2.1.2.2), (.slice a.2.2.1.1 a.2.2.1.2.1 a.2.2.1.2.2)] 26 :: ow kT3 3 (.slice a.2.1.1 a.2.1.2.1 a.2.1.2.2) a.1.1 :: ow kT3 3 (.slice a.2.2.1.1 a.2.2.1.2.1 a.2.2.1.2.2) a.1.2.1 :: aK b8 [(.slice none 0 0), (.slice none 0 0)] 26 :: aK U [(.slice a.2.2.2.1 a.2.2.2.2.1 a.2.2.2.2.2), (iv a.1.2.2.2.1), (iv a.1.2.2.2.2)] 145 :: aQ eC (.slice a.2.2.2.1 a.2.2.2.2.1 a.2.2.2.2.2) a.1.2.2.1 :: q) ?_ ?_)))))))))
 refine aD ?_
 obtain ⟨r9, ar, j⟩ := bd j
 refine aA (lP R (lM (RR eC A3 D3 c1.b :: aK _ _ _ :: aK _ _ _ :: aK _ _ _ :: ow _ _ _ _ :: ow _ _ _ _ :: q) (fun w s => ((s.d 5 R).e 6 [0, 3, 1, 2, 4, 5])) ?_))
 refine lC 2 rq R (Z0u_ok ar) R ?_
 rintro ⟨a7, am, a9⟩
 refine lN (aQ eC (.slice a7 am a9) r9.2.b :: aK U [(.slice a7 am a9), (iv r9.2.i), (iv r9.2.h_)] 145 :: _ :: _ :: _ :: _ :: q) ?_
 refine aY 0 aE ?_
 rintro rfl
 refine aC (aB ?_)
 rcases bG j with ⟨a0, j⟩ | ⟨a0, j⟩
 refine aL R a0 (aD ?_)
 obtain ⟨g, au, j⟩ := bd j
 refine aA (lP R (lM (aQ _ _ _ :: aK U [(sc a7 r9.2.b a9), (iv r9.2.i), (iv r9.2.h_)] 145 :: aQ _ _ _ :: aK _ _ _ :: aK _ _ _ :: ow _ _ _ _ :: ow _ _ _ _ :: q) (fun w s => ((s.d 0 R).e 7 [0, 2, 1, 3, 4, 5, 6])) ?_))
 refine lC 2 fX R (Z8_ok au) R ?_
 rintro ⟨u, an, D⟩
 refine lN (aQ eC (.slice u an D) g.2.b :: aK U [(.slice u an D), (iv g.2.i), (iv g.2.h_)] 145 :: _ :: _ :: _ :: _ :: _ :: q) ?_
 refine aY 0 aE ?_
 rintro rfl
 refine aC (aB (aM (aD (aA (lO (ji R R) (lB R (aC (aB ?_))))))))
 rcases bG j with ⟨a1, j⟩ | ⟨a1, j⟩
 refine aL R a1 ?_
 obtain ⟨ap, j⟩ := gd j
 refine aA (lO (bT 1 cA R) (lO (bV 4 bK R R R) (cC (K := kT3) (xs := ([(1 : Int)] : List Int)) (vs := [(iv 1)]) 0 R R aV bX fj R R R R R R ?_ R (fun ay b0 => ?_))))
 exact fun I h s => (fw).list [((), (1 : Int))] I h s
 refine lN (OO kT3 3 ay b0 ([(1 : Int)] : List Int) :: _ :: aK U [(sc u g.2.b D), (iv g.2.i), (iv g.2.h_)] 145 :: _ :: _ :: _ :: _ :: _ :: q) ?_
 refine lM (ow _ _ _ _ :: ow _ _ _ _ :: aQ _ _ _ :: aK _ _ _ :: aQ _ _ _ :: aK _ _ _ :: aK _ _ _ :: ow _ _ _ _ :: q) (fun w s => (s.f 8 [7, 1, 0, 7])) ?_
 refine f6 (K := kT3) 17592186044416 R R aV bX ii (Zr.zk zT3 fj) R R R R R R eM ap (fun ac ai => (lN (OO kT3 3 ac ai (t4.Data ++ ([(1 : Int)] : List Int)) :: _ :: _ :: _ :: _ :: _ :: _ :: q) ?_))
 refine lO (bT 1 cA R) (dP 5 R R fk R R R R R (lN (_ :: _ :: _ :: _ :: _ :: aK b7 [(sc A5 t4.Dims D5), (sc ac (t4.Data ++ ([(1 : Int)] : List Int)) ai)] 26 :: _ :: q) ?_))
 refine aC (aZ ?_)
 exact qI ((t4.Dims, (t4.Data ++ ([(1 : Int)] : List Int)), g.2.b, g.2.i, g.2.h_), ((A5, t4.Dims.length, D5), (ac, (t4.Data ++ ([(1 : Int)] : List Int)).length, ai), (u, g.2.b.length, D))) j (fun w s => (s.e 7 [5, 6, 0, 4, 2, 1]))
 refine aI R a1 (aD (aA (lO (ji R R) (lB R (aC (aB ?_))))))
 rcases bG j with ⟨a2, j⟩ | ⟨a2, j⟩
 refine aL R a2 (aD (aA (lO (bT 1 cA R) (lO (bV 4 bK R R R) (lO (bR aV R) (lO (iw R R) (aC (aB ?_))))))))
 rcases bG j with ⟨a3, j⟩ | ⟨a3, j⟩
 refine aL R a3 ?_
 obtain ⟨m, av, j⟩ := bd j
 obtain ⟨G, j⟩ := gd j
 refine bZ 6 aH (show 0 < t4.Data.length by have := G; omega) (fun ab o28 ha => ?_)
 subst ha
 refine eI 7 [6, 1] cF (fun ht hn => (dR 0 R (bT 1 cA R) (hS := (sL [6, 1])) (dR 1 R (bV 3 bK R R R) (hS := (sL [6, 1])) (dR 2 R (vP R) (hS := (sL [6, 1])) (d1 3 R (cC (K := kT3) (xs := ([(-1 : Int), (2147483647 : Int)] : List Int)) (vs := [(iv (-1)), (iv 2147483647)]) 0 R R aV bX fj R R R R R R ?_ R (fun ae aj => ?_)))))))
 exact fun I h s => (fw).list [((), (-1 : Int)), ((), (2147483647 : Int))] I h s
 refine lN (OO kT3 3 ae aj ([(-1 : Int), (2147483647 : Int)] : List Int) :: _ :: _ :: _ :: _ :: aK b7 [(sc A5 t4.Dims D5), (sc (ad ab o28) t4.Data D6)] 26 :: _ :: OO kT3 3 (ad ab o28) D6 t4.Data :: q) ?_
 refine aC (aP (sL [7, 2, 0]) (d1 4 R (ie (fun w s => s.shr 0 R) (lM (aQ _ _ _ :: aK _ _ _ :: RR kT3 ae aj ([(-1 : Int), (2147483647 : Int)] : List Int) :: RR kT3 ae aj ([(-1 : Int), (2147483647 : Int)] : List Int) :: aQ _ _ _ :: aQ _ _ _ :: aK _ _ _ :: aK _ _ _ :: ow _ _ _ _ :: ow _ _ _ _ :: q) (fun w s => (((s.d 1 R).d 1 R).e 10 [1, 4, 0, 2, 3, 5, 6, 7, 8, 9])) ?_))))
 refine lC 3 tN R (Z10_ok av) R ?_
 rintro ⟨a8, ao, aa⟩
 refine lN (aQ eC (.slice a8 ao aa) m.2.b :: aK U [(.slice a8 ao aa), (iv m.2.i), (iv m.2.h_)] 145 :: _ :: _ :: _ :: _ :: _ :: _ :: _ :: q) ?_
 refine aY 0 aE ?_
 rintro rfl
 refine aC (aP (sL [8, 2, 1, 0]) (dR 5 R (cK aV bX R R G) (hS := (sL [8, 2, 1, 0])) (d1 6 R (lM (ow _ _ _ _ :: aQ _ _ _ :: aK U [(sc a8 m.2.b aa), (iv m.2.i), (iv m.2.h_)] 145 :: aQ _ _ _ :: aQ _ _ _ :: aQ _ _ _ :: aK _ _ _ :: aK _ _ _ :: ow _ _ _ _ :: q) (fun w s => (s.f 9 [8, 1, 0, 8])) ?_))))
 refine eG (K := kT3) (x' := m.1) 0 (0 : Int) R R bX R R G.1 G.2 ?_ ?_
 exact fun I h s => (fw).put I h () m.1 s
 refine lN (ow kT3 3 (.slice (ad ab o28) t4.Data.length D6) (t4.Data.set (0 : Int).toNat m.1) :: _ :: _ :: _ :: _ :: _ :: _ :: _ :: _ :: q) ?_
 refine aC (aP (sL [3, 2, 1, 0]) (dD (aZ ?_)))
 exact qI ((t4.Dims, (t4.Data.set (0 : Int).toNat m.1), m.2.b, m.2.i, m.2.h_), ((A5, t4.Dims.length, D5), ((ad ab o28), t4.Data.length, D6), (a8, m.2.b.length, aa))) j (fun w s => (s.e 9 [7, 8, 0, 6, 2, 1]))
 refine aI R a3 (aN (aZ ?_))
 exact qI ((t4.Dims, t4.Data, g.2.b, g.2.i, g.2.h_), ((A5, t4.Dims.length, D5), (A6, t4.Data.length, D6), (u, g.2.b.length, D))) j (fun w s => (s.e 7 [4, 5, 6, 3, 1, 0]))
 refine aI R a2 (aD (aA (lO (ji R R) (lB R (aC (aB ?_))))))
 rcases bG j with ⟨a4, j⟩ | ⟨a4, j⟩
 refine aL R a4 ?_
 obtain ⟨aq, j⟩ := gd j
 refine aA (lO (bT 0 cG R) (lO (bV 4 bK R R R) (cC (K := kT3) (xs := ([(0 : Int)] : List Int)) (vs := [(iv 0)]) 0 R R aV bX fj R R R R R R ?_ R (fun az b1 => ?_))))
 exact fun I h s => (fw).list [((), (0 : Int))] I h s
 refine lN (OO kT3 3 az b1 ([(0 : Int)] : List Int) :: _ :: aK U [(sc u g.2.b D), (iv g.2.i), (iv g.2.h_)] 145 :: _ :: _ :: aK b7 [(sc A5 t4.Dims D5), (sc A6 t4.Data D6)] 26 :: _ :: OO kT3 3 A6 D6 t4.Data :: q) ?_
 refine lM (ow _ _ _ _ :: ow _ _ _ _ :: aQ _ _ _ :: aK _ _ _ :: aQ _ _ _ :: aK _ _ _ :: aK _ _ _ :: ow _ _ _ _ :: q) (fun w s => (s.f 8 [6, 1, 0, 6, 7, 1])) ?_
 refine f6 (K := kT3) 17592186044416 R R aV bX ii (Zr.zk zT3 fj) R R R R R R eM aq (fun ag ak => (lN (OO kT3 3 ag ak (t4.Dims ++ ([(0 : Int)] : List Int)) :: _ :: _ :: _ :: _ :: _ :: _ :: q) ?_))
 refine lO (bT 0 cG R) (dP 5 R R fk R R R R R (lN (_ :: _ :: _ :: _ :: _ :: aK b7 [(sc ag (t4.Dims ++ ([(0 : Int)] : List Int)) ak), (sc A6 t4.Data D6)] 26 :: _ :: q) ?_))
 refine aC (aZ ?_)
 exact qI (((t4.Dims ++ ([(0 : Int)] : List Int)), t4.Data, g.2.b, g.2.i, g.2.h_), ((ag, (t4.Dims ++ ([(0 : Int)] : List Int)).length, ak), (A6, t4.Data.length, D6), (u, g.2.b.length, D))) j (fun w s => (s.e 7 [5, 0, 6, 4, 2, 1]))
 refine aI R a4 (aD (aA (lO (ji R R) (lB R (aC (aB ?_))))))
 rcases bG j with ⟨a5, j⟩ | ⟨a5, j⟩
 refine aL R a5 (aA (lO (vz (.agg [(.slice none 0 0), (.slice none 0 0)].toArray) (bW fF dC R R)) (aU 4 R R bO R R R R R R (lN (_ :: _ :: _ :: _ :: aK b7 [(.slice none 0 0), (.slice none 0 0)] 26 :: OO kT3 3 A5 D5 t4.Dims :: _ :: q) ?_))))
 refine aC (aZ ?_)
 exact qI ((([] : List Int), ([] : List Int), g.2.b, g.2.i, g.2.h_), ((none, 0, 0), (none, 0, 0), (u, g.2.b.length, D))) j (fun w s => (((s.nilo kT3 3).nilo kT3 3).e 9 [6, 1, 0, 5, 3, 2]))
 refine aI R a5 (aN (aZ ?_))
 exact qI ((t4.Dims, t4.Data, g.2.b, g.2.i, g.2.h_), ((A5, t4.Dims.length, D5), (A6, t4.Data.length, D6), (u, g.2.b.length, D))) j (fun w s => (s.e 7 [4, 5, 6, 3, 1, 0]))
 refine aI R a0 (aN ?_)
 exact qI ((t4.Dims, t4.Data, r9.2.b, r9.2.i, r9.2.h_), ((A5, t4.Dims.length, D5), (A6, t4.Data.length, D6), (a7, r9.2.b.length, a9))) j (fun w s => (s.e 6 [3, 4, 5, 2, 1, 0]))
 rintro ⟨⟨E, F, a6, aw, ax⟩, ⟨⟨J, b3, M⟩, ⟨L, b4, T⟩, ⟨ah, b5, al⟩⟩⟩ σ1 j
 replace j : Z09_J1 E F a6 aw ax = some r := j
 unfold Z09_J1 at j
 refine cD 1 aH (fun (hn : b3 = E.length) => ?_)
 subst hn
 refine cD 2 aH (fun (hn : b4 = F.length) => ?_)
 subst hn
 refine cD 5 aE (fun (hn : b5 = a6.length) => ?_)
 subst hn
 refine aD (aA (lO (vz (.agg [(sc J E M), (sc L F T)].toArray) (bF 0 cJ bO R R R R)) (aU 3 R R bO R R R R R R (lN (aK b7 [(sc J E M), (sc L F T)] 26 :: OO kT3 3 J M E :: OO kT3 3 L T F :: aK b8 [(sc J E M), (sc L F T)] 26 :: aK U [(sc ah a6 al), (iv aw), (iv ax)] 145 :: RR eC ah al a6 :: q) ?_))))
 refine aC (aB (aW ?_))
 obtain rfl := so j
 exact bU (vs := [(.agg [(sc J E M), (sc L F T)].toArray)]) (.inl R) ((J, E.length, M), (L, F.length, T), (ah, a6.length, al)) R ⟨⟨3, b8, _, _, R, R, .inl ⟨cJ, bO, R⟩⟩, trivial⟩ R (fun w s => (s.e 7 [1, 2, 5, 4]))
theorem Zz_ok  {a8 : (List Int)} {r : Tensor × Tensor × Int × Int × Int × Int} (m : Zz a8 = some r) :
 FnOk Tryz.prog 7 [(.slice A2 N2 D2)] [aQ eC (.slice A2 N2 D2) a8] (fun (h : HH × HH × HH × HH) => ((.tuple [(.agg [(.slice h.1.1 h.1.2.1 h.1.2.2), (.slice h.2.1.1 h.2.1.2.1 h.2.1.2.2)].toArray), (.agg [(.slice h.2.2.1.1 h.2.2.1.2.1 h.2.2.1.2.2), (.slice h.2.2.2.1 h.2.2.2.2.1 h.2.2.2.2.2)].toArray), (iv r.2.2.1), (iv r.2.2.2.1), (iv r.2.2.2.2.1), (iv r.2.2.2.2.2)].toArray), [ow kT3 3 (.slice h.1.1 h.1.2.1 h.1.2.2) r.1.Dims, ow kT3 3 (.slice h.2.1.1 h.2.1.2.1 h.2.1.2.2) r.1.Data, ow kT3 3 (.slice h.2.2.1.1 h.2.2.1.2.1 h.2.2.1.2.2) r.2.1.Dims, ow kT3 3 (.slice h.2.2.2.1 h.2.2.2.2.1 h.2.2.2.2.2) r.2.1.Data])) := by
 unfold Zz at m
 refine bN Tryz.func7 R 77 R R fun C V => ?_
 refine cN (_ :: V) ?_
 refine cL 0 aE ?_
 rintro rfl
 let q : List HP := RR eC A2 D2 a8 :: V
 refine cN q ?_
 refine aD (aA (bM R R dC (fun b3 => (bM R R dC (fun b4 => (lI R (lI R (lI R (lI R (aC (aB (aD ?_))))))))))))
 obtain ⟨r5, dz, m⟩ := bd m
 refine aA (lS R (lM (RR eC A2 D2 a8 :: _ :: _ :: q) (fun w s => (s.d 2 R)) ?_))
 refine lC 1 wZ R (Z0h_ok dz) R ?_
 rintro ⟨⟨A7, N7, D7⟩, u⟩
 refine lN (aQ eC (.slice A7 N7 D7) r5.b :: aK u [(.slice A7 N7 D7), (iv r5.i), (iv r5.h_)] 145 :: _ :: _ :: q) ?_
 refine aY 0 aE ?_
 rintro rfl
 refine lP R (aC (aB (aD ?_)))
 obtain ⟨r9, cw, m⟩ := bd m
 refine aA (lP R (lM (aQ _ _ _ :: aK u [(sc A7 r5.b D7), (iv r5.i), (iv r5.h_)] 145 :: aQ _ _ _ :: aK _ _ _ :: aK _ _ _ :: q) (fun w s => ((s.d 0 R).e 5 [0, 2, 1, 3, 4])) ?_))
 refine lC 2 fX R (Z8_ok cw) R ?_
 rintro ⟨av, cc, bj⟩
 refine lN (aQ eC (.slice av cc bj) r9.2.b :: aK u [(.slice av cc bj), (iv r9.2.i), (iv r9.2.h_)] 145 :: _ :: _ :: _ :: q) ?_
 refine aY 0 aE ?_
 rintro rfl
 refine lO (cX R R) (lI R (aC (aB (aD ?_))))
 obtain ⟨D, cx, m⟩ := bd m
 refine aA (lP R (lM (aQ _ _ _ :: aK u [(sc av r9.2.b bj), (iv r9.2.i), (iv r9.2.h_)] 145 :: aQ _ _ _ :: aQ _ _ _ :: aK _ _ _ :: aK _ _ _ :: q) (fun w s => ((s.d 0 R).e 6 [0, 2, 1, 3, 4, 5])) ?_))
 refine lC 2 fX R (Z8_ok cx) R ?_
 rintro ⟨A14, N14, D14⟩
 refine lN (aQ eC (.slice A14 N14 D14) D.2.b :: aK u [(.slice A14 N14 D14), (iv D.2.i), (iv D.2.h_)] 145 :: _ :: _ :: _ :: _ :: q) ?_
 refine aY 0 aE ?_
 rintro rfl
 refine lO (cX R R) (lI R (aC (aB (aD ?_))))
 obtain ⟨E, cy, m⟩ := bd m
 obtain ⟨F, cz, m⟩ := bd m
 obtain ⟨G, d0, m⟩ := bd m
 obtain ⟨a9, d2, m⟩ := bd m
 obtain ⟨g, d3, m⟩ := bd m
 refine aA (lP R (lP R (lP R (lM (aQ _ _ _ :: aK u [(sc A14 D.2.b D14), (iv D.2.i), (iv D.2.h_)] 145 :: aQ _ _ _ :: aQ _ _ _ :: aQ _ _ _ :: aK _ _ _ :: aK _ _ _ :: q) (fun w s => ((s.d 0 R).e 7 [0, 2, 1, 3, 4, 5, 6])) ?_))))
 refine lC 2 fX R (Z8_ok cy) R ?_
 rintro ⟨aw, cf, bk⟩
 refine lN (aQ eC (.slice aw cf bk) E.2.b :: aK u [(.slice aw cf bk), (iv E.2.i), (iv E.2.h_)] 145 :: _ :: _ :: _ :: _ :: _ :: q) ?_
 refine aY 0 aE ?_
 rintro rfl
 refine lO (cX R R) (lI R (lI R (lO (f9 R R) (lP R (lM (aQ _ _ _ :: aK u [(sc aw E.2.b bk), (iv E.2.i), (iv E.2.h_)] 145 :: aQ _ _ _ :: aQ _ _ _ :: aQ _ _ _ :: aQ _ _ _ :: aK _ _ _ :: aK _ _ _ :: q) (fun w s => ((s.d 0 R).e 8 [0, 2, 1, 3, 4, 5, 6, 7])) ?_)))))
 refine lC 2 fX R (Z8_ok cz) R ?_
 rintro ⟨ax, cg, bl⟩
 refine lN (aQ eC (.slice ax cg bl) F.2.b :: aK u [(.slice ax cg bl), (iv F.2.i), (iv F.2.h_)] 145 :: _ :: _ :: _ :: _ :: _ :: _ :: q) ?_
 refine aY 0 aE ?_
 rintro rfl
 refine lO (cX R R) (lP R (lM (aQ _ _ _ :: aK u [(sc ax F.2.b bl), (iv F.2.i), (iv F.2.h_)] 145 :: aQ _ _ _ :: aQ _ _ _ :: aQ _ _ _ :: aQ _ _ _ :: aQ _ _ _ :: aK _ _ _ :: aK _ _ _ :: q) (fun w s => ((s.d 0 R).f 9 [0, 1, 2, 1, 1, 1, 3, 6])) ?_))
 refine lC 2 fX R (Z8_ok d0) R ?_
 rintro ⟨ay, ch, bm⟩
 refine lN (aQ eC (.slice ay ch bm) G.2.b :: aK u [(.slice ay ch bm), (iv G.2.i), (iv G.2.h_)] 145 :: _ :: _ :: _ :: _ :: _ :: _ :: _ :: q) ?_
 refine aY 0 aE ?_
 rintro rfl
 refine lO (cX R R) (cC (K := kT3) (xs := ([(aG ((1 : Int) + E.1)), (aG ((aG ((1 : Int) + r9.1)) * (aG ((1 : Int) + D.1)))), (aG ((1 : Int) + F.1)), (aG ((1 : Int) + G.1))] : List Int)) (vs := [(iv (aG ((1 : Int) + E.1))), (iv (aG ((aG ((1 : Int) + r9.1)) * (aG ((1 : Int) + D.1))))), (iv (aG ((1 : Int) + F.1))), (iv (aG ((1 : Int) + G.1)))]) 0 R R aV bX fj R R R R R R ?_ R (fun az bn => ?_))
 exact fun I h s => (fw).list [((), (aG ((1 : Int) + E.1))), ((), (aG ((aG ((1 : Int) + r9.1)) * (aG ((1 : Int) + D.1))))), ((), (aG ((1 : Int) + F.1))), ((), (aG ((1 : Int) + G.1)))] I h s
 refine lN (OO kT3 3 az bn ([(aG ((1 : Int) + E.1)), (aG ((aG ((1 : Int) + r9.1)) * (aG ((1 : Int) + D.1)))), (aG ((1 : Int) + F.1)), (aG ((1 : Int) + G.1))] : List Int) :: _ :: aK u [(sc ay G.2.b bm), (iv G.2.i), (iv G.2.h_)] 145 :: _ :: _ :: _ :: _ :: _ :: _ :: _ :: q) ?_
 refine ie (fun w s => s.shr 0 R) (lM (aQ _ _ _ :: aK _ _ _ :: RR kT3 az bn ([(aG ((1 : Int) + E.1)), (aG ((aG ((1 : Int) + r9.1)) * (aG ((1 : Int) + D.1)))), (aG ((1 : Int) + F.1)), (aG ((1 : Int) + G.1))] : List Int) :: RR kT3 az bn ([(aG ((1 : Int) + E.1)), (aG ((aG ((1 : Int) + r9.1)) * (aG ((1 : Int) + D.1)))), (aG ((1 : Int) + F.1)), (aG ((1 : Int) + G.1))] : List Int) :: aQ _ _ _ :: aQ _ _ _ :: aQ _ _ _ :: aQ _ _ _ :: aQ _ _ _ :: aQ _ _ _ :: aK _ _ _ :: aK _ _ _ :: q) (fun w s => (((s.d 1 R).d 1 R).f 12 [1, 1, 4, 1, 0, 1, 2, 2, 5, 7])) ?_)
 refine lC 3 vC R (Zp_ok d2) R ?_
 rintro ⟨⟨df, dn, dj⟩, ⟨dg, dq, dk⟩, ⟨b0, ci, bp⟩⟩
 refine lN (ow kT3 3 (.slice df dn dj) a9.1.Dims :: ow kT3 3 (.slice dg dq dk) a9.1.Data :: aQ eC (.slice b0 ci bp) a9.2.b :: aK u [(.slice b0 ci bp), (iv a9.2.i), (iv a9.2.h_)] 145 :: _ :: _ :: _ :: _ :: _ :: _ :: _ :: _ :: _ :: q) ?_
 refine aY 0 aH ?_
 rintro rfl
 refine aY 1 aH ?_
 rintro rfl
 refine aY 2 aE ?_
 rintro rfl
 refine lM (aQ _ _ _ :: aK u [(sc b0 a9.2.b bp), (iv a9.2.i), (iv a9.2.h_)] 145 :: ow _ _ _ _ :: ow _ _ _ _ :: aQ _ _ _ :: aQ _ _ _ :: aQ _ _ _ :: aQ _ _ _ :: aQ _ _ _ :: aQ _ _ _ :: aQ _ _ _ :: aQ _ _ _ :: aK _ _ _ :: aK _ _ _ :: q) (fun w s => ((s.d 2 R).f 14 [0, 1, 4, 1, 1, 3, 5, 9])) ?_
 refine lC 4 vD R (Z09_ok d3) R ?_
 rintro ⟨⟨U, dr, a3⟩, ⟨a0, ds, a4⟩, ⟨b1, cj, bq⟩⟩
 refine lN (ow kT3 3 (.slice U dr a3) g.1.Dims :: ow kT3 3 (.slice a0 ds a4) g.1.Data :: aQ eC (.slice b1 cj bq) g.2.b :: aK u [(.slice b1 cj bq), (iv g.2.i), (iv g.2.h_)] 145 :: _ :: _ :: _ :: _ :: _ :: _ :: _ :: _ :: _ :: _ :: q) ?_
 refine aY 0 aH ?_
 rintro rfl
 refine aY 1 aH ?_
 rintro rfl
 refine aY 2 aE ?_
 rintro rfl
 refine bM R R dC (fun aj => (aU 0 R R bO R R R R R R (lN (aK aj [(sc U g.1.Dims a3), (sc a0 g.1.Data a4)] 26 :: _ :: _ :: _ :: aK u [(sc b1 g.2.b bq), (iv g.2.i), (iv g.2.h_)] 145 :: _ :: _ :: _ :: _ :: _ :: _ :: _ :: _ :: _ :: _ :: q) ?_)))
 refine aC (aB (aD ?_))
 obtain ⟨J, d4, m⟩ := bd m
 obtain ⟨L, d5, m⟩ := bd m
 obtain ⟨M, d6, m⟩ := bd m
 obtain ⟨aa, d7, m⟩ := bd m
 obtain ⟨j, d8, m⟩ := bd m
 refine aA (lP R (lP R (lI R (lP R (lM (aQ _ _ _ :: aK _ _ _ :: aK _ _ _ :: ow _ _ _ _ :: ow _ _ _ _ :: aQ _ _ _ :: aQ _ _ _ :: aQ _ _ _ :: aQ _ _ _ :: aQ _ _ _ :: aQ _ _ _ :: aQ _ _ _ :: aQ _ _ _ :: aQ _ _ _ :: aK _ _ _ :: aK _ _ _ :: q) (fun w s => ((s.d 3 R).f 16 [0, 1, 5, 1, 1, 4, 6, 10])) ?_)))))
 refine lC 2 fX R (Z8_ok d4) R ?_
 rintro ⟨b2, ck, br⟩
 refine lN (aQ eC (.slice b2 ck br) J.2.b :: aK u [(.slice b2 ck br), (iv J.2.i), (iv J.2.h_)] 145 :: _ :: _ :: _ :: _ :: _ :: _ :: _ :: _ :: _ :: _ :: _ :: _ :: _ :: _ :: q) ?_
 refine aY 0 aE ?_
 rintro rfl
 refine lO (cX R R) (lO (f9 R R) (lI R (lP R (lM (aQ _ _ _ :: aK u [(sc b2 J.2.b br), (iv J.2.i), (iv J.2.h_)] 145 :: aQ _ _ _ :: aK _ _ _ :: ow _ _ _ _ :: ow _ _ _ _ :: aQ _ _ _ :: aQ _ _ _ :: aQ _ _ _ :: aQ _ _ _ :: aQ _ _ _ :: aQ _ _ _ :: aQ _ _ _ :: aQ _ _ _ :: aQ _ _ _ :: aK _ _ _ :: aK _ _ _ :: q) (fun w s => ((s.d 0 R).f 17 [0, 1, 2, 1, 1, 1, 3, 14])) ?_))))
 refine lC 2 fX R (Z8_ok d5) R ?_
 rintro ⟨b5, cm, bs⟩
 refine lN (aQ eC (.slice b5 cm bs) L.2.b :: aK u [(.slice b5 cm bs), (iv L.2.i), (iv L.2.h_)] 145 :: _ :: _ :: _ :: _ :: _ :: _ :: _ :: _ :: _ :: _ :: _ :: _ :: _ :: _ :: _ :: q) ?_
 refine aY 0 aE ?_
 rintro rfl
 refine lO (cX R R) (lP R (lM (aQ _ _ _ :: aK u [(sc b5 L.2.b bs), (iv L.2.i), (iv L.2.h_)] 145 :: aQ _ _ _ :: aQ _ _ _ :: aK _ _ _ :: ow _ _ _ _ :: ow _ _ _ _ :: aQ _ _ _ :: aQ _ _ _ :: aQ _ _ _ :: aQ _ _ _ :: aQ _ _ _ :: aQ _ _ _ :: aQ _ _ _ :: aQ _ _ _ :: aQ _ _ _ :: aK _ _ _ :: aK _ _ _ :: q) (fun w s => ((s.d 0 R).f 18 [0, 1, 2, 1, 1, 1, 3, 15])) ?_))
 refine lC 2 fX R (Z8_ok d6) R ?_
 rintro ⟨b6, cn, bu⟩
 refine lN (aQ eC (.slice b6 cn bu) M.2.b :: aK u [(.slice b6 cn bu), (iv M.2.i), (iv M.2.h_)] 145 :: _ :: _ :: _ :: _ :: _ :: _ :: _ :: _ :: _ :: _ :: _ :: _ :: _ :: _ :: _ :: _ :: q) ?_
 refine aY 0 aE ?_
 rintro rfl
 refine lO (cX R R) (cC (K := kT3) (xs := ([(aG ((aG ((1 : Int) + r9.1)) * (aG ((1 : Int) + J.1)))), (aG ((1 : Int) + D.1)), (aG ((1 : Int) + L.1)), (aG ((1 : Int) + M.1))] : List Int)) (vs := [(iv (aG ((aG ((1 : Int) + r9.1)) * (aG ((1 : Int) + J.1))))), (iv (aG ((1 : Int) + D.1))), (iv (aG ((1 : Int) + L.1))), (iv (aG ((1 : Int) + M.1)))]) 0 R R aV bX fj R R R R R R ?_ R (fun b7 bv => ?_))
 exact fun I h s => (fw).list [((), (aG ((aG ((1 : Int) + r9.1)) * (aG ((1 : Int) + J.1))))), ((), (aG ((1 : Int) + D.1))), ((), (aG ((1 : Int) + L.1))), ((), (aG ((1 : Int) + M.1)))] I h s
 refine lN (OO kT3 3 b7 bv ([(aG ((aG ((1 : Int) + r9.1)) * (aG ((1 : Int) + J.1)))), (aG ((1 : Int) + D.1)), (aG ((1 : Int) + L.1)), (aG ((1 : Int) + M.1))] : List Int) :: _ :: aK u [(sc b6 M.2.b bu), (iv M.2.i), (iv M.2.h_)] 145 :: _ :: _ :: _ :: _ :: _ :: _ :: _ :: _ :: _ :: _ :: _ :: _ :: _ :: _ :: _ :: _ :: q) ?_
 refine ie (fun w s => s.shr 0 R) (lM (aQ _ _ _ :: aK _ _ _ :: RR kT3 b7 bv ([(aG ((aG ((1 : Int) + r9.1)) * (aG ((1 : Int) + J.1)))), (aG ((1 : Int) + D.1)), (aG ((1 : Int) + L.1)), (aG ((1 : Int) + M.1))] : List Int) :: RR kT3 b7 bv ([(aG ((aG ((1 : Int) + r9.1)) * (aG ((1 : Int) + J.1)))), (aG ((1 : Int) + D.1)), (aG ((1 : Int) + L.1)), (aG ((1 : Int) + M.1))] : List Int) :: aQ _ _ _ :: aQ _ _ _ :: aQ _ _ _ :: aK _ _ _ :: ow _ _ _ _ :: ow _ _ _ _ :: aQ _ _ _ :: aQ _ _ _ :: aQ _ _ _ :: aQ _ _ _ :: aQ _ _ _ :: aQ _ _ _ :: aQ _ _ _ :: aQ _ _ _ :: aQ _ _ _ :: aK _ _ _ :: aK _ _ _ :: q) (fun w s => (((s.d 1 R).d 1 R).f 21 [1, 1, 4, 1, 0, 1, 2, 2, 5, 16])) ?_)
 refine lC 3 vC R (Zp_ok d7) R ?_
 rintro ⟨⟨dh, dt, dl⟩, ⟨di, du, dm⟩, ⟨b9, co, bw⟩⟩
 refine lN (ow kT3 3 (.slice dh dt dl) aa.1.Dims :: ow kT3 3 (.slice di du dm) aa.1.Data :: aQ eC (.slice b9 co bw) aa.2.b :: aK u [(.slice b9 co bw), (iv aa.2.i), (iv aa.2.h_)] 145 :: _ :: _ :: _ :: _ :: _ :: _ :: _ :: _ :: _ :: _ :: _ :: _ :: _ :: _ :: _ :: _ :: _ :: _ :: q) ?_
 refine aY 0 aH ?_
 rintro rfl
 refine aY 1 aH ?_
 rintro rfl
 refine aY 2 aE ?_
 rintro rfl
 refine lM (aQ _ _ _ :: aK u [(sc b9 aa.2.b bw), (iv aa.2.i), (iv aa.2.h_)] 145 :: ow _ _ _ _ :: ow _ _ _ _ :: aQ _ _ _ :: aQ _ _ _ :: aQ _ _ _ :: aQ _ _ _ :: aQ _ _ _ :: aK _ _ _ :: ow _ _ _ _ :: ow _ _ _ _ :: aQ _ _ _ :: aQ _ _ _ :: aQ _ _ _ :: aQ _ _ _ :: aQ _ _ _ :: aQ _ _ _ :: aQ _ _ _ :: aQ _ _ _ :: aQ _ _ _ :: aK _ _ _ :: aK _ _ _ :: q) (fun w s => ((s.d 2 R).f 23 [0, 1, 4, 1, 1, 3, 5, 18])) ?_
 refine lC 4 vD R (Z09_ok d8) R ?_
 rintro ⟨⟨a1, dv, a5⟩, ⟨a2, dw, a6⟩, ⟨ba, cp, bz⟩⟩
 refine lN (ow kT3 3 (.slice a1 dv a5) j.1.Dims :: ow kT3 3 (.slice a2 dw a6) j.1.Data :: aQ eC (.slice ba cp bz) j.2.b :: aK u [(.slice ba cp bz), (iv j.2.i), (iv j.2.h_)] 145 :: _ :: _ :: _ :: _ :: _ :: _ :: _ :: _ :: _ :: _ :: _ :: _ :: _ :: _ :: _ :: _ :: _ :: _ :: _ :: q) ?_
 refine aY 0 aH ?_
 rintro rfl
 refine aY 1 aH ?_
 rintro rfl
 refine aY 2 aE ?_
 rintro rfl
 refine bM R R dC (fun ak => (aU 0 R R bO R R R R R R (lN (aK ak [(sc a1 j.1.Dims a5), (sc a2 j.1.Data a6)] 26 :: _ :: _ :: _ :: aK u [(sc ba j.2.b bz), (iv j.2.i), (iv j.2.h_)] 145 :: _ :: _ :: _ :: _ :: _ :: _ :: _ :: _ :: _ :: _ :: _ :: _ :: _ :: _ :: _ :: _ :: _ :: _ :: _ :: q) ?_)))
 refine aC (aB (aD (bS (A := ((List Int) × Int × Int × Int) × (HH)) (fun a => Zz_J1 g j a.1.1 a.1.2.1 a.1.2.2.1 a.1.2.2.2 = some r) (fun a => [(2, (pt b3 0)), (3, (pt b4 0)), (8, (pt u 0)), (9, (iv a.1.2.2.2)), (11, (pt aj 0)), (12, (pt ak 0))]) (fun a => aK b3 [(.slice none 0 0), (.slice none 0 0)] 26 :: aK b4 [(.slice none 0 0), (.slice none 0 0)] 26 :: aK u [(.slice a.2.1 a.2.2.1 a.2.2.2), (iv a.1.2.1), (iv a.1.2.2.1)] 145 :: aQ eC (.slice a.2.1 a.2.2.1 a.2.2.2) a.1.1 :: aK aj [(sc U g.1.Dims a3), (sc a0 g.1.Data a4)] 26 :: OO kT3 3 U a3 g.1.Dims :: OO kT3 3 a0 a4 g.1.Data :: aK ak [(sc a1 j.1.Dims a5), (sc a2 j.1.Data a6)] 26 :: OO kT3 3 a1 a5 j.1.Dims :: OO kT3 3 a2 a6 j.1.Data :: q) ?_ ?_)))
 refine aD ?_
 obtain ⟨T, d9, m⟩ := bd m
 refine aA (lP R (lM (aQ _ _ _ :: aK _ _ _ :: aK _ _ _ :: ow _ _ _ _ :: ow _ _ _ _ :: aQ _ _ _ :: aQ _ _ _ :: aQ _ _ _ :: aQ _ _ _ :: aQ _ _ _ :: aQ _ _ _ :: aK _ _ _ :: ow _ _ _ _ :: ow _ _ _ _ :: aQ _ _ _ :: aQ _ _ _ :: aQ _ _ _ :: aQ _ _ _ :: aQ _ _ _ :: aQ _ _ _ :: aQ _ _ _ :: aQ _ _ _ :: aQ _ _ _ :: aK _ _ _ :: aK _ _ _ :: q) (fun w s => ((s.d 3 R).f 25 [0, 1, 5, 1, 1, 4, 6, 19])) ?_))
 refine lC 2 rq R (Z0u_ok d9) R ?_
 rintro ⟨ap, cq, ar⟩
 refine lN (aQ eC (.slice ap cq ar) T.2.b :: aK u [(.slice ap cq ar), (iv T.2.i), (iv T.2.h_)] 145 :: _ :: _ :: _ :: _ :: _ :: _ :: _ :: _ :: _ :: _ :: _ :: _ :: _ :: _ :: _ :: _ :: _ :: _ :: _ :: _ :: _ :: _ :: _ :: q) ?_
 refine aY 0 aE ?_
 rintro rfl
 refine aC (aB ?_)
 rcases bG m with ⟨am, m⟩ | ⟨am, m⟩
 refine aL R am (aA (lI R (lO (cX R R) (lI R (aC ?_)))))
 exact qI ((T.2.b, T.2.i, T.2.h_, (aG ((aG ((1 : Int) + r9.1)) + (1 : Int)))), (ap, T.2.b.length, ar)) m (fun w s => (s.e 25 [24, 23, 1, 0, 11, 12, 13, 2, 3, 4]))
 refine aI R am (aN ?_)
 exact qI ((T.2.b, T.2.i, T.2.h_, (aG ((1 : Int) + r9.1))), (ap, T.2.b.length, ar)) m (fun w s => (s.e 25 [24, 23, 1, 0, 11, 12, 13, 2, 3, 4]))
 rintro ⟨⟨ah, c8, c9, al⟩, ⟨bb, dx, c0⟩⟩ σ1 m
 replace m : Zz_J1 g j ah c8 c9 al = some r := m
 unfold Zz_J1 at m
 refine cD 3 aE (fun (hn : dx = ah.length) => ?_)
 subst hn
 refine aD ?_
 obtain ⟨ac, da, m⟩ := bd m
 refine aA (lP R (lM (RR eC bb c0 ah :: aK u [(sc bb ah c0), (iv c8), (iv c9)] 145 :: aK _ _ _ :: aK _ _ _ :: RR eC bb c0 ah :: aK _ _ _ :: ow _ _ _ _ :: ow _ _ _ _ :: aK _ _ _ :: ow _ _ _ _ :: ow _ _ _ _ :: q) (fun w s => ((s.d 3 R).f 11 [0, 1, 3, 1, 1, 2, 4, 7])) ?_))
 refine lC 2 fX R (Z8_ok (c1 := (⟨ah, c8, c9⟩ : l1Cur)) da) R ?_
 rintro ⟨bc, cr, c2⟩
 refine lN (aQ eC (.slice bc cr c2) ac.2.b :: aK u [(.slice bc cr c2), (iv ac.2.i), (iv ac.2.h_)] 145 :: _ :: _ :: _ :: _ :: _ :: _ :: _ :: _ :: _ :: q) ?_
 refine aY 0 aE ?_
 rintro rfl
 refine lI R (aC (aB (aD (bS (A := ((List Int) × Int × Int × Int) × (HH)) (fun a => Zz_J2 g j al a.1.1 a.1.2.1 a.1.2.2.1 a.1.2.2.2 = some r) (fun a => [(2, (pt b3 0)), (3, (pt b4 0)), (8, (pt u 0)), (9, (iv al)), (11, (pt aj 0)), (12, (pt ak 0)), (13, (iv a.1.2.2.2))]) (fun a => aK b3 [(.slice none 0 0), (.slice none 0 0)] 26 :: aK b4 [(.slice none 0 0), (.slice none 0 0)] 26 :: aK u [(.slice a.2.1 a.2.2.1 a.2.2.2), (iv a.1.2.1), (iv a.1.2.2.1)] 145 :: aQ eC (.slice a.2.1 a.2.2.1 a.2.2.2) a.1.1 :: aK aj [(sc U g.1.Dims a3), (sc a0 g.1.Data a4)] 26 :: OO kT3 3 U a3 g.1.Dims :: OO kT3 3 a0 a4 g.1.Data :: aK ak [(sc a1 j.1.Dims a5), (sc a2 j.1.Data a6)] 26 :: OO kT3 3 a1 a5 j.1.Dims :: OO kT3 3 a2 a6 j.1.Data :: q) ?_ ?_))))
 refine aD ?_
 obtain ⟨a7, db, m⟩ := bd m
 refine aA (lP R (lM (aQ _ _ _ :: aK u [(sc bc ac.2.b c2), (iv ac.2.i), (iv ac.2.h_)] 145 :: aQ _ _ _ :: aK _ _ _ :: aK _ _ _ :: aQ _ _ _ :: aK _ _ _ :: ow _ _ _ _ :: ow _ _ _ _ :: aK _ _ _ :: ow _ _ _ _ :: ow _ _ _ _ :: q) (fun w s => ((s.d 0 R).f 12 [0, 1, 2, 1, 1, 1, 3, 9])) ?_))
 refine lC 2 rq R (Z0u_ok db) R ?_
 rintro ⟨aq, cs, au⟩
 refine lN (aQ eC (.slice aq cs au) a7.2.b :: aK u [(.slice aq cs au), (iv a7.2.i), (iv a7.2.h_)] 145 :: _ :: _ :: _ :: _ :: _ :: _ :: _ :: _ :: _ :: _ :: q) ?_
 refine aY 0 aE ?_
 rintro rfl
 refine aC (aB ?_)
 rcases bG m with ⟨an, m⟩ | ⟨an, m⟩
 refine aL R an ?_
 obtain ⟨ab, dc, m⟩ := bd m
 refine aA (lP R (cC (K := kT3) (xs := ([(-1 : Int), (4096 : Int), (4097 : Int)] : List Int)) (vs := [(iv (-1)), (iv 4096), (iv 4097)]) 0 R R aV bX fj R R R R R R ?_ R (fun be c3 => ?_)))
 exact fun I h s => (fw).list [((), (-1 : Int)), ((), (4096 : Int)), ((), (4097 : Int))] I h s
 refine lN (OO kT3 3 be c3 ([(-1 : Int), (4096 : Int), (4097 : Int)] : List Int) :: _ :: aK u [(sc aq a7.2.b au), (iv a7.2.i), (iv a7.2.h_)] 145 :: _ :: _ :: _ :: _ :: _ :: _ :: _ :: _ :: _ :: _ :: q) ?_
 refine ie (fun w s => s.shr 0 R) (lM (aQ _ _ _ :: aK _ _ _ :: RR kT3 be c3 ([(-1 : Int), (4096 : Int), (4097 : Int)] : List Int) :: RR kT3 be c3 ([(-1 : Int), (4096 : Int), (4097 : Int)] : List Int) :: aQ _ _ _ :: aQ _ _ _ :: aK _ _ _ :: aK _ _ _ :: aQ _ _ _ :: aK _ _ _ :: ow _ _ _ _ :: ow _ _ _ _ :: aK _ _ _ :: ow _ _ _ _ :: ow _ _ _ _ :: q) (fun w s => (((s.d 1 R).d 1 R).f 15 [1, 1, 4, 1, 0, 1, 2, 2, 5, 10])) ?_)
 refine lC 3 tN R (Z10_ok dc) R ?_
 rintro ⟨bf, ct, c4⟩
 refine lN (aQ eC (.slice bf ct c4) ab.2.b :: aK u [(.slice bf ct c4), (iv ab.2.i), (iv ab.2.h_)] 145 :: _ :: _ :: _ :: _ :: _ :: _ :: _ :: _ :: _ :: _ :: _ :: _ :: q) ?_
 refine aY 0 aE ?_
 rintro rfl
 refine lI R (aC ?_)
 exact qI ((ab.2.b, ab.2.i, ab.2.h_, ab.1), (bf, ab.2.b.length, c4)) m (fun w s => (s.f 14 [5, 2, 1, 1, 0, 1, 8, 6]))
 refine aI R an (aN ?_)
 exact qI ((a7.2.b, a7.2.i, a7.2.h_, ac.1), (aq, a7.2.b.length, au)) m (fun w s => (s.f 12 [3, 2, 1, 1, 0, 1, 6, 6]))
 rintro ⟨⟨ai, ca, cb, ao⟩, ⟨bg, dy, c5⟩⟩ σ1 m
 replace m : Zz_J2 g j al ai ca cb ao = some r := m
 unfold Zz_J2 at m
 refine cD 3 aE (fun (hn : dy = ai.length) => ?_)
 subst hn
 refine aD ?_
 obtain ⟨ae, dd, m⟩ := bd m
 obtain ⟨ag, de, m⟩ := bd m
 refine eI 16 [2, 1, 0] cF (fun ht hn => (dR 0 R (vz (.agg [(sc U g.1.Dims a3), (sc a0 g.1.Data a4)].toArray) (bF 1 cJ bO R R R R)) (hS := (sL [2, 1, 0])) (dR 1 R (vz (.agg [(sc a1 j.1.Dims a5), (sc a2 j.1.Data a6)].toArray) (bF 4 cJ bO R R R R)) (hS := (sL [2, 1, 0])) (dR 2 R (vP R) (hS := (sL [2, 1, 0])) (dR 5 R (vI R) (hS := (sL [2, 1, 0])) (dR 6 R (vP R) (hS := (sL [2, 1, 0])) (dR 9 R (vI R) (hS := (sL [2, 1, 0])) (d1 3 R (lM (RR eC bg c5 ai :: aK u [(sc bg ai c5), (iv ca), (iv cb)] 145 :: aK _ _ _ :: aK _ _ _ :: RR eC bg c5 ai :: aK _ _ _ :: ow _ _ _ _ :: ow _ _ _ _ :: aK _ _ _ :: ow _ _ _ _ :: ow _ _ _ _ :: q) (fun w s => ((s.d 3 R).f 11 [0, 1, 3, 1, 1, 2, 4, 7])) ?_)))))))))
 refine lC 2 fX R (Z8_ok (c1 := (⟨ai, ca, cb⟩ : l1Cur)) dd) R ?_
 rintro ⟨bh, cu, c6⟩
 refine lN (aQ eC (.slice bh cu c6) ae.2.b :: aK u [(.slice bh cu c6), (iv ae.2.i), (iv ae.2.h_)] 145 :: _ :: _ :: _ :: _ :: _ :: _ :: _ :: _ :: _ :: q) ?_
 refine aY 0 aE ?_
 rintro rfl
 refine aC (aP (sL [3, 2, 1, 0]) (dR 4 R (cX R R) (hS := (sL [3, 2, 1, 0])) (d1 7 R (lM (aQ _ _ _ :: aK u [(sc bh ae.2.b c6), (iv ae.2.i), (iv ae.2.h_)] 145 :: aQ _ _ _ :: aK _ _ _ :: aK _ _ _ :: aQ _ _ _ :: aK _ _ _ :: ow _ _ _ _ :: ow _ _ _ _ :: aK _ _ _ :: ow _ _ _ _ :: ow _ _ _ _ :: q) (fun w s => ((s.d 0 R).f 12 [0, 1, 2, 1, 1, 1, 3, 9])) ?_))))
 refine lC 2 fX R (Z8_ok de) R ?_
 rintro ⟨bi, cv, c7⟩
 refine lN (aQ eC (.slice bi cv c7) ag.2.b :: aK u [(.slice bi cv c7), (iv ag.2.i), (iv ag.2.h_)] 145 :: _ :: _ :: _ :: _ :: _ :: _ :: _ :: _ :: _ :: _ :: q) ?_
 refine aY 0 aE ?_
 rintro rfl
 refine aC (aP (sL [4, 3, 2, 1, 0]) (dR 8 R (cX R R) (hS := (sL [4, 3, 2, 1, 0])) (d1 10 R (aU 3 R R bO R R R R R R (lN (_ :: aK u [(sc bi ag.2.b c7), (iv ag.2.i), (iv ag.2.h_)] 145 :: _ :: aK b3 [(sc U g.1.Dims a3), (sc a0 g.1.Data a4)] 26 :: _ :: _ :: _ :: _ :: _ :: _ :: _ :: _ :: q) ?_)))))
 refine aC (aP (sL [4, 3, 2, 1, 0]) (d1 11 R (aU 4 R R bO R R R R R R (lN (_ :: _ :: _ :: _ :: aK b4 [(sc a1 j.1.Dims a5), (sc a2 j.1.Data a6)] 26 :: _ :: _ :: _ :: _ :: _ :: _ :: _ :: q) ?_))))
 refine aC (aP (sL [4, 3, 2, 1, 0]) (dR 12 R (vI R) (hS := (sL [4, 3, 2, 1, 0])) (dR 13 R (vI R) (hS := (sL [4, 3, 2, 1, 0])) (dR 14 R (vI R) (hS := (sL [4, 3, 2, 1, 0])) (dR 15 R (vI R) (hS := (sL [4, 3, 2, 1, 0])) (dD (aB (aW ?_))))))))
 obtain rfl := so m
 exact bU (vs := [(.agg [(sc U g.1.Dims a3), (sc a0 g.1.Data a4)].toArray), (.agg [(sc a1 j.1.Dims a5), (sc a2 j.1.Data a6)].toArray), (iv (aG ((1 : Int) + ae.1))), (iv ao), (iv (aG ((1 : Int) + ag.1))), (iv al)]) (.inl R) ((U, g.1.Dims.length, a3), (a0, g.1.Data.length, a4), (a1, j.1.Dims.length, a5), (a2, j.1.Data.length, a6)) R ⟨⟨3, b3, _, _, R, R, .inl ⟨cJ, bO, R⟩⟩, ⟨4, b4, _, _, R, R, .inl ⟨cJ, bO, R⟩⟩, R, R, R, R, trivial⟩ R (fun w s => (s.e 13 [7, 8, 10, 11]))
theorem Z0c_ok  {a : (List Int)} {r : Bool} (i : Z0c a = some r) :
 FnOk Tryz.prog 46 [(.slice A2 N2 D2)] [aQ kT3 (.slice A2 N2 D2) a] (fun (h : Unit) => ((.bool r), [])) := by
 unfold Z0c at i
 refine bN Tryz.func46 R 11 R R fun C V => ?_
 refine cN (_ :: V) ?_
 refine cL 0 aE ?_
 rintro rfl
 let g : List HP := RR kT3 A2 D2 a :: V
 refine cN g ?_
 refine aD (aA (lB R (aC (aB (aD ?_)))))
 obtain ⟨m, j, i⟩ := bd i
 refine cQ [(2, (.bool ((decide ((a.length : Int) ≤ (6 : Int))) && (decide (m > (0 : Int))))))] (g) ?_ ?_
 refine aA (lS R (lO (bR aV R) (lO (sh R R) (lB R ?_))))
 rcases bo (decide ((a.length : Int) ≤ (6 : Int))) with b | b
 refine lW (eB b) (vS R) (lM (RR kT3 A2 D2 a :: g) (fun w s => (s.d 0 R)) ?_)
 refine cU 1 R (eB b) mF R (Zj_ok (cZ j b)) R ?_
 rintro _
 refine lN g ?_
 refine lW (eB b) (iw R R) (lO (kx R b R) (lB R (aC ?_)))
 exact qJ (fun w s => s)
 refine lf (dV b) (lf (dV b) (lf (dV b) (lO (kn (decide (m > (0 : Int))) R b) (lB R (aC ?_)))))
 exact qJ (fun w s => s)
 rintro σ1
 refine aB (aW ?_)
 obtain rfl := so i
 exact qF () (fun w s => (s.e 1 []))
theorem Zm_ok  {t1 : Tensor} {r : Bool} (i : Zm t1 = some r) :
 FnOk Tryz.prog 29 [(.agg [(.slice A2 N2 D2), (.slice A3 N3 D3)].toArray)] [aQ kT3 (.slice A2 N2 D2) t1.Dims, aQ kT3 (.slice A3 N3 D3) t1.Data] (fun (h : Unit) => ((.bool r), [])) := by
 unfold Zm at i
 refine bN Tryz.func29 R 38 R R fun C V => ?_
 refine cN (_ :: _ :: V) ?_
 refine cL 0 aE ?_
 rintro rfl
 refine cL 1 aE ?_
 rintro rfl
 let U : List HP := RR kT3 A2 D2 t1.Dims :: RR kT3 A3 D3 t1.Data :: V
 refine cN U ?_
 refine aD (aA (gz R (fun L => (lB R (aC ?_)))))
 let q : List HP := aK L [(sc A2 t1.Dims D2), (sc A3 t1.Data D3)] 26 :: U
 refine qN q ?_
 refine aB (aD (aD ?_))
 obtain ⟨r5, I, i⟩ := bd i
 obtain ⟨r7, T, i⟩ := bd i
 refine cQ [(1, (pt L 0)), (16, (.bool ((!r5) || ((t1.Data.length : Int) != r7))))] (q) ?_ ?_
 rcases bo (!r5) with g | g
 refine eI 13 [] cF (fun ht hn => (dR 0 R (bT 0 cG R) (dR 1 R (bV 0 bK R R R) (d1 2 R (lM (RR kT3 A2 D2 t1.Dims :: q) (fun w s => (s.d 1 R)) ?_)))))
 refine lC 1 lY R (Z0c_ok I) R ?_
 rintro _
 refine lN q ?_
 refine aC (aP (sL []) (dR 3 R (ft R) (dR 4 R (vB R) (dF 5 R (aT g) (dF 6 R (aT g) (dF 7 R (aT g) (dF 8 R (aT g) (dF 9 R (aT g) (dF 10 R (aT g) (dF 11 R (aT g) (dR 12 R (cW ((t1.Data.length : Int) != r7) R g) (dD ?_))))))))))))
 exact qJ (fun w s => s)
 refine eI 13 [] cF (fun ht hn => (dR 0 R (bT 0 cG R) (dR 1 R (bV 0 bK R R R) (d1 2 R (lM (RR kT3 A2 D2 t1.Dims :: q) (fun w s => (s.d 1 R)) ?_)))))
 refine lC 1 lY R (Z0c_ok I) R ?_
 rintro _
 refine lN q ?_
 refine aC (aP (sL []) (dR 3 R (ft R) (dR 4 R (vB R) (dW 5 R (bI g) (bT 1 cA R) (dW 6 R (bI g) (bV 0 bK R R R) (dW 7 R (bI g) (bR aV R) (dW 8 R (bI g) (bT 0 cG R) (dW 9 R (bI g) (bV 0 bK R R R) (d1 10 R (lM (RR kT3 A2 D2 t1.Dims :: q) (fun w s => (s.d 1 R)) ?_))))))))))
 refine cU 1 R (bI g) mF R (Zj_ok (cZ T (dY g))) R ?_
 rintro _
 refine lN q ?_
 refine aC (aP (sL []) (dW 11 R (bI g) (ig R R) (dR 12 R (eS R g R) (dD ?_))))
 exact qJ (fun w s => s)
 rintro σ1
 refine aB ?_
 rcases bG i with ⟨u, i⟩ | ⟨u, i⟩
 refine aL R u (aD (aA (lB R (aC (aB (aW (bA ?_)))))))
 obtain rfl := so i
 exact qF () (fun w s => (s.e 3 []))
 refine aI R u (aN (aB (aD (bS (A := (Unit) × (Unit)) (fun a => Zm_J1 = some r) (fun a => []) (fun a => q) ?_ ?_))))
 refine aD (aA (lI R (aC (aB (aM ?_)))))
 obtain ⟨e1, M, G⟩ := bd i
 refine bQ (A := Unit) M (fun s a => [(1, (pt L 0)), (3, (iv s))]) (fun s a => q) () (aS R) (fun w s => s) ?_
 rintro m _ σ1 J i F
 replace i : Zm_L1 t1 m = some J := i
 unfold Zm_L1 at i
 refine aD (aD (aA (lI R (lO (bT 1 cA R) (lO (bV 0 bK R R R) (lO (bR aV R) (lO (dQ R R) (aC (aB ?_)))))))))
 rcases bG i with ⟨D, i⟩ | ⟨D, i⟩
 refine aL R D (aN (aB (aD (aM (aD ?_)))))
 obtain ⟨j, i⟩ := gd i
 refine cQ [(1, (pt L 0)), (3, (iv m)), (37, (.bool ((decide ((ix t1.Data m) < (0 : Int))) || (decide ((ix t1.Data m) ≥ (2147483647 : Int))))))] (q) ?_ ?_
 refine aA (lO (bT 1 cA R) (lO (bV 0 bK R R R) (lI R (bY 2 aE (show 0 < t1.Data.length by have := j; omega) (fun a0 o21 ha => ?_)))))
 subst ha
 refine lO (cK aV bX R R j) (lO (dL 2 cE aE R j) (lO (dQ R R) (lB R ?_)))
 rcases bo (decide ((ix t1.Data m) < (0 : Int))) with b | b
 refine lf (aT b) (lf (aT b) (lf (aT b) (lf (aT b) (lf (aT b) (lf (aT b) (lO (cW (decide ((ix t1.Data m) ≥ (2147483647 : Int))) R b) (aC ?_)))))))
 exact qJ (fun w s => s)
 refine lW (bI b) (bT 1 cA R) (lW (bI b) (bV 0 bK R R R) (lW (bI b) (vI R) (lW (bI b) (cK aV bX R R j) (lW (bI b) (dL 2 cE aE R j) (lW (bI b) (jW R R) (lO (eS R b R) (aC ?_)))))))
 exact qJ (fun w s => s)
 rintro σ1
 refine aB ?_
 rcases bG i with ⟨E, i⟩ | ⟨E, i⟩
 refine aL R E (aD (aA (lB R (aC (aB (aW (bB (bA ?_))))))))
 obtain rfl := so i
 obtain rfl := F _ R
 have i := G
 refine bA (bB (bA ?_))
 obtain rfl := so i
 exact qF () (fun w s => (s.e 3 []))
 refine aI R E (aN (aZ (aB (aA (lI R (lO (cX R R) (lI R (aC ?_))))))))
 obtain rfl := so i
 exact qA () (fun w s => s)
 refine aI R D (bP (aR ?_))
 obtain rfl := so i
 obtain rfl := F _ R
 have i := G
 refine aR (bE ?_)
 exact eF ((), ()) i trivial (fun w s => s)
 rintro ⟨_, _⟩ σ1 i
 replace i : Zm_J1 = some r := i
 unfold Zm_J1 at i
 refine aD (aA (lB R (aC (aB (aW ?_)))))
 obtain rfl := so i
 exact qF () (fun w s => (s.e 3 []))
theorem Z0v_ok  {p1 : Int} {e : Int} {b : Int} {r : Bool} (g : Z0v p1 e b = some r) :
 FnOk Tryz.prog 44 [(iv p1), (iv e), (iv b)] [] (fun (h : Unit) => ((.bool r), [])) := by
 unfold Z0v at g
 refine bN Tryz.func44 R 15 R R fun C V => ?_
 refine cN V ?_
 refine aD (aA (lB R (aC (aB (aD (cQ [(6, (.bool ((decide (p1 ≥ e)) && (decide (p1 ≤ b)))))] (V) ?_ ?_))))))
 refine aA (lI R (lI R (lO (jW R R) (lB R ?_))))
 rcases bo (decide (p1 ≥ e)) with a | a
 refine lW (eB a) (vI R) (lW (eB a) (vI R) (lW (eB a) (sh R R) (lO (kx R a R) (lB R (aC ?_)))))
 exact qJ (fun w s => s)
 refine lf (dV a) (lf (dV a) (lf (dV a) (lO (kn (decide (p1 ≤ b)) R a) (lB R (aC ?_)))))
 exact qJ (fun w s => s)
 rintro σ1
 refine aB (aW ?_)
 obtain rfl := so g
 exact qF () (fun w s => s)
theorem Z13_ok  {m : Int} {a : Int} {b : Int} {r : Int} (i : Z13 m a b = some r) :
 FnOk Tryz.prog 45 [(iv m), (iv a), (iv b)] [] (fun (h : Unit) => ((iv r), [])) := by
 unfold Z13 at i
 refine bN Tryz.func45 R 24 R R fun C V => ?_
 refine cN V ?_
 refine aD (aA (lI R (aC (aB (aD (aD (cQ [(0, (iv m)), (1, (iv a)), (2, (iv b)), (17, (.bool (((decide (a < (1 : Int))) || (decide (b < (1 : Int)))) || (decide (a > m)))))] (V) ?_ ?_)))))))
 refine aA (lI R (lO (dQ R R) (lB R ?_)))
 rcases bo (decide (a < (1 : Int))) with e | e
 refine lf (aT e) (lf (aT e) (lO (cW (decide (b < (1 : Int))) R e) (lB R (lf (aT (oT e)) (lf (aT (oT e)) (lf (aT (oT e)) (lO (cW (decide (a > m)) R (oT e)) (aC ?_))))))))
 exact qJ (fun w s => s)
 refine lW (bI e) (vI R) (lW (bI e) (dQ R R) (lO (eS R e R) (lB R ?_)))
 rcases bo ((decide (a < (1 : Int))) || (decide (b < (1 : Int)))) with g | g
 refine lf (aT g) (lf (aT g) (lf (aT g) (lO (cW (decide (a > m)) R g) (aC ?_))))
 exact qJ (fun w s => s)
 refine lW (bI g) (vI R) (lW (bI g) (vI R) (lW (bI g) (iw R R) (lO (eS R g R) (aC ?_))))
 exact qJ (fun w s => s)
 rintro σ1
 refine aB ?_
 rcases bG i with ⟨j, i⟩ | ⟨j, i⟩
 refine aL R j (aD (aA (lI R (aC (aB (aW (bA ?_)))))))
 obtain rfl := so i
 exact qF () (fun w s => s)
 refine aI R j (aN (aB (aD ?_)))
 obtain ⟨q, i⟩ := gd i
 refine aA (lI R (lI R (lO (hM R R) (lI R (lO (vz (iv (aG ((aG (m - a)).tdiv b))) (gO R R q)) (lO (cX R R) (lI R (aC (aB (aW ?_))))))))))
 obtain rfl := so i
 exact qF () (fun w s => s)
theorem Zh_ok  {b : (List Int)} {k3 : Int} {r : (List Int)} (g : Zh b k3 = some r) :
 FnOk Tryz.prog 49 [(.slice A2 N2 D2), (iv k3)] [aQ kT3 (.slice A2 N2 D2) b] (fun (h : HH) => ((.slice h.1 h.2.1 h.2.2), [ow kT3 3 (.slice h.1 h.2.1 h.2.2) r])) := by
 unfold Zh at g
 refine bN Tryz.func49 R 33 R R fun C V => ?_
 refine cN (_ :: V) ?_
 refine cL 0 aE ?_
 rintro rfl
 let J : List HP := RR kT3 A2 D2 b :: V
 refine cN J ?_
 refine aD (aA (lS R (aC (aB (aD ?_)))))
 obtain ⟨G, g⟩ := gd g
 refine aA (lS R (lO (bR aV R) (fG (K := kT3) (m := (b.length : Int)) (z := (0 : Int)) R R aV bX ii (Zr.zk zT3 fj) (by decide) R R G.1 G.2.1 G.2.2 (fun A5 D5 => (lS R (aC (aB (aD (bS (A := ((List Int)) × (Unit)) (fun a => Zh_J1 a.1 = some r) (fun a => [(5, (sc A5 (List.replicate (b.length : Int).toNat (0 : Int)) D5))]) (fun a => ow kT3 3 (.slice A5 (List.replicate (b.length : Int).toNat (0 : Int)).length D5) a.1 :: J) ?_ ?_)))))))))
 refine aD (aA (lS R (lO (bR aV R) (lO (hM R R) (lI R (aC (aB (aM ?_))))))))
 obtain ⟨e1, a1, a0⟩ := bd g
 refine bQ (A := Unit) a1 (fun s a => [(0, (sc A2 b D2)), (1, (iv s.1)), (5, (sc A5 (List.replicate (b.length : Int).toNat (0 : Int)) D5)), (6, (iv s.2.2))]) (fun s a => ow kT3 3 (.slice A5 (List.replicate (b.length : Int).toNat (0 : Int)).length D5) s.2.1 :: J) () (aS R) (fun w s => s) ?_
 rintro ⟨D, E, j⟩ _ σ1 M g U
 replace g : Zh_L1 b D E j = some M := g
 unfold Zh_L1 at g
 refine aD (aD (aA (lI R (lO (jW R R) (aC (aB ?_))))))
 rcases bG g with ⟨u, g⟩ | ⟨u, g⟩
 refine aL R u (aN (aB (aD (aM (aD ?_)))))
 obtain ⟨i, g⟩ := gd g
 obtain ⟨F, g⟩ := gd g
 obtain ⟨q, g⟩ := gd g
 refine aA (lS R (lI R (lI R (lS R (lI R (bY 1 aE (show 0 < b.length by have := i; omega) (fun a3 o22 T => ?_)))))))
 subst T
 refine lO (cK aV bX R R i) (lO (dL 1 cE aE R i) (lO (iC R R F) (bY 0 aH (show 0 < (List.replicate (b.length : Int).toNat (0 : Int)).length by have := q; omega) (fun L o26 T => ?_))))
 subst T
 refine lO (cK aV bX R R q) (lN (ow kT3 3 (.slice (ad L o26) (List.replicate (b.length : Int).toNat (0 : Int)).length D5) E :: J) ?_)
 refine eG (K := kT3) (x' := (D.tmod (ix b j))) 0 j R R bX R R q.1 q.2 ?_ ?_
 exact fun I h s => (fw).put I h () (D.tmod (ix b j)) s
 refine lN (ow kT3 3 (.slice (ad L o26) (List.replicate (b.length : Int).toNat (0 : Int)).length D5) (E.set j.toNat (D.tmod (ix b j))) :: J) ?_
 refine aC (aB (aA (lI R (lS R (lI R (lO (cK aV bX R R i) (lO (dL 1 cE aE R i) (lO (vz (iv (aG (D.tdiv (ix b j)))) (gO R R F)) (lI R (aC (aZ (aB (aA (lI R (lO (hM R R) (lI R (aC ?_)))))))))))))))))
 obtain rfl := so g
 exact qA () (fun w s => s)
 refine aI R u (bP (aR ?_))
 obtain rfl := so g
 obtain rfl := U _ R
 have g := a0
 refine aR (bE ?_)
 exact qI (E, ()) g (fun w s => s)
 rintro ⟨a2, _⟩ σ1 g
 replace g : Zh_J1 a2 = some r := g
 unfold Zh_J1 at g
 refine aD (aA (lS R (lS R (aC (aB (aW ?_))))))
 obtain rfl := so g
 exact qF (A5, (List.replicate (b.length : Int).toNat (0 : Int)).length, D5) (fun w s => (s.e 2 [0]))
theorem Z03_ok  {i : (List Int)} {g : (List Int)} {r : Bool} (j : Z03 i g = some r) :
 FnOk Tryz.prog 117 [(.slice A2 N2 D2), (.slice A4 N4 D4)] [aQ kT3 (.slice A2 N2 D2) i, aQ kT3 (.slice A4 N4 D4) g] (fun (h : Unit) => ((.bool r), [])) := by
 unfold Z03 at j
 refine bN Tryz.func117 R 33 R R fun C V => ?_
 refine cN (_ :: _ :: V) ?_
 refine cL 0 aE ?_
 rintro rfl
 refine cL 1 aE ?_
 rintro rfl
 let M : List HP := RR kT3 A2 D2 i :: RR kT3 A4 D4 g :: V
 refine cN M ?_
 refine aD (aA (lB R (aC (aB (aD (aD (aA (lS R (lO (bR aV R) (lS R (lO (bR aV R) (lO (ig R R) (aC (aB ?_))))))))))))))
 rcases bG j with ⟨F, j⟩ | ⟨F, j⟩
 refine aL R F (aD (aA (lB R (aC (aB (aW (bA ?_)))))))
 obtain rfl := so j
 exact qF () (fun w s => (s.e 2 []))
 refine aI R F (aN (aB (aD (bS (A := (Unit) × (Unit)) (fun a => Z03_J1 = some r) (fun a => []) (fun a => M) ?_ ?_))))
 refine aD (aA (lI R (aC (aB (aM ?_)))))
 obtain ⟨e1, U, J⟩ := bd j
 refine bQ (A := Unit) U (fun s a => [(0, (sc A2 i D2)), (1, (sc A4 g D4)), (5, (iv s))]) (fun s a => M) () (aS R) (fun w s => s) ?_
 rintro q _ σ1 L j I
 replace j : Z03_L1 i g q = some L := j
 unfold Z03_L1 at j
 refine aD (aD (aA (lI R (lS R (lO (bR aV R) (lO (dQ R R) (aC (aB ?_))))))))
 rcases bG j with ⟨u, j⟩ | ⟨u, j⟩
 refine aL R u (aN (aB (aD (aM (aD ?_)))))
 obtain ⟨m, j⟩ := gd j
 obtain ⟨E, j⟩ := gd j
 refine cQ [(0, (sc A2 i D2)), (1, (sc A4 g D4)), (5, (iv q)), (32, (.bool ((decide ((ix g q) < (0 : Int))) || (decide ((ix g q) ≥ (ix i q))))))] (M) ?_ ?_
 rcases bo (decide ((ix g q) < (0 : Int))) with b | b
 refine bZ 1 aE (show 0 < g.length by have := m; omega) (fun T o19 G => ?_)
 subst G
 refine eI 16 [] cF (fun ht hn => (dR 0 R (vS R) (dR 1 R (vI R) (dR 2 R (cK aV bX R R m) (dR 3 R (dL 1 cE aE R m) (dR 4 R (dQ R R) (dR 5 R (vB R) (dF 6 R (aT b) (dF 7 R (aT b) (dF 8 R (aT b) (dF 9 R (aT b) (dF 10 R (aT b) (dF 11 R (aT b) (dF 12 R (aT b) (dF 13 R (aT b) (dF 14 R (aT b) (dR 15 R (cW (decide ((ix g q) ≥ (ix i q))) R b) (dD ?_))))))))))))))))))
 exact qJ (fun w s => s)
 refine bZ 1 aE (show 0 < g.length by have := m; omega) (fun T o19 G => ?_)
 subst G
 refine bZ 0 aE (show 0 < i.length by have := (E b); omega) (fun a0 o22 G => ?_)
 subst G
 refine eI 16 [] cF (fun ht hn => (dR 0 R (vS R) (dR 1 R (vI R) (dR 2 R (cK aV bX R R m) (dR 3 R (dL 1 cE aE R m) (dR 4 R (dQ R R) (dR 5 R (vB R) (dW 6 R (bI b) (vS R) (dW 7 R (bI b) (vI R) (dW 8 R (bI b) (cK aV bX R R m) (dW 9 R (bI b) (dL 1 cE aE R m) (dW 10 R (bI b) (vS R) (dW 11 R (bI b) (vI R) (dW 12 R (bI b) (cK aV bX R R (E b)) (dW 13 R (bI b) (dL 0 cE aE R (E b)) (dW 14 R (bI b) (jW R R) (dR 15 R (eS R b R) (dD ?_))))))))))))))))))
 exact qJ (fun w s => s)
 rintro σ1
 refine aB ?_
 rcases bG j with ⟨D, j⟩ | ⟨D, j⟩
 refine aL R D (aD (aA (lB R (aC (aB (aW (bB (bA ?_))))))))
 obtain rfl := so j
 obtain rfl := I _ R
 have j := J
 refine bA (bB (bA ?_))
 obtain rfl := so j
 exact qF () (fun w s => (s.e 2 []))
 refine aI R D (aN (aZ (aB (aA (lI R (lO (cX R R) (lI R (aC ?_))))))))
 obtain rfl := so j
 exact qA () (fun w s => s)
 refine aI R u (bP (aR ?_))
 obtain rfl := so j
 obtain rfl := I _ R
 have j := J
 refine aR (bE ?_)
 exact eF ((), ()) j trivial (fun w s => s)
 rintro ⟨_, _⟩ σ1 j
 replace j : Z03_J1 = some r := j
 unfold Z03_J1 at j
 refine aD (aA (lB R (aC (aB (aW ?_)))))
 obtain rfl := so j
 exact qF () (fun w s => (s.e 2 []))
theorem Z00_ok  {g : (List Int)} {b : (List Int)} {r : Int} (i : Z00 g b = some r) :
 FnOk Tryz.prog 88 [(.slice A2 N2 D2), (.slice A4 N4 D4)] [aQ kT3 (.slice A2 N2 D2) g, aQ kT3 (.slice A4 N4 D4) b] (fun (h : Unit) => ((iv r), [])) := by
 unfold Z00 at i
 refine bN Tryz.func88 R 25 R R fun C V => ?_
 refine cN (_ :: _ :: V) ?_
 refine cL 0 aE ?_
 rintro rfl
 refine cL 1 aE ?_
 rintro rfl
 let E : List HP := RR kT3 A2 D2 g :: RR kT3 A4 D4 b :: V
 refine cN E ?_
 refine aD (aA (lI R (aC (aB (aD (aA (lI R (aC (aB (aD (bS (A := (Int) × (Unit)) (fun a => Z00_J1 a.1 = some r) (fun a => [(5, (iv a.1))]) (fun a => E) ?_ ?_)))))))))))
 refine aD (aA (lI R (aC (aB (aM ?_)))))
 obtain ⟨e1, J, I⟩ := bd i
 refine bQ (A := Unit) J (fun s a => [(0, (sc A2 g D2)), (1, (sc A4 b D4)), (5, (iv s.1)), (6, (iv s.2))]) (fun s a => E) () (aS R) (fun w s => s) ?_
 rintro ⟨u, L⟩ _ σ1 D i G
 replace i : Z00_L1 g b u L = some D := i
 unfold Z00_L1 at i
 refine aD (aD (aA (lI R (lS R (lO (bR aV R) (lO (dQ R R) (aC (aB ?_))))))))
 rcases bG i with ⟨j, i⟩ | ⟨j, i⟩
 refine aL R j (aN (aB (aD (aM ?_))))
 obtain ⟨m, i⟩ := gd i
 obtain ⟨q, i⟩ := gd i
 refine bZ 0 aE (show 0 < g.length by have := m; omega) (fun T o17 F => ?_)
 subst F
 refine bZ 1 aE (show 0 < b.length by have := q; omega) (fun U o20 F => ?_)
 subst F
 refine eI 12 [] cF (fun ht hn => (dR 0 R (vI R) (dR 1 R (vS R) (dR 2 R (vI R) (dR 3 R (cK aV bX R R m) (dR 4 R (dL 0 cE aE R m) (dR 5 R (f9 R R) (dR 6 R (vS R) (dR 7 R (vI R) (dR 8 R (cK aV bX R R q) (dR 9 R (dL 1 cE aE R q) (dR 10 R (cX R R) (dR 11 R (vI R) (dD (aZ (aB (aA (lI R (lO (cX R R) (lI R (aC ?_)))))))))))))))))))))
 obtain rfl := so i
 exact qA () (fun w s => s)
 refine aI R j (bP (aR ?_))
 obtain rfl := so i
 obtain rfl := G _ R
 have i := I
 refine aR (bE ?_)
 exact qI (u, ()) i (fun w s => s)
 rintro ⟨M, _⟩ σ1 i
 replace i : Z00_J1 M = some r := i
 unfold Z00_J1 at i
 refine aD (aA (lI R (lI R (aC (aB (aW ?_))))))
 obtain rfl := so i
 exact qF () (fun w s => (s.e 2 []))
theorem Z11_ok  {t1 : Tensor} {a : (List Int)} {r : Int} (g : Z11 t1 a = some r) :
 FnOk Tryz.prog 53 [(.agg [(.slice A2 N2 D2), (.slice A3 N3 D3)].toArray), (.slice A5 N5 D5)] [aQ kT3 (.slice A2 N2 D2) t1.Dims, aQ kT3 (.slice A3 N3 D3) t1.Data, aQ kT3 (.slice A5 N5 D5) a] (fun (h : Unit) => ((iv r), [])) := by
 unfold Z11 at g
 refine bN Tryz.func53 R 13 R R fun C V => ?_
 refine cN (_ :: _ :: _ :: V) ?_
 refine cL 0 aE ?_
 rintro rfl
 refine cL 1 aE ?_
 rintro rfl
 refine cL 2 aE ?_
 rintro rfl
 let m : List HP := RR kT3 A2 D2 t1.Dims :: RR kT3 A3 D3 t1.Data :: RR kT3 A5 D5 a :: V
 refine cN m ?_
 refine aD (aA (gz R (fun q => (lI R (aC ?_)))))
 let i : List HP := aK q [(sc A2 t1.Dims D2), (sc A3 t1.Data D3)] 26 :: m
 refine qN i ?_
 refine aB (aD ?_)
 obtain ⟨G, j, g⟩ := bd g
 obtain ⟨b, g⟩ := gd g
 refine bZ 2 aE (show 0 < t1.Data.length by have := b; omega) (fun u o11 D => ?_)
 subst D
 refine eI 9 [] cF (fun F E => (dR 0 R (bT 1 cA R) (dR 1 R (bV 0 bK R R R) (dR 2 R (bT 0 cG R) (dR 3 R (bV 0 bK R R R) (dR 4 R (vS R) (d1 5 R (lM (RR kT3 A2 D2 t1.Dims :: RR kT3 A5 D5 a :: i) (fun w s => (((s.d 1 R).d 4 R).e 2 [1, 0])) ?_))))))))
 refine lC 2 tT R (Z00_ok j) R ?_
 rintro _
 refine lN i ?_
 refine aC (aP (sL []) (dR 6 R (cK aV bX R R b) (dR 7 R (dL 2 cE aE R b) (dR 8 R (vI R) (dD (aB (aW ?_)))))))
 obtain rfl := so g
 exact qF () (fun w s => (s.e 4 []))
theorem Z1m_ok  {p1 : Tensor} {a : (List Int)} {r : Int} (b : Z1m p1 a = some r) :
 FnOk Tryz.prog 50 [(.agg [(.slice A2 N2 D2), (.slice A3 N3 D3)].toArray), (.slice A5 N5 D5)] [aQ kT3 (.slice A2 N2 D2) p1.Dims, aQ kT3 (.slice A3 N3 D3) p1.Data, aQ kT3 (.slice A5 N5 D5) a] (fun (h : Unit) => ((iv r), [])) := by
 unfold Z1m at b
 refine bN Tryz.func50 R 13 R R fun C V => ?_
 refine cN (_ :: _ :: _ :: V) ?_
 refine cL 0 aE ?_
 rintro rfl
 refine cL 1 aE ?_
 rintro rfl
 refine cL 2 aE ?_
 rintro rfl
 let q : List HP := RR kT3 A2 D2 p1.Dims :: RR kT3 A3 D3 p1.Data :: RR kT3 A5 D5 a :: V
 refine cN q ?_
 refine aD (aA (gz R (fun u => (lI R (aC ?_)))))
 let i : List HP := aK u [(sc A2 p1.Dims D2), (sc A3 p1.Data D3)] 26 :: q
 refine qN i ?_
 refine aB (aD (aD ?_))
 obtain ⟨E, m, b⟩ := bd b
 refine aA (lO (bT 0 cG R) (lO (bV 0 bK R R R) (lS R (lM (RR kT3 A2 D2 p1.Dims :: RR kT3 A5 D5 a :: i) (fun w s => (((s.d 1 R).d 4 R).e 2 [1, 0])) ?_))))
 refine lC 2 vL R (Z03_ok m) R ?_
 rintro _
 refine lN i ?_
 refine lO (ft R) (aC (aB ?_))
 rcases bG b with ⟨g, b⟩ | ⟨g, b⟩
 refine aL R g (aD (aA (lI R (aC (aB (aW (bA ?_)))))))
 obtain rfl := so b
 exact qF () (fun w s => (s.e 4 []))
 refine aI R g (aN (aB (aD ?_)))
 obtain ⟨D, j, b⟩ := bd b
 refine aA (lO (vz (.agg [(sc A2 p1.Dims D2), (sc A3 p1.Data D3)].toArray) (bF 0 cJ bO R R R R)) (lS R (lM (RR kT3 A2 D2 p1.Dims :: RR kT3 A3 D3 p1.Data :: RR kT3 A5 D5 a :: i) (fun w s => ((((s.d 1 R).d 3 R).d 5 R).e 3 [2, 1, 0])) ?_)))
 refine lC 3 tU R (Z11_ok j) R ?_
 rintro _
 refine lN i ?_
 refine lI R (aC (aB (aW ?_)))
 obtain rfl := so b
 exact qF () (fun w s => (s.e 4 []))
theorem Z17_ok  {i : Int} {j : Int} {r : Int} (a : Z17 i j = some r) :
 FnOk Tryz.prog 51 [(iv i), (iv j)] [] (fun (h : Unit) => ((iv r), [])) := by
 unfold Z17 at a
 refine bN Tryz.func51 R 11 R R fun C V => ?_
 refine cN V ?_
 refine aD (aA (lI R (aC (aB (aD ?_)))))
 obtain ⟨m, b, a⟩ := bd a
 obtain ⟨q, e, a⟩ := bd a
 obtain ⟨u, g, a⟩ := bd a
 refine aA (lI R (lC 0 i7 R (Zi_ok b) R ?_))
 rintro _
 refine lI R (lC 0 i7 R (Zi_ok e) R ?_)
 rintro _
 refine lO (cX R R) (lC 0 i7 R (Zi_ok g) R ?_)
 rintro _
 refine lI R (aC (aB (aW ?_)))
 obtain rfl := so a
 exact qF () (fun w s => s)
end Go.Proofs.YthfhllekobdelaaGreatDoor
