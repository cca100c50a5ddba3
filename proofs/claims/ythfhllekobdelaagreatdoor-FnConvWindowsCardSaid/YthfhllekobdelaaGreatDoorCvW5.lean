import Derived.Test.YthfhllekobdelaaGreatDoorCvF
import Derived.Test.YthfhllekobdelaaGreatDoorCvW1
set_option linter.unusedVariables false
set_option maxRecDepth 20000
namespace Go.Proofs.YthfhllekobdelaaGreatDoor
open Go Go.Pg
variable {A2 A3 A4 A5 A6 : Option Addr} {D2 D3 D4 D5 D6 N2 N3 N4 N5 N6 : Nat}
theorem Zg_ok  {b : (List Int)} {r : Bool} (g : Zg b = some r) :
 FnOk Tryz.prog 65 [(.slice A2 N2 D2)] [aQ kT3 (.slice A2 N2 D2) b] (fun (h : Unit) => ((.bool r), [])) := by
 unfold Zg at g
 refine bN Tryz.func65 R 27 R R fun C V => ?_
 refine cN (_ :: V) ?_
 refine cL 0 aE ?_
 rintro rfl
 let L : List HP := RR kT3 A2 D2 b :: V
 refine cN L ?_
 refine aD (aA (lB R (aC (aB (aD (aA (lI R (aC (aB (aD (bS (A := (Unit) × (HH)) (fun a => Zg_J1 b = some r) (fun a => [(0, (.slice a.2.1 a.2.2.1 a.2.2.2))]) (fun a => aQ kT3 (.slice a.2.1 a.2.2.1 a.2.2.2) b :: L) ?_ ?_)))))))))))
 refine aD (aA (lS R (lO (bR aV R) (lI R (aC (aB (aM ?_)))))))
 obtain ⟨e1, T, G⟩ := bd g
 refine bQ (A := HH) T (fun s a => [(0, (.slice a.1 a.2.1 a.2.2)), (3, (iv s.1)), (6, (.slice a.1 a.2.1 a.2.2)), (7, (il b)), (8, (iv s.2))]) (fun s a => aQ kT3 (.slice a.1 a.2.1 a.2.2) b :: L) (A2, b.length, D2) (aS R) (fun w s => (s.d 0 R)) ?_
 rintro ⟨I, j⟩ ⟨A10, N10, D10⟩ σ1 J g F
 replace g : Zg_L1 b I j = some J := g
 unfold Zg_L1 at g
 refine cD 0 aE (fun (U : N10 = b.length) => ?_)
 subst U
 refine aD (aA (lO (dQ R R) (aC (aB (aD ?_)))))
 rcases bG g with ⟨m, g⟩ | ⟨m, g⟩
 refine aL R m (aN (aB (aD (aM (aD ?_)))))
 obtain ⟨D, g⟩ := gd g
 refine aA (bY 0 aE (show 0 < b.length by have := D; omega) (fun E o16 ha => ?_))
 subst ha
 refine lO (cK aV bX R R D) (lO (dL 0 cE aE R D) (lI R (aC (aB (aD (aD (cQ [(0, (sc (ad E o16) b D10)), (3, (iv I)), (5, (iv (ix b j))), (6, (sc (ad E o16) b D10)), (7, (il b)), (8, (iv j)), (17, (.bool ((decide ((ix b j) < (1 : Int))) || (decide ((ix b j) > (4096 : Int))))))] (RR kT3 (ad E o16) D10 b :: L) ?_ ?_)))))))
 refine aA (lI R (lO (dQ R R) (lB R ?_)))
 rcases bo (decide ((ix b j) < (1 : Int))) with i | i
 refine lf (aT i) (lf (aT i) (lO (cW (decide ((ix b j) > (4096 : Int))) R i) (aC ?_)))
 exact qJ (fun w s => s)
 refine lW (bI i) (vI R) (lW (bI i) (iw R R) (lO (eS R i R) (aC ?_)))
 exact qJ (fun w s => s)
 rintro σ1
 refine aB ?_
 rcases bG g with ⟨q, g⟩ | ⟨q, g⟩
 refine aL R q (aD (aA (lB R (aC (aB (aW (bA (bB (bA ?_)))))))))
 obtain rfl := so g
 obtain rfl := F _ R
 have g := G
 refine bA (bB (bA ?_))
 obtain rfl := so g
 exact qF () (fun w s => (s.e 2 []))
 refine aI R q (aN (aB (aD (aA (lI R (lI R (lO (f9 R R) (lI R (aC (aB (aD (aA (lI R (lO (iw R R) (aC (aB ?_))))))))))))))))
 rcases bG g with ⟨u, g⟩ | ⟨u, g⟩
 refine aL R u (aD (aA (lB R (aC (aB (aW (bB (bA ?_))))))))
 obtain rfl := so g
 obtain rfl := F _ R
 have g := G
 refine bA (bB (bA ?_))
 obtain rfl := so g
 exact qF () (fun w s => (s.e 2 []))
 refine aI R u (aN (aZ (aB (aA (lO (cX R R) (lI R (aC ?_)))))))
 obtain rfl := so g
 exact qA ((ad E o16), b.length, D10) (fun w s => s)
 refine aI R m (bP (aR ?_))
 obtain rfl := so g
 obtain rfl := F _ R
 have g := G
 refine aR (bE ?_)
 exact qI ((), (A10, b.length, D10)) g (fun w s => s)
 rintro ⟨_, ⟨a0, M, a1⟩⟩ σ1 g
 replace g : Zg_J1 b = some r := g
 unfold Zg_J1 at g
 refine cD 0 aE (fun (U : M = b.length) => ?_)
 subst U
 refine aD (aA (lS R (lO (bR aV R) (lO (sh R R) (lB R (aC (aB (aW ?_))))))))
 obtain rfl := so g
 exact qF () (fun w s => (s.e 2 []))
theorem Zd_ok  {b : (List Int)} {r : Int} (g : Zd b = some r) :
 FnOk Tryz.prog 68 [(.slice A2 N2 D2)] [aQ kT3 (.slice A2 N2 D2) b] (fun (h : Unit) => ((iv r), [])) := by
 unfold Zd at g
 refine bN Tryz.func68 R 17 R R fun C V => ?_
 refine cN (_ :: V) ?_
 refine cL 0 aE ?_
 rintro rfl
 let q : List HP := RR kT3 A2 D2 b :: V
 refine cN q ?_
 refine aD (aA (lI R (aC (aB (aD (aA (lI R (aC (aB (aD (bS (A := (Int) × (Unit)) (fun a => Zd_J1 a.1 = some r) (fun a => [(3, (iv a.1))]) (fun a => q) ?_ ?_)))))))))))
 refine aD (aA (lS R (lO (bR aV R) (lI R (aC (aB (aM ?_)))))))
 obtain ⟨M, E, D⟩ := bd g
 refine bQ (A := Unit) E (fun s a => [(3, (iv s.1)), (6, (sc A2 b D2)), (7, (il b)), (8, (iv s.2))]) (fun s a => q) () (aS R) (fun w s => s) ?_
 rintro ⟨G, L⟩ _ σ1 m g u
 replace g : Zd_L1 b G L = some m := g
 unfold Zd_L1 at g
 refine aD (aA (lO (dQ R R) (aC (aB (aD ?_)))))
 rcases bG g with ⟨j, g⟩ | ⟨j, g⟩
 refine aL R j (aN (aB (aD (aM (aD ?_)))))
 obtain ⟨i, g⟩ := gd g
 refine aA (bY 0 aE (show 0 < b.length by have := i; omega) (fun I o12 J => ?_))
 subst J
 refine lO (cK aV bX R R i) (lO (dL 0 cE aE R i) (lI R (aC (aB (aA (lI R (lI R (lO (f9 R R) (lI R (aC (aZ (aB (aA (lO (cX R R) (lI R (aC ?_))))))))))))))))
 obtain rfl := so g
 exact qA () (fun w s => s)
 refine aI R j (bP (aR ?_))
 obtain rfl := so g
 obtain rfl := u _ R
 have g := D
 refine aR (bE ?_)
 exact qI (G, ()) g (fun w s => s)
 rintro ⟨F, _⟩ σ1 g
 replace g : Zd_J1 F = some r := g
 unfold Zd_J1 at g
 refine aD (aA (lI R (lI R (aC (aB (aW ?_))))))
 obtain rfl := so g
 exact qF () (fun w s => (s.e 1 []))
theorem Z0z_ok  {a : (List Int)} {r : Tensor} (b : Z0z a = some r) :
 FnOk Tryz.prog 37 [(.slice A2 N2 D2)] [aQ kT3 (.slice A2 N2 D2) a] (fun (h : HH × HH) => ((.agg [(.slice h.1.1 h.1.2.1 h.1.2.2), (.slice h.2.1 h.2.2.1 h.2.2.2)].toArray), [ow kT3 3 (.slice h.1.1 h.1.2.1 h.1.2.2) r.Dims, ow kT3 3 (.slice h.2.1 h.2.2.1 h.2.2.2) r.Data])) := by
 unfold Z0z at b
 refine bN Tryz.func37 R 13 R R fun C V => ?_
 refine cN (_ :: V) ?_
 refine cL 0 aE ?_
 rintro rfl
 let j : List HP := RR kT3 A2 D2 a :: V
 refine cN j ?_
 refine aD (aA (bM R R dC (fun E => (aC (aB (aD (aD ?_)))))))
 obtain ⟨I, F, b⟩ := bd b
 refine aA (lS R (lM (RR kT3 A2 D2 a :: _ :: j) (fun w s => (s.d 1 R)) ?_))
 refine lC 1 kq R (Zg_ok F) R ?_
 rintro _
 refine lN (_ :: j) ?_
 refine lO (ft R) (aC (aB ?_))
 rcases bG b with ⟨q, b⟩ | ⟨q, b⟩
 refine aL R q (aD (aA (lO (vz (.agg [(.slice none 0 0), (.slice none 0 0)].toArray) (bW fF dC R R)) (aU 0 R R bO R R R R R R (aC (aB (aW (bA ?_))))))))
 obtain rfl := so b
 exact bU (vs := [(.agg [(.slice none 0 0), (.slice none 0 0)].toArray)]) (.inl R) ((none, 0, 0), (none, 0, 0)) R ⟨⟨0, E, _, _, R, R, .inl ⟨cJ, bO, R⟩⟩, trivial⟩ R (fun w s => (((s.nilo kT3 3).nilo kT3 3).e 4 [1, 0]))
 refine aI R q (aN (aB (aD ?_)))
 obtain ⟨D, G, b⟩ := bd b
 obtain ⟨g, u, b⟩ := bd b
 obtain ⟨i, b⟩ := gd b
 refine aA (lS R (lM (RR kT3 A2 D2 a :: _ :: j) (fun w s => (s.d 1 R)) ?_))
 refine lC 1 jY R (Zy_ok G) R ?_
 rintro ⟨A9, N9, D9⟩
 refine lN (ow kT3 3 (.slice A9 N9 D9) D :: _ :: j) ?_
 refine aY 0 aH ?_
 rintro rfl
 refine lS R (lM (RR kT3 A2 D2 a :: _ :: _ :: j) (fun w s => (s.d 2 R)) ?_)
 refine lC 1 iJ R (Zd_ok u) R ?_
 rintro _
 refine lN (_ :: _ :: j) ?_
 refine fG (K := kT3) (m := g) (z := (0 : Int)) R R aV bX ii (Zr.zk zT3 fj) (by decide) R R i.1 i.2.1 i.2.2 (fun A13 D13 => (lO (vz (.agg [(sc A9 D D9), (sc A13 (List.replicate g.toNat (0 : Int)) D13)].toArray) (bW fF dC R R)) (aU 2 R R bO R R R R R R (lN (OO kT3 3 A13 D13 (List.replicate g.toNat (0 : Int)) :: _ :: aK E [(sc A9 D D9), (sc A13 (List.replicate g.toNat (0 : Int)) D13)] 26 :: j) ?_))))
 refine aC (aB (aW ?_))
 obtain rfl := so b
 exact bU (vs := [(.agg [(sc A9 D D9), (sc A13 (List.replicate g.toNat (0 : Int)) D13)].toArray)]) (.inl R) ((A9, D.length, D9), (A13, (List.replicate g.toNat (0 : Int)).length, D13)) R ⟨⟨2, E, _, _, R, R, .inl ⟨cJ, bO, R⟩⟩, trivial⟩ R (fun w s => (s.e 4 [1, 0]))
theorem Z0y_ok  {p1 : Int} {r : Int} (b : Z0y p1 = some r) :
 FnOk Tryz.prog 38 [(iv p1)] [] (fun (h : Unit) => ((iv r), [])) := by
 unfold Z0y at b
 refine bN Tryz.func38 R 10 R R fun C V => ?_
 refine cN V ?_
 refine aD (aA (lI R (aC (aB (aD (aA (lI R (lO (iC R R (by decide)) (lI R (aC (aB (aD (bS (A := (Int) × (Unit)) (fun a => Z0y_J1 a.1 = some r) (fun a => [(0, (iv a.1))]) (fun a => V) ?_ ?_)))))))))))))
 refine aD (aA (lI R (lO (dQ R R) (aC (aB ?_)))))
 rcases bG b with ⟨e, b⟩ | ⟨e, b⟩
 refine aL R e (aA (lI R (lO (cX R R) (lI R (aC ?_)))))
 exact qI ((aG ((p1.tmod (2147483647 : Int)) + (2147483647 : Int))), ()) b (fun w s => s)
 refine aI R e (aN ?_)
 exact qI ((p1.tmod (2147483647 : Int)), ()) b (fun w s => s)
 rintro ⟨g, _⟩ σ1 b
 replace b : Z0y_J1 g = some r := b
 unfold Z0y_J1 at b
 refine aD (aA (lI R (lI R (aC (aB (aW ?_))))))
 obtain rfl := so b
 exact qF () (fun w s => s)
theorem Z0i_ok  {i : (List Int)} {p3 : Int} {r : Tensor} (g : Z0i i p3 = some r) :
 FnOk Tryz.prog 8 [(.slice A2 N2 D2), (iv p3)] [aQ kT3 (.slice A2 N2 D2) i] (fun (h : HH × HH) => ((.agg [(.slice h.1.1 h.1.2.1 h.1.2.2), (.slice h.2.1 h.2.2.1 h.2.2.2)].toArray), [ow kT3 3 (.slice h.1.1 h.1.2.1 h.1.2.2) r.Dims, ow kT3 3 (.slice h.2.1 h.2.2.1 h.2.2.2) r.Data])) := by
 unfold Z0i at g
 refine bN Tryz.func8 R 23 R R fun C V => ?_
 refine cN (_ :: V) ?_
 refine cL 0 aE ?_
 rintro rfl
 let F : List HP := RR kT3 A2 D2 i :: V
 refine cN F ?_
 refine aD (aA (bM R R dC (fun U => (aC (aB (aD ?_))))))
 obtain ⟨b, a6, g⟩ := bd g
 refine aA (lS R (lM (RR kT3 A2 D2 i :: _ :: F) (fun w s => (s.d 1 R)) ?_))
 refine lC 1 tO R (Z0z_ok a6) R ?_
 rintro ⟨⟨q, N7, D⟩, ⟨u, N8, j⟩⟩
 refine lN (ow kT3 3 (.slice q N7 D) b.Dims :: ow kT3 3 (.slice u N8 j) b.Data :: _ :: F) ?_
 refine aY 0 aH ?_
 rintro rfl
 refine aY 1 aH ?_
 rintro rfl
 refine bM R R dC (fun J => (aU 0 R R bO R R R R R R (lN (aK J [(sc q b.Dims D), (sc u b.Data j)] 26 :: _ :: _ :: _ :: F) ?_)))
 refine aC (aB (aD (bS (A := ((List Int)) × (Unit)) (fun a => Z0i_J1 b a.1 = some r) (fun a => [(4, (pt U 0)), (5, (pt J 0))]) (fun a => aK U [(.slice none 0 0), (.slice none 0 0)] 26 :: aK J [(sc q b.Dims D), (sc u b.Data j)] 26 :: OO kT3 3 q D b.Dims :: ow kT3 3 (.slice u b.Data.length j) a.1 :: F) ?_ ?_)))
 refine aD (aA (lO (bT 1 cA R) (lO (bV 0 bK R R R) (lO (bR aV R) (lI R (aC (aB (aM ?_))))))))
 obtain ⟨e1, a5, a4⟩ := bd g
 refine bQ (A := Unit) a5 (fun s a => [(1, (iv p3)), (4, (pt U 0)), (5, (pt J 0)), (11, (il b.Data)), (12, (iv s.2))]) (fun s a => aK U [(.slice none 0 0), (.slice none 0 0)] 26 :: aK J [(sc q b.Dims D), (sc u b.Data j)] 26 :: OO kT3 3 q D b.Dims :: ow kT3 3 (.slice u b.Data.length j) s.1 :: F) () (aS R) (fun w s => (s.e 4 [3, 0, 1, 2])) ?_
 rintro ⟨G, T⟩ _ σ1 a1 g a3
 replace g : Z0i_L1 p3 b G T = some a1 := g
 unfold Z0i_L1 at g
 refine aD (aA (lO (dQ R R) (aC (aB (aD ?_)))))
 rcases bG g with ⟨E, g⟩ | ⟨E, g⟩
 refine aL R E (aN (aB (aD (aM (aD (aA (lI R (lI R (aC (aB ?_))))))))))
 obtain ⟨M, a0, g⟩ := bd g
 obtain ⟨m, g⟩ := gd g
 refine bZ 3 aH (show 0 < b.Data.length by have := m; omega) (fun L o23 ha => ?_)
 subst ha
 refine eI 7 [3] cF (fun ht hn => (dR 0 R (bT 1 cA R) (hS := (sL [3])) (dR 1 R (bV 1 bK R R R) (hS := (sL [3])) (dR 2 R (vI R) (hS := (sL [3])) (dR 3 R (vI R) (hS := (sL [3])) (d1 4 R (lC 0 x5 R (Z0y_ok a0) R ?_)))))))
 rintro _
 refine lN (_ :: aK J [(sc q b.Dims D), (sc (ad L o23) b.Data j)] 26 :: _ :: ow kT3 3 (.slice (ad L o23) b.Data.length j) G :: F) ?_
 refine aC (aP (sL [3]) (dR 5 R (cK aV bX R R m) (hS := (sL [3])) (d1 6 R (lM (ow _ _ _ _ :: aK _ _ _ :: aK _ _ _ :: ow _ _ _ _ :: F) (fun w s => (s.e 4 [3, 0, 1, 2])) ?_))))
 refine eG (K := kT3) (x' := M) 0 T R R bX R R m.1 m.2 ?_ ?_
 exact fun I h s => (fw).put I h () M s
 refine lN (ow kT3 3 (.slice (ad L o23) b.Data.length j) (G.set T.toNat M) :: _ :: _ :: _ :: F) ?_
 refine aC (aP (sL [0]) (dD (aZ (aB (aA (lO (cX R R) (lI R (aC ?_))))))))
 obtain rfl := so g
 exact qA () (fun w s => (s.e 4 [1, 2, 3, 0]))
 refine aI R E (bP (aR ?_))
 obtain rfl := so g
 obtain rfl := a3 _ R
 have g := a4
 refine aR (bE ?_)
 exact qI (G, ()) g (fun w s => s)
 rintro ⟨a2, _⟩ σ1 g
 replace g : Z0i_J1 b a2 = some r := g
 unfold Z0i_J1 at g
 refine aD (aA (lO (vz (.agg [(sc q b.Dims D), (sc u b.Data j)].toArray) (bF 1 cJ bO R R R R)) (aU 0 R R bO R R R R R R (lN (aK U [(sc q b.Dims D), (sc u b.Data j)] 26 :: aK J [(sc q b.Dims D), (sc u b.Data j)] 26 :: _ :: ow kT3 3 (.slice u b.Data.length j) a2 :: F) ?_))))
 refine aC (aB (aW ?_))
 obtain rfl := so g
 exact bU (vs := [(.agg [(sc q b.Dims D), (sc u b.Data j)].toArray)]) (.inl R) ((q, b.Dims.length, D), (u, b.Data.length, j)) R ⟨⟨0, U, _, _, R, R, .inl ⟨cJ, bO, R⟩⟩, trivial⟩ R (fun w s => (s.e 5 [2, 3]))
theorem Z1q_ok  {p1 : Int} {r : Bool} (b : Z1q p1 = some r) :
 FnOk Tryz.prog 151 [(iv p1)] [] (fun (h : Unit) => ((.bool r), [])) := by
 unfold Z1q at b
 refine bN Tryz.func151 R 9 R R fun C V => ?_
 refine cN V ?_
 refine aD (aA (lB R (aC (aB (aD (cQ [(2, (.bool ((decide (p1 ≥ (0 : Int))) && (decide (p1 < (2147483647 : Int))))))] (V) ?_ ?_))))))
 refine aA (lI R (lO (jW R R) (lB R ?_)))
 rcases bo (decide (p1 ≥ (0 : Int))) with a | a
 refine lW (eB a) (vI R) (lW (eB a) (dQ R R) (lO (kx R a R) (lB R (aC ?_))))
 exact qJ (fun w s => s)
 refine lf (dV a) (lf (dV a) (lO (kn (decide (p1 < (2147483647 : Int))) R a) (lB R (aC ?_))))
 exact qJ (fun w s => s)
 rintro σ1
 refine aB (aW ?_)
 obtain rfl := so b
 exact qF () (fun w s => s)
theorem Z0a_ok  {g : (List Int)} {r : Bool} (b : Z0a g = some r) :
 FnOk Tryz.prog 122 [(.slice A2 N2 D2)] [aQ kT3 (.slice A2 N2 D2) g] (fun (h : Unit) => ((.bool r), [])) := by
 unfold Z0a at b
 refine bN Tryz.func122 R 15 R R fun C V => ?_
 refine cN (_ :: V) ?_
 refine cL 0 aE ?_
 rintro rfl
 let F : List HP := RR kT3 A2 D2 g :: V
 refine cN F ?_
 refine aD (aA (lB R (aC (aB (aD (bS (A := (Unit) × (Unit)) (fun a => Z0a_J1 = some r) (fun a => []) (fun a => F) ?_ ?_))))))
 refine aD (aA (lS R (lO (bR aV R) (lI R (aC (aB (aM ?_)))))))
 obtain ⟨T, G, u⟩ := bd b
 refine bQ (A := Unit) G (fun s a => [(5, (sc A2 g D2)), (6, (il g)), (7, (iv s))]) (fun s a => F) () (aS R) (fun w s => s) ?_
 rintro I _ σ1 E b q
 replace b : Z0a_L1 g I = some E := b
 unfold Z0a_L1 at b
 refine aD (aA (lO (dQ R R) (aC (aB (aD ?_)))))
 rcases bG b with ⟨i, b⟩ | ⟨i, b⟩
 refine aL R i (aN (aB (aD (aM (aD ?_)))))
 obtain ⟨m, b⟩ := gd b
 refine aA (bY 0 aE (show 0 < g.length by have := m; omega) (fun J o14 L => ?_))
 subst L
 refine lO (cK aV bX R R m) (lO (dL 0 cE aE R m) (lI R (aC (aB (aD ?_)))))
 obtain ⟨M, D, b⟩ := bd b
 refine aA (lI R (lC 0 vE R (Z1q_ok D) R ?_))
 rintro _
 refine lO (ft R) (aC (aB ?_))
 rcases bG b with ⟨j, b⟩ | ⟨j, b⟩
 refine aL R j (aD (aA (lB R (aC (aB (aW (bB (bA ?_))))))))
 obtain rfl := so b
 obtain rfl := q _ R
 have b := u
 refine bA (bB (bA ?_))
 obtain rfl := so b
 exact qF () (fun w s => (s.e 1 []))
 refine aI R j (aN (aZ (aB (aA (lO (cX R R) (lI R (aC ?_)))))))
 obtain rfl := so b
 exact qA () (fun w s => s)
 refine aI R i (bP (aR ?_))
 obtain rfl := so b
 obtain rfl := q _ R
 have b := u
 refine aR (bE ?_)
 exact eF ((), ()) b trivial (fun w s => s)
 rintro ⟨_, _⟩ σ1 b
 replace b : Z0a_J1 = some r := b
 unfold Z0a_J1 at b
 refine aD (aA (lB R (aC (aB (aW ?_)))))
 obtain rfl := so b
 exact qF () (fun w s => (s.e 1 []))
theorem Z0r_ok  {t1 : Tensor} {r : Bool} (i : Z0r t1 = some r) :
 FnOk Tryz.prog 57 [(.agg [(.slice A2 N2 D2), (.slice A3 N3 D3)].toArray)] [aQ kT3 (.slice A2 N2 D2) t1.Dims, aQ kT3 (.slice A3 N3 D3) t1.Data] (fun (h : Unit) => ((.bool r), [])) := by
 unfold Z0r at i
 refine bN Tryz.func57 R 20 R R fun C V => ?_
 refine cN (_ :: _ :: V) ?_
 refine cL 0 aE ?_
 rintro rfl
 refine cL 1 aE ?_
 rintro rfl
 let F : List HP := RR kT3 A2 D2 t1.Dims :: RR kT3 A3 D3 t1.Data :: V
 refine cN F ?_
 refine aD (aA (gz R (fun J => (lB R (aC ?_)))))
 let g : List HP := aK J [(sc A2 t1.Dims D2), (sc A3 t1.Data D3)] 26 :: F
 refine qN g ?_
 refine aB (aD ?_)
 obtain ⟨u, j, i⟩ := bd i
 obtain ⟨D, q, i⟩ := bd i
 obtain ⟨E, m, i⟩ := bd i
 refine cQ [(2, (.bool ((u && ((t1.Data.length : Int) == D)) && E)))] (g) ?_ ?_
 rcases bo u with a | a
 rcases bo (u && ((t1.Data.length : Int) == D)) with b | b
 refine eI 18 [] cF (fun I G => (dR 0 R (bT 0 cG R) (dR 1 R (bV 0 bK R R R) (d1 2 R (lM (RR kT3 A2 D2 t1.Dims :: g) (fun w s => (s.d 1 R)) ?_)))))
 refine lC 1 kq R (Zg_ok j) R ?_
 rintro _
 refine lN g ?_
 refine aC (aP (sL []) (dR 3 R (vB R) (dW 4 R (eB a) (bT 1 cA R) (dW 5 R (eB a) (bV 0 bK R R R) (dW 6 R (eB a) (bR aV R) (dW 7 R (eB a) (bT 0 cG R) (dW 8 R (eB a) (bV 0 bK R R R) (d1 9 R (lM (RR kT3 A2 D2 t1.Dims :: g) (fun w s => (s.d 1 R)) ?_)))))))))
 refine cU 1 R (eB a) iJ R (Zd_ok (cZ q a)) R ?_
 rintro _
 refine lN g ?_
 refine aC (aP (sL []) (dW 10 R (eB a) (ji R R) (dR 11 R (kx R a R) (dR 12 R (vB R) (dW 13 R (eB b) (bT 1 cA R) (dW 14 R (eB b) (bV 0 bK R R R) (d1 15 R (lM (RR kT3 A3 D3 t1.Data :: g) (fun w s => (s.d 2 R)) ?_))))))))
 refine cU 1 R (eB b) vF R (Z0a_ok (cZ m b)) R ?_
 rintro _
 refine lN g ?_
 refine aC (aP (sL []) (dR 16 R (kx R b R) (dR 17 R (vB R) (dD ?_))))
 exact qJ (fun w s => s)
 refine eI 18 [] cF (fun I G => (dR 0 R (bT 0 cG R) (dR 1 R (bV 0 bK R R R) (d1 2 R (lM (RR kT3 A2 D2 t1.Dims :: g) (fun w s => (s.d 1 R)) ?_)))))
 refine lC 1 kq R (Zg_ok j) R ?_
 rintro _
 refine lN g ?_
 refine aC (aP (sL []) (dR 3 R (vB R) (dW 4 R (eB a) (bT 1 cA R) (dW 5 R (eB a) (bV 0 bK R R R) (dW 6 R (eB a) (bR aV R) (dW 7 R (eB a) (bT 0 cG R) (dW 8 R (eB a) (bV 0 bK R R R) (d1 9 R (lM (RR kT3 A2 D2 t1.Dims :: g) (fun w s => (s.d 1 R)) ?_)))))))))
 refine cU 1 R (eB a) iJ R (Zd_ok (cZ q a)) R ?_
 rintro _
 refine lN g ?_
 refine aC (aP (sL []) (dW 10 R (eB a) (ji R R) (dR 11 R (kx R a R) (dR 12 R (vB R) (dF 13 R (dV b) (dF 14 R (dV b) (dF 15 R (dV b) (dR 16 R (kn E R b) (dR 17 R (vB R) (dD ?_))))))))))
 exact qJ (fun w s => s)
 refine eI 18 [] cF (fun I G => (dR 0 R (bT 0 cG R) (dR 1 R (bV 0 bK R R R) (d1 2 R (lM (RR kT3 A2 D2 t1.Dims :: g) (fun w s => (s.d 1 R)) ?_)))))
 refine lC 1 kq R (Zg_ok j) R ?_
 rintro _
 refine lN g ?_
 refine aC (aP (sL []) (dR 3 R (vB R) (dF 4 R (dV a) (dF 5 R (dV a) (dF 6 R (dV a) (dF 7 R (dV a) (dF 8 R (dV a) (dF 9 R (dV a) (dF 10 R (dV a) (dR 11 R (kn ((t1.Data.length : Int) == D) R a) (dR 12 R (vB R) (dF 13 R (dV (aF a)) (dF 14 R (dV (aF a)) (dF 15 R (dV (aF a)) (dR 16 R (kn E R (aF a)) (dR 17 R (vB R) (dD ?_)))))))))))))))))
 exact qJ (fun w s => s)
 rintro σ1
 refine aB (aW ?_)
 obtain rfl := so i
 exact qF () (fun w s => (s.e 3 []))
theorem Zq_ok  {b : (List Tensor)} {r : Bool} (g : Zq b = some r) :
 FnOk Tryz.prog 40 [(.slice A2 N2 D2)] [aQ eO (.slice A2 N2 D2) b] (fun (h : Unit) => ((.bool r), [])) := by
 unfold Zq at g
 refine bN Tryz.func40 R 15 R R fun C V => ?_
 refine cN (_ :: V) ?_
 refine cL 0 aE ?_
 rintro rfl
 let G : List HP := RR eO A2 D2 b :: V
 refine cN G ?_
 refine aD (aA (lB R (aC (aB (aD (bS (A := (Unit) × (Unit)) (fun a => Zq_J1 = some r) (fun a => []) (fun a => G) ?_ ?_))))))
 refine aD (aA (lS R (lO (bR ij R) (lI R (aC (aB (aM ?_)))))))
 obtain ⟨e1, a0, J⟩ := bd g
 refine bQ (A := Unit) a0 (fun s a => [(5, (sc A2 b D2)), (6, (il b)), (7, (iv s))]) (fun s a => G) () (aS R) (fun w s => s) ?_
 rintro i _ σ1 M g I
 replace g : Zq_L1 b i = some M := g
 unfold Zq_L1 at g
 refine aD (aA (lO (dQ R R) (aC (aB (aD ?_)))))
 rcases bG g with ⟨E, g⟩ | ⟨E, g⟩
 refine aL R E (aN (aB (aD (aM (aD ?_)))))
 obtain ⟨j, g⟩ := gd g
 refine aA (bY 0 aE (show 0 < b.length by have := j; omega) (fun U o17 ha => ?_))
 subst ha
 refine lO (cK ij bO R R j) (ib (K := eO) 0 i dT26.dec R j.1 j.2 ?_)
 rintro ⟨⟨m, u⟩, ⟨q, D⟩⟩
 refine lN (cl U (o17 + i.toNat * 2) [(sc m ((ix b i).Dims) u), (sc q ((ix b i).Data) D)] :: RR kT3 m u ((ix b i).Dims) :: RR kT3 q D ((ix b i).Data) :: G) ?_
 refine lO (vz (.agg [(sc m ((ix b i).Dims) u), (sc q ((ix b i).Data) D)].toArray) (jV (fo := 0) 0 cJ bO R R R R)) (bM R R dC (fun T => (aU 0 R R bO R R R R R R (lN (aK T [(sc m ((ix b i).Dims) u), (sc q ((ix b i).Data) D)] 26 :: _ :: _ :: _ :: G) ?_))))
 refine aC (aB (aD ?_))
 obtain ⟨a1, L, g⟩ := bd g
 refine aA (lO (vz (.agg [(sc m ((ix b i).Dims) u), (sc q ((ix b i).Data) D)].toArray) (bF 0 cJ bO R R R R)) (lM (aQ _ _ _ :: aQ _ _ _ :: aK _ _ _ :: cl _ _ _ :: aQ _ _ _ :: aQ _ _ _ :: G) (fun w s => (((s.d 2 R).d 4 R).e 6 [1, 0, 2, 3, 4, 5])) ?_))
 refine lC 2 tP R (Z0r_ok L) R ?_
 rintro _
 refine lN (_ :: _ :: _ :: _ :: G) ?_
 refine lO (ft R) (aC (aB ?_))
 rcases bG g with ⟨F, g⟩ | ⟨F, g⟩
 refine aL R F (aD (aA (lB R (aC (aB (aW (bB (bA ?_))))))))
 obtain rfl := so g
 obtain rfl := I _ R
 have g := J
 refine bA (bB (bA ?_))
 obtain rfl := so g
 exact qF () (fun w s => (s.e 5 []))
 refine aI R F (aN (aZ (aB (aA (lO (cX R R) (lI R (aC ?_)))))))
 obtain rfl := so g
 exact qA () (fun w s => (s.e 4 []))
 refine aI R E (bP (aR ?_))
 obtain rfl := so g
 obtain rfl := I _ R
 have g := J
 refine aR (bE ?_)
 exact eF ((), ()) g trivial (fun w s => s)
 rintro ⟨_, _⟩ σ1 g
 replace g : Zq_J1 = some r := g
 unfold Zq_J1 at g
 refine aD (aA (lB R (aC (aB (aW ?_)))))
 obtain rfl := so g
 exact qF () (fun w s => (s.e 1 []))
theorem Z0t_ok  {p1 : Int} {e : Int} {b : Int} {r : Bool} (g : Z0t p1 e b = some r) :
 FnOk Tryz.prog 92 [(iv p1), (iv e), (iv b)] [] (fun (h : Unit) => ((.bool r), [])) := by
 unfold Z0t at g
 refine bN Tryz.func92 R 15 R R fun C V => ?_
 refine cN V ?_
 refine aD (aA (lB R (aC (aB (aD (cQ [(6, (.bool ((decide (p1 ≥ e)) && (decide (p1 ≤ b)))))] (V) ?_ ?_))))))
 refine aA (lI R (lI R (lO (jW R R) (lB R ?_))))
 rcases bo (decide (p1 ≥ e)) with a | a
 refine lW (eB a) (vI R) (lW (eB a) (vI R) (lW (eB a) (sh R R) (lO (kx R a R) (lB R (aC ?_)))))
 exact qJ (fun w s => s)
 refine lf (dV a) (lf (dV a) (lf (dV a) (lO (kn (decide (p1 ≤ b)) R a) (lB R (aC ?_)))))
 exact qJ (fun w s => s)
 rintro σ1
 refine aB (aW ?_)
 obtain rfl := so g
 exact qF () (fun w s => s)
theorem Z0w_ok  {f1 : filter} {r : (List Int)} (i : Z0w f1 = some r) :
 FnOk Tryz.prog 42 [(.agg [(iv f1.sizes.n), (iv f1.sizes.c), (iv f1.sizes.h_), (iv f1.sizes.w_), (iv f1.sizes.o), (iv f1.sizes.k), (iv f1.sizes.a), (iv f1.sizes.b), (iv f1.stride), (iv f1.pad), (iv f1.dil), (iv f1.groups), (iv f1.oh), (iv f1.ow)].toArray)] [] (fun (h : HH) => ((.slice h.1 h.2.1 h.2.2), [ow kT3 3 (.slice h.1 h.2.1 h.2.2) r])) := by
 unfold Z0w at i
 refine bN Tryz.func42 R 14 R R fun C V => ?_
 refine cN V ?_
 refine aD (aA (gz R (fun j => (lS R (aC ?_)))))
 let g : List HP := aK j [(iv f1.sizes.n), (iv f1.sizes.c), (iv f1.sizes.h_), (iv f1.sizes.w_), (iv f1.sizes.o), (iv f1.sizes.k), (iv f1.sizes.a), (iv f1.sizes.b), (iv f1.stride), (iv f1.pad), (iv f1.dil), (iv f1.groups), (iv f1.oh), (iv f1.ow)] 66 :: V
 refine qN g ?_
 refine aB (aD (aA (lO (bT 0 dS R) (lO (bT 0 pg R) (lO (bV 0 cE R R R) (lO (bT 0 dS R) (lO (bT 4 kQ R) (lO (bV 0 cE R R R) (lO (bT 12 mK R) (lO (bV 0 cE R R R) (lO (bT 13 mL R) (lO (bV 0 cE R R R) (cC (K := kT3) (xs := ([f1.sizes.n, f1.sizes.o, f1.oh, f1.ow] : List Int)) (vs := [(iv f1.sizes.n), (iv f1.sizes.o), (iv f1.oh), (iv f1.ow)]) 0 R R aV bX fj R R R R R R ?_ R (fun A3 D3 => ?_))))))))))))))
 exact fun I h s => (fw).list [((), f1.sizes.n), ((), f1.sizes.o), ((), f1.oh), ((), f1.ow)] I h s
 refine lN (OO kT3 3 A3 D3 ([f1.sizes.n, f1.sizes.o, f1.oh, f1.ow] : List Int) :: g) ?_
 refine lS R (aC (aB (aW ?_)))
 obtain rfl := so i
 exact qF (A3, ([f1.sizes.n, f1.sizes.o, f1.oh, f1.ow] : List Int).length, D3) (fun w s => (s.e 2 [0]))
set_option maxHeartbeats 1000000 in
theorem Z15_ok  {p1 : (List Int)} {q : (List Int)} {g : Int} {m : Int} {j : Int} {i : Int} {r : filter × Bool} (I : Z15 p1 q g m j i = some r) :
 FnOk Tryz.prog 41 [(.slice A2 N2 D2), (.slice A4 N4 D4), (iv g), (iv m), (iv j), (iv i)] [aQ kT3 (.slice A2 N2 D2) p1, aQ kT3 (.slice A4 N4 D4) q] (fun (h : Unit) => ((.tuple [(.agg [(iv r.1.sizes.n), (iv r.1.sizes.c), (iv r.1.sizes.h_), (iv r.1.sizes.w_), (iv r.1.sizes.o), (iv r.1.sizes.k), (iv r.1.sizes.a), (iv r.1.sizes.b), (iv r.1.stride), (iv r.1.pad), (iv r.1.dil), (iv r.1.groups), (iv r.1.oh), (iv r.1.ow)].toArray), (.bool r.2)].toArray), [])) := by
 unfold Z15 at I
 refine bN Tryz.func41 R 164 R R fun C V => ?_
 refine cN (_ :: _ :: V) ?_
 refine cL 0 aE ?_
 rintro rfl
 refine cL 1 aE ?_
 rintro rfl
 let W0 : List HP := RR kT3 A2 D2 p1 :: RR kT3 A4 D4 q :: V
 refine cN W0 ?_
 refine aD (aA (bM R R mH (fun b9 => (lB R (aC (aB (aD (aD ?_))))))))
 obtain ⟨a2, au, I⟩ := bd I
 obtain ⟨a3, av, I⟩ := bd I
 obtain ⟨a4, aw, I⟩ := bd I
 obtain ⟨a5, ax, I⟩ := bd I
 refine cQ [(0, (sc A2 p1 D2)), (1, (sc A4 q D4)), (2, (iv g)), (3, (iv m)), (4, (iv j)), (5, (iv i)), (12, (pt b9 0)), (44, (.bool (((((((p1.length : Int) != (4 : Int)) || ((q.length : Int) != (4 : Int))) || (!a2)) || (!a3)) || (!a4)) || (!a5))))] (aK b9 [(iv 0), (iv 0), (iv 0), (iv 0), (iv 0), (iv 0), (iv 0), (iv 0), (iv 0), (iv 0), (iv 0), (iv 0), (iv 0), (iv 0)] 66 :: W0) ?_ ?_
 refine aA (lS R (lO (bR aV R) (lO (ig R R) (lB R ?_))))
 rcases bo ((p1.length : Int) != (4 : Int)) with D | D
 refine lf (aT D) (lf (aT D) (lf (aT D) (lO (cW ((q.length : Int) != (4 : Int)) R D) (lB R (lf (aT (oT D)) (lf (aT (oT D)) (lf (aT (oT D)) (lO (cW (!a2) R (oT D)) (lB R (lf (aT (oT (oT D))) (lf (aT (oT (oT D))) (lf (aT (oT (oT D))) (lO (cW (!a3) R (oT (oT D))) (lB R (lf (aT (oT (oT (oT D)))) (lf (aT (oT (oT (oT D)))) (lf (aT (oT (oT (oT D)))) (lO (cW (!a4) R (oT (oT (oT D)))) (lB R (lf (aT (oT (oT (oT (oT D))))) (lf (aT (oT (oT (oT (oT D))))) (lf (aT (oT (oT (oT (oT D))))) (lO (cW (!a5) R (oT (oT (oT (oT D))))) (aC ?_))))))))))))))))))))))))
 exact qJ (fun w s => s)
 refine lW (bI D) (vS R) (lW (bI D) (bR aV R) (lW (bI D) (ig R R) (lO (eS R D R) (lB R ?_))))
 rcases bo (((p1.length : Int) != (4 : Int)) || ((q.length : Int) != (4 : Int))) with E | E
 refine lf (aT E) (lf (aT E) (lf (aT E) (lO (cW (!a2) R E) (lB R (lf (aT (oT E)) (lf (aT (oT E)) (lf (aT (oT E)) (lO (cW (!a3) R (oT E)) (lB R (lf (aT (oT (oT E))) (lf (aT (oT (oT E))) (lf (aT (oT (oT E))) (lO (cW (!a4) R (oT (oT E))) (lB R (lf (aT (oT (oT (oT E)))) (lf (aT (oT (oT (oT E)))) (lf (aT (oT (oT (oT E)))) (lO (cW (!a5) R (oT (oT (oT E)))) (aC ?_)))))))))))))))))))
 exact qJ (fun w s => s)
 refine lW (bI E) (vI R) (cU 0 R (bI E) rr R (Z0t_ok (cZ au (dY E))) R ?_)
 rintro _
 refine lW (bI E) (ft R) (lO (eS R E R) (lB R ?_))
 rcases bo ((((p1.length : Int) != (4 : Int)) || ((q.length : Int) != (4 : Int))) || (!a2)) with G | G
 refine lf (aT G) (lf (aT G) (lf (aT G) (lO (cW (!a3) R G) (lB R (lf (aT (oT G)) (lf (aT (oT G)) (lf (aT (oT G)) (lO (cW (!a4) R (oT G)) (lB R (lf (aT (oT (oT G))) (lf (aT (oT (oT G))) (lf (aT (oT (oT G))) (lO (cW (!a5) R (oT (oT G))) (aC ?_))))))))))))))
 exact qJ (fun w s => s)
 refine lW (bI G) (vI R) (cU 0 R (bI G) rr R (Z0t_ok (cZ av (dY G))) R ?_)
 rintro _
 refine lW (bI G) (ft R) (lO (eS R G R) (lB R ?_))
 rcases bo (((((p1.length : Int) != (4 : Int)) || ((q.length : Int) != (4 : Int))) || (!a2)) || (!a3)) with J | J
 refine lf (aT J) (lf (aT J) (lf (aT J) (lO (cW (!a4) R J) (lB R (lf (aT (oT J)) (lf (aT (oT J)) (lf (aT (oT J)) (lO (cW (!a5) R (oT J)) (aC ?_)))))))))
 exact qJ (fun w s => s)
 refine lW (bI J) (vI R) (cU 0 R (bI J) rr R (Z0t_ok (cZ aw (dY J))) R ?_)
 rintro _
 refine lW (bI J) (ft R) (lO (eS R J R) (lB R ?_))
 rcases bo ((((((p1.length : Int) != (4 : Int)) || ((q.length : Int) != (4 : Int))) || (!a2)) || (!a3)) || (!a4)) with L | L
 refine lf (aT L) (lf (aT L) (lf (aT L) (lO (cW (!a5) R L) (aC ?_))))
 exact qJ (fun w s => s)
 refine lW (bI L) (vI R) (cU 0 R (bI L) rr R (Z0t_ok (cZ ax (dY L))) R ?_)
 rintro _
 refine lW (bI L) (ft R) (lO (eS R L R) (aC ?_))
 exact qJ (fun w s => s)
 rintro σ1
 refine aB ?_
 rcases bG I with ⟨a6, I⟩ | ⟨a6, I⟩
 refine aL R a6 (aD (aA (lO (vz (.agg [(iv 0), (iv 0), (iv 0), (iv 0), (iv 0), (iv 0), (iv 0), (iv 0), (iv 0), (iv 0), (iv 0), (iv 0), (iv 0), (iv 0)].toArray) (bW rt mH R R)) (aU 0 R R hY R R R R R R (lB R (aC (aB (aW (bA ?_)))))))))
 obtain rfl := so I
 exact bU (vs := [(.agg [(iv 0), (iv 0), (iv 0), (iv 0), (iv 0), (iv 0), (iv 0), (iv 0), (iv 0), (iv 0), (iv 0), (iv 0), (iv 0), (iv 0)].toArray), (.bool false)]) (.inl R) () R ⟨⟨0, b9, _, _, R, R, .inl ⟨kr, hY, R⟩⟩, R, trivial⟩ R (fun w s => (s.e 3 []))
 refine aI R a6 (aN (aB (aD ?_)))
 obtain ⟨a9, I⟩ := gd I
 obtain ⟨ac, I⟩ := gd I
 obtain ⟨ae, I⟩ := gd I
 obtain ⟨ag, I⟩ := gd I
 obtain ⟨aa, I⟩ := gd I
 obtain ⟨ah, I⟩ := gd I
 obtain ⟨ai, I⟩ := gd I
 obtain ⟨aj, I⟩ := gd I
 refine bZ 1 aE (show 0 < p1.length by have := a9; omega) (fun b3 o26 ha => ?_)
 subst ha
 refine bZ 2 aE (show 0 < q.length by have := aa; omega) (fun b4 o32 ha => ?_)
 subst ha
 refine eI 32 [] cF (fun ht hn => (dR 0 R (vS R) (dR 1 R (cK aV bX R R a9) (dR 2 R (dL 1 cE aE R a9) (dR 3 R (vS R) (dR 4 R (cK aV bX R R ac) (dR 5 R (dL 1 cE aE R ac) (dR 6 R (vS R) (dR 7 R (cK aV bX R R ae) (dR 8 R (dL 1 cE aE R ae) (dR 9 R (vS R) (dR 10 R (cK aV bX R R ag) (dR 11 R (dL 1 cE aE R ag) (dR 12 R (vS R) (dR 13 R (cK aV bX R R aa) (dR 14 R (dL 2 cE aE R aa) (dR 15 R (vS R) (dR 16 R (cK aV bX R R ah) (dR 17 R (dL 2 cE aE R ah) (dR 18 R (vS R) (dR 19 R (cK aV bX R R ai) (dR 20 R (dL 2 cE aE R ai) (dR 21 R (vS R) (dR 22 R (cK aV bX R R aj) (dR 23 R (dL 2 cE aE R aj) ?_)))))))))))))))))))))))))
 refine dR 24 R (vz (.agg [(iv (ix p1 (0 : Int))), (iv (ix p1 (1 : Int))), (iv (ix p1 (2 : Int))), (iv (ix p1 (3 : Int))), (iv (ix q (0 : Int))), (iv (ix q (1 : Int))), (iv (ix q (2 : Int))), (iv (ix q (3 : Int)))].toArray) (bW (l := [(0, (iv (ix p1 (0 : Int)))), (1, (iv (ix p1 (1 : Int)))), (2, (iv (ix p1 (2 : Int)))), (3, (iv (ix p1 (3 : Int)))), (4, (iv (ix q (0 : Int)))), (5, (iv (ix q (1 : Int)))), (6, (iv (ix q (2 : Int)))), (7, (iv (ix q (3 : Int))))]) x7 x8 R R)) (dR 25 R (vI R) (dR 26 R (vI R) (dR 27 R (vI R) (dR 28 R (vI R) ?_))))
 refine dR 29 R (vz (.agg [(iv (ix p1 (0 : Int))), (iv (ix p1 (1 : Int))), (iv (ix p1 (2 : Int))), (iv (ix p1 (3 : Int))), (iv (ix q (0 : Int))), (iv (ix q (1 : Int))), (iv (ix q (2 : Int))), (iv (ix q (3 : Int))), (iv g), (iv m), (iv j), (iv i), (iv 0), (iv 0)].toArray) (bW (l := [(0, (.agg [(iv (ix p1 (0 : Int))), (iv (ix p1 (1 : Int))), (iv (ix p1 (2 : Int))), (iv (ix p1 (3 : Int))), (iv (ix q (0 : Int))), (iv (ix q (1 : Int))), (iv (ix q (2 : Int))), (iv (ix q (3 : Int)))].toArray)), (1, (iv g)), (2, (iv m)), (3, (iv j)), (4, (iv i)), (5, (iv 0)), (6, (iv 0))]) rt mH R R)) (d1 30 R (bM R R mH (fun U => (aC (aP (sL [0]) (d1 31 R (aU 0 R R hY R R R R R R (lN (aK U [(iv (ix p1 (0 : Int))), (iv (ix p1 (1 : Int))), (iv (ix p1 (2 : Int))), (iv (ix p1 (3 : Int))), (iv (ix q (0 : Int))), (iv (ix q (1 : Int))), (iv (ix q (2 : Int))), (iv (ix q (3 : Int))), (iv g), (iv m), (iv j), (iv i), (iv 0), (iv 0)] 66 :: _ :: W0) ?_))))))))
 refine aC (aP (sL [0]) (dD (aB (aD (eI 30 [] cF (fun ht hn => (dR 0 R (bT 0 dS R) (dR 1 R (bT 2 mI R) (dR 2 R (bV 0 cE R R R) (dR 3 R (vI R) (dR 4 R (f9 R R) (dR 5 R (cX R R) (dR 6 R (vI R) (dR 7 R (bT 0 dS R) (dR 8 R (bT 6 kO R) (dR 9 R (bV 0 cE R R R) (dR 10 R (hM R R) (dR 11 R (f9 R R) (dR 12 R (hM R R) (dR 13 R (hM R R) (dR 14 R (bT 0 dS R) (dR 15 R (bT 3 mJ R) (dR 16 R (bV 0 cE R R R) (dR 17 R (vI R) (dR 18 R (f9 R R) (dR 19 R (cX R R) (dR 20 R (vI R) (dR 21 R (bT 0 dS R) (dR 22 R (bT 7 kP R) (dR 23 R (bV 0 cE R R R) (dR 24 R (hM R R) (dR 25 R (f9 R R) (dR 26 R (hM R R) (dR 27 R (hM R R) (dR 28 R (vI R) (dR 29 R (vI R) (dD (aB (aD (aD ?_))))))))))))))))))))))))))))))))))))))))
 obtain ⟨ar, I⟩ := gd I
 refine cQ [(2, (iv g)), (12, (pt b9 0)), (14, (pt U 0)), (15, (iv (aG ((aG ((aG ((ix p1 (2 : Int)) + (aG ((2 : Int) * m)))) - (aG (j * (aG ((ix q (2 : Int)) - (1 : Int))))))) - (1 : Int))))), (16, (iv (aG ((aG ((aG ((ix p1 (3 : Int)) + (aG ((2 : Int) * m)))) - (aG (j * (aG ((ix q (3 : Int)) - (1 : Int))))))) - (1 : Int))))), (128, (.bool (((((ix p1 (1 : Int)) != (aG ((ix q (1 : Int)) * i))) || (((ix q (0 : Int)).tmod i) != (0 : Int))) || (decide ((aG ((aG ((aG ((ix p1 (2 : Int)) + (aG ((2 : Int) * m)))) - (aG (j * (aG ((ix q (2 : Int)) - (1 : Int))))))) - (1 : Int))) < (0 : Int)))) || (decide ((aG ((aG ((aG ((ix p1 (3 : Int)) + (aG ((2 : Int) * m)))) - (aG (j * (aG ((ix q (3 : Int)) - (1 : Int))))))) - (1 : Int))) < (0 : Int))))))] (aK b9 [(iv 0), (iv 0), (iv 0), (iv 0), (iv 0), (iv 0), (iv 0), (iv 0), (iv 0), (iv 0), (iv 0), (iv 0), (iv 0), (iv 0)] 66 :: aK U [(iv (ix p1 (0 : Int))), (iv (ix p1 (1 : Int))), (iv (ix p1 (2 : Int))), (iv (ix p1 (3 : Int))), (iv (ix q (0 : Int))), (iv (ix q (1 : Int))), (iv (ix q (2 : Int))), (iv (ix q (3 : Int))), (iv g), (iv m), (iv j), (iv i), (iv 0), (iv 0)] 66 :: W0) ?_ ?_
 refine aA (lO (bT 0 dS R) (lO (bT 1 pc R) (lO (bV 0 cE R R R) (lO (bT 0 dS R) (lO (bT 5 jZ R) (lO (bV 0 cE R R R) (lI R (lO (f9 R R) (lO (ig R R) (lB R ?_))))))))))
 rcases bo ((ix p1 (1 : Int)) != (aG ((ix q (1 : Int)) * i))) with F | F
 refine lf (aT F) (lf (aT F) (lf (aT F) (lf (aT F) (lf (aT F) (lf (aT F) (lO (cW (((ix q (0 : Int)).tmod i) != (0 : Int)) R F) (lB R (lf (aT (oT F)) (lf (aT (oT F)) (lO (cW (decide ((aG ((aG ((aG ((ix p1 (2 : Int)) + (aG ((2 : Int) * m)))) - (aG (j * (aG ((ix q (2 : Int)) - (1 : Int))))))) - (1 : Int))) < (0 : Int))) R (oT F)) (lB R (lf (aT (oT (oT F))) (lf (aT (oT (oT F))) (lO (cW (decide ((aG ((aG ((aG ((ix p1 (3 : Int)) + (aG ((2 : Int) * m)))) - (aG (j * (aG ((ix q (3 : Int)) - (1 : Int))))))) - (1 : Int))) < (0 : Int))) R (oT (oT F))) (aC ?_)))))))))))))))
 exact qJ (fun w s => (s.e 2 [1, 0]))
 refine lW (bI F) (bT 0 dS R) (lW (bI F) (bT 4 kQ R) (lW (bI F) (bV 0 cE R R R) (lW (bI F) (vI R) (lW (bI F) (iC R R (ar F)) (lW (bI F) (ig R R) (lO (eS R F R) (lB R ?_)))))))
 rcases bo (((ix p1 (1 : Int)) != (aG ((ix q (1 : Int)) * i))) || (((ix q (0 : Int)).tmod i) != (0 : Int))) with M | M
 refine lf (aT M) (lf (aT M) (lO (cW (decide ((aG ((aG ((aG ((ix p1 (2 : Int)) + (aG ((2 : Int) * m)))) - (aG (j * (aG ((ix q (2 : Int)) - (1 : Int))))))) - (1 : Int))) < (0 : Int))) R M) (lB R (lf (aT (oT M)) (lf (aT (oT M)) (lO (cW (decide ((aG ((aG ((aG ((ix p1 (3 : Int)) + (aG ((2 : Int) * m)))) - (aG (j * (aG ((ix q (3 : Int)) - (1 : Int))))))) - (1 : Int))) < (0 : Int))) R (oT M)) (aC ?_)))))))
 exact qJ (fun w s => (s.e 2 [1, 0]))
 refine lW (bI M) (vI R) (lW (bI M) (dQ R R) (lO (eS R M R) (lB R ?_)))
 rcases bo ((((ix p1 (1 : Int)) != (aG ((ix q (1 : Int)) * i))) || (((ix q (0 : Int)).tmod i) != (0 : Int))) || (decide ((aG ((aG ((aG ((ix p1 (2 : Int)) + (aG ((2 : Int) * m)))) - (aG (j * (aG ((ix q (2 : Int)) - (1 : Int))))))) - (1 : Int))) < (0 : Int)))) with T | T
 refine lf (aT T) (lf (aT T) (lO (cW (decide ((aG ((aG ((aG ((ix p1 (3 : Int)) + (aG ((2 : Int) * m)))) - (aG (j * (aG ((ix q (3 : Int)) - (1 : Int))))))) - (1 : Int))) < (0 : Int))) R T) (aC ?_)))
 exact qJ (fun w s => (s.e 2 [1, 0]))
 refine lW (bI T) (vI R) (lW (bI T) (dQ R R) (lO (eS R T R) (aC ?_)))
 exact qJ (fun w s => (s.e 2 [1, 0]))
 rintro σ1
 refine aB ?_
 rcases bG I with ⟨a7, I⟩ | ⟨a7, I⟩
 refine aL R a7 (aD (aA (lO (vz (.agg [(iv 0), (iv 0), (iv 0), (iv 0), (iv 0), (iv 0), (iv 0), (iv 0), (iv 0), (iv 0), (iv 0), (iv 0), (iv 0), (iv 0)].toArray) (bW rt mH R R)) (aU 0 R R hY R R R R R R (lB R (aC (aB (aW (bA ?_)))))))))
 obtain rfl := so I
 exact bU (vs := [(.agg [(iv 0), (iv 0), (iv 0), (iv 0), (iv 0), (iv 0), (iv 0), (iv 0), (iv 0), (iv 0), (iv 0), (iv 0), (iv 0), (iv 0)].toArray), (.bool false)]) (.inl R) () R ⟨⟨0, b9, _, _, R, R, .inl ⟨kr, hY, R⟩⟩, R, trivial⟩ R (fun w s => (s.e 4 []))
 refine aI R a7 (aN (aB (aD ?_)))
 obtain ⟨ak, I⟩ := gd I
 refine eI 12 [1] cF (fun ht hn => (dR 0 R (vI R) (hS := (sL [1])) (dR 1 R (vI R) (hS := (sL [1])) (dR 2 R (vz (iv (aG ((aG ((aG ((aG ((ix p1 (2 : Int)) + (aG ((2 : Int) * m)))) - (aG (j * (aG ((ix q (2 : Int)) - (1 : Int))))))) - (1 : Int))).tdiv g))) (gO R R ak)) (hS := (sL [1])) (dR 3 R (cX R R) (hS := (sL [1])) (dR 4 R (vI R) (hS := (sL [1])) (dR 5 R (vI R) (hS := (sL [1])) (dR 6 R (vz (iv (aG ((aG ((aG ((aG ((ix p1 (3 : Int)) + (aG ((2 : Int) * m)))) - (aG (j * (aG ((ix q (3 : Int)) - (1 : Int))))))) - (1 : Int))).tdiv g))) (gO R R ak)) (hS := (sL [1])) (dR 7 R (cX R R) (hS := (sL [1])) (dR 8 R (bT 12 mK R) (hS := (sL [1])) (d1 9 R (dP 1 R R bX R R R R R ?_))))))))))))
 refine lN (_ :: aK U [(iv (ix p1 (0 : Int))), (iv (ix p1 (1 : Int))), (iv (ix p1 (2 : Int))), (iv (ix p1 (3 : Int))), (iv (ix q (0 : Int))), (iv (ix q (1 : Int))), (iv (ix q (2 : Int))), (iv (ix q (3 : Int))), (iv g), (iv m), (iv j), (iv i), (iv (aG ((aG ((aG ((aG ((aG ((ix p1 (2 : Int)) + (aG ((2 : Int) * m)))) - (aG (j * (aG ((ix q (2 : Int)) - (1 : Int))))))) - (1 : Int))).tdiv g)) + (1 : Int)))), (iv 0)] 66 :: W0) ?_
 refine aC (aP (sL [1]) (dR 10 R (bT 13 mL R) (hS := (sL [1])) (d1 11 R (dP 1 R R bX R R R R R (lN (_ :: aK U [(iv (ix p1 (0 : Int))), (iv (ix p1 (1 : Int))), (iv (ix p1 (2 : Int))), (iv (ix p1 (3 : Int))), (iv (ix q (0 : Int))), (iv (ix q (1 : Int))), (iv (ix q (2 : Int))), (iv (ix q (3 : Int))), (iv g), (iv m), (iv j), (iv i), (iv (aG ((aG ((aG ((aG ((aG ((ix p1 (2 : Int)) + (aG ((2 : Int) * m)))) - (aG (j * (aG ((ix q (2 : Int)) - (1 : Int))))))) - (1 : Int))).tdiv g)) + (1 : Int)))), (iv (aG ((aG ((aG ((aG ((aG ((ix p1 (3 : Int)) + (aG ((2 : Int) * m)))) - (aG (j * (aG ((ix q (3 : Int)) - (1 : Int))))))) - (1 : Int))).tdiv g)) + (1 : Int))))] 66 :: W0) ?_)))))
 refine aC (aP (sL [1]) (dD (aB (aD (aD ?_)))))
 obtain ⟨ab, al, I⟩ := bd I
 obtain ⟨b0, am, I⟩ := bd I
 obtain ⟨ap, ay, I⟩ := bd I
 obtain ⟨b1, az, I⟩ := bd I
 refine cQ [(12, (pt b9 0)), (14, (pt U 0)), (161, (.bool ((!b0) || (decide ((aG ((aG ((aG (b1 * (ix q (1 : Int)))) * (ix q (2 : Int)))) * (ix q (3 : Int)))) > (65536 : Int))))))] (aK b9 [(iv 0), (iv 0), (iv 0), (iv 0), (iv 0), (iv 0), (iv 0), (iv 0), (iv 0), (iv 0), (iv 0), (iv 0), (iv 0), (iv 0)] 66 :: aK U [(iv (ix p1 (0 : Int))), (iv (ix p1 (1 : Int))), (iv (ix p1 (2 : Int))), (iv (ix p1 (3 : Int))), (iv (ix q (0 : Int))), (iv (ix q (1 : Int))), (iv (ix q (2 : Int))), (iv (ix q (3 : Int))), (iv g), (iv m), (iv j), (iv i), (iv (aG ((aG ((aG ((aG ((aG ((ix p1 (2 : Int)) + (aG ((2 : Int) * m)))) - (aG (j * (aG ((ix q (2 : Int)) - (1 : Int))))))) - (1 : Int))).tdiv g)) + (1 : Int)))), (iv (aG ((aG ((aG ((aG ((aG ((ix p1 (3 : Int)) + (aG ((2 : Int) * m)))) - (aG (j * (aG ((ix q (3 : Int)) - (1 : Int))))))) - (1 : Int))).tdiv g)) + (1 : Int))))] 66 :: W0) ?_ ?_
 rcases bo (!b0) with u | u
 refine eI 22 [] cF (fun ht hn => (dR 0 R (vz (.agg [(iv (ix p1 (0 : Int))), (iv (ix p1 (1 : Int))), (iv (ix p1 (2 : Int))), (iv (ix p1 (3 : Int))), (iv (ix q (0 : Int))), (iv (ix q (1 : Int))), (iv (ix q (2 : Int))), (iv (ix q (3 : Int))), (iv g), (iv m), (iv j), (iv i), (iv (aG ((aG ((aG ((aG ((aG ((ix p1 (2 : Int)) + (aG ((2 : Int) * m)))) - (aG (j * (aG ((ix q (2 : Int)) - (1 : Int))))))) - (1 : Int))).tdiv g)) + (1 : Int)))), (iv (aG ((aG ((aG ((aG ((aG ((ix p1 (3 : Int)) + (aG ((2 : Int) * m)))) - (aG (j * (aG ((ix q (3 : Int)) - (1 : Int))))))) - (1 : Int))).tdiv g)) + (1 : Int))))].toArray) (bF 1 kr hY R R R R)) (d1 1 R ?_)))
 refine lC 0 ru R (Z0w_ok (f1 := (⟨(⟨(ix p1 (0 : Int)), (ix p1 (1 : Int)), (ix p1 (2 : Int)), (ix p1 (3 : Int)), (ix q (0 : Int)), (ix q (1 : Int)), (ix q (2 : Int)), (ix q (3 : Int))⟩ : sizes), g, m, j, i, (aG ((aG ((aG ((aG ((aG ((ix p1 (2 : Int)) + (aG ((2 : Int) * m)))) - (aG (j * (aG ((ix q (2 : Int)) - (1 : Int))))))) - (1 : Int))).tdiv g)) + (1 : Int))), (aG ((aG ((aG ((aG ((aG ((ix p1 (3 : Int)) + (aG ((2 : Int) * m)))) - (aG (j * (aG ((ix q (3 : Int)) - (1 : Int))))))) - (1 : Int))).tdiv g)) + (1 : Int)))⟩ : filter)) al) R ?_
 rintro ⟨a0, aq, a1⟩
 refine lN (ow kT3 3 (.slice a0 aq a1) ab :: _ :: _ :: W0) ?_
 refine aY 0 aH ?_
 rintro rfl
 refine aC (aP (sL [0]) (d1 2 R (lC 1 kq R (FnOk.lends (A' := [OO kT3 3 a0 a1 ab]) (A := [RR kT3 a0 a1 ab]) (B := []) (Zg_ok am) ⟨bD, trivial⟩ (fun _ => trivial)) R ?_)))
 rintro _
 refine aC (aP (sL [0]) (dR 3 R (ft R) (hS := (sL [0])) (dR 4 R (vB R) (hS := (sL [0])) (dF 5 R (aT u) (hS := (sL [0])) (dF 6 R (aT u) (hS := (sL [0])) (dF 7 R (aT u) (hS := (sL [0])) (dF 8 R (aT u) (hS := (sL [0])) (dF 9 R (aT u) (hS := (sL [0])) (dF 10 R (aT u) (hS := (sL [0])) (dF 11 R (aT u) (hS := (sL [0])) (dF 12 R (aT u) (hS := (sL [0])) (dF 13 R (aT u) (hS := (sL [0])) (dF 14 R (aT u) (hS := (sL [0])) (dF 15 R (aT u) (hS := (sL [0])) (dF 16 R (aT u) (hS := (sL [0])) (dF 17 R (aT u) (hS := (sL [0])) (dF 18 R (aT u) (hS := (sL [0])) (dF 19 R (aT u) (hS := (sL [0])) (dF 20 R (aT u) (hS := (sL [0])) (dR 21 R (cW (decide ((aG ((aG ((aG (b1 * (ix q (1 : Int)))) * (ix q (2 : Int)))) * (ix q (3 : Int)))) > (65536 : Int))) R u) (hS := (sL [0])) (dD ?_)))))))))))))))))))))
 exact qJ (fun w s => (s.e 3 [1, 2]))
 refine eI 22 [] cF (fun ht hn => (dR 0 R (vz (.agg [(iv (ix p1 (0 : Int))), (iv (ix p1 (1 : Int))), (iv (ix p1 (2 : Int))), (iv (ix p1 (3 : Int))), (iv (ix q (0 : Int))), (iv (ix q (1 : Int))), (iv (ix q (2 : Int))), (iv (ix q (3 : Int))), (iv g), (iv m), (iv j), (iv i), (iv (aG ((aG ((aG ((aG ((aG ((ix p1 (2 : Int)) + (aG ((2 : Int) * m)))) - (aG (j * (aG ((ix q (2 : Int)) - (1 : Int))))))) - (1 : Int))).tdiv g)) + (1 : Int)))), (iv (aG ((aG ((aG ((aG ((aG ((ix p1 (3 : Int)) + (aG ((2 : Int) * m)))) - (aG (j * (aG ((ix q (3 : Int)) - (1 : Int))))))) - (1 : Int))).tdiv g)) + (1 : Int))))].toArray) (bF 1 kr hY R R R R)) (d1 1 R ?_)))
 refine lC 0 ru R (Z0w_ok (f1 := (⟨(⟨(ix p1 (0 : Int)), (ix p1 (1 : Int)), (ix p1 (2 : Int)), (ix p1 (3 : Int)), (ix q (0 : Int)), (ix q (1 : Int)), (ix q (2 : Int)), (ix q (3 : Int))⟩ : sizes), g, m, j, i, (aG ((aG ((aG ((aG ((aG ((ix p1 (2 : Int)) + (aG ((2 : Int) * m)))) - (aG (j * (aG ((ix q (2 : Int)) - (1 : Int))))))) - (1 : Int))).tdiv g)) + (1 : Int))), (aG ((aG ((aG ((aG ((aG ((ix p1 (3 : Int)) + (aG ((2 : Int) * m)))) - (aG (j * (aG ((ix q (3 : Int)) - (1 : Int))))))) - (1 : Int))).tdiv g)) + (1 : Int)))⟩ : filter)) al) R ?_
 rintro ⟨a0, aq, a1⟩
 refine aY 0 aH ?_
 rintro rfl
 refine aC (aP (sL [0]) (d1 2 R (lC 1 kq R (FnOk.lends (A' := [OO kT3 3 a0 a1 ab]) (A := [RR kT3 a0 a1 ab]) (B := []) (Zg_ok am) ⟨bD, trivial⟩ (fun _ => trivial)) R ?_)))
 rintro _
 refine aC (aP (sL [0]) (dR 3 R (ft R) (hS := (sL [0])) (dR 4 R (vB R) (hS := (sL [0])) (dW 5 R (bI u) (vz (.agg [(iv (ix p1 (0 : Int))), (iv (ix p1 (1 : Int))), (iv (ix p1 (2 : Int))), (iv (ix p1 (3 : Int))), (iv (ix q (0 : Int))), (iv (ix q (1 : Int))), (iv (ix q (2 : Int))), (iv (ix q (3 : Int))), (iv g), (iv m), (iv j), (iv i), (iv (aG ((aG ((aG ((aG ((aG ((ix p1 (2 : Int)) + (aG ((2 : Int) * m)))) - (aG (j * (aG ((ix q (2 : Int)) - (1 : Int))))))) - (1 : Int))).tdiv g)) + (1 : Int)))), (iv (aG ((aG ((aG ((aG ((aG ((ix p1 (3 : Int)) + (aG ((2 : Int) * m)))) - (aG (j * (aG ((ix q (3 : Int)) - (1 : Int))))))) - (1 : Int))).tdiv g)) + (1 : Int))))].toArray) (bF 1 kr hY R R R R)) (hS := (sL [0])) (dW 8 R (bI u) (bT 0 dS R) (hS := (sL [0])) (dW 9 R (bI u) (bT 5 jZ R) (hS := (sL [0])) (dW 10 R (bI u) (bV 1 cE R R R) (hS := (sL [0])) (dW 12 R (bI u) (bT 0 dS R) (hS := (sL [0])) (dW 13 R (bI u) (bT 6 kO R) (hS := (sL [0])) (dW 14 R (bI u) (bV 1 cE R R R) (hS := (sL [0])) (dW 16 R (bI u) (bT 0 dS R) (hS := (sL [0])) ?_)))))))))))
 refine dW 17 R (bI u) (bT 7 kP R) (hS := (sL [0])) (dW 18 R (bI u) (bV 1 cE R R R) (hS := (sL [0])) (d1 6 R (cU 0 R (bI u) ru R (Z0w_ok (f1 := (⟨(⟨(ix p1 (0 : Int)), (ix p1 (1 : Int)), (ix p1 (2 : Int)), (ix p1 (3 : Int)), (ix q (0 : Int)), (ix q (1 : Int)), (ix q (2 : Int)), (ix q (3 : Int))⟩ : sizes), g, m, j, i, (aG ((aG ((aG ((aG ((aG ((ix p1 (2 : Int)) + (aG ((2 : Int) * m)))) - (aG (j * (aG ((ix q (2 : Int)) - (1 : Int))))))) - (1 : Int))).tdiv g)) + (1 : Int))), (aG ((aG ((aG ((aG ((aG ((ix p1 (3 : Int)) + (aG ((2 : Int) * m)))) - (aG (j * (aG ((ix q (3 : Int)) - (1 : Int))))))) - (1 : Int))).tdiv g)) + (1 : Int)))⟩ : filter)) (cZ ay (dY u))) R ?_)))
 rintro ⟨an, b2, ao⟩
 refine lN (ow kT3 3 (.slice an b2 ao) ap :: _ :: _ :: _ :: W0) ?_
 refine aY 0 aH ?_
 rintro rfl
 refine aC (aP (sL [1, 0]) (d1 7 R (cU 1 R (bI u) iJ R (FnOk.lends (A' := [OO kT3 3 an ao ap]) (A := [RR kT3 an ao ap]) (B := []) (Zd_ok (cZ az (dY u))) ⟨bD, trivial⟩ (fun _ => trivial)) R ?_)))
 rintro _
 refine aC (aP (sL [1, 0]) (dW 11 R (bI u) (f9 R R) (hS := (sL [1, 0])) (dW 15 R (bI u) (f9 R R) (hS := (sL [1, 0])) (dW 19 R (bI u) (f9 R R) (hS := (sL [1, 0])) (dW 20 R (bI u) (iw R R) (hS := (sL [1, 0])) (dR 21 R (eS R u R) (hS := (sL [1, 0])) (dD ?_)))))))
 exact qJ (fun w s => (s.e 4 [2, 3]))
 rintro σ1
 refine aB ?_
 rcases bG I with ⟨a8, I⟩ | ⟨a8, I⟩
 refine aL R a8 (aD (aA (lO (vz (.agg [(iv 0), (iv 0), (iv 0), (iv 0), (iv 0), (iv 0), (iv 0), (iv 0), (iv 0), (iv 0), (iv 0), (iv 0), (iv 0), (iv 0)].toArray) (bW rt mH R R)) (aU 0 R R hY R R R R R R (lN (_ :: _ :: W0) ?_)))))
 refine lB R (aC (aB (aW (bA ?_))))
 obtain rfl := so I
 exact bU (vs := [(.agg [(iv 0), (iv 0), (iv 0), (iv 0), (iv 0), (iv 0), (iv 0), (iv 0), (iv 0), (iv 0), (iv 0), (iv 0), (iv 0), (iv 0)].toArray), (.bool false)]) (.inl R) () R ⟨⟨0, b9, _, _, R, R, .inl ⟨kr, hY, R⟩⟩, R, trivial⟩ R (fun w s => (s.e 4 []))
 refine aI R a8 (aN (aB (aD (aA (lO (vz (.agg [(iv (ix p1 (0 : Int))), (iv (ix p1 (1 : Int))), (iv (ix p1 (2 : Int))), (iv (ix p1 (3 : Int))), (iv (ix q (0 : Int))), (iv (ix q (1 : Int))), (iv (ix q (2 : Int))), (iv (ix q (3 : Int))), (iv g), (iv m), (iv j), (iv i), (iv (aG ((aG ((aG ((aG ((aG ((ix p1 (2 : Int)) + (aG ((2 : Int) * m)))) - (aG (j * (aG ((ix q (2 : Int)) - (1 : Int))))))) - (1 : Int))).tdiv g)) + (1 : Int)))), (iv (aG ((aG ((aG ((aG ((aG ((ix p1 (3 : Int)) + (aG ((2 : Int) * m)))) - (aG (j * (aG ((ix q (3 : Int)) - (1 : Int))))))) - (1 : Int))).tdiv g)) + (1 : Int))))].toArray) (bF 1 kr hY R R R R)) (aU 0 R R hY R R R R R R ?_))))))
 refine lN (aK b9 [(iv (ix p1 (0 : Int))), (iv (ix p1 (1 : Int))), (iv (ix p1 (2 : Int))), (iv (ix p1 (3 : Int))), (iv (ix q (0 : Int))), (iv (ix q (1 : Int))), (iv (ix q (2 : Int))), (iv (ix q (3 : Int))), (iv g), (iv m), (iv j), (iv i), (iv (aG ((aG ((aG ((aG ((aG ((ix p1 (2 : Int)) + (aG ((2 : Int) * m)))) - (aG (j * (aG ((ix q (2 : Int)) - (1 : Int))))))) - (1 : Int))).tdiv g)) + (1 : Int)))), (iv (aG ((aG ((aG ((aG ((aG ((ix p1 (3 : Int)) + (aG ((2 : Int) * m)))) - (aG (j * (aG ((ix q (3 : Int)) - (1 : Int))))))) - (1 : Int))).tdiv g)) + (1 : Int))))] 66 :: _ :: W0) ?_
 refine lB R (aC (aB (aW ?_)))
 obtain rfl := so I
 exact bU (vs := [(.agg [(iv (ix p1 (0 : Int))), (iv (ix p1 (1 : Int))), (iv (ix p1 (2 : Int))), (iv (ix p1 (3 : Int))), (iv (ix q (0 : Int))), (iv (ix q (1 : Int))), (iv (ix q (2 : Int))), (iv (ix q (3 : Int))), (iv g), (iv m), (iv j), (iv i), (iv (aG ((aG ((aG ((aG ((aG ((ix p1 (2 : Int)) + (aG ((2 : Int) * m)))) - (aG (j * (aG ((ix q (2 : Int)) - (1 : Int))))))) - (1 : Int))).tdiv g)) + (1 : Int)))), (iv (aG ((aG ((aG ((aG ((aG ((ix p1 (3 : Int)) + (aG ((2 : Int) * m)))) - (aG (j * (aG ((ix q (3 : Int)) - (1 : Int))))))) - (1 : Int))).tdiv g)) + (1 : Int))))].toArray), (.bool true)]) (.inl R) () R ⟨⟨0, b9, _, _, R, R, .inl ⟨kr, hY, R⟩⟩, R, trivial⟩ R (fun w s => (s.e 4 []))
theorem Z16_ok  {e : Int} {b : Int} {r : Int} (a : Z16 e b = some r) :
 FnOk Tryz.prog 73 [(iv e), (iv b)] [] (fun (h : Unit) => ((iv r), [])) := by
 unfold Z16 at a
 refine bN Tryz.func73 R 9 R R fun C V => ?_
 refine cN V ?_
 refine aD (aA (lI R (aC (aB (aD (aA (lI R (lI R (lO (f9 R R) (lO (iC R R (by decide)) (lI R (aC (aB (aW ?_))))))))))))))
 obtain rfl := so a
 exact qF () (fun w s => s)
theorem Z0g_ok  {i : Int} {g : Int} {r : Int} (b : Z0g i g = some r) :
 FnOk Tryz.prog 74 [(iv i), (iv g)] [] (fun (h : Unit) => ((iv r), [])) := by
 unfold Z0g at b
 refine bN Tryz.func74 R 14 R R fun C V => ?_
 refine cN V ?_
 refine aD (aA (lI R (aC (aB (aD (aA (lI R (lI R (lO (cX R R) (lI R (aC (aB (aD (bS (A := (Int) × (Unit)) (fun a => Z0g_J1 a.1 = some r) (fun a => [(5, (iv a.1))]) (fun a => V) ?_ ?_))))))))))))))
 refine aD (aA (lI R (lO (jW R R) (aC (aB ?_)))))
 rcases bG b with ⟨e, b⟩ | ⟨e, b⟩
 refine aL R e (aA (lI R (lO (hM R R) (lI R (aC ?_)))))
 exact qI ((aG ((aG (i + g)) - (2147483647 : Int))), ()) b (fun w s => s)
 refine aI R e (aN ?_)
 exact qI ((aG (i + g)), ()) b (fun w s => s)
 rintro ⟨t4, _⟩ σ1 b
 replace b : Z0g_J1 t4 = some r := b
 unfold Z0g_J1 at b
 refine aD (aA (lI R (lI R (aC (aB (aW ?_))))))
 obtain rfl := so b
 exact qF () (fun w s => s)
theorem Z6_ok  {f1 : filter} {p2 : (List Int)} {p4 : (List Int)} {n6 : Int} {o7 : Int} {F : Int} {I : Int} {r : Int} (g : Z6 f1 p2 p4 n6 o7 F I = some r) :
 FnOk Tryz.prog 43 [(.agg [(iv f1.sizes.n), (iv f1.sizes.c), (iv f1.sizes.h_), (iv f1.sizes.w_), (iv f1.sizes.o), (iv f1.sizes.k), (iv f1.sizes.a), (iv f1.sizes.b), (iv f1.stride), (iv f1.pad), (iv f1.dil), (iv f1.groups), (iv f1.oh), (iv f1.ow)].toArray), (.slice A3 N3 D3), (.slice A5 N5 D5), (iv n6), (iv o7), (iv F), (iv I)] [aQ kT3 (.slice A3 N3 D3) p2, aQ kT3 (.slice A5 N5 D5) p4] (fun (h : Unit) => ((iv r), [])) := by
 unfold Z6 at g
 refine bN Tryz.func43 R 149 R R fun C V => ?_
 refine cN (_ :: _ :: V) ?_
 refine cL 0 aE ?_
 rintro rfl
 refine cL 1 aE ?_
 rintro rfl
 let W0 : List HP := RR kT3 A3 D3 p2 :: RR kT3 A5 D5 p4 :: V
 refine cN W0 ?_
 refine aD (aA (gz R (fun G => (lI R (aC ?_)))))
 let W1 : List HP := aK G [(iv f1.sizes.n), (iv f1.sizes.c), (iv f1.sizes.h_), (iv f1.sizes.w_), (iv f1.sizes.o), (iv f1.sizes.k), (iv f1.sizes.a), (iv f1.sizes.b), (iv f1.stride), (iv f1.pad), (iv f1.dil), (iv f1.groups), (iv f1.oh), (iv f1.ow)] 66 :: W0
 refine qN W1 ?_
 refine aB (aD (aA (lI R (aC (aB (aD (bS (A := (Int) × (Unit)) (fun a => Z6_J15 a.1 = some r) (fun a => [(15, (iv a.1))]) (fun a => W1) ?_ ?_)))))))
 refine aD (aA (lI R (aC (aB (aM ?_)))))
 obtain ⟨e1, an, ak⟩ := bd g
 refine bQ (A := Unit) an (fun s a => [(1, (sc A3 p2 D3)), (2, (sc A5 p4 D5)), (3, (iv n6)), (4, (iv o7)), (5, (iv F)), (6, (iv I)), (7, (pt G 0)), (15, (iv s.1)), (16, (iv s.2))]) (fun s a => W1) () (aS R) (fun w s => s) ?_
 rintro ⟨a5, q⟩ _ σ1 a2 g ah
 replace g : Z6_L1 f1 p2 p4 n6 o7 F I a5 q = some a2 := g
 unfold Z6_L1 at g
 refine aD (aD (aA (lI R (lO (bT 0 dS R) (lO (bT 5 jZ R) (lO (bV 0 cE R R R) (lO (dQ R R) (aC (aB ?_)))))))))
 rcases bG g with ⟨a1, g⟩ | ⟨a1, g⟩
 refine aL R a1 (aN (aB (aD (bS (A := (Int) × (Unit)) (fun a => Z6_J14 q a.1 = some a2) (fun a => [(1, (sc A3 p2 D3)), (2, (sc A5 p4 D5)), (3, (iv n6)), (4, (iv o7)), (5, (iv F)), (6, (iv I)), (7, (pt G 0)), (15, (iv a.1)), (16, (iv q))]) (fun a => W1) ?_ ?_))))
 refine aM (aD ?_)
 obtain ⟨ac, g⟩ := gd g
 obtain ⟨ae, g⟩ := gd g
 refine eI 15 [] cF (fun ht hn => (dR 0 R (vI R) (dR 1 R (bT 0 dS R) (dR 2 R (bT 4 kQ R) (dR 3 R (bV 0 cE R R R) (dR 4 R (bT 11 tQ R) (dR 5 R (bV 0 cE R R R) (dR 6 R (vz (iv (aG (f1.sizes.o.tdiv f1.groups))) (gO R R ac)) (dR 7 R (vz (iv (aG (o7.tdiv (aG (f1.sizes.o.tdiv f1.groups))))) (gO R R ae)) (dR 8 R (bT 0 dS R) (dR 9 R (bT 5 jZ R) (dR 10 R (bV 0 cE R R R) (dR 11 R (f9 R R) (dR 12 R (vI R) (dR 13 R (cX R R) (dR 14 R (vI R) (dD (aB (aD (aA (lI R (aC (aB (aM ?_))))))))))))))))))))))))
 obtain ⟨e2, ao, al⟩ := bd g
 refine bQ (A := Unit) ao (fun s a => [(1, (sc A3 p2 D3)), (2, (sc A5 p4 D5)), (3, (iv n6)), (4, (iv o7)), (5, (iv F)), (6, (iv I)), (7, (pt G 0)), (15, (iv s.1)), (16, (iv q)), (17, (iv (aG ((aG ((aG (o7.tdiv (aG (f1.sizes.o.tdiv f1.groups)))) * f1.sizes.k)) + q)))), (18, (iv s.2))]) (fun s a => W1) () (aS R) (fun w s => s) ?_
 rintro ⟨D, m⟩ _ σ1 a3 g ai
 replace g : Z6_L2 f1 p2 p4 n6 o7 F I q D m = some a3 := g
 unfold Z6_L2 at g
 refine aD (aD (aA (lI R (lO (bT 0 dS R) (lO (bT 6 kO R) (lO (bV 0 cE R R R) (lO (dQ R R) (aC (aB ?_)))))))))
 rcases bG g with ⟨J, g⟩ | ⟨J, g⟩
 refine aL R J (aN (aB (aD (bS (A := (Int) × (Unit)) (fun a => Z6_J13 m a.1 = some a3) (fun a => [(1, (sc A3 p2 D3)), (2, (sc A5 p4 D5)), (3, (iv n6)), (4, (iv o7)), (5, (iv F)), (6, (iv I)), (7, (pt G 0)), (15, (iv a.1)), (16, (iv q)), (17, (iv (aG ((aG ((aG (o7.tdiv (aG (f1.sizes.o.tdiv f1.groups)))) * f1.sizes.k)) + q)))), (18, (iv m))]) (fun a => W1) ?_ ?_))))
 refine aM (aD (aA (lI R (lO (bT 8 ph R) (lO (bV 0 cE R R R) (lO (f9 R R) (lO (bT 9 pi R) (lO (bV 0 cE R R R) (lO (hM R R) (lO (bT 10 pj R) (lO (bV 0 cE R R R) (lI R (lO (f9 R R) (lO (cX R R) (lI R (aC (aB (aD (aD (cQ [(1, (sc A3 p2 D3)), (2, (sc A5 p4 D5)), (3, (iv n6)), (4, (iv o7)), (5, (iv F)), (6, (iv I)), (7, (pt G 0)), (15, (iv D)), (16, (iv q)), (17, (iv (aG ((aG ((aG (o7.tdiv (aG (f1.sizes.o.tdiv f1.groups)))) * f1.sizes.k)) + q)))), (18, (iv m)), (19, (iv (aG ((aG ((aG (F * f1.stride)) - f1.pad)) + (aG (f1.dil * m)))))), (71, (.bool ((decide ((aG ((aG ((aG (F * f1.stride)) - f1.pad)) + (aG (f1.dil * m)))) < (0 : Int))) || (decide ((aG ((aG ((aG (F * f1.stride)) - f1.pad)) + (aG (f1.dil * m)))) ≥ f1.sizes.h_)))))] (W1) ?_ ?_))))))))))))))))))))
 refine aA (lI R (lO (dQ R R) (lB R ?_)))
 rcases bo (decide ((aG ((aG ((aG (F * f1.stride)) - f1.pad)) + (aG (f1.dil * m)))) < (0 : Int))) with i | i
 refine lf (aT i) (lf (aT i) (lf (aT i) (lf (aT i) (lf (aT i) (lO (cW (decide ((aG ((aG ((aG (F * f1.stride)) - f1.pad)) + (aG (f1.dil * m)))) ≥ f1.sizes.h_)) R i) (aC ?_))))))
 exact qJ (fun w s => s)
 refine lW (bI i) (vI R) (lW (bI i) (bT 0 dS R) (lW (bI i) (bT 2 mI R) (lW (bI i) (bV 0 cE R R R) (lW (bI i) (jW R R) (lO (eS R i R) (aC ?_))))))
 exact qJ (fun w s => s)
 rintro σ1
 refine aB ?_
 rcases bG g with ⟨L, g⟩ | ⟨L, g⟩
 refine aL R L (bP (aR (bE ?_)))
 exact qI (D, ()) g (fun w s => s)
 refine aI R L (aN (aB (aD (aA (lI R (aC (aB (aM ?_))))))))
 obtain ⟨e3, ap, am⟩ := bd g
 refine bQ (A := Unit) ap (fun s a => [(1, (sc A3 p2 D3)), (2, (sc A5 p4 D5)), (3, (iv n6)), (4, (iv o7)), (5, (iv F)), (6, (iv I)), (7, (pt G 0)), (15, (iv s.1)), (16, (iv q)), (17, (iv (aG ((aG ((aG (o7.tdiv (aG (f1.sizes.o.tdiv f1.groups)))) * f1.sizes.k)) + q)))), (18, (iv m)), (19, (iv (aG ((aG ((aG (F * f1.stride)) - f1.pad)) + (aG (f1.dil * m)))))), (20, (iv s.2))]) (fun s a => W1) () (aS R) (fun w s => s) ?_
 rintro ⟨E, u⟩ _ σ1 a4 g aj
 replace g : Z6_L3 f1 p2 p4 n6 o7 F I q m E u = some a4 := g
 unfold Z6_L3 at g
 refine aD (aD (aA (lI R (lO (bT 0 dS R) (lO (bT 7 kP R) (lO (bV 0 cE R R R) (lO (dQ R R) (aC (aB ?_)))))))))
 rcases bG g with ⟨M, g⟩ | ⟨M, g⟩
 refine aL R M (aN (aB (aD (bS (A := (Int) × (Unit)) (fun a => Z6_J12 u a.1 = some a4) (fun a => [(1, (sc A3 p2 D3)), (2, (sc A5 p4 D5)), (3, (iv n6)), (4, (iv o7)), (5, (iv F)), (6, (iv I)), (7, (pt G 0)), (15, (iv a.1)), (16, (iv q)), (17, (iv (aG ((aG ((aG (o7.tdiv (aG (f1.sizes.o.tdiv f1.groups)))) * f1.sizes.k)) + q)))), (18, (iv m)), (19, (iv (aG ((aG ((aG (F * f1.stride)) - f1.pad)) + (aG (f1.dil * m)))))), (20, (iv u))]) (fun a => W1) ?_ ?_))))
 refine aM (aD (aA (lI R (lO (bT 8 ph R) (lO (bV 0 cE R R R) (lO (f9 R R) (lO (bT 9 pi R) (lO (bV 0 cE R R R) (lO (hM R R) (lO (bT 10 pj R) (lO (bV 0 cE R R R) (lI R (lO (f9 R R) (lO (cX R R) (lI R (aC (aB (aD (aD (cQ [(1, (sc A3 p2 D3)), (2, (sc A5 p4 D5)), (3, (iv n6)), (4, (iv o7)), (5, (iv F)), (6, (iv I)), (7, (pt G 0)), (15, (iv E)), (16, (iv q)), (17, (iv (aG ((aG ((aG (o7.tdiv (aG (f1.sizes.o.tdiv f1.groups)))) * f1.sizes.k)) + q)))), (18, (iv m)), (19, (iv (aG ((aG ((aG (F * f1.stride)) - f1.pad)) + (aG (f1.dil * m)))))), (20, (iv u)), (21, (iv (aG ((aG ((aG (I * f1.stride)) - f1.pad)) + (aG (f1.dil * u)))))), (99, (.bool ((decide ((aG ((aG ((aG (I * f1.stride)) - f1.pad)) + (aG (f1.dil * u)))) < (0 : Int))) || (decide ((aG ((aG ((aG (I * f1.stride)) - f1.pad)) + (aG (f1.dil * u)))) ≥ f1.sizes.w_)))))] (W1) ?_ ?_))))))))))))))))))))
 refine aA (lI R (lO (dQ R R) (lB R ?_)))
 rcases bo (decide ((aG ((aG ((aG (I * f1.stride)) - f1.pad)) + (aG (f1.dil * u)))) < (0 : Int))) with j | j
 refine lf (aT j) (lf (aT j) (lf (aT j) (lf (aT j) (lf (aT j) (lO (cW (decide ((aG ((aG ((aG (I * f1.stride)) - f1.pad)) + (aG (f1.dil * u)))) ≥ f1.sizes.w_)) R j) (aC ?_))))))
 exact qJ (fun w s => s)
 refine lW (bI j) (vI R) (lW (bI j) (bT 0 dS R) (lW (bI j) (bT 3 mJ R) (lW (bI j) (bV 0 cE R R R) (lW (bI j) (jW R R) (lO (eS R j R) (aC ?_))))))
 exact qJ (fun w s => s)
 rintro σ1
 refine aB ?_
 rcases bG g with ⟨T, g⟩ | ⟨T, g⟩
 refine aL R T (bP (aR (bE ?_)))
 exact qI (E, ()) g (fun w s => s)
 refine aI R T (aN (aB (aD ?_)))
 obtain ⟨U, g⟩ := gd g
 refine aA (lS R (lI R (lO (bT 0 dS R) (lO (bT 5 jZ R) (lO (bV 0 cE R R R) (lO (f9 R R) (lI R (lO (cX R R) (lO (bT 0 dS R) (lO (bT 6 kO R) (lO (bV 0 cE R R R) (lO (f9 R R) (lI R (lO (cX R R) (lO (bT 0 dS R) (lO (bT 7 kP R) (lO (bV 0 cE R R R) (lO (f9 R R) (lI R (lO (cX R R) (bY 2 aE (show 0 < p4.length by have := U; omega) (fun aq o158 ha => ?_))))))))))))))))))))))
 subst ha
 refine lO (cK aV bX R R U) (lO (dL 2 cE aE R U) (lI R (aC (aB ?_))))
 obtain ⟨a0, g⟩ := gd g
 obtain ⟨au, aa, g⟩ := bd g
 obtain ⟨ag, ab, g⟩ := bd g
 refine aA (lI R (lI R (lS R (lI R (lO (bT 0 dS R) (lO (bT 1 pc R) (lO (bV 0 cE R R R) (lO (f9 R R) (lI R (lO (cX R R) (lO (bT 0 dS R) (lO (bT 2 mI R) (lO (bV 0 cE R R R) (lO (f9 R R) (lI R (lO (cX R R) (lO (bT 0 dS R) (lO (bT 3 mJ R) (lO (bV 0 cE R R R) (lO (f9 R R) (lI R (lO (cX R R) (bY 1 aE (show 0 < p2.length by have := a0; omega) (fun ar o161 ha => ?_))))))))))))))))))))))))
 subst ha
 refine lO (cK aV bX R R a0) (lO (dL 1 cE aE R a0) (lC 0 vH R (Z16_ok aa) R ?_))
 rintro _
 refine lC 0 tR R (Z0g_ok ab) R ?_
 rintro _
 refine lI R (aC (aZ ?_))
 exact qI (ag, ()) g (fun w s => s)
 rintro ⟨a6, _⟩ σ1 g
 replace g : Z6_J12 u a6 = some a4 := g
 unfold Z6_J12 at g
 refine aA (lI R (lO (cX R R) (lI R (aC ?_))))
 obtain rfl := so g
 exact qA () (fun w s => s)
 refine aI R M (bP (aR ?_))
 obtain rfl := so g
 obtain rfl := aj _ R
 have g := am
 refine aR (bE (aZ ?_))
 exact qI (E, ()) g (fun w s => s)
 rintro ⟨a7, _⟩ σ1 g
 replace g : Z6_J13 m a7 = some a3 := g
 unfold Z6_J13 at g
 refine aA (lI R (lO (cX R R) (lI R (aC ?_))))
 obtain rfl := so g
 exact qA () (fun w s => s)
 refine aI R J (bP (aR ?_))
 obtain rfl := so g
 obtain rfl := ai _ R
 have g := al
 refine aR (bE (aZ ?_))
 exact qI (D, ()) g (fun w s => s)
 rintro ⟨a8, _⟩ σ1 g
 replace g : Z6_J14 q a8 = some a2 := g
 unfold Z6_J14 at g
 refine aA (lI R (lO (cX R R) (lI R (aC ?_))))
 obtain rfl := so g
 exact qA () (fun w s => s)
 refine aI R a1 (bP (aR ?_))
 obtain rfl := so g
 obtain rfl := ah _ R
 have g := ak
 refine aR (bE ?_)
 exact qI (a5, ()) g (fun w s => s)
 rintro ⟨a9, _⟩ σ1 g
 replace g : Z6_J15 a9 = some r := g
 unfold Z6_J15 at g
 refine aD (aA (lI R (lI R (aC (aB (aW ?_))))))
 obtain rfl := so g
 exact qF () (fun w s => (s.e 3 []))
theorem Z3_ok  {p1 : Tensor} {L : Tensor} {a6 : Int} {b1 : Int} {b0 : Int} {a3 : Int} {r : Tensor} (i : Z3 p1 L a6 b1 b0 a3 = some r) :
 FnOk Tryz.prog 10 [(.agg [(.slice A2 N2 D2), (.slice A3 N3 D3)].toArray), (.agg [(.slice A5 N5 D5), (.slice A6 N6 D6)].toArray), (iv a6), (iv b1), (iv b0), (iv a3)] [aQ kT3 (.slice A2 N2 D2) p1.Dims, aQ kT3 (.slice A3 N3 D3) p1.Data, aQ kT3 (.slice A5 N5 D5) L.Dims, aQ kT3 (.slice A6 N6 D6) L.Data] (fun (h : HH × HH) => ((.agg [(.slice h.1.1 h.1.2.1 h.1.2.2), (.slice h.2.1 h.2.2.1 h.2.2.2)].toArray), [ow kT3 3 (.slice h.1.1 h.1.2.1 h.1.2.2) r.Dims, ow kT3 3 (.slice h.2.1 h.2.2.1 h.2.2.2) r.Data])) := by
 unfold Z3 at i
 refine bN Tryz.func10 R 86 R R fun C V => ?_
 refine cN (_ :: _ :: _ :: _ :: V) ?_
 refine cL 0 aE ?_
 rintro rfl
 refine cL 1 aE ?_
 rintro rfl
 refine cL 2 aE ?_
 rintro rfl
 refine cL 3 aE ?_
 rintro rfl
 let W0 : List HP := RR kT3 A2 D2 p1.Dims :: RR kT3 A3 D3 p1.Data :: RR kT3 A5 D5 L.Dims :: RR kT3 A6 D6 L.Data :: V
 refine cN W0 ?_
 refine aD (aA (gz R (fun a4 => (gz R (fun a5 => (bM R R dC (fun D => (aC ?_))))))))
 let T : List HP := aK a5 [(sc A5 L.Dims D5), (sc A6 L.Data D6)] 26 :: aK a4 [(sc A2 p1.Dims D2), (sc A3 p1.Data D3)] 26 :: W0
 refine qN (_ :: T) ?_
 refine aB (aD (aD ?_))
 obtain ⟨c7, bl, i⟩ := bd i
 refine aA (lO (vz (.agg [(sc A2 p1.Dims D2), (sc A3 p1.Data D3)].toArray) (bF 2 cJ bO R R R R)) (lO (vz (.agg [(sc A5 L.Dims D5), (sc A6 L.Data D6)].toArray) (bF 1 cJ bO R R R R)) (lM (RR kT3 A2 D2 p1.Dims :: RR kT3 A3 D3 p1.Data :: RR kT3 A5 D5 L.Dims :: RR kT3 A6 D6 L.Data :: aK _ _ _ :: T) (fun w s => (((((s.d 3 R).d 5 R).d 7 R).d 9 R).e 5 [3, 2, 1, 0, 4])) ?_)))
 refine cC (K := (eO).share) (xs := ([p1, L] : List Tensor)) (vs := [(.agg [(sc A2 p1.Dims D2), (sc A3 p1.Data D3)].toArray), (.agg [(sc A5 L.Dims D5), (sc A6 L.Data D6)].toArray)]) 4 R R ij bO dC R R R R R R ?_ R (fun A14 D14 => ?_)
 exact fun I h s => (tL).list [(((sc A2 p1.Dims D2), (sc A3 p1.Data D3)), p1), (((sc A5 L.Dims D5), (sc A6 L.Data D6)), L)] I h s
 refine lN (OO (eO).share 26 A14 D14 ([p1, L] : List Tensor) :: _ :: T) ?_
 refine lC 1 vG R (FnOk.lends (A' := [OO (eO).share 26 A14 D14 ([p1, L] : List Tensor)]) (A := [RR eO A14 D14 ([p1, L] : List Tensor)]) (B := []) (Zq_ok bl) ⟨jw, trivial⟩ (fun _ => trivial)) R ?_
 rintro _
 refine lO (ft R) (aC (aB ?_))
 rcases bG i with ⟨ak, i⟩ | ⟨ak, i⟩
 refine aL R ak (aD (aA (lO (vz (.agg [(.slice none 0 0), (.slice none 0 0)].toArray) (bW fF dC R R)) (aU 1 R R bO R R R R R R (aC (aB (aW (bA ?_))))))))
 obtain rfl := so i
 exact bU (vs := [(.agg [(.slice none 0 0), (.slice none 0 0)].toArray)]) (.inl R) ((none, 0, 0), (none, 0, 0)) R ⟨⟨1, D, _, _, R, R, .inl ⟨cJ, bO, R⟩⟩, trivial⟩ R (fun w s => (((s.nilo kT3 3).nilo kT3 3).e 10 [1, 0]))
 refine aI R ak (aN (aB (aD ?_)))
 obtain ⟨g, bm, i⟩ := bd i
 refine aA (lO (bT 0 cG R) (lO (bV 3 bK R R R) (lO (bT 0 cG R) (lO (bV 2 bK R R R) (lI R (lI R (lI R (lI R (lM (RR kT3 A2 D2 p1.Dims :: RR kT3 A5 D5 L.Dims :: ow _ _ _ _ :: aK _ _ _ :: T) (fun w s => (((s.d 4 R).d 7 R).e 4 [1, 0, 2, 3])) ?_)))))))))
 refine lC 2 x9 R (Z15_ok bm) R ?_
 rintro _
 refine lN (_ :: _ :: T) ?_
 refine lO (vT R) (lO (vA R) (lB R (bM R R mH (fun G => (aU 0 R R hY R R R R R R (lN (aK G [(iv g.1.sizes.n), (iv g.1.sizes.c), (iv g.1.sizes.h_), (iv g.1.sizes.w_), (iv g.1.sizes.o), (iv g.1.sizes.k), (iv g.1.sizes.a), (iv g.1.sizes.b), (iv g.1.stride), (iv g.1.pad), (iv g.1.dil), (iv g.1.groups), (iv g.1.oh), (iv g.1.ow)] 66 :: _ :: _ :: T) ?_))))))
 refine lB R (aC (aB (aD (aD (aA (lB R (lO (ft R) (aC (aB ?_)))))))))
 rcases bG i with ⟨al, i⟩ | ⟨al, i⟩
 refine aL R al (aD (aA (lO (vz (.agg [(.slice none 0 0), (.slice none 0 0)].toArray) (bW fF dC R R)) (aU 2 R R bO R R R R R R (aC (aB (aW (bA ?_))))))))
 obtain rfl := so i
 exact bU (vs := [(.agg [(.slice none 0 0), (.slice none 0 0)].toArray)]) (.inl R) ((none, 0, 0), (none, 0, 0)) R ⟨⟨2, D, _, _, R, R, .inl ⟨cJ, bO, R⟩⟩, trivial⟩ R (fun w s => (((s.nilo kT3 3).nilo kT3 3).e 11 [1, 0]))
 refine aI R al (aN (aB (aD ?_)))
 obtain ⟨j, bn, i⟩ := bd i
 refine aA (lO (vz (.agg [(iv g.1.sizes.n), (iv g.1.sizes.c), (iv g.1.sizes.h_), (iv g.1.sizes.w_), (iv g.1.sizes.o), (iv g.1.sizes.k), (iv g.1.sizes.a), (iv g.1.sizes.b), (iv g.1.stride), (iv g.1.pad), (iv g.1.dil), (iv g.1.groups), (iv g.1.oh), (iv g.1.ow)].toArray) (bF 0 kr hY R R R R)) (lC 0 ru R (Z0w_ok bn) R ?_))
 rintro ⟨m, br, q⟩
 refine lN (ow kT3 3 (.slice m br q) j :: _ :: _ :: _ :: T) ?_
 refine aY 0 aH ?_
 rintro rfl
 refine lO (vz (.agg [(sc m j q), (.slice none 0 0)].toArray) (bW fF dC R R)) (bM R R dC (fun E => (aU 0 R R bO R R R R R R (lN (aK E [(sc m j q), (.slice none 0 0)] 26 :: _ :: _ :: _ :: _ :: T) ?_))))
 refine aC (aB (aD (bS (A := ((List Int)) × (HH)) (fun a => Z3_J15 j a.1 = some r) (fun a => [(12, (pt D 0)), (15, (pt E 0))]) (fun a => aK D [(.slice none 0 0), (.slice none 0 0)] 26 :: aK E [(sc m j q), (.slice a.2.1 a.2.2.1 a.2.2.2)] 26 :: OO kT3 3 m q j :: ow kT3 3 (.slice a.2.1 a.2.2.1 a.2.2.2) a.1 :: T) ?_ ?_)))
 refine aD (aA (lO (bT 0 dS R) (lO (bT 0 pg R) (lO (bV 2 cE R R R) (lI R (aC (aB (aM ?_))))))))
 obtain ⟨e1, c3, bz⟩ := bd i
 refine bQ (A := HH) c3 (fun s a => [(6, (pt a4 0)), (7, (pt a5 0)), (12, (pt D 0)), (13, (pt G 0)), (15, (pt E 0)), (46, (iv g.1.sizes.n)), (47, (iv s.2))]) (fun s a => aK D [(.slice none 0 0), (.slice none 0 0)] 26 :: aK G [(iv g.1.sizes.n), (iv g.1.sizes.c), (iv g.1.sizes.h_), (iv g.1.sizes.w_), (iv g.1.sizes.o), (iv g.1.sizes.k), (iv g.1.sizes.a), (iv g.1.sizes.b), (iv g.1.stride), (iv g.1.pad), (iv g.1.dil), (iv g.1.groups), (iv g.1.oh), (iv g.1.ow)] 66 :: aK E [(sc m j q), (.slice a.1 a.2.1 a.2.2)] 26 :: OO kT3 3 m q j :: ow kT3 3 (.slice a.1 a.2.1 a.2.2) s.1 :: T) (none, 0, 0) (aS R) (fun w s => ((s.nilo kT3 3).e 6 [5, 3, 1, 2, 0])) ?_
 rintro ⟨a7, u⟩ ⟨au, bc, ax⟩ σ1 am i bs
 replace i : Z3_L1 p1 L g a7 u = some am := i
 unfold Z3_L1 at i
 refine cD 4 aH (fun (hn : bc = a7.length) => ?_)
 subst hn
 refine aD (aA (lO (dQ R R) (aC (aB (aD ?_)))))
 rcases bG i with ⟨aa, i⟩ | ⟨aa, i⟩
 refine aL R aa (aN (aB (aD (bS (A := ((List Int)) × (HH)) (fun a => Z3_J14 u a.1 = some am) (fun a => [(6, (pt a4 0)), (7, (pt a5 0)), (12, (pt D 0)), (13, (pt G 0)), (15, (pt E 0)), (46, (iv g.1.sizes.n)), (47, (iv u))]) (fun a => aK D [(.slice none 0 0), (.slice none 0 0)] 26 :: aK G [(iv g.1.sizes.n), (iv g.1.sizes.c), (iv g.1.sizes.h_), (iv g.1.sizes.w_), (iv g.1.sizes.o), (iv g.1.sizes.k), (iv g.1.sizes.a), (iv g.1.sizes.b), (iv g.1.stride), (iv g.1.pad), (iv g.1.dil), (iv g.1.groups), (iv g.1.oh), (iv g.1.ow)] 66 :: aK E [(sc m j q), (.slice a.2.1 a.2.2.1 a.2.2.2)] 26 :: OO kT3 3 m q j :: ow kT3 3 (.slice a.2.1 a.2.2.1 a.2.2.2) a.1 :: T) ?_ ?_))))
 refine aM (aD (aA (lI R (lI R (aC (aB (aD (aA (lO (bT 0 dS R) (lO (bT 4 kQ R) (lO (bV 1 cE R R R) (lI R (aC (aB (aM ?_)))))))))))))))
 obtain ⟨e2, c4, c0⟩ := bd i
 refine bQ (A := HH) c4 (fun s a => [(6, (pt a4 0)), (7, (pt a5 0)), (12, (pt D 0)), (13, (pt G 0)), (15, (pt E 0)), (16, (iv u)), (46, (iv g.1.sizes.n)), (47, (iv u)), (52, (iv g.1.sizes.o)), (53, (iv s.2))]) (fun s a => aK D [(.slice none 0 0), (.slice none 0 0)] 26 :: aK G [(iv g.1.sizes.n), (iv g.1.sizes.c), (iv g.1.sizes.h_), (iv g.1.sizes.w_), (iv g.1.sizes.o), (iv g.1.sizes.k), (iv g.1.sizes.a), (iv g.1.sizes.b), (iv g.1.stride), (iv g.1.pad), (iv g.1.dil), (iv g.1.groups), (iv g.1.oh), (iv g.1.ow)] 66 :: aK E [(sc m j q), (.slice a.1 a.2.1 a.2.2)] 26 :: OO kT3 3 m q j :: ow kT3 3 (.slice a.1 a.2.1 a.2.2) s.1 :: T) (au, a7.length, ax) (aS R) (fun w s => s) ?_
 rintro ⟨a8, F⟩ ⟨av, be, ay⟩ σ1 an i bu
 replace i : Z3_L2 p1 L g u a8 F = some an := i
 unfold Z3_L2 at i
 refine cD 4 aH (fun (hn : be = a8.length) => ?_)
 subst hn
 refine aD (aA (lO (dQ R R) (aC (aB (aD ?_)))))
 rcases bG i with ⟨ab, i⟩ | ⟨ab, i⟩
 refine aL R ab (aN (aB (aD (bS (A := ((List Int)) × (HH)) (fun a => Z3_J13 F a.1 = some an) (fun a => [(6, (pt a4 0)), (7, (pt a5 0)), (12, (pt D 0)), (13, (pt G 0)), (15, (pt E 0)), (16, (iv u)), (46, (iv g.1.sizes.n)), (47, (iv u)), (52, (iv g.1.sizes.o)), (53, (iv F))]) (fun a => aK D [(.slice none 0 0), (.slice none 0 0)] 26 :: aK G [(iv g.1.sizes.n), (iv g.1.sizes.c), (iv g.1.sizes.h_), (iv g.1.sizes.w_), (iv g.1.sizes.o), (iv g.1.sizes.k), (iv g.1.sizes.a), (iv g.1.sizes.b), (iv g.1.stride), (iv g.1.pad), (iv g.1.dil), (iv g.1.groups), (iv g.1.oh), (iv g.1.ow)] 66 :: aK E [(sc m j q), (.slice a.2.1 a.2.2.1 a.2.2.2)] 26 :: OO kT3 3 m q j :: ow kT3 3 (.slice a.2.1 a.2.2.1 a.2.2.2) a.1 :: T) ?_ ?_))))
 refine aM (aD (aA (lI R (lI R (aC (aB (aD (aA (lO (bT 12 mK R) (lO (bV 1 cE R R R) (lI R (aC (aB (aM ?_))))))))))))))
 obtain ⟨e3, c5, c1⟩ := bd i
 refine bQ (A := HH) c5 (fun s a => [(6, (pt a4 0)), (7, (pt a5 0)), (12, (pt D 0)), (13, (pt G 0)), (15, (pt E 0)), (16, (iv u)), (17, (iv F)), (46, (iv g.1.sizes.n)), (47, (iv u)), (52, (iv g.1.sizes.o)), (53, (iv F)), (57, (iv g.1.oh)), (58, (iv s.2))]) (fun s a => aK D [(.slice none 0 0), (.slice none 0 0)] 26 :: aK G [(iv g.1.sizes.n), (iv g.1.sizes.c), (iv g.1.sizes.h_), (iv g.1.sizes.w_), (iv g.1.sizes.o), (iv g.1.sizes.k), (iv g.1.sizes.a), (iv g.1.sizes.b), (iv g.1.stride), (iv g.1.pad), (iv g.1.dil), (iv g.1.groups), (iv g.1.oh), (iv g.1.ow)] 66 :: aK E [(sc m j q), (.slice a.1 a.2.1 a.2.2)] 26 :: OO kT3 3 m q j :: ow kT3 3 (.slice a.1 a.2.1 a.2.2) s.1 :: T) (av, a8.length, ay) (aS R) (fun w s => s) ?_
 rintro ⟨a9, a0⟩ ⟨aw, bf, az⟩ σ1 ao i bv
 replace i : Z3_L3 p1 L g u F a9 a0 = some ao := i
 unfold Z3_L3 at i
 refine cD 4 aH (fun (hn : bf = a9.length) => ?_)
 subst hn
 refine aD (aA (lO (dQ R R) (aC (aB (aD ?_)))))
 rcases bG i with ⟨ac, i⟩ | ⟨ac, i⟩
 refine aL R ac (aN (aB (aD (bS (A := ((List Int)) × (HH)) (fun a => Z3_J12 a0 a.1 = some ao) (fun a => [(6, (pt a4 0)), (7, (pt a5 0)), (12, (pt D 0)), (13, (pt G 0)), (15, (pt E 0)), (16, (iv u)), (17, (iv F)), (46, (iv g.1.sizes.n)), (47, (iv u)), (52, (iv g.1.sizes.o)), (53, (iv F)), (57, (iv g.1.oh)), (58, (iv a0))]) (fun a => aK D [(.slice none 0 0), (.slice none 0 0)] 26 :: aK G [(iv g.1.sizes.n), (iv g.1.sizes.c), (iv g.1.sizes.h_), (iv g.1.sizes.w_), (iv g.1.sizes.o), (iv g.1.sizes.k), (iv g.1.sizes.a), (iv g.1.sizes.b), (iv g.1.stride), (iv g.1.pad), (iv g.1.dil), (iv g.1.groups), (iv g.1.oh), (iv g.1.ow)] 66 :: aK E [(sc m j q), (.slice a.2.1 a.2.2.1 a.2.2.2)] 26 :: OO kT3 3 m q j :: ow kT3 3 (.slice a.2.1 a.2.2.1 a.2.2.2) a.1 :: T) ?_ ?_))))
 refine aM (aD (aA (lI R (lI R (aC (aB (aD (aA (lO (bT 13 mL R) (lO (bV 1 cE R R R) (lI R (aC (aB (aM ?_))))))))))))))
 obtain ⟨e4, c6, c2⟩ := bd i
 refine bQ (A := HH) c6 (fun s a => [(6, (pt a4 0)), (7, (pt a5 0)), (12, (pt D 0)), (13, (pt G 0)), (15, (pt E 0)), (16, (iv u)), (17, (iv F)), (18, (iv a0)), (46, (iv g.1.sizes.n)), (47, (iv u)), (52, (iv g.1.sizes.o)), (53, (iv F)), (57, (iv g.1.oh)), (58, (iv a0)), (62, (iv g.1.ow)), (63, (iv s.2))]) (fun s a => aK D [(.slice none 0 0), (.slice none 0 0)] 26 :: aK G [(iv g.1.sizes.n), (iv g.1.sizes.c), (iv g.1.sizes.h_), (iv g.1.sizes.w_), (iv g.1.sizes.o), (iv g.1.sizes.k), (iv g.1.sizes.a), (iv g.1.sizes.b), (iv g.1.stride), (iv g.1.pad), (iv g.1.dil), (iv g.1.groups), (iv g.1.oh), (iv g.1.ow)] 66 :: aK E [(sc m j q), (.slice a.1 a.2.1 a.2.2)] 26 :: OO kT3 3 m q j :: ow kT3 3 (.slice a.1 a.2.1 a.2.2) s.1 :: T) (aw, a9.length, az) (aS R) (fun w s => s) ?_
 rintro ⟨J, bq⟩ ⟨ag, bg, ai⟩ σ1 bp i bw
 replace i : Z3_L4 p1 L g u F a0 J bq = some bp := i
 unfold Z3_L4 at i
 refine cD 4 aH (fun (hn : bg = J.length) => ?_)
 subst hn
 refine aD (aA (lO (dQ R R) (aC (aB (aD ?_)))))
 rcases bG i with ⟨ae, i⟩ | ⟨ae, i⟩
 refine aL R ae (aN (aB (aD (aM (aD (aA (lI R (lI R (aC (aB ?_))))))))))
 obtain ⟨U, b3, i⟩ := bd i
 obtain ⟨b2, i⟩ := gd i
 refine eI 13 [] cF (fun ht hn => (dR 0 R (bT 1 cA R) (dR 1 R (bV 2 bK R R R) (dR 2 R (vz (.agg [(iv g.1.sizes.n), (iv g.1.sizes.c), (iv g.1.sizes.h_), (iv g.1.sizes.w_), (iv g.1.sizes.o), (iv g.1.sizes.k), (iv g.1.sizes.a), (iv g.1.sizes.b), (iv g.1.stride), (iv g.1.pad), (iv g.1.dil), (iv g.1.groups), (iv g.1.oh), (iv g.1.ow)].toArray) (bF 1 kr hY R R R R)) (dR 3 R (bT 1 cA R) (dR 4 R (bV 6 bK R R R) (dR 5 R (bT 1 cA R) (dR 6 R (bV 5 bK R R R) (dR 7 R (vI R) (dR 8 R (vI R) (dR 9 R (vI R) (dR 10 R (vI R) (d1 11 R (lM (RR kT3 A3 D3 p1.Data :: RR kT3 A6 D6 L.Data :: aK _ _ _ :: aK _ _ _ :: aK E [(sc m j q), (sc ag J ai)] 26 :: ow _ _ _ _ :: OO kT3 3 ag ai J :: T) (fun w s => (((s.d 8 R).d 11 R).f 7 [1, 1, 0, 1, 2, 5])) ?_))))))))))))))
 refine lC 2 xa R (Z6_ok b3) R ?_
 rintro _
 refine lN (_ :: _ :: _ :: _ :: _ :: T) ?_
 refine aC (aP (sL []) (d1 12 R (cC (K := kT3) (xs := ([U] : List Int)) (vs := [(iv U)]) 0 R R aV bX fj R R R R R R ?_ R (fun b4 b8 => ?_))))
 exact fun I h s => (fw).list [((), U)] I h s
 refine lN (OO kT3 3 b4 b8 ([U] : List Int) :: _ :: _ :: _ :: _ :: _ :: T) ?_
 refine aC (aP (sL [0]) (d1 13 R (lM (ow _ _ _ _ :: ow _ _ _ _ :: aK _ _ _ :: aK _ _ _ :: aK _ _ _ :: ow _ _ _ _ :: T) (fun w s => (s.f 6 [5, 1, 0, 5])) ?_)))
 refine f6 (K := kT3) 17592186044416 R R aV bX ii (Zr.zk zT3 fj) R R R R R R eM b2 (fun ah aj => (lN (OO kT3 3 ah aj (J ++ ([U] : List Int)) :: _ :: _ :: _ :: _ :: T) ?_))
 refine aC (qE (d1 14 R (lO (bT 1 cA R) (aC (qE (d1 15 R (dP 3 R R fk R R R R R (lN (_ :: _ :: _ :: aK E [(sc m j q), (sc ah (J ++ ([U] : List Int)) aj)] 26 :: _ :: T) ?_))))))))
 refine aC (qE (dD (aZ (aB (aA (lO (cX R R) (lI R (aC ?_))))))))
 obtain rfl := so i
 exact qA (ah, (J ++ ([U] : List Int)).length, aj) (fun w s => (s.f 5 [1, 4, 0, 1]))
 refine aI R ae (bP (aR ?_))
 obtain rfl := so i
 obtain rfl := bw _ R
 have i := c2
 refine aR (bE (aZ ?_))
 exact qI (J, (ag, J.length, ai)) i (fun w s => s)
 rintro ⟨ap, ⟨b5, bh, b9⟩⟩ σ1 i
 replace i : Z3_J12 a0 ap = some ao := i
 unfold Z3_J12 at i
 refine cD 4 aH (fun (hn : bh = ap.length) => ?_)
 subst hn
 refine aA (lO (cX R R) (lI R (aC ?_)))
 obtain rfl := so i
 exact qA (b5, ap.length, b9) (fun w s => s)
 refine aI R ac (bP (aR ?_))
 obtain rfl := so i
 obtain rfl := bv _ R
 have i := c1
 refine aR (bE (aZ ?_))
 exact qI (a9, (aw, a9.length, az)) i (fun w s => s)
 rintro ⟨aq, ⟨b6, bi, ba⟩⟩ σ1 i
 replace i : Z3_J13 F aq = some an := i
 unfold Z3_J13 at i
 refine cD 4 aH (fun (hn : bi = aq.length) => ?_)
 subst hn
 refine aA (lO (cX R R) (lI R (aC ?_)))
 obtain rfl := so i
 exact qA (b6, aq.length, ba) (fun w s => s)
 refine aI R ab (bP (aR ?_))
 obtain rfl := so i
 obtain rfl := bu _ R
 have i := c0
 refine aR (bE (aZ ?_))
 exact qI (a8, (av, a8.length, ay)) i (fun w s => s)
 rintro ⟨ar, ⟨b7, bj, bb⟩⟩ σ1 i
 replace i : Z3_J14 u ar = some am := i
 unfold Z3_J14 at i
 refine cD 4 aH (fun (hn : bj = ar.length) => ?_)
 subst hn
 refine aA (lO (cX R R) (lI R (aC ?_)))
 obtain rfl := so i
 exact qA (b7, ar.length, bb) (fun w s => s)
 refine aI R aa (bP (aR ?_))
 obtain rfl := so i
 obtain rfl := bs _ R
 have i := bz
 refine aR (bE ?_)
 exact qI (a7, (au, a7.length, ax)) i (fun w s => (s.e 5 [0, 2, 3, 4]))
 rintro ⟨M, ⟨a1, bk, a2⟩⟩ σ1 i
 replace i : Z3_J15 j M = some r := i
 unfold Z3_J15 at i
 refine cD 3 aH (fun (hn : bk = M.length) => ?_)
 subst hn
 refine aD (aA (lO (vz (.agg [(sc m j q), (sc a1 M a2)].toArray) (bF 1 cJ bO R R R R)) (aU 0 R R bO R R R R R R (lN (aK D [(sc m j q), (sc a1 M a2)] 26 :: aK E [(sc m j q), (sc a1 M a2)] 26 :: _ :: OO kT3 3 a1 a2 M :: T) ?_))))
 refine aC (aB (aW ?_))
 obtain rfl := so i
 exact bU (vs := [(.agg [(sc m j q), (sc a1 M a2)].toArray)]) (.inl R) ((m, j.length, q), (a1, M.length, a2)) R ⟨⟨0, D, _, _, R, R, .inl ⟨cJ, bO, R⟩⟩, trivial⟩ R (fun w s => (s.e 10 [2, 3]))
theorem Z0s_ok  {b : (List Int)} {a : Int} {r : Bool} (j : Z0s b a = some r) :
 FnOk Tryz.prog 62 [(.slice A2 N2 D2), (iv a)] [aQ kT3 (.slice A2 N2 D2) b] (fun (h : Unit) => ((.bool r), [])) := by
 unfold Z0s at j
 refine bN Tryz.func62 R 13 R R fun C V => ?_
 refine cN (_ :: V) ?_
 refine cL 0 aE ?_
 rintro rfl
 let i : List HP := RR kT3 A2 D2 b :: V
 refine cN i ?_
 refine aD (aA (lB R (aC (aB (aD (cQ [(4, (.bool ((decide (a ≥ (0 : Int))) && (decide (a < (b.length : Int))))))] (i) ?_ ?_))))))
 refine aA (lI R (lO (jW R R) (lB R ?_)))
 rcases bo (decide (a ≥ (0 : Int))) with g | g
 refine lW (eB g) (vI R) (lW (eB g) (vS R) (lW (eB g) (bR aV R) (lW (eB g) (dQ R R) (lO (kx R g R) (lB R (aC ?_))))))
 exact qJ (fun w s => s)
 refine lf (dV g) (lf (dV g) (lf (dV g) (lf (dV g) (lO (kn (decide (a < (b.length : Int))) R g) (lB R (aC ?_))))))
 exact qJ (fun w s => s)
 rintro σ1
 refine aB (aW ?_)
 obtain rfl := so j
 exact qF () (fun w s => (s.e 1 []))
theorem Z1h_ok  {b : (List Int)} {a : Int} {q : Int} {r : (List Int)} (i : Z1h b a q = some r) :
 FnOk Tryz.prog 120 [(.slice A2 N2 D2), (iv a), (iv q)] [aQ kT3 (.slice A2 N2 D2) b] (fun (h : HH) => ((.slice h.1 h.2.1 h.2.2), [ow kT3 3 (.slice h.1 h.2.1 h.2.2) r])) := by
 unfold Z1h at i
 refine bN Tryz.func120 R 15 R R fun C V => ?_
 refine cN (_ :: V) ?_
 refine cL 0 aE ?_
 rintro rfl
 let m : List HP := RR kT3 A2 D2 b :: V
 refine cN m ?_
 refine aD (aA (lS R (aC (aB (aD ?_)))))
 obtain ⟨j, E, i⟩ := bd i
 refine aA (lS R (lM (RR kT3 A2 D2 b :: m) (fun w s => (s.d 0 R)) ?_))
 refine lC 1 jY R (Zy_ok E) R ?_
 rintro ⟨F, G, u⟩
 refine lN (ow kT3 3 (.slice F G u) j :: m) ?_
 refine aY 0 aH ?_
 rintro rfl
 refine lS R (aC (aB (aD ?_)))
 obtain ⟨g, i⟩ := gd i
 refine aA (lS R (lI R (lI R (bY 0 aH (show 0 < j.length by have := g; omega) (fun D o10 J => ?_)))))
 subst J
 refine lO (cK aV bX R R g) (lN (OO kT3 3 (ad D o10) u j :: m) ?_)
 refine eG (K := kT3) (x' := q) 0 a R R bX R R g.1 g.2 ?_ ?_
 exact fun I h s => (fw).put I h () q s
 refine lN (ow kT3 3 (.slice (ad D o10) j.length u) (j.set a.toNat q) :: m) ?_
 refine aC (aB (aD (aA (lS R (lS R (aC (aB (aW ?_))))))))
 obtain rfl := so i
 exact qF ((ad D o10), j.length, u) (fun w s => (s.e 2 [0]))
theorem Z1e_ok  {a : (List Int)} {b : Int} {r : Int × Int × Int} (m : Z1e a b = some r) :
 FnOk Tryz.prog 137 [(.slice A2 N2 D2), (iv b)] [aQ kT3 (.slice A2 N2 D2) a] (fun (h : Unit) => ((.tuple [(iv r.1), (iv r.2.1), (iv r.2.2)].toArray), [])) := by
 unfold Z1e at m
 refine bN Tryz.func137 R 20 R R fun C V => ?_
 refine cN (_ :: V) ?_
 refine cL 0 aE ?_
 rintro rfl
 let i : List HP := RR kT3 A2 D2 a :: V
 refine cN i ?_
 refine aD (aA (lI R (lI R (lI R (aC (aB (aD ?_)))))))
 obtain ⟨j, m⟩ := gd m
 obtain ⟨I, F, m⟩ := bd m
 obtain ⟨E, m⟩ := gd m
 obtain ⟨g, m⟩ := gd m
 obtain ⟨G, q, m⟩ := bd m
 refine cQ [(4, (iv I)), (5, (iv (ix a b))), (6, (iv G))] (i) ?_ ?_
 refine bZ 0 aE (show 0 < a.length by have := E; omega) (fun L o10 J => ?_)
 subst J
 refine eI 16 [] cF (fun T M => (dR 0 R (vS R) (dR 1 R (vI R) (dR 4 R (vS R) (dR 5 R (vI R) (dR 6 R (cK aV bX R R E) (dR 7 R (dL 0 cE aE R E) (dR 8 R (vS R) (dR 9 R (vI R) (dR 10 R (cX R R) (i0 [2, 11] (by kernel_rfl) R ⟨?_, ?_, trivial⟩)))))))))))
 refine gM (K := kT3) (0 : Int) b 0 R R aV bX R R R R j.1 j.2.1 j.2.2 (fun A5 D5 => (aC (aP (sL [0]) (i0 [3, 11] (by kernel_rfl) R ⟨?_, ?_, trivial⟩))))
 refine lM (RR kT3 A5 D5 (sub a (0 : Int) b) :: RR kT3 A5 D5 (sub a (0 : Int) b) :: i) (fun w s => (s.d 0 R)) ?_
 refine lC 1 iJ R (Zd_ok F) R ?_
 rintro _
 refine lN (_ :: i) ?_
 refine aC (aP (sL [0]) (d1 11 R (gM (K := kT3) (aG (b + (1 : Int))) (a.length : Int) 1 R R aV bX R R R R g.1 g.2.1 g.2.2 (fun u D => (aC (aP (sL [1, 0]) (d1 12 R (lM (RR kT3 u D (sub a (aG (b + (1 : Int))) (a.length : Int)) :: RR kT3 u D (sub a (aG (b + (1 : Int))) (a.length : Int)) :: _ :: i) (fun w s => (s.d 0 R)) ?_))))))))
 refine lC 1 iJ R (Zd_ok q) R ?_
 rintro _
 refine lN (_ :: _ :: i) ?_
 refine aC (aP (sL [1, 0]) (dR 13 R (vI R) (hS := (sL [1, 0])) (dR 14 R (vI R) (hS := (sL [1, 0])) (dR 15 R (vI R) (hS := (sL [1, 0])) (dD ?_)))))
 exact qJ (fun w s => (s.e 2 []))
 refine gM (K := kT3) (aG (b + (1 : Int))) (a.length : Int) 1 R R aV bX R R R R g.1 g.2.1 g.2.2 (fun u D => (aC (aP (sL [1, 0]) (d1 3 R (lM (_ :: _ :: _ :: i) (fun w s => (s.d 1 R)) ?_)))))
 refine lC 1 iJ R (Zd_ok F) R ?_
 rintro _
 refine lN (_ :: _ :: i) ?_
 refine aC (aP (sL [1, 0]) (d1 12 R (lM (_ :: _ :: _ :: i) (fun w s => (s.d 0 R)) ?_)))
 refine lC 1 iJ R (Zd_ok q) R ?_
 rintro _
 refine lN (_ :: _ :: i) ?_
 refine aC (aP (sL [1, 0]) (dR 13 R (vI R) (hS := (sL [1, 0])) (dR 14 R (vI R) (hS := (sL [1, 0])) (dR 15 R (vI R) (hS := (sL [1, 0])) (dD ?_)))))
 exact qJ (fun w s => (s.e 2 []))
 refine gM (K := kT3) (aG (b + (1 : Int))) (a.length : Int) 0 R R aV bX R R R R g.1 g.2.1 g.2.2 (fun u D => (aC (aP (sL [0]) (d1 2 R (gM (K := kT3) (0 : Int) b 1 R R aV bX R R R R j.1 j.2.1 j.2.2 (fun A5 D5 => (aC (aP (sL [1, 0]) (d1 3 R (lM (_ :: _ :: _ :: i) (fun w s => (s.d 0 R)) ?_))))))))))
 refine lC 1 iJ R (Zd_ok F) R ?_
 rintro _
 refine lN (_ :: _ :: i) ?_
 refine aC (aP (sL [1, 0]) (d1 12 R (lM (_ :: _ :: _ :: i) (fun w s => (s.d 1 R)) ?_)))
 refine lC 1 iJ R (Zd_ok q) R ?_
 rintro _
 refine lN (_ :: _ :: i) ?_
 refine aC (aP (sL [1, 0]) (dR 13 R (vI R) (hS := (sL [1, 0])) (dR 14 R (vI R) (hS := (sL [1, 0])) (dR 15 R (vI R) (hS := (sL [1, 0])) (dD ?_)))))
 exact qJ (fun w s => (s.e 2 []))
 rintro σ1
 refine aB (aW ?_)
 obtain rfl := so m
 exact bU (vs := [(iv I), (iv (ix a b)), (iv G)]) (.inl R) () R ⟨R, R, R, trivial⟩ R (fun w s => (s.e 1 []))
theorem Z5_ok  {E : (List Int)} {a1 : Int} {J : Int} {b : (List pair)} {r : (List pair)} (g : Z5 E a1 J b = some r) :
 FnOk Tryz.prog 121 [(.slice A2 N2 D2), (iv a1), (iv J), (.slice A6 N6 D6)] [aQ kT3 (.slice A2 N2 D2) E, aQ kT149 (.slice A6 N6 D6) b] (fun (h : HH) => ((.slice h.1 h.2.1 h.2.2), [ow kT149 149 (.slice h.1 h.2.1 h.2.2) r])) := by
 unfold Z5 at g
 refine bN Tryz.func121 R 73 R R fun C V => ?_
 refine cN (_ :: _ :: V) ?_
 refine cL 0 aE ?_
 rintro rfl
 refine cL 1 aE ?_
 rintro rfl
 let U : List HP := RR kT3 A2 D2 E :: RR kT149 A6 D6 b :: V
 refine cN U ?_
 refine aD (aA (lS R (aC (aB (aD ?_)))))
 obtain ⟨u, bq, g⟩ := bd g
 refine aA (lS R (lI R (lM (RR kT3 A2 D2 E :: U) (fun w s => (s.d 0 R)) ?_)))
 refine lC 1 vO R (Z1e_ok bq) R ?_
 rintro _
 refine lN U ?_
 refine lO (vT R) (lI R (lI R (lI R (lI R (lI R (lI R (aC (aB (aD ?_)))))))))
 obtain ⟨ak, g⟩ := gd g
 refine aA (lI R (lI R (lO (f9 R R) (lS R (lO (bR k8 R) (lO (f9 R R) (iI (K := kT149) (m := (aG ((aG (u.1 * u.2.2)) * (b.length : Int)))) (z := zT149.z) R R k8 gA pq (Zr.zk zT149 i8) (by decide) R R ak.1 ak.2.1 ak.2.2 (fun A10 D10 => (lS R (aC (aB (aD (bS (A := ((List pair)) × (HH)) (fun a => Z5_J7 a.1 = some r) (fun a => [(12, (.slice a.2.1 a.2.2.1 a.2.2.2))]) (fun a => ow kT149 149 (.slice a.2.1 a.2.2.1 a.2.2.2) a.1 :: U) ?_ ?_)))))))))))))
 refine aD (aA (lI R (aC (aB (aM ?_)))))
 obtain ⟨e1, bm, bj⟩ := bd g
 refine bQ (A := HH × HH) bm (fun s a => [(2, (iv J)), (3, (.slice a.1.1 a.1.2.1 a.1.2.2)), (9, (iv u.1)), (10, (iv u.2.1)), (11, (iv u.2.2)), (12, (.slice a.2.1 a.2.2.1 a.2.2.2)), (13, (iv s.2))]) (fun s a => aQ kT149 (.slice a.1.1 a.1.2.1 a.1.2.2) b :: ow kT149 149 (.slice a.2.1 a.2.2.1 a.2.2.2) s.1 :: U) ((A6, b.length, D6), (A10, ([] : List pair).length, D10)) (aS R) (fun w s => (s.d 2 R)) ?_
 rintro ⟨aa, j⟩ ⟨⟨b8, bb, ba⟩, ⟨ar, bc, b0⟩⟩ σ1 a5 g bg
 replace g : Z5_L1 J b u aa j = some a5 := g
 unfold Z5_L1 at g
 refine cD 0 aE (fun (F : bb = b.length) => ?_)
 subst F
 refine cD 1 aH (fun (F : bc = aa.length) => ?_)
 subst F
 refine aD (aD (aA (lI R (lI R (lO (dQ R R) (aC (aB ?_)))))))
 rcases bG g with ⟨a3, g⟩ | ⟨a3, g⟩
 refine aL R a3 (aN (aB (aD (bS (A := ((List pair)) × (HH × HH)) (fun a => Z5_J6 j a.1 = some a5) (fun a => [(2, (iv J)), (3, (.slice a.2.1.1 a.2.1.2.1 a.2.1.2.2)), (9, (iv u.1)), (10, (iv u.2.1)), (11, (iv u.2.2)), (12, (.slice a.2.2.1 a.2.2.2.1 a.2.2.2.2)), (13, (iv j))]) (fun a => aQ kT149 (.slice a.2.1.1 a.2.1.2.1 a.2.1.2.2) b :: ow kT149 149 (.slice a.2.2.1 a.2.2.2.1 a.2.2.2.2) a.1 :: U) ?_ ?_))))
 refine aM (aD (aA (lS R (lO (bR k8 R) (lI R (aC (aB (aM ?_))))))))
 obtain ⟨e2, bn, bk⟩ := bd g
 refine bQ (A := HH × HH) bn (fun s a => [(2, (iv J)), (3, (.slice a.1.1 a.1.2.1 a.1.2.2)), (9, (iv u.1)), (10, (iv u.2.1)), (11, (iv u.2.2)), (12, (.slice a.2.1 a.2.2.1 a.2.2.2)), (13, (iv j)), (36, (.slice a.1.1 a.1.2.1 a.1.2.2)), (37, (il b)), (38, (iv s.2))]) (fun s a => aQ kT149 (.slice a.1.1 a.1.2.1 a.1.2.2) b :: ow kT149 149 (.slice a.2.1 a.2.2.1 a.2.2.2) s.1 :: U) ((b8, b.length, ba), (ar, aa.length, b0)) (aS R) (fun w s => s) ?_
 rintro ⟨a0, i⟩ ⟨⟨b9, be, T⟩, ⟨ah, bf, ai⟩⟩ σ1 a6 g bh
 replace g : Z5_L2 J b u j a0 i = some a6 := g
 unfold Z5_L2 at g
 refine cD 0 aE (fun (F : be = b.length) => ?_)
 subst F
 refine cD 1 aH (fun (F : bf = a0.length) => ?_)
 subst F
 refine aD (aA (lO (dQ R R) (aC (aB (aD ?_)))))
 rcases bG g with ⟨a4, g⟩ | ⟨a4, g⟩
 refine aL R a4 (aN (aB (aD (bS (A := ((List pair)) × (HH × HH)) (fun a => Z5_J5 i a.1 = some a6) (fun a => [(2, (iv J)), (3, (.slice a.2.1.1 a.2.1.2.1 a.2.1.2.2)), (9, (iv u.1)), (10, (iv u.2.1)), (11, (iv u.2.2)), (12, (.slice a.2.2.1 a.2.2.2.1 a.2.2.2.2)), (13, (iv j)), (36, (.slice a.2.1.1 a.2.1.2.1 a.2.1.2.2)), (37, (il b)), (38, (iv i))]) (fun a => aQ kT149 (.slice a.2.1.1 a.2.1.2.1 a.2.1.2.2) b :: ow kT149 149 (.slice a.2.2.1 a.2.2.2.1 a.2.2.2.2) a.1 :: U) ?_ ?_))))
 refine aM (aD ?_)
 obtain ⟨M, g⟩ := gd g
 refine aA (bY 0 aE (show 0 < b.length by have := M; omega) (fun G o101 ha => ?_))
 subst ha
 refine lO (cK k8 gA R R M) (oQ (.agg [(iv (ix b i).from_), (iv (ix b i).to)].toArray) ?_ R R ?_)
 exact (oG (K := kT149) (cells := fun x => [(iv x.from_), (iv x.to)]) 0 i su gA (DecK.flat sk fun _ _ => R) aE R M.1 M.2)
 refine bM R R i8 (fun a2 => (aU 0 R R gA R R R R R R (lN (aK a2 [(iv (ix b i).from_), (iv (ix b i).to)] 149 :: RR kT149 (ad G o101) T b :: OO kT149 149 ah ai a0 :: U) ?_)))
 refine aC (aB (aD (aA (lI R (aC (aB (aM ?_)))))))
 obtain ⟨e3, bp, bl⟩ := bd g
 refine bQ (A := HH) bp (fun s a => [(2, (iv J)), (3, (sc (ad G o101) b T)), (9, (iv u.1)), (10, (iv u.2.1)), (11, (iv u.2.2)), (12, (.slice a.1 a.2.1 a.2.2)), (13, (iv j)), (15, (pt a2 0)), (16, (iv s.2)), (36, (sc (ad G o101) b T)), (37, (il b)), (38, (iv i))]) (fun s a => RR kT149 (ad G o101) T b :: ow kT149 149 (.slice a.1 a.2.1 a.2.2) s.1 :: aK a2 [(iv (ix b i).from_), (iv (ix b i).to)] 149 :: U) (ah, a0.length, ai) (aS R) (fun w s => (s.e 3 [1, 2, 0])) ?_
 rintro ⟨D, q⟩ ⟨ab, b1, ae⟩ σ1 b7 g bi
 replace g : Z5_L3 J b u j i D q = some b7 := g
 unfold Z5_L3 at g
 refine cD 1 aH (fun (F : b1 = D.length) => ?_)
 subst F
 refine aD (aD (aA (lI R (lI R (lO (dQ R R) (aC (aB ?_)))))))
 rcases bG g with ⟨L, g⟩ | ⟨L, g⟩
 refine aL R L (aN (aB (aD (aM ?_))))
 obtain ⟨aj, g⟩ := gd g
 refine aA (lS R (lI R (lI R (lO (f9 R R) (lO (bT 0 nt R) (lO (bV 2 cE R R R) (lO (cX R R) (lI R (lO (f9 R R) (lI R (lO (cX R R) (lI R (lI R (lO (f9 R R) (lO (bT 1 kR R) (lO (bV 2 cE R R R) (lO (cX R R) (lI R (lO (f9 R R) (lI R (lO (cX R R) (lO (vz (.agg [(iv (aG ((aG ((aG ((aG (j * u.2.1)) + (ix b i).from_)) * u.2.2)) + q))), (iv (aG ((aG ((aG ((aG (j * J)) + (ix b i).to)) * u.2.2)) + q)))].toArray) (bW sq i8 R R)) (cC (K := kT149) (xs := ([(⟨(aG ((aG ((aG ((aG (j * u.2.1)) + (ix b i).from_)) * u.2.2)) + q)), (aG ((aG ((aG ((aG (j * J)) + (ix b i).to)) * u.2.2)) + q))⟩ : pair)] : List pair)) (vs := [(.agg [(iv (aG ((aG ((aG ((aG (j * u.2.1)) + (ix b i).from_)) * u.2.2)) + q))), (iv (aG ((aG ((aG ((aG (j * J)) + (ix b i).to)) * u.2.2)) + q)))].toArray)]) 0 R R k8 gA i8 R R R R R R ?_ R (fun al au => ?_))))))))))))))))))))))))
 exact fun I h s => (pa).list [(((), ()), (⟨(aG ((aG ((aG ((aG (j * u.2.1)) + (ix b i).from_)) * u.2.2)) + q)), (aG ((aG ((aG ((aG (j * J)) + (ix b i).to)) * u.2.2)) + q))⟩ : pair))] I h s
 refine lN (OO kT149 149 al au ([(⟨(aG ((aG ((aG ((aG (j * u.2.1)) + (ix b i).from_)) * u.2.2)) + q)), (aG ((aG ((aG ((aG (j * J)) + (ix b i).to)) * u.2.2)) + q))⟩ : pair)] : List pair) :: _ :: OO kT149 149 ab ae D :: _ :: U) ?_
 refine lM (ow _ _ _ _ :: ow _ _ _ _ :: aQ _ _ _ :: aK _ _ _ :: U) (fun w s => (s.e 4 [2, 0, 1, 3])) ?_
 refine f6 (K := kT149) 8796093022208 R R k8 gA pq (Zr.zk zT149 i8) R R R R R R eM aj (fun ac ag => (lN (OO kT149 149 ac ag (D ++ ([(⟨(aG ((aG ((aG ((aG (j * u.2.1)) + (ix b i).from_)) * u.2.2)) + q)), (aG ((aG ((aG ((aG (j * J)) + (ix b i).to)) * u.2.2)) + q))⟩ : pair)] : List pair)) :: _ :: _ :: U) ?_))
 refine lS R (aC (aZ (aB (aA (lI R (lO (cX R R) (lI R (aC ?_))))))))
 obtain rfl := so g
 exact qA (ac, (D ++ ([(⟨(aG ((aG ((aG ((aG (j * u.2.1)) + (ix b i).from_)) * u.2.2)) + q)), (aG ((aG ((aG ((aG (j * J)) + (ix b i).to)) * u.2.2)) + q))⟩ : pair)] : List pair)).length, ag) (fun w s => (s.e 3 [1, 0, 2]))
 refine aI R L (bP (aR ?_))
 obtain rfl := so g
 obtain rfl := bi _ R
 have g := bl
 refine aR (bE (aZ ?_))
 exact qI (D, (((ad G o101), b.length, T), (ab, D.length, ae))) g (fun w s => (s.e 3 [0, 1]))
 rintro ⟨a7, ⟨⟨am, b2, av⟩, ⟨an, b3, aw⟩⟩⟩ σ1 g
 replace g : Z5_J5 i a7 = some a6 := g
 unfold Z5_J5 at g
 refine cD 0 aE (fun (F : b2 = b.length) => ?_)
 subst F
 refine cD 1 aH (fun (F : b3 = a7.length) => ?_)
 subst F
 refine aA (lO (cX R R) (lI R (aC ?_)))
 obtain rfl := so g
 exact qA ((am, b.length, av), (an, a7.length, aw)) (fun w s => s)
 refine aI R a4 (bP (aR ?_))
 obtain rfl := so g
 obtain rfl := bh _ R
 have g := bk
 refine aR (bE (aZ ?_))
 exact qI (a0, ((b9, b.length, T), (ah, a0.length, ai))) g (fun w s => s)
 rintro ⟨a8, ⟨⟨ao, b4, ax⟩, ⟨ap, b5, ay⟩⟩⟩ σ1 g
 replace g : Z5_J6 j a8 = some a5 := g
 unfold Z5_J6 at g
 refine cD 0 aE (fun (F : b4 = b.length) => ?_)
 subst F
 refine cD 1 aH (fun (F : b5 = a8.length) => ?_)
 subst F
 refine aA (lI R (lO (cX R R) (lI R (aC ?_))))
 obtain rfl := so g
 exact qA ((ao, b.length, ax), (ap, a8.length, ay)) (fun w s => s)
 refine aI R a3 (bP (aR ?_))
 obtain rfl := so g
 obtain rfl := bg _ R
 have g := bj
 refine aR (bE ?_)
 exact qI (aa, (ar, aa.length, b0)) g (fun w s => (s.e 2 [1]))
 rintro ⟨a9, ⟨aq, b6, az⟩⟩ σ1 g
 replace g : Z5_J7 a9 = some r := g
 unfold Z5_J7 at g
 refine cD 0 aH (fun (F : b6 = a9.length) => ?_)
 subst F
 refine aD (aA (lS R (lS R (aC (aB (aW ?_))))))
 obtain rfl := so g
 exact qF (aq, a9.length, az) (fun w s => (s.e 3 [0]))
theorem Za_ok  {j : (List Int)} {m : Int} {b : Int} {g : Int} {i : Int} {r : (List Int) × (List pair) × Bool} (q : Za j m b g i = some r) :
 FnOk Tryz.prog 56 [(.slice A2 N2 D2), (iv m), (iv b), (iv g), (iv i)] [aQ kT3 (.slice A2 N2 D2) j] (fun (h : HH × HH) => ((.tuple [(.slice h.1.1 h.1.2.1 h.1.2.2), (.slice h.2.1 h.2.2.1 h.2.2.2), (.bool r.2.2)].toArray), [ow kT3 3 (.slice h.1.1 h.1.2.1 h.1.2.2) r.1, ow kT149 149 (.slice h.2.1 h.2.2.1 h.2.2.2) r.2.1])) := by
 unfold Za at q
 refine bN Tryz.func56 R 84 R R fun C V => ?_
 refine cN (_ :: V) ?_
 refine cL 0 aE ?_
 rintro rfl
 let M : List HP := RR kT3 A2 D2 j :: V
 refine cN M ?_
 refine aD (aA (lS R (lS R (lB R (aC (aB (aD (aD ?_))))))))
 obtain ⟨r7, b7, q⟩ := bd q
 refine aA (lS R (lI R (lM (RR kT3 A2 D2 j :: M) (fun w s => (s.d 0 R)) ?_)))
 refine lC 1 pn R (Z0s_ok b7) R ?_
 rintro _
 refine lN M ?_
 refine lO (ft R) (aC (aB ?_))
 rcases bG q with ⟨ac, q⟩ | ⟨ac, q⟩
 refine aL R ac (aD (aA (lS R (lS R (lB R (aC (aB (aW (bA ?_)))))))))
 obtain rfl := so q
 exact bU (vs := [(.slice none 0 0), (.slice none 0 0), (.bool false)]) (.inl R) ((none, 0, 0), (none, 0, 0)) R ⟨R, R, R, trivial⟩ R (fun w s => (((s.nilo kT3 3).nilo kT149 149).e 3 [1, 0]))
 refine aI R ac (aN (aB (aD (bS (A := (Unit) × (Unit)) (fun a => Za_J1 j m b g i = some r) (fun a => [(0, (sc A2 j D2)), (1, (iv m)), (2, (iv b)), (3, (iv g)), (4, (iv i))]) (fun a => M) ?_ ?_))))
 refine aD (aA (lI R (lI R (lI R (cC (K := kT3) (xs := ([b, g, i] : List Int)) (vs := [(iv b), (iv g), (iv i)]) 0 R R aV bX fj R R R R R R ?_ R (fun A10 D10 => ?_))))))
 exact fun I h s => (fw).list [((), b), ((), g), ((), i)] I h s
 refine lN (OO kT3 3 A10 D10 ([b, g, i] : List Int) :: M) ?_
 refine lO (bR aV R) (lI R (aC (aB (aM ?_))))
 obtain ⟨e1, b5, ao⟩ := bd q
 refine bQ (A := HH) b5 (fun s a => [(0, (sc A2 j D2)), (1, (iv m)), (2, (iv b)), (3, (iv g)), (4, (iv i)), (27, (.slice a.1 a.2.1 a.2.2)), (28, (il ([b, g, i] : List Int))), (29, (iv s))]) (fun s a => ow kT3 3 (.slice a.1 a.2.1 a.2.2) ([b, g, i] : List Int) :: M) (A10, ([b, g, i] : List Int).length, D10) (aS R) (fun w s => s) ?_
 rintro U ⟨b8, ay, a9⟩ σ1 au q am
 replace q : Za_L1 b g i U = some au := q
 unfold Za_L1 at q
 refine cD 0 aH (fun (hn : ay = ([b, g, i] : List Int).length) => ?_)
 subst hn
 refine aD (aA (lO (dQ R R) (aC (aB (aD ?_)))))
 rcases bG q with ⟨a0, q⟩ | ⟨a0, q⟩
 refine aL R a0 (aN (aB (aD (aM (aD ?_)))))
 obtain ⟨a4, q⟩ := gd q
 refine aA (bY 0 aH (show 0 < ([b, g, i] : List Int).length by have := a4; omega) (fun ab o22 ha => ?_))
 subst ha
 refine lO (cK aV bX R R a4) (lO (dL 0 cE aH R a4) (lI R (aC (aB (aD (cQ [(0, (sc A2 j D2)), (1, (iv m)), (2, (iv b)), (3, (iv g)), (4, (iv i)), (27, (sc (ad ab o22) ([b, g, i] : List Int) a9)), (28, (il ([b, g, i] : List Int))), (29, (iv U)), (38, (.bool ((decide ((ix ([b, g, i] : List Int) U) < (0 : Int))) || (decide ((ix ([b, g, i] : List Int) U) > (4096 : Int))))))] (OO kT3 3 (ad ab o22) a9 ([b, g, i] : List Int) :: M) ?_ ?_))))))
 refine aA (lI R (lO (dQ R R) (lB R ?_)))
 rcases bo (decide ((ix ([b, g, i] : List Int) U) < (0 : Int))) with F | F
 refine lf (aT F) (lf (aT F) (lO (cW (decide ((ix ([b, g, i] : List Int) U) > (4096 : Int))) R F) (aC ?_)))
 exact qJ (fun w s => s)
 refine lW (bI F) (vI R) (lW (bI F) (iw R R) (lO (eS R F R) (aC ?_)))
 exact qJ (fun w s => s)
 rintro σ1
 refine aB ?_
 rcases bG q with ⟨a1, q⟩ | ⟨a1, q⟩
 refine aL R a1 (aD (aA (lS R (lS R (lB R (aC (aB (aW (bB (bA ?_))))))))))
 obtain rfl := so q
 obtain rfl := am _ R
 have q := ao
 refine bA (bB (bA ?_))
 obtain rfl := so q
 exact bU (vs := [(.slice none 0 0), (.slice none 0 0), (.bool false)]) (.inl R) ((none, 0, 0), (none, 0, 0)) R ⟨R, R, R, trivial⟩ R (fun w s => (((s.nilo kT3 3).nilo kT149 149).e 4 [1, 0]))
 refine aI R a1 (aN (aZ (aB (aA (lO (cX R R) (lI R (aC ?_)))))))
 obtain rfl := so q
 exact qA ((ad ab o22), ([b, g, i] : List Int).length, a9) (fun w s => s)
 refine aI R a0 (bP (aR ?_))
 obtain rfl := so q
 obtain rfl := am _ R
 have q := ao
 refine aR (bE ?_)
 exact qI ((), ()) q (fun w s => (s.e 1 []))
 rintro ⟨_, _⟩ σ1 q
 replace q : Za_J1 j m b g i = some r := q
 unfold Za_J1 at q
 refine aD ?_
 obtain ⟨a5, q⟩ := gd q
 refine aA (lS R (lI R (bY 0 aE (show 0 < j.length by have := a5; omega) (fun T o29 ha => ?_))))
 subst ha
 refine lO (cK aV bX R R a5) (lO (dL 0 cE aE R a5) (lI R (aC (aB (aD (aA (lI R (lI R (lO (cX R R) (lI R (lO (hM R R) (lI R (lO (f9 R R) (lO (cX R R) (lI R (lO (cX R R) (lI R (aC (aB (aD ?_))))))))))))))))))))
 obtain ⟨G, ap, q⟩ := bd q
 refine aA (lS R (lI R (lI R (lM (RR kT3 (ad T o29) D2 j :: M) (fun w s => (s.d 0 R)) ?_))))
 refine lC 1 vN R (Z1h_ok ap) R ?_
 rintro ⟨J, az, L⟩
 refine lN (ow kT3 3 (.slice J az L) G :: M) ?_
 refine aY 0 aH ?_
 rintro rfl
 refine lS R (aC (aB (aD (aD ?_))))
 obtain ⟨b9, aq, q⟩ := bd q
 refine aA (lS R (lC 1 kq R (FnOk.lends (A' := [OO kT3 3 J L G]) (A := [RR kT3 J L G]) (B := []) (Zg_ok aq) ⟨bD, trivial⟩ (fun _ => trivial)) R ?_))
 rintro _
 refine lO (ft R) (aC (aB ?_))
 rcases bG q with ⟨a2, q⟩ | ⟨a2, q⟩
 refine aL R a2 (aD (aA (lS R (lS R (lB R (aC (aB (aW (bA ?_)))))))))
 obtain rfl := so q
 exact bU (vs := [(.slice none 0 0), (.slice none 0 0), (.bool false)]) (.inl R) ((none, 0, 0), (none, 0, 0)) R ⟨R, R, R, trivial⟩ R (fun w s => (((s.nilo kT3 3).nilo kT149 149).e 4 [1, 0]))
 refine aI R a2 (aN (aB (aD (aA (cC (K := kT149) (xs := ([] : List pair)) (vs := []) 0 R R k8 gA i8 R R R R R R ?_ R (fun ag aj => ?_))))))
 exact fun I h s => (pa).list [] I h s
 refine lN (OO kT149 149 ag aj ([] : List pair) :: _ :: M) ?_
 refine lS R (aC (aB (aD (bS (A := ((List pair)) × (HH)) (fun a => Za_J2 j m b g i G a.1 = some r) (fun a => [(0, (sc (ad T o29) j D2)), (1, (iv m)), (16, (iv (aG ((aG ((aG (b + (ix j m))) + (aG ((aG ((ix j m) - (1 : Int))) * i)))) + g)))), (17, (sc J G L)), (18, (.slice a.2.1 a.2.2.1 a.2.2.2))]) (fun a => OO kT3 3 J L G :: ow kT149 149 (.slice a.2.1 a.2.2.1 a.2.2.2) a.1 :: M) ?_ ?_))))
 refine aD (aA (lI R (aC (aB (aM ?_)))))
 obtain ⟨e2, b6, b4⟩ := bd q
 refine bQ (A := HH) b6 (fun s a => [(0, (sc (ad T o29) j D2)), (1, (iv m)), (2, (iv b)), (4, (iv i)), (15, (iv (ix j m))), (16, (iv (aG ((aG ((aG (b + (ix j m))) + (aG ((aG ((ix j m) - (1 : Int))) * i)))) + g)))), (17, (sc J G L)), (18, (.slice a.1 a.2.1 a.2.2)), (19, (iv s.2))]) (fun s a => OO kT3 3 J L G :: ow kT149 149 (.slice a.1 a.2.1 a.2.2) s.1 :: M) (ag, ([] : List pair).length, aj) (aS R) (fun w s => (s.e 2 [1, 0])) ?_
 rintro ⟨u, E⟩ ⟨ah, b0, ak⟩ σ1 av q b3
 replace q : Za_L2 j m b i u E = some av := q
 unfold Za_L2 at q
 refine cD 1 aH (fun (hn : b0 = u.length) => ?_)
 subst hn
 refine aD (aD (aA (lI R (lI R (lO (dQ R R) (aC (aB ?_)))))))
 rcases bG q with ⟨a3, q⟩ | ⟨a3, q⟩
 refine aL R a3 (aN (aB (aD (aM ?_))))
 obtain ⟨an, q⟩ := gd q
 refine aA (lS R (lI R (lI R (lI R (lI R (lO (cX R R) (lO (f9 R R) (lO (cX R R) (lO (vz (.agg [(iv E), (iv (aG (b + (aG (E * (aG (i + (1 : Int))))))))].toArray) (bW sq i8 R R)) (cC (K := kT149) (xs := ([(⟨E, (aG (b + (aG (E * (aG (i + (1 : Int)))))))⟩ : pair)] : List pair)) (vs := [(.agg [(iv E), (iv (aG (b + (aG (E * (aG (i + (1 : Int))))))))].toArray)]) 0 R R k8 gA i8 R R R R R R ?_ R (fun aw ax => ?_)))))))))))
 exact fun I h s => (pa).list [(((), ()), (⟨E, (aG (b + (aG (E * (aG (i + (1 : Int)))))))⟩ : pair))] I h s
 refine lN (OO kT149 149 aw ax ([(⟨E, (aG (b + (aG (E * (aG (i + (1 : Int)))))))⟩ : pair)] : List pair) :: _ :: OO kT149 149 ah ak u :: M) ?_
 refine lM (ow _ _ _ _ :: ow _ _ _ _ :: ow _ _ _ _ :: M) (fun w s => (s.e 3 [2, 0, 1])) ?_
 refine f6 (K := kT149) 8796093022208 R R k8 gA pq (Zr.zk zT149 i8) R R R R R R eM an (fun ai al => (lN (OO kT149 149 ai al (u ++ ([(⟨E, (aG (b + (aG (E * (aG (i + (1 : Int)))))))⟩ : pair)] : List pair)) :: _ :: M) ?_))
 refine lS R (aC (aZ (aB (aA (lI R (lO (cX R R) (lI R (aC ?_))))))))
 obtain rfl := so q
 exact qA (ai, (u ++ ([(⟨E, (aG (b + (aG (E * (aG (i + (1 : Int)))))))⟩ : pair)] : List pair)).length, al) (fun w s => (s.e 2 [1, 0]))
 refine aI R a3 (bP (aR ?_))
 obtain rfl := so q
 obtain rfl := b3 _ R
 have q := b4
 refine aR (bE ?_)
 exact qI (u, (ah, u.length, ak)) q (fun w s => s)
 rintro ⟨D, ⟨a6, b1, a7⟩⟩ σ1 q
 replace q : Za_J2 j m b g i G D = some r := q
 unfold Za_J2 at q
 refine cD 1 aH (fun (hn : b1 = D.length) => ?_)
 subst hn
 refine aD ?_
 obtain ⟨ae, ar, q⟩ := bd q
 refine aA (lS R (lS R (lI R (lI R (lS R (lM (OO kT149 149 a6 a7 D :: RR kT3 (ad T o29) D2 j :: ow _ _ _ _ :: M) (fun w s => ((s.d 2 R).e 3 [2, 0, 1])) ?_))))))
 refine lC 2 vQ R (FnOk.lends (A' := [OO kT149 149 a6 a7 D]) (A := [RR kT149 a6 a7 D]) (B := [RR kT3 (ad T o29) D2 j]) (FnOk.perm (Z5_ok ar) (Pre' := [RR kT149 a6 a7 D, RR kT3 (ad T o29) D2 j]) (fun _ _ _ s => (s.e 2 [1, 0]))) ⟨bD, trivial⟩ (fun _ => ⟨(bL vq), trivial⟩)) R ?_
 rintro ⟨a8, b2, aa⟩
 refine lN (_ :: ow kT149 149 (.slice a8 b2 aa) ae :: _ :: M) ?_
 refine aY 1 aH ?_
 rintro rfl
 refine lS R (lS R (lB R (aC (aB (aW ?_)))))
 obtain rfl := so q
 exact bU (vs := [(sc J G L), (sc a8 ae aa), (.bool true)]) (.inl R) ((J, G.length, L), (a8, ae.length, aa)) R ⟨R, R, R, trivial⟩ R (fun w s => (s.e 4 [2, 1]))
theorem Z1c_ok  {a : (List Int)} {u : Int} {D : Int} {p7 : Int} {E : Int} {i : Nat} {j : Nat} {m : Nat} {e : Nat} {r : (List Int) × (List pair) × Bool} (q : Z1c a u D p7 E = some r) :
 FnOk Tryz.prog 55 [(.slice A2 N2 D2), (pt i 0), (pt j 0), (pt m 0), (pt e 0)] [aQ kT3 (.slice A2 N2 D2) a, aK i [(iv u)] 3, aK j [(iv D)] 3, aK m [(iv p7)] 3, aK e [(iv E)] 3] (fun (h : HH × HH) => ((.tuple [(.slice h.1.1 h.1.2.1 h.1.2.2), (.slice h.2.1 h.2.2.1 h.2.2.2), (.bool r.2.2)].toArray), [ow kT3 3 (.slice h.1.1 h.1.2.1 h.1.2.2) r.1, ow kT149 149 (.slice h.2.1 h.2.2.1 h.2.2.2) r.2.1, aK i [(iv u)] 3, aK j [(iv D)] 3, aK m [(iv p7)] 3, aK e [(iv E)] 3])) := by
 unfold Z1c at q
 refine bN Tryz.func55 R 18 R R fun C V => ?_
 refine cM (aK _ _ _ :: aK _ _ _ :: aK _ _ _ :: aK _ _ _ :: aQ _ _ _ :: V) (fun w s => (s.f 5 [1, 4, 0, 1])) ?_
 refine cL 4 aE ?_
 rintro rfl
 let G : List HP := RR kT3 A2 D2 a :: V
 refine cN (_ :: _ :: _ :: _ :: G) ?_
 refine aD (aA (lS R (lS R (lB R (aC ?_)))))
 let F : List HP := aK i [(iv u)] 3 :: aK j [(iv D)] 3 :: aK m [(iv p7)] 3 :: aK e [(iv E)] 3 :: G
 refine qN F ?_
 refine aB (aD ?_)
 obtain ⟨b, g, q⟩ := bd q
 refine aA (lS R (lO (bV 0 cE R R R) (lO (bV 1 cE R R R) (lO (bV 2 cE R R R) (lO (bV 3 cE R R R) (lM (RR kT3 A2 D2 a :: F) (fun w s => (s.d 4 R)) ?_))))))
 refine lC 1 xf R (Za_ok g) R ?_
 rintro ⟨⟨A13, N13, D13⟩, ⟨A14, N14, D14⟩⟩
 refine lN (ow kT3 3 (.slice A13 N13 D13) b.1 :: ow kT149 149 (.slice A14 N14 D14) b.2.1 :: F) ?_
 refine aY 0 aH ?_
 rintro rfl
 refine aY 1 aH ?_
 rintro rfl
 refine lS R (lS R (lB R (lS R (lS R (lB R (aC (aB (aW ?_))))))))
 obtain rfl := so q
 exact bU (vs := [(sc A13 b.1 D13), (sc A14 b.2.1 D14), (.bool b.2.2)]) (.inl R) ((A13, b.1.length, D13), (A14, b.2.1.length, D14)) R ⟨R, R, R, trivial⟩ R (fun w s => (s.f 7 [0, 6]))
end Go.Proofs.YthfhllekobdelaaGreatDoor
