import Derived.Test.YthfhllekobdelaaGreatDoorCvF
set_option linter.unusedVariables false
set_option maxRecDepth 20000
namespace Go.Proofs.YthfhllekobdelaaGreatDoor
open Go Go.Pg
variable {A2 A3 A4 A5 A6 : Option Addr} {D2 D3 D4 D5 D6 N2 N3 N4 N5 N6 : Nat}
theorem Z1v_ok  {a : (List Int)} {r : Bool} (b : Z1v a = some r) :
 FnOk Tryz.prog 6 [(.slice A2 N2 D2)] [aQ eC (.slice A2 N2 D2) a] (fun (h : Unit) => ((.bool r), [])) := by
 unfold Z1v at b
 refine bN Tryz.func6 R 6 R R fun C V => ?_
 refine cN (_ :: V) ?_
 refine cL 0 aE ?_
 rintro rfl
 let g : List HP := RR eC A2 D2 a :: V
 refine cN g ?_
 refine aD (aA (lB R (aC (aB (aD (aA (lS R (lO (bR o9 R) (lO (iw R R) (lB R (aC (aB (aW ?_)))))))))))))
 obtain rfl := so b
 exact qF () (fun w s => (s.e 1 []))
theorem Zy_ok {g : List Int} {a : Option Addr} {b e : Nat} {r : (List Int)} (q : Zy g = some r) :
    FnOk Tryz.prog 66 [(.slice a b e)] [aQ kT3 (.slice a b e) g] (fun (h : (Option Addr × Nat × Nat)) => ((.slice h.1 h.2.1 h.2.2), [ow kT3 3 (.slice h.1 h.2.1 h.2.2) r])) := by
  unfold Zy at q
  obtain ⟨E, q⟩ := gd q
  obtain rfl := Option.some.inj q
  refine bN Tryz.func66 rfl 8 rfl rfl fun C V => (mz (V' := aQ kT3 (.slice a b e) g :: V) (fun w s => s) (cD 0 aE (fun (F : b = g.length) => ?_)))
  subst F
  refine aD (aA (lS rfl (aC (aB (aD (aD (aA (lS rfl (oQ (.bool a.isNone) (tm aV rfl rfl) rfl rfl (aC (aB ?_)))))))))))
  rcases Bool.eq_false_or_eq_true a.isNone with m | m
  · refine aL rfl m ?_
    refine tt 0 aE m (fun (G : g = []) => ?_)
    subst G
    refine aD (aA (lS rfl (aC (aB (aW (bA ?_))))))
    exact bU (vs := [(.slice none 0 0)]) (.inl rfl) (none, 0, 0) rfl ⟨rfl, trivial⟩ rfl (fun w s => ((s.nilo kT3 3).sel 2 [0] rfl rfl))
  · refine aI rfl m (aN (aB ?_))
    refine aD (aA (cC (K := kT3) (xs := ([] : List Int)) (vs := []) 0 rfl rfl aV bX fj rfl rfl rfl rfl rfl rfl ?_ rfl (fun u D => ?_)))
    · exact fun I h s => (fw).list [] I h s
    refine lS rfl (f6 (K := kT3) 17592186044416 rfl rfl aV bX ii (Zr.zk zT3 fj) rfl rfl rfl rfl rfl rfl (oJ (Kind.scal_flat _ _)) (by simpa using E) (fun i j => (lS rfl (aC (aB (aW ?_))))))
    exact bU (vs := [(.slice i g.length j)]) (.inl rfl) (i, g.length, j) rfl ⟨rfl, trivial⟩ rfl (fun w s => s)
theorem Z05_ok  {u : (List Int)} {D : (List Int)} {r : Bool} (b : Z05 u D = some r) :
 FnOk Tryz.prog 39 [(.slice A2 N2 D2), (.slice A4 N4 D4)] [aQ kT3 (.slice A2 N2 D2) u, aQ kT3 (.slice A4 N4 D4) D] (fun (h : Unit) => ((.bool r), [])) := by
 unfold Z05 at b
 refine bN Tryz.func39 R 26 R R fun C V => ?_
 refine cN (_ :: _ :: V) ?_
 refine cL 0 aE ?_
 rintro rfl
 refine cL 1 aE ?_
 rintro rfl
 let I : List HP := RR kT3 A2 D2 u :: RR kT3 A4 D4 D :: V
 refine cN I ?_
 refine aD (aA (lB R (aC (aB (aD (aD (aA (lS R (lO (bR aV R) (lS R (lO (bR aV R) (lO (ig R R) (aC (aB ?_))))))))))))))
 rcases bG b with ⟨q, b⟩ | ⟨q, b⟩
 refine aL R q (aD (aA (lB R (aC (aB (aW (bA ?_)))))))
 obtain rfl := so b
 exact qF () (fun w s => (s.e 2 []))
 refine aI R q (aN (aB (aD (bS (A := (Unit) × (Unit)) (fun a => Z05_J1 = some r) (fun a => []) (fun a => I) ?_ ?_))))
 refine aD (aA (lI R (aC (aB (aM ?_)))))
 obtain ⟨e1, L, F⟩ := bd b
 refine bQ (A := Unit) L (fun s a => [(0, (sc A2 u D2)), (1, (sc A4 D D4)), (5, (iv s))]) (fun s a => I) () (aS R) (fun w s => s) ?_
 rintro M _ σ1 G b E
 replace b : Z05_L1 u D M = some G := b
 unfold Z05_L1 at b
 refine aD (aD (aA (lI R (lS R (lO (bR aV R) (lO (dQ R R) (aC (aB ?_))))))))
 rcases bG b with ⟨g, b⟩ | ⟨g, b⟩
 refine aL R g (aN (aB (aD (aM (aD ?_)))))
 obtain ⟨j, b⟩ := gd b
 obtain ⟨m, b⟩ := gd b
 refine bZ 0 aE (show 0 < u.length by have := j; omega) (fun T o18 J => ?_)
 subst J
 refine bZ 1 aE (show 0 < D.length by have := m; omega) (fun U o21 J => ?_)
 subst J
 refine eI 9 [] cF (fun ht hn => (dR 0 R (vS R) (dR 1 R (vI R) (dR 2 R (cK aV bX R R j) (dR 3 R (dL 0 cE aE R j) (dR 4 R (vS R) (dR 5 R (vI R) (dR 6 R (cK aV bX R R m) (dR 7 R (dL 1 cE aE R m) (dR 8 R (ig R R) (dD (aB ?_))))))))))))
 rcases bG b with ⟨i, b⟩ | ⟨i, b⟩
 refine aL R i (aD (aA (lB R (aC (aB (aW (bB (bA ?_))))))))
 obtain rfl := so b
 obtain rfl := E _ R
 have b := F
 refine bA (bB (bA ?_))
 obtain rfl := so b
 exact qF () (fun w s => (s.e 2 []))
 refine aI R i (aN (aZ (aB (aA (lI R (lO (cX R R) (lI R (aC ?_))))))))
 obtain rfl := so b
 exact qA () (fun w s => s)
 refine aI R g (bP (aR ?_))
 obtain rfl := so b
 obtain rfl := E _ R
 have b := F
 refine aR (bE ?_)
 exact eF ((), ()) b trivial (fun w s => s)
 rintro ⟨_, _⟩ σ1 b
 replace b : Z05_J1 = some r := b
 unfold Z05_J1 at b
 refine aD (aA (lB R (aC (aB (aW ?_)))))
 obtain rfl := so b
 exact qF () (fun w s => (s.e 2 []))
theorem Z12_ok  {b : Tensor} {g : Tensor} {r : Bool} (j : Z12 b g = some r) :
 FnOk Tryz.prog 9 [(.agg [(.slice A2 N2 D2), (.slice A3 N3 D3)].toArray), (.agg [(.slice A5 N5 D5), (.slice A6 N6 D6)].toArray)] [aQ kT3 (.slice A2 N2 D2) b.Dims, aQ kT3 (.slice A3 N3 D3) b.Data, aQ kT3 (.slice A5 N5 D5) g.Dims, aQ kT3 (.slice A6 N6 D6) g.Data] (fun (h : Unit) => ((.bool r), [])) := by
 unfold Z12 at j
 refine bN Tryz.func9 R 17 R R fun C V => ?_
 refine cN (_ :: _ :: _ :: _ :: V) ?_
 refine cL 0 aE ?_
 rintro rfl
 refine cL 1 aE ?_
 rintro rfl
 refine cL 2 aE ?_
 rintro rfl
 refine cL 3 aE ?_
 rintro rfl
 let D : List HP := RR kT3 A2 D2 b.Dims :: RR kT3 A3 D3 b.Data :: RR kT3 A5 D5 g.Dims :: RR kT3 A6 D6 g.Data :: V
 refine cN D ?_
 refine aD (aA (gz R (fun F => (gz R (fun G => (lB R (aC ?_)))))))
 let i : List HP := aK G [(sc A5 g.Dims D5), (sc A6 g.Data D6)] 26 :: aK F [(sc A2 b.Dims D2), (sc A3 b.Data D3)] 26 :: D
 refine qN i ?_
 refine aB (aD ?_)
 obtain ⟨E, m, j⟩ := bd j
 obtain ⟨u, q, j⟩ := bd j
 refine cQ [(4, (.bool (E && u)))] (i) ?_ ?_
 refine aA (lO (bT 0 cG R) (lO (bV 1 bK R R R) (lO (bT 0 cG R) (lO (bV 0 bK R R R) (lM (RR kT3 A2 D2 b.Dims :: RR kT3 A5 D5 g.Dims :: i) (fun w s => (((s.d 2 R).d 5 R).e 2 [1, 0])) ?_)))))
 refine lC 2 vJ R (Z05_ok m) R ?_
 rintro _
 refine lN i ?_
 refine lB R ?_
 rcases bo E with a | a
 refine lW (eB a) (bT 1 cA R) (lW (eB a) (bV 1 bK R R R) (lW (eB a) (bT 1 cA R) (lW (eB a) (bV 0 bK R R R) (lM (RR kT3 A3 D3 b.Data :: RR kT3 A6 D6 g.Data :: i) (fun w s => (((s.d 3 R).d 6 R).e 2 [1, 0])) ?_))))
 refine cU 2 R (eB a) vJ R (Z05_ok (cZ q a)) R ?_
 rintro _
 refine lN i ?_
 refine lO (kx R a R) (lB R (aC ?_))
 exact qJ (fun w s => s)
 refine lf (dV a) (lf (dV a) (lf (dV a) (lf (dV a) (lf (dV a) (lO (kn u R a) (lB R (aC ?_)))))))
 exact qJ (fun w s => s)
 rintro σ1
 refine aB (aW ?_)
 obtain rfl := so j
 exact qF () (fun w s => (s.e 6 []))
theorem eU  {b e : aO} {mG : Int} {r : Int} (a : cO b e = some r) :
 FnOk Tryz.prog 134 [(aJ b), (aJ e)] [gl 0 mG] (fun (_ : Unit) => ((iv r), [])) := by
  unfold cO at a
  obtain ⟨g, a⟩ := gd a
  obtain rfl := so a
  exact vg fun w h => Tryz.stringslite_Index ⟨b.toArray⟩ ⟨e.toArray⟩ mG w (by simpa [ByteArray.size] using g) h
theorem fN  {p1 : aO} {a : aO} {mG : Int} {r : aO × aO × Bool} (b : dU p1 a = some r) :
 FnOk Tryz.prog 143 [(aJ p1), (aJ a)] [gl 0 mG] (fun (h : Unit) => ((.tuple [(aJ r.1), (aJ r.2.1), (.bool r.2.2)].toArray), [])) := by
 unfold dU at b
 refine bN Tryz.func143 R 23 R R fun C V => ?_
 refine cN (_ :: V) ?_
 let q : List HP := gl 0 mG :: V
 refine cN q ?_
 refine aD (aA (lO (vp (aJ ([] : aO)) R) (lO (vp (aJ ([] : aO)) R) (lB R (aC (aB (aD (aD ?_))))))))
 obtain ⟨g, u, b⟩ := bd b
 refine aA (lO (vp (aJ p1) R) (lO (vp (aJ a) R) (lM (gl 0 mG :: q) (fun w s => (s.dg 0 R)) ?_)))
 refine lC 1 sv R (eU u) R ?_
 rintro _
 refine lN q ?_
 refine lI R (aC (aB (aD (aA (lI R (lO (jW R R) (aC (aB ?_))))))))
 rcases bG b with ⟨i, b⟩ | ⟨i, b⟩
 refine aL R i (aD ?_)
 obtain ⟨j, b⟩ := gd b
 obtain ⟨m, b⟩ := gd b
 refine eI 12 [] cF (fun E D => (dR 0 R (vp (aJ p1) R) (dR 1 R (vI R) (dR 2 R (vz (aJ (sub p1 (0 : Int) g)) (fz (0 : Int) g f5 R R R j.1 j.2.1 j.2.2)) (dR 3 R (vp (aJ p1) R) (dR 4 R (vI R) (dR 5 R (vp (aJ a) R) (dR 6 R (vz (il a) (dK f5 R)) (dR 7 R (cX R R) (dR 8 R (vz (aJ (sub p1 (aG (g + (a.length : Int))) (p1.length : Int))) (fz (aG (g + (a.length : Int))) (p1.length : Int) f5 R R R m.1 m.2.1 m.2.2)) (dR 9 R (vp (aJ (sub p1 (0 : Int) g)) R) (dR 10 R (vp (aJ (sub p1 (aG (g + (a.length : Int))) (p1.length : Int))) R) (dR 11 R (vB R) (dD (aB (aW (bA ?_)))))))))))))))))
 obtain rfl := so b
 exact bU (vs := [(aJ (sub p1 (0 : Int) g)), (aJ (sub p1 (aG (g + (a.length : Int))) (p1.length : Int))), (.bool true)]) (.inl R) () R ⟨R, R, R, trivial⟩ R (fun w s => (s.e 1 []))
 refine aI R i (aN (aB (aD (aA (lO (vp (aJ p1) R) (lO (vp (aJ p1) R) (lO (vp (aJ ([] : aO)) R) (lB R (aC (aB (aW ?_)))))))))))
 obtain rfl := so b
 exact bU (vs := [(aJ p1), (aJ ([] : aO)), (.bool false)]) (.inl R) () R ⟨R, R, R, trivial⟩ R (fun w s => (s.e 1 []))
theorem Z1n_ok  {p1 : aO} {a : aO} {mG : Int} {r : aO × aO × Bool} (g : Z1n p1 a = some r) :
 FnOk Tryz.prog 109 [(aJ p1), (aJ a)] [gl 0 mG] (fun (h : Unit) => ((.tuple [(aJ r.1), (aJ r.2.1), (.bool r.2.2)].toArray), [])) := by
 unfold Z1n at g
 refine bN Tryz.func109 R 13 R R fun C V => ?_
 refine cN (_ :: V) ?_
 let i : List HP := gl 0 mG :: V
 refine cN i ?_
 refine aD (aA (lO (vp (aJ ([] : aO)) R) (lO (vp (aJ ([] : aO)) R) (lB R (aC (aB (aD ?_)))))))
 obtain ⟨b, j, g⟩ := bd g
 refine aA (lO (vp (aJ p1) R) (lO (vp (aJ a) R) (lM (gl 0 mG :: i) (fun w s => (s.dg 0 R)) ?_)))
 refine lC 1 w4 R (fN j) R ?_
 rintro _
 refine lN i ?_
 refine lO (vp (aJ b.1) R) (lO (vp (aJ b.2.1) R) (lB R (lO (vp (aJ b.1) R) (lO (vp (aJ b.2.1) R) (lB R (aC (aB (aW ?_))))))))
 obtain rfl := so g
 exact bU (vs := [(aJ b.1), (aJ b.2.1), (.bool b.2.2)]) (.inl R) () R ⟨R, R, R, trivial⟩ R (fun w s => (s.e 1 []))
theorem fu  {p1 : aO} {r : Int} (b : dT p1 = some r) :
 FnOk Tryz.prog 193 [(aJ p1)] [] (fun (h : Unit) => ((iv r), [])) := by
 unfold dT at b
 refine bN Tryz.func193 R 10 R R fun C V => ?_
 refine cN V ?_
 refine aD (aA (lI R (aC (aB (aD (bS (A := (Int) × (Unit)) (fun a => dA a.1 = some r) (fun a => [(2, (iv a.1))]) (fun a => V) ?_ ?_))))))
 refine aD (aA (lO (vp (aJ p1) R) (rh R R f5 R (fun j => (aC (aB (aM ?_)))))))
 obtain ⟨I, D, u⟩ := bd b
 refine bQ (A := Unit) D (fun s a => [(2, (iv s.1)), (4, (pt j 0))]) (fun s a => tC j p1 s.2 :: V) () (aS R) (fun w s => s) ?_
 rintro ⟨G, F⟩ _ σ1 i b m
 replace b : dM p1 G F = some i := b
 unfold dM at b
 refine aD ?_
 obtain ⟨q, b⟩ := gd b
 refine aA (tF 0 R R R R q (lN (tC j p1 (nk p1 F) :: V) ?_))
 refine lO (vz (.bool (decide (F < (p1.length : Int)))) (vm R)) (aC (aB (aD ?_)))
 rcases bG b with ⟨g, b⟩ | ⟨g, b⟩
 refine aL R g (aN (aB (aM (aA (lI R (lO (cX R R) (lI R (aC (aZ ?_)))))))))
 obtain rfl := so b
 exact qA () (fun w s => s)
 refine aI R g (bP (aR ?_))
 obtain rfl := so b
 obtain rfl := m _ R
 have b := u
 refine aR (bE ?_)
 exact qI (G, ()) b (fun w s => (s.e 1 []))
 rintro ⟨E, _⟩ σ1 b
 replace b : dA E = some r := b
 unfold dA at b
 refine aD (aA (lI R (lI R (aC (aB (aW ?_))))))
 obtain rfl := so b
 exact qF () (fun w s => s)
theorem fm  {p1 : aO} {r : Int × Int} (b : dO p1 = some r) :
 FnOk Tryz.prog 194 [(aJ p1)] [] (fun (h : Unit) => ((.tuple [(.int .i32 r.1), (iv r.2)].toArray), [])) := by
 unfold dO at b
 refine bN Tryz.func194 R 19 R R fun C V => ?_
 refine cN V ?_
 refine aD (aA (lI R (lI R (aC (aB (aD (aD ?_)))))))
 obtain ⟨g, b⟩ := gd b
 refine cQ [(0, (aJ p1)), (10, (.bool ((!(p1 == ([] : aO))) && (decide ((bt p1 (0 : Int)) < (128 : Int))))))] (V) ?_ ?_
 refine aA (lO (vp (aJ p1) R) (lO (vz (.bool (!(p1 == ([] : aO)))) (mt R R R)) (lB R ?_)))
 rcases bo (!(p1 == ([] : aO))) with a | a
 refine lW (eB a) (vp (aJ p1) R) (lW (eB a) (vz (.int .u8 (bt p1 (0 : Int))) (cI f5 R R (g a).1 (g a).2)) (lW (eB a) (vp (.bool (decide ((bt p1 (0 : Int)) < (128 : Int)))) R) (lO (kx R a R) (aC ?_))))
 exact qJ (fun w s => s)
 refine lf (dV a) (lf (dV a) (lf (dV a) (lO (kn (decide ((bt p1 (0 : Int)) < (128 : Int))) R a) (aC ?_))))
 exact qJ (fun w s => s)
 rintro σ1
 refine aB ?_
 rcases bG b with ⟨e, b⟩ | ⟨e, b⟩
 refine aL R e (aD ?_)
 obtain ⟨i, b⟩ := gd b
 refine aA (lO (vp (aJ p1) R) (lO (vz (.int .u8 (bt p1 (0 : Int))) (cI f5 R R i.1 i.2)) (lO (vz (.int .i32 (IntKind.wrap .i32 ((bt p1 (0 : Int))))) (mu wY xp R)) (lI R (lI R (aC (aB (aW (bA ?_)))))))))
 obtain rfl := so b
 exact bU (vs := [(.int .i32 (IntKind.wrap .i32 ((bt p1 (0 : Int))))), (iv 1)]) (.inl R) () R ⟨R, R, trivial⟩ R (fun w s => s)
 refine aI R e ?_
 cases b
theorem Zv_ok  {p1 : aO} {T : Int} {r : (List aO)} (b : Zv p1 T = some r) :
 FnOk Tryz.prog 177 [(aJ p1), (iv T)] [] (fun (h : HH) => ((.slice h.1 h.2.1 h.2.2), [ow cV 9 (.slice h.1 h.2.1 h.2.2) r])) := by
 unfold Zv at b
 refine bN Tryz.func177 R 50 R R fun C V => ?_
 refine cN V ?_
 refine aD (aA (lS R (aC (aB (aD ?_)))))
 obtain ⟨r3, aa, b⟩ := bd b
 refine aA (lO (vp (aJ p1) R) (lC 0 w7 R (fu aa) R ?_))
 rintro _
 refine lI R (aC (aB (aD (bS (A := (Int) × (Unit)) (fun a => Zv_J1 p1 a.1 = some r) (fun a => [(0, (aJ p1)), (1, (iv a.1))]) (fun a => V) ?_ ?_))))
 refine aD (cQ [(0, (aJ p1)), (1, (iv T)), (5, (iv r3)), (18, (.bool ((decide (T < (0 : Int))) || (decide (T > r3)))))] (V) ?_ ?_)
 refine aA (lI R (lO (dQ R R) (lB R ?_)))
 rcases bo (decide (T < (0 : Int))) with i | i
 refine lf (aT i) (lf (aT i) (lf (aT i) (lO (cW (decide (T > r3)) R i) (aC ?_))))
 exact qJ (fun w s => s)
 refine lW (bI i) (vI R) (lW (bI i) (vI R) (lW (bI i) (iw R R) (lO (eS R i R) (aC ?_))))
 exact qJ (fun w s => s)
 rintro σ1
 refine aB ?_
 rcases bG b with ⟨U, b⟩ | ⟨U, b⟩
 refine aL R U (aA (lI R (lI R (aC ?_))))
 exact qI (r3, ()) b (fun w s => s)
 refine aI R U (aN ?_)
 exact qI (T, ()) b (fun w s => s)
 rintro ⟨g, _⟩ σ1 b
 replace b : Zv_J1 p1 g = some r := b
 unfold Zv_J1 at b
 refine aD ?_
 obtain ⟨a0, b⟩ := gd b
 refine aA (lI R (fG (K := cV) (m := g) (z := ([] : aO)) R R fd jf xo (Zr.zk wX uT) (by decide) R R a0.1 a0.2.1 a0.2.2 (fun A9 D9 => (lS R (aC (aB (aD (bS (A := (aO × (List aO)) × (Unit)) (fun a => Zv_J2 g a.1.1 a.1.2 = some r) (fun a => [(0, (aJ a.1.1)), (1, (iv g)), (6, (sc A9 (List.replicate g.toNat ([] : aO)) D9))]) (fun a => ow cV 9 (.slice A9 (List.replicate g.toNat ([] : aO)).length D9) a.1.2 :: V) ?_ ?_))))))))
 refine aD (aA (lI R (aC (aB (aM ?_)))))
 obtain ⟨e1, a9, a8⟩ := bd b
 refine bQ (A := Unit) a9 (fun s a => [(0, (aJ s.1)), (1, (iv g)), (6, (sc A9 (List.replicate g.toNat ([] : aO)) D9)), (7, (iv s.2.2))]) (fun s a => ow cV 9 (.slice A9 (List.replicate g.toNat ([] : aO)).length D9) s.2.1 :: V) () (aS R) (fun w s => s) ?_
 rintro ⟨e, E, a1⟩ _ σ1 a5 b a7
 replace b : Zv_L1 g e E a1 = some a5 := b
 unfold Zv_L1 at b
 refine aD (aD (aA (lI R (lI R (lO (hM R R) (lO (dQ R R) (aC (aB ?_))))))))
 rcases bG b with ⟨G, b⟩ | ⟨G, b⟩
 refine aL R G (aN (aB (aD (aM (aD ?_)))))
 obtain ⟨j, a4, b⟩ := bd b
 refine aA (lO (vp (aJ e) R) (lC 0 w8 R (fm a4) R ?_))
 rintro _
 refine lN (ow cV 9 (.slice A9 (List.replicate g.toNat ([] : aO)).length D9) E :: V) ?_
 refine lO (vT R) (lI R (lI R (lI R (lI R (aC (aB (aD ?_)))))))
 obtain ⟨L, b⟩ := gd b
 obtain ⟨q, b⟩ := gd b
 refine aA (lS R (lI R (lO (vp (aJ e) R) (lI R (lO (vz (aJ (sub e (0 : Int) j.2)) (fz (0 : Int) j.2 f5 R R R L.1 L.2.1 L.2.2)) (bY 0 aH (show 0 < (List.replicate g.toNat ([] : aO)).length by have := q; omega) (fun a2 o29 ha => ?_)))))))
 subst ha
 refine lO (cK fd jf R R q) (lN (ow cV 9 (.slice (ad a2 o29) (List.replicate g.toNat ([] : aO)).length D9) E :: V) ?_)
 refine eG (K := cV) (x' := (sub e (0 : Int) j.2)) 0 a1 R R jf R R q.1 q.2 ?_ ?_
 exact fun I h s => (tM).put I h () (sub e (0 : Int) j.2) s
 refine lN (ow cV 9 (.slice (ad a2 o29) (List.replicate g.toNat ([] : aO)).length D9) (E.set a1.toNat (sub e (0 : Int) j.2)) :: V) ?_
 refine aC (aB ?_)
 obtain ⟨M, b⟩ := gd b
 refine aA (lO (vp (aJ e) R) (lI R (lO (vz (aJ (sub e j.2 (e.length : Int))) (fz j.2 (e.length : Int) f5 R R R M.1 M.2.1 M.2.2)) (lO (vp (aJ (sub e j.2 (e.length : Int))) R) (aC (aZ (aB (aA (lI R (lO (cX R R) (lI R (aC ?_))))))))))))
 obtain rfl := so b
 exact qA () (fun w s => s)
 refine aI R G (bP (aR ?_))
 obtain rfl := so b
 obtain rfl := a7 _ R
 have b := a8
 refine aR (bE ?_)
 exact qI ((e, E), ()) b (fun w s => s)
 rintro ⟨⟨D, F⟩, _⟩ σ1 b
 replace b : Zv_J2 g D F = some r := b
 unfold Zv_J2 at b
 refine aD (bS (A := ((List aO)) × (Unit)) (fun a => Zv_J3 a.1 = some r) (fun a => [(6, (sc A9 (List.replicate g.toNat ([] : aO)) D9))]) (fun a => ow cV 9 (.slice A9 (List.replicate g.toNat ([] : aO)).length D9) a.1 :: V) ?_ ?_)
 refine aD (aA (lI R (lO (iw R R) (aC (aB ?_)))))
 rcases bG b with ⟨J, b⟩ | ⟨J, b⟩
 refine aL R J ?_
 obtain ⟨u, b⟩ := gd b
 refine aA (lS R (lI R (lO (hM R R) (lO (vp (aJ D) R) (bY 0 aH (show 0 < (List.replicate g.toNat ([] : aO)).length by have := u; omega) (fun a3 o39 ha => ?_))))))
 subst ha
 refine lO (cK fd jf R R u) (lN (ow cV 9 (.slice (ad a3 o39) (List.replicate g.toNat ([] : aO)).length D9) F :: V) ?_)
 refine eG (K := cV) (x' := D) 0 (aG (g - (1 : Int))) R R jf R R u.1 u.2 ?_ ?_
 exact fun I h s => (tM).put I h () D s
 refine lN (ow cV 9 (.slice (ad a3 o39) (List.replicate g.toNat ([] : aO)).length D9) (F.set (aG (g - (1 : Int))).toNat D) :: V) ?_
 refine aC ?_
 exact qI ((F.set (aG (g - (1 : Int))).toNat D), ()) b (fun w s => s)
 refine aI R J (aN ?_)
 exact qI (F, ()) b (fun w s => s)
 rintro ⟨a6, _⟩ σ1 b
 replace b : Zv_J3 a6 = some r := b
 unfold Zv_J3 at b
 refine aD (aA (lS R (lS R (aC (aB (aW ?_))))))
 obtain rfl := so b
 exact qF (A9, (List.replicate g.toNat ([] : aO)).length, D9) (fun w s => s)
theorem Z1z_ok  {b e : aO} {r : Int} (a : Z1z b e = some r) :
 FnOk Tryz.prog 178 [(aJ b), (aJ e)] [] (fun (_ : Unit) => ((iv r), [])) := by
  unfold Z1z at a
  split at a
  · rename_i c
    obtain rfl := so a
    exact np fun w => Tryz.strings_Count_one ⟨b.toArray⟩ c w
  · cases a
theorem Z1o_ok  {p1 : aO} {a : aO} {mG : Int} {r : Int} (b : Z1o p1 a = some r) :
 FnOk Tryz.prog 93 [(aJ p1), (aJ a)] [gl 0 mG] (fun (h : Unit) => ((iv r), [])) := by
 unfold Z1o at b
 refine bN Tryz.func93 R 8 R R fun C V => ?_
 refine cN (_ :: V) ?_
 let g : List HP := gl 0 mG :: V
 refine cN g ?_
 refine aD (aA (lI R (aC (aB (aD ?_)))))
 obtain ⟨j, i, b⟩ := bd b
 refine aA (lO (vp (aJ p1) R) (lO (vp (aJ a) R) (lM (gl 0 mG :: g) (fun w s => (s.dg 0 R)) ?_)))
 refine lC 1 sv R (eU i) R ?_
 rintro _
 refine lN g ?_
 refine lI R (aC (aB (aW ?_)))
 obtain rfl := so b
 exact qF () (fun w s => (s.e 1 []))
theorem Zw_ok  {p1 : aO} {j : aO} {b : Int} {n4 : Int} {mG : Int} {r : (List aO)} (i : Zw p1 j b n4 = some r) :
 FnOk Tryz.prog 164 [(aJ p1), (aJ j), (iv b), (iv n4)] [gl 0 mG] (fun (h : HH) => ((.slice h.1 h.2.1 h.2.2), [aQ cV (.slice h.1 h.2.1 h.2.2) r])) := by
 unfold Zw at i
 refine bN Tryz.func164 R 66 R R fun C V => ?_
 refine cN (_ :: V) ?_
 let G : List HP := gl 0 mG :: V
 refine cN G ?_
 refine aD (aA (lS R (aC (aB (aD (aD (aA (lI R (lO (ji R R) (aC (aB ?_)))))))))))
 rcases bG i with ⟨aa, i⟩ | ⟨aa, i⟩
 refine aL R aa (aD (aA (lS R (aC (aB (aW (bA ?_)))))))
 obtain rfl := so i
 exact qF (none, 0, 0) (fun w s => ((s.nilr cV).e 2 [0]))
 refine aI R aa (aN (aB (aD (aD (aA (lO (vp (aJ j) R) (lO (vz (.bool (j == ([] : aO))) (mt R R R)) (aC (aB ?_)))))))))
 rcases bG i with ⟨ab, i⟩ | ⟨ab, i⟩
 refine aL R ab (aD ?_)
 obtain ⟨r7, an, i⟩ := bd i
 refine aA (lO (vp (aJ p1) R) (lI R (lC 0 w9 R (Zv_ok an) R ?_)))
 rintro ⟨A9, N9, D9⟩
 refine lN (ow cV 9 (.slice A9 N9 D9) r7 :: G) ?_
 refine aY 0 aH ?_
 rintro rfl
 refine lS R (aC (aB (aW (bA ?_))))
 obtain rfl := so i
 exact qF (A9, r7.length, D9) (fun w s => ((s.shr 0 R).e 2 [0]))
 refine aI R ab (aN (aB (aD (bS (A := (Int) × (Unit)) (fun a => Zw_J2 p1 j b a.1 = some r) (fun a => [(0, (aJ p1)), (1, (aJ j)), (2, (iv b)), (3, (iv a.1))]) (fun a => G) ?_ ?_))))
 refine aD (aA (lI R (lO (dQ R R) (aC (aB ?_)))))
 rcases bG i with ⟨U, i⟩ | ⟨U, i⟩
 refine aL R U ?_
 obtain ⟨ap, ah, i⟩ := bd i
 refine aA (lO (vp (aJ p1) R) (lO (vp (aJ j) R) (lC 0 wc R (Z1z_ok ah) R ?_)))
 rintro _
 refine lN G ?_
 refine lO (cX R R) (lI R (aC ?_))
 exact qI ((aG (ap + (1 : Int))), ()) i (fun w s => s)
 refine aI R U (aN ?_)
 exact qI (n4, ()) i (fun w s => s)
 rintro ⟨g, _⟩ σ1 i
 replace i : Zw_J2 p1 j b g = some r := i
 unfold Zw_J2 at i
 refine aD (aA (lI R (lO (vp (aJ p1) R) (lO (vz (il p1) (dK f5 R)) (lO (cX R R) (lO (vz (iv (if (aG ((p1.length : Int) + (1 : Int))) < g then (aG ((p1.length : Int) + (1 : Int))) else g)) (sf R R)) (lI R (aC (aB (aD ?_))))))))))
 obtain ⟨a2, i⟩ := gd i
 refine aA (lI R (fG (K := cV) (m := (if (aG ((p1.length : Int) + (1 : Int))) < g then (aG ((p1.length : Int) + (1 : Int))) else g)) (z := ([] : aO)) R R fd jf xo (Zr.zk wX uT) (by decide) R R a2.1 a2.2.1 a2.2.2 (fun T u => (lS R (aC (aB (aD (aA (lI R (lO (hM R R) (lI R (aC (aB (aD (aA (lI R (aC (aB (aD (bS (A := (aO × (List aO) × Int) × (Unit)) (fun a => Zw_J3 p1 g a.1.1 a.1.2.1 a.1.2.2 = some r) (fun a => [(0, (aJ a.1.1)), (9, (sc T (List.replicate (if (aG ((p1.length : Int) + (1 : Int))) < g then (aG ((p1.length : Int) + (1 : Int))) else g).toNat ([] : aO)) u)), (10, (iv a.1.2.2))]) (fun a => ow cV 9 (.slice T (List.replicate (if (aG ((p1.length : Int) + (1 : Int))) < g then (aG ((p1.length : Int) + (1 : Int))) else g).toNat ([] : aO)).length u) a.1.2.1 :: G) ?_ ?_))))))))))))))))))))
 refine aM ?_
 obtain ⟨e1, am, ag⟩ := bd i
 refine bQ (A := Unit) am (fun s a => [(0, (aJ s.1)), (1, (aJ j)), (2, (iv b)), (3, (iv (aG ((if (aG ((p1.length : Int) + (1 : Int))) < g then (aG ((p1.length : Int) + (1 : Int))) else g) - (1 : Int))))), (9, (sc T (List.replicate (if (aG ((p1.length : Int) + (1 : Int))) < g then (aG ((p1.length : Int) + (1 : Int))) else g).toNat ([] : aO)) u)), (10, (iv s.2.2))]) (fun s a => ow cV 9 (.slice T (List.replicate (if (aG ((p1.length : Int) + (1 : Int))) < g then (aG ((p1.length : Int) + (1 : Int))) else g).toNat ([] : aO)).length u) s.2.1 :: G) () (aS R) (fun w s => s) ?_
 rintro ⟨q, J, a7⟩ _ σ1 aj i ae
 replace i : Zw_L1 p1 j b g q J a7 = some aj := i
 unfold Zw_L1 at i
 refine aD (aD (aA (lI R (lI R (lO (dQ R R) (aC (aB ?_)))))))
 rcases bG i with ⟨a0, i⟩ | ⟨a0, i⟩
 refine aL R a0 (aN (aB (aM (aD ?_))))
 obtain ⟨D, ai, i⟩ := bd i
 refine aA (lO (vp (aJ q) R) (lO (vp (aJ j) R) (lM (gl 0 mG :: ow cV 9 (.slice T (List.replicate (if (aG ((p1.length : Int) + (1 : Int))) < g then (aG ((p1.length : Int) + (1 : Int))) else g).toNat ([] : aO)).length u) J :: G) (fun w s => (s.dg 1 R)) ?_)))
 refine lC 1 xq R (Z1o_ok ai) R ?_
 rintro _
 refine lN (_ :: G) ?_
 refine lI R (aC (aB (aD (aD (aA (lI R (lO (dQ R R) (aC (aB ?_)))))))))
 rcases bG i with ⟨a1, i⟩ | ⟨a1, i⟩
 refine aL R a1 (bP (aR (kG R ?_)))
 obtain rfl := so i
 obtain rfl := ae _ R
 have i := ag
 refine aR (bE ?_)
 exact qI ((q, J, a7), ()) i (fun w s => s)
 refine aI R a1 (aN (aB (aD ?_)))
 obtain ⟨a3, i⟩ := gd i
 obtain ⟨E, i⟩ := gd i
 refine aA (lS R (lI R (lO (vp (aJ q) R) (lI R (lI R (lO (cX R R) (lO (vz (aJ (sub q (0 : Int) (aG (D + b)))) (fz (0 : Int) (aG (D + b)) f5 R R R a3.1 a3.2.1 a3.2.2)) (bY 0 aH (show 0 < (List.replicate (if (aG ((p1.length : Int) + (1 : Int))) < g then (aG ((p1.length : Int) + (1 : Int))) else g).toNat ([] : aO)).length by have := E; omega) (fun a9 o37 ha => ?_)))))))))
 subst ha
 refine lO (cK fd jf R R E) (lN (ow cV 9 (.slice (ad a9 o37) (List.replicate (if (aG ((p1.length : Int) + (1 : Int))) < g then (aG ((p1.length : Int) + (1 : Int))) else g).toNat ([] : aO)).length u) J :: G) ?_)
 refine eG (K := cV) (x' := (sub q (0 : Int) (aG (D + b)))) 0 a7 R R jf R R E.1 E.2 ?_ ?_
 exact fun I h s => (tM).put I h () (sub q (0 : Int) (aG (D + b))) s
 refine lN (ow cV 9 (.slice (ad a9 o37) (List.replicate (if (aG ((p1.length : Int) + (1 : Int))) < g then (aG ((p1.length : Int) + (1 : Int))) else g).toNat ([] : aO)).length u) (J.set a7.toNat (sub q (0 : Int) (aG (D + b)))) :: G) ?_
 refine aC ?_
 obtain ⟨ao, a6, i⟩ := bd i
 replace a6 := Option.some.inj a6
 refine qM (ow cV 9 (.slice (ad a9 o37) (List.replicate (if (aG ((p1.length : Int) + (1 : Int))) < g then (aG ((p1.length : Int) + (1 : Int))) else g).toNat ([] : aO)).length u) ao :: G) (fun w s => by rw [← a6]; exact s) ?_
 refine aB (aD ?_)
 obtain ⟨a4, i⟩ := gd i
 refine aA (lO (vp (aJ q) R) (lI R (lO (vp (aJ j) R) (lO (vz (il j) (dK f5 R)) (lO (cX R R) (lO (vz (aJ (sub q (aG (D + (j.length : Int))) (q.length : Int))) (fz (aG (D + (j.length : Int))) (q.length : Int) f5 R R R a4.1 a4.2.1 a4.2.2)) (lO (vp (aJ (sub q (aG (D + (j.length : Int))) (q.length : Int))) R) (aC (aB (aA (lI R (lO (cX R R) (lI R (aC (aZ ?_)))))))))))))))
 obtain rfl := so i
 exact qA () (fun w s => s)
 refine aI R a0 (bP (aR ?_))
 obtain rfl := so i
 obtain rfl := ae _ R
 have i := ag
 refine aR (bE ?_)
 exact qI ((q, J, a7), ()) i (fun w s => s)
 rintro ⟨⟨M, a8, L⟩, _⟩ σ1 i
 replace i : Zw_J3 p1 g M a8 L = some r := i
 unfold Zw_J3 at i
 refine aD ?_
 obtain ⟨F, i⟩ := gd i
 refine aA (lS R (lI R (lO (vp (aJ M) R) (bY 0 aH (show 0 < (List.replicate (if (aG ((p1.length : Int) + (1 : Int))) < g then (aG ((p1.length : Int) + (1 : Int))) else g).toNat ([] : aO)).length by have := F; omega) (fun ac o49 ha => ?_)))))
 subst ha
 refine lO (cK fd jf R R F) (lN (ow cV 9 (.slice (ad ac o49) (List.replicate (if (aG ((p1.length : Int) + (1 : Int))) < g then (aG ((p1.length : Int) + (1 : Int))) else g).toNat ([] : aO)).length u) a8 :: G) ?_)
 refine eG (K := cV) (x' := M) 0 L R R jf R R F.1 F.2 ?_ ?_
 exact fun I h s => (tM).put I h () M s
 refine lN (ow cV 9 (.slice (ad ac o49) (List.replicate (if (aG ((p1.length : Int) + (1 : Int))) < g then (aG ((p1.length : Int) + (1 : Int))) else g).toNat ([] : aO)).length u) (a8.set L.toNat M) :: G) ?_
 refine aC (aB (aD ?_))
 obtain ⟨a5, i⟩ := gd i
 refine aA (lS R (lI R (lO (cX R R) (ie (fun w s => s.shr 0 R) (gM (K := cV) (0 : Int) (aG (L + (1 : Int))) 0 R R fd jf R R R R a5.1 a5.2.1 a5.2.2 (fun ak al => (lS R (aC (aB (aW ?_))))))))))
 obtain rfl := so i
 exact qF (ak, (sub (a8.set L.toNat M) (0 : Int) (aG (L + (1 : Int)))).length, al) (fun w s => (s.e 3 [0]))
theorem Z1p_ok  {p1 : aO} {a : aO} {mG : Int} {r : (List aO)} (b : Z1p p1 a = some r) :
 FnOk Tryz.prog 144 [(aJ p1), (aJ a)] [gl 0 mG] (fun (h : HH) => ((.slice h.1 h.2.1 h.2.2), [aQ cV (.slice h.1 h.2.1 h.2.2) r])) := by
 unfold Z1p at b
 refine bN Tryz.func144 R 8 R R fun C V => ?_
 refine cN (_ :: V) ?_
 let g : List HP := gl 0 mG :: V
 refine cN g ?_
 refine aD (aA (lS R (aC (aB (aD ?_)))))
 obtain ⟨j, i, b⟩ := bd b
 refine aA (lO (vp (aJ p1) R) (lO (vp (aJ a) R) (lM (gl 0 mG :: g) (fun w s => (s.dg 0 R)) ?_)))
 refine lC 1 wf R (Zw_ok i) R ?_
 rintro ⟨A5, N5, D5⟩
 refine lN (aQ cV (.slice A5 N5 D5) j :: g) ?_
 refine aY 0 aE ?_
 rintro rfl
 refine lS R (aC (aB (aW ?_)))
 obtain rfl := so b
 exact qF (A5, j.length, D5) (fun w s => (s.e 2 [0]))
theorem fv  {b : aO} {a : Int} {r : Int} (e : dG b a = some r) :
 FnOk Tryz.prog 153 [(aJ b), (.int .u8 a)] [] (fun (_ : Unit) => ((iv r), [])) := by
  unfold dG at e
  obtain rfl := so e
  exact np fun w => Tryz.stringslite_IndexByte ⟨b.toArray⟩ a w
theorem Z0x_ok  {p1 : aO} {e : Int} {r : Int} (a : Z0x p1 e = some r) :
 FnOk Tryz.prog 125 [(aJ p1), (.int .u8 e)] [] (fun (h : Unit) => ((iv r), [])) := by
 unfold Z0x at a
 refine bN Tryz.func125 R 8 R R fun C V => ?_
 refine cN V ?_
 refine aD (aA (lI R (aC (aB (aD ?_)))))
 obtain ⟨g, b, a⟩ := bd a
 refine aA (lO (vp (aJ p1) R) (lI R (lC 0 wh R (fv b) R ?_)))
 rintro _
 refine lI R (aC (aB (aW ?_)))
 obtain rfl := so a
 exact qF () (fun w s => s)
end Go.Proofs.YthfhllekobdelaaGreatDoor
