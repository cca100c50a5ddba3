import Derived.Test.YthfhllekobdelaaGreatDoorCvF
import Derived.Test.YthfhllekobdelaaGreatDoorCvW1
import Derived.Test.YthfhllekobdelaaGreatDoorCvW5
set_option linter.unusedVariables false
set_option maxRecDepth 20000
namespace Go.Proofs.YthfhllekobdelaaGreatDoor
open Go Go.Pg
variable {A2 A3 A4 A5 A6 A9 : Option Addr} {D2 D3 D4 D5 D6 D9 N2 N3 N4 N5 N6 N9 : Nat}
theorem Z0b_ok  {q : (List Int)} {D : (List Int)} {b : (List pair)} {r : Tensor} (j : Z0b q D b = some r) :
 FnOk Tryz.prog 119 [(.slice A2 N2 D2), (.slice A4 N4 D4), (.slice A6 N6 D6)] [aQ kT3 (.slice A2 N2 D2) q, aQ kT3 (.slice A4 N4 D4) D, aQ kT149 (.slice A6 N6 D6) b] (fun (h : HH × HH) => ((.agg [(.slice h.1.1 h.1.2.1 h.1.2.2), (.slice h.2.1 h.2.2.1 h.2.2.2)].toArray), [ow kT3 3 (.slice h.1.1 h.1.2.1 h.1.2.2) r.Dims, ow kT3 3 (.slice h.2.1 h.2.2.1 h.2.2.2) r.Data])) := by
 unfold Z0b at j
 refine bN Tryz.func119 R 37 R R fun C V => ?_
 refine cN (_ :: _ :: _ :: V) ?_
 refine cL 0 aE ?_
 rintro rfl
 refine cL 1 aE ?_
 rintro rfl
 refine cL 2 aE ?_
 rintro rfl
 let J : List HP := RR kT3 A2 D2 q :: RR kT3 A4 D4 D :: RR kT149 A6 D6 b :: V
 refine cN J ?_
 refine aD (aA (bM R R dC (fun b7 => (aC (aB (aD ?_))))))
 obtain ⟨i, a9, j⟩ := bd j
 refine aA (lS R (lM (RR kT3 A4 D4 D :: _ :: J) (fun w s => (s.d 2 R)) ?_))
 refine lC 1 tO R (Z0z_ok a9) R ?_
 rintro ⟨⟨A10, N10, D10⟩, ⟨m, a4, g⟩⟩
 refine lN (ow kT3 3 (.slice A10 N10 D10) i.Dims :: ow kT3 3 (.slice m a4 g) i.Data :: _ :: J) ?_
 refine aY 0 aH ?_
 rintro rfl
 refine aY 1 aH ?_
 rintro rfl
 refine bM R R dC (fun F => (aU 0 R R bO R R R R R R (lN (aK F [(sc A10 i.Dims D10), (sc m i.Data g)] 26 :: _ :: _ :: _ :: J) ?_)))
 refine aC (aB (aD (bS (A := ((List Int)) × (Unit)) (fun a => Z0b_J1 i a.1 = some r) (fun a => [(6, (pt b7 0)), (7, (pt F 0))]) (fun a => aK b7 [(.slice none 0 0), (.slice none 0 0)] 26 :: aK F [(sc A10 i.Dims D10), (sc m i.Data g)] 26 :: OO kT3 3 A10 D10 i.Dims :: ow kT3 3 (.slice m i.Data.length g) a.1 :: J) ?_ ?_)))
 refine aD (aA (lS R (lO (bR k8 R) (lI R (aC (aB (aM ?_)))))))
 obtain ⟨e1, a8, a7⟩ := bd j
 refine bQ (A := Unit) a8 (fun s a => [(0, (sc A2 q D2)), (6, (pt b7 0)), (7, (pt F 0)), (12, (sc A6 b D6)), (13, (il b)), (14, (iv s.2))]) (fun s a => aK b7 [(.slice none 0 0), (.slice none 0 0)] 26 :: aK F [(sc A10 i.Dims D10), (sc m i.Data g)] 26 :: OO kT3 3 A10 D10 i.Dims :: ow kT3 3 (.slice m i.Data.length g) s.1 :: J) () (aS R) (fun w s => (s.e 4 [3, 0, 1, 2])) ?_
 rintro ⟨T, E⟩ _ σ1 a2 j a6
 replace j : Z0b_L1 q b i T E = some a2 := j
 unfold Z0b_L1 at j
 refine aD (aA (lO (dQ R R) (aC (aB (aD ?_)))))
 rcases bG j with ⟨L, j⟩ | ⟨L, j⟩
 refine aL R L (aN (aB (aD (aM (aD ?_)))))
 obtain ⟨G, j⟩ := gd j
 refine aA (bY 6 aE (show 0 < b.length by have := G; omega) (fun aa o31 ha => ?_))
 subst ha
 refine lO (cK k8 gA R R G) (oQ (.agg [(iv (ix b E).from_), (iv (ix b E).to)].toArray) ?_ R R ?_)
 exact (oG (K := kT149) (cells := fun x => [(iv x.from_), (iv x.to)]) 6 E su gA (DecK.flat sk fun _ _ => R) aE R G.1 G.2)
 refine bM R R i8 (fun a5 => (aU 0 R R gA R R R R R R (lN (aK a5 [(iv (ix b E).from_), (iv (ix b E).to)] 149 :: _ :: _ :: _ :: ow kT3 3 (.slice m i.Data.length g) T :: J) ?_)))
 refine aC (aB ?_)
 obtain ⟨u, j⟩ := gd j
 obtain ⟨M, j⟩ := gd j
 obtain ⟨a0, a1, j⟩ := bd j
 refine bZ 4 aH (show 0 < i.Data.length by have := u; omega) (fun U o35 ha => ?_)
 subst ha
 refine bZ 5 aE (show 0 < q.length by have := M; omega) (fun ab o38 ha => ?_)
 subst ha
 refine eI 18 [4] cF (fun ht hn => (dR 0 R (bT 1 cA R) (hS := (sL [4])) (dR 1 R (bV 2 bK R R R) (hS := (sL [4])) (dR 2 R (bT 1 kR R) (hS := (sL [4])) (dR 3 R (bV 0 cE R R R) (hS := (sL [4])) (dR 4 R (bT 1 cA R) (hS := (sL [4])) (dR 5 R (bV 2 bK R R R) (hS := (sL [4])) (dR 6 R (bT 1 kR R) (hS := (sL [4])) (dR 7 R (bV 0 cE R R R) (hS := (sL [4])) (dR 8 R (cK aV bX R R u) (hS := (sL [4])) (dR 10 R (vS R) (hS := (sL [4])) (dR 11 R (bT 0 nt R) (hS := (sL [4])) (dR 12 R (bV 0 cE R R R) (hS := (sL [4])) (dR 13 R (cK aV bX R R M) (hS := (sL [4])) (dR 14 R (dL 4 cE aE R M) (hS := (sL [4])) (d1 9 R (lO (dL 4 cE aH R u) (aC (aP (sL [4]) (d1 15 R (lC 0 tR R (Z0g_ok a1) R ?_)))))))))))))))))))))
 rintro _
 refine lN (_ :: _ :: aK F [(sc A10 i.Dims D10), (sc (ad U o35) i.Data g)] 26 :: _ :: ow kT3 3 (.slice (ad U o35) i.Data.length g) T :: J) ?_
 refine aC (aP (sL [4]) (dR 16 R (cK aV bX R R u) (hS := (sL [4])) (d1 17 R (lM (ow _ _ _ _ :: aK _ _ _ :: aK _ _ _ :: aK _ _ _ :: ow _ _ _ _ :: J) (fun w s => (s.f 5 [4, 1, 0, 4])) ?_))))
 refine eG (K := kT3) (x' := a0) 0 (ix b E).to R R bX R R u.1 u.2 ?_ ?_
 exact fun I h s => (fw).put I h () a0 s
 refine lN (ow kT3 3 (.slice (ad U o35) i.Data.length g) (T.set (ix b E).to.toNat a0) :: _ :: _ :: _ :: _ :: J) ?_
 refine aC (aP (sL [0]) (dD (aZ (aB (aA (lO (cX R R) (lI R (aC ?_))))))))
 obtain rfl := so j
 exact qA () (fun w s => (s.e 5 [2, 3, 4, 0]))
 refine aI R L (bP (aR ?_))
 obtain rfl := so j
 obtain rfl := a6 _ R
 have j := a7
 refine aR (bE ?_)
 exact qI (T, ()) j (fun w s => s)
 rintro ⟨a3, _⟩ σ1 j
 replace j : Z0b_J1 i a3 = some r := j
 unfold Z0b_J1 at j
 refine aD (aA (lO (vz (.agg [(sc A10 i.Dims D10), (sc m i.Data g)].toArray) (bF 1 cJ bO R R R R)) (aU 0 R R bO R R R R R R (lN (aK b7 [(sc A10 i.Dims D10), (sc m i.Data g)] 26 :: aK F [(sc A10 i.Dims D10), (sc m i.Data g)] 26 :: _ :: ow kT3 3 (.slice m i.Data.length g) a3 :: J) ?_))))
 refine aC (aB (aW ?_))
 obtain rfl := so j
 exact bU (vs := [(.agg [(sc A10 i.Dims D10), (sc m i.Data g)].toArray)]) (.inl R) ((A10, i.Dims.length, D10), (m, i.Data.length, g)) R ⟨⟨0, b7, _, _, R, R, .inl ⟨cJ, bO, R⟩⟩, trivial⟩ R (fun w s => (s.e 7 [2, 3]))
theorem Z19_ok  {t1 : Tensor} {q5 : Int} {q7 : Int} {q9 : Int} {U : Int} {b6 : Nat} {b8 : Nat} {J : Nat} {L : Nat} {r : Tensor} (g : Z19 t1 q5 q7 q9 U = some r) :
 FnOk Tryz.prog 54 [(.agg [(.slice A2 N2 D2), (.slice A3 N3 D3)].toArray), (.func (.func 55) [].toArray [(pt b6 0), (pt b8 0), (pt J 0), (pt L 0)].toArray)] [aQ kT3 (.slice A2 N2 D2) t1.Dims, aQ kT3 (.slice A3 N3 D3) t1.Data, aK b6 [(iv q5)] 3, aK b8 [(iv q7)] 3, aK J [(iv q9)] 3, aK L [(iv U)] 3] (fun (h : HH × HH) => ((.agg [(.slice h.1.1 h.1.2.1 h.1.2.2), (.slice h.2.1 h.2.2.1 h.2.2.2)].toArray), [ow kT3 3 (.slice h.1.1 h.1.2.1 h.1.2.2) r.Dims, ow kT3 3 (.slice h.2.1 h.2.2.1 h.2.2.2) r.Data, aK b6 [(iv q5)] 3, aK b8 [(iv q7)] 3, aK J [(iv q9)] 3, aK L [(iv U)] 3])) := by
 unfold Z19 at g
 refine bN Tryz.func54 R 28 R R fun C V => ?_
 refine cM (aK _ _ _ :: aK _ _ _ :: aK _ _ _ :: aK _ _ _ :: aQ _ _ _ :: aQ _ _ _ :: V) (fun w s => (s.f 6 [2, 4, 0, 2])) ?_
 refine cL 4 aE ?_
 rintro rfl
 refine cL 5 aE ?_
 rintro rfl
 let W0 : List HP := RR kT3 A2 D2 t1.Dims :: RR kT3 A3 D3 t1.Data :: V
 refine cN (_ :: _ :: _ :: _ :: W0) ?_
 refine aD (aA (gz R (fun a7 => (bM R R dC (fun M => (aC (qM (aK _ _ _ :: aK _ _ _ :: aK _ _ _ :: aK _ _ _ :: aK _ _ _ :: aK _ _ _ :: W0) (fun w s => (s.e 6 [0, 2, 3, 4, 5, 1])) ?_)))))))
 let T : List HP := aK a7 [(sc A2 t1.Dims D2), (sc A3 t1.Data D3)] 26 :: W0
 refine qN (_ :: _ :: _ :: _ :: _ :: T) ?_
 refine aB (aD (aD ?_))
 obtain ⟨a8, a0, g⟩ := bd g
 refine aA (lO (vz (.agg [(sc A2 t1.Dims D2), (sc A3 t1.Data D3)].toArray) (bF 5 cJ bO R R R R)) (lM (RR kT3 A2 D2 t1.Dims :: RR kT3 A3 D3 t1.Data :: aK _ _ _ :: aK _ _ _ :: aK _ _ _ :: aK _ _ _ :: aK _ _ _ :: T) (fun w s => (((s.d 6 R).d 8 R).f 7 [1, 1, 0, 1, 2, 5])) ?_))
 refine lC 2 tP R (Z0r_ok a0) R ?_
 rintro _
 refine lN (_ :: _ :: _ :: _ :: _ :: T) ?_
 refine lO (ft R) (aC (aB ?_))
 rcases bG g with ⟨i, g⟩ | ⟨i, g⟩
 refine aL R i (aD (aA (lO (vz (.agg [(.slice none 0 0), (.slice none 0 0)].toArray) (bW fF dC R R)) (aU 0 R R bO R R R R R R (aC (aB (aW (bA ?_))))))))
 obtain rfl := so g
 exact bU (vs := [(.agg [(.slice none 0 0), (.slice none 0 0)].toArray)]) (.inl R) ((none, 0, 0), (none, 0, 0)) R ⟨⟨0, M, _, _, R, R, .inl ⟨cJ, bO, R⟩⟩, trivial⟩ R (fun w s => (((s.nilo kT3 3).nilo kT3 3).e 10 [1, 0, 3, 4, 5, 6]))
 refine aI R i (aN (aB (aD ?_)))
 obtain ⟨a, a1, g⟩ := bd g
 refine aA (lO (vp _ R) (lO (bT 0 cG R) (lO (bV 5 bK R R R) (lM (RR kT3 A2 D2 t1.Dims :: aK _ _ _ :: aK _ _ _ :: aK _ _ _ :: aK _ _ _ :: aK _ _ _ :: T) (fun w s => ((s.d 6 R).e 6 [0, 2, 3, 4, 5, 1])) ?_))))
 refine iF (fs := []) (cs := [(pt b6 0), (pt b8 0), (pt J 0), (pt L 0)]) 5 R R xg R R (Z1c_ok a1) R ?_
 rintro ⟨⟨m, a3, E⟩, ⟨q, a4, F⟩⟩
 refine lN (ow kT3 3 (.slice m a3 E) a.1 :: ow kT149 149 (.slice q a4 F) a.2.1 :: _ :: _ :: _ :: _ :: _ :: T) ?_
 refine aY 0 aH ?_
 rintro rfl
 refine aY 1 aH ?_
 rintro rfl
 refine lO (vT R) (lS R (lS R (lB R (lS R (lS R (lB R (aC (aB (aD (aD (aA (lB R (lO (ft R) (aC (aB ?_)))))))))))))))
 rcases bG g with ⟨j, g⟩ | ⟨j, g⟩
 refine aL R j (aD (aA (lO (vz (.agg [(.slice none 0 0), (.slice none 0 0)].toArray) (bW fF dC R R)) (aU 6 R R bO R R R R R R (aC (aB (aW (bA ?_))))))))
 obtain rfl := so g
 exact bU (vs := [(.agg [(.slice none 0 0), (.slice none 0 0)].toArray)]) (.inl R) ((none, 0, 0), (none, 0, 0)) R ⟨⟨6, M, _, _, R, R, .inl ⟨cJ, bO, R⟩⟩, trivial⟩ R (fun w s => (((s.nilo kT3 3).nilo kT3 3).e 12 [1, 0, 4, 5, 6, 7]))
 refine aI R j (aN (aB (aD ?_)))
 obtain ⟨b, a2, g⟩ := bd g
 refine aA (lO (bT 1 cA R) (lO (bV 7 bK R R R) (lS R (lS R (lM (ow _ _ _ _ :: ow _ _ _ _ :: RR kT3 A3 D3 t1.Data :: aK _ _ _ :: aK _ _ _ :: aK _ _ _ :: aK _ _ _ :: aK _ _ _ :: T) (fun w s => ((s.d 9 R).f 8 [1, 2, 0, 1, 3, 5])) ?_)))))
 refine lC 3 vR R (FnOk.lends (A' := [OO kT3 3 m E a.1, OO kT149 149 q F a.2.1]) (A := [RR kT3 m E a.1, RR kT149 q F a.2.1]) (B := [RR kT3 A3 D3 t1.Data]) (FnOk.perm (Z0b_ok a2) (Pre' := [RR kT3 m E a.1, RR kT149 q F a.2.1, RR kT3 A3 D3 t1.Data]) (fun _ _ _ s => (s.e 3 [2, 0, 1]))) ⟨bD, bD, trivial⟩ (fun _ => ⟨(bL fM), (bL fM), trivial⟩)) R ?_
 rintro ⟨⟨u, a5, G⟩, ⟨D, a6, I⟩⟩
 refine lN (_ :: _ :: ow kT3 3 (.slice u a5 G) b.Dims :: ow kT3 3 (.slice D a6 I) b.Data :: _ :: _ :: _ :: _ :: _ :: T) ?_
 refine aY 2 aH ?_
 rintro rfl
 refine aY 3 aH ?_
 rintro rfl
 refine aU 8 R R bO R R R R R R (lN (_ :: _ :: _ :: _ :: _ :: _ :: _ :: _ :: aK M [(sc u b.Dims G), (sc D b.Data I)] 26 :: T) ?_)
 refine aC (aB (aW ?_))
 obtain rfl := so g
 exact bU (vs := [(.agg [(sc u b.Dims G), (sc D b.Data I)].toArray)]) (.inl R) ((u, b.Dims.length, G), (D, b.Data.length, I)) R ⟨⟨8, M, _, _, R, R, .inl ⟨cJ, bO, R⟩⟩, trivial⟩ R (fun w s => (s.f 12 [2, 6]))
theorem Z0e_ok  {t1 : Tensor} {i : Int} {a : Int} {b : Int} {j : Int} {r : Tensor} (I : Z0e t1 i a b j = some r) :
 FnOk Tryz.prog 12 [(.agg [(.slice A2 N2 D2), (.slice A3 N3 D3)].toArray), (iv i), (iv a), (iv b), (iv j)] [aQ kT3 (.slice A2 N2 D2) t1.Dims, aQ kT3 (.slice A3 N3 D3) t1.Data] (fun (h : HH × HH) => ((.agg [(.slice h.1.1 h.1.2.1 h.1.2.2), (.slice h.2.1 h.2.2.1 h.2.2.2)].toArray), [ow kT3 3 (.slice h.1.1 h.1.2.1 h.1.2.2) r.Dims, ow kT3 3 (.slice h.2.1 h.2.2.1 h.2.2.2) r.Data])) := by
 unfold Z0e at I
 refine bN Tryz.func12 R 14 R R fun C V => ?_
 refine cN (_ :: _ :: V) ?_
 refine cL 0 aE ?_
 rintro rfl
 refine cL 1 aE ?_
 rintro rfl
 let W0 : List HP := RR kT3 A2 D2 t1.Dims :: RR kT3 A3 D3 t1.Data :: V
 refine cN W0 ?_
 refine aD (aA (gz R (fun b8 => (gh (cs := [(iv i)]) R R R (fun b9 => (gh (cs := [(iv a)]) R R R (fun M => (gh (cs := [(iv b)]) R R R (fun T => (gh (cs := [(iv j)]) R R R (fun U => (bM R R dC (fun E => (aC ?_))))))))))))))
 let G : List HP := aK b8 [(sc A2 t1.Dims D2), (sc A3 t1.Data D3)] 26 :: W0
 refine qN (_ :: _ :: _ :: _ :: _ :: G) ?_
 refine aB (aD ?_)
 obtain ⟨g, F, I⟩ := bd I
 refine aA (lO (vz (.agg [(sc A2 t1.Dims D2), (sc A3 t1.Data D3)].toArray) (bF 5 cJ bO R R R R)) (lO (vp (.func (.func 55) [].toArray [(pt b9 0), (pt M 0), (pt T 0), (pt U 0)].toArray) R) (lM (RR kT3 A2 D2 t1.Dims :: RR kT3 A3 D3 t1.Data :: aK _ _ _ :: aK _ _ _ :: aK _ _ _ :: aK _ _ _ :: aK _ _ _ :: G) (fun w s => (((s.d 6 R).d 8 R).e 7 [1, 0, 6, 5, 4, 3, 2])) ?_)))
 refine lC 6 xh R (Z19_ok F) R ?_
 rintro ⟨⟨m, J, u⟩, ⟨q, L, D⟩⟩
 refine lN (ow kT3 3 (.slice m J u) g.Dims :: ow kT3 3 (.slice q L D) g.Data :: _ :: _ :: _ :: _ :: _ :: G) ?_
 refine aY 0 aH ?_
 rintro rfl
 refine aY 1 aH ?_
 rintro rfl
 refine aU 6 R R bO R R R R R R (lN (_ :: _ :: _ :: _ :: _ :: _ :: aK E [(sc m g.Dims u), (sc q g.Data D)] 26 :: G) ?_)
 refine aC (aB (aW ?_))
 obtain rfl := so I
 exact bU (vs := [(.agg [(sc m g.Dims u), (sc q g.Data D)].toArray)]) (.inl R) ((m, g.Dims.length, u), (q, g.Data.length, D)) R ⟨⟨6, E, _, _, R, R, .inl ⟨cJ, bO, R⟩⟩, trivial⟩ R (fun w s => (s.e 10 [0, 1]))
theorem Zl_ok  {b : (List Int)} {r : (List Int)} (g : Zl b = some r) :
 FnOk Tryz.prog 67 [(.slice A2 N2 D2)] [aQ kT3 (.slice A2 N2 D2) b] (fun (h : HH) => ((.slice h.1 h.2.1 h.2.2), [ow kT3 3 (.slice h.1 h.2.1 h.2.2) r])) := by
 unfold Zl at g
 refine bN Tryz.func67 R 32 R R fun C V => ?_
 refine cN (_ :: V) ?_
 refine cL 0 aE ?_
 rintro rfl
 let M : List HP := RR kT3 A2 D2 b :: V
 refine cN M ?_
 refine aD (aA (lS R (aC (aB (aD ?_)))))
 obtain ⟨L, g⟩ := gd g
 refine aA (lS R (lO (bR aV R) (fG (K := kT3) (m := (b.length : Int)) (z := (0 : Int)) R R aV bX ii (Zr.zk zT3 fj) (by decide) R R L.1 L.2.1 L.2.2 (fun A4 D4 => (lS R (aC (aB (aD (aA (lI R (aC (aB (aD (bS (A := ((List Int)) × (Unit)) (fun a => Zl_J3 a.1 = some r) (fun a => [(3, (sc A4 (List.replicate (b.length : Int).toNat (0 : Int)) D4))]) (fun a => ow kT3 3 (.slice A4 (List.replicate (b.length : Int).toNat (0 : Int)).length D4) a.1 :: M) ?_ ?_))))))))))))))
 refine aD (aA (lS R (lO (bR aV R) (lO (hM R R) (lI R (aC (aB (aM ?_))))))))
 obtain ⟨e1, a2, a1⟩ := bd g
 refine bQ (A := Unit) a2 (fun s a => [(0, (sc A2 b D2)), (3, (sc A4 (List.replicate (b.length : Int).toNat (0 : Int)) D4)), (4, (iv s.2.1)), (5, (iv s.2.2))]) (fun s a => ow kT3 3 (.slice A4 (List.replicate (b.length : Int).toNat (0 : Int)).length D4) s.1 :: M) () (aS R) (fun w s => s) ?_
 rintro ⟨u, i, j⟩ _ σ1 J g a0
 replace g : Zl_L1 b u i j = some J := g
 unfold Zl_L1 at g
 refine aD (aD (aA (lI R (lO (jW R R) (aC (aB ?_))))))
 rcases bG g with ⟨D, g⟩ | ⟨D, g⟩
 refine aL R D (aN (aB (aD (aM (aD (bS (A := ((List Int)) × (Unit)) (fun a => Zl_J2 b i j a.1 = some J) (fun a => [(0, (sc A2 b D2)), (3, (sc A4 (List.replicate (b.length : Int).toNat (0 : Int)) D4)), (4, (iv i)), (5, (iv j))]) (fun a => ow kT3 3 (.slice A4 (List.replicate (b.length : Int).toNat (0 : Int)).length D4) a.1 :: M) ?_ ?_))))))
 refine aD ?_
 obtain ⟨F, g⟩ := gd g
 refine aA (lS R (lI R (bY 1 aE (show 0 < b.length by have := F; omega) (fun a5 o25 U => ?_))))
 subst U
 refine lO (cK aV bX R R F) (lO (dL 1 cE aE R F) (lO (iw R R) (aC (aB ?_))))
 rcases bG g with ⟨E, g⟩ | ⟨E, g⟩
 refine aL R E ?_
 obtain ⟨q, g⟩ := gd g
 refine aA (lS R (lI R (lI R (bY 0 aH (show 0 < (List.replicate (b.length : Int).toNat (0 : Int)).length by have := q; omega) (fun T o29 U => ?_)))))
 subst U
 refine lO (cK aV bX R R q) (lN (ow kT3 3 (.slice (ad T o29) (List.replicate (b.length : Int).toNat (0 : Int)).length D4) u :: M) ?_)
 refine eG (K := kT3) (x' := i) 0 j R R bX R R q.1 q.2 ?_ ?_
 exact fun I h s => (fw).put I h () i s
 refine lN (ow kT3 3 (.slice (ad T o29) (List.replicate (b.length : Int).toNat (0 : Int)).length D4) (u.set j.toNat i) :: M) ?_
 refine aC ?_
 exact qI ((u.set j.toNat i), ()) g (fun w s => s)
 refine aI R E (aN ?_)
 exact qI (u, ()) g (fun w s => s)
 rintro ⟨a3, _⟩ σ1 g
 replace g : Zl_J2 b i j a3 = some J := g
 unfold Zl_J2 at g
 obtain ⟨G, g⟩ := gd g
 refine aA (lI R (lS R (lI R (bY 1 aE (show 0 < b.length by have := G; omega) (fun a6 o33 U => ?_)))))
 subst U
 refine lO (cK aV bX R R G) (lO (dL 1 cE aE R G) (lO (f9 R R) (lI R (aC (aZ (aB (aA (lI R (lO (hM R R) (lI R (aC ?_)))))))))))
 obtain rfl := so g
 exact qA () (fun w s => s)
 refine aI R D (bP (aR ?_))
 obtain rfl := so g
 obtain rfl := a0 _ R
 have g := a1
 refine aR (bE ?_)
 exact qI (u, ()) g (fun w s => s)
 rintro ⟨a4, _⟩ σ1 g
 replace g : Zl_J3 a4 = some r := g
 unfold Zl_J3 at g
 refine aD (aA (lS R (lS R (aC (aB (aW ?_))))))
 obtain rfl := so g
 exact qF (A4, (List.replicate (b.length : Int).toNat (0 : Int)).length, D4) (fun w s => (s.e 2 [0]))
theorem Z14_ok  {a : (List Int)} {r : View} (b : Z14 a = some r) :
 FnOk Tryz.prog 15 [(.slice A2 N2 D2)] [aQ kT3 (.slice A2 N2 D2) a] (fun (h : HH × HH) => ((.agg [(.slice h.1.1 h.1.2.1 h.1.2.2), (.slice h.2.1 h.2.2.1 h.2.2.2), (iv r.Offset), (iv r.Base)].toArray), [ow kT3 3 (.slice h.1.1 h.1.2.1 h.1.2.2) r.Dims, ow kT3 3 (.slice h.2.1 h.2.2.1 h.2.2.2) r.Strides])) := by
 unfold Z14 at b
 refine bN Tryz.func15 R 14 R R fun C V => ?_
 refine cN (_ :: V) ?_
 refine cL 0 aE ?_
 rintro rfl
 let m : List HP := RR kT3 A2 D2 a :: V
 refine cN m ?_
 refine aD (aA (bM R R fH (fun I => (aC (aB (aD (aD ?_)))))))
 obtain ⟨M, J, b⟩ := bd b
 refine aA (lS R (lM (RR kT3 A2 D2 a :: _ :: m) (fun w s => (s.d 1 R)) ?_))
 refine lC 1 kq R (Zg_ok J) R ?_
 rintro _
 refine lN (_ :: m) ?_
 refine lO (ft R) (aC (aB ?_))
 rcases bG b with ⟨q, b⟩ | ⟨q, b⟩
 refine aL R q (aD (aA (lO (vz (.agg [(.slice none 0 0), (.slice none 0 0), (iv 0), (iv 0)].toArray) (bW jl fH R R)) (aU 0 R R dZ R R R R R R (aC (aB (aW (bA ?_))))))))
 obtain rfl := so b
 exact bU (vs := [(.agg [(.slice none 0 0), (.slice none 0 0), (iv 0), (iv 0)].toArray)]) (.inl R) ((none, 0, 0), (none, 0, 0)) R ⟨⟨0, I, _, _, R, R, .inl ⟨fc, dZ, R⟩⟩, trivial⟩ R (fun w s => (((s.nilo kT3 3).nilo kT3 3).e 4 [1, 0]))
 refine aI R q (aN (aB (aD ?_)))
 obtain ⟨F, L, b⟩ := bd b
 obtain ⟨j, D, b⟩ := bd b
 obtain ⟨u, E, b⟩ := bd b
 refine aA (lS R (lM (RR kT3 A2 D2 a :: _ :: m) (fun w s => (s.d 1 R)) ?_))
 refine lC 1 jY R (Zy_ok L) R ?_
 rintro ⟨A9, N9, D9⟩
 refine lN (ow kT3 3 (.slice A9 N9 D9) F :: _ :: m) ?_
 refine aY 0 aH ?_
 rintro rfl
 refine lS R (lM (RR kT3 A2 D2 a :: _ :: _ :: m) (fun w s => (s.d 2 R)) ?_)
 refine lC 1 tV R (Zl_ok D) R ?_
 rintro ⟨g, G, i⟩
 refine lN (ow kT3 3 (.slice g G i) j :: _ :: _ :: m) ?_
 refine aY 0 aH ?_
 rintro rfl
 refine lS R (lM (RR kT3 A2 D2 a :: _ :: _ :: _ :: m) (fun w s => (s.d 3 R)) ?_)
 refine lC 1 iJ R (Zd_ok E) R ?_
 rintro _
 refine lN (_ :: _ :: _ :: m) ?_
 refine lO (vz (.agg [(sc A9 F D9), (sc g j i), (iv 0), (iv u)].toArray) (bW jl fH R R)) (aU 2 R R dZ R R R R R R (lN (_ :: _ :: aK I [(sc A9 F D9), (sc g j i), (iv 0), (iv u)] 35 :: m) ?_))
 refine aC (aB (aW ?_))
 obtain rfl := so b
 exact bU (vs := [(.agg [(sc A9 F D9), (sc g j i), (iv 0), (iv u)].toArray)]) (.inl R) ((A9, F.length, D9), (g, j.length, i)) R ⟨⟨2, I, _, _, R, R, .inl ⟨fc, dZ, R⟩⟩, trivial⟩ R (fun w s => (s.e 4 [1, 0]))
theorem Zo_ok  {v1 : View} {r : Bool} (u : Zo v1 = some r) :
 FnOk Tryz.prog 58 [(.agg [(.slice A2 N2 D2), (.slice A3 N3 D3), (iv v1.Offset), (iv v1.Base)].toArray)] [aQ kT3 (.slice A2 N2 D2) v1.Dims, aQ kT3 (.slice A3 N3 D3) v1.Strides] (fun (h : Unit) => ((.bool r), [])) := by
 unfold Zo at u
 refine bN Tryz.func58 R 91 R R fun C V => ?_
 refine cN (_ :: _ :: V) ?_
 refine cL 0 aE ?_
 rintro rfl
 refine cL 1 aE ?_
 rintro rfl
 let W0 : List HP := RR kT3 A2 D2 v1.Dims :: RR kT3 A3 D3 v1.Strides :: V
 refine cN W0 ?_
 refine aD (aA (gz R (fun b4 => (lB R (aC ?_)))))
 let W1 : List HP := aK b4 [(sc A2 v1.Dims D2), (sc A3 v1.Strides D3), (iv v1.Offset), (iv v1.Base)] 35 :: W0
 refine qN W1 ?_
 refine aB (aD (aD ?_))
 obtain ⟨r5, a8, u⟩ := bd u
 refine cQ [(1, (pt b4 0)), (41, (.bool ((((((!r5) || ((v1.Strides.length : Int) != (v1.Dims.length : Int))) || (decide (v1.Base < (1 : Int)))) || (decide (v1.Base > (4096 : Int)))) || (decide (v1.Offset < (0 : Int)))) || (decide (v1.Offset ≥ v1.Base)))))] (W1) ?_ ?_
 refine aA (lO (bT 0 dH R) (lO (bV 0 bK R R R) (lM (RR kT3 A2 D2 v1.Dims :: W1) (fun w s => (s.d 1 R)) ?_)))
 refine lC 1 kq R (Zg_ok a8) R ?_
 rintro _
 refine lN W1 ?_
 refine lO (ft R) (lB R ?_)
 rcases bo (!r5) with b | b
 refine lf (aT b) (lf (aT b) (lf (aT b) (lf (aT b) (lf (aT b) (lf (aT b) (lf (aT b) (lO (cW ((v1.Strides.length : Int) != (v1.Dims.length : Int)) R b) (lB R (lf (aT (oT b)) (lf (aT (oT b)) (lf (aT (oT b)) (lO (cW (decide (v1.Base < (1 : Int))) R (oT b)) (lB R (lf (aT (oT (oT b))) (lf (aT (oT (oT b))) (lf (aT (oT (oT b))) (lO (cW (decide (v1.Base > (4096 : Int))) R (oT (oT b))) (lB R (lf (aT (oT (oT (oT b)))) (lf (aT (oT (oT (oT b)))) (lf (aT (oT (oT (oT b)))) (lO (cW (decide (v1.Offset < (0 : Int))) R (oT (oT (oT b)))) (lB R (lf (aT (oT (oT (oT (oT b))))) (lf (aT (oT (oT (oT (oT b))))) (lf (aT (oT (oT (oT (oT b))))) (lf (aT (oT (oT (oT (oT b))))) (lf (aT (oT (oT (oT (oT b))))) (lO (cW (decide (v1.Offset ≥ v1.Base)) R (oT (oT (oT (oT b))))) (aC ?_))))))))))))))))))))))))))))))
 exact qJ (fun w s => s)
 refine lW (bI b) (bT 1 eJ R) (lW (bI b) (bV 0 bK R R R) (lW (bI b) (bR aV R) (lW (bI b) (bT 0 dH R) (lW (bI b) (bV 0 bK R R R) (lW (bI b) (bR aV R) (lW (bI b) (ig R R) (lO (eS R b R) (lB R ?_))))))))
 rcases bo ((!r5) || ((v1.Strides.length : Int) != (v1.Dims.length : Int))) with i | i
 refine lf (aT i) (lf (aT i) (lf (aT i) (lO (cW (decide (v1.Base < (1 : Int))) R i) (lB R (lf (aT (oT i)) (lf (aT (oT i)) (lf (aT (oT i)) (lO (cW (decide (v1.Base > (4096 : Int))) R (oT i)) (lB R (lf (aT (oT (oT i))) (lf (aT (oT (oT i))) (lf (aT (oT (oT i))) (lO (cW (decide (v1.Offset < (0 : Int))) R (oT (oT i))) (lB R (lf (aT (oT (oT (oT i)))) (lf (aT (oT (oT (oT i)))) (lf (aT (oT (oT (oT i)))) (lf (aT (oT (oT (oT i)))) (lf (aT (oT (oT (oT i)))) (lO (cW (decide (v1.Offset ≥ v1.Base)) R (oT (oT (oT i)))) (aC ?_)))))))))))))))))))))
 exact qJ (fun w s => s)
 refine lW (bI i) (bT 3 fI R) (lW (bI i) (bV 0 cE R R R) (lW (bI i) (dQ R R) (lO (eS R i R) (lB R ?_))))
 rcases bo (((!r5) || ((v1.Strides.length : Int) != (v1.Dims.length : Int))) || (decide (v1.Base < (1 : Int)))) with m | m
 refine lf (aT m) (lf (aT m) (lf (aT m) (lO (cW (decide (v1.Base > (4096 : Int))) R m) (lB R (lf (aT (oT m)) (lf (aT (oT m)) (lf (aT (oT m)) (lO (cW (decide (v1.Offset < (0 : Int))) R (oT m)) (lB R (lf (aT (oT (oT m))) (lf (aT (oT (oT m))) (lf (aT (oT (oT m))) (lf (aT (oT (oT m))) (lf (aT (oT (oT m))) (lO (cW (decide (v1.Offset ≥ v1.Base)) R (oT (oT m))) (aC ?_))))))))))))))))
 exact qJ (fun w s => s)
 refine lW (bI m) (bT 3 fI R) (lW (bI m) (bV 0 cE R R R) (lW (bI m) (iw R R) (lO (eS R m R) (lB R ?_))))
 rcases bo ((((!r5) || ((v1.Strides.length : Int) != (v1.Dims.length : Int))) || (decide (v1.Base < (1 : Int)))) || (decide (v1.Base > (4096 : Int)))) with g | g
 refine lf (aT g) (lf (aT g) (lf (aT g) (lO (cW (decide (v1.Offset < (0 : Int))) R g) (lB R (lf (aT (oT g)) (lf (aT (oT g)) (lf (aT (oT g)) (lf (aT (oT g)) (lf (aT (oT g)) (lO (cW (decide (v1.Offset ≥ v1.Base)) R (oT g)) (aC ?_)))))))))))
 exact qJ (fun w s => s)
 refine lW (bI g) (bT 2 fY R) (lW (bI g) (bV 0 cE R R R) (lW (bI g) (dQ R R) (lO (eS R g R) (lB R ?_))))
 rcases bo (((((!r5) || ((v1.Strides.length : Int) != (v1.Dims.length : Int))) || (decide (v1.Base < (1 : Int)))) || (decide (v1.Base > (4096 : Int)))) || (decide (v1.Offset < (0 : Int)))) with j | j
 refine lf (aT j) (lf (aT j) (lf (aT j) (lf (aT j) (lf (aT j) (lO (cW (decide (v1.Offset ≥ v1.Base)) R j) (aC ?_))))))
 exact qJ (fun w s => s)
 refine lW (bI j) (bT 2 fY R) (lW (bI j) (bV 0 cE R R R) (lW (bI j) (bT 3 fI R) (lW (bI j) (bV 0 cE R R R) (lW (bI j) (jW R R) (lO (eS R j R) (aC ?_))))))
 exact qJ (fun w s => s)
 rintro σ1
 refine aB ?_
 rcases bG u with ⟨G, u⟩ | ⟨G, u⟩
 refine aL R G (aD (aA (lB R (aC (aB (aW (bA ?_)))))))
 obtain rfl := so u
 exact qF () (fun w s => (s.e 3 []))
 refine aI R G (aN (aB (aD (eI 6 [] cF (fun ht hn => (dR 0 R (bT 2 fY R) (dR 1 R (bV 0 cE R R R) (dR 2 R (bT 2 fY R) (dR 3 R (bV 0 cE R R R) (dR 4 R (vI R) (dR 5 R (vI R) (dD (aB (aD (bS (A := (Int × Int) × (Unit)) (fun a => Zo_J1 v1 a.1.1 a.1.2 = some r) (fun a => [(1, (pt b4 0)), (3, (iv a.1.1)), (4, (iv a.1.2))]) (fun a => W1) ?_ ?_)))))))))))))))
 refine aD (aA (lO (bT 1 eJ R) (lO (bV 0 bK R R R) (lO (bR aV R) (lI R (aC (aB (aM ?_))))))))
 obtain ⟨e1, a7, a4⟩ := bd u
 refine bQ (A := HH) a7 (fun s a => [(1, (pt b4 0)), (3, (iv s.1)), (4, (iv s.2.1)), (47, (.slice a.1 a.2.1 a.2.2)), (48, (il v1.Strides)), (49, (iv s.2.2))]) (fun s a => aQ kT3 (.slice a.1 a.2.1 a.2.2) v1.Strides :: W1) (A3, v1.Strides.length, D3) (aS R) (fun w s => (s.d 2 R)) ?_
 rintro ⟨U, M, D⟩ ⟨a9, a6, a1⟩ σ1 a5 u a3
 replace u : Zo_L1 v1 U M D = some a5 := u
 unfold Zo_L1 at u
 refine cD 0 aE (fun (hn : a6 = v1.Strides.length) => ?_)
 subst hn
 refine aD (aA (lO (dQ R R) (aC (aB (aD ?_)))))
 rcases bG u with ⟨I, u⟩ | ⟨I, u⟩
 refine aL R I (aN (aB (aD (aM (aD ?_)))))
 obtain ⟨L, u⟩ := gd u
 refine aA (lI R (bY 0 aE (show 0 < v1.Strides.length by have := L; omega) (fun a2 o29 ha => ?_)))
 subst ha
 refine lO (cK aV bX R R L) (lO (dL 0 cE aE R L) (lI R (lI R (aC (aB (aD (aD (cQ [(1, (pt b4 0)), (3, (iv U)), (4, (iv M)), (5, (iv D)), (6, (iv (ix v1.Strides D))), (47, (sc (ad a2 o29) v1.Strides a1)), (48, (il v1.Strides)), (49, (iv D)), (59, (.bool ((decide ((ix v1.Strides D) < (-4096 : Int))) || (decide ((ix v1.Strides D) > (4096 : Int))))))] (RR kT3 (ad a2 o29) a1 v1.Strides :: W1) ?_ ?_))))))))
 refine aA (lI R (lO (dQ R R) (lB R ?_)))
 rcases bo (decide ((ix v1.Strides D) < (-4096 : Int))) with E | E
 refine lf (aT E) (lf (aT E) (lO (cW (decide ((ix v1.Strides D) > (4096 : Int))) R E) (aC ?_)))
 exact qJ (fun w s => s)
 refine lW (bI E) (vI R) (lW (bI E) (iw R R) (lO (eS R E R) (aC ?_)))
 exact qJ (fun w s => s)
 rintro σ1
 refine aB ?_
 rcases bG u with ⟨J, u⟩ | ⟨J, u⟩
 refine aL R J (aD (aA (lB R (aC (aB (aW (bA (bB (bA ?_)))))))))
 obtain rfl := so u
 obtain rfl := a3 _ R
 have u := a4
 refine bA (bB (bA ?_))
 obtain rfl := so u
 exact qF () (fun w s => (s.e 4 []))
 refine aI R J (aN (aB (aD ?_)))
 obtain ⟨F, u⟩ := gd u
 refine aA (lI R (lI R (lO (bT 0 dH R) (lO (bV 1 bK R R R) (lI R (bY 2 aE (show 0 < v1.Dims.length by have := F; omega) (fun aa o34 ha => ?_)))))))
 subst ha
 refine lO (cK aV bX R R F) (lO (dL 2 cE aE R F) (lO (hM R R) (lO (f9 R R) (lO (vz (iv (if (aG ((ix v1.Strides D) * (aG ((ix v1.Dims D) - (1 : Int))))) < (0 : Int) then (aG ((ix v1.Strides D) * (aG ((ix v1.Dims D) - (1 : Int))))) else (0 : Int))) (sf R R)) (lO (cX R R) (lI R (aC (aB (aA (lI R (lI R (lO (bT 0 dH R) (lO (bV 1 bK R R R) (lI R (lO (cK aV bX R R F) (lO (dL 2 cE aE R F) (lO (hM R R) (lO (f9 R R) (lO (vz (iv (if (aG ((ix v1.Strides D) * (aG ((ix v1.Dims D) - (1 : Int))))) > (0 : Int) then (aG ((ix v1.Strides D) * (aG ((ix v1.Dims D) - (1 : Int))))) else (0 : Int))) (v7 R R)) (lO (cX R R) (lI R (aC (aZ (aB (aA (lO (cX R R) (lI R (aC ?_))))))))))))))))))))))))))))
 obtain rfl := so u
 exact qA ((ad a2 o29), v1.Strides.length, a1) (fun w s => s)
 refine aI R I (bP (aR ?_))
 obtain rfl := so u
 obtain rfl := a3 _ R
 have u := a4
 refine aR (bE ?_)
 exact qI ((U, M), ()) u (fun w s => (s.e 1 []))
 rintro ⟨⟨a0, T⟩, _⟩ σ1 u
 replace u : Zo_J1 v1 a0 T = some r := u
 unfold Zo_J1 at u
 refine aD (cQ [(2, (.bool ((decide (a0 ≥ (0 : Int))) && (decide (T < v1.Base)))))] (W1) ?_ ?_)
 refine aA (lI R (lO (jW R R) (lB R ?_)))
 rcases bo (decide (a0 ≥ (0 : Int))) with q | q
 refine lW (eB q) (vI R) (lW (eB q) (bT 3 fI R) (lW (eB q) (bV 0 cE R R R) (lW (eB q) (dQ R R) (lO (kx R q R) (lB R (aC ?_))))))
 exact qJ (fun w s => s)
 refine lf (dV q) (lf (dV q) (lf (dV q) (lf (dV q) (lO (kn (decide (T < v1.Base)) R q) (lB R (aC ?_))))))
 exact qJ (fun w s => s)
 rintro σ1
 refine aB (aW ?_)
 obtain rfl := so u
 exact qF () (fun w s => (s.e 3 []))
theorem Z0j_ok  {v1 : View} {g : Int} {b : Int} {j : Int} {F : Nat} {r : View} (m : Z0j v1 g b j = some r) :
 FnOk Tryz.prog 63 [(pt F 0), (iv g), (iv b), (iv j)] [ow kT3 3 (.slice A3 N3 D3) v1.Dims, ow kT3 3 (.slice A4 N4 D4) v1.Strides, aK F [(.slice A3 N3 D3), (.slice A4 N4 D4), (iv v1.Offset), (iv v1.Base)] 35] (fun (h : HH × HH) => ((.tuple [].toArray), [ow kT3 3 (.slice h.1.1 h.1.2.1 h.1.2.2) r.Dims, ow kT3 3 (.slice h.2.1 h.2.2.1 h.2.2.2) r.Strides, aK F [(.slice h.1.1 h.1.2.1 h.1.2.2), (.slice h.2.1 h.2.2.1 h.2.2.2), (iv r.Offset), (iv r.Base)] 35])) := by
 unfold Z0j at m
 refine bN Tryz.func63 R 24 R R fun C V => ?_
 refine cN (_ :: _ :: _ :: V) ?_
 refine cL 0 aH ?_
 rintro rfl
 refine cL 1 aH ?_
 rintro rfl
 refine aD (bS (A := (Int) × (Unit)) (fun a => Z0j_J3 v1 g b a.1 = some r) (fun a => [(0, (pt F 0)), (1, (iv g)), (2, (iv b)), (3, (iv a.1))]) (fun a => aK F [(sc A3 v1.Dims D3), (sc A4 v1.Strides D4), (iv v1.Offset), (iv v1.Base)] 35 :: OO kT3 3 A3 D3 v1.Dims :: OO kT3 3 A4 D4 v1.Strides :: V) ?_ ?_)
 refine aD (aA (lI R (lO (ji R R) (aC ?_))))
 let L : List HP := aK F [(sc A3 v1.Dims D3), (sc A4 v1.Strides D4), (iv v1.Offset), (iv v1.Base)] 35 :: V
 refine qN (_ :: _ :: L) ?_
 refine aB ?_
 rcases bG m with ⟨G, m⟩ | ⟨G, m⟩
 refine aL R G (aA (lI R (aC ?_)))
 exact qI ((0 : Int), ()) m (fun w s => (s.e 3 [2, 0, 1]))
 refine aI R G (aN ?_)
 exact qI (j, ()) m (fun w s => (s.e 3 [2, 0, 1]))
 rintro ⟨i, _⟩ σ1 m
 replace m : Z0j_J3 v1 g b i = some r := m
 unfold Z0j_J3 at m
 obtain ⟨q, m⟩ := gd m
 obtain ⟨u, m⟩ := gd m
 refine bZ 1 aH (show 0 < v1.Dims.length by have := q; omega) (fun D o12 J => ?_)
 subst J
 refine bZ 2 aH (show 0 < v1.Strides.length by have := u; omega) (fun E o15 J => ?_)
 subst J
 refine eI 16 [2, 1] cF (fun T M => (dR 0 R (vP R) (hS := (sL [2, 1])) (dR 1 R (vP R) (hS := (sL [2, 1])) (dR 2 R (bT 0 dH R) (hS := (sL [2, 1])) (dR 3 R (bV 0 bK R R R) (hS := (sL [2, 1])) (dR 4 R (vI R) (hS := (sL [2, 1])) (dR 5 R (vP R) (hS := (sL [2, 1])) (dR 6 R (vP R) (hS := (sL [2, 1])) (dR 7 R (bT 1 eJ R) (hS := (sL [2, 1])) (dR 8 R (bV 0 bK R R R) (hS := (sL [2, 1])) (dR 9 R (vI R) (hS := (sL [2, 1])) (dR 10 R (vI R) (hS := (sL [2, 1])) (dR 11 R (vI R) (hS := (sL [2, 1])) (dR 12 R (cK aV bX R R q) (hS := (sL [2, 1])) (d1 13 R (lM (OO kT3 3 (ad D o12) D3 v1.Dims :: aK F [(sc (ad D o12) v1.Dims D3), (sc (ad E o15) v1.Strides D4), (iv v1.Offset), (iv v1.Base)] 35 :: OO kT3 3 (ad E o15) D4 v1.Strides :: V) (fun w s => (s.e 3 [1, 0, 2])) ?_))))))))))))))))
 refine eG (K := kT3) (x' := b) 0 g R R bX R R q.1 q.2 ?_ ?_
 exact fun I h s => (fw).put I h () b s
 refine lN (ow kT3 3 (.slice (ad D o12) v1.Dims.length D3) (v1.Dims.set g.toNat b) :: _ :: _ :: V) ?_
 refine aC (aP (sL [2, 0]) (dR 14 R (cK aV bX R R u) (hS := (sL [2, 0])) (d1 15 R (lM (ow _ _ _ _ :: ow _ _ _ _ :: aK _ _ _ :: V) (fun w s => (s.e 3 [2, 0, 1])) ?_))))
 refine eG (K := kT3) (x' := i) 0 g R R bX R R u.1 u.2 ?_ ?_
 exact fun I h s => (fw).put I h () i s
 refine lN (ow kT3 3 (.slice (ad E o15) v1.Strides.length D4) (v1.Strides.set g.toNat i) :: _ :: _ :: V) ?_
 refine aC (aP (sL [1, 0]) (dD ?_))
 obtain rfl := so m
 exact bU (vs := []) (.inr R) (((ad D o12), v1.Dims.length, D3), ((ad E o15), v1.Strides.length, D4)) R trivial R (fun w s => (s.e 3 [1, 0, 2]))
theorem Z1d_ok  {v1 : View} {a : Int} {b : Int} {D : Nat} {r : View} (i : Z1d v1 a b = some r) :
 FnOk Tryz.prog 64 [(pt D 0), (iv a), (iv b)] [ow kT3 3 (.slice A3 N3 D3) v1.Dims, ow kT3 3 (.slice A4 N4 D4) v1.Strides, aK D [(.slice A3 N3 D3), (.slice A4 N4 D4), (iv v1.Offset), (iv v1.Base)] 35] (fun (h : HH × HH) => ((.tuple [].toArray), [ow kT3 3 (.slice h.1.1 h.1.2.1 h.1.2.2) r.Dims, ow kT3 3 (.slice h.2.1 h.2.2.1 h.2.2.2) r.Strides, aK D [(.slice h.1.1 h.1.2.1 h.1.2.2), (.slice h.2.1 h.2.2.1 h.2.2.2), (iv r.Offset), (iv r.Base)] 35])) := by
 unfold Z1d at i
 refine bN Tryz.func64 R 34 R R fun C V => ?_
 refine cN (_ :: _ :: _ :: V) ?_
 refine cL 0 aH ?_
 rintro rfl
 refine cL 1 aH ?_
 rintro rfl
 refine aD ?_
 obtain ⟨T, i⟩ := gd i
 refine aA (lP R (lP R (lP R (lO (bT 0 dH R) (lO (bV 2 bK R R R) (cC (K := kT3) (xs := ([(0 : Int)] : List Int)) (vs := [(iv 0)]) 0 R R aV bX fj R R R R R R ?_ R (fun U D7 => ?_)))))))
 exact fun I h s => (fw).list [((), (0 : Int))] I h s
 refine lN (OO kT3 3 U D7 ([(0 : Int)] : List Int) :: _ :: _ :: aK D [(sc A3 v1.Dims D3), (sc A4 v1.Strides D4), (iv v1.Offset), (iv v1.Base)] 35 :: V) ?_
 refine lM (ow _ _ _ _ :: ow _ _ _ _ :: ow _ _ _ _ :: aK _ _ _ :: V) (fun w s => (s.e 4 [1, 0, 2, 3])) ?_
 refine f6 (K := kT3) 17592186044416 R R aV bX ii (Zr.zk zT3 fj) R R R R R R eM T (fun A9 D9 => (lN (OO kT3 3 A9 D9 (v1.Dims ++ ([(0 : Int)] : List Int)) :: _ :: _ :: V) ?_))
 refine lP R (lO (bT 0 dH R) (dP 2 R R fk R R R R R (lN (_ :: _ :: aK D [(sc A9 (v1.Dims ++ ([(0 : Int)] : List Int)) D9), (sc A4 v1.Strides D4), (iv v1.Offset), (iv v1.Base)] 35 :: V) ?_)))
 refine aC (aB (aD ?_))
 obtain ⟨L, i⟩ := gd i
 refine aA (lP R (lP R (lP R (lO (bT 1 eJ R) (lO (bV 2 bK R R R) (cC (K := kT3) (xs := ([(0 : Int)] : List Int)) (vs := [(iv 0)]) 0 R R aV bX fj R R R R R R ?_ R (fun A10 D10 => ?_)))))))
 exact fun I h s => (fw).list [((), (0 : Int))] I h s
 refine lN (OO kT3 3 A10 D10 ([(0 : Int)] : List Int) :: _ :: _ :: _ :: V) ?_
 refine lM (ow _ _ _ _ :: ow _ _ _ _ :: ow _ _ _ _ :: aK _ _ _ :: V) (fun w s => (s.e 4 [2, 0, 1, 3])) ?_
 refine f6 (K := kT3) 17592186044416 R R aV bX ii (Zr.zk zT3 fj) R R R R R R eM L (fun E F => (lN (OO kT3 3 E F (v1.Strides ++ ([(0 : Int)] : List Int)) :: _ :: _ :: V) ?_))
 refine lP R (lO (bT 1 eJ R) (dP 2 R R fk R R R R R (lN (_ :: _ :: aK D [(sc A9 (v1.Dims ++ ([(0 : Int)] : List Int)) D9), (sc E (v1.Strides ++ ([(0 : Int)] : List Int)) F), (iv v1.Offset), (iv v1.Base)] 35 :: V) ?_)))
 refine aC (aB ?_)
 obtain ⟨g, M, i⟩ := bd i
 refine aA (lP R (lP R (lP R (lO (bT 0 dH R) (lO (bV 2 bK R R R) (lO (bR aV R) (lO (hM R R) (lI R (lI R (lM (ow _ _ _ _ :: ow _ _ _ _ :: aK _ _ _ :: V) (fun w s => (s.e 3 [1, 0, 2])) ?_))))))))))
 refine lC 3 vV R (Z0j_ok (v1 := (⟨(v1.Dims ++ ([(0 : Int)] : List Int)), (v1.Strides ++ ([(0 : Int)] : List Int)), v1.Offset, v1.Base⟩ : View)) M) R ?_
 rintro ⟨⟨j, G, q⟩, ⟨m, J, u⟩⟩
 refine lN (ow kT3 3 (.slice j G q) g.Dims :: ow kT3 3 (.slice m J u) g.Strides :: aK D [(.slice j G q), (.slice m J u), (iv g.Offset), (iv g.Base)] 35 :: V) ?_
 refine aY 0 aH ?_
 rintro rfl
 refine aY 1 aH ?_
 rintro rfl
 refine aC ?_
 obtain rfl := so i
 exact bU (vs := []) (.inr R) ((j, g.Dims.length, q), (m, g.Strides.length, u)) R trivial R (fun w s => s)
theorem Z0p_ok  {p1 : View} {u : Int} {p7 : Int} {F : Int} {E : Nat} {b6 : Nat} {b8 : Nat} {m : Nat} {r : Bool × View × Int} (j : Z0p p1 u p7 F = some r) :
 FnOk Tryz.prog 61 [(pt E 0), (pt b6 0), (pt b8 0), (pt m 0)] [ow kT3 3 (.slice A3 N3 D3) p1.Dims, ow kT3 3 (.slice A4 N4 D4) p1.Strides, aK E [(.slice A3 N3 D3), (.slice A4 N4 D4), (iv p1.Offset), (iv p1.Base)] 35, aK b6 [(iv u)] 3, aK b8 [(iv p7)] 3, aK m [(iv F)] 3] (fun (h : HH × HH) => ((.bool r.1), [ow kT3 3 (.slice h.1.1 h.1.2.1 h.1.2.2) r.2.1.Dims, ow kT3 3 (.slice h.2.1 h.2.2.1 h.2.2.2) r.2.1.Strides, aK E [(.slice h.1.1 h.1.2.1 h.1.2.2), (.slice h.2.1 h.2.2.1 h.2.2.2), (iv r.2.1.Offset), (iv r.2.1.Base)] 35, aK b6 [(iv u)] 3, aK b8 [(iv p7)] 3, aK m [(iv r.2.2)] 3])) := by
 unfold Z0p at j
 refine bN Tryz.func61 R 66 R R fun C V => ?_
 refine cN (_ :: _ :: _ :: _ :: _ :: _ :: V) ?_
 refine cL 0 aH ?_
 rintro rfl
 refine cL 1 aH ?_
 rintro rfl
 refine aD (aA (lB R (aC (qM (ow _ _ _ _ :: ow _ _ _ _ :: aK E [(sc A3 p1.Dims D3), (sc A4 p1.Strides D4), (iv p1.Offset), (iv p1.Base)] 35 :: aK _ _ _ :: aK _ _ _ :: aK _ _ _ :: V) (fun w s => (s.e 6 [0, 1, 2, 5, 3, 4])) ?_))))
 let W1 : List HP := aK b6 [(iv u)] 3 :: aK b8 [(iv p7)] 3 :: V
 refine qN (_ :: _ :: _ :: _ :: W1) ?_
 refine aB (aD (aD ?_))
 obtain ⟨a1, q, j⟩ := bd j
 obtain ⟨J, j⟩ := gd j
 refine cQ [(0, (pt E 0)), (1, (pt b6 0)), (2, (pt b8 0)), (3, (pt m 0)), (33, (.bool ((((!a1) || (decide (p7 < (1 : Int)))) || (decide (F < (1 : Int)))) || (decide (p7 > (ix p1.Dims u))))))] (aK E [(sc A3 p1.Dims D3), (sc A4 p1.Strides D4), (iv p1.Offset), (iv p1.Base)] 35 :: OO kT3 3 A3 D3 p1.Dims :: OO kT3 3 A4 D4 p1.Strides :: aK m [(iv F)] 3 :: W1) ?_ ?_
 rcases bo (!a1) with b | b
 refine eI 26 [] cF (fun ht hn => (dR 0 R (vP R) (dR 1 R (vP R) (dR 2 R (bT 0 dH R) (dR 3 R (bV 2 bK R R R) (dR 4 R (bV 4 cE R R R) (d1 5 R (lC 1 pn R (FnOk.lends (A' := [OO kT3 3 A3 D3 p1.Dims]) (A := [RR kT3 A3 D3 p1.Dims]) (B := []) (Z0s_ok q) ⟨bD, trivial⟩ (fun _ => trivial)) R ?_))))))))
 rintro _
 refine aC (aP (sL []) (dR 6 R (ft R) (dR 7 R (vB R) (dF 8 R (aT b) (dF 9 R (aT b) (dR 10 R (cW (decide (p7 < (1 : Int))) R b) (dR 11 R (vB R) (dF 12 R (aT (oT b)) (dF 13 R (aT (oT b)) (dR 14 R (cW (decide (F < (1 : Int))) R (oT b)) (dR 15 R (vB R) (dF 16 R (aT (oT (oT b))) (dF 17 R (aT (oT (oT b))) (dF 18 R (aT (oT (oT b))) (dF 19 R (aT (oT (oT b))) (dF 20 R (aT (oT (oT b))) (dF 21 R (aT (oT (oT b))) (dF 22 R (aT (oT (oT b))) (dF 23 R (aT (oT (oT b))) (dF 24 R (aT (oT (oT b))) (dR 25 R (cW (decide (p7 > (ix p1.Dims u))) R (oT (oT b))) (dD ?_))))))))))))))))))))))
 exact qJ (fun w s => (s.e 4 [2, 0, 1, 3]))
 rcases bo ((!a1) || (decide (p7 < (1 : Int)))) with i | i
 refine eI 26 [] cF (fun ht hn => (dR 0 R (vP R) (dR 1 R (vP R) (dR 2 R (bT 0 dH R) (dR 3 R (bV 2 bK R R R) (dR 4 R (bV 4 cE R R R) (d1 5 R (lC 1 pn R (FnOk.lends (A' := [OO kT3 3 A3 D3 p1.Dims]) (A := [RR kT3 A3 D3 p1.Dims]) (B := []) (Z0s_ok q) ⟨bD, trivial⟩ (fun _ => trivial)) R ?_))))))))
 rintro _
 refine aC (aP (sL []) (dR 6 R (ft R) (dR 7 R (vB R) (dW 8 R (bI b) (bV 5 cE R R R) (dW 9 R (bI b) (dQ R R) (dR 10 R (eS R b R) (dR 11 R (vB R) (dF 12 R (aT i) (dF 13 R (aT i) (dR 14 R (cW (decide (F < (1 : Int))) R i) (dR 15 R (vB R) (dF 16 R (aT (oT i)) (dF 17 R (aT (oT i)) (dF 18 R (aT (oT i)) (dF 19 R (aT (oT i)) (dF 20 R (aT (oT i)) (dF 21 R (aT (oT i)) (dF 22 R (aT (oT i)) (dF 23 R (aT (oT i)) (dF 24 R (aT (oT i)) (dR 25 R (cW (decide (p7 > (ix p1.Dims u))) R (oT i)) (dD ?_))))))))))))))))))))))
 exact qJ (fun w s => (s.e 4 [2, 0, 1, 3]))
 rcases bo (((!a1) || (decide (p7 < (1 : Int)))) || (decide (F < (1 : Int)))) with g | g
 refine eI 26 [] cF (fun ht hn => (dR 0 R (vP R) (dR 1 R (vP R) (dR 2 R (bT 0 dH R) (dR 3 R (bV 2 bK R R R) (dR 4 R (bV 4 cE R R R) (d1 5 R (lC 1 pn R (FnOk.lends (A' := [OO kT3 3 A3 D3 p1.Dims]) (A := [RR kT3 A3 D3 p1.Dims]) (B := []) (Z0s_ok q) ⟨bD, trivial⟩ (fun _ => trivial)) R ?_))))))))
 rintro _
 refine aC (aP (sL []) (dR 6 R (ft R) (dR 7 R (vB R) (dW 8 R (bI b) (bV 5 cE R R R) (dW 9 R (bI b) (dQ R R) (dR 10 R (eS R b R) (dR 11 R (vB R) (dW 12 R (bI i) (bV 3 cE R R R) (dW 13 R (bI i) (dQ R R) (dR 14 R (eS R i R) (dR 15 R (vB R) (dF 16 R (aT g) (dF 17 R (aT g) (dF 18 R (aT g) (dF 19 R (aT g) (dF 20 R (aT g) (dF 21 R (aT g) (dF 22 R (aT g) (dF 23 R (aT g) (dF 24 R (aT g) (dR 25 R (cW (decide (p7 > (ix p1.Dims u))) R g) (dD ?_))))))))))))))))))))))
 exact qJ (fun w s => (s.e 4 [2, 0, 1, 3]))
 refine bZ 0 aH (show 0 < p1.Dims.length by have := (J g); omega) (fun T o15 ha => ?_)
 subst ha
 refine eI 26 [] cF (fun ht hn => (dR 0 R (vP R) (dR 1 R (vP R) (dR 2 R (bT 0 dH R) (dR 3 R (bV 2 bK R R R) (dR 4 R (bV 4 cE R R R) (d1 5 R (lC 1 pn R (FnOk.lends (A' := [OO kT3 3 (ad T o15) D3 p1.Dims]) (A := [RR kT3 (ad T o15) D3 p1.Dims]) (B := []) (Z0s_ok q) ⟨bD, trivial⟩ (fun _ => trivial)) R ?_))))))))
 rintro _
 refine lN (OO kT3 3 (ad T o15) D3 p1.Dims :: _ :: aK E [(sc (ad T o15) p1.Dims D3), (sc A4 p1.Strides D4), (iv p1.Offset), (iv p1.Base)] 35 :: _ :: W1) ?_
 refine aC (aP (sL []) (dR 6 R (ft R) (dR 7 R (vB R) (dW 8 R (bI b) (bV 5 cE R R R) (dW 9 R (bI b) (dQ R R) (dR 10 R (eS R b R) (dR 11 R (vB R) (dW 12 R (bI i) (bV 3 cE R R R) (dW 13 R (bI i) (dQ R R) (dR 14 R (eS R i R) (dR 15 R (vB R) (dW 16 R (bI g) (bV 5 cE R R R) (dW 17 R (bI g) (vP R) (dW 18 R (bI g) (vP R) (dW 19 R (bI g) (bT 0 dH R) (dW 20 R (bI g) (bV 2 bK R R R) (dW 21 R (bI g) (bV 4 cE R R R) (dW 22 R (bI g) (cK aV bX R R (J g)) (dW 23 R (bI g) (dL 0 cE aH R (J g)) (dW 24 R (bI g) (iw R R) (dR 25 R (eS R g R) (dD ?_))))))))))))))))))))))
 exact qJ (fun w s => (s.e 4 [2, 0, 1, 3]))
 rintro σ1
 refine aB ?_
 rcases bG j with ⟨G, j⟩ | ⟨G, j⟩
 refine aL R G (aD (aA (lB R (aC (aB (aW (bA ?_)))))))
 obtain rfl := so j
 exact qF ((A3, p1.Dims.length, D3), (A4, p1.Strides.length, D4)) (fun w s => (s.e 6 [1, 2, 0, 4, 5, 3]))
 refine aI R G (aN (aB (aD ?_)))
 obtain ⟨L, j⟩ := gd j
 refine bZ 2 aH (show 0 < p1.Strides.length by have := L; omega) (fun U o22 ha => ?_)
 subst ha
 refine eI 8 [] cF (fun ht hn => (dR 0 R (vP R) (dR 1 R (vP R) (dR 2 R (bT 1 eJ R) (dR 3 R (bV 0 bK R R R) (dR 4 R (bV 4 cE R R R) (dR 5 R (cK aV bX R R L) (dR 6 R (dL 2 cE aH R L) (dR 7 R (vI R) (dD (aB (aD ?_))))))))))))
 obtain ⟨M, j⟩ := gd j
 obtain ⟨ah, j⟩ := gd j
 refine bZ 1 aH (show 0 < p1.Dims.length by have := M; omega) (fun a0 o25 ha => ?_)
 subst ha
 refine eI 13 [] cF (fun ht hn => (dR 0 R (vP R) (dR 1 R (vP R) (dR 2 R (bT 0 dH R) (dR 3 R (bV 0 bK R R R) (dR 4 R (bV 4 cE R R R) (dR 5 R (cK aV bX R R M) (dR 6 R (dL 1 cE aH R M) (dR 7 R (bV 5 cE R R R) (dR 8 R (hM R R) (dR 9 R (bV 3 cE R R R) (dR 10 R (vz (iv (aG ((aG ((ix p1.Dims u) - p7)).tdiv F))) (gO R R ah)) (dR 11 R (cX R R) (dR 12 R (vI R) (dD (aB (aD (bS (A := (Int) × (Unit)) (fun a => Z0p_J3 p1 u p7 F a.1 = some r) (fun a => [(0, (pt E 0)), (1, (pt b6 0)), (2, (pt b8 0)), (3, (pt m 0)), (6, (iv (ix p1.Strides u))), (7, (iv (aG ((aG ((aG ((ix p1.Dims u) - p7)).tdiv F)) + (1 : Int)))))]) (fun a => aK E [(sc (ad a0 o25) p1.Dims D3), (sc (ad U o22) p1.Strides D4), (iv p1.Offset), (iv p1.Base)] 35 :: OO kT3 3 (ad a0 o25) D3 p1.Dims :: OO kT3 3 (ad U o22) D4 p1.Strides :: aK m [(iv a.1)] 3 :: W1) ?_ ?_))))))))))))))))))
 refine aD (aA (lI R (lO (ji R R) (aC (aB ?_)))))
 rcases bG j with ⟨I, j⟩ | ⟨I, j⟩
 refine aL R I (aA (dP 3 R R bX R R R R R (lN (aK E [(sc (ad a0 o25) p1.Dims D3), (sc (ad U o22) p1.Strides D4), (iv p1.Offset), (iv p1.Base)] 35 :: OO kT3 3 (ad a0 o25) D3 p1.Dims :: OO kT3 3 (ad U o22) D4 p1.Strides :: aK m [(iv 0)] 3 :: W1) ?_)))
 refine aC ?_
 exact qI ((0 : Int), ()) j (fun w s => s)
 refine aI R I (aN ?_)
 exact qI (F, ()) j (fun w s => s)
 rintro ⟨ak, _⟩ σ1 j
 replace j : Z0p_J3 p1 u p7 F ak = some r := j
 unfold Z0p_J3 at j
 refine aD ?_
 obtain ⟨a2, ai, j⟩ := bd j
 refine aA (lP R (lO (bV 4 cE R R R) (lI R (lI R (lO (bV 3 cE R R R) (lO (f9 R R) (lM (ow _ _ _ _ :: ow _ _ _ _ :: aK _ _ _ :: aK m [(iv ak)] 3 :: W1) (fun w s => (s.e 4 [1, 2, 0, 3])) ?_)))))))
 refine lC 3 vV R (Z0j_ok ai) R ?_
 rintro ⟨⟨a7, ab, a9⟩, ⟨a8, ac, aa⟩⟩
 refine lN (ow kT3 3 (.slice a7 ab a9) a2.Dims :: ow kT3 3 (.slice a8 ac aa) a2.Strides :: aK E [(.slice a7 ab a9), (.slice a8 ac aa), (iv a2.Offset), (iv a2.Base)] 35 :: _ :: W1) ?_
 refine aY 0 aH ?_
 rintro rfl
 refine aY 1 aH ?_
 rintro rfl
 refine aC (aB (aD ?_))
 obtain ⟨D, aj, j⟩ := bd j
 refine aA (lP R (lO (bV 5 cE R R R) (lI R (lC 3 xi R (Z1d_ok aj) R ?_))))
 rintro ⟨⟨a3, ae, a5⟩, ⟨a4, ag, a6⟩⟩
 refine lN (ow kT3 3 (.slice a3 ae a5) D.Dims :: ow kT3 3 (.slice a4 ag a6) D.Strides :: aK E [(.slice a3 ae a5), (.slice a4 ag a6), (iv D.Offset), (iv D.Base)] 35 :: _ :: W1) ?_
 refine aY 0 aH ?_
 rintro rfl
 refine aY 1 aH ?_
 rintro rfl
 refine aC (aB (aD (aA (lB R (aC (aB (aW ?_)))))))
 obtain rfl := so j
 exact qF ((a3, D.Dims.length, a5), (a4, D.Strides.length, a6)) (fun w s => (s.e 6 [0, 1, 2, 4, 5, 3]))
theorem Z1g_ok  {v1 : View} {q5 : Int} {q7 : Int} {q9 : Int} {b6 : Nat} {b8 : Nat} {M : Nat} {r : View × Int} (F : Z1g v1 q5 q7 q9 = some r) :
 FnOk Tryz.prog 60 [(.agg [(.slice A2 N2 D2), (.slice A3 N3 D3), (iv v1.Offset), (iv v1.Base)].toArray), (.func (.func 61) [].toArray [(pt b6 0), (pt b8 0), (pt M 0)].toArray)] [aQ kT3 (.slice A2 N2 D2) v1.Dims, aQ kT3 (.slice A3 N3 D3) v1.Strides, aK b6 [(iv q5)] 3, aK b8 [(iv q7)] 3, aK M [(iv q9)] 3] (fun (h : HH × HH) => ((.agg [(.slice h.1.1 h.1.2.1 h.1.2.2), (.slice h.2.1 h.2.2.1 h.2.2.2), (iv r.1.Offset), (iv r.1.Base)].toArray), [ow kT3 3 (.slice h.1.1 h.1.2.1 h.1.2.2) r.1.Dims, ow kT3 3 (.slice h.2.1 h.2.2.1 h.2.2.2) r.1.Strides, aK b6 [(iv q5)] 3, aK b8 [(iv q7)] 3, aK M [(iv r.2)] 3])) := by
 unfold Z1g at F
 refine bN Tryz.func60 R 31 R R fun C V => ?_
 refine cM (aK _ _ _ :: aK _ _ _ :: aK _ _ _ :: aQ _ _ _ :: aQ _ _ _ :: V) (fun w s => (s.f 5 [2, 3, 0, 2])) ?_
 refine cL 3 aE ?_
 rintro rfl
 refine cL 4 aE ?_
 rintro rfl
 let W0 : List HP := RR kT3 A2 D2 v1.Dims :: RR kT3 A3 D3 v1.Strides :: V
 refine cN (_ :: _ :: _ :: W0) ?_
 refine aD (aA (gz R (fun ar => (bM R R fH (fun T => (aC (qM (aK _ _ _ :: aK _ _ _ :: aK _ _ _ :: aK _ _ _ :: aK _ _ _ :: W0) (fun w s => (s.e 5 [0, 2, 3, 4, 1])) ?_)))))))
 let E : List HP := aK ar [(sc A2 v1.Dims D2), (sc A3 v1.Strides D3), (iv v1.Offset), (iv v1.Base)] 35 :: W0
 refine qN (_ :: _ :: _ :: _ :: E) ?_
 refine aB (aD (aD ?_))
 obtain ⟨au, aj, F⟩ := bd F
 refine aA (lO (vz (.agg [(sc A2 v1.Dims D2), (sc A3 v1.Strides D3), (iv v1.Offset), (iv v1.Base)].toArray) (bF 4 fc dZ R R R R)) (lM (RR kT3 A2 D2 v1.Dims :: RR kT3 A3 D3 v1.Strides :: aK _ _ _ :: aK _ _ _ :: aK _ _ _ :: aK _ _ _ :: E) (fun w s => (((s.d 5 R).d 7 R).e 6 [1, 0, 2, 3, 4, 5])) ?_))
 refine lC 2 tW R (Zo_ok aj) R ?_
 rintro _
 refine lN (_ :: _ :: _ :: _ :: E) ?_
 refine lO (ft R) (aC (aB ?_))
 rcases bG F with ⟨a6, F⟩ | ⟨a6, F⟩
 refine aL R a6 (aD (aA (lO (vz (.agg [(.slice none 0 0), (.slice none 0 0), (iv 0), (iv 0)].toArray) (bW jl fH R R)) (aU 0 R R dZ R R R R R R (aC (aB (aW (bA ?_))))))))
 obtain rfl := so F
 exact bU (vs := [(.agg [(.slice none 0 0), (.slice none 0 0), (iv 0), (iv 0)].toArray)]) (.inl R) ((none, 0, 0), (none, 0, 0)) R ⟨⟨0, T, _, _, R, R, .inl ⟨fc, dZ, R⟩⟩, trivial⟩ R (fun w s => (((s.nilo kT3 3).nilo kT3 3).e 9 [1, 0, 3, 4, 5]))
 refine aI R a6 (aN (aB (aD ?_)))
 obtain ⟨i, a9, F⟩ := bd F
 obtain ⟨g, a8, F⟩ := bd F
 refine jU (A := (Unit) × (Nat × HH × HH)) (fun _ => True) (fun a => [(1, (.func (.func 61) [].toArray [(pt b6 0), (pt b8 0), (pt M 0)].toArray)), (4, (pt T 0)), (5, (pt a.2.1 0))]) (fun a => aK b6 [(iv q5)] 3 :: aK b8 [(iv q7)] 3 :: aK M [(iv q9)] 3 :: aK T [(.slice none 0 0), (.slice none 0 0), (iv 0), (iv 0)] 35 :: aK a.2.1 [(.slice a.2.2.1.1 a.2.2.1.2.1 a.2.2.1.2.2), (.slice a.2.2.2.1 a.2.2.2.2.1 a.2.2.2.2.2), (iv v1.Offset), (iv v1.Base)] 35 :: ow kT3 3 (.slice a.2.2.1.1 a.2.2.1.2.1 a.2.2.1.2.2) i :: ow kT3 3 (.slice a.2.2.2.1 a.2.2.2.2.1 a.2.2.2.2.2) g :: E) ?_ ?_
 refine eI 13 [] cF (fun ht hn => (dR 0 R (bT 0 dH R) (dR 1 R (bV 4 bK R R R) (dR 3 R (bT 1 eJ R) (dR 4 R (bV 4 bK R R R) (dR 6 R (bT 2 fY R) (dR 7 R (bV 4 cE R R R) (dR 8 R (bT 3 fI R) (dR 9 R (bV 4 cE R R R) (i0 [2, 11] (by kernel_rfl) R ⟨?_, ?_, trivial⟩))))))))))
 refine lM (RR kT3 A2 D2 v1.Dims :: _ :: _ :: _ :: _ :: E) (fun w s => (s.d 5 R)) ?_
 refine lC 1 jY R (Zy_ok a9) R ?_
 rintro ⟨u, aa, D⟩
 refine lN (ow kT3 3 (.slice u aa D) i :: _ :: _ :: _ :: _ :: E) ?_
 refine aY 0 aH ?_
 rintro rfl
 refine aC (aP (sL [0]) (i0 [5, 11] (by kernel_rfl) R ⟨?_, ?_, trivial⟩))
 refine lM (RR kT3 A3 D3 v1.Strides :: _ :: _ :: _ :: _ :: _ :: E) (fun w s => (s.d 7 R)) ?_
 refine lC 1 jY R (Zy_ok a8) R ?_
 rintro ⟨m, a5, q⟩
 refine lN (ow kT3 3 (.slice m a5 q) g :: _ :: _ :: _ :: _ :: _ :: E) ?_
 refine aY 0 aH ?_
 rintro rfl
 refine aC (aP (sL [1, 0]) (dR 10 R (vz (.agg [(sc u i D), (sc m g q), (iv v1.Offset), (iv v1.Base)].toArray) (bW jl fH R R)) (hS := (sL [1, 0])) (d1 11 R (bM R R fH (fun U => (aC (aP (sL [2, 1, 0]) (d1 12 R (aU 0 R R dZ R R R R R R (lN (aK U [(sc u i D), (sc m g q), (iv v1.Offset), (iv v1.Base)] 35 :: _ :: _ :: _ :: _ :: _ :: _ :: E) ?_))))))))))
 refine aC (aP (sL [2, 1, 0]) (dD ?_))
 exact eF ((), (U, (u, i.length, D), (m, g.length, q))) trivial (aS R) (fun w s => (s.e 7 [4, 5, 6, 3, 0, 2, 1]))
 refine bM R R fH (fun U => (aC (aP (sL [1, 0]) (d1 5 R (lM (RR kT3 A3 D3 v1.Strides :: _ :: _ :: _ :: _ :: _ :: _ :: E) (fun w s => (s.d 8 R)) ?_)))))
 refine lC 1 jY R (Zy_ok a8) R ?_
 rintro ⟨m, a5, q⟩
 refine lN (ow kT3 3 (.slice m a5 q) g :: _ :: _ :: _ :: _ :: _ :: _ :: E) ?_
 refine aY 0 aH ?_
 rintro rfl
 refine aC (aP (sL [2, 1, 0]) (dR 10 R (vz (.agg [(sc u i D), (sc m g q), (iv v1.Offset), (iv v1.Base)].toArray) (bW jl fH R R)) (hS := (sL [2, 1, 0])) (d1 12 R (aU 1 R R dZ R R R R R R (lN (_ :: aK U [(sc u i D), (sc m g q), (iv v1.Offset), (iv v1.Base)] 35 :: _ :: _ :: _ :: _ :: _ :: E) ?_)))))
 refine aC (aP (sL [2, 1, 0]) (dD ?_))
 exact eF ((), (U, (u, i.length, D), (m, g.length, q))) trivial (aS R) (fun w s => (s.e 7 [4, 5, 6, 3, 1, 2, 0]))
 refine bM R R fH (fun U => (aC (aP (sL [0]) (d1 2 R (lM (RR kT3 A2 D2 v1.Dims :: _ :: _ :: _ :: _ :: _ :: E) (fun w s => (s.d 6 R)) ?_)))))
 refine lC 1 jY R (Zy_ok a9) R ?_
 rintro ⟨u, aa, D⟩
 refine lN (ow kT3 3 (.slice u aa D) i :: _ :: _ :: _ :: _ :: _ :: E) ?_
 refine aY 0 aH ?_
 rintro rfl
 refine aC (aP (sL [1, 0]) (d1 5 R (lM (RR kT3 A3 D3 v1.Strides :: _ :: _ :: _ :: _ :: _ :: _ :: E) (fun w s => (s.d 8 R)) ?_)))
 refine lC 1 jY R (Zy_ok a8) R ?_
 rintro ⟨m, a5, q⟩
 refine lN (ow kT3 3 (.slice m a5 q) g :: _ :: _ :: _ :: _ :: _ :: _ :: E) ?_
 refine aY 0 aH ?_
 rintro rfl
 refine aC (aP (sL [2, 1, 0]) (dR 10 R (vz (.agg [(sc u i D), (sc m g q), (iv v1.Offset), (iv v1.Base)].toArray) (bW jl fH R R)) (hS := (sL [2, 1, 0])) (d1 12 R (aU 2 R R dZ R R R R R R (lN (_ :: _ :: aK U [(sc u i D), (sc m g q), (iv v1.Offset), (iv v1.Base)] 35 :: _ :: _ :: _ :: _ :: E) ?_)))))
 refine aC (aP (sL [2, 1, 0]) (dD ?_))
 exact eF ((), (U, (u, i.length, D), (m, g.length, q))) trivial (aS R) (fun w s => (s.e 7 [4, 5, 6, 3, 2, 1, 0]))
 rintro ⟨_, ⟨a4, ⟨ab, an, ae⟩, ⟨ac, ao, ag⟩⟩⟩ σ1 -
 refine je 5 aH (fun (hn : an = i.length) => ?_)
 subst hn
 refine je 6 aH (fun (hn : ao = g.length) => ?_)
 subst hn
 refine aB (aD (aD ?_))
 obtain ⟨b, ak, F⟩ := bd F
 obtain ⟨am, al, F⟩ := bd F
 refine jU (A := (Unit) × (HH × HH)) (fun _ => True) (fun a => [(4, (pt T 0)), (5, (pt a4 0)), (28, (.bool ((!b.1) || (!am))))]) (fun a => aK T [(.slice none 0 0), (.slice none 0 0), (iv 0), (iv 0)] 35 :: aK a4 [(.slice a.2.1.1 a.2.1.2.1 a.2.1.2.2), (.slice a.2.2.1 a.2.2.2.1 a.2.2.2.2), (iv b.2.1.Offset), (iv b.2.1.Base)] 35 :: ow kT3 3 (.slice a.2.1.1 a.2.1.2.1 a.2.1.2.2) b.2.1.Dims :: ow kT3 3 (.slice a.2.2.1 a.2.2.2.1 a.2.2.2.2) b.2.1.Strides :: aK b6 [(iv q5)] 3 :: aK b8 [(iv q7)] 3 :: aK M [(iv b.2.2)] 3 :: E) ?_ ?_
 refine aA (lO (vp _ R) (lM (OO kT3 3 ab ae i :: OO kT3 3 ac ag g :: aK a4 [(sc ab i ae), (sc ac g ag), (iv v1.Offset), (iv v1.Base)] 35 :: aK _ _ _ :: aK _ _ _ :: aK _ _ _ :: aK _ _ _ :: E) (fun w s => (s.f 7 [5, 2, 4, 1, 0, 4])) ?_))
 refine iF (fs := []) (cs := [(pt b6 0), (pt b8 0), (pt M 0)]) 6 R R xj R R (Z0p_ok (p1 := (⟨i, g, v1.Offset, v1.Base⟩ : View)) ak) R ?_
 rintro ⟨⟨G, ah, J⟩, ⟨I, ai, L⟩⟩
 refine lN (ow kT3 3 (.slice G ah J) b.2.1.Dims :: ow kT3 3 (.slice I ai L) b.2.1.Strides :: aK a4 [(.slice G ah J), (.slice I ai L), (iv b.2.1.Offset), (iv b.2.1.Base)] 35 :: _ :: _ :: aK M [(iv b.2.2)] 3 :: _ :: E) ?_
 refine aY 0 aH ?_
 rintro rfl
 refine aY 1 aH ?_
 rintro rfl
 refine lO (ft R) (lB R ?_)
 rcases bo (!b.1) with j | j
 refine lf (aT j) (lf (aT j) (lf (aT j) (lO (cW (!am) R j) (aC ?_))))
 exact eF ((), ((G, b.2.1.Dims.length, J), (I, b.2.1.Strides.length, L))) trivial (aS R) (fun w s => (s.e 7 [6, 2, 0, 1, 3, 4, 5]))
 refine lW (bI j) (vz (.agg [(sc G b.2.1.Dims J), (sc I b.2.1.Strides L), (iv b.2.1.Offset), (iv b.2.1.Base)].toArray) (bF 2 fc dZ R R R R)) (cU 2 R (bI j) tW R (FnOk.lends (A' := [OO kT3 3 G J b.2.1.Dims, OO kT3 3 I L b.2.1.Strides]) (A := [RR kT3 G J b.2.1.Dims, RR kT3 I L b.2.1.Strides]) (B := []) (Zo_ok (cZ al (dY j))) ⟨bD, bD, trivial⟩ (fun _ => trivial)) R ?_)
 rintro _
 refine lN (_ :: _ :: aK a4 [(sc G b.2.1.Dims J), (sc I b.2.1.Strides L), (iv b.2.1.Offset), (iv b.2.1.Base)] 35 :: _ :: _ :: _ :: _ :: E) ?_
 refine lW (bI j) (ft R) (lO (eS R j R) (aC ?_))
 exact eF ((), ((G, b.2.1.Dims.length, J), (I, b.2.1.Strides.length, L))) trivial (aS R) (fun w s => (s.e 7 [6, 2, 0, 1, 3, 4, 5]))
 rintro ⟨_, ⟨⟨a0, ap, a2⟩, ⟨a1, aq, a3⟩⟩⟩ σ1 -
 refine je 2 aH (fun (hn : ap = b.2.1.Dims.length) => ?_)
 subst hn
 refine je 3 aH (fun (hn : aq = b.2.1.Strides.length) => ?_)
 subst hn
 refine aB ?_
 rcases bG F with ⟨a7, F⟩ | ⟨a7, F⟩
 refine aL R a7 (aD (aA (lO (vz (.agg [(.slice none 0 0), (.slice none 0 0), (iv 0), (iv 0)].toArray) (bW jl fH R R)) (aU 0 R R dZ R R R R R R (lN (_ :: aK a4 [(sc a0 b.2.1.Dims a2), (sc a1 b.2.1.Strides a3), (iv b.2.1.Offset), (iv b.2.1.Base)] 35 :: OO kT3 3 a0 a2 b.2.1.Dims :: OO kT3 3 a1 a3 b.2.1.Strides :: _ :: _ :: _ :: E) ?_)))))
 refine aC (aB (aW (bA ?_)))
 obtain rfl := so F
 exact bU (vs := [(.agg [(.slice none 0 0), (.slice none 0 0), (iv 0), (iv 0)].toArray)]) (.inl R) ((none, 0, 0), (none, 0, 0)) R ⟨⟨0, T, _, _, R, R, .inl ⟨fc, dZ, R⟩⟩, trivial⟩ R (fun w s => (((s.nilo kT3 3).nilo kT3 3).e 12 [1, 0, 6, 7, 8]))
 refine aI R a7 (aN (aB (aD (aA (lO (vz (.agg [(sc a0 b.2.1.Dims a2), (sc a1 b.2.1.Strides a3), (iv b.2.1.Offset), (iv b.2.1.Base)].toArray) (bF 1 fc dZ R R R R)) (aU 0 R R dZ R R R R R R (lN (aK T [(sc a0 b.2.1.Dims a2), (sc a1 b.2.1.Strides a3), (iv b.2.1.Offset), (iv b.2.1.Base)] 35 :: _ :: _ :: _ :: _ :: _ :: _ :: E) ?_)))))))
 refine aC (aB (aW ?_))
 obtain rfl := so F
 exact bU (vs := [(.agg [(sc a0 b.2.1.Dims a2), (sc a1 b.2.1.Strides a3), (iv b.2.1.Offset), (iv b.2.1.Base)].toArray)]) (.inl R) ((a0, b.2.1.Dims.length, a2), (a1, b.2.1.Strides.length, a3)) R ⟨⟨0, T, _, _, R, R, .inl ⟨fc, dZ, R⟩⟩, trivial⟩ R (fun w s => (s.f 10 [2, 5]))
theorem Z0o_ok  {v1 : View} {b : Int} {g : Int} {i : Int} {r : View} (F : Z0o v1 b g i = some r) :
 FnOk Tryz.prog 14 [(.agg [(.slice A2 N2 D2), (.slice A3 N3 D3), (iv v1.Offset), (iv v1.Base)].toArray), (iv b), (iv g), (iv i)] [aQ kT3 (.slice A2 N2 D2) v1.Dims, aQ kT3 (.slice A3 N3 D3) v1.Strides] (fun (h : HH × HH) => ((.agg [(.slice h.1.1 h.1.2.1 h.1.2.2), (.slice h.2.1 h.2.2.1 h.2.2.2), (iv r.Offset), (iv r.Base)].toArray), [ow kT3 3 (.slice h.1.1 h.1.2.1 h.1.2.2) r.Dims, ow kT3 3 (.slice h.2.1 h.2.2.1 h.2.2.2) r.Strides])) := by
 unfold Z0o at F
 refine bN Tryz.func14 R 12 R R fun C V => ?_
 refine cN (_ :: _ :: V) ?_
 refine cL 0 aE ?_
 rintro rfl
 refine cL 1 aE ?_
 rintro rfl
 let I : List HP := RR kT3 A2 D2 v1.Dims :: RR kT3 A3 D3 v1.Strides :: V
 refine cN I ?_
 refine aD (aA (gz R (fun J => (gh (cs := [(iv b)]) R R R (fun L => (gh (cs := [(iv g)]) R R R (fun M => (gh (cs := [(iv i)]) R R R (fun q => (bM R R fH (fun u => (aC ?_))))))))))))
 let E : List HP := aK J [(sc A2 v1.Dims D2), (sc A3 v1.Strides D3), (iv v1.Offset), (iv v1.Base)] 35 :: I
 refine qN (_ :: _ :: _ :: _ :: E) ?_
 refine aB (aD ?_)
 obtain ⟨a, D, F⟩ := bd F
 refine aA (lO (vz (.agg [(sc A2 v1.Dims D2), (sc A3 v1.Strides D3), (iv v1.Offset), (iv v1.Base)].toArray) (bF 4 fc dZ R R R R)) (lO (vp (.func (.func 61) [].toArray [(pt L 0), (pt M 0), (pt q 0)].toArray) R) (lM (RR kT3 A2 D2 v1.Dims :: RR kT3 A3 D3 v1.Strides :: aK _ _ _ :: aK _ _ _ :: aK _ _ _ :: aK _ _ _ :: E) (fun w s => (((s.d 5 R).d 7 R).e 6 [1, 0, 5, 4, 3, 2])) ?_)))
 refine lC 5 xk R (Z1g_ok D) R ?_
 rintro ⟨⟨A14, N14, D14⟩, ⟨j, G, m⟩⟩
 refine lN (ow kT3 3 (.slice A14 N14 D14) a.1.Dims :: ow kT3 3 (.slice j G m) a.1.Strides :: _ :: _ :: aK q [(iv a.2)] 3 :: _ :: E) ?_
 refine aY 0 aH ?_
 rintro rfl
 refine aY 1 aH ?_
 rintro rfl
 refine aU 5 R R dZ R R R R R R (lN (_ :: _ :: _ :: _ :: _ :: aK u [(sc A14 a.1.Dims D14), (sc j a.1.Strides m), (iv a.1.Offset), (iv a.1.Base)] 35 :: E) ?_)
 refine aC (aB (aW ?_))
 obtain rfl := so F
 exact bU (vs := [(.agg [(sc A14 a.1.Dims D14), (sc j a.1.Strides m), (iv a.1.Offset), (iv a.1.Base)].toArray)]) (.inl R) ((A14, a.1.Dims.length, D14), (j, a.1.Strides.length, m)) R ⟨⟨5, u, _, _, R, R, .inl ⟨fc, dZ, R⟩⟩, trivial⟩ R (fun w s => (s.e 9 [0, 1]))
theorem Z1t_ok  {g : (List Int)} {a : (List Int)} {b : Int} {r : (List Int) × Int × (List Int)} (u : Z1t g a b = some r) :
 FnOk Tryz.prog 123 [(.slice A2 N2 D2), (.slice A4 N4 D4), (iv b)] [aQ kT3 (.slice A2 N2 D2) g, aQ kT3 (.slice A4 N4 D4) a] (fun (h : HH × Nat × Nat × HH × Nat) => ((.func (.func 152) [].toArray [(pt h.2.1 0), (pt h.2.2.1 0), (pt h.2.2.2.2 0)].toArray), [aQ kT3 (.slice h.1.1 h.1.2.1 h.1.2.2) r.1, aK h.2.1 [(.slice h.1.1 h.1.2.1 h.1.2.2)] 24, aK h.2.2.1 [(iv r.2.1)] 3, aQ kT3 (.slice h.2.2.2.1.1 h.2.2.2.1.2.1 h.2.2.2.1.2.2) r.2.2, aK h.2.2.2.2 [(.slice h.2.2.2.1.1 h.2.2.2.1.2.1 h.2.2.2.1.2.2)] 24])) := by
 unfold Z1t at u
 refine bN Tryz.func123 R 8 R R fun C V => ?_
 refine cN (_ :: _ :: V) ?_
 refine cL 0 aE ?_
 rintro rfl
 refine cL 1 aE ?_
 rintro rfl
 let q : List HP := RR kT3 A2 D2 g :: RR kT3 A4 D4 a :: V
 refine cN q ?_
 refine aD (aA (gh (cs := [(sc A2 g D2)]) R R R (fun i => (gh (cs := [(sc A4 a D4)]) R R R (fun j => (gh (cs := [(iv b)]) R R R (fun m => (lO (vp _ R) (aC ?_)))))))))
 let D : List HP := aK m [(iv b)] 3 :: aK j [(sc A4 a D4)] 24 :: aK i [(sc A2 g D2)] 24 :: q
 refine qN D ?_
 refine aB (aD (aA (lO (vp (.func (.func 152) [].toArray [(pt i 0), (pt m 0), (pt j 0)].toArray) R) (lO (vp _ R) (aC (aB (aW ?_)))))))
 obtain rfl := so u
 exact qF ((A2, g.length, D2), i, m, (A4, a.length, D4), j) (fun w s => (s.e 5 [3, 2, 0, 4, 1]))
theorem Zk_ok  {YS : Type} {YF : YS → Int → Option (YS × Bool)} {E : YS} {D : (List Int)} {p5 : Int} {p7 : (List Int)} {b3 : Nat} {b6 : Nat} {b8 : Nat} {YE : YS → HP} {yl : Nat} (hy : ∀ s x q, YF s x = some q → wQ Tryz.prog yl [.int .i64 x] [YE s] (fun _ : Unit => (.bool q.2, [YE q.1]))) {r : YS} (g : Zk YS YF E D p5 p7 = some r) :
 FnOk Tryz.prog 152 [(.func (.yield yl) #[] #[]), (pt b3 0), (pt b6 0), (pt b8 0)] [YE E, aQ kT3 (.slice A4 N4 D4) D, aK b3 [(.slice A4 N4 D4)] 24, aK b6 [(iv p5)] 3, aQ kT3 (.slice A9 N9 D9) p7, aK b8 [(.slice A9 N9 D9)] 24] (fun (h : Unit) => ((.tuple [].toArray), [YE r, aK b3 [(.slice A4 N4 D4)] 24, aK b6 [(iv p5)] 3, aK b8 [(.slice A9 N9 D9)] 24])) := by
 unfold Zk at g
 refine bN Tryz.func152 R 60 R R fun C V => ?_
 refine cM (YE E :: aK _ _ _ :: aK _ _ _ :: aK _ _ _ :: aQ _ _ _ :: aQ _ _ _ :: V) (fun w s => (s.e 6 [0, 2, 3, 5, 1, 4])) ?_
 refine cL 4 aE ?_
 rintro rfl
 refine cL 5 aE ?_
 rintro rfl
 let W0 : List HP := RR kT3 A4 D4 D :: RR kT3 A9 D9 p7 :: V
 refine cN (_ :: aK b3 [(sc A4 D D4)] 24 :: _ :: aK b8 [(sc A9 p7 D9)] 24 :: W0) ?_
 refine aD ?_
 obtain ⟨a1, g⟩ := gd g
 refine aA (lO (bV 1 bK R R R) (lO (bR aV R) (fG (K := kT3) (m := (D.length : Int)) (z := (0 : Int)) R R aV bX ii (Zr.zk zT3 fj) (by decide) R R a1.1 a1.2.1 a1.2.2 (fun F u => (lS R (aC ?_))))))
 let W1 : List HP := aK b3 [(sc A4 D D4)] 24 :: aK b6 [(iv p5)] 3 :: aK b8 [(sc A9 p7 D9)] 24 :: W0
 refine qN (OO kT3 3 F u (List.replicate (D.length : Int).toNat (0 : Int)) :: _ :: W1) ?_
 refine aB (aD (aA (lO (bV 3 cE R R R) (lI R (aC (aB (aM ?_)))))))
 obtain ⟨e1, ah, aa⟩ := bd g
 refine bQ (A := Unit) ah (fun s a => [(0, (.func (.yield yl) #[] #[])), (1, (pt b3 0)), (3, (pt b8 0)), (5, (sc F (List.replicate (D.length : Int).toNat (0 : Int)) u)), (6, (iv s.2.1))]) (fun s a => ow kT3 3 (.slice F (List.replicate (D.length : Int).toNat (0 : Int)).length u) s.1 :: YE s.2.2 :: W1) () (aS R) (fun w s => s) ?_
 rintro ⟨L, al, ag⟩ _ σ1 a4 g a8
 replace g : Zk_L1 YS YF D p7 L al ag = some a4 := g
 unfold Zk_L1 at g
 refine aM (aD (aD ?_))
 obtain ⟨a5, ac, g⟩ := bd g
 refine tz 2 R (fun _ _ h => h) (lO (vp (.func (.yield yl) #[] #[]) R) (lI R (lM (YE ag :: ow kT3 3 (.slice F (List.replicate (D.length : Int).toNat (0 : Int)).length u) L :: W1) (fun w s => (s.e 2 [1, 0])) ?_)))
 refine aC (rf 1 R R (hy _ _ _ ac) R (fun _ _ h => h) R (fun _ => (lN (YE a5.1 :: _ :: W1) ?_)))
 refine lO (ft R) (aC (aB ?_))
 rcases bG g with ⟨M, g⟩ | ⟨M, g⟩
 refine aL R M (aW (bA (bB ?_)))
 obtain rfl := so g
 obtain rfl := a8 _ R
 have g := aa
 refine bA (bB ?_)
 obtain rfl := so g
 exact bU (vs := []) (.inl R) () R trivial R (fun w s => (s.e 7 [0, 2, 3, 4]))
 refine aI R M (aN (aB (aD (aA (lO (bV 2 bK R R R) (lO (bR aV R) (lO (hM R R) (lI R (aC (aB (aD (bS (A := ((List Int) × Int × Int) × (Unit)) (fun a => Zk_J2 YS YF a5 a.1.1 a.1.2.1 a.1.2.2 = some a4) (fun a => [(0, (.func (.yield yl) #[] #[])), (1, (pt b3 0)), (3, (pt b8 0)), (5, (sc F (List.replicate (D.length : Int).toNat (0 : Int)) u)), (6, (iv a.1.2.1)), (7, (iv a.1.2.2))]) (fun a => ow kT3 3 (.slice F (List.replicate (D.length : Int).toNat (0 : Int)).length u) a.1.1 :: YE a5.1 :: W1) ?_ ?_))))))))))))
 refine aM ?_
 obtain ⟨e2, ai, ab⟩ := bd g
 refine bQ (A := Unit) ai (fun s a => [(0, (.func (.yield yl) #[] #[])), (1, (pt b3 0)), (3, (pt b8 0)), (5, (sc F (List.replicate (D.length : Int).toNat (0 : Int)) u)), (6, (iv s.2.1)), (7, (iv s.2.2))]) (fun s a => ow kT3 3 (.slice F (List.replicate (D.length : Int).toNat (0 : Int)).length u) s.1 :: YE a5.1 :: W1) () (aS R) (fun w s => (s.e 2 [1, 0])) ?_
 rintro ⟨b, a7, j⟩ _ σ1 ae g a9
 replace g : Zk_L2 YS YF D p7 b a7 j = some ae := g
 unfold Zk_L2 at g
 refine aD (aD (aA (lI R (lO (jW R R) (aC (aB ?_))))))
 rcases bG g with ⟨T, g⟩ | ⟨T, g⟩
 refine aL R T (aN (aB (aD (aM (aD ?_)))))
 obtain ⟨i, g⟩ := gd g
 refine aA (lS R (lI R (bY 0 aH (show 0 < (List.replicate (D.length : Int).toNat (0 : Int)).length by have := i; omega) (fun a6 o80 ha => ?_))))
 subst ha
 refine lO (cK aV bX R R i) (lO (dL 0 cE aH R i) (lO (cX R R) (lO (cK aV bX R R i) (lN (ow kT3 3 (.slice (ad a6 o80) (List.replicate (D.length : Int).toNat (0 : Int)).length u) b :: _ :: W1) ?_))))
 refine eG (K := kT3) (x' := (aG ((ix b j) + (1 : Int)))) 0 j R R bX R R i.1 i.2 ?_ ?_
 exact fun I h s => (fw).put I h () (aG ((ix b j) + (1 : Int))) s
 refine lN (ow kT3 3 (.slice (ad a6 o80) (List.replicate (D.length : Int).toNat (0 : Int)).length u) (b.set j.toNat (aG ((ix b j) + (1 : Int)))) :: _ :: W1) ?_
 refine aC (aB (aD ?_))
 obtain ⟨G, g⟩ := gd g
 refine aA (lI R (lO (bV 4 bK R R R) (lI R (bY 6 aE (show 0 < p7.length by have := G; omega) (fun an o83 ha => ?_)))))
 subst ha
 refine lO (cK aV bX R R G) (lO (dL 6 cE aE R G) (lO (cX R R) (lI R (aC (aB (aD (aD ?_)))))))
 obtain ⟨J, g⟩ := gd g
 refine bZ 5 aE (show 0 < D.length by have := J; omega) (fun ao o86 ha => ?_)
 subst ha
 refine eI 9 [] cF (fun ht hn => (dR 0 R (vS R) (dR 1 R (vI R) (dR 2 R (cK aV bX R R i) (dR 3 R (dL 0 cE aH R i) (dR 4 R (bV 2 bK R R R) (dR 5 R (vI R) (dR 6 R (cK aV bX R R J) (dR 7 R (dL 5 cE aE R J) (dR 8 R (dQ R R) (dD (aB ?_))))))))))))
 rcases bG g with ⟨U, g⟩ | ⟨U, g⟩
 refine aL R U (bP (aR (kG R (aR ?_))))
 obtain rfl := so g
 obtain rfl := a9 _ R
 have g := ab
 refine aR (bE ?_)
 exact qI (((b.set j.toNat (aG ((ix b j) + (1 : Int)))), (aG (a7 + (ix p7 j))), j), ()) g (fun w s => s)
 refine aI R U (aN (aB (aD (eI 12 [] cF (fun ht hn => (dR 0 R (vI R) (dR 1 R (bV 4 bK R R R) (dR 2 R (vI R) (dR 3 R (cK aV bX R R G) (dR 4 R (dL 6 cE aE R G) (dR 5 R (bV 2 bK R R R) (dR 6 R (vI R) (dR 7 R (cK aV bX R R J) (dR 8 R (dL 5 cE aE R J) (dR 9 R (f9 R R) (dR 10 R (hM R R) (dR 11 R (vI R) (dD (aB (aA (lS R (lI R (lO (cK aV bX R R i) (eG (K := kT3) (x' := (0 : Int)) 0 j R R bX R R i.1 i.2 ?_ ?_))))))))))))))))))))))))
 exact fun I h s => (fw).put I h () (0 : Int) s
 refine lN (ow kT3 3 (.slice (ad a6 o80) (List.replicate (D.length : Int).toNat (0 : Int)).length u) ((b.set j.toNat (aG ((ix b j) + (1 : Int)))).set j.toNat (0 : Int)) :: _ :: W1) ?_
 refine aC ?_
 obtain ⟨ak, a2, g⟩ := bd g
 replace a2 := Option.some.inj a2
 refine qM (ow kT3 3 (.slice (ad a6 o80) (List.replicate (D.length : Int).toNat (0 : Int)).length u) ak :: _ :: W1) (fun w s => by rw [← a2]; exact s) ?_
 refine aZ (aB (aA (lI R (lO (hM R R) (lI R (aC ?_))))))
 obtain rfl := so g
 exact qA () (fun w s => s)
 refine aI R T (bP (aR ?_))
 obtain rfl := so g
 obtain rfl := a9 _ R
 have g := ab
 refine aR (bE ?_)
 exact qI ((b, a7, j), ()) g (fun w s => s)
 rintro ⟨⟨a3, am, aj⟩, _⟩ σ1 g
 replace g : Zk_J2 YS YF a5 a3 am aj = some a4 := g
 unfold Zk_J2 at g
 refine aD (aA (lI R (lO (dQ R R) (aC (aB ?_)))))
 rcases bG g with ⟨a0, g⟩ | ⟨a0, g⟩
 refine aL R a0 (aW (bB ?_))
 obtain rfl := so g
 obtain rfl := a8 _ R
 have g := aa
 refine bA (bB ?_)
 obtain rfl := so g
 exact bU (vs := []) (.inl R) () R trivial R (fun w s => (s.f 7 [1, 4]))
 refine aI R a0 (aN (aZ ?_))
 obtain rfl := so g
 exact qA () (fun w s => s)
theorem Z1s_ok  {b : (List Int)} {v3 : View} {r : Tensor} (hr : Z1s b v3 = some r) :
 FnOk Tryz.prog 59 [(.slice A2 N2 D2), (.agg [(.slice A4 N4 D4), (.slice A5 N5 D5), (iv v3.Offset), (iv v3.Base)].toArray)] [aQ kT3 (.slice A2 N2 D2) b, aQ kT3 (.slice A4 N4 D4) v3.Dims, aQ kT3 (.slice A5 N5 D5) v3.Strides] (fun (h : HH × HH) => ((.agg [(.slice h.1.1 h.1.2.1 h.1.2.2), (.slice h.2.1 h.2.2.1 h.2.2.2)].toArray), [ow kT3 3 (.slice h.1.1 h.1.2.1 h.1.2.2) r.Dims, ow kT3 3 (.slice h.2.1 h.2.2.1 h.2.2.2) r.Data])) := by
 unfold Z1s at hr
 refine tA Tryz.func59 R 33 R R fun C V => ?_
 refine cN (_ :: _ :: _ :: V) ?_
 refine cL 0 aE ?_
 rintro rfl
 refine cL 1 aE ?_
 rintro rfl
 refine cL 2 aE ?_
 rintro rfl
 refine aD (aA (gh (cs := [(sc A2 b D2)]) R R R (fun b6 => (gz R (fun b7 => (bM R R dC (fun b8 => (aC (aB (aD ?_))))))))))
 obtain ⟨j, am, hr⟩ := bd hr
 obtain ⟨ak, ag, hr⟩ := bd hr
 obtain ⟨D, hr⟩ := gd hr
 refine jU (A := (Unit) × (Nat × HH × HH)) (fun _ => True) (fun a => [(2, (pt b6 0)), (3, (pt b7 0)), (4, (pt b8 0)), (5, (pt a.2.1 0))]) (fun a => aK b6 [(sc A2 b D2)] 24 :: RR kT3 A2 D2 b :: aK b7 [(sc A4 v3.Dims D4), (sc A5 v3.Strides D5), (iv v3.Offset), (iv v3.Base)] 35 :: RR kT3 A4 D4 v3.Dims :: RR kT3 A5 D5 v3.Strides :: aK b8 [(.slice none 0 0), (.slice none 0 0)] 26 :: aK a.2.1 [(.slice a.2.2.1.1 a.2.2.1.2.1 a.2.2.1.2.2), (.slice a.2.2.2.1 a.2.2.2.2.1 a.2.2.2.2.2)] 26 :: ow kT3 3 (.slice a.2.2.1.1 a.2.2.1.2.1 a.2.2.1.2.2) j :: ow kT3 3 (.slice a.2.2.2.1 a.2.2.2.2.1 a.2.2.2.2.2) ([] : List Int) :: V) ?_ ?_
 refine eI 10 [] cF (fun ht hn => (dR 0 R (bT 0 dH R) (dR 1 R (bV 1 bK R R R) (dR 3 R (bT 0 dH R) (dR 4 R (bV 1 bK R R R) (i0 [2, 8] (by kernel_rfl) R ⟨?_, ?_, trivial⟩))))))
 refine lM (_ :: _ :: _ :: _ :: _ :: _ :: _ :: V) (fun w s => (s.d 4 R)) ?_
 refine lC 1 jY R (Zy_ok am) R ?_
 rintro ⟨T, ap, a0⟩
 refine lN (ow kT3 3 (.slice T ap a0) j :: _ :: _ :: _ :: _ :: _ :: _ :: V) ?_
 refine aY 0 aH ?_
 rintro rfl
 refine aC (aP (sL [0]) (i0 [5, 8] (by kernel_rfl) R ⟨?_, ?_, trivial⟩))
 refine lM (_ :: _ :: _ :: _ :: _ :: _ :: _ :: _ :: V) (fun w s => (s.d 5 R)) ?_
 refine lC 1 iJ R (Zd_ok ag) R ?_
 rintro _
 refine lN (_ :: _ :: _ :: _ :: _ :: _ :: _ :: V) ?_
 refine aC (aP (sL [0]) (i0 [6, 8] (by kernel_rfl) R ⟨?_, ?_, trivial⟩))
 refine iI (K := kT3) (m := ak) (z := zT3.z) R R aV bX ii (Zr.zk zT3 fj) (by decide) R R D.1 D.2.1 D.2.2 (fun F G => (aC (aP (sL [1, 0]) (dR 7 R (vz (.agg [(sc T j a0), (sc F ([] : List Int) G)].toArray) (bW fF dC R R)) (hS := (sL [1, 0])) (d1 8 R (bM R R dC (fun a2 => (aC (aP (sL [2, 1, 0]) (d1 9 R (aU 0 R R bO R R R R R R (lN (aK a2 [(sc T j a0), (sc F ([] : List Int) G)] 26 :: OO kT3 3 F G ([] : List Int) :: _ :: _ :: _ :: _ :: _ :: _ :: _ :: V) ?_))))))))))))
 refine aC (aP (sL [2, 1, 0]) (dD ?_))
 exact eF ((), (a2, (T, j.length, a0), (F, ([] : List Int).length, G))) trivial (aS R) (fun w s => (s.e 9 [5, 6, 4, 7, 8, 3, 0, 2, 1]))
 refine bM R R dC (fun a2 => (aC (aP (sL [1, 0]) (d1 6 R (iI (K := kT3) (m := ak) (z := zT3.z) R R aV bX ii (Zr.zk zT3 fj) (by decide) R R D.1 D.2.1 D.2.2 (fun F G => (aC (aP (sL [2, 1, 0]) (dR 7 R (vz (.agg [(sc T j a0), (sc F ([] : List Int) G)].toArray) (bW fF dC R R)) (hS := (sL [2, 1, 0])) (d1 9 R (aU 1 R R bO R R R R R R (lN (_ :: _ :: _ :: _ :: _ :: _ :: _ :: _ :: _ :: V) ?_))))))))))))
 refine aC (aP (sL [2, 1, 0]) (dD ?_))
 exact eF ((), (a2, (T, j.length, a0), (F, ([] : List Int).length, G))) trivial (aS R) (fun w s => (s.e 9 [5, 6, 4, 7, 8, 3, 1, 2, 0]))
 refine bM R R dC (fun a2 => (aC (aP (sL [1, 0]) (d1 5 R (lM (_ :: _ :: _ :: _ :: _ :: _ :: _ :: _ :: _ :: V) (fun w s => (s.d 6 R)) ?_)))))
 refine lC 1 iJ R (Zd_ok ag) R ?_
 rintro _
 refine lN (_ :: _ :: _ :: _ :: _ :: _ :: _ :: _ :: V) ?_
 refine aC (aP (sL [1, 0]) (d1 6 R (iI (K := kT3) (m := ak) (z := zT3.z) R R aV bX ii (Zr.zk zT3 fj) (by decide) R R D.1 D.2.1 D.2.2 (fun F G => (aC (aP (sL [2, 1, 0]) (dR 7 R (vz (.agg [(sc T j a0), (sc F ([] : List Int) G)].toArray) (bW fF dC R R)) (hS := (sL [2, 1, 0])) (d1 9 R (aU 1 R R bO R R R R R R (lN (OO kT3 3 F G ([] : List Int) :: aK a2 [(sc T j a0), (sc F ([] : List Int) G)] 26 :: _ :: _ :: _ :: _ :: _ :: _ :: _ :: V) ?_))))))))))
 refine aC (aP (sL [2, 1, 0]) (dD ?_))
 exact eF ((), (a2, (T, j.length, a0), (F, ([] : List Int).length, G))) trivial (aS R) (fun w s => (s.e 9 [5, 6, 4, 7, 8, 3, 1, 2, 0]))
 refine bM R R dC (fun a2 => (aC (aP (sL [0]) (d1 2 R (lM (_ :: _ :: _ :: _ :: _ :: _ :: _ :: _ :: V) (fun w s => (s.d 5 R)) ?_)))))
 refine lC 1 jY R (Zy_ok am) R ?_
 rintro ⟨T, ap, a0⟩
 refine lN (ow kT3 3 (.slice T ap a0) j :: _ :: _ :: _ :: _ :: _ :: _ :: _ :: V) ?_
 refine aY 0 aH ?_
 rintro rfl
 refine aC (aP (sL [1, 0]) (d1 5 R (lM (_ :: _ :: _ :: _ :: _ :: _ :: _ :: _ :: _ :: V) (fun w s => (s.d 6 R)) ?_)))
 refine lC 1 iJ R (Zd_ok ag) R ?_
 rintro _
 refine lN (_ :: _ :: _ :: _ :: _ :: _ :: _ :: _ :: V) ?_
 refine aC (aP (sL [1, 0]) (d1 6 R (iI (K := kT3) (m := ak) (z := zT3.z) R R aV bX ii (Zr.zk zT3 fj) (by decide) R R D.1 D.2.1 D.2.2 (fun F G => (aC (aP (sL [2, 1, 0]) (dR 7 R (vz (.agg [(sc T j a0), (sc F ([] : List Int) G)].toArray) (bW fF dC R R)) (hS := (sL [2, 1, 0])) (d1 9 R (aU 2 R R bO R R R R R R (lN (OO kT3 3 F G ([] : List Int) :: _ :: aK a2 [(sc T j a0), (sc F ([] : List Int) G)] 26 :: _ :: _ :: _ :: _ :: _ :: _ :: V) ?_))))))))))
 refine aC (aP (sL [2, 1, 0]) (dD ?_))
 exact eF ((), (a2, (T, j.length, a0), (F, ([] : List Int).length, G))) trivial (aS R) (fun w s => (s.e 9 [5, 6, 4, 7, 8, 3, 2, 1, 0]))
 rintro ⟨_, ⟨M, ⟨g, b0, i⟩, ⟨aa, b1, ab⟩⟩⟩ σ1 -
 refine je 7 aH (fun (hn : b0 = j.length) => ?_)
 subst hn
 refine je 8 aH (fun (hn : b1 = ([] : List Int).length) => ?_)
 subst hn
 refine aB (tB ?_)
 obtain ⟨J, aw, hr⟩ := bd hr
 refine aA (lO (bT 0 dH R) (lO (bV 2 bK R R R) (lO (bT 1 eJ R) (lO (bV 2 bK R R R) (lO (bT 2 fY R) (lO (bV 2 cE R R R) (lM (aQ _ _ _ :: aQ _ _ _ :: aK _ _ _ :: aQ _ _ _ :: aK _ _ _ :: aQ _ _ _ :: aQ _ _ _ :: aK _ _ _ :: aK M [(sc g j i), (sc aa ([] : List Int) ab)] 26 :: OO kT3 3 g i j :: OO kT3 3 aa ab ([] : List Int) :: V) (fun w s => (((s.d 3 R).d 5 R).f 11 [1, 1, 0, 1, 2, 9])) ?_)))))))
 refine lC 2 vW R (Z1t_ok aw) R ?_
 rintro ⟨⟨a4, aq, a7⟩, ah, ai, ⟨a5, ar, a8⟩, aj⟩
 refine lN (aQ kT3 (.slice a4 aq a7) J.1 :: aK ah [(.slice a4 aq a7)] 24 :: aK ai [(iv J.2.1)] 3 :: aQ kT3 (.slice a5 ar a8) J.2.2 :: aK aj [(.slice a5 ar a8)] 24 :: _ :: _ :: _ :: _ :: _ :: _ :: _ :: _ :: _ :: V) ?_
 refine aY 0 aE ?_
 rintro rfl
 refine aY 3 aE ?_
 rintro rfl
 refine aC ?_
 obtain ⟨a3, ax, hr⟩ := bd hr
 let Ef : Nat → Loop → ((List Int)) → HP := fun l rc s => pe fun a : HH => qL l rc :: [aK b6 [(sc A2 b D2)] 24, RR kT3 A2 D2 b, aK b8 [(.slice none 0 0), (.slice none 0 0)] 26, aK M [(sc g j i), (.slice a.1 a.2.1 a.2.2)] 26, OO kT3 3 g i j, ow kT3 3 (.slice a.1 a.2.1 a.2.2) s]
 refine p8 (Wc := [RR kT3 a4 a7 J.1, aK ah [(sc a4 J.1 a7)] 24, aK ai [(iv J.2.1)] 3, RR kT3 a5 a8 J.2.2, aK aj [(sc a5 J.2.2 a8)] 24, aK b6 [(sc A2 b D2)] 24, RR kT3 A2 D2 b, aK b7 [(sc A4 v3.Dims D4), (sc A5 v3.Strides D5), (iv v3.Offset), (iv v3.Base)] 35, RR kT3 A4 D4 v3.Dims, RR kT3 A5 D5 v3.Strides, aK b8 [(.slice none 0 0), (.slice none 0 0)] 26, aK M [(sc g j i), (sc aa ([] : List Int) ab)] 26, OO kT3 3 g i j, OO kT3 3 aa ab ([] : List Int)]) (E := fun l rc => Ef l rc ([] : List Int)) (E' := fun l rc => Ef l rc a3) (Pre' := [RR kT3 a4 a7 J.1, aK ah [(sc a4 J.1 a7)] 24, aK ai [(iv J.2.1)] 3, RR kT3 a5 a8 J.2.2, aK aj [(sc a5 J.2.2 a8)] 24]) (W3 := []) (cp := fun (_ : Unit) => [aK ah [(sc a4 J.1 a7)] 24, aK ai [(iv J.2.1)] 3, aK aj [(sc a5 J.2.2 a8)] 24]) (Wd := fun a : HH => [aK b6 [(sc A2 b D2)] 24, RR kT3 A2 D2 b, aK b8 [(.slice none 0 0), (.slice none 0 0)] 26, aK M [(sc g j i), (.slice a.1 a.2.1 a.2.2)] 26, OO kT3 3 g i j, ow kT3 3 (.slice a.1 a.2.1 a.2.2) a3]) R R vX (fun V w l rc s => St.pei (aa, ([] : List Int).length, ab) ((s.f 15 [0, 1, 6, 2, 11, 4, 1, 5]))) ?_ (fun V w l rc x s => let ⟨a, s⟩ := s.peo; ⟨a, s.e 10 [0, 1, 2, 3, 4, 5, 6]⟩) ?_
 intro l rc av
 refine Zk_ok (YE := Ef l rc) (yl := l) ?_ ax
 rintro L u q hr
 replace hr : Z20 b L u = some q := hr
 unfold Z20 at hr
 refine wW (fun a : HH => [aK b6 [(sc A2 b D2)] 24, RR kT3 A2 D2 b, aK b8 [(.slice none 0 0), (.slice none 0 0)] 26, aK M [(sc g j i), (.slice a.1 a.2.1 a.2.2)] 26, OO kT3 3 g i j, ow kT3 3 (.slice a.1 a.2.1 a.2.2) L]) (fun a : HH => [aK b6 [(sc A2 b D2)] 24, RR kT3 A2 D2 b, aK b8 [(.slice none 0 0), (.slice none 0 0)] 26, aK M [(sc g j i), (.slice a.1 a.2.1 a.2.2)] 26, OO kT3 3 g i j, ow kT3 3 (.slice a.1 a.2.1 a.2.2) q.1]) av R R cF R ?_
 rintro ⟨U, ac, a1⟩
 apply Exists.intro
 intro C V
 refine ⟨?_, ?_⟩
 refine lI R ?_
 exact aC vk
 refine wV (V' := aK b6 [(sc A2 b D2)] 24 :: RR kT3 A2 D2 b :: aK b8 [(.slice none 0 0), (.slice none 0 0)] 26 :: aK M [(sc g j i), (.slice U ac a1)] 26 :: OO kT3 3 g i j :: ow kT3 3 (.slice U ac a1) L :: V) (fun w s => s) (vn 5 aH ?_)
 rintro rfl
 obtain ⟨ae, hr⟩ := gd hr
 obtain ⟨al, hr⟩ := gd hr
 refine tI (A := (Unit) × (HH)) (fun _ => True) (fun a => [(2, (pt b6 0)), (4, (pt b8 0)), (5, (pt M 0)), (22, (iv u))]) (fun a => aK b6 [(sc A2 b D2)] 24 :: RR kT3 A2 D2 b :: aK b8 [(.slice none 0 0), (.slice none 0 0)] 26 :: aK M [(sc g j i), (.slice a.2.1 a.2.2.1 a.2.2.2)] 26 :: OO kT3 3 g i j :: ow kT3 3 (.slice a.2.1 a.2.2.1 a.2.2.2) (L ++ ([(ix b u)] : List Int)) :: V) ?_ ?_
 refine tH 1 aE (show 0 < b.length by have := ae; omega) (fun au o40 ha => ?_)
 subst ha
 refine edr 10 [5, 3] (fun ht hn => (dR 0 R (bT 1 cA R) (hS := (sL [5, 3])) (dR 2 R (bV 0 bK R R R) (hS := (sL [5, 3])) (dR 3 R (vI R) (hS := (sL [5, 3])) (dR 4 R (cK aV bX R R ae) (hS := (sL [5, 3])) (dR 5 R (dL 1 cE aE R ae) (hS := (sL [5, 3])) (i0 [1, 6] (by kernel_rfl) R ⟨?_, ?_, trivial⟩)))))))
 refine lO (bV 3 bK R R R) (aC (aP (sL [5, 3]) (d1 6 R (cC (K := kT3) (xs := ([(ix b u)] : List Int)) (vs := [(iv (ix b u))]) 0 R R aV bX fj R R R R R R ?_ R (fun an ao => ?_)))))
 exact fun I h s => (fw).list [((), (ix b u))] I h s
 refine lN (OO kT3 3 an ao ([(ix b u)] : List Int) :: aK b6 [(sc (ad au o40) b D2)] 24 :: RR kT3 (ad au o40) D2 b :: _ :: aK M [(sc g j i), (sc U L a1)] 26 :: _ :: OO kT3 3 U a1 L :: V) ?_
 refine aC (aP (sL [6, 4, 0]) (d1 7 R (lM (ow _ _ _ _ :: ow _ _ _ _ :: aK _ _ _ :: aQ _ _ _ :: aK _ _ _ :: aK _ _ _ :: ow _ _ _ _ :: V) (fun w s => (s.f 7 [6, 1, 0, 6])) ?_)))
 refine f6 (K := kT3) 17592186044416 R R aV bX ii (Zr.zk zT3 fj) R R R R R R eM al (fun a6 a9 => (lN (OO kT3 3 a6 a9 (L ++ ([(ix b u)] : List Int)) :: _ :: _ :: _ :: _ :: _ :: V) ?_))
 refine aC (aP (sL [4, 0]) (dR 8 R (bT 1 cA R) (hS := (sL [4, 0])) (d1 9 R (dP 4 R R fk R R R R R (lN (_ :: _ :: _ :: _ :: aK M [(sc g j i), (sc a6 (L ++ ([(ix b u)] : List Int)) a9)] 26 :: _ :: V) ?_)))))
 refine aC (aP (sL [4, 0]) (dD ?_))
 exact eF ((), (a6, (L ++ ([(ix b u)] : List Int)).length, a9)) trivial (aS R) (fun w s => (s.f 6 [1, 5, 0, 1]))
 refine cC (K := kT3) (xs := ([(ix b u)] : List Int)) (vs := [(iv (ix b u))]) 0 R R aV bX fj R R R R R R ?_ R (fun an ao => ?_)
 exact fun I h s => (fw).list [((), (ix b u))] I h s
 refine lN (OO kT3 3 an ao ([(ix b u)] : List Int) :: _ :: _ :: _ :: aK M [(sc g j i), (sc U L a1)] 26 :: _ :: OO kT3 3 U a1 L :: V) ?_
 refine aC (aP (sL [6, 4, 0]) (d1 1 R (lO (bV 4 bK R R R) (aC (aP (sL [6, 4, 0]) (d1 7 R (lM (ow _ _ _ _ :: ow _ _ _ _ :: aK _ _ _ :: aQ _ _ _ :: aK _ _ _ :: aK _ _ _ :: ow _ _ _ _ :: V) (fun w s => (s.f 7 [6, 1, 0, 6])) ?_)))))))
 refine f6 (K := kT3) 17592186044416 R R aV bX ii (Zr.zk zT3 fj) R R R R R R eM al (fun a6 a9 => (lN (OO kT3 3 a6 a9 (L ++ ([(ix b u)] : List Int)) :: _ :: _ :: _ :: _ :: _ :: V) ?_))
 refine aC (aP (sL [4, 0]) (dR 8 R (bT 1 cA R) (hS := (sL [4, 0])) (d1 9 R (dP 4 R R fk R R R R R (lN (_ :: _ :: _ :: _ :: aK M [(sc g j i), (sc a6 (L ++ ([(ix b u)] : List Int)) a9)] 26 :: _ :: V) ?_)))))
 refine aC (aP (sL [4, 0]) (dD ?_))
 exact eF ((), (a6, (L ++ ([(ix b u)] : List Int)).length, a9)) trivial (aS R) (fun w s => (s.f 6 [1, 5, 0, 1]))
 rintro ⟨_, ⟨ay, b2, az⟩⟩ σ1 -
 refine je 5 aH (fun (hn : b2 = (L ++ ([(ix b u)] : List Int)).length) => ?_)
 subst hn
 obtain rfl := so hr
 exact wT (ay, (L ++ ([(ix b u)] : List Int)).length, az) R (fun w s => s)
 rintro ⟨U, ac, a1⟩ Dm V
 refine cN (aK b6 [(sc A2 b D2)] 24 :: RR kT3 A2 D2 b :: _ :: aK M [(sc g j i), (.slice U ac a1)] 26 :: _ :: ow kT3 3 (.slice U ac a1) a3 :: V) ?_
 refine cL 5 aH ?_
 rintro rfl
 refine aD (aA (lO (vz (.agg [(sc g j i), (sc U a3 a1)].toArray) (bF 3 cJ bO R R R R)) (aU 2 R R bO R R R R R R (lN (_ :: _ :: aK b8 [(sc g j i), (sc U a3 a1)] 26 :: aK M [(sc g j i), (sc U a3 a1)] 26 :: _ :: _ :: V) ?_))))
 refine aC (aB (aW ?_))
 obtain rfl := so hr
 exact tJ 6 (fun V => bU (vs := [(.agg [(sc g j i), (sc U a3 a1)].toArray)]) (.inl R) ((g, j.length, i), (U, a3.length, a1)) R ⟨⟨2, b8, _, _, R, R, .inl ⟨cJ, bO, R⟩⟩, trivial⟩ R (fun w s => (s.e 6 [4, 5])))
theorem Z0n_ok  {t1 : Tensor} {v4 : View} {r : Tensor} (i : Z0n t1 v4 = some r) :
 FnOk Tryz.prog 13 [(.agg [(.slice A2 N2 D2), (.slice A3 N3 D3)].toArray), (.agg [(.slice A5 N5 D5), (.slice A6 N6 D6), (iv v4.Offset), (iv v4.Base)].toArray)] [aQ kT3 (.slice A2 N2 D2) t1.Dims, aQ kT3 (.slice A3 N3 D3) t1.Data, aQ kT3 (.slice A5 N5 D5) v4.Dims, aQ kT3 (.slice A6 N6 D6) v4.Strides] (fun (h : HH × HH) => ((.agg [(.slice h.1.1 h.1.2.1 h.1.2.2), (.slice h.2.1 h.2.2.1 h.2.2.2)].toArray), [ow kT3 3 (.slice h.1.1 h.1.2.1 h.1.2.2) r.Dims, ow kT3 3 (.slice h.2.1 h.2.2.1 h.2.2.2) r.Data])) := by
 unfold Z0n at i
 refine bN Tryz.func13 R 26 R R fun C V => ?_
 refine cN (_ :: _ :: _ :: _ :: V) ?_
 refine cL 0 aE ?_
 rintro rfl
 refine cL 1 aE ?_
 rintro rfl
 refine cL 2 aE ?_
 rintro rfl
 refine cL 3 aE ?_
 rintro rfl
 let W0 : List HP := RR kT3 A2 D2 t1.Dims :: RR kT3 A3 D3 t1.Data :: RR kT3 A5 D5 v4.Dims :: RR kT3 A6 D6 v4.Strides :: V
 refine cN W0 ?_
 refine aD (aA (gz R (fun b7 => (gz R (fun b8 => (bM R R dC (fun I => (aC ?_))))))))
 let E : List HP := aK b8 [(sc A5 v4.Dims D5), (sc A6 v4.Strides D6), (iv v4.Offset), (iv v4.Base)] 35 :: aK b7 [(sc A2 t1.Dims D2), (sc A3 t1.Data D3)] 26 :: W0
 refine qN (_ :: E) ?_
 refine aB (aD (aD ?_))
 obtain ⟨F, J, i⟩ := bd i
 obtain ⟨G, L, i⟩ := bd i
 refine cQ [(2, (pt b7 0)), (3, (pt b8 0)), (4, (pt I 0)), (20, (.bool (((!F) || (!G)) || (v4.Base != (t1.Data.length : Int)))))] (aK I [(.slice none 0 0), (.slice none 0 0)] 26 :: E) ?_ ?_
 refine aA (lO (vz (.agg [(sc A2 t1.Dims D2), (sc A3 t1.Data D3)].toArray) (bF 2 cJ bO R R R R)) (lM (RR kT3 A2 D2 t1.Dims :: RR kT3 A3 D3 t1.Data :: aK _ _ _ :: E) (fun w s => (((s.d 3 R).d 5 R).e 3 [1, 0, 2])) ?_))
 refine lC 2 tP R (Z0r_ok J) R ?_
 rintro _
 refine lN (_ :: E) ?_
 refine lO (ft R) (lB R ?_)
 rcases bo (!F) with a | a
 refine lf (aT a) (lf (aT a) (lf (aT a) (lO (cW (!G) R a) (lB R (lf (aT (oT a)) (lf (aT (oT a)) (lf (aT (oT a)) (lf (aT (oT a)) (lf (aT (oT a)) (lf (aT (oT a)) (lO (cW (v4.Base != (t1.Data.length : Int)) R (oT a)) (aC ?_))))))))))))
 exact qJ (fun w s => s)
 refine lW (bI a) (vz (.agg [(sc A5 v4.Dims D5), (sc A6 v4.Strides D6), (iv v4.Offset), (iv v4.Base)].toArray) (bF 1 fc dZ R R R R)) (lM (RR kT3 A5 D5 v4.Dims :: RR kT3 A6 D6 v4.Strides :: aK _ _ _ :: E) (fun w s => (((s.d 5 R).d 7 R).e 3 [1, 0, 2])) ?_)
 refine cU 2 R (bI a) tW R (Zo_ok (cZ L (dY a))) R ?_
 rintro _
 refine lN (_ :: E) ?_
 refine lW (bI a) (ft R) (lO (eS R a R) (lB R ?_))
 rcases bo ((!F) || (!G)) with b | b
 refine lf (aT b) (lf (aT b) (lf (aT b) (lf (aT b) (lf (aT b) (lf (aT b) (lO (cW (v4.Base != (t1.Data.length : Int)) R b) (aC ?_)))))))
 exact qJ (fun w s => s)
 refine lW (bI b) (bT 3 fI R) (lW (bI b) (bV 1 cE R R R) (lW (bI b) (bT 1 cA R) (lW (bI b) (bV 2 bK R R R) (lW (bI b) (bR aV R) (lW (bI b) (ig R R) (lO (eS R b R) (aC ?_)))))))
 exact qJ (fun w s => s)
 rintro σ1
 refine aB ?_
 rcases bG i with ⟨j, i⟩ | ⟨j, i⟩
 refine aL R j (aD (aA (lO (vz (.agg [(.slice none 0 0), (.slice none 0 0)].toArray) (bW fF dC R R)) (aU 0 R R bO R R R R R R (aC (aB (aW (bA ?_))))))))
 obtain rfl := so i
 exact bU (vs := [(.agg [(.slice none 0 0), (.slice none 0 0)].toArray)]) (.inl R) ((none, 0, 0), (none, 0, 0)) R ⟨⟨0, I, _, _, R, R, .inl ⟨cJ, bO, R⟩⟩, trivial⟩ R (fun w s => (((s.nilo kT3 3).nilo kT3 3).e 9 [1, 0]))
 refine aI R j (aN (aB (aD ?_)))
 obtain ⟨g, M, i⟩ := bd i
 refine aA (lO (bT 1 cA R) (lO (bV 2 bK R R R) (lO (vz (.agg [(sc A5 v4.Dims D5), (sc A6 v4.Strides D6), (iv v4.Offset), (iv v4.Base)].toArray) (bF 1 fc dZ R R R R)) (lM (RR kT3 A3 D3 t1.Data :: RR kT3 A5 D5 v4.Dims :: RR kT3 A6 D6 v4.Strides :: aK _ _ _ :: E) (fun w s => ((((s.d 4 R).d 6 R).d 8 R).e 4 [2, 1, 0, 3])) ?_))))
 refine lC 3 xl R (Z1s_ok M) R ?_
 rintro ⟨⟨m, T, u⟩, ⟨q, U, D⟩⟩
 refine lN (ow kT3 3 (.slice m T u) g.Dims :: ow kT3 3 (.slice q U D) g.Data :: _ :: E) ?_
 refine aY 0 aH ?_
 rintro rfl
 refine aY 1 aH ?_
 rintro rfl
 refine aU 2 R R bO R R R R R R (lN (_ :: _ :: aK I [(sc m g.Dims u), (sc q g.Data D)] 26 :: E) ?_)
 refine aC (aB (aW ?_))
 obtain rfl := so i
 exact bU (vs := [(.agg [(sc m g.Dims u), (sc q g.Data D)].toArray)]) (.inl R) ((m, g.Dims.length, u), (q, g.Data.length, D)) R ⟨⟨2, I, _, _, R, R, .inl ⟨cJ, bO, R⟩⟩, trivial⟩ R (fun w s => (s.e 9 [0, 1]))
theorem Z1r_ok  {t1 : Tensor} {r : (List Int)} (b : Z1r t1 = some r) :
 FnOk Tryz.prog 128 [(.agg [(.slice A2 N2 D2), (.slice A3 N3 D3)].toArray)] [aQ kT3 (.slice A2 N2 D2) t1.Dims, aQ kT3 (.slice A3 N3 D3) t1.Data] (fun (h : HH) => ((.slice h.1 h.2.1 h.2.2), [aQ kT3 (.slice h.1 h.2.1 h.2.2) r])) := by
 unfold Z1r at b
 refine bN Tryz.func128 R 5 R R fun C V => ?_
 refine cN (_ :: _ :: V) ?_
 refine cL 0 aE ?_
 rintro rfl
 refine cL 1 aE ?_
 rintro rfl
 let a : List HP := RR kT3 A2 D2 t1.Dims :: RR kT3 A3 D3 t1.Data :: V
 refine cN a ?_
 refine aD (aA (gz R (fun i => (lS R (aC ?_)))))
 let g : List HP := aK i [(sc A2 t1.Dims D2), (sc A3 t1.Data D3)] 26 :: a
 refine qN g ?_
 refine aB (aD (aA (lO (bT 0 cG R) (lO (bV 0 bK R R R) (lS R (aC (aB (aW ?_))))))))
 obtain rfl := so b
 exact qF (A2, t1.Dims.length, D2) (fun w s => (s.e 3 [1]))
theorem Z0f_ok  {b : (List Tensor)} {r : (List (List Int))} (i : Z0f b = some r) :
 FnOk Tryz.prog 127 [(.slice A2 N2 D2), (.func (.func 128) [].toArray [].toArray)] [aQ eO (.slice A2 N2 D2) b] (fun (h : HH) => ((.slice h.1 h.2.1 h.2.2), [ow (cH).share 24 (.slice h.1 h.2.1 h.2.2) r])) := by
 unfold Z0f at i
 refine bN Tryz.func127 R 26 R R fun C V => ?_
 refine cN (_ :: V) ?_
 refine cL 0 aE ?_
 rintro rfl
 let M : List HP := RR eO A2 D2 b :: V
 refine cN M ?_
 refine aD (aA (lS R (aC (aB (aD ?_)))))
 obtain ⟨T, i⟩ := gd i
 refine aA (lS R (lO (bR ij R) (fG (K := cH) (m := (b.length : Int)) (z := ([] : (List Int))) R R gR fk tY (Zr.zk tK oc) (by decide) R R T.1 T.2.1 T.2.2 (fun A5 D5 => (lS R (aC (aB (aD (bS (A := ((List (List Int))) × (Unit)) (fun a => Z0f_J1 a.1 = some r) (fun a => [(5, (sc A5 (List.replicate (b.length : Int).toNat ([] : (List Int))) D5))]) (fun a => ow (cH).share 24 (.slice A5 (List.replicate (b.length : Int).toNat ([] : (List Int))).length D5) a.1 :: M) ?_ ?_)))))))))
 refine aD (aA (lS R (lO (bR ij R) (lI R (aC (aB (aM ?_)))))))
 obtain ⟨e1, a9, a8⟩ := bd i
 refine bQ (A := Unit) a9 (fun s a => [(1, (.func (.func 128) [].toArray [].toArray)), (5, (sc A5 (List.replicate (b.length : Int).toNat ([] : (List Int))) D5)), (11, (sc A2 b D2)), (12, (il b)), (13, (iv s.2))]) (fun s a => ow (cH).share 24 (.slice A5 (List.replicate (b.length : Int).toNat ([] : (List Int))).length D5) s.1 :: M) () (aS R) (fun w s => (s.wk 0 R)) ?_
 rintro ⟨L, g⟩ _ σ1 a3 i a7
 replace i : Z0f_L1 b L g = some a3 := i
 unfold Z0f_L1 at i
 refine aD (aA (lO (dQ R R) (aC (aB (aD ?_)))))
 rcases bG i with ⟨G, i⟩ | ⟨G, i⟩
 refine aL R G (aN (aB (aD (aM (aD ?_)))))
 obtain ⟨j, i⟩ := gd i
 refine aA (lI R (bY 1 aE (show 0 < b.length by have := j; omega) (fun a6 o26 ha => ?_)))
 subst ha
 refine lO (cK ij bO R R j) (ib (K := eO) 1 g dT26.dec R j.1 j.2 ?_)
 rintro ⟨⟨u, E⟩, ⟨D, F⟩⟩
 refine lN (cl a6 (o26 + g.toNat * 2) [(sc u ((ix b g).Dims) E), (sc D ((ix b g).Data) F)] :: RR kT3 u E ((ix b g).Dims) :: RR kT3 D F ((ix b g).Data) :: ow (cH).share 24 (.slice A5 (List.replicate (b.length : Int).toNat ([] : (List Int))).length D5) L :: M) ?_
 refine lO (vz (.agg [(sc u ((ix b g).Dims) E), (sc D ((ix b g).Data) F)].toArray) (jV (fo := 0) 0 cJ bO R R R R)) (bM R R dC (fun a5 => (lI R (aU 0 R R bO R R R R R R (lN (aK a5 [(sc u ((ix b g).Dims) E), (sc D ((ix b g).Data) F)] 26 :: _ :: _ :: _ :: _ :: M) ?_)))))
 refine aC (aB ?_)
 obtain ⟨J, a2, i⟩ := bd i
 obtain ⟨q, i⟩ := gd i
 refine aA (lS R (lI R (lO (vp _ R) (lO (vz (.agg [(sc u ((ix b g).Dims) E), (sc D ((ix b g).Data) F)].toArray) (bF 0 cJ bO R R R R)) (lM (aQ _ _ _ :: aQ _ _ _ :: aK _ _ _ :: cl _ _ _ :: aQ _ _ _ :: aQ _ _ _ :: ow _ _ _ _ :: M) (fun w s => (((s.d 2 R).d 4 R).f 7 [1, 1, 0, 1, 2, 5])) ?_)))))
 refine iF (fs := []) (cs := []) 2 R R vZ R R (Z1r_ok a2) R ?_
 rintro ⟨U, a4, a0⟩
 refine lN (aQ kT3 (.slice U a4 a0) J :: _ :: _ :: _ :: _ :: _ :: M) ?_
 refine aY 0 aE ?_
 rintro rfl
 refine bY 5 iH (show 0 < (List.replicate (b.length : Int).toNat ([] : (List Int))).length by have := q; omega) (fun a1 o35 ha => ?_)
 subst ha
 refine lO (cK gR fk R R q) (lM (ow (cH).share 24 (.slice (ad a1 o35) (List.replicate (b.length : Int).toNat ([] : (List Int))).length D5) L :: aQ _ _ _ :: aQ _ _ _ :: aK _ _ _ :: cl _ _ _ :: aQ _ _ _ :: aQ _ _ _ :: M) (fun w s => ((s.d 0 R).f 7 [6, 1, 0, 6])) ?_)
 refine eG (K := (cH).share) (x' := J) 1 g R R fk R R q.1 q.2 ?_ ?_
 exact fun I h s => (rn).put I h (sc U J a0) J s
 refine lN (ow (cH).share 24 (.slice (ad a1 o35) (List.replicate (b.length : Int).toNat ([] : (List Int))).length D5) (L.set g.toNat J) :: _ :: _ :: _ :: _ :: _ :: M) ?_
 refine aC (aZ (aB (aA (lO (cX R R) (lI R (aC ?_))))))
 obtain rfl := so i
 exact qA () (fun w s => (s.e 6 [0]))
 refine aI R G (bP (aR ?_))
 obtain rfl := so i
 obtain rfl := a7 _ R
 have i := a8
 refine aR (bE ?_)
 exact qI (L, ()) i (fun w s => s)
 rintro ⟨aa, _⟩ σ1 i
 replace i : Z0f_J1 aa = some r := i
 unfold Z0f_J1 at i
 refine aD (aA (lS R (lS R (aC (aB (aW ?_))))))
 obtain rfl := so i
 exact qF (A5, (List.replicate (b.length : Int).toNat ([] : (List Int))).length, D5) (fun w s => (s.e 2 [0]))
theorem Z1f_ok  {a : (List Tensor)} {r : (List (List Int))} (b : Z1f a = some r) :
 FnOk Tryz.prog 70 [(.slice A2 N2 D2)] [aQ eO (.slice A2 N2 D2) a] (fun (h : HH) => ((.slice h.1 h.2.1 h.2.2), [ow (cH).share 24 (.slice h.1 h.2.1 h.2.2) r])) := by
 unfold Z1f at b
 refine bN Tryz.func70 R 5 R R fun C V => ?_
 refine cN (_ :: V) ?_
 refine cL 0 aE ?_
 rintro rfl
 let g : List HP := RR eO A2 D2 a :: V
 refine cN g ?_
 refine aD (aA (lS R (aC (aB (aD ?_)))))
 obtain ⟨j, i, b⟩ := bd b
 refine aA (lS R (lM (RR eO A2 D2 a :: g) (fun w s => (s.d 0 R)) ?_))
 refine lC 1 v' R (Z0f_ok i) R ?_
 rintro ⟨A5, N5, D5⟩
 refine lN (ow (cH).share 24 (.slice A5 N5 D5) j :: g) ?_
 refine aY 0 iH ?_
 rintro rfl
 refine lS R (aC (aB (aW ?_)))
 obtain rfl := so b
 exact qF (A5, j.length, D5) (fun w s => (s.e 2 [0]))
theorem Z9_ok  {a0 : aO} {mG : Int} {r : (List aO) × aO × Bool} (i : Z9 a0 = some r) :
 FnOk Tryz.prog 124 [(aJ a0)] [gl 0 mG] (fun (h : HH) => ((.tuple [(.slice h.1 h.2.1 h.2.2), (aJ r.2.1), (.bool r.2.2)].toArray), [aQ cV (.slice h.1 h.2.1 h.2.2) r.1])) := by
 unfold Z9 at i
 refine bN Tryz.func124 R 93 R R fun C V => ?_
 refine cN (_ :: V) ?_
 let U : List HP := gl 0 mG :: V
 refine cN U ?_
 refine aD (aA (lS R (lO (vp (aJ ([] : aO)) R) (lB R (aC (aB (aD ?_)))))))
 obtain ⟨j, b2, i⟩ := bd i
 refine aA (lO (vp (aJ a0) R) (lM (gl 0 mG :: U) (fun w s => (s.dg 0 R)) ?_))
 refine lC 1 w6 R (Z1n_ok b2) R ?_
 rintro _
 refine lN U ?_
 refine lO (vT R) (lO (vp (aJ j.1) R) (lO (vp (aJ j.2.1) R) (lB R (lO (vp (aJ j.1) R) (lO (vp (aJ j.2.1) R) (lB R (aC (aB (aD (aD (cQ [(5, (aJ j.1)), (6, (aJ j.2.1)), (25, (.bool ((!j.2.2) || (decide ((j.2.1.length : Int) > (6 : Int))))))] (U) ?_ ?_)))))))))))
 refine aA (lB R (lO (ft R) (lB R ?_)))
 rcases bo (!j.2.2) with M | M
 refine lf (aT M) (lf (aT M) (lf (aT M) (lO (cW (decide ((j.2.1.length : Int) > (6 : Int))) R M) (aC ?_))))
 exact qJ (fun w s => s)
 refine lW (bI M) (vp (aJ j.2.1) R) (lW (bI M) (vz (il j.2.1) (dK f5 R)) (lW (bI M) (iw R R) (lO (eS R M R) (aC ?_))))
 exact qJ (fun w s => s)
 rintro σ1
 refine aB ?_
 rcases bG i with ⟨ag, i⟩ | ⟨ag, i⟩
 refine aL R ag (aD (aA (lS R (lO (vp (aJ ([] : aO)) R) (lB R (aC (aB (aW (bA ?_)))))))))
 obtain rfl := so i
 exact bU (vs := [(.slice none 0 0), (aJ ([] : aO)), (.bool false)]) (.inl R) (none, 0, 0) R ⟨R, R, R, trivial⟩ R (fun w s => ((s.nilr cV).e 2 [0]))
 refine aI R ag (aN (aB (aD ?_)))
 obtain ⟨u, b3, i⟩ := bd i
 refine aA (lO (vp (aJ j.1) R) (lM (gl 0 mG :: U) (fun w s => (s.dg 0 R)) ?_))
 refine lC 1 wg R (Z1p_ok b3) R ?_
 rintro ⟨A8, N8, D8⟩
 refine lN (aQ cV (.slice A8 N8 D8) u :: U) ?_
 refine aY 0 aE ?_
 rintro rfl
 refine lS R (aC (aB (aD (aD (aA (lS R (lO (bR fd R) (lO (iw R R) (aC (aB ?_))))))))))
 rcases bG i with ⟨ah, i⟩ | ⟨ah, i⟩
 refine aL R ah (aD (aA (lS R (lO (vp (aJ ([] : aO)) R) (lB R (aC (aB (aW (bA ?_)))))))))
 obtain rfl := so i
 exact bU (vs := [(.slice none 0 0), (aJ ([] : aO)), (.bool false)]) (.inl R) (none, 0, 0) R ⟨R, R, R, trivial⟩ R (fun w s => ((s.nilr cV).e 3 [0]))
 refine aI R ah (aN (aB (aD (bS (A := (Unit) × (HH)) (fun a => Z9_J3 j u = some r) (fun a => [(5, (aJ j.1)), (6, (aJ j.2.1)), (8, (.slice a.2.1 a.2.2.1 a.2.2.2))]) (fun a => aQ cV (.slice a.2.1 a.2.2.1 a.2.2.2) u :: U) ?_ ?_))))
 refine aD (aA (lS R (lO (bR fd R) (lI R (aC (aB (aM ?_)))))))
 obtain ⟨e1, az, aj⟩ := bd i
 refine bQ (A := HH) az (fun s a => [(5, (aJ j.1)), (6, (aJ j.2.1)), (8, (.slice a.1 a.2.1 a.2.2)), (31, (.slice a.1 a.2.1 a.2.2)), (32, (il u)), (33, (iv s))]) (fun s a => aQ cV (.slice a.1 a.2.1 a.2.2) u :: U) (A8, u.length, D8) (aS R) (fun w s => s) ?_
 rintro D ⟨ar, aw, T⟩ σ1 aa i ai
 replace i : Z9_L1 u D = some aa := i
 unfold Z9_L1 at i
 refine cD 0 aE (fun (hn : aw = u.length) => ?_)
 subst hn
 refine aD (aA (lO (dQ R R) (aC (aB (aD ?_)))))
 rcases bG i with ⟨a4, i⟩ | ⟨a4, i⟩
 refine aL R a4 (aN (aB (aD (bS (A := (Unit) × (HH)) (fun a => Z9_J2 D = some aa) (fun a => [(5, (aJ j.1)), (6, (aJ j.2.1)), (8, (.slice a.2.1 a.2.2.1 a.2.2.2)), (31, (.slice a.2.1 a.2.2.1 a.2.2.2)), (32, (il u)), (33, (iv D))]) (fun a => aQ cV (.slice a.2.1 a.2.2.1 a.2.2.2) u :: U) ?_ ?_))))
 refine aM (aD ?_)
 obtain ⟨a2, i⟩ := gd i
 refine aA (bY 0 aE (show 0 < u.length by have := a2; omega) (fun a1 o31 ha => ?_))
 subst ha
 refine lO (cK fd jf R R a2) (lO (vz (aJ (ix u D)) (gi (K := cV) (fo := 0) (pr := fun x => (aJ x)) 0 D ml (dT9.leaf fun _ _ => R) aE R a2.1 a2.2)) (lO (vp (aJ (ix u D)) R) (aC (aB (aD (aD (aA (lO (vp (aJ (ix u D)) R) (lO (vz (il (ix u D)) (dK f5 R)) (lO (iw R R) (aC (aB ?_))))))))))))
 rcases bG i with ⟨a5, i⟩ | ⟨a5, i⟩
 refine aL R a5 (aD (aA (lS R (lO (vp (aJ ([] : aO)) R) (lB R (aC (aB (aW (bA (bB (bA ?_)))))))))))
 obtain rfl := so i
 obtain rfl := ai _ R
 have i := aj
 refine bA (bB (bA ?_))
 obtain rfl := so i
 exact bU (vs := [(.slice none 0 0), (aJ ([] : aO)), (.bool false)]) (.inl R) (none, 0, 0) R ⟨R, R, R, trivial⟩ R (fun w s => ((s.nilr cV).e 3 [0]))
 refine aI R a5 (aN (aB (aD (aA (lI R (aC (aB (aM ?_))))))))
 obtain ⟨e2, b0, am⟩ := bd i
 refine bQ (A := Unit) b0 (fun s a => [(5, (aJ j.1)), (6, (aJ j.2.1)), (8, (sc (ad a1 o31) u T)), (10, (aJ (ix u D))), (11, (iv s)), (31, (sc (ad a1 o31) u T)), (32, (il u)), (33, (iv D))]) (fun s a => RR cV (ad a1 o31) T u :: U) () (aS R) (fun w s => s) ?_
 rintro G _ σ1 ap i ak
 replace i : Z9_L2 u D G = some ap := i
 unfold Z9_L2 at i
 refine aD (aD (aA (lI R (lO (vp (aJ (ix u D)) R) (lO (vz (il (ix u D)) (dK f5 R)) (lO (dQ R R) (aC (aB ?_))))))))
 rcases bG i with ⟨a6, i⟩ | ⟨a6, i⟩
 refine aL R a6 (aN (aB (aD (aM (aD ?_)))))
 obtain ⟨a3, i⟩ := gd i
 refine cQ [(5, (aJ j.1)), (6, (aJ j.2.1)), (8, (sc (ad a1 o31) u T)), (10, (aJ (ix u D))), (11, (iv G)), (31, (sc (ad a1 o31) u T)), (32, (il u)), (33, (iv D)), (55, (.bool ((decide ((bt (ix u D) G) < (97 : Int))) || (decide ((bt (ix u D) G) > (122 : Int))))))] (RR cV (ad a1 o31) T u :: U) ?_ ?_
 refine aA (lO (vp (aJ (ix u D)) R) (lI R (lO (vz (.int .u8 (bt (ix u D) G)) (cI f5 R R a3.1 a3.2)) (lO (vp (.bool (decide ((bt (ix u D) G) < (97 : Int)))) R) (lB R ?_)))))
 rcases bo (decide ((bt (ix u D) G) < (97 : Int))) with F | F
 refine lf (aT F) (lf (aT F) (lf (aT F) (lf (aT F) (lO (cW (decide ((bt (ix u D) G) > (122 : Int))) R F) (aC ?_)))))
 exact qJ (fun w s => s)
 refine lW (bI F) (vp (aJ (ix u D)) R) (lW (bI F) (vI R) (lW (bI F) (vz (.int .u8 (bt (ix u D) G)) (cI f5 R R a3.1 a3.2)) (lW (bI F) (vp (.bool (decide ((bt (ix u D) G) > (122 : Int)))) R) (lO (eS R F R) (aC ?_)))))
 exact qJ (fun w s => s)
 rintro σ1
 refine aB ?_
 rcases bG i with ⟨a7, i⟩ | ⟨a7, i⟩
 refine aL R a7 (aD (aA (lS R (lO (vp (aJ ([] : aO)) R) (lB R (aC (aB (aW (bB (bA ?_))))))))))
 obtain rfl := so i
 obtain rfl := ak _ R
 have i := am
 refine bA (bB (bB (bA ?_)))
 obtain rfl := so i
 obtain rfl := ai _ R
 have i := aj
 refine bA (bB (bA ?_))
 obtain rfl := so i
 exact bU (vs := [(.slice none 0 0), (aJ ([] : aO)), (.bool false)]) (.inl R) (none, 0, 0) R ⟨R, R, R, trivial⟩ R (fun w s => ((s.nilr cV).e 3 [0]))
 refine aI R a7 (aN (aZ (aB (aA (lI R (lO (cX R R) (lI R (aC ?_))))))))
 obtain rfl := so i
 exact qA () (fun w s => s)
 refine aI R a6 (bP (aR ?_))
 obtain rfl := so i
 obtain rfl := ak _ R
 have i := am
 refine aR (bE (aZ ?_))
 exact qI ((), ((ad a1 o31), u.length, T)) i (fun w s => s)
 rintro ⟨_, ⟨au, ax, av⟩⟩ σ1 i
 replace i : Z9_J2 D = some aa := i
 unfold Z9_J2 at i
 refine cD 0 aE (fun (hn : ax = u.length) => ?_)
 subst hn
 refine aA (lO (cX R R) (lI R (aC ?_)))
 obtain rfl := so i
 exact qA (au, u.length, av) (fun w s => s)
 refine aI R a4 (bP (aR ?_))
 obtain rfl := so i
 obtain rfl := ai _ R
 have i := aj
 refine aR (bE ?_)
 exact qI ((), (ar, u.length, T)) i (fun w s => s)
 rintro ⟨_, ⟨J, ay, L⟩⟩ σ1 i
 replace i : Z9_J3 j u = some r := i
 unfold Z9_J3 at i
 refine cD 0 aE (fun (hn : ay = u.length) => ?_)
 subst hn
 refine aD (bS (A := (Unit) × (Unit)) (fun a => Z9_J4 j u = some r) (fun a => [(6, (aJ j.2.1)), (8, (sc J u L))]) (fun a => RR cV J L u :: U) ?_ ?_)
 refine aD (aA (lI R (aC (aB (aM ?_)))))
 obtain ⟨e3, b1, an⟩ := bd i
 refine bQ (A := Unit) b1 (fun s a => [(5, (aJ j.1)), (6, (aJ j.2.1)), (8, (sc J u L)), (12, (iv s))]) (fun s a => RR cV J L u :: U) () (aS R) (fun w s => s) ?_
 rintro m _ σ1 aq i al
 replace i : Z9_L3 j m = some aq := i
 unfold Z9_L3 at i
 refine aD (aD (aA (lI R (lO (vp (aJ j.2.1) R) (lO (vz (il j.2.1) (dK f5 R)) (lO (dQ R R) (aC (aB ?_))))))))
 rcases bG i with ⟨a8, i⟩ | ⟨a8, i⟩
 refine aL R a8 (aN (aB (aD (aM (aD ?_)))))
 obtain ⟨q, i⟩ := gd i
 obtain ⟨I, i⟩ := gd i
 obtain ⟨ab, ae, i⟩ := bd i
 obtain ⟨ac, ao, i⟩ := bd i
 refine cQ [(5, (aJ j.1)), (6, (aJ j.2.1)), (8, (sc J u L)), (12, (iv m)), (90, (.bool ((((decide ((bt j.2.1 m) < (97 : Int))) || (decide ((bt j.2.1 m) > (122 : Int)))) || (decide (ab ≥ (0 : Int)))) || (decide (ac < (0 : Int))))))] (RR cV J L u :: U) ?_ ?_
 rcases bo (decide ((bt j.2.1 m) < (97 : Int))) with g | g
 refine eI 28 [] cF (fun ht hn => (dR 0 R (vp (aJ j.2.1) R) (dR 1 R (vI R) (dR 2 R (vz (.int .u8 (bt j.2.1 m)) (cI f5 R R q.1 q.2)) (dR 3 R (vp (.bool (decide ((bt j.2.1 m) < (97 : Int)))) R) (dR 4 R (vB R) (dF 5 R (aT g) (dF 6 R (aT g) (dF 7 R (aT g) (dF 8 R (aT g) (dR 9 R (cW (decide ((bt j.2.1 m) > (122 : Int))) R g) (dR 10 R (vB R) (dF 11 R (aT (oT g)) (dF 12 R (aT (oT g)) (dF 13 R (aT (oT g)) (dF 14 R (aT (oT g)) (dF 15 R (aT (oT g)) (dF 16 R (aT (oT g)) (dF 17 R (aT (oT g)) (dF 18 R (aT (oT g)) (dR 19 R (cW (decide (ab ≥ (0 : Int))) R (oT g)) (dR 20 R (vB R) (dF 21 R (aT (oT (oT g))) (dF 22 R (aT (oT (oT g))) (dF 23 R (aT (oT (oT g))) (dF 24 R (aT (oT (oT g))) (dF 25 R (aT (oT (oT g))) (dF 26 R (aT (oT (oT g))) (dR 27 R (cW (decide (ac < (0 : Int))) R (oT (oT g))) (dD ?_))))))))))))))))))))))))))))))
 exact qJ (fun w s => s)
 rcases bo ((decide ((bt j.2.1 m) < (97 : Int))) || (decide ((bt j.2.1 m) > (122 : Int)))) with b | b
 refine eI 28 [] cF (fun ht hn => (dR 0 R (vp (aJ j.2.1) R) (dR 1 R (vI R) (dR 2 R (vz (.int .u8 (bt j.2.1 m)) (cI f5 R R q.1 q.2)) (dR 3 R (vp (.bool (decide ((bt j.2.1 m) < (97 : Int)))) R) (dR 4 R (vB R) (dW 5 R (bI g) (vp (aJ j.2.1) R) (dW 6 R (bI g) (vI R) (dW 7 R (bI g) (vz (.int .u8 (bt j.2.1 m)) (cI f5 R R q.1 q.2)) (dW 8 R (bI g) (vp (.bool (decide ((bt j.2.1 m) > (122 : Int)))) R) (dR 9 R (eS R g R) (dR 10 R (vB R) (dF 11 R (aT b) (dF 12 R (aT b) (dF 13 R (aT b) (dF 14 R (aT b) (dF 15 R (aT b) (dF 16 R (aT b) (dF 17 R (aT b) (dF 18 R (aT b) (dR 19 R (cW (decide (ab ≥ (0 : Int))) R b) (dR 20 R (vB R) (dF 21 R (aT (oT b)) (dF 22 R (aT (oT b)) (dF 23 R (aT (oT b)) (dF 24 R (aT (oT b)) (dF 25 R (aT (oT b)) (dF 26 R (aT (oT b)) (dR 27 R (cW (decide (ac < (0 : Int))) R (oT b)) (dD ?_))))))))))))))))))))))))))))))
 exact qJ (fun w s => s)
 rcases bo (((decide ((bt j.2.1 m) < (97 : Int))) || (decide ((bt j.2.1 m) > (122 : Int)))) || (decide (ab ≥ (0 : Int)))) with E | E
 refine eI 28 [] cF (fun ht hn => (dR 0 R (vp (aJ j.2.1) R) (dR 1 R (vI R) (dR 2 R (vz (.int .u8 (bt j.2.1 m)) (cI f5 R R q.1 q.2)) (dR 3 R (vp (.bool (decide ((bt j.2.1 m) < (97 : Int)))) R) (dR 4 R (vB R) (dW 5 R (bI g) (vp (aJ j.2.1) R) (dW 6 R (bI g) (vI R) (dW 7 R (bI g) (vz (.int .u8 (bt j.2.1 m)) (cI f5 R R q.1 q.2)) (dW 8 R (bI g) (vp (.bool (decide ((bt j.2.1 m) > (122 : Int)))) R) (dR 9 R (eS R g R) (dR 10 R (vB R) (dW 11 R (bI b) (vp (aJ j.2.1) R) (dW 12 R (bI b) (vI R) (dW 13 R (bI b) (vz (aJ (sub j.2.1 (0 : Int) m)) (fz (0 : Int) m f5 R R R (I b).1 (I b).2.1 (I b).2.2)) (dW 14 R (bI b) (vp (aJ j.2.1) R) (dW 15 R (bI b) (vI R) (dW 16 R (bI b) (vz (.int .u8 (bt j.2.1 m)) (cI f5 R R q.1 q.2)) (d1 17 R (cU 0 R (bI b) nu R (Z0x_ok (cZ ae (dY b))) R ?_))))))))))))))))))))
 rintro _
 refine lN (RR cV J L u :: U) ?_
 refine aC (aP (sL []) (dW 18 R (bI b) (jW R R) (dR 19 R (eS R b R) (dR 20 R (vB R) (dF 21 R (aT E) (dF 22 R (aT E) (dF 23 R (aT E) (dF 24 R (aT E) (dF 25 R (aT E) (dF 26 R (aT E) (dR 27 R (cW (decide (ac < (0 : Int))) R E) (dD ?_))))))))))))
 exact qJ (fun w s => s)
 refine eI 28 [] cF (fun ht hn => (dR 0 R (vp (aJ j.2.1) R) (dR 1 R (vI R) (dR 2 R (vz (.int .u8 (bt j.2.1 m)) (cI f5 R R q.1 q.2)) (dR 3 R (vp (.bool (decide ((bt j.2.1 m) < (97 : Int)))) R) (dR 4 R (vB R) (dW 5 R (bI g) (vp (aJ j.2.1) R) (dW 6 R (bI g) (vI R) (dW 7 R (bI g) (vz (.int .u8 (bt j.2.1 m)) (cI f5 R R q.1 q.2)) (dW 8 R (bI g) (vp (.bool (decide ((bt j.2.1 m) > (122 : Int)))) R) (dR 9 R (eS R g R) (dR 10 R (vB R) (dW 11 R (bI b) (vp (aJ j.2.1) R) (dW 12 R (bI b) (vI R) (dW 13 R (bI b) (vz (aJ (sub j.2.1 (0 : Int) m)) (fz (0 : Int) m f5 R R R (I b).1 (I b).2.1 (I b).2.2)) (dW 14 R (bI b) (vp (aJ j.2.1) R) (dW 15 R (bI b) (vI R) (dW 16 R (bI b) (vz (.int .u8 (bt j.2.1 m)) (cI f5 R R q.1 q.2)) (d1 17 R (cU 0 R (bI b) nu R (Z0x_ok (cZ ae (dY b))) R ?_))))))))))))))))))))
 rintro _
 refine aC (aP (sL []) (dW 18 R (bI b) (jW R R) (dR 19 R (eS R b R) (dR 20 R (vB R) (dW 21 R (bI E) (vp (aJ j.1) R) (dW 22 R (bI E) (vp (aJ j.2.1) R) (dW 23 R (bI E) (vI R) (dW 24 R (bI E) (vz (.int .u8 (bt j.2.1 m)) (cI f5 R R q.1 q.2)) (d1 25 R (cU 0 R (bI E) nu R (Z0x_ok (cZ ao (dY E))) R ?_))))))))))
 rintro _
 refine aC (aP (sL []) (dW 26 R (bI E) (dQ R R) (dR 27 R (eS R E R) (dD ?_))))
 exact qJ (fun w s => s)
 rintro σ1
 refine aB ?_
 rcases bG i with ⟨a9, i⟩ | ⟨a9, i⟩
 refine aL R a9 (aD (aA (lS R (lO (vp (aJ ([] : aO)) R) (lB R (aC (aB (aW (bB (bA ?_))))))))))
 obtain rfl := so i
 obtain rfl := al _ R
 have i := an
 refine bA (bB (bA ?_))
 obtain rfl := so i
 exact bU (vs := [(.slice none 0 0), (aJ ([] : aO)), (.bool false)]) (.inl R) (none, 0, 0) R ⟨R, R, R, trivial⟩ R (fun w s => ((s.nilr cV).e 3 [0]))
 refine aI R a9 (aN (aZ (aB (aA (lI R (lO (cX R R) (lI R (aC ?_))))))))
 obtain rfl := so i
 exact qA () (fun w s => s)
 refine aI R a8 (bP (aR ?_))
 obtain rfl := so i
 obtain rfl := al _ R
 have i := an
 refine aR (bE ?_)
 exact qI ((), ()) i (fun w s => s)
 rintro ⟨_, _⟩ σ1 i
 replace i : Z9_J4 j u = some r := i
 unfold Z9_J4 at i
 refine aD (aA (lS R (lO (vp (aJ j.2.1) R) (lS R (lO (vp (aJ j.2.1) R) (lB R (aC (aB (aW ?_)))))))))
 obtain rfl := so i
 exact bU (vs := [(sc J u L), (aJ j.2.1), (.bool true)]) (.inl R) (J, u.length, L) R ⟨R, R, R, trivial⟩ R (fun w s => (s.e 2 [0]))
end Go.Proofs.YthfhllekobdelaaGreatDoor
