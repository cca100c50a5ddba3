import Derived.Test.YthfhllekobdelaaGreatDoorCvF
import Derived.Test.YthfhllekobdelaaGreatDoorCvW2
set_option linter.unusedVariables false
set_option maxRecDepth 20000
namespace Go.Proofs.YthfhllekobdelaaGreatDoor
open Go Go.Pg
variable {A2 A3 A4 A5 : Option Addr} {D2 D3 D4 D5 N2 N3 N4 N5 : Nat}
theorem Z08_ok  {p1 : aO} {r : Bool} (b : Z08 p1 = some r) :
 FnOk Tryz.prog 130 [(aJ p1)] [] (fun (h : Unit) => ((.bool r), [])) := by
 unfold Z08 at b
 refine bN Tryz.func130 R 23 R R fun C V => ?_
 refine cN V ?_
 refine aD (aA (lB R (aC (aB (aD (bS (A := (Unit) × (Unit)) (fun a => Z08_J1 p1 = some r) (fun a => [(0, (aJ p1))]) (fun a => V) ?_ ?_))))))
 refine aD (aA (lI R (aC (aB (aM ?_)))))
 obtain ⟨F, E, u⟩ := bd b
 refine bQ (A := Unit) E (fun s a => [(0, (aJ p1)), (3, (iv s))]) (fun s a => V) () (aS R) (fun w s => s) ?_
 rintro i _ σ1 D b q
 replace b : Z08_L1 p1 i = some D := b
 unfold Z08_L1 at b
 refine aD (aD (aA (lI R (lO (vp (aJ p1) R) (lO (vz (il p1) (dK f5 R)) (lO (dQ R R) (aC (aB ?_))))))))
 rcases bG b with ⟨m, b⟩ | ⟨m, b⟩
 refine aL R m (aN (aB (aD (aM (aD ?_)))))
 obtain ⟨j, b⟩ := gd b
 refine cQ [(0, (aJ p1)), (3, (iv i)), (19, (.bool ((decide ((bt p1 i) < (97 : Int))) || (decide ((bt p1 i) > (122 : Int))))))] (V) ?_ ?_
 refine aA (lO (vp (aJ p1) R) (lI R (lO (vz (.int .u8 (bt p1 i)) (cI f5 R R j.1 j.2)) (lO (vp (.bool (decide ((bt p1 i) < (97 : Int)))) R) (lB R ?_)))))
 rcases bo (decide ((bt p1 i) < (97 : Int))) with e | e
 refine lf (aT e) (lf (aT e) (lf (aT e) (lf (aT e) (lO (cW (decide ((bt p1 i) > (122 : Int))) R e) (aC ?_)))))
 exact qJ (fun w s => s)
 refine lW (bI e) (vp (aJ p1) R) (lW (bI e) (vI R) (lW (bI e) (vz (.int .u8 (bt p1 i)) (cI f5 R R j.1 j.2)) (lW (bI e) (vp (.bool (decide ((bt p1 i) > (122 : Int)))) R) (lO (eS R e R) (aC ?_)))))
 exact qJ (fun w s => s)
 rintro σ1
 refine aB ?_
 rcases bG b with ⟨g, b⟩ | ⟨g, b⟩
 refine aL R g (aD (aA (lB R (aC (aB (aW (bB (bA ?_))))))))
 obtain rfl := so b
 obtain rfl := q _ R
 have b := u
 refine bA (bB (bA ?_))
 obtain rfl := so b
 exact qF () (fun w s => s)
 refine aI R g (aN (aZ (aB (aA (lI R (lO (cX R R) (lI R (aC ?_))))))))
 obtain rfl := so b
 exact qA () (fun w s => s)
 refine aI R m (bP (aR ?_))
 obtain rfl := so b
 obtain rfl := q _ R
 have b := u
 refine aR (bE ?_)
 exact qI ((), ()) b (fun w s => s)
 rintro ⟨_, _⟩ σ1 b
 replace b : Z08_J1 p1 = some r := b
 unfold Z08_J1 at b
 refine aD (aA (lO (vp (aJ p1) R) (lO (vz (il p1) (dK f5 R)) (lO (sh R R) (lB R (aC (aB (aW ?_))))))))
 obtain rfl := so b
 exact qF () (fun w s => s)
theorem Z07_ok  {p1 : aO} {i : Int} {r : Bool} (b : Z07 p1 i = some r) :
 FnOk Tryz.prog 131 [(aJ p1), (.int .u8 i)] [] (fun (h : Unit) => ((.bool r), [])) := by
 unfold Z07 at b
 refine bN Tryz.func131 R 17 R R fun C V => ?_
 refine cN V ?_
 refine aD (aA (lB R (aC (aB (aD (bS (A := (Unit) × (Unit)) (fun a => Z07_J1 = some r) (fun a => []) (fun a => V) ?_ ?_))))))
 refine aD (aA (lI R (aC (aB (aM ?_)))))
 obtain ⟨F, D, q⟩ := bd b
 refine bQ (A := Unit) D (fun s a => [(0, (aJ p1)), (1, (.int .u8 i)), (5, (iv s))]) (fun s a => V) () (aS R) (fun w s => s) ?_
 rintro E _ σ1 u b j
 replace b : Z07_L1 p1 i E = some u := b
 unfold Z07_L1 at b
 refine aD (aD (aA (lI R (lO (vp (aJ p1) R) (lO (vz (il p1) (dK f5 R)) (lO (dQ R R) (aC (aB ?_))))))))
 rcases bG b with ⟨e, b⟩ | ⟨e, b⟩
 refine aL R e (aN (aB (aD (aM (aD ?_)))))
 obtain ⟨m, b⟩ := gd b
 refine aA (lO (vp (aJ p1) R) (lI R (lO (vz (.int .u8 (bt p1 E)) (cI f5 R R m.1 m.2)) (lI R (lO (vp (.bool ((bt p1 E) == i)) R) (aC (aB ?_)))))))
 rcases bG b with ⟨g, b⟩ | ⟨g, b⟩
 refine aL R g (aD (aA (lB R (aC (aB (aW (bB (bA ?_))))))))
 obtain rfl := so b
 obtain rfl := j _ R
 have b := q
 refine bA (bB (bA ?_))
 obtain rfl := so b
 exact qF () (fun w s => s)
 refine aI R g (aN (aZ (aB (aA (lI R (lO (cX R R) (lI R (aC ?_))))))))
 obtain rfl := so b
 exact qA () (fun w s => s)
 refine aI R e (bP (aR ?_))
 obtain rfl := so b
 obtain rfl := j _ R
 have b := q
 refine aR (bE ?_)
 exact eF ((), ()) b trivial (fun w s => s)
 rintro ⟨_, _⟩ σ1 b
 replace b : Z07_J1 = some r := b
 unfold Z07_J1 at b
 refine aD (aA (lB R (aC (aB (aW ?_)))))
 obtain rfl := so b
 exact qF () (fun w s => s)
theorem Z0_ok  {b : aO} {r : (List aO) × aO × Bool} (i : Z0 b = some r) :
 FnOk Tryz.prog 85 [(aJ b)] [] (fun (h : HH) => ((.tuple [(.slice h.1 h.2.1 h.2.2), (aJ r.2.1), (.bool r.2.2)].toArray), [ow cV 9 (.slice h.1 h.2.1 h.2.2) r.1])) := by
 unfold Z0 at i
 refine bN Tryz.func85 R 124 R R fun C V => ?_
 refine cN V ?_
 refine aD (aA (lS R (lO (vp (aJ ([] : aO)) R) (lB R (aC (aB (aD (aA (cC (K := cV) (xs := ([] : List aO)) (vs := []) 0 R R fd jf uT R R R R R R ?_ R (fun A2 D2 => ?_))))))))))
 exact fun I h s => (tM).list [] I h s
 refine lN (OO cV 9 A2 D2 ([] : List aO) :: V) ?_
 refine lS R (aC (aB (aD (aA (lI R (aC (aB (aD (bS (A := (Int) × (Unit)) (fun a => Z0_J1 b a.1 = some r) (fun a => [(0, (aJ b)), (5, (sc A2 ([] : List aO) D2)), (6, (iv a.1))]) (fun a => OO cV 9 A2 D2 ([] : List aO) :: V) ?_ ?_)))))))))
 refine aM ?_
 obtain ⟨e1, bu, bq⟩ := bd i
 refine bQ (A := Unit) bu (fun s a => [(0, (aJ b)), (5, (sc A2 ([] : List aO) D2)), (6, (iv s))]) (fun s a => OO cV 9 A2 D2 ([] : List aO) :: V) () (aS R) (fun w s => s) ?_
 rintro x6 _ σ1 b9 i bm
 replace i : Z0_L1 b x6 = some b9 := i
 unfold Z0_L1 at i
 refine aD (aD ?_)
 obtain ⟨av, i⟩ := gd i
 refine cQ [(0, (aJ b)), (5, (sc A2 ([] : List aO) D2)), (6, (iv x6)), (28, (.bool ((decide ((aG (x6 + (1 : Int))) < (b.length : Int))) && (!((sub b x6 (aG (x6 + (2 : Int)))) == str1)))))] (OO cV 9 A2 D2 ([] : List aO) :: V) ?_ ?_
 refine aA (lI R (lO (cX R R) (lO (vp (aJ b) R) (lO (vz (il b) (dK f5 R)) (lO (dQ R R) (lB R ?_))))))
 rcases bo (decide ((aG (x6 + (1 : Int))) < (b.length : Int))) with J | J
 refine lW (eB J) (vp (aJ b) R) (lW (eB J) (vI R) (lW (eB J) (vI R) (lW (eB J) (cX R R) (lW (eB J) (vz (aJ (sub b x6 (aG (x6 + (2 : Int))))) (fz x6 (aG (x6 + (2 : Int))) f5 R R R (av J).1 (av J).2.1 (av J).2.2)) (lW (eB J) (vz (.bool (!((sub b x6 (aG (x6 + (2 : Int)))) == str1))) (mt R R R)) (lO (kx R J R) (aC ?_)))))))
 exact qJ (fun w s => s)
 refine lf (dV J) (lf (dV J) (lf (dV J) (lf (dV J) (lf (dV J) (lf (dV J) (lO (kn (!((sub b x6 (aG (x6 + (2 : Int)))) == str1)) R J) (aC ?_)))))))
 exact qJ (fun w s => s)
 rintro σ1
 refine aB ?_
 rcases bG i with ⟨au, i⟩ | ⟨au, i⟩
 refine aL R au (aN (aB (aM (aA (lI R (lO (cX R R) (lI R (aC (aZ ?_)))))))))
 obtain rfl := so i
 exact qA () (fun w s => s)
 refine aI R au (bP (aR ?_))
 obtain rfl := so i
 obtain rfl := bm _ R
 have i := bq
 refine aR (bE ?_)
 exact qI (x6, ()) i (fun w s => s)
 rintro ⟨u, _⟩ σ1 i
 replace i : Z0_J1 b u = some r := i
 unfold Z0_J1 at i
 refine aD (aD (aA (lI R (lO (cX R R) (lO (vp (aJ b) R) (lO (vz (il b) (dK f5 R)) (lO (jW R R) (aC (aB ?_)))))))))
 rcases bG i with ⟨a9, i⟩ | ⟨a9, i⟩
 refine aL R a9 (aD (aA (lS R (lS R (lO (vp (aJ ([] : aO)) R) (lB R (aC (aB (aW (bA ?_))))))))))
 obtain rfl := so i
 exact bU (vs := [(sc A2 ([] : List aO) D2), (aJ ([] : aO)), (.bool false)]) (.inl R) (A2, ([] : List aO).length, D2) R ⟨R, R, R, trivial⟩ R (fun w s => s)
 refine aI R a9 (aN (aB (aD (aA (cC (K := cV) (xs := ([] : List aO)) (vs := []) 0 R R fd jf uT R R R R R R ?_ R (fun A13 D13 => ?_))))))
 exact fun I h s => (tM).list [] I h s
 refine lN (OO cV 9 A13 D13 ([] : List aO) :: _ :: V) ?_
 refine lS R (aC (aB (aD (aA (lI R (aC (aB (aD (bS (A := ((List aO)) × (HH)) (fun a => Z0_J4 b u a.1 = some r) (fun a => [(0, (aJ b)), (5, (sc A2 ([] : List aO) D2)), (6, (iv u)), (7, (.slice a.2.1 a.2.2.1 a.2.2.2))]) (fun a => OO cV 9 A2 D2 ([] : List aO) :: ow cV 9 (.slice a.2.1 a.2.2.1 a.2.2.2) a.1 :: V) ?_ ?_)))))))))
 refine aD (aA (lI R (aC (aB (aM ?_)))))
 obtain ⟨e2, bv, br⟩ := bd i
 refine bQ (A := HH) bv (fun s a => [(0, (aJ b)), (5, (sc A2 ([] : List aO) D2)), (6, (iv u)), (7, (.slice a.1 a.2.1 a.2.2)), (8, (iv s.2.1)), (9, (iv s.2.2))]) (fun s a => OO cV 9 A2 D2 ([] : List aO) :: ow cV 9 (.slice a.1 a.2.1 a.2.2) s.1 :: V) (A13, ([] : List aO).length, D13) (aS R) (fun w s => (s.e 2 [1, 0])) ?_
 rintro ⟨q, U, F⟩ ⟨a7, bi, a8⟩ σ1 am i bn
 replace i : Z0_L2 b u q U F = some am := i
 unfold Z0_L2 at i
 refine cD 1 aH (fun (hn : bi = q.length) => ?_)
 subst hn
 refine aD (aD (aA (lI R (lI R (lO (sh R R) (aC (aB ?_)))))))
 rcases bG i with ⟨aa, i⟩ | ⟨aa, i⟩
 refine aL R aa (aN (aB (aD (bS (A := ((List aO) × Int) × (HH)) (fun a => Z0_J3 F a.1.1 a.1.2 = some am) (fun a => [(0, (aJ b)), (5, (sc A2 ([] : List aO) D2)), (6, (iv u)), (7, (.slice a.2.1 a.2.2.1 a.2.2.2)), (8, (iv a.1.2)), (9, (iv F))]) (fun a => OO cV 9 A2 D2 ([] : List aO) :: ow cV 9 (.slice a.2.1 a.2.2.1 a.2.2.2) a.1.1 :: V) ?_ ?_))))
 refine aM (aD ?_)
 obtain ⟨ap, i⟩ := gd i
 refine cQ [(0, (aJ b)), (5, (sc A2 ([] : List aO) D2)), (6, (iv u)), (7, (sc a7 q a8)), (8, (iv U)), (9, (iv F)), (51, (.bool ((F == u) || ((bt b F) == (44 : Int)))))] (OO cV 9 A2 D2 ([] : List aO) :: OO cV 9 a7 a8 q :: V) ?_ ?_
 refine aA (lI R (lI R (lO (ji R R) (lB R ?_))))
 rcases bo (F == u) with G | G
 refine lf (aT G) (lf (aT G) (lf (aT G) (lf (aT G) (lO (cW ((bt b F) == (44 : Int)) R G) (aC ?_)))))
 exact qJ (fun w s => s)
 refine lW (bI G) (vp (aJ b) R) (lW (bI G) (vI R) (lW (bI G) (vz (.int .u8 (bt b F)) (cI f5 R R (ap G).1 (ap G).2)) (lW (bI G) (vp (.bool ((bt b F) == (44 : Int))) R) (lO (eS R G R) (aC ?_)))))
 exact qJ (fun w s => s)
 rintro σ1
 refine aB ?_
 rcases bG i with ⟨ab, i⟩ | ⟨ab, i⟩
 refine aL R ab (aD ?_)
 obtain ⟨ak, i⟩ := gd i
 obtain ⟨b4, i⟩ := gd i
 refine aA (lS R (lO (vp (aJ b) R) (lI R (lI R (lO (vz (aJ (sub b U F)) (fz U F f5 R R R ak.1 ak.2.1 ak.2.2)) (cC (K := cV) (xs := ([(sub b U F)] : List aO)) (vs := [(aJ (sub b U F))]) 0 R R fd jf uT R R R R R R ?_ R (fun be bg => ?_)))))))
 exact fun I h s => (tM).list [((), (sub b U F))] I h s
 refine lN (OO cV 9 be bg ([(sub b U F)] : List aO) :: _ :: OO cV 9 a7 a8 q :: V) ?_
 refine lM (ow _ _ _ _ :: ow _ _ _ _ :: ow _ _ _ _ :: V) (fun w s => (s.e 3 [2, 0, 1])) ?_
 refine f6 (K := cV) 8796093022208 R R fd jf xo (Zr.zk wX uT) R R R R R R eM b4 (fun az b0 => (lN (OO cV 9 az b0 (q ++ ([(sub b U F)] : List aO)) :: _ :: V) ?_))
 refine lS R (aC (aB (aA (lI R (lO (cX R R) (lI R (aC (aZ ?_))))))))
 exact qI (((q ++ ([(sub b U F)] : List aO)), (aG (F + (1 : Int)))), (az, (q ++ ([(sub b U F)] : List aO)).length, b0)) i (fun w s => (s.e 2 [1, 0]))
 refine aI R ab (aN (aZ ?_))
 exact qI ((q, U), (a7, q.length, a8)) i (fun w s => s)
 rintro ⟨⟨M, c1⟩, ⟨bf, bj, bh⟩⟩ σ1 i
 replace i : Z0_J3 F M c1 = some am := i
 unfold Z0_J3 at i
 refine cD 1 aH (fun (hn : bj = M.length) => ?_)
 subst hn
 refine aA (lI R (lO (cX R R) (lI R (aC ?_))))
 obtain rfl := so i
 exact qA (bf, M.length, bh) (fun w s => s)
 refine aI R aa (bP (aR ?_))
 obtain rfl := so i
 obtain rfl := bn _ R
 have i := br
 refine aR (bE ?_)
 exact qI (q, (a7, q.length, a8)) i (fun w s => s)
 rintro ⟨g, ⟨E, bk, D⟩⟩ σ1 i
 replace i : Z0_J4 b u g = some r := i
 unfold Z0_J4 at i
 refine cD 1 aH (fun (hn : bk = g.length) => ?_)
 subst hn
 refine aD ?_
 obtain ⟨al, i⟩ := gd i
 refine aA (lO (vp (aJ b) R) (lI R (lO (cX R R) (lO (vz (aJ (sub b (aG (u + (2 : Int))) (b.length : Int))) (fz (aG (u + (2 : Int))) (b.length : Int) f5 R R R al.1 al.2.1 al.2.2)) (lO (vp (aJ (sub b (aG (u + (2 : Int))) (b.length : Int))) R) (aC (aB (aD (aD ?_)))))))))
 obtain ⟨bc, b7, i⟩ := bd i
 refine cQ [(5, (sc A2 ([] : List aO) D2)), (7, (sc E g D)), (10, (aJ (sub b (aG (u + (2 : Int))) (b.length : Int)))), (72, (.bool ((decide ((g.length : Int) > (6 : Int))) || (!bc))))] (OO cV 9 A2 D2 ([] : List aO) :: OO cV 9 E D g :: V) ?_ ?_
 refine aA (lS R (lO (bR fd R) (lO (iw R R) (lB R ?_))))
 rcases bo (decide ((g.length : Int) > (6 : Int))) with L | L
 refine lf (aT L) (lf (aT L) (lf (aT L) (lO (cW (!bc) R L) (aC ?_))))
 exact qJ (fun w s => s)
 refine lW (bI L) (vp (aJ (sub b (aG (u + (2 : Int))) (b.length : Int))) R) (cU 0 R (bI L) sD R (Z08_ok (cZ b7 (dY L))) R ?_)
 rintro _
 refine lN (_ :: OO cV 9 E D g :: V) ?_
 refine lW (bI L) (ft R) (lO (eS R L R) (aC ?_))
 exact qJ (fun w s => s)
 rintro σ1
 refine aB ?_
 rcases bG i with ⟨ac, i⟩ | ⟨ac, i⟩
 refine aL R ac (aD (aA (lS R (lS R (lO (vp (aJ ([] : aO)) R) (lB R (aC (aB (aW (bA ?_))))))))))
 obtain rfl := so i
 exact bU (vs := [(sc A2 ([] : List aO) D2), (aJ ([] : aO)), (.bool false)]) (.inl R) (A2, ([] : List aO).length, D2) R ⟨R, R, R, trivial⟩ R (fun w s => (s.e 2 [0]))
 refine aI R ac (aN (aB (aD (bS (A := (Unit) × (Unit)) (fun a => Z0_J5 b u g = some r) (fun a => [(5, (sc A2 ([] : List aO) D2)), (7, (sc E g D)), (10, (aJ (sub b (aG (u + (2 : Int))) (b.length : Int))))]) (fun a => OO cV 9 A2 D2 ([] : List aO) :: OO cV 9 E D g :: V) ?_ ?_))))
 refine aD (aA (lI R (aC (aB (aM ?_)))))
 obtain ⟨e3, bw, b5⟩ := bd i
 refine bQ (A := Unit) bw (fun s a => [(5, (sc A2 ([] : List aO) D2)), (7, (sc E g D)), (10, (aJ (sub b (aG (u + (2 : Int))) (b.length : Int)))), (11, (iv s))]) (fun s a => OO cV 9 A2 D2 ([] : List aO) :: OO cV 9 E D g :: V) () (aS R) (fun w s => s) ?_
 rintro ay _ σ1 ba i b2
 replace i : Z0_L3 g ay = some ba := i
 unfold Z0_L3 at i
 refine aD (aD (aA (lI R (lS R (lO (bR fd R) (lO (dQ R R) (aC (aB ?_))))))))
 rcases bG i with ⟨ae, i⟩ | ⟨ae, i⟩
 refine aL R ae (aN (aB (aD (aM (aD ?_)))))
 obtain ⟨a4, i⟩ := gd i
 obtain ⟨c2, b8, i⟩ := bd i
 refine aA (lS R (lI R (bY 1 aH (show 0 < g.length by have := a4; omega) (fun bl o62 ha => ?_))))
 subst ha
 refine lO (cK fd jf R R a4) (lO (vz (aJ (ix g ay)) (gi (K := cV) (fo := 0) (pr := fun x => (aJ x)) 1 ay ml (dT9.leaf fun _ _ => R) aH R a4.1 a4.2)) (lC 0 sD R (Z08_ok b8) R ?_))
 rintro _
 refine lN (_ :: OO cV 9 (ad bl o62) D g :: V) ?_
 refine lO (ft R) (aC (aB ?_))
 rcases bG i with ⟨ag, i⟩ | ⟨ag, i⟩
 refine aL R ag (aD (aA (lS R (lS R (lO (vp (aJ ([] : aO)) R) (lB R (aC (aB (aW (bB (bA ?_)))))))))))
 obtain rfl := so i
 obtain rfl := b2 _ R
 have i := b5
 refine bA (bB (bA ?_))
 obtain rfl := so i
 exact bU (vs := [(sc A2 ([] : List aO) D2), (aJ ([] : aO)), (.bool false)]) (.inl R) (A2, ([] : List aO).length, D2) R ⟨R, R, R, trivial⟩ R (fun w s => (s.e 2 [0]))
 refine aI R ag (aN (aZ (aB (aA (lI R (lO (cX R R) (lI R (aC ?_))))))))
 obtain rfl := so i
 exact qA () (fun w s => s)
 refine aI R ae (bP (aR ?_))
 obtain rfl := so i
 obtain rfl := b2 _ R
 have i := b5
 refine aR (bE ?_)
 exact qI ((), ()) i (fun w s => s)
 rintro ⟨_, _⟩ σ1 i
 replace i : Z0_J5 b u g = some r := i
 unfold Z0_J5 at i
 refine aD (bS (A := (Unit) × (Unit)) (fun a => Z0_J8 b u g = some r) (fun a => [(7, (sc E g D)), (10, (aJ (sub b (aG (u + (2 : Int))) (b.length : Int))))]) (fun a => OO cV 9 E D g :: V) ?_ ?_)
 refine aD (aA (lI R (aC (aB (aM ?_)))))
 obtain ⟨e4, bz, b6⟩ := bd i
 refine bQ (A := Unit) bz (fun s a => [(5, (sc A2 ([] : List aO) D2)), (7, (sc E g D)), (10, (aJ (sub b (aG (u + (2 : Int))) (b.length : Int)))), (12, (iv s))]) (fun s a => OO cV 9 A2 D2 ([] : List aO) :: OO cV 9 E D g :: V) () (aS R) (fun w s => s) ?_
 rintro T _ σ1 an i b3
 replace i : Z0_L4 b u g T = some an := i
 unfold Z0_L4 at i
 refine aD (aD (aA (lI R (lO (vp (aJ (sub b (aG (u + (2 : Int))) (b.length : Int))) R) (lO (vz (il (sub b (aG (u + (2 : Int))) (b.length : Int))) (dK f5 R)) (lO (dQ R R) (aC (aB ?_))))))))
 rcases bG i with ⟨ah, i⟩ | ⟨ah, i⟩
 refine aL R ah (aN (aB (aD (aM (aD (aA (lB R (aC (aB (aD (bS (A := (Bool) × (Unit)) (fun a => Z0_J7 b u T a.1 = some an) (fun a => [(5, (sc A2 ([] : List aO) D2)), (7, (sc E g D)), (10, (aJ (sub b (aG (u + (2 : Int))) (b.length : Int)))), (12, (iv T)), (13, (.bool a.1))]) (fun a => OO cV 9 A2 D2 ([] : List aO) :: OO cV 9 E D g :: V) ?_ ?_)))))))))))
 refine aD (aA (lI R (aC (aB (aM ?_)))))
 obtain ⟨e5, c0, bs⟩ := bd i
 refine bQ (A := Unit) c0 (fun s a => [(5, (sc A2 ([] : List aO) D2)), (7, (sc E g D)), (10, (aJ (sub b (aG (u + (2 : Int))) (b.length : Int)))), (12, (iv T)), (13, (.bool s.1)), (14, (iv s.2))]) (fun s a => OO cV 9 A2 D2 ([] : List aO) :: OO cV 9 E D g :: V) () (aS R) (fun w s => s) ?_
 rintro ⟨a6, a5⟩ _ σ1 bb i bp
 replace i : Z0_L5 b u g T a6 a5 = some bb := i
 unfold Z0_L5 at i
 refine aD (aD (aA (lI R (lS R (lO (bR fd R) (lO (dQ R R) (aC (aB ?_))))))))
 rcases bG i with ⟨a1, i⟩ | ⟨a1, i⟩
 refine aL R a1 (aN (aB (aD (aM ?_))))
 obtain ⟨a0, i⟩ := gd i
 obtain ⟨ai, i⟩ := gd i
 obtain ⟨aq, aw, i⟩ := bd i
 refine cQ [(5, (sc A2 ([] : List aO) D2)), (7, (sc E g D)), (10, (aJ (sub b (aG (u + (2 : Int))) (b.length : Int)))), (12, (iv T)), (13, (.bool (a6 || aq))), (14, (iv a5))] (OO cV 9 A2 D2 ([] : List aO) :: OO cV 9 E D g :: V) ?_ ?_
 rcases bo a6 with j | j
 refine eI 12 [] cF (fun ht hn => (dR 0 R (vB R) (dR 1 R (vB R) (dF 2 R (aT j) (dF 3 R (aT j) (dF 4 R (aT j) (dF 5 R (aT j) (dF 6 R (aT j) (dF 7 R (aT j) (dF 8 R (aT j) (dF 9 R (aT j) (dR 10 R (cW aq R j) (dR 11 R (vB R) (dD ?_))))))))))))))
 exact qJ (fun w s => s)
 refine bZ 1 aH (show 0 < g.length by have := (a0 j); omega) (fun b1 o108 ha => ?_)
 subst ha
 refine eI 12 [] cF (fun ht hn => (dR 0 R (vB R) (dR 1 R (vB R) (dW 2 R (bI j) (vS R) (dW 3 R (bI j) (vI R) (dW 4 R (bI j) (cK fd jf R R (a0 j)) (dW 5 R (bI j) (vz (aJ (ix g a5)) (gi (K := cV) (fo := 0) (pr := fun x => (aJ x)) 1 a5 ml (dT9.leaf fun _ _ => R) aH R (a0 j).1 (a0 j).2)) (dW 6 R (bI j) (vp (aJ (sub b (aG (u + (2 : Int))) (b.length : Int))) R) (dW 7 R (bI j) (vI R) (dW 8 R (bI j) (vz (.int .u8 (bt (sub b (aG (u + (2 : Int))) (b.length : Int)) T)) (cI f5 R R (ai j).1 (ai j).2)) (d1 9 R (cU 0 R (bI j) sE R (Z07_ok (cZ aw (dY j))) R ?_))))))))))))
 rintro _
 refine lN (_ :: OO cV 9 (ad b1 o108) D g :: V) ?_
 refine aC (aP (sL []) (dR 10 R (eS R j R) (dR 11 R (vB R) (dD ?_))))
 exact qJ (fun w s => s)
 rintro σ1
 refine aZ (aB (aA (lI R (lO (cX R R) (lI R (aC ?_))))))
 obtain rfl := so i
 exact qA () (fun w s => s)
 refine aI R a1 (bP (aR ?_))
 obtain rfl := so i
 obtain rfl := bp _ R
 have i := bs
 refine aR (bE ?_)
 exact qI (a6, ()) i (fun w s => s)
 rintro ⟨ao, _⟩ σ1 i
 replace i : Z0_J7 b u T ao = some an := i
 unfold Z0_J7 at i
 refine aD ?_
 obtain ⟨a3, i⟩ := gd i
 obtain ⟨aj, i⟩ := gd i
 obtain ⟨ar, ax, i⟩ := bd i
 refine cQ [(5, (sc A2 ([] : List aO) D2)), (7, (sc E g D)), (10, (aJ (sub b (aG (u + (2 : Int))) (b.length : Int)))), (12, (iv T)), (120, (.bool ((!ao) || ar)))] (OO cV 9 A2 D2 ([] : List aO) :: OO cV 9 E D g :: V) ?_ ?_
 rcases bo (!ao) with m | m
 refine eI 11 [] cF (fun ht hn => (dR 0 R (vB R) (dR 1 R (ft R) (dR 2 R (vB R) (dF 3 R (aT m) (dF 4 R (aT m) (dF 5 R (aT m) (dF 6 R (aT m) (dF 7 R (aT m) (dF 8 R (aT m) (dF 9 R (aT m) (dR 10 R (cW ar R m) (dD ?_)))))))))))))
 exact qJ (fun w s => s)
 refine eI 11 [] cF (fun ht hn => (dR 0 R (vB R) (dR 1 R (ft R) (dR 2 R (vB R) (dW 3 R (bI m) (vp (aJ (sub b (aG (u + (2 : Int))) (b.length : Int))) R) (dW 4 R (bI m) (vI R) (dW 5 R (bI m) (vz (aJ (sub (sub b (aG (u + (2 : Int))) (b.length : Int)) (0 : Int) T)) (fz (0 : Int) T f5 R R R (a3 m).1 (a3 m).2.1 (a3 m).2.2)) (dW 6 R (bI m) (vp (aJ (sub b (aG (u + (2 : Int))) (b.length : Int))) R) (dW 7 R (bI m) (vI R) (dW 8 R (bI m) (vz (.int .u8 (bt (sub b (aG (u + (2 : Int))) (b.length : Int)) T)) (cI f5 R R (aj m).1 (aj m).2)) (d1 9 R (cU 0 R (bI m) sE R (Z07_ok (cZ ax (dY m))) R ?_))))))))))))
 rintro _
 refine lN (_ :: OO cV 9 E D g :: V) ?_
 refine aC (aP (sL []) (dR 10 R (eS R m R) (dD ?_)))
 exact qJ (fun w s => s)
 rintro σ1
 refine aB ?_
 rcases bG i with ⟨a2, i⟩ | ⟨a2, i⟩
 refine aL R a2 (aD (aA (lS R (lS R (lO (vp (aJ ([] : aO)) R) (lB R (aC (aB (aW (bB (bA ?_)))))))))))
 obtain rfl := so i
 obtain rfl := b3 _ R
 have i := b6
 refine bA (bB (bA ?_))
 obtain rfl := so i
 exact bU (vs := [(sc A2 ([] : List aO) D2), (aJ ([] : aO)), (.bool false)]) (.inl R) (A2, ([] : List aO).length, D2) R ⟨R, R, R, trivial⟩ R (fun w s => (s.e 2 [0]))
 refine aI R a2 (aN (aZ (aB (aA (lI R (lO (cX R R) (lI R (aC ?_))))))))
 obtain rfl := so i
 exact qA () (fun w s => s)
 refine aI R ah (bP (aR ?_))
 obtain rfl := so i
 obtain rfl := b3 _ R
 have i := b6
 refine aR (bE ?_)
 exact qI ((), ()) i (fun w s => (s.e 2 [1]))
 rintro ⟨_, _⟩ σ1 i
 replace i : Z0_J8 b u g = some r := i
 unfold Z0_J8 at i
 refine aD (aA (lS R (lO (vp (aJ (sub b (aG (u + (2 : Int))) (b.length : Int))) R) (lS R (lO (vp (aJ (sub b (aG (u + (2 : Int))) (b.length : Int))) R) (lB R (aC (aB (aW ?_)))))))))
 obtain rfl := so i
 exact bU (vs := [(sc E g D), (aJ (sub b (aG (u + (2 : Int))) (b.length : Int))), (.bool true)]) (.inl R) (E, g.length, D) R ⟨R, R, R, trivial⟩ R (fun w s => s)
theorem Z2_ok  {b : (List aO)} {p3 : aO} {i : (List (List Int))} {r : aO × (List Int) × Bool} (F : Z2 b p3 i = some r) :
 FnOk Tryz.prog 86 [(.slice A2 N2 D2), (aJ p3), (.slice A5 N5 D5)] [aQ cV (.slice A2 N2 D2) b, aQ cH (.slice A5 N5 D5) i] (fun (h : HH) => ((.tuple [(aJ r.1), (.slice h.1 h.2.1 h.2.2), (.bool r.2.2)].toArray), [ow kT3 3 (.slice h.1 h.2.1 h.2.2) r.2.1])) := by
 unfold Z2 at F
 refine bN Tryz.func86 R 129 R R fun C V => ?_
 refine cN (_ :: _ :: V) ?_
 refine cL 0 aE ?_
 rintro rfl
 refine cL 1 aE ?_
 rintro rfl
 let W0 : List HP := RR cV A2 D2 b :: RR cH A5 D5 i :: V
 refine cN W0 ?_
 refine aD (aA (lO (vp (aJ ([] : aO)) R) (lS R (lB R (aC (aB (aD (aA (lO (vp (aJ p3) R) (lO (vp (aJ p3) R) (aC (aB (aD ?_)))))))))))))
 obtain ⟨bk, F⟩ := gd F
 refine aA (lO (vp (aJ p3) R) (lO (vz (il p3) (dK f5 R)) (fG (K := kT3) (m := (p3.length : Int)) (z := (0 : Int)) R R aV bX ii (Zr.zk zT3 fj) (by decide) R R bk.1 bk.2.1 bk.2.2 (fun A7 D7 => (lS R (aC (aB (aD (bS (A := (aO × (List Int)) × (HH)) (fun a => Z2_J11 a.1.1 a.1.2 = some r) (fun a => [(9, (aJ a.1.1)), (10, (.slice a.2.1 a.2.2.1 a.2.2.2))]) (fun a => ow kT3 3 (.slice a.2.1 a.2.2.1 a.2.2.2) a.1.2 :: W0) ?_ ?_)))))))))
 refine aD (aA (lI R (aC (aB (aM ?_)))))
 obtain ⟨e1, cj, bl⟩ := bd F
 refine bQ (A := HH × HH × HH) cj (fun s a => [(0, (.slice a.1.1 a.1.2.1 a.1.2.2)), (2, (.slice a.2.1.1 a.2.1.2.1 a.2.1.2.2)), (9, (aJ s.1)), (10, (.slice a.2.2.1 a.2.2.2.1 a.2.2.2.2)), (11, (iv s.2.2))]) (fun s a => aQ cV (.slice a.1.1 a.1.2.1 a.1.2.2) b :: aQ cH (.slice a.2.1.1 a.2.1.2.1 a.2.1.2.2) i :: ow kT3 3 (.slice a.2.2.1 a.2.2.2.1 a.2.2.2.2) s.2.1 :: W0) ((A2, b.length, D2), (A5, i.length, D5), (A7, (List.replicate (p3.length : Int).toNat (0 : Int)).length, D7)) (aS R) (fun w s => (((s.d 1 R).d 3 R).e 3 [1, 0, 2])) ?_
 rintro ⟨ac, L, q⟩ ⟨⟨bm, bz, a1⟩, ⟨co, c0, a2⟩, ⟨ah, c1, aj⟩⟩ σ1 b4 F bh
 replace F : Z2_L1 b i ac L q = some b4 := F
 unfold Z2_L1 at F
 refine cD 0 aE (fun (hn : bz = b.length) => ?_)
 subst hn
 refine cD 1 aE (fun (hn : c0 = i.length) => ?_)
 subst hn
 refine cD 2 aH (fun (hn : c1 = L.length) => ?_)
 subst hn
 refine aD (aD (aA (lI R (lS R (lO (bR fd R) (lO (dQ R R) (aC (aB ?_))))))))
 rcases bG F with ⟨am, F⟩ | ⟨am, F⟩
 refine aL R am (aN (aB (aD (bS (A := (aO × (List Int)) × (HH × HH × HH)) (fun a => Z2_J10 q a.1.1 a.1.2 = some b4) (fun a => [(0, (.slice a.2.1.1 a.2.1.2.1 a.2.1.2.2)), (2, (.slice a.2.2.1.1 a.2.2.1.2.1 a.2.2.1.2.2)), (9, (aJ a.1.1)), (10, (.slice a.2.2.2.1 a.2.2.2.2.1 a.2.2.2.2.2)), (11, (iv q))]) (fun a => aQ cV (.slice a.2.1.1 a.2.1.2.1 a.2.1.2.2) b :: aQ cH (.slice a.2.2.1.1 a.2.2.1.2.1 a.2.2.1.2.2) i :: ow kT3 3 (.slice a.2.2.2.1 a.2.2.2.2.1 a.2.2.2.2.2) a.1.2 :: W0) ?_ ?_))))
 refine aM (aD (aD ?_))
 obtain ⟨a4, F⟩ := gd F
 obtain ⟨U, F⟩ := gd F
 refine bZ 1 aE (show 0 < i.length by have := a4; omega) (fun T o113 ha => ?_)
 subst ha
 refine j0 (K := cH) 1 q dT24.dec R a4.1 a4.2 ?_
 rintro ⟨b6, ba⟩
 refine cN (cl T (o113 + q.toNat * 1) [(sc b6 (ix i q) ba)] :: RR kT3 b6 ba (ix i q) :: RR cV bm a1 b :: RR cH (ad T o113) a2 i :: OO kT3 3 ah aj L :: W0) ?_
 refine bZ 2 aE (show 0 < b.length by have := U; omega) (fun a3 o117 ha => ?_)
 subst ha
 refine eI 11 [] cF (fun ht hn => (dR 0 R (vS R) (dR 1 R (vI R) (dR 2 R (cK gR fk R R a4) (dR 3 R (iG (fo := 0) 0 bK R R R) (dR 4 R (bR aV R) (dR 5 R (vS R) (dR 6 R (vI R) (dR 7 R (cK fd jf R R U) (dR 8 R (vz (aJ (ix b q)) (gi (K := cV) (fo := 0) (pr := fun x => (aJ x)) 2 q ml (dT9.leaf fun _ _ => R) aE R U.1 U.2)) (dR 9 R (vz (il (ix b q)) (dK f5 R)) (dR 10 R (ig R R) (dD (aB ?_))))))))))))))
 rcases bG F with ⟨an, F⟩ | ⟨an, F⟩
 refine aL R an (aD (aA (lS R (lO (vp (aJ ([] : aO)) R) (lS R (lB R (aC (aB (aW (bA (bB (bA ?_))))))))))))
 obtain rfl := so F
 obtain rfl := bh _ R
 have F := bl
 refine bA (bB (bA ?_))
 obtain rfl := so F
 exact bU (vs := [(aJ ([] : aO)), (sc ah L aj), (.bool false)]) (.inl R) (ah, L.length, aj) R ⟨R, R, R, trivial⟩ R (fun w s => (s.e 7 [4]))
 refine aI R an (aN (aB (aD (aA (lI R (aC (aB (aM ?_))))))))
 obtain ⟨e2, ck, ca⟩ := bd F
 refine bQ (A := HH) ck (fun s a => [(0, (sc (ad a3 o117) b a1)), (2, (sc (ad T o113) i a2)), (9, (aJ s.1)), (10, (.slice a.1 a.2.1 a.2.2)), (11, (iv q)), (12, (iv s.2.2))]) (fun s a => RR cV (ad a3 o117) a1 b :: RR cH (ad T o113) a2 i :: ow kT3 3 (.slice a.1 a.2.1 a.2.2) s.2.1 :: W0) (ah, L.length, aj) (aS R) (fun w s => (s.f 5 [2, 3])) ?_
 rintro ⟨g, u, J⟩ ⟨a7, c2, a8⟩ σ1 al F c8
 replace F : Z2_L2 b i q g u J = some al := F
 unfold Z2_L2 at F
 refine cD 2 aH (fun (hn : c2 = u.length) => ?_)
 subst hn
 refine aD (aD (aA (lI R (lS R (lI R (lO (cK fd jf R R U) (lO (vz (aJ (ix b q)) (gi (K := cV) (fo := 0) (pr := fun x => (aJ x)) 0 q ml (dT9.leaf fun _ _ => R) aE R U.1 U.2)) (lO (vz (il (ix b q)) (dK f5 R)) (lO (dQ R R) (aC (aB ?_)))))))))))
 rcases bG F with ⟨ao, F⟩ | ⟨ao, F⟩
 refine aL R ao (aN (aB (aD (aM (aD (aA (lI R (aC (aB (aD (bS (A := (Int) × (Unit)) (fun a => Z2_J8 b i q g u J a.1 = some al) (fun a => [(0, (sc (ad a3 o117) b a1)), (2, (sc (ad T o113) i a2)), (9, (aJ g)), (10, (sc a7 u a8)), (11, (iv q)), (12, (iv J)), (13, (iv a.1))]) (fun a => RR cV (ad a3 o117) a1 b :: RR cH (ad T o113) a2 i :: OO kT3 3 a7 a8 u :: W0) ?_ ?_)))))))))))
 refine aM ?_
 obtain ⟨e3, cm, ci⟩ := bd F
 refine bQ (A := Unit) cm (fun s a => [(0, (sc (ad a3 o117) b a1)), (2, (sc (ad T o113) i a2)), (9, (aJ g)), (10, (sc a7 u a8)), (11, (iv q)), (12, (iv J)), (13, (iv s))]) (fun s a => RR cV (ad a3 o117) a1 b :: RR cH (ad T o113) a2 i :: OO kT3 3 a7 a8 u :: W0) () (aS R) (fun w s => s) ?_
 rintro aa _ σ1 cf F ch
 replace F : Z2_L3 b q g J aa = some cf := F
 unfold Z2_L3 at F
 refine aD (aD ?_)
 obtain ⟨b2, F⟩ := gd F
 obtain ⟨b3, F⟩ := gd F
 refine cQ [(0, (sc (ad a3 o117) b a1)), (2, (sc (ad T o113) i a2)), (9, (aJ g)), (10, (sc a7 u a8)), (11, (iv q)), (12, (iv J)), (13, (iv aa)), (62, (.bool ((decide (aa < (g.length : Int))) && ((bt g aa) != (bt (ix b q) J)))))] (RR cV (ad a3 o117) a1 b :: RR cH (ad T o113) a2 i :: OO kT3 3 a7 a8 u :: W0) ?_ ?_
 rcases bo (decide (aa < (g.length : Int))) with G | G
 refine eI 16 [] cF (fun ht hn => (dR 0 R (vI R) (dR 1 R (vp (aJ g) R) (dR 2 R (vz (il g) (dK f5 R)) (dR 3 R (dQ R R) (dR 4 R (vB R) (dW 5 R (eB G) (vp (aJ g) R) (dW 6 R (eB G) (vI R) (dW 7 R (eB G) (vz (.int .u8 (bt g aa)) (cI f5 R R (b2 G).1 (b2 G).2)) (dW 8 R (eB G) (vS R) (dW 9 R (eB G) (vI R) (dW 10 R (eB G) (cK fd jf R R U) (dW 11 R (eB G) (vz (aJ (ix b q)) (gi (K := cV) (fo := 0) (pr := fun x => (aJ x)) 0 q ml (dT9.leaf fun _ _ => R) aE R U.1 U.2)) (dW 12 R (eB G) (vI R) (dW 13 R (eB G) (vz (.int .u8 (bt (ix b q) J)) (cI f5 R R (b3 G).1 (b3 G).2)) (dW 14 R (eB G) (vp (.bool ((bt g aa) != (bt (ix b q) J))) R) (dR 15 R (kx R G R) (dD ?_))))))))))))))))))
 exact qJ (fun w s => s)
 refine eI 16 [] cF (fun ht hn => (dR 0 R (vI R) (dR 1 R (vp (aJ g) R) (dR 2 R (vz (il g) (dK f5 R)) (dR 3 R (dQ R R) (dR 4 R (vB R) (dF 5 R (dV G) (dF 6 R (dV G) (dF 7 R (dV G) (dF 8 R (dV G) (dF 9 R (dV G) (dF 10 R (dV G) (dF 11 R (dV G) (dF 12 R (dV G) (dF 13 R (dV G) (dF 14 R (dV G) (dR 15 R (kn ((bt g aa) != (bt (ix b q) J)) R G) (dD ?_))))))))))))))))))
 exact qJ (fun w s => s)
 rintro σ1
 refine aB ?_
 rcases bG F with ⟨ap, F⟩ | ⟨ap, F⟩
 refine aL R ap (aN (aB (aM (aA (lI R (lO (cX R R) (lI R (aC (aZ ?_)))))))))
 obtain rfl := so F
 exact qA () (fun w s => s)
 refine aI R ap (bP (aR ?_))
 obtain rfl := so F
 obtain rfl := ch _ R
 have F := ci
 refine aR (bE ?_)
 exact qI (aa, ()) F (fun w s => s)
 rintro ⟨a6, _⟩ σ1 F
 replace F : Z2_J8 b i q g u J a6 = some al := F
 unfold Z2_J8 at F
 refine aD (bS (A := (aO × (List Int)) × (HH)) (fun a => Z2_J9 i q J a6 a.1.1 a.1.2 = some al) (fun a => [(0, (sc (ad a3 o117) b a1)), (2, (sc (ad T o113) i a2)), (9, (aJ a.1.1)), (10, (.slice a.2.1 a.2.2.1 a.2.2.2)), (11, (iv q)), (12, (iv J)), (13, (iv a6))]) (fun a => RR cV (ad a3 o117) a1 b :: RR cH (ad T o113) a2 i :: ow kT3 3 (.slice a.2.1 a.2.2.1 a.2.2.2) a.1.2 :: W0) ?_ ?_)
 refine aD (aA (lI R (lO (vp (aJ g) R) (lO (vz (il g) (dK f5 R)) (lO (ji R R) (aC (aB ?_)))))))
 rcases bG F with ⟨aq, F⟩ | ⟨aq, F⟩
 refine aL R aq (aD ?_)
 obtain ⟨aw, F⟩ := gd F
 obtain ⟨bi, F⟩ := gd F
 refine aA (lO (vp (aJ g) R) (lS R (lI R (lO (cK fd jf R R U) (lO (vz (aJ (ix b q)) (gi (K := cV) (fo := 0) (pr := fun x => (aJ x)) 0 q ml (dT9.leaf fun _ _ => R) aE R U.1 U.2)) (lI R (lI R (lO (cX R R) (lO (vz (aJ (sub (ix b q) J (aG (J + (1 : Int))))) (fz J (aG (J + (1 : Int))) f5 R R R aw.1 aw.2.1 aw.2.2)) (lO (vz (aJ (g ++ (sub (ix b q) J (aG (J + (1 : Int)))))) (oO R R bi)) (lO (vp (aJ (g ++ (sub (ix b q) J (aG (J + (1 : Int)))))) R) (aC (aB ?_)))))))))))))
 obtain ⟨bj, F⟩ := gd F
 refine aA (lS R (cC (K := kT3) (xs := ([(0 : Int)] : List Int)) (vs := [(iv 0)]) 0 R R aV bX fj R R R R R R ?_ R (fun bn bs => ?_)))
 exact fun I h s => (fw).list [((), (0 : Int))] I h s
 refine lN (OO kT3 3 bn bs ([(0 : Int)] : List Int) :: RR cV (ad a3 o117) a1 b :: _ :: OO kT3 3 a7 a8 u :: W0) ?_
 refine lM (ow _ _ _ _ :: ow _ _ _ _ :: aQ _ _ _ :: aQ _ _ _ :: W0) (fun w s => (s.e 4 [3, 0, 1, 2])) ?_
 refine f6 (K := kT3) 17592186044416 R R aV bX ii (Zr.zk zT3 fj) R R R R R R eM bj (fun b7 bb => (lN (OO kT3 3 b7 bb (u ++ ([(0 : Int)] : List Int)) :: _ :: _ :: W0) ?_))
 refine lS R (aC ?_)
 exact qI (((g ++ (sub (ix b q) J (aG (J + (1 : Int))))), (u ++ ([(0 : Int)] : List Int))), (b7, (u ++ ([(0 : Int)] : List Int)).length, bb)) F (fun w s => (s.e 3 [1, 2, 0]))
 refine aI R aq (aN ?_)
 exact qI ((g, u), (a7, u.length, a8)) F (fun w s => s)
 rintro ⟨⟨ae, j⟩, ⟨ai, c3, a9⟩⟩ σ1 F
 replace F : Z2_J9 i q J a6 ae j = some al := F
 unfold Z2_J9 at F
 refine cD 2 aH (fun (hn : c3 = j.length) => ?_)
 subst hn
 refine aD (aD ?_)
 obtain ⟨a0, F⟩ := gd F
 obtain ⟨ax, F⟩ := gd F
 refine cQ [(0, (sc (ad a3 o117) b a1)), (2, (sc (ad T o113) i a2)), (9, (aJ ae)), (10, (sc ai j a9)), (11, (iv q)), (12, (iv J)), (13, (iv a6)), (100, (.bool (((ix j a6) != (0 : Int)) && ((ix j a6) != (ix (ix i q) J)))))] (RR cV (ad a3 o117) a1 b :: RR cH (ad T o113) a2 i :: OO kT3 3 ai a9 j :: W0) ?_ ?_
 rcases bo ((ix j a6) != (0 : Int)) with E | E
 refine bZ 2 aH (show 0 < j.length by have := a0; omega) (fun be o182 ha => ?_)
 subst ha
 refine j0 (K := cH) 1 q dT24.dec R a4.1 a4.2 ?_
 rintro ⟨b8, bc⟩
 refine cN (cl T (o113 + q.toNat * 1) [(sc b8 (ix i q) bc)] :: RR kT3 b8 bc (ix i q) :: _ :: _ :: OO kT3 3 (ad be o182) a9 j :: W0) ?_
 refine bZ 1 aE (show 0 < (ix i q).length by have := (ax E); omega) (fun cp o186 ha => ?_)
 subst ha
 refine eI 19 [] cF (fun ht hn => (dR 0 R (vS R) (dR 1 R (vI R) (dR 2 R (cK aV bX R R a0) (dR 3 R (dL 4 cE aH R a0) (dR 4 R (ig R R) (dR 5 R (vB R) (dW 6 R (eB E) (vS R) (dW 7 R (eB E) (vI R) (dW 8 R (eB E) (cK aV bX R R a0) (dW 9 R (eB E) (dL 4 cE aH R a0) (dW 10 R (eB E) (vS R) (dW 11 R (eB E) (vI R) (dW 12 R (eB E) (cK gR fk R R a4) (dW 13 R (eB E) (iG (fo := 0) 0 bK R R R) (dW 14 R (eB E) (vI R) (dW 15 R (eB E) (cK aV bX R R (ax E)) (dW 16 R (eB E) (dL 1 cE aE R (ax E)) (dW 17 R (eB E) (ig R R) (dR 18 R (kx R E R) (dD ?_)))))))))))))))))))))
 exact qJ (fun w s => (s.f 5 [2, 3]))
 refine bZ 2 aH (show 0 < j.length by have := a0; omega) (fun be o182 ha => ?_)
 subst ha
 refine eI 19 [] cF (fun ht hn => (dR 0 R (vS R) (dR 1 R (vI R) (dR 2 R (cK aV bX R R a0) (dR 3 R (dL 2 cE aH R a0) (dR 4 R (ig R R) (dR 5 R (vB R) (dF 6 R (dV E) (dF 7 R (dV E) (dF 8 R (dV E) (dF 9 R (dV E) (dF 10 R (dV E) (dF 11 R (dV E) (dF 12 R (dV E) (dF 13 R (dV E) (dF 14 R (dV E) (dF 15 R (dV E) (dF 16 R (dV E) (dF 17 R (dV E) (dR 18 R (kn ((ix j a6) != (ix (ix i q) J)) R E) (dD ?_)))))))))))))))))))))
 exact qJ (fun w s => s)
 rintro σ1
 refine aB ?_
 rcases bG F with ⟨ar, F⟩ | ⟨ar, F⟩
 refine aL R ar (aD (aA (lS R (lO (vp (aJ ([] : aO)) R) (lS R (lB R (aC (aB (aW (bA (bB (bA ?_))))))))))))
 obtain rfl := so F
 obtain rfl := c8 _ R
 have F := ca
 refine bA (bB (bB (bA ?_)))
 obtain rfl := so F
 obtain rfl := bh _ R
 have F := bl
 refine bA (bB (bA ?_))
 obtain rfl := so F
 exact bU (vs := [(aJ ([] : aO)), (sc ai j a9), (.bool false)]) (.inl R) (ai, j.length, a9) R ⟨R, R, R, trivial⟩ R (fun w s => (s.e 5 [2]))
 refine aI R ar (aN (aB ?_))
 obtain ⟨ay, F⟩ := gd F
 refine aA (lS R (lI R (lS R (lI R (lO (cK gR fk R R a4) (ib (K := cH) 1 q dT24.dec R a4.1 a4.2 ?_))))))
 rintro ⟨b9, b0⟩
 refine lN (cl T (o113 + q.toNat * 1) [(sc b9 (ix i q) b0)] :: RR kT3 b9 b0 (ix i q) :: _ :: _ :: OO kT3 3 ai a9 j :: W0) ?_
 refine lO (iG (fo := 0) 0 bK R R R) (lI R (bY 1 aE (show 0 < (ix i q).length by have := ay; omega) (fun bf o192 ha => ?_)))
 subst ha
 refine lO (cK aV bX R R ay) (lO (dL 1 cE aE R ay) (bY 4 aH (show 0 < j.length by have := a0; omega) (fun b1 o194 ha => ?_)))
 subst ha
 refine lO (cK aV bX R R a0) (lM (OO kT3 3 (ad b1 o194) a9 j :: cl T (o113 + q.toNat * 1) [(sc (ad bf o192) (ix i q) b0)] :: RR kT3 (ad bf o192) b0 (ix i q) :: aQ _ _ _ :: aQ _ _ _ :: W0) (fun w s => (s.f 5 [4, 1, 0, 4])) ?_)
 refine eG (K := kT3) (x' := (ix (ix i q) J)) 0 a6 R R bX R R a0.1 a0.2 ?_ ?_
 exact fun I h s => (fw).put I h () (ix (ix i q) J) s
 refine lN (ow kT3 3 (.slice (ad b1 o194) j.length a9) (j.set a6.toNat (ix (ix i q) J)) :: _ :: _ :: _ :: _ :: W0) ?_
 refine aC (aZ (aB (aA (lI R (lO (cX R R) (lI R (aC ?_)))))))
 obtain rfl := so F
 exact qA ((ad b1 o194), j.length, a9) (fun w s => (s.e 5 [3, 4, 0]))
 refine aI R ao (bP (aR ?_))
 obtain rfl := so F
 obtain rfl := c8 _ R
 have F := ca
 refine aR (bE (aZ ?_))
 exact qI ((g, u), (((ad a3 o117), b.length, a1), ((ad T o113), i.length, a2), (a7, u.length, a8))) F (fun w s => s)
 rintro ⟨⟨ak, a5⟩, ⟨⟨bp, c4, bu⟩, ⟨bq, c5, bv⟩, ⟨br, c6, bw⟩⟩⟩ σ1 F
 replace F : Z2_J10 q ak a5 = some b4 := F
 unfold Z2_J10 at F
 refine cD 0 aE (fun (hn : c4 = b.length) => ?_)
 subst hn
 refine cD 1 aE (fun (hn : c5 = i.length) => ?_)
 subst hn
 refine cD 2 aH (fun (hn : c6 = a5.length) => ?_)
 subst hn
 refine aA (lI R (lO (cX R R) (lI R (aC ?_))))
 obtain rfl := so F
 exact qA ((bp, b.length, bu), (bq, i.length, bv), (br, a5.length, bw)) (fun w s => s)
 refine aI R am (bP (aR ?_))
 obtain rfl := so F
 obtain rfl := bh _ R
 have F := bl
 refine aR (bE ?_)
 exact qI ((ac, L), (ah, L.length, aj)) F (fun w s => (s.e 3 [2]))
 rintro ⟨⟨M, D⟩, ⟨ag, c7, ab⟩⟩ σ1 F
 replace F : Z2_J11 M D = some r := F
 unfold Z2_J11 at F
 refine cD 0 aH (fun (hn : c7 = D.length) => ?_)
 subst hn
 refine aD (aA (lI R (aC (aB (aD (bS (A := (Unit) × (Unit)) (fun a => Z2_J12 M D = some r) (fun a => [(9, (aJ M)), (10, (sc ag D ab))]) (fun a => OO kT3 3 ag ab D :: W0) ?_ ?_))))))
 refine aD (aA (lI R (aC (aB (aM ?_)))))
 obtain ⟨e4, cn, cb⟩ := bd F
 refine bQ (A := Unit) cn (fun s a => [(9, (aJ M)), (10, (sc ag D ab)), (14, (iv s.1)), (15, (iv s.2))]) (fun s a => OO kT3 3 ag ab D :: W0) () (aS R) (fun w s => s) ?_
 rintro ⟨b5, cc⟩ _ σ1 cg F c9
 replace F : Z2_L4 D b5 cc = some cg := F
 unfold Z2_L4 at F
 refine aD (aD (aA (lI R (lS R (lO (bR aV R) (lO (dQ R R) (aC (aB ?_))))))))
 rcases bG F with ⟨au, F⟩ | ⟨au, F⟩
 refine aL R au (aN (aB (aD (aM (aD ?_)))))
 obtain ⟨az, F⟩ := gd F
 refine aA (lI R (lS R (lI R (bY 0 aH (show 0 < D.length by have := az; omega) (fun bg o223 ha => ?_)))))
 subst ha
 refine lO (cK aV bX R R az) (lO (dL 0 cE aH R az) (lO (f9 R R) (lI R (aC (aB (aD (aA (lI R (lO (iw R R) (aC (aB ?_)))))))))))
 rcases bG F with ⟨av, F⟩ | ⟨av, F⟩
 refine aL R av (aD (aA (lS R (lO (vp (aJ ([] : aO)) R) (lS R (lB R (aC (aB (aW (bB (bA ?_)))))))))))
 obtain rfl := so F
 obtain rfl := c9 _ R
 have F := cb
 refine bA (bB (bA ?_))
 obtain rfl := so F
 exact bU (vs := [(aJ ([] : aO)), (sc (ad bg o223) D ab), (.bool false)]) (.inl R) ((ad bg o223), D.length, ab) R ⟨R, R, R, trivial⟩ R (fun w s => (s.e 3 [0]))
 refine aI R av (aN (aZ (aB (aA (lI R (lO (cX R R) (lI R (aC ?_))))))))
 obtain rfl := so F
 exact qA () (fun w s => s)
 refine aI R au (bP (aR ?_))
 obtain rfl := so F
 obtain rfl := c9 _ R
 have F := cb
 refine aR (bE ?_)
 exact qI ((), ()) F (fun w s => s)
 rintro ⟨_, _⟩ σ1 F
 replace F : Z2_J12 M D = some r := F
 unfold Z2_J12 at F
 refine aD (aA (lO (vp (aJ M) R) (lS R (lO (vp (aJ M) R) (lS R (lB R (aC (aB (aW ?_)))))))))
 obtain rfl := so F
 exact bU (vs := [(aJ M), (sc ag D ab), (.bool true)]) (.inl R) (ag, D.length, ab) R ⟨R, R, R, trivial⟩ R (fun w s => (s.e 3 [0]))
theorem Zf_ok  {i : aO} {g : aO} {b : (List Int)} {r : (List Int)} (j : Zf i g b = some r) :
 FnOk Tryz.prog 87 [(aJ i), (aJ g), (.slice A4 N4 D4)] [aQ kT3 (.slice A4 N4 D4) b] (fun (h : HH) => ((.slice h.1 h.2.1 h.2.2), [ow kT3 3 (.slice h.1 h.2.1 h.2.2) r])) := by
 unfold Zf at j
 refine bN Tryz.func87 R 38 R R fun C V => ?_
 refine cN (_ :: V) ?_
 refine cL 0 aE ?_
 rintro rfl
 let T : List HP := RR kT3 A4 D4 b :: V
 refine cN T ?_
 refine aD (aA (lS R (aC (aB (aD (aA (cC (K := kT3) (xs := ([] : List Int)) (vs := []) 0 R R aV bX fj R R R R R R ?_ R (fun A5 D5 => ?_))))))))
 exact fun I h s => (fw).list [] I h s
 refine lN (OO kT3 3 A5 D5 ([] : List Int) :: T) ?_
 refine lS R (aC (aB (aD (bS (A := ((List Int)) × (HH)) (fun a => Zf_J7 a.1 = some r) (fun a => [(7, (.slice a.2.1 a.2.2.1 a.2.2.2))]) (fun a => ow kT3 3 (.slice a.2.1 a.2.2.1 a.2.2.2) a.1 :: T) ?_ ?_))))
 refine aD (aA (lI R (aC (aB (aM ?_)))))
 obtain ⟨e1, ax, av⟩ := bd j
 refine bQ (A := HH) ax (fun s a => [(0, (aJ i)), (1, (aJ g)), (2, (sc A4 b D4)), (7, (.slice a.1 a.2.1 a.2.2)), (8, (iv s.2))]) (fun s a => ow kT3 3 (.slice a.1 a.2.1 a.2.2) s.1 :: T) (A5, ([] : List Int).length, D5) (aS R) (fun w s => s) ?_
 rintro ⟨M, u⟩ ⟨a7, am, a9⟩ σ1 J j ar
 replace j : Zf_L1 i g b M u = some J := j
 unfold Zf_L1 at j
 refine cD 0 aH (fun (U : am = M.length) => ?_)
 subst U
 refine aD (aD (aA (lI R (lO (vp (aJ i) R) (lO (vz (il i) (dK f5 R)) (lO (dQ R R) (aC (aB ?_))))))))
 rcases bG j with ⟨D, j⟩ | ⟨D, j⟩
 refine aL R D (aN (aB (aD (bS (A := ((List Int)) × (HH)) (fun a => Zf_J6 u a.1 = some J) (fun a => [(0, (aJ i)), (1, (aJ g)), (2, (sc A4 b D4)), (7, (.slice a.2.1 a.2.2.1 a.2.2.2)), (8, (iv u))]) (fun a => ow kT3 3 (.slice a.2.1 a.2.2.1 a.2.2.2) a.1 :: T) ?_ ?_))))
 refine aM (aD (aA (lI R (aC (aB (aM ?_))))))
 obtain ⟨e2, ay, aw⟩ := bd j
 refine bQ (A := HH) ay (fun s a => [(0, (aJ i)), (1, (aJ g)), (2, (sc A4 b D4)), (7, (.slice a.1 a.2.1 a.2.2)), (8, (iv u)), (9, (iv s.2))]) (fun s a => ow kT3 3 (.slice a.1 a.2.1 a.2.2) s.1 :: T) (a7, M.length, a9) (aS R) (fun w s => s) ?_
 rintro ⟨q, m⟩ ⟨a2, an, a3⟩ σ1 L j au
 replace j : Zf_L2 i g b u q m = some L := j
 unfold Zf_L2 at j
 refine cD 0 aH (fun (U : an = q.length) => ?_)
 subst U
 refine aD (aD (aA (lI R (lO (vp (aJ g) R) (lO (vz (il g) (dK f5 R)) (lO (dQ R R) (aC (aB ?_))))))))
 rcases bG j with ⟨E, j⟩ | ⟨E, j⟩
 refine aL R E (aN (aB (aD (bS (A := ((List Int)) × (HH)) (fun a => Zf_J5 m a.1 = some L) (fun a => [(0, (aJ i)), (1, (aJ g)), (2, (sc A4 b D4)), (7, (.slice a.2.1 a.2.2.1 a.2.2.2)), (8, (iv u)), (9, (iv m))]) (fun a => ow kT3 3 (.slice a.2.1 a.2.2.1 a.2.2.2) a.1 :: T) ?_ ?_))))
 refine aM (aD ?_)
 obtain ⟨a0, j⟩ := gd j
 obtain ⟨a1, j⟩ := gd j
 refine eI 7 [] cF (fun ht U => (dR 0 R (vp (aJ g) R) (dR 1 R (vI R) (dR 2 R (vz (.int .u8 (bt g m)) (cI f5 R R a0.1 a0.2)) (dR 3 R (vp (aJ i) R) (dR 4 R (vI R) (dR 5 R (vz (.int .u8 (bt i u)) (cI f5 R R a1.1 a1.2)) (dR 6 R (vp (.bool ((bt g m) == (bt i u))) R) (dD (aB ?_))))))))))
 rcases bG j with ⟨F, j⟩ | ⟨F, j⟩
 refine aL R F ?_
 obtain ⟨G, j⟩ := gd j
 obtain ⟨ab, j⟩ := gd j
 refine aA (lS R (lS R (lI R (bY 1 aE (show 0 < b.length by have := G; omega) (fun az o64 ha => ?_)))))
 subst ha
 refine lO (cK aV bX R R G) (lO (dL 1 cE aE R G) (cC (K := kT3) (xs := ([(ix b m)] : List Int)) (vs := [(iv (ix b m))]) 0 R R aV bX fj R R R R R R ?_ R (fun ac ai => ?_)))
 exact fun I h s => (fw).list [((), (ix b m))] I h s
 refine lN (OO kT3 3 ac ai ([(ix b m)] : List Int) :: OO kT3 3 a2 a3 q :: T) ?_
 refine lM (ow _ _ _ _ :: ow _ _ _ _ :: T) (fun w s => (s.e 2 [1, 0])) ?_
 refine f6 (K := kT3) 17592186044416 R R aV bX ii (Zr.zk zT3 fj) R R R R R R eM ab (fun a8 aa => (lN (OO kT3 3 a8 aa (q ++ ([(ix b m)] : List Int)) :: T) ?_))
 refine lS R (aC (aZ ?_))
 exact qI ((q ++ ([(ix b m)] : List Int)), (a8, (q ++ ([(ix b m)] : List Int)).length, aa)) j (fun w s => s)
 refine aI R F (aN (aZ ?_))
 exact qI (q, (a2, q.length, a3)) j (fun w s => s)
 rintro ⟨a4, ⟨ae, ao, aj⟩⟩ σ1 j
 replace j : Zf_J5 m a4 = some L := j
 unfold Zf_J5 at j
 refine cD 0 aH (fun (U : ao = a4.length) => ?_)
 subst U
 refine aA (lI R (lO (cX R R) (lI R (aC ?_))))
 obtain rfl := so j
 exact qA (ae, a4.length, aj) (fun w s => s)
 refine aI R E (bP (aR ?_))
 obtain rfl := so j
 obtain rfl := au _ R
 have j := aw
 refine aR (bE (aZ ?_))
 exact qI (q, (a2, q.length, a3)) j (fun w s => s)
 rintro ⟨a5, ⟨ag, ap, ak⟩⟩ σ1 j
 replace j : Zf_J6 u a5 = some J := j
 unfold Zf_J6 at j
 refine cD 0 aH (fun (U : ap = a5.length) => ?_)
 subst U
 refine aA (lI R (lO (cX R R) (lI R (aC ?_))))
 obtain rfl := so j
 exact qA (ag, a5.length, ak) (fun w s => s)
 refine aI R D (bP (aR ?_))
 obtain rfl := so j
 obtain rfl := ar _ R
 have j := av
 refine aR (bE ?_)
 exact qI (M, (a7, M.length, a9)) j (fun w s => s)
 rintro ⟨a6, ⟨ah, aq, al⟩⟩ σ1 j
 replace j : Zf_J7 a6 = some r := j
 unfold Zf_J7 at j
 refine cD 0 aH (fun (U : aq = a6.length) => ?_)
 subst U
 refine aD (aA (lS R (lS R (aC (aB (aW ?_))))))
 obtain rfl := so j
 exact qF (ah, a6.length, al) (fun w s => (s.e 2 [0]))
theorem Z4_ok  {aj : aO} {i : (List Tensor)} {r : Tensor} (b : Z4 aj i = some r) :
 FnOk Tryz.prog 21 [(aJ aj), (.slice A3 N3 D3)] [aQ eO (.slice A3 N3 D3) i] (fun (h : HH × HH) => ((.agg [(.slice h.1.1 h.1.2.1 h.1.2.2), (.slice h.2.1 h.2.2.1 h.2.2.2)].toArray), [ow kT3 3 (.slice h.1.1 h.1.2.1 h.1.2.2) r.Dims, ow kT3 3 (.slice h.2.1 h.2.2.1 h.2.2.2) r.Data])) := by
 unfold Z4 at b
 refine bN Tryz.func21 R 142 R R fun C V => ?_
 refine cN (_ :: V) ?_
 refine cL 0 aE ?_
 rintro rfl
 let M : List HP := RR eO A3 D3 i :: V
 refine cN M ?_
 refine aD (aA (bM R R dC (fun b4 => (aC (aB (aD ?_))))))
 obtain ⟨m, d0, b⟩ := bd b
 refine aA (lO (vp (aJ aj) R) (lC 0 xG R (Z0_ok d0) R ?_))
 rintro ⟨A7, N7, D7⟩
 refine lN (ow cV 9 (.slice A7 N7 D7) m.1 :: _ :: M) ?_
 refine aY 0 aH ?_
 rintro rfl
 refine lO (vT R) (lS R (lO (vp (aJ m.2.1) R) (lB R (lS R (lO (vp (aJ m.2.1) R) (lB R (aC (aB (aD (aD (cQ [(1, (sc A3 i D3)), (4, (pt b4 0)), (5, (sc A7 m.1 D7)), (6, (aJ m.2.1)), (35, (.bool ((!m.2.2) || ((m.1.length : Int) != (i.length : Int)))))] (aK b4 [(.slice none 0 0), (.slice none 0 0)] 26 :: OO cV 9 A7 D7 m.1 :: M) ?_ ?_)))))))))))
 refine aA (lB R (lO (ft R) (lB R ?_)))
 rcases bo (!m.2.2) with a5 | a5
 refine lf (aT a5) (lf (aT a5) (lf (aT a5) (lf (aT a5) (lf (aT a5) (lO (cW ((m.1.length : Int) != (i.length : Int)) R a5) (aC ?_))))))
 exact qJ (fun w s => (s.e 2 [1, 0]))
 refine lW (bI a5) (vS R) (lW (bI a5) (bR fd R) (lW (bI a5) (vS R) (lW (bI a5) (bR ij R) (lW (bI a5) (ig R R) (lO (eS R a5 R) (aC ?_))))))
 exact qJ (fun w s => (s.e 2 [1, 0]))
 rintro σ1
 refine aB ?_
 rcases bG b with ⟨bg, b⟩ | ⟨bg, b⟩
 refine aL R bg (aD (aA (lO (vz (.agg [(.slice none 0 0), (.slice none 0 0)].toArray) (bW fF dC R R)) (aU 0 R R bO R R R R R R (aC (aB (aW (bA ?_))))))))
 obtain rfl := so b
 exact bU (vs := [(.agg [(.slice none 0 0), (.slice none 0 0)].toArray)]) (.inl R) ((none, 0, 0), (none, 0, 0)) R ⟨⟨0, b4, _, _, R, R, .inl ⟨cJ, bO, R⟩⟩, trivial⟩ R (fun w s => (((s.nilo kT3 3).nilo kT3 3).e 5 [1, 0]))
 refine aI R bg (aN (aB (aD (aA (cC (K := cH) (xs := ([] : List (List Int))) (vs := []) 0 R R gR fk oc R R R R R R ?_ R (fun A10 D10 => ?_))))))
 exact fun I h s => (vo).list [] I h s
 refine lN (OO cH 24 A10 D10 ([] : List (List Int)) :: _ :: _ :: M) ?_
 refine lS R (aC (aB (aD (bS (A := ((List (List Int))) × (HH)) (fun a => Z4_J1 i m a.1 = some r) (fun a => [(1, (sc A3 i D3)), (4, (pt b4 0)), (5, (sc A7 m.1 D7)), (6, (aJ m.2.1)), (8, (.slice a.2.1 a.2.2.1 a.2.2.2))]) (fun a => aK b4 [(.slice none 0 0), (.slice none 0 0)] 26 :: OO cV 9 A7 D7 m.1 :: ow (cH).share 24 (.slice a.2.1 a.2.2.1 a.2.2.2) a.1 :: M) ?_ ?_))))
 refine aD (aA (lI R (aC (aB (aM ?_)))))
 obtain ⟨e1, cw, c6⟩ := bd b
 refine bQ (A := HH) cw (fun s a => [(1, (sc A3 i D3)), (4, (pt b4 0)), (5, (sc A7 m.1 D7)), (6, (aJ m.2.1)), (8, (.slice a.1 a.2.1 a.2.2)), (9, (iv s.2))]) (fun s a => aK b4 [(.slice none 0 0), (.slice none 0 0)] 26 :: OO cV 9 A7 D7 m.1 :: ow (cH).share 24 (.slice a.1 a.2.1 a.2.2) s.1 :: M) (A10, ([] : List (List Int)).length, D10) (aS R) (fun w s => ((s.wk 0 R).e 3 [1, 2, 0])) ?_
 rintro ⟨T, U⟩ ⟨bn, ck, bs⟩ σ1 cb b c4
 replace b : Z4_L1 i T U = some cb := b
 unfold Z4_L1 at b
 refine cD 2 iH (fun (hn : ck = T.length) => ?_)
 subst hn
 refine aD (aD (aA (lI R (lS R (lO (bR ij R) (lO (dQ R R) (aC (aB ?_))))))))
 rcases bG b with ⟨az, b⟩ | ⟨az, b⟩
 refine aL R az (aN (aB (aD (aM (aD (aD ?_))))))
 obtain ⟨ah, b⟩ := gd b
 obtain ⟨d6, c7, b⟩ := bd b
 refine aA (lS R (lI R (bY 3 aE (show 0 < i.length by have := ah; omega) (fun c3 o29 ha => ?_))))
 subst ha
 refine lO (cK ij bO R R ah) (ib (K := eO) 3 U dT26.dec R ah.1 ah.2 ?_)
 rintro ⟨⟨av, ax⟩, ⟨bb, be⟩⟩
 refine lN (cl c3 (o29 + U.toNat * 2) [(sc av ((ix i U).Dims) ax), (sc bb ((ix i U).Data) be)] :: RR kT3 av ax ((ix i U).Dims) :: RR kT3 bb be ((ix i U).Data) :: _ :: _ :: OO (cH).share 24 bn bs T :: M) ?_
 refine lO (vz (.agg [(sc av ((ix i U).Dims) ax), (sc bb ((ix i U).Data) be)].toArray) (jV (fo := 0) 0 cJ bO R R R R)) (lM (aQ _ _ _ :: aQ _ _ _ :: cl _ _ _ :: aQ _ _ _ :: aQ _ _ _ :: aK _ _ _ :: ow _ _ _ _ :: ow _ _ _ _ :: M) (fun w s => (((s.d 1 R).d 3 R).f 8 [1, 1, 0, 1, 2, 6])) ?_)
 refine lC 2 pk R (Zm_ok c7) R ?_
 rintro _
 refine lN (_ :: _ :: _ :: _ :: _ :: _ :: M) ?_
 refine lO (ft R) (aC (aB ?_))
 rcases bG b with ⟨b0, b⟩ | ⟨b0, b⟩
 refine aL R b0 (aD (aA (lO (vz (.agg [(.slice none 0 0), (.slice none 0 0)].toArray) (bW fF dC R R)) (aU 3 R R bO R R R R R R (aC (aB (aW (bA (bB (bA ?_))))))))))
 obtain rfl := so b
 obtain rfl := c4 _ R
 have b := c6
 refine bA (bB (bA ?_))
 obtain rfl := so b
 exact bU (vs := [(.agg [(.slice none 0 0), (.slice none 0 0)].toArray)]) (.inl R) ((none, 0, 0), (none, 0, 0)) R ⟨⟨3, b4, _, _, R, R, .inl ⟨cJ, bO, R⟩⟩, trivial⟩ R (fun w s => (((s.nilo kT3 3).nilo kT3 3).e 9 [1, 0]))
 refine aI R b0 (aN (aB ?_))
 obtain ⟨c5, b⟩ := gd b
 refine aA (lS R (lS R (lI R (lO (cK ij bO R R ah) (lO (vz (.pointer (some ⟨c3, o29 + U.toNat * 2, none⟩)) (vd cG R R)) (lO (iG (fo := 0) 0 bK R R R) (lM (_ :: _ :: _ :: _ :: _ :: _ :: _ :: M) (fun w s => (s.d 1 R)) ?_)))))))
 refine cC (K := (cH).share) (xs := ([(ix i U).Dims] : List (List Int))) (vs := [(sc av ((ix i U).Dims) ax)]) 1 R R gR fk oc R R R R R R ?_ R (fun ci cj => ?_)
 exact fun I h s => (rn).list [((sc av ((ix i U).Dims) ax), (ix i U).Dims)] I h s
 refine lN (OO (cH).share 24 ci cj ([(ix i U).Dims] : List (List Int)) :: _ :: _ :: _ :: _ :: _ :: _ :: M) ?_
 refine lM (ow _ _ _ _ :: ow _ _ _ _ :: cl _ _ _ :: aQ _ _ _ :: aQ _ _ _ :: aK _ _ _ :: ow _ _ _ _ :: M) (fun w s => (s.f 7 [6, 1, 0, 6])) ?_
 refine f6 (K := (cH).share) 5864062014805 R R gR fk tY (Zr.zk (Zr.share tK) oc) R R R R R R eM c5 (fun bp bu => (lN (OO (cH).share 24 bp bu (T ++ ([(ix i U).Dims] : List (List Int))) :: _ :: _ :: _ :: _ :: _ :: M) ?_))
 refine lS R (aC (aZ (aB (aA (lI R (lO (cX R R) (lI R (aC ?_))))))))
 obtain rfl := so b
 exact qA (bp, (T ++ ([(ix i U).Dims] : List (List Int))).length, bu) (fun w s => (s.e 6 [4, 5, 0]))
 refine aI R az (bP (aR ?_))
 obtain rfl := so b
 obtain rfl := c4 _ R
 have b := c6
 refine aR (bE ?_)
 exact qI (T, (bn, T.length, bs)) b (fun w s => s)
 rintro ⟨a3, ⟨bc, cm, bf⟩⟩ σ1 b
 replace b : Z4_J1 i m a3 = some r := b
 unfold Z4_J1 at b
 refine cD 2 iH (fun (hn : cm = a3.length) => ?_)
 subst hn
 refine aD ?_
 obtain ⟨j, c8, b⟩ := bd b
 refine aA (lS R (lO (vp (aJ m.2.1) R) (lS R (lM (ow _ _ _ _ :: OO (cH).share 24 bc bf a3 :: aK _ _ _ :: M) (fun w s => (s.e 3 [1, 2, 0])) ?_))))
 refine lC 2 xH R (FnOk.lends (A' := [OO cV 9 A7 D7 m.1, OO (cH).share 24 bc bf a3]) (A := [RR cV A7 D7 m.1, RR cH bc bf a3]) (B := []) (Z2_ok c8) ⟨bD, jw, trivial⟩ (fun _ => ⟨(bL fM), trivial⟩)) R ?_
 rintro ⟨a1, cn, a2⟩
 refine lN (_ :: _ :: ow kT3 3 (.slice a1 cn a2) j.2.1 :: _ :: M) ?_
 refine aY 2 aH ?_
 rintro rfl
 refine lO (vT R) (lO (vp (aJ j.1) R) (lS R (lB R (lO (vp (aJ j.1) R) (lS R (lB R (aC (aB (aD (aD ?_))))))))))
 obtain ⟨b3, b⟩ := gd b
 obtain ⟨cg, c9, b⟩ := bd b
 refine cQ [(1, (sc A3 i D3)), (4, (pt b4 0)), (5, (sc A7 m.1 D7)), (6, (aJ m.2.1)), (10, (aJ j.1)), (11, (sc a1 j.2.1 a2)), (76, (.bool ((!j.2.2) || (!cg))))] (aK b4 [(.slice none 0 0), (.slice none 0 0)] 26 :: OO cV 9 A7 D7 m.1 :: RR kT3 a1 a2 j.2.1 :: M) ?_ ?_
 refine aA (lB R (lO (ft R) (lB R ?_)))
 rcases bo (!j.2.2) with q | q
 refine lf (aT q) (lf (aT q) (lf (aT q) (lf (aT q) (lf (aT q) (lf (aT q) (lO (cW (!cg) R q) (aC ?_)))))))
 exact qJ (fun w s => ((s.shr 2 R).e 4 [3, 1, 0]))
 refine lW (bI q) (vS R) (lW (bI q) (vp (aJ m.2.1) R) (lW (bI q) (vz (il m.2.1) (dK f5 R)) (ie (fun w s => s.shr 2 R) (gM (K := kT3) (0 : Int) (m.2.1.length : Int) 0 R (bI q) aV bX R R R R (b3 q).1 (b3 q).2.1 (b3 q).2.2 (fun bq bv => (lM (RR kT3 bq bv (sub j.2.1 (0 : Int) (m.2.1.length : Int)) :: RR kT3 bq bv (sub j.2.1 (0 : Int) (m.2.1.length : Int)) :: RR kT3 a1 a2 j.2.1 :: _ :: _ :: _ :: M) (fun w s => (s.d 0 R)) ?_))))))
 refine cU 1 R (bI q) lY R (Z0c_ok (cZ c9 (dY q))) R ?_
 rintro _
 refine lN (_ :: _ :: _ :: _ :: _ :: M) ?_
 refine lW (bI q) (ft R) (lO (eS R q R) (aC ?_))
 exact qJ (fun w s => (s.e 5 [4, 2, 1]))
 rintro σ1
 refine aB ?_
 rcases bG b with ⟨b1, b⟩ | ⟨b1, b⟩
 refine aL R b1 (aD (aA (lO (vz (.agg [(.slice none 0 0), (.slice none 0 0)].toArray) (bW fF dC R R)) (aU 0 R R bO R R R R R R (lN (_ :: _ :: _ :: M) ?_)))))
 refine aC (aB (aW (bA ?_)))
 obtain rfl := so b
 exact bU (vs := [(.agg [(.slice none 0 0), (.slice none 0 0)].toArray)]) (.inl R) ((none, 0, 0), (none, 0, 0)) R ⟨⟨0, b4, _, _, R, R, .inl ⟨cJ, bO, R⟩⟩, trivial⟩ R (fun w s => (((s.nilo kT3 3).nilo kT3 3).e 6 [1, 0]))
 refine aI R b1 (aN (aB (aD ?_)))
 obtain ⟨b5, b⟩ := gd b
 obtain ⟨g, ca, b⟩ := bd b
 refine aA (lS R (lO (vp (aJ m.2.1) R) (lO (vz (il m.2.1) (dK f5 R)) (gM (K := kT3) (0 : Int) (m.2.1.length : Int) 2 R R aV bX R R R R b5.1 b5.2.1 b5.2.2 (fun br bw => (lM (RR kT3 br bw (sub j.2.1 (0 : Int) (m.2.1.length : Int)) :: RR kT3 br bw (sub j.2.1 (0 : Int) (m.2.1.length : Int)) :: _ :: _ :: _ :: M) (fun w s => (s.d 0 R)) ?_))))))
 refine lC 1 rp R (Z0m_ok ca) R ?_
 rintro ⟨⟨F, co, G⟩, ⟨L, cp, u⟩⟩
 refine lN (ow kT3 3 (.slice F co G) g.Dims :: ow kT3 3 (.slice L cp u) g.Data :: _ :: _ :: _ :: _ :: M) ?_
 refine aY 0 aH ?_
 rintro rfl
 refine aY 1 aH ?_
 rintro rfl
 refine bM R R dC (fun a0 => (aU 0 R R bO R R R R R R (lN (aK a0 [(sc F g.Dims G), (sc L g.Data u)] 26 :: _ :: _ :: _ :: _ :: _ :: _ :: M) ?_)))
 refine aC (aB (aD (aA (lI R (aC (aB (aD (bS (A := (Int) × (Unit)) (fun a => Z4_J2 i m j g a.1 = some r) (fun a => [(1, (sc A3 i D3)), (4, (pt b4 0)), (5, (sc A7 m.1 D7)), (6, (aJ m.2.1)), (10, (aJ j.1)), (11, (sc a1 j.2.1 a2)), (13, (pt a0 0)), (14, (iv a.1))]) (fun a => aK b4 [(.slice none 0 0), (.slice none 0 0)] 26 :: OO cV 9 A7 D7 m.1 :: RR kT3 a1 a2 j.2.1 :: aK a0 [(sc F g.Dims G), (sc L g.Data u)] 26 :: OO kT3 3 F G g.Dims :: OO kT3 3 L u g.Data :: M) ?_ ?_))))))))
 refine aD (aA (lI R (aC (aB (aM ?_)))))
 obtain ⟨e2, cx, ct⟩ := bd b
 refine bQ (A := Unit) cx (fun s a => [(1, (sc A3 i D3)), (4, (pt b4 0)), (5, (sc A7 m.1 D7)), (6, (aJ m.2.1)), (10, (aJ j.1)), (11, (sc a1 j.2.1 a2)), (13, (pt a0 0)), (14, (iv s.1)), (15, (iv s.2))]) (fun s a => aK b4 [(.slice none 0 0), (.slice none 0 0)] 26 :: OO cV 9 A7 D7 m.1 :: RR kT3 a1 a2 j.2.1 :: aK a0 [(sc F g.Dims G), (sc L g.Data u)] 26 :: OO kT3 3 F G g.Dims :: OO kT3 3 L u g.Data :: M) () (aS R) (fun w s => (s.f 7 [4, 3, 0, 3])) ?_
 rintro ⟨ar, d2⟩ _ σ1 cc b cq
 replace b : Z4_L2 j ar d2 = some cc := b
 unfold Z4_L2 at b
 refine aD (aD (aA (lI R (lS R (lO (bR aV R) (lO (dQ R R) (aC (aB ?_))))))))
 rcases bG b with ⟨b2, b⟩ | ⟨b2, b⟩
 refine aL R b2 (aN (aB (aD (aM ?_))))
 obtain ⟨b6, b⟩ := gd b
 refine aA (lI R (lS R (lI R (bY 2 aE (show 0 < j.2.1.length by have := b6; omega) (fun d5 o68 ha => ?_)))))
 subst ha
 refine lO (cK aV bX R R b6) (lO (dL 2 cE aE R b6) (lO (f9 R R) (lI R (aC (aZ (aB (aA (lI R (lO (cX R R) (lI R (aC ?_)))))))))))
 obtain rfl := so b
 exact qA () (fun w s => s)
 refine aI R b2 (bP (aR ?_))
 obtain rfl := so b
 obtain rfl := cq _ R
 have b := ct
 refine aR (bE ?_)
 exact qI (ar, ()) b (fun w s => s)
 rintro ⟨a4, _⟩ σ1 b
 replace b : Z4_J2 i m j g a4 = some r := b
 unfold Z4_J2 at b
 refine aD (bS (A := ((List Int)) × (Unit)) (fun a => Z4_J5 g a.1 = some r) (fun a => [(4, (pt b4 0)), (13, (pt a0 0))]) (fun a => aK b4 [(.slice none 0 0), (.slice none 0 0)] 26 :: aK a0 [(sc F g.Dims G), (sc L g.Data u)] 26 :: OO kT3 3 F G g.Dims :: ow kT3 3 (.slice L g.Data.length u) a.1 :: M) ?_ ?_)
 refine aD (aA (lI R (aC (aB (aM ?_)))))
 obtain ⟨e3, cy, cu⟩ := bd b
 refine bQ (A := Unit) cy (fun s a => [(1, (sc A3 i D3)), (4, (pt b4 0)), (5, (sc A7 m.1 D7)), (6, (aJ m.2.1)), (10, (aJ j.1)), (11, (sc a1 j.2.1 a2)), (13, (pt a0 0)), (14, (iv a4)), (16, (iv s.2))]) (fun s a => aK b4 [(.slice none 0 0), (.slice none 0 0)] 26 :: OO cV 9 A7 D7 m.1 :: RR kT3 a1 a2 j.2.1 :: aK a0 [(sc F g.Dims G), (sc L g.Data u)] 26 :: OO kT3 3 F G g.Dims :: ow kT3 3 (.slice L g.Data.length u) s.1 :: M) () (aS R) (fun w s => s) ?_
 rintro ⟨D, ai⟩ _ σ1 b7 b cr
 replace b : Z4_L3 i m j g a4 D ai = some b7 := b
 unfold Z4_L3 at b
 refine aD (aD (aA (lI R (lI R (lO (dQ R R) (aC (aB ?_)))))))
 rcases bG b with ⟨ak, b⟩ | ⟨ak, b⟩
 refine aL R ak (aN (aB (aD (aM (aD ?_)))))
 obtain ⟨J, bh, b⟩ := bd b
 refine aA (lS R (lI R (lM (_ :: _ :: _ :: _ :: _ :: _ :: ow kT3 3 (.slice L g.Data.length u) D :: M) (fun w s => (s.d 2 R)) ?_)))
 refine lC 1 pl R (Zh_ok bh) R ?_
 rintro ⟨a7, bz, a8⟩
 refine lN (ow kT3 3 (.slice a7 bz a8) J :: _ :: _ :: _ :: _ :: _ :: _ :: M) ?_
 refine aY 0 aH ?_
 rintro rfl
 refine lS R (aC (aB (aD (aA (lI R (aC (aB (aD (bS (A := (Int) × (Unit)) (fun a => Z4_J4 m g D ai J a.1 = some b7) (fun a => [(1, (sc A3 i D3)), (4, (pt b4 0)), (5, (sc A7 m.1 D7)), (6, (aJ m.2.1)), (10, (aJ j.1)), (11, (sc a1 j.2.1 a2)), (13, (pt a0 0)), (14, (iv a4)), (16, (iv ai)), (17, (sc a7 J a8)), (18, (iv a.1))]) (fun a => aK b4 [(.slice none 0 0), (.slice none 0 0)] 26 :: OO cV 9 A7 D7 m.1 :: RR kT3 a1 a2 j.2.1 :: aK a0 [(sc F g.Dims G), (sc L g.Data u)] 26 :: OO kT3 3 F G g.Dims :: ow kT3 3 (.slice L g.Data.length u) D :: OO kT3 3 a7 a8 J :: M) ?_ ?_)))))))))
 refine aD (aA (lI R (aC (aB (aM ?_)))))
 obtain ⟨e4, cz, cv⟩ := bd b
 refine bQ (A := Unit) cz (fun s a => [(1, (sc A3 i D3)), (4, (pt b4 0)), (5, (sc A7 m.1 D7)), (6, (aJ m.2.1)), (10, (aJ j.1)), (11, (sc a1 j.2.1 a2)), (13, (pt a0 0)), (14, (iv a4)), (16, (iv ai)), (17, (sc a7 J a8)), (18, (iv s.1)), (19, (iv s.2))]) (fun s a => aK b4 [(.slice none 0 0), (.slice none 0 0)] 26 :: OO cV 9 A7 D7 m.1 :: RR kT3 a1 a2 j.2.1 :: aK a0 [(sc F g.Dims G), (sc L g.Data u)] 26 :: OO kT3 3 F G g.Dims :: ow kT3 3 (.slice L g.Data.length u) D :: OO kT3 3 a7 a8 J :: M) () (aS R) (fun w s => (s.f 7 [1, 6, 0, 1])) ?_
 rintro ⟨ba, E⟩ _ σ1 cf b cs
 replace b : Z4_L4 i m j J ba E = some cf := b
 unfold Z4_L4 at b
 refine aD (aD (aA (lI R (lS R (lO (bR fd R) (lO (dQ R R) (aC (aB ?_))))))))
 rcases bG b with ⟨al, b⟩ | ⟨al, b⟩
 refine aL R al (aN (aB (aD (aM ?_))))
 obtain ⟨a9, b⟩ := gd b
 obtain ⟨aa, b⟩ := gd b
 obtain ⟨ap, bi, b⟩ := bd b
 obtain ⟨d3, bj, b⟩ := bd b
 obtain ⟨d4, bk, b⟩ := bd b
 refine bZ 7 aE (show 0 < i.length by have := a9; omega) (fun c1 o149 ha => ?_)
 subst ha
 refine j0 (K := eO) 7 E dT26.dec R a9.1 a9.2 ?_
 rintro ⟨⟨ab, ae⟩, ⟨ac, ag⟩⟩
 refine cN (cl c1 (o149 + E.toNat * 2) [(sc ab ((ix i E).Dims) ae), (sc ac ((ix i E).Data) ag)] :: RR kT3 ab ae ((ix i E).Dims) :: RR kT3 ac ag ((ix i E).Data) :: _ :: _ :: _ :: _ :: _ :: _ :: _ :: M) ?_
 refine bZ 4 aH (show 0 < m.1.length by have := aa; omega) (fun c2 o154 ha => ?_)
 subst ha
 refine eI 15 [] cF (fun ht hn => (dR 0 R (vI R) (dR 1 R (vS R) (dR 2 R (vI R) (dR 3 R (cK ij bO R R a9) (dR 4 R (vz (.agg [(sc ab ((ix i E).Dims) ae), (sc ac ((ix i E).Data) ag)].toArray) (jV (fo := 0) 0 cJ bO R R R R)) (dR 5 R (vS R) (dR 6 R (vI R) (dR 7 R (cK fd jf R R aa) (dR 8 R (vz (aJ (ix m.1 E)) (gi (K := cV) (fo := 0) (pr := fun x => (aJ x)) 4 E ml (dT9.leaf fun _ _ => R) aH R aa.1 aa.2)) (dR 9 R (vp (aJ j.1) R) (dR 10 R (vS R) (d1 11 R (lM (ow _ _ _ _ :: cl _ _ _ :: aQ _ _ _ :: aQ _ _ _ :: aK _ _ _ :: OO cV 9 (ad c2 o154) D7 m.1 :: aQ _ _ _ :: aK _ _ _ :: ow _ _ _ _ :: ow _ _ _ _ :: M) (fun w s => (s.f 10 [9, 1, 0, 9])) ?_))))))))))))))
 refine lC 1 xI R (FnOk.lends (A' := [OO kT3 3 a7 a8 J]) (A := [RR kT3 a7 a8 J]) (B := []) (Zf_ok bi) ⟨bD, trivial⟩ (fun _ => ⟨(bL fM), trivial⟩)) R ?_
 rintro ⟨an, c0, ao⟩
 refine lN (_ :: ow kT3 3 (.slice an c0 ao) ap :: _ :: _ :: _ :: _ :: _ :: _ :: _ :: _ :: _ :: M) ?_
 refine aY 1 aH ?_
 rintro rfl
 refine aC (aP (fun w s => (s.f 11 [2, 9, 0, 1])) (d1 12 R (lM (ow _ _ _ _ :: aQ _ _ _ :: aQ _ _ _ :: ow _ _ _ _ :: cl _ _ _ :: aQ _ _ _ :: aQ _ _ _ :: aK _ _ _ :: ow _ _ _ _ :: aQ _ _ _ :: aK _ _ _ :: ow _ _ _ _ :: ow _ _ _ _ :: M) (fun w s => (((s.d 3 R).d 5 R).f 13 [3, 1, 1, 1, 0, 1, 2, 1, 4, 9])) ?_)))
 refine lC 3 tU R (FnOk.lends (A' := [OO kT3 3 an ao ap]) (A := [RR kT3 an ao ap]) (B := [RR kT3 ab ae ((ix i E).Dims), RR kT3 ac ag ((ix i E).Data)]) (FnOk.perm (Z11_ok bj) (Pre' := [RR kT3 an ao ap, RR kT3 ab ae ((ix i E).Dims), RR kT3 ac ag ((ix i E).Data)]) (fun _ _ _ s => (s.e 3 [1, 2, 0]))) ⟨bD, trivial⟩ (fun _ => trivial)) R ?_
 rintro _
 refine lN (_ :: _ :: _ :: _ :: _ :: _ :: _ :: _ :: _ :: _ :: _ :: M) ?_
 refine aC (aP (fun w s => (s.f 11 [2, 9, 1, 1])) (d1 13 R (lC 0 pb R (Z0l_ok bk) R ?_)))
 rintro _
 refine aC (aP (fun w s => (s.f 11 [2, 9, 1, 1])) (dR 14 R (vI R) (hS := (fun w s => (s.f 11 [2, 9, 1, 1]))) (dD (aZ (aB (aA (lI R (lO (cX R R) (lI R (aC ?_))))))))))
 obtain rfl := so b
 exact qA () (fun w s => (s.f 11 [5, 6, 1, 1]))
 refine aI R al (bP (aR ?_))
 obtain rfl := so b
 obtain rfl := cs _ R
 have b := cv
 refine aR (bE ?_)
 exact qI (ba, ()) b (fun w s => s)
 rintro ⟨ch, _⟩ σ1 b
 replace b : Z4_J4 m g D ai J ch = some b7 := b
 unfold Z4_J4 at b
 refine aD ?_
 obtain ⟨am, b⟩ := gd b
 obtain ⟨b9, bl, b⟩ := bd b
 refine eI 8 [6] cF (fun ht hn => (dR 0 R (bT 0 cG R) (hS := (sL [6])) (dR 1 R (bV 3 bK R R R) (hS := (sL [6])) (dR 2 R (vS R) (hS := (sL [6])) (dR 3 R (vp (aJ m.2.1) R) (hS := (sL [6])) (dR 4 R (vz (il m.2.1) (dK f5 R)) (hS := (sL [6])) (d1 5 R (ie (fun w s => s.shr 6 R) (gM (K := kT3) (0 : Int) (m.2.1.length : Int) 0 R R aV bX R R R R am.1 am.2.1 am.2.2 (fun au aw => (aC (aP (sL [1, 0]) (d1 6 R (lM (ow _ _ _ _ :: RR kT3 au aw (sub J (0 : Int) (m.2.1.length : Int)) :: RR kT3 au aw (sub J (0 : Int) (m.2.1.length : Int)) :: RR kT3 a7 a8 J :: aK _ _ _ :: OO cV 9 A7 D7 m.1 :: aQ _ _ _ :: aK _ _ _ :: ow _ _ _ _ :: M) (fun w s => ((s.d 0 R).f 9 [7, 1, 0, 7, 8, 1])) ?_))))))))))))))
 refine lC 2 tT R (FnOk.lends (A' := [OO kT3 3 F G g.Dims]) (A := [RR kT3 F G g.Dims]) (B := [RR kT3 au aw (sub J (0 : Int) (m.2.1.length : Int))]) (Z00_ok bl) ⟨bD, trivial⟩ (fun _ => trivial)) R ?_
 rintro _
 refine lN (_ :: _ :: _ :: _ :: _ :: _ :: _ :: _ :: M) ?_
 refine aC (aP (fun w s => (s.e 8 [3, 4, 5, 6, 0, 7])) (dR 7 R (vI R) (hS := (fun w s => (s.e 8 [3, 4, 5, 6, 0, 7]))) (dD (aB ?_))))
 obtain ⟨a6, b⟩ := gd b
 obtain ⟨b8, bm, b⟩ := bd b
 refine bZ 7 aH (show 0 < g.Data.length by have := a6; omega) (fun ay o171 ha => ?_)
 subst ha
 refine eI 12 [7] cF (fun ht hn => (dR 0 R (bT 1 cA R) (hS := (sL [7])) (dR 1 R (bV 6 bK R R R) (hS := (sL [7])) (dR 2 R (vI R) (hS := (sL [7])) (dR 3 R (bT 1 cA R) (hS := (sL [7])) (dR 4 R (bV 6 bK R R R) (hS := (sL [7])) (dR 5 R (vI R) (hS := (sL [7])) (dR 6 R (cK aV bX R R a6) (hS := (sL [7])) (dR 8 R (vI R) (hS := (sL [7])) (d1 7 R (lO (dL 7 cE aH R a6) (aC (aP (sL [7]) (d1 9 R (lC 0 vM R (Z17_ok bm) R ?_)))))))))))))))
 rintro _
 refine lN (_ :: _ :: _ :: _ :: _ :: _ :: aK a0 [(sc F g.Dims G), (sc (ad ay o171) g.Data u)] 26 :: ow kT3 3 (.slice (ad ay o171) g.Data.length u) D :: M) ?_
 refine aC (aP (sL [7]) (dR 10 R (cK aV bX R R a6) (hS := (sL [7])) (d1 11 R (lM (ow _ _ _ _ :: ow _ _ _ _ :: aQ _ _ _ :: aQ _ _ _ :: aK _ _ _ :: ow _ _ _ _ :: aQ _ _ _ :: aK _ _ _ :: M) (fun w s => (s.f 8 [7, 1, 0, 7])) ?_))))
 refine eG (K := kT3) (x' := b8) 0 b9 R R bX R R a6.1 a6.2 ?_ ?_
 exact fun I h s => (fw).put I h () b8 s
 refine lN (ow kT3 3 (.slice (ad ay o171) g.Data.length u) (D.set b9.toNat b8) :: _ :: _ :: _ :: _ :: _ :: _ :: _ :: M) ?_
 refine aC (aP (sL [0]) (dD (aZ (aB (aA (lI R (lO (cX R R) (lI R (aC ?_)))))))))
 obtain rfl := so b
 exact qA () (fun w s => (s.e 8 [4, 5, 6, 7, 1, 0]))
 refine aI R ak (bP (aR ?_))
 obtain rfl := so b
 obtain rfl := cr _ R
 have b := cu
 refine aR (bE ?_)
 exact qI (D, ()) b (fun w s => (s.e 6 [0, 3, 4, 5]))
 rintro ⟨aq, _⟩ σ1 b
 replace b : Z4_J5 g aq = some r := b
 unfold Z4_J5 at b
 refine aD (aA (lO (vz (.agg [(sc F g.Dims G), (sc L g.Data u)].toArray) (bF 1 cJ bO R R R R)) (aU 0 R R bO R R R R R R (lN (aK b4 [(sc F g.Dims G), (sc L g.Data u)] 26 :: aK a0 [(sc F g.Dims G), (sc L g.Data u)] 26 :: _ :: ow kT3 3 (.slice L g.Data.length u) aq :: M) ?_))))
 refine aC (aB (aW ?_))
 obtain rfl := so b
 exact bU (vs := [(.agg [(sc F g.Dims G), (sc L g.Data u)].toArray)]) (.inl R) ((F, g.Dims.length, G), (L, g.Data.length, u)) R ⟨⟨0, b4, _, _, R, R, .inl ⟨cJ, bO, R⟩⟩, trivial⟩ R (fun w s => (s.e 5 [2, 3]))
end Go.Proofs.YthfhllekobdelaaGreatDoor
