import Derived.Test.YthfhllekobdelaaGreatDoorCvF
import Derived.Test.YthfhllekobdelaaGreatDoorCvW1
import Derived.Test.YthfhllekobdelaaGreatDoorCvW5
import Derived.Test.YthfhllekobdelaaGreatDoorCvW6
set_option linter.unusedVariables false
set_option maxRecDepth 20000
namespace Go.Proofs.YthfhllekobdelaaGreatDoor
open Go Go.Pg
variable {A2 A3 A4 A5 A6 A9 A10 A13 A14 : Option Addr} {D2 D3 D4 D5 D6 D9 D10 D13 D14 N2 N3 N4 N5 N6 N9 N10 N13 N14 : Nat}
theorem Zb_ok  {f1 : form} {g : aO} {b : (List Int)} {r : (List Int)} (i : Zb f1 g b = some r) :
 FnOk Tryz.prog 126 [(.agg [(.slice A2 N2 D2), (aJ f1.out_), (aJ f1.order), (.slice A3 N3 D3), (.slice A4 N4 D4), (.slice A5 N5 D5), (.slice A6 N6 D6)].toArray), (aJ g), (.slice A9 N9 D9)] [aQ cV (.slice A2 N2 D2) f1.groups, aQ kT3 (.slice A3 N3 D3) f1.loops, aQ kT3 (.slice A4 N4 D4) f1.dims, aQ cH (.slice A5 N5 D5) f1.steps, aQ kT3 (.slice A6 N6 D6) f1.store, aQ kT3 (.slice A9 N9 D9) b] (fun (h : HH) => ((.slice h.1 h.2.1 h.2.2), [ow kT3 3 (.slice h.1 h.2.1 h.2.2) r])) := by
 unfold Zb at i
 refine bN Tryz.func126 R 45 R R fun C V => ?_
 refine cN (_ :: _ :: _ :: _ :: _ :: _ :: V) ?_
 refine cL 0 aE ?_
 rintro rfl
 refine cL 1 aE ?_
 rintro rfl
 refine cL 2 aE ?_
 rintro rfl
 refine cL 3 aE ?_
 rintro rfl
 refine cL 4 aE ?_
 rintro rfl
 refine cL 5 aE ?_
 rintro rfl
 let W0 : List HP := RR cV A2 D2 f1.groups :: RR kT3 A3 D3 f1.loops :: RR kT3 A4 D4 f1.dims :: RR cH A5 D5 f1.steps :: RR kT3 A6 D6 f1.store :: RR kT3 A9 D9 b :: V
 refine cN W0 ?_
 refine aD (aA (gz R (fun G => (lS R (aC ?_)))))
 let W1 : List HP := aK G [(sc A2 f1.groups D2), (aJ f1.out_), (aJ f1.order), (sc A3 f1.loops D3), (sc A4 f1.dims D4), (sc A5 f1.steps D5), (sc A6 f1.store D6)] 95 :: W0
 refine qN W1 ?_
 refine aB (aD ?_)
 obtain ⟨T, i⟩ := gd i
 refine aA (lO (bT 2 ik R) (lO (bV 0 ml R R R) (lO (vz (il f1.order) (dK f5 R)) (fG (K := kT3) (m := (f1.order.length : Int)) (z := (0 : Int)) R R aV bX ii (Zr.zk zT3 fj) (by decide) R R T.1 T.2.1 T.2.2 (fun u q => (lS R (aC (aB (aD (bS (A := ((List Int)) × (Unit)) (fun a => Zb_J7 a.1 = some r) (fun a => [(7, (sc u (List.replicate (f1.order.length : Int).toNat (0 : Int)) q))]) (fun a => ow kT3 3 (.slice u (List.replicate (f1.order.length : Int).toNat (0 : Int)).length q) a.1 :: W1) ?_ ?_))))))))))
 refine aD (aA (lS R (lO (bR aV R) (lI R (aC (aB (aM ?_)))))))
 obtain ⟨e1, aa, a8⟩ := bd i
 refine bQ (A := Unit) aa (fun s a => [(1, (aJ g)), (2, (sc A9 b D9)), (3, (pt G 0)), (7, (sc u (List.replicate (f1.order.length : Int).toNat (0 : Int)) q)), (15, (il (List.replicate (f1.order.length : Int).toNat (0 : Int)))), (16, (iv s.2))]) (fun s a => ow kT3 3 (.slice u (List.replicate (f1.order.length : Int).toNat (0 : Int)).length q) s.1 :: W1) () (aS R) (fun w s => s) ?_
 rintro ⟨a5, j⟩ _ σ1 a0 i a6
 replace i : Zb_L1 f1 g b a5 j = some a0 := i
 unfold Zb_L1 at i
 refine aD (aA (lO (dQ R R) (aC (aB (aD ?_)))))
 rcases bG i with ⟨J, i⟩ | ⟨J, i⟩
 refine aL R J (aN (aB (aD (bS (A := ((List Int)) × (Unit)) (fun a => Zb_J6 j a.1 = some a0) (fun a => [(1, (aJ g)), (2, (sc A9 b D9)), (3, (pt G 0)), (7, (sc u (List.replicate (f1.order.length : Int).toNat (0 : Int)) q)), (15, (il (List.replicate (f1.order.length : Int).toNat (0 : Int)))), (16, (iv j))]) (fun a => ow kT3 3 (.slice u (List.replicate (f1.order.length : Int).toNat (0 : Int)).length q) a.1 :: W1) ?_ ?_))))
 refine aM (aD (aA (lI R (lI R (aC (aB (aD (aA (lI R (aC (aB (aM ?_))))))))))))
 obtain ⟨e2, ab, a9⟩ := bd i
 refine bQ (A := Unit) ab (fun s a => [(1, (aJ g)), (2, (sc A9 b D9)), (3, (pt G 0)), (7, (sc u (List.replicate (f1.order.length : Int).toNat (0 : Int)) q)), (8, (iv j)), (9, (iv s.2)), (15, (il (List.replicate (f1.order.length : Int).toNat (0 : Int)))), (16, (iv j))]) (fun s a => ow kT3 3 (.slice u (List.replicate (f1.order.length : Int).toNat (0 : Int)).length q) s.1 :: W1) () (aS R) (fun w s => s) ?_
 rintro ⟨E, D⟩ _ σ1 a1 i a7
 replace i : Zb_L2 f1 g b j E D = some a1 := i
 unfold Zb_L2 at i
 refine aD (aD (aA (lI R (lO (vp (aJ g) R) (lO (vz (il g) (dK f5 R)) (lO (dQ R R) (aC (aB ?_))))))))
 rcases bG i with ⟨L, i⟩ | ⟨L, i⟩
 refine aL R L (aN (aB (aD (bS (A := ((List Int)) × (Unit)) (fun a => Zb_J5 D a.1 = some a1) (fun a => [(1, (aJ g)), (2, (sc A9 b D9)), (3, (pt G 0)), (7, (sc u (List.replicate (f1.order.length : Int).toNat (0 : Int)) q)), (8, (iv j)), (9, (iv D)), (15, (il (List.replicate (f1.order.length : Int).toNat (0 : Int)))), (16, (iv j))]) (fun a => ow kT3 3 (.slice u (List.replicate (f1.order.length : Int).toNat (0 : Int)).length q) a.1 :: W1) ?_ ?_))))
 refine aM (aD ?_)
 obtain ⟨a2, i⟩ := gd i
 obtain ⟨a3, i⟩ := gd i
 refine eI 8 [] cF (fun ht hn => (dR 0 R (vp (aJ g) R) (dR 1 R (vI R) (dR 2 R (vz (.int .u8 (bt g D)) (cI f5 R R a2.1 a2.2)) (dR 3 R (bT 2 ik R) (dR 4 R (bV 1 ml R R R) (dR 5 R (vI R) (dR 6 R (vz (.int .u8 (bt f1.order j)) (cI f5 R R a3.1 a3.2)) (dR 7 R (vp (.bool ((bt g D) == (bt f1.order j))) R) (dD (aB ?_)))))))))))
 rcases bG i with ⟨M, i⟩ | ⟨M, i⟩
 refine aL R M ?_
 obtain ⟨F, i⟩ := gd i
 obtain ⟨U, i⟩ := gd i
 refine bZ 0 aH (show 0 < (List.replicate (f1.order.length : Int).toNat (0 : Int)).length by have := F; omega) (fun a4 o69 ha => ?_)
 subst ha
 refine bZ 7 aE (show 0 < b.length by have := U; omega) (fun ah o72 ha => ?_)
 subst ha
 refine eI 11 [0] cF (fun ht hn => (dR 0 R (vS R) (hS := (sL [0])) (dR 1 R (vI R) (hS := (sL [0])) (dR 2 R (cK aV bX R R F) (hS := (sL [0])) (dR 4 R (vS R) (hS := (sL [0])) (dR 5 R (vI R) (hS := (sL [0])) (dR 6 R (cK aV bX R R U) (hS := (sL [0])) (dR 7 R (dL 6 cE aE R U) (hS := (sL [0])) (d1 3 R (lO (dL 0 cE aH R F) (aC (aP (sL [0]) (dR 8 R (cX R R) (hS := (sL [0])) (dR 9 R (cK aV bX R R F) (hS := (sL [0])) (d1 10 R (lN (ow kT3 3 (.slice (ad a4 o69) (List.replicate (f1.order.length : Int).toNat (0 : Int)).length q) E :: W1) ?_))))))))))))))))
 refine eG (K := kT3) (x' := (aG ((ix E j) + (ix b D)))) 0 j R R bX R R F.1 F.2 ?_ ?_
 exact fun I h s => (fw).put I h () (aG ((ix E j) + (ix b D))) s
 refine lN (ow kT3 3 (.slice (ad a4 o69) (List.replicate (f1.order.length : Int).toNat (0 : Int)).length q) (E.set j.toNat (aG ((ix E j) + (ix b D)))) :: W1) ?_
 refine aC (aP (sL [0]) (dD (aZ ?_)))
 exact qI ((E.set j.toNat (aG ((ix E j) + (ix b D)))), ()) i (fun w s => s)
 refine aI R M (aN (aZ ?_))
 exact qI (E, ()) i (fun w s => s)
 rintro ⟨ac, _⟩ σ1 i
 replace i : Zb_J5 D ac = some a1 := i
 unfold Zb_J5 at i
 refine aA (lI R (lO (cX R R) (lI R (aC ?_))))
 obtain rfl := so i
 exact qA () (fun w s => s)
 refine aI R L (bP (aR ?_))
 obtain rfl := so i
 obtain rfl := a7 _ R
 have i := a9
 refine aR (bE (aZ ?_))
 exact qI (E, ()) i (fun w s => s)
 rintro ⟨ae, _⟩ σ1 i
 replace i : Zb_J6 j ae = some a0 := i
 unfold Zb_J6 at i
 refine aA (lO (cX R R) (lI R (aC ?_)))
 obtain rfl := so i
 exact qA () (fun w s => s)
 refine aI R J (bP (aR ?_))
 obtain rfl := so i
 obtain rfl := a6 _ R
 have i := a8
 refine aR (bE ?_)
 exact qI (a5, ()) i (fun w s => s)
 rintro ⟨ag, _⟩ σ1 i
 replace i : Zb_J7 ag = some r := i
 unfold Zb_J7 at i
 refine aD (aA (lS R (lS R (aC (aB (aW ?_))))))
 obtain rfl := so i
 exact qF (u, (List.replicate (f1.order.length : Int).toNat (0 : Int)).length, q) (fun w s => (s.e 8 [0]))
theorem Z1_ok  {bb : aO} {b : (List (List Int))} {mG : Int} {r : form × Bool} (i : Z1 bb b = some r) :
 FnOk Tryz.prog 69 [(aJ bb), (.slice A3 N3 D3)] [aQ cH (.slice A3 N3 D3) b, gl 0 mG] (fun (h : HH × HH × HH × HH × HH) => ((.tuple [(.agg [(.slice h.1.1 h.1.2.1 h.1.2.2), (aJ r.1.out_), (aJ r.1.order), (.slice h.2.1.1 h.2.1.2.1 h.2.1.2.2), (.slice h.2.2.1.1 h.2.2.1.2.1 h.2.2.1.2.2), (.slice h.2.2.2.1.1 h.2.2.2.1.2.1 h.2.2.2.1.2.2), (.slice h.2.2.2.2.1 h.2.2.2.2.2.1 h.2.2.2.2.2.2)].toArray), (.bool r.2)].toArray), [aQ cV (.slice h.1.1 h.1.2.1 h.1.2.2) r.1.groups, aQ kT3 (.slice h.2.1.1 h.2.1.2.1 h.2.1.2.2) r.1.loops, ow kT3 3 (.slice h.2.2.1.1 h.2.2.1.2.1 h.2.2.1.2.2) r.1.dims, ow cH 24 (.slice h.2.2.2.1.1 h.2.2.2.1.2.1 h.2.2.2.1.2.2) r.1.steps, ow kT3 3 (.slice h.2.2.2.2.1 h.2.2.2.2.2.1 h.2.2.2.2.2.2) r.1.store])) := by
 unfold Z1 at i
 refine bN Tryz.func69 R 179 R R fun C V => ?_
 refine cN (_ :: _ :: V) ?_
 refine cL 0 aE ?_
 rintro rfl
 let W0 : List HP := RR cH A3 D3 b :: gl 0 mG :: V
 refine cN W0 ?_
 refine aD (aA (bM R R kS (fun b4 => (lB R (aC (aB (aD ?_)))))))
 obtain ⟨g, ea, i⟩ := bd i
 refine aA (lO (vp (aJ bb) R) (lM (gl 0 mG :: _ :: W0) (fun w s => (s.dg 2 R)) ?_))
 refine lC 1 wi R (Z9_ok ea) R ?_
 rintro ⟨A7, N7, D7⟩
 refine lN (aQ cV (.slice A7 N7 D7) g.1 :: _ :: W0) ?_
 refine aY 0 aE ?_
 rintro rfl
 refine lO (vT R) (lS R (lO (vp (aJ g.2.1) R) (lB R (lS R (lO (vp (aJ g.2.1) R) (lB R (aC (aB (aD (aD (cQ [(1, (sc A3 b D3)), (4, (pt b4 0)), (6, (sc A7 g.1 D7)), (7, (aJ g.2.1)), (34, (.bool ((!g.2.2) || ((g.1.length : Int) != (b.length : Int)))))] (aK b4 [(.slice none 0 0), (aJ ([] : aO)), (aJ ([] : aO)), (.slice none 0 0), (.slice none 0 0), (.slice none 0 0), (.slice none 0 0)] 95 :: RR cV A7 D7 g.1 :: W0) ?_ ?_)))))))))))
 refine aA (lB R (lO (ft R) (lB R ?_)))
 rcases bo (!g.2.2) with ae | ae
 refine lf (aT ae) (lf (aT ae) (lf (aT ae) (lf (aT ae) (lf (aT ae) (lO (cW ((g.1.length : Int) != (b.length : Int)) R ae) (aC ?_))))))
 exact qJ (fun w s => (s.e 2 [1, 0]))
 refine lW (bI ae) (vS R) (lW (bI ae) (bR fd R) (lW (bI ae) (vS R) (lW (bI ae) (bR gR R) (lW (bI ae) (ig R R) (lO (eS R ae R) (aC ?_))))))
 exact qJ (fun w s => (s.e 2 [1, 0]))
 rintro σ1
 refine aB ?_
 rcases bG i with ⟨cj, i⟩ | ⟨cj, i⟩
 refine aL R cj (aD (aA (lO (vz (.agg [(.slice none 0 0), (aJ ([] : aO)), (aJ ([] : aO)), (.slice none 0 0), (.slice none 0 0), (.slice none 0 0), (.slice none 0 0)].toArray) (bW od kS R R)) (aU 0 R R gE R R R R R R (lB R (aC (aB (aW (bA ?_)))))))))
 obtain rfl := so i
 exact bU (vs := [(.agg [(.slice none 0 0), (aJ ([] : aO)), (aJ ([] : aO)), (.slice none 0 0), (.slice none 0 0), (.slice none 0 0), (.slice none 0 0)].toArray), (.bool false)]) (.inl R) ((none, 0, 0), (none, 0, 0), (none, 0, 0), (none, 0, 0), (none, 0, 0)) R ⟨⟨0, b4, _, _, R, R, .inl ⟨ks, gE, R⟩⟩, R, trivial⟩ R (fun w s => ((((((s.nilr cV).nilr kT3).nilo kT3 3).nilo cH 24).nilo kT3 3).e 9 [4, 3, 2, 1, 0]))
 refine aI R cj (aN (aB (aD (aA (lS R (lO (vp (aJ g.2.1) R) (lO (vp (aJ g.2.1) R) (lO (vz (.agg [(sc A7 g.1 D7), (aJ g.2.1), (aJ g.2.1), (.slice none 0 0), (.slice none 0 0), (.slice none 0 0), (.slice none 0 0)].toArray) (bW od kS R R)) (bM R R kS (fun a0 => (aU 0 R R gE R R R R R R (lN (aK a0 [(sc A7 g.1 D7), (aJ g.2.1), (aJ g.2.1), (.slice none 0 0), (.slice none 0 0), (.slice none 0 0), (.slice none 0 0)] 95 :: _ :: _ :: W0) ?_))))))))))))
 refine aC (aB (aD (aA (lO (vz (.agg [(iv 0), (iv 0), (iv 0), (iv 0), (iv 0), (iv 0), (iv 0), (iv 0), (iv 0), (iv 0), (iv 0), (iv 0), (iv 0), (iv 0), (iv 0), (iv 0), (iv 0), (iv 0), (iv 0), (iv 0), (iv 0), (iv 0), (iv 0), (iv 0), (iv 0), (iv 0)].toArray) (tv pu sy bX)) (bM R R sy (fun a2 => (aU 0 R R wj R R R R R R (aC (qM (ow kT3 153 (.slice (ad a2 0) 26 26) (List.replicate 26 (0 : Int)) :: _ :: _ :: _ :: W0) (fun w s => s.b2o 0 (List.replicate 26 (0 : Int)) R R R R) ?_)))))))))
 refine aB (aD (bS (A := (aO × (List Int)) × (HH × HH)) (fun a => Z1_J7 b g a.1.1 a.1.2 = some r) (fun a => [(1, (.slice a.2.1.1 a.2.1.2.1 a.2.1.2.2)), (4, (pt b4 0)), (6, (.slice a.2.2.1 a.2.2.2.1 a.2.2.2.2)), (7, (aJ g.2.1)), (9, (pt a0 0)), (10, (pt a2 0))]) (fun a => aQ cH (.slice a.2.1.1 a.2.1.2.1 a.2.1.2.2) b :: aK b4 [(.slice none 0 0), (aJ ([] : aO)), (aJ ([] : aO)), (.slice none 0 0), (.slice none 0 0), (.slice none 0 0), (.slice none 0 0)] 95 :: aQ cV (.slice a.2.2.1 a.2.2.2.1 a.2.2.2.2) g.1 :: aK a0 [(.slice a.2.2.1 a.2.2.2.1 a.2.2.2.2), (aJ g.2.1), (aJ a.1.1), (.slice none 0 0), (.slice none 0 0), (.slice none 0 0), (.slice none 0 0)] 95 :: ow kT3 153 (.slice (ad a2 0) 26 26) a.1.2 :: W0) ?_ ?_))
 refine aD (aA (lS R (lO (bR fd R) (lI R (aC (aB (aM ?_)))))))
 obtain ⟨e1, e6, cp⟩ := bd i
 refine bQ (A := HH × HH) e6 (fun s a => [(1, (.slice a.1.1 a.1.2.1 a.1.2.2)), (4, (pt b4 0)), (6, (.slice a.2.1 a.2.2.1 a.2.2.2)), (7, (aJ g.2.1)), (9, (pt a0 0)), (10, (pt a2 0)), (41, (.slice a.2.1 a.2.2.1 a.2.2.2)), (42, (il g.1)), (43, (iv s.2.2))]) (fun s a => aQ cH (.slice a.1.1 a.1.2.1 a.1.2.2) b :: aK b4 [(.slice none 0 0), (aJ ([] : aO)), (aJ ([] : aO)), (.slice none 0 0), (.slice none 0 0), (.slice none 0 0), (.slice none 0 0)] 95 :: aQ cV (.slice a.2.1 a.2.2.1 a.2.2.2) g.1 :: aK a0 [(.slice a.2.1 a.2.2.1 a.2.2.2), (aJ g.2.1), (aJ s.1), (.slice none 0 0), (.slice none 0 0), (.slice none 0 0), (.slice none 0 0)] 95 :: ow kT3 153 (.slice (ad a2 0) 26 26) s.2.1 :: W0) ((A3, b.length, D3), (A7, g.1.length, D7)) (aS R) (fun w s => ((s.d 4 R).e 5 [0, 3, 4, 2, 1])) ?_
 rintro ⟨ci, ax, j⟩ ⟨⟨dw, dy, ar⟩, ⟨dx, dz, a4⟩⟩ σ1 c4 i ck
 replace i : Z1_L1 b g ci ax j = some c4 := i
 unfold Z1_L1 at i
 refine cD 0 aE (fun (hn : dy = b.length) => ?_)
 subst hn
 refine cD 2 aE (fun (hn : dz = g.1.length) => ?_)
 subst hn
 refine aD (aA (lO (dQ R R) (aC (aB (aD ?_)))))
 rcases bG i with ⟨bv, i⟩ | ⟨bv, i⟩
 refine aL R bv (aN (aB (aD (bS (A := (aO × (List Int)) × (HH × HH)) (fun a => Z1_J6 j a.1.1 a.1.2 = some c4) (fun a => [(1, (.slice a.2.1.1 a.2.1.2.1 a.2.1.2.2)), (4, (pt b4 0)), (6, (.slice a.2.2.1 a.2.2.2.1 a.2.2.2.2)), (7, (aJ g.2.1)), (9, (pt a0 0)), (10, (pt a2 0)), (41, (.slice a.2.2.1 a.2.2.2.1 a.2.2.2.2)), (42, (il g.1)), (43, (iv j))]) (fun a => aQ cH (.slice a.2.1.1 a.2.1.2.1 a.2.1.2.2) b :: aK b4 [(.slice none 0 0), (aJ ([] : aO)), (aJ ([] : aO)), (.slice none 0 0), (.slice none 0 0), (.slice none 0 0), (.slice none 0 0)] 95 :: aQ cV (.slice a.2.2.1 a.2.2.2.1 a.2.2.2.2) g.1 :: aK a0 [(.slice a.2.2.1 a.2.2.2.1 a.2.2.2.2), (aJ g.2.1), (aJ a.1.1), (.slice none 0 0), (.slice none 0 0), (.slice none 0 0), (.slice none 0 0)] 95 :: ow kT3 153 (.slice (ad a2 0) 26 26) a.1.2 :: W0) ?_ ?_))))
 refine aM (aD ?_)
 obtain ⟨bi, i⟩ := gd i
 refine aA (lI R (bY 2 aE (show 0 < g.1.length by have := bi; omega) (fun a7 o83 ha => ?_)))
 subst ha
 refine lO (cK fd jf R R bi) (lO (vz (aJ (ix g.1 j)) (gi (K := cV) (fo := 0) (pr := fun x => (aJ x)) 2 j ml (dT9.leaf fun _ _ => R) aE R bi.1 bi.2)) (lI R (lO (vp (aJ (ix g.1 j)) R) (aC (aB (aD (aD ?_)))))))
 obtain ⟨a9, i⟩ := gd i
 refine aA (lO (vp (aJ (ix g.1 j)) R) (lO (vz (il (ix g.1 j)) (dK f5 R)) (lS R (lI R (bY 0 aE (show 0 < b.length by have := a9; omega) (fun aj o86 ha => ?_))))))
 subst ha
 refine lO (cK gR fk R R a9) (ib (K := cH) 0 j dT24.dec R a9.1 a9.2 ?_)
 rintro ⟨d2, d7⟩
 refine lN (cl aj (o86 + j.toNat * 1) [(sc d2 (ix b j) d7)] :: RR kT3 d2 d7 (ix b j) :: RR cH (ad aj o86) ar b :: _ :: RR cV (ad a7 o83) a4 g.1 :: aK a0 [(sc (ad a7 o83) g.1 a4), (aJ g.2.1), (aJ ci), (.slice none 0 0), (.slice none 0 0), (.slice none 0 0), (.slice none 0 0)] 95 :: ow kT3 153 (.slice (ad a2 0) 26 26) ax :: W0) ?_
 refine lO (iG (fo := 0) 0 bK R R R) (lO (bR aV R) (lO (ig R R) (aC (aB ?_))))
 rcases bG i with ⟨bw, i⟩ | ⟨bw, i⟩
 refine aL R bw (aD (aA (lO (vz (.agg [(.slice none 0 0), (aJ ([] : aO)), (aJ ([] : aO)), (.slice none 0 0), (.slice none 0 0), (.slice none 0 0), (.slice none 0 0)].toArray) (bW od kS R R)) (aU 3 R R gE R R R R R R (lB R (aC (aB (aW (bA (bB (bA ?_)))))))))))
 obtain rfl := so i
 obtain rfl := ck _ R
 have i := cp
 refine bA (bB (bA ?_))
 obtain rfl := so i
 exact bU (vs := [(.agg [(.slice none 0 0), (aJ ([] : aO)), (aJ ([] : aO)), (.slice none 0 0), (.slice none 0 0), (.slice none 0 0), (.slice none 0 0)].toArray), (.bool false)]) (.inl R) ((none, 0, 0), (none, 0, 0), (none, 0, 0), (none, 0, 0), (none, 0, 0)) R ⟨⟨3, b4, _, _, R, R, .inl ⟨ks, gE, R⟩⟩, R, trivial⟩ R (fun w s => ((((((s.nilr cV).nilr kT3).nilo kT3 3).nilo cH 24).nilo kT3 3).e 14 [4, 3, 2, 1, 0]))
 refine aI R bw (aN (aB (aD (aA (lI R (aC (aB (aM ?_))))))))
 obtain ⟨e2, e7, ds⟩ := bd i
 refine bQ (A := Unit) e7 (fun s a => [(1, (sc (ad aj o86) b ar)), (4, (pt b4 0)), (6, (sc (ad a7 o83) g.1 a4)), (7, (aJ g.2.1)), (9, (pt a0 0)), (10, (pt a2 0)), (11, (iv j)), (12, (aJ (ix g.1 j))), (13, (iv s.2.2)), (41, (sc (ad a7 o83) g.1 a4)), (42, (il g.1)), (43, (iv j))]) (fun s a => RR cH (ad aj o86) ar b :: aK b4 [(.slice none 0 0), (aJ ([] : aO)), (aJ ([] : aO)), (.slice none 0 0), (.slice none 0 0), (.slice none 0 0), (.slice none 0 0)] 95 :: RR cV (ad a7 o83) a4 g.1 :: aK a0 [(sc (ad a7 o83) g.1 a4), (aJ g.2.1), (aJ s.1), (.slice none 0 0), (.slice none 0 0), (.slice none 0 0), (.slice none 0 0)] 95 :: ow kT3 153 (.slice (ad a2 0) 26 26) s.2.1 :: W0) () (aS R) (fun w s => (s.f 7 [2, 5])) ?_
 rintro ⟨ai, a1, D⟩ _ σ1 c5 i dq
 replace i : Z1_L2 b g j ai a1 D = some c5 := i
 unfold Z1_L2 at i
 refine aD (aD (aA (lI R (lO (vp (aJ (ix g.1 j)) R) (lO (vz (il (ix g.1 j)) (dK f5 R)) (lO (dQ R R) (aC (aB ?_))))))))
 rcases bG i with ⟨ay, i⟩ | ⟨ay, i⟩
 refine aL R ay (aN (aB (aD (bS (A := (aO × (List Int)) × (Unit)) (fun a => Z1_J5 D a.1.1 a.1.2 = some c5) (fun a => [(1, (sc (ad aj o86) b ar)), (4, (pt b4 0)), (6, (sc (ad a7 o83) g.1 a4)), (7, (aJ g.2.1)), (9, (pt a0 0)), (10, (pt a2 0)), (11, (iv j)), (12, (aJ (ix g.1 j))), (13, (iv D)), (41, (sc (ad a7 o83) g.1 a4)), (42, (il g.1)), (43, (iv j))]) (fun a => RR cH (ad aj o86) ar b :: aK b4 [(.slice none 0 0), (aJ ([] : aO)), (aJ ([] : aO)), (.slice none 0 0), (.slice none 0 0), (.slice none 0 0), (.slice none 0 0)] 95 :: RR cV (ad a7 o83) a4 g.1 :: aK a0 [(sc (ad a7 o83) g.1 a4), (aJ g.2.1), (aJ a.1.1), (.slice none 0 0), (.slice none 0 0), (.slice none 0 0), (.slice none 0 0)] 95 :: ow kT3 153 (.slice (ad a2 0) 26 26) a.1.2 :: W0) ?_ ?_))))
 refine aM (aD ?_)
 obtain ⟨au, i⟩ := gd i
 obtain ⟨ag, i⟩ := gd i
 refine aA (lO (vp (aJ (ix g.1 j)) R) (lI R (lO (vz (.int .u8 (bt (ix g.1 j) D)) (cI f5 R R au.1 au.2)) (lO (vp (.int .u8 (IntKind.wrap .u8 ((bt (ix g.1 j) D) - (97 : Int)))) R) (lO (vz (.pointer (some ⟨a2, 0 + (IntKind.wrap .u8 ((bt (ix g.1 j) D) - (97 : Int))).toNat * 1, none⟩)) (oX pu bX R R ag)) (lP R (aC (aB (aD (aD ?_))))))))))
 obtain ⟨b6, i⟩ := gd i
 refine cQ [(1, (sc (ad aj o86) b ar)), (4, (pt b4 0)), (6, (sc (ad a7 o83) g.1 a4)), (7, (aJ g.2.1)), (9, (pt a0 0)), (10, (pt a2 0)), (11, (iv j)), (12, (aJ (ix g.1 j))), (13, (iv D)), (14, (.pointer (some ⟨a2, 0 + (IntKind.wrap .u8 ((bt (ix g.1 j) D) - (97 : Int))).toNat * 1, none⟩))), (41, (sc (ad a7 o83) g.1 a4)), (42, (il g.1)), (43, (iv j)), (84, (.bool (((ix a1 (IntKind.wrap .u8 ((bt (ix g.1 j) D) - (97 : Int)))) != (0 : Int)) && ((ix a1 (IntKind.wrap .u8 ((bt (ix g.1 j) D) - (97 : Int)))) != (ix (ix b j) D)))))] (RR cH (ad aj o86) ar b :: aK b4 [(.slice none 0 0), (aJ ([] : aO)), (aJ ([] : aO)), (.slice none 0 0), (.slice none 0 0), (.slice none 0 0), (.slice none 0 0)] 95 :: RR cV (ad a7 o83) a4 g.1 :: aK a0 [(sc (ad a7 o83) g.1 a4), (aJ g.2.1), (aJ ai), (.slice none 0 0), (.slice none 0 0), (.slice none 0 0), (.slice none 0 0)] 95 :: ow kT3 153 (.slice (ad a2 0) 26 26) a1 :: W0) ?_ ?_
 rcases bo ((ix a1 (IntKind.wrap .u8 ((bt (ix g.1 j) D) - (97 : Int)))) != (0 : Int)) with m | m
 refine j0 (K := cH) 0 j dT24.dec R a9.1 a9.2 ?_
 rintro ⟨c7, cb⟩
 refine cN (cl aj (o86 + j.toNat * 1) [(sc c7 (ix b j) cb)] :: RR kT3 c7 cb (ix b j) :: _ :: _ :: _ :: aK a0 [(sc (ad a7 o83) g.1 a4), (aJ g.2.1), (aJ ai), (.slice none 0 0), (.slice none 0 0), (.slice none 0 0), (.slice none 0 0)] 95 :: ow kT3 153 (.slice (ad a2 0) 26 26) a1 :: W0) ?_
 refine bZ 1 aE (show 0 < (ix b j).length by have := (b6 m); omega) (fun eb o120 ha => ?_)
 subst ha
 refine eI 17 [] cF (fun ht hn => (dR 0 R (vP R) (dR 1 R (vP R) (dR 2 R (dL 6 cE aH R ag) (dR 3 R (ig R R) (dR 4 R (vB R) (dW 5 R (eB m) (vP R) (dW 6 R (eB m) (vP R) (dW 7 R (eB m) (dL 6 cE aH R ag) (dW 8 R (eB m) (vS R) (dW 9 R (eB m) (vI R) (dW 10 R (eB m) (cK gR fk R R a9) (dW 11 R (eB m) (iG (fo := 0) 0 bK R R R) (dW 12 R (eB m) (vI R) (dW 13 R (eB m) (cK aV bX R R (b6 m)) (dW 14 R (eB m) (dL 1 cE aE R (b6 m)) (dW 15 R (eB m) (ig R R) (dR 16 R (kx R m R) (dD ?_)))))))))))))))))))
 exact qJ (fun w s => (s.f 7 [2, 5]))
 refine eI 17 [] cF (fun ht hn => (dR 0 R (vP R) (dR 1 R (vP R) (dR 2 R (dL 4 cE aH R ag) (dR 3 R (ig R R) (dR 4 R (vB R) (dF 5 R (dV m) (dF 6 R (dV m) (dF 7 R (dV m) (dF 8 R (dV m) (dF 9 R (dV m) (dF 10 R (dV m) (dF 11 R (dV m) (dF 12 R (dV m) (dF 13 R (dV m) (dF 14 R (dV m) (dF 15 R (dV m) (dR 16 R (kn ((ix a1 (IntKind.wrap .u8 ((bt (ix g.1 j) D) - (97 : Int)))) != (ix (ix b j) D)) R m) (dD ?_)))))))))))))))))))
 exact qJ (fun w s => s)
 rintro σ1
 refine aB ?_
 rcases bG i with ⟨az, i⟩ | ⟨az, i⟩
 refine aL R az (aD (aA (lO (vz (.agg [(.slice none 0 0), (aJ ([] : aO)), (aJ ([] : aO)), (.slice none 0 0), (.slice none 0 0), (.slice none 0 0), (.slice none 0 0)].toArray) (bW od kS R R)) (aU 1 R R gE R R R R R R (lN (_ :: _ :: _ :: _ :: _ :: W0) ?_)))))
 refine lB R (aC (aB (aW (bA (bB (bA ?_))))))
 obtain rfl := so i
 obtain rfl := dq _ R
 have i := ds
 refine bA (bB (bB (bA ?_)))
 obtain rfl := so i
 obtain rfl := ck _ R
 have i := cp
 refine bA (bB (bA ?_))
 obtain rfl := so i
 exact bU (vs := [(.agg [(.slice none 0 0), (aJ ([] : aO)), (aJ ([] : aO)), (.slice none 0 0), (.slice none 0 0), (.slice none 0 0), (.slice none 0 0)].toArray), (.bool false)]) (.inl R) ((none, 0, 0), (none, 0, 0), (none, 0, 0), (none, 0, 0), (none, 0, 0)) R ⟨⟨1, b4, _, _, R, R, .inl ⟨ks, gE, R⟩⟩, R, trivial⟩ R (fun w s => ((((((s.nilr cV).nilr kT3).nilo kT3 3).nilo cH 24).nilo kT3 3).e 12 [4, 3, 2, 1, 0]))
 refine aI R az (aN (aB (aD ?_)))
 obtain ⟨b7, i⟩ := gd i
 refine aA (lP R (lS R (lI R (lO (cK gR fk R R a9) (ib (K := cH) 0 j dT24.dec R a9.1 a9.2 ?_)))))
 rintro ⟨c8, bf⟩
 refine lN (cl aj (o86 + j.toNat * 1) [(sc c8 (ix b j) bf)] :: RR kT3 c8 bf (ix b j) :: _ :: _ :: _ :: _ :: _ :: W0) ?_
 refine lO (iG (fo := 0) 0 bK R R R) (lI R (bY 1 aE (show 0 < (ix b j).length by have := b7; omega) (fun cg o126 ha => ?_)))
 subst ha
 refine lO (cK aV bX R R b7) (lO (dL 1 cE aE R b7) (lP R (lM (ow _ _ _ _ :: cl aj (o86 + j.toNat * 1) [(sc (ad cg o126) (ix b j) bf)] :: RR kT3 (ad cg o126) bf (ix b j) :: aQ _ _ _ :: aK _ _ _ :: aQ _ _ _ :: aK _ _ _ :: W0) (fun w s => (s.f 7 [6, 1, 0, 6])) ?_)))
 refine eG (K := kT3) (x' := (ix (ix b j) D)) 0 (IntKind.wrap .u8 ((bt (ix g.1 j) D) - (97 : Int))) R R bX R R ag.1 ag.2 ?_ ?_
 exact fun I h s => (fw).put I h () (ix (ix b j) D) s
 refine lN (ow kT3 153 (.slice (ad a2 0) 26 26) (a1.set (IntKind.wrap .u8 ((bt (ix g.1 j) D) - (97 : Int))).toNat (ix (ix b j) D)) :: _ :: _ :: _ :: _ :: _ :: _ :: W0) ?_
 refine aC ?_
 obtain ⟨c1, ba, i⟩ := bd i
 replace ba := Option.some.inj ba
 refine qM (ow kT3 153 (.slice (ad a2 0) 26 26) c1 :: _ :: _ :: _ :: _ :: _ :: _ :: W0) (fun w s => by rw [← ba]; exact s) ?_
 refine aB (aD ?_)
 obtain ⟨ec, cq, i⟩ := bd i
 refine eI 7 [] cF (fun ht hn => (dR 0 R (bT 2 ik R) (dR 1 R (bV 6 ml R R R) (dR 2 R (vp (aJ (ix g.1 j)) R) (dR 3 R (vI R) (dR 4 R (vz (.int .u8 (bt (ix g.1 j) D)) (cI f5 R R au.1 au.2)) (d1 5 R (lC 0 nu R (Z0x_ok cq) R ?_))))))))
 rintro _
 refine aC (aP (sL []) (dR 6 R (dQ R R) (dD (aB ?_))))
 rcases bG i with ⟨b0, i⟩ | ⟨b0, i⟩
 refine aL R b0 ?_
 obtain ⟨b8, i⟩ := gd i
 obtain ⟨cm, i⟩ := gd i
 refine eI 10 [6] cF (fun ht hn => (dR 0 R (bT 2 ik R) (hS := (sL [6])) (dR 2 R (vp (aJ (ix g.1 j)) R) (hS := (sL [6])) (dR 3 R (vI R) (hS := (sL [6])) (dR 4 R (vI R) (hS := (sL [6])) (dR 5 R (cX R R) (hS := (sL [6])) (dR 6 R (vz (aJ (sub (ix g.1 j) D (aG (D + (1 : Int))))) (fz D (aG (D + (1 : Int))) f5 R R R b8.1 b8.2.1 b8.2.2)) (hS := (sL [6])) (d1 1 R (lO (bV 6 ml R R R) (aC (aP (sL [6]) (dR 7 R (vz (aJ (ai ++ (sub (ix g.1 j) D (aG (D + (1 : Int)))))) (oO R R cm)) (hS := (sL [6])) (dR 8 R (bT 2 ik R) (hS := (sL [6])) (d1 9 R (dP 6 R R jf R R R R R (lN (_ :: _ :: _ :: _ :: _ :: _ :: aK a0 [(sc (ad a7 o83) g.1 a4), (aJ g.2.1), (aJ (ai ++ (sub (ix g.1 j) D (aG (D + (1 : Int)))))), (.slice none 0 0), (.slice none 0 0), (.slice none 0 0), (.slice none 0 0)] 95 :: W0) ?_))))))))))))))))
 refine aC (aP (sL [6]) (dD (aZ ?_)))
 exact qI (((ai ++ (sub (ix g.1 j) D (aG (D + (1 : Int))))), c1), ()) i (fun w s => (s.f 7 [3, 4, 0, 1]))
 refine aI R b0 (aN (aZ ?_))
 exact qI ((ai, c1), ()) i (fun w s => (s.f 7 [3, 4, 0, 1]))
 rintro ⟨⟨dm, c2⟩, _⟩ σ1 i
 replace i : Z1_J5 D dm c2 = some c5 := i
 unfold Z1_J5 at i
 refine aA (lI R (lO (cX R R) (lI R (aC ?_))))
 obtain rfl := so i
 exact qA () (fun w s => s)
 refine aI R ay (bP (aR ?_))
 obtain rfl := so i
 obtain rfl := dq _ R
 have i := ds
 refine aR (bE (aZ ?_))
 exact qI ((ai, a1), (((ad aj o86), b.length, ar), ((ad a7 o83), g.1.length, a4))) i (fun w s => s)
 rintro ⟨⟨dn, c3⟩, ⟨⟨cx, d8, d3⟩, ⟨cy, d9, d4⟩⟩⟩ σ1 i
 replace i : Z1_J6 j dn c3 = some c4 := i
 unfold Z1_J6 at i
 refine cD 0 aE (fun (hn : d8 = b.length) => ?_)
 subst hn
 refine cD 2 aE (fun (hn : d9 = g.1.length) => ?_)
 subst hn
 refine aA (lO (cX R R) (lI R (aC ?_)))
 obtain rfl := so i
 exact qA ((cx, b.length, d3), (cy, g.1.length, d4)) (fun w s => s)
 refine aI R bv (bP (aR ?_))
 obtain rfl := so i
 obtain rfl := ck _ R
 have i := cp
 refine aR (bE ?_)
 exact qI ((ci, ax), ((dw, b.length, ar), (dx, g.1.length, a4))) i (fun w s => s)
 rintro ⟨⟨q, M⟩, ⟨⟨ak, da, ah⟩, ⟨G, db, u⟩⟩⟩ σ1 i
 replace i : Z1_J7 b g q M = some r := i
 unfold Z1_J7 at i
 refine cD 0 aE (fun (hn : da = b.length) => ?_)
 subst hn
 refine cD 2 aE (fun (hn : db = g.1.length) => ?_)
 subst hn
 refine aD (aA (lI R (aC (aB (aD (bS (A := ((List Int)) × (HH)) (fun a => Z1_J8 b g q a.1 = some r) (fun a => [(1, (sc ak b ah)), (4, (pt b4 0)), (6, (sc G g.1 u)), (7, (aJ g.2.1)), (9, (pt a0 0))]) (fun a => RR cH ak ah b :: aK b4 [(.slice none 0 0), (aJ ([] : aO)), (aJ ([] : aO)), (.slice none 0 0), (.slice none 0 0), (.slice none 0 0), (.slice none 0 0)] 95 :: RR cV G u g.1 :: aK a0 [(sc G g.1 u), (aJ g.2.1), (aJ q), (.slice a.2.1 a.2.2.1 a.2.2.2), (.slice none 0 0), (.slice none 0 0), (.slice none 0 0)] 95 :: ow kT3 3 (.slice a.2.1 a.2.2.1 a.2.2.2) a.1 :: W0) ?_ ?_))))))
 refine aD (aA (lI R (aC (aB (aM ?_)))))
 obtain ⟨e3, e8, dt⟩ := bd i
 refine bQ (A := HH) e8 (fun s a => [(1, (sc ak b ah)), (4, (pt b4 0)), (6, (sc G g.1 u)), (7, (aJ g.2.1)), (9, (pt a0 0)), (10, (pt a2 0)), (15, (iv s.2.1)), (16, (iv s.2.2))]) (fun s a => RR cH ak ah b :: aK b4 [(.slice none 0 0), (aJ ([] : aO)), (aJ ([] : aO)), (.slice none 0 0), (.slice none 0 0), (.slice none 0 0), (.slice none 0 0)] 95 :: RR cV G u g.1 :: aK a0 [(sc G g.1 u), (aJ g.2.1), (aJ q), (.slice a.1 a.2.1 a.2.2), (.slice none 0 0), (.slice none 0 0), (.slice none 0 0)] 95 :: ow kT3 3 (.slice a.1 a.2.1 a.2.2) s.1 :: ow kT3 153 (.slice (ad a2 0) 26 26) M :: W0) (none, 0, 0) (aS R) (fun w s => ((s.nilo kT3 3).e 6 [1, 2, 3, 4, 0, 5])) ?_
 rintro ⟨aa, c6, a8⟩ ⟨bl, dc, bq⟩ σ1 du i dr
 replace i : Z1_L3 q M aa c6 a8 = some du := i
 unfold Z1_L3 at i
 refine cD 4 aH (fun (hn : dc = aa.length) => ?_)
 subst hn
 refine aD (aD (aA (lI R (lO (bT 2 ik R) (lO (bV 3 ml R R R) (lO (vz (il q) (dK f5 R)) (lO (dQ R R) (aC (aB ?_)))))))))
 rcases bG i with ⟨b1, i⟩ | ⟨b1, i⟩
 refine aL R b1 (aN (aB (aD (aM (aD ?_)))))
 obtain ⟨bz, i⟩ := gd i
 obtain ⟨c0, i⟩ := gd i
 refine aA (lO (bT 2 ik R) (lO (bV 3 ml R R R) (lI R (lO (vz (.int .u8 (bt q a8)) (cI f5 R R bz.1 bz.2)) (lO (vp (.int .u8 (IntKind.wrap .u8 ((bt q a8) - (97 : Int)))) R) (lO (vz (.pointer (some ⟨a2, 0 + (IntKind.wrap .u8 ((bt q a8) - (97 : Int))).toNat * 1, none⟩)) (oX pu bX R R c0)) (lO (dL 5 cE aH R c0) (lI R (aC (aB (aD ?_)))))))))))
 obtain ⟨cn, i⟩ := gd i
 refine aA (lO (bT 3 k9 R) (lO (bV 3 bK R R R) (lI R (cC (K := kT3) (xs := ([(ix M (IntKind.wrap .u8 ((bt q a8) - (97 : Int))))] : List Int)) (vs := [(iv (ix M (IntKind.wrap .u8 ((bt q a8) - (97 : Int)))))]) 0 R R aV bX fj R R R R R R ?_ R (fun cz d5 => ?_)))))
 exact fun I h s => (fw).list [((), (ix M (IntKind.wrap .u8 ((bt q a8) - (97 : Int)))))] I h s
 refine lN (OO kT3 3 cz d5 ([(ix M (IntKind.wrap .u8 ((bt q a8) - (97 : Int))))] : List Int) :: RR cH ak ah b :: _ :: RR cV G u g.1 :: aK a0 [(sc G g.1 u), (aJ g.2.1), (aJ q), (sc bl aa bq), (.slice none 0 0), (.slice none 0 0), (.slice none 0 0)] 95 :: OO kT3 3 bl bq aa :: ow kT3 153 (.slice (ad a2 0) 26 26) M :: W0) ?_
 refine lM (ow _ _ _ _ :: ow _ _ _ _ :: aQ _ _ _ :: aK _ _ _ :: aQ _ _ _ :: aK _ _ _ :: ow _ _ _ _ :: W0) (fun w s => (s.f 7 [5, 1, 0, 5, 6, 1])) ?_
 refine f6 (K := kT3) 17592186044416 R R aV bX ii (Zr.zk zT3 fj) R R R R R R eM cn (fun bm br => (lN (OO kT3 3 bm br (aa ++ ([(ix M (IntKind.wrap .u8 ((bt q a8) - (97 : Int))))] : List Int)) :: _ :: _ :: _ :: _ :: _ :: W0) ?_))
 refine lO (bT 3 k9 R) (dP 4 R R fk R R R R R (lN (_ :: _ :: _ :: _ :: aK a0 [(sc G g.1 u), (aJ g.2.1), (aJ q), (sc bm (aa ++ ([(ix M (IntKind.wrap .u8 ((bt q a8) - (97 : Int))))] : List Int)) br), (.slice none 0 0), (.slice none 0 0), (.slice none 0 0)] 95 :: _ :: W0) ?_))
 refine aC (aB (aD (aA (lI R (lI R (lO (f9 R R) (lI R (aC (aB (aD (aA (lI R (lO (iw R R) (aC (aB ?_)))))))))))))))
 rcases bG i with ⟨b2, i⟩ | ⟨b2, i⟩
 refine aL R b2 (aD (aA (lO (vz (.agg [(.slice none 0 0), (aJ ([] : aO)), (aJ ([] : aO)), (.slice none 0 0), (.slice none 0 0), (.slice none 0 0), (.slice none 0 0)].toArray) (bW od kS R R)) (aU 2 R R gE R R R R R R (lB R (aC (aB (aW (bB (bA ?_))))))))))
 obtain rfl := so i
 obtain rfl := dr _ R
 have i := dt
 refine bA (bB (bA ?_))
 obtain rfl := so i
 exact bU (vs := [(.agg [(.slice none 0 0), (aJ ([] : aO)), (aJ ([] : aO)), (.slice none 0 0), (.slice none 0 0), (.slice none 0 0), (.slice none 0 0)].toArray), (.bool false)]) (.inl R) ((none, 0, 0), (none, 0, 0), (none, 0, 0), (none, 0, 0), (none, 0, 0)) R ⟨⟨2, b4, _, _, R, R, .inl ⟨ks, gE, R⟩⟩, R, trivial⟩ R (fun w s => ((((((s.nilr cV).nilr kT3).nilo kT3 3).nilo cH 24).nilo kT3 3).e 13 [4, 3, 2, 1, 0]))
 refine aI R b2 (aN (aZ (aB (aA (lI R (lO (cX R R) (lI R (aC ?_))))))))
 obtain rfl := so i
 exact qA (bm, (aa ++ ([(ix M (IntKind.wrap .u8 ((bt q a8) - (97 : Int))))] : List Int)).length, br) (fun w s => (s.e 6 [1, 2, 3, 4, 0, 5]))
 refine aI R b1 (bP (aR ?_))
 obtain rfl := so i
 obtain rfl := dr _ R
 have i := dt
 refine aR (bE ?_)
 exact qI (aa, (bl, aa.length, bq)) i (fun w s => (s.f 6 [0, 5]))
 rintro ⟨F, ⟨T, dd, U⟩⟩ σ1 i
 replace i : Z1_J8 b g q F = some r := i
 unfold Z1_J8 at i
 refine cD 4 aH (fun (hn : dd = F.length) => ?_)
 subst hn
 refine aD ?_
 obtain ⟨b9, i⟩ := gd i
 obtain ⟨E, cr, i⟩ := bd i
 refine aA (lO (bT 3 k9 R) (lO (bV 3 bK R R R) (lO (vp (aJ g.2.1) R) (lO (vz (il g.2.1) (dK f5 R)) (ie (fun w s => s.shr 4 R) (gM (K := kT3) (0 : Int) (g.2.1.length : Int) 0 R R aV bX R R R R b9.1 b9.2.1 b9.2.2 (fun c9 cc => (lM (RR kT3 c9 cc (sub F (0 : Int) (g.2.1.length : Int)) :: RR kT3 c9 cc (sub F (0 : Int) (g.2.1.length : Int)) :: RR kT3 T U F :: _ :: _ :: _ :: aK a0 [(sc G g.1 u), (aJ g.2.1), (aJ q), (sc T F U), (.slice none 0 0), (.slice none 0 0), (.slice none 0 0)] 95 :: W0) (fun w s => (s.d 0 R)) ?_))))))))
 refine lC 1 jY R (Zy_ok cr) R ?_
 rintro ⟨J, de, L⟩
 refine lN (ow kT3 3 (.slice J de L) E :: _ :: _ :: _ :: _ :: _ :: _ :: W0) ?_
 refine aY 0 aH ?_
 rintro rfl
 refine lO (bT 4 kT R) (dP 6 R R fk R R R R R (lN (_ :: _ :: _ :: _ :: _ :: _ :: aK a0 [(sc G g.1 u), (aJ g.2.1), (aJ q), (sc T F U), (sc J E L), (.slice none 0 0), (.slice none 0 0)] 95 :: W0) ?_))
 refine aC (aB (aD (aD ?_)))
 obtain ⟨ed, cs, i⟩ := bd i
 refine aA (lO (bT 4 kT R) (lO (bV 6 bK R R R) (lC 1 kq R (FnOk.lends (A' := [OO kT3 3 J L E]) (A := [RR kT3 J L E]) (B := []) (Zg_ok cs) ⟨bD, trivial⟩ (fun _ => trivial)) R ?_)))
 rintro _
 refine lO (ft R) (aC (aB ?_))
 rcases bG i with ⟨b3, i⟩ | ⟨b3, i⟩
 refine aL R b3 (aD (aA (lO (vz (.agg [(.slice none 0 0), (aJ ([] : aO)), (aJ ([] : aO)), (.slice none 0 0), (.slice none 0 0), (.slice none 0 0), (.slice none 0 0)].toArray) (bW od kS R R)) (aU 4 R R gE R R R R R R (lB R (aC (aB (aW (bA ?_)))))))))
 obtain rfl := so i
 exact bU (vs := [(.agg [(.slice none 0 0), (aJ ([] : aO)), (aJ ([] : aO)), (.slice none 0 0), (.slice none 0 0), (.slice none 0 0), (.slice none 0 0)].toArray), (.bool false)]) (.inl R) ((none, 0, 0), (none, 0, 0), (none, 0, 0), (none, 0, 0), (none, 0, 0)) R ⟨⟨4, b4, _, _, R, R, .inl ⟨ks, gE, R⟩⟩, R, trivial⟩ R (fun w s => ((((((s.nilr cV).nilr kT3).nilo kT3 3).nilo cH 24).nilo kT3 3).e 14 [4, 3, 2, 1, 0]))
 refine aI R b3 (aN (aB (aD (bS (A := ((List (List Int))) × (HH)) (fun a => Z1_J9 g q F E a.1 = some r) (fun a => [(4, (pt b4 0)), (7, (aJ g.2.1)), (9, (pt a0 0))]) (fun a => aK b4 [(.slice none 0 0), (aJ ([] : aO)), (aJ ([] : aO)), (.slice none 0 0), (.slice none 0 0), (.slice none 0 0), (.slice none 0 0)] 95 :: aK a0 [(sc G g.1 u), (aJ g.2.1), (aJ q), (sc T F U), (sc J E L), (.slice a.2.1 a.2.2.1 a.2.2.2), (.slice none 0 0)] 95 :: RR cV G u g.1 :: RR kT3 T U F :: OO kT3 3 J L E :: ow cH 24 (.slice a.2.1 a.2.2.1 a.2.2.2) a.1 :: W0) ?_ ?_))))
 refine aD (aA (lS R (lO (bR fd R) (lI R (aC (aB (aM ?_)))))))
 obtain ⟨e4, e9, e5⟩ := bd i
 refine bQ (A := HH) e9 (fun s a => [(1, (sc ak b ah)), (4, (pt b4 0)), (7, (aJ g.2.1)), (9, (pt a0 0)), (150, (sc G g.1 u)), (151, (il g.1)), (152, (iv s.2))]) (fun s a => RR cH ak ah b :: aK b4 [(.slice none 0 0), (aJ ([] : aO)), (aJ ([] : aO)), (.slice none 0 0), (.slice none 0 0), (.slice none 0 0), (.slice none 0 0)] 95 :: aK a0 [(sc G g.1 u), (aJ g.2.1), (aJ q), (sc T F U), (sc J E L), (.slice a.1 a.2.1 a.2.2), (.slice none 0 0)] 95 :: RR cV G u g.1 :: RR kT3 T U F :: OO kT3 3 J L E :: ow cH 24 (.slice a.1 a.2.1 a.2.2) s.1 :: W0) (none, 0, 0) (aS R) (fun w s => ((s.nilo cH 24).e 8 [4, 5, 7, 6, 3, 1, 0])) ?_
 rintro ⟨a3, ac⟩ ⟨al, df, am⟩ σ1 dv i e0
 replace i : Z1_L4 b g q F E a3 ac = some dv := i
 unfold Z1_L4 at i
 refine cD 6 aH (fun (hn : df = a3.length) => ?_)
 subst hn
 refine aD (aA (lO (dQ R R) (aC (aB (aD ?_)))))
 rcases bG i with ⟨b5, i⟩ | ⟨b5, i⟩
 refine aL R b5 (aN (aB (aD (aM (aD ?_)))))
 obtain ⟨av, i⟩ := gd i
 refine aA (lI R (bY 3 aE (show 0 < g.1.length by have := av; omega) (fun ap o207 ha => ?_)))
 subst ha
 refine lO (cK fd jf R R av) (lO (vz (aJ (ix g.1 ac)) (gi (K := cV) (fo := 0) (pr := fun x => (aJ x)) 3 ac ml (dT9.leaf fun _ _ => R) aE R av.1 av.2)) (lI R (lO (vp (aJ (ix g.1 ac)) R) (aC (aB ?_)))))
 obtain ⟨aw, i⟩ := gd i
 obtain ⟨bj, ct, i⟩ := bd i
 obtain ⟨ab, cu, i⟩ := bd i
 obtain ⟨co, i⟩ := gd i
 refine bZ 0 aE (show 0 < b.length by have := aw; omega) (fun ch o210 ha => ?_)
 subst ha
 refine j0 (K := cH) 0 ac dT24.dec R aw.1 aw.2 ?_
 rintro ⟨ca, cf⟩
 refine cN (cl ch (o210 + ac.toNat * 1) [(sc ca (ix b ac) cf)] :: RR kT3 ca cf (ix b ac) :: RR cH (ad ch o210) ah b :: _ :: aK a0 [(sc (ad ap o207) g.1 u), (aJ g.2.1), (aJ q), (sc T F U), (sc J E L), (sc al a3 am), (.slice none 0 0)] 95 :: RR cV (ad ap o207) u g.1 :: _ :: _ :: OO cH 24 al am a3 :: W0) ?_
 refine eI 11 [] cF (fun ht hn => (dR 0 R (bT 5 kU R) (dR 1 R (bV 4 tZ R R R) (dR 2 R (vz (.agg [(sc (ad ap o207) g.1 u), (aJ g.2.1), (aJ q), (sc T F U), (sc J E L), (sc al a3 am), (.slice none 0 0)].toArray) (bF 4 ks gE R R R R)) (dR 3 R (vp (aJ (ix g.1 ac)) R) (dR 4 R (vS R) (dR 5 R (vI R) (dR 6 R (cK gR fk R R aw) (dR 7 R (iG (fo := 0) 0 bK R R R) (d1 8 R (lM (_ :: _ :: _ :: _ :: _ :: _ :: _ :: _ :: _ :: _ :: W0) (fun w s => (s.d 1 R)) ?_)))))))))))
 refine lC 1 tV R (Zl_ok ct) R ?_
 rintro ⟨bc, dh, bg⟩
 refine lN (ow kT3 3 (.slice bc dh bg) bj :: _ :: _ :: _ :: _ :: _ :: _ :: _ :: _ :: _ :: W0) ?_
 refine aY 0 aH ?_
 rintro rfl
 refine aC (aP (sL [0]) (d1 9 R (lM (ow _ _ _ _ :: ow _ _ _ _ :: ow _ _ _ _ :: aQ _ _ _ :: aQ _ _ _ :: aQ kT3 (.slice none 0 0) ([] : List Int) :: cl _ _ _ :: aQ _ _ _ :: aQ _ _ _ :: aK _ _ _ :: aK _ _ _ :: aQ _ _ _ :: aQ _ _ _ :: W0) (fun w s => ((((s.d 6 R).d 8 R).nilr kT3).f 13 [11, 2, 3, 1, 2, 1, 1, 1, 0, 1, 4, 7])) ?_)))
 refine lC 6 sC R (FnOk.lends (A' := [OO kT3 3 J L E, OO cH 24 al am a3, OO kT3 3 bc bg bj]) (A := [RR kT3 J L E, RR cH al am a3, RR kT3 bc bg bj]) (B := [RR cV (ad ap o207) u g.1, RR kT3 T U F, aQ kT3 (.slice none 0 0) ([] : List Int)]) (FnOk.perm (Zb_ok (f1 := (⟨g.1, g.2.1, q, F, E, a3, ([] : List Int)⟩ : form)) cu) (Pre' := [RR kT3 J L E, RR cH al am a3, RR kT3 bc bg bj, RR cV (ad ap o207) u g.1, RR kT3 T U F, aQ kT3 (.slice none 0 0) ([] : List Int)]) (fun _ _ _ s => (s.e 6 [3, 4, 0, 1, 5, 2]))) ⟨bD, bD, bD, trivial⟩ (fun _ => ⟨(bL fM), trivial⟩)) R ?_
 rintro ⟨bn, di, bs⟩
 refine lN (_ :: _ :: _ :: ow kT3 3 (.slice bn di bs) ab :: _ :: _ :: _ :: _ :: _ :: _ :: _ :: W0) ?_
 refine aY 3 aH ?_
 rintro rfl
 refine aC (aP (fun w s => (s.f 11 [4, 7, 0, 2])) (d1 10 R (lM (ow _ _ _ _ :: ow _ _ _ _ :: ow _ _ _ _ :: ow _ _ _ _ :: cl _ _ _ :: aQ _ _ _ :: aQ _ _ _ :: aK _ _ _ :: aK _ _ _ :: aQ _ _ _ :: aQ _ _ _ :: W0) (fun w s => (s.f 11 [3, 1, 0, 3, 4, 7])) ?_)))
 refine cC (K := cH) (xs := ([ab] : List (List Int))) (vs := [(sc bn ab bs)]) 1 R R gR fk oc R R R R R R ?_ R (fun d0 d6 => ?_)
 exact fun I h s => (vo).list [((sc bn ab bs), ab)] I h s
 refine lN (OO cH 24 d0 d6 ([ab] : List (List Int)) :: _ :: _ :: _ :: _ :: _ :: _ :: _ :: _ :: _ :: _ :: W0) ?_
 refine aC (aP (fun w s => (s.f 11 [4, 7, 1, 2])) (d1 11 R (lM (ow _ _ _ _ :: ow _ _ _ _ :: ow _ _ _ _ :: ow _ _ _ _ :: cl _ _ _ :: aQ _ _ _ :: aQ _ _ _ :: aK _ _ _ :: aK _ _ _ :: aQ _ _ _ :: aQ _ _ _ :: W0) (fun w s => (s.f 11 [2, 1, 0, 2, 3, 8])) ?_)))
 refine f6 (K := cH) 5864062014805 R R gR fk tY (Zr.zk tK oc) R R R R R R eM co (fun bp bu => (lN (OO cH 24 bp bu (a3 ++ ([ab] : List (List Int))) :: _ :: _ :: _ :: _ :: _ :: _ :: _ :: _ :: _ :: W0) ?_))
 refine aC (qE (d1 12 R (lO (bT 5 kU R) (aC (qE (d1 13 R (dP 7 R R xr R R R R R (lN (_ :: _ :: _ :: _ :: _ :: _ :: _ :: aK a0 [(sc (ad ap o207) g.1 u), (aJ g.2.1), (aJ q), (sc T F U), (sc J E L), (sc bp (a3 ++ ([ab] : List (List Int))) bu), (.slice none 0 0)] 95 :: _ :: _ :: W0) ?_))))))))
 refine aC (qE (dD (aZ (aB (aA (lO (cX R R) (lI R (aC ?_))))))))
 obtain rfl := so i
 exact qA (bp, (a3 ++ ([ab] : List (List Int))).length, bu) (fun w s => (s.f 10 [5, 5, 1, 1, 0, 1]))
 refine aI R b5 (bP (aR ?_))
 obtain rfl := so i
 obtain rfl := e0 _ R
 have i := e5
 refine aR (bE ?_)
 exact qI (a3, (al, a3.length, am)) i (fun w s => (s.f 7 [1, 6]))
 rintro ⟨f224, ⟨a5, dj, a6⟩⟩ σ1 i
 replace i : Z1_J9 g q F E f224 = some r := i
 unfold Z1_J9 at i
 refine cD 5 aH (fun (hn : dj = f224.length) => ?_)
 subst hn
 refine aD ?_
 obtain ⟨bk, cv, i⟩ := bd i
 obtain ⟨aq, cw, i⟩ := bd i
 refine eI 7 [] cF (fun ht hn => (dR 0 R (vz (.agg [(sc G g.1 u), (aJ g.2.1), (aJ q), (sc T F U), (sc J E L), (sc a5 f224 a6), (.slice none 0 0)].toArray) (bF 1 ks gE R R R R)) (dR 1 R (vp (aJ g.2.1) R) (dR 2 R (bT 4 kT R) (dR 3 R (bV 1 bK R R R) (d1 4 R (lM (ow _ _ _ _ :: aK _ _ _ :: aK a0 [(sc G g.1 u), (aJ g.2.1), (aJ q), (sc T F U), (sc J E L), (sc a5 f224 a6), (.slice none 0 0)] 95 :: RR cV G u g.1 :: aQ _ _ _ :: OO cH 24 a5 a6 f224 :: W0) (fun w s => (s.e 6 [4, 0, 1, 2, 3, 5])) ?_)))))))
 refine lC 1 tV R (FnOk.lends (A' := [OO kT3 3 J L E]) (A := [RR kT3 J L E]) (B := []) (Zl_ok cv) ⟨bD, trivial⟩ (fun _ => ⟨(bL fM), trivial⟩)) R ?_
 rintro ⟨be, dk, bh⟩
 refine lN (_ :: ow kT3 3 (.slice be dk bh) bk :: _ :: _ :: _ :: _ :: _ :: W0) ?_
 refine aY 1 aH ?_
 rintro rfl
 refine aC (aP (fun w s => (s.e 7 [2, 3, 4, 5, 0, 6])) (d1 5 R (lM (ow _ _ _ _ :: ow _ _ _ _ :: ow _ _ _ _ :: aQ _ _ _ :: aQ _ _ _ :: aQ kT3 (.slice none 0 0) ([] : List Int) :: aK _ _ _ :: aK _ _ _ :: aQ _ _ _ :: aQ _ _ _ :: W0) (fun w s => ((((s.d 4 R).d 6 R).nilr kT3).e 10 [3, 9, 4, 2, 1, 0, 5, 6, 7, 8])) ?_)))
 refine lC 6 sC R (FnOk.lends (A' := [OO kT3 3 J L E, OO cH 24 a5 a6 f224, OO kT3 3 be bh bk]) (A := [RR kT3 J L E, RR cH a5 a6 f224, RR kT3 be bh bk]) (B := [RR cV G u g.1, RR kT3 T U F, aQ kT3 (.slice none 0 0) ([] : List Int)]) (FnOk.perm (Zb_ok (f1 := (⟨g.1, g.2.1, q, F, E, f224, ([] : List Int)⟩ : form)) cw) (Pre' := [RR kT3 J L E, RR cH a5 a6 f224, RR kT3 be bh bk, RR cV G u g.1, RR kT3 T U F, aQ kT3 (.slice none 0 0) ([] : List Int)]) (fun _ _ _ s => (s.e 6 [3, 4, 0, 1, 5, 2]))) ⟨bD, bD, bD, trivial⟩ (fun _ => ⟨(bL fM), trivial⟩)) R ?_
 rintro ⟨an, dl, ao⟩
 refine lN (_ :: _ :: _ :: ow kT3 3 (.slice an dl ao) aq :: _ :: _ :: _ :: _ :: W0) ?_
 refine aY 3 aH ?_
 rintro rfl
 refine aC (aP (fun w s => (s.f 8 [4, 4, 0, 2])) (dR 6 R (bT 6 pw R) (hS := (fun w s => (s.f 8 [4, 4, 0, 2]))) (d1 7 R (dP 5 R R fk R R R R R (lN (_ :: _ :: _ :: _ :: _ :: aK a0 [(sc G g.1 u), (aJ g.2.1), (aJ q), (sc T F U), (sc J E L), (sc a5 f224 a6), (sc an aq ao)] 95 :: _ :: _ :: W0) ?_)))))
 refine aC (qE (dD (aB (aD (aA (lO (vz (.agg [(sc G g.1 u), (aJ g.2.1), (aJ q), (sc T F U), (sc J E L), (sc a5 f224 a6), (sc an aq ao)].toArray) (bF 5 ks gE R R R R)) (aU 4 R R gE R R R R R R (lN (_ :: _ :: _ :: _ :: aK b4 [(sc G g.1 u), (aJ g.2.1), (aJ q), (sc T F U), (sc J E L), (sc a5 f224 a6), (sc an aq ao)] 95 :: _ :: _ :: _ :: W0) ?_))))))))
 refine lB R (aC (aB (aW ?_)))
 obtain rfl := so i
 exact bU (vs := [(.agg [(sc G g.1 u), (aJ g.2.1), (aJ q), (sc T F U), (sc J E L), (sc a5 f224 a6), (sc an aq ao)].toArray), (.bool true)]) (.inl R) ((G, g.1.length, u), (T, F.length, U), (J, E.length, L), (a5, f224.length, a6), (an, aq.length, ao)) R ⟨⟨4, b4, _, _, R, R, .inl ⟨ks, gE, R⟩⟩, R, trivial⟩ R (fun w s => (s.e 10 [6, 7, 0, 1, 3]))
theorem Z04_ok  {p1 : (List Int)} {m : Int} {i : (List Tensor)} {p7 : Tensor} {b5 : Nat} {T : Nat} {r : (List Int)} (g : Z04 p1 m i p7 = some r) :
 FnOk Tryz.prog 72 [(.slice A2 N2 D2), (iv m), (pt b5 0), (pt T 0)] [aQ kT3 (.slice A2 N2 D2) p1, aQ eO (.slice A6 N6 D6) i, aK b5 [(.slice A6 N6 D6)] 39, aQ kT3 (.slice A9 N9 D9) p7.Dims, ow kT3 3 (.slice A10 N10 D10) p7.Data, aK T [(.slice A9 N9 D9), (.slice A10 N10 D10)] 26] (fun (h : Unit) => ((.tuple [].toArray), [aK b5 [(.slice A6 N6 D6)] 39, ow kT3 3 (.slice A10 N10 D10) r, aK T [(.slice A9 N9 D9), (.slice A10 N10 D10)] 26])) := by
 unfold Z04 at g
 refine bN Tryz.func72 R 38 R R fun C V => ?_
 refine cM (aK _ _ _ :: ow _ _ _ _ :: aK _ _ _ :: aQ _ _ _ :: aQ _ _ _ :: aQ _ _ _ :: V) (fun w s => (s.e 6 [2, 4, 5, 0, 1, 3])) ?_
 refine cL 1 aH ?_
 rintro rfl
 refine cL 3 aE ?_
 rintro rfl
 refine cL 4 aE ?_
 rintro rfl
 refine cL 5 aE ?_
 rintro rfl
 let W0 : List HP := RR kT3 A2 D2 p1 :: RR eO A6 D6 i :: RR kT3 A9 D9 p7.Dims :: V
 refine cN (aK b5 [(sc A6 i D6)] 39 :: _ :: aK T [(sc A9 p7.Dims D9), (sc A10 p7.Data D10)] 26 :: W0) ?_
 refine aD (aA (lI R (aC (qM (ow _ _ _ _ :: aK _ _ _ :: aK _ _ _ :: W0) (fun w s => (s.e 3 [1, 0, 2])) ?_))))
 let M : List HP := aK b5 [(sc A6 i D6)] 39 :: aK T [(sc A9 p7.Dims D9), (sc A10 p7.Data D10)] 26 :: W0
 refine qN (_ :: M) ?_
 refine aB (aD (bS (A := (Int) × (Unit)) (fun a => Z04_J2 m p7 a.1 = some r) (fun a => [(1, (iv m)), (3, (pt T 0)), (6, (iv a.1))]) (fun a => OO kT3 3 A10 D10 p7.Data :: M) ?_ ?_))
 refine aD (aA (lO (bV 1 tX R R R) (lO (bR ij R) (lI R (aC (aB (aM ?_)))))))
 obtain ⟨e1, aa, a9⟩ := bd g
 refine bQ (A := Unit) aa (fun s a => [(0, (sc A2 p1 D2)), (1, (iv m)), (3, (pt T 0)), (6, (iv s.1)), (9, (sc A6 i D6)), (10, (il i)), (11, (iv s.2))]) (fun s a => OO kT3 3 A10 D10 p7.Data :: M) () (aS R) (fun w s => s) ?_
 rintro ⟨a7, b⟩ _ σ1 a6 g a8
 replace g : Z04_L1 p1 i a7 b = some a6 := g
 unfold Z04_L1 at g
 refine aD (aA (lO (dQ R R) (aC (aB (aD ?_)))))
 rcases bG g with ⟨F, g⟩ | ⟨F, g⟩
 refine aL R F (aN (aB (aD (aM (aD ?_)))))
 obtain ⟨u, g⟩ := gd g
 refine aA (lI R (bY 4 aE (show 0 < i.length by have := u; omega) (fun a2 o31 ha => ?_)))
 subst ha
 refine lO (cK ij bO R R u) (ib (K := eO) 4 b dT26.dec R u.1 u.2 ?_)
 rintro ⟨⟨D, E⟩, ⟨L, q⟩⟩
 refine lN (cl a2 (o31 + b.toNat * 2) [(sc D ((ix i b).Dims) E), (sc L ((ix i b).Data) q)] :: RR kT3 D E ((ix i b).Dims) :: RR kT3 L q ((ix i b).Data) :: _ :: M) ?_
 refine lO (vz (.agg [(sc D ((ix i b).Dims) E), (sc L ((ix i b).Data) q)].toArray) (jV (fo := 0) 0 cJ bO R R R R)) (bM R R dC (fun a1 => (lI R (aU 0 R R bO R R R R R R (lN (aK a1 [(sc D ((ix i b).Dims) E), (sc L ((ix i b).Data) q)] 26 :: _ :: _ :: _ :: _ :: M) ?_)))))
 refine aC (aB ?_)
 obtain ⟨G, g⟩ := gd g
 obtain ⟨J, g⟩ := gd g
 obtain ⟨ae, a4, g⟩ := bd g
 refine bZ 7 aE (show 0 < p1.length by have := G; omega) (fun ac o37 ha => ?_)
 subst ha
 refine bZ 3 aE (show 0 < ((ix i b).Data).length by have := J; omega) (fun U o40 ha => ?_)
 subst ha
 refine eI 11 [] cF (fun ht hn => (dR 0 R (vI R) (dR 1 R (bT 1 cA R) (dR 2 R (bV 0 bK R R R) (dR 3 R (vS R) (dR 4 R (vI R) (dR 5 R (cK aV bX R R G) (dR 6 R (dL 7 cE aE R G) (dR 7 R (cK aV bX R R J) (dR 8 R (dL 3 cE aE R J) (d1 9 R (lC 0 vH R (Z16_ok a4) R ?_))))))))))))
 rintro _
 refine lN (aK a1 [(sc D ((ix i b).Dims) E), (sc (ad U o40) ((ix i b).Data) q)] 26 :: cl a2 (o31 + b.toNat * 2) [(sc D ((ix i b).Dims) E), (sc (ad U o40) ((ix i b).Data) q)] :: _ :: RR kT3 (ad U o40) q ((ix i b).Data) :: _ :: M) ?_
 refine aC (aP (sL []) (dR 10 R (vI R) (dD (aZ (aB (aA (lO (cX R R) (lI R (aC ?_)))))))))
 obtain rfl := so g
 exact qA () (fun w s => (s.e 5 [4]))
 refine aI R F (bP (aR ?_))
 obtain rfl := so g
 obtain rfl := a8 _ R
 have g := a9
 refine aR (bE ?_)
 exact qI (a7, ()) g (fun w s => s)
 rintro ⟨ab, _⟩ σ1 g
 replace g : Z04_J2 m p7 ab = some r := g
 unfold Z04_J2 at g
 obtain ⟨j, g⟩ := gd g
 obtain ⟨a0, a5, g⟩ := bd g
 refine bZ 0 aH (show 0 < p7.Data.length by have := j; omega) (fun a3 o48 ha => ?_)
 subst ha
 refine eI 12 [0] cF (fun ht hn => (dR 0 R (bT 1 cA R) (hS := (sL [0])) (dR 1 R (bV 1 bK R R R) (hS := (sL [0])) (dR 2 R (vI R) (hS := (sL [0])) (dR 3 R (bT 1 cA R) (hS := (sL [0])) (dR 4 R (bV 1 bK R R R) (hS := (sL [0])) (dR 5 R (vI R) (hS := (sL [0])) (dR 6 R (cK aV bX R R j) (hS := (sL [0])) (dR 8 R (vI R) (hS := (sL [0])) (d1 7 R (lO (dL 0 cE aH R j) (aC (aP (sL [0]) (d1 9 R (lC 0 tR R (Z0g_ok a5) R ?_)))))))))))))))
 rintro _
 refine lN (OO kT3 3 (ad a3 o48) D10 p7.Data :: M) ?_
 refine aC (aP (sL [0]) (dR 10 R (cK aV bX R R j) (hS := (sL [0])) (d1 11 R (eG (K := kT3) (x' := a0) 0 m R R bX R R j.1 j.2 ?_ ?_))))
 exact fun I h s => (fw).put I h () a0 s
 refine lN (ow kT3 3 (.slice (ad a3 o48) p7.Data.length D10) (p7.Data.set m.toNat a0) :: M) ?_
 refine aC (aP (sL [0]) (dD ?_))
 obtain rfl := so g
 exact bU (vs := []) (.inr R) () R trivial R (fun w s => (s.e 6 [1, 0, 2]))
theorem Z7_ok  {f1 : form} {q8 : (List Tensor)} {j : Tensor} {b9 : Nat} {F : Nat} {r : (List Int)} (g : Z7 f1 q8 j = some r) :
 FnOk Tryz.prog 71 [(.agg [(.slice A2 N2 D2), (aJ f1.out_), (aJ f1.order), (.slice A3 N3 D3), (.slice A4 N4 D4), (.slice A5 N5 D5), (.slice A6 N6 D6)].toArray), (.func (.func 72) [].toArray [(pt b9 0), (pt F 0)].toArray)] [aQ cV (.slice A2 N2 D2) f1.groups, aQ kT3 (.slice A3 N3 D3) f1.loops, aQ kT3 (.slice A4 N4 D4) f1.dims, aQ cH (.slice A5 N5 D5) f1.steps, aQ kT3 (.slice A6 N6 D6) f1.store, aQ eO (.slice A10 N10 D10) q8, aK b9 [(.slice A10 N10 D10)] 39, aQ kT3 (.slice A13 N13 D13) j.Dims, ow kT3 3 (.slice A14 N14 D14) j.Data, aK F [(.slice A13 N13 D13), (.slice A14 N14 D14)] 26] (fun (h : Unit) => ((.tuple [].toArray), [aK b9 [(.slice A10 N10 D10)] 39, ow kT3 3 (.slice A14 N14 D14) r, aK F [(.slice A13 N13 D13), (.slice A14 N14 D14)] 26])) := by
 unfold Z7 at g
 refine bN Tryz.func71 R 85 R R fun C V => ?_
 refine cM (aK _ _ _ :: ow _ _ _ _ :: aK _ _ _ :: aQ _ _ _ :: aQ _ _ _ :: aQ _ _ _ :: aQ _ _ _ :: aQ _ _ _ :: aQ _ _ _ :: aQ _ _ _ :: V) (fun w s => (s.f 10 [6, 1, 8, 2, 0, 6, 7, 1])) ?_
 refine cL 1 aH ?_
 rintro rfl
 refine cL 3 aE ?_
 rintro rfl
 refine cL 4 aE ?_
 rintro rfl
 refine cL 5 aE ?_
 rintro rfl
 refine cL 6 aE ?_
 rintro rfl
 refine cL 7 aE ?_
 rintro rfl
 refine cL 8 aE ?_
 rintro rfl
 refine cL 9 aE ?_
 rintro rfl
 let W0 : List HP := RR cV A2 D2 f1.groups :: RR kT3 A3 D3 f1.loops :: RR kT3 A4 D4 f1.dims :: RR cH A5 D5 f1.steps :: RR kT3 A6 D6 f1.store :: RR eO A10 D10 q8 :: RR kT3 A13 D13 j.Dims :: V
 refine cN (aK b9 [(sc A10 q8 D10)] 39 :: _ :: aK F [(sc A13 j.Dims D13), (sc A14 j.Data D14)] 26 :: W0) ?_
 refine aD (aA (gz R (fun aj => (aC (qM (aK _ _ _ :: ow _ _ _ _ :: aK _ _ _ :: aK _ _ _ :: W0) (fun w s => (s.e 4 [1, 2, 3, 0])) ?_)))))
 let W1 : List HP := aK aj [(sc A2 f1.groups D2), (aJ f1.out_), (aJ f1.order), (sc A3 f1.loops D3), (sc A4 f1.dims D4), (sc A5 f1.steps D5), (sc A6 f1.store D6)] 95 :: W0
 refine qN (_ :: _ :: _ :: W1) ?_
 refine aB (rl (aD ?_))
 obtain ⟨al, g⟩ := gd g
 refine aA (lO (bT 5 kU R) (lO (bV 3 tZ R R R) (lO (bR gR R) (fG (K := kT3) (m := (f1.steps.length : Int)) (z := (0 : Int)) R R aV bX ii (Zr.zk zT3 fj) (by decide) R R al.1 al.2.1 al.2.2 (fun T E => (lS R (aC (aB (aD ?_)))))))))
 obtain ⟨am, g⟩ := gd g
 refine aA (lO (bT 3 k9 R) (lO (bV 4 bK R R R) (lO (bR aV R) (fG (K := kT3) (m := (f1.loops.length : Int)) (z := (0 : Int)) R R aV bX ii (Zr.zk zT3 fj) (by decide) R R am.1 am.2.1 am.2.2 (fun b5 b6 => (lS R (aC (aB (aD (aA (lI R (aC (aB (aD (rk (aB (aM ?_)))))))))))))))))
 obtain ⟨e1, bc, ba⟩ := bd g
 refine bQ (A := HH) bc (fun s a => [(1, (.func (.func 72) [].toArray [(pt b9 0), (pt F 0)].toArray)), (2, (pt aj 0)), (4, (sc T (List.replicate (f1.steps.length : Int).toNat (0 : Int)) E)), (5, (.slice a.1 a.2.1 a.2.2)), (6, (iv s.2.2.2))]) (fun s a => aK b9 [(sc A10 q8 D10)] 39 :: aK F [(sc A13 j.Dims D13), (sc A14 j.Data D14)] 26 :: ow kT3 3 (.slice A14 j.Data.length D14) s.1 :: ow kT3 3 (.slice T (List.replicate (f1.steps.length : Int).toNat (0 : Int)).length E) s.2.1 :: ow kT3 3 (.slice a.1 a.2.1 a.2.2) s.2.2.1 :: W1) (b5, (List.replicate (f1.loops.length : Int).toNat (0 : Int)).length, b6) (aS R) (fun w s => (s.e 5 [2, 4, 3, 1, 0])) ?_
 rintro ⟨L, ai, J, ax⟩ ⟨ao, ay, ar⟩ σ1 an g b7
 replace g : Z7_L1 f1 q8 j L ai J ax = some an := g
 unfold Z7_L1 at g
 refine cD 4 aH (fun (hn : ay = J.length) => ?_)
 subst hn
 refine aM (aD ?_)
 obtain ⟨D, aw, g⟩ := bd g
 refine aA (lO (vp _ R) (lS R (lI R (lM (ow kT3 3 (.slice T (List.replicate (f1.steps.length : Int).toNat (0 : Int)).length E) ai :: RR eO A10 D10 q8 :: aK _ _ _ :: RR kT3 A13 D13 j.Dims :: ow kT3 3 (.slice A14 j.Data.length D14) L :: aK _ _ _ :: OO kT3 3 ao ar J :: W1) (fun w s => (((s.d 11 R).d 13 R).e 7 [5, 1, 2, 0, 4, 3, 6])) ?_))))
 refine iF (fs := []) (cs := [(pt b9 0), (pt F 0)]) 6 R R xv R R (FnOk.lends (A' := [ow kT3 3 (.slice T (List.replicate (f1.steps.length : Int).toNat (0 : Int)).length E) ai]) (A := [aQ kT3 (.slice T (List.replicate (f1.steps.length : Int).toNat (0 : Int)).length E) ai]) (B := [RR eO A10 D10 q8, aK b9 [(sc A10 q8 D10)] 39, RR kT3 A13 D13 j.Dims, ow kT3 3 (.slice A14 j.Data.length D14) L, aK F [(sc A13 j.Dims D13), (sc A14 j.Data D14)] 26]) (Z04_ok (p7 := (⟨j.Dims, L⟩ : Tensor)) aw) ⟨bD, trivial⟩ (fun _ => ⟨hJ, (bL fM), hJ, trivial⟩)) R ?_
 rintro _
 refine lN (_ :: _ :: ow kT3 3 (.slice A14 j.Data.length D14) D :: _ :: _ :: W1) ?_
 refine aC (aB (aD (bS (A := (Unit) × (Unit)) (fun a => Z7_J10 D = some an) (fun a => []) (fun a => aK b9 [(sc A10 q8 D10)] 39 :: ow kT3 3 (.slice A14 j.Data.length D14) D :: aK F [(sc A13 j.Dims D13), (sc A14 j.Data D14)] 26 :: W1) ?_ ?_)))
 refine aD (aA (lS R (lO (bR aV R) (lO (hM R R) (lI R (aC (aB (aM ?_))))))))
 obtain ⟨e2, be, b1⟩ := bd g
 refine bQ (A := HH) be (fun s a => [(1, (.func (.func 72) [].toArray [(pt b9 0), (pt F 0)].toArray)), (2, (pt aj 0)), (4, (sc T (List.replicate (f1.steps.length : Int).toNat (0 : Int)) E)), (5, (.slice a.1 a.2.1 a.2.2)), (6, (iv s.2.2.1)), (7, (iv s.2.2.2))]) (fun s a => aK b9 [(sc A10 q8 D10)] 39 :: aK F [(sc A13 j.Dims D13), (sc A14 j.Data D14)] 26 :: ow kT3 3 (.slice A14 j.Data.length D14) D :: ow kT3 3 (.slice T (List.replicate (f1.steps.length : Int).toNat (0 : Int)).length E) s.1 :: ow kT3 3 (.slice a.1 a.2.1 a.2.2) s.2.1 :: W1) (ao, J.length, ar) (aS R) (fun w s => (s.e 5 [1, 3, 2, 0, 4])) ?_
 rintro ⟨a6, b, G, i⟩ ⟨ap, az, M⟩ σ1 a5 g b0
 replace g : Z7_L2 f1 D a6 b G i = some a5 := g
 unfold Z7_L2 at g
 refine cD 4 aH (fun (hn : az = b.length) => ?_)
 subst hn
 refine aD (aD (aA (lI R (lO (jW R R) (aC (aB ?_))))))
 rcases bG g with ⟨a7, g⟩ | ⟨a7, g⟩
 refine aL R a7 (aN (aB (aD (aM (aD (aA (lI R (aC (aB (aD (bS (A := (Int) × (Unit)) (fun a => Z7_J8 f1 D a6 b G i a.1 = some a5) (fun a => [(1, (.func (.func 72) [].toArray [(pt b9 0), (pt F 0)].toArray)), (2, (pt aj 0)), (4, (sc T (List.replicate (f1.steps.length : Int).toNat (0 : Int)) E)), (5, (sc ap b M)), (6, (iv G)), (7, (iv i)), (8, (iv a.1))]) (fun a => aK b9 [(sc A10 q8 D10)] 39 :: aK F [(sc A13 j.Dims D13), (sc A14 j.Data D14)] 26 :: ow kT3 3 (.slice A14 j.Data.length D14) D :: ow kT3 3 (.slice T (List.replicate (f1.steps.length : Int).toNat (0 : Int)).length E) a6 :: OO kT3 3 ap M b :: W1) ?_ ?_)))))))))))
 refine aD ?_
 obtain ⟨a2, g⟩ := gd g
 obtain ⟨ab, g⟩ := gd g
 refine bZ 4 aH (show 0 < b.length by have := a2; omega) (fun bg o192 ha => ?_)
 subst ha
 refine bZ 7 aE (show 0 < f1.loops.length by have := ab; omega) (fun bh o195 ha => ?_)
 subst ha
 refine eI 11 [] cF (fun ht hn => (dR 0 R (vS R) (dR 1 R (vI R) (dR 2 R (cK aV bX R R a2) (dR 3 R (dL 4 cE aH R a2) (dR 4 R (cX R R) (dR 5 R (bT 3 k9 R) (dR 6 R (bV 5 bK R R R) (dR 7 R (vI R) (dR 8 R (cK aV bX R R ab) (dR 9 R (dL 7 cE aE R ab) (dR 10 R (ji R R) (dD (aB ?_))))))))))))))
 rcases bG g with ⟨a8, g⟩ | ⟨a8, g⟩
 refine aL R a8 (aA (lS R (lI R (lO (cK aV bX R R a2) (lO (dL 4 cE aH R a2) (lO (vp (iv (aG (0 - (ix b i)))) R) (lI R (aC ?_))))))))
 exact qI ((aG (0 - (ix b i))), ()) g (fun w s => s)
 refine aI R a8 (aN ?_)
 exact qI ((1 : Int), ()) g (fun w s => s)
 rintro ⟨u, _⟩ σ1 g
 replace g : Z7_J8 f1 D a6 b G i u = some a5 := g
 unfold Z7_J8 at g
 refine aD ?_
 obtain ⟨U, g⟩ := gd g
 refine aA (lS R (lI R (bY 4 aH (show 0 < b.length by have := U; omega) (fun a1 o200 ha => ?_))))
 subst ha
 refine lO (cK aV bX R R U) (lO (dL 4 cE aH R U) (lI R (lO (cX R R) (lO (cK aV bX R R U) (lM (OO kT3 3 (ad a1 o200) M b :: aK _ _ _ :: aK _ _ _ :: ow _ _ _ _ :: ow kT3 3 (.slice T (List.replicate (f1.steps.length : Int).toNat (0 : Int)).length E) a6 :: W1) (fun w s => (s.f 5 [4, 1, 0, 4])) ?_)))))
 refine eG (K := kT3) (x' := (aG ((ix b i) + u))) 0 i R R bX R R U.1 U.2 ?_ ?_
 exact fun I h s => (fw).put I h () (aG ((ix b i) + u)) s
 refine lN (ow kT3 3 (.slice (ad a1 o200) b.length M) (b.set i.toNat (aG ((ix b i) + u))) :: _ :: _ :: _ :: _ :: W1) ?_
 refine aC (aB (aD ?_))
 obtain ⟨ac, g⟩ := gd g
 refine aA (lI R (lI R (lO (bT 6 pw R) (lO (bV 5 bK R R R) (lI R (bY 10 aE (show 0 < f1.store.length by have := ac; omega) (fun bi o203 ha => ?_)))))))
 subst ha
 refine lO (cK aV bX R R ac) (lO (dL 10 cE aE R ac) (lO (f9 R R) (lO (cX R R) (lI R (aC (aB (aD (bS (A := ((List Int)) × (Unit)) (fun a => Z7_J9 f1 D b G i u a.1 = some a5) (fun a => [(1, (.func (.func 72) [].toArray [(pt b9 0), (pt F 0)].toArray)), (2, (pt aj 0)), (4, (sc T (List.replicate (f1.steps.length : Int).toNat (0 : Int)) E)), (5, (sc (ad a1 o200) b M)), (6, (iv (aG (G + (aG (u * (ix f1.store i))))))), (7, (iv i)), (8, (iv u))]) (fun a => aK b9 [(sc A10 q8 D10)] 39 :: aK F [(sc A13 j.Dims D13), (sc A14 j.Data D14)] 26 :: ow kT3 3 (.slice A14 j.Data.length D14) D :: ow kT3 3 (.slice T (List.replicate (f1.steps.length : Int).toNat (0 : Int)).length E) a.1 :: ow kT3 3 (.slice (ad a1 o200) b.length M) (b.set i.toNat (aG ((ix b i) + u))) :: W1) ?_ ?_))))))))
 refine aD (aA (lS R (lO (bR aV R) (lI R (aC (aB (aM ?_)))))))
 obtain ⟨e3, bf, bb⟩ := bd g
 refine bQ (A := Unit) bf (fun s a => [(1, (.func (.func 72) [].toArray [(pt b9 0), (pt F 0)].toArray)), (2, (pt aj 0)), (4, (sc T (List.replicate (f1.steps.length : Int).toNat (0 : Int)) E)), (5, (sc (ad a1 o200) b M)), (6, (iv (aG (G + (aG (u * (ix f1.store i))))))), (7, (iv i)), (8, (iv u)), (62, (il (List.replicate (f1.steps.length : Int).toNat (0 : Int)))), (63, (iv s.2))]) (fun s a => aK b9 [(sc A10 q8 D10)] 39 :: aK F [(sc A13 j.Dims D13), (sc A14 j.Data D14)] 26 :: ow kT3 3 (.slice A14 j.Data.length D14) D :: ow kT3 3 (.slice T (List.replicate (f1.steps.length : Int).toNat (0 : Int)).length E) s.1 :: ow kT3 3 (.slice (ad a1 o200) b.length M) (b.set i.toNat (aG ((ix b i) + u))) :: W1) () (aS R) (fun w s => (s.f 5 [1, 4, 0, 1])) ?_
 rintro ⟨a3, q⟩ _ σ1 b3 g b8
 replace g : Z7_L3 f1 i u a3 q = some b3 := g
 unfold Z7_L3 at g
 refine aD (aA (lO (dQ R R) (aC (aB (aD ?_)))))
 rcases bG g with ⟨a9, g⟩ | ⟨a9, g⟩
 refine aL R a9 (aN (aB (aD (aM (aD (aA (lI R (lI R (aC (aB ?_))))))))))
 obtain ⟨a0, g⟩ := gd g
 obtain ⟨a4, g⟩ := gd g
 obtain ⟨ae, g⟩ := gd g
 refine bZ 3 aH (show 0 < (List.replicate (f1.steps.length : Int).toNat (0 : Int)).length by have := a0; omega) (fun ak o222 ha => ?_)
 subst ha
 refine bZ 9 aE (show 0 < f1.steps.length by have := a4; omega) (fun au o225 ha => ?_)
 subst ha
 refine j0 (K := cH) 9 q dT24.dec R a4.1 a4.2 ?_
 rintro ⟨aq, ah⟩
 refine cN (cl au (o225 + q.toNat * 1) [(sc aq (ix f1.steps q) ah)] :: RR kT3 aq ah (ix f1.steps q) :: _ :: _ :: _ :: ow kT3 3 (.slice (ad ak o222) (List.replicate (f1.steps.length : Int).toNat (0 : Int)).length E) a3 :: _ :: W1) ?_
 refine bZ 1 aE (show 0 < (ix f1.steps q).length by have := ae; omega) (fun av o229 ha => ?_)
 subst ha
 refine eI 17 [5] cF (fun ht hn => (dR 0 R (vS R) (hS := (sL [5])) (dR 1 R (vI R) (hS := (sL [5])) (dR 2 R (cK aV bX R R a0) (hS := (sL [5])) (dR 4 R (vI R) (hS := (sL [5])) (dR 5 R (bT 5 kU R) (hS := (sL [5])) (dR 6 R (bV 6 tZ R R R) (hS := (sL [5])) (dR 7 R (vI R) (hS := (sL [5])) (dR 8 R (cK gR fk R R a4) (hS := (sL [5])) (dR 9 R (iG (fo := 0) 0 bK R R R) (hS := (sL [5])) (dR 10 R (vI R) (hS := (sL [5])) (dR 11 R (cK aV bX R R ae) (hS := (sL [5])) (dR 12 R (dL 1 cE aE R ae) (hS := (sL [5])) (dR 13 R (f9 R R) (hS := (sL [5])) (d1 3 R (lO (dL 5 cE aH R a0) (aC (aP (sL [5]) (dR 14 R (cX R R) (hS := (sL [5])) (dR 15 R (cK aV bX R R a0) (hS := (sL [5])) (d1 16 R (lM (ow _ _ _ _ :: cl au (o225 + q.toNat * 1) [(sc (ad av o229) (ix f1.steps q) ah)] :: RR kT3 (ad av o229) ah (ix f1.steps q) :: aK _ _ _ :: aK _ _ _ :: ow _ _ _ _ :: ow _ _ _ _ :: W1) (fun w s => (s.f 7 [5, 1, 0, 5, 6, 1])) ?_))))))))))))))))))))))
 refine eG (K := kT3) (x' := (aG ((ix a3 q) + (aG (u * (ix (ix f1.steps q) i)))))) 0 q R R bX R R a0.1 a0.2 ?_ ?_
 exact fun I h s => (fw).put I h () (aG ((ix a3 q) + (aG (u * (ix (ix f1.steps q) i))))) s
 refine lN (ow kT3 3 (.slice (ad ak o222) (List.replicate (f1.steps.length : Int).toNat (0 : Int)).length E) (a3.set q.toNat (aG ((ix a3 q) + (aG (u * (ix (ix f1.steps q) i)))))) :: _ :: _ :: _ :: _ :: _ :: _ :: W1) ?_
 refine aC (aP (sL [0]) (dD ?_))
 obtain ⟨b2, ag, g⟩ := bd g
 replace ag := Option.some.inj ag
 refine qM (ow kT3 3 (.slice (ad ak o222) (List.replicate (f1.steps.length : Int).toNat (0 : Int)).length E) b2 :: _ :: _ :: _ :: _ :: _ :: _ :: W1) (fun w s => by rw [← ag]; exact s) ?_
 refine aZ (aB (aA (lO (cX R R) (lI R (aC ?_)))))
 obtain rfl := so g
 exact qA () (fun w s => (s.e 7 [3, 4, 5, 0, 6]))
 refine aI R a9 (bP (aR ?_))
 obtain rfl := so g
 obtain rfl := b8 _ R
 have g := bb
 refine aR (bE ?_)
 exact qI (a3, ()) g (fun w s => s)
 rintro ⟨b4, _⟩ σ1 g
 replace g : Z7_J9 f1 D b G i u b4 = some a5 := g
 unfold Z7_J9 at g
 refine aD (aA (lI R (lO (ji R R) (aC (aB ?_)))))
 rcases bG g with ⟨aa, g⟩ | ⟨aa, g⟩
 refine aL R aa (bP (kG R (aR ?_)))
 obtain rfl := so g
 obtain rfl := b0 _ R
 have g := b1
 refine aR (kG R (aR (bE ?_)))
 obtain rfl := so g
 exact qA ((ad a1 o200), b.length, M) (fun w s => s)
 refine aI R aa (aN (aZ (aB (aA (lI R (lO (hM R R) (lI R (aC ?_))))))))
 obtain rfl := so g
 exact qA ((ad a1 o200), b.length, M) (fun w s => s)
 refine aI R a7 (bP (aR ?_))
 obtain rfl := so g
 obtain rfl := b0 _ R
 have g := b1
 refine aR (bE ?_)
 exact eF ((), ()) g trivial (fun w s => (s.e 5 [0, 2, 1]))
 rintro ⟨_, _⟩ σ1 g
 replace g : Z7_J10 D = some an := g
 unfold Z7_J10 at g
 refine aW (bB ?_)
 obtain rfl := so g
 obtain rfl := b7 _ R
 have g := ba
 refine bA (bB (p9 ?_))
 obtain rfl := so g
 exact bU (vs := []) (.inl R) () R trivial R (fun w s => (s.f 11 [0, 3]))
theorem Z0q_ok  {F : aO} {q : (List Tensor)} {mG : Int} {r : Tensor} (u : Z0q F q = some r) :
 FnOk Tryz.prog 16 [(aJ F), (.slice A3 N3 D3)] [aQ eO (.slice A3 N3 D3) q, gl 0 mG] (fun (h : HH × HH) => ((.agg [(.slice h.1.1 h.1.2.1 h.1.2.2), (.slice h.2.1 h.2.2.1 h.2.2.2)].toArray), [ow kT3 3 (.slice h.1.1 h.1.2.1 h.1.2.2) r.Dims, ow kT3 3 (.slice h.2.1 h.2.2.1 h.2.2.2) r.Data])) := by
 unfold Z0q at u
 refine bN Tryz.func16 R 29 R R fun C V => ?_
 refine cN (_ :: _ :: V) ?_
 refine cL 0 aE ?_
 rintro rfl
 let G : List HP := RR eO A3 D3 q :: gl 0 mG :: V
 refine cN G ?_
 refine aD (aA (gh (cs := [(sc A3 q D3)]) R R R (fun b4 => (bM R R dC (fun b5 => (aC (aB (aD (aD ?_)))))))))
 obtain ⟨r6, aj, u⟩ := bd u
 refine aA (lO (bV 1 tX R R R) (lM (RR eO A3 D3 q :: _ :: _ :: G) (fun w s => (s.d 2 R)) ?_))
 refine lC 1 vG R (Zq_ok aj) R ?_
 rintro _
 refine lN (_ :: _ :: G) ?_
 refine lO (ft R) (aC (aB ?_))
 rcases bG u with ⟨a4, u⟩ | ⟨a4, u⟩
 refine aL R a4 (aD (aA (lO (vz (.agg [(.slice none 0 0), (.slice none 0 0)].toArray) (bW fF dC R R)) (aU 0 R R bO R R R R R R (aC (aB (aW (bA ?_))))))))
 obtain rfl := so u
 exact bU (vs := [(.agg [(.slice none 0 0), (.slice none 0 0)].toArray)]) (.inl R) ((none, 0, 0), (none, 0, 0)) R ⟨⟨0, b5, _, _, R, R, .inl ⟨cJ, bO, R⟩⟩, trivial⟩ R (fun w s => (((s.nilo kT3 3).nilo kT3 3).e 6 [1, 0]))
 refine aI R a4 (aN (aB (aD ?_)))
 obtain ⟨r9, a5, u⟩ := bd u
 obtain ⟨a, a6, u⟩ := bd u
 refine aA (lO (vp (aJ F) R) (lO (bV 1 tX R R R) (lM (RR eO A3 D3 q :: _ :: _ :: G) (fun w s => (s.d 2 R)) ?_)))
 refine lC 1 xt R (Z1f_ok a5) R ?_
 rintro ⟨a2, a9, a3⟩
 refine lN (ow (cH).share 24 (.slice a2 a9 a3) r9 :: _ :: _ :: G) ?_
 refine aY 0 iH ?_
 rintro rfl
 refine ie (fun w s => s.shs 0 R) (lM (RR cH a2 a3 r9 :: gl 0 mG :: RR cH a2 a3 r9 :: aK _ _ _ :: aK _ _ _ :: G) (fun w s => (((s.d 0 R).dg 5 R).e 5 [1, 0, 2, 3, 4])) ?_)
 refine lC 2 xu R (Z1_ok a6) R ?_
 rintro ⟨⟨A14, N14, D14⟩, ⟨T, aa, U⟩, ⟨D, ab, E⟩, ⟨I, ac, L⟩, ⟨J, ae, M⟩⟩
 refine lN (aQ cV (.slice A14 N14 D14) a.1.groups :: aQ kT3 (.slice T aa U) a.1.loops :: ow kT3 3 (.slice D ab E) a.1.dims :: ow cH 24 (.slice I ac L) a.1.steps :: ow kT3 3 (.slice J ae M) a.1.store :: _ :: _ :: _ :: G) ?_
 refine aY 0 aE ?_
 rintro rfl
 refine aY 1 aE ?_
 rintro rfl
 refine aY 2 aH ?_
 rintro rfl
 refine aY 3 aH ?_
 rintro rfl
 refine aY 4 aH ?_
 rintro rfl
 refine lO (vT R) (lO (vA R) (lB R (bM R R kS (fun ai => (aU 0 R R gE R R R R R R (lN (aK ai [(sc A14 a.1.groups D14), (aJ a.1.out_), (aJ a.1.order), (sc T a.1.loops U), (sc D a.1.dims E), (sc I a.1.steps L), (sc J a.1.store M)] 95 :: _ :: _ :: _ :: _ :: _ :: _ :: _ :: _ :: G) ?_))))))
 refine lB R (aC (aB (aD (aD (aA (lB R (lO (ft R) (aC (aB ?_)))))))))
 rcases bG u with ⟨a0, u⟩ | ⟨a0, u⟩
 refine aL R a0 (aD (aA (lO (vz (.agg [(.slice none 0 0), (.slice none 0 0)].toArray) (bW fF dC R R)) (aU 7 R R bO R R R R R R (aC (aB (aW (bA ?_))))))))
 obtain rfl := so u
 exact bU (vs := [(.agg [(.slice none 0 0), (.slice none 0 0)].toArray)]) (.inl R) ((none, 0, 0), (none, 0, 0)) R ⟨⟨7, b5, _, _, R, R, .inl ⟨cJ, bO, R⟩⟩, trivial⟩ R (fun w s => (((s.nilo kT3 3).nilo kT3 3).e 13 [1, 0]))
 refine aI R a0 (aN (aB (aD ?_)))
 obtain ⟨b, a7, u⟩ := bd u
 refine aA (lO (bT 4 kT R) (lO (bV 0 bK R R R) (lM (ow _ _ _ _ :: aK _ _ _ :: aQ _ _ _ :: aQ _ _ _ :: ow _ _ _ _ :: ow _ _ _ _ :: aQ _ _ _ :: aK _ _ _ :: aK _ _ _ :: G) (fun w s => (s.f 9 [3, 1, 0, 3, 4, 5])) ?_)))
 refine lC 1 tO R (FnOk.lends (A' := [OO kT3 3 D E a.1.dims]) (A := [RR kT3 D E a.1.dims]) (B := []) (Z0z_ok a7) ⟨bD, trivial⟩ (fun _ => ⟨(bL fM), (bL fM), trivial⟩)) R ?_
 rintro ⟨⟨g, ag, j⟩, ⟨i, ah, m⟩⟩
 refine lN (_ :: ow kT3 3 (.slice g ag j) b.Dims :: ow kT3 3 (.slice i ah m) b.Data :: _ :: _ :: _ :: _ :: _ :: _ :: _ :: _ :: G) ?_
 refine aY 1 aH ?_
 rintro rfl
 refine aY 2 aH ?_
 rintro rfl
 refine bM R R dC (fun a1 => (aU 0 R R bO R R R R R R (lN (aK a1 [(sc g b.Dims j), (sc i b.Data m)] 26 :: _ :: _ :: _ :: _ :: _ :: _ :: _ :: _ :: _ :: _ :: _ :: G) ?_)))
 refine aC (aB (aD ?_))
 obtain ⟨ak, a8, u⟩ := bd u
 refine aA (lO (vz (.agg [(sc A14 a.1.groups D14), (aJ a.1.out_), (aJ a.1.order), (sc T a.1.loops U), (sc D a.1.dims E), (sc I a.1.steps L), (sc J a.1.store M)].toArray) (bF 4 ks gE R R R R)) (lO (vp (.func (.func 72) [].toArray [(pt b4 0), (pt a1 0)].toArray) R) (lM (ow _ _ _ _ :: ow _ _ _ _ :: ow _ _ _ _ :: ow _ _ _ _ :: aQ _ _ _ :: aQ _ _ _ :: RR eO A3 D3 q :: aK _ _ _ :: ow _ _ _ _ :: aK _ _ _ :: aK _ _ _ :: aQ _ _ _ :: aQ _ _ _ :: aQ _ _ _ :: aK _ _ _ :: G) (fun w s => ((((s.d 5 R).d 7 R).d 14 R).e 15 [4, 10, 11, 5, 2, 1, 0, 14, 6, 3, 7, 8, 9, 12, 13])) ?_)))
 refine lC 10 xw R (FnOk.lends (A' := [OO kT3 3 D E a.1.dims, OO cH 24 I L a.1.steps, OO kT3 3 J M a.1.store, OO kT3 3 g j b.Dims]) (A := [RR kT3 D E a.1.dims, RR cH I L a.1.steps, RR kT3 J M a.1.store, RR kT3 g j b.Dims]) (B := [RR cV A14 D14 a.1.groups, RR kT3 T U a.1.loops, RR eO A3 D3 q, aK b4 [(sc A3 q D3)] 39, OO kT3 3 i m b.Data, aK a1 [(sc g b.Dims j), (sc i b.Data m)] 26]) (FnOk.perm (Z7_ok a8) (Pre' := [RR kT3 D E a.1.dims, RR cH I L a.1.steps, RR kT3 J M a.1.store, RR kT3 g j b.Dims, RR cV A14 D14 a.1.groups, RR kT3 T U a.1.loops, RR eO A3 D3 q, aK b4 [(sc A3 q D3)] 39, OO kT3 3 i m b.Data, aK a1 [(sc g b.Dims j), (sc i b.Data m)] 26]) (fun _ _ _ s => (s.e 10 [4, 5, 0, 1, 2, 6, 7, 3, 8, 9]))) ⟨bD, bD, bD, bD, trivial⟩ (fun _ => ⟨hJ, (bL fM), hJ, trivial⟩)) R ?_
 rintro _
 refine lN (_ :: _ :: _ :: _ :: _ :: ow kT3 3 (.slice i b.Data.length m) ak :: _ :: _ :: _ :: _ :: _ :: _ :: G) ?_
 refine aC (aB (aD (aA (lO (vz (.agg [(sc g b.Dims j), (sc i b.Data m)].toArray) (bF 6 cJ bO R R R R)) (aU 11 R R bO R R R R R R (lN (_ :: _ :: _ :: _ :: _ :: _ :: _ :: _ :: _ :: _ :: _ :: aK b5 [(sc g b.Dims j), (sc i b.Data m)] 26 :: G) ?_))))))
 refine aC (aB (aW ?_))
 obtain rfl := so u
 exact bU (vs := [(.agg [(sc g b.Dims j), (sc i b.Data m)].toArray)]) (.inl R) ((g, b.Dims.length, j), (i, b.Data.length, m)) R ⟨⟨11, b5, _, _, R, R, .inl ⟨cJ, bO, R⟩⟩, trivial⟩ R (fun w s => (s.e 14 [3, 5]))
end Go.Proofs.YthfhllekobdelaaGreatDoor
