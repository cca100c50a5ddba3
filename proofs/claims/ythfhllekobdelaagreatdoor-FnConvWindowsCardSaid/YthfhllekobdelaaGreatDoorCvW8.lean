import Derived.Test.YthfhllekobdelaaGreatDoorCvF
import Derived.Test.YthfhllekobdelaaGreatDoorCvW1
import Derived.Test.YthfhllekobdelaaGreatDoorCvW2
import Derived.Test.YthfhllekobdelaaGreatDoorCvW3
import Derived.Test.YthfhllekobdelaaGreatDoorCvW4
import Derived.Test.YthfhllekobdelaaGreatDoorCvW5
import Derived.Test.YthfhllekobdelaaGreatDoorCvW6
import Derived.Test.YthfhllekobdelaaGreatDoorCvW7
set_option linter.unusedVariables false
set_option maxRecDepth 20000
namespace Go.Proofs.YthfhllekobdelaaGreatDoor
open Go Go.Pg
variable {A2 : Option Addr} {D2 N2 : Nat}
theorem Z1u_ok  {a4 : (List Int)} {mG : Int} {r : Bool} (g : Z1u a4 = some r) :
 FnOk Tryz.prog 3 [(.slice A2 N2 D2)] [aQ eC (.slice A2 N2 D2) a4, gl 0 mG] (fun (h : Unit) => ((.bool r), [])) := by
 unfold Z1u at g
 refine bN Tryz.func3 R 145 R R fun C V => ?_
 refine cN (_ :: _ :: V) ?_
 refine cL 0 aE ?_
 rintro rfl
 let j : List HP := RR eC A2 D2 a4 :: gl 0 mG :: V
 refine cN j ?_
 refine aD (aA (lB R (aC (aB (aD (aD ?_))))))
 obtain ⟨r3, ez, g⟩ := bd g
 refine aA (lS R (lM (RR eC A2 D2 a4 :: j) (fun w s => (s.d 0 R)) ?_))
 refine lC 1 cb6 R (Z1v_ok ez) R ?_
 rintro _
 refine lN j ?_
 refine aC (aB ?_)
 rcases bG g with ⟨cu, g⟩ | ⟨cu, g⟩
 refine aL R cu (aD (aA (lB R (aC (aB (aW (bA ?_)))))))
 obtain rfl := so g
 exact qF () (fun w s => (s.e 2 []))
 refine aI R cu (aN (aB (aD ?_)))
 obtain ⟨b, f0, g⟩ := bd g
 refine aA (lS R (lM (RR eC A2 D2 a4 :: j) (fun w s => (s.d 0 R)) ?_))
 refine lC 1 cb7 R (Zz_ok f0) R ?_
 rintro ⟨⟨A8, N8, D8⟩, ⟨A9, N9, D9⟩, ⟨A10, N10, D10⟩, ⟨E, dz, F⟩⟩
 refine lN (ow kT3 3 (.slice A8 N8 D8) b.1.Dims :: ow kT3 3 (.slice A9 N9 D9) b.1.Data :: ow kT3 3 (.slice A10 N10 D10) b.2.1.Dims :: ow kT3 3 (.slice E dz F) b.2.1.Data :: j) ?_
 refine aY 0 aH ?_
 rintro rfl
 refine aY 1 aH ?_
 rintro rfl
 refine aY 2 aH ?_
 rintro rfl
 refine aY 3 aH ?_
 rintro rfl
 refine lO (vT R) (lO (vA R) (lO (vA R) (lI R (lI R (lI R (lI R (bM R R dC (fun cr => (bM R R dC (fun bh => (aU 1 R R bO R R R R R R (lN (_ :: aK cr [(sc A8 b.1.Dims D8), (sc A9 b.1.Data D9)] 26 :: _ :: _ :: _ :: _ :: j) ?_))))))))))))
 refine aU 0 R R bO R R R R R R (lN (aK bh [(sc A10 b.2.1.Dims D10), (sc E b.2.1.Data F)] 26 :: _ :: _ :: _ :: _ :: _ :: j) ?_)
 refine lI R (lI R (lI R (lI R (aC (aB (aD ?_))))))
 obtain ⟨m, d6, g⟩ := bd g
 refine aA (cC (K := kT3) (xs := ([(1 : Int), (1 : Int), (1 : Int), (1 : Int)] : List Int)) (vs := [(iv 1), (iv 1), (iv 1), (iv 1)]) 0 R R aV bX fj R R R R R R ?_ R (fun A14 D14 => ?_))
 exact fun I h s => (fw).list [((), (1 : Int)), ((), (1 : Int)), ((), (1 : Int)), ((), (1 : Int))] I h s
 refine lN (OO kT3 3 A14 D14 ([(1 : Int), (1 : Int), (1 : Int), (1 : Int)] : List Int) :: _ :: _ :: _ :: _ :: _ :: _ :: j) ?_
 refine lC 1 cb8 R (FnOk.lends (A' := [OO kT3 3 A14 D14 ([(1 : Int), (1 : Int), (1 : Int), (1 : Int)] : List Int)]) (A := [RR kT3 A14 D14 ([(1 : Int), (1 : Int), (1 : Int), (1 : Int)] : List Int)]) (B := []) (Z0i_ok d6) ⟨bD, trivial⟩ (fun _ => ⟨(bL fM), (bL fM), trivial⟩)) R ?_
 rintro ⟨⟨M, e0, U⟩, ⟨T, e1, a0⟩⟩
 refine lN (_ :: ow kT3 3 (.slice M e0 U) m.Dims :: ow kT3 3 (.slice T e1 a0) m.Data :: _ :: _ :: _ :: _ :: _ :: _ :: j) ?_
 refine aY 1 aH ?_
 rintro rfl
 refine aY 2 aH ?_
 rintro rfl
 refine bM R R dC (fun ey => (aU 0 R R bO R R R R R R (lN (aK ey [(sc M m.Dims U), (sc T m.Data a0)] 26 :: _ :: _ :: _ :: _ :: _ :: _ :: _ :: _ :: _ :: j) ?_)))
 refine aC (aB (aD (aD ?_)))
 obtain ⟨a2, bm, g⟩ := bd g
 obtain ⟨dn, bn, g⟩ := bd g
 refine cQ [(3, (pt cr 0)), (4, (pt bh 0)), (5, (iv b.2.2.1)), (6, (iv b.2.2.2.1)), (38, (.bool ((!dn) || ((m.Data.length : Int) != (1 : Int)))))] (aK cr [(sc A8 b.1.Dims D8), (sc A9 b.1.Data D9)] 26 :: OO kT3 3 A8 D8 b.1.Dims :: OO kT3 3 A9 D9 b.1.Data :: aK bh [(sc A10 b.2.1.Dims D10), (sc E b.2.1.Data F)] 26 :: OO kT3 3 A10 D10 b.2.1.Dims :: OO kT3 3 E F b.2.1.Data :: j) ?_ ?_
 rcases bo (!dn) with J | J
 refine mz (fun w s => s.shr 2 R) (mz (fun w s => s.shr 3 R) (eI 12 [] cF (fun ht hn => (dR 0 R (vz (.agg [(sc M m.Dims U), (sc T m.Data a0)].toArray) (bF 2 cJ bO R R R R)) (dR 1 R (vz (.agg [(sc M m.Dims U), (sc T m.Data a0)].toArray) (bF 2 cJ bO R R R R)) (dR 3 R (vz (.agg [(sc M m.Dims U), (sc T m.Data a0)].toArray) (bF 2 cJ bO R R R R)) (d1 2 R (lM (RR kT3 M U m.Dims :: RR kT3 T a0 m.Data :: RR kT3 M U m.Dims :: RR kT3 T a0 m.Data :: RR kT3 T a0 m.Data :: RR kT3 M U m.Dims :: aK _ _ _ :: ow _ _ _ _ :: aK _ _ _ :: aK _ _ _ :: ow _ _ _ _ :: ow _ _ _ _ :: ow _ _ _ _ :: ow _ _ _ _ :: j) (fun w s => (((((s.d 1 R).d 1 R).d 3 R).d 3 R).f 14 [3, 1, 2, 1, 1, 1, 0, 1, 4, 10])) ?_))))))))
 refine lC 4 tS R (Z3_ok bm) R ?_
 rintro ⟨⟨ac, cp, ao⟩, ⟨ae, cq, ap⟩⟩
 refine lN (ow kT3 3 (.slice ac cp ao) a2.Dims :: ow kT3 3 (.slice ae cq ap) a2.Data :: _ :: _ :: _ :: _ :: _ :: _ :: _ :: _ :: _ :: _ :: j) ?_
 refine aY 0 aH ?_
 rintro rfl
 refine aY 1 aH ?_
 rintro rfl
 refine aC (aP (sL [1, 0]) (d1 4 R (lM (ow _ _ _ _ :: ow _ _ _ _ :: aQ _ _ _ :: aQ _ _ _ :: aQ _ _ _ :: aQ _ _ _ :: aK _ _ _ :: ow _ _ _ _ :: aK _ _ _ :: aK _ _ _ :: ow _ _ _ _ :: ow _ _ _ _ :: ow _ _ _ _ :: ow _ _ _ _ :: j) (fun w s => (((s.d 3 R).d 3 R).f 14 [2, 2, 1, 1, 0, 1, 4, 10])) ?_)))
 refine lC 4 xb R (FnOk.lends (A' := [OO kT3 3 ac ao a2.Dims, OO kT3 3 ae ap a2.Data]) (A := [RR kT3 ac ao a2.Dims, RR kT3 ae ap a2.Data]) (B := [RR kT3 M U m.Dims, RR kT3 T a0 m.Data]) (Z12_ok bn) ⟨bD, bD, trivial⟩ (fun _ => trivial)) R ?_
 rintro _
 refine lN (_ :: _ :: _ :: _ :: _ :: _ :: _ :: _ :: _ :: _ :: _ :: _ :: j) ?_
 refine aC (aP (sL [1, 0]) (dR 5 R (ft R) (hS := (sL [1, 0])) (dR 6 R (vB R) (hS := (sL [1, 0])) (dF 7 R (aT J) (hS := (sL [1, 0])) (dF 8 R (aT J) (hS := (sL [1, 0])) (dF 9 R (aT J) (hS := (sL [1, 0])) (dF 10 R (aT J) (hS := (sL [1, 0])) (dR 11 R (cW ((m.Data.length : Int) != (1 : Int)) R J) (hS := (sL [1, 0])) (dD ?_)))))))))
 exact qJ (fun w s => (s.e 12 [7, 8, 9, 6, 10, 11]))
 refine mz (fun w s => s.shr 2 R) (mz (fun w s => s.shr 3 R) (eI 12 [] cF (fun ht hn => (dR 0 R (vz (.agg [(sc M m.Dims U), (sc T m.Data a0)].toArray) (bF 2 cJ bO R R R R)) (dR 1 R (vz (.agg [(sc M m.Dims U), (sc T m.Data a0)].toArray) (bF 2 cJ bO R R R R)) (dR 3 R (vz (.agg [(sc M m.Dims U), (sc T m.Data a0)].toArray) (bF 2 cJ bO R R R R)) (d1 2 R (lM (aQ _ _ _ :: aQ _ _ _ :: aQ _ _ _ :: aQ _ _ _ :: aQ _ _ _ :: aQ _ _ _ :: aK _ _ _ :: ow _ _ _ _ :: aK _ _ _ :: aK _ _ _ :: ow _ _ _ _ :: ow _ _ _ _ :: ow _ _ _ _ :: ow _ _ _ _ :: j) (fun w s => (((((s.d 1 R).d 1 R).d 3 R).d 3 R).f 14 [3, 1, 2, 1, 1, 1, 0, 1, 4, 10])) ?_))))))))
 refine lC 4 tS R (Z3_ok bm) R ?_
 rintro ⟨⟨ac, cp, ao⟩, ⟨ae, cq, ap⟩⟩
 refine lN (ow kT3 3 (.slice ac cp ao) a2.Dims :: ow kT3 3 (.slice ae cq ap) a2.Data :: _ :: _ :: _ :: _ :: _ :: _ :: _ :: _ :: _ :: _ :: j) ?_
 refine aY 0 aH ?_
 rintro rfl
 refine aY 1 aH ?_
 rintro rfl
 refine aC (aP (sL [1, 0]) (d1 4 R (lM (ow _ _ _ _ :: ow _ _ _ _ :: aQ _ _ _ :: aQ _ _ _ :: aQ _ _ _ :: aQ _ _ _ :: aK _ _ _ :: ow _ _ _ _ :: aK _ _ _ :: aK _ _ _ :: ow _ _ _ _ :: ow _ _ _ _ :: ow _ _ _ _ :: ow _ _ _ _ :: j) (fun w s => (((s.d 3 R).d 3 R).f 14 [2, 2, 1, 1, 0, 1, 4, 10])) ?_)))
 refine lC 4 xb R (FnOk.lends (A' := [OO kT3 3 ac ao a2.Dims, OO kT3 3 ae ap a2.Data]) (A := [RR kT3 ac ao a2.Dims, RR kT3 ae ap a2.Data]) (B := [RR kT3 M U m.Dims, RR kT3 T a0 m.Data]) (Z12_ok bn) ⟨bD, bD, trivial⟩ (fun _ => trivial)) R ?_
 rintro _
 refine lN (_ :: _ :: _ :: _ :: _ :: _ :: _ :: _ :: _ :: _ :: _ :: _ :: j) ?_
 refine aC (aP (sL [1, 0]) (dR 5 R (ft R) (hS := (sL [1, 0])) (dR 6 R (vB R) (hS := (sL [1, 0])) (dW 7 R (bI J) (bT 1 cA R) (hS := (sL [1, 0])) (dW 8 R (bI J) (bV 2 bK R R R) (hS := (sL [1, 0])) (dW 9 R (bI J) (bR aV R) (hS := (sL [1, 0])) (dW 10 R (bI J) (ig R R) (hS := (sL [1, 0])) (dR 11 R (eS R J R) (hS := (sL [1, 0])) (dD ?_)))))))))
 exact qJ (fun w s => (s.e 12 [7, 8, 9, 6, 10, 11]))
 rintro σ1
 refine aB ?_
 rcases bG g with ⟨bc, g⟩ | ⟨bc, g⟩
 refine aL R bc (aD (aA (lB R (aC (aB (aW (bA ?_)))))))
 obtain rfl := so g
 exact qF () (fun w s => (s.e 8 []))
 refine aI R bc (aN (aB (aD ?_)))
 obtain ⟨L, d7, g⟩ := bd g
 refine aA (lO (vz (.agg [(sc A8 b.1.Dims D8), (sc A9 b.1.Data D9)].toArray) (bF 0 cJ bO R R R R)) (lO (vz (.agg [(sc A10 b.2.1.Dims D10), (sc E b.2.1.Data F)].toArray) (bF 3 cJ bO R R R R)) (lI R (lI R (lM (ow _ _ _ _ :: ow _ _ _ _ :: ow _ _ _ _ :: ow _ _ _ _ :: aK _ _ _ :: aK _ _ _ :: j) (fun w s => (s.e 6 [1, 2, 4, 5, 0, 3])) ?_)))))
 refine lC 4 tS R (FnOk.lends (A' := [OO kT3 3 A8 D8 b.1.Dims, OO kT3 3 A9 D9 b.1.Data, OO kT3 3 A10 D10 b.2.1.Dims, OO kT3 3 E F b.2.1.Data]) (A := [RR kT3 A8 D8 b.1.Dims, RR kT3 A9 D9 b.1.Data, RR kT3 A10 D10 b.2.1.Dims, RR kT3 E F b.2.1.Data]) (B := []) (Z3_ok d7) ⟨bD, bD, bD, bD, trivial⟩ (fun _ => ⟨(bL fM), (bL fM), trivial⟩)) R ?_
 rintro ⟨⟨ag, e2, aq⟩, ⟨ah, e3, ar⟩⟩
 refine lN (_ :: _ :: _ :: _ :: ow kT3 3 (.slice ag e2 aq) L.Dims :: ow kT3 3 (.slice ah e3 ar) L.Data :: _ :: _ :: j) ?_
 refine aY 4 aH ?_
 rintro rfl
 refine aY 5 aH ?_
 rintro rfl
 refine bM R R dC (fun cs => (aU 0 R R bO R R R R R R (lN (aK cs [(sc ag L.Dims aq), (sc ah L.Data ar)] 26 :: _ :: _ :: _ :: _ :: _ :: _ :: _ :: _ :: j) ?_)))
 refine aC (aB (aD (aD ?_)))
 obtain ⟨cx, d8, g⟩ := bd g
 refine eI 11 [] cF (fun ht hn => (dR 0 R (bT 1 cA R) (dR 1 R (bV 0 bK R R R) (dR 2 R (bR aV R) (dR 3 R (vz (.agg [(sc A8 b.1.Dims D8), (sc A9 b.1.Data D9)].toArray) (bF 7 cJ bO R R R R)) (dR 4 R (vz (.agg [(sc A10 b.2.1.Dims D10), (sc E b.2.1.Data F)].toArray) (bF 8 cJ bO R R R R)) (dR 5 R (vI R) (dR 6 R (vI R) (d1 7 R (lM (ow _ _ _ _ :: ow _ _ _ _ :: ow _ _ _ _ :: ow _ _ _ _ :: aK _ _ _ :: ow _ _ _ _ :: ow _ _ _ _ :: aK _ _ _ :: aK _ _ _ :: j) (fun w s => (s.f 9 [1, 4, 0, 1, 5, 4])) ?_))))))))))
 refine lC 4 xe R (FnOk.lends (A' := [OO kT3 3 A8 D8 b.1.Dims, OO kT3 3 A9 D9 b.1.Data, OO kT3 3 A10 D10 b.2.1.Dims, OO kT3 3 E F b.2.1.Data]) (A := [RR kT3 A8 D8 b.1.Dims, RR kT3 A9 D9 b.1.Data, RR kT3 A10 D10 b.2.1.Dims, RR kT3 E F b.2.1.Data]) (B := []) (Ze_ok d8) ⟨bD, bD, bD, bD, trivial⟩ (fun _ => ⟨(bL fM), (bL fM), trivial⟩)) R ?_
 rintro ⟨⟨dr, e4, dv⟩, ⟨cz, e5, d2⟩⟩
 refine lN (_ :: _ :: _ :: _ :: ow kT3 3 (.slice dr e4 dv) cx.Dims :: ow kT3 3 (.slice cz e5 d2) cx.Data :: _ :: _ :: _ :: _ :: _ :: j) ?_
 refine aY 4 aH ?_
 rintro rfl
 refine aY 5 aH ?_
 rintro rfl
 refine aC (aP (fun w s => (s.f 11 [6, 1, 0, 4, 7, 4])) (dR 8 R (vz (sc cz cx.Data d2) (si pm bK R R)) (hS := (fun w s => (s.f 11 [6, 1, 0, 4, 7, 4]))) (dR 9 R (bR aV R) (hS := (fun w s => (s.f 11 [6, 1, 0, 4, 7, 4]))) (dR 10 R (ig R R) (hS := (fun w s => (s.f 11 [6, 1, 0, 4, 7, 4]))) (dD (aB ?_))))))
 rcases bG g with ⟨be, g⟩ | ⟨be, g⟩
 refine aL R be (aD (aA (lB R (aC (aB (aW (bA ?_)))))))
 obtain rfl := so g
 exact qF () (fun w s => (s.e 13 []))
 refine aI R be (aN (aB (aD (aD (aA (lO (bT 1 cA R) (lO (bV 6 bK R R R) (lO (bR aV R) (lO (ji R R) (aC (aB ?_)))))))))))
 rcases bG g with ⟨bf, g⟩ | ⟨bf, g⟩
 refine aL R bf (aD (aA (lB R (aC (aB (aW (bA ?_)))))))
 obtain rfl := so g
 exact qF () (fun w s => (s.e 13 []))
 refine aI R bf (aN (aB (aD ?_)))
 obtain ⟨b4, d9, g⟩ := bd g
 obtain ⟨a3, da, g⟩ := bd g
 refine aA (lO (vz (.agg [(sc A8 b.1.Dims D8), (sc A9 b.1.Data D9)].toArray) (bF 9 cJ bO R R R R)) (lI R (lI R (lC 2 vU R (FnOk.lends (A' := [OO kT3 3 A8 D8 b.1.Dims, OO kT3 3 A9 D9 b.1.Data]) (A := [RR kT3 A8 D8 b.1.Dims, RR kT3 A9 D9 b.1.Data]) (B := []) (Z0e_ok d9) ⟨bD, bD, trivial⟩ (fun _ => ⟨(bL fM), (bL fM), trivial⟩)) R ?_))))
 rintro ⟨⟨bp, e6, c7⟩, ⟨bq, e7, c8⟩⟩
 refine lN (_ :: _ :: ow kT3 3 (.slice bp e6 c7) b4.Dims :: ow kT3 3 (.slice bq e7 c8) b4.Data :: _ :: _ :: _ :: _ :: _ :: _ :: _ :: _ :: _ :: j) ?_
 refine aY 2 aH ?_
 rintro rfl
 refine aY 3 aH ?_
 rintro rfl
 refine lI R (lI R (lM (ow _ _ _ _ :: ow _ _ _ _ :: ow _ _ _ _ :: ow _ _ _ _ :: ow _ _ _ _ :: ow _ _ _ _ :: ow _ _ _ _ :: ow _ _ _ _ :: aK _ _ _ :: ow _ _ _ _ :: ow _ _ _ _ :: aK _ _ _ :: aK _ _ _ :: j) (fun w s => (s.f 13 [2, 2, 0, 2, 4, 9])) ?_))
 refine lC 2 vU R (FnOk.lends (A' := [OO kT3 3 bp c7 b4.Dims, OO kT3 3 bq c8 b4.Data]) (A := [RR kT3 bp c7 b4.Dims, RR kT3 bq c8 b4.Data]) (B := []) (Z0e_ok da) ⟨bD, bD, trivial⟩ (fun _ => ⟨(bL fM), (bL fM), trivial⟩)) R ?_
 rintro ⟨⟨ai, e8, au⟩, ⟨ba, e9, bb⟩⟩
 refine lN (_ :: _ :: ow kT3 3 (.slice ai e8 au) a3.Dims :: ow kT3 3 (.slice ba e9 bb) a3.Data :: _ :: _ :: _ :: _ :: _ :: _ :: _ :: _ :: _ :: _ :: _ :: j) ?_
 refine aY 2 aH ?_
 rintro rfl
 refine aY 3 aH ?_
 rintro rfl
 refine bM R R dC (fun bi => (aU 0 R R bO R R R R R R (lN (aK bi [(sc ai a3.Dims au), (sc ba a3.Data bb)] 26 :: _ :: _ :: _ :: _ :: _ :: _ :: _ :: _ :: _ :: _ :: _ :: _ :: _ :: _ :: _ :: j) ?_)))
 refine aC (aB (aD ?_))
 obtain ⟨b5, db, g⟩ := bd g
 obtain ⟨aa, g⟩ := gd g
 obtain ⟨b6, dc, g⟩ := bd g
 obtain ⟨b1, g⟩ := gd g
 obtain ⟨b7, dd, g⟩ := bd g
 obtain ⟨q, de, g⟩ := bd g
 refine bZ 7 aH (show 0 < b.2.1.Dims.length by have := aa; omega) (fun a5 o54 ha => ?_)
 subst ha
 refine eI 17 [] cF (fun ht hn => (dR 0 R (vz (.agg [(sc ai a3.Dims au), (sc ba a3.Data bb)].toArray) (bF 0 cJ bO R R R R)) (dR 1 R (bT 0 cG R) (dR 2 R (bV 0 bK R R R) (dR 4 R (bT 0 cG R) (dR 5 R (bV 15 bK R R R) (dR 6 R (cK aV bX R R aa) (dR 7 R (dL 7 cE aH R aa) (dR 8 R (vI R) (dR 10 R (bT 0 cG R) (dR 11 R (bV 15 bK R R R) (dR 12 R (cK aV bX R R b1) (dR 13 R (dL 7 cE aH R b1) (dR 14 R (vI R) (d1 3 R (lM (ow _ _ _ _ :: aK _ _ _ :: ow _ _ _ _ :: ow _ _ _ _ :: ow _ _ _ _ :: ow _ _ _ _ :: ow _ _ _ _ :: OO kT3 3 (ad a5 o54) D10 b.2.1.Dims :: ow _ _ _ _ :: ow _ _ _ _ :: ow _ _ _ _ :: aK _ _ _ :: ow _ _ _ _ :: ow _ _ _ _ :: aK _ _ _ :: aK bh [(sc (ad a5 o54) b.2.1.Dims D10), (sc E b.2.1.Data F)] 26 :: j) (fun w s => (s.f 16 [3, 1, 0, 3, 4, 12])) ?_))))))))))))))))
 refine lC 1 xm R (FnOk.lends (A' := [OO kT3 3 ai au a3.Dims]) (A := [RR kT3 ai au a3.Dims]) (B := []) (Z14_ok db) ⟨bD, trivial⟩ (fun _ => ⟨(bL fM), (bL fM), trivial⟩)) R ?_
 rintro ⟨⟨br, ea, c9⟩, ⟨bs, eb, ca⟩⟩
 refine lN (_ :: ow kT3 3 (.slice br ea c9) b5.Dims :: ow kT3 3 (.slice bs eb ca) b5.Strides :: _ :: _ :: _ :: _ :: _ :: _ :: _ :: _ :: _ :: _ :: _ :: _ :: _ :: _ :: _ :: j) ?_
 refine aY 1 aH ?_
 rintro rfl
 refine aY 2 aH ?_
 rintro rfl
 refine aC (aP (fun w s => (s.f 18 [3, 3, 0, 1, 6, 12])) (d1 9 R (lM (ow _ _ _ _ :: ow _ _ _ _ :: ow _ _ _ _ :: aK _ _ _ :: ow _ _ _ _ :: ow _ _ _ _ :: ow _ _ _ _ :: ow _ _ _ _ :: ow _ _ _ _ :: ow _ _ _ _ :: ow _ _ _ _ :: ow _ _ _ _ :: ow _ _ _ _ :: aK _ _ _ :: ow _ _ _ _ :: ow _ _ _ _ :: aK _ _ _ :: aK _ _ _ :: j) (fun w s => (s.f 18 [1, 2, 0, 1, 3, 15])) ?_)))
 refine lC 2 vY R (FnOk.lends (A' := [OO kT3 3 br c9 b5.Dims, OO kT3 3 bs ca b5.Strides]) (A := [RR kT3 br c9 b5.Dims, RR kT3 bs ca b5.Strides]) (B := []) (Z0o_ok dc) ⟨bD, bD, trivial⟩ (fun _ => ⟨(bL fM), (bL fM), trivial⟩)) R ?_
 rintro ⟨⟨bu, ec, cb⟩, ⟨bv, ed, cc⟩⟩
 refine lN (_ :: _ :: ow kT3 3 (.slice bu ec cb) b6.Dims :: ow kT3 3 (.slice bv ed cc) b6.Strides :: _ :: _ :: _ :: _ :: _ :: _ :: _ :: _ :: _ :: _ :: _ :: _ :: _ :: _ :: _ :: _ :: j) ?_
 refine aY 2 aH ?_
 rintro rfl
 refine aY 3 aH ?_
 rintro rfl
 refine aC (aP (fun w s => (s.f 20 [5, 3, 4, 1, 8, 12])) (d1 15 R (lM (ow _ _ _ _ :: ow _ _ _ _ :: ow _ _ _ _ :: ow _ _ _ _ :: ow _ _ _ _ :: aK _ _ _ :: ow _ _ _ _ :: ow _ _ _ _ :: ow _ _ _ _ :: ow _ _ _ _ :: ow _ _ _ _ :: ow _ _ _ _ :: ow _ _ _ _ :: ow _ _ _ _ :: ow _ _ _ _ :: aK _ _ _ :: ow _ _ _ _ :: ow _ _ _ _ :: aK _ _ _ :: aK _ _ _ :: j) (fun w s => (s.f 20 [2, 2, 0, 2, 4, 16])) ?_)))
 refine lC 2 vY R (FnOk.lends (A' := [OO kT3 3 bu cb b6.Dims, OO kT3 3 bv cc b6.Strides]) (A := [RR kT3 bu cb b6.Dims, RR kT3 bv cc b6.Strides]) (B := []) (Z0o_ok dd) ⟨bD, bD, trivial⟩ (fun _ => ⟨(bL fM), (bL fM), trivial⟩)) R ?_
 rintro ⟨⟨bw, ee, cf⟩, ⟨bz, ef, cg⟩⟩
 refine lN (_ :: _ :: ow kT3 3 (.slice bw ee cf) b7.Dims :: ow kT3 3 (.slice bz ef cg) b7.Strides :: _ :: _ :: _ :: _ :: _ :: _ :: _ :: _ :: _ :: _ :: _ :: _ :: _ :: _ :: _ :: _ :: _ :: _ :: j) ?_
 refine aY 2 aH ?_
 rintro rfl
 refine aY 3 aH ?_
 rintro rfl
 refine aC (aP (fun w s => (s.f 22 [7, 3, 6, 1, 10, 12])) (d1 16 R (lM (ow _ _ _ _ :: ow _ _ _ _ :: ow _ _ _ _ :: ow _ _ _ _ :: ow _ _ _ _ :: ow _ _ _ _ :: ow _ _ _ _ :: ow _ _ _ _ :: aK _ _ _ :: ow _ _ _ _ :: ow _ _ _ _ :: ow _ _ _ _ :: ow _ _ _ _ :: ow _ _ _ _ :: ow _ _ _ _ :: ow _ _ _ _ :: ow _ _ _ _ :: aK _ _ _ :: ow _ _ _ _ :: ow _ _ _ _ :: aK _ _ _ :: aK _ _ _ :: j) (fun w s => (s.f 22 [6, 1, 10, 1, 2, 2, 0, 2, 4, 2, 7, 3, 11, 11])) ?_)))
 refine lC 4 xn R (FnOk.lends (A' := [OO kT3 3 ai au a3.Dims, OO kT3 3 ba bb a3.Data, OO kT3 3 bw cf b7.Dims, OO kT3 3 bz cg b7.Strides]) (A := [RR kT3 ai au a3.Dims, RR kT3 ba bb a3.Data, RR kT3 bw cf b7.Dims, RR kT3 bz cg b7.Strides]) (B := []) (Z0n_ok de) ⟨bD, bD, bD, bD, trivial⟩ (fun _ => ⟨(bL fM), (bL fM), trivial⟩)) R ?_
 rintro ⟨⟨a6, eg, a8⟩, ⟨a7, eh, a9⟩⟩
 refine lN (_ :: _ :: _ :: _ :: ow kT3 3 (.slice a6 eg a8) q.Dims :: ow kT3 3 (.slice a7 eh a9) q.Data :: _ :: _ :: _ :: _ :: _ :: _ :: _ :: _ :: _ :: _ :: _ :: _ :: _ :: _ :: _ :: _ :: _ :: _ :: j) ?_
 refine aY 4 aH ?_
 rintro rfl
 refine aY 5 aH ?_
 rintro rfl
 refine aC (aP (fun w s => (s.f 24 [10, 3, 0, 2, 13, 11])) (d1 17 R (aU 10 R R bO R R R R R R (lN (_ :: _ :: _ :: _ :: _ :: _ :: _ :: _ :: _ :: _ :: aK bi [(sc a6 q.Dims a8), (sc a7 q.Data a9)] 26 :: _ :: _ :: _ :: _ :: _ :: _ :: _ :: _ :: _ :: _ :: _ :: _ :: _ :: j) ?_))))
 refine aC (qE (dD (aB (aD ?_))))
 obtain ⟨G, df, g⟩ := bd g
 refine aA (lO (vz (.agg [(sc a6 q.Dims a8), (sc a7 q.Data a9)].toArray) (bF 10 cJ bO R R R R)) (lO (vz (.agg [(sc (ad a5 o54) b.2.1.Dims D10), (sc E b.2.1.Data F)].toArray) (bF 23 cJ bO R R R R)) (lM (RR kT3 a6 a8 q.Dims :: RR kT3 a7 a9 q.Data :: RR kT3 (ad a5 o54) D10 b.2.1.Dims :: RR kT3 E F b.2.1.Data :: RR kT3 E F b.2.1.Data :: RR kT3 (ad a5 o54) D10 b.2.1.Dims :: RR kT3 a7 a9 q.Data :: RR kT3 a6 a8 q.Dims :: ow _ _ _ _ :: ow _ _ _ _ :: ow _ _ _ _ :: ow _ _ _ _ :: ow _ _ _ _ :: ow _ _ _ _ :: ow _ _ _ _ :: ow _ _ _ _ :: aK _ _ _ :: ow _ _ _ _ :: ow _ _ _ _ :: ow _ _ _ _ :: ow _ _ _ _ :: ow _ _ _ _ :: ow _ _ _ _ :: aK _ _ _ :: ow _ _ _ _ :: ow _ _ _ _ :: aK _ _ _ :: aK _ _ _ :: j) (fun w s => (((((((((s.shr 4 R).d 0 R).shr 6 R).d 0 R).shr 17 R).d 0 R).shr 19 R).d 0 R).f 28 [6, 1, 4, 1, 2, 1, 0, 2, 3, 1, 5, 1, 7, 21])) ?_)))
 refine cC (K := (eO).share) (xs := ([q, b.2.1] : List Tensor)) (vs := [(.agg [(sc a6 q.Dims a8), (sc a7 q.Data a9)].toArray), (.agg [(sc (ad a5 o54) b.2.1.Dims D10), (sc E b.2.1.Data F)].toArray)]) 4 R R ij bO dC R R R R R R ?_ R (fun c0 ch => ?_)
 exact fun I h s => (tL).list [(((sc a6 q.Dims a8), (sc a7 q.Data a9)), q), (((sc (ad a5 o54) b.2.1.Dims D10), (sc E b.2.1.Data F)), b.2.1)] I h s
 refine lN (OO (eO).share 26 c0 ch ([q, b.2.1] : List Tensor) :: _ :: _ :: _ :: _ :: _ :: _ :: _ :: _ :: _ :: _ :: _ :: _ :: _ :: _ :: _ :: _ :: _ :: _ :: _ :: _ :: _ :: _ :: _ :: _ :: j) ?_
 refine lM (ow _ _ _ _ :: gl 0 mG :: aQ _ _ _ :: aQ _ _ _ :: aQ _ _ _ :: aQ _ _ _ :: ow _ _ _ _ :: ow _ _ _ _ :: ow _ _ _ _ :: ow _ _ _ _ :: ow _ _ _ _ :: ow _ _ _ _ :: ow _ _ _ _ :: ow _ _ _ _ :: aK _ _ _ :: ow _ _ _ _ :: ow _ _ _ _ :: ow _ _ _ _ :: ow _ _ _ _ :: ow _ _ _ _ :: ow _ _ _ _ :: aK _ _ _ :: ow _ _ _ _ :: ow _ _ _ _ :: aK _ _ _ :: aK _ _ _ :: j) (fun w s => ((s.dg 26 R).f 26 [1, 1, 0, 1, 2, 24])) ?_
 refine lC 2 xx R (FnOk.lends (A' := [OO (eO).share 26 c0 ch ([q, b.2.1] : List Tensor)]) (A := [RR eO c0 ch ([q, b.2.1] : List Tensor)]) (B := [gl 0 mG]) (Z0q_ok df) ⟨jw, trivial⟩ (fun _ => ⟨(bL fM), (bL fM), trivial⟩)) R ?_
 rintro ⟨⟨aj, ei, av⟩, ⟨ak, ej, aw⟩⟩
 refine lN (_ :: ow kT3 3 (.slice aj ei av) G.Dims :: ow kT3 3 (.slice ak ej aw) G.Data :: _ :: _ :: _ :: _ :: _ :: _ :: _ :: _ :: _ :: _ :: _ :: _ :: _ :: _ :: _ :: _ :: _ :: _ :: _ :: _ :: _ :: _ :: _ :: _ :: j) ?_
 refine aY 1 aH ?_
 rintro rfl
 refine aY 2 aH ?_
 rintro rfl
 refine bM R R dC (fun ct => (aU 0 R R bO R R R R R R (lN (aK ct [(sc aj G.Dims av), (sc ak G.Data aw)] 26 :: _ :: _ :: _ :: _ :: _ :: _ :: _ :: _ :: _ :: _ :: _ :: _ :: _ :: _ :: _ :: _ :: _ :: _ :: _ :: _ :: _ :: _ :: _ :: _ :: _ :: _ :: _ :: j) ?_)))
 refine aC (aB (aD ?_))
 obtain ⟨b8, dh, g⟩ := bd g
 obtain ⟨a1, di, g⟩ := bd g
 refine aA (lO (vz (.agg [(sc A8 b.1.Dims D8), (sc A9 b.1.Data D9)].toArray) (bF 26 cJ bO R R R R)) (lI R (lI R (lM (ow _ _ _ _ :: ow _ _ _ _ :: aK _ _ _ :: ow _ _ _ _ :: ow _ _ _ _ :: ow _ _ _ _ :: aQ _ _ _ :: aQ _ _ _ :: aQ _ _ _ :: aQ _ _ _ :: ow _ _ _ _ :: ow _ _ _ _ :: ow _ _ _ _ :: ow _ _ _ _ :: ow _ _ _ _ :: ow _ _ _ _ :: ow _ _ _ _ :: ow _ _ _ _ :: aK _ _ _ :: ow _ _ _ _ :: ow _ _ _ _ :: ow _ _ _ _ :: ow _ _ _ _ :: aK _ _ _ :: ow _ _ _ _ :: ow _ _ _ _ :: aK _ _ _ :: aK _ _ _ :: j) (fun w s => (s.f 28 [19, 2, 0, 19, 21, 7])) ?_))))
 refine lC 2 wm R (FnOk.lends (A' := [OO kT3 3 A8 D8 b.1.Dims, OO kT3 3 A9 D9 b.1.Data]) (A := [RR kT3 A8 D8 b.1.Dims, RR kT3 A9 D9 b.1.Data]) (B := []) (Zt_ok dh) ⟨bD, bD, trivial⟩ (fun _ => ⟨(bL fM), (bL fM), trivial⟩)) R ?_
 rintro ⟨⟨c1, ek, ci⟩, ⟨c2, el, cj⟩⟩
 refine lN (_ :: _ :: ow kT3 3 (.slice c1 ek ci) b8.Dims :: ow kT3 3 (.slice c2 el cj) b8.Data :: _ :: _ :: _ :: _ :: _ :: _ :: _ :: _ :: _ :: _ :: _ :: _ :: _ :: _ :: _ :: _ :: _ :: _ :: _ :: _ :: _ :: _ :: _ :: _ :: _ :: _ :: j) ?_
 refine aY 2 aH ?_
 rintro rfl
 refine aY 3 aH ?_
 rintro rfl
 refine lI R (lI R (lM (ow _ _ _ _ :: ow _ _ _ _ :: ow _ _ _ _ :: ow _ _ _ _ :: aK _ _ _ :: ow _ _ _ _ :: ow _ _ _ _ :: ow _ _ _ _ :: aQ _ _ _ :: aQ _ _ _ :: aQ _ _ _ :: aQ _ _ _ :: ow _ _ _ _ :: ow _ _ _ _ :: ow _ _ _ _ :: ow _ _ _ _ :: ow _ _ _ _ :: ow _ _ _ _ :: ow _ _ _ _ :: ow _ _ _ _ :: aK _ _ _ :: ow _ _ _ _ :: ow _ _ _ _ :: ow _ _ _ _ :: ow _ _ _ _ :: aK _ _ _ :: ow _ _ _ _ :: ow _ _ _ _ :: aK _ _ _ :: aK _ _ _ :: j) (fun w s => (s.f 30 [2, 2, 0, 2, 4, 26])) ?_))
 refine lC 2 wm R (FnOk.lends (A' := [OO kT3 3 c1 ci b8.Dims, OO kT3 3 c2 cj b8.Data]) (A := [RR kT3 c1 ci b8.Dims, RR kT3 c2 cj b8.Data]) (B := []) (Zt_ok di) ⟨bD, bD, trivial⟩ (fun _ => ⟨(bL fM), (bL fM), trivial⟩)) R ?_
 rintro ⟨⟨al, em, ax⟩, ⟨b2, en, b3⟩⟩
 refine lN (_ :: _ :: ow kT3 3 (.slice al em ax) a1.Dims :: ow kT3 3 (.slice b2 en b3) a1.Data :: _ :: _ :: _ :: _ :: _ :: _ :: _ :: _ :: _ :: _ :: _ :: _ :: _ :: _ :: _ :: _ :: _ :: _ :: _ :: _ :: _ :: _ :: _ :: _ :: _ :: _ :: _ :: _ :: j) ?_
 refine aY 2 aH ?_
 rintro rfl
 refine aY 3 aH ?_
 rintro rfl
 refine bM R R dC (fun d5 => (aU 0 R R bO R R R R R R (lN (aK d5 [(sc al a1.Dims ax), (sc b2 a1.Data b3)] 26 :: _ :: _ :: _ :: _ :: _ :: _ :: _ :: _ :: _ :: _ :: _ :: _ :: _ :: _ :: _ :: _ :: _ :: _ :: _ :: _ :: _ :: _ :: _ :: _ :: _ :: _ :: _ :: _ :: _ :: _ :: _ :: _ :: j) ?_)))
 refine aC (aB (aD ?_))
 obtain ⟨bj, dj, g⟩ := bd g
 obtain ⟨dq, dk, g⟩ := bd g
 obtain ⟨b9, dl, g⟩ := bd g
 obtain ⟨D, dm, g⟩ := bd g
 refine mz (fun w s => s.shr 3 R) (eI 17 [] cF (fun ht hn => (dR 0 R (vz (.agg [(sc al a1.Dims ax), (sc b2 a1.Data b3)].toArray) (bF 1 cJ bO R R R R)) (dR 1 R (bT 0 cG R) (dR 2 R (bV 1 bK R R R) (dR 4 R (bT 0 cG R) (dR 5 R (bV 32 bK R R R) (dR 6 R (cK aV bX R R aa) (dR 7 R (dL 12 cE aE R aa) (dR 8 R (vI R) (dR 10 R (bT 0 cG R) (dR 11 R (bV 32 bK R R R) (dR 12 R (cK aV bX R R b1) (dR 13 R (dL 12 cE aE R b1) (dR 14 R (vI R) (d1 3 R (lM (RR kT3 al ax a1.Dims :: RR kT3 al ax a1.Dims :: _ :: _ :: _ :: _ :: _ :: _ :: _ :: _ :: _ :: _ :: _ :: _ :: _ :: _ :: _ :: _ :: _ :: _ :: _ :: _ :: _ :: _ :: _ :: _ :: _ :: _ :: _ :: _ :: _ :: _ :: _ :: _ :: j) (fun w s => (s.d 0 R)) ?_)))))))))))))))))
 refine lC 1 xE R (Z01_ok dj) R ?_
 rintro ⟨⟨ds, eo, dw⟩, ⟨c3, ep, ck⟩⟩
 refine lN (aQ kT3 (.slice ds eo dw) bj.Dims :: ow kT3 3 (.slice c3 ep ck) bj.Strides :: _ :: _ :: _ :: _ :: _ :: _ :: _ :: _ :: _ :: _ :: _ :: _ :: _ :: _ :: _ :: _ :: _ :: _ :: _ :: _ :: _ :: _ :: _ :: _ :: _ :: _ :: _ :: _ :: _ :: _ :: _ :: _ :: _ :: j) ?_
 refine aY 0 aE ?_
 rintro rfl
 refine aY 1 aH ?_
 rintro rfl
 refine aC (aP (sL [1, 0]) (d1 9 R (ie (fun w s => s.shr 1 R) (lM (aQ _ _ _ :: RR kT3 c3 ck bj.Strides :: RR kT3 c3 ck bj.Strides :: aQ _ _ _ :: aQ _ _ _ :: aK _ _ _ :: ow _ _ _ _ :: ow _ _ _ _ :: ow _ _ _ _ :: ow _ _ _ _ :: ow _ _ _ _ :: aK _ _ _ :: ow _ _ _ _ :: ow _ _ _ _ :: ow _ _ _ _ :: aQ _ _ _ :: aQ _ _ _ :: aQ _ _ _ :: aQ _ _ _ :: ow _ _ _ _ :: ow _ _ _ _ :: ow _ _ _ _ :: ow _ _ _ _ :: ow _ _ _ _ :: ow _ _ _ _ :: ow _ _ _ _ :: ow _ _ _ _ :: aK _ _ _ :: ow _ _ _ _ :: ow _ _ _ _ :: ow _ _ _ _ :: ow _ _ _ _ :: aK _ _ _ :: ow _ _ _ _ :: ow _ _ _ _ :: aK _ _ _ :: aK _ _ _ :: j) (fun w s => (((s.d 1 R).d 1 R).f 37 [1, 1, 0, 1, 2, 35])) ?_))))
 refine lC 2 wq R (Zn_ok dk) R ?_
 rintro ⟨⟨dt, eq, dx⟩, ⟨du, er, dy⟩⟩
 refine lN (aQ kT3 (.slice dt eq dx) dq.Dims :: aQ kT3 (.slice du er dy) dq.Strides :: _ :: _ :: _ :: _ :: _ :: _ :: _ :: _ :: _ :: _ :: _ :: _ :: _ :: _ :: _ :: _ :: _ :: _ :: _ :: _ :: _ :: _ :: _ :: _ :: _ :: _ :: _ :: _ :: _ :: _ :: _ :: _ :: _ :: _ :: _ :: j) ?_
 refine aY 0 aE ?_
 rintro rfl
 refine aY 1 aE ?_
 rintro rfl
 refine aC (aP (sL [3, 2, 1, 0]) (d1 15 R (lM (aQ _ _ _ :: aQ _ _ _ :: aQ _ _ _ :: aQ _ _ _ :: aQ _ _ _ :: aQ _ _ _ :: aQ _ _ _ :: aK _ _ _ :: ow _ _ _ _ :: ow _ _ _ _ :: ow _ _ _ _ :: ow _ _ _ _ :: ow _ _ _ _ :: aK _ _ _ :: ow _ _ _ _ :: ow _ _ _ _ :: ow _ _ _ _ :: aQ _ _ _ :: aQ _ _ _ :: aQ _ _ _ :: aQ _ _ _ :: ow _ _ _ _ :: ow _ _ _ _ :: ow _ _ _ _ :: ow _ _ _ _ :: ow _ _ _ _ :: ow _ _ _ _ :: ow _ _ _ _ :: ow _ _ _ _ :: aK _ _ _ :: ow _ _ _ _ :: ow _ _ _ _ :: ow _ _ _ _ :: ow _ _ _ _ :: aK _ _ _ :: ow _ _ _ _ :: ow _ _ _ _ :: aK _ _ _ :: aK _ _ _ :: j) (fun w s => (((s.d 0 R).d 2 R).f 39 [1, 1, 0, 1, 2, 37])) ?_)))
 refine lC 2 wq R (Zn_ok dl) R ?_
 rintro ⟨⟨c4, es, cm⟩, ⟨c5, et, cn⟩⟩
 refine lN (aQ kT3 (.slice c4 es cm) b9.Dims :: aQ kT3 (.slice c5 et cn) b9.Strides :: _ :: _ :: _ :: _ :: _ :: _ :: _ :: _ :: _ :: _ :: _ :: _ :: _ :: _ :: _ :: _ :: _ :: _ :: _ :: _ :: _ :: _ :: _ :: _ :: _ :: _ :: _ :: _ :: _ :: _ :: _ :: _ :: _ :: _ :: _ :: _ :: _ :: j) ?_
 refine aY 0 aE ?_
 rintro rfl
 refine aY 1 aE ?_
 rintro rfl
 refine aC (aP (sL [5, 4, 3, 2, 1, 0]) (d1 16 R (lM (ow _ _ _ _ :: aQ _ _ _ :: aQ _ _ _ :: aQ _ _ _ :: aQ _ _ _ :: aQ _ _ _ :: aQ _ _ _ :: aQ _ _ _ :: aQ _ _ _ :: aQ _ _ _ :: aQ _ _ _ :: aK _ _ _ :: ow _ _ _ _ :: ow _ _ _ _ :: ow _ _ _ _ :: ow _ _ _ _ :: aK _ _ _ :: ow _ _ _ _ :: ow _ _ _ _ :: ow _ _ _ _ :: aQ _ _ _ :: aQ _ _ _ :: aQ _ _ _ :: aQ _ _ _ :: ow _ _ _ _ :: ow _ _ _ _ :: ow _ _ _ _ :: ow _ _ _ _ :: ow _ _ _ _ :: ow _ _ _ _ :: ow _ _ _ _ :: ow _ _ _ _ :: aK _ _ _ :: ow _ _ _ _ :: ow _ _ _ _ :: ow _ _ _ _ :: ow _ _ _ _ :: aK _ _ _ :: ow _ _ _ _ :: ow _ _ _ _ :: aK _ _ _ :: aK _ _ _ :: j) (fun w s => ((((s.d 6 R).d 1 R).d 3 R).f 42 [13, 1, 2, 1, 1, 1, 0, 1, 3, 10, 14, 28])) ?_)))
 refine lC 4 xF R (FnOk.lends (A' := [OO kT3 3 b2 b3 a1.Data]) (A := [RR kT3 b2 b3 a1.Data]) (B := [RR kT3 al ax a1.Dims, RR kT3 c4 cm b9.Dims, RR kT3 c5 cn b9.Strides]) (FnOk.perm (Zx_ok dm) (Pre' := [RR kT3 b2 b3 a1.Data, RR kT3 al ax a1.Dims, RR kT3 c4 cm b9.Dims, RR kT3 c5 cn b9.Strides]) (fun _ _ _ s => (s.e 4 [1, 0, 2, 3]))) ⟨bD, trivial⟩ (fun _ => ⟨(bL fM), (bL fM), trivial⟩)) R ?_
 rintro ⟨⟨am, eu, ay⟩, ⟨an, ew, az⟩⟩
 refine lN (_ :: ow kT3 3 (.slice am eu ay) D.Dims :: ow kT3 3 (.slice an ew az) D.Data :: _ :: _ :: _ :: _ :: _ :: _ :: _ :: _ :: _ :: _ :: _ :: _ :: _ :: _ :: _ :: _ :: _ :: _ :: _ :: _ :: _ :: _ :: _ :: _ :: _ :: _ :: _ :: _ :: _ :: _ :: _ :: _ :: _ :: _ :: _ :: _ :: _ :: _ :: j) ?_
 refine aY 1 aH ?_
 rintro rfl
 refine aY 2 aH ?_
 rintro rfl
 refine aC (aP (fun w s => (s.f 41 [9, 4, 0, 1, 13, 28])) (d1 17 R (aU 10 R R bO R R R R R R (lN (_ :: _ :: _ :: _ :: _ :: _ :: _ :: _ :: _ :: _ :: aK d5 [(sc am D.Dims ay), (sc an D.Data az)] 26 :: _ :: _ :: _ :: _ :: _ :: _ :: _ :: _ :: _ :: _ :: _ :: _ :: _ :: _ :: _ :: _ :: _ :: _ :: _ :: _ :: _ :: _ :: _ :: _ :: _ :: _ :: _ :: _ :: _ :: _ :: j) ?_))))
 refine aC (qE (dD (aB (aD (aD ?_)))))
 obtain ⟨ab, cv, g⟩ := bd g
 refine cQ [(10, (pt cs 0)), (11, (pt bi 0)), (12, (pt ct 0)), (129, (.bool (((q.Data.length : Int) != (D.Data.length : Int)) || ((G.Data.length : Int) != (ab.Data.length : Int)))))] (aK cs [(sc ag L.Dims aq), (sc ah L.Data ar)] 26 :: OO kT3 3 ag aq L.Dims :: OO kT3 3 ah ar L.Data :: aK bi [(sc a6 q.Dims a8), (sc a7 q.Data a9)] 26 :: RR kT3 a6 a8 q.Dims :: RR kT3 a7 a9 q.Data :: aK ct [(sc aj G.Dims av), (sc ak G.Data aw)] 26 :: OO kT3 3 aj av G.Dims :: OO kT3 3 ak aw G.Data :: j) ?_ ?_
 rcases bo ((q.Data.length : Int) != (D.Data.length : Int)) with a | a
 refine eI 19 [] cF (fun ht hn => (dR 0 R (bT 1 cA R) (dR 1 R (bV 31 bK R R R) (dR 2 R (bR aV R) (dR 3 R (bT 1 cA R) (dR 4 R (bV 10 bK R R R) (dR 5 R (bR aV R) (dR 6 R (ig R R) (dR 7 R (vB R) (dF 8 R (aT a) (dF 9 R (aT a) (dF 10 R (aT a) (dF 11 R (aT a) (dF 12 R (aT a) (dF 13 R (aT a) (dF 14 R (aT a) (dF 15 R (aT a) (dF 16 R (aT a) (dF 17 R (aT a) (dR 18 R (cW ((G.Data.length : Int) != (ab.Data.length : Int)) R a) (dD ?_)))))))))))))))))))))
 exact qJ (fun w s => (s.e 41 [36, 37, 38, 31, 22, 21, 15, 17, 18]))
 refine eI 19 [2, 1] cF (fun ht hn => (dR 0 R (bT 1 cA R) (hS := (sL [2, 1])) (dR 1 R (bV 29 bK R R R) (hS := (sL [2, 1])) (dR 2 R (bR aV R) (hS := (sL [2, 1])) (dR 3 R (bT 1 cA R) (hS := (sL [2, 1])) (dR 4 R (bV 8 bK R R R) (hS := (sL [2, 1])) (dR 5 R (bR aV R) (hS := (sL [2, 1])) (dR 6 R (ig R R) (hS := (sL [2, 1])) (dR 7 R (vB R) (hS := (sL [2, 1])) (dW 8 R (bI a) (bT 1 cA R) (hS := (sL [2, 1])) (dW 9 R (bI a) (bV 13 bK R R R) (hS := (sL [2, 1])) (dW 10 R (bI a) (bR aV R) (hS := (sL [2, 1])) (dW 11 R (bI a) (vz (.agg [(sc am D.Dims ay), (sc an D.Data az)].toArray) (bF 8 cJ bO R R R R)) (hS := (sL [2, 1])) (dW 12 R (bI a) (vz (.agg [(sc (ad a5 o54) b.2.1.Dims D10), (sc E b.2.1.Data F)].toArray) (bF 38 cJ bO R R R R)) (hS := (sL [2, 1])) (d1 13 R ?_)))))))))))))))
 refine lM (RR kT3 am ay D.Dims :: RR kT3 an az D.Data :: aQ _ _ _ :: aQ _ _ _ :: RR kT3 an az D.Data :: RR kT3 am ay D.Dims :: ow _ _ _ _ :: aQ _ _ _ :: aQ _ _ _ :: aQ _ _ _ :: aQ _ _ _ :: aQ _ _ _ :: aQ _ _ _ :: aQ _ _ _ :: aK _ _ _ :: ow _ _ _ _ :: ow _ _ _ _ :: ow _ _ _ _ :: ow _ _ _ _ :: aK _ _ _ :: ow _ _ _ _ :: ow _ _ _ _ :: ow _ _ _ _ :: aQ _ _ _ :: aQ _ _ _ :: aQ _ _ _ :: aQ _ _ _ :: ow _ _ _ _ :: ow _ _ _ _ :: ow _ _ _ _ :: ow _ _ _ _ :: ow _ _ _ _ :: ow _ _ _ _ :: ow _ _ _ _ :: ow _ _ _ _ :: aK _ _ _ :: ow _ _ _ _ :: ow _ _ _ _ :: ow _ _ _ _ :: ow _ _ _ _ :: aK _ _ _ :: ow _ _ _ _ :: ow _ _ _ _ :: aK _ _ _ :: aK _ _ _ :: j) (fun w s => (((((((s.shr 1 R).d 0 R).shr 3 R).d 0 R).d 22 R).d 22 R).f 45 [4, 1, 2, 1, 1, 1, 0, 1, 3, 1, 5, 40])) ?_
 refine cC (K := (eO).share) (xs := ([D, b.2.1] : List Tensor)) (vs := [(.agg [(sc am D.Dims ay), (sc an D.Data az)].toArray), (.agg [(sc (ad a5 o54) b.2.1.Dims D10), (sc E b.2.1.Data F)].toArray)]) 4 R (bI a) ij bO dC R R R R R R ?_ R (fun c6 co => ?_)
 exact fun I h s => (tL).list [(((sc am D.Dims ay), (sc an D.Data az)), D), (((sc (ad a5 o54) b.2.1.Dims D10), (sc E b.2.1.Data F)), b.2.1)] I h s
 refine lN (OO (eO).share 26 c6 co ([D, b.2.1] : List Tensor) :: _ :: _ :: _ :: _ :: _ :: _ :: _ :: _ :: _ :: _ :: _ :: _ :: _ :: _ :: _ :: _ :: _ :: _ :: _ :: _ :: _ :: _ :: _ :: _ :: _ :: _ :: _ :: _ :: _ :: _ :: _ :: _ :: _ :: _ :: _ :: _ :: _ :: _ :: _ :: _ :: _ :: j) ?_
 refine aC (aP (sL [2, 1, 0]) (d1 14 R (cU 1 R (bI a) xJ R (FnOk.lends (A' := [OO (eO).share 26 c6 co ([D, b.2.1] : List Tensor)]) (A := [RR eO c6 co ([D, b.2.1] : List Tensor)]) (B := []) (Z4_ok (cZ cv (dY a))) ⟨jw, trivial⟩ (fun _ => ⟨(bL fM), (bL fM), trivial⟩)) R ?_)))
 rintro ⟨⟨cy, d3, d0⟩, ⟨bk, d4, bl⟩⟩
 refine lN (_ :: ow kT3 3 (.slice cy d3 d0) ab.Dims :: ow kT3 3 (.slice bk d4 bl) ab.Data :: _ :: _ :: _ :: _ :: _ :: _ :: _ :: _ :: _ :: _ :: _ :: _ :: _ :: _ :: _ :: _ :: _ :: _ :: _ :: _ :: _ :: _ :: _ :: _ :: _ :: _ :: _ :: _ :: _ :: _ :: _ :: _ :: _ :: _ :: _ :: _ :: _ :: _ :: _ :: _ :: _ :: j) ?_
 refine aY 1 aH ?_
 rintro rfl
 refine aY 2 aH ?_
 rintro rfl
 refine aC (aP (sL [4, 3, 2, 1, 0]) (dW 15 R (bI a) (vz (sc bk ab.Data bl) (si pm bK R R)) (hS := (sL [4, 3, 2, 1, 0])) (dW 16 R (bI a) (bR aV R) (hS := (sL [4, 3, 2, 1, 0])) (dW 17 R (bI a) (ig R R) (hS := (sL [4, 3, 2, 1, 0])) (dR 18 R (eS R a R) (hS := (sL [4, 3, 2, 1, 0])) (dD ?_))))))
 exact qJ (fun w s => (s.e 44 [39, 40, 41, 34, 25, 24, 18, 20, 21]))
 rintro σ1
 refine aB ?_
 rcases bG g with ⟨b0, g⟩ | ⟨b0, g⟩
 refine aL R b0 (aD (aA (lB R (aC (aB (aW (bA ?_)))))))
 obtain rfl := so g
 exact qF () (fun w s => (s.e 11 []))
 refine aI R b0 (aN (aB (aD ?_)))
 obtain ⟨bg, cw, g⟩ := bd g
 refine cQ [(2, (.bool ((((q.Data.length : Int) == (0 : Int)) || ((G.Data.length : Int) == (0 : Int))) || bg)))] (j) ?_ ?_
 refine aA (lO (bT 1 cA R) (lO (bV 3 bK R R R) (lO (bR aV R) (lO (ji R R) (lB R ?_)))))
 rcases bo ((q.Data.length : Int) == (0 : Int)) with i | i
 refine lf (aT i) (lf (aT i) (lf (aT i) (lf (aT i) (lO (cW ((G.Data.length : Int) == (0 : Int)) R i) (lB R (lf (aT (oT i)) (lf (aT (oT i)) (lf (aT (oT i)) (lO (cW bg R (oT i)) (lB R (aC ?_)))))))))))
 exact qJ (fun w s => (s.e 9 []))
 refine lW (bI i) (bT 1 cA R) (lW (bI i) (bV 6 bK R R R) (lW (bI i) (bR aV R) (lW (bI i) (ji R R) (lO (eS R i R) (lB R ?_)))))
 rcases bo (((q.Data.length : Int) == (0 : Int)) || ((G.Data.length : Int) == (0 : Int))) with u | u
 refine lf (aT u) (lf (aT u) (lf (aT u) (lO (cW bg R u) (lB R (aC ?_)))))
 exact qJ (fun w s => (s.e 9 []))
 refine lW (bI u) (vz (.agg [(sc ag L.Dims aq), (sc ah L.Data ar)].toArray) (bF 0 cJ bO R R R R)) (lW (bI u) (vz (.agg [(sc aj G.Dims av), (sc ak G.Data aw)].toArray) (bF 6 cJ bO R R R R)) (lM (ow _ _ _ _ :: ow _ _ _ _ :: ow _ _ _ _ :: ow _ _ _ _ :: aK _ _ _ :: aK _ _ _ :: aQ _ _ _ :: aQ _ _ _ :: aK _ _ _ :: j) (fun w s => (s.f 9 [1, 2, 7, 2, 0, 1, 3, 4])) ?_))
 refine cU 4 R (bI u) xb R (FnOk.lends (A' := [OO kT3 3 ag aq L.Dims, OO kT3 3 ah ar L.Data, OO kT3 3 aj av G.Dims, OO kT3 3 ak aw G.Data]) (A := [RR kT3 ag aq L.Dims, RR kT3 ah ar L.Data, RR kT3 aj av G.Dims, RR kT3 ak aw G.Data]) (B := []) (Z12_ok (cZ cw (dY u))) ⟨bD, bD, bD, bD, trivial⟩ (fun _ => trivial)) R ?_
 rintro _
 refine lO (eS R u R) (lB R (aC ?_))
 exact qJ (fun w s => (s.e 9 []))
 rintro σ1
 refine aB (aW ?_)
 obtain rfl := so g
 exact qF () (fun w s => (s.e 2 []))
end Go.Proofs.YthfhllekobdelaaGreatDoor
