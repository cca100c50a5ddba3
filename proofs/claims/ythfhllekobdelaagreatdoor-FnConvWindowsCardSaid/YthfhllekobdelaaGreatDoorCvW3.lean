import Derived.Test.YthfhllekobdelaaGreatDoorCvF
import Derived.Test.YthfhllekobdelaaGreatDoorCvW2
set_option linter.unusedVariables false
set_option maxRecDepth 20000
namespace Go.Proofs.YthfhllekobdelaaGreatDoor
open Go Go.Pg
variable {A2 A3 A5 A6 : Option Addr} {D2 D3 D5 D6 N2 N3 N5 N6 : Nat}
theorem Ze_ok  {p1 : Tensor} {u : Tensor} {g : Int} {L : Int} {J : Int} {b : Int} {r : Tensor} (m : Ze p1 u g L J b = some r) :
 FnOk Tryz.prog 11 [(.agg [(.slice A2 N2 D2), (.slice A3 N3 D3)].toArray), (.agg [(.slice A5 N5 D5), (.slice A6 N6 D6)].toArray), (iv g), (iv L), (iv J), (iv b)] [aQ kT3 (.slice A2 N2 D2) p1.Dims, aQ kT3 (.slice A3 N3 D3) p1.Data, aQ kT3 (.slice A5 N5 D5) u.Dims, aQ kT3 (.slice A6 N6 D6) u.Data] (fun (h : HH × HH) => ((.agg [(.slice h.1.1 h.1.2.1 h.1.2.2), (.slice h.2.1 h.2.2.1 h.2.2.2)].toArray), [ow kT3 3 (.slice h.1.1 h.1.2.1 h.1.2.2) r.Dims, ow kT3 3 (.slice h.2.1 h.2.2.1 h.2.2.2) r.Data])) := by
 unfold Ze at m
 refine bN Tryz.func11 R 265 R R fun C V => ?_
 refine cN (_ :: _ :: _ :: _ :: V) ?_
 refine cL 0 aE ?_
 rintro rfl
 refine cL 1 aE ?_
 rintro rfl
 refine cL 2 aE ?_
 rintro rfl
 refine cL 3 aE ?_
 rintro rfl
 let W0 : List HP := RR kT3 A2 D2 p1.Dims :: RR kT3 A3 D3 p1.Data :: RR kT3 A5 D5 u.Dims :: RR kT3 A6 D6 u.Data :: V
 refine cN W0 ?_
 refine aD (aA (gz R (fun av => (gz R (fun aw => (bM R R dC (fun a5 => (aC ?_))))))))
 let W1 : List HP := aK aw [(sc A5 u.Dims D5), (sc A6 u.Data D6)] 26 :: aK av [(sc A2 p1.Dims D2), (sc A3 p1.Data D3)] 26 :: W0
 refine qN (_ :: W1) ?_
 refine aB (aD (aD ?_))
 obtain ⟨am, cb, m⟩ := bd m
 obtain ⟨an, cc, m⟩ := bd m
 obtain ⟨ao, cf, m⟩ := bd m
 obtain ⟨ap, cg, m⟩ := bd m
 obtain ⟨aq, ch, m⟩ := bd m
 obtain ⟨ar, ci, m⟩ := bd m
 refine cQ [(2, (iv g)), (3, (iv L)), (4, (iv J)), (5, (iv b)), (6, (pt av 0)), (7, (pt aw 0)), (12, (pt a5 0)), (64, (.bool ((((((((!am) || (!an)) || ((p1.Dims.length : Int) != (4 : Int))) || ((u.Dims.length : Int) != (4 : Int))) || (!ao)) || (!ap)) || (!aq)) || (!ar))))] (aK a5 [(.slice none 0 0), (.slice none 0 0)] 26 :: W1) ?_ ?_
 refine aA (lO (vz (.agg [(sc A2 p1.Dims D2), (sc A3 p1.Data D3)].toArray) (bF 2 cJ bO R R R R)) (lM (RR kT3 A2 D2 p1.Dims :: RR kT3 A3 D3 p1.Data :: aK _ _ _ :: W1) (fun w s => (((s.d 3 R).d 5 R).e 3 [1, 0, 2])) ?_))
 refine lC 2 pk R (Zm_ok cb) R ?_
 rintro _
 refine lN (_ :: W1) ?_
 refine lO (ft R) (lB R ?_)
 rcases bo (!am) with q | q
 refine lf (aT q) (lf (aT q) (lf (aT q) (lO (cW (!an) R q) (lB R (lf (aT (oT q)) (lf (aT (oT q)) (lf (aT (oT q)) (lf (aT (oT q)) (lO (cW ((p1.Dims.length : Int) != (4 : Int)) R (oT q)) (lB R (lf (aT (oT (oT q))) (lf (aT (oT (oT q))) (lf (aT (oT (oT q))) (lf (aT (oT (oT q))) (lO (cW ((u.Dims.length : Int) != (4 : Int)) R (oT (oT q))) (lB R (lf (aT (oT (oT (oT q)))) (lf (aT (oT (oT (oT q)))) (lf (aT (oT (oT (oT q)))) (lO (cW (!ao) R (oT (oT (oT q)))) (lB R (lf (aT (oT (oT (oT (oT q))))) (lf (aT (oT (oT (oT (oT q))))) (lf (aT (oT (oT (oT (oT q))))) (lO (cW (!ap) R (oT (oT (oT (oT q))))) (lB R (lf (aT (oT (oT (oT (oT (oT q)))))) (lf (aT (oT (oT (oT (oT (oT q)))))) (lf (aT (oT (oT (oT (oT (oT q)))))) (lO (cW (!aq) R (oT (oT (oT (oT (oT q)))))) (lB R (lf (aT (oT (oT (oT (oT (oT (oT q))))))) (lf (aT (oT (oT (oT (oT (oT (oT q))))))) (lf (aT (oT (oT (oT (oT (oT (oT q))))))) (lO (cW (!ar) R (oT (oT (oT (oT (oT (oT q))))))) (aC ?_))))))))))))))))))))))))))))))))))))
 exact qJ (fun w s => s)
 refine lW (bI q) (vz (.agg [(sc A5 u.Dims D5), (sc A6 u.Data D6)].toArray) (bF 1 cJ bO R R R R)) (lM (RR kT3 A5 D5 u.Dims :: RR kT3 A6 D6 u.Data :: aK _ _ _ :: W1) (fun w s => (((s.d 5 R).d 7 R).e 3 [1, 0, 2])) ?_)
 refine cU 2 R (bI q) pk R (Zm_ok (cZ cc (dY q))) R ?_
 rintro _
 refine lN (_ :: W1) ?_
 refine lW (bI q) (ft R) (lO (eS R q R) (lB R ?_))
 rcases bo ((!am) || (!an)) with E | E
 refine lf (aT E) (lf (aT E) (lf (aT E) (lf (aT E) (lO (cW ((p1.Dims.length : Int) != (4 : Int)) R E) (lB R (lf (aT (oT E)) (lf (aT (oT E)) (lf (aT (oT E)) (lf (aT (oT E)) (lO (cW ((u.Dims.length : Int) != (4 : Int)) R (oT E)) (lB R (lf (aT (oT (oT E))) (lf (aT (oT (oT E))) (lf (aT (oT (oT E))) (lO (cW (!ao) R (oT (oT E))) (lB R (lf (aT (oT (oT (oT E)))) (lf (aT (oT (oT (oT E)))) (lf (aT (oT (oT (oT E)))) (lO (cW (!ap) R (oT (oT (oT E)))) (lB R (lf (aT (oT (oT (oT (oT E))))) (lf (aT (oT (oT (oT (oT E))))) (lf (aT (oT (oT (oT (oT E))))) (lO (cW (!aq) R (oT (oT (oT (oT E))))) (lB R (lf (aT (oT (oT (oT (oT (oT E)))))) (lf (aT (oT (oT (oT (oT (oT E)))))) (lf (aT (oT (oT (oT (oT (oT E)))))) (lO (cW (!ar) R (oT (oT (oT (oT (oT E)))))) (aC ?_)))))))))))))))))))))))))))))))
 exact qJ (fun w s => s)
 refine lW (bI E) (bT 0 cG R) (lW (bI E) (bV 2 bK R R R) (lW (bI E) (bR aV R) (lW (bI E) (ig R R) (lO (eS R E R) (lB R ?_)))))
 rcases bo (((!am) || (!an)) || ((p1.Dims.length : Int) != (4 : Int))) with G | G
 refine lf (aT G) (lf (aT G) (lf (aT G) (lf (aT G) (lO (cW ((u.Dims.length : Int) != (4 : Int)) R G) (lB R (lf (aT (oT G)) (lf (aT (oT G)) (lf (aT (oT G)) (lO (cW (!ao) R (oT G)) (lB R (lf (aT (oT (oT G))) (lf (aT (oT (oT G))) (lf (aT (oT (oT G))) (lO (cW (!ap) R (oT (oT G))) (lB R (lf (aT (oT (oT (oT G)))) (lf (aT (oT (oT (oT G)))) (lf (aT (oT (oT (oT G)))) (lO (cW (!aq) R (oT (oT (oT G)))) (lB R (lf (aT (oT (oT (oT (oT G))))) (lf (aT (oT (oT (oT (oT G))))) (lf (aT (oT (oT (oT (oT G))))) (lO (cW (!ar) R (oT (oT (oT (oT G))))) (aC ?_)))))))))))))))))))))))))
 exact qJ (fun w s => s)
 refine lW (bI G) (bT 0 cG R) (lW (bI G) (bV 1 bK R R R) (lW (bI G) (bR aV R) (lW (bI G) (ig R R) (lO (eS R G R) (lB R ?_)))))
 rcases bo ((((!am) || (!an)) || ((p1.Dims.length : Int) != (4 : Int))) || ((u.Dims.length : Int) != (4 : Int))) with M | M
 refine lf (aT M) (lf (aT M) (lf (aT M) (lO (cW (!ao) R M) (lB R (lf (aT (oT M)) (lf (aT (oT M)) (lf (aT (oT M)) (lO (cW (!ap) R (oT M)) (lB R (lf (aT (oT (oT M))) (lf (aT (oT (oT M))) (lf (aT (oT (oT M))) (lO (cW (!aq) R (oT (oT M))) (lB R (lf (aT (oT (oT (oT M)))) (lf (aT (oT (oT (oT M)))) (lf (aT (oT (oT (oT M)))) (lO (cW (!ar) R (oT (oT (oT M)))) (aC ?_)))))))))))))))))))
 exact qJ (fun w s => s)
 refine lW (bI M) (vI R) (cU 0 R (bI M) rv R (Z0v_ok (cZ cf (dY M))) R ?_)
 rintro _
 refine lW (bI M) (ft R) (lO (eS R M R) (lB R ?_))
 rcases bo (((((!am) || (!an)) || ((p1.Dims.length : Int) != (4 : Int))) || ((u.Dims.length : Int) != (4 : Int))) || (!ao)) with T | T
 refine lf (aT T) (lf (aT T) (lf (aT T) (lO (cW (!ap) R T) (lB R (lf (aT (oT T)) (lf (aT (oT T)) (lf (aT (oT T)) (lO (cW (!aq) R (oT T)) (lB R (lf (aT (oT (oT T))) (lf (aT (oT (oT T))) (lf (aT (oT (oT T))) (lO (cW (!ar) R (oT (oT T))) (aC ?_))))))))))))))
 exact qJ (fun w s => s)
 refine lW (bI T) (vI R) (cU 0 R (bI T) rv R (Z0v_ok (cZ cg (dY T))) R ?_)
 rintro _
 refine lW (bI T) (ft R) (lO (eS R T R) (lB R ?_))
 rcases bo ((((((!am) || (!an)) || ((p1.Dims.length : Int) != (4 : Int))) || ((u.Dims.length : Int) != (4 : Int))) || (!ao)) || (!ap)) with a1 | a1
 refine lf (aT a1) (lf (aT a1) (lf (aT a1) (lO (cW (!aq) R a1) (lB R (lf (aT (oT a1)) (lf (aT (oT a1)) (lf (aT (oT a1)) (lO (cW (!ar) R (oT a1)) (aC ?_)))))))))
 exact qJ (fun w s => s)
 refine lW (bI a1) (vI R) (cU 0 R (bI a1) rv R (Z0v_ok (cZ ch (dY a1))) R ?_)
 rintro _
 refine lW (bI a1) (ft R) (lO (eS R a1 R) (lB R ?_))
 rcases bo (((((((!am) || (!an)) || ((p1.Dims.length : Int) != (4 : Int))) || ((u.Dims.length : Int) != (4 : Int))) || (!ao)) || (!ap)) || (!aq)) with aa | aa
 refine lf (aT aa) (lf (aT aa) (lf (aT aa) (lO (cW (!ar) R aa) (aC ?_))))
 exact qJ (fun w s => s)
 refine lW (bI aa) (vI R) (cU 0 R (bI aa) rv R (Z0v_ok (cZ ci (dY aa))) R ?_)
 rintro _
 refine lW (bI aa) (ft R) (lO (eS R aa R) (aC ?_))
 exact qJ (fun w s => s)
 rintro σ1
 refine aB ?_
 rcases bG m with ⟨b8, m⟩ | ⟨b8, m⟩
 refine aL R b8 (aD (aA (lO (vz (.agg [(.slice none 0 0), (.slice none 0 0)].toArray) (bW fF dC R R)) (aU 0 R R bO R R R R R R (aC (aB (aW (bA ?_))))))))
 obtain rfl := so m
 exact bU (vs := [(.agg [(.slice none 0 0), (.slice none 0 0)].toArray)]) (.inl R) ((none, 0, 0), (none, 0, 0)) R ⟨⟨0, a5, _, _, R, R, .inl ⟨cJ, bO, R⟩⟩, trivial⟩ R (fun w s => (((s.nilo kT3 3).nilo kT3 3).e 9 [1, 0]))
 refine aI R b8 (aN (aB (aD ?_)))
 obtain ⟨bf, m⟩ := gd m
 refine aA (lO (bT 0 cG R) (lO (bV 1 bK R R R) (bY 5 aE (show 0 < u.Dims.length by have := bf; omega) (fun bl o36 ha => ?_))))
 subst ha
 refine lO (cK aV bX R R bf) (lO (dL 5 cE aE R bf) (lI R (aC (aB (aD ?_)))))
 obtain ⟨bp, m⟩ := gd m
 refine aA (lO (bT 0 cG R) (lO (bV 1 bK R R R) (lO (cK aV bX R R bp) (lO (dL 5 cE aE R bp) (lI R (aC (aB (aD (aD ?_)))))))))
 obtain ⟨bg, m⟩ := gd m
 obtain ⟨ca, m⟩ := gd m
 refine cQ [(2, (iv g)), (3, (iv L)), (4, (iv J)), (5, (iv b)), (6, (pt av 0)), (7, (pt aw 0)), (12, (pt a5 0)), (13, (iv (ix u.Dims (0 : Int)))), (14, (iv (ix u.Dims (1 : Int)))), (87, (.bool (((ix p1.Dims (1 : Int)) != (aG ((ix u.Dims (1 : Int)) * b))) || (((ix u.Dims (0 : Int)).tmod b) != (0 : Int)))))] (aK a5 [(.slice none 0 0), (.slice none 0 0)] 26 :: W1) ?_ ?_
 refine aA (lO (bT 0 cG R) (lO (bV 2 bK R R R) (bY 3 aE (show 0 < p1.Dims.length by have := bg; omega) (fun d5 o40 ha => ?_))))
 subst ha
 refine lO (cK aV bX R R bg) (lO (dL 3 cE aE R bg) (lI R (lI R (lO (f9 R R) (lO (ig R R) (lB R ?_))))))
 rcases bo ((ix p1.Dims (1 : Int)) != (aG ((ix u.Dims (1 : Int)) * b))) with a6 | a6
 refine lf (aT a6) (lf (aT a6) (lf (aT a6) (lf (aT a6) (lO (cW (((ix u.Dims (0 : Int)).tmod b) != (0 : Int)) R a6) (aC ?_)))))
 exact qJ (fun w s => s)
 refine lW (bI a6) (vI R) (lW (bI a6) (vI R) (lW (bI a6) (iC R R (ca a6)) (lW (bI a6) (ig R R) (lO (eS R a6 R) (aC ?_)))))
 exact qJ (fun w s => s)
 rintro σ1
 refine aB ?_
 rcases bG m with ⟨b9, m⟩ | ⟨b9, m⟩
 refine aL R b9 (aD (aA (lO (vz (.agg [(.slice none 0 0), (.slice none 0 0)].toArray) (bW fF dC R R)) (aU 0 R R bO R R R R R R (aC (aB (aW (bA ?_))))))))
 obtain rfl := so m
 exact bU (vs := [(.agg [(.slice none 0 0), (.slice none 0 0)].toArray)]) (.inl R) ((none, 0, 0), (none, 0, 0)) R ⟨⟨0, a5, _, _, R, R, .inl ⟨cJ, bO, R⟩⟩, trivial⟩ R (fun w s => (((s.nilo kT3 3).nilo kT3 3).e 9 [1, 0]))
 refine aI R b9 (aN (aB (aD ?_)))
 obtain ⟨bh, m⟩ := gd m
 obtain ⟨ac, m⟩ := gd m
 obtain ⟨U, cj, m⟩ := bd m
 refine bZ 3 aE (show 0 < p1.Dims.length by have := bh; omega) (fun bm o46 ha => ?_)
 subst ha
 refine eI 18 [] cF (fun ht hn => (dR 0 R (bT 0 cG R) (dR 1 R (bV 2 bK R R R) (dR 2 R (cK aV bX R R bh) (dR 3 R (dL 3 cE aE R bh) (dR 4 R (vI R) (dR 5 R (f9 R R) (dR 6 R (cX R R) (dR 7 R (vI R) (dR 8 R (bT 0 cG R) (dR 9 R (bV 1 bK R R R) (dR 10 R (cK aV bX R R ac) (dR 11 R (dL 5 cE aE R ac) (dR 12 R (hM R R) (dR 13 R (f9 R R) (dR 14 R (cX R R) (dR 15 R (vI R) (d1 16 R (lC 0 vK R (Z13_ok cj) R ?_)))))))))))))))))))
 rintro _
 refine aC (aP (sL []) (dR 17 R (vI R) (dD (aB (aD ?_)))))
 obtain ⟨bq, m⟩ := gd m
 obtain ⟨ae, m⟩ := gd m
 obtain ⟨a0, ck, m⟩ := bd m
 refine eI 18 [] cF (fun ht hn => (dR 0 R (bT 0 cG R) (dR 1 R (bV 2 bK R R R) (dR 2 R (cK aV bX R R bq) (dR 3 R (dL 3 cE aE R bq) (dR 4 R (vI R) (dR 5 R (f9 R R) (dR 6 R (cX R R) (dR 7 R (vI R) (dR 8 R (bT 0 cG R) (dR 9 R (bV 1 bK R R R) (dR 10 R (cK aV bX R R ae) (dR 11 R (dL 5 cE aE R ae) (dR 12 R (hM R R) (dR 13 R (f9 R R) (dR 14 R (cX R R) (dR 15 R (vI R) (d1 16 R (lC 0 vK R (Z13_ok ck) R ?_)))))))))))))))))))
 rintro _
 refine aC (aP (sL []) (dR 17 R (vI R) (dD (aB (aD ?_)))))
 obtain ⟨br, m⟩ := gd m
 refine aA (lO (bT 0 cG R) (lO (bV 2 bK R R R) (lO (cK aV bX R R br) (lO (dL 3 cE aE R br) (lI R (lI R (lI R (cC (K := kT3) (xs := ([(ix p1.Dims (0 : Int)), (ix u.Dims (0 : Int)), U, a0] : List Int)) (vs := [(iv (ix p1.Dims (0 : Int))), (iv (ix u.Dims (0 : Int))), (iv U), (iv a0)]) 0 R R aV bX fj R R R R R R ?_ R (fun a3 a4 => ?_)))))))))
 exact fun I h s => (fw).list [((), (ix p1.Dims (0 : Int))), ((), (ix u.Dims (0 : Int))), ((), U), ((), a0)] I h s
 refine lN (OO kT3 3 a3 a4 ([(ix p1.Dims (0 : Int)), (ix u.Dims (0 : Int)), U, a0] : List Int) :: _ :: W1) ?_
 refine lS R (aC (aB (aD (aD ?_))))
 obtain ⟨cq, bs, m⟩ := bd m
 obtain ⟨cr, cm, m⟩ := bd m
 refine cQ [(2, (iv g)), (3, (iv L)), (4, (iv J)), (5, (iv b)), (6, (pt av 0)), (7, (pt aw 0)), (12, (pt a5 0)), (13, (iv (ix u.Dims (0 : Int)))), (14, (iv (ix u.Dims (1 : Int)))), (17, (sc a3 ([(ix p1.Dims (0 : Int)), (ix u.Dims (0 : Int)), U, a0] : List Int) a4)), (150, (.bool ((!cq) || (decide ((aG ((aG ((aG (cr * (ix u.Dims (1 : Int)))) * (ix u.Dims (2 : Int)))) * (ix u.Dims (3 : Int)))) > (65536 : Int))))))] (aK a5 [(.slice none 0 0), (.slice none 0 0)] 26 :: OO kT3 3 a3 a4 ([(ix p1.Dims (0 : Int)), (ix u.Dims (0 : Int)), U, a0] : List Int) :: W1) ?_ ?_
 rcases bo (!cq) with D | D
 refine eI 20 [] cF (fun ht hn => (dR 0 R (vS R) (d1 1 R (lC 1 lY R (FnOk.lends (A' := [OO kT3 3 a3 a4 ([(ix p1.Dims (0 : Int)), (ix u.Dims (0 : Int)), U, a0] : List Int)]) (A := [RR kT3 a3 a4 ([(ix p1.Dims (0 : Int)), (ix u.Dims (0 : Int)), U, a0] : List Int)]) (B := []) (Z0c_ok bs) ⟨bD, trivial⟩ (fun _ => trivial)) R ?_))))
 rintro _
 refine aC (aP (sL []) (dR 2 R (ft R) (dR 3 R (vB R) (dF 4 R (aT D) (dF 5 R (aT D) (dF 6 R (aT D) (dF 7 R (aT D) (dF 8 R (aT D) (dF 9 R (aT D) (dF 10 R (aT D) (dF 11 R (aT D) (dF 12 R (aT D) (dF 13 R (aT D) (dF 14 R (aT D) (dF 15 R (aT D) (dF 16 R (aT D) (dF 17 R (aT D) (dF 18 R (aT D) (dR 19 R (cW (decide ((aG ((aG ((aG (cr * (ix u.Dims (1 : Int)))) * (ix u.Dims (2 : Int)))) * (ix u.Dims (3 : Int)))) > (65536 : Int))) R D) (dD ?_))))))))))))))))))))
 exact qJ (fun w s => (s.e 2 [1, 0]))
 refine eI 20 [] cF (fun ht hn => (dR 0 R (vS R) (d1 1 R (lC 1 lY R (FnOk.lends (A' := [OO kT3 3 a3 a4 ([(ix p1.Dims (0 : Int)), (ix u.Dims (0 : Int)), U, a0] : List Int)]) (A := [RR kT3 a3 a4 ([(ix p1.Dims (0 : Int)), (ix u.Dims (0 : Int)), U, a0] : List Int)]) (B := []) (Z0c_ok bs) ⟨bD, trivial⟩ (fun _ => trivial)) R ?_))))
 rintro _
 refine aC (aP (sL []) (dR 2 R (ft R) (dR 3 R (vB R) (dW 4 R (bI D) (vS R) (dW 6 R (bI D) (vI R) (dW 8 R (bI D) (bT 0 cG R) (dW 9 R (bI D) (bV 2 bK R R R) (dW 10 R (bI D) (cK aV bX R R ac) (dW 11 R (bI D) (dL 6 cE aE R ac) (dW 13 R (bI D) (bT 0 cG R) (dW 14 R (bI D) (bV 2 bK R R R) (dW 15 R (bI D) (cK aV bX R R ae) (dW 16 R (bI D) (dL 6 cE aE R ae) (d1 5 R (cU 1 R (bI D) mF R (FnOk.lends (A' := [OO kT3 3 a3 a4 ([(ix p1.Dims (0 : Int)), (ix u.Dims (0 : Int)), U, a0] : List Int)]) (A := [RR kT3 a3 a4 ([(ix p1.Dims (0 : Int)), (ix u.Dims (0 : Int)), U, a0] : List Int)]) (B := []) (Zj_ok (cZ cm (dY D))) ⟨bD, trivial⟩ (fun _ => trivial)) R ?_)))))))))))))))
 rintro _
 refine aC (aP (sL []) (dW 7 R (bI D) (f9 R R) (dW 12 R (bI D) (f9 R R) (dW 17 R (bI D) (f9 R R) (dW 18 R (bI D) (iw R R) (dR 19 R (eS R D R) (dD ?_)))))))
 exact qJ (fun w s => (s.e 2 [1, 0]))
 rintro σ1
 refine aB ?_
 rcases bG m with ⟨ba, m⟩ | ⟨ba, m⟩
 refine aL R ba (aD (aA (lO (vz (.agg [(.slice none 0 0), (.slice none 0 0)].toArray) (bW fF dC R R)) (aU 0 R R bO R R R R R R (aC (aB (aW (bA ?_))))))))
 obtain rfl := so m
 exact bU (vs := [(.agg [(.slice none 0 0), (.slice none 0 0)].toArray)]) (.inl R) ((none, 0, 0), (none, 0, 0)) R ⟨⟨0, a5, _, _, R, R, .inl ⟨cJ, bO, R⟩⟩, trivial⟩ R (fun w s => (((s.nilo kT3 3).nilo kT3 3).e 10 [1, 0]))
 refine aI R ba (aN (aB (aD ?_)))
 obtain ⟨F, cn, m⟩ := bd m
 refine aA (lS R (lM (ow _ _ _ _ :: aK _ _ _ :: W1) (fun w s => (s.e 2 [1, 0])) ?_))
 refine lC 1 rp R (FnOk.lends (A' := [OO kT3 3 a3 a4 ([(ix p1.Dims (0 : Int)), (ix u.Dims (0 : Int)), U, a0] : List Int)]) (A := [RR kT3 a3 a4 ([(ix p1.Dims (0 : Int)), (ix u.Dims (0 : Int)), U, a0] : List Int)]) (B := []) (Z0m_ok cn) ⟨bD, trivial⟩ (fun _ => ⟨(bL fM), (bL fM), trivial⟩)) R ?_
 rintro ⟨⟨a8, ct, a9⟩, ⟨a7, cu, a2⟩⟩
 refine lN (_ :: ow kT3 3 (.slice a8 ct a9) F.Dims :: ow kT3 3 (.slice a7 cu a2) F.Data :: _ :: W1) ?_
 refine aY 1 aH ?_
 rintro rfl
 refine aY 2 aH ?_
 rintro rfl
 refine bM R R dC (fun ah => (aU 0 R R bO R R R R R R (lN (aK ah [(sc a8 F.Dims a9), (sc a7 F.Data a2)] 26 :: _ :: _ :: _ :: _ :: W1) ?_)))
 refine aC (aB (aD (bS (A := ((List Int)) × (Unit)) (fun a => Ze_J3 F a.1 = some r) (fun a => [(12, (pt a5 0)), (18, (pt ah 0))]) (fun a => aK a5 [(.slice none 0 0), (.slice none 0 0)] 26 :: aK ah [(sc a8 F.Dims a9), (sc a7 F.Data a2)] 26 :: OO kT3 3 a8 a9 F.Dims :: ow kT3 3 (.slice a7 F.Data.length a2) a.1 :: W1) ?_ ?_)))
 refine aD (aA (lI R (aC (aB (aM ?_)))))
 obtain ⟨e1, cz, cx⟩ := bd m
 refine bQ (A := Unit) cz (fun s a => [(2, (iv g)), (3, (iv L)), (4, (iv J)), (5, (iv b)), (6, (pt av 0)), (7, (pt aw 0)), (12, (pt a5 0)), (13, (iv (ix u.Dims (0 : Int)))), (14, (iv (ix u.Dims (1 : Int)))), (17, (sc a3 ([(ix p1.Dims (0 : Int)), (ix u.Dims (0 : Int)), U, a0] : List Int) a4)), (18, (pt ah 0)), (19, (iv s.2))]) (fun s a => aK a5 [(.slice none 0 0), (.slice none 0 0)] 26 :: OO kT3 3 a3 a4 ([(ix p1.Dims (0 : Int)), (ix u.Dims (0 : Int)), U, a0] : List Int) :: aK ah [(sc a8 F.Dims a9), (sc a7 F.Data a2)] 26 :: OO kT3 3 a8 a9 F.Dims :: ow kT3 3 (.slice a7 F.Data.length a2) s.1 :: W1) () (aS R) (fun w s => (s.e 5 [4, 1, 0, 2, 3])) ?_
 rintro ⟨bk, ag⟩ _ σ1 bi m cv
 replace m : Ze_L1 p1 u g L J b U a0 F bk ag = some bi := m
 unfold Ze_L1 at m
 refine aD (aD (aA (lI R (lO (bT 1 cA R) (lO (bV 2 bK R R R) (lO (bR aV R) (lO (dQ R R) (aC (aB ?_)))))))))
 rcases bG m with ⟨ax, m⟩ | ⟨ax, m⟩
 refine aL R ax (aN (aB (aD (bS (A := ((List Int)) × (Unit)) (fun a => Ze_J2 ag a.1 = some bi) (fun a => [(2, (iv g)), (3, (iv L)), (4, (iv J)), (5, (iv b)), (6, (pt av 0)), (7, (pt aw 0)), (12, (pt a5 0)), (13, (iv (ix u.Dims (0 : Int)))), (14, (iv (ix u.Dims (1 : Int)))), (17, (sc a3 ([(ix p1.Dims (0 : Int)), (ix u.Dims (0 : Int)), U, a0] : List Int) a4)), (18, (pt ah 0)), (19, (iv ag))]) (fun a => aK a5 [(.slice none 0 0), (.slice none 0 0)] 26 :: OO kT3 3 a3 a4 ([(ix p1.Dims (0 : Int)), (ix u.Dims (0 : Int)), U, a0] : List Int) :: aK ah [(sc a8 F.Dims a9), (sc a7 F.Data a2)] 26 :: OO kT3 3 a8 a9 F.Dims :: ow kT3 3 (.slice a7 F.Data.length a2) a.1 :: W1) ?_ ?_))))
 refine aM (aD ?_)
 obtain ⟨j, bz, m⟩ := bd m
 refine aA (lS R (lI R (lM (ow _ _ _ _ :: aK _ _ _ :: aK _ _ _ :: ow _ _ _ _ :: ow kT3 3 (.slice a7 F.Data.length a2) bk :: W1) (fun w s => (s.e 5 [1, 0, 2, 3, 4])) ?_)))
 refine lC 1 pl R (FnOk.lends (A' := [OO kT3 3 a3 a4 ([(ix p1.Dims (0 : Int)), (ix u.Dims (0 : Int)), U, a0] : List Int)]) (A := [RR kT3 a3 a4 ([(ix p1.Dims (0 : Int)), (ix u.Dims (0 : Int)), U, a0] : List Int)]) (B := []) (Zh_ok bz) ⟨bD, trivial⟩ (fun _ => ⟨(bL fM), trivial⟩)) R ?_
 rintro ⟨c5, c7, b1⟩
 refine lN (_ :: ow kT3 3 (.slice c5 c7 b1) j :: _ :: _ :: _ :: _ :: W1) ?_
 refine aY 1 aH ?_
 rintro rfl
 refine lS R (aC (aB (aD ?_)))
 obtain ⟨ai, m⟩ := gd m
 obtain ⟨bv, m⟩ := gd m
 obtain ⟨bw, m⟩ := gd m
 refine bZ 1 aH (show 0 < j.length by have := ai; omega) (fun b6 o141 ha => ?_)
 subst ha
 refine eI 10 [] cF (fun ht hn => (dR 0 R (vS R) (dR 1 R (cK aV bX R R ai) (dR 2 R (dL 1 cE aH R ai) (dR 3 R (vI R) (dR 4 R (vI R) (dR 5 R (vz (iv (aG ((ix u.Dims (0 : Int)).tdiv b))) (gO R R bv)) (dR 6 R (vz (iv (aG ((ix j (1 : Int)).tdiv (aG ((ix u.Dims (0 : Int)).tdiv b))))) (gO R R bw)) (dR 7 R (vI R) (dR 8 R (f9 R R) (dR 9 R (vI R) (dD (aB (aD (aA (lI R (aC (aB (aM ?_)))))))))))))))))))
 obtain ⟨e2, d0, cy⟩ := bd m
 refine bQ (A := Unit) d0 (fun s a => [(2, (iv g)), (3, (iv L)), (4, (iv J)), (5, (iv b)), (6, (pt av 0)), (7, (pt aw 0)), (12, (pt a5 0)), (13, (iv (ix u.Dims (0 : Int)))), (14, (iv (ix u.Dims (1 : Int)))), (17, (sc a3 ([(ix p1.Dims (0 : Int)), (ix u.Dims (0 : Int)), U, a0] : List Int) a4)), (18, (pt ah 0)), (19, (iv ag)), (20, (sc (ad b6 o141) j b1)), (21, (iv (aG ((aG ((ix j (1 : Int)).tdiv (aG ((ix u.Dims (0 : Int)).tdiv b)))) * (ix u.Dims (1 : Int)))))), (22, (iv s.2))]) (fun s a => aK a5 [(.slice none 0 0), (.slice none 0 0)] 26 :: OO kT3 3 a3 a4 ([(ix p1.Dims (0 : Int)), (ix u.Dims (0 : Int)), U, a0] : List Int) :: aK ah [(sc a8 F.Dims a9), (sc a7 F.Data a2)] 26 :: OO kT3 3 a8 a9 F.Dims :: ow kT3 3 (.slice a7 F.Data.length a2) s.1 :: OO kT3 3 (ad b6 o141) b1 j :: W1) () (aS R) (fun w s => (s.e 6 [2, 0, 3, 4, 5, 1])) ?_
 rintro ⟨au, co⟩ _ σ1 cp m cw
 replace m : Ze_L2 p1 u g L J b F ag j au co = some cp := m
 unfold Ze_L2 at m
 refine aD (aD (eI 13 [] cF (fun ht hn => (dR 0 R (vI R) (dR 1 R (vI R) (dR 2 R (bT 0 cG R) (dR 3 R (bV 6 bK R R R) (dR 4 R (cK aV bX R R ac) (dR 5 R (dL 10 cE aE R ac) (dR 6 R (f9 R R) (dR 7 R (bT 0 cG R) (dR 8 R (bV 6 bK R R R) (dR 9 R (cK aV bX R R ae) (dR 10 R (dL 10 cE aE R ae) (dR 11 R (f9 R R) (dR 12 R (dQ R R) (dD (aB ?_))))))))))))))))))
 rcases bG m with ⟨ay, m⟩ | ⟨ay, m⟩
 refine aL R ay (aN (aB (aD (aM (aD ?_)))))
 obtain ⟨i, c0, m⟩ := bd m
 refine eI 13 [] cF (fun ht hn => (dR 0 R (vI R) (dR 1 R (bT 0 cG R) (dR 2 R (bV 6 bK R R R) (dR 3 R (cK aV bX R R ac) (dR 4 R (dL 10 cE aE R ac) (dR 5 R (bT 0 cG R) (dR 6 R (bV 6 bK R R R) (dR 7 R (cK aV bX R R ae) (dR 8 R (dL 10 cE aE R ae) (dR 10 R (vI R) (d1 9 R (cC (K := kT3) (xs := ([(ix u.Dims (1 : Int)), (ix u.Dims (2 : Int)), (ix u.Dims (3 : Int))] : List Int)) (vs := [(iv (ix u.Dims (1 : Int))), (iv (ix u.Dims (2 : Int))), (iv (ix u.Dims (3 : Int)))]) 0 R R aV bX fj R R R R R R ?_ R (fun b4 b5 => ?_))))))))))))))
 exact fun I h s => (fw).list [((), (ix u.Dims (1 : Int))), ((), (ix u.Dims (2 : Int))), ((), (ix u.Dims (3 : Int)))] I h s
 refine lN (OO kT3 3 b4 b5 ([(ix u.Dims (1 : Int)), (ix u.Dims (2 : Int)), (ix u.Dims (3 : Int))] : List Int) :: _ :: _ :: _ :: _ :: ow kT3 3 (.slice a7 F.Data.length a2) au :: OO kT3 3 (ad b6 o141) b1 j :: W1) ?_
 refine aC (aP (sL [0]) (d1 11 R (lC 1 pl R (FnOk.lends (A' := [OO kT3 3 b4 b5 ([(ix u.Dims (1 : Int)), (ix u.Dims (2 : Int)), (ix u.Dims (3 : Int))] : List Int)]) (A := [RR kT3 b4 b5 ([(ix u.Dims (1 : Int)), (ix u.Dims (2 : Int)), (ix u.Dims (3 : Int))] : List Int)]) (B := []) (Zh_ok c0) ⟨bD, trivial⟩ (fun _ => ⟨(bL fM), trivial⟩)) R ?_)))
 rintro ⟨c6, c8, bn⟩
 refine lN (_ :: ow kT3 3 (.slice c6 c8 bn) i :: _ :: _ :: _ :: _ :: _ :: _ :: W1) ?_
 refine aY 1 aH ?_
 rintro rfl
 refine aC (aP (sL [1, 0]) (dR 12 R (vS R) (hS := (sL [1, 0])) (dD (aB (aD ?_)))))
 obtain ⟨bb, m⟩ := gd m
 obtain ⟨aj, m⟩ := gd m
 obtain ⟨bc, m⟩ := gd m
 obtain ⟨ak, m⟩ := gd m
 obtain ⟨be, m⟩ := gd m
 obtain ⟨al, m⟩ := gd m
 obtain ⟨d2, c1, m⟩ := bd m
 refine bZ 1 aH (show 0 < i.length by have := aj; omega) (fun c9 o180 ha => ?_)
 subst ha
 refine eI 38 [] cF (fun ht hn => (dR 0 R (vz (.agg [(sc (ad bm o46) p1.Dims D2), (sc A3 p1.Data D3)].toArray) (bF 9 cJ bO R R R R)) (dR 1 R (vS R) (dR 2 R (cK aV bX R R bb) (dR 3 R (dL 7 cE aH R bb) (dR 4 R (vI R) (dR 5 R (vS R) (dR 6 R (cK aV bX R R aj) (dR 7 R (dL 1 cE aH R aj) (dR 8 R (cX R R) (dR 9 R (vS R) (dR 10 R (cK aV bX R R bc) (dR 11 R (dL 7 cE aH R bc) (dR 12 R (vI R) (dR 13 R (f9 R R) (dR 14 R (vI R) (dR 15 R (hM R R) (dR 16 R (vI R) (dR 17 R (vS R) (dR 18 R (cK aV bX R R ak) (dR 19 R (dL 1 cE aH R ak) (dR 20 R (f9 R R) (dR 21 R (cX R R) (dR 22 R (vS R) (dR 23 R (cK aV bX R R be) (dR 24 R (dL 7 cE aH R be) (dR 25 R (vI R) (dR 26 R (f9 R R) (dR 27 R (vI R) (dR 28 R (hM R R) (dR 29 R (vI R) (dR 30 R (vS R) (dR 31 R (cK aV bX R R al) (dR 32 R (dL 1 cE aH R al) (dR 33 R (f9 R R) (dR 34 R (cX R R) (d1 35 R ?_)))))))))))))))))))))))))))))))))))))
 refine cC (K := kT3) (xs := ([(ix j (0 : Int)), (aG ((aG ((aG ((ix j (1 : Int)).tdiv (aG ((ix u.Dims (0 : Int)).tdiv b)))) * (ix u.Dims (1 : Int)))) + (ix i (0 : Int)))), (aG ((aG ((aG ((ix j (2 : Int)) * g)) - L)) + (aG (J * (ix i (1 : Int)))))), (aG ((aG ((aG ((ix j (3 : Int)) * g)) - L)) + (aG (J * (ix i (2 : Int))))))] : List Int)) (vs := [(iv (ix j (0 : Int))), (iv (aG ((aG ((aG ((ix j (1 : Int)).tdiv (aG ((ix u.Dims (0 : Int)).tdiv b)))) * (ix u.Dims (1 : Int)))) + (ix i (0 : Int))))), (iv (aG ((aG ((aG ((ix j (2 : Int)) * g)) - L)) + (aG (J * (ix i (1 : Int))))))), (iv (aG ((aG ((aG ((ix j (3 : Int)) * g)) - L)) + (aG (J * (ix i (2 : Int)))))))]) 0 R R aV bX fj R R R R R R ?_ R (fun az b2 => ?_)
 exact fun I h s => (fw).list [((), (ix j (0 : Int))), ((), (aG ((aG ((aG ((ix j (1 : Int)).tdiv (aG ((ix u.Dims (0 : Int)).tdiv b)))) * (ix u.Dims (1 : Int)))) + (ix i (0 : Int))))), ((), (aG ((aG ((aG ((ix j (2 : Int)) * g)) - L)) + (aG (J * (ix i (1 : Int))))))), ((), (aG ((aG ((aG ((ix j (3 : Int)) * g)) - L)) + (aG (J * (ix i (2 : Int)))))))] I h s
 refine lN (OO kT3 3 az b2 ([(ix j (0 : Int)), (aG ((aG ((aG ((ix j (1 : Int)).tdiv (aG ((ix u.Dims (0 : Int)).tdiv b)))) * (ix u.Dims (1 : Int)))) + (ix i (0 : Int)))), (aG ((aG ((aG ((ix j (2 : Int)) * g)) - L)) + (aG (J * (ix i (1 : Int)))))), (aG ((aG ((aG ((ix j (3 : Int)) * g)) - L)) + (aG (J * (ix i (2 : Int))))))] : List Int) :: _ :: OO kT3 3 (ad c9 o180) bn i :: _ :: _ :: _ :: _ :: _ :: _ :: W1) ?_
 refine aC (aP (sL [0]) (d1 36 R (lM (ow _ _ _ _ :: RR kT3 (ad bm o46) D2 p1.Dims :: RR kT3 A3 D3 p1.Data :: ow _ _ _ _ :: ow _ _ _ _ :: aK _ _ _ :: ow _ _ _ _ :: aK _ _ _ :: ow _ _ _ _ :: ow _ _ _ _ :: ow _ _ _ _ :: W1) (fun w s => (((s.d 11 R).d 13 R).f 11 [2, 1, 1, 1, 0, 1, 3, 8])) ?_)))
 refine lC 3 xc R (FnOk.lends (A' := [OO kT3 3 az b2 ([(ix j (0 : Int)), (aG ((aG ((aG ((ix j (1 : Int)).tdiv (aG ((ix u.Dims (0 : Int)).tdiv b)))) * (ix u.Dims (1 : Int)))) + (ix i (0 : Int)))), (aG ((aG ((aG ((ix j (2 : Int)) * g)) - L)) + (aG (J * (ix i (1 : Int)))))), (aG ((aG ((aG ((ix j (3 : Int)) * g)) - L)) + (aG (J * (ix i (2 : Int))))))] : List Int)]) (A := [RR kT3 az b2 ([(ix j (0 : Int)), (aG ((aG ((aG ((ix j (1 : Int)).tdiv (aG ((ix u.Dims (0 : Int)).tdiv b)))) * (ix u.Dims (1 : Int)))) + (ix i (0 : Int)))), (aG ((aG ((aG ((ix j (2 : Int)) * g)) - L)) + (aG (J * (ix i (1 : Int)))))), (aG ((aG ((aG ((ix j (3 : Int)) * g)) - L)) + (aG (J * (ix i (2 : Int))))))] : List Int)]) (B := [RR kT3 (ad bm o46) D2 p1.Dims, RR kT3 A3 D3 p1.Data]) (FnOk.perm (Z1m_ok c1) (Pre' := [RR kT3 az b2 ([(ix j (0 : Int)), (aG ((aG ((aG ((ix j (1 : Int)).tdiv (aG ((ix u.Dims (0 : Int)).tdiv b)))) * (ix u.Dims (1 : Int)))) + (ix i (0 : Int)))), (aG ((aG ((aG ((ix j (2 : Int)) * g)) - L)) + (aG (J * (ix i (1 : Int)))))), (aG ((aG ((aG ((ix j (3 : Int)) * g)) - L)) + (aG (J * (ix i (2 : Int))))))] : List Int), RR kT3 (ad bm o46) D2 p1.Dims, RR kT3 A3 D3 p1.Data]) (fun _ _ _ s => (s.e 3 [1, 2, 0]))) ⟨bD, trivial⟩ (fun _ => trivial)) R ?_
 rintro _
 refine lN (_ :: _ :: _ :: _ :: _ :: _ :: _ :: _ :: _ :: W1) ?_
 refine aC (aP (sL [0]) (dR 37 R (vI R) (hS := (sL [0])) (dD (aB ?_))))
 obtain ⟨ab, m⟩ := gd m
 obtain ⟨d3, c2, m⟩ := bd m
 obtain ⟨d4, c3, m⟩ := bd m
 obtain ⟨bj, c4, m⟩ := bd m
 refine bZ 7 aH (show 0 < F.Data.length by have := ab; omega) (fun b7 o190 ha => ?_)
 subst ha
 refine eI 27 [] cF (fun ht hn => (dR 0 R (bT 1 cA R) (dR 1 R (bV 5 bK R R R) (dR 2 R (vI R) (dR 3 R (bT 1 cA R) (dR 4 R (bV 5 bK R R R) (dR 5 R (vI R) (dR 6 R (cK aV bX R R ab) (dR 7 R (dL 7 cE aH R ab) (dR 8 R (vI R) (dR 9 R (vz (.agg [(sc (ad bl o36) u.Dims D5), (sc A6 u.Data D6)].toArray) (bF 9 cJ bO R R R R)) (dR 10 R (vS R) (dR 11 R (cK aV bX R R ai) (dR 12 R (dL 8 cE aH R ai) (dR 13 R (vS R) (dR 14 R (cK aV bX R R aj) (dR 15 R (dL 2 cE aH R aj) (dR 16 R (vS R) (dR 17 R (cK aV bX R R ak) (dR 18 R (dL 2 cE aH R ak) (dR 19 R (vS R) (dR 20 R (cK aV bX R R al) (dR 21 R (dL 2 cE aH R al) (d1 22 R (cC (K := kT3) (xs := ([(ix j (1 : Int)), (ix i (0 : Int)), (ix i (1 : Int)), (ix i (2 : Int))] : List Int)) (vs := [(iv (ix j (1 : Int))), (iv (ix i (0 : Int))), (iv (ix i (1 : Int))), (iv (ix i (2 : Int)))]) 0 R R aV bX fj R R R R R R ?_ R (fun b0 b3 => ?_))))))))))))))))))))))))))
 exact fun I h s => (fw).list [((), (ix j (1 : Int))), ((), (ix i (0 : Int))), ((), (ix i (1 : Int))), ((), (ix i (2 : Int)))] I h s
 refine lN (OO kT3 3 b0 b3 ([(ix j (1 : Int)), (ix i (0 : Int)), (ix i (1 : Int)), (ix i (2 : Int))] : List Int) :: _ :: _ :: _ :: _ :: _ :: aK ah [(sc a8 F.Dims a9), (sc (ad b7 o190) F.Data a2)] 26 :: _ :: ow kT3 3 (.slice (ad b7 o190) F.Data.length a2) au :: _ :: W1) ?_
 refine aC (aP (sL [0]) (d1 23 R (lM (ow _ _ _ _ :: RR kT3 (ad bl o36) D5 u.Dims :: RR kT3 A6 D6 u.Data :: ow _ _ _ _ :: ow _ _ _ _ :: ow _ _ _ _ :: aK _ _ _ :: ow _ _ _ _ :: aK _ _ _ :: ow _ _ _ _ :: ow _ _ _ _ :: ow _ _ _ _ :: W1) (fun w s => (((s.d 14 R).d 16 R).f 12 [2, 1, 1, 1, 0, 1, 3, 9])) ?_)))
 refine lC 3 tU R (FnOk.lends (A' := [OO kT3 3 b0 b3 ([(ix j (1 : Int)), (ix i (0 : Int)), (ix i (1 : Int)), (ix i (2 : Int))] : List Int)]) (A := [RR kT3 b0 b3 ([(ix j (1 : Int)), (ix i (0 : Int)), (ix i (1 : Int)), (ix i (2 : Int))] : List Int)]) (B := [RR kT3 (ad bl o36) D5 u.Dims, RR kT3 A6 D6 u.Data]) (FnOk.perm (Z11_ok c2) (Pre' := [RR kT3 b0 b3 ([(ix j (1 : Int)), (ix i (0 : Int)), (ix i (1 : Int)), (ix i (2 : Int))] : List Int), RR kT3 (ad bl o36) D5 u.Dims, RR kT3 A6 D6 u.Data]) (fun _ _ _ s => (s.e 3 [1, 2, 0]))) ⟨bD, trivial⟩ (fun _ => trivial)) R ?_
 rintro _
 refine lN (_ :: _ :: _ :: _ :: _ :: _ :: _ :: _ :: _ :: _ :: W1) ?_
 refine aC (aP (sL [0]) (d1 24 R (lC 0 pb R (Z0l_ok c3) R ?_)))
 rintro _
 refine aC (aP (sL [0]) (d1 25 R (lC 0 vM R (Z17_ok c4) R ?_)))
 rintro _
 refine aC (aP (sL [0]) (dR 26 R (cK aV bX R R ab) (hS := (sL [0])) (d1 27 R (lM (ow _ _ _ _ :: ow _ _ _ _ :: ow _ _ _ _ :: ow _ _ _ _ :: ow _ _ _ _ :: aK _ _ _ :: ow _ _ _ _ :: aK _ _ _ :: ow _ _ _ _ :: ow _ _ _ _ :: W1) (fun w s => (s.f 10 [8, 1, 0, 8, 9, 1])) ?_))))
 refine eG (K := kT3) (x' := bj) 0 ag R R bX R R ab.1 ab.2 ?_ ?_
 exact fun I h s => (fw).put I h () bj s
 refine lN (ow kT3 3 (.slice (ad b7 o190) F.Data.length a2) (au.set ag.toNat bj) :: _ :: _ :: _ :: _ :: _ :: _ :: _ :: _ :: _ :: W1) ?_
 refine aC (qE (dD (aZ (aB (aA (lI R (lO (cX R R) (lI R (aC ?_)))))))))
 obtain rfl := so m
 exact qA () (fun w s => (s.e 10 [5, 6, 7, 8, 0, 9]))
 refine aI R ay (bP (aR ?_))
 obtain rfl := so m
 obtain rfl := cw _ R
 have m := cy
 refine aR (bE (aZ ?_))
 exact qI (au, ()) m (fun w s => (s.f 6 [0, 5]))
 rintro ⟨cs, _⟩ σ1 m
 replace m : Ze_J2 ag cs = some bi := m
 unfold Ze_J2 at m
 refine aA (lI R (lO (cX R R) (lI R (aC ?_))))
 obtain rfl := so m
 exact qA () (fun w s => s)
 refine aI R ax (bP (aR ?_))
 obtain rfl := so m
 obtain rfl := cv _ R
 have m := cx
 refine aR (bE ?_)
 exact qI (bk, ()) m (fun w s => (s.e 5 [0, 2, 3, 4]))
 rintro ⟨bu, _⟩ σ1 m
 replace m : Ze_J3 F bu = some r := m
 unfold Ze_J3 at m
 refine aD (aA (lO (vz (.agg [(sc a8 F.Dims a9), (sc a7 F.Data a2)].toArray) (bF 1 cJ bO R R R R)) (aU 0 R R bO R R R R R R (lN (aK a5 [(sc a8 F.Dims a9), (sc a7 F.Data a2)] 26 :: aK ah [(sc a8 F.Dims a9), (sc a7 F.Data a2)] 26 :: _ :: ow kT3 3 (.slice a7 F.Data.length a2) bu :: W1) ?_))))
 refine aC (aB (aW ?_))
 obtain rfl := so m
 exact bU (vs := [(.agg [(sc a8 F.Dims a9), (sc a7 F.Data a2)].toArray)]) (.inl R) ((a8, F.Dims.length, a9), (a7, F.Data.length, a2)) R ⟨⟨0, a5, _, _, R, R, .inl ⟨cJ, bO, R⟩⟩, trivial⟩ R (fun w s => (s.e 10 [2, 3]))
theorem Z1b_ok  {t1 : Tensor} {a : Int} {r : Bool} (j : Z1b t1 a = some r) :
 FnOk Tryz.prog 75 [(.agg [(.slice A2 N2 D2), (.slice A3 N3 D3)].toArray), (iv a)] [aQ kT3 (.slice A2 N2 D2) t1.Dims, aQ kT3 (.slice A3 N3 D3) t1.Data] (fun (h : Unit) => ((.bool r), [])) := by
 unfold Z1b at j
 refine bN Tryz.func75 R 18 R R fun C V => ?_
 refine cN (_ :: _ :: V) ?_
 refine cL 0 aE ?_
 rintro rfl
 refine cL 1 aE ?_
 rintro rfl
 let u : List HP := RR kT3 A2 D2 t1.Dims :: RR kT3 A3 D3 t1.Data :: V
 refine cN u ?_
 refine aD (aA (gz R (fun D => (lB R (aC ?_)))))
 let i : List HP := aK D [(sc A2 t1.Dims D2), (sc A3 t1.Data D3)] 26 :: u
 refine qN i ?_
 refine aB (aD ?_)
 obtain ⟨q, m, j⟩ := bd j
 refine cQ [(4, (.bool ((q && (decide (a ≥ (0 : Int)))) && (decide (a < (t1.Dims.length : Int))))))] (i) ?_ ?_
 refine aA (lO (vz (.agg [(sc A2 t1.Dims D2), (sc A3 t1.Data D3)].toArray) (bF 0 cJ bO R R R R)) (lM (RR kT3 A2 D2 t1.Dims :: RR kT3 A3 D3 t1.Data :: i) (fun w s => (((s.d 1 R).d 3 R).e 2 [1, 0])) ?_))
 refine lC 2 pk R (Zm_ok m) R ?_
 rintro _
 refine lN i ?_
 refine lB R ?_
 rcases bo q with b | b
 refine lW (eB b) (vI R) (lW (eB b) (jW R R) (lO (kx R b R) (lB R ?_)))
 rcases bo (q && (decide (a ≥ (0 : Int)))) with g | g
 refine lW (eB g) (vI R) (lW (eB g) (bT 0 cG R) (lW (eB g) (bV 0 bK R R R) (lW (eB g) (bR aV R) (lW (eB g) (dQ R R) (lO (kx R g R) (lB R (aC ?_)))))))
 exact qJ (fun w s => s)
 refine lf (dV g) (lf (dV g) (lf (dV g) (lf (dV g) (lf (dV g) (lO (kn (decide (a < (t1.Dims.length : Int))) R g) (lB R (aC ?_)))))))
 exact qJ (fun w s => s)
 refine lf (dV b) (lf (dV b) (lO (kn (decide (a ≥ (0 : Int))) R b) (lB R (lf (dV (aF b)) (lf (dV (aF b)) (lf (dV (aF b)) (lf (dV (aF b)) (lf (dV (aF b)) (lO (kn (decide (a < (t1.Dims.length : Int))) R (aF b)) (lB R (aC ?_)))))))))))
 exact qJ (fun w s => s)
 rintro σ1
 refine aB (aW ?_)
 obtain rfl := so j
 exact qF () (fun w s => (s.e 3 []))
theorem Z18_ok  {q : (List Int)} {u : Int} {j : Int} {r : (List Int)} (b : Z18 q u j = some r) :
 FnOk Tryz.prog 76 [(.slice A2 N2 D2), (iv u), (iv j)] [aQ kT3 (.slice A2 N2 D2) q] (fun (h : HH) => ((.slice h.1 h.2.1 h.2.2), [ow kT3 3 (.slice h.1 h.2.1 h.2.2) r])) := by
 unfold Z18 at b
 refine bN Tryz.func76 R 15 R R fun C V => ?_
 refine cN (_ :: V) ?_
 refine cL 0 aE ?_
 rintro rfl
 let i : List HP := RR kT3 A2 D2 q :: V
 refine cN i ?_
 refine aD (aA (lS R (aC (aB (aD ?_)))))
 obtain ⟨g, E, b⟩ := bd b
 refine aA (lS R (lM (RR kT3 A2 D2 q :: i) (fun w s => (s.d 0 R)) ?_))
 refine lC 1 oa R (Z0k_ok E) R ?_
 rintro ⟨F, G, m⟩
 refine lN (ow kT3 3 (.slice F G m) g :: i) ?_
 refine aY 0 aH ?_
 rintro rfl
 refine lS R (aC (aB (aD ?_)))
 obtain ⟨a, b⟩ := gd b
 refine aA (lS R (lI R (lI R (bY 0 aH (show 0 < g.length by have := a; omega) (fun D o10 J => ?_)))))
 subst J
 refine lO (cK aV bX R R a) (lN (OO kT3 3 (ad D o10) m g :: i) ?_)
 refine eG (K := kT3) (x' := j) 0 u R R bX R R a.1 a.2 ?_ ?_
 exact fun I h s => (fw).put I h () j s
 refine lN (ow kT3 3 (.slice (ad D o10) g.length m) (g.set u.toNat j) :: i) ?_
 refine aC (aB (aD (aA (lS R (lS R (aC (aB (aW ?_))))))))
 obtain rfl := so b
 exact qF ((ad D o10), g.length, m) (fun w s => (s.e 2 [0]))
theorem Z1l_ok  {t1 : Tensor} {a : (List Int)} {j : Int} {r : (List Int)} (g : Z1l t1 a j = some r) :
 FnOk Tryz.prog 77 [(.agg [(.slice A2 N2 D2), (.slice A3 N3 D3)].toArray), (.slice A5 N5 D5), (iv j)] [aQ kT3 (.slice A2 N2 D2) t1.Dims, ow kT3 3 (.slice A3 N3 D3) t1.Data, aQ kT3 (.slice A5 N5 D5) a] (fun (h : Unit) => ((.tuple [].toArray), [ow kT3 3 (.slice A3 N3 D3) r])) := by
 unfold Z1l at g
 refine bN Tryz.func77 R 14 R R fun C V => ?_
 refine cM (ow _ _ _ _ :: aQ _ _ _ :: aQ _ _ _ :: V) (fun w s => (s.e 3 [1, 0, 2])) ?_
 refine cL 0 aH ?_
 rintro rfl
 refine cL 1 aE ?_
 rintro rfl
 refine cL 2 aE ?_
 rintro rfl
 let q : List HP := RR kT3 A2 D2 t1.Dims :: RR kT3 A5 D5 a :: V
 refine cN (_ :: q) ?_
 refine aD (aA (gz R (fun E => (aC (qM (ow _ _ _ _ :: aK _ _ _ :: q) (fun w s => (s.e 2 [1, 0])) ?_)))))
 let m : List HP := aK E [(sc A2 t1.Dims D2), (sc A3 t1.Data D3)] 26 :: q
 refine qN (_ :: m) ?_
 refine aB ?_
 obtain ⟨D, u, g⟩ := bd g
 obtain ⟨b, g⟩ := gd g
 refine bZ 0 aH (show 0 < t1.Data.length by have := b; omega) (fun i o12 F => ?_)
 subst F
 refine eI 9 [0] cF (fun J G => (dR 0 R (bT 1 cA R) (hS := (sL [0])) (dR 1 R (bV 0 bK R R R) (hS := (sL [0])) (dR 2 R (bT 0 cG R) (hS := (sL [0])) (dR 3 R (bV 0 bK R R R) (hS := (sL [0])) (dR 4 R (vS R) (hS := (sL [0])) (dR 6 R (vI R) (hS := (sL [0])) (d1 5 R (lM (RR kT3 A2 D2 t1.Dims :: RR kT3 A5 D5 a :: OO kT3 3 (ad i o12) D3 t1.Data :: m) (fun w s => (((s.d 2 R).d 4 R).e 3 [1, 0, 2])) ?_)))))))))
 refine lC 2 tT R (Z00_ok u) R ?_
 rintro _
 refine lN (_ :: m) ?_
 refine aC (aP (sL [0]) (dR 7 R (cK aV bX R R b) (hS := (sL [0])) (d1 8 R (eG (K := kT3) (x' := j) 0 D R R bX R R b.1 b.2 ?_ ?_))))
 exact fun I h s => (fw).put I h () j s
 refine lN (ow kT3 3 (.slice (ad i o12) t1.Data.length D3) (t1.Data.set D.toNat j) :: m) ?_
 refine aC (aP (sL [0]) (dD ?_))
 obtain rfl := so g
 exact bU (vs := []) (.inr R) () R trivial R (fun w s => (s.e 4 [0]))
theorem Zt_ok  {t1 : Tensor} {M : Int} {b : Int} {g : Int} {m : Int} {r : Tensor} (D : Zt t1 M b g m = some r) :
 FnOk Tryz.prog 17 [(.agg [(.slice A2 N2 D2), (.slice A3 N3 D3)].toArray), (iv M), (iv b), (iv g), (iv m)] [aQ kT3 (.slice A2 N2 D2) t1.Dims, aQ kT3 (.slice A3 N3 D3) t1.Data] (fun (h : HH × HH) => ((.agg [(.slice h.1.1 h.1.2.1 h.1.2.2), (.slice h.2.1 h.2.2.1 h.2.2.2)].toArray), [ow kT3 3 (.slice h.1.1 h.1.2.1 h.1.2.2) r.Dims, ow kT3 3 (.slice h.2.1 h.2.2.1 h.2.2.2) r.Data])) := by
 unfold Zt at D
 refine bN Tryz.func17 R 101 R R fun C V => ?_
 refine cN (_ :: _ :: V) ?_
 refine cL 0 aE ?_
 rintro rfl
 refine cL 1 aE ?_
 rintro rfl
 let W0 : List HP := RR kT3 A2 D2 t1.Dims :: RR kT3 A3 D3 t1.Data :: V
 refine cN W0 ?_
 refine aD (aA (gz R (fun b8 => (bM R R dC (fun b9 => (aC ?_))))))
 let U : List HP := aK b8 [(sc A2 t1.Dims D2), (sc A3 t1.Data D3)] 26 :: W0
 refine qN (_ :: U) ?_
 refine aB (aD (aD ?_))
 obtain ⟨a0, al, D⟩ := bd D
 refine cQ [(1, (iv M)), (2, (iv b)), (3, (iv g)), (4, (iv m)), (5, (pt b8 0)), (10, (pt b9 0)), (43, (.bool (((((((!a0) || (decide (b < (0 : Int)))) || (decide (b > (4096 : Int)))) || (decide (g < (0 : Int)))) || (decide (g > (4096 : Int)))) || (decide (m < (0 : Int)))) || (decide (m > (4096 : Int))))))] (aK b9 [(.slice none 0 0), (.slice none 0 0)] 26 :: U) ?_ ?_
 refine aA (lO (vz (.agg [(sc A2 t1.Dims D2), (sc A3 t1.Data D3)].toArray) (bF 1 cJ bO R R R R)) (lI R (lM (RR kT3 A2 D2 t1.Dims :: RR kT3 A3 D3 t1.Data :: aK _ _ _ :: U) (fun w s => (((s.d 2 R).d 4 R).e 3 [1, 0, 2])) ?_)))
 refine lC 2 xy R (Z1b_ok al) R ?_
 rintro _
 refine lN (_ :: U) ?_
 refine lO (ft R) (lB R ?_)
 rcases bo (!a0) with j | j
 refine lf (aT j) (lf (aT j) (lO (cW (decide (b < (0 : Int))) R j) (lB R (lf (aT (oT j)) (lf (aT (oT j)) (lO (cW (decide (b > (4096 : Int))) R (oT j)) (lB R (lf (aT (oT (oT j))) (lf (aT (oT (oT j))) (lO (cW (decide (g < (0 : Int))) R (oT (oT j))) (lB R (lf (aT (oT (oT (oT j)))) (lf (aT (oT (oT (oT j)))) (lO (cW (decide (g > (4096 : Int))) R (oT (oT (oT j)))) (lB R (lf (aT (oT (oT (oT (oT j))))) (lf (aT (oT (oT (oT (oT j))))) (lO (cW (decide (m < (0 : Int))) R (oT (oT (oT (oT j))))) (lB R (lf (aT (oT (oT (oT (oT (oT j)))))) (lf (aT (oT (oT (oT (oT (oT j)))))) (lO (cW (decide (m > (4096 : Int))) R (oT (oT (oT (oT (oT j)))))) (aC ?_)))))))))))))))))))))))
 exact qJ (fun w s => s)
 refine lW (bI j) (vI R) (lW (bI j) (dQ R R) (lO (eS R j R) (lB R ?_)))
 rcases bo ((!a0) || (decide (b < (0 : Int)))) with q | q
 refine lf (aT q) (lf (aT q) (lO (cW (decide (b > (4096 : Int))) R q) (lB R (lf (aT (oT q)) (lf (aT (oT q)) (lO (cW (decide (g < (0 : Int))) R (oT q)) (lB R (lf (aT (oT (oT q))) (lf (aT (oT (oT q))) (lO (cW (decide (g > (4096 : Int))) R (oT (oT q))) (lB R (lf (aT (oT (oT (oT q)))) (lf (aT (oT (oT (oT q)))) (lO (cW (decide (m < (0 : Int))) R (oT (oT (oT q)))) (lB R (lf (aT (oT (oT (oT (oT q))))) (lf (aT (oT (oT (oT (oT q))))) (lO (cW (decide (m > (4096 : Int))) R (oT (oT (oT (oT q))))) (aC ?_)))))))))))))))))))
 exact qJ (fun w s => s)
 refine lW (bI q) (vI R) (lW (bI q) (iw R R) (lO (eS R q R) (lB R ?_)))
 rcases bo (((!a0) || (decide (b < (0 : Int)))) || (decide (b > (4096 : Int)))) with u | u
 refine lf (aT u) (lf (aT u) (lO (cW (decide (g < (0 : Int))) R u) (lB R (lf (aT (oT u)) (lf (aT (oT u)) (lO (cW (decide (g > (4096 : Int))) R (oT u)) (lB R (lf (aT (oT (oT u))) (lf (aT (oT (oT u))) (lO (cW (decide (m < (0 : Int))) R (oT (oT u))) (lB R (lf (aT (oT (oT (oT u)))) (lf (aT (oT (oT (oT u)))) (lO (cW (decide (m > (4096 : Int))) R (oT (oT (oT u)))) (aC ?_)))))))))))))))
 exact qJ (fun w s => s)
 refine lW (bI u) (vI R) (lW (bI u) (dQ R R) (lO (eS R u R) (lB R ?_)))
 rcases bo ((((!a0) || (decide (b < (0 : Int)))) || (decide (b > (4096 : Int)))) || (decide (g < (0 : Int)))) with E | E
 refine lf (aT E) (lf (aT E) (lO (cW (decide (g > (4096 : Int))) R E) (lB R (lf (aT (oT E)) (lf (aT (oT E)) (lO (cW (decide (m < (0 : Int))) R (oT E)) (lB R (lf (aT (oT (oT E))) (lf (aT (oT (oT E))) (lO (cW (decide (m > (4096 : Int))) R (oT (oT E))) (aC ?_)))))))))))
 exact qJ (fun w s => s)
 refine lW (bI E) (vI R) (lW (bI E) (iw R R) (lO (eS R E R) (lB R ?_)))
 rcases bo (((((!a0) || (decide (b < (0 : Int)))) || (decide (b > (4096 : Int)))) || (decide (g < (0 : Int)))) || (decide (g > (4096 : Int)))) with I | I
 refine lf (aT I) (lf (aT I) (lO (cW (decide (m < (0 : Int))) R I) (lB R (lf (aT (oT I)) (lf (aT (oT I)) (lO (cW (decide (m > (4096 : Int))) R (oT I)) (aC ?_)))))))
 exact qJ (fun w s => s)
 refine lW (bI I) (vI R) (lW (bI I) (dQ R R) (lO (eS R I R) (lB R ?_)))
 rcases bo ((((((!a0) || (decide (b < (0 : Int)))) || (decide (b > (4096 : Int)))) || (decide (g < (0 : Int)))) || (decide (g > (4096 : Int)))) || (decide (m < (0 : Int)))) with T | T
 refine lf (aT T) (lf (aT T) (lO (cW (decide (m > (4096 : Int))) R T) (aC ?_)))
 exact qJ (fun w s => s)
 refine lW (bI T) (vI R) (lW (bI T) (iw R R) (lO (eS R T R) (aC ?_)))
 exact qJ (fun w s => s)
 rintro σ1
 refine aB ?_
 rcases bG D with ⟨a5, D⟩ | ⟨a5, D⟩
 refine aL R a5 (aD (aA (lO (vz (.agg [(.slice none 0 0), (.slice none 0 0)].toArray) (bW fF dC R R)) (aU 0 R R bO R R R R R R (aC (aB (aW (bA ?_))))))))
 obtain rfl := so D
 exact bU (vs := [(.agg [(.slice none 0 0), (.slice none 0 0)].toArray)]) (.inl R) ((none, 0, 0), (none, 0, 0)) R ⟨⟨0, b9, _, _, R, R, .inl ⟨cJ, bO, R⟩⟩, trivial⟩ R (fun w s => (((s.nilo kT3 3).nilo kT3 3).e 6 [1, 0]))
 refine aI R a5 (aN (aB (aD ?_)))
 obtain ⟨a8, D⟩ := gd D
 refine aA (lO (bT 0 cG R) (lO (bV 1 bK R R R) (lI R (bY 2 aE (show 0 < t1.Dims.length by have := a8; omega) (fun ak o21 ha => ?_)))))
 subst ha
 refine lO (cK aV bX R R a8) (lO (dL 2 cE aE R a8) (lI R (aC (aB (aD ?_)))))
 obtain ⟨ab, am, D⟩ := bd D
 refine aA (lO (bT 0 cG R) (lO (bV 1 bK R R R) (lI R (lI R (lI R (lO (cX R R) (lI R (lO (hM R R) (lI R (lO (f9 R R) (lO (cX R R) (lI R (lO (cX R R) (lM (RR kT3 (ad ak o21) D2 t1.Dims :: _ :: U) (fun w s => (s.d 2 R)) ?_))))))))))))))
 refine lC 1 wl R (Z18_ok am) R ?_
 rintro ⟨a2, ax, a3⟩
 refine lN (ow kT3 3 (.slice a2 ax a3) ab :: _ :: U) ?_
 refine aY 0 aH ?_
 rintro rfl
 refine lS R (aC (aB (aD (aD ?_))))
 obtain ⟨ba, an, D⟩ := bd D
 refine aA (lS R (lC 1 lY R (FnOk.lends (A' := [OO kT3 3 a2 a3 ab]) (A := [RR kT3 a2 a3 ab]) (B := []) (Z0c_ok an) ⟨bD, trivial⟩ (fun _ => trivial)) R ?_))
 rintro _
 refine lO (ft R) (aC (aB ?_))
 rcases bG D with ⟨a6, D⟩ | ⟨a6, D⟩
 refine aL R a6 (aD (aA (lO (vz (.agg [(.slice none 0 0), (.slice none 0 0)].toArray) (bW fF dC R R)) (aU 1 R R bO R R R R R R (aC (aB (aW (bA ?_))))))))
 obtain rfl := so D
 exact bU (vs := [(.agg [(.slice none 0 0), (.slice none 0 0)].toArray)]) (.inl R) ((none, 0, 0), (none, 0, 0)) R ⟨⟨1, b9, _, _, R, R, .inl ⟨cJ, bO, R⟩⟩, trivial⟩ R (fun w s => (((s.nilo kT3 3).nilo kT3 3).e 7 [1, 0]))
 refine aI R a6 (aN (aB (aD ?_)))
 obtain ⟨i, ao, D⟩ := bd D
 refine aA (lS R (lC 1 rp R (FnOk.lends (A' := [OO kT3 3 a2 a3 ab]) (A := [RR kT3 a2 a3 ab]) (B := []) (Z0m_ok ao) ⟨bD, trivial⟩ (fun _ => ⟨(bL fM), (bL fM), trivial⟩)) R ?_))
 rintro ⟨⟨J, ay, L⟩, ⟨F, az, G⟩⟩
 refine lN (_ :: ow kT3 3 (.slice J ay L) i.Dims :: ow kT3 3 (.slice F az G) i.Data :: _ :: U) ?_
 refine aY 1 aH ?_
 rintro rfl
 refine aY 2 aH ?_
 rintro rfl
 refine bM R R dC (fun a4 => (aU 0 R R bO R R R R R R (lN (aK a4 [(sc J i.Dims L), (sc F i.Data G)] 26 :: _ :: _ :: _ :: _ :: U) ?_)))
 refine aC (aB (aD (bS (A := ((List Int)) × (Unit)) (fun a => Zt_J1 i a.1 = some r) (fun a => [(10, (pt b9 0)), (13, (pt a4 0))]) (fun a => aK b9 [(.slice none 0 0), (.slice none 0 0)] 26 :: aK a4 [(sc J i.Dims L), (sc F i.Data G)] 26 :: OO kT3 3 J L i.Dims :: ow kT3 3 (.slice F i.Data.length G) a.1 :: U) ?_ ?_)))
 refine aD (aA (lI R (aC (aB (aM ?_)))))
 obtain ⟨e1, b4, b3⟩ := bd D
 refine bQ (A := Unit) b4 (fun s a => [(1, (iv M)), (2, (iv b)), (4, (iv m)), (5, (pt b8 0)), (10, (pt b9 0)), (13, (pt a4 0)), (14, (iv s.2))]) (fun s a => aK b9 [(.slice none 0 0), (.slice none 0 0)] 26 :: aK a4 [(sc J i.Dims L), (sc F i.Data G)] 26 :: OO kT3 3 J L i.Dims :: ow kT3 3 (.slice F i.Data.length G) s.1 :: U) () (aS R) (fun w s => (s.e 5 [4, 0, 2, 3])) ?_
 rintro ⟨a1, b5⟩ _ σ1 au D b2
 replace D : Zt_L1 t1 M b m i a1 b5 = some au := D
 unfold Zt_L1 at D
 refine aD (aD (aA (lI R (lO (bT 1 cA R) (lO (bV 4 bK R R R) (lO (bR aV R) (lO (dQ R R) (aC (aB ?_)))))))))
 rcases bG D with ⟨a7, D⟩ | ⟨a7, D⟩
 refine aL R a7 (aN (aB (aD (aM (aD ?_)))))
 obtain ⟨ac, ap, D⟩ := bd D
 refine aA (lO (bT 0 cG R) (lO (bV 4 bK R R R) (lI R (lM (RR kT3 (ad ak o21) D2 t1.Dims :: _ :: _ :: _ :: ow kT3 3 (.slice F i.Data.length G) a1 :: U) (fun w s => (s.d 5 R)) ?_))))
 refine lC 1 pl R (Zh_ok ap) R ?_
 rintro ⟨aw, b0, ag⟩
 refine lN (ow kT3 3 (.slice aw b0 ag) ac :: _ :: _ :: _ :: _ :: U) ?_
 refine aY 0 aH ?_
 rintro rfl
 refine lS R (aC (aB ?_))
 obtain ⟨a9, D⟩ := gd D
 obtain ⟨ai, aq, D⟩ := bd D
 obtain ⟨aa, D⟩ := gd D
 obtain ⟨b6, ar, D⟩ := bd D
 refine bZ 0 aH (show 0 < ac.length by have := a9; omega) (fun aj o56 ha => ?_)
 subst ha
 refine bZ 7 aE (show 0 < t1.Data.length by have := aa; omega) (fun b7 o62 ha => ?_)
 subst ha
 refine eI 19 [4] cF (fun ht hn => (dR 0 R (vz (.agg [(sc J i.Dims L), (sc F i.Data G)].toArray) (bF 2 cJ bO R R R R)) (hS := (sL [4])) (dR 1 R (vS R) (hS := (sL [4])) (dR 2 R (vI R) (hS := (sL [4])) (dR 3 R (vI R) (hS := (sL [4])) (dR 4 R (vS R) (hS := (sL [4])) (dR 5 R (vI R) (hS := (sL [4])) (dR 6 R (cK aV bX R R a9) (hS := (sL [4])) (dR 7 R (dL 0 cE aH R a9) (hS := (sL [4])) (dR 8 R (vI R) (hS := (sL [4])) (dR 9 R (cX R R) (hS := (sL [4])) (dR 10 R (f9 R R) (hS := (sL [4])) (dR 11 R (cX R R) (hS := (sL [4])) (dR 13 R (bT 1 cA R) (hS := (sL [4])) (dR 14 R (bV 4 bK R R R) (hS := (sL [4])) (dR 15 R (vI R) (hS := (sL [4])) (dR 16 R (cK aV bX R R aa) (hS := (sL [4])) (dR 17 R (dL 6 cE aE R aa) (hS := (sL [4])) (d1 12 R (lC 1 wl R (FnOk.lends (A' := [OO kT3 3 (ad aj o56) ag ac]) (A := [RR kT3 (ad aj o56) ag ac]) (B := []) (Z18_ok aq) ⟨bD, trivial⟩ (fun _ => ⟨(bL fM), trivial⟩)) R ?_))))))))))))))))))))
 rintro ⟨ae, b1, ah⟩
 refine lN (OO kT3 3 (ad aj o56) ag ac :: ow kT3 3 (.slice ae b1 ah) ai :: _ :: _ :: _ :: _ :: U) ?_
 refine aY 1 aH ?_
 rintro rfl
 refine aC (aP (sL [5, 1]) (d1 18 R (lM (ow _ _ _ _ :: ow _ _ _ _ :: ow _ _ _ _ :: ow _ _ _ _ :: aK _ _ _ :: aK _ _ _ :: U) (fun w s => (s.e 6 [4, 1, 5, 0, 2, 3])) ?_)))
 refine lC 3 xz R (FnOk.lends (A' := [OO kT3 3 J L i.Dims, OO kT3 3 ae ah ai]) (A := [RR kT3 J L i.Dims, RR kT3 ae ah ai]) (B := [ow kT3 3 (.slice F i.Data.length G) a1]) (FnOk.perm (Z1l_ok (t1 := (⟨i.Dims, a1⟩ : Tensor)) ar) (Pre' := [RR kT3 J L i.Dims, RR kT3 ae ah ai, ow kT3 3 (.slice F i.Data.length G) a1]) (fun _ _ _ s => (s.e 3 [0, 2, 1]))) ⟨bD, bD, trivial⟩ (fun _ => ⟨(bL fM), trivial⟩)) R ?_
 rintro _
 refine lN (_ :: _ :: ow kT3 3 (.slice F i.Data.length G) b6 :: _ :: _ :: _ :: U) ?_
 refine aC (aP (fun w s => (s.e 6 [3, 4, 5, 0])) (dD (aZ (aB (aA (lI R (lO (cX R R) (lI R (aC ?_)))))))))
 obtain rfl := so D
 exact qA () (fun w s => (s.e 6 [4, 5, 0, 2]))
 refine aI R a7 (bP (aR ?_))
 obtain rfl := so D
 obtain rfl := b2 _ R
 have D := b3
 refine aR (bE ?_)
 exact qI (a1, ()) D (fun w s => s)
 rintro ⟨av, _⟩ σ1 D
 replace D : Zt_J1 i av = some r := D
 unfold Zt_J1 at D
 refine aD (aA (lO (vz (.agg [(sc J i.Dims L), (sc F i.Data G)].toArray) (bF 1 cJ bO R R R R)) (aU 0 R R bO R R R R R R (lN (aK b9 [(sc J i.Dims L), (sc F i.Data G)] 26 :: _ :: _ :: ow kT3 3 (.slice F i.Data.length G) av :: U) ?_))))
 refine aC (aB (aW ?_))
 obtain rfl := so D
 exact bU (vs := [(.agg [(sc J i.Dims L), (sc F i.Data G)].toArray)]) (.inl R) ((J, i.Dims.length, L), (F, i.Data.length, G)) R ⟨⟨0, b9, _, _, R, R, .inl ⟨cJ, bO, R⟩⟩, trivial⟩ R (fun w s => (s.e 7 [2, 3]))
theorem Zu_ok  {v1 : View} {r : View} (b : Zu v1 = some r) :
 FnOk Tryz.prog 84 [(.agg [(.slice A2 N2 D2), (.slice A3 N3 D3), (iv v1.Offset), (iv v1.Base)].toArray)] [aQ kT3 (.slice A2 N2 D2) v1.Dims, ow kT3 3 (.slice A3 N3 D3) v1.Strides] (fun (h : HH × HH) => ((.agg [(.slice h.1.1 h.1.2.1 h.1.2.2), (.slice h.2.1 h.2.2.1 h.2.2.2), (iv r.Offset), (iv r.Base)].toArray), [aQ kT3 (.slice h.1.1 h.1.2.1 h.1.2.2) r.Dims, ow kT3 3 (.slice h.2.1 h.2.2.1 h.2.2.2) r.Strides])) := by
 unfold Zu at b
 refine bN Tryz.func84 R 22 R R fun C V => ?_
 refine cM (ow _ _ _ _ :: aQ _ _ _ :: V) (fun w s => (s.e 2 [1, 0])) ?_
 refine cL 0 aH ?_
 rintro rfl
 refine cL 1 aE ?_
 rintro rfl
 let M : List HP := RR kT3 A2 D2 v1.Dims :: V
 refine cN (_ :: M) ?_
 refine aD (aA (gz R (fun L => (bM R R fH (fun E => (aC (qM (aK _ _ _ :: ow _ _ _ _ :: aK _ _ _ :: M) (fun w s => (s.e 3 [0, 2, 1])) ?_)))))))
 let F : List HP := aK L [(sc A2 v1.Dims D2), (sc A3 v1.Strides D3), (iv v1.Offset), (iv v1.Base)] 35 :: M
 refine qN (_ :: _ :: F) ?_
 refine aB (aD (bS (A := ((List Int)) × (Unit)) (fun a => Zu_J3 v1 a.1 = some r) (fun a => [(1, (pt L 0)), (2, (pt E 0))]) (fun a => aK E [(.slice none 0 0), (.slice none 0 0), (iv 0), (iv 0)] 35 :: ow kT3 3 (.slice A3 v1.Strides.length D3) a.1 :: F) ?_ ?_))
 refine aD (aA (lI R (aC (aB (aM ?_)))))
 obtain ⟨e1, a1, a0⟩ := bd b
 refine bQ (A := Unit) a1 (fun s a => [(1, (pt L 0)), (2, (pt E 0)), (3, (iv s.1))]) (fun s a => aK E [(.slice none 0 0), (.slice none 0 0), (iv 0), (iv 0)] 35 :: ow kT3 3 (.slice A3 v1.Strides.length D3) s.2 :: F) () (aS R) (fun w s => s) ?_
 rintro ⟨g, j⟩ _ σ1 D b U
 replace b : Zu_L1 v1 g j = some D := b
 unfold Zu_L1 at b
 refine aD (aD (aA (lI R (lO (bT 0 dH R) (lO (bV 2 bK R R R) (lO (bR aV R) (lO (dQ R R) (aC (aB ?_)))))))))
 rcases bG b with ⟨m, b⟩ | ⟨m, b⟩
 refine aL R m (aN (aB (aD (bS (A := ((List Int)) × (Unit)) (fun a => Zu_J2 g a.1 = some D) (fun a => [(1, (pt L 0)), (2, (pt E 0)), (3, (iv g))]) (fun a => aK E [(.slice none 0 0), (.slice none 0 0), (iv 0), (iv 0)] 35 :: ow kT3 3 (.slice A3 v1.Strides.length D3) a.1 :: F) ?_ ?_))))
 refine aM (aD ?_)
 obtain ⟨u, b⟩ := gd b
 refine aA (lO (bT 0 dH R) (lO (bV 2 bK R R R) (lI R (bY 3 aE (show 0 < v1.Dims.length by have := u; omega) (fun a3 o20 T => ?_)))))
 subst T
 refine lO (cK aV bX R R u) (lO (dL 3 cE aE R u) (lO (ji R R) (aC (aB ?_))))
 rcases bG b with ⟨q, b⟩ | ⟨q, b⟩
 refine aL R q ?_
 obtain ⟨i, b⟩ := gd b
 refine aA (lO (bT 1 eJ R) (lO (bV 2 bK R R R) (lI R (bY 1 aH (show 0 < v1.Strides.length by have := i; omega) (fun G o24 T => ?_)))))
 subst T
 refine lO (cK aV bX R R i) (lM (ow kT3 3 (.slice (ad G o24) v1.Strides.length D3) j :: aK _ _ _ :: F) (fun w s => (s.e 2 [1, 0])) ?_)
 refine eG (K := kT3) (x' := (0 : Int)) 0 g R R bX R R i.1 i.2 ?_ ?_
 exact fun I h s => (fw).put I h () (0 : Int) s
 refine lN (ow kT3 3 (.slice (ad G o24) v1.Strides.length D3) (j.set g.toNat (0 : Int)) :: _ :: F) ?_
 refine aC (aZ ?_)
 exact qI ((j.set g.toNat (0 : Int)), ()) b (fun w s => (s.e 2 [1, 0]))
 refine aI R q (aN (aZ ?_))
 exact qI (j, ()) b (fun w s => s)
 rintro ⟨a2, _⟩ σ1 b
 replace b : Zu_J2 g a2 = some D := b
 unfold Zu_J2 at b
 refine aA (lI R (lO (cX R R) (lI R (aC ?_))))
 obtain rfl := so b
 exact qA () (fun w s => s)
 refine aI R m (bP (aR ?_))
 obtain rfl := so b
 obtain rfl := U _ R
 have b := a0
 refine aR (bE ?_)
 exact qI (j, ()) b (fun w s => s)
 rintro ⟨J, _⟩ σ1 b
 replace b : Zu_J3 v1 J = some r := b
 unfold Zu_J3 at b
 refine aD (aA (lO (vz (.agg [(sc A2 v1.Dims D2), (sc A3 v1.Strides D3), (iv v1.Offset), (iv v1.Base)].toArray) (bF 2 fc dZ R R R R)) (aU 0 R R dZ R R R R R R (lN (aK E [(sc A2 v1.Dims D2), (sc A3 v1.Strides D3), (iv v1.Offset), (iv v1.Base)] 35 :: ow kT3 3 (.slice A3 v1.Strides.length D3) J :: F) ?_))))
 refine aC (aB (aW ?_))
 obtain rfl := so b
 exact bU (vs := [(.agg [(sc A2 v1.Dims D2), (sc A3 v1.Strides D3), (iv v1.Offset), (iv v1.Base)].toArray)]) (.inl R) ((A2, v1.Dims.length, D2), (A3, v1.Strides.length, D3)) R ⟨⟨0, E, _, _, R, R, .inl ⟨fc, dZ, R⟩⟩, trivial⟩ R (fun w s => (s.e 4 [3, 1]))
theorem Z01_ok  {b : (List Int)} {r : View} (g : Z01 b = some r) :
 FnOk Tryz.prog 20 [(.slice A2 N2 D2)] [aQ kT3 (.slice A2 N2 D2) b] (fun (h : HH × HH) => ((.agg [(.slice h.1.1 h.1.2.1 h.1.2.2), (.slice h.2.1 h.2.2.1 h.2.2.2), (iv r.Offset), (iv r.Base)].toArray), [aQ kT3 (.slice h.1.1 h.1.2.1 h.1.2.2) r.Dims, ow kT3 3 (.slice h.2.1 h.2.2.1 h.2.2.2) r.Strides])) := by
 unfold Z01 at g
 refine bN Tryz.func20 R 32 R R fun C V => ?_
 refine cN (_ :: V) ?_
 refine cL 0 aE ?_
 rintro rfl
 let m : List HP := RR kT3 A2 D2 b :: V
 refine cN m ?_
 refine aD (aA (bM R R fH (fun b3 => (aC (aB (aD (aD ?_)))))))
 obtain ⟨r4, aq, g⟩ := bd g
 refine aA (lS R (lM (RR kT3 A2 D2 b :: _ :: m) (fun w s => (s.d 1 R)) ?_))
 refine lC 1 lY R (Z0c_ok aq) R ?_
 rintro _
 refine lN (_ :: m) ?_
 refine lO (ft R) (aC (aB ?_))
 rcases bG g with ⟨a7, g⟩ | ⟨a7, g⟩
 refine aL R a7 (aD (aA (lO (vz (.agg [(.slice none 0 0), (.slice none 0 0), (iv 0), (iv 0)].toArray) (bW jl fH R R)) (aU 0 R R dZ R R R R R R (aC (aB (aW (bA ?_))))))))
 obtain rfl := so g
 exact bU (vs := [(.agg [(.slice none 0 0), (.slice none 0 0), (iv 0), (iv 0)].toArray)]) (.inl R) ((none, 0, 0), (none, 0, 0)) R ⟨⟨0, b3, _, _, R, R, .inl ⟨fc, dZ, R⟩⟩, trivial⟩ R (fun w s => (((s.nilr kT3).nilo kT3 3).e 4 [1, 0]))
 refine aI R a7 (aN (aB (aD ?_)))
 obtain ⟨D, ar, g⟩ := bd g
 obtain ⟨j, ab, g⟩ := bd g
 refine aA (lS R (lM (RR kT3 A2 D2 b :: _ :: m) (fun w s => (s.d 1 R)) ?_))
 refine lC 1 oa R (Z0k_ok ar) R ?_
 rintro ⟨A9, N9, D9⟩
 refine lN (ow kT3 3 (.slice A9 N9 D9) D :: _ :: m) ?_
 refine aY 0 aH ?_
 rintro rfl
 refine lS R (lM (RR kT3 A2 D2 b :: _ :: _ :: m) (fun w s => (s.d 2 R)) ?_)
 refine lC 1 mF R (Zj_ok ab) R ?_
 rintro _
 refine lN (_ :: _ :: m) ?_
 refine lO (vz (.agg [(sc A9 D D9), (.slice none 0 0), (iv 0), (iv j)].toArray) (bW jl fH R R)) (bM R R fH (fun u => (aU 0 R R dZ R R R R R R (lN (aK u [(sc A9 D D9), (.slice none 0 0), (iv 0), (iv j)] 35 :: _ :: _ :: m) ?_))))
 refine aC (aB (aD (bS (A := ((List Int)) × (HH)) (fun a => Z01_J1 D j a.1 = some r) (fun a => [(2, (pt b3 0)), (3, (pt u 0))]) (fun a => aK b3 [(.slice none 0 0), (.slice none 0 0), (iv 0), (iv 0)] 35 :: aK u [(sc A9 D D9), (.slice a.2.1 a.2.2.1 a.2.2.2), (iv 0), (iv j)] 35 :: OO kT3 3 A9 D9 D :: ow kT3 3 (.slice a.2.1 a.2.2.1 a.2.2.2) a.1 :: m) ?_ ?_)))
 refine aD (aA (lI R (aC (aB (aM ?_)))))
 obtain ⟨e1, ap, ao⟩ := bd g
 refine bQ (A := HH) ap (fun s a => [(0, (sc A2 b D2)), (2, (pt b3 0)), (3, (pt u 0)), (4, (iv s.2))]) (fun s a => aK b3 [(.slice none 0 0), (.slice none 0 0), (iv 0), (iv 0)] 35 :: aK u [(sc A9 D D9), (.slice a.1 a.2.1 a.2.2), (iv 0), (iv j)] 35 :: OO kT3 3 A9 D9 D :: ow kT3 3 (.slice a.1 a.2.1 a.2.2) s.1 :: m) (none, 0, 0) (aS R) (fun w s => ((s.nilo kT3 3).e 4 [3, 1, 2, 0])) ?_
 rintro ⟨q, a0⟩ ⟨a1, aj, a4⟩ σ1 ag g an
 replace g : Z01_L1 b q a0 = some ag := g
 unfold Z01_L1 at g
 refine cD 3 aH (fun (hn : aj = q.length) => ?_)
 subst hn
 refine aD (aD (aA (lI R (lS R (lO (bR aV R) (lO (dQ R R) (aC (aB ?_))))))))
 rcases bG g with ⟨G, g⟩ | ⟨G, g⟩
 refine aL R G (aN (aB (aD (aM ?_))))
 obtain ⟨J, g⟩ := gd g
 obtain ⟨E, ac, g⟩ := bd g
 obtain ⟨aa, g⟩ := gd g
 refine eI 8 [] cF (fun ht hn => (dR 0 R (bT 1 eJ R) (dR 1 R (bV 1 bK R R R) (dR 2 R (vS R) (dR 3 R (vI R) (dR 4 R (cX R R) (d1 5 R (gM (K := kT3) (aG (a0 + (1 : Int))) (b.length : Int) 4 R R aV bX R R R R J.1 J.2.1 J.2.2 (fun a8 a9 => (aC (aP (sL [0]) (d1 6 R (lM (RR kT3 a8 a9 (sub b (aG (a0 + (1 : Int))) (b.length : Int)) :: RR kT3 a8 a9 (sub b (aG (a0 + (1 : Int))) (b.length : Int)) :: _ :: aK u [(sc A9 D D9), (sc a1 q a4), (iv 0), (iv j)] 35 :: _ :: OO kT3 3 a1 a4 q :: m) (fun w s => (s.d 0 R)) ?_)))))))))))))
 refine lC 1 mF R (Zj_ok ac) R ?_
 rintro _
 refine lN (_ :: _ :: _ :: _ :: _ :: m) ?_
 refine aC (aP (sL [0]) (d1 7 R (cC (K := kT3) (xs := ([E] : List Int)) (vs := [(iv E)]) 0 R R aV bX fj R R R R R R ?_ R (fun ah ai => ?_))))
 exact fun I h s => (fw).list [((), E)] I h s
 refine lN (OO kT3 3 ah ai ([E] : List Int) :: _ :: _ :: _ :: _ :: _ :: m) ?_
 refine aC (aP (sL [1, 0]) (d1 8 R (lM (ow _ _ _ _ :: ow _ _ _ _ :: aQ _ _ _ :: aK _ _ _ :: aK _ _ _ :: ow _ _ _ _ :: m) (fun w s => (s.f 6 [5, 1, 0, 5])) ?_)))
 refine f6 (K := kT3) 17592186044416 R R aV bX ii (Zr.zk zT3 fj) R R R R R R eM aa (fun a2 a5 => (lN (OO kT3 3 a2 a5 (q ++ ([E] : List Int)) :: _ :: _ :: _ :: _ :: m) ?_))
 refine aC (qE (d1 9 R (lO (bT 1 eJ R) (aC (qE (d1 10 R (dP 3 R R fk R R R R R (lN (_ :: _ :: _ :: aK u [(sc A9 D D9), (sc a2 (q ++ ([E] : List Int)) a5), (iv 0), (iv j)] 35 :: _ :: m) ?_))))))))
 refine aC (qE (dD (aZ (aB (aA (lI R (lO (cX R R) (lI R (aC ?_)))))))))
 obtain rfl := so g
 exact qA (a2, (q ++ ([E] : List Int)).length, a5) (fun w s => (s.e 5 [2, 3, 4, 0]))
 refine aI R G (bP (aR ?_))
 obtain rfl := so g
 obtain rfl := an _ R
 have g := ao
 refine aR (bE ?_)
 exact qI (q, (a1, q.length, a4)) g (fun w s => s)
 rintro ⟨F, ⟨a3, ak, a6⟩⟩ σ1 g
 replace g : Z01_J1 D j F = some r := g
 unfold Z01_J1 at g
 refine cD 3 aH (fun (hn : ak = F.length) => ?_)
 subst hn
 refine aD ?_
 obtain ⟨i, ae, g⟩ := bd g
 refine aA (lO (vz (.agg [(sc A9 D D9), (sc a3 F a6), (iv 0), (iv j)].toArray) (bF 1 fc dZ R R R R)) (ie (fun w s => s.shr 2 R) (lM (RR kT3 A9 D9 D :: OO kT3 3 a3 a6 F :: RR kT3 A9 D9 D :: aK _ _ _ :: aK u [(sc A9 D D9), (sc a3 F a6), (iv 0), (iv j)] 35 :: m) (fun w s => ((s.d 0 R).e 5 [0, 4, 1, 2, 3])) ?_)))
 refine lC 2 xA R (Zu_ok (v1 := (⟨D, F, (0 : Int), j⟩ : View)) ae) R ?_
 rintro ⟨⟨L, al, T⟩, ⟨M, am, U⟩⟩
 refine lN (aQ kT3 (.slice L al T) i.Dims :: ow kT3 3 (.slice M am U) i.Strides :: _ :: _ :: _ :: m) ?_
 refine aY 0 aE ?_
 rintro rfl
 refine aY 1 aH ?_
 rintro rfl
 refine aU 3 R R dZ R R R R R R (lN (_ :: _ :: _ :: aK b3 [(sc L i.Dims T), (sc M i.Strides U), (iv i.Offset), (iv i.Base)] 35 :: _ :: m) ?_)
 refine aC (aB (aW ?_))
 obtain rfl := so g
 exact bU (vs := [(.agg [(sc L i.Dims T), (sc M i.Strides U), (iv i.Offset), (iv i.Base)].toArray)]) (.inl R) ((L, i.Dims.length, T), (M, i.Strides.length, U)) R ⟨⟨3, b3, _, _, R, R, .inl ⟨fc, dZ, R⟩⟩, trivial⟩ R (fun w s => (s.e 6 [0, 1]))
theorem Z0d_ok  {v1 : View} {b : (List Int)} {r : Int} (g : Z0d v1 b = some r) :
 FnOk Tryz.prog 129 [(.agg [(.slice A2 N2 D2), (.slice A3 N3 D3), (iv v1.Offset), (iv v1.Base)].toArray), (.slice A5 N5 D5)] [aQ kT3 (.slice A2 N2 D2) v1.Dims, aQ kT3 (.slice A3 N3 D3) v1.Strides, aQ kT3 (.slice A5 N5 D5) b] (fun (h : Unit) => ((iv r), [])) := by
 unfold Z0d at g
 refine bN Tryz.func129 R 28 R R fun C V => ?_
 refine cN (_ :: _ :: _ :: V) ?_
 refine cL 0 aE ?_
 rintro rfl
 refine cL 1 aE ?_
 rintro rfl
 refine cL 2 aE ?_
 rintro rfl
 let M : List HP := RR kT3 A2 D2 v1.Dims :: RR kT3 A3 D3 v1.Strides :: RR kT3 A5 D5 b :: V
 refine cN M ?_
 refine aD (aA (gz R (fun T => (lI R (aC ?_)))))
 let D : List HP := aK T [(sc A2 v1.Dims D2), (sc A3 v1.Strides D3), (iv v1.Offset), (iv v1.Base)] 35 :: M
 refine qN D ?_
 refine aB (aD (aA (lO (bT 2 fY R) (lO (bV 0 cE R R R) (lI R (aC (aB (aD (bS (A := (Int) × (Unit)) (fun a => Z0d_J1 a.1 = some r) (fun a => [(5, (iv a.1))]) (fun a => D) ?_ ?_)))))))))
 refine aD (aA (lI R (aC (aB (aM ?_)))))
 obtain ⟨e1, I, G⟩ := bd g
 refine bQ (A := Unit) I (fun s a => [(1, (sc A5 b D5)), (2, (pt T 0)), (5, (iv s.1)), (6, (iv s.2))]) (fun s a => D) () (aS R) (fun w s => s) ?_
 rintro ⟨u, J⟩ _ σ1 q g F
 replace g : Z0d_L1 v1 b u J = some q := g
 unfold Z0d_L1 at g
 refine aD (aD (aA (lI R (lS R (lO (bR aV R) (lO (dQ R R) (aC (aB ?_))))))))
 rcases bG g with ⟨i, g⟩ | ⟨i, g⟩
 refine aL R i (aN (aB (aD (aM ?_))))
 obtain ⟨j, g⟩ := gd g
 obtain ⟨m, g⟩ := gd g
 refine bZ 3 aE (show 0 < b.length by have := j; omega) (fun U o19 E => ?_)
 subst E
 refine bZ 2 aE (show 0 < v1.Strides.length by have := m; omega) (fun a0 o22 E => ?_)
 subst E
 refine eI 13 [] cF (fun ht hn => (dR 0 R (vI R) (dR 1 R (vS R) (dR 2 R (vI R) (dR 3 R (cK aV bX R R j) (dR 4 R (dL 3 cE aE R j) (dR 5 R (bT 1 eJ R) (dR 6 R (bV 0 bK R R R) (dR 7 R (vI R) (dR 8 R (cK aV bX R R m) (dR 9 R (dL 2 cE aE R m) (dR 10 R (f9 R R) (dR 11 R (cX R R) (dR 12 R (vI R) (dD (aZ (aB (aA (lI R (lO (cX R R) (lI R (aC ?_))))))))))))))))))))))
 obtain rfl := so g
 exact qA () (fun w s => s)
 refine aI R i (bP (aR ?_))
 obtain rfl := so g
 obtain rfl := F _ R
 have g := G
 refine aR (bE ?_)
 exact qI (u, ()) g (fun w s => s)
 rintro ⟨L, _⟩ σ1 g
 replace g : Z0d_J1 L = some r := g
 unfold Z0d_J1 at g
 refine aD (aA (lI R (lI R (aC (aB (aW ?_))))))
 obtain rfl := so g
 exact qF () (fun w s => (s.e 4 []))
theorem Z06_ok  {v1 : View} {r : (List Int)} (b : Z06 v1 = some r) :
 FnOk Tryz.prog 80 [(.agg [(.slice A2 N2 D2), (.slice A3 N3 D3), (iv v1.Offset), (iv v1.Base)].toArray)] [aQ kT3 (.slice A2 N2 D2) v1.Dims, aQ kT3 (.slice A3 N3 D3) v1.Strides] (fun (h : HH) => ((.slice h.1 h.2.1 h.2.2), [ow kT3 3 (.slice h.1 h.2.1 h.2.2) r])) := by
 unfold Z06 at b
 refine bN Tryz.func80 R 25 R R fun C V => ?_
 refine cN (_ :: _ :: V) ?_
 refine cL 0 aE ?_
 rintro rfl
 refine cL 1 aE ?_
 rintro rfl
 let W0 : List HP := RR kT3 A2 D2 v1.Dims :: RR kT3 A3 D3 v1.Strides :: V
 refine cN W0 ?_
 refine aD (aA (gz R (fun b4 => (lS R (aC ?_)))))
 let i : List HP := aK b4 [(sc A2 v1.Dims D2), (sc A3 v1.Strides D3), (iv v1.Offset), (iv v1.Base)] 35 :: W0
 refine qN i ?_
 refine aB (aD (aA (cC (K := kT3) (xs := ([] : List Int)) (vs := []) 0 R R aV bX fj R R R R R R ?_ R (fun A5 D5 => ?_))))
 exact fun I h s => (fw).list [] I h s
 refine lN (OO kT3 3 A5 D5 ([] : List Int) :: i) ?_
 refine lS R (aC (aB (aD ?_)))
 obtain ⟨r6, ab, b⟩ := bd b
 refine aA (lO (bT 0 dH R) (lO (bV 1 bK R R R) (lM (RR kT3 A2 D2 v1.Dims :: _ :: i) (fun w s => (s.d 2 R)) ?_)))
 refine lC 1 mF R (Zj_ok ab) R ?_
 rintro _
 refine lN (_ :: i) ?_
 refine lI R (aC (aB (aD (bS (A := ((List Int)) × (HH)) (fun a => Z06_J1 a.1 = some r) (fun a => [(3, (.slice a.2.1 a.2.2.1 a.2.2.2))]) (fun a => ow kT3 3 (.slice a.2.1 a.2.2.1 a.2.2.2) a.1 :: i) ?_ ?_))))
 refine aD (aA (lI R (aC (aB (aM ?_)))))
 obtain ⟨e1, aa, a9⟩ := bd b
 refine bQ (A := HH) aa (fun s a => [(1, (pt b4 0)), (3, (.slice a.1 a.2.1 a.2.2)), (4, (iv r6)), (5, (iv s.2))]) (fun s a => ow kT3 3 (.slice a.1 a.2.1 a.2.2) s.1 :: i) (A5, ([] : List Int).length, D5) (aS R) (fun w s => s) ?_
 rintro ⟨g, ac⟩ ⟨F, a5, J⟩ σ1 a0 b a8
 replace b : Z06_L1 v1 r6 g ac = some a0 := b
 unfold Z06_L1 at b
 refine cD 0 aH (fun (hn : a5 = g.length) => ?_)
 subst hn
 refine aD (aD (aA (lI R (lI R (lO (dQ R R) (aC (aB ?_)))))))
 rcases bG b with ⟨m, b⟩ | ⟨m, b⟩
 refine aL R m (aN (aB (aD (aM ?_))))
 obtain ⟨D, T, b⟩ := bd b
 obtain ⟨j, U, b⟩ := bd b
 obtain ⟨M, b⟩ := gd b
 refine eI 10 [0] cF (fun ht hn => (dR 0 R (vS R) (hS := (sL [0])) (dR 1 R (vz (.agg [(sc A2 v1.Dims D2), (sc A3 v1.Strides D3), (iv v1.Offset), (iv v1.Base)].toArray) (bF 0 fc dZ R R R R)) (hS := (sL [0])) (dR 2 R (bT 0 dH R) (hS := (sL [0])) (dR 3 R (bV 0 bK R R R) (hS := (sL [0])) (dR 4 R (vI R) (hS := (sL [0])) (d1 5 R (lM (RR kT3 A2 D2 v1.Dims :: OO kT3 3 F J g :: i) (fun w s => (s.d 2 R)) ?_))))))))
 refine lC 1 pl R (Zh_ok T) R ?_
 rintro ⟨q, a6, u⟩
 refine lN (ow kT3 3 (.slice q a6 u) D :: _ :: i) ?_
 refine aY 0 aH ?_
 rintro rfl
 refine aC (aP (sL [1, 0]) (d1 6 R (lM (ow _ _ _ _ :: RR kT3 A2 D2 v1.Dims :: RR kT3 A3 D3 v1.Strides :: ow _ _ _ _ :: i) (fun w s => (((s.d 3 R).d 5 R).e 4 [2, 1, 0, 3])) ?_)))
 refine lC 3 wn R (FnOk.lends (A' := [OO kT3 3 q u D]) (A := [RR kT3 q u D]) (B := [RR kT3 A2 D2 v1.Dims, RR kT3 A3 D3 v1.Strides]) (FnOk.perm (Z0d_ok U) (Pre' := [RR kT3 q u D, RR kT3 A2 D2 v1.Dims, RR kT3 A3 D3 v1.Strides]) (fun _ _ _ s => (s.e 3 [1, 2, 0]))) ⟨bD, trivial⟩ (fun _ => trivial)) R ?_
 rintro _
 refine lN (_ :: _ :: i) ?_
 refine aC (aP (sL [1, 0]) (d1 7 R (cC (K := kT3) (xs := ([j] : List Int)) (vs := [(iv j)]) 0 R R aV bX fj R R R R R R ?_ R (fun a1 a3 => ?_))))
 exact fun I h s => (fw).list [((), j)] I h s
 refine lN (OO kT3 3 a1 a3 ([j] : List Int) :: _ :: _ :: i) ?_
 refine aC (aP (sL [2, 1, 0]) (d1 8 R (lM (ow _ _ _ _ :: ow _ _ _ _ :: ow _ _ _ _ :: i) (fun w s => (s.e 3 [2, 0, 1])) ?_)))
 refine f6 (K := kT3) 17592186044416 R R aV bX ii (Zr.zk zT3 fj) R R R R R R eM M (fun G L => (lN (OO kT3 3 G L (g ++ ([j] : List Int)) :: _ :: i) ?_))
 refine aC (aP (sL [1, 0]) (dR 9 R (vS R) (hS := (sL [1, 0])) (dD (aZ (aB (aA (lI R (lO (cX R R) (lI R (aC ?_))))))))))
 obtain rfl := so b
 exact qA (G, (g ++ ([j] : List Int)).length, L) (fun w s => (s.e 2 [0]))
 refine aI R m (bP (aR ?_))
 obtain rfl := so b
 obtain rfl := a8 _ R
 have b := a9
 refine aR (bE ?_)
 exact qI (g, (F, g.length, J)) b (fun w s => s)
 rintro ⟨E, ⟨a2, a7, a4⟩⟩ σ1 b
 replace b : Z06_J1 E = some r := b
 unfold Z06_J1 at b
 refine cD 0 aH (fun (hn : a7 = E.length) => ?_)
 subst hn
 refine aD (aA (lS R (lS R (aC (aB (aW ?_))))))
 obtain rfl := so b
 exact qF (a2, E.length, a4) (fun w s => (s.e 4 [0]))
theorem Zc_ok  {v1 : View} {r : Bool} (g : Zc v1 = some r) :
 FnOk Tryz.prog 78 [(.agg [(.slice A2 N2 D2), (.slice A3 N3 D3), (iv v1.Offset), (iv v1.Base)].toArray)] [aQ kT3 (.slice A2 N2 D2) v1.Dims, aQ kT3 (.slice A3 N3 D3) v1.Strides] (fun (h : Unit) => ((.bool r), [])) := by
 unfold Zc at g
 refine bN Tryz.func78 R 84 R R fun C V => ?_
 refine cN (_ :: _ :: V) ?_
 refine cL 0 aE ?_
 rintro rfl
 refine cL 1 aE ?_
 rintro rfl
 let W0 : List HP := RR kT3 A2 D2 v1.Dims :: RR kT3 A3 D3 v1.Strides :: V
 refine cN W0 ?_
 refine aD (aA (gz R (fun b4 => (lB R (aC ?_)))))
 let L : List HP := aK b4 [(sc A2 v1.Dims D2), (sc A3 v1.Strides D3), (iv v1.Offset), (iv v1.Base)] 35 :: W0
 refine qN L ?_
 refine aB (aD (aD ?_))
 obtain ⟨r5, ah, g⟩ := bd g
 refine cQ [(1, (pt b4 0)), (40, (.bool ((((((!r5) || ((v1.Strides.length : Int) != (v1.Dims.length : Int))) || (decide (v1.Base < (1 : Int)))) || (decide (v1.Base > (4096 : Int)))) || (decide (v1.Offset < (0 : Int)))) || (decide (v1.Offset ≥ v1.Base)))))] (L) ?_ ?_
 refine aA (lO (bT 0 dH R) (lO (bV 0 bK R R R) (lM (RR kT3 A2 D2 v1.Dims :: L) (fun w s => (s.d 1 R)) ?_)))
 refine lC 1 lY R (Z0c_ok ah) R ?_
 rintro _
 refine lN L ?_
 refine lO (ft R) (lB R ?_)
 rcases bo (!r5) with b | b
 refine lf (aT b) (lf (aT b) (lf (aT b) (lf (aT b) (lf (aT b) (lf (aT b) (lf (aT b) (lO (cW ((v1.Strides.length : Int) != (v1.Dims.length : Int)) R b) (lB R (lf (aT (oT b)) (lf (aT (oT b)) (lf (aT (oT b)) (lO (cW (decide (v1.Base < (1 : Int))) R (oT b)) (lB R (lf (aT (oT (oT b))) (lf (aT (oT (oT b))) (lf (aT (oT (oT b))) (lO (cW (decide (v1.Base > (4096 : Int))) R (oT (oT b))) (lB R (lf (aT (oT (oT (oT b)))) (lf (aT (oT (oT (oT b)))) (lf (aT (oT (oT (oT b)))) (lO (cW (decide (v1.Offset < (0 : Int))) R (oT (oT (oT b)))) (lB R (lf (aT (oT (oT (oT (oT b))))) (lf (aT (oT (oT (oT (oT b))))) (lf (aT (oT (oT (oT (oT b))))) (lf (aT (oT (oT (oT (oT b))))) (lf (aT (oT (oT (oT (oT b))))) (lO (cW (decide (v1.Offset ≥ v1.Base)) R (oT (oT (oT (oT b))))) (aC ?_))))))))))))))))))))))))))))))
 exact qJ (fun w s => s)
 refine lW (bI b) (bT 1 eJ R) (lW (bI b) (bV 0 bK R R R) (lW (bI b) (bR aV R) (lW (bI b) (bT 0 dH R) (lW (bI b) (bV 0 bK R R R) (lW (bI b) (bR aV R) (lW (bI b) (ig R R) (lO (eS R b R) (lB R ?_))))))))
 rcases bo ((!r5) || ((v1.Strides.length : Int) != (v1.Dims.length : Int))) with q | q
 refine lf (aT q) (lf (aT q) (lf (aT q) (lO (cW (decide (v1.Base < (1 : Int))) R q) (lB R (lf (aT (oT q)) (lf (aT (oT q)) (lf (aT (oT q)) (lO (cW (decide (v1.Base > (4096 : Int))) R (oT q)) (lB R (lf (aT (oT (oT q))) (lf (aT (oT (oT q))) (lf (aT (oT (oT q))) (lO (cW (decide (v1.Offset < (0 : Int))) R (oT (oT q))) (lB R (lf (aT (oT (oT (oT q)))) (lf (aT (oT (oT (oT q)))) (lf (aT (oT (oT (oT q)))) (lf (aT (oT (oT (oT q)))) (lf (aT (oT (oT (oT q)))) (lO (cW (decide (v1.Offset ≥ v1.Base)) R (oT (oT (oT q)))) (aC ?_)))))))))))))))))))))
 exact qJ (fun w s => s)
 refine lW (bI q) (bT 3 fI R) (lW (bI q) (bV 0 cE R R R) (lW (bI q) (dQ R R) (lO (eS R q R) (lB R ?_))))
 rcases bo (((!r5) || ((v1.Strides.length : Int) != (v1.Dims.length : Int))) || (decide (v1.Base < (1 : Int)))) with D | D
 refine lf (aT D) (lf (aT D) (lf (aT D) (lO (cW (decide (v1.Base > (4096 : Int))) R D) (lB R (lf (aT (oT D)) (lf (aT (oT D)) (lf (aT (oT D)) (lO (cW (decide (v1.Offset < (0 : Int))) R (oT D)) (lB R (lf (aT (oT (oT D))) (lf (aT (oT (oT D))) (lf (aT (oT (oT D))) (lf (aT (oT (oT D))) (lf (aT (oT (oT D))) (lO (cW (decide (v1.Offset ≥ v1.Base)) R (oT (oT D))) (aC ?_))))))))))))))))
 exact qJ (fun w s => s)
 refine lW (bI D) (bT 3 fI R) (lW (bI D) (bV 0 cE R R R) (lW (bI D) (iw R R) (lO (eS R D R) (lB R ?_))))
 rcases bo ((((!r5) || ((v1.Strides.length : Int) != (v1.Dims.length : Int))) || (decide (v1.Base < (1 : Int)))) || (decide (v1.Base > (4096 : Int)))) with j | j
 refine lf (aT j) (lf (aT j) (lf (aT j) (lO (cW (decide (v1.Offset < (0 : Int))) R j) (lB R (lf (aT (oT j)) (lf (aT (oT j)) (lf (aT (oT j)) (lf (aT (oT j)) (lf (aT (oT j)) (lO (cW (decide (v1.Offset ≥ v1.Base)) R (oT j)) (aC ?_)))))))))))
 exact qJ (fun w s => s)
 refine lW (bI j) (bT 2 fY R) (lW (bI j) (bV 0 cE R R R) (lW (bI j) (dQ R R) (lO (eS R j R) (lB R ?_))))
 rcases bo (((((!r5) || ((v1.Strides.length : Int) != (v1.Dims.length : Int))) || (decide (v1.Base < (1 : Int)))) || (decide (v1.Base > (4096 : Int)))) || (decide (v1.Offset < (0 : Int)))) with u | u
 refine lf (aT u) (lf (aT u) (lf (aT u) (lf (aT u) (lf (aT u) (lO (cW (decide (v1.Offset ≥ v1.Base)) R u) (aC ?_))))))
 exact qJ (fun w s => s)
 refine lW (bI u) (bT 2 fY R) (lW (bI u) (bV 0 cE R R R) (lW (bI u) (bT 3 fI R) (lW (bI u) (bV 0 cE R R R) (lW (bI u) (jW R R) (lO (eS R u R) (aC ?_))))))
 exact qJ (fun w s => s)
 rintro σ1
 refine aB ?_
 rcases bG g with ⟨U, g⟩ | ⟨U, g⟩
 refine aL R U (aD (aA (lB R (aC (aB (aW (bA ?_)))))))
 obtain rfl := so g
 exact qF () (fun w s => (s.e 3 []))
 refine aI R U (aN (aB (aD (bS (A := (Unit) × (Unit)) (fun a => Zc_J1 v1 = some r) (fun a => [(1, (pt b4 0))]) (fun a => L) ?_ ?_))))
 refine aD (aA (lI R (aC (aB (aM ?_)))))
 obtain ⟨e1, ae, a6⟩ := bd g
 refine bQ (A := Unit) ae (fun s a => [(1, (pt b4 0)), (3, (iv s))]) (fun s a => L) () (aS R) (fun w s => s) ?_
 rintro I _ σ1 a9 g a4
 replace g : Zc_L1 v1 I = some a9 := g
 unfold Zc_L1 at g
 refine aD (aD (aA (lI R (lO (bT 1 eJ R) (lO (bV 0 bK R R R) (lO (bR aV R) (lO (dQ R R) (aC (aB ?_)))))))))
 rcases bG g with ⟨a0, g⟩ | ⟨a0, g⟩
 refine aL R a0 (aN (aB (aD (aM (aD ?_)))))
 obtain ⟨G, g⟩ := gd g
 refine cQ [(1, (pt b4 0)), (3, (iv I)), (61, (.bool ((decide ((ix v1.Strides I) < (-4096 : Int))) || (decide ((ix v1.Strides I) > (4096 : Int))))))] (L) ?_ ?_
 refine aA (lO (bT 1 eJ R) (lO (bV 0 bK R R R) (lI R (bY 2 aE (show 0 < v1.Strides.length by have := G; omega) (fun ai o23 ha => ?_)))))
 subst ha
 refine lO (cK aV bX R R G) (lO (dL 2 cE aE R G) (lO (dQ R R) (lB R ?_)))
 rcases bo (decide ((ix v1.Strides I) < (-4096 : Int))) with m | m
 refine lf (aT m) (lf (aT m) (lf (aT m) (lf (aT m) (lf (aT m) (lf (aT m) (lO (cW (decide ((ix v1.Strides I) > (4096 : Int))) R m) (aC ?_)))))))
 exact qJ (fun w s => s)
 refine lW (bI m) (bT 1 eJ R) (lW (bI m) (bV 0 bK R R R) (lW (bI m) (vI R) (lW (bI m) (cK aV bX R R G) (lW (bI m) (dL 2 cE aE R G) (lW (bI m) (iw R R) (lO (eS R m R) (aC ?_)))))))
 exact qJ (fun w s => s)
 rintro σ1
 refine aB ?_
 rcases bG g with ⟨a1, g⟩ | ⟨a1, g⟩
 refine aL R a1 (aD (aA (lB R (aC (aB (aW (bB (bA ?_))))))))
 obtain rfl := so g
 obtain rfl := a4 _ R
 have g := a6
 refine bA (bB (bA ?_))
 obtain rfl := so g
 exact qF () (fun w s => (s.e 3 []))
 refine aI R a1 (aN (aZ (aB (aA (lI R (lO (cX R R) (lI R (aC ?_))))))))
 obtain rfl := so g
 exact qA () (fun w s => s)
 refine aI R a0 (bP (aR ?_))
 obtain rfl := so g
 obtain rfl := a4 _ R
 have g := a6
 refine aR (bE ?_)
 exact qI ((), ()) g (fun w s => s)
 rintro ⟨_, _⟩ σ1 g
 replace g : Zc_J1 v1 = some r := g
 unfold Zc_J1 at g
 refine aD ?_
 obtain ⟨F, a8, g⟩ := bd g
 refine aA (lO (vz (.agg [(sc A2 v1.Dims D2), (sc A3 v1.Strides D3), (iv v1.Offset), (iv v1.Base)].toArray) (bF 0 fc dZ R R R R)) (lM (RR kT3 A2 D2 v1.Dims :: RR kT3 A3 D3 v1.Strides :: L) (fun w s => (((s.d 1 R).d 3 R).e 2 [1, 0])) ?_))
 refine lC 2 wo R (Z06_ok a8) R ?_
 rintro ⟨M, ab, T⟩
 refine lN (ow kT3 3 (.slice M ab T) F :: L) ?_
 refine aY 0 aH ?_
 rintro rfl
 refine lS R (aC (aB (aD (bS (A := (Unit) × (Unit)) (fun a => Zc_J2 = some r) (fun a => []) (fun a => L) ?_ ?_))))
 refine aD (aA (lI R (aC (aB (aM ?_)))))
 obtain ⟨e2, ag, a7⟩ := bd g
 refine bQ (A := Unit) ag (fun s a => [(1, (pt b4 0)), (4, (sc M F T)), (5, (iv s))]) (fun s a => OO kT3 3 M T F :: L) () (aS R) (fun w s => s) ?_
 rintro J _ σ1 aa g a5
 replace g : Zc_L2 v1 F J = some aa := g
 unfold Zc_L2 at g
 refine aD (aD (aA (lI R (lS R (lO (bR aV R) (lO (dQ R R) (aC (aB ?_))))))))
 rcases bG g with ⟨a2, g⟩ | ⟨a2, g⟩
 refine aL R a2 (aN (aB (aD (aM (aD ?_)))))
 obtain ⟨E, g⟩ := gd g
 refine cQ [(1, (pt b4 0)), (4, (sc M F T)), (5, (iv J)), (83, (.bool ((decide ((ix F J) < (0 : Int))) || (decide ((ix F J) ≥ v1.Base)))))] (OO kT3 3 M T F :: L) ?_ ?_
 rcases bo (decide ((ix F J) < (0 : Int))) with i | i
 refine bZ 0 aH (show 0 < F.length by have := E; omega) (fun ac o40 ha => ?_)
 subst ha
 refine eI 14 [] cF (fun ht hn => (dR 0 R (vS R) (dR 1 R (vI R) (dR 2 R (cK aV bX R R E) (dR 3 R (dL 0 cE aH R E) (dR 4 R (dQ R R) (dR 5 R (vB R) (dF 6 R (aT i) (dF 7 R (aT i) (dF 8 R (aT i) (dF 9 R (aT i) (dF 10 R (aT i) (dF 11 R (aT i) (dF 12 R (aT i) (dR 13 R (cW (decide ((ix F J) ≥ v1.Base)) R i) (dD ?_))))))))))))))))
 exact qJ (fun w s => s)
 refine bZ 0 aH (show 0 < F.length by have := E; omega) (fun ac o40 ha => ?_)
 subst ha
 refine eI 14 [] cF (fun ht hn => (dR 0 R (vS R) (dR 1 R (vI R) (dR 2 R (cK aV bX R R E) (dR 3 R (dL 0 cE aH R E) (dR 4 R (dQ R R) (dR 5 R (vB R) (dW 6 R (bI i) (vS R) (dW 7 R (bI i) (vI R) (dW 8 R (bI i) (cK aV bX R R E) (dW 9 R (bI i) (dL 0 cE aH R E) (dW 10 R (bI i) (bT 3 fI R) (dW 11 R (bI i) (bV 1 cE R R R) (dW 12 R (bI i) (jW R R) (dR 13 R (eS R i R) (dD ?_))))))))))))))))
 exact qJ (fun w s => s)
 rintro σ1
 refine aB ?_
 rcases bG g with ⟨a3, g⟩ | ⟨a3, g⟩
 refine aL R a3 (aD (aA (lB R (aC (aB (aW (bB (bA ?_))))))))
 obtain rfl := so g
 obtain rfl := a5 _ R
 have g := a7
 refine bA (bB (bA ?_))
 obtain rfl := so g
 exact qF () (fun w s => (s.e 4 []))
 refine aI R a3 (aN (aZ (aB (aA (lI R (lO (cX R R) (lI R (aC ?_))))))))
 obtain rfl := so g
 exact qA () (fun w s => s)
 refine aI R a2 (bP (aR ?_))
 obtain rfl := so g
 obtain rfl := a5 _ R
 have g := a7
 refine aR (bE ?_)
 exact eF ((), ()) g trivial (fun w s => (s.e 1 []))
 rintro ⟨_, _⟩ σ1 g
 replace g : Zc_J2 = some r := g
 unfold Zc_J2 at g
 refine aD (aA (lB R (aC (aB (aW ?_)))))
 obtain rfl := so g
 exact qF () (fun w s => (s.e 3 []))
theorem Z1a_ok  {v1 : View} {a : Int} {r : Bool} (j : Z1a v1 a = some r) :
 FnOk Tryz.prog 81 [(.agg [(.slice A2 N2 D2), (.slice A3 N3 D3), (iv v1.Offset), (iv v1.Base)].toArray), (iv a)] [aQ kT3 (.slice A2 N2 D2) v1.Dims, aQ kT3 (.slice A3 N3 D3) v1.Strides] (fun (h : Unit) => ((.bool r), [])) := by
 unfold Z1a at j
 refine bN Tryz.func81 R 18 R R fun C V => ?_
 refine cN (_ :: _ :: V) ?_
 refine cL 0 aE ?_
 rintro rfl
 refine cL 1 aE ?_
 rintro rfl
 let u : List HP := RR kT3 A2 D2 v1.Dims :: RR kT3 A3 D3 v1.Strides :: V
 refine cN u ?_
 refine aD (aA (gz R (fun D => (lB R (aC ?_)))))
 let i : List HP := aK D [(sc A2 v1.Dims D2), (sc A3 v1.Strides D3), (iv v1.Offset), (iv v1.Base)] 35 :: u
 refine qN i ?_
 refine aB (aD ?_)
 obtain ⟨q, m, j⟩ := bd j
 refine cQ [(4, (.bool ((q && (decide (a ≥ (0 : Int)))) && (decide (a < (v1.Dims.length : Int))))))] (i) ?_ ?_
 refine aA (lO (vz (.agg [(sc A2 v1.Dims D2), (sc A3 v1.Strides D3), (iv v1.Offset), (iv v1.Base)].toArray) (bF 0 fc dZ R R R R)) (lM (RR kT3 A2 D2 v1.Dims :: RR kT3 A3 D3 v1.Strides :: i) (fun w s => (((s.d 1 R).d 3 R).e 2 [1, 0])) ?_))
 refine lC 2 t' R (Zc_ok m) R ?_
 rintro _
 refine lN i ?_
 refine lB R ?_
 rcases bo q with b | b
 refine lW (eB b) (vI R) (lW (eB b) (jW R R) (lO (kx R b R) (lB R ?_)))
 rcases bo (q && (decide (a ≥ (0 : Int)))) with g | g
 refine lW (eB g) (vI R) (lW (eB g) (bT 0 dH R) (lW (eB g) (bV 0 bK R R R) (lW (eB g) (bR aV R) (lW (eB g) (dQ R R) (lO (kx R g R) (lB R (aC ?_)))))))
 exact qJ (fun w s => s)
 refine lf (dV g) (lf (dV g) (lf (dV g) (lf (dV g) (lf (dV g) (lO (kn (decide (a < (v1.Dims.length : Int))) R g) (lB R (aC ?_)))))))
 exact qJ (fun w s => s)
 refine lf (dV b) (lf (dV b) (lO (kn (decide (a ≥ (0 : Int))) R b) (lB R (lf (dV (aF b)) (lf (dV (aF b)) (lf (dV (aF b)) (lf (dV (aF b)) (lf (dV (aF b)) (lO (kn (decide (a < (v1.Dims.length : Int))) R (aF b)) (lB R (aC ?_)))))))))))
 exact qJ (fun w s => s)
 rintro σ1
 refine aB (aW ?_)
 obtain rfl := so j
 exact qF () (fun w s => (s.e 3 []))
theorem Z1x_ok  {v1 : View} {r : View} (i : Z1x v1 = some r) :
 FnOk Tryz.prog 82 [(.agg [(.slice A2 N2 D2), (.slice A3 N3 D3), (iv v1.Offset), (iv v1.Base)].toArray)] [aQ kT3 (.slice A2 N2 D2) v1.Dims, aQ kT3 (.slice A3 N3 D3) v1.Strides] (fun (h : HH × HH) => ((.agg [(.slice h.1.1 h.1.2.1 h.1.2.2), (.slice h.2.1 h.2.2.1 h.2.2.2), (iv r.Offset), (iv r.Base)].toArray), [ow kT3 3 (.slice h.1.1 h.1.2.1 h.1.2.2) r.Dims, ow kT3 3 (.slice h.2.1 h.2.2.1 h.2.2.2) r.Strides])) := by
 unfold Z1x at i
 refine bN Tryz.func82 R 14 R R fun C V => ?_
 refine cN (_ :: _ :: V) ?_
 refine cL 0 aE ?_
 rintro rfl
 refine cL 1 aE ?_
 rintro rfl
 let G : List HP := RR kT3 A2 D2 v1.Dims :: RR kT3 A3 D3 v1.Strides :: V
 refine cN G ?_
 refine aD (aA (gz R (fun L => (bM R R fH (fun I => (aC ?_))))))
 let g : List HP := aK L [(sc A2 v1.Dims D2), (sc A3 v1.Strides D3), (iv v1.Offset), (iv v1.Base)] 35 :: G
 refine qN (_ :: g) ?_
 refine aB (aD ?_)
 obtain ⟨u, F, i⟩ := bd i
 obtain ⟨D, q, i⟩ := bd i
 refine eI 12 [0] cF (fun T M => (dR 0 R (bT 0 dH R) (hS := (sL [0])) (dR 1 R (bV 0 bK R R R) (hS := (sL [0])) (dR 3 R (bT 1 eJ R) (hS := (sL [0])) (dR 4 R (bV 0 bK R R R) (hS := (sL [0])) (dR 6 R (bT 2 fY R) (hS := (sL [0])) (dR 7 R (bV 0 cE R R R) (hS := (sL [0])) (dR 8 R (bT 3 fI R) (hS := (sL [0])) (dR 9 R (bV 0 cE R R R) (hS := (sL [0])) (d1 2 R (lM (RR kT3 A2 D2 v1.Dims :: _ :: g) (fun w s => (s.d 2 R)) ?_)))))))))))
 refine lC 1 oa R (Z0k_ok F) R ?_
 rintro ⟨j, J, m⟩
 refine lN (ow kT3 3 (.slice j J m) u :: _ :: g) ?_
 refine aY 0 aH ?_
 rintro rfl
 refine aC (aP (sL [1, 0]) (d1 5 R (lM (RR kT3 A3 D3 v1.Strides :: _ :: _ :: g) (fun w s => (s.d 4 R)) ?_)))
 refine lC 1 oa R (Z0k_ok q) R ?_
 rintro ⟨a, E, b⟩
 refine lN (ow kT3 3 (.slice a E b) D :: _ :: _ :: g) ?_
 refine aY 0 aH ?_
 rintro rfl
 refine aC (aP (sL [2, 1, 0]) (dR 10 R (vz (.agg [(sc j u m), (sc a D b), (iv v1.Offset), (iv v1.Base)].toArray) (bW jl fH R R)) (hS := (sL [2, 1, 0])) (d1 11 R (aU 2 R R dZ R R R R R R (lN (_ :: _ :: aK I [(sc j u m), (sc a D b), (iv v1.Offset), (iv v1.Base)] 35 :: g) ?_)))))
 refine aC (aP (sL [2, 1, 0]) (dD (aB (aW ?_))))
 obtain rfl := so i
 exact bU (vs := [(.agg [(sc j u m), (sc a D b), (iv v1.Offset), (iv v1.Base)].toArray)]) (.inl R) ((j, u.length, m), (a, D.length, b)) R ⟨⟨2, I, _, _, R, R, .inl ⟨fc, dZ, R⟩⟩, trivial⟩ R (fun w s => (s.e 6 [1, 0]))
theorem Z1y_ok  {v1 : View} {r : View} (a : Z1y v1 = some r) :
 FnOk Tryz.prog 83 [(.agg [(.slice A2 N2 D2), (.slice A3 N3 D3), (iv v1.Offset), (iv v1.Base)].toArray)] [aQ kT3 (.slice A2 N2 D2) v1.Dims, aQ kT3 (.slice A3 N3 D3) v1.Strides] (fun (h : HH × HH) => ((.agg [(.slice h.1.1 h.1.2.1 h.1.2.2), (.slice h.2.1 h.2.2.1 h.2.2.2), (iv r.Offset), (iv r.Base)].toArray), [aQ kT3 (.slice h.1.1 h.1.2.1 h.1.2.2) r.Dims, aQ kT3 (.slice h.2.1 h.2.2.1 h.2.2.2) r.Strides])) := by
 unfold Z1y at a
 refine bN Tryz.func83 R 8 R R fun C V => ?_
 refine cN (_ :: _ :: V) ?_
 refine cL 0 aE ?_
 rintro rfl
 refine cL 1 aE ?_
 rintro rfl
 let m : List HP := RR kT3 A2 D2 v1.Dims :: RR kT3 A3 D3 v1.Strides :: V
 refine cN m ?_
 refine aD (aA (gz R (fun q => (bM R R fH (fun i => (aC ?_))))))
 let g : List HP := aK q [(sc A2 v1.Dims D2), (sc A3 v1.Strides D3), (iv v1.Offset), (iv v1.Base)] 35 :: m
 refine qN (_ :: g) ?_
 refine aB (aD (aD ?_))
 obtain ⟨u, j, a⟩ := bd a
 refine aA (lO (vz (.agg [(sc A2 v1.Dims D2), (sc A3 v1.Strides D3), (iv v1.Offset), (iv v1.Base)].toArray) (bF 1 fc dZ R R R R)) (lM (RR kT3 A2 D2 v1.Dims :: RR kT3 A3 D3 v1.Strides :: aK _ _ _ :: g) (fun w s => (((s.d 2 R).d 4 R).e 3 [1, 0, 2])) ?_))
 refine lC 2 t' R (Zc_ok j) R ?_
 rintro _
 refine lN (_ :: g) ?_
 refine lO (ft R) (aC (aB ?_))
 rcases bG a with ⟨b, a⟩ | ⟨b, a⟩
 refine aL R b (aD (aA (lO (vz (.agg [(.slice none 0 0), (.slice none 0 0), (iv 0), (iv 0)].toArray) (bW jl fH R R)) (aU 0 R R dZ R R R R R R (aC (aB (aW (bA ?_))))))))
 obtain rfl := so a
 exact bU (vs := [(.agg [(.slice none 0 0), (.slice none 0 0), (iv 0), (iv 0)].toArray)]) (.inl R) ((none, 0, 0), (none, 0, 0)) R ⟨⟨0, i, _, _, R, R, .inl ⟨fc, dZ, R⟩⟩, trivial⟩ R (fun w s => (((s.nilr kT3).nilr kT3).e 6 [1, 0]))
 refine aI R b (aN (aB (aD (aA (lO (vz (.agg [(sc A2 v1.Dims D2), (sc A3 v1.Strides D3), (iv v1.Offset), (iv v1.Base)].toArray) (bF 1 fc dZ R R R R)) (aU 0 R R dZ R R R R R R (lN (aK i [(sc A2 v1.Dims D2), (sc A3 v1.Strides D3), (iv v1.Offset), (iv v1.Base)] 35 :: g) ?_)))))))
 refine aC (aB (aW ?_))
 obtain rfl := so a
 exact bU (vs := [(.agg [(sc A2 v1.Dims D2), (sc A3 v1.Strides D3), (iv v1.Offset), (iv v1.Base)].toArray)]) (.inl R) ((A2, v1.Dims.length, D2), (A3, v1.Strides.length, D3)) R ⟨⟨0, i, _, _, R, R, .inl ⟨fc, dZ, R⟩⟩, trivial⟩ R (fun w s => (s.e 4 [2, 3]))
theorem Zn_ok  {v1 : View} {g : Int} {b : Int} {m : Int} {r : View} (u : Zn v1 g b m = some r) :
 FnOk Tryz.prog 19 [(.agg [(.slice A2 N2 D2), (.slice A3 N3 D3), (iv v1.Offset), (iv v1.Base)].toArray), (iv g), (iv b), (iv m)] [aQ kT3 (.slice A2 N2 D2) v1.Dims, aQ kT3 (.slice A3 N3 D3) v1.Strides] (fun (h : HH × HH) => ((.agg [(.slice h.1.1 h.1.2.1 h.1.2.2), (.slice h.2.1 h.2.2.1 h.2.2.2), (iv r.Offset), (iv r.Base)].toArray), [aQ kT3 (.slice h.1.1 h.1.2.1 h.1.2.2) r.Dims, aQ kT3 (.slice h.2.1 h.2.2.1 h.2.2.2) r.Strides])) := by
 unfold Zn at u
 refine bN Tryz.func19 R 85 R R fun C V => ?_
 refine cN (_ :: _ :: V) ?_
 refine cL 0 aE ?_
 rintro rfl
 refine cL 1 aE ?_
 rintro rfl
 let W0 : List HP := RR kT3 A2 D2 v1.Dims :: RR kT3 A3 D3 v1.Strides :: V
 refine cN W0 ?_
 refine aD (aA (gz R (fun b7 => (bM R R fH (fun b8 => (aC ?_))))))
 let G : List HP := aK b7 [(sc A2 v1.Dims D2), (sc A3 v1.Strides D3), (iv v1.Offset), (iv v1.Base)] 35 :: W0
 refine qN (_ :: G) ?_
 refine aB (aD (aD ?_))
 obtain ⟨r9, ar, u⟩ := bd u
 obtain ⟨ab, u⟩ := gd u
 refine cQ [(1, (iv g)), (2, (iv b)), (3, (iv m)), (4, (pt b7 0)), (8, (pt b8 0)), (32, (.bool ((((!r9) || (decide (b < (1 : Int)))) || (decide (m < (1 : Int)))) || (decide (b > (ix v1.Dims g))))))] (aK b8 [(.slice none 0 0), (.slice none 0 0), (iv 0), (iv 0)] 35 :: G) ?_ ?_
 refine aA (lO (vz (.agg [(sc A2 v1.Dims D2), (sc A3 v1.Strides D3), (iv v1.Offset), (iv v1.Base)].toArray) (bF 1 fc dZ R R R R)) (lI R (lM (RR kT3 A2 D2 v1.Dims :: RR kT3 A3 D3 v1.Strides :: aK _ _ _ :: G) (fun w s => (((s.d 2 R).d 4 R).e 3 [1, 0, 2])) ?_)))
 refine lC 2 xB R (Z1a_ok ar) R ?_
 rintro _
 refine lN (_ :: G) ?_
 refine lO (ft R) (lB R ?_)
 rcases bo (!r9) with q | q
 refine lf (aT q) (lf (aT q) (lO (cW (decide (b < (1 : Int))) R q) (lB R (lf (aT (oT q)) (lf (aT (oT q)) (lO (cW (decide (m < (1 : Int))) R (oT q)) (lB R (lf (aT (oT (oT q))) (lf (aT (oT (oT q))) (lf (aT (oT (oT q))) (lf (aT (oT (oT q))) (lf (aT (oT (oT q))) (lf (aT (oT (oT q))) (lf (aT (oT (oT q))) (lO (cW (decide (b > (ix v1.Dims g))) R (oT (oT q))) (aC ?_))))))))))))))))
 exact qJ (fun w s => s)
 refine lW (bI q) (vI R) (lW (bI q) (dQ R R) (lO (eS R q R) (lB R ?_)))
 rcases bo ((!r9) || (decide (b < (1 : Int)))) with D | D
 refine lf (aT D) (lf (aT D) (lO (cW (decide (m < (1 : Int))) R D) (lB R (lf (aT (oT D)) (lf (aT (oT D)) (lf (aT (oT D)) (lf (aT (oT D)) (lf (aT (oT D)) (lf (aT (oT D)) (lf (aT (oT D)) (lO (cW (decide (b > (ix v1.Dims g))) R (oT D)) (aC ?_))))))))))))
 exact qJ (fun w s => s)
 refine lW (bI D) (vI R) (lW (bI D) (dQ R R) (lO (eS R D R) (lB R ?_)))
 rcases bo (((!r9) || (decide (b < (1 : Int)))) || (decide (m < (1 : Int)))) with j | j
 refine lf (aT j) (lf (aT j) (lf (aT j) (lf (aT j) (lf (aT j) (lf (aT j) (lf (aT j) (lO (cW (decide (b > (ix v1.Dims g))) R j) (aC ?_))))))))
 exact qJ (fun w s => s)
 refine lW (bI j) (vI R) (lW (bI j) (bT 0 dH R) (lW (bI j) (bV 1 bK R R R) (lW (bI j) (vI R) (bY 2 aE (show 0 < v1.Dims.length by have := (ab j); omega) (fun b5 o13 ha => ?_)))))
 subst ha
 refine lW (bI j) (cK aV bX R R (ab j)) (lW (bI j) (dL 2 cE aE R (ab j)) (lW (bI j) (iw R R) (lO (eS R j R) (aC ?_))))
 exact qJ (fun w s => s)
 rintro σ1
 refine aB ?_
 rcases bG u with ⟨a8, u⟩ | ⟨a8, u⟩
 refine aL R a8 (aD (aA (lO (vz (.agg [(.slice none 0 0), (.slice none 0 0), (iv 0), (iv 0)].toArray) (bW jl fH R R)) (aU 0 R R dZ R R R R R R (aC (aB (aW (bA ?_))))))))
 obtain rfl := so u
 exact bU (vs := [(.agg [(.slice none 0 0), (.slice none 0 0), (iv 0), (iv 0)].toArray)]) (.inl R) ((none, 0, 0), (none, 0, 0)) R ⟨⟨0, b8, _, _, R, R, .inl ⟨fc, dZ, R⟩⟩, trivial⟩ R (fun w s => (((s.nilr kT3).nilr kT3).e 6 [1, 0]))
 refine aI R a8 (aN (aB (aD ?_)))
 obtain ⟨i, au, u⟩ := bd u
 refine aA (lO (vz (.agg [(sc A2 v1.Dims D2), (sc A3 v1.Strides D3), (iv v1.Offset), (iv v1.Base)].toArray) (bF 1 fc dZ R R R R)) (lM (RR kT3 A2 D2 v1.Dims :: RR kT3 A3 D3 v1.Strides :: aK _ _ _ :: G) (fun w s => (((s.d 2 R).d 4 R).e 3 [1, 0, 2])) ?_))
 refine lC 2 xC R (Z1x_ok au) R ?_
 rintro ⟨⟨an, b1, a0⟩, ⟨am, b2, F⟩⟩
 refine lN (ow kT3 3 (.slice an b1 a0) i.Dims :: ow kT3 3 (.slice am b2 F) i.Strides :: _ :: G) ?_
 refine aY 0 aH ?_
 rintro rfl
 refine aY 1 aH ?_
 rintro rfl
 refine bM R R fH (fun a1 => (aU 0 R R dZ R R R R R R (lN (aK a1 [(sc an i.Dims a0), (sc am i.Strides F), (iv i.Offset), (iv i.Base)] 35 :: _ :: _ :: _ :: G) ?_)))
 refine aC (aB (aD ?_))
 obtain ⟨ac, u⟩ := gd u
 obtain ⟨ao, u⟩ := gd u
 refine aA (lO (bT 0 dH R) (lO (bV 4 bK R R R) (lI R (bY 5 aE (show 0 < v1.Dims.length by have := ac; omega) (fun b6 o25 ha => ?_)))))
 subst ha
 refine lO (cK aV bX R R ac) (lO (dL 5 cE aE R ac) (lI R (lO (hM R R) (lI R (lO (vz (iv (aG ((aG ((ix v1.Dims g) - b)).tdiv m))) (gO R R ao)) (lO (cX R R) (lI R (aC (aB (aD ?_))))))))))
 obtain ⟨ae, u⟩ := gd u
 refine aA (lO (bT 1 eJ R) (lO (bV 4 bK R R R) (lI R (bY 6 aE (show 0 < v1.Strides.length by have := ae; omega) (fun b9 o29 ha => ?_)))))
 subst ha
 refine lO (cK aV bX R R ae) (lO (dL 6 cE aE R ae) (lI R (aC (aB (aD ?_)))))
 obtain ⟨a5, u⟩ := gd u
 refine aA (lO (bT 0 dH R) (lO (bV 0 bK R R R) (lI R (lI R (bY 1 aH (show 0 < i.Dims.length by have := a5; omega) (fun a4 o32 ha => ?_))))))
 subst ha
 refine lO (cK aV bX R R a5) (lM (OO kT3 3 (ad a4 o32) a0 i.Dims :: aK a1 [(sc (ad a4 o32) i.Dims a0), (sc am i.Strides F), (iv i.Offset), (iv i.Base)] 35 :: ow _ _ _ _ :: aK _ _ _ :: G) (fun w s => (s.e 4 [1, 0, 2, 3])) ?_)
 refine eG (K := kT3) (x' := (aG ((aG ((aG ((ix v1.Dims g) - b)).tdiv m)) + (1 : Int)))) 0 g R R bX R R a5.1 a5.2 ?_ ?_
 exact fun I h s => (fw).put I h () (aG ((aG ((aG ((ix v1.Dims g) - b)).tdiv m)) + (1 : Int))) s
 refine lN (ow kT3 3 (.slice (ad a4 o32) i.Dims.length a0) (i.Dims.set g.toNat (aG ((aG ((aG ((ix v1.Dims g) - b)).tdiv m)) + (1 : Int)))) :: _ :: _ :: _ :: G) ?_
 refine aC ?_
 obtain ⟨E, ag, u⟩ := bd u
 replace ag := Option.some.inj ag
 refine qM (ow kT3 3 (.slice (ad a4 o32) i.Dims.length a0) E :: _ :: _ :: _ :: G) (fun w s => by rw [← ag]; exact s) ?_
 refine aB (aD ?_)
 obtain ⟨M, u⟩ := gd u
 refine aA (lO (bT 1 eJ R) (lO (bV 1 bK R R R) (lI R (bY 2 aH (show 0 < i.Strides.length by have := M; omega) (fun L o37 ha => ?_)))))
 subst ha
 refine lO (cK aV bX R R M) (lM (OO kT3 3 (ad L o37) F i.Strides :: ow _ _ _ _ :: aK a1 [(sc (ad a4 o32) i.Dims a0), (sc (ad L o37) i.Strides F), (iv i.Offset), (iv i.Base)] 35 :: aK _ _ _ :: G) (fun w s => (s.e 4 [2, 0, 1, 3])) ?_)
 refine eG (K := kT3) (x' := (0 : Int)) 0 g R R bX R R M.1 M.2 ?_ ?_
 exact fun I h s => (fw).put I h () (0 : Int) s
 refine lN (ow kT3 3 (.slice (ad L o37) i.Strides.length F) (i.Strides.set g.toNat (0 : Int)) :: _ :: _ :: _ :: G) ?_
 refine aC (aB (aD (bS (A := ((List Int)) × (Unit)) (fun a => Zn_J1 v1 g b i E a.1 = some r) (fun a => [(2, (iv b)), (8, (pt b8 0)), (9, (pt a1 0)), (11, (iv (ix v1.Strides g)))]) (fun a => aK b8 [(.slice none 0 0), (.slice none 0 0), (iv 0), (iv 0)] 35 :: aK a1 [(sc (ad a4 o32) i.Dims a0), (sc (ad L o37) i.Strides F), (iv i.Offset), (iv i.Base)] 35 :: ow kT3 3 (.slice (ad a4 o32) i.Dims.length a0) E :: ow kT3 3 (.slice (ad L o37) i.Strides.length F) a.1 :: G) ?_ ?_)))
 refine aD (aA (lI R (lO (iw R R) (aC (aB ?_)))))
 rcases bG u with ⟨a9, u⟩ | ⟨a9, u⟩
 refine aL R a9 (aA (lO (bT 1 eJ R) (lO (bV 2 bK R R R) (lI R (lI R (lI R (lO (f9 R R) (lO (cK aV bX R R M) (eG (K := kT3) (x' := (aG ((ix v1.Strides g) * m))) 0 g R R bX R R M.1 M.2 ?_ ?_)))))))))
 exact fun I h s => (fw).put I h () (aG ((ix v1.Strides g) * m)) s
 refine lN (ow kT3 3 (.slice (ad L o37) i.Strides.length F) ((i.Strides.set g.toNat (0 : Int)).set g.toNat (aG ((ix v1.Strides g) * m))) :: _ :: _ :: _ :: G) ?_
 refine aC ?_
 obtain ⟨aw, ah, u⟩ := bd u
 replace ah := Option.some.inj ah
 refine qM (ow kT3 3 (.slice (ad L o37) i.Strides.length F) aw :: _ :: _ :: _ :: G) (fun w s => by rw [← ah]; exact s) ?_
 exact qI (aw, ()) u (fun w s => (s.e 4 [3, 2, 1, 0]))
 refine aI R a9 (aN ?_)
 exact qI ((i.Strides.set g.toNat (0 : Int)), ()) u (fun w s => (s.e 4 [3, 2, 1, 0]))
 rintro ⟨T, _⟩ σ1 u
 replace u : Zn_J1 v1 g b i E T = some r := u
 unfold Zn_J1 at u
 refine aD ?_
 obtain ⟨ap, u⟩ := gd u
 refine aA (lO (bT 0 dH R) (lO (bV 1 bK R R R) (lI R (cC (K := kT3) (xs := ([b] : List Int)) (vs := [(iv b)]) 0 R R aV bX fj R R R R R R ?_ R (fun ax az => ?_)))))
 exact fun I h s => (fw).list [((), b)] I h s
 refine lN (OO kT3 3 ax az ([b] : List Int) :: _ :: _ :: _ :: ow kT3 3 (.slice (ad L o37) i.Strides.length F) T :: G) ?_
 refine lM (ow _ _ _ _ :: ow _ _ _ _ :: aK _ _ _ :: aK _ _ _ :: ow _ _ _ _ :: G) (fun w s => (s.e 5 [3, 0, 1, 2, 4])) ?_
 refine f6 (K := kT3) 17592186044416 R R aV bX ii (Zr.zk zT3 fj) R R R R R R eM ap (fun a2 a3 => (lN (OO kT3 3 a2 a3 (E ++ ([b] : List Int)) :: _ :: _ :: _ :: G) ?_))
 refine lO (bT 0 dH R) (dP 2 R R fk R R R R R (lN (_ :: _ :: aK a1 [(sc a2 (E ++ ([b] : List Int)) a3), (sc (ad L o37) i.Strides F), (iv i.Offset), (iv i.Base)] 35 :: _ :: G) ?_))
 refine aC (aB (aD (bS (A := (Int) × (Unit)) (fun a => Zn_J2 b i E T a.1 = some r) (fun a => [(8, (pt b8 0)), (9, (pt a1 0)), (11, (iv a.1))]) (fun a => aK b8 [(.slice none 0 0), (.slice none 0 0), (iv 0), (iv 0)] 35 :: aK a1 [(sc a2 (E ++ ([b] : List Int)) a3), (sc (ad L o37) i.Strides F), (iv i.Offset), (iv i.Base)] 35 :: OO kT3 3 a2 a3 (E ++ ([b] : List Int)) :: ow kT3 3 (.slice (ad L o37) i.Strides.length F) T :: G) ?_ ?_)))
 refine aD (aA (lI R (lO (ji R R) (aC (aB ?_)))))
 rcases bG u with ⟨aa, u⟩ | ⟨aa, u⟩
 refine aL R aa (aA (lI R (aC ?_)))
 exact qI ((0 : Int), ()) u (fun w s => (s.e 4 [1, 2, 0, 3]))
 refine aI R aa (aN ?_)
 exact qI ((ix v1.Strides g), ()) u (fun w s => (s.e 4 [1, 2, 0, 3]))
 rintro ⟨U, _⟩ σ1 u
 replace u : Zn_J2 b i E T U = some r := u
 unfold Zn_J2 at u
 refine aD ?_
 obtain ⟨aq, u⟩ := gd u
 refine aA (lO (bT 1 eJ R) (lO (bV 1 bK R R R) (lI R (cC (K := kT3) (xs := ([U] : List Int)) (vs := [(iv U)]) 0 R R aV bX fj R R R R R R ?_ R (fun ay b0 => ?_)))))
 exact fun I h s => (fw).list [((), U)] I h s
 refine lN (OO kT3 3 ay b0 ([U] : List Int) :: _ :: _ :: _ :: _ :: G) ?_
 refine lM (ow _ _ _ _ :: ow _ _ _ _ :: aK _ _ _ :: aK _ _ _ :: ow _ _ _ _ :: G) (fun w s => (s.f 5 [4, 1, 0, 4])) ?_
 refine f6 (K := kT3) 17592186044416 R R aV bX ii (Zr.zk zT3 fj) R R R R R R eM aq (fun a6 a7 => (lN (OO kT3 3 a6 a7 (T ++ ([U] : List Int)) :: _ :: _ :: _ :: G) ?_))
 refine lO (bT 1 eJ R) (dP 2 R R fk R R R R R (lN (_ :: _ :: aK a1 [(sc a2 (E ++ ([b] : List Int)) a3), (sc a6 (T ++ ([U] : List Int)) a7), (iv i.Offset), (iv i.Base)] 35 :: _ :: G) ?_))
 refine aC (aB (aD ?_))
 obtain ⟨J, av, u⟩ := bd u
 refine aA (lO (vz (.agg [(sc a2 (E ++ ([b] : List Int)) a3), (sc a6 (T ++ ([U] : List Int)) a7), (iv i.Offset), (iv i.Base)].toArray) (bF 2 fc dZ R R R R)) (ie (fun w s => s.shr 3 R) (ie (fun w s => s.shr 1 R) (lM (RR kT3 a2 a3 (E ++ ([b] : List Int)) :: RR kT3 a6 a7 (T ++ ([U] : List Int)) :: RR kT3 a6 a7 (T ++ ([U] : List Int)) :: RR kT3 a2 a3 (E ++ ([b] : List Int)) :: aK _ _ _ :: aK _ _ _ :: G) (fun w s => (((s.d 1 R).d 1 R).e 6 [1, 0, 2, 3, 4, 5])) ?_))))
 refine lC 2 xD R (Z1y_ok (v1 := (⟨(E ++ ([b] : List Int)), (T ++ ([U] : List Int)), i.Offset, i.Base⟩ : View)) av) R ?_
 rintro ⟨⟨ai, b3, ak⟩, ⟨aj, b4, al⟩⟩
 refine lN (aQ kT3 (.slice ai b3 ak) J.Dims :: aQ kT3 (.slice aj b4 al) J.Strides :: _ :: _ :: _ :: _ :: G) ?_
 refine aY 0 aE ?_
 rintro rfl
 refine aY 1 aE ?_
 rintro rfl
 refine aU 4 R R dZ R R R R R R (lN (_ :: _ :: _ :: _ :: aK b8 [(sc ai J.Dims ak), (sc aj J.Strides al), (iv J.Offset), (iv J.Base)] 35 :: _ :: G) ?_)
 refine aC (aB (aW ?_))
 obtain rfl := so u
 exact bU (vs := [(.agg [(sc ai J.Dims ak), (sc aj J.Strides al), (iv J.Offset), (iv J.Base)].toArray)]) (.inl R) ((ai, J.Dims.length, ak), (aj, J.Strides.length, al)) R ⟨⟨4, b8, _, _, R, R, .inl ⟨fc, dZ, R⟩⟩, trivial⟩ R (fun w s => (s.e 9 [0, 1]))
theorem Zx_ok  {t1 : Tensor} {v4 : View} {r : Tensor} (D : Zx t1 v4 = some r) :
 FnOk Tryz.prog 18 [(.agg [(.slice A2 N2 D2), (.slice A3 N3 D3)].toArray), (.agg [(.slice A5 N5 D5), (.slice A6 N6 D6), (iv v4.Offset), (iv v4.Base)].toArray)] [aQ kT3 (.slice A2 N2 D2) t1.Dims, aQ kT3 (.slice A3 N3 D3) t1.Data, aQ kT3 (.slice A5 N5 D5) v4.Dims, aQ kT3 (.slice A6 N6 D6) v4.Strides] (fun (h : HH × HH) => ((.agg [(.slice h.1.1 h.1.2.1 h.1.2.2), (.slice h.2.1 h.2.2.1 h.2.2.2)].toArray), [ow kT3 3 (.slice h.1.1 h.1.2.1 h.1.2.2) r.Dims, ow kT3 3 (.slice h.2.1 h.2.2.1 h.2.2.2) r.Data])) := by
 unfold Zx at D
 refine bN Tryz.func18 R 51 R R fun C V => ?_
 refine cN (_ :: _ :: _ :: _ :: V) ?_
 refine cL 0 aE ?_
 rintro rfl
 refine cL 1 aE ?_
 rintro rfl
 refine cL 2 aE ?_
 rintro rfl
 refine cL 3 aE ?_
 rintro rfl
 let W0 : List HP := RR kT3 A2 D2 t1.Dims :: RR kT3 A3 D3 t1.Data :: RR kT3 A5 D5 v4.Dims :: RR kT3 A6 D6 v4.Strides :: V
 refine cN W0 ?_
 refine aD (aA (gz R (fun b7 => (gz R (fun b8 => (bM R R dC (fun b9 => (aC ?_))))))))
 let G : List HP := aK b8 [(sc A5 v4.Dims D5), (sc A6 v4.Strides D6), (iv v4.Offset), (iv v4.Base)] 35 :: aK b7 [(sc A2 t1.Dims D2), (sc A3 t1.Data D3)] 26 :: W0
 refine qN (_ :: G) ?_
 refine aB (aD (aD ?_))
 obtain ⟨ab, ae, D⟩ := bd D
 obtain ⟨ac, ag, D⟩ := bd D
 refine cQ [(2, (pt b7 0)), (3, (pt b8 0)), (4, (pt b9 0)), (23, (.bool (((!ab) || (!ac)) || (v4.Base != (t1.Data.length : Int)))))] (aK b9 [(.slice none 0 0), (.slice none 0 0)] 26 :: G) ?_ ?_
 refine aA (lO (vz (.agg [(sc A2 t1.Dims D2), (sc A3 t1.Data D3)].toArray) (bF 2 cJ bO R R R R)) (lM (RR kT3 A2 D2 t1.Dims :: RR kT3 A3 D3 t1.Data :: aK _ _ _ :: G) (fun w s => (((s.d 3 R).d 5 R).e 3 [1, 0, 2])) ?_))
 refine lC 2 pk R (Zm_ok ae) R ?_
 rintro _
 refine lN (_ :: G) ?_
 refine lO (ft R) (lB R ?_)
 rcases bo (!ab) with b | b
 refine lf (aT b) (lf (aT b) (lf (aT b) (lO (cW (!ac) R b) (lB R (lf (aT (oT b)) (lf (aT (oT b)) (lf (aT (oT b)) (lf (aT (oT b)) (lf (aT (oT b)) (lf (aT (oT b)) (lO (cW (v4.Base != (t1.Data.length : Int)) R (oT b)) (aC ?_))))))))))))
 exact qJ (fun w s => s)
 refine lW (bI b) (vz (.agg [(sc A5 v4.Dims D5), (sc A6 v4.Strides D6), (iv v4.Offset), (iv v4.Base)].toArray) (bF 1 fc dZ R R R R)) (lM (RR kT3 A5 D5 v4.Dims :: RR kT3 A6 D6 v4.Strides :: aK _ _ _ :: G) (fun w s => (((s.d 5 R).d 7 R).e 3 [1, 0, 2])) ?_)
 refine cU 2 R (bI b) t' R (Zc_ok (cZ ag (dY b))) R ?_
 rintro _
 refine lN (_ :: G) ?_
 refine lW (bI b) (ft R) (lO (eS R b R) (lB R ?_))
 rcases bo ((!ab) || (!ac)) with i | i
 refine lf (aT i) (lf (aT i) (lf (aT i) (lf (aT i) (lf (aT i) (lf (aT i) (lO (cW (v4.Base != (t1.Data.length : Int)) R i) (aC ?_)))))))
 exact qJ (fun w s => s)
 refine lW (bI i) (bT 3 fI R) (lW (bI i) (bV 1 cE R R R) (lW (bI i) (bT 1 cA R) (lW (bI i) (bV 2 bK R R R) (lW (bI i) (bR aV R) (lW (bI i) (ig R R) (lO (eS R i R) (aC ?_)))))))
 exact qJ (fun w s => s)
 rintro σ1
 refine aB ?_
 rcases bG D with ⟨a4, D⟩ | ⟨a4, D⟩
 refine aL R a4 (aD (aA (lO (vz (.agg [(.slice none 0 0), (.slice none 0 0)].toArray) (bW fF dC R R)) (aU 0 R R bO R R R R R R (aC (aB (aW (bA ?_))))))))
 obtain rfl := so D
 exact bU (vs := [(.agg [(.slice none 0 0), (.slice none 0 0)].toArray)]) (.inl R) ((none, 0, 0), (none, 0, 0)) R ⟨⟨0, b9, _, _, R, R, .inl ⟨cJ, bO, R⟩⟩, trivial⟩ R (fun w s => (((s.nilo kT3 3).nilo kT3 3).e 9 [1, 0]))
 refine aI R a4 (aN (aB (aD ?_)))
 obtain ⟨j, ah, D⟩ := bd D
 refine aA (lO (bT 0 dH R) (lO (bV 1 bK R R R) (lM (RR kT3 A5 D5 v4.Dims :: _ :: G) (fun w s => (s.d 5 R)) ?_)))
 refine lC 1 oa R (Z0k_ok ah) R ?_
 rintro ⟨q, am, u⟩
 refine lN (ow kT3 3 (.slice q am u) j :: _ :: G) ?_
 refine aY 0 aH ?_
 rintro rfl
 refine lO (vz (.agg [(sc q j u), (.slice none 0 0)].toArray) (bW fF dC R R)) (bM R R dC (fun F => (aU 0 R R bO R R R R R R (lN (aK F [(sc q j u), (.slice none 0 0)] 26 :: _ :: _ :: G) ?_))))
 refine aC (aB (aD ?_))
 obtain ⟨g, ai, D⟩ := bd D
 refine aA (lO (vz (.agg [(sc A5 v4.Dims D5), (sc A6 v4.Strides D6), (iv v4.Offset), (iv v4.Base)].toArray) (bF 3 fc dZ R R R R)) (lM (RR kT3 A5 D5 v4.Dims :: RR kT3 A6 D6 v4.Strides :: aK _ _ _ :: ow _ _ _ _ :: aK _ _ _ :: G) (fun w s => (((s.d 7 R).d 9 R).e 5 [1, 0, 2, 3, 4])) ?_))
 refine lC 2 wo R (Z06_ok ai) R ?_
 rintro ⟨a1, an, U⟩
 refine lN (ow kT3 3 (.slice a1 an U) g :: _ :: _ :: _ :: G) ?_
 refine aY 0 aH ?_
 rintro rfl
 refine lS R (aC (aB (aD (bS (A := ((List Int)) × (HH)) (fun a => Zx_J1 j a.1 = some r) (fun a => [(4, (pt b9 0)), (5, (pt F 0))]) (fun a => aK b9 [(.slice none 0 0), (.slice none 0 0)] 26 :: aK F [(sc q j u), (.slice a.2.1 a.2.2.1 a.2.2.2)] 26 :: OO kT3 3 q u j :: ow kT3 3 (.slice a.2.1 a.2.2.1 a.2.2.2) a.1 :: G) ?_ ?_))))
 refine aD (aA (lI R (aC (aB (aM ?_)))))
 obtain ⟨e1, aw, av⟩ := bd D
 refine bQ (A := HH) aw (fun s a => [(2, (pt b7 0)), (4, (pt b9 0)), (5, (pt F 0)), (6, (sc a1 g U)), (7, (iv s.2))]) (fun s a => aK b9 [(.slice none 0 0), (.slice none 0 0)] 26 :: aK F [(sc q j u), (.slice a.1 a.2.1 a.2.2)] 26 :: OO kT3 3 q u j :: ow kT3 3 (.slice a.1 a.2.1 a.2.2) s.1 :: OO kT3 3 a1 U g :: G) (none, 0, 0) (aS R) (fun w s => ((s.nilo kT3 3).e 5 [4, 2, 3, 0, 1])) ?_
 rintro ⟨E, m⟩ ⟨a2, ao, a3⟩ σ1 aj D au
 replace D : Zx_L1 t1 g E m = some aj := D
 unfold Zx_L1 at D
 refine cD 3 aH (fun (hn : ao = E.length) => ?_)
 subst hn
 refine aD (aD (aA (lI R (lS R (lO (bR aV R) (lO (dQ R R) (aC (aB ?_))))))))
 rcases bG D with ⟨a5, D⟩ | ⟨a5, D⟩
 refine aL R a5 (aN (aB (aD (aM ?_))))
 obtain ⟨a6, D⟩ := gd D
 obtain ⟨a7, D⟩ := gd D
 obtain ⟨a8, D⟩ := gd D
 refine jU (A := (Unit) × (HH)) (fun _ => True) (fun a => [(2, (pt b7 0)), (4, (pt b9 0)), (5, (pt F 0)), (6, (sc a1 g U)), (7, (iv m))]) (fun a => aK b9 [(.slice none 0 0), (.slice none 0 0)] 26 :: aK F [(sc q j u), (.slice a.2.1 a.2.2.1 a.2.2.2)] 26 :: OO kT3 3 q u j :: ow kT3 3 (.slice a.2.1 a.2.2.1 a.2.2.2) (E ++ ([(ix t1.Data (ix g m))] : List Int)) :: OO kT3 3 a1 U g :: G) ?_ ?_
 refine bZ 4 aH (show 0 < g.length by have := a6; omega) (fun ar o41 ha => ?_)
 subst ha
 refine bZ 8 aE (show 0 < t1.Data.length by have := a7; omega) (fun ax o44 ha => ?_)
 subst ha
 refine eI 14 [3, 1] cF (fun ht hn => (dR 0 R (bT 1 cA R) (hS := (sL [3, 1])) (dR 2 R (bT 1 cA R) (hS := (sL [3, 1])) (dR 3 R (bV 4 bK R R R) (hS := (sL [3, 1])) (dR 4 R (vS R) (hS := (sL [3, 1])) (dR 5 R (vI R) (hS := (sL [3, 1])) (dR 6 R (cK aV bX R R a6) (hS := (sL [3, 1])) (dR 7 R (dL 2 cE aH R a6) (hS := (sL [3, 1])) (dR 8 R (cK aV bX R R a7) (hS := (sL [3, 1])) (dR 9 R (dL 6 cE aE R a7) (hS := (sL [3, 1])) (i0 [1, 10] (by kernel_rfl) R ⟨?_, ?_, trivial⟩)))))))))))
 refine lO (bV 1 bK R R R) (aC (aP (sL [3, 1]) (d1 10 R (cC (K := kT3) (xs := ([(ix t1.Data (ix g m))] : List Int)) (vs := [(iv (ix t1.Data (ix g m)))]) 0 R R aV bX fj R R R R R R ?_ R (fun a9 aa => ?_)))))
 exact fun I h s => (fw).list [((), (ix t1.Data (ix g m)))] I h s
 refine lN (OO kT3 3 a9 aa ([(ix t1.Data (ix g m))] : List Int) :: _ :: aK F [(sc q j u), (sc a2 E a3)] 26 :: _ :: OO kT3 3 a2 a3 E :: OO kT3 3 (ad ar o41) U g :: G) ?_
 refine aC (aP (sL [4, 2, 0]) (d1 11 R (lM (ow _ _ _ _ :: ow _ _ _ _ :: aK _ _ _ :: aK _ _ _ :: ow _ _ _ _ :: ow _ _ _ _ :: G) (fun w s => (s.e 6 [4, 0, 1, 2, 3, 5])) ?_)))
 refine f6 (K := kT3) 17592186044416 R R aV bX ii (Zr.zk zT3 fj) R R R R R R eM a8 (fun L M => (lN (OO kT3 3 L M (E ++ ([(ix t1.Data (ix g m))] : List Int)) :: _ :: _ :: _ :: _ :: G) ?_))
 refine aC (aP (sL [2, 0]) (dR 12 R (bT 1 cA R) (hS := (sL [2, 0])) (d1 13 R (dP 2 R R fk R R R R R (lN (_ :: _ :: aK F [(sc q j u), (sc L (E ++ ([(ix t1.Data (ix g m))] : List Int)) M)] 26 :: _ :: _ :: G) ?_)))))
 refine aC (aP (sL [2, 0]) (dD ?_))
 exact eF ((), (L, (E ++ ([(ix t1.Data (ix g m))] : List Int)).length, M)) trivial (aS R) (fun w s => (s.e 5 [1, 2, 3, 0, 4]))
 refine cC (K := kT3) (xs := ([(ix t1.Data (ix g m))] : List Int)) (vs := [(iv (ix t1.Data (ix g m)))]) 0 R R aV bX fj R R R R R R ?_ R (fun a9 aa => ?_)
 exact fun I h s => (fw).list [((), (ix t1.Data (ix g m)))] I h s
 refine lN (OO kT3 3 a9 aa ([(ix t1.Data (ix g m))] : List Int) :: _ :: aK F [(sc q j u), (sc a2 E a3)] 26 :: _ :: OO kT3 3 a2 a3 E :: _ :: G) ?_
 refine aC (aP (sL [4, 2, 0]) (d1 1 R (lO (bV 2 bK R R R) (aC (aP (sL [4, 2, 0]) (d1 11 R (lM (ow _ _ _ _ :: ow _ _ _ _ :: aK _ _ _ :: aK _ _ _ :: ow _ _ _ _ :: ow _ _ _ _ :: G) (fun w s => (s.e 6 [4, 0, 1, 2, 3, 5])) ?_)))))))
 refine f6 (K := kT3) 17592186044416 R R aV bX ii (Zr.zk zT3 fj) R R R R R R eM a8 (fun L M => (lN (OO kT3 3 L M (E ++ ([(ix t1.Data (ix g m))] : List Int)) :: _ :: _ :: _ :: _ :: G) ?_))
 refine aC (aP (sL [2, 0]) (dR 12 R (bT 1 cA R) (hS := (sL [2, 0])) (d1 13 R (dP 2 R R fk R R R R R (lN (_ :: _ :: aK F [(sc q j u), (sc L (E ++ ([(ix t1.Data (ix g m))] : List Int)) M)] 26 :: _ :: _ :: G) ?_)))))
 refine aC (aP (sL [2, 0]) (dD ?_))
 exact eF ((), (L, (E ++ ([(ix t1.Data (ix g m))] : List Int)).length, M)) trivial (aS R) (fun w s => (s.e 5 [1, 2, 3, 0, 4]))
 rintro ⟨_, ⟨ak, ap, al⟩⟩ σ1 -
 refine je 3 aH (fun (hn : ap = (E ++ ([(ix t1.Data (ix g m))] : List Int)).length) => ?_)
 subst hn
 refine aZ (aB (aA (lI R (lO (cX R R) (lI R (aC ?_))))))
 obtain rfl := so D
 exact qA (ak, (E ++ ([(ix t1.Data (ix g m))] : List Int)).length, al) (fun w s => s)
 refine aI R a5 (bP (aR ?_))
 obtain rfl := so D
 obtain rfl := au _ R
 have D := av
 refine aR (bE ?_)
 exact qI (E, (a2, E.length, a3)) D (fun w s => (s.f 5 [0, 4]))
 rintro ⟨J, ⟨T, aq, a0⟩⟩ σ1 D
 replace D : Zx_J1 j J = some r := D
 unfold Zx_J1 at D
 refine cD 3 aH (fun (hn : aq = J.length) => ?_)
 subst hn
 refine aD (aA (lO (vz (.agg [(sc q j u), (sc T J a0)].toArray) (bF 1 cJ bO R R R R)) (aU 0 R R bO R R R R R R (lN (aK b9 [(sc q j u), (sc T J a0)] 26 :: aK F [(sc q j u), (sc T J a0)] 26 :: _ :: OO kT3 3 T a0 J :: G) ?_))))
 refine aC (aB (aW ?_))
 obtain rfl := so D
 exact bU (vs := [(.agg [(sc q j u), (sc T J a0)].toArray)]) (.inl R) ((q, j.length, u), (T, J.length, a0)) R ⟨⟨0, b9, _, _, R, R, .inl ⟨cJ, bO, R⟩⟩, trivial⟩ R (fun w s => (s.e 10 [2, 3]))
end Go.Proofs.YthfhllekobdelaaGreatDoor
