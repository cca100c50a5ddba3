import Derived.Test.YthelanpdjajnbaaGreatBnF
import Derived.Test.YthelanpdjajnbaaGreatBnW2
import Derived.Test.YthelanpdjajnbaaGreatBnW4
set_option linter.unusedVariables false
set_option maxRecDepth 20000
namespace Go.Proofs.YthelanpdjajnbaaGreat
open Go Go.Pg
variable {A2 A3 A6 A7:Option Addr}{D2 D3 D6 D7 N2 N3 N6 N7:Nat}
theorem Z0b_ok  {g1:Graph}{m:Int}{t5:Tensor}{r:Graph×Bool}(q:Z0b g1 m t5=some r) :
 FnOk Tryz.prog 14 [(.agg [(.slice A2 N2 D2),(.slice A3 N3 D3)].toArray),(iv m),(.agg [(.slice A6 N6 D6),(.slice A7 N7 D7)].toArray)] [aQ kT65 (.slice A2 N2 D2) g1.Nodes,aQ kT3 (.slice A3 N3 D3) g1.Outs,aQ kT3 (.slice A6 N6 D6) t5.Dims,aQ kT3 (.slice A7 N7 D7) t5.Data] (fun (h:HH×HH)=>((.tuple [(.agg [(.slice h.1.1 h.1.2.1 h.1.2.2),(.slice h.2.1 h.2.2.1 h.2.2.2)].toArray),(.bool r.2)].toArray),[ow kT65 65 (.slice h.1.1 h.1.2.1 h.1.2.2) r.1.Nodes,ow kT3 3 (.slice h.2.1 h.2.2.1 h.2.2.2) r.1.Outs])):=by
 unfold Z0b at q
 refine aR Tryz.func14 R 85 R R fun C V=>?_
 refine cN (_::_::_::_::V) ?_
 refine cL 0 aA ?_
 rintro rfl
 refine cL 1 aA ?_
 rintro rfl
 refine cL 2 aA ?_
 rintro rfl
 refine cL 3 aA ?_
 rintro rfl
 let W0:List HP:=RR kT65 A2 D2 g1.Nodes::RR kT3 A3 D3 g1.Outs::RR kT3 A6 D6 t5.Dims::RR kT3 A7 D7 t5.Data::V
 refine cN W0 ?_
 refine aI (aD (eA R (fun b8=>(eA R (fun b9=>(aY R R ji (fun T=>(lB R (aC ?_)))))))))
 let u:List HP:=aJ b9 [(sc A6 t5.Dims D6),(sc A7 t5.Data D7)] 42::aJ b8 [(sc A2 g1.Nodes D2),(sc A3 g1.Outs D3)] 31::W0
 refine qN (_::u) ?_
 refine aE (aI (aI ?_))
 obtain ⟨a3,O,q⟩:=bd q
 obtain ⟨E,q⟩:=gd q
 obtain ⟨a4,ac,q⟩:=bd q
 obtain ⟨aa,q⟩:=gd q
 obtain ⟨a5,bh,q⟩:=bd q
 refine cQ [(1,(iv m)),(3,(pt b8 0)),(5,(pt b9 0)),(6,(pt T 0)),(49,(.bool ((((((!a3)||(decide (m<(0:Int))))||(decide (m≥(g1.Nodes.length:Int))))||((ix g1.Nodes m).Op != (1:Int)))||(!a4))||(!a5))))] (aJ T [(.slice none 0 0),(.slice none 0 0)] 31::u) ?_ ?_
 rcases bo (!a3) with i | i
 refine cX 40 [] bM (fun ht hn=>(dR 0 R (vz (.agg [(sc A2 g1.Nodes D2),(sc A3 g1.Outs D3)].toArray) (bK 2 gK eG R R R R)) (d1 1 R (lM (RR kT65 A2 D2 g1.Nodes::RR kT3 A3 D3 g1.Outs::aJ _ _ _::u) (fun w s=>(((s.d 3 R).d 5 R).e 3 [1,0,2])) ?_))))
 refine lC 2 rE R (Z1v_ok O) R ?_
 rintro _
 refine lN (_::u) ?_
 refine aC (aG (sL []) (dR 2 R (ki R) (dR 3 R (vB R) (dF 4 R (bN i) (dF 5 R (bN i) (dR 6 R (dX (decide (m<(0:Int))) R i) (dR 7 R (vB R) (dF 8 R (bN (oT i)) (dF 9 R (bN (oT i)) (dF 10 R (bN (oT i)) (dF 11 R (bN (oT i)) (dF 12 R (bN (oT i)) (dR 13 R (dX (decide (m≥(g1.Nodes.length:Int))) R (oT i)) (dR 14 R (vB R) (dF 15 R (bN (oT (oT i))) (dF 16 R (bN (oT (oT i))) (dF 17 R (bN (oT (oT i))) (dF 18 R (bN (oT (oT i))) (dF 19 R (bN (oT (oT i))) (dF 20 R (bN (oT (oT i))) (dF 21 R (bN (oT (oT i))) (dR 22 R (dX ((ix g1.Nodes m).Op != (1:Int)) R (oT (oT i))) (dR 23 R (vB R) (dF 24 R (bN (oT (oT (oT i)))) (dF 25 R (bN (oT (oT (oT i)))) (dF 26 R (bN (oT (oT (oT i)))) (dR 27 R (dX (!a4) R (oT (oT (oT i)))) (dR 28 R (vB R) (dF 29 R (bN (oT (oT (oT (oT i))))) (dF 30 R (bN (oT (oT (oT (oT i))))) (dF 31 R (bN (oT (oT (oT (oT i))))) (dF 32 R (bN (oT (oT (oT (oT i))))) (dF 33 R (bN (oT (oT (oT (oT i))))) (dF 34 R (bN (oT (oT (oT (oT i))))) (dF 35 R (bN (oT (oT (oT (oT i))))) (dF 36 R (bN (oT (oT (oT (oT i))))) ?_))))))))))))))))))))))))))))))))))))
 refine dF 37 R (bN (oT (oT (oT (oT i))))) (dF 38 R (bN (oT (oT (oT (oT i))))) (dR 39 R (dX (!a5) R (oT (oT (oT (oT i))))) (dD ?_)))
 exact qJ (fun w s=>s)
 rcases bo ((!a3)||(decide (m<(0:Int)))) with g | g
 refine cX 40 [] bM (fun ht hn=>(dR 0 R (vz (.agg [(sc A2 g1.Nodes D2),(sc A3 g1.Outs D3)].toArray) (bK 2 gK eG R R R R)) (d1 1 R (lM (RR kT65 A2 D2 g1.Nodes::RR kT3 A3 D3 g1.Outs::aJ _ _ _::u) (fun w s=>(((s.d 3 R).d 5 R).e 3 [1,0,2])) ?_))))
 refine lC 2 rE R (Z1v_ok O) R ?_
 rintro _
 refine lN (_::u) ?_
 refine aC (aG (sL []) (dR 2 R (ki R) (dR 3 R (vB R) (dW 4 R (bJ i) (vI R) (dW 5 R (bJ i) (jh R R) (dR 6 R (eH R i R) (dR 7 R (vB R) (dF 8 R (bN g) (dF 9 R (bN g) (dF 10 R (bN g) (dF 11 R (bN g) (dF 12 R (bN g) (dR 13 R (dX (decide (m≥(g1.Nodes.length:Int))) R g) (dR 14 R (vB R) (dF 15 R (bN (oT g)) (dF 16 R (bN (oT g)) (dF 17 R (bN (oT g)) (dF 18 R (bN (oT g)) (dF 19 R (bN (oT g)) (dF 20 R (bN (oT g)) (dF 21 R (bN (oT g)) (dR 22 R (dX ((ix g1.Nodes m).Op != (1:Int)) R (oT g)) (dR 23 R (vB R) (dF 24 R (bN (oT (oT g))) (dF 25 R (bN (oT (oT g))) (dF 26 R (bN (oT (oT g))) (dR 27 R (dX (!a4) R (oT (oT g))) (dR 28 R (vB R) (dF 29 R (bN (oT (oT (oT g)))) (dF 30 R (bN (oT (oT (oT g)))) (dF 31 R (bN (oT (oT (oT g)))) (dF 32 R (bN (oT (oT (oT g)))) (dF 33 R (bN (oT (oT (oT g)))) (dF 34 R (bN (oT (oT (oT g)))) (dF 35 R (bN (oT (oT (oT g)))) (dF 36 R (bN (oT (oT (oT g)))) (dF 37 R (bN (oT (oT (oT g)))) (dF 38 R (bN (oT (oT (oT g)))) (dR 39 R (dX (!a5) R (oT (oT (oT g)))) (dD ?_))))))))))))))))))))))))))))))))))))))))
 exact qJ (fun w s=>s)
 rcases bo (((!a3)||(decide (m<(0:Int))))||(decide (m≥(g1.Nodes.length:Int)))) with b | b
 refine cX 40 [] bM (fun ht hn=>(dR 0 R (vz (.agg [(sc A2 g1.Nodes D2),(sc A3 g1.Outs D3)].toArray) (bK 2 gK eG R R R R)) (d1 1 R (lM (RR kT65 A2 D2 g1.Nodes::RR kT3 A3 D3 g1.Outs::aJ _ _ _::u) (fun w s=>(((s.d 3 R).d 5 R).e 3 [1,0,2])) ?_))))
 refine lC 2 rE R (Z1v_ok O) R ?_
 rintro _
 refine lN (_::u) ?_
 refine aC (aG (sL []) (dR 2 R (ki R) (dR 3 R (vB R) (dW 4 R (bJ i) (vI R) (dW 5 R (bJ i) (jh R R) (dR 6 R (eH R i R) (dR 7 R (vB R) (dW 8 R (bJ g) (vI R) (dW 9 R (bJ g) (dS 0 eF R) (dW 10 R (bJ g) (dV 2 iO R R R) (dW 11 R (bJ g) (gV fX R) (dW 12 R (bJ g) (s7 R R) (dR 13 R (eH R g R) (dR 14 R (vB R) (dF 15 R (bN b) (dF 16 R (bN b) (dF 17 R (bN b) (dF 18 R (bN b) (dF 19 R (bN b) (dF 20 R (bN b) (dF 21 R (bN b) (dR 22 R (dX ((ix g1.Nodes m).Op != (1:Int)) R b) (dR 23 R (vB R) (dF 24 R (bN (oT b)) (dF 25 R (bN (oT b)) (dF 26 R (bN (oT b)) (dR 27 R (dX (!a4) R (oT b)) (dR 28 R (vB R) (dF 29 R (bN (oT (oT b))) (dF 30 R (bN (oT (oT b))) (dF 31 R (bN (oT (oT b))) (dF 32 R (bN (oT (oT b))) (dF 33 R (bN (oT (oT b))) (dF 34 R (bN (oT (oT b))) (dF 35 R (bN (oT (oT b))) (dF 36 R (bN (oT (oT b))) (dF 37 R (bN (oT (oT b))) (dF 38 R (bN (oT (oT b))) (dR 39 R (dX (!a5) R (oT (oT b))) (dD ?_))))))))))))))))))))))))))))))))))))))))
 exact qJ (fun w s=>s)
 rcases bo ((((!a3)||(decide (m<(0:Int))))||(decide (m≥(g1.Nodes.length:Int))))||((ix g1.Nodes m).Op != (1:Int))) with l | l
 refine bA 3 aA (show 0<g1.Nodes.length by have:=(E b); omega) (fun L o15 ha=>?_)
 subst ha
 refine cX 40 [] bM (fun ht hn=>(dR 0 R (vz (.agg [(sc (ad L o15) g1.Nodes D2),(sc A3 g1.Outs D3)].toArray) (bK 2 gK eG R R R R)) (d1 1 R (lM (RR kT65 (ad L o15) D2 g1.Nodes::RR kT3 A3 D3 g1.Outs::aJ _ _ _::u) (fun w s=>(((s.d 3 R).d 5 R).e 3 [1,0,2])) ?_))))
 refine lC 2 rE R (Z1v_ok O) R ?_
 rintro _
 refine lN (_::u) ?_
 refine aC (aG (sL []) (dR 2 R (ki R) (dR 3 R (vB R) (dW 4 R (bJ i) (vI R) (dW 5 R (bJ i) (jh R R) (dR 6 R (eH R i R) (dR 7 R (vB R) (dW 8 R (bJ g) (vI R) (dW 9 R (bJ g) (dS 0 eF R) (dW 10 R (bJ g) (dV 2 iO R R R) (dW 11 R (bJ g) (gV fX R) (dW 12 R (bJ g) (s7 R R) (dR 13 R (eH R g R) (dR 14 R (vB R) (dW 15 R (bJ b) (dS 0 eF R) (dW 16 R (bJ b) (dV 2 iO R R R) (dW 17 R (bJ b) (vI R) (dW 18 R (bJ b) (eE fX eY R R (E b)) (dW 19 R (bJ b) (vz (.pointer (some ⟨L,o15+m.toNat*6,none⟩)) (gN fS R R)) (dW 20 R (bJ b) (vz (iv (ix g1.Nodes m).Op) (gW (K:=kT65) (fo:=0) (pr:=fun x=>(iv x.Op)) 3 m fR (dT65.leaf fun _ _=>R) aA R (E b).1 (E b).2)) (dW 21 R (bJ b) (sI R R) (dR 22 R (eH R b R) (dR 23 R (vB R) (dF 24 R (bN l) (dF 25 R (bN l) (dF 26 R (bN l) (dR 27 R (dX (!a4) R l) (dR 28 R (vB R) (dF 29 R (bN (oT l)) (dF 30 R (bN (oT l)) (dF 31 R (bN (oT l)) (dF 32 R (bN (oT l)) (dF 33 R (bN (oT l)) (dF 34 R (bN (oT l)) (dF 35 R (bN (oT l)) ?_)))))))))))))))))))))))))))))))))))
 refine dF 36 R (bN (oT l)) (dF 37 R (bN (oT l)) (dF 38 R (bN (oT l)) (dR 39 R (dX (!a5) R (oT l)) (dD ?_))))
 exact qJ (fun w s=>s)
 rcases bo (((((!a3)||(decide (m<(0:Int))))||(decide (m≥(g1.Nodes.length:Int))))||((ix g1.Nodes m).Op != (1:Int)))||(!a4)) with j | j
 refine bA 3 aA (show 0<g1.Nodes.length by have:=(E b); omega) (fun L o15 ha=>?_)
 subst ha
 refine cX 40 [] bM (fun ht hn=>(dR 0 R (vz (.agg [(sc (ad L o15) g1.Nodes D2),(sc A3 g1.Outs D3)].toArray) (bK 2 gK eG R R R R)) (d1 1 R (lM (RR kT65 (ad L o15) D2 g1.Nodes::RR kT3 A3 D3 g1.Outs::aJ _ _ _::u) (fun w s=>(((s.d 3 R).d 5 R).e 3 [1,0,2])) ?_))))
 refine lC 2 rE R (Z1v_ok O) R ?_
 rintro _
 refine lN (_::u) ?_
 refine aC (aG (sL []) (dR 2 R (ki R) (dR 3 R (vB R) (dW 4 R (bJ i) (vI R) (dW 5 R (bJ i) (jh R R) (dR 6 R (eH R i R) (dR 7 R (vB R) (dW 8 R (bJ g) (vI R) (dW 9 R (bJ g) (dS 0 eF R) (dW 10 R (bJ g) (dV 2 iO R R R) (dW 11 R (bJ g) (gV fX R) (dW 12 R (bJ g) (s7 R R) (dR 13 R (eH R g R) (dR 14 R (vB R) (dW 15 R (bJ b) (dS 0 eF R) (dW 16 R (bJ b) (dV 2 iO R R R) (dW 17 R (bJ b) (vI R) (dW 18 R (bJ b) (eE fX eY R R (E b)) (dW 19 R (bJ b) (vz (.pointer (some ⟨L,o15+m.toNat*6,none⟩)) (gN fS R R)) (dW 20 R (bJ b) (vz (iv (ix g1.Nodes m).Op) (gW (K:=kT65) (fo:=0) (pr:=fun x=>(iv x.Op)) 3 m fR (dT65.leaf fun _ _=>R) aA R (E b).1 (E b).2)) (dW 21 R (bJ b) (sI R R) (dR 22 R (eH R b R) (dR 23 R (vB R) (dW 24 R (bJ l) (vz (.agg [(sc A6 t5.Dims D6),(sc A7 t5.Data D7)].toArray) (bK 1 eR bW R R R R)) (d1 25 R (lM (RR kT3 A6 D6 t5.Dims::RR kT3 A7 D7 t5.Data::aJ _ _ _::u) (fun w s=>(((s.d 5 R).d 7 R).e 3 [1,0,2])) ?_))))))))))))))))))))))))))
 refine bY 2 R (bJ l) mL R (Zi_ok (bL ac (cP l))) R ?_
 rintro _
 refine lN (_::u) ?_
 refine aC (aG (sL []) (dW 26 R (bJ l) (ki R) (dR 27 R (eH R l R) (dR 28 R (vB R) (dF 29 R (bN j) (dF 30 R (bN j) (dF 31 R (bN j) (dF 32 R (bN j) (dF 33 R (bN j) (dF 34 R (bN j) (dF 35 R (bN j) (dF 36 R (bN j) (dF 37 R (bN j) (dF 38 R (bN j) (dR 39 R (dX (!a5) R j) (dD ?_))))))))))))))))
 exact qJ (fun w s=>s)
 refine bA 3 aA (show 0<g1.Nodes.length by have:=(E b); omega) (fun L o15 ha=>?_)
 subst ha
 refine dG (K:=kT65) 3 m dT65.dec R (aa j).1 (aa j).2 ?_
 rintro ⟨-,⟨b5,bb⟩,⟨b6,bc⟩,⟨b7,be⟩,-,⟨ba,bf⟩⟩
 refine cN (cl L (o15+m.toNat*6) [(iv (ix g1.Nodes m).Op),(sc b5 ((ix g1.Nodes m).Args) bb),(sc b6 ((ix g1.Nodes m).Dims) bc),(sc b7 ((ix g1.Nodes m).Ints) be),(aH (ix g1.Nodes m).Form),(sc ba ((ix g1.Nodes m).Data) bf)]::RR kT3 b5 bb ((ix g1.Nodes m).Args)::RR kT3 b6 bc ((ix g1.Nodes m).Dims)::RR kT3 b7 be ((ix g1.Nodes m).Ints)::RR kT3 ba bf ((ix g1.Nodes m).Data)::_::u) ?_
 refine cX 40 [] bM (fun ht hn=>(dR 0 R (vz (.agg [(sc (ad L o15) g1.Nodes D2),(sc A3 g1.Outs D3)].toArray) (bK 7 gK eG R R R R)) (d1 1 R (lM (RR kT65 (ad L o15) D2 g1.Nodes::RR kT3 A3 D3 g1.Outs::cl _ _ _::aQ _ _ _::aQ _ _ _::aQ _ _ _::aQ _ _ _::aJ _ _ _::u) (fun w s=>(((s.d 8 R).d 10 R).f 8 [1,1,0,1,2,6])) ?_))))
 refine lC 2 rE R (Z1v_ok O) R ?_
 rintro _
 refine lN (_::_::_::_::_::_::u) ?_
 refine aC (aG (sL []) (dR 2 R (ki R) (dR 3 R (vB R) (dW 4 R (bJ i) (vI R) (dW 5 R (bJ i) (jh R R) (dR 6 R (eH R i R) (dR 7 R (vB R) (dW 8 R (bJ g) (vI R) (dW 9 R (bJ g) (dS 0 eF R) (dW 10 R (bJ g) (dV 7 iO R R R) (dW 11 R (bJ g) (gV fX R) (dW 12 R (bJ g) (s7 R R) (dR 13 R (eH R g R) (dR 14 R (vB R) (dW 15 R (bJ b) (dS 0 eF R) (dW 16 R (bJ b) (dV 7 iO R R R) (dW 17 R (bJ b) (vI R) (dW 18 R (bJ b) (eE fX eY R R (E b)) (dW 19 R (bJ b) (vz (.pointer (some ⟨L,o15+m.toNat*6,none⟩)) (gN fS R R)) (dW 20 R (bJ b) (vz (iv (ix g1.Nodes m).Op) (gW (K:=kT65) (fo:=0) (pr:=fun x=>(iv x.Op)) 8 m fR (dT65.leaf fun _ _=>R) aA R (E b).1 (E b).2)) (dW 21 R (bJ b) (sI R R) (dR 22 R (eH R b R) (dR 23 R (vB R) (dW 24 R (bJ l) (vz (.agg [(sc A6 t5.Dims D6),(sc A7 t5.Data D7)].toArray) (bK 6 eR bW R R R R)) (d1 25 R ?_)))))))))))))))))))))))))
 refine lM (RR kT3 A6 D6 t5.Dims::RR kT3 A7 D7 t5.Data::cl _ _ _::aQ _ _ _::aQ _ _ _::aQ _ _ _::aQ _ _ _::aJ _ _ _::u) (fun w s=>(((s.d 10 R).d 12 R).f 8 [1,1,0,1,2,6])) ?_
 refine bY 2 R (bJ l) mL R (Zi_ok (bL ac (cP l))) R ?_
 rintro _
 refine lN (_::_::_::_::_::_::u) ?_
 refine aC (aG (sL []) (dW 26 R (bJ l) (ki R) (dR 27 R (eH R l R) (dR 28 R (vB R) (dW 29 R (bJ j) (dS 0 fT R) (dW 30 R (bJ j) (dV 6 cB R R R) (dW 31 R (bJ j) (dS 0 eF R) (dW 32 R (bJ j) (dV 7 iO R R R) (dW 33 R (bJ j) (vI R) (dW 34 R (bJ j) (eE fX eY R R (aa j)) (dW 35 R (bJ j) (vz (.pointer (some ⟨L,o15+m.toNat*6+2,none⟩)) (gN iG R R)) (dW 36 R (bJ j) (eD (fo:=2) 0 cB R R R) (d1 37 R (lM (RR kT3 A6 D6 t5.Dims::aQ _ _ _::cl _ _ _::aQ _ _ _::aQ _ _ _::aQ _ _ _::aQ _ _ _::aJ _ _ _::u) (fun w s=>(((s.d 10 R).d 3 R).f 8 [1,1,0,1,2,6])) ?_))))))))))))))
 refine bY 2 R (bJ j) uP R (Zv_ok (bL bh (cP j))) R ?_
 rintro _
 refine lN (_::_::_::_::_::_::u) ?_
 refine aC (aG (sL []) (dW 38 R (bJ j) (ki R) (dR 39 R (eH R j R) (dD ?_))))
 exact qJ (fun w s=>(s.e 6 [5]))
 rintro σ1
 refine aE ?_
 rcases cG q with ⟨a8,q⟩|⟨a8,q⟩
 refine bS R a8 (aI (aD (lO (vz (.agg [(.slice none 0 0),(.slice none 0 0)].toArray) (aV uU ji R R)) (aL 0 R R eG R R R R R R (lN (_::u) ?_)))))
 refine lB R (aC (aE (bO (bP ?_))))
 obtain rfl:=so q
 exact cY (vs:=[(.agg [(.slice none 0 0),(.slice none 0 0)].toArray),(.bool false)]) (.inl R) ((none,0,0),(none,0,0)) R ⟨⟨0,T,_,_,R,R,.inl ⟨gK,eG,R⟩⟩,R,trivial⟩ R (fun w s=>(((s.nilo kT65 65).nilo kT3 3).e 9 [1,0]))
 refine bC R a8 (bZ (aE (aI ?_)))
 obtain ⟨F,bi,q⟩:=bd q
 refine aD (lO (dS 1 nQ R) (lO (dV 2 cB R R R) (lM (RR kT3 A3 D3 g1.Outs::_::u) (fun w s=>(s.d 4 R)) ?_)))
 refine lC 1 iP R (Z9_ok bi) R ?_
 rintro ⟨G,bq,J⟩
 refine lN (ow kT3 3 (.slice G bq J) F::_::u) ?_
 refine aM 0 aB ?_
 rintro rfl
 refine lO (vz (.agg [(.slice none 0 0),(sc G F J)].toArray) (aV uU ji R R)) (aY R R ji (fun Z=>(aL 0 R R eG R R R R R R (lN (aJ Z [(.slice none 0 0),(sc G F J)] 31::_::_::u) ?_))))
 refine aC (aE (aI (bE (A:=((List Node))×(HH)) (fun a=>Z0b_J1 m t5 F a.1=some r) (fun a=>[(1,(iv m)),(5,(pt b9 0)),(6,(pt T 0)),(8,(pt Z 0))]) (fun a=>aJ T [(.slice none 0 0),(.slice none 0 0)] 31::aJ Z [(.slice a.2.1 a.2.2.1 a.2.2.2),(sc G F J)] 31::ow kT65 65 (.slice a.2.1 a.2.2.1 a.2.2.2) a.1::OO kT3 3 G J F::u) ?_ ?_)))
 refine aI (aD (lI R (aC (aE (dK ?_)))))
 obtain ⟨e1,c5,c4⟩:=bd q
 refine bF (A:=HH) c5 (fun s a=>[(1,(iv m)),(3,(pt b8 0)),(5,(pt b9 0)),(6,(pt T 0)),(8,(pt Z 0)),(9,(iv s.2))]) (fun s a=>aJ T [(.slice none 0 0),(.slice none 0 0)] 31::aJ Z [(.slice a.1 a.2.1 a.2.2),(sc G F J)] 31::ow kT65 65 (.slice a.1 a.2.1 a.2.2) s.1::OO kT3 3 G J F::u) (none,0,0) (aS R) (fun w s=>((s.nilo kT65 65).e 4 [3,1,0,2])) ?_
 rintro ⟨U,D⟩ ⟨ae,br,ar⟩ σ1 bm q c3
 replace q:Z0b_L1 g1 U D=some bm:=q
 unfold Z0b_L1 at q
 refine bQ 2 aB (fun (hn:br=U.length)=>?_)
 subst hn
 refine aI (aI (aD (lI R (lO (dS 0 eF R) (lO (dV 5 iO R R R) (lO (gV fX R) (lO (jh R R) (aC (aE ?_)))))))))
 rcases cG q with ⟨a9,q⟩|⟨a9,q⟩
 refine bS R a9 (bZ (aE (aI (dK ?_))))
 obtain ⟨a1,q⟩:=gd q
 obtain ⟨B,bj,q⟩:=bd q
 obtain ⟨bg,q⟩:=gd q
 refine bA 6 aA (show 0<g1.Nodes.length by have:=a1; omega) (fun c2 o58 ha=>?_)
 subst ha
 refine dG (K:=kT65) 6 D dT65.dec R a1.1 a1.2 ?_
 rintro ⟨-,⟨ag,au⟩,⟨ah,av⟩,⟨ai,aw⟩,-,⟨aj,ax⟩⟩
 refine cN (cl c2 (o58+D.toNat*6) [(iv (ix g1.Nodes D).Op),(sc ag ((ix g1.Nodes D).Args) au),(sc ah ((ix g1.Nodes D).Dims) av),(sc ai ((ix g1.Nodes D).Ints) aw),(aH (ix g1.Nodes D).Form),(sc aj ((ix g1.Nodes D).Data) ax)]::RR kT3 ag au ((ix g1.Nodes D).Args)::RR kT3 ah av ((ix g1.Nodes D).Dims)::RR kT3 ai aw ((ix g1.Nodes D).Ints)::RR kT3 aj ax ((ix g1.Nodes D).Data)::_::aJ Z [(sc ae U ar),(sc G F J)] 31::OO kT65 65 ae ar U::_::u) ?_
 refine cX 9 [] bM (fun ht hn=>(dR 0 R (dS 0 eF R) (dR 1 R (dV 6 iO R R R) (dR 2 R (dS 0 eF R) (dR 3 R (dV 10 iO R R R) (dR 4 R (vI R) (dR 5 R (eE fX eY R R a1) (dR 6 R (vz (.agg [(iv (ix g1.Nodes D).Op),(sc ag ((ix g1.Nodes D).Args) au),(sc ah ((ix g1.Nodes D).Dims) av),(sc ai ((ix g1.Nodes D).Ints) aw),(aH (ix g1.Nodes D).Form),(sc aj ((ix g1.Nodes D).Data) ax)].toArray) (eJ (fo:=0) 0 ni eY R R R R)) (d1 7 R (lM (aQ _ _ _::aQ _ _ _::aQ _ _ _::aQ _ _ _::cl _ _ _::aQ _ _ _::aQ _ _ _::aQ _ _ _::aQ _ _ _::aJ _ _ _::aJ _ _ _::ow _ _ _ _::ow _ _ _ _::u) (fun w s=>(((((s.d 1 R).d 3 R).d 5 R).d 7 R).f 13 [3,1,2,1,1,1,0,1,4,9])) ?_))))))))))
 refine lC 4 Bq R (Z35_ok bj) R ?_
 rintro ⟨⟨ak,bs,ay⟩,⟨al,bu,az⟩,⟨am,bv,b0⟩,⟨an,bw,b1⟩⟩
 refine lN (ow kT3 3 (.slice ak bs ay) B.Args::ow kT3 3 (.slice al bu az) B.Dims::ow kT3 3 (.slice am bv b0) B.Ints::ow kT3 3 (.slice an bw b1) B.Data::_::_::_::_::_::_::_::_::_::u) ?_
 refine aM 0 aB ?_
 rintro rfl
 refine aM 1 aB ?_
 rintro rfl
 refine aM 2 aB ?_
 rintro rfl
 refine aM 3 aB ?_
 rintro rfl
 refine aC (aG (sL [3,2,1,0]) (d1 8 R (bU (K:=kT65) (xs:=([B]:List Node)) (vs:=[(.agg [(iv B.Op),(sc ak B.Args ay),(sc al B.Dims az),(sc am B.Ints b0),(aH B.Form),(sc an B.Data b1)].toArray)]) 4 R R fX eY kA R R R R R R ?_ R (fun bn bp=>?_))))
 exact fun I h s=>(mJ).list [(((),(sc ak B.Args ay),(sc al B.Dims az),(sc am B.Ints b0),(),(sc an B.Data b1)),B)] I h s
 refine lN (OO kT65 65 bn bp ([B]:List Node)::_::_::_::_::_::_::_::_::_::u) ?_
 refine aC (aG (sL [0]) (d1 9 R (lM (ow _ _ _ _::ow _ _ _ _::cl _ _ _::aQ _ _ _::aQ _ _ _::aQ _ _ _::aQ _ _ _::aJ _ _ _::aJ _ _ _::ow _ _ _ _::u) (fun w s=>(s.f 10 [8,1,0,8,9,1])) ?_)))
 refine eO (K:=kT65) 1172812402961 R R fX eY xo (Zr.zk zT65 kA) R R R R R R dQ bg (fun ao b2=>(lN (OO kT65 65 ao b2 (U++([B]:List Node))::_::_::_::_::_::_::_::_::u) ?_))
 refine aC (qE (d1 10 R (lO (dS 0 eF R) (aC (qE (d1 11 R (cT 7 R R xq R R R R R (lN (_::_::_::_::_::_::_::aJ Z [(sc ao (U++([B]:List Node)) b2),(sc G F J)] 31::_::u) ?_))))))))
 refine aC (qE (dD (eC (aE (aD (lI R (lO (kM R R) (lI R (aC ?_)))))))))
 obtain rfl:=so q
 exact qA (ao,(U++([B]:List Node)).length,b2) (fun w s=>(s.e 9 [6,7,0,8]))
 refine bC R a9 (iB (eI ?_))
 obtain rfl:=so q
 obtain rfl:=c3 _ R
 have q:=c4
 refine eI (gM ?_)
 exact qI (U,(ae,U.length,ar)) q (fun w s=>s)
 rintro ⟨M,⟨c7,bz,Y⟩⟩ σ1 q
 replace q:Z0b_J1 m t5 F M=some r:=q
 unfold Z0b_J1 at q
 refine bQ 2 aB (fun (hn:bz=M.length)=>?_)
 subst hn
 refine aI ?_
 obtain ⟨a6,bk,q⟩:=bd q
 obtain ⟨a7,bl,q⟩:=bd q
 obtain ⟨a2,q⟩:=gd q
 refine bA 2 aB (show 0<M.length by have:=a2; omega) (fun a0 o85 ha=>?_)
 subst ha
 refine cX 12 [2] bM (fun ht hn=>(dR 0 R (dS 0 eF R) (hS:=(sL [2])) (dR 1 R (dV 1 iO R R R) (hS:=(sL [2])) (dR 2 R (vI R) (hS:=(sL [2])) (dR 3 R (dS 0 fT R) (hS:=(sL [2])) (dR 4 R (dV 3 cB R R R) (hS:=(sL [2])) (dR 6 R (dS 1 ka R) (hS:=(sL [2])) (dR 7 R (dV 3 cB R R R) (hS:=(sL [2])) (d1 5 R (lM (RR kT3 A6 D6 t5.Dims::_::aJ Z [(sc (ad a0 o85) M Y),(sc G F J)] 31::OO kT65 65 (ad a0 o85) Y M::_::u) (fun w s=>(s.d 8 R)) ?_))))))))))
 refine lC 1 iP R (Z9_ok bk) R ?_
 rintro ⟨ap,c0,b3⟩
 refine lN (ow kT3 3 (.slice ap c0 b3) a6::_::_::_::_::u) ?_
 refine aM 0 aB ?_
 rintro rfl
 refine aC (aG (sL [3,0]) (d1 8 R (lM (RR kT3 A7 D7 t5.Data::_::_::_::_::_::u) (fun w s=>(s.d 10 R)) ?_)))
 refine lC 1 iP R (Z9_ok bl) R ?_
 rintro ⟨aq,c1,b4⟩
 refine lN (ow kT3 3 (.slice aq c1 b4) a7::_::_::_::_::_::u) ?_
 refine aM 0 aB ?_
 rintro rfl
 refine aC (aG (sL [4,1,0]) (dR 9 R (vz (.agg [(iv 2),(.slice none 0 0),(sc ap a6 b3),(.slice none 0 0),(aH ([]:aO)),(sc aq a7 b4)].toArray) (aV uV kA R R)) (hS:=(sL [4,1,0])) (dR 10 R (eE fX eY R R a2) (hS:=(sL [4,1,0])) (d1 11 R (lM (ow _ _ _ _::ow kT3 3 (.slice none 0 0) ([]:List Int)::ow _ _ _ _::ow kT3 3 (.slice none 0 0) ([]:List Int)::ow _ _ _ _::aJ _ _ _::aJ _ _ _::ow _ _ _ _::u) (fun w s=>(((s.nilo kT3 3).nilo kT3 3).e 8 [6,1,3,0,2,4,5,7])) ?_)))))
 refine dZ (K:=kT65) (x':=(⟨(2:Int),([]:List Int),a6,([]:List Int),([]:aO),a7⟩:Node)) 4 m R R eY R R a2.1 a2.2 ?_ ?_
 exact fun I h s=>(mJ).put I h ((),(.slice none 0 0),(sc ap a6 b3),(.slice none 0 0),(),(sc aq a7 b4)) (⟨(2:Int),([]:List Int),a6,([]:List Int),([]:aO),a7⟩:Node) s
 refine lN (ow kT65 65 (.slice (ad a0 o85) M.length Y) (M.set m.toNat (⟨(2:Int),([]:List Int),a6,([]:List Int),([]:aO),a7⟩:Node))::_::_::_::u) ?_
 refine aC (aG (sL [0]) (dD ?_))
 obtain ⟨c6,ab,q⟩:=bd q
 replace ab:=Option.some.inj ab
 refine qM (ow kT65 65 (.slice (ad a0 o85) M.length Y) c6::_::_::_::u) (fun w s=>by rw [← ab]; exact s) ?_
 refine aE (aI (aD (lO (vz (.agg [(sc (ad a0 o85) M Y),(sc G F J)].toArray) (bK 2 gK eG R R R R)) (aL 1 R R eG R R R R R R (lN (_::aJ T [(sc (ad a0 o85) M Y),(sc G F J)] 31::_::_::u) ?_)))))
 refine lB R (aC (aE (bO ?_)))
 obtain rfl:=so q
 exact cY (vs:=[(.agg [(sc (ad a0 o85) M Y),(sc G F J)].toArray),(.bool true)]) (.inl R) (((ad a0 o85),M.length,Y),(G,F.length,J)) R ⟨⟨1,T,_,_,R,R,.inl ⟨gK,eG,R⟩⟩,R,trivial⟩ R (fun w s=>(s.e 10 [0,3]))
end Go.Proofs.YthelanpdjajnbaaGreat
