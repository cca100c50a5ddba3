import Derived.Test.YthelanpdjajnbaaGreatMeF
import Derived.Test.YthelanpdjajnbaaGreatMeW2
import Derived.Test.YthelanpdjajnbaaGreatMeW4
set_option linter.unusedVariables false
set_option maxRecDepth 20000
namespace Go.Proofs.YthelanpdjajnbaaGreat
open Go Go.Pg
variable {A2 A3 A5 A6:Option Addr}{D2 D3 D5 D6 N2 N3 N5 N6:Nat}
theorem Z0_ok  {g1:Graph}{F:Graph}{r:Graph×Bool}(g:Z0 g1 F=some r) :
 FnOk Tryz.prog 21 [(.agg [(.slice A2 N2 D2),(.slice A3 N3 D3)].toArray),(.agg [(.slice A5 N5 D5),(.slice A6 N6 D6)].toArray)] [aO kT65 (.slice A2 N2 D2) g1.Nodes,aO kT3 (.slice A3 N3 D3) g1.Outs,aO kT65 (.slice A5 N5 D5) F.Nodes,aO kT3 (.slice A6 N6 D6) F.Outs] (fun (h:HH×HH)=>((.tuple [(.agg [(.slice h.1.1 h.1.2.1 h.1.2.2),(.slice h.2.1 h.2.2.1 h.2.2.2)].toArray),(.bool r.2)].toArray),[ow (kT65).share 65 (.slice h.1.1 h.1.2.1 h.1.2.2) r.1.Nodes,ow kT3 3 (.slice h.2.1 h.2.2.1 h.2.2.2) r.1.Outs])):=by
 unfold Z0 at g
 refine aR Tryz.func21 R 150 R R fun C V=>?_
 refine cN (_::_::_::_::V) ?_
 refine cL 0 aA ?_
 rintro rfl
 refine cL 1 aA ?_
 rintro rfl
 refine cL 2 aA ?_
 rintro rfl
 refine cL 3 aA ?_
 rintro rfl
 let W0:List HP:=RR kT65 A2 D2 g1.Nodes::RR kT3 A3 D3 g1.Outs::RR kT65 A5 D5 F.Nodes::RR kT3 A6 D6 F.Outs::V
 refine cN W0 ?_
 refine aI (aD (eJ R (fun b7=>(eJ R (fun b8=>(aY R R hX (fun b9=>(lB R (aB ?_)))))))))
 let D:List HP:=aJ b8 [(sc A5 F.Nodes D5),(sc A6 F.Outs D6)] 31::aJ b7 [(sc A2 g1.Nodes D2),(sc A3 g1.Outs D3)] 31::W0
 refine qN (_::D) ?_
 refine aE (aI ?_)
 obtain ⟨a0,eb,g⟩:=bd g
 refine aD (lO (vz (.agg [(sc A2 g1.Nodes D2),(sc A3 g1.Outs D3)].toArray) (bN 2 fB dN R R R R)) (lM (RR kT65 A2 D2 g1.Nodes::RR kT3 A3 D3 g1.Outs::aJ _ _ _::D) (fun w s=>(((s.d 3 R).d 5 R).e 3 [1,0,2])) ?_))
 refine lC 2 BR R (Z0v_ok eb) R ?_
 rintro ⟨A12,N12,D12⟩
 refine lN (ow (kT23).share 23 (.slice A12 N12 D12) a0::_::D) ?_
 refine aM 0 cV ?_
 rintro rfl
 refine lS R (aB (aE (aI (aI ?_))))
 obtain ⟨d5,bw,g⟩:=bd g
 obtain ⟨d6,c8,g⟩:=bd g
 obtain ⟨c1,ec,g⟩:=bd g
 refine cQ [(2,(pt b7 0)),(3,(pt b8 0)),(4,(pt b9 0)),(6,(sc A12 a0 D12)),(33,(.bool (((!d5)||(!d6))||((g1.Outs.length:Int) != (c1.length:Int)))))] (aJ b9 [(.slice none 0 0),(.slice none 0 0)] 31::OO (kT23).share 23 A12 D12 a0::D) ?_ ?_
 rcases bo (!d5) with u | u
 refine dE 17 [] bQ (fun ht hn=>(dR 0 R (vz (.agg [(sc A2 g1.Nodes D2),(sc A3 g1.Outs D3)].toArray) (bN 3 fB dN R R R R)) (d1 1 R (lM (RR kT65 A2 D2 g1.Nodes::RR kT3 A3 D3 g1.Outs::ow _ _ _ _::aJ _ _ _::D) (fun w s=>(((s.d 4 R).d 6 R).e 4 [1,0,2,3])) ?_))))
 refine lC 2 pT R (Z0p_ok bw) R ?_
 rintro _
 refine lN (_::_::D) ?_
 refine aB (aG (sL []) (dR 2 R (mf R) (dR 3 R (vB R) (dF 4 R (dK u) (dF 5 R (dK u) (dF 6 R (dK u) (dR 7 R (fE (!d6) R u) (dR 8 R (vB R) (dF 9 R (dK (oT u)) (dF 10 R (dK (oT u)) (dF 11 R (dK (oT u)) (dF 12 R (dK (oT u)) (dF 13 R (dK (oT u)) (dF 14 R (dK (oT u)) (dF 15 R (dK (oT u)) (dR 16 R (fE ((g1.Outs.length:Int) != (c1.length:Int)) R (oT u)) (dD ?_)))))))))))))))))
 exact qJ (fun w s=>(s.e 2 [1,0]))
 rcases bo ((!d5)||(!d6)) with M | M
 refine dE 17 [] bQ (fun ht hn=>(dR 0 R (vz (.agg [(sc A2 g1.Nodes D2),(sc A3 g1.Outs D3)].toArray) (bN 3 fB dN R R R R)) (d1 1 R (lM (RR kT65 A2 D2 g1.Nodes::RR kT3 A3 D3 g1.Outs::ow _ _ _ _::aJ _ _ _::D) (fun w s=>(((s.d 4 R).d 6 R).e 4 [1,0,2,3])) ?_))))
 refine lC 2 pT R (Z0p_ok bw) R ?_
 rintro _
 refine lN (_::_::D) ?_
 refine aB (aG (sL []) (dR 2 R (mf R) (dR 3 R (vB R) (dW 4 R (cG u) (vz (.agg [(sc A5 F.Nodes D5),(sc A6 F.Outs D6)].toArray) (bN 2 fB dN R R R R)) (d1 5 R (lM (RR kT65 A5 D5 F.Nodes::RR kT3 A6 D6 F.Outs::ow _ _ _ _::aJ _ _ _::D) (fun w s=>(((s.d 6 R).d 8 R).e 4 [1,0,2,3])) ?_))))))
 refine cD 2 R (cG u) pT R (Z0p_ok (bR c8 (cY u))) R ?_
 rintro _
 refine lN (_::_::D) ?_
 refine aB (aG (sL []) (dW 6 R (cG u) (mf R) (dR 7 R (fZ R u R) (dR 8 R (vB R) (dF 9 R (dK M) (dF 10 R (dK M) (dF 11 R (dK M) (dF 12 R (dK M) (dF 13 R (dK M) (dF 14 R (dK M) (dF 15 R (dK M) (dR 16 R (fE ((g1.Outs.length:Int) != (c1.length:Int)) R M) (dD ?_)))))))))))))
 exact qJ (fun w s=>(s.e 2 [1,0]))
 refine dE 17 [] bQ (fun ht hn=>(dR 0 R (vz (.agg [(sc A2 g1.Nodes D2),(sc A3 g1.Outs D3)].toArray) (bN 3 fB dN R R R R)) (d1 1 R (lM (RR kT65 A2 D2 g1.Nodes::RR kT3 A3 D3 g1.Outs::ow _ _ _ _::aJ _ _ _::D) (fun w s=>(((s.d 4 R).d 6 R).e 4 [1,0,2,3])) ?_))))
 refine lC 2 pT R (Z0p_ok bw) R ?_
 rintro _
 refine lN (_::_::D) ?_
 refine aB (aG (sL []) (dR 2 R (mf R) (dR 3 R (vB R) (dW 4 R (cG u) (vz (.agg [(sc A5 F.Nodes D5),(sc A6 F.Outs D6)].toArray) (bN 2 fB dN R R R R)) (d1 5 R (lM (RR kT65 A5 D5 F.Nodes::RR kT3 A6 D6 F.Outs::ow _ _ _ _::aJ _ _ _::D) (fun w s=>(((s.d 6 R).d 8 R).e 4 [1,0,2,3])) ?_))))))
 refine cD 2 R (cG u) pT R (Z0p_ok (bR c8 (cY u))) R ?_
 rintro _
 refine lN (_::_::D) ?_
 refine aB (aG (sL []) (dW 6 R (cG u) (mf R) (dR 7 R (fZ R u R) (dR 8 R (vB R) (dW 9 R (cG M) (eC 1 gT R) (dW 10 R (cG M) (eH 3 bZ R R R) (dW 11 R (cG M) (eT bI R) (dW 12 R (cG M) (vz (.agg [(sc A5 F.Nodes D5),(sc A6 F.Outs D6)].toArray) (bN 2 fB dN R R R R)) (d1 13 R (lM (RR kT65 A5 D5 F.Nodes::RR kT3 A6 D6 F.Outs::ow _ _ _ _::aJ _ _ _::D) (fun w s=>(((s.d 6 R).d 8 R).e 4 [1,0,2,3])) ?_))))))))))
 refine cD 2 R (cG M) BS R (Z00_ok (bR ec (cY M))) R ?_
 rintro ⟨ei,em,ek⟩
 refine lN (ow kT3 3 (.slice ei em ek) c1::_::_::D) ?_
 refine aM 0 aC ?_
 rintro rfl
 refine aB (aG (sL [0]) (dW 14 R (cG M) (eT bI R) (hS:=(sL [0])) (dW 15 R (cG M) (xm R R) (hS:=(sL [0])) (dR 16 R (fZ R M R) (hS:=(sL [0])) (dD ?_)))))
 exact qJ (fun w s=>(s.e 3 [2,1]))
 rintro σ1
 refine aE ?_
 rcases bY g with ⟨bs,g⟩|⟨bs,g⟩
 refine bM R bs (aI (aD (lO (vz (.agg [(.slice none 0 0),(.slice none 0 0)].toArray) (aV oh hX R R)) (aL 0 R R dN R R R R R R (lN (_::_::D) ?_)))))
 refine lB R (aB (aE (bO (bP ?_))))
 obtain rfl:=so g
 exact cX (vs:=[(.agg [(.slice none 0 0),(.slice none 0 0)].toArray),(.bool false)]) (.inl R) ((none,0,0),(none,0,0)) R ⟨⟨0,b9,_,_,R,R,.inl ⟨fB,dN,R⟩⟩,R,trivial⟩ R (fun w s=>(((s.nilo (kT65).share 65).nilo kT3 3).e 10 [1,0]))
 refine aX R bs (bS (aE (aI (aD (lO (vz (.agg [(.slice none 0 0),(.slice none 0 0)].toArray) (aV oh hX R R)) (aY R R hX (fun E=>(aL 0 R R dN R R R R R R (aB (aE (aI (bD (A:=((List Node))×(HH)) (fun a=>Z0_J1 g1 F a0 a.1=some r) (fun a=>[(2,(pt b7 0)),(3,(pt b8 0)),(4,(pt b9 0)),(6,(sc A12 a0 D12)),(7,(pt E 0))]) (fun a=>aJ b9 [(.slice none 0 0),(.slice none 0 0)] 31::OO (kT23).share 23 A12 D12 a0::aJ E [(.slice a.2.1 a.2.2.1 a.2.2.2),(.slice none 0 0)] 31::ow kT65 65 (.slice a.2.1 a.2.2.1 a.2.2.2) a.1::D) ?_ ?_))))))))))))
 refine aI (aD (lI R (aB (aE (cB ?_)))))
 obtain ⟨e1,f2,ez⟩:=bd g
 refine bE (A:=HH) f2 (fun s a=>[(2,(pt b7 0)),(3,(pt b8 0)),(4,(pt b9 0)),(6,(sc A12 a0 D12)),(7,(pt E 0)),(8,(iv s.2))]) (fun s a=>aJ b9 [(.slice none 0 0),(.slice none 0 0)] 31::OO (kT23).share 23 A12 D12 a0::aJ E [(.slice a.1 a.2.1 a.2.2),(.slice none 0 0)] 31::ow kT65 65 (.slice a.1 a.2.1 a.2.2) s.1::D) (none,0,0) (aS R) (fun w s=>((s.nilo kT65 65).e 4 [2,3,1,0])) ?_
 rintro ⟨ar,a7⟩ ⟨c9,en,cn⟩ σ1 ee g eu
 replace g:Z0_L1 g1 ar a7=some ee:=g
 unfold Z0_L1 at g
 refine bJ 3 aC (fun (hn:en=ar.length)=>?_)
 subst hn
 refine aI (aI (aD (lI R (lO (eC 0 fI R) (lO (eH 5 kh R R R) (lO (eT gQ R) (lO (jz R R) (aB (aE ?_)))))))))
 rcases bY g with ⟨bu,g⟩|⟨bu,g⟩
 refine bM R bu (bS (aE (aI (cB ?_))))
 obtain ⟨bc,g⟩:=gd g
 obtain ⟨a6,ed,g⟩:=bd g
 obtain ⟨e9,g⟩:=gd g
 refine bB 6 aA (show 0<g1.Nodes.length by have:=bc; omega) (fun et o47 ha=>?_)
 subst ha
 refine dP (K:=kT65) 6 a7 dT65.dec R bc.1 bc.2 ?_
 rintro ⟨-,⟨ca,co⟩,⟨cb,cp⟩,⟨cc,cq⟩,-,⟨cf,cr⟩⟩
 refine cN (cl et (o47+a7.toNat*6) [(iv (ix g1.Nodes a7).Op),(sc ca ((ix g1.Nodes a7).Args) co),(sc cb ((ix g1.Nodes a7).Dims) cp),(sc cc ((ix g1.Nodes a7).Ints) cq),(aH (ix g1.Nodes a7).Form),(sc cf ((ix g1.Nodes a7).Data) cr)]::RR kT3 ca co ((ix g1.Nodes a7).Args)::RR kT3 cb cp ((ix g1.Nodes a7).Dims)::RR kT3 cc cq ((ix g1.Nodes a7).Ints)::RR kT3 cf cr ((ix g1.Nodes a7).Data)::_::_::aJ E [(sc c9 ar cn),(.slice none 0 0)] 31::OO kT65 65 c9 cn ar::D) ?_
 refine dE 9 [] bQ (fun ht hn=>(dR 0 R (eC 0 fI R) (dR 1 R (eH 7 kh R R R) (dR 2 R (eC 0 fI R) (dR 3 R (eH 10 kh R R R) (dR 4 R (vI R) (dR 5 R (eA gQ eN R R bc) (dR 6 R (vz (.agg [(iv (ix g1.Nodes a7).Op),(sc ca ((ix g1.Nodes a7).Args) co),(sc cb ((ix g1.Nodes a7).Dims) cp),(sc cc ((ix g1.Nodes a7).Ints) cq),(aH (ix g1.Nodes a7).Form),(sc cf ((ix g1.Nodes a7).Data) cr)].toArray) (eF (fo:=0) 0 kC eN R R R R)) (d1 7 R (lM (aO _ _ _::aO _ _ _::aO _ _ _::aO _ _ _::cl _ _ _::aO _ _ _::aO _ _ _::aO _ _ _::aO _ _ _::aJ _ _ _::ow _ _ _ _::aJ _ _ _::ow _ _ _ _::D) (fun w s=>(((((s.d 1 R).d 3 R).d 5 R).d 7 R).f 13 [3,1,2,1,1,1,0,1,4,9])) ?_))))))))))
 refine lC 4 zJ R (Z2k_ok ed) R ?_
 rintro ⟨⟨cg,eo,cs⟩,⟨ch,ep,ct⟩,⟨ci,eq,cu⟩,⟨cj,er,cv⟩⟩
 refine lN (ow kT3 3 (.slice cg eo cs) a6.Args::ow kT3 3 (.slice ch ep ct) a6.Dims::ow kT3 3 (.slice ci eq cu) a6.Ints::ow kT3 3 (.slice cj er cv) a6.Data::_::_::_::_::_::_::_::_::_::D) ?_
 refine aM 0 aC ?_
 rintro rfl
 refine aM 1 aC ?_
 rintro rfl
 refine aM 2 aC ?_
 rintro rfl
 refine aM 3 aC ?_
 rintro rfl
 refine aB (aG (sL [3,2,1,0]) (d1 8 R (bK (K:=kT65) (xs:=([a6]:List Node)) (vs:=[(.agg [(iv a6.Op),(sc cg a6.Args cs),(sc ch a6.Dims ct),(sc ci a6.Ints cu),(aH a6.Form),(sc cj a6.Data cv)].toArray)]) 4 R R gQ eN jC R R R R R R ?_ R (fun ej el=>?_))))
 exact fun I h s=>(nE).list [(((),(sc cg a6.Args cs),(sc ch a6.Dims ct),(sc ci a6.Ints cu),(),(sc cj a6.Data cv)),a6)] I h s
 refine lN (OO kT65 65 ej el ([a6]:List Node)::_::_::_::_::_::_::_::_::_::D) ?_
 refine aB (aG (sL [0]) (d1 9 R (lM (ow _ _ _ _::ow _ _ _ _::cl _ _ _::aO _ _ _::aO _ _ _::aO _ _ _::aO _ _ _::aJ _ _ _::ow _ _ _ _::aJ _ _ _::D) (fun w s=>(s.f 10 [9,1,0,9])) ?_)))
 refine dV (K:=kT65) 1172812402961 R R gQ eN tc (Zr.zk zT65 jC) R R R R R R dA e9 (fun ck cw=>(lN (OO kT65 65 ck cw (ar++([a6]:List Node))::_::_::_::_::_::_::_::_::D) ?_))
 refine aB (qE (d1 10 R (lO (eC 0 fI R) (aB (qE (d1 11 R (cO 8 R R tf R R R R R (lN (_::_::_::_::_::_::_::_::aJ E [(sc ck (ar++([a6]:List Node)) cw),(.slice none 0 0)] 31::D) ?_))))))))
 refine aB (qE (dD (cT (aE (aD (lI R (lO (jy R R) (lI R (aB ?_)))))))))
 obtain rfl:=so g
 exact qA (ck,(ar++([a6]:List Node)).length,cw) (fun w s=>(s.e 9 [6,7,8,0]))
 refine aX R bu (eL (cR ?_))
 obtain rfl:=so g
 obtain rfl:=eu _ R
 have g:=ez
 refine cR (dU ?_)
 exact qI (ar,(c9,ar.length,cn)) g (fun w s=>s)
 rintro ⟨c0,⟨cm,es,cx⟩⟩ σ1 g
 replace g:Z0_J1 g1 F a0 c0=some r:=g
 unfold Z0_J1 at g
 refine bJ 3 aC (fun (hn:es=c0.length)=>?_)
 subst hn
 refine aI (aD (bK (K:=kT3) (xs:=([]:List Int)) (vs:=[]) 0 R R bI cI gB R R R R R R ?_ R (fun dd dk=>?_)))
 exact fun I h s=>(gF).list [] I h s
 refine lN (OO kT3 3 dd dk ([]:List Int)::_::_::aJ E [(sc cm c0 cx),(.slice none 0 0)] 31::OO kT65 65 cm cx c0::D) ?_
 refine lS R (aB (aE (aI (aD (lI R (aB (aE (aI (bD (A:=((List Node)×(List Int))×(HH×HH)) (fun a=>Z0_J6 F a.1.1 a.1.2=some r) (fun a=>[(3,(pt b8 0)),(4,(pt b9 0)),(7,(pt E 0)),(9,(.slice a.2.2.1 a.2.2.2.1 a.2.2.2.2))]) (fun a=>aJ b9 [(.slice none 0 0),(.slice none 0 0)] 31::aJ E [(.slice a.2.1.1 a.2.1.2.1 a.2.1.2.2),(.slice none 0 0)] 31::ow (kT65).share 65 (.slice a.2.1.1 a.2.1.2.1 a.2.1.2.2) a.1.1::ow kT3 3 (.slice a.2.2.1 a.2.2.2.1 a.2.2.2.2) a.1.2::D) ?_ ?_)))))))))
 refine aI (aD (lI R (aB (aE (cB ?_)))))
 obtain ⟨e2,f3,ea⟩:=bd g
 refine bE (A:=HH×HH) f3 (fun s a=>[(2,(pt b7 0)),(3,(pt b8 0)),(4,(pt b9 0)),(6,(sc A12 a0 D12)),(7,(pt E 0)),(9,(.slice a.2.1 a.2.2.1 a.2.2.2)),(10,(iv s.2.2.1)),(11,(iv s.2.2.2))]) (fun s a=>aJ b9 [(.slice none 0 0),(.slice none 0 0)] 31::OO (kT23).share 23 A12 D12 a0::aJ E [(.slice a.1.1 a.1.2.1 a.1.2.2),(.slice none 0 0)] 31::ow (kT65).share 65 (.slice a.1.1 a.1.2.1 a.1.2.2) s.1::ow kT3 3 (.slice a.2.1 a.2.2.1 a.2.2.2) s.2.1::D) ((cm,c0.length,cx),(dd,([]:List Int).length,dk)) (aS R) (fun w s=>((s.wk 4 R).f 5 [2,3,0,2])) ?_
 rintro ⟨m,j,O,l⟩ ⟨⟨ae,dl,ag⟩,⟨ai,dm,ah⟩⟩ σ1 ax g e8
 replace g:Z0_L2 g1 F a0 m j O l=some ax:=g
 unfold Z0_L2 at g
 refine bJ 3 cV (fun (hn:dl=m.length)=>?_)
 subst hn
 refine bJ 4 aC (fun (hn:dm=j.length)=>?_)
 subst hn
 refine aI (aI (aD (lI R (lO (eC 0 fI R) (lO (eH 5 kh R R R) (lO (eT gQ R) (lO (jz R R) (aB (aE ?_)))))))))
 rcases bY g with ⟨ay,g⟩|⟨ay,g⟩
 refine bM R ay (bS (aE (aI (bD (A:=((List Node)×(List Int)×Int)×(HH×HH)) (fun a=>Z0_J5 l a.1.1 a.1.2.1 a.1.2.2=some ax) (fun a=>[(2,(pt b7 0)),(3,(pt b8 0)),(4,(pt b9 0)),(6,(sc A12 a0 D12)),(7,(pt E 0)),(9,(.slice a.2.2.1 a.2.2.2.1 a.2.2.2.2)),(10,(iv a.1.2.2)),(11,(iv l))]) (fun a=>aJ b9 [(.slice none 0 0),(.slice none 0 0)] 31::OO (kT23).share 23 A12 D12 a0::aJ E [(.slice a.2.1.1 a.2.1.2.1 a.2.1.2.2),(.slice none 0 0)] 31::ow (kT65).share 65 (.slice a.2.1.1 a.2.1.2.1 a.2.1.2.2) a.1.1::ow kT3 3 (.slice a.2.2.1 a.2.2.2.1 a.2.2.2.2) a.1.2.1::D) ?_ ?_))))
 refine cB (aI ?_)
 obtain ⟨ap,g⟩:=gd g
 obtain ⟨b,d2,g⟩:=bd g
 refine aD (lO (eC 0 fI R) (lO (eH 5 kh R R R) (lI R (bC 9 aA (show 0<F.Nodes.length by have:=ap; omega) (fun e0 o137 ha=>?_)))))
 subst ha
 refine lO (eA gQ eN R R ap) (gO (K:=kT65) 9 l dT65.dec R ap.1 ap.2 ?_)
 rintro ⟨-,⟨be,bk⟩,⟨bf,bl⟩,⟨bg,bm⟩,-,⟨bh,bn⟩⟩
 refine lN (cl e0 (o137+l.toNat*6) [(iv (ix F.Nodes l).Op),(sc be ((ix F.Nodes l).Args) bk),(sc bf ((ix F.Nodes l).Dims) bl),(sc bg ((ix F.Nodes l).Ints) bm),(aH (ix F.Nodes l).Form),(sc bh ((ix F.Nodes l).Data) bn)]::RR kT3 be bk ((ix F.Nodes l).Args)::RR kT3 bf bl ((ix F.Nodes l).Dims)::RR kT3 bg bm ((ix F.Nodes l).Ints)::RR kT3 bh bn ((ix F.Nodes l).Data)::_::_::aJ E [(sc ae m ag),(.slice none 0 0)] 31::OO (kT65).share 65 ae ag m::OO kT3 3 ai ah j::D) ?_
 refine lO (vz (.agg [(iv (ix F.Nodes l).Op),(sc be ((ix F.Nodes l).Args) bk),(sc bf ((ix F.Nodes l).Dims) bl),(sc bg ((ix F.Nodes l).Ints) bm),(aH (ix F.Nodes l).Form),(sc bh ((ix F.Nodes l).Data) bn)].toArray) (eF (fo:=0) 0 kC eN R R R R)) (lM (aO _ _ _::aO _ _ _::aO _ _ _::aO _ _ _::cl _ _ _::aO _ _ _::aO _ _ _::aO _ _ _::aO _ _ _::aJ _ _ _::ow _ _ _ _::aJ _ _ _::ow _ _ _ _::ow _ _ _ _::D) (fun w s=>(((((s.d 1 R).d 3 R).d 5 R).d 7 R).f 14 [3,1,2,1,1,1,0,1,4,10])) ?_)
 refine lC 4 zJ R (Z2k_ok d2) R ?_
 rintro ⟨⟨a1,dn,U⟩,⟨Y,dq,Z⟩,⟨a2,dr,a4⟩,⟨a3,ds,a5⟩⟩
 refine lN (ow kT3 3 (.slice a1 dn U) b.Args::ow kT3 3 (.slice Y dq Z) b.Dims::ow kT3 3 (.slice a2 dr a4) b.Ints::ow kT3 3 (.slice a3 ds a5) b.Data::_::_::_::_::_::_::_::_::_::_::D) ?_
 refine aM 0 aC ?_
 rintro rfl
 refine aM 1 aC ?_
 rintro rfl
 refine aM 2 aC ?_
 rintro rfl
 refine aM 3 aC ?_
 rintro rfl
 refine aY R R jC (fun al=>(aL 0 R R eN R R R R R R (lN (aJ al [(iv b.Op),(sc a1 b.Args U),(sc Y b.Dims Z),(sc a2 b.Ints a4),(aH b.Form),(sc a3 b.Data a5)] 65::_::_::_::_::_::_::_::_::_::_::_::_::_::_::D) ?_)))
 refine aB (aE (aI (aI (aD (lO (eC 0 gR R) (lO (eH 0 fC R R R) (lO (l8 R R) (aB (aE ?_)))))))))
 rcases bY g with ⟨az,g⟩|⟨az,g⟩
 refine bM R az (aI (aI ?_))
 obtain ⟨am,g⟩:=gd g
 obtain ⟨aq,g⟩:=gd g
 obtain ⟨f8,d3,g⟩:=bd g
 refine bB 18 aA (show 0<g1.Outs.length by have:=am; omega) (fun f6 o152 ha=>?_)
 subst ha
 refine bB 11 cV (show 0<a0.length by have:=aq; omega) (fun e5 o155 ha=>?_)
 subst ha
 refine dE 12 [] bQ (fun ht hn=>(dR 0 R (eC 2 i' R) (dR 1 R (eH 0 bZ R R R) (dR 2 R (vS R) (dR 3 R (eC 1 gT R) (dR 4 R (eH 16 bZ R R R) (dR 5 R (vI R) (dR 6 R (eA bI cI R R am) (dR 7 R (gP 18 fC aA R am) (dR 8 R (eA jp eX R R aq) (d1 9 R (kL (K:=(kT23).share) (fo:=0) 11 (ix g1.Outs O) R R bZ dT23.own (fun _ _=>R) R R aq.1 aq.2 ?_))))))))))))
 rintro ⟨c2,c5⟩
 refine lN (RR kT3 c2 c5 (ix a0 (ix g1.Outs O))::_::_::_::_::_::_::_::_::_::_::_::OO (kT23).share 23 (ad e5 o155) D12 a0::_::_::_::D) ?_
 refine aB (aG (sL [0]) (d1 10 R (lM (ow _ _ _ _::aO _ _ _::aO _ _ _::aJ _ _ _::ow _ _ _ _::ow _ _ _ _::ow _ _ _ _::cl _ _ _::aO _ _ _::aO _ _ _::aO _ _ _::aO _ _ _::aJ _ _ _::ow _ _ _ _::aJ _ _ _::ow _ _ _ _::ow _ _ _ _::D) (fun w s=>((s.d 0 R).f 17 [4,1,0,4,5,12])) ?_)))
 refine lC 2 vf R (FnOk.lends (A':=[OO kT3 3 Y Z b.Dims]) (A:=[RR kT3 Y Z b.Dims]) (B:=[RR kT3 c2 c5 (ix a0 (ix g1.Outs O))]) (Zw_ok d3) ⟨aQ,trivial⟩ (fun _=>trivial)) R ?_
 rintro _
 refine lN (_::_::_::_::_::_::_::_::_::_::_::_::_::_::_::_::D) ?_
 refine aB (aG (fun w s=>(s.f 16 [2,2,0,1,4,12])) (dR 11 R (mf R) (hS:=(fun w s=>(s.f 16 [2,2,0,1,4,12]))) (dD (aE ?_))))
 rcases bY g with ⟨b0,g⟩|⟨b0,g⟩
 refine bM R b0 (aI (aD (lO (vz (.agg [(.slice none 0 0),(.slice none 0 0)].toArray) (aV oh hX R R)) (aL 11 R R dN R R R R R R (lB R (aB (aE (bO (bP (bP (b' (bP ?_))))))))))))
 obtain rfl:=so g
 obtain rfl:=e8 _ R
 have g:=ea
 refine bP (b' (bP ?_))
 obtain rfl:=so g
 exact cX (vs:=[(.agg [(.slice none 0 0),(.slice none 0 0)].toArray),(.bool false)]) (.inl R) ((none,0,0),(none,0,0)) R ⟨⟨11,b9,_,_,R,R,.inl ⟨fB,dN,R⟩⟩,R,trivial⟩ R (fun w s=>(((s.nilo (kT65).share 65).nilo kT3 3).e 24 [1,0]))
 refine aX R b0 (bS (aE (aI ?_)))
 obtain ⟨cy,g⟩:=gd g
 refine aD (lS R (lO (eC 1 gT R) (lO (eH 17 bZ R R R) (lI R (lO (eA bI cI R R am) (lO (gP 19 fC aA R am) (bK (K:=kT3) (xs:=([(ix g1.Outs O)]:List Int)) (vs:=[(iv (ix g1.Outs O))]) 0 R R bI cI gB R R R R R R ?_ R (fun d7 de=>?_))))))))
 exact fun I h s=>(gF).list [((),(ix g1.Outs O))] I h s
 refine lN (OO kT3 3 d7 de ([(ix g1.Outs O)]:List Int)::_::_::_::_::_::_::_::_::_::_::_::_::_::_::_::_::D) ?_
 refine lM (ow _ _ _ _::ow _ _ _ _::ow _ _ _ _::aO _ _ _::aJ _ _ _::ow _ _ _ _::ow _ _ _ _::ow _ _ _ _::cl _ _ _::aO _ _ _::aO _ _ _::aO _ _ _::aO _ _ _::aJ _ _ _::ow _ _ _ _::aJ _ _ _::ow _ _ _ _::D) (fun w s=>(s.f 17 [16,1,0,16])) ?_
 refine dV (K:=kT3) 17592186044416 R R bI cI jN (Zr.zk zT3 gB) R R R R R R dA cy (fun c3 c6=>(lN (OO kT3 3 c3 c6 (j++([(ix g1.Outs O)]:List Int))::_::_::_::_::_::_::_::_::_::_::_::_::_::_::_::D) ?_))
 refine lS R (aB (aE (aI (aD (lI R (lO (jy R R) (lI R (aB (aE (eL (cR (dU ?_))))))))))))
 exact qI ((m,(j++([(ix g1.Outs O)]:List Int)),(aK (O+(1:Int)))),((ae,m.length,ag),(c3,(j++([(ix g1.Outs O)]:List Int)).length,c6))) g (fun w s=>(s.f 16 [12,4,0,1]))
 refine aX R az (bS (aE (aI (bD (A:=((List Int))×(Unit)) (fun a=>Z0_J4 m j O l b a.1=some ax) (fun a=>[(2,(pt b7 0)),(3,(pt b8 0)),(4,(pt b9 0)),(6,(sc A12 a0 D12)),(7,(pt E 0)),(9,(sc ai j ah)),(10,(iv O)),(11,(iv l)),(12,(pt al 0))]) (fun a=>aJ b9 [(.slice none 0 0),(.slice none 0 0)] 31::OO (kT23).share 23 A12 D12 a0::aJ E [(sc ae m ag),(.slice none 0 0)] 31::OO (kT65).share 65 ae ag m::OO kT3 3 ai ah j::aJ al [(iv b.Op),(sc a1 b.Args U),(sc Y b.Dims Z),(sc a2 b.Ints a4),(aH b.Form),(sc a3 b.Data a5)] 65::ow kT3 3 (.slice a1 b.Args.length U) a.1::OO kT3 3 Y Z b.Dims::OO kT3 3 a2 a4 b.Ints::OO kT3 3 a3 a5 b.Data::D) ?_ ?_))))
 refine aI (aD (lI R (aB (aE (cB ?_)))))
 obtain ⟨e3,f4,f0⟩:=bd g
 refine bE (A:=Unit) f4 (fun s a=>[(2,(pt b7 0)),(3,(pt b8 0)),(4,(pt b9 0)),(6,(sc A12 a0 D12)),(7,(pt E 0)),(9,(sc ai j ah)),(10,(iv O)),(11,(iv l)),(12,(pt al 0)),(13,(iv s.2))]) (fun s a=>aJ b9 [(.slice none 0 0),(.slice none 0 0)] 31::OO (kT23).share 23 A12 D12 a0::aJ E [(sc ae m ag),(.slice none 0 0)] 31::OO (kT65).share 65 ae ag m::OO kT3 3 ai ah j::aJ al [(iv b.Op),(sc a1 b.Args U),(sc Y b.Dims Z),(sc a2 b.Ints a4),(aH b.Form),(sc a3 b.Data a5)] 65::ow kT3 3 (.slice a1 b.Args.length U) s.1::OO kT3 3 Y Z b.Dims::OO kT3 3 a2 a4 b.Ints::OO kT3 3 a3 a5 b.Data::D) () (aS R) (fun w s=>(s.f 15 [10,5,0,5])) ?_
 rintro ⟨an,ao⟩ _ σ1 ef g ew
 replace g:Z0_L3 j b an ao=some ef:=g
 unfold Z0_L3 at g
 refine aI (aI (aD (lI R (lO (eC 1 jl R) (lO (eH 5 bZ R R R) (lO (eT bI R) (lO (jz R R) (aB (aE ?_)))))))))
 rcases bY g with ⟨b1,g⟩|⟨b1,g⟩
 refine bM R b1 (bS (aE (aI (cB ?_))))
 obtain ⟨ac,g⟩:=gd g
 obtain ⟨b4,g⟩:=gd g
 refine bB 6 aC (show 0<b.Args.length by have:=ac; omega) (fun br o177 ha=>?_)
 subst ha
 refine bB 4 aC (show 0<j.length by have:=b4; omega) (fun e6 o180 ha=>?_)
 subst ha
 refine dE 13 [6] bQ (fun ht hn=>(dR 0 R (eC 1 jl R) (hS:=(sL [6])) (dR 1 R (eH 5 bZ R R R) (hS:=(sL [6])) (dR 2 R (vI R) (hS:=(sL [6])) (dR 3 R (vS R) (hS:=(sL [6])) (dR 4 R (eC 1 jl R) (hS:=(sL [6])) (dR 5 R (eH 5 bZ R R R) (hS:=(sL [6])) (dR 6 R (vI R) (hS:=(sL [6])) (dR 7 R (eA bI cI R R ac) (hS:=(sL [6])) (d1 8 R (lO (gP 6 fC aC R ac) (aB (aG (sL [6]) (dR 9 R (eA bI cI R R b4) (hS:=(sL [6])) (dR 10 R (gP 4 fC aC R b4) (hS:=(sL [6])) (dR 11 R (eA bI cI R R ac) (hS:=(sL [6])) (d1 12 R (lM (ow kT3 3 (.slice (ad br o177) b.Args.length U) an::aJ _ _ _::OO (kT23).share 23 A12 D12 a0::aJ _ _ _::ow _ _ _ _::OO kT3 3 (ad e6 o180) ah j::aJ al [(iv b.Op),(sc (ad br o177) b.Args U),(sc Y b.Dims Z),(sc a2 b.Ints a4),(aH b.Form),(sc a3 b.Data a5)] 65::ow _ _ _ _::ow _ _ _ _::ow _ _ _ _::D) (fun w s=>(s.f 10 [6,1,0,6,7,3])) ?_))))))))))))))))))
 refine eB (K:=kT3) (x':=(ix j (ix an ao))) 0 ao R R cI R R ac.1 ac.2 ?_ ?_
 exact fun I h s=>(gF).put I h () (ix j (ix an ao)) s
 refine lN (ow kT3 3 (.slice (ad br o177) b.Args.length U) (an.set ao.toNat (ix j (ix an ao)))::_::_::_::_::_::_::_::_::_::D) ?_
 refine aB (aG (sL [0]) (dD (cT (aE (aD (lI R (lO (jy R R) (lI R (aB ?_)))))))))
 obtain rfl:=so g
 exact qA () (fun w s=>(s.f 10 [1,6,0,1,7,3]))
 refine aX R b1 (eL (cR ?_))
 obtain rfl:=so g
 obtain rfl:=ew _ R
 have g:=f0
 refine cR (dU ?_)
 exact qI (an,()) g (fun w s=>s)
 rintro ⟨a9,_⟩ σ1 g
 replace g:Z0_J4 m j O l b a9=some ax:=g
 unfold Z0_J4 at g
 refine aI ?_
 obtain ⟨cz,g⟩:=gd g
 refine aD (lS R (lO (eC 0 fI R) (lO (eH 2 kh R R R) (lO (eT gQ R) (bK (K:=kT3) (xs:=([(m.length:Int)]:List Int)) (vs:=[(il m)]) 0 R R bI cI gB R R R R R R ?_ R (fun d8 df=>?_))))))
 exact fun I h s=>(gF).list [((),(m.length:Int))] I h s
 refine lN (OO kT3 3 d8 df ([(m.length:Int)]:List Int)::_::_::_::_::OO kT3 3 ai ah j::aJ al [(iv b.Op),(sc a1 b.Args U),(sc Y b.Dims Z),(sc a2 b.Ints a4),(aH b.Form),(sc a3 b.Data a5)] 65::ow kT3 3 (.slice a1 b.Args.length U) a9::_::_::_::D) ?_
 refine lM (ow _ _ _ _::ow _ _ _ _::aJ _ _ _::ow _ _ _ _::aJ _ _ _::ow _ _ _ _::aJ _ _ _::ow _ _ _ _::ow _ _ _ _::ow _ _ _ _::ow _ _ _ _::D) (fun w s=>(s.f 11 [5,1,0,5,6,5])) ?_
 refine dV (K:=kT3) 17592186044416 R R bI cI jN (Zr.zk zT3 gB) R R R R R R dA cz (fun c4 c7=>(lN (OO kT3 3 c4 c7 (j++([(m.length:Int)]:List Int))::_::_::_::_::_::_::_::_::_::D) ?_))
 refine lS R (aB (aE ?_))
 obtain ⟨d0,g⟩:=gd g
 refine aD (lO (eC 0 fI R) (lO (eH 3 kh R R R) (lO (vz (.agg [(iv b.Op),(sc a1 b.Args U),(sc Y b.Dims Z),(sc a2 b.Ints a4),(aH b.Form),(sc a3 b.Data a5)].toArray) (bN 5 kC eN R R R R)) (lM (aO kT3 (.slice a1 b.Args.length U) a9::RR kT3 Y Z b.Dims::RR kT3 a2 a4 b.Ints::RR kT3 a3 a5 b.Data::RR kT3 a3 a5 b.Data::RR kT3 a2 a4 b.Ints::RR kT3 Y Z b.Dims::aO kT3 (.slice a1 b.Args.length U) a9::ow _ _ _ _::aJ _ _ _::ow _ _ _ _::aJ _ _ _::ow _ _ _ _::aJ _ _ _::D) (fun w s=>(((((((((s.shr 6 R).d 0 R).shr 8 R).d 0 R).shr 10 R).d 0 R).shr 12 R).d 0 R).e 14 [6,4,2,0,1,3,5,7,8,9,10,11,12,13])) ?_))))
 refine bK (K:=(kT65).share) (xs:=([(⟨b.Op,a9,b.Dims,b.Ints,b.Form,b.Data⟩:Node)]:List Node)) (vs:=[(.agg [(iv b.Op),(sc a1 b.Args U),(sc Y b.Dims Z),(sc a2 b.Ints a4),(aH b.Form),(sc a3 b.Data a5)].toArray)]) 4 R R gQ eN jC R R R R R R ?_ R (fun d9 dg=>?_)
 exact fun I h s=>(Bt).list [(((),(sc a1 b.Args U),(sc Y b.Dims Z),(sc a2 b.Ints a4),(),(sc a3 b.Data a5)),(⟨b.Op,a9,b.Dims,b.Ints,b.Form,b.Data⟩:Node))] I h s
 refine lN (OO (kT65).share 65 d9 dg ([(⟨b.Op,a9,b.Dims,b.Ints,b.Form,b.Data⟩:Node)]:List Node)::_::_::_::_::_::_::_::_::_::_::D) ?_
 refine lM (ow _ _ _ _::ow _ _ _ _::aO _ _ _::aO _ _ _::aO _ _ _::aO _ _ _::ow _ _ _ _::aJ _ _ _::ow _ _ _ _::aJ _ _ _::aJ _ _ _::D) (fun w s=>(s.f 11 [9,1,0,9,10,1])) ?_
 refine dV (K:=(kT65).share) 1172812402961 R R gQ eN tc (Zr.zk (Zr.share zT65) jC) R R R R R R dA d0 (fun bi bp=>(lN (OO (kT65).share 65 bi bp (m++([(⟨b.Op,a9,b.Dims,b.Ints,b.Form,b.Data⟩:Node)]:List Node))::_::_::_::_::_::_::_::_::_::D) ?_))
 refine lO (eC 0 fI R) (cO 8 R R tf R R R R R (lN (_::_::_::_::_::_::_::_::aJ E [(sc bi (m++([(⟨b.Op,a9,b.Dims,b.Ints,b.Form,b.Data⟩:Node)]:List Node)) bp),(.slice none 0 0)] 31::_::D) ?_))
 refine aB (cT ?_)
 exact qI (((m++([(⟨b.Op,a9,b.Dims,b.Ints,b.Form,b.Data⟩:Node)]:List Node)),(j++([(m.length:Int)]:List Int)),O),((bi,(m++([(⟨b.Op,a9,b.Dims,b.Ints,b.Form,b.Data⟩:Node)]:List Node)).length,bp),(c4,(j++([(m.length:Int)]:List Int)).length,c7))) g (fun w s=>(s.e 10 [6,7,8,0,5]))
 rintro ⟨⟨bz,ba,eh⟩,⟨⟨da,dt,dh⟩,⟨db,du,di⟩⟩⟩ σ1 g
 replace g:Z0_J5 l bz ba eh=some ax:=g
 unfold Z0_J5 at g
 refine bJ 3 cV (fun (hn:dt=bz.length)=>?_)
 subst hn
 refine bJ 4 aC (fun (hn:du=ba.length)=>?_)
 subst hn
 refine aD (lI R (lO (jy R R) (lI R (aB ?_))))
 obtain rfl:=so g
 exact qA ((da,bz.length,dh),(db,ba.length,di)) (fun w s=>s)
 refine aX R ay (eL (cR ?_))
 obtain rfl:=so g
 obtain rfl:=e8 _ R
 have g:=ea
 refine cR (dU ?_)
 exact qI ((m,j),((ae,m.length,ag),(ai,j.length,ah))) g (fun w s=>(s.e 5 [0,2,3,4]))
 rintro ⟨⟨q,i⟩,⟨⟨G,dv,J⟩,⟨bb,dw,av⟩⟩⟩ σ1 g
 replace g:Z0_J6 F q i=some r:=g
 unfold Z0_J6 at g
 refine bJ 2 cV (fun (hn:dv=q.length)=>?_)
 subst hn
 refine bJ 3 aC (fun (hn:dw=i.length)=>?_)
 subst hn
 refine aI (bD (A:=((List Int))×(HH)) (fun a=>Z0_J7 q a.1=some r) (fun a=>[(4,(pt b9 0)),(7,(pt E 0))]) (fun a=>aJ b9 [(.slice none 0 0),(.slice none 0 0)] 31::aJ E [(sc G q J),(.slice a.2.1 a.2.2.1 a.2.2.2)] 31::OO (kT65).share 65 G J q::ow kT3 3 (.slice a.2.1 a.2.2.1 a.2.2.2) a.1::D) ?_ ?_)
 refine aI (aD (lI R (aB (aE (cB ?_)))))
 obtain ⟨e4,f5,f1⟩:=bd g
 refine bE (A:=HH) f5 (fun s a=>[(3,(pt b8 0)),(4,(pt b9 0)),(7,(pt E 0)),(9,(sc bb i av)),(14,(iv s.2))]) (fun s a=>aJ b9 [(.slice none 0 0),(.slice none 0 0)] 31::aJ E [(sc G q J),(.slice a.1 a.2.1 a.2.2)] 31::OO (kT65).share 65 G J q::ow kT3 3 (.slice a.1 a.2.1 a.2.2) s.1::OO kT3 3 bb av i::D) (none,0,0) (aS R) (fun w s=>((s.nilo kT3 3).e 5 [1,2,3,0,4])) ?_
 rintro ⟨T,L⟩ ⟨au,dx,aw⟩ σ1 eg g ey
 replace g:Z0_L4 F i T L=some eg:=g
 unfold Z0_L4 at g
 refine bJ 3 aC (fun (hn:dx=T.length)=>?_)
 subst hn
 refine aI (aI (aD (lI R (lO (eC 1 gT R) (lO (eH 5 bZ R R R) (lO (eT bI R) (lO (jz R R) (aB (aE ?_)))))))))
 rcases bY g with ⟨b2,g⟩|⟨b2,g⟩
 refine bM R b2 (bS (aE (aI (cB ?_))))
 obtain ⟨b5,g⟩:=gd g
 obtain ⟨b6,g⟩:=gd g
 obtain ⟨bv,g⟩:=gd g
 refine hU (A:=(Unit)×(HH)) (fun _=>True) (fun a=>[(3,(pt b8 0)),(4,(pt b9 0)),(7,(pt E 0)),(9,(sc bb i av)),(14,(iv L))]) (fun a=>aJ b9 [(.slice none 0 0),(.slice none 0 0)] 31::aJ E [(sc G q J),(.slice a.2.1 a.2.2.1 a.2.2.2)] 31::OO (kT65).share 65 G J q::ow kT3 3 (.slice a.2.1 a.2.2.1 a.2.2.2) (T++([(ix i (ix F.Outs L))]:List Int))::OO kT3 3 bb av i::D) ?_ ?_
 refine bB 10 aA (show 0<F.Outs.length by have:=b5; omega) (fun f7 o222 ha=>?_)
 subst ha
 refine bB 4 aC (show 0<i.length by have:=b6; omega) (fun e7 o225 ha=>?_)
 subst ha
 refine dE 14 [3,1] bQ (fun ht hn=>(dR 0 R (eC 1 gT R) (hS:=(sL [3,1])) (dR 2 R (vS R) (hS:=(sL [3,1])) (dR 3 R (eC 1 gT R) (hS:=(sL [3,1])) (dR 4 R (eH 3 bZ R R R) (hS:=(sL [3,1])) (dR 5 R (vI R) (hS:=(sL [3,1])) (dR 6 R (eA bI cI R R b5) (hS:=(sL [3,1])) (dR 7 R (gP 8 fC aA R b5) (hS:=(sL [3,1])) (dR 8 R (eA bI cI R R b6) (hS:=(sL [3,1])) (dR 9 R (gP 2 fC aC R b6) (hS:=(sL [3,1])) (fW [1,10] (by kernel_rfl) R ⟨?_,?_,trivial⟩)))))))))))
 refine lO (eH 1 bZ R R R) (aB (aG (sL [3,1]) (d1 10 R (bK (K:=kT3) (xs:=([(ix i (ix F.Outs L))]:List Int)) (vs:=[(iv (ix i (ix F.Outs L)))]) 0 R R bI cI gB R R R R R R ?_ R (fun bj bq=>?_)))))
 exact fun I h s=>(gF).list [((),(ix i (ix F.Outs L)))] I h s
 refine lN (OO kT3 3 bj bq ([(ix i (ix F.Outs L))]:List Int)::_::aJ E [(sc G q J),(sc au T aw)] 31::OO (kT65).share 65 G J q::OO kT3 3 au aw T::OO kT3 3 (ad e7 o225) av i::D) ?_
 refine aB (aG (sL [4,2,0]) (d1 11 R (lM (ow _ _ _ _::ow _ _ _ _::aJ _ _ _::aJ _ _ _::ow _ _ _ _::ow _ _ _ _::D) (fun w s=>(s.e 6 [4,0,1,2,3,5])) ?_)))
 refine dV (K:=kT3) 17592186044416 R R bI cI jN (Zr.zk zT3 gB) R R R R R R dA bv (fun aj ak=>(lN (OO kT3 3 aj ak (T++([(ix i (ix F.Outs L))]:List Int))::_::_::_::_::D) ?_))
 refine aB (aG (sL [2,0]) (dR 12 R (eC 1 gT R) (hS:=(sL [2,0])) (d1 13 R (cO 2 R R eX R R R R R (lN (_::_::aJ E [(sc G q J),(sc aj (T++([(ix i (ix F.Outs L))]:List Int)) ak)] 31::_::_::D) ?_)))))
 refine aB (aG (sL [2,0]) (dD ?_))
 exact cK ((),(aj,(T++([(ix i (ix F.Outs L))]:List Int)).length,ak)) trivial (aS R) (fun w s=>(s.e 5 [1,2,3,0,4]))
 refine bK (K:=kT3) (xs:=([(ix i (ix F.Outs L))]:List Int)) (vs:=[(iv (ix i (ix F.Outs L)))]) 0 R R bI cI gB R R R R R R ?_ R (fun bj bq=>?_)
 exact fun I h s=>(gF).list [((),(ix i (ix F.Outs L)))] I h s
 refine lN (OO kT3 3 bj bq ([(ix i (ix F.Outs L))]:List Int)::_::aJ E [(sc G q J),(sc au T aw)] 31::_::OO kT3 3 au aw T::_::D) ?_
 refine aB (aG (sL [4,2,0]) (d1 1 R (lO (eH 2 bZ R R R) (aB (aG (sL [4,2,0]) (d1 11 R (lM (ow _ _ _ _::ow _ _ _ _::aJ _ _ _::aJ _ _ _::ow _ _ _ _::ow _ _ _ _::D) (fun w s=>(s.e 6 [4,0,1,2,3,5])) ?_)))))))
 refine dV (K:=kT3) 17592186044416 R R bI cI jN (Zr.zk zT3 gB) R R R R R R dA bv (fun aj ak=>(lN (OO kT3 3 aj ak (T++([(ix i (ix F.Outs L))]:List Int))::_::_::_::_::D) ?_))
 refine aB (aG (sL [2,0]) (dR 12 R (eC 1 gT R) (hS:=(sL [2,0])) (d1 13 R (cO 2 R R eX R R R R R (lN (_::_::aJ E [(sc G q J),(sc aj (T++([(ix i (ix F.Outs L))]:List Int)) ak)] 31::_::_::D) ?_)))))
 refine aB (aG (sL [2,0]) (dD ?_))
 exact cK ((),(aj,(T++([(ix i (ix F.Outs L))]:List Int)).length,ak)) trivial (aS R) (fun w s=>(s.e 5 [1,2,3,0,4]))
 rintro ⟨_,⟨dc,dy,dj⟩⟩ σ1 -
 refine gW 3 aC (fun (hn:dy=(T++([(ix i (ix F.Outs L))]:List Int)).length)=>?_)
 subst hn
 refine cT (aE (aD (lI R (lO (jy R R) (lI R (aB ?_))))))
 obtain rfl:=so g
 exact qA (dc,(T++([(ix i (ix F.Outs L))]:List Int)).length,dj) (fun w s=>s)
 refine aX R b2 (eL (cR ?_))
 obtain rfl:=so g
 obtain rfl:=ey _ R
 have g:=f1
 refine cR (dU ?_)
 exact qI (T,(au,T.length,aw)) g (fun w s=>(s.f 5 [0,4]))
 rintro ⟨a8,⟨aa,dz,ab⟩⟩ σ1 g
 replace g:Z0_J7 q a8=some r:=g
 unfold Z0_J7 at g
 refine bJ 3 aC (fun (hn:dz=a8.length)=>?_)
 subst hn
 refine aI (aI ?_)
 obtain ⟨f9,d4,g⟩:=bd g
 refine aD (lO (vz (.agg [(sc G q J),(sc aa a8 ab)].toArray) (bN 1 fB dN R R R R)) (lM (ow _ _ _ _::OO kT3 3 aa ab a8::aJ _ _ _::aJ E [(sc G q J),(sc aa a8 ab)] 31::D) (fun w s=>(s.e 4 [2,3,0,1])) ?_))
 refine lC 2 pT R (FnOk.lends (A':=[OO (kT65).share 65 G J q,OO kT3 3 aa ab a8]) (A:=[RR kT65 G J q,RR kT3 aa ab a8]) (B:=[]) (Z0p_ok (g1:=(⟨q,a8⟩:Graph)) d4) ⟨kt,aQ,trivial⟩ (fun _=>trivial)) R ?_
 rintro _
 refine lO (mf R) (aB (aE ?_))
 rcases bY g with ⟨b3,g⟩|⟨b3,g⟩
 refine bM R b3 (aI (aD (lO (vz (.agg [(.slice none 0 0),(.slice none 0 0)].toArray) (aV oh hX R R)) (aL 2 R R dN R R R R R R (lB R (aB (aE (bO (bP ?_)))))))))
 obtain rfl:=so g
 exact cX (vs:=[(.agg [(.slice none 0 0),(.slice none 0 0)].toArray),(.bool false)]) (.inl R) ((none,0,0),(none,0,0)) R ⟨⟨2,b9,_,_,R,R,.inl ⟨fB,dN,R⟩⟩,R,trivial⟩ R (fun w s=>(((s.nilo (kT65).share 65).nilo kT3 3).e 12 [1,0]))
 refine aX R b3 (bS (aE (aI (aD (lO (vz (.agg [(sc G q J),(sc aa a8 ab)].toArray) (bN 3 fB dN R R R R)) (aL 2 R R dN R R R R R R (lN (_::_::aJ b9 [(sc G q J),(sc aa a8 ab)] 31::_::D) ?_)))))))
 refine lB R (aB (aE (bO ?_)))
 obtain rfl:=so g
 exact cX (vs:=[(.agg [(sc G q J),(sc aa a8 ab)].toArray),(.bool true)]) (.inl R) ((G,q.length,J),(aa,a8.length,ab)) R ⟨⟨2,b9,_,_,R,R,.inl ⟨fB,dN,R⟩⟩,R,trivial⟩ R (fun w s=>(s.e 10 [0,1]))
end Go.Proofs.YthelanpdjajnbaaGreat
