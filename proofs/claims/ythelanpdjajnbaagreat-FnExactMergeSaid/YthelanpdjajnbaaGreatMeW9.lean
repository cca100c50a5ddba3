import Derived.Test.YthelanpdjajnbaaGreatMeF
import Derived.Test.YthelanpdjajnbaaGreatMeW1
import Derived.Test.YthelanpdjajnbaaGreatMeW8
set_option linter.unusedVariables false
set_option maxRecDepth 20000
namespace Go.Proofs.YthelanpdjajnbaaGreat
open Go Go.Pg
variable {A2 A3 A5 A6:Option Addr}{D2 D3 D5 D6 N2 N3 N5 N6:Nat}
theorem Z8_ok  {g1:Graph}{j:Graph}{mG:Int}{r:Graph×Bool}(i:Z8 g1 j=some r) :
 FnOk Tryz.prog 22 [(.agg [(.slice A2 N2 D2),(.slice A3 N3 D3)].toArray),(.agg [(.slice A5 N5 D5),(.slice A6 N6 D6)].toArray)] [aO kT65 (.slice A2 N2 D2) g1.Nodes,aO kT3 (.slice A3 N3 D3) g1.Outs,aO kT65 (.slice A5 N5 D5) j.Nodes,aO kT3 (.slice A6 N6 D6) j.Outs,gl 0 mG] (fun (h:HH×HH)=>((.tuple [(.agg [(.slice h.1.1 h.1.2.1 h.1.2.2),(.slice h.2.1 h.2.2.1 h.2.2.2)].toArray),(.bool r.2)].toArray),[ow kT65 65 (.slice h.1.1 h.1.2.1 h.1.2.2) r.1.Nodes,ow kT3 3 (.slice h.2.1 h.2.2.1 h.2.2.2) r.1.Outs])):=by
 unfold Z8 at i
 refine aR Tryz.func22 R 121 R R fun C V=>?_
 refine cN (_::_::_::_::_::V) ?_
 refine cL 0 aA ?_
 rintro rfl
 refine cL 1 aA ?_
 rintro rfl
 refine cL 2 aA ?_
 rintro rfl
 refine cL 3 aA ?_
 rintro rfl
 let W0:List HP:=RR kT65 A2 D2 g1.Nodes::RR kT3 A3 D3 g1.Outs::RR kT65 A5 D5 j.Nodes::RR kT3 A6 D6 j.Outs::gl 0 mG::V
 refine cN W0 ?_
 refine aI (aD (eJ R (fun b7=>(eJ R (fun b8=>(aY R R hX (fun b9=>(lB R (aB ?_)))))))))
 let D:List HP:=aJ b8 [(sc A5 j.Nodes D5),(sc A6 j.Outs D6)] 31::aJ b7 [(sc A2 g1.Nodes D2),(sc A3 g1.Outs D3)] 31::W0
 refine qN (_::D) ?_
 refine aE (aI ?_)
 obtain ⟨a2,ct,i⟩:=bd i
 refine aD (lO (vz (.agg [(sc A2 g1.Nodes D2),(sc A3 g1.Outs D3)].toArray) (bN 2 fB dN R R R R)) (lM (RR kT65 A2 D2 g1.Nodes::RR kT3 A3 D3 g1.Outs::gl 0 mG::aJ _ _ _::D) (fun w s=>((((s.d 3 R).d 5 R).dg 9 R).e 4 [2,1,0,3])) ?_))
 refine lC 3 xG R (Zh_ok ct) R ?_
 rintro ⟨A12,N12,D12⟩
 refine lN (ow (kT23).share 23 (.slice A12 N12 D12) a2.1::_::D) ?_
 refine aM 0 cV ?_
 rintro rfl
 refine lO (vT R) (lS R (lB R (lS R (lB R (aB (aE (aI ?_)))))))
 obtain ⟨a5,cu,i⟩:=bd i
 refine aD (lO (vz (.agg [(sc A5 j.Nodes D5),(sc A6 j.Outs D6)].toArray) (bN 2 fB dN R R R R)) (lM (RR kT65 A5 D5 j.Nodes::RR kT3 A6 D6 j.Outs::gl 0 mG::ow _ _ _ _::aJ _ _ _::D) (fun w s=>((((s.d 6 R).d 8 R).dg 10 R).e 5 [2,1,0,3,4])) ?_))
 refine lC 3 xG R (Zh_ok cu) R ?_
 rintro ⟨aw,cz,al⟩
 refine lN (ow (kT23).share 23 (.slice aw cz al) a5.1::_::_::D) ?_
 refine aM 0 cV ?_
 rintro rfl
 refine lO (vT R) (lS R (lB R (lS R (lB R (aB (aE (aI (aI (cQ [(2,(pt b7 0)),(3,(pt b8 0)),(4,(pt b9 0)),(6,(sc A12 a2.1 D12)),(8,(sc aw a5.1 al)),(32,(.bool ((!a2.2)||(!a5.2))))] (aJ b9 [(.slice none 0 0),(.slice none 0 0)] 31::OO (kT23).share 23 A12 D12 a2.1::OO (kT23).share 23 aw al a5.1::D) ?_ ?_)))))))))
 refine aD (lB R (lO (mf R) (lB R ?_)))
 rcases bo (!a2.2) with a6 | a6
 refine lf (dK a6) (lf (dK a6) (lO (fE (!a5.2) R a6) (aB ?_)))
 exact qJ (fun w s=>(s.e 3 [2,1,0]))
 refine lW (cG a6) (vB R) (lW (cG a6) (mf R) (lO (fZ R a6 R) (aB ?_)))
 exact qJ (fun w s=>(s.e 3 [2,1,0]))
 rintro σ1
 refine aE ?_
 rcases bY i with ⟨bi,i⟩|⟨bi,i⟩
 refine bM R bi (aI (aD (lO (vz (.agg [(.slice none 0 0),(.slice none 0 0)].toArray) (aV oh hX R R)) (aL 0 R R dN R R R R R R (lB R (aB (aE (bO (bP ?_)))))))))
 obtain rfl:=so i
 exact cX (vs:=[(.agg [(.slice none 0 0),(.slice none 0 0)].toArray),(.bool false)]) (.inl R) ((none,0,0),(none,0,0)) R ⟨⟨0,b9,_,_,R,R,.inl ⟨fB,dN,R⟩⟩,R,trivial⟩ R (fun w s=>(((s.nilo kT65 65).nilo kT3 3).e 12 [1,0]))
 refine aX R bi (bS (aE (aI ?_)))
 obtain ⟨M,cv,i⟩:=bd i
 refine aD (lO (vz (.agg [(sc A5 j.Nodes D5),(sc A6 j.Outs D6)].toArray) (bN 3 fB dN R R R R)) (lM (RR kT65 A5 D5 j.Nodes::RR kT3 A6 D6 j.Outs::aJ _ _ _::ow _ _ _ _::ow _ _ _ _::D) (fun w s=>(((s.d 7 R).d 9 R).e 5 [1,0,2,3,4])) ?_))
 refine lC 2 BZ R (Z06_ok cv) R ?_
 rintro ⟨c8,d0,cc⟩
 refine lN (ow kT3 3 (.slice c8 d0 cc) M::_::_::_::D) ?_
 refine aM 0 aC ?_
 rintro rfl
 refine lS R (aB (aE (aI (aI (aD (lO (eC 1 gT R) (lO (eH 5 bZ R R R) (lO (eT bI R) (lS R (lO (eT bI R) (lO (xm R R) (aB (aE ?_)))))))))))))
 rcases bY i with ⟨bj,i⟩|⟨bj,i⟩
 refine bM R bj (aI (aD (lO (vz (.agg [(.slice none 0 0),(.slice none 0 0)].toArray) (aV oh hX R R)) (aL 1 R R dN R R R R R R (lB R (aB (aE (bO (bP ?_)))))))))
 obtain rfl:=so i
 exact cX (vs:=[(.agg [(.slice none 0 0),(.slice none 0 0)].toArray),(.bool false)]) (.inl R) ((none,0,0),(none,0,0)) R ⟨⟨1,b9,_,_,R,R,.inl ⟨fB,dN,R⟩⟩,R,trivial⟩ R (fun w s=>(((s.nilo kT65 65).nilo kT3 3).e 13 [1,0]))
 refine aX R bj (bS (aE (aI ?_)))
 obtain ⟨q,cw,i⟩:=bd i
 refine aD (lO (vz (.agg [(sc A2 g1.Nodes D2),(sc A3 g1.Outs D3)].toArray) (bN 5 fB dN R R R R)) (lM (RR kT65 A2 D2 g1.Nodes::RR kT3 A3 D3 g1.Outs::ow _ _ _ _::aJ _ _ _::ow _ _ _ _::ow _ _ _ _::D) (fun w s=>(((s.d 6 R).d 8 R).e 6 [1,0,2,3,4,5])) ?_))
 refine lC 2 C0 R (Z31_ok cw) R ?_
 rintro ⟨⟨ak,d2,am⟩,⟨O,d3,T⟩⟩
 refine lN (ow kT65 65 (.slice ak d2 am) q.Nodes::ow kT3 3 (.slice O d3 T) q.Outs::_::_::_::_::D) ?_
 refine aM 0 aC ?_
 rintro rfl
 refine aM 1 aC ?_
 rintro rfl
 refine aY R R hX (fun U=>(aL 0 R R dN R R R R R R (lN (aJ U [(sc ak q.Nodes am),(sc O q.Outs T)] 31::_::_::_::_::_::_::D) ?_)))
 refine aB (aE (aI ?_))
 obtain ⟨bm,i⟩:=gd i
 refine aD (lO (eC 0 fI R) (lO (eH 7 kh R R R) (lO (eT gQ R) (fH (K:=kT3) (m:=(j.Nodes.length:Int)) (z:=(0:Int)) R R bI cI jN (Zr.zk zT3 gB) (by decide) R R bm.1 bm.2.1 bm.2.2 (fun u l=>(aY R R kO (fun F=>(cO 0 R R eX R R R R R (lN (aJ F [(sc u (List.replicate (j.Nodes.length:Int).toNat (0:Int)) l)] 23::OO kT3 3 u l (List.replicate (j.Nodes.length:Int).toNat (0:Int))::_::_::_::_::_::_::_::D) ?_)))))))))
 refine aB (aE (aI (bD (A:=((List Int))×(Unit)) (fun a=>Z8_J1 j q a.1=some r) (fun a=>[(3,(pt b8 0)),(4,(pt b9 0)),(11,(pt U 0)),(12,(pt F 0))]) (fun a=>aJ b9 [(.slice none 0 0),(.slice none 0 0)] 31::aJ U [(sc ak q.Nodes am),(sc O q.Outs T)] 31::OO kT65 65 ak am q.Nodes::OO kT3 3 O T q.Outs::aJ F [(sc u (List.replicate (j.Nodes.length:Int).toNat (0:Int)) l)] 23::ow kT3 3 (.slice u (List.replicate (j.Nodes.length:Int).toNat (0:Int)).length l) a.1::D) ?_ ?_)))
 refine aI (aD (lS R (lO (eT bI R) (lI R (aB (aE (cB ?_)))))))
 obtain ⟨e1,d9,cs⟩:=bd i
 refine bE (A:=HH) d9 (fun s a=>[(2,(pt b7 0)),(3,(pt b8 0)),(4,(pt b9 0)),(6,(sc A12 a2.1 D12)),(8,(sc aw a5.1 al)),(11,(pt U 0)),(12,(pt F 0)),(49,(.slice a.1 a.2.1 a.2.2)),(50,(il M)),(51,(iv s.2))]) (fun s a=>aJ b9 [(.slice none 0 0),(.slice none 0 0)] 31::OO (kT23).share 23 A12 D12 a2.1::OO (kT23).share 23 aw al a5.1::aJ U [(sc ak q.Nodes am),(sc O q.Outs T)] 31::OO kT65 65 ak am q.Nodes::OO kT3 3 O T q.Outs::aJ F [(sc u (List.replicate (j.Nodes.length:Int).toNat (0:Int)) l)] 23::ow kT3 3 (.slice u (List.replicate (j.Nodes.length:Int).toNat (0:Int)).length l) s.1::ow kT3 3 (.slice a.1 a.2.1 a.2.2) M::D) (c8,M.length,cc) (aS R) (fun w s=>(s.f 9 [6,3,2,3,0,2,5,1])) ?_
 rintro ⟨aj,Y⟩ ⟨dd,d4,br⟩ σ1 cx i cr
 replace i:Z8_L1 g1 j a2 a5 M aj Y=some cx:=i
 unfold Z8_L1 at i
 refine bJ 8 aC (fun (hn:d4=M.length)=>?_)
 subst hn
 refine aI (aD (lO (jz R R) (aB (aE (aI ?_)))))
 rcases bY i with ⟨bk,i⟩|⟨bk,i⟩
 refine bM R bk (bS (aE (aI (cB (aI ?_)))))
 obtain ⟨bn,i⟩:=gd i
 refine aD (lI R (bC 8 aC (show 0<M.length by have:=bn; omega) (fun bs o61 ha=>?_)))
 subst ha
 refine lO (eA bI cI R R bn) (lO (gP 8 fC aC R bn) (lI R (lI R (aB (aE (aI (aI ?_)))))))
 obtain ⟨ag,i⟩:=gd i
 obtain ⟨ah,i⟩:=gd i
 obtain ⟨ai,i⟩:=gd i
 obtain ⟨db,bu,i⟩:=bd i
 refine cQ [(2,(pt b7 0)),(3,(pt b8 0)),(4,(pt b9 0)),(6,(sc A12 a2.1 D12)),(8,(sc aw a5.1 al)),(11,(pt U 0)),(12,(pt F 0)),(13,(iv Y)),(14,(iv (ix M Y))),(49,(sc (ad bs o61) M br)),(50,(il M)),(51,(iv Y)),(69,(.bool (!db)))] (aJ b9 [(.slice none 0 0),(.slice none 0 0)] 31::OO (kT23).share 23 A12 D12 a2.1::OO (kT23).share 23 aw al a5.1::aJ U [(sc ak q.Nodes am),(sc O q.Outs T)] 31::OO kT65 65 ak am q.Nodes::OO kT3 3 O T q.Outs::aJ F [(sc u (List.replicate (j.Nodes.length:Int).toNat (0:Int)) l)] 23::ow kT3 3 (.slice u (List.replicate (j.Nodes.length:Int).toNat (0:Int)).length l) aj::OO kT3 3 (ad bs o61) br M::D) ?_ ?_
 refine bB 12 aA (show 0<g1.Outs.length by have:=ag; omega) (fun de o64 ha=>?_)
 subst ha
 refine bB 1 cV (show 0<a2.1.length by have:=ah; omega) (fun d5 o67 ha=>?_)
 subst ha
 refine bB 2 cV (show 0<a5.1.length by have:=ai; omega) (fun d6 o71 ha=>?_)
 subst ha
 refine dE 14 [] bQ (fun ht hn=>(dR 0 R (vS R) (dR 1 R (eC 1 gT R) (dR 2 R (eH 10 bZ R R R) (dR 3 R (vI R) (dR 4 R (eA bI cI R R ag) (dR 5 R (gP 12 fC aA R ag) (dR 6 R (eA jp eX R R ah) (dR 8 R (vS R) (dR 9 R (vI R) (dR 10 R (eA jp eX R R ai) (fW [7,11] (by kernel_rfl) R ⟨?_,?_,trivial⟩))))))))))))
 refine kL (K:=(kT23).share) (fo:=0) 1 (ix g1.Outs Y) R R bZ dT23.own (fun _ _=>R) R R ah.1 ah.2 ?_
 rintro ⟨bv,bw⟩
 refine lN (RR kT3 bv bw (ix a2.1 (ix g1.Outs Y))::_::OO (kT23).share 23 (ad d5 o67) D12 a2.1::OO (kT23).share 23 (ad d6 o71) al a5.1::_::_::_::_::ow kT3 3 (.slice u (List.replicate (j.Nodes.length:Int).toNat (0:Int)).length l) aj::OO kT3 3 (ad bs o61) br M::D) ?_
 refine aB (aG (sL [0]) (d1 11 R (kL (K:=(kT23).share) (fo:=0) 3 (ix M Y) R R bZ dT23.own (fun _ _=>R) R R ai.1 ai.2 ?_)))
 rintro ⟨c9,cf⟩
 refine lN (RR kT3 c9 cf (ix a5.1 (ix M Y))::_::_::_::_::_::_::_::_::_::_::D) ?_
 refine aB (aG (sL [1,0]) (d1 12 R (lM (aO _ _ _::aO _ _ _::aO _ _ _::aO _ _ _::aJ _ _ _::ow _ _ _ _::ow _ _ _ _::aJ _ _ _::ow _ _ _ _::ow _ _ _ _::aJ _ _ _::ow _ _ _ _::ow _ _ _ _::D) (fun w s=>(((s.d 1 R).d 1 R).f 13 [1,1,0,1,2,11])) ?_)))
 refine lC 2 xF R (Z0u_ok bu) R ?_
 rintro _
 refine lN (_::_::_::_::_::_::_::_::_::_::_::D) ?_
 refine aB (aG (sL [1,0]) (dR 13 R (mf R) (hS:=(sL [1,0])) (dD ?_)))
 exact qJ (fun w s=>(s.f 11 [2,9]))
 refine kL (K:=(kT23).share) (fo:=0) 2 (ix M Y) R R bZ dT23.own (fun _ _=>R) R R ai.1 ai.2 ?_
 rintro ⟨c9,cf⟩
 refine lN (_::_::_::_::_::_::_::_::_::_::D) ?_
 refine aB (aG (sL [0]) (d1 7 R (kL (K:=(kT23).share) (fo:=0) 2 (ix g1.Outs Y) R R bZ dT23.own (fun _ _=>R) R R ah.1 ah.2 ?_)))
 rintro ⟨bv,bw⟩
 refine lN (RR kT3 bv bw (ix a2.1 (ix g1.Outs Y))::_::_::_::_::_::_::_::_::_::_::D) ?_
 refine aB (aG (sL [1,0]) (d1 12 R (lM (aO _ _ _::aO _ _ _::aO _ _ _::aO _ _ _::aJ _ _ _::ow _ _ _ _::ow _ _ _ _::aJ _ _ _::ow _ _ _ _::ow _ _ _ _::aJ _ _ _::ow _ _ _ _::ow _ _ _ _::D) (fun w s=>(((s.d 0 R).d 2 R).f 13 [1,1,0,1,2,11])) ?_)))
 refine lC 2 xF R (Z0u_ok bu) R ?_
 rintro _
 refine lN (_::_::_::_::_::_::_::_::_::_::_::D) ?_
 refine aB (aG (sL [1,0]) (dR 13 R (mf R) (hS:=(sL [1,0])) (dD ?_)))
 exact qJ (fun w s=>(s.f 11 [2,9]))
 rintro σ1
 refine aE ?_
 rcases bY i with ⟨bl,i⟩|⟨bl,i⟩
 refine bM R bl (aI (aD (lO (vz (.agg [(.slice none 0 0),(.slice none 0 0)].toArray) (aV oh hX R R)) (aL 0 R R dN R R R R R R (lN (_::OO (kT23).share 23 A12 D12 a2.1::OO (kT23).share 23 aw al a5.1::_::_::_::_::_::_::D) ?_)))))
 refine lB R (aB (aE (bO (bP (b' (bP ?_))))))
 obtain rfl:=so i
 obtain rfl:=cr _ R
 have i:=cs
 refine bP (b' (bP ?_))
 obtain rfl:=so i
 exact cX (vs:=[(.agg [(.slice none 0 0),(.slice none 0 0)].toArray),(.bool false)]) (.inl R) ((none,0,0),(none,0,0)) R ⟨⟨0,b9,_,_,R,R,.inl ⟨fB,dN,R⟩⟩,R,trivial⟩ R (fun w s=>(((s.nilo kT65 65).nilo kT3 3).e 18 [1,0]))
 refine aX R bl (bS (aE ?_))
 obtain ⟨bc,i⟩:=gd i
 refine bB 12 aA (show 0<g1.Outs.length by have:=ag; omega) (fun df o77 ha=>?_)
 subst ha
 refine bB 7 aC (show 0<(List.replicate (j.Nodes.length:Int).toNat (0:Int)).length by have:=bc; omega) (fun bz o80 ha=>?_)
 subst ha
 refine dE 9 [7] bQ (fun ht hn=>(dR 0 R (eH 6 bZ R R R) (hS:=(sL [7])) (dR 1 R (vI R) (hS:=(sL [7])) (dR 2 R (eC 1 gT R) (hS:=(sL [7])) (dR 3 R (eH 9 bZ R R R) (hS:=(sL [7])) (dR 4 R (vI R) (hS:=(sL [7])) (dR 5 R (eA bI cI R R ag) (hS:=(sL [7])) (dR 6 R (gP 11 fC aA R ag) (hS:=(sL [7])) (dR 7 R (eA bI cI R R bc) (hS:=(sL [7])) (d1 8 R (lM (ow kT3 3 (.slice (ad bz o80) (List.replicate (j.Nodes.length:Int).toNat (0:Int)).length l) aj::aJ _ _ _::ow _ _ _ _::ow _ _ _ _::aJ _ _ _::ow _ _ _ _::ow _ _ _ _::aJ F [(sc (ad bz o80) (List.replicate (j.Nodes.length:Int).toNat (0:Int)) l)] 23::ow _ _ _ _::D) (fun w s=>(s.f 9 [7,1,0,7,8,1])) ?_)))))))))))
 refine eB (K:=kT3) (x':=(ix g1.Outs Y)) 0 (ix M Y) R R cI R R bc.1 bc.2 ?_ ?_
 exact fun I h s=>(gF).put I h () (ix g1.Outs Y) s
 refine lN (ow kT3 3 (.slice (ad bz o80) (List.replicate (j.Nodes.length:Int).toNat (0:Int)).length l) (aj.set (ix M Y).toNat (ix g1.Outs Y))::_::_::_::_::_::_::_::_::D) ?_
 refine aB (aG (sL [0]) (dD (cT (aE (aD (lO (jy R R) (lI R (aB ?_))))))))
 obtain rfl:=so i
 exact qA ((ad bs o61),M.length,br) (fun w s=>(s.f 9 [1,7,0,1,8,1]))
 refine aX R bk (eL (cR ?_))
 obtain rfl:=so i
 obtain rfl:=cr _ R
 have i:=cs
 refine cR (dU ?_)
 exact qI (aj,()) i (fun w s=>(s.f 9 [0,1,3,5]))
 rintro ⟨cy,_⟩ σ1 i
 replace i:Z8_J1 j q cy=some r:=i
 unfold Z8_J1 at i
 refine aI (bD (A:=((List Node)×(List Int))×(HH)) (fun a=>Z8_J4 j a.1.1 a.1.2=some r) (fun a=>[(3,(pt b8 0)),(4,(pt b9 0)),(11,(pt U 0)),(12,(pt F 0))]) (fun a=>aJ b9 [(.slice none 0 0),(.slice none 0 0)] 31::aJ U [(.slice a.2.1 a.2.2.1 a.2.2.2),(sc O q.Outs T)] 31::ow kT65 65 (.slice a.2.1 a.2.2.1 a.2.2.2) a.1.1::OO kT3 3 O T q.Outs::aJ F [(sc u (List.replicate (j.Nodes.length:Int).toNat (0:Int)) l)] 23::ow kT3 3 (.slice u (List.replicate (j.Nodes.length:Int).toNat (0:Int)).length l) a.1.2::D) ?_ ?_)
 refine aI (aD (lO (eC 0 fI R) (lO (eH 6 kh R R R) (lO (eT gQ R) (lI R (aB (aE (cB ?_))))))))
 obtain ⟨e2,da,d8⟩:=bd i
 refine bE (A:=HH) da (fun s a=>[(3,(pt b8 0)),(4,(pt b9 0)),(11,(pt U 0)),(12,(pt F 0)),(81,(sc A5 j.Nodes D5)),(82,(il j.Nodes)),(83,(iv s.2.2))]) (fun s a=>aJ b9 [(.slice none 0 0),(.slice none 0 0)] 31::aJ U [(.slice a.1 a.2.1 a.2.2),(sc O q.Outs T)] 31::ow kT65 65 (.slice a.1 a.2.1 a.2.2) s.1::OO kT3 3 O T q.Outs::aJ F [(sc u (List.replicate (j.Nodes.length:Int).toNat (0:Int)) l)] 23::ow kT3 3 (.slice u (List.replicate (j.Nodes.length:Int).toNat (0:Int)).length l) s.2.1::D) (ak,q.Nodes.length,am) (aS R) (fun w s=>s) ?_
 rintro ⟨E,J,g⟩ ⟨b5,cg,ba⟩ σ1 bp i d7
 replace i:Z8_L2 j E J g=some bp:=i
 unfold Z8_L2 at i
 refine bJ 2 aC (fun (hn:cg=E.length)=>?_)
 subst hn
 refine aI (aD (lO (jz R R) (aB (aE (aI ?_)))))
 rcases bY i with ⟨b2,i⟩|⟨b2,i⟩
 refine bM R b2 (bS (aE (aI (bD (A:=((List Node)×(List Int))×(HH)) (fun a=>Z8_J3 g a.1.1 a.1.2=some bp) (fun a=>[(3,(pt b8 0)),(4,(pt b9 0)),(11,(pt U 0)),(12,(pt F 0)),(81,(sc A5 j.Nodes D5)),(82,(il j.Nodes)),(83,(iv g))]) (fun a=>aJ b9 [(.slice none 0 0),(.slice none 0 0)] 31::aJ U [(.slice a.2.1 a.2.2.1 a.2.2.2),(sc O q.Outs T)] 31::ow kT65 65 (.slice a.2.1 a.2.2.1 a.2.2.2) a.1.1::OO kT3 3 O T q.Outs::aJ F [(sc u (List.replicate (j.Nodes.length:Int).toNat (0:Int)) l)] 23::ow kT3 3 (.slice u (List.replicate (j.Nodes.length:Int).toNat (0:Int)).length l) a.1.2::D) ?_ ?_))))
 refine cB (aI ?_)
 obtain ⟨an,i⟩:=gd i
 refine aD (lI R (bC 10 aA (show 0<j.Nodes.length by have:=an; omega) (fun cq o120 ha=>?_)))
 subst ha
 refine lO (eA gQ eN R R an) (gO (K:=kT65) 10 g dT65.dec R an.1 an.2 ?_)
 rintro ⟨-,⟨ap,ax⟩,⟨aq,ay⟩,⟨ar,az⟩,-,⟨au,b0⟩⟩
 refine lN (cl cq (o120+g.toNat*6) [(iv (ix j.Nodes g).Op),(sc ap ((ix j.Nodes g).Args) ax),(sc aq ((ix j.Nodes g).Dims) ay),(sc ar ((ix j.Nodes g).Ints) az),(aH (ix j.Nodes g).Form),(sc au ((ix j.Nodes g).Data) b0)]::RR kT3 ap ax ((ix j.Nodes g).Args)::RR kT3 aq ay ((ix j.Nodes g).Dims)::RR kT3 ar az ((ix j.Nodes g).Ints)::RR kT3 au b0 ((ix j.Nodes g).Data)::_::aJ U [(sc b5 E ba),(sc O q.Outs T)] 31::OO kT65 65 b5 ba E::_::aJ F [(sc u (List.replicate (j.Nodes.length:Int).toNat (0:Int)) l)] 23::ow kT3 3 (.slice u (List.replicate (j.Nodes.length:Int).toNat (0:Int)).length l) J::D) ?_
 refine lO (vz (.agg [(iv (ix j.Nodes g).Op),(sc ap ((ix j.Nodes g).Args) ax),(sc aq ((ix j.Nodes g).Dims) ay),(sc ar ((ix j.Nodes g).Ints) az),(aH (ix j.Nodes g).Form),(sc au ((ix j.Nodes g).Data) b0)].toArray) (eF (fo:=0) 0 kC eN R R R R)) (aY R R jC (fun bg=>(lI R (aL 0 R R eN R R R R R R (lN (aJ bg [(iv (ix j.Nodes g).Op),(sc ap ((ix j.Nodes g).Args) ax),(sc aq ((ix j.Nodes g).Dims) ay),(sc ar ((ix j.Nodes g).Ints) az),(aH (ix j.Nodes g).Form),(sc au ((ix j.Nodes g).Data) b0)] 65::_::_::_::_::_::_::_::_::_::_::_::D) ?_)))))
 refine aB (aE (aI (aI (aD (lO (eC 0 gR R) (lO (eH 0 fC R R R) (lO (l8 R R) (aB (aE ?_)))))))))
 rcases bY i with ⟨b3,i⟩|⟨b3,i⟩
 refine bM R b3 (eL (cR (dU ?_)))
 exact qI ((E,J),(b5,E.length,ba)) i (fun w s=>(s.f 12 [6,6]))
 refine aX R b3 (bS (aE (aI ?_)))
 obtain ⟨b,c1,i⟩:=bd i
 refine aD (lO (vz (.agg [(iv (ix j.Nodes g).Op),(sc ap ((ix j.Nodes g).Args) ax),(sc aq ((ix j.Nodes g).Dims) ay),(sc ar ((ix j.Nodes g).Ints) az),(aH (ix j.Nodes g).Form),(sc au ((ix j.Nodes g).Data) b0)].toArray) (bN 0 kC eN R R R R)) (lM (aO _ _ _::aO _ _ _::aO _ _ _::aO _ _ _::aJ _ _ _::cl _ _ _::aO _ _ _::aO _ _ _::aO _ _ _::aO _ _ _::aJ _ _ _::aJ _ _ _::ow _ _ _ _::ow _ _ _ _::aJ _ _ _::ow _ _ _ _::D) (fun w s=>(((((s.d 2 R).d 4 R).d 6 R).d 8 R).f 16 [3,1,2,1,1,1,0,1,4,12])) ?_))
 refine lC 4 AE R (Z24_ok c1) R ?_
 rintro ⟨⟨b6,ch,bb⟩,⟨a8,ci,ab⟩,⟨a9,cj,ac⟩,⟨aa,ck,ae⟩⟩
 refine lN (ow kT3 3 (.slice b6 ch bb) b.Args::ow kT3 3 (.slice a8 ci ab) b.Dims::ow kT3 3 (.slice a9 cj ac) b.Ints::ow kT3 3 (.slice aa ck ae) b.Data::_::_::_::_::_::_::_::_::_::_::_::_::D) ?_
 refine aM 0 aC ?_
 rintro rfl
 refine aM 1 aC ?_
 rintro rfl
 refine aM 2 aC ?_
 rintro rfl
 refine aM 3 aC ?_
 rintro rfl
 refine aL 4 R R eN R R R R R R (lN (_::_::_::_::aJ bg [(iv b.Op),(sc b6 b.Args bb),(sc a8 b.Dims ab),(sc a9 b.Ints ac),(aH b.Form),(sc aa b.Data ae)] 65::_::_::_::_::_::_::_::_::_::_::_::D) ?_)
 refine aB (aE (aI ?_))
 obtain ⟨L,c2,i⟩:=bd i
 refine aD (lO (eC 1 jl R) (lO (eH 4 bZ R R R) (lO (vp (.func (.func 52) [].toArray [(pt F 0)].toArray) R) (lM (ow _ _ _ _::ow _ _ _ _::aJ _ _ _::ow _ _ _ _::ow _ _ _ _::ow _ _ _ _::aJ _ _ _::cl _ _ _::aO _ _ _::aO _ _ _::aO _ _ _::aO _ _ _::aJ _ _ _::aJ _ _ _::ow _ _ _ _::ow _ _ _ _::D) (fun w s=>(s.f 16 [0,1,15,1,14,1,1,13])) ?_))))
 refine lC 3 AF R (FnOk.lends (A':=[OO kT3 3 b6 bb b.Args,ow kT3 3 (.slice u (List.replicate (j.Nodes.length:Int).toNat (0:Int)).length l) J]) (A:=[RR kT3 b6 bb b.Args,aO kT3 (.slice u (List.replicate (j.Nodes.length:Int).toNat (0:Int)).length l) J]) (B:=[aJ F [(sc u (List.replicate (j.Nodes.length:Int).toNat (0:Int)) l)] 23]) (Z0r_ok c2) ⟨aQ,aQ,trivial⟩ (fun _=>⟨(bH iP),nL,trivial⟩)) R ?_
 rintro ⟨av,cm,b1⟩
 refine lN (_::_::ow kT3 3 (.slice av cm b1) L::_::_::_::_::_::_::_::_::_::_::_::_::_::_::D) ?_
 refine aM 2 aC ?_
 rintro rfl
 refine lO (eC 1 jl R) (cO 7 R R eX R R R R R (lN (_::_::_::_::_::_::_::aJ bg [(iv b.Op),(sc av L b1),(sc a8 b.Dims ab),(sc a9 b.Ints ac),(aH b.Form),(sc aa b.Data ae)] 65::_::_::_::_::_::_::_::_::_::D) ?_))
 refine aB (aE (aI ?_))
 obtain ⟨ao,i⟩:=gd i
 refine aD (lO (eH 3 bZ R R R) (lI R (lO (eC 0 fI R) (lO (eH 14 kh R R R) (lO (eT gQ R) (bC 1 aC (show 0<(List.replicate (j.Nodes.length:Int).toNat (0:Int)).length by have:=ao; omega) (fun bh o138 ha=>?_)))))))
 subst ha
 refine lO (eA bI cI R R ao) (lM (ow kT3 3 (.slice (ad bh o138) (List.replicate (j.Nodes.length:Int).toNat (0:Int)).length l) J::ow _ _ _ _::ow _ _ _ _::aJ F [(sc (ad bh o138) (List.replicate (j.Nodes.length:Int).toNat (0:Int)) l)] 23::ow _ _ _ _::ow _ _ _ _::ow _ _ _ _::aJ _ _ _::cl _ _ _::aO _ _ _::aO _ _ _::aO _ _ _::aO _ _ _::aJ _ _ _::aJ _ _ _::ow _ _ _ _::ow _ _ _ _::D) (fun w s=>(s.f 17 [1,1,0,1,2,15])) ?_)
 refine eB (K:=kT3) (x':=(E.length:Int)) 0 g R R cI R R ao.1 ao.2 ?_ ?_
 exact fun I h s=>(gF).put I h () (E.length:Int) s
 refine lN (ow kT3 3 (.slice (ad bh o138) (List.replicate (j.Nodes.length:Int).toNat (0:Int)).length l) (J.set g.toNat (E.length:Int))::_::_::_::_::_::_::_::_::_::_::_::_::_::_::_::_::D) ?_
 refine aB (aE ?_)
 obtain ⟨c0,i⟩:=gd i
 refine aD (lO (eC 0 fI R) (lO (eH 14 kh R R R) (lO (vz (.agg [(iv b.Op),(sc av L b1),(sc a8 b.Dims ab),(sc a9 b.Ints ac),(aH b.Form),(sc aa b.Data ae)].toArray) (bN 7 kC eN R R R R)) (lM (ow _ _ _ _::ow _ _ _ _::ow _ _ _ _::ow _ _ _ _::ow _ _ _ _::ow _ _ _ _::aJ _ _ _::aJ _ _ _::cl _ _ _::aO _ _ _::aO _ _ _::aO _ _ _::aO _ _ _::aJ _ _ _::aJ _ _ _::ow _ _ _ _::ow _ _ _ _::D) (fun w s=>(s.f 17 [2,1,4,3,0,2,3,1,7,10])) ?_))))
 refine bK (K:=kT65) (xs:=([(⟨b.Op,L,b.Dims,b.Ints,b.Form,b.Data⟩:Node)]:List Node)) (vs:=[(.agg [(iv b.Op),(sc av L b1),(sc a8 b.Dims ab),(sc a9 b.Ints ac),(aH b.Form),(sc aa b.Data ae)].toArray)]) 4 R R gQ eN jC R R R R R R ?_ R (fun c6 ca=>?_)
 exact fun I h s=>(nE).list [(((),(sc av L b1),(sc a8 b.Dims ab),(sc a9 b.Ints ac),(),(sc aa b.Data ae)),(⟨b.Op,L,b.Dims,b.Ints,b.Form,b.Data⟩:Node))] I h s
 refine lN (OO kT65 65 c6 ca ([(⟨b.Op,L,b.Dims,b.Ints,b.Form,b.Data⟩:Node)]:List Node)::_::_::_::_::_::_::_::_::_::_::_::_::_::D) ?_
 refine lM (ow _ _ _ _::ow _ _ _ _::ow _ _ _ _::ow _ _ _ _::aJ _ _ _::aJ _ _ _::cl _ _ _::aO _ _ _::aO _ _ _::aO _ _ _::aO _ _ _::aJ _ _ _::aJ _ _ _::ow _ _ _ _::D) (fun w s=>(s.f 14 [12,1,0,12,13,1])) ?_
 refine dV (K:=kT65) 1172812402961 R R gQ eN tc (Zr.zk zT65 jC) R R R R R R dA c0 (fun be bf=>(lN (OO kT65 65 be bf (E++([(⟨b.Op,L,b.Dims,b.Ints,b.Form,b.Data⟩:Node)]:List Node))::_::_::_::_::_::_::_::_::_::_::_::_::D) ?_))
 refine lO (eC 0 fI R) (cO 11 R R tf R R R R R (lN (_::_::_::_::_::_::_::_::_::_::_::aJ U [(sc be (E++([(⟨b.Op,L,b.Dims,b.Ints,b.Form,b.Data⟩:Node)]:List Node)) bf),(sc O q.Outs T)] 31::_::D) ?_))
 refine aB (cT ?_)
 exact qI (((E++([(⟨b.Op,L,b.Dims,b.Ints,b.Form,b.Data⟩:Node)]:List Node)),(J.set g.toNat (E.length:Int))),(be,(E++([(⟨b.Op,L,b.Dims,b.Ints,b.Form,b.Data⟩:Node)]:List Node)).length,bf)) i (fun w s=>(s.e 13 [10,11,0,12,3,1]))
 rintro ⟨⟨bq,c5⟩,⟨c7,cn,cb⟩⟩ σ1 i
 replace i:Z8_J3 g bq c5=some bp:=i
 unfold Z8_J3 at i
 refine bJ 2 aC (fun (hn:cn=bq.length)=>?_)
 subst hn
 refine aD (lO (jy R R) (lI R (aB ?_)))
 obtain rfl:=so i
 exact qA (c7,bq.length,cb) (fun w s=>s)
 refine aX R b2 (eL (cR ?_))
 obtain rfl:=so i
 obtain rfl:=d7 _ R
 have i:=d8
 refine cR (dU ?_)
 exact qI ((E,J),(b5,E.length,ba)) i (fun w s=>s)
 rintro ⟨⟨G,a7⟩,⟨Z,co,a0⟩⟩ σ1 i
 replace i:Z8_J4 j G a7=some r:=i
 unfold Z8_J4 at i
 refine bJ 2 aC (fun (hn:co=G.length)=>?_)
 subst hn
 refine aI ?_
 obtain ⟨a1,c3,i⟩:=bd i
 refine aD (lO (eC 1 gT R) (lO (eH 6 bZ R R R) (lO (vp (.func (.func 53) [].toArray [(pt F 0)].toArray) R) (lM (ow kT3 3 (.slice u (List.replicate (j.Nodes.length:Int).toNat (0:Int)).length l) a7::RR kT3 A6 D6 j.Outs::aJ F [(sc u (List.replicate (j.Nodes.length:Int).toNat (0:Int)) l)] 23::aJ _ _ _::aJ U [(sc Z G a0),(sc O q.Outs T)] 31::OO kT65 65 Z a0 G::ow _ _ _ _::D) (fun w s=>((s.d 11 R).e 7 [6,0,5,1,2,3,4])) ?_))))
 refine lC 3 AF R (FnOk.lends (A':=[ow kT3 3 (.slice u (List.replicate (j.Nodes.length:Int).toNat (0:Int)).length l) a7]) (A:=[aO kT3 (.slice u (List.replicate (j.Nodes.length:Int).toNat (0:Int)).length l) a7]) (B:=[RR kT3 A6 D6 j.Outs,aJ F [(sc u (List.replicate (j.Nodes.length:Int).toNat (0:Int)) l)] 23]) (FnOk.perm (Z0s_ok c3) (Pre':=[aO kT3 (.slice u (List.replicate (j.Nodes.length:Int).toNat (0:Int)).length l) a7,RR kT3 A6 D6 j.Outs,aJ F [(sc u (List.replicate (j.Nodes.length:Int).toNat (0:Int)) l)] 23]) (fun _ _ _ s=>(s.e 3 [1,0,2]))) ⟨aQ,trivial⟩ (fun _=>⟨(bH iP),nL,trivial⟩)) R ?_
 rintro ⟨a3,cp,a4⟩
 refine lN (_::ow kT3 3 (.slice a3 cp a4) a1::_::_::_::_::_::D) ?_
 refine aM 1 aC ?_
 rintro rfl
 refine lO (eC 1 gT R) (cO 4 R R eX R R R R R (lN (_::_::_::_::aJ U [(sc Z G a0),(sc a3 a1 a4)] 31::_::_::D) ?_))
 refine aB (aE (aI (aI ?_)))
 obtain ⟨dc,c4,i⟩:=bd i
 refine aD (lO (vz (.agg [(sc Z G a0),(sc a3 a1 a4)].toArray) (bN 4 fB dN R R R R)) (lM (ow _ _ _ _::ow _ _ _ _::gl 0 mG::ow _ _ _ _::aJ _ _ _::aJ _ _ _::aJ _ _ _::ow _ _ _ _::D) (fun w s=>((s.dg 13 R).e 8 [6,2,0,1,3,4,5,7])) ?_))
 refine lC 3 C3 R (FnOk.lends (A':=[OO kT65 65 Z a0 G,OO kT3 3 a3 a4 a1]) (A:=[RR kT65 Z a0 G,RR kT3 a3 a4 a1]) (B:=[gl 0 mG]) (Z2s_ok (g1:=(⟨G,a1⟩:Graph)) c4) ⟨aQ,aQ,trivial⟩ (fun _=>trivial)) R ?_
 rintro _
 refine lN (_::_::_::_::_::_::_::D) ?_
 refine lO (mf R) (aB (aE ?_))
 rcases bY i with ⟨b4,i⟩|⟨b4,i⟩
 refine bM R b4 (aI (aD (lO (vz (.agg [(.slice none 0 0),(.slice none 0 0)].toArray) (aV oh hX R R)) (aL 4 R R dN R R R R R R (lB R (aB (aE (bO (bP ?_)))))))))
 obtain rfl:=so i
 exact cX (vs:=[(.agg [(.slice none 0 0),(.slice none 0 0)].toArray),(.bool false)]) (.inl R) ((none,0,0),(none,0,0)) R ⟨⟨4,b9,_,_,R,R,.inl ⟨fB,dN,R⟩⟩,R,trivial⟩ R (fun w s=>(((s.nilo kT65 65).nilo kT3 3).e 16 [1,0]))
 refine aX R b4 (bS (aE (aI (aD (lO (vz (.agg [(sc Z G a0),(sc a3 a1 a4)].toArray) (bN 5 fB dN R R R R)) (aL 4 R R dN R R R R R R (lN (_::_::_::_::aJ b9 [(sc Z G a0),(sc a3 a1 a4)] 31::_::_::D) ?_)))))))
 refine lB R (aB (aE (bO ?_)))
 obtain rfl:=so i
 exact cX (vs:=[(.agg [(sc Z G a0),(sc a3 a1 a4)].toArray),(.bool true)]) (.inl R) ((Z,G.length,a0),(a3,a1.length,a4)) R ⟨⟨4,b9,_,_,R,R,.inl ⟨fB,dN,R⟩⟩,R,trivial⟩ R (fun w s=>(s.e 14 [0,1]))
end Go.Proofs.YthelanpdjajnbaaGreat
