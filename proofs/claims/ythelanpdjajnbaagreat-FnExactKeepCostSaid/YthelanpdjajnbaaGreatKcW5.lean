import Derived.Test.YthelanpdjajnbaaGreatKcF
import Derived.Test.YthelanpdjajnbaaGreatKcW2
import Derived.Test.YthelanpdjajnbaaGreatKcW4
set_option linter.unusedVariables false
set_option maxRecDepth 20000
namespace Go.Proofs.YthelanpdjajnbaaGreat
open Go Go.Pg
variable {A2 A3 A5 A7:Option Addr}{D2 D3 D5 D7 N2 N3 N5 N7:Nat}
theorem Z7_ok  {g1:Graph}{b:(List (List Int))}{l:(List Int)}{r:Int×Int}(j:Z7 g1 b l=some r) :
 FnOk Tryz.prog 26 [(.agg [(.slice A2 N2 D2),(.slice A3 N3 D3)].toArray),(.slice A5 N5 D5),(.slice A7 N7 D7)] [aN cP (.slice A2 N2 D2) g1.Nodes,aN kT3 (.slice A3 N3 D3) g1.Outs,aN bH (.slice A5 N5 D5) b,aN kT3 (.slice A7 N7 D7) l] (fun (h:Unit)=>((.tuple [(iv r.1),(iv r.2)].toArray),[])):=by
 unfold Z7 at j
 refine aP Tryz.func26 R 79 R R fun C V=>?_
 refine cN (_::_::_::_::V) ?_
 refine cL 0 aA ?_
 rintro rfl
 refine cL 1 aA ?_
 rintro rfl
 refine cL 2 aA ?_
 rintro rfl
 refine cL 3 aA ?_
 rintro rfl
 let W0:List HP:=RR cP A2 D2 g1.Nodes::RR kT3 A3 D3 g1.Outs::RR bH A5 D5 b::RR kT3 A7 D7 l::V
 refine cN W0 ?_
 refine aK (aD (eJ R (fun b8=>(lI R (lI R (aC ?_))))))
 let I:List HP:=aJ b8 [(sc A2 g1.Nodes D2),(sc A3 g1.Outs D3)] 31::W0
 refine qN I ?_
 refine aG (aK (aD (lI R (aC (aG (aK (aD (lI R (aC (aG (aK (aD (lI R (aC (aG (aK ?_))))))))))))))))
 obtain ⟨r9,b0,j⟩:=bd j
 refine aD (lS R (lO (fX 0 jS R) (lO (gF 0 oD R R R) (lO (hY mC R) (lO (uv R R) (lM (RR kT3 A7 D7 l::I) (fun w s=>(s.d 4 R)) ?_))))))
 refine lC 1 uI R (Z03_ok b0) R ?_
 rintro _
 refine lN I ?_
 refine lI R (aC (aG (aK (bB (A:=(Int×Int×Int)×(Unit)) (fun a=>Z7_J9 a.1.1 a.1.2.1 a.1.2.2=some r) (fun a=>[(8,(iv a.1.1)),(9,(iv a.1.2.1)),(10,(iv a.1.2.2))]) (fun a=>I) ?_ ?_))))
 refine aK (aD (lI R (aC (aG (dJ ?_)))))
 obtain ⟨e1,b5,b3⟩:=bd j
 refine bD (A:=Unit) b5 (fun s a=>[(1,(sc A5 b D5)),(2,(sc A7 l D7)),(3,(pt b8 0)),(8,(iv s.1)),(9,(iv s.2.1)),(10,(iv s.2.2.1)),(11,(iv r9)),(12,(iv s.2.2.2))]) (fun s a=>I) () (aS R) (fun w s=>s) ?_
 rintro ⟨a3,a5,m,D⟩ _ σ1 T j b1
 replace j:Z7_L1 g1 b l r9 a3 a5 m D=some T:=j
 unfold Z7_L1 at j
 refine aK (aK (aD (lI R (lS R (lO (hY bM R) (lO (C8 R R) (aC (aG ?_))))))))
 rcases cH j with ⟨ag,j⟩|⟨ag,j⟩
 refine bV R ag (cF (aG (aK (bB (A:=(Int×Int×Int)×(Unit)) (fun a=>Z7_J8 D a.1.1 a.1.2.1 a.1.2.2=some T) (fun a=>[(1,(sc A5 b D5)),(2,(sc A7 l D7)),(3,(pt b8 0)),(8,(iv a.1.1)),(9,(iv a.1.2.1)),(10,(iv a.1.2.2)),(11,(iv r9)),(12,(iv D))]) (fun a=>I) ?_ ?_))))
 refine dJ (aK (aD (lI R (aC (aG (aK (bB (A:=(Int×Int×Int)×(Unit)) (fun a=>Z7_J7 m D a.1.1 a.1.2.1 a.1.2.2=some T) (fun a=>[(1,(sc A5 b D5)),(2,(sc A7 l D7)),(3,(pt b8 0)),(8,(iv a.1.1)),(9,(iv a.1.2.1)),(10,(iv m)),(11,(iv r9)),(12,(iv D)),(13,(iv a.1.2.2))]) (fun a=>I) ?_ ?_)))))))
 refine aK (aD (lI R (aC (aG (dJ ?_)))))
 obtain ⟨e2,b6,b4⟩:=bd j
 refine bD (A:=Unit) b6 (fun s a=>[(1,(sc A5 b D5)),(2,(sc A7 l D7)),(3,(pt b8 0)),(8,(iv s.1)),(9,(iv s.2.1)),(10,(iv m)),(11,(iv r9)),(12,(iv D)),(13,(iv s.2.2.1)),(14,(iv s.2.2.2))]) (fun s a=>I) () (aS R) (fun w s=>s) ?_
 rintro ⟨q,u,B,i⟩ _ σ1 ak j b2
 replace j:Z7_L2 g1 b l r9 D q u B i=some ak:=j
 unfold Z7_L2 at j
 refine aK (aK (aD (lI R (lO (fX 0 jS R) (lO (gF 0 oD R R R) (lO (hY mC R) (lO (n0 R R) (aC (aG ?_)))))))))
 rcases cH j with ⟨Y,j⟩|⟨Y,j⟩
 refine bV R Y (cF (aG (aK (bB (A:=(Int×Int×Int)×(Unit)) (fun a=>Z7_J6 i a.1.1 a.1.2.1 a.1.2.2=some ak) (fun a=>[(1,(sc A5 b D5)),(2,(sc A7 l D7)),(3,(pt b8 0)),(8,(iv a.1.1)),(9,(iv a.1.2.1)),(10,(iv m)),(11,(iv r9)),(12,(iv D)),(13,(iv a.1.2.2)),(14,(iv i))]) (fun a=>I) ?_ ?_))))
 refine dJ (aK (aK ?_))
 obtain ⟨aq,au,j⟩:=bd j
 obtain ⟨J,j⟩:=gd j
 obtain ⟨ar,av,j⟩:=bd j
 refine cQ [(1,(sc A5 b D5)),(2,(sc A7 l D7)),(3,(pt b8 0)),(8,(iv q)),(9,(iv u)),(10,(iv m)),(11,(iv r9)),(12,(iv D)),(13,(iv B)),(14,(iv i)),(47,(.bool ((aq != D)||ar)))] (I) ?_ ?_
 refine aD (lS R (lI R (lM (RR kT3 A7 D7 l::I) (fun w s=>(s.d 4 R)) ?_)))
 refine lC 1 uI R (Z03_ok au) R ?_
 rintro _
 refine lN I ?_
 refine lI R (lO (wP R R) (lB R ?_))
 rcases bo (aq != D) with g | g
 refine lf (eC g) (lf (eC g) (lf (eC g) (lf (eC g) (lf (eC g) (lf (eC g) (lO (fD ar R g) (aC ?_)))))))
 exact qJ (fun w s=>s)
 refine lW (cC g) (fX 0 jS R) (lW (cC g) (gF 0 oD R R R) (lW (cC g) (vI R) (bC 1 aA (show 0<g1.Nodes.length by have:=(J g); omega) (fun ay o122 ha=>?_))))
 subst ha
 refine lW (cC g) (eM mC iW R R (J g)) (fN (K:=cP) 1 i dT65.dec R (J g).1 (J g).2 ?_)
 rintro ⟨-,⟨a6,aa⟩,⟨a7,ab⟩,⟨a8,ac⟩,-,⟨a9,ae⟩⟩
 refine lN (cl ay (o122+i.toNat*6) [(iv (ix g1.Nodes i).Op),(sc a6 ((ix g1.Nodes i).Args) aa),(sc a7 ((ix g1.Nodes i).Dims) ab),(sc a8 ((ix g1.Nodes i).Ints) ac),(aE (ix g1.Nodes i).Form),(sc a9 ((ix g1.Nodes i).Data) ae)]::RR kT3 a6 aa ((ix g1.Nodes i).Args)::RR kT3 a7 ab ((ix g1.Nodes i).Dims)::RR kT3 a8 ac ((ix g1.Nodes i).Ints)::RR kT3 a9 ae ((ix g1.Nodes i).Data)::I) ?_
 refine lW (cC g) (vz (.agg [(iv (ix g1.Nodes i).Op),(sc a6 ((ix g1.Nodes i).Args) aa),(sc a7 ((ix g1.Nodes i).Dims) ab),(sc a8 ((ix g1.Nodes i).Ints) ac),(aE (ix g1.Nodes i).Form),(sc a9 ((ix g1.Nodes i).Data) ae)].toArray) (eF (fo:=0) 0 mD iW R R R R)) (lM (aN _ _ _::aN _ _ _::aN _ _ _::aN _ _ _::cl _ _ _::aN _ _ _::aN _ _ _::aN _ _ _::aN _ _ _::I) (fun w s=>(((((s.d 1 R).d 3 R).d 5 R).d 7 R).e 9 [3,2,1,0,4,5,6,7,8])) ?_)
 refine bU 4 R (cC g) ze R (Z20_ok (bJ av (cX g))) R ?_
 rintro _
 refine lN (_::_::_::_::_::I) ?_
 refine lO (fS R g R) (aC ?_)
 exact qJ (fun w s=>(s.e 5 []))
 rintro σ1
 refine aG ?_
 rcases cH j with ⟨Z,j⟩|⟨Z,j⟩
 refine bV R Z (gA (dY (eX ?_)))
 exact qI ((q,u,B),()) j (fun w s=>s)
 refine bG R Z (cF (aG (aK ?_)))
 obtain ⟨L,j⟩:=gd j
 obtain ⟨F,aw,j⟩:=bd j
 refine aD (lS R (lI R (bC 3 aA (show 0<b.length by have:=L; omega) (fun az o133 ha=>?_))))
 subst ha
 refine lO (eM ja fJ R R L) (fN (K:=bH) 3 i dT23.dec R L.1 L.2 ?_)
 rintro ⟨ao,ap⟩
 refine lN (cl az (o133+i.toNat*1) [(sc ao (ix b i) ap)]::RR kT3 ao ap (ix b i)::I) ?_
 refine lO (eN (fo:=0) 0 cY R R R) (lM (_::_::_::I) (fun w s=>(s.d 1 R)) ?_)
 refine lC 1 n9 R (Zq_ok aw) R ?_
 rintro _
 refine lN (_::_::I) ?_
 refine lI R (aC (aG (aK (aD (lI R (lI R (lO (jt R R) (lI R (aC (aG (aK (aK ?_))))))))))))
 obtain ⟨b7,ax,j⟩:=bd j
 refine aD (lS R (lI R (lM (RR kT3 A7 D7 l::_::_::I) (fun w s=>(s.d 6 R)) ?_)))
 refine lC 1 zd R (Z0o_ok ax) R ?_
 rintro _
 refine lN (_::_::I) ?_
 refine aC (aG ?_)
 rcases cH j with ⟨a0,j⟩|⟨a0,j⟩
 refine bV R a0 (aK (aD (lI R (lI R (lO (jt R R) (lI R (aC (aG (gA (dY (eX ?_)))))))))))
 exact qI (((aH (q+F)),(aH (u+F)),B),()) j (fun w s=>(s.e 2 []))
 refine bG R a0 (cF (aG (aK (aD (lI R (lI R (lO (jt R R) (lI R (aC (aG (aK (aD (lI R (lI R (lO (wP R R) (aC (aG ?_)))))))))))))))))
 rcases cH j with ⟨a1,j⟩|⟨a1,j⟩
 refine bV R a1 (aD (lI R (lI R (lO (jt R R) (lI R (aC (dN ?_)))))))
 exact qI ((q,(aH ((aH (u+F))+F)),(aH (B+F))),()) j (fun w s=>(s.e 2 []))
 refine bG R a1 (cF (dN ?_))
 exact qI ((q,(aH (u+F)),(aH (B+F))),()) j (fun w s=>(s.e 2 []))
 rintro ⟨⟨ah,al,an⟩,_⟩ σ1 j
 replace j:Z7_J6 i ah al an=some ak:=j
 unfold Z7_J6 at j
 refine aD (lI R (lO (jt R R) (lI R (aC ?_))))
 obtain rfl:=so j
 exact qA () (fun w s=>s)
 refine bG R Y (gA (dY ?_))
 obtain rfl:=so j
 obtain rfl:=b2 _ R
 have j:=b4
 refine dY (eX ?_)
 exact qI ((q,u,B),()) j (fun w s=>s)
 rintro ⟨⟨E,G,a4⟩,_⟩ σ1 j
 replace j:Z7_J7 m D E G a4=some T:=j
 unfold Z7_J7 at j
 refine aK (aD (lI R (lI R (lO (wO R R) (aC (aG ?_))))))
 rcases cH j with ⟨a2,j⟩|⟨a2,j⟩
 refine bV R a2 (aD (lI R (lI R (aC (dN ?_)))))
 exact qI ((E,G,a4),()) j (fun w s=>s)
 refine bG R a2 (cF (dN ?_))
 exact qI ((E,G,m),()) j (fun w s=>s)
 rintro ⟨⟨ai,am,aj⟩,_⟩ σ1 j
 replace j:Z7_J8 D ai am aj=some T:=j
 unfold Z7_J8 at j
 refine aD (lI R (lO (jt R R) (lI R (aC ?_))))
 obtain rfl:=so j
 exact qA () (fun w s=>s)
 refine bG R ag (gA (dY ?_))
 obtain rfl:=so j
 obtain rfl:=b1 _ R
 have j:=b3
 refine dY (eX ?_)
 exact qI ((a3,a5,m),()) j (fun w s=>s)
 rintro ⟨⟨M,U,O⟩,_⟩ σ1 j
 replace j:Z7_J9 M U O=some r:=j
 unfold Z7_J9 at j
 refine aK (aD (lI R (lI R (lO (jt R R) (lI R (lI R (lI R (aC (aG (bY ?_))))))))))
 obtain rfl:=so j
 exact dC (vs:=[(iv (aH (M+O))),(iv U)]) (.inl R) () R ⟨R,R,trivial⟩ R (fun w s=>(s.e 5 []))
theorem Z2r_ok  {g1:Graph}{a:(List Int)}{r:Int×Int}(b:Z2r g1 a=some r) :
 FnOk Tryz.prog 7 [(.agg [(.slice A2 N2 D2),(.slice A3 N3 D3)].toArray),(.slice A5 N5 D5)] [aN cP (.slice A2 N2 D2) g1.Nodes,aN kT3 (.slice A3 N3 D3) g1.Outs,aN kT3 (.slice A5 N5 D5) a] (fun (h:Unit)=>((.tuple [(iv r.1),(iv r.2)].toArray),[])):=by
 unfold Z2r at b
 refine aP Tryz.func7 R 17 R R fun C V=>?_
 refine cN (_::_::_::V) ?_
 refine cL 0 aA ?_
 rintro rfl
 refine cL 1 aA ?_
 rintro rfl
 refine cL 2 aA ?_
 rintro rfl
 let D:List HP:=RR cP A2 D2 g1.Nodes::RR kT3 A3 D3 g1.Outs::RR kT3 A5 D5 a::V
 refine cN D ?_
 refine aK (aD (eJ R (fun E=>(lI R (lI R (aC ?_))))))
 let i:List HP:=aJ E [(sc A2 g1.Nodes D2),(sc A3 g1.Outs D3)] 31::D
 refine qN i ?_
 refine aG (aK (aK ?_))
 obtain ⟨I,u,b⟩:=bd b
 refine aD (lO (vz (.agg [(sc A2 g1.Nodes D2),(sc A3 g1.Outs D3)].toArray) (cO 0 n8 lT R R R R)) (lS R (lM (RR cP A2 D2 g1.Nodes::RR kT3 A3 D3 g1.Outs::RR kT3 A5 D5 a::i) (fun w s=>((((s.d 1 R).d 3 R).d 5 R).e 3 [2,1,0])) ?_)))
 refine lC 3 Bv R (Z2s_ok u) R ?_
 rintro _
 refine lN i ?_
 refine lO (pn R) (aC (aG ?_))
 rcases cH b with ⟨j,b⟩|⟨j,b⟩
 refine bV R j (aK (aD (lI R (lI R (aC (aG (bY (cG ?_))))))))
 obtain rfl:=so b
 exact dC (vs:=[(iv 0),(iv 0)]) (.inl R) () R ⟨R,R,trivial⟩ R (fun w s=>(s.e 4 []))
 refine bG R j (cF (aG (aK ?_)))
 obtain ⟨g,l,b⟩:=bd b
 obtain ⟨q,m,b⟩:=bd b
 refine dF 9 [] bO (fun G F=>(dR 0 R (vz (.agg [(sc A2 g1.Nodes D2),(sc A3 g1.Outs D3)].toArray) (cO 0 n8 lT R R R R)) (dR 1 R (vz (.agg [(sc A2 g1.Nodes D2),(sc A3 g1.Outs D3)].toArray) (cO 0 n8 lT R R R R)) (dR 3 R (vS R) (d1 2 R (lM (RR cP A2 D2 g1.Nodes::RR kT3 A3 D3 g1.Outs::i) (fun w s=>(((s.d 1 R).d 3 R).e 2 [1,0])) ?_))))))
 refine lC 2 Bw R (Z0v_ok l) R ?_
 rintro ⟨A12,N12,D12⟩
 refine lN (ow (bH).share 23 (.slice A12 N12 D12) g::i) ?_
 refine aM 0 eG ?_
 rintro rfl
 refine aC (aI (sL [0]) (d1 4 R (lM (ow _ _ _ _::RR cP A2 D2 g1.Nodes::RR kT3 A3 D3 g1.Outs::RR kT3 A5 D5 a::i) (fun w s=>((((s.d 2 R).d 4 R).d 6 R).e 4 [3,2,1,0])) ?_)))
 refine lC 4 Bx R (FnOk.lends (A':=[OO (bH).share 23 A12 D12 g]) (A:=[RR bH A12 D12 g]) (B:=[RR cP A2 D2 g1.Nodes,RR kT3 A3 D3 g1.Outs,RR kT3 A5 D5 a]) (FnOk.perm (Z7_ok m) (Pre':=[RR bH A12 D12 g,RR cP A2 D2 g1.Nodes,RR kT3 A3 D3 g1.Outs,RR kT3 A5 D5 a]) (fun _ _ _ s=>(s.e 4 [1,2,0,3]))) ⟨m7,trivial⟩ (fun _=>trivial)) R ?_
 rintro _
 refine lN (_::i) ?_
 refine aC (aI (sL [0]) (dR 5 R (vI R) (hS:=(sL [0])) (dR 6 R (vI R) (hS:=(sL [0])) (dR 7 R (vI R) (hS:=(sL [0])) (dR 8 R (vI R) (hS:=(sL [0])) (dD (aG (bY ?_))))))))
 obtain rfl:=so b
 exact dC (vs:=[(iv q.1),(iv q.2)]) (.inl R) () R ⟨R,R,trivial⟩ R (fun w s=>(s.e 5 []))
end Go.Proofs.YthelanpdjajnbaaGreat
