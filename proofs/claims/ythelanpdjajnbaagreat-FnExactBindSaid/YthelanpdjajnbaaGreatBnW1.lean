import Derived.Test.YthelanpdjajnbaaGreatBnF
set_option linter.unusedVariables false
set_option maxRecDepth 20000
namespace Go.Proofs.YthelanpdjajnbaaGreat
open Go Go.Pg
variable {A2 A3 A4 A5 A6 A7 A8 A9 A10:Option Addr}{D2 D3 D4 D5 D6 D7 D8 D9 D10 N2 N3 N4 N5 N6 N7 N8 N9 N10:Nat}
theorem Z10_ok  {a1:(List Int)}{a:Int}{r:Int}(b:Z10 a1 a=some r) :
 FnOk Tryz.prog 24 [(.slice A2 N2 D2),(iv a)] [aQ kT3 (.slice A2 N2 D2) a1] (fun (h:Unit)=>((iv r),[])):=by
 unfold Z10 at b
 refine aR Tryz.func24 R 12 R R fun C V=>?_
 refine cL 0 aA ?_
 rintro rfl
 let e:=RR kT3 A2 D2 a1::V
 refine cN e ?_
 refine uI ?_
 split at b
 refine dI ?_
 cases b
 exact qF () (tE 1 [])
 refine dA ?_
 cases b
 exact qF () (tE 1 [])
theorem Z2m_ok  {a1:Node}{b:Int}{r:Int}(a:Z2m a1 b=some r) :
 FnOk Tryz.prog 54 [(.agg [(iv a1.Op),(.slice A2 N2 D2),(.slice A3 N3 D3),(.slice A4 N4 D4),(aH a1.Form),(.slice A5 N5 D5)].toArray),(iv b)] [aQ kT3 (.slice A2 N2 D2) a1.Args,aQ kT3 (.slice A3 N3 D3) a1.Dims,aQ kT3 (.slice A4 N4 D4) a1.Ints,aQ kT3 (.slice A5 N5 D5) a1.Data] (fun (h:Unit)=>((iv r),[])):=by
 unfold Z2m at a
 refine aR Tryz.func54 R 37 R R fun C V=>?_
 refine cL 0 aA ?_
 rintro rfl
 refine cL 1 aA ?_
 rintro rfl
 refine cL 2 aA ?_
 rintro rfl
 refine cL 3 aA ?_
 rintro rfl
 let m:=RR kT3 A2 D2 a1.Args::RR kT3 A3 D3 a1.Dims::RR kT3 A4 D4 a1.Ints::RR kT3 A5 D5 a1.Data::V
 refine cN m ?_
 refine aZ ?_
 refine eA R fun q=>?_
 refine aZ ?_
 let e:=aJ q [(iv a1.Op),(sc A2 a1.Args D2),(sc A3 a1.Dims D3),(sc A4 a1.Ints D4),(aH a1.Form),(sc A5 a1.Data D5)] 75::m
 refine qN e ?_
 refine aZ ?_
 obtain ⟨E,l,a⟩:=bd a
 refine bI ?_
 refine lM _ (fun w s=>(s.d 1 R)) ?_
 refine lC 1 pB R (Z10_ok l) R ?_
 rintro _
 refine lN e ?_
 refine dA ?_
 split at a
 refine dI ?_
 cases a
 exact qF () (tE 5 [])
 refine bI ?_
 obtain ⟨u,g,a⟩:=bd a
 refine bI ?_
 refine lM _ (fun w s=>(s.d 2 R)) ?_
 refine lC 1 pB R (Z10_ok g) R ?_
 rintro _
 refine lN e ?_
 refine dA ?_
 split at a
 refine dI ?_
 cases a
 exact qF () (tE 5 [])
 refine bI ?_
 obtain ⟨B,i,a⟩:=bd a
 refine bI ?_
 refine lM _ (fun w s=>(s.d 3 R)) ?_
 refine lC 1 pB R (Z10_ok i) R ?_
 rintro _
 refine lN e ?_
 refine dA ?_
 split at a
 refine dI ?_
 cases a
 exact qF () (tE 5 [])
 refine dI ?_
 refine lO (vz (il a1.Form) (dM gA R)) ?_
 refine j7 ?_
 split at a
 refine dI ?_
 cases a
 exact qF () (tE 5 [])
 refine bI ?_
 obtain ⟨D,j,a⟩:=bd a
 refine bI ?_
 refine lM _ (fun w s=>(s.d 4 R)) ?_
 refine lC 1 pB R (Z10_ok j) R ?_
 rintro _
 refine lN e ?_
 refine dA ?_
 split at a
 refine dI ?_
 cases a
 exact qF () (tE 5 [])
 refine dA ?_
 cases a
 exact qF () (tE 5 [])
theorem Z18_ok  {a1:(List Node)}{j:Int}{r:Int}(b:Z18 a1 j=some r) :
 FnOk Tryz.prog 23 [(.slice A2 N2 D2),(iv j)] [aQ iN (.slice A2 N2 D2) a1] (fun (h:Unit)=>((iv r),[])):=by
 unfold Z18 at b
 refine aR Tryz.func23 R 27 R R fun C V=>?_
 refine cL 0 aA ?_
 rintro rfl
 let O:=RR iN A2 D2 a1::V
 refine cN O ?_
 refine uI ?_
 split at b
 refine dI ?_
 cases b
 exact qF () (tE 1 [])
 refine bI ?_
 refine bE (A:=(Int)×(Unit)) (fun a=>Z18_J1 a.1=some r) (fun a=>[(1,(iv a.1))]) (fun a=>O) ?_ ?_
 refine cE ?_
 obtain ⟨e1,T,q⟩:=bd b
 refine bF (A:=Unit) T (fun s a=>[(0,(sc A2 a1 D2)),(1,(iv s.1)),(5,(iv s.2))]) (fun s a=>O) () (aS R) tI ?_
 rintro ⟨l,g⟩ _ σ1 U b m
 dsimp only [Z18_L1] at b
 refine dC ?_
 split at b
 refine cE ?_
 obtain ⟨i,b⟩:=gd b
 obtain ⟨a0,u,b⟩:=bd b
 refine aU ?_
 refine bG 0 aA (show 0<a1.length by have:=i; omega) (fun Y o21 Z=>?_)
 subst Z
 refine cA ?_
 refine hK (K:=iN) 0 g dT75.dec R i.1 i.2 ?_
 rintro ⟨-,⟨D,I⟩,⟨E,J⟩,⟨F,L⟩,-,⟨G,M⟩⟩
 refine lO (vz (.agg [(iv (ix a1 g).Op),(sc D ((ix a1 g).Args) I),(sc E ((ix a1 g).Dims) J),(sc F ((ix a1 g).Ints) L),(aH (ix a1 g).Form),(sc G ((ix a1 g).Data) M)].toArray) (eJ (fo:=0) 0 xh xg R R R R)) (lI R (lM _ (fun w s=>(((((s.d 1 R).d 3 R).d 5 R).d 7 R).e 9 [3,2,1,0,4,5,6,7,8])) ?_))
 refine lC 4 B4 R (Z2m_ok u) R ?_
 rintro _
 refine dC ?_
 split at b
 refine dC ?_
 cases b
 obtain rfl:=m _ R
 have b:=q
 refine aU ?_
 cases b
 exact qF () (tE 6 [])
 refine dC ?_
 cases b
 exact qA () (tE 5 [])
 refine aU ?_
 cases b
 obtain rfl:=m _ R
 have b:=q
 refine aZ ?_
 exact qI (l,()) b tI
 rintro ⟨B,_⟩ σ1 b
 dsimp only [Z18_J1] at b
 refine dO ?_
 cases b
 exact qF () (tE 1 [])
theorem Z30_ok  {a1:Graph}{a:Int}{r:Int}(b:Z30 a1 a=some r) :
 FnOk Tryz.prog 6 [(.agg [(.slice A2 N2 D2),(.slice A3 N3 D3)].toArray),(iv a)] [aQ iN (.slice A2 N2 D2) a1.Nodes,aQ kT3 (.slice A3 N3 D3) a1.Outs] (fun (h:Unit)=>((iv r),[])):=by
 unfold Z30 at b
 refine aR Tryz.func6 R 18 R R fun C V=>?_
 refine cL 0 aA ?_
 rintro rfl
 refine cL 1 aA ?_
 rintro rfl
 let j:=RR iN A2 D2 a1.Nodes::RR kT3 A3 D3 a1.Outs::V
 refine cN j ?_
 refine aZ ?_
 refine eA R fun l=>?_
 refine aZ ?_
 let g:=aJ l [(sc A2 a1.Nodes D2),(sc A3 a1.Outs D3)] 25::j
 refine qN g ?_
 refine aZ ?_
 obtain ⟨m,i,b⟩:=bd b
 refine bI ?_
 refine lM _ (fun w s=>(s.d 1 R)) ?_
 refine lC 1 B5 R (Z18_ok i) R ?_
 rintro _
 refine lN g ?_
 refine dA ?_
 split at b
 refine dI ?_
 cases b
 exact qF () (tE 3 [])
 refine bI ?_
 obtain ⟨q,e,b⟩:=bd b
 refine bI ?_
 refine lM _ (fun w s=>(s.d 2 R)) ?_
 refine lC 1 pB R (Z10_ok e) R ?_
 rintro _
 refine lN g ?_
 refine dA ?_
 split at b
 refine dI ?_
 cases b
 exact qF () (tE 3 [])
 refine dA ?_
 cases b
 exact qF () (tE 3 [])
theorem Z31_ok  {a1:Tensor}{g:Int}{r:Int}(a:Z31 a1 g=some r) :
 FnOk Tryz.prog 13 [(.agg [(.slice A2 N2 D2),(.slice A3 N3 D3)].toArray),(iv g)] [aQ kT3 (.slice A2 N2 D2) a1.Dims,aQ kT3 (.slice A3 N3 D3) a1.Data] (fun (h:Unit)=>((iv r),[])):=by
 unfold Z31 at a
 refine aR Tryz.func13 R 18 R R fun C V=>?_
 refine cN (_::_::V) ?_
 refine cL 0 aA ?_
 rintro rfl
 refine cL 1 aA ?_
 rintro rfl
 let q:List HP:=RR kT3 A2 D2 a1.Dims::RR kT3 A3 D3 a1.Data::V
 refine cN q ?_
 refine aI (aD (eA R (fun u=>(lI R (aC ?_)))))
 let j:List HP:=aJ u [(sc A2 a1.Dims D2),(sc A3 a1.Data D3)] 38::q
 refine qN j ?_
 refine aE (aI ?_)
 obtain ⟨B,m,a⟩:=bd a
 refine aD (lO (dS 0 pC R) (lO (dV 0 cB R R R) (lI R (lM (RR kT3 A2 D2 a1.Dims::j) (fun w s=>(s.d 1 R)) ?_))))
 refine lC 1 pB R (Z10_ok m) R ?_
 rintro _
 refine lN j ?_
 refine lI R (aC (aE (aI (aI (aD (lI R (lO (jh R R) (aC (aE ?_)))))))))
 rcases cG a with ⟨i,a⟩|⟨i,a⟩
 refine bS R i (aI (aD (lI R (aC (aE (bO (bP ?_)))))))
 obtain rfl:=so a
 exact qF () (fun w s=>(s.e 3 []))
 refine bC R i (bZ (aE (aI ?_)))
 obtain ⟨D,l,a⟩:=bd a
 refine aD (lO (dS 1 pD R) (lO (dV 0 cB R R R) (lI R (lM (RR kT3 A3 D3 a1.Data::j) (fun w s=>(s.d 2 R)) ?_))))
 refine lC 1 pB R (Z10_ok l) R ?_
 rintro _
 refine lN j ?_
 refine lI R (aC (aE (aI (aI (aD (lI R (lO (jh R R) (aC (aE ?_)))))))))
 rcases cG a with ⟨b,a⟩|⟨b,a⟩
 refine bS R b (aI (aD (lI R (aC (aE (bO (bP ?_)))))))
 obtain rfl:=so a
 exact qF () (fun w s=>(s.e 3 []))
 refine bC R b (bZ (aE (aI (aD (lI R (lI R (aC (aE (bO ?_)))))))))
 obtain rfl:=so a
 exact qF () (fun w s=>(s.e 3 []))
theorem Zy_ok  {a1:(List Int)}{r:(List Int)}(b:Zy a1=some r) :
 FnOk Tryz.prog 9 [(.slice A2 N2 D2)] [aQ kT3 (.slice A2 N2 D2) a1] (fun (h:HH)=>((s3 h),[ow kT3 3 (s3 h) r])):=by
 unfold Zy at b
 refine aR Tryz.func9 R 22 R R fun C V=>?_
 refine cL 0 aA ?_
 rintro rfl
 let l:=RR kT3 A2 D2 a1::V
 refine cN l ?_
 refine cE ?_
 obtain ⟨g,b⟩:=gd b
 refine aU ?_
 refine f' (K:=kT3) (m:=(a1.length:Int)) (z:=(0:Int)) R R bT cS kN (Zr.zk zT3 iu) (by decide) R R g.1 g.2.1 g.2.2 (fun A4 D4=>(lS R (aC (aE (aI (bE (A:=((List Int))×(Unit)) (fun a=>Zy_J1 a.1=some r) (fun a=>[(3,(sc A4 (List.replicate (a1.length:Int).toNat (0:Int)) D4))]) (fun a=>ow kT3 3 (.slice A4 (List.replicate (a1.length:Int).toNat (0:Int)).length D4) a.1::l) ?_ ?_))))))
 refine cE ?_
 obtain ⟨M,D,B⟩:=bd b
 refine bF (A:=Unit) D (fun s a=>[(0,(sc A2 a1 D2)),(3,(sc A4 (List.replicate (a1.length:Int).toNat (0:Int)) D4)),(4,(iv s.2))]) (fun s a=>ow kT3 3 (.slice A4 (List.replicate (a1.length:Int).toNat (0:Int)).length D4) s.1::l) () (aS R) tI ?_
 rintro ⟨E,i⟩ _ σ1 F b u
 dsimp only [Zy_L1] at b
 refine dC ?_
 split at b
 refine cR ?_
 obtain ⟨j,b⟩:=gd b
 obtain ⟨e,b⟩:=gd b
 refine cR ?_
 refine bG 1 aA (show 0<a1.length by have:=j; omega) (fun G o19 q=>?_)
 subst q
 refine aZ ?_
 refine bG 0 aB (show 0<(List.replicate (a1.length:Int).toNat (0:Int)).length by have:=e; omega) (fun J o22 q=>?_)
 subst q
 refine cA ?_
 refine dZ (K:=kT3) (x':=(ix a1 i)) 0 i R R cS R R e.1 e.2 ?_ ?_
 exact fun I h s=>(hD).put I h () (ix a1 i) s
 refine dI ?_
 cases b
 exact qA () tI
 refine aU ?_
 cases b
 obtain rfl:=u _ R
 have b:=B
 refine aZ ?_
 exact qI (E,()) b tI
 rintro ⟨L,_⟩ σ1 b
 dsimp only [Zy_J1] at b
 refine dO ?_
 cases b
 exact qF (A4,(List.replicate (a1.length:Int).toNat (0:Int)).length,D4) (tE 2 [0])
theorem Z32_ok  {a1:Node}{r:Node}(i:Z32 a1=some r) :
 FnOk Tryz.prog 61 [(.agg [(iv a1.Op),(.slice A2 N2 D2),(.slice A3 N3 D3),(.slice A4 N4 D4),(aH a1.Form),(.slice A5 N5 D5)].toArray)] [aQ kT3 (.slice A2 N2 D2) a1.Args,aQ kT3 (.slice A3 N3 D3) a1.Dims,aQ kT3 (.slice A4 N4 D4) a1.Ints,aQ kT3 (.slice A5 N5 D5) a1.Data] (fun (h:HH×HH×HH×HH)=>((.agg [(iv r.Op),(s3 h.1),(s3 h.2.1),(s3 h.2.2.1),(aH r.Form),(s3 h.2.2.2)].toArray),[ow kT3 3 (s3 h.1) r.Args,ow kT3 3 (s3 h.2.1) r.Dims,ow kT3 3 (s3 h.2.2.1) r.Ints,ow kT3 3 (s3 h.2.2.2) r.Data])):=by
 unfold Z32 at i
 refine aR Tryz.func61 R 27 R R fun C V=>?_
 refine cL 0 aA ?_
 rintro rfl
 refine cL 1 aA ?_
 rintro rfl
 refine cL 2 aA ?_
 rintro rfl
 refine cL 3 aA ?_
 rintro rfl
 let I:=RR kT3 A2 D2 a1.Args::RR kT3 A3 D3 a1.Dims::RR kT3 A4 D4 a1.Ints::RR kT3 A5 D5 a1.Data::V
 refine cN I ?_
 refine aZ ?_
 refine eA R fun M=>?_
 refine aY R R kA (fun O=>(aC ?_))
 let m:=aJ M [(iv a1.Op),(sc A2 a1.Args D2),(sc A3 a1.Dims D3),(sc A4 a1.Ints D4),(aH a1.Form),(sc A5 a1.Data D5)] 75::I
 refine aU ?_
 refine aY R R kA (fun B=>(aC (aE (aI (aD (lO (dS 0 sZ R) (lO (dV 2 fR R R R) (lO (dS 0 fS R) (cT 0 R R cS R R R R R (lN (aJ B [(iv a1.Op),(.slice none 0 0),(.slice none 0 0),(.slice none 0 0),(aH ([]:aO)),(.slice none 0 0)] 65::_::m) ?_))))))))))
 refine aU ?_
 obtain ⟨u,D,i⟩:=bd i
 refine aU ?_
 refine lM _ (fun w s=>(s.d 3 R)) ?_
 refine lC 1 xp R (Zy_ok D) R ?_
 rintro ⟨A11,N11,D11⟩
 refine aM 0 aB ?_
 rintro rfl
 refine cA ?_
 refine cT 1 R R gB R R R R R (lN (_::aJ B [(iv a1.Op),(sc A11 u D11),(.slice none 0 0),(.slice none 0 0),(aH ([]:aO)),(.slice none 0 0)] 65::_::m) ?_)
 refine aU ?_
 obtain ⟨a,E,i⟩:=bd i
 refine aU ?_
 refine lM _ (fun w s=>(s.d 5 R)) ?_
 refine lC 1 xp R (Zy_ok E) R ?_
 rintro ⟨A14,N14,D14⟩
 refine aM 0 aB ?_
 rintro rfl
 refine cA ?_
 refine cT 2 R R gB R R R R R (lN (_::_::aJ B [(iv a1.Op),(sc A11 u D11),(sc A14 a D14),(.slice none 0 0),(aH ([]:aO)),(.slice none 0 0)] 65::_::m) ?_)
 refine aU ?_
 obtain ⟨g,F,i⟩:=bd i
 refine aU ?_
 refine lM _ (fun w s=>(s.d 7 R)) ?_
 refine lC 1 xp R (Zy_ok F) R ?_
 rintro ⟨b,J,e⟩
 refine aM 0 aB ?_
 rintro rfl
 refine cA ?_
 refine cT 3 R R gB R R R R R (lN (_::_::_::aJ B [(iv a1.Op),(sc A11 u D11),(sc A14 a D14),(sc b g e),(aH ([]:aO)),(.slice none 0 0)] 65::_::m) ?_)
 refine dO ?_
 refine cT 3 R R rD R R R R R (lN (_::_::_::aJ B [(iv a1.Op),(sc A11 u D11),(sc A14 a D14),(sc b g e),(aH a1.Form),(.slice none 0 0)] 65::_::m) ?_)
 refine aU ?_
 obtain ⟨q,G,i⟩:=bd i
 refine aU ?_
 refine lM _ (fun w s=>(s.d 9 R)) ?_
 refine lC 1 xp R (Zy_ok G) R ?_
 rintro ⟨j,L,l⟩
 refine aM 0 aB ?_
 rintro rfl
 refine cA ?_
 refine cT 4 R R gB R R R R R (lN (_::_::_::_::aJ B [(iv a1.Op),(sc A11 u D11),(sc A14 a D14),(sc b g e),(aH a1.Form),(sc j q l)] 65::_::m) ?_)
 refine cR ?_
 refine aL 5 R R eY R R R R R R (lN (_::_::_::_::_::aJ O [(iv a1.Op),(sc A11 u D11),(sc A14 a D14),(sc b g e),(aH a1.Form),(sc j q l)] 65::m) ?_)
 refine aU ?_
 cases i
 exact qS ((A11,u.length,D11),(A14,a.length,D14),(b,g.length,e),(j,q.length,l)) (tE 11 [3,2,1,0])
theorem Z0p_ok  {a1:(List Node)}{r:(List Node)}(b:Z0p a1=some r) :
 FnOk Tryz.prog 28 [(.slice A2 N2 D2)] [aQ iN (.slice A2 N2 D2) a1] (fun (h:HH)=>((s3 h),[ow kT65 65 (s3 h) r])):=by
 unfold Z0p at b
 refine aR Tryz.func28 R 23 R R fun C V=>?_
 refine cL 0 aA ?_
 rintro rfl
 let W0:=RR iN A2 D2 a1::V
 refine cN W0 ?_
 refine cE ?_
 obtain ⟨q,b⟩:=gd b
 refine aU ?_
 refine f' (K:=kT65) (m:=(a1.length:Int)) (z:=zT65.z) R R fX eY xo (Zr.zk zT65 kA) (by decide) R R q.1 q.2.1 q.2.2 (fun A4 D4=>(lS R (aC (aE (aI (bE (A:=((List Node))×(Unit)) (fun a=>Z0p_J1 a.1=some r) (fun a=>[(3,(sc A4 (List.replicate (a1.length:Int).toNat zT65.z) D4))]) (fun a=>ow kT65 65 (.slice A4 (List.replicate (a1.length:Int).toNat zT65.z).length D4) a.1::W0) ?_ ?_))))))
 refine cE ?_
 obtain ⟨e1,a6,a5⟩:=bd b
 refine bF (A:=Unit) a6 (fun s a=>[(0,(sc A2 a1 D2)),(3,(sc A4 (List.replicate (a1.length:Int).toNat zT65.z) D4)),(4,(iv s.2))]) (fun s a=>ow kT65 65 (.slice A4 (List.replicate (a1.length:Int).toNat zT65.z).length D4) s.1::W0) () (aS R) tI ?_
 rintro ⟨a7,g⟩ _ σ1 a8 b a4
 dsimp only [Z0p_L1] at b
 refine dC ?_
 split at b
 refine cR ?_
 obtain ⟨j,b⟩:=gd b
 obtain ⟨i,u,b⟩:=bd b
 obtain ⟨l,b⟩:=gd b
 refine cR ?_
 refine bG 1 aA (show 0<a1.length by have:=j; omega) (fun ae o29 ha=>?_)
 subst ha
 refine cA ?_
 refine hK (K:=iN) 1 g dT75.dec R j.1 j.2 ?_
 rintro ⟨-,⟨B,O⟩,⟨D,T⟩,⟨E,U⟩,-,⟨F,Y⟩⟩
 refine lO (vz (.agg [(iv (ix a1 g).Op),(sc B ((ix a1 g).Args) O),(sc D ((ix a1 g).Dims) T),(sc E ((ix a1 g).Ints) U),(aH (ix a1 g).Form),(sc F ((ix a1 g).Data) Y)].toArray) (eJ (fo:=0) 0 xh xg R R R R)) (lM _ (fun w s=>(((((s.d 1 R).d 3 R).d 5 R).d 7 R).e 10 [3,2,1,0,4,5,6,7,8,9])) ?_)
 refine lC 4 B7 R (Z32_ok u) R ?_
 rintro ⟨⟨G,a9,Z⟩,⟨J,aa,a0⟩,⟨L,ab,a2⟩,⟨M,ac,a3⟩⟩
 refine aM 0 aB ?_
 rintro rfl
 refine aM 1 aB ?_
 rintro rfl
 refine aM 2 aB ?_
 rintro rfl
 refine aM 3 aB ?_
 rintro rfl
 refine bG 9 aB (show 0<(List.replicate (a1.length:Int).toNat zT65.z).length by have:=l; omega) (fun ag o42 ha=>?_)
 subst ha
 refine cA ?_
 refine lM _ (fun w s=>(s.f 10 [9,1,0,9])) ?_
 refine dZ (K:=kT65) (x':=i) 4 g R R eY R R l.1 l.2 ?_ ?_
 exact fun I h s=>(mJ).put I h ((),(sc G i.Args Z),(sc J i.Dims a0),(sc L i.Ints a2),(),(sc M i.Data a3)) i s
 refine dI ?_
 cases b
 exact qA () (tE 6 [0])
 refine aU ?_
 cases b
 obtain rfl:=a4 _ R
 have b:=a5
 refine aZ ?_
 exact qI (a7,()) b tI
 rintro ⟨ah,_⟩ σ1 b
 dsimp only [Z0p_J1] at b
 refine dO ?_
 cases b
 exact qF (A4,(List.replicate (a1.length:Int).toNat zT65.z).length,D4) (tE 2 [0])
theorem Z1d_ok  {a1:Graph}{r:Graph}(b:Z1d a1=some r) :
 FnOk Tryz.prog 8 [(.agg [(.slice A2 N2 D2),(.slice A3 N3 D3)].toArray)] [aQ iN (.slice A2 N2 D2) a1.Nodes,aQ kT3 (.slice A3 N3 D3) a1.Outs] (fun (h:HH×HH)=>((.agg [(s3 h.1),(s3 h.2)].toArray),[ow kT65 65 (s3 h.1) r.Nodes,ow kT3 3 (s3 h.2) r.Outs])):=by
 unfold Z1d at b
 refine aR Tryz.func8 R 13 R R fun C V=>?_
 refine cL 0 aA ?_
 rintro rfl
 refine cL 1 aA ?_
 rintro rfl
 let l:=RR iN A2 D2 a1.Nodes::RR kT3 A3 D3 a1.Outs::V
 refine cN l ?_
 refine aZ ?_
 refine eA R fun q=>?_
 refine aY R R ji (fun u=>(aC ?_))
 let i:=aJ q [(sc A2 a1.Nodes D2),(sc A3 a1.Outs D3)] 25::l
 refine aU ?_
 refine aY R R ji (fun m=>(aC (aE (aI ?_))))
 obtain ⟨g,j,b⟩:=bd b
 refine aU ?_
 refine lM _ (fun w s=>(s.d 3 R)) ?_
 refine lC 1 B8 R (Z0p_ok j) R ?_
 rintro ⟨A9,N9,D9⟩
 refine aM 0 aB ?_
 rintro rfl
 refine cA ?_
 refine cT 1 R R xq R R R R R (lN (_::aJ m [(sc A9 g D9),(.slice none 0 0)] 31::_::i) ?_)
 refine aU ?_
 obtain ⟨a,e,b⟩:=bd b
 refine aU ?_
 refine lM _ (fun w s=>(s.d 5 R)) ?_
 refine lC 1 xp R (Zy_ok e) R ?_
 rintro ⟨A12,N12,D12⟩
 refine aM 0 aB ?_
 rintro rfl
 refine cA ?_
 refine cT 2 R R gB R R R R R (lN (_::_::aJ m [(sc A9 g D9),(sc A12 a D12)] 31::_::i) ?_)
 refine cR ?_
 refine aL 3 R R eG R R R R R R (lN (_::_::_::aJ u [(sc A9 g D9),(sc A12 a D12)] 31::i) ?_)
 refine aU ?_
 cases b
 exact qS ((A9,g.length,D9),(A12,a.length,D12)) (tE 7 [1,0])
theorem Z14_ok  {a1:Tensor}{r:Tensor}(i:Z14 a1=some r) :
 FnOk Tryz.prog 15 [(.agg [(.slice A2 N2 D2),(.slice A3 N3 D3)].toArray)] [aQ kT3 (.slice A2 N2 D2) a1.Dims,aQ kT3 (.slice A3 N3 D3) a1.Data] (fun (h:HH×HH)=>((.agg [(.slice h.1.1 h.1.2.1 h.1.2.2),(.slice h.2.1 h.2.2.1 h.2.2.2)].toArray),[ow kT3 3 (.slice h.1.1 h.1.2.1 h.1.2.2) r.Dims,ow kT3 3 (.slice h.2.1 h.2.2.1 h.2.2.2) r.Data])):=by
 unfold Z14 at i
 refine aR Tryz.func15 R 13 R R fun C V=>?_
 refine cN (_::_::V) ?_
 refine cL 0 aA ?_
 rintro rfl
 refine cL 1 aA ?_
 rintro rfl
 let m:List HP:=RR kT3 A2 D2 a1.Dims::RR kT3 A3 D3 a1.Data::V
 refine cN m ?_
 refine aI (aD (eA R (fun B=>(aY R R dN (fun q=>(aC ?_))))))
 let b:List HP:=aJ B [(sc A2 a1.Dims D2),(sc A3 a1.Data D3)] 38::m
 refine qN (_::b) ?_
 refine aE (aI (aD (aY R R dN (fun u=>(aC (aE (aI ?_)))))))
 obtain ⟨g,l,i⟩:=bd i
 refine aD (lO (dS 0 pC R) (lO (dV 2 cB R R R) (lM (RR kT3 A2 D2 a1.Dims::_::_::b) (fun w s=>(s.d 3 R)) ?_)))
 refine lC 1 xp R (Zy_ok l) R ?_
 rintro ⟨A9,N9,D9⟩
 refine lN (ow kT3 3 (.slice A9 N9 D9) g::_::_::b) ?_
 refine aM 0 aB ?_
 rintro rfl
 refine lO (dS 0 fT R) (cT 1 R R gB R R R R R (lN (_::aJ u [(sc A9 g D9),(.slice none 0 0)] 42::_::b) ?_))
 refine aC (aE (aI ?_))
 obtain ⟨a,j,i⟩:=bd i
 refine aD (lO (dS 1 pD R) (lO (dV 3 cB R R R) (lM (RR kT3 A3 D3 a1.Data::_::_::_::b) (fun w s=>(s.d 5 R)) ?_)))
 refine lC 1 xp R (Zy_ok j) R ?_
 rintro ⟨A12,N12,D12⟩
 refine lN (ow kT3 3 (.slice A12 N12 D12) a::_::_::_::b) ?_
 refine aM 0 aB ?_
 rintro rfl
 refine lO (dS 1 ka R) (cT 2 R R gB R R R R R (lN (_::_::aJ u [(sc A9 g D9),(sc A12 a D12)] 42::_::b) ?_))
 refine aC (aE (aI (aD (lO (vz (.agg [(sc A9 g D9),(sc A12 a D12)].toArray) (bK 2 eR bW R R R R)) (aL 3 R R bW R R R R R R (lN (_::_::_::aJ q [(sc A9 g D9),(sc A12 a D12)] 42::b) ?_))))))
 refine aC (aE (bO ?_))
 obtain rfl:=so i
 exact cY (vs:=[(.agg [(sc A9 g D9),(sc A12 a D12)].toArray)]) (.inl R) ((A9,g.length,D9),(A12,a.length,D12)) R ⟨⟨3,q,_,_,R,R,.inl ⟨eR,bW,R⟩⟩,trivial⟩ R (fun w s=>(s.e 7 [1,0]))
theorem fG  {b e:aO}{mG:Int}{r:Int}(a:cV b e=some r) :
 FnOk Tryz.prog 162 [(aH b),(aH e)] [gl 0 mG] (fun (_:Unit)=>((iv r),[])):=by
 unfold cV at a
 obtain ⟨g,a⟩:=gd a
 obtain rfl:=so a
 exact yO fun w h=>Tryz.stringslite_Index ⟨b.toArray⟩ ⟨e.toArray⟩ mG w (by simpa [ByteArray.size] using g) h
theorem Z2g_ok  {p1:aO}{a:aO}{mG:Int}{r:Int}(b:Z2g p1 a=some r) :
 FnOk Tryz.prog 148 [(aH p1),(aH a)] [gl 0 mG] (fun (h:Unit)=>((iv r),[])):=by
 unfold Z2g at b
 refine aR Tryz.func148 R 8 R R fun C V=>?_
 let g:=gl 0 mG::V
 refine cN g ?_
 refine cE ?_
 obtain ⟨i,e,b⟩:=bd b
 refine aD (lO (vp (aH p1) R) (lO (vp (aH a) R) (lM _ (fun w s=>(s.dg 0 R)) ?_)))
 refine lC 1 wt R (fG e) R ?_
 rintro _
 refine lN g ?_
 refine bI ?_
 cases b
 exact qF () (tE 1 [])
theorem Z3w_ok  {p1:aO}{a:aO}{mG:Int}{r:Bool}(b:Z3w p1 a=some r) :
 FnOk Tryz.prog 116 [(aH p1),(aH a)] [gl 0 mG] (fun (h:Unit)=>((.bool r),[])):=by
 unfold Z3w at b
 refine aR Tryz.func116 R 9 R R fun C V=>?_
 let g:=gl 0 mG::V
 refine cN g ?_
 refine cE ?_
 obtain ⟨i,e,b⟩:=bd b
 refine aD (lO (vp (aH p1) R) (lO (vp (aH a) R) (lM _ (fun w s=>(s.dg 0 R)) ?_)))
 refine lC 1 wu R (Z2g_ok e) R ?_
 rintro _
 refine lN g ?_
 refine cR ?_
 cases b
 exact qF () (tE 1 [])
theorem Z0o_ok  {e:(List Int)}{g:(List Int)}{r:Bool}(b:Z0o e g=some r) :
 FnOk Tryz.prog 41 [(.slice A2 N2 D2),(.slice A4 N4 D4)] [aQ kT3 (.slice A2 N2 D2) e,aQ kT3 (.slice A4 N4 D4) g] (fun (h:Unit)=>((.bool r),[])):=by
 unfold Z0o at b
 refine aR Tryz.func41 R 26 R R fun C V=>?_
 refine cL 0 aA ?_
 rintro rfl
 refine cL 1 aA ?_
 rintro rfl
 let q:=RR kT3 A2 D2 e::RR kT3 A4 D4 g::V
 refine cN q ?_
 refine oI ?_
 split at b
 refine dI ?_
 cases b
 exact qF () (tE 2 [])
 refine bI ?_
 refine bE (A:=(Unit)×(Unit)) (fun a=>Z0o_J1=some r) (fun a=>[]) (fun a=>q) ?_ ?_
 refine dI ?_
 obtain ⟨I,B,m⟩:=bd b
 refine bF (A:=Unit) B (fun s a=>[(0,(sc A2 e D2)),(1,(sc A4 g D4)),(12,(il e)),(13,(iv s))]) (fun s a=>q) () (aS R) tI ?_
 rintro G _ σ1 D b i
 dsimp only [Z0o_L1] at b
 refine cE ?_
 split at b
 refine iY ?_
 obtain ⟨j,b⟩:=gd b
 obtain ⟨l,b⟩:=gd b
 refine bA 0 aA (show 0<e.length by have:=j; omega) (fun E o18 u=>?_)
 subst u
 refine bA 1 aA (show 0<g.length by have:=l; omega) (fun F o21 u=>?_)
 subst u
 refine cX 9 [] bM fun L J=>?_
 refine w8 0 [] ?_
 refine dD (aE ?_)
 split at b
 refine dC ?_
 cases b
 obtain rfl:=i _ R
 have b:=m
 refine aU ?_
 cases b
 exact qF () (tE 2 [])
 refine dI ?_
 cases b
 exact qA () tI
 refine aU ?_
 cases b
 obtain rfl:=i _ R
 have b:=m
 refine aZ ?_
 exact cJ ((),()) b trivial tI
 rintro ⟨_,_⟩ σ1 b
 dsimp only [Z0o_J1] at b
 refine cE ?_
 cases b
 exact qF () (tE 2 [])
theorem iQ  {p1:aO}{a:aO}{mG:Int}{r:aO×aO×Bool}(b:eB p1 a=some r) :
 FnOk Tryz.prog 209 [(aH p1),(aH a)] [gl 0 mG] (fun (h:Unit)=>((.tuple [(aH r.1),(aH r.2.1),(.bool r.2.2)].toArray),[])):=by
 unfold eB at b
 refine aR Tryz.func209 R 23 R R fun C V=>?_
 let l:=gl 0 mG::V
 refine cN l ?_
 refine aZ ?_
 refine lO (vp (aH ([]:aO)) R) (lO (vp (aH ([]:aO)) R) ?_)
 refine cR ?_
 obtain ⟨i,j,b⟩:=bd b
 refine aD (lO (vp (aH p1) R) (lO (vp (aH a) R) (lM _ (fun w s=>(s.dg 0 R)) ?_)))
 refine lC 1 wt R (fG j) R ?_
 rintro _
 refine lN l ?_
 refine dC ?_
 split at b
 refine aZ ?_
 obtain ⟨e,b⟩:=gd b
 obtain ⟨g,b⟩:=gd b
 refine cX 12 [] bM fun q m=>?_
 refine dR 0 R (vp (aH p1) R) (dR 1 R (vI R) (dR 2 R (vz (aH (sub p1 (0:Int) i)) (iD (0:Int) i gA R R R e.1 e.2.1 e.2.2)) (dR 3 R (vp (aH p1) R) (dR 4 R (vI R) (dR 5 R (vp (aH a) R) (dR 6 R (vz (il a) (dM gA R)) (dR 7 R (kM R R) (dR 8 R (vz (aH (sub p1 (aK (i+(a.length:Int))) (p1.length:Int))) (iD (aK (i+(a.length:Int))) (p1.length:Int) gA R R R g.1 g.2.1 g.2.2)) (dR 9 R (vp (aH (sub p1 (0:Int) i)) R) (dR 10 R (vp (aH (sub p1 (aK (i+(a.length:Int))) (p1.length:Int))) R) (dR 11 R (vB R) (dD ?_))))))))))))
 refine aU ?_
 cases b
 exact iI () (tE 1 [])
 refine cR ?_
 refine lO (vp (aH p1) R) (lO (vp (aH p1) R) (lO (vp (aH ([]:aO)) R) ?_))
 refine bI ?_
 cases b
 exact iI () (tE 1 [])
theorem Z36_ok  {p1:aO}{a:aO}{mG:Int}{r:aO×aO×Bool}(b:Z36 p1 a=some r) :
 FnOk Tryz.prog 207 [(aH p1),(aH a)] [gl 0 mG] (fun (h:Unit)=>((.tuple [(aH r.1),(aH r.2.1),(.bool r.2.2)].toArray),[])):=by
 unfold Z36 at b
 refine aR Tryz.func207 R 13 R R fun C V=>?_
 let i:=gl 0 mG::V
 refine cN i ?_
 refine aZ ?_
 refine lO (vp (aH ([]:aO)) R) (lO (vp (aH ([]:aO)) R) ?_)
 refine bI ?_
 obtain ⟨e,g,b⟩:=bd b
 refine aD (lO (vp (aH p1) R) (lO (vp (aH a) R) (lM _ (fun w s=>(s.dg 0 R)) ?_)))
 refine lC 1 zE R (iQ g) R ?_
 rintro _
 refine lN i ?_
 refine lO (vp (aH e.1) R) (lO (vp (aH e.2.1) R) (lB R (lO (vp (aH e.1) R) (lO (vp (aH e.2.1) R) ?_))))
 refine bI ?_
 cases b
 exact iI () (tE 1 [])
theorem Z3f_ok  {b e:aO}{r:Int}(a:Z3f b e=some r) :
 FnOk Tryz.prog 212 [(aH b),(aH e)] [] (fun (_:Unit)=>((iv r),[])):=by
 unfold Z3f at a
 split at a
 ·rename_i c
  obtain rfl:=so a
  exact qx fun w=>Tryz.strings_Count_one ⟨b.toArray⟩ c w
 ·cases a
theorem Z0j_ok  {p1:aO}{j:aO}{b:Int}{n4:Int}{mG:Int}{r:(List aO)}(g:Z0j p1 j b n4=some r) :
 FnOk Tryz.prog 210 [(aH p1),(aH j),(iv b),(iv n4)] [gl 0 mG] (fun (h:HH)=>((s3 h),[aQ kT9 (s3 h) r])):=by
 unfold Z0j at g
 refine aR Tryz.func210 R 66 R R fun C V=>?_
 let U:=gl 0 mG::V
 refine cN U ?_
 refine iY ?_
 rcases cG g with ⟨_,g⟩|⟨_,g⟩
 refine dI ?_
 cases g
 exact qF (none,0,0) (fun w s=>((s.nilr kT9).e 2 [0]))
 refine cE ?_
 refine lO (vp (aH j) R) (lO (vz (.bool (j==([]:aO))) (jd R R R)) ?_)
 refine aZ ?_
 rcases cG g with ⟨_,g⟩|⟨_,g⟩
 refine cA ?_
 cases g
 refine bI ?_
 refine bE (A:=(Int)×(Unit)) (fun a=>Z0j_J2 p1 j b a.1=some r) (fun a=>[(0,(aH p1)),(1,(aH j)),(2,(iv b)),(3,(iv a.1))]) (fun a=>U) ?_ ?_
 refine cE ?_
 rcases cG g with ⟨_,g⟩|⟨_,g⟩
 refine cA ?_
 obtain ⟨r8,a6,g⟩:=bd g
 refine aD (lO (vp (aH p1) R) (lO (vp (aH j) R) (lC 0 zG R (Z3f_ok a6) R ?_)))
 rintro _
 refine aU ?_
 exact qI ((aK (r8+1)),()) g tI
 refine aZ ?_
 exact qI (n4,()) g tI
 rintro ⟨i,_⟩ σ1 g
 dsimp only [Z0j_J2] at g
 refine aU ?_
 refine lO (vp (aH p1) R) (lO (vz (il p1) (dM gA R)) (lO (kM R R) (lO (vz (iv (if (aK ((p1.length:Int)+1))<i then (aK ((p1.length:Int)+1)) else i)) (w4 R R)) ?_)))
 refine bI ?_
 obtain ⟨u,g⟩:=gd g
 refine aZ ?_
 refine f' (K:=kT9) (m:=(if (aK ((p1.length:Int)+1))<i then (aK ((p1.length:Int)+1)) else i)) (z:=([]:aO)) R R lV rD C7 (Zr.zk zT9 ze) (by decide) R R u.1 u.2.1 u.2.2 (fun A12 D12=>(lS R (aC (aE (aI (aD (lI R (lO (x0 R R) (lI R (aC (aE (aI (aD (lI R (aC (aE (aI (bE (A:=(aO×(List aO)×Int)×(Unit)) (fun a=>Z0j_J3 p1 i a.1.1 a.1.2.1 a.1.2.2=some r) (fun a=>[(0,(aH a.1.1)),(9,(sc A12 (List.replicate (if (aK ((p1.length:Int)+1))<i then (aK ((p1.length:Int)+1)) else i).toNat ([]:aO)) D12)),(10,(iv a.1.2.2))]) (fun a=>ow kT9 9 (.slice A12 (List.replicate (if (aK ((p1.length:Int)+1))<i then (aK ((p1.length:Int)+1)) else i).toNat ([]:aO)).length D12) a.1.2.1::U) ?_ ?_))))))))))))))))))
 refine cA ?_
 obtain ⟨e1,a5,Z⟩:=bd g
 refine bF (A:=Unit) a5 (fun s a=>[(0,(aH s.1)),(1,(aH j)),(2,(iv b)),(3,(iv (aK ((if (aK ((p1.length:Int)+1))<i then (aK ((p1.length:Int)+1)) else i) - 1)))),(9,(sc A12 (List.replicate (if (aK ((p1.length:Int)+1))<i then (aK ((p1.length:Int)+1)) else i).toNat ([]:aO)) D12)),(10,(iv s.2.2))]) (fun s a=>ow kT9 9 (.slice A12 (List.replicate (if (aK ((p1.length:Int)+1))<i then (aK ((p1.length:Int)+1)) else i).toNat ([]:aO)).length D12) s.2.1::U) () (aS R) tI ?_
 rintro ⟨l,O,T⟩ _ σ1 a8 g Y
 dsimp only [Z0j_L1] at g
 refine dI ?_
 rcases cG g with ⟨_,g⟩|⟨_,g⟩
 refine cR ?_
 obtain ⟨q,a0,g⟩:=bd g
 refine aD (lO (vp (aH l) R) (lO (vp (aH j) R) (lM (gl 0 mG::ow kT9 9 (.slice A12 (List.replicate (if (aK ((p1.length:Int)+1))<i then (aK ((p1.length:Int)+1)) else i).toNat ([]:aO)).length D12) O::U) (fun w s=>(s.dg 1 R)) ?_)))
 refine lC 1 wu R (Z2g_ok a0) R ?_
 rintro _
 refine dA ?_
 rcases cG g with ⟨_,g⟩|⟨_,g⟩
 refine aU ?_
 refine sj R ?_
 cases g
 obtain rfl:=Y _ R
 have g:=Z
 refine aZ ?_
 exact qI ((l,O,T),()) g tI
 refine bI ?_
 obtain ⟨B,g⟩:=gd g
 obtain ⟨D,g⟩:=gd g
 refine aU ?_
 refine lO (vp (aH l) R) ?_
 refine aU ?_
 refine lO (vz (aH (sub l (0:Int) (aK (q+b)))) (iD (0:Int) (aK (q+b)) gA R R R B.1 B.2.1 B.2.2)) (bG 0 aB (show 0<(List.replicate (if (aK ((p1.length:Int)+1))<i then (aK ((p1.length:Int)+1)) else i).toNat ([]:aO)).length by have:=D; omega) (fun a4 o34 ha=>?_))
 subst ha
 refine cA ?_
 refine dZ (K:=kT9) (x':=(sub l (0:Int) (aK (q+b)))) 0 T R R rD R R D.1 D.2 ?_ ?_
 exact fun I h s=>(yy).put I h () (sub l (0:Int) (aK (q+b))) s
 refine cA ?_
 obtain ⟨a7,J,g⟩:=bd g
 replace J:=Option.some.inj J
 refine qM (ow kT9 9 (.slice (ad a4 o34) (List.replicate (if (aK ((p1.length:Int)+1))<i then (aK ((p1.length:Int)+1)) else i).toNat ([]:aO)).length D12) a7::U) (fun w s=>by rw [← J]; exact s) ?_
 refine aZ ?_
 obtain ⟨E,g⟩:=gd g
 refine aD (lO (vp (aH l) R) (lI R (lO (vp (aH j) R) (lO (vz (il j) (dM gA R)) (lO (kM R R) (lO (vz (aH (sub l (aK (q+(j.length:Int))) (l.length:Int))) (iD (aK (q+(j.length:Int))) (l.length:Int) gA R R R E.1 E.2.1 E.2.2)) (lO (vp (aH (sub l (aK (q+(j.length:Int))) (l.length:Int))) R) ?_)))))))
 refine dI ?_
 cases g
 exact qA () tI
 refine aU ?_
 cases g
 obtain rfl:=Y _ R
 have g:=Z
 refine aZ ?_
 exact qI ((l,O,T),()) g tI
 rintro ⟨⟨M,a3,L⟩,_⟩ σ1 g
 dsimp only [Z0j_J3] at g
 refine cA ?_
 obtain ⟨F,g⟩:=gd g
 refine aU ?_
 refine lO (vp (aH M) R) (bG 0 aB (show 0<(List.replicate (if (aK ((p1.length:Int)+1))<i then (aK ((p1.length:Int)+1)) else i).toNat ([]:aO)).length by have:=F; omega) (fun a9 o46 ha=>?_))
 subst ha
 refine cA ?_
 refine dZ (K:=kT9) (x':=M) 0 L R R rD R R F.1 F.2 ?_ ?_
 exact fun I h s=>(yy).put I h () M s
 refine aU ?_
 obtain ⟨G,g⟩:=gd g
 refine bI ?_
 refine je (fun w s=>s.shr 0 R) (gQ (K:=kT9) (0:Int) (aK (L+1)) 0 R R lV rD R R R R G.1 G.2.1 G.2.2 (fun a1 a2=>(lS R (aC (aE (bO ?_))))))
 cases g
 exact qF (a1,(sub (a3.set L.toNat M) (0:Int) (aK (L+1))).length,a2) (tE 3 [0])
theorem Z37_ok  {p1:aO}{a:aO}{mG:Int}{r:(List aO)}(b:Z37 p1 a=some r) :
 FnOk Tryz.prog 208 [(aH p1),(aH a)] [gl 0 mG] (fun (h:HH)=>((.slice h.1 h.2.1 h.2.2),[aQ kT9 (.slice h.1 h.2.1 h.2.2) r])):=by
 unfold Z37 at b
 refine aR Tryz.func208 R 8 R R fun C V=>?_
 refine cN (_::V) ?_
 let g:List HP:=gl 0 mG::V
 refine cN g ?_
 refine aI (aD (lS R (aC (aE (aI ?_)))))
 obtain ⟨j,i,b⟩:=bd b
 refine aD (lO (vp (aH p1) R) (lO (vp (aH a) R) (lM (gl 0 mG::g) (fun w s=>(s.dg 0 R)) ?_)))
 refine lC 1 zH R (Z0j_ok i) R ?_
 rintro ⟨A5,N5,D5⟩
 refine lN (aQ kT9 (.slice A5 N5 D5) j::g) ?_
 refine aM 0 aA ?_
 rintro rfl
 refine lS R (aC (aE (bO ?_)))
 obtain rfl:=so b
 exact qF (A5,j.length,D5) (fun w s=>(s.e 2 [0]))
theorem gT  {b:aO}{a:Int}{r:Int}(e:dH b a=some r) :
 FnOk Tryz.prog 172 [(aH b),(.int .u8 a)] [] (fun (_:Unit)=>((iv r),[])):=by
 unfold dH at e
 obtain rfl:=so e
 exact qx fun w=>Tryz.stringslite_IndexByte ⟨b.toArray⟩ a w
theorem Z1w_ok  {p1:aO}{e:Int}{r:Int}(a:Z1w p1 e=some r) :
 FnOk Tryz.prog 205 [(aH p1),(.int .u8 e)] [] (fun (h:Unit)=>((iv r),[])):=by
 unfold Z1w at a
 refine aR Tryz.func205 R 8 R R fun C V=>?_
 refine cN V ?_
 refine cE ?_
 obtain ⟨g,b,a⟩:=bd a
 refine aD (lO (vp (aH p1) R) (lI R (lC 0 zJ R (gT b) R ?_)))
 rintro _
 refine bI ?_
 cases a
 exact qF () tI
theorem Z8_ok {g:List Int}{a:Option Addr}{b e:Nat}{r:(List Int)}(m:Z8 g=some r) :
  FnOk Tryz.prog 43 [(.slice a b e)] [aQ kT3 (.slice a b e) g] (fun (h:(Option Addr×Nat×Nat))=>((s3 h),[ow kT3 3 (s3 h) r])):=by
 unfold Z8 at m
 obtain ⟨B,m⟩:=gd m
 obtain rfl:=Option.some.inj m
 refine aR Tryz.func43 rfl 8 rfl rfl fun C V=>(yI (V':=aQ kT3 (.slice a b e) g::V) tI (bQ 0 aA (fun (D:b=g.length)=>?_)))
 subst D
 refine aZ ?_
 refine lS rfl ?_
 refine cR ?_
 refine lS rfl (sB (.bool a.isNone) (wU bT rfl rfl) rfl rfl (aC (aE ?_)))
 rcases Bool.eq_false_or_eq_true a.isNone with l | l
 ·refine bS rfl l ?_
  refine wZ 0 aA l (fun (E:g=[])=>?_)
  subst E
  refine aZ ?_
  refine lS rfl ?_
  refine bI ?_
  exact cY (vs:=[(.slice none 0 0)]) (.inl rfl) (none,0,0) rfl ⟨rfl,trivial⟩ rfl (fun w s=>((s.nilo kT3 3).sel 2 [0] rfl rfl))
 ·refine bC rfl l (bZ (aE ?_))
  refine aZ ?_
  refine bU (K:=kT3) (xs:=([]:List Int)) (vs:=[]) 0 rfl rfl bT cS iu rfl rfl rfl rfl rfl rfl ?_ rfl (fun q u=>?_)
  ·exact fun I h s=>(hD).list [] I h s
  refine lS rfl (eO (K:=kT3) 17592186044416 rfl rfl bT cS kN (Zr.zk zT3 iu) rfl rfl rfl rfl rfl rfl (su (Kind.scal_flat _ _)) (by simpa using B) (fun i j=>(lS rfl (aC (aE (bO ?_))))))
  exact cY (vs:=[(.slice i g.length j)]) (.inl rfl) (i,g.length,j) rfl ⟨rfl,trivial⟩ rfl tI
theorem Z06_ok  {a1:(List Int)}{e:(List Int)}{r:Bool}(b:Z06 a1 e=some r) :
 FnOk Tryz.prog 12 [(.slice A2 N2 D2),(.slice A4 N4 D4)] [aQ kT3 (.slice A2 N2 D2) a1,aQ kT3 (.slice A4 N4 D4) e] (fun (h:Unit)=>((.bool r),[])):=by
 unfold Z06 at b
 refine aR Tryz.func12 R 26 R R fun C V=>?_
 refine cL 0 aA ?_
 rintro rfl
 refine cL 1 aA ?_
 rintro rfl
 let m:=RR kT3 A2 D2 a1::RR kT3 A4 D4 e::V
 refine cN m ?_
 refine oI ?_
 split at b
 refine dI ?_
 cases b
 exact qF () (tE 2 [])
 refine bI ?_
 refine bE (A:=(Unit)×(Unit)) (fun a=>Z06_J1=some r) (fun a=>[]) (fun a=>m) ?_ ?_
 refine cE ?_
 obtain ⟨G,u,l⟩:=bd b
 refine bF (A:=Unit) u (fun s a=>[(0,(sc A2 a1 D2)),(1,(sc A4 e D4)),(5,(iv s))]) (fun s a=>m) () (aS R) tI ?_
 rintro F _ σ1 B b g
 dsimp only [Z06_L1] at b
 refine dC ?_
 split at b
 refine cE ?_
 obtain ⟨i,b⟩:=gd b
 obtain ⟨j,b⟩:=gd b
 refine bA 0 aA (show 0<a1.length by have:=i; omega) (fun D o18 q=>?_)
 subst q
 refine bA 1 aA (show 0<e.length by have:=j; omega) (fun E o21 q=>?_)
 subst q
 refine cX 9 [] bM fun J I=>?_
 refine w8 0 [] ?_
 refine dD (aE ?_)
 split at b
 refine dC ?_
 cases b
 obtain rfl:=g _ R
 have b:=l
 refine aU ?_
 cases b
 exact qF () (tE 2 [])
 refine dC ?_
 cases b
 exact qA () tI
 refine aU ?_
 cases b
 obtain rfl:=g _ R
 have b:=l
 refine aZ ?_
 exact cJ ((),()) b trivial tI
 rintro ⟨_,_⟩ σ1 b
 dsimp only [Z06_J1] at b
 refine cE ?_
 cases b
 exact qF () (tE 2 [])
theorem Z2l_ok  {a1:Node}{b:Node}{r:Bool}(a:Z2l a1 b=some r) :
 FnOk Tryz.prog 70 [(.agg [(iv a1.Op),(.slice A2 N2 D2),(.slice A3 N3 D3),(.slice A4 N4 D4),(aH a1.Form),(.slice A5 N5 D5)].toArray),(.agg [(iv b.Op),(.slice A7 N7 D7),(.slice A8 N8 D8),(.slice A9 N9 D9),(aH b.Form),(.slice A10 N10 D10)].toArray)] [aQ kT3 (.slice A2 N2 D2) a1.Args,aQ kT3 (.slice A3 N3 D3) a1.Dims,aQ kT3 (.slice A4 N4 D4) a1.Ints,aQ kT3 (.slice A5 N5 D5) a1.Data,aQ kT3 (.slice A7 N7 D7) b.Args,aQ kT3 (.slice A8 N8 D8) b.Dims,aQ kT3 (.slice A9 N9 D9) b.Ints,aQ kT3 (.slice A10 N10 D10) b.Data] (fun (h:Unit)=>((.bool r),[])):=by
 unfold Z2l at a
 refine aR Tryz.func70 R 39 R R fun C V=>?_
 refine cL 0 aA ?_
 rintro rfl
 refine cL 1 aA ?_
 rintro rfl
 refine cL 2 aA ?_
 rintro rfl
 refine cL 3 aA ?_
 rintro rfl
 refine cL 4 aA ?_
 rintro rfl
 refine cL 5 aA ?_
 rintro rfl
 refine cL 6 aA ?_
 rintro rfl
 refine cL 7 aA ?_
 rintro rfl
 let B:=RR kT3 A2 D2 a1.Args::RR kT3 A3 D3 a1.Dims::RR kT3 A4 D4 a1.Ints::RR kT3 A5 D5 a1.Data::RR kT3 A7 D7 b.Args::RR kT3 A8 D8 b.Dims::RR kT3 A9 D9 b.Ints::RR kT3 A10 D10 b.Data::V
 refine cN B ?_
 refine aZ ?_
 refine eA R fun q=>?_
 refine eA R fun u=>?_
 refine aZ ?_
 let g:=aJ u [(iv b.Op),(sc A7 b.Args D7),(sc A8 b.Dims D8),(sc A9 b.Ints D9),(aH b.Form),(sc A10 b.Data D10)] 65::aJ q [(iv a1.Op),(sc A2 a1.Args D2),(sc A3 a1.Dims D3),(sc A4 a1.Ints D4),(aH a1.Form),(sc A5 a1.Data D5)] 65::B
 refine qN g ?_
 refine j7 ?_
 split at a
 refine dI ?_
 cases a
 exact qF () (tE 10 [])
 refine cR ?_
 obtain ⟨D,i,a⟩:=bd a
 refine cR ?_
 refine lM _ (fun w s=>(((s.d 2 R).d 7 R).e 2 [1,0])) ?_
 refine lC 2 pJ R (Z06_ok i) R ?_
 rintro _
 refine lN g ?_
 refine aU ?_
 split at a
 refine dI ?_
 cases a
 exact qF () (tE 10 [])
 refine cR ?_
 obtain ⟨E,j,a⟩:=bd a
 refine cR ?_
 refine lM _ (fun w s=>(((s.d 3 R).d 8 R).e 2 [1,0])) ?_
 refine lC 2 pJ R (Z06_ok j) R ?_
 rintro _
 refine lN g ?_
 refine aU ?_
 split at a
 refine dI ?_
 cases a
 exact qF () (tE 10 [])
 refine cR ?_
 obtain ⟨F,l,a⟩:=bd a
 refine cR ?_
 refine lM _ (fun w s=>(((s.d 4 R).d 9 R).e 2 [1,0])) ?_
 refine lC 2 pJ R (Z06_ok l) R ?_
 rintro _
 refine lN g ?_
 refine aU ?_
 split at a
 refine dI ?_
 cases a
 exact qF () (tE 10 [])
 refine dA ?_
 refine lO (vz (.bool (!(a1.Form==b.Form))) (jd R R R)) ?_
 refine aZ ?_
 split at a
 refine dI ?_
 cases a
 exact qF () (tE 10 [])
 refine cR ?_
 obtain ⟨G,m,a⟩:=bd a
 refine cR ?_
 refine lM _ (fun w s=>(((s.d 5 R).d 10 R).e 2 [1,0])) ?_
 refine lC 2 pJ R (Z06_ok m) R ?_
 rintro _
 refine lN g ?_
 refine aU ?_
 split at a
 refine dI ?_
 cases a
 exact qF () (tE 10 [])
 refine dC ?_
 cases a
 exact qF () (tE 10 [])
theorem Z1c_ok  {a1:(List Node)}{i:(List Node)}{r:Bool}(g:Z1c a1 i=some r) :
 FnOk Tryz.prog 33 [(.slice A2 N2 D2),(.slice A4 N4 D4)] [aQ kT65 (.slice A2 N2 D2) a1,aQ kT65 (.slice A4 N4 D4) i] (fun (h:Unit)=>((.bool r),[])):=by
 unfold Z1c at g
 refine aR Tryz.func33 R 27 R R fun C V=>?_
 refine cL 0 aA ?_
 rintro rfl
 refine cL 1 aA ?_
 rintro rfl
 let W0:=RR kT65 A2 D2 a1::RR kT65 A4 D4 i::V
 refine cN W0 ?_
 refine oI ?_
 split at g
 refine dI ?_
 cases g
 exact qF () (tE 2 [])
 refine bI ?_
 refine bE (A:=(Unit)×(Unit)) (fun a=>Z1c_J1=some r) (fun a=>[]) (fun a=>W0) ?_ ?_
 refine cE ?_
 obtain ⟨e1,a3,q⟩:=bd g
 refine bF (A:=Unit) a3 (fun s a=>[(0,(sc A2 a1 D2)),(1,(sc A4 i D4)),(5,(iv s))]) (fun s a=>W0) () (aS R) tI ?_
 rintro b _ σ1 a4 g m
 dsimp only [Z1c_L1] at g
 refine dC ?_
 split at g
 refine cE ?_
 obtain ⟨j,g⟩:=gd g
 obtain ⟨l,g⟩:=gd g
 obtain ⟨a7,u,g⟩:=bd g
 refine bA 0 aA (show 0<a1.length by have:=j; omega) (fun a5 o28 ha=>?_)
 subst ha
 refine dG (K:=kT65) 0 b dT65.dec R j.1 j.2 ?_
 rintro ⟨-,⟨B,M⟩,⟨D,O⟩,⟨E,T⟩,-,⟨F,U⟩⟩
 refine bA 6 aA (show 0<i.length by have:=l; omega) (fun a6 o35 ha=>?_)
 subst ha
 refine dG (K:=kT65) 6 b dT65.dec R l.1 l.2 ?_
 rintro ⟨-,⟨G,Y⟩,⟨I,Z⟩,⟨J,a0⟩,-,⟨L,a2⟩⟩
 refine cX 10 [] bM fun ht hn=>?_
 refine iJ 0 [] ?_
 refine dR 3 R (vz (.agg [(iv (ix a1 b).Op),(sc B ((ix a1 b).Args) M),(sc D ((ix a1 b).Dims) O),(sc E ((ix a1 b).Ints) T),(aH (ix a1 b).Form),(sc F ((ix a1 b).Data) U)].toArray) (eJ (fo:=0) 5 ni eY R R R R)) ?_
 refine iJ 4 [] ?_
 refine dR 7 R (vz (.agg [(iv (ix i b).Op),(sc G ((ix i b).Args) Y),(sc I ((ix i b).Dims) Z),(sc J ((ix i b).Ints) a0),(aH (ix i b).Form),(sc L ((ix i b).Data) a2)].toArray) (eJ (fo:=0) 0 ni eY R R R R)) (d1 8 R (lM _ (fun w s=>(((((((((s.d 6 R).d 8 R).d 10 R).d 12 R).d 5 R).d 7 R).d 9 R).d 11 R).e 18 [7,6,5,4,3,2,1,0,8,9,10,11,12,13,14,15,16,17])) ?_))
 refine lC 8 BA R (Z2l_ok u) R ?_
 rintro _
 refine aC (aG (sL []) (dR 9 R (ki R) (dD (aE ?_))))
 split at g
 refine dC ?_
 cases g
 obtain rfl:=m _ R
 have g:=q
 refine aU ?_
 cases g
 exact qF () (tE 12 [])
 refine dC ?_
 cases g
 exact qA () (tE 10 [])
 refine aU ?_
 cases g
 obtain rfl:=m _ R
 have g:=q
 refine aZ ?_
 exact cJ ((),()) g trivial tI
 rintro ⟨_,_⟩ σ1 g
 dsimp only [Z1c_J1] at g
 refine cE ?_
 cases g
 exact qF () (tE 2 [])
theorem Z1l_ok  {a1:Graph}{b:Graph}{r:Bool}(a:Z1l a1 b=some r) :
 FnOk Tryz.prog 11 [(.agg [(.slice A2 N2 D2),(.slice A3 N3 D3)].toArray),(.agg [(.slice A5 N5 D5),(.slice A6 N6 D6)].toArray)] [aQ kT65 (.slice A2 N2 D2) a1.Nodes,aQ kT3 (.slice A3 N3 D3) a1.Outs,aQ kT65 (.slice A5 N5 D5) b.Nodes,aQ kT3 (.slice A6 N6 D6) b.Outs] (fun (h:Unit)=>((.bool r),[])):=by
 unfold Z1l at a
 refine aR Tryz.func11 R 17 R R fun C V=>?_
 refine cL 0 aA ?_
 rintro rfl
 refine cL 1 aA ?_
 rintro rfl
 refine cL 2 aA ?_
 rintro rfl
 refine cL 3 aA ?_
 rintro rfl
 let l:=RR kT65 A2 D2 a1.Nodes::RR kT3 A3 D3 a1.Outs::RR kT65 A5 D5 b.Nodes::RR kT3 A6 D6 b.Outs::V
 refine cN l ?_
 refine aZ ?_
 refine eA R fun m=>?_
 refine eA R fun q=>?_
 refine aZ ?_
 let j:=aJ q [(sc A5 b.Nodes D5),(sc A6 b.Outs D6)] 31::aJ m [(sc A2 a1.Nodes D2),(sc A3 a1.Outs D3)] 31::l
 refine qN j ?_
 refine aU ?_
 obtain ⟨B,g,a⟩:=bd a
 refine cR ?_
 refine lM _ (fun w s=>(((s.d 2 R).d 5 R).e 2 [1,0])) ?_
 refine lC 2 BC R (Z1c_ok g) R ?_
 rintro _
 refine lN j ?_
 refine aU ?_
 split at a
 refine dI ?_
 cases a
 exact qF () (tE 6 [])
 refine cR ?_
 obtain ⟨u,i,a⟩:=bd a
 refine cR ?_
 refine lM _ (fun w s=>(((s.d 3 R).d 6 R).e 2 [1,0])) ?_
 refine lC 2 pJ R (Z06_ok i) R ?_
 rintro _
 refine lN j ?_
 refine aU ?_
 split at a
 refine dI ?_
 cases a
 exact qF () (tE 6 [])
 refine dC ?_
 cases a
 exact qF () (tE 6 [])
theorem Z2y_ok  {a1:Tensor}{i:Tensor}{r:Bool}(a:Z2y a1 i=some r) :
 FnOk Tryz.prog 17 [(.agg [(.slice A2 N2 D2),(.slice A3 N3 D3)].toArray),(.agg [(.slice A5 N5 D5),(.slice A6 N6 D6)].toArray)] [aQ kT3 (.slice A2 N2 D2) a1.Dims,aQ kT3 (.slice A3 N3 D3) a1.Data,aQ kT3 (.slice A5 N5 D5) i.Dims,aQ kT3 (.slice A6 N6 D6) i.Data] (fun (h:Unit)=>((.bool r),[])):=by
 unfold Z2y at a
 refine aR Tryz.func17 R 17 R R fun C V=>?_
 refine cN (_::_::_::_::V) ?_
 refine cL 0 aA ?_
 rintro rfl
 refine cL 1 aA ?_
 rintro rfl
 refine cL 2 aA ?_
 rintro rfl
 refine cL 3 aA ?_
 rintro rfl
 let q:List HP:=RR kT3 A2 D2 a1.Dims::RR kT3 A3 D3 a1.Data::RR kT3 A5 D5 i.Dims::RR kT3 A6 D6 i.Data::V
 refine cN q ?_
 refine aI (aD (eA R (fun u=>(eA R (fun B=>(lB R (aC ?_)))))))
 let j:List HP:=aJ B [(sc A5 i.Dims D5),(sc A6 i.Data D6)] 42::aJ u [(sc A2 a1.Dims D2),(sc A3 a1.Data D3)] 42::q
 refine qN j ?_
 refine aE (aI (aI ?_))
 obtain ⟨E,l,a⟩:=bd a
 refine aD (lO (dS 0 fT R) (lO (dV 1 cB R R R) (lO (dS 0 fT R) (lO (dV 0 cB R R R) (lM (RR kT3 A2 D2 a1.Dims::RR kT3 A5 D5 i.Dims::j) (fun w s=>(((s.d 2 R).d 5 R).e 2 [1,0])) ?_)))))
 refine lC 2 pJ R (Z06_ok l) R ?_
 rintro _
 refine lN j ?_
 refine lO (ki R) (aC (aE ?_))
 rcases cG a with ⟨b,a⟩|⟨b,a⟩
 refine bS R b (aI (aD (lB R (aC (aE (bO (bP ?_)))))))
 obtain rfl:=so a
 exact qF () (fun w s=>(s.e 6 []))
 refine bC R b (bZ (aE (aI (aI ?_))))
 obtain ⟨D,m,a⟩:=bd a
 refine aD (lO (dS 1 ka R) (lO (dV 1 cB R R R) (lO (dS 1 ka R) (lO (dV 0 cB R R R) (lM (RR kT3 A3 D3 a1.Data::RR kT3 A6 D6 i.Data::j) (fun w s=>(((s.d 3 R).d 6 R).e 2 [1,0])) ?_)))))
 refine lC 2 pJ R (Z06_ok m) R ?_
 rintro _
 refine lN j ?_
 refine lO (ki R) (aC (aE ?_))
 rcases cG a with ⟨g,a⟩|⟨g,a⟩
 refine bS R g (aI (aD (lB R (aC (aE (bO (bP ?_)))))))
 obtain rfl:=so a
 exact qF () (fun w s=>(s.e 6 []))
 refine bC R g (bZ (aE (aI (aD (lB R (aC (aE (bO ?_))))))))
 obtain rfl:=so a
 exact qF () (fun w s=>(s.e 6 []))
theorem Zp_ok  {a1:(List Int)}{k3:Int}{r:Int×(List Int)}(b:Zp a1 k3=some r) :
 FnOk Tryz.prog 45 [(.slice A2 N2 D2),(iv k3)] [ow kT3 3 (.slice A2 N2 D2) a1] (fun (h:Unit)=>((iv r.1),[ow kT3 3 (.slice A2 N2 D2) r.2])):=by
 unfold Zp at b
 refine aR Tryz.func45 R 19 R R fun C V=>?_
 refine cL 0 aB ?_
 rintro rfl
 refine cE ?_
 refine bE (A:=(Int×(List Int))×(Unit)) (fun a=>Zp_J1 a.1.1 a.1.2=some r) (fun a=>[(1,(iv a.1.1))]) (fun a=>ow kT3 3 (.slice A2 a1.length D2) a.1.2::V) ?_ ?_
 refine cE ?_
 obtain ⟨G,j,i⟩:=bd b
 refine bF (A:=Unit) j (fun s a=>[(0,(sc A2 a1 D2)),(1,(iv s.2.1)),(5,(iv s.2.2))]) (fun s a=>ow kT3 3 (.slice A2 a1.length D2) s.1::V) () (aS R) tI ?_
 rintro ⟨u,m,l⟩ _ σ1 q b g
 dsimp only [Zp_L1] at b
 refine dC ?_
 split at b
 refine cE ?_
 obtain ⟨e,b⟩:=gd b
 refine bI ?_
 refine bG 0 aB (show 0<a1.length by have:=e; omega) (fun B o14 D=>?_)
 subst D
 refine cA ?_
 refine dZ (K:=kT3) (x':=m) 0 l R R cS R R e.1 e.2 ?_ ?_
 exact fun I h s=>(hD).put I h () m s
 refine oH ?_
 cases b
 exact qA () tI
 refine aU ?_
 cases b
 obtain rfl:=g _ R
 have b:=i
 refine aZ ?_
 exact qI ((m,u),()) b tI
 rintro ⟨⟨E,F⟩,_⟩ σ1 b
 dsimp only [Zp_J1] at b
 refine dO ?_
 cases b
 exact qF () tI
theorem Z0k_ok  {k1:Int}{r:aO}(b:Z0k k1=some r) :
 FnOk Tryz.prog 75 [(iv k1)] [] (fun (h:Unit)=>((aH r),[])):=by
 unfold Z0k at b
 refine aR Tryz.func75 R 20 R R fun C V=>?_
 refine cN V ?_
 refine aZ ?_
 refine lO (vp (aH ([]:aO)) R) ?_
 refine dC ?_
 split at b
 refine aU ?_
 refine lO (vp (aH yX) R) ?_
 refine bI ?_
 cases b
 exact qF () tI
 refine cR ?_
 refine lO (vp (aH ([]:aO)) R) ?_
 refine aU ?_
 refine bE (A:=(aO)×(Unit)) (fun a=>Z0k_J1 a.1=some r) (fun a=>[(3,(aH a.1))]) (fun a=>V) ?_ ?_
 refine cA ?_
 obtain ⟨D,u,q⟩:=bd b
 refine bF (A:=Unit) u (fun s a=>[(0,(iv s.1)),(3,(aH s.2))]) (fun s a=>V) () (aS R) tI ?_
 rintro ⟨e,l⟩ _ σ1 B b m
 dsimp only [Z0k_L1] at b
 refine dO ?_
 split at b
 refine cR ?_
 obtain ⟨i,b⟩:=gd b
 refine aZ ?_
 refine lO (qr R R (by decide)) (lO (kM R R) (lO (vz (.int .u8 (IntKind.wrap .u8 ((aK ((48:Int)+(e.tmod (10:Int))))))) (wO un3 C8 R)) (bU (K:=C6) (xs:=([(IntKind.wrap .u8 ((aK ((48:Int)+(e.tmod (10:Int))))))]:List Int)) (vs:=[(.int .u8 (IntKind.wrap .u8 ((aK ((48:Int)+(e.tmod (10:Int)))))))]) 0 R R tg C9 zc5 R R R R R R ?_ R (fun A9 D9=>?_))))
 exact fun I h s=>(mO5).list [((),(IntKind.wrap .u8 ((aK ((48:Int)+(e.tmod (10:Int)))))))] I h s
 refine lO (vz (aH (nN ([(IntKind.wrap .u8 ((aK ((48:Int)+(e.tmod (10:Int))))))]:List Int))) (yN 0 tg C8 gA aB R)) (lO (vp (aH l) R) (lO (vz (aH ((nN ([(IntKind.wrap .u8 ((aK ((48:Int)+(e.tmod (10:Int))))))]:List Int))++l)) (nH R R i)) (lO (vp (aH ((nN ([(IntKind.wrap .u8 ((aK ((48:Int)+(e.tmod (10:Int))))))]:List Int))++l)) R) ?_)))
 refine bI ?_
 refine lO (vz (iv (aK (e.tdiv (10:Int)))) (mC R R (by decide))) ?_
 refine aU ?_
 cases b
 exact qA () (tE 1 [])
 refine aU ?_
 cases b
 obtain rfl:=m _ R
 have b:=q
 refine aZ ?_
 exact qI (l,()) b tI
 rintro ⟨g,_⟩ σ1 b
 dsimp only [Z0k_J1] at b
 refine cA ?_
 obtain ⟨j,b⟩:=gd b
 refine aD (lO (vp (aH g) R) (lO (vz (aH (str8++g)) (nH R R j)) (lO (vp (aH (str8++g)) R) ?_)))
 refine aU ?_
 cases b
 exact qF () tI
theorem Z02_ok  {a1:(List Node)}{k3:Int}{r:Int×(List Node)}(q:Z02 a1 k3=some r) :
 FnOk Tryz.prog 44 [(.slice A2 N2 D2),(iv k3)] [ow kT65 65 (.slice A2 N2 D2) a1] (fun (h:Unit)=>((iv r.1),[ow kT65 65 (.slice A2 N2 D2) r.2])):=by
 unfold Z02 at q
 refine aR Tryz.func44 R 56 R R fun C V=>?_
 refine cL 0 aB ?_
 rintro rfl
 refine cE ?_
 refine bE (A:=(Int×(List Node))×(Unit)) (fun a=>Z02_J1 a.1.1 a.1.2=some r) (fun a=>[(1,(iv a.1.1))]) (fun a=>ow kT65 65 (.slice A2 a1.length D2) a.1.2::V) ?_ ?_
 refine cE ?_
 obtain ⟨e1,b8,b7⟩:=bd q
 refine bF (A:=Unit) b8 (fun s a=>[(0,(sc A2 a1 D2)),(1,(iv s.2.1)),(5,(iv s.2.2))]) (fun s a=>ow kT65 65 (.slice A2 a1.length D2) s.1::V) () (aS R) tI ?_
 rintro ⟨a46,Y,b⟩ _ σ1 bb q b6
 dsimp only [Z02_L1] at q
 refine dC ?_
 split at q
 refine cE ?_
 obtain ⟨m,q⟩:=gd q
 refine bI ?_
 refine bG 0 aB (show 0<a1.length by have:=m; omega) (fun u o52 ha=>?_)
 subst ha
 refine cA ?_
 refine lO (vz (.pointer (some ⟨u,o52+b.toNat*6,none⟩)) (gN fS R R)) (w0 (K:=kT65) (fo:=0) (v:=(iv Y)) (f:=(fun x:Node=>(⟨Y,x.Args,x.Dims,x.Ints,x.Form,x.Data⟩:Node))) 0 b R R cS ?_ R R R R m.1 m.2 ?_)
 exact SetL.deep ry mJ (fun a x=>((),(.slice a.2.1.1 x.Args.length a.2.1.2),(.slice a.2.2.1.1 x.Dims.length a.2.2.1.2),(.slice a.2.2.2.1.1 x.Ints.length a.2.2.2.1.2),(),(.slice a.2.2.2.2.2.1 x.Data.length a.2.2.2.2.2.2))) R (fun _ _=>R) (fun _ _=>R)
 refine cA ?_
 obtain ⟨g,B,q⟩:=bd q
 replace B:=Option.some.inj B
 refine qM (ow kT65 65 (.slice (ad u o52) a1.length D2) g::V) (fun w s=>by rw [← B]; exact s) ?_
 refine dC ?_
 obtain ⟨M,b0,q⟩:=bd q
 refine bI ?_
 refine lO (vz (.pointer (some ⟨u,o52+b.toNat*6+1,none⟩)) (gN mK R R)) (mi (K:=kT65) ry 0 b R m.1 m.2 ?_)
 rintro ⟨-,⟨Z,ai⟩,⟨a0,aj⟩,⟨a2,ak⟩,-,⟨a3,al⟩⟩
 refine lO (nK (fo:=1) 0 cB R R R) (lI R (lM (ow _ _ _ _::uD _ _ _ _ _ _::ow _ _ _ _::ow _ _ _ _::ow _ _ _ _::V) (tE 5 [1,0,2,3,4]) ?_))
 refine lC 1 pK R (Zp_ok b0) R ?_
 rintro _
 refine aZ ?_
 refine qM (ow kT65 65 (.slice (ad u o52) a1.length D2) (g.set b.toNat (⟨(ix g b).Op,M.2,(ix g b).Dims,(ix g b).Ints,(ix g b).Form,(ix g b).Data⟩:Node))::V) (fun w s=>St.unfocus (E:=[ow kT3 3 (.slice Z ((ix g b).Args).length ai) M.2,OO kT3 3 a0 aj ((ix g b).Dims),OO kT3 3 a2 ak ((ix g b).Ints),OO kT3 3 a3 al ((ix g b).Data)]) (⟨(ix g b).Op,M.2,(ix g b).Dims,(ix g b).Ints,(ix g b).Form,(ix g b).Data⟩:Node) (s.e 5 [1,0,2,3,4]) ?_) ?_
 exact fun I h s=>(mJ).put I h ((),(sc Z ((ix g b).Args) ai),(sc a0 ((ix g b).Dims) aj),(sc a2 ((ix g b).Ints) ak),(),(sc a3 ((ix g b).Data) al)) (⟨(ix g b).Op,M.2,(ix g b).Dims,(ix g b).Ints,(ix g b).Form,(ix g b).Data⟩:Node) s
 obtain ⟨i,D,q⟩:=bd q
 replace D:=Option.some.inj D
 refine qM (ow kT65 65 (.slice (ad u o52) a1.length D2) i::V) (fun w s=>by rw [← D]; exact s) ?_
 refine aZ ?_
 obtain ⟨O,b1,q⟩:=bd q
 refine bI ?_
 refine lO (vz (.pointer (some ⟨u,o52+b.toNat*6+2,none⟩)) (gN iG R R)) (mi (K:=kT65) ry 0 b R m.1 m.2 ?_)
 rintro ⟨-,⟨a4,am⟩,⟨a5,an⟩,⟨a6,ao⟩,-,⟨a7,ap⟩⟩
 refine lO (nK (fo:=2) 0 cB R R R) (lI R (lM (ow _ _ _ _::uD _ _ _ _ _ _::ow _ _ _ _::ow _ _ _ _::ow _ _ _ _::V) (tE 5 [2,0,1,3,4]) ?_))
 refine lC 1 pK R (Zp_ok b1) R ?_
 rintro _
 refine aZ ?_
 refine qM (ow kT65 65 (.slice (ad u o52) a1.length D2) (i.set b.toNat (⟨(ix i b).Op,(ix i b).Args,O.2,(ix i b).Ints,(ix i b).Form,(ix i b).Data⟩:Node))::V) (fun w s=>St.unfocus (E:=[OO kT3 3 a4 am ((ix i b).Args),ow kT3 3 (.slice a5 ((ix i b).Dims).length an) O.2,OO kT3 3 a6 ao ((ix i b).Ints),OO kT3 3 a7 ap ((ix i b).Data)]) (⟨(ix i b).Op,(ix i b).Args,O.2,(ix i b).Ints,(ix i b).Form,(ix i b).Data⟩:Node) (s.e 5 [1,2,0,3,4]) ?_) ?_
 exact fun I h s=>(mJ).put I h ((),(sc a4 ((ix i b).Args) am),(sc a5 ((ix i b).Dims) an),(sc a6 ((ix i b).Ints) ao),(),(sc a7 ((ix i b).Data) ap)) (⟨(ix i b).Op,(ix i b).Args,O.2,(ix i b).Ints,(ix i b).Form,(ix i b).Data⟩:Node) s
 obtain ⟨j,F,q⟩:=bd q
 replace F:=Option.some.inj F
 refine qM (ow kT65 65 (.slice (ad u o52) a1.length D2) j::V) (fun w s=>by rw [← F]; exact s) ?_
 refine aZ ?_
 obtain ⟨T,b2,q⟩:=bd q
 refine bI ?_
 refine lO (vz (.pointer (some ⟨u,o52+b.toNat*6+3,none⟩)) (gN gJ R R)) (mi (K:=kT65) ry 0 b R m.1 m.2 ?_)
 rintro ⟨-,⟨a8,aq⟩,⟨a9,ar⟩,⟨aa,au⟩,-,⟨ab,av⟩⟩
 refine lO (nK (fo:=3) 0 cB R R R) (lI R (lM (ow _ _ _ _::uD _ _ _ _ _ _::ow _ _ _ _::ow _ _ _ _::ow _ _ _ _::V) (tE 5 [3,0,1,2,4]) ?_))
 refine lC 1 pK R (Zp_ok b2) R ?_
 rintro _
 refine aZ ?_
 refine qM (ow kT65 65 (.slice (ad u o52) a1.length D2) (j.set b.toNat (⟨(ix j b).Op,(ix j b).Args,(ix j b).Dims,T.2,(ix j b).Form,(ix j b).Data⟩:Node))::V) (fun w s=>St.unfocus (E:=[OO kT3 3 a8 aq ((ix j b).Args),OO kT3 3 a9 ar ((ix j b).Dims),ow kT3 3 (.slice aa ((ix j b).Ints).length au) T.2,OO kT3 3 ab av ((ix j b).Data)]) (⟨(ix j b).Op,(ix j b).Args,(ix j b).Dims,T.2,(ix j b).Form,(ix j b).Data⟩:Node) (s.e 5 [1,2,3,0,4]) ?_) ?_
 exact fun I h s=>(mJ).put I h ((),(sc a8 ((ix j b).Args) aq),(sc a9 ((ix j b).Dims) ar),(sc aa ((ix j b).Ints) au),(),(sc ab ((ix j b).Data) av)) (⟨(ix j b).Op,(ix j b).Args,(ix j b).Dims,T.2,(ix j b).Form,(ix j b).Data⟩:Node) s
 obtain ⟨b9,G,q⟩:=bd q
 replace G:=Option.some.inj G
 refine qM (ow kT65 65 (.slice (ad u o52) a1.length D2) b9::V) (fun w s=>by rw [← G]; exact s) ?_
 refine aZ ?_
 obtain ⟨b5,b3,q⟩:=bd q
 refine bI ?_
 refine lC 0 Ak R (Z0k_ok b3) R ?_
 rintro _
 refine cA ?_
 refine lO (vz (.pointer (some ⟨u,o52+b.toNat*6+4,none⟩)) (gN lx R R)) (w0 (K:=kT65) (fo:=4) (v:=(aH b5)) (f:=(fun x:Node=>(⟨x.Op,x.Args,x.Dims,x.Ints,b5,x.Data⟩:Node))) 0 b R R rD ?_ R R R R m.1 m.2 ?_)
 exact SetL.deep ry mJ (fun a x=>((),(.slice a.2.1.1 x.Args.length a.2.1.2),(.slice a.2.2.1.1 x.Dims.length a.2.2.1.2),(.slice a.2.2.2.1.1 x.Ints.length a.2.2.2.1.2),(),(.slice a.2.2.2.2.2.1 x.Data.length a.2.2.2.2.2.2))) R (fun _ _=>R) (fun _ _=>R)
 refine cA ?_
 obtain ⟨l,J,q⟩:=bd q
 replace J:=Option.some.inj J
 refine qM (ow kT65 65 (.slice (ad u o52) a1.length D2) l::V) (fun w s=>by rw [← J]; exact s) ?_
 refine dI ?_
 obtain ⟨U,b4,q⟩:=bd q
 refine bI ?_
 refine lO (vz (.pointer (some ⟨u,o52+b.toNat*6+5,none⟩)) (gN kB R R)) (mi (K:=kT65) ry 0 b R m.1 m.2 ?_)
 rintro ⟨-,⟨ac,aw⟩,⟨ae,ax⟩,⟨ag,ay⟩,-,⟨ah,az⟩⟩
 refine lO (nK (fo:=5) 0 cB R R R) (lI R (lM (ow _ _ _ _::uD _ _ _ _ _ _::ow _ _ _ _::ow _ _ _ _::ow _ _ _ _::V) (fun w s=>(s.f 5 [4,1,0,4])) ?_))
 refine lC 1 pK R (Zp_ok b4) R ?_
 rintro _
 refine aZ ?_
 refine qM (ow kT65 65 (.slice (ad u o52) a1.length D2) (l.set b.toNat (⟨(ix l b).Op,(ix l b).Args,(ix l b).Dims,(ix l b).Ints,(ix l b).Form,U.2⟩:Node))::V) (fun w s=>St.unfocus (E:=[OO kT3 3 ac aw ((ix l b).Args),OO kT3 3 ae ax ((ix l b).Dims),OO kT3 3 ag ay ((ix l b).Ints),ow kT3 3 (.slice ah ((ix l b).Data).length az) U.2]) (⟨(ix l b).Op,(ix l b).Args,(ix l b).Dims,(ix l b).Ints,(ix l b).Form,U.2⟩:Node) (s.f 5 [1,4,0,1]) ?_) ?_
 exact fun I h s=>(mJ).put I h ((),(sc ac ((ix l b).Args) aw),(sc ae ((ix l b).Dims) ax),(sc ag ((ix l b).Ints) ay),(),(sc ah ((ix l b).Data) az)) (⟨(ix l b).Op,(ix l b).Args,(ix l b).Dims,(ix l b).Ints,(ix l b).Form,U.2⟩:Node) s
 obtain ⟨ba,L,q⟩:=bd q
 replace L:=Option.some.inj L
 refine qM (ow kT65 65 (.slice (ad u o52) a1.length D2) ba::V) (fun w s=>by rw [← L]; exact s) ?_
 refine dO ?_
 cases q
 exact qA () tI
 refine aU ?_
 cases q
 obtain rfl:=b6 _ R
 have q:=b7
 refine aZ ?_
 exact qI ((Y,a46),()) q tI
 rintro ⟨⟨bc,be⟩,_⟩ σ1 q
 dsimp only [Z02_J1] at q
 refine dO ?_
 cases q
 exact qF () tI
theorem Z29_ok  {a1:Graph}{g:Int}{r:Int×(List Node)×(List Int)}(a:Z29 a1 g=some r) :
 FnOk Tryz.prog 18 [(.agg [(.slice A2 N2 D2),(.slice A3 N3 D3)].toArray),(iv g)] [ow kT65 65 (.slice A2 N2 D2) a1.Nodes,ow kT3 3 (.slice A3 N3 D3) a1.Outs] (fun (h:Unit)=>((iv r.1),[ow kT65 65 (.slice A2 N2 D2) r.2.1,ow kT3 3 (.slice A3 N3 D3) r.2.2])):=by
 unfold Z29 at a
 refine aR Tryz.func18 R 14 R R fun C V=>?_
 refine cL 0 aB ?_
 rintro rfl
 refine cL 1 aB ?_
 rintro rfl
 refine aZ ?_
 refine eA R fun i=>?_
 refine aZ ?_
 refine qM _ (tE 3 [1,2,0]) ?_
 let j:=aJ i [(sc A2 a1.Nodes D2),(sc A3 a1.Outs D3)] 31::V
 refine aZ ?_
 obtain ⟨l,b,a⟩:=bd a
 refine bI ?_
 refine lC 1 BF R (Z02_ok b) R ?_
 rintro _
 refine bI ?_
 obtain ⟨m,e,a⟩:=bd a
 refine bI ?_
 refine lM _ (tE 2 [1,0]) ?_
 refine lC 1 pK R (Zp_ok e) R ?_
 rintro _
 refine dA ?_
 cases a
 exact qF () (tE 3 [1,0])
theorem Z2z_ok  {a1:Tensor}{j:Int}{r:Int×(List Int)×(List Int)}(a:Z2z a1 j=some r) :
 FnOk Tryz.prog 19 [(.agg [(.slice A2 N2 D2),(.slice A3 N3 D3)].toArray),(iv j)] [ow kT3 3 (.slice A2 N2 D2) a1.Dims,ow kT3 3 (.slice A3 N3 D3) a1.Data] (fun (h:Unit)=>((iv r.1),[ow kT3 3 (.slice A2 N2 D2) r.2.1,ow kT3 3 (.slice A3 N3 D3) r.2.2])):=by
 unfold Z2z at a
 refine aR Tryz.func19 R 14 R R fun C V=>?_
 refine cN (_::_::V) ?_
 refine cL 0 aB ?_
 rintro rfl
 refine cL 1 aB ?_
 rintro rfl
 refine aI (aD (eA R (fun l=>(lI R (aC (qM (ow _ _ _ _::ow _ _ _ _::aJ _ _ _::V) (fun w s=>(s.e 3 [1,2,0])) ?_))))))
 let b:List HP:=aJ l [(sc A2 a1.Dims D2),(sc A3 a1.Data D3)] 42::V
 refine qN (_::_::b) ?_
 refine aE (aI ?_)
 obtain ⟨m,g,a⟩:=bd a
 refine aD (lO (dS 0 fT R) (lO (dV 2 cB R R R) (lI R (lC 1 pK R (Zp_ok g) R ?_))))
 rintro _
 refine lN (ow kT3 3 (.slice A2 a1.Dims.length D2) m.2::_::b) ?_
 refine lI R (aC (aE (aI ?_)))
 obtain ⟨q,i,a⟩:=bd a
 refine aD (lO (dS 1 ka R) (lO (dV 2 cB R R R) (lI R (lM (ow _ _ _ _::ow _ _ _ _::b) (fun w s=>(s.e 2 [1,0])) ?_))))
 refine lC 1 pK R (Zp_ok i) R ?_
 rintro _
 refine lN (ow kT3 3 (.slice A3 a1.Data.length D3) q.2::_::b) ?_
 refine lI R (aC (aE (aI (aD (lI R (lI R (aC (aE (bO ?_)))))))))
 obtain rfl:=so a
 exact qF () (fun w s=>(s.e 3 [1,0]))
theorem Z01_ok  {a1:(List Int)}{k3:Int}{r:Int}(b:Z01 a1 k3=some r) :
 FnOk Tryz.prog 47 [(.slice A2 N2 D2),(iv k3)] [aQ kT3 (.slice A2 N2 D2) a1] (fun (h:Unit)=>((iv r),[])):=by
 unfold Z01 at b
 refine aR Tryz.func47 R 21 R R fun C V=>?_
 refine cL 0 aA ?_
 rintro rfl
 let j:=RR kT3 A2 D2 a1::V
 refine cN j ?_
 refine cE ?_
 refine bE (A:=(Int)×(Unit)) (fun a=>Z01_J1 a.1=some r) (fun a=>[(1,(iv a.1))]) (fun a=>j) ?_ ?_
 refine cE ?_
 obtain ⟨F,l,i⟩:=bd b
 refine bF (A:=Unit) l (fun s a=>[(0,(sc A2 a1 D2)),(1,(iv s.1)),(5,(iv s.2))]) (fun s a=>j) () (aS R) tI ?_
 rintro ⟨E,B⟩ _ σ1 m b e
 dsimp only [Z01_L1] at b
 refine dC ?_
 split at b
 refine dO ?_
 obtain ⟨g,b⟩:=gd b
 refine aU ?_
 refine bG 0 aA (show 0<a1.length by have:=g; omega) (fun q o14 u=>?_)
 subst u
 refine cE ?_
 split at b
 refine dA ?_
 cases b
 obtain rfl:=e _ R
 have b:=i
 refine aU ?_
 cases b
 exact qF () (tE 1 [])
 refine oI ?_
 cases b
 exact qA () tI
 refine aU ?_
 cases b
 obtain rfl:=e _ R
 have b:=i
 refine aZ ?_
 exact qI (E,()) b tI
 rintro ⟨D,_⟩ σ1 b
 dsimp only [Z01_J1] at b
 refine dO ?_
 cases b
 exact qF () (tE 1 [])
theorem Z0m_ok  {a1:(List Node)}{k3:Int}{r:Int}(b:Z0m a1 k3=some r) :
 FnOk Tryz.prog 46 [(.slice A2 N2 D2),(iv k3)] [aQ kT65 (.slice A2 N2 D2) a1] (fun (h:Unit)=>((iv r),[])):=by
 unfold Z0m at b
 refine aR Tryz.func46 R 68 R R fun C V=>?_
 refine cN (_::V) ?_
 refine cL 0 aA ?_
 rintro rfl
 let q:List HP:=RR kT65 A2 D2 a1::V
 refine cN q ?_
 refine aI (aD (lI R (aC (aE (aI (bE (A:=(Int)×(Unit)) (fun a=>Z0m_J1 a.1=some r) (fun a=>[(1,(iv a.1))]) (fun a=>q) ?_ ?_))))))
 refine aI (aD (lI R (aC (aE (dK ?_)))))
 obtain ⟨e1,a8,m⟩:=bd b
 refine bF (A:=Unit) a8 (fun s a=>[(0,(sc A2 a1 D2)),(1,(iv s.1)),(5,(iv s.2))]) (fun s a=>q) () (aS R) (fun w s=>s) ?_
 rintro ⟨a6,g⟩ _ σ1 a7 b l
 replace b:Z0m_L1 a1 a6 g=some a7:=b
 unfold Z0m_L1 at b
 refine aI (aI (aD (lI R (lS R (lO (gV fX R) (lO (jh R R) (aC (aE ?_))))))))
 rcases cG b with ⟨u,b⟩|⟨u,b⟩
 refine bS R u (bZ (aE (aI (dK (aI (aI ?_))))))
 obtain ⟨i,b⟩:=gd b
 refine aD (lS R (lI R (bG 0 aA (show 0<a1.length by have:=i; omega) (fun j o33 ha=>?_))))
 subst ha
 refine lO (eE fX eY R R i) (lO (vz (.pointer (some ⟨j,o33+g.toNat*6,none⟩)) (gN fS R R)) (lO (vz (iv (ix a1 g).Op) (gW (K:=kT65) (fo:=0) (pr:=fun x=>(iv x.Op)) 0 g fR (dT65.leaf fun _ _=>R) aA R i.1 i.2)) (lI R (lO (sI R R) (aC (aE ?_))))))
 rcases cG b with ⟨B,b⟩|⟨B,b⟩
 refine bS R B (aI (aD (lI R (aC (aE (bO (bP (cF (bP ?_)))))))))
 obtain rfl:=so b
 obtain rfl:=l _ R
 have b:=m
 refine bP (cF (bP ?_))
 obtain rfl:=so b
 exact qF () (fun w s=>(s.e 1 []))
 refine bC R B (bZ (aE (aI (aD (lI R (lO (kM R R) (lI R (aC (aE (aI ?_))))))))))
 obtain ⟨ab,a0,b⟩:=bd b
 refine aD (lS R (lI R (lO (eE fX eY R R i) (lO (vz (.pointer (some ⟨j,o33+g.toNat*6+1,none⟩)) (gN mK R R)) (hK (K:=kT65) 0 g dT65.dec R i.1 i.2 ?_)))))
 rintro ⟨-,⟨J,T⟩,⟨L,U⟩,⟨M,Y⟩,-,⟨O,Z⟩⟩
 refine lN (cl j (o33+g.toNat*6) [(iv (ix a1 g).Op),(sc J ((ix a1 g).Args) T),(sc L ((ix a1 g).Dims) U),(sc M ((ix a1 g).Ints) Y),(aH (ix a1 g).Form),(sc O ((ix a1 g).Data) Z)]::RR kT3 J T ((ix a1 g).Args)::RR kT3 L U ((ix a1 g).Dims)::RR kT3 M Y ((ix a1 g).Ints)::RR kT3 O Z ((ix a1 g).Data)::q) ?_
 refine lO (eD (fo:=1) 0 cB R R R) (lI R (lM (_::_::_::_::_::_::q) (fun w s=>(s.d 1 R)) ?_))
 refine lC 1 th R (Z01_ok a0) R ?_
 rintro _
 refine lN (_::_::_::_::_::q) ?_
 refine lI R (aC (aE (aI (aI (aD (lI R (lO (jh R R) (aC (aE ?_)))))))))
 rcases cG b with ⟨D,b⟩|⟨D,b⟩
 refine bS R D (aI (aD (lI R (aC (aE (bO (bP (cF (bP ?_)))))))))
 obtain rfl:=so b
 obtain rfl:=l _ R
 have b:=m
 refine bP (cF (bP ?_))
 obtain rfl:=so b
 exact qF () (fun w s=>(s.e 6 []))
 refine bC R D (bZ (aE (aI ?_)))
 obtain ⟨ac,a2,b⟩:=bd b
 refine aD (lS R (lI R (lO (eE fX eY R R i) (lO (vz (.pointer (some ⟨j,o33+g.toNat*6+2,none⟩)) (gN iG R R)) (lO (eD (fo:=2) 0 cB R R R) (lI R (lM (_::_::_::_::_::_::q) (fun w s=>(s.d 2 R)) ?_)))))))
 refine lC 1 th R (Z01_ok a2) R ?_
 rintro _
 refine lN (_::_::_::_::_::q) ?_
 refine lI R (aC (aE (aI (aI (aD (lI R (lO (jh R R) (aC (aE ?_)))))))))
 rcases cG b with ⟨E,b⟩|⟨E,b⟩
 refine bS R E (aI (aD (lI R (aC (aE (bO (bP (cF (bP ?_)))))))))
 obtain rfl:=so b
 obtain rfl:=l _ R
 have b:=m
 refine bP (cF (bP ?_))
 obtain rfl:=so b
 exact qF () (fun w s=>(s.e 6 []))
 refine bC R E (bZ (aE (aI ?_)))
 obtain ⟨ae,a3,b⟩:=bd b
 refine aD (lS R (lI R (lO (eE fX eY R R i) (lO (vz (.pointer (some ⟨j,o33+g.toNat*6+3,none⟩)) (gN gJ R R)) (lO (eD (fo:=3) 0 cB R R R) (lI R (lM (_::_::_::_::_::_::q) (fun w s=>(s.d 3 R)) ?_)))))))
 refine lC 1 th R (Z01_ok a3) R ?_
 rintro _
 refine lN (_::_::_::_::_::q) ?_
 refine lI R (aC (aE (aI (aI (aD (lI R (lO (jh R R) (aC (aE ?_)))))))))
 rcases cG b with ⟨F,b⟩|⟨F,b⟩
 refine bS R F (aI (aD (lI R (aC (aE (bO (bP (cF (bP ?_)))))))))
 obtain rfl:=so b
 obtain rfl:=l _ R
 have b:=m
 refine bP (cF (bP ?_))
 obtain rfl:=so b
 exact qF () (fun w s=>(s.e 6 []))
 refine bC R F (bZ (aE (aI (aI ?_))))
 obtain ⟨aa,a4,b⟩:=bd b
 refine cX 8 [] bM (fun ht hn=>(dR 0 R (vS R) (dR 1 R (vI R) (dR 2 R (eE fX eY R R i) (dR 3 R (vz (.pointer (some ⟨j,o33+g.toNat*6+4,none⟩)) (gN lx R R)) (dR 4 R (vz (aH (ix a1 g).Form) (gW (K:=kT65) (fo:=4) (pr:=fun x=>(aH x.Form)) 5 g pl (dT65.leaf fun _ _=>R) aA R i.1 i.2)) (dR 5 R (vI R) (d1 6 R (lC 0 Ak R (Z0k_ok a4) R ?_)))))))))
 rintro _
 refine aC (aG (sL []) (dR 7 R (vz (.bool (!((ix a1 g).Form==aa))) (jd R R R)) (dD (aE ?_))))
 rcases cG b with ⟨G,b⟩|⟨G,b⟩
 refine bS R G (aI (aD (lI R (aC (aE (bO (bP (cF (bP ?_)))))))))
 obtain rfl:=so b
 obtain rfl:=l _ R
 have b:=m
 refine bP (cF (bP ?_))
 obtain rfl:=so b
 exact qF () (fun w s=>(s.e 6 []))
 refine bC R G (bZ (aE (aI (aD (lI R (lO (kM R R) (lI R (aC (aE (aI ?_))))))))))
 obtain ⟨ag,a5,b⟩:=bd b
 refine aD (lS R (lI R (lO (eE fX eY R R i) (lO (vz (.pointer (some ⟨j,o33+g.toNat*6+5,none⟩)) (gN kB R R)) (lO (eD (fo:=5) 0 cB R R R) (lI R (lM (_::_::_::_::_::_::q) (fun w s=>(s.d 4 R)) ?_)))))))
 refine lC 1 th R (Z01_ok a5) R ?_
 rintro _
 refine lN (_::_::_::_::_::q) ?_
 refine lI R (aC (aE (aI (aD (lI R (lO (jh R R) (aC (aE ?_))))))))
 rcases cG b with ⟨I,b⟩|⟨I,b⟩
 refine bS R I (aI (aD (lI R (aC (aE (bO (cF (bP ?_))))))))
 obtain rfl:=so b
 obtain rfl:=l _ R
 have b:=m
 refine bP (cF (bP ?_))
 obtain rfl:=so b
 exact qF () (fun w s=>(s.e 6 []))
 refine bC R I (bZ (eC (aE (aD (lI R (lO (kM R R) (lI R (aC ?_))))))))
 obtain rfl:=so b
 exact qA () (fun w s=>(s.e 5 []))
 refine bC R u (iB (eI ?_))
 obtain rfl:=so b
 obtain rfl:=l _ R
 have b:=m
 refine eI (gM ?_)
 exact qI (a6,()) b (fun w s=>s)
 rintro ⟨a9,_⟩ σ1 b
 replace b:Z0m_J1 a9=some r:=b
 unfold Z0m_J1 at b
 refine aI (aD (lI R (lI R (aC (aE (bO ?_))))))
 obtain rfl:=so b
 exact qF () (fun w s=>(s.e 1 []))
theorem Z28_ok  {a1:Graph}{q:Int}{r:Int}(a:Z28 a1 q=some r) :
 FnOk Tryz.prog 20 [(.agg [(.slice A2 N2 D2),(.slice A3 N3 D3)].toArray),(iv q)] [aQ kT65 (.slice A2 N2 D2) a1.Nodes,aQ kT3 (.slice A3 N3 D3) a1.Outs] (fun (h:Unit)=>((iv r),[])):=by
 unfold Z28 at a
 refine aR Tryz.func20 R 18 R R fun C V=>?_
 refine cN (_::_::V) ?_
 refine cL 0 aA ?_
 rintro rfl
 refine cL 1 aA ?_
 rintro rfl
 let m:List HP:=RR kT65 A2 D2 a1.Nodes::RR kT3 A3 D3 a1.Outs::V
 refine cN m ?_
 refine aI (aD (eA R (fun u=>(lI R (aC ?_)))))
 let i:List HP:=aJ u [(sc A2 a1.Nodes D2),(sc A3 a1.Outs D3)] 31::m
 refine qN i ?_
 refine aE (aI ?_)
 obtain ⟨B,l,a⟩:=bd a
 refine aD (lO (dS 0 eF R) (lO (dV 0 iO R R R) (lI R (lM (RR kT65 A2 D2 a1.Nodes::i) (fun w s=>(s.d 1 R)) ?_))))
 refine lC 1 BH R (Z0m_ok l) R ?_
 rintro _
 refine lN i ?_
 refine lI R (aC (aE (aI (aI (aD (lI R (lO (jh R R) (aC (aE ?_)))))))))
 rcases cG a with ⟨g,a⟩|⟨g,a⟩
 refine bS R g (aI (aD (lI R (aC (aE (bO (bP ?_)))))))
 obtain rfl:=so a
 exact qF () (fun w s=>(s.e 3 []))
 refine bC R g (bZ (aE (aI ?_)))
 obtain ⟨D,j,a⟩:=bd a
 refine aD (lO (dS 1 nQ R) (lO (dV 0 cB R R R) (lI R (lM (RR kT3 A3 D3 a1.Outs::i) (fun w s=>(s.d 2 R)) ?_))))
 refine lC 1 th R (Z01_ok j) R ?_
 rintro _
 refine lN i ?_
 refine lI R (aC (aE (aI (aI (aD (lI R (lO (jh R R) (aC (aE ?_)))))))))
 rcases cG a with ⟨b,a⟩|⟨b,a⟩
 refine bS R b (aI (aD (lI R (aC (aE (bO (bP ?_)))))))
 obtain rfl:=so a
 exact qF () (fun w s=>(s.e 3 []))
 refine bC R b (bZ (aE (aI (aD (lI R (lI R (aC (aE (bO ?_)))))))))
 obtain rfl:=so a
 exact qF () (fun w s=>(s.e 3 []))
end Go.Proofs.YthelanpdjajnbaaGreat
