import Derived.Test.YtmpnollfdpdipaaGreatGkF
set_option linter.unusedVariables false
set_option maxRecDepth 20000
namespace Go.Proofs.YtmpnollfdpdipaaGreat
open Go Go.Pg
variable {A2 A3 A4 A5 A6 A7 A8 A9 A10:Option Addr}{D2 D3 D4 D5 D6 D7 D8 D9 D10 N2 N3 N4 N5 N6 N7 N8 N9 N10:Nat}
theorem Z1e_ok  {e:(List Int)}{a:Int}{r:Int}(b:Z1e e a=some r) :
 FnOk Tryz.prog 33 [(.slice A2 N2 D2),(iv a)] [aN kT3 (.slice A2 N2 D2) e] (fun (h:Unit)=>((iv r),[])):=by
 unfold Z1e at b
 refine aQ Tryz.func33 R 12 R R fun C V=>?_
 refine cL 0 aA ?_
 rintro rfl
 let g:=RR kT3 A2 D2 e::V
 refine cN g ?_
 refine rM ?_
 split at b
 refine cU ?_
 cases b
 exact qF () (tE 1 [])
 refine cW ?_
 cases b
 exact qF () (tE 1 [])
theorem Z2i_ok  {b:Node}{e:Int}{r:Int}(a:Z2i b e=some r) :
 FnOk Tryz.prog 50 [(.agg [(iv b.Op),(.slice A2 N2 D2),(.slice A3 N3 D3),(.slice A4 N4 D4),(aD b.Form),(.slice A5 N5 D5)].toArray),(iv e)] [aN kT3 (.slice A2 N2 D2) b.Args,aN kT3 (.slice A3 N3 D3) b.Dims,aN kT3 (.slice A4 N4 D4) b.Ints,aN kT3 (.slice A5 N5 D5) b.Data] (fun (h:Unit)=>((iv r),[])):=by
 unfold Z2i at a
 refine aQ Tryz.func50 R 37 R R fun C V=>?_
 refine cL 0 aA ?_
 rintro rfl
 refine cL 1 aA ?_
 rintro rfl
 refine cL 2 aA ?_
 rintro rfl
 refine cL 3 aA ?_
 rintro rfl
 let q:=RR kT3 A2 D2 b.Args::RR kT3 A3 D3 b.Dims::RR kT3 A4 D4 b.Ints::RR kT3 A5 D5 b.Data::V
 refine cN q ?_
 refine aR ?_
 refine eA R fun u=>?_
 refine aR ?_
 let g:=aI u [(iv b.Op),(sc A2 b.Args D2),(sc A3 b.Dims D3),(sc A4 b.Ints D4),(aD b.Form),(sc A5 b.Data D5)] 70::q
 refine qN g ?_
 refine aR ?_
 obtain ⟨F,m,a⟩:=bd a
 refine bF ?_
 refine lM _ (fun w s=>(s.d 1 R)) ?_
 refine lC 1 rR R (Z1e_ok m) R ?_
 rintro _
 refine lN g ?_
 refine cW ?_
 split at a
 refine cU ?_
 cases a
 exact qF () (tE 5 [])
 refine bF ?_
 obtain ⟨B,i,a⟩:=bd a
 refine bF ?_
 refine lM _ (fun w s=>(s.d 2 R)) ?_
 refine lC 1 rR R (Z1e_ok i) R ?_
 rintro _
 refine lN g ?_
 refine cW ?_
 split at a
 refine cU ?_
 cases a
 exact qF () (tE 5 [])
 refine bF ?_
 obtain ⟨D,j,a⟩:=bd a
 refine bF ?_
 refine lM _ (fun w s=>(s.d 3 R)) ?_
 refine lC 1 rR R (Z1e_ok j) R ?_
 rintro _
 refine lN g ?_
 refine cW ?_
 split at a
 refine cU ?_
 cases a
 exact qF () (tE 5 [])
 refine cU ?_
 refine lO (vz (il b.Form) (dH fL R)) ?_
 refine hW ?_
 split at a
 refine cU ?_
 cases a
 exact qF () (tE 5 [])
 refine bF ?_
 obtain ⟨E,l,a⟩:=bd a
 refine bF ?_
 refine lM _ (fun w s=>(s.d 4 R)) ?_
 refine lC 1 rR R (Z1e_ok l) R ?_
 rintro _
 refine lN g ?_
 refine cW ?_
 split at a
 refine cU ?_
 cases a
 exact qF () (tE 5 [])
 refine cW ?_
 cases a
 exact qF () (tE 5 [])
theorem Z16_ok  {i:(List Node)}{l:Int}{r:Int}(b:Z16 i l=some r) :
 FnOk Tryz.prog 32 [(.slice A2 N2 D2),(iv l)] [aN jD (.slice A2 N2 D2) i] (fun (h:Unit)=>((iv r),[])):=by
 unfold Z16 at b
 refine aQ Tryz.func32 R 27 R R fun C V=>?_
 refine cL 0 aA ?_
 rintro rfl
 let T:=RR jD A2 D2 i::V
 refine cN T ?_
 refine rM ?_
 split at b
 refine cU ?_
 cases b
 exact qF () (tE 1 [])
 refine bF ?_
 refine bA (A:=(Int)×(Unit)) (fun a=>Z16_J1 a.1=some r) (fun a=>[(1,(iv a.1))]) (fun a=>T) ?_ ?_
 refine bT ?_
 obtain ⟨e1,U,u⟩:=bd b
 refine bC (A:=Unit) U (fun s a=>[(0,(sc A2 i D2)),(1,(iv s.1)),(5,(iv s.2))]) (fun s a=>T) () (aS R) tI ?_
 rintro ⟨m,g⟩ _ σ1 Y b q
 dsimp only [Z16_L1] at b
 refine cO ?_
 split at b
 refine bT ?_
 obtain ⟨j,b⟩:=gd b
 obtain ⟨a0,B,b⟩:=bd b
 refine aP ?_
 refine bB 0 aA (show 0<i.length by have:=j; omega) (fun Z o21 ha=>?_)
 subst ha
 refine bU ?_
 refine gB (K:=jD) 0 g dT70.dec R j.1 j.2 ?_
 rintro ⟨-,⟨E,J⟩,⟨F,L⟩,⟨G,M⟩,-,⟨I,O⟩⟩
 refine lO (vz (.agg [(iv (ix i g).Op),(sc E ((ix i g).Args) J),(sc F ((ix i g).Dims) L),(sc G ((ix i g).Ints) M),(aD (ix i g).Form),(sc I ((ix i g).Data) O)].toArray) (dY (fo:=0) 0 w0 v' R R R R)) (lI R (lM _ (fun w s=>(((((s.d 1 R).d 3 R).d 5 R).d 7 R).e 9 [3,2,1,0,4,5,6,7,8])) ?_))
 refine lC 4 Am R (Z2i_ok B) R ?_
 rintro _
 refine cO ?_
 split at b
 refine cO ?_
 cases b
 obtain rfl:=q _ R
 have b:=u
 refine aP ?_
 cases b
 exact qF () (tE 6 [])
 refine cO ?_
 cases b
 exact qA () (tE 5 [])
 refine aP ?_
 cases b
 obtain rfl:=q _ R
 have b:=u
 refine aR ?_
 exact qI (m,()) b tI
 rintro ⟨D,_⟩ σ1 b
 dsimp only [Z16_J1] at b
 refine dJ ?_
 cases b
 exact qF () (tE 1 [])
theorem Z2v_ok  {e:Graph}{a:Int}{r:Int}(b:Z2v e a=some r) :
 FnOk Tryz.prog 9 [(.agg [(.slice A2 N2 D2),(.slice A3 N3 D3)].toArray),(iv a)] [aN jD (.slice A2 N2 D2) e.Nodes,aN kT3 (.slice A3 N3 D3) e.Outs] (fun (h:Unit)=>((iv r),[])):=by
 unfold Z2v at b
 refine aQ Tryz.func9 R 18 R R fun C V=>?_
 refine cL 0 aA ?_
 rintro rfl
 refine cL 1 aA ?_
 rintro rfl
 let l:=RR jD A2 D2 e.Nodes::RR kT3 A3 D3 e.Outs::V
 refine cN l ?_
 refine aR ?_
 refine eA R fun m=>?_
 refine aR ?_
 let i:=aI m [(sc A2 e.Nodes D2),(sc A3 e.Outs D3)] 25::l
 refine qN i ?_
 refine aR ?_
 obtain ⟨q,j,b⟩:=bd b
 refine bF ?_
 refine lM _ (fun w s=>(s.d 1 R)) ?_
 refine lC 1 An R (Z16_ok j) R ?_
 rintro _
 refine lN i ?_
 refine cW ?_
 split at b
 refine cU ?_
 cases b
 exact qF () (tE 3 [])
 refine bF ?_
 obtain ⟨u,g,b⟩:=bd b
 refine bF ?_
 refine lM _ (fun w s=>(s.d 2 R)) ?_
 refine lC 1 rR R (Z1e_ok g) R ?_
 rintro _
 refine lN i ?_
 refine cW ?_
 split at b
 refine cU ?_
 cases b
 exact qF () (tE 3 [])
 refine cW ?_
 cases b
 exact qF () (tE 3 [])
theorem Ze_ok  {e:(List Int)}{r:(List Int)}(b:Ze e=some r) :
 FnOk Tryz.prog 28 [(.slice A2 N2 D2)] [aN kT3 (.slice A2 N2 D2) e] (fun (h:HH)=>((s3 h),[ow kT3 3 (s3 h) r])):=by
 unfold Ze at b
 refine aQ Tryz.func28 R 22 R R fun C V=>?_
 refine cL 0 aA ?_
 rintro rfl
 let q:=RR kT3 A2 D2 e::V
 refine cN q ?_
 refine bT ?_
 obtain ⟨i,b⟩:=gd b
 refine aP ?_
 refine fH (K:=kT3) (m:=(e.length:Int)) (z:=(0:Int)) R R bM cC kc (Zr.zk zT3 gR) (by decide) R R i.1 i.2.1 i.2.2 (fun A4 D4=>(lS R (aC (aJ (aO (bA (A:=((List Int))×(Unit)) (fun a=>Ze_J1 a.1=some r) (fun a=>[(3,(sc A4 (List.replicate (e.length:Int).toNat (0:Int)) D4))]) (fun a=>ow kT3 3 (.slice A4 (List.replicate (e.length:Int).toNat (0:Int)).length D4) a.1::q) ?_ ?_))))))
 refine bT ?_
 obtain ⟨O,E,D⟩:=bd b
 refine bC (A:=Unit) E (fun s a=>[(0,(sc A2 e D2)),(3,(sc A4 (List.replicate (e.length:Int).toNat (0:Int)) D4)),(4,(iv s.2))]) (fun s a=>ow kT3 3 (.slice A4 (List.replicate (e.length:Int).toNat (0:Int)).length D4) s.1::q) () (aS R) tI ?_
 rintro ⟨F,j⟩ _ σ1 G b B
 dsimp only [Ze_L1] at b
 refine cO ?_
 split at b
 refine cB ?_
 obtain ⟨l,b⟩:=gd b
 obtain ⟨g,b⟩:=gd b
 refine cB ?_
 refine bB 1 aA (show 0<e.length by have:=l; omega) (fun J o19 u=>?_)
 subst u
 refine aR ?_
 refine bB 0 aB (show 0<(List.replicate (e.length:Int).toNat (0:Int)).length by have:=g; omega) (fun L o22 u=>?_)
 subst u
 refine bU ?_
 refine dZ (K:=kT3) (x':=(ix e j)) 0 j R R cC R R g.1 g.2 ?_ ?_
 exact fun I h s=>(gL).put I h () (ix e j) s
 refine cU ?_
 cases b
 exact qA () tI
 refine aP ?_
 cases b
 obtain rfl:=B _ R
 have b:=D
 refine aR ?_
 exact qI (F,()) b tI
 rintro ⟨M,_⟩ σ1 b
 dsimp only [Ze_J1] at b
 refine dJ ?_
 cases b
 exact qF (A4,(List.replicate (e.length:Int).toNat (0:Int)).length,D4) (tE 2 [0])
theorem Z2w_ok  {a:Node}{r:Node}(j:Z2w a=some r) :
 FnOk Tryz.prog 58 [(.agg [(iv a.Op),(.slice A2 N2 D2),(.slice A3 N3 D3),(.slice A4 N4 D4),(aD a.Form),(.slice A5 N5 D5)].toArray)] [aN kT3 (.slice A2 N2 D2) a.Args,aN kT3 (.slice A3 N3 D3) a.Dims,aN kT3 (.slice A4 N4 D4) a.Ints,aN kT3 (.slice A5 N5 D5) a.Data] (fun (h:HH×HH×HH×HH)=>((.agg [(iv r.Op),(s3 h.1),(s3 h.2.1),(s3 h.2.2.1),(aD r.Form),(s3 h.2.2.2)].toArray),[ow kT3 3 (s3 h.1) r.Args,ow kT3 3 (s3 h.2.1) r.Dims,ow kT3 3 (s3 h.2.2.1) r.Ints,ow kT3 3 (s3 h.2.2.2) r.Data])):=by
 unfold Z2w at j
 refine aQ Tryz.func58 R 27 R R fun C V=>?_
 refine cL 0 aA ?_
 rintro rfl
 refine cL 1 aA ?_
 rintro rfl
 refine cL 2 aA ?_
 rintro rfl
 refine cL 3 aA ?_
 rintro rfl
 let J:=RR kT3 A2 D2 a.Args::RR kT3 A3 D3 a.Dims::RR kT3 A4 D4 a.Ints::RR kT3 A5 D5 a.Data::V
 refine cN J ?_
 refine aR ?_
 refine eA R fun O=>?_
 refine bD R R qp (fun T=>(aC ?_))
 let q:=aI O [(iv a.Op),(sc A2 a.Args D2),(sc A3 a.Dims D3),(sc A4 a.Ints D4),(aD a.Form),(sc A5 a.Data D5)] 70::J
 refine aP ?_
 refine bD R R qp (fun D=>(aC (aJ (aO (aH (lO (fV 0 rS R) (lO (gH 2 fM R R R) (lO (fV 0 jE R) (cP 0 R R cC R R R R R (lN (aI D [(iv a.Op),(.slice none 0 0),(.slice none 0 0),(.slice none 0 0),(aD ([]:aM)),(.slice none 0 0)] 54::_::q) ?_))))))))))
 refine aP ?_
 obtain ⟨B,E,j⟩:=bd j
 refine aP ?_
 refine lM _ (fun w s=>(s.d 3 R)) ?_
 refine lC 1 n' R (Ze_ok E) R ?_
 rintro ⟨A11,N11,D11⟩
 refine aL 0 aB ?_
 rintro rfl
 refine bU ?_
 refine cP 1 R R fR R R R R R (lN (_::aI D [(iv a.Op),(sc A11 B D11),(.slice none 0 0),(.slice none 0 0),(aD ([]:aM)),(.slice none 0 0)] 54::_::q) ?_)
 refine aP ?_
 obtain ⟨b,F,j⟩:=bd j
 refine aP ?_
 refine lM _ (fun w s=>(s.d 5 R)) ?_
 refine lC 1 n' R (Ze_ok F) R ?_
 rintro ⟨A14,N14,D14⟩
 refine aL 0 aB ?_
 rintro rfl
 refine bU ?_
 refine cP 2 R R fR R R R R R (lN (_::_::aI D [(iv a.Op),(sc A11 B D11),(sc A14 b D14),(.slice none 0 0),(aD ([]:aM)),(.slice none 0 0)] 54::_::q) ?_)
 refine aP ?_
 obtain ⟨i,G,j⟩:=bd j
 refine aP ?_
 refine lM _ (fun w s=>(s.d 7 R)) ?_
 refine lC 1 n' R (Ze_ok G) R ?_
 rintro ⟨e,L,g⟩
 refine aL 0 aB ?_
 rintro rfl
 refine bU ?_
 refine cP 3 R R fR R R R R R (lN (_::_::_::aI D [(iv a.Op),(sc A11 B D11),(sc A14 b D14),(sc e i g),(aD ([]:aM)),(.slice none 0 0)] 54::_::q) ?_)
 refine dJ ?_
 refine cP 3 R R qY R R R R R (lN (_::_::_::aI D [(iv a.Op),(sc A11 B D11),(sc A14 b D14),(sc e i g),(aD a.Form),(.slice none 0 0)] 54::_::q) ?_)
 refine aP ?_
 obtain ⟨u,I,j⟩:=bd j
 refine aP ?_
 refine lM _ (fun w s=>(s.d 9 R)) ?_
 refine lC 1 n' R (Ze_ok I) R ?_
 rintro ⟨l,M,m⟩
 refine aL 0 aB ?_
 rintro rfl
 refine bU ?_
 refine cP 4 R R fR R R R R R (lN (_::_::_::_::aI D [(iv a.Op),(sc A11 B D11),(sc A14 b D14),(sc e i g),(aD a.Form),(sc l u m)] 54::_::q) ?_)
 refine cB ?_
 refine aK 5 R R jV R R R R R R (lN (_::_::_::_::_::aI T [(iv a.Op),(sc A11 B D11),(sc A14 b D14),(sc e i g),(aD a.Form),(sc l u m)] 54::q) ?_)
 refine aP ?_
 cases j
 exact qS ((A11,B.length,D11),(A14,b.length,D14),(e,i.length,g),(l,u.length,m)) (tE 11 [3,2,1,0])
theorem Z0m_ok  {g:(List Node)}{r:(List Node)}(b:Z0m g=some r) :
 FnOk Tryz.prog 35 [(.slice A2 N2 D2)] [aN jD (.slice A2 N2 D2) g] (fun (h:HH)=>((s3 h),[ow dU 54 (s3 h) r])):=by
 unfold Z0m at b
 refine aQ Tryz.func35 R 23 R R fun C V=>?_
 refine cL 0 aA ?_
 rintro rfl
 let W0:=RR jD A2 D2 g::V
 refine cN W0 ?_
 refine bT ?_
 obtain ⟨u,b⟩:=gd b
 refine aP ?_
 refine fH (K:=dU) (m:=(g.length:Int)) (z:=zT54.z) R R tR jV Ao (Zr.zk zT54 qp) (by decide) R R u.1 u.2.1 u.2.2 (fun A4 D4=>(lS R (aC (aJ (aO (bA (A:=((List Node))×(Unit)) (fun a=>Z0m_J1 a.1=some r) (fun a=>[(3,(sc A4 (List.replicate (g.length:Int).toNat zT54.z) D4))]) (fun a=>ow dU 54 (.slice A4 (List.replicate (g.length:Int).toNat zT54.z).length D4) a.1::W0) ?_ ?_))))))
 refine bT ?_
 obtain ⟨e1,a7,a6⟩:=bd b
 refine bC (A:=Unit) a7 (fun s a=>[(0,(sc A2 g D2)),(3,(sc A4 (List.replicate (g.length:Int).toNat zT54.z) D4)),(4,(iv s.2))]) (fun s a=>ow dU 54 (.slice A4 (List.replicate (g.length:Int).toNat zT54.z).length D4) s.1::W0) () (aS R) tI ?_
 rintro ⟨a8,i⟩ _ σ1 a9 b a5
 dsimp only [Z0m_L1] at b
 refine cO ?_
 split at b
 refine cB ?_
 obtain ⟨l,b⟩:=gd b
 obtain ⟨j,B,b⟩:=bd b
 obtain ⟨q,b⟩:=gd b
 refine cB ?_
 refine bB 1 aA (show 0<g.length by have:=l; omega) (fun ag o29 ha=>?_)
 subst ha
 refine bU ?_
 refine gB (K:=jD) 1 i dT70.dec R l.1 l.2 ?_
 rintro ⟨-,⟨D,T⟩,⟨E,U⟩,⟨F,Y⟩,-,⟨G,Z⟩⟩
 refine lO (vz (.agg [(iv (ix g i).Op),(sc D ((ix g i).Args) T),(sc E ((ix g i).Dims) U),(sc F ((ix g i).Ints) Y),(aD (ix g i).Form),(sc G ((ix g i).Data) Z)].toArray) (dY (fo:=0) 0 w0 v' R R R R)) (lM _ (fun w s=>(((((s.d 1 R).d 3 R).d 5 R).d 7 R).e 10 [3,2,1,0,4,5,6,7,8,9])) ?_)
 refine lC 4 Ap R (Z2w_ok B) R ?_
 rintro ⟨⟨J,aa,a0⟩,⟨L,ab,a2⟩,⟨M,ac,a3⟩,⟨O,ae,a4⟩⟩
 refine aL 0 aB ?_
 rintro rfl
 refine aL 1 aB ?_
 rintro rfl
 refine aL 2 aB ?_
 rintro rfl
 refine aL 3 aB ?_
 rintro rfl
 refine bB 9 aB (show 0<(List.replicate (g.length:Int).toNat zT54.z).length by have:=q; omega) (fun ah o42 ha=>?_)
 subst ha
 refine bU ?_
 refine lM _ (fun w s=>(s.f 10 [9,1,0,9])) ?_
 refine dZ (K:=dU) (x':=j) 4 i R R jV R R q.1 q.2 ?_ ?_
 exact fun I h s=>(Ah).put I h ((),(sc J j.Args a0),(sc L j.Dims a2),(sc M j.Ints a3),(),(sc O j.Data a4)) j s
 refine cU ?_
 cases b
 exact qA () (tE 6 [0])
 refine aP ?_
 cases b
 obtain rfl:=a5 _ R
 have b:=a6
 refine aR ?_
 exact qI (a8,()) b tI
 rintro ⟨ai,_⟩ σ1 b
 dsimp only [Z0m_J1] at b
 refine dJ ?_
 cases b
 exact qF (A4,(List.replicate (g.length:Int).toNat zT54.z).length,D4) (tE 2 [0])
theorem Z1r_ok  {a:Graph}{r:Graph}(e:Z1r a=some r) :
 FnOk Tryz.prog 11 [(.agg [(.slice A2 N2 D2),(.slice A3 N3 D3)].toArray)] [aN jD (.slice A2 N2 D2) a.Nodes,aN kT3 (.slice A3 N3 D3) a.Outs] (fun (h:HH×HH)=>((.agg [(s3 h.1),(s3 h.2)].toArray),[ow dU 54 (s3 h.1) r.Nodes,ow kT3 3 (s3 h.2) r.Outs])):=by
 unfold Z1r at e
 refine aQ Tryz.func11 R 13 R R fun C V=>?_
 refine cL 0 aA ?_
 rintro rfl
 refine cL 1 aA ?_
 rintro rfl
 let m:=RR jD A2 D2 a.Nodes::RR kT3 A3 D3 a.Outs::V
 refine cN m ?_
 refine aR ?_
 refine eA R fun u=>?_
 refine bD R R wd (fun B=>(aC ?_))
 let j:=aI u [(sc A2 a.Nodes D2),(sc A3 a.Outs D3)] 25::m
 refine aP ?_
 refine bD R R wd (fun q=>(aC (aJ (aO ?_))))
 obtain ⟨i,l,e⟩:=bd e
 refine aP ?_
 refine lM _ (fun w s=>(s.d 3 R)) ?_
 refine lC 1 Aq R (Z0m_ok l) R ?_
 rintro ⟨A9,N9,D9⟩
 refine aL 0 aB ?_
 rintro rfl
 refine bU ?_
 refine cP 1 R R xY R R R R R (lN (_::aI q [(sc A9 i D9),(.slice none 0 0)] 30::_::j) ?_)
 refine aP ?_
 obtain ⟨b,g,e⟩:=bd e
 refine aP ?_
 refine lM _ (fun w s=>(s.d 5 R)) ?_
 refine lC 1 n' R (Ze_ok g) R ?_
 rintro ⟨A12,N12,D12⟩
 refine aL 0 aB ?_
 rintro rfl
 refine bU ?_
 refine cP 2 R R fR R R R R R (lN (_::_::aI q [(sc A9 i D9),(sc A12 b D12)] 30::_::j) ?_)
 refine cB ?_
 refine aK 3 R R wg R R R R R R (lN (_::_::_::aI B [(sc A9 i D9),(sc A12 b D12)] 30::j) ?_)
 refine aP ?_
 cases e
 exact qS ((A9,i.length,D9),(A12,b.length,D12)) (tE 7 [1,0])
theorem eU  {b e:aM}{mG:Int}{r:Int}(a:cJ b e=some r) :
 FnOk Tryz.prog 162 [(aD b),(aD e)] [gl 0 mG] (fun (_:Unit)=>((iv r),[])):=by
 unfold cJ at a
 obtain ⟨g,a⟩:=gd a
 obtain rfl:=so a
 exact xK fun w h=>Tryz.stringslite_Index ⟨b.toArray⟩ ⟨e.toArray⟩ mG w (by simpa [ByteArray.size] using g) h
theorem Z2a_ok  {p1:aM}{a:aM}{mG:Int}{r:Int}(b:Z2a p1 a=some r) :
 FnOk Tryz.prog 154 [(aD p1),(aD a)] [gl 0 mG] (fun (h:Unit)=>((iv r),[])):=by
 unfold Z2a at b
 refine aQ Tryz.func154 R 8 R R fun C V=>?_
 let g:=gl 0 mG::V
 refine cN g ?_
 refine bT ?_
 obtain ⟨i,e,b⟩:=bd b
 refine aH (lO (vp (aD p1) R) (lO (vp (aD a) R) (lM _ (fun w s=>(s.dg 0 R)) ?_)))
 refine lC 1 v6 R (eU e) R ?_
 rintro _
 refine lN g ?_
 refine bF ?_
 cases b
 exact qF () (tE 1 [])
theorem Z3u_ok  {p1:aM}{a:aM}{mG:Int}{r:Bool}(b:Z3u p1 a=some r) :
 FnOk Tryz.prog 136 [(aD p1),(aD a)] [gl 0 mG] (fun (h:Unit)=>((.bool r),[])):=by
 unfold Z3u at b
 refine aQ Tryz.func136 R 9 R R fun C V=>?_
 let g:=gl 0 mG::V
 refine cN g ?_
 refine bT ?_
 obtain ⟨i,e,b⟩:=bd b
 refine aH (lO (vp (aD p1) R) (lO (vp (aD a) R) (lM _ (fun w s=>(s.dg 0 R)) ?_)))
 refine lC 1 v7 R (Z2a_ok e) R ?_
 rintro _
 refine lN g ?_
 refine cB ?_
 cases b
 exact qF () (tE 1 [])
theorem Z0y_ok  {e:(List Int)}{g:(List Int)}{r:Bool}(b:Z0y e g=some r) :
 FnOk Tryz.prog 199 [(.slice A2 N2 D2),(.slice A4 N4 D4)] [aN kT3 (.slice A2 N2 D2) e,aN kT3 (.slice A4 N4 D4) g] (fun (h:Unit)=>((.bool r),[])):=by
 unfold Z0y at b
 refine aQ Tryz.func199 R 26 R R fun C V=>?_
 refine cL 0 aA ?_
 rintro rfl
 refine cL 1 aA ?_
 rintro rfl
 let q:=RR kT3 A2 D2 e::RR kT3 A4 D4 g::V
 refine cN q ?_
 refine nU ?_
 split at b
 refine cU ?_
 cases b
 exact qF () (tE 2 [])
 refine bF ?_
 refine bA (A:=(Unit)×(Unit)) (fun a=>Z0y_J1=some r) (fun a=>[]) (fun a=>q) ?_ ?_
 refine cU ?_
 obtain ⟨I,B,m⟩:=bd b
 refine bC (A:=Unit) B (fun s a=>[(0,(sc A2 e D2)),(1,(sc A4 g D4)),(12,(il e)),(13,(iv s))]) (fun s a=>q) () (aS R) tI ?_
 rintro G _ σ1 D b i
 dsimp only [Z0y_L1] at b
 refine bT ?_
 split at b
 refine iC ?_
 obtain ⟨j,b⟩:=gd b
 obtain ⟨l,b⟩:=gd b
 refine aY 0 aA (show 0<e.length by have:=j; omega) (fun E o18 u=>?_)
 subst u
 refine aY 1 aA (show 0<g.length by have:=l; omega) (fun F o21 u=>?_)
 subst u
 refine cZ 9 [] bN fun L J=>?_
 refine uO 0 [] ?_
 refine dD (aJ ?_)
 split at b
 refine cO ?_
 cases b
 obtain rfl:=i _ R
 have b:=m
 refine aP ?_
 cases b
 exact qF () (tE 2 [])
 refine cU ?_
 cases b
 exact qA () tI
 refine aP ?_
 cases b
 obtain rfl:=i _ R
 have b:=m
 refine aR ?_
 exact cI ((),()) b trivial tI
 rintro ⟨_,_⟩ σ1 b
 dsimp only [Z0y_J1] at b
 refine bT ?_
 cases b
 exact qF () (tE 2 [])
theorem hX  {p1:aM}{a:aM}{mG:Int}{r:aM×aM×Bool}(b:dT p1 a=some r) :
 FnOk Tryz.prog 212 [(aD p1),(aD a)] [gl 0 mG] (fun (h:Unit)=>((.tuple [(aD r.1),(aD r.2.1),(.bool r.2.2)].toArray),[])):=by
 unfold dT at b
 refine aQ Tryz.func212 R 23 R R fun C V=>?_
 let l:=gl 0 mG::V
 refine cN l ?_
 refine aR ?_
 refine lO (vp (aD ([]:aM)) R) (lO (vp (aD ([]:aM)) R) ?_)
 refine cB ?_
 obtain ⟨i,j,b⟩:=bd b
 refine aH (lO (vp (aD p1) R) (lO (vp (aD a) R) (lM _ (fun w s=>(s.dg 0 R)) ?_)))
 refine lC 1 v6 R (eU j) R ?_
 rintro _
 refine lN l ?_
 refine cO ?_
 split at b
 refine aR ?_
 obtain ⟨e,b⟩:=gd b
 obtain ⟨g,b⟩:=gd b
 refine cZ 12 [] bN fun q m=>?_
 refine dR 0 R (vp (aD p1) R) (dR 1 R (vI R) (dR 2 R (vz (aD (sub p1 (0:Int) i)) (hG (0:Int) i fL R R R e.1 e.2.1 e.2.2)) (dR 3 R (vp (aD p1) R) (dR 4 R (vI R) (dR 5 R (vp (aD a) R) (dR 6 R (vz (il a) (dH fL R)) (dR 7 R (lF R R) (dR 8 R (vz (aD (sub p1 (aG (i+(a.length:Int))) (p1.length:Int))) (hG (aG (i+(a.length:Int))) (p1.length:Int) fL R R R g.1 g.2.1 g.2.2)) (dR 9 R (vp (aD (sub p1 (0:Int) i)) R) (dR 10 R (vp (aD (sub p1 (aG (i+(a.length:Int))) (p1.length:Int))) R) (dR 11 R (vB R) (dD ?_))))))))))))
 refine aP ?_
 cases b
 exact hN () (tE 1 [])
 refine cB ?_
 refine lO (vp (aD p1) R) (lO (vp (aD p1) R) (lO (vp (aD ([]:aM)) R) ?_))
 refine bF ?_
 cases b
 exact hN () (tE 1 [])
theorem Z30_ok  {p1:aM}{a:aM}{mG:Int}{r:aM×aM×Bool}(b:Z30 p1 a=some r) :
 FnOk Tryz.prog 210 [(aD p1),(aD a)] [gl 0 mG] (fun (h:Unit)=>((.tuple [(aD r.1),(aD r.2.1),(.bool r.2.2)].toArray),[])):=by
 unfold Z30 at b
 refine aQ Tryz.func210 R 13 R R fun C V=>?_
 let i:=gl 0 mG::V
 refine cN i ?_
 refine aR ?_
 refine lO (vp (aD ([]:aM)) R) (lO (vp (aD ([]:aM)) R) ?_)
 refine bF ?_
 obtain ⟨e,g,b⟩:=bd b
 refine aH (lO (vp (aD p1) R) (lO (vp (aD a) R) (lM _ (fun w s=>(s.dg 0 R)) ?_)))
 refine lC 1 yB R (hX g) R ?_
 rintro _
 refine lN i ?_
 refine lO (vp (aD e.1) R) (lO (vp (aD e.2.1) R) (lB R (lO (vp (aD e.1) R) (lO (vp (aD e.2.1) R) ?_))))
 refine bF ?_
 cases b
 exact hN () (tE 1 [])
theorem Z3d_ok  {b e:aM}{r:Int}(a:Z3d b e=some r) :
 FnOk Tryz.prog 215 [(aD b),(aD e)] [] (fun (_:Unit)=>((iv r),[])):=by
 unfold Z3d at a
 split at a
 ·rename_i c
  obtain rfl:=so a
  exact pF fun w=>Tryz.strings_Count_one ⟨b.toArray⟩ c w
 ·cases a
theorem Z0j_ok  {p1:aM}{j:aM}{b:Int}{n4:Int}{mG:Int}{r:(List aM)}(g:Z0j p1 j b n4=some r) :
 FnOk Tryz.prog 213 [(aD p1),(aD j),(iv b),(iv n4)] [gl 0 mG] (fun (h:HH)=>((s3 h),[aN dK (s3 h) r])):=by
 unfold Z0j at g
 refine aQ Tryz.func213 R 66 R R fun C V=>?_
 let U:=gl 0 mG::V
 refine cN U ?_
 refine iC ?_
 rcases cR g with ⟨_,g⟩|⟨_,g⟩
 refine cU ?_
 cases g
 exact qF (none,0,0) (fun w s=>((s.nilr dK).e 2 [0]))
 refine bT ?_
 refine lO (vp (aD j) R) (lO (vz (.bool (j==([]:aM))) (j7 R R R)) ?_)
 refine aR ?_
 rcases cR g with ⟨_,g⟩|⟨_,g⟩
 refine bU ?_
 cases g
 refine bF ?_
 refine bA (A:=(Int)×(Unit)) (fun a=>Z0j_J2 p1 j b a.1=some r) (fun a=>[(0,(aD p1)),(1,(aD j)),(2,(iv b)),(3,(iv a.1))]) (fun a=>U) ?_ ?_
 refine bT ?_
 rcases cR g with ⟨_,g⟩|⟨_,g⟩
 refine bU ?_
 obtain ⟨r8,a6,g⟩:=bd g
 refine aH (lO (vp (aD p1) R) (lO (vp (aD j) R) (lC 0 yD R (Z3d_ok a6) R ?_)))
 rintro _
 refine aP ?_
 exact qI ((aG (r8+1)),()) g tI
 refine aR ?_
 exact qI (n4,()) g tI
 rintro ⟨i,_⟩ σ1 g
 dsimp only [Z0j_J2] at g
 refine aP ?_
 refine lO (vp (aD p1) R) (lO (vz (il p1) (dH fL R)) (lO (lF R R) (lO (vz (iv (if (aG ((p1.length:Int)+1))<i then (aG ((p1.length:Int)+1)) else i)) (uM R R)) ?_)))
 refine bF ?_
 obtain ⟨u,g⟩:=gd g
 refine aR ?_
 refine fH (K:=dK) (m:=(if (aG ((p1.length:Int)+1))<i then (aG ((p1.length:Int)+1)) else i)) (z:=([]:aM)) R R lg qY Bw (Zr.zk zT9 yb) (by decide) R R u.1 u.2.1 u.2.2 (fun A12 D12=>(lS R (aC (aJ (aO (aH (lI R (lO (vL R R) (lI R (aC (aJ (aO (aH (lI R (aC (aJ (aO (bA (A:=(aM×(List aM)×Int)×(Unit)) (fun a=>Z0j_J3 p1 i a.1.1 a.1.2.1 a.1.2.2=some r) (fun a=>[(0,(aD a.1.1)),(9,(sc A12 (List.replicate (if (aG ((p1.length:Int)+1))<i then (aG ((p1.length:Int)+1)) else i).toNat ([]:aM)) D12)),(10,(iv a.1.2.2))]) (fun a=>ow dK 9 (.slice A12 (List.replicate (if (aG ((p1.length:Int)+1))<i then (aG ((p1.length:Int)+1)) else i).toNat ([]:aM)).length D12) a.1.2.1::U) ?_ ?_))))))))))))))))))
 refine bU ?_
 obtain ⟨e1,a5,Z⟩:=bd g
 refine bC (A:=Unit) a5 (fun s a=>[(0,(aD s.1)),(1,(aD j)),(2,(iv b)),(3,(iv (aG ((if (aG ((p1.length:Int)+1))<i then (aG ((p1.length:Int)+1)) else i) - 1)))),(9,(sc A12 (List.replicate (if (aG ((p1.length:Int)+1))<i then (aG ((p1.length:Int)+1)) else i).toNat ([]:aM)) D12)),(10,(iv s.2.2))]) (fun s a=>ow dK 9 (.slice A12 (List.replicate (if (aG ((p1.length:Int)+1))<i then (aG ((p1.length:Int)+1)) else i).toNat ([]:aM)).length D12) s.2.1::U) () (aS R) tI ?_
 rintro ⟨l,O,T⟩ _ σ1 a8 g Y
 dsimp only [Z0j_L1] at g
 refine cU ?_
 rcases cR g with ⟨_,g⟩|⟨_,g⟩
 refine cB ?_
 obtain ⟨q,a0,g⟩:=bd g
 refine aH (lO (vp (aD l) R) (lO (vp (aD j) R) (lM (gl 0 mG::ow dK 9 (.slice A12 (List.replicate (if (aG ((p1.length:Int)+1))<i then (aG ((p1.length:Int)+1)) else i).toNat ([]:aM)).length D12) O::U) (fun w s=>(s.dg 1 R)) ?_)))
 refine lC 1 v7 R (Z2a_ok a0) R ?_
 rintro _
 refine cW ?_
 rcases cR g with ⟨_,g⟩|⟨_,g⟩
 refine aP ?_
 refine ri R ?_
 cases g
 obtain rfl:=Y _ R
 have g:=Z
 refine aR ?_
 exact qI ((l,O,T),()) g tI
 refine bF ?_
 obtain ⟨B,g⟩:=gd g
 obtain ⟨D,g⟩:=gd g
 refine aP ?_
 refine lO (vp (aD l) R) ?_
 refine aP ?_
 refine lO (vz (aD (sub l (0:Int) (aG (q+b)))) (hG (0:Int) (aG (q+b)) fL R R R B.1 B.2.1 B.2.2)) (bB 0 aB (show 0<(List.replicate (if (aG ((p1.length:Int)+1))<i then (aG ((p1.length:Int)+1)) else i).toNat ([]:aM)).length by have:=D; omega) (fun a4 o34 ha=>?_))
 subst ha
 refine bU ?_
 refine dZ (K:=dK) (x':=(sub l (0:Int) (aG (q+b)))) 0 T R R qY R R D.1 D.2 ?_ ?_
 exact fun I h s=>(xr).put I h () (sub l (0:Int) (aG (q+b))) s
 refine bU ?_
 obtain ⟨a7,J,g⟩:=bd g
 replace J:=Option.some.inj J
 refine qM (ow dK 9 (.slice (ad a4 o34) (List.replicate (if (aG ((p1.length:Int)+1))<i then (aG ((p1.length:Int)+1)) else i).toNat ([]:aM)).length D12) a7::U) (fun w s=>by rw [← J]; exact s) ?_
 refine aR ?_
 obtain ⟨E,g⟩:=gd g
 refine aH (lO (vp (aD l) R) (lI R (lO (vp (aD j) R) (lO (vz (il j) (dH fL R)) (lO (lF R R) (lO (vz (aD (sub l (aG (q+(j.length:Int))) (l.length:Int))) (hG (aG (q+(j.length:Int))) (l.length:Int) fL R R R E.1 E.2.1 E.2.2)) (lO (vp (aD (sub l (aG (q+(j.length:Int))) (l.length:Int))) R) ?_)))))))
 refine cU ?_
 cases g
 exact qA () tI
 refine aP ?_
 cases g
 obtain rfl:=Y _ R
 have g:=Z
 refine aR ?_
 exact qI ((l,O,T),()) g tI
 rintro ⟨⟨M,a3,L⟩,_⟩ σ1 g
 dsimp only [Z0j_J3] at g
 refine bU ?_
 obtain ⟨F,g⟩:=gd g
 refine aP ?_
 refine lO (vp (aD M) R) (bB 0 aB (show 0<(List.replicate (if (aG ((p1.length:Int)+1))<i then (aG ((p1.length:Int)+1)) else i).toNat ([]:aM)).length by have:=F; omega) (fun a9 o46 ha=>?_))
 subst ha
 refine bU ?_
 refine dZ (K:=dK) (x':=M) 0 L R R qY R R F.1 F.2 ?_ ?_
 exact fun I h s=>(xr).put I h () M s
 refine aP ?_
 obtain ⟨G,g⟩:=gd g
 refine bF ?_
 refine iM (fun w s=>s.shr 0 R) (fY (K:=dK) (0:Int) (aG (L+1)) 0 R R lg qY R R R R G.1 G.2.1 G.2.2 (fun a1 a2=>(lS R (aC (aJ (bY ?_))))))
 cases g
 exact qF (a1,(sub (a3.set L.toNat M) (0:Int) (aG (L+1))).length,a2) (tE 3 [0])
theorem Z31_ok  {p1:aM}{a:aM}{mG:Int}{r:(List aM)}(b:Z31 p1 a=some r) :
 FnOk Tryz.prog 211 [(aD p1),(aD a)] [gl 0 mG] (fun (h:HH)=>((.slice h.1 h.2.1 h.2.2),[aN dK (.slice h.1 h.2.1 h.2.2) r])):=by
 unfold Z31 at b
 refine aQ Tryz.func211 R 8 R R fun C V=>?_
 refine cN (_::V) ?_
 let g:List HP:=gl 0 mG::V
 refine cN g ?_
 refine aO (aH (lS R (aC (aJ (aO ?_)))))
 obtain ⟨j,i,b⟩:=bd b
 refine aH (lO (vp (aD p1) R) (lO (vp (aD a) R) (lM (gl 0 mG::g) (fun w s=>(s.dg 0 R)) ?_)))
 refine lC 1 yE R (Z0j_ok i) R ?_
 rintro ⟨A5,N5,D5⟩
 refine lN (aN dK (.slice A5 N5 D5) j::g) ?_
 refine aL 0 aA ?_
 rintro rfl
 refine lS R (aC (aJ (bY ?_)))
 obtain rfl:=so b
 exact qF (A5,j.length,D5) (fun w s=>(s.e 2 [0]))
theorem gA  {b:aM}{a:Int}{r:Int}(e:dA b a=some r) :
 FnOk Tryz.prog 171 [(aD b),(.int .u8 a)] [] (fun (_:Unit)=>((iv r),[])):=by
 unfold dA at e
 obtain rfl:=so e
 exact pF fun w=>Tryz.stringslite_IndexByte ⟨b.toArray⟩ a w
theorem Z1q_ok  {p1:aM}{e:Int}{r:Int}(a:Z1q p1 e=some r) :
 FnOk Tryz.prog 208 [(aD p1),(.int .u8 e)] [] (fun (h:Unit)=>((iv r),[])):=by
 unfold Z1q at a
 refine aQ Tryz.func208 R 8 R R fun C V=>?_
 refine cN V ?_
 refine bT ?_
 obtain ⟨g,b,a⟩:=bd a
 refine aH (lO (vp (aD p1) R) (lI R (lC 0 yG R (gA b) R ?_)))
 rintro _
 refine bF ?_
 cases a
 exact qF () tI
theorem Zo_ok {g:List Int}{a:Option Addr}{b e:Nat}{r:(List Int)}(m:Zo g=some r) :
  FnOk Tryz.prog 64 [(.slice a b e)] [aN kT3 (.slice a b e) g] (fun (h:(Option Addr×Nat×Nat))=>((s3 h),[ow kT3 3 (s3 h) r])):=by
 unfold Zo at m
 obtain ⟨B,m⟩:=gd m
 obtain rfl:=Option.some.inj m
 refine aQ Tryz.func64 rfl 8 rfl rfl fun C V=>(xF (V':=aN kT3 (.slice a b e) g::V) tI (bJ 0 aA (fun (D:b=g.length)=>?_)))
 subst D
 refine aR ?_
 refine lS rfl ?_
 refine cB ?_
 refine lS rfl (rz (.bool a.isNone) (vF bM rfl rfl) rfl rfl (aC (aJ ?_)))
 rcases Bool.eq_false_or_eq_true a.isNone with l | l
 ·refine cG rfl l ?_
  refine vK 0 aA l (fun (E:g=[])=>?_)
  subst E
  refine aR ?_
  refine lS rfl ?_
  refine bF ?_
  exact dF (vs:=[(.slice none 0 0)]) (.inl rfl) (none,0,0) rfl ⟨rfl,trivial⟩ rfl (fun w s=>((s.nilo kT3 3).sel 2 [0] rfl rfl))
 ·refine bP rfl l (dL (aJ ?_))
  refine aR ?_
  refine bQ (K:=kT3) (xs:=([]:List Int)) (vs:=[]) 0 rfl rfl bM cC gR rfl rfl rfl rfl rfl rfl ?_ rfl (fun q u=>?_)
  ·exact fun I h s=>(gL).list [] I h s
  refine lS rfl (eF (K:=kT3) 17592186044416 rfl rfl bM cC kc (Zr.zk zT3 gR) rfl rfl rfl rfl rfl rfl (rp (Kind.scal_flat _ _)) (by simpa using B) (fun i j=>(lS rfl (aC (aJ (bY ?_))))))
  exact dF (vs:=[(.slice i g.length j)]) (.inl rfl) (i,g.length,j) rfl ⟨rfl,trivial⟩ rfl tI
theorem Z2b_ok  {p1:Int}{r:Bool}(a:Z2b p1=some r) :
 FnOk Tryz.prog 137 [(iv p1)] [] (fun (h:Unit)=>((.bool r),[])):=by
 unfold Z2b at a
 refine aQ Tryz.func137 R 6 R R fun C V=>?_
 refine cN V ?_
 refine nd ?_
 cases a
 exact qF () tI
theorem Z32_ok  {p1:Int}{g:Int}{r:Bool}(e:Z32 p1 g=some r) :
 FnOk Tryz.prog 98 [(iv p1),(iv g)] [] (fun (h:Unit)=>((.bool r),[])):=by
 unfold Z32 at e
 refine aQ Tryz.func98 R 17 R R fun C V=>?_
 refine cN V ?_
 refine bT ?_
 obtain ⟨l,i,e⟩:=bd e
 obtain ⟨m,j,e⟩:=bd e
 refine cQ [(4,(.bool ((l&&(!m))||(decide (p1<g)))))] (V) ?_ ?_
 refine aR ?_
 refine lC 0 vg R (Z2b_ok i) R ?_
 rintro _
 refine bU ?_
 rcases bo l with a | a
 refine bU ?_
 refine bS 0 R (dI a) vg R (Z2b_ok (bG j a)) R ?_
 rintro _
 refine bU ?_
 refine lO (iy R a R) (lB R ?_)
 rcases bo (l&&(!m)) with b | b
 refine aP ?_
 refine lO (eW (decide (p1<g)) R b) ?_
 refine aR ?_
 exact qj tI
 refine aP ?_
 refine lO (fK R b R) ?_
 refine aR ?_
 exact qj tI
 refine aP ?_
 refine lO (jP (!m) R a) ?_
 refine bF ?_
 refine lO (fK R (aF a) R) ?_
 refine aR ?_
 exact qj tI
 rintro σ1
 refine aR ?_
 cases e
 exact qF () tI
theorem Z23_ok  {p1:Int}{r:Bool}(a:Z23 p1=some r) :
 FnOk Tryz.prog 99 [(iv p1)] [] (fun (h:Unit)=>((.bool r),[])):=by
 unfold Z23 at a
 refine aQ Tryz.func99 R 6 R R fun C V=>?_
 refine cN V ?_
 refine nd ?_
 cases a
 exact qF () tI
theorem Z0k_ok  {p1:(List Int)}{e:Int}{r:Int×Bool}(i:Z0k p1 e=some r) :
 FnOk Tryz.prog 72 [(.slice A2 N2 D2),(iv e)] [aN kT3 (.slice A2 N2 D2) p1] (fun (h:Unit)=>((.tuple [(iv r.1),(.bool r.2)].toArray),[])):=by
 unfold Z0k at i
 refine aQ Tryz.func72 R 54 R R fun C V=>?_
 refine cL 0 aA ?_
 rintro rfl
 let L:=RR kT3 A2 D2 p1::V
 refine cN L ?_
 refine rM ?_
 refine bA (A:=(Int)×(Unit)) (fun a=>Z0k_J1 p1 e a.1=some r) (fun a=>[(0,(sc A2 p1 D2)),(1,(iv e)),(6,(il p1)),(7,(iv a.1))]) (fun a=>L) ?_ ?_
 refine bU ?_
 obtain ⟨e1,U,T⟩:=bd i
 refine bC (A:=Unit) U (fun s a=>[(0,(sc A2 p1 D2)),(1,(iv e)),(6,(il p1)),(7,(iv s.1)),(8,(iv s.2))]) (fun s a=>L) () (aS R) tI ?_
 rintro ⟨q,E⟩ _ σ1 Y i O
 dsimp only [Z0k_L1] at i
 refine cU ?_
 split at i
 refine cO ?_
 refine lO (vz (.int .u64 (IntKind.wrap .u64 ((aG (q+E))))) (rv Bx vf R)) (lO (vz (.int .u64 ((IntKind.wrap .u64 ((aG (q+E)))) / 2 ^ (1:Int).toNat)) (xz R R (by decide) (by decide))) (lO (vz (iv (aG (((IntKind.wrap .u64 ((aG (q+E)))) / 2 ^ (1:Int).toNat)))) (rv vf Bx R)) ?_))
 refine bF ?_
 obtain ⟨F,i⟩:=gd i
 obtain ⟨a1,G,i⟩:=bd i
 refine aP ?_
 refine bB 0 aA (show 0<p1.length by have:=F; omega) (fun Z o16 M=>?_)
 subst M
 refine aP ?_
 refine lC 0 AZ R (Z32_ok G) R ?_
 rintro _
 refine aR ?_
 split at i
 refine dJ ?_
 cases i
 exact qA () tI
 refine bT ?_
 cases i
 exact qA () tI
 refine aP ?_
 cases i
 obtain rfl:=O _ R
 have i:=T
 refine aR ?_
 exact qI (q,()) i tI
 rintro ⟨l,_⟩ σ1 i
 dsimp only [Z0k_J1] at i
 refine bU ?_
 obtain ⟨m,i⟩:=gd i
 obtain ⟨D,i⟩:=gd i
 obtain ⟨u,I,i⟩:=bd i
 obtain ⟨B,J,i⟩:=bd i
 refine cQ [(4,(iv l)),(5,(.bool ((decide (l<(p1.length:Int)))&&(((ix p1 l)==e)||(u&&B)))))] (L) ?_ ?_
 refine bT ?_
 rcases bo (decide (l<(p1.length:Int))) with b | b
 refine aR ?_
 refine bB 0 aA (show 0<p1.length by have:=(m b); omega) (fun a0 o25 M=>?_)
 subst M
 refine lW (dI b) (eI bM cC R R (m b)) (lW (dI b) (gI 0 fM aA R (m b)) ?_)
 refine aP ?_
 rcases bo ((ix p1 l)==e) with g | g
 refine cO ?_
 refine lW (dI b) (eW (u&&B) R g) (lO (iy R b R) ?_)
 refine aP ?_
 exact qj tI
 refine aR ?_
 refine lW (bZ g) (eI bM cC R R (D b g)) (lW (bZ g) (gI 0 fM aA R (D b g)) (bS 0 R (bZ g) zj R (Z23_ok (bG I (n9 b (cK g)))) R ?_))
 rintro _
 refine bU ?_
 rcases bo u with j | j
 refine bU ?_
 refine bS 0 R (dI j) zj R (Z23_ok (bG J (n9 b (n9 (cK g) j)))) R ?_
 rintro _
 refine lW (bZ g) (iy R j R) (lW (dI b) (fK R g R) (lO (iy R b R) ?_))
 refine aP ?_
 exact qj tI
 refine aR ?_
 refine lW (bZ g) (jP B R j) (lW (dI b) (fK R g R) (lO (iy R b R) ?_))
 refine aP ?_
 exact qj tI
 refine oM ?_
 refine lO (jP (((ix p1 l)==e)||(u&&B)) R b) ?_
 refine aP ?_
 exact qj tI
 rintro σ1
 refine aR ?_
 cases i
 exact jl () (tE 1 [])
theorem Z07_ok  {e:(List Int)}{g:(List Int)}{r:Bool}(b:Z07 e g=some r) :
 FnOk Tryz.prog 16 [(.slice A2 N2 D2),(.slice A4 N4 D4)] [aN kT3 (.slice A2 N2 D2) e,aN kT3 (.slice A4 N4 D4) g] (fun (h:Unit)=>((.bool r),[])):=by
 unfold Z07 at b
 refine aQ Tryz.func16 R 26 R R fun C V=>?_
 refine cL 0 aA ?_
 rintro rfl
 refine cL 1 aA ?_
 rintro rfl
 let q:=RR kT3 A2 D2 e::RR kT3 A4 D4 g::V
 refine cN q ?_
 refine nU ?_
 split at b
 refine cU ?_
 cases b
 exact qF () (tE 2 [])
 refine bF ?_
 refine bA (A:=(Unit)×(Unit)) (fun a=>Z07_J1=some r) (fun a=>[]) (fun a=>q) ?_ ?_
 refine bT ?_
 obtain ⟨I,B,m⟩:=bd b
 refine bC (A:=Unit) B (fun s a=>[(0,(sc A2 e D2)),(1,(sc A4 g D4)),(5,(iv s))]) (fun s a=>q) () (aS R) tI ?_
 rintro G _ σ1 D b i
 dsimp only [Z07_L1] at b
 refine cO ?_
 split at b
 refine bT ?_
 obtain ⟨j,b⟩:=gd b
 obtain ⟨l,b⟩:=gd b
 refine aY 0 aA (show 0<e.length by have:=j; omega) (fun E o18 u=>?_)
 subst u
 refine aY 1 aA (show 0<g.length by have:=l; omega) (fun F o21 u=>?_)
 subst u
 refine cZ 9 [] bN fun L J=>?_
 refine uO 0 [] ?_
 refine dD (aJ ?_)
 split at b
 refine cO ?_
 cases b
 obtain rfl:=i _ R
 have b:=m
 refine aP ?_
 cases b
 exact qF () (tE 2 [])
 refine cO ?_
 cases b
 exact qA () tI
 refine aP ?_
 cases b
 obtain rfl:=i _ R
 have b:=m
 refine aR ?_
 exact cI ((),()) b trivial tI
 rintro ⟨_,_⟩ σ1 b
 dsimp only [Z07_J1] at b
 refine bT ?_
 cases b
 exact qF () (tE 2 [])
theorem Z2h_ok  {b:Node}{g:Node}{r:Bool}(a:Z2h b g=some r) :
 FnOk Tryz.prog 60 [(.agg [(iv b.Op),(.slice A2 N2 D2),(.slice A3 N3 D3),(.slice A4 N4 D4),(aD b.Form),(.slice A5 N5 D5)].toArray),(.agg [(iv g.Op),(.slice A7 N7 D7),(.slice A8 N8 D8),(.slice A9 N9 D9),(aD g.Form),(.slice A10 N10 D10)].toArray)] [aN kT3 (.slice A2 N2 D2) b.Args,aN kT3 (.slice A3 N3 D3) b.Dims,aN kT3 (.slice A4 N4 D4) b.Ints,aN kT3 (.slice A5 N5 D5) b.Data,aN kT3 (.slice A7 N7 D7) g.Args,aN kT3 (.slice A8 N8 D8) g.Dims,aN kT3 (.slice A9 N9 D9) g.Ints,aN kT3 (.slice A10 N10 D10) g.Data] (fun (h:Unit)=>((.bool r),[])):=by
 unfold Z2h at a
 refine aQ Tryz.func60 R 39 R R fun C V=>?_
 refine cL 0 aA ?_
 rintro rfl
 refine cL 1 aA ?_
 rintro rfl
 refine cL 2 aA ?_
 rintro rfl
 refine cL 3 aA ?_
 rintro rfl
 refine cL 4 aA ?_
 rintro rfl
 refine cL 5 aA ?_
 rintro rfl
 refine cL 6 aA ?_
 rintro rfl
 refine cL 7 aA ?_
 rintro rfl
 let D:=RR kT3 A2 D2 b.Args::RR kT3 A3 D3 b.Dims::RR kT3 A4 D4 b.Ints::RR kT3 A5 D5 b.Data::RR kT3 A7 D7 g.Args::RR kT3 A8 D8 g.Dims::RR kT3 A9 D9 g.Ints::RR kT3 A10 D10 g.Data::V
 refine cN D ?_
 refine aR ?_
 refine eA R fun u=>?_
 refine eA R fun B=>?_
 refine aR ?_
 let i:=aI B [(iv g.Op),(sc A7 g.Args D7),(sc A8 g.Dims D8),(sc A9 g.Ints D9),(aD g.Form),(sc A10 g.Data D10)] 54::aI u [(iv b.Op),(sc A2 b.Args D2),(sc A3 b.Dims D3),(sc A4 b.Ints D4),(aD b.Form),(sc A5 b.Data D5)] 54::D
 refine qN i ?_
 refine hW ?_
 split at a
 refine cU ?_
 cases a
 exact qF () (tE 10 [])
 refine cB ?_
 obtain ⟨E,j,a⟩:=bd a
 refine cB ?_
 refine lM _ (fun w s=>(((s.d 2 R).d 7 R).e 2 [1,0])) ?_
 refine lC 2 qq R (Z07_ok j) R ?_
 rintro _
 refine lN i ?_
 refine aP ?_
 split at a
 refine cU ?_
 cases a
 exact qF () (tE 10 [])
 refine cB ?_
 obtain ⟨F,l,a⟩:=bd a
 refine cB ?_
 refine lM _ (fun w s=>(((s.d 3 R).d 8 R).e 2 [1,0])) ?_
 refine lC 2 qq R (Z07_ok l) R ?_
 rintro _
 refine lN i ?_
 refine aP ?_
 split at a
 refine cU ?_
 cases a
 exact qF () (tE 10 [])
 refine cB ?_
 obtain ⟨G,m,a⟩:=bd a
 refine cB ?_
 refine lM _ (fun w s=>(((s.d 4 R).d 9 R).e 2 [1,0])) ?_
 refine lC 2 qq R (Z07_ok m) R ?_
 rintro _
 refine lN i ?_
 refine aP ?_
 split at a
 refine cU ?_
 cases a
 exact qF () (tE 10 [])
 refine cW ?_
 refine lO (vz (.bool (!(b.Form==g.Form))) (j7 R R R)) ?_
 refine aR ?_
 split at a
 refine cU ?_
 cases a
 exact qF () (tE 10 [])
 refine cB ?_
 obtain ⟨I,q,a⟩:=bd a
 refine cB ?_
 refine lM _ (fun w s=>(((s.d 5 R).d 10 R).e 2 [1,0])) ?_
 refine lC 2 qq R (Z07_ok q) R ?_
 rintro _
 refine lN i ?_
 refine aP ?_
 split at a
 refine cU ?_
 cases a
 exact qF () (tE 10 [])
 refine cO ?_
 cases a
 exact qF () (tE 10 [])
theorem Z1a_ok  {i:(List Node)}{j:(List Node)}{r:Bool}(g:Z1a i j=some r) :
 FnOk Tryz.prog 37 [(.slice A2 N2 D2),(.slice A4 N4 D4)] [aN dU (.slice A2 N2 D2) i,aN dU (.slice A4 N4 D4) j] (fun (h:Unit)=>((.bool r),[])):=by
 unfold Z1a at g
 refine aQ Tryz.func37 R 27 R R fun C V=>?_
 refine cL 0 aA ?_
 rintro rfl
 refine cL 1 aA ?_
 rintro rfl
 let W0:=RR dU A2 D2 i::RR dU A4 D4 j::V
 refine cN W0 ?_
 refine nU ?_
 split at g
 refine cU ?_
 cases g
 exact qF () (tE 2 [])
 refine bF ?_
 refine bA (A:=(Unit)×(Unit)) (fun a=>Z1a_J1=some r) (fun a=>[]) (fun a=>W0) ?_ ?_
 refine bT ?_
 obtain ⟨e1,a4,u⟩:=bd g
 refine bC (A:=Unit) a4 (fun s a=>[(0,(sc A2 i D2)),(1,(sc A4 j D4)),(5,(iv s))]) (fun s a=>W0) () (aS R) tI ?_
 rintro b _ σ1 a5 g q
 dsimp only [Z1a_L1] at g
 refine cO ?_
 split at g
 refine bT ?_
 obtain ⟨l,g⟩:=gd g
 obtain ⟨m,g⟩:=gd g
 obtain ⟨a8,B,g⟩:=bd g
 refine aY 0 aA (show 0<i.length by have:=l; omega) (fun a6 o28 ha=>?_)
 subst ha
 refine dE (K:=dU) 0 b dT54.dec R l.1 l.2 ?_
 rintro ⟨-,⟨D,O⟩,⟨E,T⟩,⟨F,U⟩,-,⟨G,Y⟩⟩
 refine aY 6 aA (show 0<j.length by have:=m; omega) (fun a7 o35 ha=>?_)
 subst ha
 refine dE (K:=dU) 6 b dT54.dec R m.1 m.2 ?_
 rintro ⟨-,⟨I,Z⟩,⟨J,a0⟩,⟨L,a2⟩,-,⟨M,a3⟩⟩
 refine cZ 10 [] bN fun ht hn=>?_
 refine hO 0 [] ?_
 refine dR 3 R (vz (.agg [(iv (ix i b).Op),(sc D ((ix i b).Args) O),(sc E ((ix i b).Dims) T),(sc F ((ix i b).Ints) U),(aD (ix i b).Form),(sc G ((ix i b).Data) Y)].toArray) (dY (fo:=0) 5 o0 jV R R R R)) ?_
 refine hO 4 [] ?_
 refine dR 7 R (vz (.agg [(iv (ix j b).Op),(sc I ((ix j b).Args) Z),(sc J ((ix j b).Dims) a0),(sc L ((ix j b).Ints) a2),(aD (ix j b).Form),(sc M ((ix j b).Data) a3)].toArray) (dY (fo:=0) 0 o0 jV R R R R)) (d1 8 R (lM _ (fun w s=>(((((((((s.d 6 R).d 8 R).d 10 R).d 12 R).d 5 R).d 7 R).d 9 R).d 11 R).e 18 [7,6,5,4,3,2,1,0,8,9,10,11,12,13,14,15,16,17])) ?_))
 refine lC 8 AR R (Z2h_ok B) R ?_
 rintro _
 refine aC (aE (sL []) (dR 9 R (rE R) (dD (aJ ?_))))
 split at g
 refine cO ?_
 cases g
 obtain rfl:=q _ R
 have g:=u
 refine aP ?_
 cases g
 exact qF () (tE 12 [])
 refine cO ?_
 cases g
 exact qA () (tE 10 [])
 refine aP ?_
 cases g
 obtain rfl:=q _ R
 have g:=u
 refine aR ?_
 exact cI ((),()) g trivial tI
 rintro ⟨_,_⟩ σ1 g
 dsimp only [Z1a_J1] at g
 refine bT ?_
 cases g
 exact qF () (tE 2 [])
theorem Z2u_ok  {b:Graph}{g:Graph}{r:Bool}(a:Z2u b g=some r) :
 FnOk Tryz.prog 13 [(.agg [(.slice A2 N2 D2),(.slice A3 N3 D3)].toArray),(.agg [(.slice A5 N5 D5),(.slice A6 N6 D6)].toArray)] [aN dU (.slice A2 N2 D2) b.Nodes,aN kT3 (.slice A3 N3 D3) b.Outs,aN dU (.slice A5 N5 D5) g.Nodes,aN kT3 (.slice A6 N6 D6) g.Outs] (fun (h:Unit)=>((.bool r),[])):=by
 unfold Z2u at a
 refine aQ Tryz.func13 R 17 R R fun C V=>?_
 refine cL 0 aA ?_
 rintro rfl
 refine cL 1 aA ?_
 rintro rfl
 refine cL 2 aA ?_
 rintro rfl
 refine cL 3 aA ?_
 rintro rfl
 let m:=RR dU A2 D2 b.Nodes::RR kT3 A3 D3 b.Outs::RR dU A5 D5 g.Nodes::RR kT3 A6 D6 g.Outs::V
 refine cN m ?_
 refine aR ?_
 refine eA R fun q=>?_
 refine eA R fun u=>?_
 refine aR ?_
 let l:=aI u [(sc A5 g.Nodes D5),(sc A6 g.Outs D6)] 30::aI q [(sc A2 b.Nodes D2),(sc A3 b.Outs D3)] 30::m
 refine qN l ?_
 refine aP ?_
 obtain ⟨D,i,a⟩:=bd a
 refine cB ?_
 refine lM _ (fun w s=>(((s.d 2 R).d 5 R).e 2 [1,0])) ?_
 refine lC 2 AS R (Z1a_ok i) R ?_
 rintro _
 refine lN l ?_
 refine aP ?_
 split at a
 refine cU ?_
 cases a
 exact qF () (tE 6 [])
 refine cB ?_
 obtain ⟨B,j,a⟩:=bd a
 refine cB ?_
 refine lM _ (fun w s=>(((s.d 3 R).d 6 R).e 2 [1,0])) ?_
 refine lC 2 qq R (Z07_ok j) R ?_
 rintro _
 refine lN l ?_
 refine aP ?_
 split at a
 refine cU ?_
 cases a
 exact qF () (tE 6 [])
 refine cO ?_
 cases a
 exact qF () (tE 6 [])
end Go.Proofs.YtmpnollfdpdipaaGreat
