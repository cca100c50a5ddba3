import Derived.Test.YtmpnollfdpdipaaGreatDoorCoF
set_option linter.unusedVariables false
set_option maxRecDepth 20000
namespace Go.Proofs.YtmpnollfdpdipaaGreatDoor
open Go Go.Pg
variable {A2 A3 A4 A5 A6 A7 A8 A9 A10:Option Addr}{D2 D3 D4 D5 D6 D7 D8 D9 D10 N2 N3 N4 N5 N6 N7 N8 N9 N10:Nat}
theorem Z1f_ok  {e:(List Int)}{a:Int}{r:Int}(b:Z1f e a=some r) :
 FnOk Tryz.prog 135 [(.slice A2 N2 D2),(iv a)] [aO kT3 (.slice A2 N2 D2) e] (fun (h:Unit)=>((iv r),[])):=by
 unfold Z1f at b
 refine aR Tryz.func135 R 12 R R fun C V=>?_
 refine cL 0 aA ?_
 rintro rfl
 let g:=RR kT3 A2 D2 e::V
 refine cN g ?_
 refine ua ?_
 split at b
 refine dA ?_
 cases b
 exact qF () (tE 1 [])
 refine cU ?_
 cases b
 exact qF () (tE 1 [])
theorem Z2f_ok  {b:Node}{e:Int}{r:Int}(a:Z2f b e=some r) :
 FnOk Tryz.prog 181 [(.agg [(iv b.Op),(.slice A2 N2 D2),(.slice A3 N3 D3),(.slice A4 N4 D4),(aD b.Form),(.slice A5 N5 D5)].toArray),(iv e)] [aO kT3 (.slice A2 N2 D2) b.Args,aO kT3 (.slice A3 N3 D3) b.Dims,aO kT3 (.slice A4 N4 D4) b.Ints,aO kT3 (.slice A5 N5 D5) b.Data] (fun (h:Unit)=>((iv r),[])):=by
 unfold Z2f at a
 refine aR Tryz.func181 R 37 R R fun C V=>?_
 refine cL 0 aA ?_
 rintro rfl
 refine cL 1 aA ?_
 rintro rfl
 refine cL 2 aA ?_
 rintro rfl
 refine cL 3 aA ?_
 rintro rfl
 let q:=RR kT3 A2 D2 b.Args::RR kT3 A3 D3 b.Dims::RR kT3 A4 D4 b.Ints::RR kT3 A5 D5 b.Data::V
 refine cN q ?_
 refine aU ?_
 refine eE R fun u=>?_
 refine aU ?_
 let g:=aJ u [(iv b.Op),(sc A2 b.Args D2),(sc A3 b.Dims D3),(sc A4 b.Ints D4),(aD b.Form),(sc A5 b.Data D5)] 213::q
 refine qN g ?_
 refine aU ?_
 obtain ⟨F,m,a⟩:=bd a
 refine bH ?_
 refine lM _ (fun w s=>(s.d 1 R)) ?_
 refine lC 1 od R (Z1f_ok m) R ?_
 rintro _
 refine lN g ?_
 refine cU ?_
 split at a
 refine dA ?_
 cases a
 exact qF () (tE 5 [])
 refine bH ?_
 obtain ⟨B,i,a⟩:=bd a
 refine bH ?_
 refine lM _ (fun w s=>(s.d 2 R)) ?_
 refine lC 1 od R (Z1f_ok i) R ?_
 rintro _
 refine lN g ?_
 refine cU ?_
 split at a
 refine dA ?_
 cases a
 exact qF () (tE 5 [])
 refine bH ?_
 obtain ⟨D,j,a⟩:=bd a
 refine bH ?_
 refine lM _ (fun w s=>(s.d 3 R)) ?_
 refine lC 1 od R (Z1f_ok j) R ?_
 rintro _
 refine lN g ?_
 refine cU ?_
 split at a
 refine dA ?_
 cases a
 exact qF () (tE 5 [])
 refine dA ?_
 refine lO (vz (il b.Form) (dN fK R)) ?_
 refine iD ?_
 split at a
 refine dA ?_
 cases a
 exact qF () (tE 5 [])
 refine bH ?_
 obtain ⟨E,l,a⟩:=bd a
 refine bH ?_
 refine lM _ (fun w s=>(s.d 4 R)) ?_
 refine lC 1 od R (Z1f_ok l) R ?_
 rintro _
 refine lN g ?_
 refine cU ?_
 split at a
 refine dA ?_
 cases a
 exact qF () (tE 5 [])
 refine cU ?_
 cases a
 exact qF () (tE 5 [])
theorem Z17_ok  {i:(List Node)}{l:Int}{r:Int}(b:Z17 i l=some r) :
 FnOk Tryz.prog 134 [(.slice A2 N2 D2),(iv l)] [aO hO (.slice A2 N2 D2) i] (fun (h:Unit)=>((iv r),[])):=by
 unfold Z17 at b
 refine aR Tryz.func134 R 27 R R fun C V=>?_
 refine cL 0 aA ?_
 rintro rfl
 let T:=RR hO A2 D2 i::V
 refine cN T ?_
 refine ua ?_
 split at b
 refine dA ?_
 cases b
 exact qF () (tE 1 [])
 refine bH ?_
 refine bC (A:=(Int)×(Unit)) (fun a=>Z17_J1 a.1=some r) (fun a=>[(1,(iv a.1))]) (fun a=>T) ?_ ?_
 refine bV ?_
 obtain ⟨e1,U,u⟩:=bd b
 refine bF (A:=Unit) U (fun s a=>[(0,(sc A2 i D2)),(1,(iv s.1)),(5,(iv s.2))]) (fun s a=>T) () (aS R) tI ?_
 rintro ⟨m,g⟩ _ σ1 Y b q
 dsimp only [Z17_L1] at b
 refine cY ?_
 split at b
 refine bV ?_
 obtain ⟨j,b⟩:=gd b
 obtain ⟨a0,B,b⟩:=bd b
 refine aP ?_
 refine bA 0 aA (show 0<i.length by have:=j; omega) (fun Z o21 ha=>?_)
 subst ha
 refine bT ?_
 refine fS (K:=hO) 0 g dT213.dec R j.1 j.2 ?_
 rintro ⟨-,⟨E,J⟩,⟨F,L⟩,⟨G,M⟩,-,⟨I,O⟩⟩
 refine lO (vz (.agg [(iv (ix i g).Op),(sc E ((ix i g).Args) J),(sc F ((ix i g).Dims) L),(sc G ((ix i g).Ints) M),(aD (ix i g).Form),(sc I ((ix i g).Data) O)].toArray) (eF (fo:=0) 0 s8 s7 R R R R)) (lI R (lM _ (fun w s=>(((((s.d 1 R).d 3 R).d 5 R).d 7 R).e 9 [3,2,1,0,4,5,6,7,8])) ?_))
 refine lC 4 yr R (Z2f_ok B) R ?_
 rintro _
 refine cY ?_
 split at b
 refine cY ?_
 cases b
 obtain rfl:=q _ R
 have b:=u
 refine aP ?_
 cases b
 exact qF () (tE 6 [])
 refine cY ?_
 cases b
 exact qA () (tE 5 [])
 refine aP ?_
 cases b
 obtain rfl:=q _ R
 have b:=u
 refine aU ?_
 exact qI (m,()) b tI
 rintro ⟨D,_⟩ σ1 b
 dsimp only [Z17_J1] at b
 refine dO ?_
 cases b
 exact qF () (tE 1 [])
theorem Z2r_ok  {e:Graph}{a:Int}{r:Int}(b:Z2r e a=some r) :
 FnOk Tryz.prog 40 [(.agg [(.slice A2 N2 D2),(.slice A3 N3 D3)].toArray),(iv a)] [aO hO (.slice A2 N2 D2) e.Nodes,aO kT3 (.slice A3 N3 D3) e.Outs] (fun (h:Unit)=>((iv r),[])):=by
 unfold Z2r at b
 refine aR Tryz.func40 R 18 R R fun C V=>?_
 refine cL 0 aA ?_
 rintro rfl
 refine cL 1 aA ?_
 rintro rfl
 let l:=RR hO A2 D2 e.Nodes::RR kT3 A3 D3 e.Outs::V
 refine cN l ?_
 refine aU ?_
 refine eE R fun m=>?_
 refine aU ?_
 let i:=aJ m [(sc A2 e.Nodes D2),(sc A3 e.Outs D3)] 62::l
 refine qN i ?_
 refine aU ?_
 obtain ⟨q,j,b⟩:=bd b
 refine bH ?_
 refine lM _ (fun w s=>(s.d 1 R)) ?_
 refine lC 1 yt R (Z17_ok j) R ?_
 rintro _
 refine lN i ?_
 refine cU ?_
 split at b
 refine dA ?_
 cases b
 exact qF () (tE 3 [])
 refine bH ?_
 obtain ⟨u,g,b⟩:=bd b
 refine bH ?_
 refine lM _ (fun w s=>(s.d 2 R)) ?_
 refine lC 1 od R (Z1f_ok g) R ?_
 rintro _
 refine lN i ?_
 refine cU ?_
 split at b
 refine dA ?_
 cases b
 exact qF () (tE 3 [])
 refine cU ?_
 cases b
 exact qF () (tE 3 [])
theorem Z06_ok  {e:(List Int)}{r:(List Int)}(b:Z06 e=some r) :
 FnOk Tryz.prog 139 [(.slice A2 N2 D2)] [aO kT3 (.slice A2 N2 D2) e] (fun (h:HH)=>((s3 h),[ow kT3 3 (s3 h) r])):=by
 unfold Z06 at b
 refine aR Tryz.func139 R 22 R R fun C V=>?_
 refine cL 0 aA ?_
 rintro rfl
 let q:=RR kT3 A2 D2 e::V
 refine cN q ?_
 refine bV ?_
 obtain ⟨i,b⟩:=gd b
 refine aP ?_
 refine eW (K:=kT3) (m:=(e.length:Int)) (z:=(0:Int)) R R bM cE kr (Zr.zk zT3 gR) (by decide) R R i.1 i.2.1 i.2.2 (fun A4 D4=>(lS R (aC (aI (aM (bC (A:=((List Int))×(Unit)) (fun a=>Z06_J1 a.1=some r) (fun a=>[(3,(sc A4 (List.replicate (e.length:Int).toNat (0:Int)) D4))]) (fun a=>ow kT3 3 (.slice A4 (List.replicate (e.length:Int).toNat (0:Int)).length D4) a.1::q) ?_ ?_))))))
 refine bV ?_
 obtain ⟨O,E,D⟩:=bd b
 refine bF (A:=Unit) E (fun s a=>[(0,(sc A2 e D2)),(3,(sc A4 (List.replicate (e.length:Int).toNat (0:Int)) D4)),(4,(iv s.2))]) (fun s a=>ow kT3 3 (.slice A4 (List.replicate (e.length:Int).toNat (0:Int)).length D4) s.1::q) () (aS R) tI ?_
 rintro ⟨F,j⟩ _ σ1 G b B
 dsimp only [Z06_L1] at b
 refine cY ?_
 split at b
 refine b' ?_
 obtain ⟨l,b⟩:=gd b
 obtain ⟨g,b⟩:=gd b
 refine b' ?_
 refine bA 1 aA (show 0<e.length by have:=l; omega) (fun J o19 u=>?_)
 subst u
 refine aU ?_
 refine bA 0 aB (show 0<(List.replicate (e.length:Int).toNat (0:Int)).length by have:=g; omega) (fun L o22 u=>?_)
 subst u
 refine bT ?_
 refine dX (K:=kT3) (x':=(ix e j)) 0 j R R cE R R g.1 g.2 ?_ ?_
 exact fun I h s=>(gO).put I h () (ix e j) s
 refine dA ?_
 cases b
 exact qA () tI
 refine aP ?_
 cases b
 obtain rfl:=B _ R
 have b:=D
 refine aU ?_
 exact qI (F,()) b tI
 rintro ⟨M,_⟩ σ1 b
 dsimp only [Z06_J1] at b
 refine dO ?_
 cases b
 exact qF (A4,(List.replicate (e.length:Int).toNat (0:Int)).length,D4) (tE 2 [0])
theorem Z2s_ok  {a:Node}{r:Node}(j:Z2s a=some r) :
 FnOk Tryz.prog 185 [(.agg [(iv a.Op),(.slice A2 N2 D2),(.slice A3 N3 D3),(.slice A4 N4 D4),(aD a.Form),(.slice A5 N5 D5)].toArray)] [aO kT3 (.slice A2 N2 D2) a.Args,aO kT3 (.slice A3 N3 D3) a.Dims,aO kT3 (.slice A4 N4 D4) a.Ints,aO kT3 (.slice A5 N5 D5) a.Data] (fun (h:HH×HH×HH×HH)=>((.agg [(iv r.Op),(s3 h.1),(s3 h.2.1),(s3 h.2.2.1),(aD r.Form),(s3 h.2.2.2)].toArray),[ow kT3 3 (s3 h.1) r.Args,ow kT3 3 (s3 h.2.1) r.Dims,ow kT3 3 (s3 h.2.2.1) r.Ints,ow kT3 3 (s3 h.2.2.2) r.Data])):=by
 unfold Z2s at j
 refine aR Tryz.func185 R 27 R R fun C V=>?_
 refine cL 0 aA ?_
 rintro rfl
 refine cL 1 aA ?_
 rintro rfl
 refine cL 2 aA ?_
 rintro rfl
 refine cL 3 aA ?_
 rintro rfl
 let J:=RR kT3 A2 D2 a.Args::RR kT3 A3 D3 a.Dims::RR kT3 A4 D4 a.Ints::RR kT3 A5 D5 a.Data::V
 refine cN J ?_
 refine aU ?_
 refine eE R fun O=>?_
 refine bD R R mw (fun T=>(aC ?_))
 let q:=aJ O [(iv a.Op),(sc A2 a.Args D2),(sc A3 a.Dims D3),(sc A4 a.Ints D4),(aD a.Form),(sc A5 a.Data D5)] 213::J
 refine aP ?_
 refine bD R R mw (fun D=>(aC (aI (aM (aE (lO (fT 0 pT R) (lO (gD 2 fO R R R) (lO (fT 0 iU R) (cP 0 R R cE R R R R R (lN (aJ D [(iv a.Op),(.slice none 0 0),(.slice none 0 0),(.slice none 0 0),(aD ([]:aN)),(.slice none 0 0)] 171::_::q) ?_))))))))))
 refine aP ?_
 obtain ⟨B,E,j⟩:=bd j
 refine aP ?_
 refine lM _ (fun w s=>(s.d 3 R)) ?_
 refine lC 1 oe R (Z06_ok E) R ?_
 rintro ⟨A11,N11,D11⟩
 refine aL 0 aB ?_
 rintro rfl
 refine bT ?_
 refine cP 1 R R eR R R R R R (lN (_::aJ D [(iv a.Op),(sc A11 B D11),(.slice none 0 0),(.slice none 0 0),(aD ([]:aN)),(.slice none 0 0)] 171::_::q) ?_)
 refine aP ?_
 obtain ⟨b,F,j⟩:=bd j
 refine aP ?_
 refine lM _ (fun w s=>(s.d 5 R)) ?_
 refine lC 1 oe R (Z06_ok F) R ?_
 rintro ⟨A14,N14,D14⟩
 refine aL 0 aB ?_
 rintro rfl
 refine bT ?_
 refine cP 2 R R eR R R R R R (lN (_::_::aJ D [(iv a.Op),(sc A11 B D11),(sc A14 b D14),(.slice none 0 0),(aD ([]:aN)),(.slice none 0 0)] 171::_::q) ?_)
 refine aP ?_
 obtain ⟨i,G,j⟩:=bd j
 refine aP ?_
 refine lM _ (fun w s=>(s.d 7 R)) ?_
 refine lC 1 oe R (Z06_ok G) R ?_
 rintro ⟨e,L,g⟩
 refine aL 0 aB ?_
 rintro rfl
 refine bT ?_
 refine cP 3 R R eR R R R R R (lN (_::_::_::aJ D [(iv a.Op),(sc A11 B D11),(sc A14 b D14),(sc e i g),(aD ([]:aN)),(.slice none 0 0)] 171::_::q) ?_)
 refine dO ?_
 refine cP 3 R R rr R R R R R (lN (_::_::_::aJ D [(iv a.Op),(sc A11 B D11),(sc A14 b D14),(sc e i g),(aD a.Form),(.slice none 0 0)] 171::_::q) ?_)
 refine aP ?_
 obtain ⟨u,I,j⟩:=bd j
 refine aP ?_
 refine lM _ (fun w s=>(s.d 9 R)) ?_
 refine lC 1 oe R (Z06_ok I) R ?_
 rintro ⟨l,M,m⟩
 refine aL 0 aB ?_
 rintro rfl
 refine bT ?_
 refine cP 4 R R eR R R R R R (lN (_::_::_::_::aJ D [(iv a.Op),(sc A11 B D11),(sc A14 b D14),(sc e i g),(aD a.Form),(sc l u m)] 171::_::q) ?_)
 refine b' ?_
 refine aK 5 R R iz R R R R R R (lN (_::_::_::_::_::aJ T [(iv a.Op),(sc A11 B D11),(sc A14 b D14),(sc e i g),(aD a.Form),(sc l u m)] 171::q) ?_)
 refine aP ?_
 cases j
 exact qS ((A11,B.length,D11),(A14,b.length,D14),(e,i.length,g),(l,u.length,m)) (tE 11 [3,2,1,0])
theorem Z0o_ok  {g:(List Node)}{r:(List Node)}(b:Z0o g=some r) :
 FnOk Tryz.prog 138 [(.slice A2 N2 D2)] [aO hO (.slice A2 N2 D2) g] (fun (h:HH)=>((s3 h),[ow cB 171 (s3 h) r])):=by
 unfold Z0o at b
 refine aR Tryz.func138 R 23 R R fun C V=>?_
 refine cL 0 aA ?_
 rintro rfl
 let W0:=RR hO A2 D2 g::V
 refine cN W0 ?_
 refine bV ?_
 obtain ⟨u,b⟩:=gd b
 refine aP ?_
 refine eW (K:=cB) (m:=(g.length:Int)) (z:=zT171.z) R R s9 iz yu (Zr.zk zT171 mw) (by decide) R R u.1 u.2.1 u.2.2 (fun A4 D4=>(lS R (aC (aI (aM (bC (A:=((List Node))×(Unit)) (fun a=>Z0o_J1 a.1=some r) (fun a=>[(3,(sc A4 (List.replicate (g.length:Int).toNat zT171.z) D4))]) (fun a=>ow cB 171 (.slice A4 (List.replicate (g.length:Int).toNat zT171.z).length D4) a.1::W0) ?_ ?_))))))
 refine bV ?_
 obtain ⟨e1,a7,a6⟩:=bd b
 refine bF (A:=Unit) a7 (fun s a=>[(0,(sc A2 g D2)),(3,(sc A4 (List.replicate (g.length:Int).toNat zT171.z) D4)),(4,(iv s.2))]) (fun s a=>ow cB 171 (.slice A4 (List.replicate (g.length:Int).toNat zT171.z).length D4) s.1::W0) () (aS R) tI ?_
 rintro ⟨a8,i⟩ _ σ1 a9 b a5
 dsimp only [Z0o_L1] at b
 refine cY ?_
 split at b
 refine b' ?_
 obtain ⟨l,b⟩:=gd b
 obtain ⟨j,B,b⟩:=bd b
 obtain ⟨q,b⟩:=gd b
 refine b' ?_
 refine bA 1 aA (show 0<g.length by have:=l; omega) (fun ag o29 ha=>?_)
 subst ha
 refine bT ?_
 refine fS (K:=hO) 1 i dT213.dec R l.1 l.2 ?_
 rintro ⟨-,⟨D,T⟩,⟨E,U⟩,⟨F,Y⟩,-,⟨G,Z⟩⟩
 refine lO (vz (.agg [(iv (ix g i).Op),(sc D ((ix g i).Args) T),(sc E ((ix g i).Dims) U),(sc F ((ix g i).Ints) Y),(aD (ix g i).Form),(sc G ((ix g i).Data) Z)].toArray) (eF (fo:=0) 0 s8 s7 R R R R)) (lM _ (fun w s=>(((((s.d 1 R).d 3 R).d 5 R).d 7 R).e 10 [3,2,1,0,4,5,6,7,8,9])) ?_)
 refine lC 4 yv R (Z2s_ok B) R ?_
 rintro ⟨⟨J,aa,a0⟩,⟨L,ab,a2⟩,⟨M,ac,a3⟩,⟨O,ae,a4⟩⟩
 refine aL 0 aB ?_
 rintro rfl
 refine aL 1 aB ?_
 rintro rfl
 refine aL 2 aB ?_
 rintro rfl
 refine aL 3 aB ?_
 rintro rfl
 refine bA 9 aB (show 0<(List.replicate (g.length:Int).toNat zT171.z).length by have:=q; omega) (fun ah o42 ha=>?_)
 subst ha
 refine bT ?_
 refine lM _ (fun w s=>(s.f 10 [9,1,0,9])) ?_
 refine dX (K:=cB) (x':=j) 4 i R R iz R R q.1 q.2 ?_ ?_
 exact fun I h s=>(yn).put I h ((),(sc J j.Args a0),(sc L j.Dims a2),(sc M j.Ints a3),(),(sc O j.Data a4)) j s
 refine dA ?_
 cases b
 exact qA () (tE 6 [0])
 refine aP ?_
 cases b
 obtain rfl:=a5 _ R
 have b:=a6
 refine aU ?_
 exact qI (a8,()) b tI
 rintro ⟨ai,_⟩ σ1 b
 dsimp only [Z0o_J1] at b
 refine dO ?_
 cases b
 exact qF (A4,(List.replicate (g.length:Int).toNat zT171.z).length,D4) (tE 2 [0])
theorem Z1s_ok  {a:Graph}{r:Graph}(e:Z1s a=some r) :
 FnOk Tryz.prog 42 [(.agg [(.slice A2 N2 D2),(.slice A3 N3 D3)].toArray)] [aO hO (.slice A2 N2 D2) a.Nodes,aO kT3 (.slice A3 N3 D3) a.Outs] (fun (h:HH×HH)=>((.agg [(s3 h.1),(s3 h.2)].toArray),[ow cB 171 (s3 h.1) r.Nodes,ow kT3 3 (s3 h.2) r.Outs])):=by
 unfold Z1s at e
 refine aR Tryz.func42 R 13 R R fun C V=>?_
 refine cL 0 aA ?_
 rintro rfl
 refine cL 1 aA ?_
 rintro rfl
 let m:=RR hO A2 D2 a.Nodes::RR kT3 A3 D3 a.Outs::V
 refine cN m ?_
 refine aU ?_
 refine eE R fun u=>?_
 refine bD R R wC (fun B=>(aC ?_))
 let j:=aJ u [(sc A2 a.Nodes D2),(sc A3 a.Outs D3)] 62::m
 refine aP ?_
 refine bD R R wC (fun q=>(aC (aI (aM ?_))))
 obtain ⟨i,l,e⟩:=bd e
 refine aP ?_
 refine lM _ (fun w s=>(s.d 3 R)) ?_
 refine lC 1 yx R (Z0o_ok l) R ?_
 rintro ⟨A9,N9,D9⟩
 refine aL 0 aB ?_
 rintro rfl
 refine bT ?_
 refine cP 1 R R yw R R R R R (lN (_::aJ q [(sc A9 i D9),(.slice none 0 0)] 67::_::j) ?_)
 refine aP ?_
 obtain ⟨b,g,e⟩:=bd e
 refine aP ?_
 refine lM _ (fun w s=>(s.d 5 R)) ?_
 refine lC 1 oe R (Z06_ok g) R ?_
 rintro ⟨A12,N12,D12⟩
 refine aL 0 aB ?_
 rintro rfl
 refine bT ?_
 refine cP 2 R R eR R R R R R (lN (_::_::aJ q [(sc A9 i D9),(sc A12 b D12)] 67::_::j) ?_)
 refine b' ?_
 refine aK 3 R R og R R R R R R (lN (_::_::_::aJ B [(sc A9 i D9),(sc A12 b D12)] 67::j) ?_)
 refine aP ?_
 cases e
 exact qS ((A9,i.length,D9),(A12,b.length,D12)) (tE 7 [1,0])
theorem eU  {b e:aN}{mG:Int}{r:Int}(a:cO b e=some r) :
 FnOk Tryz.prog 156 [(aD b),(aD e)] [gl 0 mG] (fun (_:Unit)=>((iv r),[])):=by
 unfold cO at a
 obtain ⟨g,a⟩:=gd a
 obtain rfl:=so a
 exact yd fun w h=>Tryz.stringslite_Index ⟨b.toArray⟩ ⟨e.toArray⟩ mG w (by simpa [ByteArray.size] using g) h
theorem Z29_ok  {p1:aN}{a:aN}{mG:Int}{r:Int}(b:Z29 p1 a=some r) :
 FnOk Tryz.prog 58 [(aD p1),(aD a)] [gl 0 mG] (fun (h:Unit)=>((iv r),[])):=by
 unfold Z29 at b
 refine aR Tryz.func58 R 8 R R fun C V=>?_
 let g:=gl 0 mG::V
 refine cN g ?_
 refine bV ?_
 obtain ⟨i,e,b⟩:=bd b
 refine aE (lO (vp (aD p1) R) (lO (vp (aD a) R) (lM _ (fun w s=>(s.dg 0 R)) ?_)))
 refine lC 1 vH R (eU e) R ?_
 rintro _
 refine lN g ?_
 refine bH ?_
 cases b
 exact qF () (tE 1 [])
theorem Z3n_ok  {p1:aN}{a:aN}{mG:Int}{r:Bool}(b:Z3n p1 a=some r) :
 FnOk Tryz.prog 150 [(aD p1),(aD a)] [gl 0 mG] (fun (h:Unit)=>((.bool r),[])):=by
 unfold Z3n at b
 refine aR Tryz.func150 R 9 R R fun C V=>?_
 let g:=gl 0 mG::V
 refine cN g ?_
 refine bV ?_
 obtain ⟨i,e,b⟩:=bd b
 refine aE (lO (vp (aD p1) R) (lO (vp (aD a) R) (lM _ (fun w s=>(s.dg 0 R)) ?_)))
 refine lC 1 zm R (Z29_ok e) R ?_
 rintro _
 refine lN g ?_
 refine b' ?_
 cases b
 exact qF () (tE 1 [])
theorem Z10_ok  {e:(List Int)}{g:(List Int)}{r:Bool}(b:Z10 e g=some r) :
 FnOk Tryz.prog 121 [(.slice A2 N2 D2),(.slice A4 N4 D4)] [aO kT3 (.slice A2 N2 D2) e,aO kT3 (.slice A4 N4 D4) g] (fun (h:Unit)=>((.bool r),[])):=by
 unfold Z10 at b
 refine aR Tryz.func121 R 26 R R fun C V=>?_
 refine cL 0 aA ?_
 rintro rfl
 refine cL 1 aA ?_
 rintro rfl
 let q:=RR kT3 A2 D2 e::RR kT3 A4 D4 g::V
 refine cN q ?_
 refine oY ?_
 split at b
 refine dA ?_
 cases b
 exact qF () (tE 2 [])
 refine bH ?_
 refine bC (A:=(Unit)×(Unit)) (fun a=>Z10_J1=some r) (fun a=>[]) (fun a=>q) ?_ ?_
 refine dA ?_
 obtain ⟨I,B,m⟩:=bd b
 refine bF (A:=Unit) B (fun s a=>[(0,(sc A2 e D2)),(1,(sc A4 g D4)),(12,(il e)),(13,(iv s))]) (fun s a=>q) () (aS R) tI ?_
 rintro G _ σ1 D b i
 dsimp only [Z10_L1] at b
 refine bV ?_
 split at b
 refine iE ?_
 obtain ⟨j,b⟩:=gd b
 obtain ⟨l,b⟩:=gd b
 refine aZ 0 aA (show 0<e.length by have:=j; omega) (fun E o18 u=>?_)
 subst u
 refine aZ 1 aA (show 0<g.length by have:=l; omega) (fun F o21 u=>?_)
 subst u
 refine dF 9 [] bO fun L J=>?_
 refine vl 0 [] ?_
 refine dD (aI ?_)
 split at b
 refine cY ?_
 cases b
 obtain rfl:=i _ R
 have b:=m
 refine aP ?_
 cases b
 exact qF () (tE 2 [])
 refine dA ?_
 cases b
 exact qA () tI
 refine aP ?_
 cases b
 obtain rfl:=i _ R
 have b:=m
 refine aU ?_
 exact cJ ((),()) b trivial tI
 rintro ⟨_,_⟩ σ1 b
 dsimp only [Z10_J1] at b
 refine bV ?_
 cases b
 exact qF () (tE 2 [])
theorem iF  {p1:aN}{a:aN}{mG:Int}{r:aN×aN×Bool}(b:dY p1 a=some r) :
 FnOk Tryz.prog 175 [(aD p1),(aD a)] [gl 0 mG] (fun (h:Unit)=>((.tuple [(aD r.1),(aD r.2.1),(.bool r.2.2)].toArray),[])):=by
 unfold dY at b
 refine aR Tryz.func175 R 23 R R fun C V=>?_
 let l:=gl 0 mG::V
 refine cN l ?_
 refine aU ?_
 refine lO (vp (aD ([]:aN)) R) (lO (vp (aD ([]:aN)) R) ?_)
 refine b' ?_
 obtain ⟨i,j,b⟩:=bd b
 refine aE (lO (vp (aD p1) R) (lO (vp (aD a) R) (lM _ (fun w s=>(s.dg 0 R)) ?_)))
 refine lC 1 vH R (eU j) R ?_
 rintro _
 refine lN l ?_
 refine cY ?_
 split at b
 refine aU ?_
 obtain ⟨e,b⟩:=gd b
 obtain ⟨g,b⟩:=gd b
 refine dF 12 [] bO fun q m=>?_
 refine dR 0 R (vp (aD p1) R) (dR 1 R (vI R) (dR 2 R (vz (aD (sub p1 (0:Int) i)) (hU (0:Int) i fK R R R e.1 e.2.1 e.2.2)) (dR 3 R (vp (aD p1) R) (dR 4 R (vI R) (dR 5 R (vp (aD a) R) (dR 6 R (vz (il a) (dN fK R)) (dR 7 R (l6 R R) (dR 8 R (vz (aD (sub p1 (aH (i+(a.length:Int))) (p1.length:Int))) (hU (aH (i+(a.length:Int))) (p1.length:Int) fK R R R g.1 g.2.1 g.2.2)) (dR 9 R (vp (aD (sub p1 (0:Int) i)) R) (dR 10 R (vp (aD (sub p1 (aH (i+(a.length:Int))) (p1.length:Int))) R) (dR 11 R (vB R) (dD ?_))))))))))))
 refine aP ?_
 cases b
 exact iu () (tE 1 [])
 refine b' ?_
 refine lO (vp (aD p1) R) (lO (vp (aD p1) R) (lO (vp (aD ([]:aN)) R) ?_))
 refine bH ?_
 cases b
 exact iu () (tE 1 [])
theorem Z2w_ok  {p1:aN}{a:aN}{mG:Int}{r:aN×aN×Bool}(b:Z2w p1 a=some r) :
 FnOk Tryz.prog 128 [(aD p1),(aD a)] [gl 0 mG] (fun (h:Unit)=>((.tuple [(aD r.1),(aD r.2.1),(.bool r.2.2)].toArray),[])):=by
 unfold Z2w at b
 refine aR Tryz.func128 R 13 R R fun C V=>?_
 let i:=gl 0 mG::V
 refine cN i ?_
 refine aU ?_
 refine lO (vp (aD ([]:aN)) R) (lO (vp (aD ([]:aN)) R) ?_)
 refine bH ?_
 obtain ⟨e,g,b⟩:=bd b
 refine aE (lO (vp (aD p1) R) (lO (vp (aD a) R) (lM _ (fun w s=>(s.dg 0 R)) ?_)))
 refine lC 1 zr R (iF g) R ?_
 rintro _
 refine lN i ?_
 refine lO (vp (aD e.1) R) (lO (vp (aD e.2.1) R) (lB R (lO (vp (aD e.1) R) (lO (vp (aD e.2.1) R) ?_))))
 refine bH ?_
 cases b
 exact iu () (tE 1 [])
theorem Z36_ok  {b e:aN}{r:Int}(a:Z36 b e=some r) :
 FnOk Tryz.prog 224 [(aD b),(aD e)] [] (fun (_:Unit)=>((iv r),[])):=by
 unfold Z36 at a
 split at a
 ·rename_i c
  obtain rfl:=so a
  exact pR fun w=>Tryz.strings_Count_one ⟨b.toArray⟩ c w
 ·cases a
theorem Z0l_ok  {p1:aN}{j:aN}{b:Int}{n4:Int}{mG:Int}{r:(List aN)}(g:Z0l p1 j b n4=some r) :
 FnOk Tryz.prog 203 [(aD p1),(aD j),(iv b),(iv n4)] [gl 0 mG] (fun (h:HH)=>((s3 h),[aO dQ (s3 h) r])):=by
 unfold Z0l at g
 refine aR Tryz.func203 R 66 R R fun C V=>?_
 let U:=gl 0 mG::V
 refine cN U ?_
 refine iE ?_
 rcases cF g with ⟨_,g⟩|⟨_,g⟩
 refine dA ?_
 cases g
 exact qF (none,0,0) (fun w s=>((s.nilr dQ).e 2 [0]))
 refine bV ?_
 refine lO (vp (aD j) R) (lO (vz (.bool (j==([]:aN))) (js R R R)) ?_)
 refine aU ?_
 rcases cF g with ⟨_,g⟩|⟨_,g⟩
 refine bT ?_
 cases g
 refine bH ?_
 refine bC (A:=(Int)×(Unit)) (fun a=>Z0l_J2 p1 j b a.1=some r) (fun a=>[(0,(aD p1)),(1,(aD j)),(2,(iv b)),(3,(iv a.1))]) (fun a=>U) ?_ ?_
 refine bV ?_
 rcases cF g with ⟨_,g⟩|⟨_,g⟩
 refine bT ?_
 obtain ⟨r8,a6,g⟩:=bd g
 refine aE (lO (vp (aD p1) R) (lO (vp (aD j) R) (lC 0 zu R (Z36_ok a6) R ?_)))
 rintro _
 refine aP ?_
 exact qI ((aH (r8+1)),()) g tI
 refine aU ?_
 exact qI (n4,()) g tI
 rintro ⟨i,_⟩ σ1 g
 dsimp only [Z0l_J2] at g
 refine aP ?_
 refine lO (vp (aD p1) R) (lO (vz (il p1) (dN fK R)) (lO (l6 R R) (lO (vz (iv (if (aH ((p1.length:Int)+1))<i then (aH ((p1.length:Int)+1)) else i)) (vj R R)) ?_)))
 refine bH ?_
 obtain ⟨u,g⟩:=gd g
 refine aU ?_
 refine eW (K:=dQ) (m:=(if (aH ((p1.length:Int)+1))<i then (aH ((p1.length:Int)+1)) else i)) (z:=([]:aN)) R R om rr Bw (Zr.zk zT9 yL) (by decide) R R u.1 u.2.1 u.2.2 (fun A12 D12=>(lS R (aC (aI (aM (aE (lI R (lO (wr R R) (lI R (aC (aI (aM (aE (lI R (aC (aI (aM (bC (A:=(aN×(List aN)×Int)×(Unit)) (fun a=>Z0l_J3 p1 i a.1.1 a.1.2.1 a.1.2.2=some r) (fun a=>[(0,(aD a.1.1)),(9,(sc A12 (List.replicate (if (aH ((p1.length:Int)+1))<i then (aH ((p1.length:Int)+1)) else i).toNat ([]:aN)) D12)),(10,(iv a.1.2.2))]) (fun a=>ow dQ 9 (.slice A12 (List.replicate (if (aH ((p1.length:Int)+1))<i then (aH ((p1.length:Int)+1)) else i).toNat ([]:aN)).length D12) a.1.2.1::U) ?_ ?_))))))))))))))))))
 refine bT ?_
 obtain ⟨e1,a5,Z⟩:=bd g
 refine bF (A:=Unit) a5 (fun s a=>[(0,(aD s.1)),(1,(aD j)),(2,(iv b)),(3,(iv (aH ((if (aH ((p1.length:Int)+1))<i then (aH ((p1.length:Int)+1)) else i) - 1)))),(9,(sc A12 (List.replicate (if (aH ((p1.length:Int)+1))<i then (aH ((p1.length:Int)+1)) else i).toNat ([]:aN)) D12)),(10,(iv s.2.2))]) (fun s a=>ow dQ 9 (.slice A12 (List.replicate (if (aH ((p1.length:Int)+1))<i then (aH ((p1.length:Int)+1)) else i).toNat ([]:aN)).length D12) s.2.1::U) () (aS R) tI ?_
 rintro ⟨l,O,T⟩ _ σ1 a8 g Y
 dsimp only [Z0l_L1] at g
 refine dA ?_
 rcases cF g with ⟨_,g⟩|⟨_,g⟩
 refine b' ?_
 obtain ⟨q,a0,g⟩:=bd g
 refine aE (lO (vp (aD l) R) (lO (vp (aD j) R) (lM (gl 0 mG::ow dQ 9 (.slice A12 (List.replicate (if (aH ((p1.length:Int)+1))<i then (aH ((p1.length:Int)+1)) else i).toNat ([]:aN)).length D12) O::U) (fun w s=>(s.dg 1 R)) ?_)))
 refine lC 1 zm R (Z29_ok a0) R ?_
 rintro _
 refine cU ?_
 rcases cF g with ⟨_,g⟩|⟨_,g⟩
 refine aP ?_
 refine rB R ?_
 cases g
 obtain rfl:=Y _ R
 have g:=Z
 refine aU ?_
 exact qI ((l,O,T),()) g tI
 refine bH ?_
 obtain ⟨B,g⟩:=gd g
 obtain ⟨D,g⟩:=gd g
 refine aP ?_
 refine lO (vp (aD l) R) ?_
 refine aP ?_
 refine lO (vz (aD (sub l (0:Int) (aH (q+b)))) (hU (0:Int) (aH (q+b)) fK R R R B.1 B.2.1 B.2.2)) (bA 0 aB (show 0<(List.replicate (if (aH ((p1.length:Int)+1))<i then (aH ((p1.length:Int)+1)) else i).toNat ([]:aN)).length by have:=D; omega) (fun a4 o34 ha=>?_))
 subst ha
 refine bT ?_
 refine dX (K:=dQ) (x':=(sub l (0:Int) (aH (q+b)))) 0 T R R rr R R D.1 D.2 ?_ ?_
 exact fun I h s=>(xR).put I h () (sub l (0:Int) (aH (q+b))) s
 refine bT ?_
 obtain ⟨a7,J,g⟩:=bd g
 replace J:=Option.some.inj J
 refine qM (ow dQ 9 (.slice (ad a4 o34) (List.replicate (if (aH ((p1.length:Int)+1))<i then (aH ((p1.length:Int)+1)) else i).toNat ([]:aN)).length D12) a7::U) (fun w s=>by rw [← J]; exact s) ?_
 refine aU ?_
 obtain ⟨E,g⟩:=gd g
 refine aE (lO (vp (aD l) R) (lI R (lO (vp (aD j) R) (lO (vz (il j) (dN fK R)) (lO (l6 R R) (lO (vz (aD (sub l (aH (q+(j.length:Int))) (l.length:Int))) (hU (aH (q+(j.length:Int))) (l.length:Int) fK R R R E.1 E.2.1 E.2.2)) (lO (vp (aD (sub l (aH (q+(j.length:Int))) (l.length:Int))) R) ?_)))))))
 refine dA ?_
 cases g
 exact qA () tI
 refine aP ?_
 cases g
 obtain rfl:=Y _ R
 have g:=Z
 refine aU ?_
 exact qI ((l,O,T),()) g tI
 rintro ⟨⟨M,a3,L⟩,_⟩ σ1 g
 dsimp only [Z0l_J3] at g
 refine bT ?_
 obtain ⟨F,g⟩:=gd g
 refine aP ?_
 refine lO (vp (aD M) R) (bA 0 aB (show 0<(List.replicate (if (aH ((p1.length:Int)+1))<i then (aH ((p1.length:Int)+1)) else i).toNat ([]:aN)).length by have:=F; omega) (fun a9 o46 ha=>?_))
 subst ha
 refine bT ?_
 refine dX (K:=dQ) (x':=M) 0 L R R rr R R F.1 F.2 ?_ ?_
 exact fun I h s=>(xR).put I h () M s
 refine aP ?_
 obtain ⟨G,g⟩:=gd g
 refine bH ?_
 refine hW (fun w s=>s.shr 0 R) (gC (K:=dQ) (0:Int) (aH (L+1)) 0 R R om rr R R R R G.1 G.2.1 G.2.2 (fun a1 a2=>(lS R (aC (aI (bW ?_))))))
 cases g
 exact qF (a1,(sub (a3.set L.toNat M) (0:Int) (aH (L+1))).length,a2) (tE 3 [0])
theorem Z2x_ok  {p1:aN}{a:aN}{mG:Int}{r:(List aN)}(b:Z2x p1 a=some r) :
 FnOk Tryz.prog 176 [(aD p1),(aD a)] [gl 0 mG] (fun (h:HH)=>((.slice h.1 h.2.1 h.2.2),[aO dQ (.slice h.1 h.2.1 h.2.2) r])):=by
 unfold Z2x at b
 refine aR Tryz.func176 R 8 R R fun C V=>?_
 refine cN (_::V) ?_
 let g:List HP:=gl 0 mG::V
 refine cN g ?_
 refine aM (aE (lS R (aC (aI (aM ?_)))))
 obtain ⟨j,i,b⟩:=bd b
 refine aE (lO (vp (aD p1) R) (lO (vp (aD a) R) (lM (gl 0 mG::g) (fun w s=>(s.dg 0 R)) ?_)))
 refine lC 1 zw R (Z0l_ok i) R ?_
 rintro ⟨A5,N5,D5⟩
 refine lN (aO dQ (.slice A5 N5 D5) j::g) ?_
 refine aL 0 aA ?_
 rintro rfl
 refine lS R (aC (aI (bW ?_)))
 obtain rfl:=so b
 exact qF (A5,j.length,D5) (fun w s=>(s.e 2 [0]))
theorem gF  {b:aN}{a:Int}{r:Int}(e:dE b a=some r) :
 FnOk Tryz.prog 189 [(aD b),(.int .u8 a)] [] (fun (_:Unit)=>((iv r),[])):=by
 unfold dE at e
 obtain rfl:=so e
 exact pR fun w=>Tryz.stringslite_IndexByte ⟨b.toArray⟩ a w
theorem Z1r_ok  {p1:aN}{e:Int}{r:Int}(a:Z1r p1 e=some r) :
 FnOk Tryz.prog 152 [(aD p1),(.int .u8 e)] [] (fun (h:Unit)=>((iv r),[])):=by
 unfold Z1r at a
 refine aR Tryz.func152 R 8 R R fun C V=>?_
 refine cN V ?_
 refine bV ?_
 obtain ⟨g,b,a⟩:=bd a
 refine aE (lO (vp (aD p1) R) (lI R (lC 0 zy R (gF b) R ?_)))
 rintro _
 refine bH ?_
 cases a
 exact qF () tI
theorem Zp_ok {g:List Int}{a:Option Addr}{b e:Nat}{r:(List Int)}(m:Zp g=some r) :
  FnOk Tryz.prog 97 [(.slice a b e)] [aO kT3 (.slice a b e) g] (fun (h:(Option Addr×Nat×Nat))=>((s3 h),[ow kT3 3 (s3 h) r])):=by
 unfold Zp at m
 obtain ⟨B,m⟩:=gd m
 obtain rfl:=Option.some.inj m
 refine aR Tryz.func97 rfl 8 rfl rfl fun C V=>(y8 (V':=aO kT3 (.slice a b e) g::V) tI (bI 0 aA (fun (D:b=g.length)=>?_)))
 subst D
 refine aU ?_
 refine lS rfl ?_
 refine b' ?_
 refine lS rfl (rN (.bool a.isNone) (wl bM rfl rfl) rfl rfl (aC (aI ?_)))
 rcases Bool.eq_false_or_eq_true a.isNone with l | l
 ·refine bZ rfl l ?_
  refine wq 0 aA l (fun (E:g=[])=>?_)
  subst E
  refine aU ?_
  refine lS rfl ?_
  refine bH ?_
  exact dJ (vs:=[(.slice none 0 0)]) (.inl rfl) (none,0,0) rfl ⟨rfl,trivial⟩ rfl (fun w s=>((s.nilo kT3 3).sel 2 [0] rfl rfl))
 ·refine bJ rfl l (cW (aI ?_))
  refine aU ?_
  refine bL (K:=kT3) (xs:=([]:List Int)) (vs:=[]) 0 rfl rfl bM cE gR rfl rfl rfl rfl rfl rfl ?_ rfl (fun q u=>?_)
  ·exact fun I h s=>(gO).list [] I h s
  refine lS rfl (eC (K:=kT3) 17592186044416 rfl rfl bM cE kr (Zr.zk zT3 gR) rfl rfl rfl rfl rfl rfl (rG (Kind.scal_flat _ _)) (by simpa using B) (fun i j=>(lS rfl (aC (aI (bW ?_))))))
  exact dJ (vs:=[(.slice i g.length j)]) (.inl rfl) (i,g.length,j) rfl ⟨rfl,trivial⟩ rfl tI
theorem Z0f_ok  {e:(List Int)}{g:(List Int)}{r:Bool}(b:Z0f e g=some r) :
 FnOk Tryz.prog 145 [(.slice A2 N2 D2),(.slice A4 N4 D4)] [aO kT3 (.slice A2 N2 D2) e,aO kT3 (.slice A4 N4 D4) g] (fun (h:Unit)=>((.bool r),[])):=by
 unfold Z0f at b
 refine aR Tryz.func145 R 26 R R fun C V=>?_
 refine cL 0 aA ?_
 rintro rfl
 refine cL 1 aA ?_
 rintro rfl
 let q:=RR kT3 A2 D2 e::RR kT3 A4 D4 g::V
 refine cN q ?_
 refine oY ?_
 split at b
 refine dA ?_
 cases b
 exact qF () (tE 2 [])
 refine bH ?_
 refine bC (A:=(Unit)×(Unit)) (fun a=>Z0f_J1=some r) (fun a=>[]) (fun a=>q) ?_ ?_
 refine bV ?_
 obtain ⟨I,B,m⟩:=bd b
 refine bF (A:=Unit) B (fun s a=>[(0,(sc A2 e D2)),(1,(sc A4 g D4)),(5,(iv s))]) (fun s a=>q) () (aS R) tI ?_
 rintro G _ σ1 D b i
 dsimp only [Z0f_L1] at b
 refine cY ?_
 split at b
 refine bV ?_
 obtain ⟨j,b⟩:=gd b
 obtain ⟨l,b⟩:=gd b
 refine aZ 0 aA (show 0<e.length by have:=j; omega) (fun E o18 u=>?_)
 subst u
 refine aZ 1 aA (show 0<g.length by have:=l; omega) (fun F o21 u=>?_)
 subst u
 refine dF 9 [] bO fun L J=>?_
 refine vl 0 [] ?_
 refine dD (aI ?_)
 split at b
 refine cY ?_
 cases b
 obtain rfl:=i _ R
 have b:=m
 refine aP ?_
 cases b
 exact qF () (tE 2 [])
 refine cY ?_
 cases b
 exact qA () tI
 refine aP ?_
 cases b
 obtain rfl:=i _ R
 have b:=m
 refine aU ?_
 exact cJ ((),()) b trivial tI
 rintro ⟨_,_⟩ σ1 b
 dsimp only [Z0f_J1] at b
 refine bV ?_
 cases b
 exact qF () (tE 2 [])
theorem Z2e_ok  {b:Node}{g:Node}{r:Bool}(a:Z2e b g=some r) :
 FnOk Tryz.prog 187 [(.agg [(iv b.Op),(.slice A2 N2 D2),(.slice A3 N3 D3),(.slice A4 N4 D4),(aD b.Form),(.slice A5 N5 D5)].toArray),(.agg [(iv g.Op),(.slice A7 N7 D7),(.slice A8 N8 D8),(.slice A9 N9 D9),(aD g.Form),(.slice A10 N10 D10)].toArray)] [aO kT3 (.slice A2 N2 D2) b.Args,aO kT3 (.slice A3 N3 D3) b.Dims,aO kT3 (.slice A4 N4 D4) b.Ints,aO kT3 (.slice A5 N5 D5) b.Data,aO kT3 (.slice A7 N7 D7) g.Args,aO kT3 (.slice A8 N8 D8) g.Dims,aO kT3 (.slice A9 N9 D9) g.Ints,aO kT3 (.slice A10 N10 D10) g.Data] (fun (h:Unit)=>((.bool r),[])):=by
 unfold Z2e at a
 refine aR Tryz.func187 R 39 R R fun C V=>?_
 refine cL 0 aA ?_
 rintro rfl
 refine cL 1 aA ?_
 rintro rfl
 refine cL 2 aA ?_
 rintro rfl
 refine cL 3 aA ?_
 rintro rfl
 refine cL 4 aA ?_
 rintro rfl
 refine cL 5 aA ?_
 rintro rfl
 refine cL 6 aA ?_
 rintro rfl
 refine cL 7 aA ?_
 rintro rfl
 let D:=RR kT3 A2 D2 b.Args::RR kT3 A3 D3 b.Dims::RR kT3 A4 D4 b.Ints::RR kT3 A5 D5 b.Data::RR kT3 A7 D7 g.Args::RR kT3 A8 D8 g.Dims::RR kT3 A9 D9 g.Ints::RR kT3 A10 D10 g.Data::V
 refine cN D ?_
 refine aU ?_
 refine eE R fun u=>?_
 refine eE R fun B=>?_
 refine aU ?_
 let i:=aJ B [(iv g.Op),(sc A7 g.Args D7),(sc A8 g.Dims D8),(sc A9 g.Ints D9),(aD g.Form),(sc A10 g.Data D10)] 171::aJ u [(iv b.Op),(sc A2 b.Args D2),(sc A3 b.Dims D3),(sc A4 b.Ints D4),(aD b.Form),(sc A5 b.Data D5)] 171::D
 refine qN i ?_
 refine iD ?_
 split at a
 refine dA ?_
 cases a
 exact qF () (tE 10 [])
 refine b' ?_
 obtain ⟨E,j,a⟩:=bd a
 refine b' ?_
 refine lM _ (fun w s=>(((s.d 2 R).d 7 R).e 2 [1,0])) ?_
 refine lC 2 oz R (Z0f_ok j) R ?_
 rintro _
 refine lN i ?_
 refine aP ?_
 split at a
 refine dA ?_
 cases a
 exact qF () (tE 10 [])
 refine b' ?_
 obtain ⟨F,l,a⟩:=bd a
 refine b' ?_
 refine lM _ (fun w s=>(((s.d 3 R).d 8 R).e 2 [1,0])) ?_
 refine lC 2 oz R (Z0f_ok l) R ?_
 rintro _
 refine lN i ?_
 refine aP ?_
 split at a
 refine dA ?_
 cases a
 exact qF () (tE 10 [])
 refine b' ?_
 obtain ⟨G,m,a⟩:=bd a
 refine b' ?_
 refine lM _ (fun w s=>(((s.d 4 R).d 9 R).e 2 [1,0])) ?_
 refine lC 2 oz R (Z0f_ok m) R ?_
 rintro _
 refine lN i ?_
 refine aP ?_
 split at a
 refine dA ?_
 cases a
 exact qF () (tE 10 [])
 refine cU ?_
 refine lO (vz (.bool (!(b.Form==g.Form))) (js R R R)) ?_
 refine aU ?_
 split at a
 refine dA ?_
 cases a
 exact qF () (tE 10 [])
 refine b' ?_
 obtain ⟨I,q,a⟩:=bd a
 refine b' ?_
 refine lM _ (fun w s=>(((s.d 5 R).d 10 R).e 2 [1,0])) ?_
 refine lC 2 oz R (Z0f_ok q) R ?_
 rintro _
 refine lN i ?_
 refine aP ?_
 split at a
 refine dA ?_
 cases a
 exact qF () (tE 10 [])
 refine cY ?_
 cases a
 exact qF () (tE 10 [])
theorem Z1b_ok  {i:(List Node)}{j:(List Node)}{r:Bool}(g:Z1b i j=some r) :
 FnOk Tryz.prog 144 [(.slice A2 N2 D2),(.slice A4 N4 D4)] [aO cB (.slice A2 N2 D2) i,aO cB (.slice A4 N4 D4) j] (fun (h:Unit)=>((.bool r),[])):=by
 unfold Z1b at g
 refine aR Tryz.func144 R 27 R R fun C V=>?_
 refine cL 0 aA ?_
 rintro rfl
 refine cL 1 aA ?_
 rintro rfl
 let W0:=RR cB A2 D2 i::RR cB A4 D4 j::V
 refine cN W0 ?_
 refine oY ?_
 split at g
 refine dA ?_
 cases g
 exact qF () (tE 2 [])
 refine bH ?_
 refine bC (A:=(Unit)×(Unit)) (fun a=>Z1b_J1=some r) (fun a=>[]) (fun a=>W0) ?_ ?_
 refine bV ?_
 obtain ⟨e1,a4,u⟩:=bd g
 refine bF (A:=Unit) a4 (fun s a=>[(0,(sc A2 i D2)),(1,(sc A4 j D4)),(5,(iv s))]) (fun s a=>W0) () (aS R) tI ?_
 rintro b _ σ1 a5 g q
 dsimp only [Z1b_L1] at g
 refine cY ?_
 split at g
 refine bV ?_
 obtain ⟨l,g⟩:=gd g
 obtain ⟨m,g⟩:=gd g
 obtain ⟨a8,B,g⟩:=bd g
 refine aZ 0 aA (show 0<i.length by have:=l; omega) (fun a6 o28 ha=>?_)
 subst ha
 refine dI (K:=cB) 0 b dT171.dec R l.1 l.2 ?_
 rintro ⟨-,⟨D,O⟩,⟨E,T⟩,⟨F,U⟩,-,⟨G,Y⟩⟩
 refine aZ 6 aA (show 0<j.length by have:=m; omega) (fun a7 o35 ha=>?_)
 subst ha
 refine dI (K:=cB) 6 b dT171.dec R m.1 m.2 ?_
 rintro ⟨-,⟨I,Z⟩,⟨J,a0⟩,⟨L,a2⟩,-,⟨M,a3⟩⟩
 refine dF 10 [] bO fun ht hn=>?_
 refine iw 0 [] ?_
 refine dR 3 R (vz (.agg [(iv (ix i b).Op),(sc D ((ix i b).Args) O),(sc E ((ix i b).Dims) T),(sc F ((ix i b).Ints) U),(aD (ix i b).Form),(sc G ((ix i b).Data) Y)].toArray) (eF (fo:=0) 5 mx iz R R R R)) ?_
 refine iw 4 [] ?_
 refine dR 7 R (vz (.agg [(iv (ix j b).Op),(sc I ((ix j b).Args) Z),(sc J ((ix j b).Dims) a0),(sc L ((ix j b).Ints) a2),(aD (ix j b).Form),(sc M ((ix j b).Data) a3)].toArray) (eF (fo:=0) 0 mx iz R R R R)) (d1 8 R (lM _ (fun w s=>(((((((((s.d 6 R).d 8 R).d 10 R).d 12 R).d 5 R).d 7 R).d 9 R).d 11 R).e 18 [7,6,5,4,3,2,1,0,8,9,10,11,12,13,14,15,16,17])) ?_))
 refine lC 8 zY R (Z2e_ok B) R ?_
 rintro _
 refine aC (aG (sL []) (dR 9 R (tQ R) (dD (aI ?_))))
 split at g
 refine cY ?_
 cases g
 obtain rfl:=q _ R
 have g:=u
 refine aP ?_
 cases g
 exact qF () (tE 12 [])
 refine cY ?_
 cases g
 exact qA () (tE 10 [])
 refine aP ?_
 cases g
 obtain rfl:=q _ R
 have g:=u
 refine aU ?_
 exact cJ ((),()) g trivial tI
 rintro ⟨_,_⟩ σ1 g
 dsimp only [Z1b_J1] at g
 refine bV ?_
 cases g
 exact qF () (tE 2 [])
theorem Z2q_ok  {b:Graph}{g:Graph}{r:Bool}(a:Z2q b g=some r) :
 FnOk Tryz.prog 44 [(.agg [(.slice A2 N2 D2),(.slice A3 N3 D3)].toArray),(.agg [(.slice A5 N5 D5),(.slice A6 N6 D6)].toArray)] [aO cB (.slice A2 N2 D2) b.Nodes,aO kT3 (.slice A3 N3 D3) b.Outs,aO cB (.slice A5 N5 D5) g.Nodes,aO kT3 (.slice A6 N6 D6) g.Outs] (fun (h:Unit)=>((.bool r),[])):=by
 unfold Z2q at a
 refine aR Tryz.func44 R 17 R R fun C V=>?_
 refine cL 0 aA ?_
 rintro rfl
 refine cL 1 aA ?_
 rintro rfl
 refine cL 2 aA ?_
 rintro rfl
 refine cL 3 aA ?_
 rintro rfl
 let m:=RR cB A2 D2 b.Nodes::RR kT3 A3 D3 b.Outs::RR cB A5 D5 g.Nodes::RR kT3 A6 D6 g.Outs::V
 refine cN m ?_
 refine aU ?_
 refine eE R fun q=>?_
 refine eE R fun u=>?_
 refine aU ?_
 let l:=aJ u [(sc A5 g.Nodes D5),(sc A6 g.Outs D6)] 67::aJ q [(sc A2 b.Nodes D2),(sc A3 b.Outs D3)] 67::m
 refine qN l ?_
 refine aP ?_
 obtain ⟨D,i,a⟩:=bd a
 refine b' ?_
 refine lM _ (fun w s=>(((s.d 2 R).d 5 R).e 2 [1,0])) ?_
 refine lC 2 zZ R (Z1b_ok i) R ?_
 rintro _
 refine lN l ?_
 refine aP ?_
 split at a
 refine dA ?_
 cases a
 exact qF () (tE 6 [])
 refine b' ?_
 obtain ⟨B,j,a⟩:=bd a
 refine b' ?_
 refine lM _ (fun w s=>(((s.d 3 R).d 6 R).e 2 [1,0])) ?_
 refine lC 2 oz R (Z0f_ok j) R ?_
 rintro _
 refine lN l ?_
 refine aP ?_
 split at a
 refine dA ?_
 cases a
 exact qF () (tE 6 [])
 refine cY ?_
 cases a
 exact qF () (tE 6 [])
end Go.Proofs.YtmpnollfdpdipaaGreatDoor
