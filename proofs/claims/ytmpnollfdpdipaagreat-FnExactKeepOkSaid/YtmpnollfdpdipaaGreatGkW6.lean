import Derived.Test.YtmpnollfdpdipaaGreatGkF
import Derived.Test.YtmpnollfdpdipaaGreatGkW1
import Derived.Test.YtmpnollfdpdipaaGreatGkW5
set_option linter.unusedVariables false
set_option maxRecDepth 20000
namespace Go.Proofs.YtmpnollfdpdipaaGreat
open Go Go.Pg
variable {A2 A3 A4 A5 A6 A7 A8 A9 A10 A11:Option Addr}{D2 D3 D4 D5 D6 D7 D8 D9 D10 D11 N2 N3 N4 N5 N6 N7 N8 N9 N10 N11:Nat}
theorem Z05_ok  {p1:View}{j:(List Int)}{B:View}{D:Nat}{M:Nat}{O:Nat}{r:Bool×View}(b:Z05 p1 j B=some r) :
 FnOk Tryz.prog 166 [(pt D 0),(pt M 0),(pt O 0)] [aN kT3 (.slice A3 N3 D3) p1.Dims,aN kT3 (.slice A4 N4 D4) p1.Strides,aI D [(.slice A3 N3 D3),(.slice A4 N4 D4),(iv p1.Offset),(iv p1.Base)] 96,aN kT3 (.slice A7 N7 D7) j,aI M [(.slice A7 N7 D7)] 23,aN kT3 (.slice A10 N10 D10) B.Dims,aN kT3 (.slice A11 N11 D11) B.Strides,aI O [(.slice A10 N10 D10),(.slice A11 N11 D11),(iv B.Offset),(iv B.Base)] 96] (fun (h:HH×HH)=>((.bool r.1),[aN kT3 (s3 h.1) r.2.Dims,aN kT3 (s3 h.2) r.2.Strides,aI D [(s3 h.1),(s3 h.2),(iv r.2.Offset),(iv r.2.Base)] 96,aI M [(.slice A7 N7 D7)] 23,aI O [(.slice A10 N10 D10),(.slice A11 N11 D11),(iv B.Offset),(iv B.Base)] 96])):=by
 unfold Z05 at b
 refine aQ Tryz.func166 R 71 R R fun C V=>?_
 refine cM (aI _ _ _::aI _ _ _::aI _ _ _::aN _ _ _::aN _ _ _::aN _ _ _::aN _ _ _::aN _ _ _::V) (tE 8 [2,4,7,0,1,3,5,6]) ?_
 refine cL 3 aA ?_
 rintro rfl
 refine cL 4 aA ?_
 rintro rfl
 refine cL 5 aA ?_
 rintro rfl
 refine cL 6 aA ?_
 rintro rfl
 refine cL 7 aA ?_
 rintro rfl
 let W0:=RR kT3 A3 D3 p1.Dims::RR kT3 A4 D4 p1.Strides::RR kT3 A7 D7 j::RR kT3 A10 D10 B.Dims::RR kT3 A11 D11 B.Strides::V
 refine bF ?_
 let L:=aI M [(sc A7 j D7)] 23::aI O [(sc A10 B.Dims D10),(sc A11 B.Strides D11),(iv B.Offset),(iv B.Base)] 96::W0
 refine aP ?_
 obtain ⟨a9,a5,b⟩:=bd b
 refine cQ [(0,(pt D 0)),(1,(pt M 0)),(2,(pt O 0)),(17,(.bool ((!a9)||(decide ((j.length:Int)<(B.Dims.length:Int))))))] (aI D [(sc A3 p1.Dims D3),(sc A4 p1.Strides D4),(iv p1.Offset),(iv p1.Base)] 96::L) ?_ ?_
 refine aR ?_
 refine lM (RR kT3 A7 D7 j::_::L) (fun w s=>(s.d 5 R)) ?_
 refine lC 1 iW R (Zc_ok a5) R ?_
 rintro _
 refine aR ?_
 rcases bo (!a9) with Z | Z
 refine cU ?_
 exact qj tI
 refine cU ?_
 exact qj tI
 rintro σ1
 refine bU ?_
 split at b
 refine cU ?_
 cases b
 exact qF ((A3,p1.Dims.length,D3),(A4,p1.Strides.length,D4)) (fun w s=>(s.f 8 [3,2,0,3]))
 refine bF ?_
 obtain ⟨i,a6,b⟩:=bd b
 refine aP ?_
 refine lM (RR kT3 A7 D7 j::_::L) (fun w s=>(s.d 5 R)) ?_
 refine lC 1 j9 R (Zo_ok a6) R ?_
 rintro ⟨l,ab,q⟩
 refine aL 0 aB ?_
 rintro rfl
 refine aR ?_
 refine cP 1 R R fR R R R R R (lN (_::aI D [(sc l i q),(sc A4 p1.Strides D4),(iv p1.Offset),(iv p1.Base)] 96::L) ?_)
 refine aP ?_
 obtain ⟨E,b⟩:=gd b
 refine bF ?_
 refine fH (K:=kT3) (m:=(j.length:Int)) (z:=(0:Int)) R R bM cC kc (Zr.zk zT3 gR) (by decide) R R E.1 E.2.1 E.2.2 (fun u g=>(lP R (lO (fV 1 fW R) (cP 2 R R fR R R R R R (lN (OO kT3 3 u g (List.replicate (j.length:Int).toNat (0:Int))::_::aI D [(sc l i q),(sc u (List.replicate (j.length:Int).toNat (0:Int)) g),(iv p1.Offset),(iv p1.Base)] 96::L) ?_)))))
 refine aP ?_
 refine bA (A:=((List Int))×(Unit)) (fun a=>Z05_J3 p1 i a.1=some r) (fun a=>[]) (fun a=>aI D [(sc l i q),(sc u (List.replicate (j.length:Int).toNat (0:Int)) g),(iv p1.Offset),(iv p1.Base)] 96::OO kT3 3 l q i::ow kT3 3 (.slice u (List.replicate (j.length:Int).toNat (0:Int)).length g) a.1::L) ?_ ?_
 refine cO ?_
 obtain ⟨e1,aa,a4⟩:=bd b
 refine bC (A:=Unit) aa (fun s a=>[(0,(pt D 0)),(1,(pt M 0)),(2,(pt O 0)),(31,(il B.Dims)),(32,(iv s.2))]) (fun s a=>aI D [(sc l i q),(sc u (List.replicate (j.length:Int).toNat (0:Int)) g),(iv p1.Offset),(iv p1.Base)] 96::OO kT3 3 l q i::ow kT3 3 (.slice u (List.replicate (j.length:Int).toNat (0:Int)).length g) s.1::L) () (aS R) (tE 3 [2,1,0]) ?_
 rintro ⟨Y,J⟩ _ σ1 a8 b a0
 dsimp only [Z05_L1] at b
 refine bT ?_
 split at b
 refine bF ?_
 refine bA (A:=((List Int))×(Unit)) (fun a=>Z05_J2 J a.1=some a8) (fun a=>[(0,(pt D 0)),(1,(pt M 0)),(2,(pt O 0)),(31,(il B.Dims)),(32,(iv J))]) (fun a=>aI D [(sc l i q),(sc u (List.replicate (j.length:Int).toNat (0:Int)) g),(iv p1.Offset),(iv p1.Base)] 96::OO kT3 3 l q i::ow kT3 3 (.slice u (List.replicate (j.length:Int).toNat (0:Int)).length g) a.1::L) ?_ ?_
 refine rM ?_
 obtain ⟨a1,b⟩:=gd b
 obtain ⟨a2,b⟩:=gd b
 refine aY 8 aA (show 0<B.Dims.length by have:=a1; omega) (fun ac o44 U=>?_)
 subst U
 refine aY 7 aA (show 0<j.length by have:=a2; omega) (fun ae o47 U=>?_)
 subst U
 refine cZ 10 [] bN fun ht hn=>?_
 refine nW 0 [] ?_
 refine dD (aJ ?_)
 split at b
 refine bU ?_
 obtain ⟨a3,b⟩:=gd b
 obtain ⟨F,b⟩:=gd b
 refine aY 9 aA (show 0<B.Strides.length by have:=a3; omega) (fun ag o51 U=>?_)
 subst U
 refine aY 2 aB (show 0<(List.replicate (j.length:Int).toNat (0:Int)).length by have:=F; omega) (fun T o54 U=>?_)
 subst U
 refine cZ 12 [2] bN fun ht hn=>?_
 refine nX 0 [2] ?_
 refine d1 11 R (lM (ow kT3 3 (.slice (ad T o54) (List.replicate (j.length:Int).toNat (0:Int)).length g) Y::aI D [(sc l i q),(sc (ad T o54) (List.replicate (j.length:Int).toNat (0:Int)) g),(iv p1.Offset),(iv p1.Base)] 96::ow _ _ _ _::L) (tE 3 [2,0,1]) ?_)
 refine dZ (K:=kT3) (x':=(ix B.Strides J)) 0 (aG ((aG ((j.length:Int) - (B.Dims.length:Int)))+J)) R R cC R R F.1 F.2 ?_ ?_
 exact fun I h s=>(gL).put I h () (ix B.Strides J) s
 refine aC (aE (sL [0]) (dD ?_))
 obtain ⟨a7,G,b⟩:=bd b
 replace G:=Option.some.inj G
 refine qM (ow kT3 3 (.slice (ad T o54) (List.replicate (j.length:Int).toNat (0:Int)).length g) a7::_::_::L) (fun w s=>by rw [← G]; exact s) ?_
 refine bU ?_
 exact qI (a7,()) b (tE 3 [1,2,0])
 refine hW ?_
 split at b
 refine cO ?_
 cases b
 obtain rfl:=a0 _ R
 have b:=a4
 refine aP ?_
 cases b
 exact qF ((l,i.length,q),(u,(List.replicate (j.length:Int).toNat (0:Int)).length,g)) (fun w s=>(((s.shr 1 R).shr 2 R).e 10 [1,0,2,3,4]))
 refine aP ?_
 exact qI (Y,()) b tI
 rintro ⟨ai,_⟩ σ1 b
 dsimp only [Z05_J2] at b
 refine bF ?_
 cases b
 exact qA () tI
 refine aP ?_
 cases b
 obtain rfl:=a0 _ R
 have b:=a4
 refine aR ?_
 exact cI (Y,()) b trivial tI
 rintro ⟨ah,_⟩ σ1 b
 dsimp only [Z05_J3] at b
 refine bT ?_
 cases b
 exact qF ((l,i.length,q),(u,(List.replicate (j.length:Int).toNat (0:Int)).length,g)) (fun w s=>(((s.shr 1 R).shr 2 R).e 10 [1,0,2,3,4]))
theorem Z38_ok  {v1:View}{q5:(List Int)}{E:View}{b6:Nat}{b9:Nat}{r:View}(B:Z38 v1 q5 E=some r) :
 FnOk Tryz.prog 165 [(.agg [(.slice A2 N2 D2),(.slice A3 N3 D3),(iv v1.Offset),(iv v1.Base)].toArray),(.func (.func 166) [].toArray [(pt b6 0),(pt b9 0)].toArray)] [aN kT3 (.slice A2 N2 D2) v1.Dims,aN kT3 (.slice A3 N3 D3) v1.Strides,aN kT3 (.slice A7 N7 D7) q5,aI b6 [(.slice A7 N7 D7)] 23,aN kT3 (.slice A10 N10 D10) E.Dims,aN kT3 (.slice A11 N11 D11) E.Strides,aI b9 [(.slice A10 N10 D10),(.slice A11 N11 D11),(iv E.Offset),(iv E.Base)] 96] (fun (h:HH×HH)=>((.agg [(s3 h.1),(s3 h.2),(iv r.Offset),(iv r.Base)].toArray),[aN kT3 (s3 h.1) r.Dims,aN kT3 (s3 h.2) r.Strides,aI b6 [(.slice A7 N7 D7)] 23,aI b9 [(.slice A10 N10 D10),(.slice A11 N11 D11),(iv E.Offset),(iv E.Base)] 96])):=by
 unfold Z38 at B
 refine aQ Tryz.func165 R 31 R R fun C V=>?_
 refine cM _ (tE 7 [3,6,0,1,2,4,5]) ?_
 refine cL 2 aA ?_
 rintro rfl
 refine cL 3 aA ?_
 rintro rfl
 refine cL 4 aA ?_
 rintro rfl
 refine cL 5 aA ?_
 rintro rfl
 refine cL 6 aA ?_
 rintro rfl
 let W0:=RR kT3 A2 D2 v1.Dims::RR kT3 A3 D3 v1.Strides::RR kT3 A7 D7 q5::RR kT3 A10 D10 E.Dims::RR kT3 A11 D11 E.Strides::V
 refine aR ?_
 refine eA R fun ae=>?_
 refine bD R R cX (fun F=>(aC (qM _ (tE 4 [0,2,3,1]) ?_)))
 let W1:=aI ae [(sc A2 v1.Dims D2),(sc A3 v1.Strides D3),(iv v1.Offset),(iv v1.Base)] 96::W0
 refine aP ?_
 obtain ⟨am,a4,B⟩:=bd B
 refine aR ?_
 refine lM _ (fun w s=>(((s.d 4 R).d 6 R).e 5 [1,0,2,3,4])) ?_
 refine lC 2 mj R (Zh_ok a4) R ?_
 rintro _
 refine aP ?_
 split at B
 refine aP ?_
 refine lO (vz (.agg [(.slice none 0 0),(.slice none 0 0),(iv 0),(iv 0)].toArray) (aW fD cX R R)) (aK 0 R R cD R R R R R R (aC (aJ (bY (cE ?_)))))
 cases B
 exact qS ((none,0,0),(none,0,0)) (fun w s=>(((s.nilr kT3).nilr kT3).e 11 [1,0,3,4]))
 refine bF ?_
 obtain ⟨g,U,B⟩:=bd B
 obtain ⟨i,G,B⟩:=bd B
 refine iN (A:=(Unit)×(Nat×HH×HH)) (fun _=>True) (fun a=>[(1,(.func (.func 166) [].toArray [(pt b6 0),(pt b9 0)].toArray)),(4,(pt F 0)),(5,(pt a.2.1 0))]) (fun a=>aI b6 [(sc A7 q5 D7)] 23::aI b9 [(sc A10 E.Dims D10),(sc A11 E.Strides D11),(iv E.Offset),(iv E.Base)] 96::aI F [(.slice none 0 0),(.slice none 0 0),(iv 0),(iv 0)] 96::aI a.2.1 [(s3 a.2.2.1),(s3 a.2.2.2),(iv v1.Offset),(iv v1.Base)] 96::ow kT3 3 (s3 a.2.2.1) g::ow kT3 3 (s3 a.2.2.2) i::W1) ?_ ?_
 refine cZ 13 [] bN fun ht T=>?_
 refine gN 0 [] ?_
 refine gN 3 [] ?_
 refine nV 6 [] ?_
 refine hL [2,11] (by kernel_rfl) R ⟨?_,?_,trivial⟩
 refine lM _ (fun w s=>(s.d 4 R)) ?_
 refine lC 1 j9 R (Zo_ok U) R ?_
 rintro ⟨m,a8,q⟩
 refine aL 0 aB ?_
 rintro rfl
 refine aC (aE (sL [0]) (hL [5,11] (by kernel_rfl) R ⟨?_,?_,trivial⟩))
 refine lM _ (fun w s=>(s.d 6 R)) ?_
 refine lC 1 j9 R (Zo_ok G) R ?_
 rintro ⟨j,a3,l⟩
 refine aL 0 aB ?_
 rintro rfl
 refine aC (aE (sL [1,0]) (dR 10 R (vz (.agg [(sc m g q),(sc j i l),(iv v1.Offset),(iv v1.Base)].toArray) (aW fD cX R R)) (hS:=(sL [1,0])) (d1 11 R (bD R R cX (fun D=>(aC (aE (sL [2,1,0]) (d1 12 R (aK 0 R R cD R R R R R R (lN (aI D [(sc m g q),(sc j i l),(iv v1.Offset),(iv v1.Base)] 96::_::_::_::_::_::W1) ?_))))))))))
 refine aC (aE (sL [2,1,0]) (dD ?_))
 exact cI ((),(D,(m,g.length,q),(j,i.length,l))) trivial (aS R) (tE 6 [4,5,3,0,2,1])
 refine bD R R cX (fun D=>(aC (aE (sL [1,0]) (d1 5 R (lM _ (fun w s=>(s.d 7 R)) ?_)))))
 refine lC 1 j9 R (Zo_ok G) R ?_
 rintro ⟨j,a3,l⟩
 refine aL 0 aB ?_
 rintro rfl
 refine aC (aE (sL [2,1,0]) (dR 10 R (vz (.agg [(sc m g q),(sc j i l),(iv v1.Offset),(iv v1.Base)].toArray) (aW fD cX R R)) (hS:=(sL [2,1,0])) (d1 12 R (aK 1 R R cD R R R R R R (lN (_::aI D [(sc m g q),(sc j i l),(iv v1.Offset),(iv v1.Base)] 96::_::_::_::_::W1) ?_)))))
 refine aC (aE (sL [2,1,0]) (dD ?_))
 exact cI ((),(D,(m,g.length,q),(j,i.length,l))) trivial (aS R) (tE 6 [4,5,3,1,2,0])
 refine bD R R cX (fun D=>(aC (aE (sL [0]) (d1 2 R (lM _ (fun w s=>(s.d 5 R)) ?_)))))
 refine lC 1 j9 R (Zo_ok U) R ?_
 rintro ⟨m,a8,q⟩
 refine aL 0 aB ?_
 rintro rfl
 refine aC (aE (sL [1,0]) (d1 5 R (lM _ (fun w s=>(s.d 7 R)) ?_)))
 refine lC 1 j9 R (Zo_ok G) R ?_
 rintro ⟨j,a3,l⟩
 refine aL 0 aB ?_
 rintro rfl
 refine aC (aE (sL [2,1,0]) (dR 10 R (vz (.agg [(sc m g q),(sc j i l),(iv v1.Offset),(iv v1.Base)].toArray) (aW fD cX R R)) (hS:=(sL [2,1,0])) (d1 12 R (aK 2 R R cD R R R R R R (lN (_::_::aI D [(sc m g q),(sc j i l),(iv v1.Offset),(iv v1.Base)] 96::_::_::_::W1) ?_)))))
 refine aC (aE (sL [2,1,0]) (dD ?_))
 exact cI ((),(D,(m,g.length,q),(j,i.length,l))) trivial (aS R) (tE 6 [4,5,3,2,1,0])
 rintro ⟨_,⟨a2,⟨ag,a9,ai⟩,⟨ah,aa,aj⟩⟩⟩ σ1 -
 refine hM 4 aB (fun (T:a9=g.length)=>?_)
 subst T
 refine hM 5 aB (fun (T:aa=i.length)=>?_)
 subst T
 refine aP ?_
 obtain ⟨b,a5,B⟩:=bd B
 obtain ⟨a7,a6,B⟩:=bd B
 refine iN (A:=(Unit)×(HH×HH)) (fun _=>True) (fun a=>[(4,(pt F 0)),(5,(pt a2 0)),(28,(.bool ((!b.1)||(!a7))))]) (fun a=>aI F [(.slice none 0 0),(.slice none 0 0),(iv 0),(iv 0)] 96::aI a2 [(s3 a.2.1),(s3 a.2.2),(iv b.2.Offset),(iv b.2.Base)] 96::aN kT3 (s3 a.2.1) b.2.Dims::aN kT3 (s3 a.2.2) b.2.Strides::aI b6 [(sc A7 q5 D7)] 23::aI b9 [(sc A10 E.Dims D10),(sc A11 E.Strides D11),(iv E.Offset),(iv E.Base)] 96::W1) ?_ ?_
 refine aH (lO (vp _ R) (iM (fun w s=>s.shr 4 R) (iM (fun w s=>s.shr 5 R) (lM _ (fun w s=>((((((s.d 1 R).d 1 R).d 11 R).d 13 R).d 15 R).e 11 [4,3,10,2,7,1,0,8,5,6,9])) ?_))))
 refine b' (fs:=[]) (cs:=[(pt b6 0),(pt b9 0)]) 8 R R yM R R (Z05_ok (p1:=(⟨g,i,v1.Offset,v1.Base⟩:View)) a5) R ?_
 rintro ⟨⟨Y,ak,a0⟩,⟨Z,al,a1⟩⟩
 refine aL 0 aA ?_
 rintro rfl
 refine aL 1 aA ?_
 rintro rfl
 refine aR ?_
 rcases bo (!b.1) with u | u
 refine aP ?_
 refine lO (eW (!a7) R u) (aC ?_)
 exact cI ((),((Y,b.2.Dims.length,a0),(Z,b.2.Strides.length,a1))) trivial (aS R) (tE 8 [7,2,0,1,3,4])
 refine lW (bZ u) (vz (.agg [(sc Y b.2.Dims a0),(sc Z b.2.Strides a1),(iv b.2.Offset),(iv b.2.Base)].toArray) (eC 2 gD cD R R R R)) (lM _ (fun w s=>(((s.d 0 R).d 2 R).f 10 [1,1,0,1,2,8])) ?_)
 refine bS 2 R (bZ u) mj R (Zh_ok (bG a6 (cK u))) R ?_
 rintro _
 refine bU ?_
 refine lO (fK R u R) (aC ?_)
 exact cI ((),((Y,b.2.Dims.length,a0),(Z,b.2.Strides.length,a1))) trivial (aS R) (tE 8 [7,2,0,1,3,4])
 rintro ⟨_,⟨⟨I,ab,L⟩,⟨J,ac,M⟩⟩⟩ σ1 -
 refine hM 2 aA (fun (T:ab=b.2.Dims.length)=>?_)
 subst T
 refine hM 3 aA (fun (T:ac=b.2.Strides.length)=>?_)
 subst T
 refine bU ?_
 rcases cR B with ⟨O,B⟩|⟨O,B⟩
 refine aP ?_
 refine lO (vz (.agg [(.slice none 0 0),(.slice none 0 0),(iv 0),(iv 0)].toArray) (aW fD cX R R)) (aK 0 R R cD R R R R R R (lN (_::aI a2 [(sc I b.2.Dims L),(sc J b.2.Strides M),(iv b.2.Offset),(iv b.2.Base)] 96::RR kT3 I L b.2.Dims::RR kT3 J M b.2.Strides::_::_::W1) ?_))
 refine bF ?_
 cases B
 exact qS ((none,0,0),(none,0,0)) (fun w s=>(((s.nilr kT3).nilr kT3).e 14 [1,0,6,7]))
 refine bP R O ?_
 refine cB ?_
 refine aK 0 R R cD R R R R R R (lN (aI F [(sc I b.2.Dims L),(sc J b.2.Strides M),(iv b.2.Offset),(iv b.2.Base)] 96::_::_::_::_::_::W1) ?_)
 refine aP ?_
 cases B
 exact qS ((I,b.2.Dims.length,L),(J,b.2.Strides.length,M)) (fun w s=>(s.f 12 [2,4]))
theorem Z2e_ok  {v1:View}{a:(List Int)}{r:View}(j:Z2e v1 a=some r) :
 FnOk Tryz.prog 159 [(.agg [(.slice A2 N2 D2),(.slice A3 N3 D3),(iv v1.Offset),(iv v1.Base)].toArray),(.slice A5 N5 D5)] [aN kT3 (.slice A2 N2 D2) v1.Dims,aN kT3 (.slice A3 N3 D3) v1.Strides,aN kT3 (.slice A5 N5 D5) a] (fun (h:HH×HH)=>((.agg [(.slice h.1.1 h.1.2.1 h.1.2.2),(.slice h.2.1 h.2.2.1 h.2.2.2),(iv r.Offset),(iv r.Base)].toArray),[aN kT3 (.slice h.1.1 h.1.2.1 h.1.2.2) r.Dims,aN kT3 (.slice h.2.1 h.2.2.1 h.2.2.2) r.Strides])):=by
 unfold Z2e at j
 refine aQ Tryz.func159 R 8 R R fun C V=>?_
 refine cN (_::_::_::V) ?_
 refine cL 0 aA ?_
 rintro rfl
 refine cL 1 aA ?_
 rintro rfl
 refine cL 2 aA ?_
 rintro rfl
 let i:List HP:=RR kT3 A2 D2 v1.Dims::RR kT3 A3 D3 v1.Strides::RR kT3 A5 D5 a::V
 refine cN i ?_
 refine aO (aH (eA R (fun m=>(eT (cs:=[(sc A5 a D5)]) R R R (fun q=>(bD R R cX (fun l=>(aC (aJ (aO ?_))))))))))
 obtain ⟨b,g,j⟩:=bd j
 refine aH (lO (vz (.agg [(sc A2 v1.Dims D2),(sc A3 v1.Strides D3),(iv v1.Offset),(iv v1.Base)].toArray) (eC 2 gD cD R R R R)) (lO (vp (.func (.func 166) [].toArray [(pt q 0),(pt m 0)].toArray) R) (lM (RR kT3 A2 D2 v1.Dims::RR kT3 A3 D3 v1.Strides::RR kT3 A5 D5 a::aI _ _ _::RR kT3 A2 D2 v1.Dims::RR kT3 A3 D3 v1.Strides::aI _ _ _::aI _ _ _::i) (fun w s=>((((((s.d 3 R).d 5 R).d 7 R).d 6 R).d 8 R).e 8 [4,3,2,6,1,0,7,5])) ?_)))
 refine lC 7 r' R (Z38_ok g) R ?_
 rintro ⟨⟨A11,N11,D11⟩,⟨A12,N12,D12⟩⟩
 refine lN (aN kT3 (.slice A11 N11 D11) b.Dims::aN kT3 (.slice A12 N12 D12) b.Strides::_::_::_::i) ?_
 refine aL 0 aA ?_
 rintro rfl
 refine aL 1 aA ?_
 rintro rfl
 refine aK 4 R R cD R R R R R R (lN (_::_::_::_::aI l [(sc A11 b.Dims D11),(sc A12 b.Strides D12),(iv b.Offset),(iv b.Base)] 96::i) ?_)
 refine aC (aJ (bY ?_))
 obtain rfl:=so j
 exact dF (vs:=[(.agg [(sc A11 b.Dims D11),(sc A12 b.Strides D12),(iv b.Offset),(iv b.Base)].toArray)]) (.inl R) ((A11,b.Dims.length,D11),(A12,b.Strides.length,D12)) R ⟨⟨4,l,_,_,R,R,.inl ⟨gD,cD,R⟩⟩,trivial⟩ R (fun w s=>(s.e 8 [0,1]))
theorem Z0w_ok  {v1:View}{e:Int}{b:Int}{g:Int}{q:Nat}{r:View}(m:Z0w v1 e b g=some r) :
 FnOk Tryz.prog 168 [(pt q 0),(iv e),(iv b),(iv g)] [ow kT3 3 (.slice A3 N3 D3) v1.Dims,ow kT3 3 (.slice A4 N4 D4) v1.Strides,aI q [(.slice A3 N3 D3),(.slice A4 N4 D4),(iv v1.Offset),(iv v1.Base)] 96] (fun (h:HH×HH)=>((.tuple [].toArray),[ow kT3 3 (s3 h.1) r.Dims,ow kT3 3 (s3 h.2) r.Strides,aI q [(s3 h.1),(s3 h.2),(iv r.Offset),(iv r.Base)] 96])):=by
 unfold Z0w at m
 refine aQ Tryz.func168 R 24 R R fun C V=>?_
 refine cL 0 aB ?_
 rintro rfl
 refine cL 1 aB ?_
 rintro rfl
 refine aO (bA (A:=(Int)×(Unit)) (fun a=>Z0w_J3 v1 e b a.1=some r) (fun a=>[(0,(pt q 0)),(1,(iv e)),(2,(iv b)),(3,(iv a.1))]) (fun a=>aI q [(sc A3 v1.Dims D3),(sc A4 v1.Strides D4),(iv v1.Offset),(iv v1.Base)] 96::OO kT3 3 A3 D3 v1.Dims::OO kT3 3 A4 D4 v1.Strides::V) ?_ ?_)
 refine cB ?_
 let E:=aI q [(sc A3 v1.Dims D3),(sc A4 v1.Strides D4),(iv v1.Offset),(iv v1.Base)] 96::V
 refine bU ?_
 split at m
 refine bF ?_
 exact qI ((0:Int),()) m (tE 3 [2,0,1])
 refine aR ?_
 exact qI (g,()) m (tE 3 [2,0,1])
 rintro ⟨i,_⟩ σ1 m
 dsimp only [Z0w_J3] at m
 obtain ⟨j,m⟩:=gd m
 obtain ⟨l,m⟩:=gd m
 refine aY 1 aB (show 0<v1.Dims.length by have:=j; omega) (fun u o12 D=>?_)
 subst D
 refine aY 2 aB (show 0<v1.Strides.length by have:=l; omega) (fun B o15 D=>?_)
 subst D
 refine cZ 16 [2,1] bN fun G F=>?_
 refine md 0 [2,1] ?_
 refine d1 13 R (lM _ (tE 3 [1,0,2]) ?_)
 refine dZ (K:=kT3) (x':=b) 0 e R R cC R R j.1 j.2 ?_ ?_
 exact fun I h s=>(gL).put I h () b s
 refine aC (aE (sL [2,0]) ?_)
 refine mA 14 [2,0] ?_
 refine d1 15 R (lM _ (tE 3 [2,0,1]) ?_)
 refine dZ (K:=kT3) (x':=i) 0 e R R cC R R l.1 l.2 ?_ ?_
 exact fun I h s=>(gL).put I h () i s
 refine aC (aE (sL [1,0]) (dD ?_))
 cases m
 exact zN (((ad u o12),v1.Dims.length,D3),((ad B o15),v1.Strides.length,D4)) (tE 3 [1,0,2])
theorem Z1f_ok  {p1:View}{q:Int}{D:Int}{l:Int}{e:Int}{m:Nat}{E:Nat}{F:Nat}{j:Nat}{b:Nat}{r:Bool×View×Int}(i:Z1f p1 q D l e=some r) :
 FnOk Tryz.prog 167 [(pt m 0),(pt E 0),(pt F 0),(pt j 0),(pt b 0)] [ow kT3 3 (.slice A3 N3 D3) p1.Dims,ow kT3 3 (.slice A4 N4 D4) p1.Strides,aI m [(.slice A3 N3 D3),(.slice A4 N4 D4),(iv p1.Offset),(iv p1.Base)] 96,aI E [(iv q)] 3,aI F [(iv D)] 3,aI j [(iv l)] 3,aI b [(iv e)] 3] (fun (h:HH×HH)=>((.bool r.1),[ow kT3 3 (s3 h.1) r.2.1.Dims,ow kT3 3 (s3 h.2) r.2.1.Strides,aI m [(s3 h.1),(s3 h.2),(iv r.2.1.Offset),(iv r.2.1.Base)] 96,aI E [(iv q)] 3,aI F [(iv D)] 3,aI j [(iv l)] 3,aI b [(iv r.2.2)] 3])):=by
 unfold Z1f at i
 refine aQ Tryz.func167 R 86 R R fun C V=>?_
 refine cL 0 aB ?_
 rintro rfl
 refine cL 1 aB ?_
 rintro rfl
 refine bF ?_
 refine qM _ (fun w s=>(s.f 7 [0,3,6,1,3,3])) ?_
 let I:=aI E [(iv q)] 3::aI F [(iv D)] 3::aI j [(iv l)] 3::V
 refine aP ?_
 obtain ⟨G,u,i⟩:=bd i
 refine cQ [(0,(pt m 0)),(1,(pt E 0)),(2,(pt F 0)),(3,(pt j 0)),(4,(pt b 0)),(24,(.bool (((!G)||(decide (D<1)))||(decide (D>4096)))))] (aI m [(sc A3 p1.Dims D3),(sc A4 p1.Strides D4),(iv p1.Offset),(iv p1.Base)] 96::OO kT3 3 A3 D3 p1.Dims::OO kT3 3 A4 D4 p1.Strides::aI b [(iv e)] 3::I) ?_ ?_
 rcases bo (!G) with L | L
 refine cZ 15 [] bN fun ht hn=>?_
 refine kb 0 [] ?_
 refine d1 5 R (lC 1 gO R (FnOk.lends (A':=[OO kT3 3 A3 D3 p1.Dims]) (A:=[RR kT3 A3 D3 p1.Dims]) (B:=[]) (Zl_ok u) ⟨aX,trivial⟩ (fun _=>trivial)) R ?_)
 rintro _
 refine aC (aE (sL []) ?_)
 refine uO 6 [] ?_
 refine dD ?_
 exact qj (tE 4 [2,0,1,3])
 rcases bo ((!G)||(decide (D<1))) with M | M
 refine cZ 15 [] bN fun ht hn=>?_
 refine kb 0 [] ?_
 refine d1 5 R (lC 1 gO R (FnOk.lends (A':=[OO kT3 3 A3 D3 p1.Dims]) (A:=[RR kT3 A3 D3 p1.Dims]) (B:=[]) (Zl_ok u) ⟨aX,trivial⟩ (fun _=>trivial)) R ?_)
 rintro _
 refine aC (aE (sL []) ?_)
 refine uO 6 [] ?_
 refine dD ?_
 exact qj (tE 4 [2,0,1,3])
 refine cZ 15 [] bN fun ht hn=>?_
 refine kb 0 [] ?_
 refine d1 5 R (lC 1 gO R (FnOk.lends (A':=[OO kT3 3 A3 D3 p1.Dims]) (A:=[RR kT3 A3 D3 p1.Dims]) (B:=[]) (Zl_ok u) ⟨aX,trivial⟩ (fun _=>trivial)) R ?_)
 rintro _
 refine aC (aE (sL []) ?_)
 refine uO 6 [] ?_
 refine dD ?_
 exact qj (tE 4 [2,0,1,3])
 rintro σ1
 refine bU ?_
 split at i
 refine cU ?_
 cases i
 exact qF ((A3,p1.Dims.length,D3),(A4,p1.Strides.length,D4)) (tE 7 [1,2,0,4,5,6,3])
 refine bF ?_
 obtain ⟨Z,i⟩:=gd i
 refine aY 1 aB (show 0<p1.Dims.length by have:=Z; omega) (fun g o20 ha=>?_)
 subst ha
 refine cZ 8 [] bN fun ht hn=>?_
 refine tO 0 [] ?_
 refine dD ?_
 refine aP ?_
 refine cQ [(0,(pt m 0)),(1,(pt E 0)),(2,(pt F 0)),(3,(pt j 0)),(4,(pt b 0)),(7,(iv (ix p1.Dims q))),(46,(.bool ((((decide (l<0))||(decide (l≥(ix p1.Dims q))))||(decide (e<(-4096:Int))))||(decide (e>4096)))))] (aI m [(sc (ad g o20) p1.Dims D3),(sc A4 p1.Strides D4),(iv p1.Offset),(iv p1.Base)] 96::OO kT3 3 (ad g o20) D3 p1.Dims::OO kT3 3 A4 D4 p1.Strides::aI b [(iv e)] 3::I) ?_ ?_
 refine bF ?_
 rcases bo (decide (l<0)) with O | O
 refine ka ?_
 exact qj tI
 refine cB ?_
 rcases bo ((decide (l<0))||(decide (l≥(ix p1.Dims q)))) with T | T
 refine cU ?_
 exact qj tI
 refine bF ?_
 rcases bo (((decide (l<0))||(decide (l≥(ix p1.Dims q))))||(decide (e<(-4096:Int)))) with U | U
 refine bF ?_
 exact qj tI
 refine bF ?_
 exact qj tI
 rintro σ1
 refine bU ?_
 split at i
 refine cU ?_
 cases i
 exact qF (((ad g o20),p1.Dims.length,D3),(A4,p1.Strides.length,D4)) (tE 7 [1,2,0,4,5,6,3])
 refine bF ?_
 refine bA (A:=(Int)×(Unit)) (fun a=>Z1f_J3 p1 q D l a.1=some r) (fun a=>[(0,(pt m 0)),(1,(pt E 0)),(2,(pt F 0)),(3,(pt j 0)),(4,(pt b 0))]) (fun a=>aI m [(sc (ad g o20) p1.Dims D3),(sc A4 p1.Strides D4),(iv p1.Offset),(iv p1.Base)] 96::OO kT3 3 (ad g o20) D3 p1.Dims::OO kT3 3 A4 D4 p1.Strides::aI b [(iv a.1)] 3::I) ?_ ?_
 refine bT ?_
 split at i
 refine ka ?_
 refine cQ [(0,(pt m 0)),(1,(pt E 0)),(2,(pt F 0)),(3,(pt j 0)),(4,(pt b 0)),(61,(.bool ((decide ((aG (l+(aG (e*(aG (D - 1))))))<0))||(decide ((aG (l+(aG (e*(aG (D - 1))))))≥(ix p1.Dims q))))))] (aI m [(sc (ad g o20) p1.Dims D3),(sc A4 p1.Strides D4),(iv p1.Offset),(iv p1.Base)] 96::OO kT3 3 (ad g o20) D3 p1.Dims::OO kT3 3 A4 D4 p1.Strides::aI b [(iv e)] 3::I) ?_ ?_
 refine bF ?_
 rcases bo (decide ((aG (l+(aG (e*(aG (D - 1))))))<0)) with Y | Y
 refine cB ?_
 exact qj tI
 refine cB ?_
 exact qj tI
 rintro σ1
 refine bU ?_
 split at i
 refine cU ?_
 cases i
 exact qF (((ad g o20),p1.Dims.length,D3),(A4,p1.Strides.length,D4)) (tE 7 [1,2,0,4,5,6,3])
 refine aR ?_
 exact qI (e,()) i tI
 refine aR ?_
 refine cP 3 R R cC R R R R R (lN (aI m [(sc (ad g o20) p1.Dims D3),(sc A4 p1.Strides D4),(iv p1.Offset),(iv p1.Base)] 96::OO kT3 3 (ad g o20) D3 p1.Dims::_::aI b [(iv 0)] 3::I) ?_)
 refine bU ?_
 exact qI ((0:Int),()) i tI
 rintro ⟨a7,_⟩ σ1 i
 dsimp only [Z1f_J3] at i
 refine bU ?_
 obtain ⟨a0,i⟩:=gd i
 refine aY 2 aB (show 0<p1.Strides.length by have:=a0; omega) (fun J o31 ha=>?_)
 subst ha
 refine cZ 8 [] bN fun ht hn=>?_
 refine tO 0 [] ?_
 refine dD (aJ (aO (cZ 11 [0] bN fun ht hn=>?_)))
 refine hO 0 [0] ?_
 refine hO 4 [0] ?_
 refine d1 3 R (lO (gH 0 fM R R R) (aC (aE (sL [0]) ?_)))
 refine hO 7 [0] ?_
 refine d1 10 R (cP 0 R R cC R R R R R (lN (aI m [(sc (ad g o20) p1.Dims D3),(sc (ad J o31) p1.Strides D4),(iv (aG (p1.Offset+(aG (l*(ix p1.Strides q)))))),(iv p1.Base)] 96::_::OO kT3 3 (ad J o31) D4 p1.Strides::aI b [(iv a7)] 3::I) ?_))
 refine aC (aE (sL [0]) (dD ?_))
 refine aR ?_
 obtain ⟨a2,a1,i⟩:=bd i
 refine dJ ?_
 refine lM _ (tE 4 [1,2,0,3]) ?_
 refine lC 3 s6 R (Z0w_ok (v1:=(⟨p1.Dims,p1.Strides,(aG (p1.Offset+(aG (l*(ix p1.Strides q))))),p1.Base⟩:View)) a1) R ?_
 rintro ⟨⟨a3,a8,a5⟩,⟨a4,a9,a6⟩⟩
 refine aL 0 aB ?_
 rintro rfl
 refine aL 1 aB ?_
 rintro rfl
 refine cU ?_
 cases i
 exact qF ((a3,a2.Dims.length,a5),(a4,a2.Strides.length,a6)) (fun w s=>(s.f 7 [0,3,4,3,3,1]))
theorem Z37_ok  {v1:View}{q5:Int}{q7:Int}{q9:Int}{a4:Int}{b6:Nat}{b8:Nat}{F:Nat}{G:Nat}{r:View×Int}(D:Z37 v1 q5 q7 q9 a4=some r) :
 FnOk Tryz.prog 165 [(.agg [(.slice A2 N2 D2),(.slice A3 N3 D3),(iv v1.Offset),(iv v1.Base)].toArray),(.func (.func 167) [].toArray [(pt b6 0),(pt b8 0),(pt F 0),(pt G 0)].toArray)] [aN kT3 (.slice A2 N2 D2) v1.Dims,aN kT3 (.slice A3 N3 D3) v1.Strides,aI b6 [(iv q5)] 3,aI b8 [(iv q7)] 3,aI F [(iv q9)] 3,aI G [(iv a4)] 3] (fun (h:HH×HH)=>((.agg [(s3 h.1),(s3 h.2),(iv r.1.Offset),(iv r.1.Base)].toArray),[ow kT3 3 (s3 h.1) r.1.Dims,ow kT3 3 (s3 h.2) r.1.Strides,aI b6 [(iv q5)] 3,aI b8 [(iv q7)] 3,aI F [(iv q9)] 3,aI G [(iv r.2)] 3])):=by
 unfold Z37 at D
 refine aQ Tryz.func165 R 31 R R fun C V=>?_
 refine cM _ (fun w s=>(s.f 6 [2,4,0,2])) ?_
 refine cL 4 aA ?_
 rintro rfl
 refine cL 5 aA ?_
 rintro rfl
 let W0:=RR kT3 A2 D2 v1.Dims::RR kT3 A3 D3 v1.Strides::V
 refine aR ?_
 refine eA R fun ah=>?_
 refine bD R R cX (fun O=>(aC (qM _ (tE 6 [0,2,3,4,5,1]) ?_)))
 let W1:=aI ah [(sc A2 v1.Dims D2),(sc A3 v1.Strides D3),(iv v1.Offset),(iv v1.Base)] 96::W0
 refine aP ?_
 obtain ⟨ao,a6,D⟩:=bd D
 refine aR ?_
 refine lM _ (fun w s=>(((s.d 6 R).d 8 R).f 7 [1,1,0,1,2,5])) ?_
 refine lC 2 mj R (Zh_ok a6) R ?_
 rintro _
 refine aP ?_
 split at D
 refine aP ?_
 refine lO (vz (.agg [(.slice none 0 0),(.slice none 0 0),(iv 0),(iv 0)].toArray) (aW fD cX R R)) (aK 0 R R cD R R R R R R (aC (aJ (bY (cE ?_)))))
 cases D
 exact qS ((none,0,0),(none,0,0)) (fun w s=>(((s.nilo kT3 3).nilo kT3 3).e 10 [1,0,3,4,5,6]))
 refine bF ?_
 obtain ⟨g,a2,D⟩:=bd D
 obtain ⟨i,T,D⟩:=bd D
 refine iN (A:=(Unit)×(Nat×HH×HH)) (fun _=>True) (fun a=>[(1,(.func (.func 167) [].toArray [(pt b6 0),(pt b8 0),(pt F 0),(pt G 0)].toArray)),(4,(pt O 0)),(5,(pt a.2.1 0))]) (fun a=>aI b6 [(iv q5)] 3::aI b8 [(iv q7)] 3::aI F [(iv q9)] 3::aI G [(iv a4)] 3::aI O [(.slice none 0 0),(.slice none 0 0),(iv 0),(iv 0)] 96::aI a.2.1 [(s3 a.2.2.1),(s3 a.2.2.2),(iv v1.Offset),(iv v1.Base)] 96::ow kT3 3 (s3 a.2.2.1) g::ow kT3 3 (s3 a.2.2.2) i::W1) ?_ ?_
 refine cZ 13 [] bN fun ht hn=>?_
 refine gN 0 [] ?_
 refine gN 3 [] ?_
 refine nV 6 [] ?_
 refine hL [2,11] (by kernel_rfl) R ⟨?_,?_,trivial⟩
 refine lM _ (fun w s=>(s.d 6 R)) ?_
 refine lC 1 j9 R (Zo_ok a2) R ?_
 rintro ⟨m,aa,q⟩
 refine aL 0 aB ?_
 rintro rfl
 refine aC (aE (sL [0]) (hL [5,11] (by kernel_rfl) R ⟨?_,?_,trivial⟩))
 refine lM _ (fun w s=>(s.d 8 R)) ?_
 refine lC 1 j9 R (Zo_ok T) R ?_
 rintro ⟨j,a5,l⟩
 refine aL 0 aB ?_
 rintro rfl
 refine aC (aE (sL [1,0]) (dR 10 R (vz (.agg [(sc m g q),(sc j i l),(iv v1.Offset),(iv v1.Base)].toArray) (aW fD cX R R)) (hS:=(sL [1,0])) (d1 11 R (bD R R cX (fun E=>(aC (aE (sL [2,1,0]) (d1 12 R (aK 0 R R cD R R R R R R (lN (aI E [(sc m g q),(sc j i l),(iv v1.Offset),(iv v1.Base)] 96::_::_::_::_::_::_::_::W1) ?_))))))))))
 refine aC (aE (sL [2,1,0]) (dD ?_))
 exact cI ((),(E,(m,g.length,q),(j,i.length,l))) trivial (aS R) (tE 8 [4,5,6,7,3,0,2,1])
 refine bD R R cX (fun E=>(aC (aE (sL [1,0]) (d1 5 R (lM _ (fun w s=>(s.d 9 R)) ?_)))))
 refine lC 1 j9 R (Zo_ok T) R ?_
 rintro ⟨j,a5,l⟩
 refine aL 0 aB ?_
 rintro rfl
 refine aC (aE (sL [2,1,0]) (dR 10 R (vz (.agg [(sc m g q),(sc j i l),(iv v1.Offset),(iv v1.Base)].toArray) (aW fD cX R R)) (hS:=(sL [2,1,0])) (d1 12 R (aK 1 R R cD R R R R R R (lN (_::aI E [(sc m g q),(sc j i l),(iv v1.Offset),(iv v1.Base)] 96::_::_::_::_::_::_::W1) ?_)))))
 refine aC (aE (sL [2,1,0]) (dD ?_))
 exact cI ((),(E,(m,g.length,q),(j,i.length,l))) trivial (aS R) (tE 8 [4,5,6,7,3,1,2,0])
 refine bD R R cX (fun E=>(aC (aE (sL [0]) (d1 2 R (lM _ (fun w s=>(s.d 7 R)) ?_)))))
 refine lC 1 j9 R (Zo_ok a2) R ?_
 rintro ⟨m,aa,q⟩
 refine aL 0 aB ?_
 rintro rfl
 refine aC (aE (sL [1,0]) (d1 5 R (lM _ (fun w s=>(s.d 9 R)) ?_)))
 refine lC 1 j9 R (Zo_ok T) R ?_
 rintro ⟨j,a5,l⟩
 refine aL 0 aB ?_
 rintro rfl
 refine aC (aE (sL [2,1,0]) (dR 10 R (vz (.agg [(sc m g q),(sc j i l),(iv v1.Offset),(iv v1.Base)].toArray) (aW fD cX R R)) (hS:=(sL [2,1,0])) (d1 12 R (aK 2 R R cD R R R R R R (lN (_::_::aI E [(sc m g q),(sc j i l),(iv v1.Offset),(iv v1.Base)] 96::_::_::_::_::_::W1) ?_)))))
 refine aC (aE (sL [2,1,0]) (dD ?_))
 exact cI ((),(E,(m,g.length,q),(j,i.length,l))) trivial (aS R) (tE 8 [4,5,6,7,3,2,1,0])
 rintro ⟨_,⟨a3,⟨ai,ab,ak⟩,⟨aj,ac,al⟩⟩⟩ σ1 -
 refine hM 6 aB (fun (hn:ab=g.length)=>?_)
 subst hn
 refine hM 7 aB (fun (hn:ac=i.length)=>?_)
 subst hn
 refine aP ?_
 obtain ⟨b,a7,D⟩:=bd D
 obtain ⟨a9,a8,D⟩:=bd D
 refine iN (A:=(Unit)×(HH×HH)) (fun _=>True) (fun a=>[(4,(pt O 0)),(5,(pt a3 0)),(28,(.bool ((!b.1)||(!a9))))]) (fun a=>aI O [(.slice none 0 0),(.slice none 0 0),(iv 0),(iv 0)] 96::aI a3 [(s3 a.2.1),(s3 a.2.2),(iv b.2.1.Offset),(iv b.2.1.Base)] 96::ow kT3 3 (s3 a.2.1) b.2.1.Dims::ow kT3 3 (s3 a.2.2) b.2.1.Strides::aI b6 [(iv q5)] 3::aI b8 [(iv q7)] 3::aI F [(iv q9)] 3::aI G [(iv b.2.2)] 3::W1) ?_ ?_
 refine aH (lO (vp _ R) (lM _ (fun w s=>(s.f 8 [6,2,5,1,0,5])) ?_))
 refine b' (fs:=[]) (cs:=[(pt b6 0),(pt b8 0),(pt F 0),(pt G 0)]) 7 R R yO R R (Z1f_ok (p1:=(⟨g,i,v1.Offset,v1.Base⟩:View)) a7) R ?_
 rintro ⟨⟨I,am,L⟩,⟨J,an,M⟩⟩
 refine aL 0 aB ?_
 rintro rfl
 refine aL 1 aB ?_
 rintro rfl
 refine aR ?_
 rcases bo (!b.1) with u | u
 refine aP ?_
 refine lO (eW (!a9) R u) (aC ?_)
 exact cI ((),((I,b.2.1.Dims.length,L),(J,b.2.1.Strides.length,M))) trivial (aS R) (tE 8 [7,2,0,1,3,4,5,6])
 refine lW (bZ u) (vz (.agg [(sc I b.2.1.Dims L),(sc J b.2.1.Strides M),(iv b.2.1.Offset),(iv b.2.1.Base)].toArray) (eC 2 gD cD R R R R)) (bS 2 R (bZ u) mj R (FnOk.lends (A':=[OO kT3 3 I L b.2.1.Dims,OO kT3 3 J M b.2.1.Strides]) (A:=[RR kT3 I L b.2.1.Dims,RR kT3 J M b.2.1.Strides]) (B:=[]) (Zh_ok (bG a8 (cK u))) ⟨aX,aX,trivial⟩ (fun _=>trivial)) R ?_)
 rintro _
 refine bU ?_
 refine lO (fK R u R) (aC ?_)
 exact cI ((),((I,b.2.1.Dims.length,L),(J,b.2.1.Strides.length,M))) trivial (aS R) (tE 8 [7,2,0,1,3,4,5,6])
 rintro ⟨_,⟨⟨U,ae,Z⟩,⟨Y,ag,a0⟩⟩⟩ σ1 -
 refine hM 2 aB (fun (hn:ae=b.2.1.Dims.length)=>?_)
 subst hn
 refine hM 3 aB (fun (hn:ag=b.2.1.Strides.length)=>?_)
 subst hn
 refine bU ?_
 rcases cR D with ⟨a1,D⟩|⟨a1,D⟩
 refine aP ?_
 refine lO (vz (.agg [(.slice none 0 0),(.slice none 0 0),(iv 0),(iv 0)].toArray) (aW fD cX R R)) (aK 0 R R cD R R R R R R (lN (_::aI a3 [(sc U b.2.1.Dims Z),(sc Y b.2.1.Strides a0),(iv b.2.1.Offset),(iv b.2.1.Base)] 96::OO kT3 3 U Z b.2.1.Dims::OO kT3 3 Y a0 b.2.1.Strides::_::_::_::_::W1) ?_))
 refine bF ?_
 cases D
 exact qS ((none,0,0),(none,0,0)) (fun w s=>(((s.nilo kT3 3).nilo kT3 3).e 13 [1,0,6,7,8,9]))
 refine bP R a1 ?_
 refine cB ?_
 refine aK 0 R R cD R R R R R R (lN (aI O [(sc U b.2.1.Dims Z),(sc Y b.2.1.Strides a0),(iv b.2.1.Offset),(iv b.2.1.Base)] 96::_::_::_::_::_::_::_::W1) ?_)
 refine aP ?_
 cases D
 exact qS ((U,b.2.1.Dims.length,Z),(Y,b.2.1.Strides.length,a0)) (fun w s=>(s.f 11 [2,6]))
theorem Z2d_ok  {v1:View}{b:Int}{I:Int}{a:Int}{g:Int}{r:View}(B:Z2d v1 b I a g=some r) :
 FnOk Tryz.prog 160 [(.agg [(.slice A2 N2 D2),(.slice A3 N3 D3),(iv v1.Offset),(iv v1.Base)].toArray),(iv b),(iv I),(iv a),(iv g)] [aN kT3 (.slice A2 N2 D2) v1.Dims,aN kT3 (.slice A3 N3 D3) v1.Strides] (fun (h:HH×HH)=>((.agg [(s3 h.1),(s3 h.2),(iv r.Offset),(iv r.Base)].toArray),[ow kT3 3 (s3 h.1) r.Dims,ow kT3 3 (s3 h.2) r.Strides])):=by
 unfold Z2d at B
 refine aQ Tryz.func160 R 14 R R fun C V=>?_
 refine cL 0 aA ?_
 rintro rfl
 refine cL 1 aA ?_
 rintro rfl
 let J:=RR kT3 A2 D2 v1.Dims::RR kT3 A3 D3 v1.Strides::V
 refine cN J ?_
 refine aR ?_
 refine eA R fun T=>?_
 refine eT (cs:=[(iv b)]) R R R (fun U=>(eT (cs:=[(iv I)]) R R R (fun D=>(eT (cs:=[(iv a)]) R R R (fun E=>(eT (cs:=[(iv g)]) R R R (fun F=>(bD R R cX (fun G=>(aC ?_))))))))))
 let O:=aI T [(sc A2 v1.Dims D2),(sc A3 v1.Strides D3),(iv v1.Offset),(iv v1.Base)] 96::J
 refine aR ?_
 obtain ⟨i,u,B⟩:=bd B
 refine aR ?_
 refine lO (vp (.func (.func 167) [].toArray [(pt U 0),(pt E 0),(pt D 0),(pt F 0)].toArray) R) (lM _ (fun w s=>(((s.d 6 R).d 8 R).e 7 [1,0,6,4,5,3,2])) ?_)
 refine lC 6 r' R (Z37_ok u) R ?_
 rintro ⟨⟨j,L,m⟩,⟨l,M,q⟩⟩
 refine aL 0 aB ?_
 rintro rfl
 refine aL 1 aB ?_
 rintro rfl
 refine aK 6 R R cD R R R R R R (lN (_::_::_::_::_::_::aI G [(sc j i.1.Dims m),(sc l i.1.Strides q),(iv i.1.Offset),(iv i.1.Base)] 96::O) ?_)
 refine aP ?_
 cases B
 exact qS ((j,i.1.Dims.length,m),(l,i.1.Strides.length,q)) (tE 10 [0,1])
theorem Z2l_ok  {v1:View}{a:Int}{b:Int}{u:Nat}{r:View}(i:Z2l v1 a b=some r) :
 FnOk Tryz.prog 170 [(pt u 0),(iv a),(iv b)] [ow kT3 3 (.slice A3 N3 D3) v1.Dims,ow kT3 3 (.slice A4 N4 D4) v1.Strides,aI u [(.slice A3 N3 D3),(.slice A4 N4 D4),(iv v1.Offset),(iv v1.Base)] 96] (fun (h:HH×HH)=>((.tuple [].toArray),[ow kT3 3 (.slice h.1.1 h.1.2.1 h.1.2.2) r.Dims,ow kT3 3 (.slice h.2.1 h.2.2.1 h.2.2.2) r.Strides,aI u [(.slice h.1.1 h.1.2.1 h.1.2.2),(.slice h.2.1 h.2.2.1 h.2.2.2),(iv r.Offset),(iv r.Base)] 96])):=by
 unfold Z2l at i
 refine aQ Tryz.func170 R 34 R R fun C V=>?_
 refine cN (_::_::_::V) ?_
 refine cL 0 aB ?_
 rintro rfl
 refine cL 1 aB ?_
 rintro rfl
 refine aO ?_
 obtain ⟨G,i⟩:=gd i
 refine aH (lP R (lP R (lP R (lO (fV 0 gE R) (lO (gH 2 cT R R R) (bQ (K:=kT3) (xs:=([(0:Int)]:List Int)) (vs:=[(iv 0)]) 0 R R bM cC gR R R R R R R ?_ R (fun A7 D7=>?_)))))))
 exact fun I h s=>(gL).list [((),(0:Int))] I h s
 refine lN (OO kT3 3 A7 D7 ([(0:Int)]:List Int)::_::_::aI u [(sc A3 v1.Dims D3),(sc A4 v1.Strides D4),(iv v1.Offset),(iv v1.Base)] 96::V) ?_
 refine lM (ow _ _ _ _::ow _ _ _ _::ow _ _ _ _::aI _ _ _::V) (fun w s=>(s.e 4 [1,0,2,3])) ?_
 refine eF (K:=kT3) 17592186044416 R R bM cC kc (Zr.zk zT3 gR) R R R R R R dP G (fun A9 D9=>(lN (OO kT3 3 A9 D9 (v1.Dims++([(0:Int)]:List Int))::_::_::V) ?_))
 refine lP R (lO (fV 0 gE R) (cP 2 R R fR R R R R R (lN (_::_::aI u [(sc A9 (v1.Dims++([(0:Int)]:List Int)) D9),(sc A4 v1.Strides D4),(iv v1.Offset),(iv v1.Base)] 96::V) ?_)))
 refine aC (aJ (aO ?_))
 obtain ⟨E,i⟩:=gd i
 refine aH (lP R (lP R (lP R (lO (fV 1 fW R) (lO (gH 2 cT R R R) (bQ (K:=kT3) (xs:=([(0:Int)]:List Int)) (vs:=[(iv 0)]) 0 R R bM cC gR R R R R R R ?_ R (fun A10 D10=>?_)))))))
 exact fun I h s=>(gL).list [((),(0:Int))] I h s
 refine lN (OO kT3 3 A10 D10 ([(0:Int)]:List Int)::_::_::_::V) ?_
 refine lM (ow _ _ _ _::ow _ _ _ _::ow _ _ _ _::aI _ _ _::V) (fun w s=>(s.e 4 [2,0,1,3])) ?_
 refine eF (K:=kT3) 17592186044416 R R bM cC kc (Zr.zk zT3 gR) R R R R R R dP E (fun A12 D12=>(lN (OO kT3 3 A12 D12 (v1.Strides++([(0:Int)]:List Int))::_::_::V) ?_))
 refine lP R (lO (fV 1 fW R) (cP 2 R R fR R R R R R (lN (_::_::aI u [(sc A9 (v1.Dims++([(0:Int)]:List Int)) D9),(sc A12 (v1.Strides++([(0:Int)]:List Int)) D12),(iv v1.Offset),(iv v1.Base)] 96::V) ?_)))
 refine aC (aJ ?_)
 obtain ⟨g,F,i⟩:=bd i
 refine aH (lP R (lP R (lP R (lO (fV 0 gE R) (lO (gH 2 cT R R R) (lO (m0 bM R) (lO (vL R R) (lI R (lI R (lM (ow _ _ _ _::ow _ _ _ _::aI _ _ _::V) (fun w s=>(s.e 3 [1,0,2])) ?_))))))))))
 refine lC 3 s6 R (Z0w_ok (v1:=(⟨(v1.Dims++([(0:Int)]:List Int)),(v1.Strides++([(0:Int)]:List Int)),v1.Offset,v1.Base⟩:View)) F) R ?_
 rintro ⟨⟨j,B,m⟩,⟨l,D,q⟩⟩
 refine lN (ow kT3 3 (.slice j B m) g.Dims::ow kT3 3 (.slice l D q) g.Strides::aI u [(.slice j B m),(.slice l D q),(iv g.Offset),(iv g.Base)] 96::V) ?_
 refine aL 0 aB ?_
 rintro rfl
 refine aL 1 aB ?_
 rintro rfl
 refine aC ?_
 obtain rfl:=so i
 exact dF (vs:=[]) (.inr R) ((j,g.Dims.length,m),(l,g.Strides.length,q)) R trivial R (fun w s=>s)
theorem Z1g_ok  {p1:View}{s:Int}{l:Int}{u:Int}{E:Nat}{F:Nat}{G:Nat}{g:Nat}{r:Bool×View×Int}(b:Z1g p1 s l u=some r) :
 FnOk Tryz.prog 169 [(pt E 0),(pt F 0),(pt G 0),(pt g 0)] [ow kT3 3 (.slice A3 N3 D3) p1.Dims,ow kT3 3 (.slice A4 N4 D4) p1.Strides,aI E [(.slice A3 N3 D3),(.slice A4 N4 D4),(iv p1.Offset),(iv p1.Base)] 96,aI F [(iv s)] 3,aI G [(iv l)] 3,aI g [(iv u)] 3] (fun (h:HH×HH)=>((.bool r.1),[ow kT3 3 (s3 h.1) r.2.1.Dims,ow kT3 3 (s3 h.2) r.2.1.Strides,aI E [(s3 h.1),(s3 h.2),(iv r.2.1.Offset),(iv r.2.1.Base)] 96,aI F [(iv s)] 3,aI G [(iv l)] 3,aI g [(iv r.2.2)] 3])):=by
 unfold Z1g at b
 refine aQ Tryz.func169 R 66 R R fun C V=>?_
 refine cL 0 aB ?_
 rintro rfl
 refine cL 1 aB ?_
 rintro rfl
 refine bF ?_
 refine qM _ (tE 6 [0,1,2,5,3,4]) ?_
 let W1:=aI F [(iv s)] 3::aI G [(iv l)] 3::V
 refine aP ?_
 obtain ⟨D,i,b⟩:=bd b
 obtain ⟨j,b⟩:=gd b
 refine cQ [(0,(pt E 0)),(1,(pt F 0)),(2,(pt G 0)),(3,(pt g 0)),(33,(.bool ((((!D)||(decide (l<1)))||(decide (u<1)))||(decide (l>(ix p1.Dims s))))))] (aI E [(sc A3 p1.Dims D3),(sc A4 p1.Strides D4),(iv p1.Offset),(iv p1.Base)] 96::OO kT3 3 A3 D3 p1.Dims::OO kT3 3 A4 D4 p1.Strides::aI g [(iv u)] 3::W1) ?_ ?_
 rcases bo (!D) with L | L
 refine cZ 26 [] bN fun Z Y=>?_
 refine kb 0 [] ?_
 refine d1 5 R (lC 1 gO R (FnOk.lends (A':=[OO kT3 3 A3 D3 p1.Dims]) (A:=[RR kT3 A3 D3 p1.Dims]) (B:=[]) (Zl_ok i) ⟨aX,trivial⟩ (fun _=>trivial)) R ?_)
 rintro _
 refine aC (aE (sL []) ?_)
 refine rO 6 [] ?_
 refine dD ?_
 exact qj (tE 4 [2,0,1,3])
 rcases bo ((!D)||(decide (l<1))) with M | M
 refine cZ 26 [] bN fun Z Y=>?_
 refine kb 0 [] ?_
 refine d1 5 R (lC 1 gO R (FnOk.lends (A':=[OO kT3 3 A3 D3 p1.Dims]) (A:=[RR kT3 A3 D3 p1.Dims]) (B:=[]) (Zl_ok i) ⟨aX,trivial⟩ (fun _=>trivial)) R ?_)
 rintro _
 refine aC (aE (sL []) ?_)
 refine rO 6 [] ?_
 refine dD ?_
 exact qj (tE 4 [2,0,1,3])
 rcases bo (((!D)||(decide (l<1)))||(decide (u<1))) with e | e
 refine cZ 26 [] bN fun Z Y=>?_
 refine kb 0 [] ?_
 refine d1 5 R (lC 1 gO R (FnOk.lends (A':=[OO kT3 3 A3 D3 p1.Dims]) (A:=[RR kT3 A3 D3 p1.Dims]) (B:=[]) (Zl_ok i) ⟨aX,trivial⟩ (fun _=>trivial)) R ?_)
 rintro _
 refine aC (aE (sL []) ?_)
 refine rO 6 [] ?_
 refine dD ?_
 exact qj (tE 4 [2,0,1,3])
 refine aY 0 aB (show 0<p1.Dims.length by have:=(j e); omega) (fun I o15 J=>?_)
 subst J
 refine cZ 26 [] bN fun Z Y=>?_
 refine kb 0 [] ?_
 refine d1 5 R (lC 1 gO R (FnOk.lends (A':=[OO kT3 3 (ad I o15) D3 p1.Dims]) (A:=[RR kT3 (ad I o15) D3 p1.Dims]) (B:=[]) (Zl_ok i) ⟨aX,trivial⟩ (fun _=>trivial)) R ?_)
 rintro _
 refine aC (aE (sL []) ?_)
 refine Ae 6 [] ?_
 refine dW 22 R (bZ e) (eI bM cC R R (j e)) (dW 23 R (bZ e) (gI 0 fM aB R (j e)) ?_)
 refine gN 24 [] ?_
 refine dD ?_
 exact qj (tE 4 [2,0,1,3])
 rintro σ1
 refine bU ?_
 split at b
 refine cU ?_
 cases b
 exact qF ((A3,p1.Dims.length,D3),(A4,p1.Strides.length,D4)) (tE 6 [1,2,0,4,5,3])
 refine bF ?_
 obtain ⟨O,b⟩:=gd b
 refine aY 2 aB (show 0<p1.Strides.length by have:=O; omega) (fun m o22 J=>?_)
 subst J
 refine cZ 8 [] bN fun Z Y=>?_
 refine tO 0 [] ?_
 refine dD ?_
 refine aR ?_
 obtain ⟨T,b⟩:=gd b
 obtain ⟨U,b⟩:=gd b
 refine aY 1 aB (show 0<p1.Dims.length by have:=T; omega) (fun q o25 J=>?_)
 subst J
 refine cZ 13 [] bN fun Z Y=>?_
 refine nW 0 [] ?_
 refine dR 10 R (vz (iv (aG ((aG ((ix p1.Dims s) - l)).tdiv u))) (mL R R U)) ?_
 refine gN 11 [] ?_
 refine dD (aJ (aO (bA (A:=(Int)×(Unit)) (fun a=>Z1g_J3 p1 s l u a.1=some r) (fun a=>[(0,(pt E 0)),(1,(pt F 0)),(2,(pt G 0)),(3,(pt g 0)),(6,(iv (ix p1.Strides s))),(7,(iv (aG ((aG ((aG ((ix p1.Dims s) - l)).tdiv u))+1))))]) (fun a=>aI E [(sc (ad q o25) p1.Dims D3),(sc (ad m o22) p1.Strides D4),(iv p1.Offset),(iv p1.Base)] 96::OO kT3 3 (ad q o25) D3 p1.Dims::OO kT3 3 (ad m o22) D4 p1.Strides::aI g [(iv a.1)] 3::W1) ?_ ?_)))
 refine bT ?_
 split at b
 refine aR ?_
 refine cP 3 R R cC R R R R R (lN (aI E [(sc (ad q o25) p1.Dims D3),(sc (ad m o22) p1.Strides D4),(iv p1.Offset),(iv p1.Base)] 96::OO kT3 3 (ad q o25) D3 p1.Dims::OO kT3 3 (ad m o22) D4 p1.Strides::aI g [(iv 0)] 3::W1) ?_)
 refine bU ?_
 exact qI ((0:Int),()) b tI
 refine aR ?_
 exact qI (u,()) b tI
 rintro ⟨ai,_⟩ σ1 b
 dsimp only [Z1g_J3] at b
 refine bU ?_
 obtain ⟨ah,a0,b⟩:=bd b
 refine dJ ?_
 refine lM _ (tE 4 [1,2,0,3]) ?_
 refine lC 3 s6 R (Z0w_ok a0) R ?_
 rintro ⟨⟨a7,ab,a9⟩,⟨a8,ac,aa⟩⟩
 refine aL 0 aB ?_
 rintro rfl
 refine aL 1 aB ?_
 rintro rfl
 refine aP ?_
 obtain ⟨a2,a1,b⟩:=bd b
 refine bF ?_
 refine lC 3 yQ R (Z2l_ok a1) R ?_
 rintro ⟨⟨a3,ae,a5⟩,⟨a4,ag,a6⟩⟩
 refine aL 0 aB ?_
 rintro rfl
 refine aL 1 aB ?_
 rintro rfl
 refine cU ?_
 cases b
 exact qF ((a3,a2.Dims.length,a5),(a4,a2.Strides.length,a6)) (tE 6 [0,1,2,4,5,3])
theorem Z39_ok  {v1:View}{q5:Int}{q7:Int}{q9:Int}{b6:Nat}{b8:Nat}{F:Nat}{r:View×Int}(D:Z39 v1 q5 q7 q9=some r) :
 FnOk Tryz.prog 165 [(.agg [(.slice A2 N2 D2),(.slice A3 N3 D3),(iv v1.Offset),(iv v1.Base)].toArray),(.func (.func 169) [].toArray [(pt b6 0),(pt b8 0),(pt F 0)].toArray)] [aN kT3 (.slice A2 N2 D2) v1.Dims,aN kT3 (.slice A3 N3 D3) v1.Strides,aI b6 [(iv q5)] 3,aI b8 [(iv q7)] 3,aI F [(iv q9)] 3] (fun (h:HH×HH)=>((.agg [(s3 h.1),(s3 h.2),(iv r.1.Offset),(iv r.1.Base)].toArray),[ow kT3 3 (s3 h.1) r.1.Dims,ow kT3 3 (s3 h.2) r.1.Strides,aI b6 [(iv q5)] 3,aI b8 [(iv q7)] 3,aI F [(iv r.2)] 3])):=by
 unfold Z39 at D
 refine aQ Tryz.func165 R 31 R R fun C V=>?_
 refine cM _ (fun w s=>(s.f 5 [2,3,0,2])) ?_
 refine cL 3 aA ?_
 rintro rfl
 refine cL 4 aA ?_
 rintro rfl
 let W0:=RR kT3 A2 D2 v1.Dims::RR kT3 A3 D3 v1.Strides::V
 refine aR ?_
 refine eA R fun ae=>?_
 refine bD R R cX (fun M=>(aC (qM _ (tE 5 [0,2,3,4,1]) ?_)))
 let W1:=aI ae [(sc A2 v1.Dims D2),(sc A3 v1.Strides D3),(iv v1.Offset),(iv v1.Base)] 96::W0
 refine aP ?_
 obtain ⟨am,a4,D⟩:=bd D
 refine aR ?_
 refine lM _ (fun w s=>(((s.d 5 R).d 7 R).e 6 [1,0,2,3,4,5])) ?_
 refine lC 2 mj R (Zh_ok a4) R ?_
 rintro _
 refine aP ?_
 split at D
 refine aP ?_
 refine lO (vz (.agg [(.slice none 0 0),(.slice none 0 0),(iv 0),(iv 0)].toArray) (aW fD cX R R)) (aK 0 R R cD R R R R R R (aC (aJ (bY (cE ?_)))))
 cases D
 exact qS ((none,0,0),(none,0,0)) (fun w s=>(((s.nilo kT3 3).nilo kT3 3).e 9 [1,0,3,4,5]))
 refine bF ?_
 obtain ⟨g,a1,D⟩:=bd D
 obtain ⟨i,O,D⟩:=bd D
 refine iN (A:=(Unit)×(Nat×HH×HH)) (fun _=>True) (fun a=>[(1,(.func (.func 169) [].toArray [(pt b6 0),(pt b8 0),(pt F 0)].toArray)),(4,(pt M 0)),(5,(pt a.2.1 0))]) (fun a=>aI b6 [(iv q5)] 3::aI b8 [(iv q7)] 3::aI F [(iv q9)] 3::aI M [(.slice none 0 0),(.slice none 0 0),(iv 0),(iv 0)] 96::aI a.2.1 [(s3 a.2.2.1),(s3 a.2.2.2),(iv v1.Offset),(iv v1.Base)] 96::ow kT3 3 (s3 a.2.2.1) g::ow kT3 3 (s3 a.2.2.2) i::W1) ?_ ?_
 refine cZ 13 [] bN fun ht hn=>?_
 refine gN 0 [] ?_
 refine gN 3 [] ?_
 refine nV 6 [] ?_
 refine hL [2,11] (by kernel_rfl) R ⟨?_,?_,trivial⟩
 refine lM _ (fun w s=>(s.d 5 R)) ?_
 refine lC 1 j9 R (Zo_ok a1) R ?_
 rintro ⟨m,a8,q⟩
 refine aL 0 aB ?_
 rintro rfl
 refine aC (aE (sL [0]) (hL [5,11] (by kernel_rfl) R ⟨?_,?_,trivial⟩))
 refine lM _ (fun w s=>(s.d 7 R)) ?_
 refine lC 1 j9 R (Zo_ok O) R ?_
 rintro ⟨j,a3,l⟩
 refine aL 0 aB ?_
 rintro rfl
 refine aC (aE (sL [1,0]) (dR 10 R (vz (.agg [(sc m g q),(sc j i l),(iv v1.Offset),(iv v1.Base)].toArray) (aW fD cX R R)) (hS:=(sL [1,0])) (d1 11 R (bD R R cX (fun E=>(aC (aE (sL [2,1,0]) (d1 12 R (aK 0 R R cD R R R R R R (lN (aI E [(sc m g q),(sc j i l),(iv v1.Offset),(iv v1.Base)] 96::_::_::_::_::_::_::W1) ?_))))))))))
 refine aC (aE (sL [2,1,0]) (dD ?_))
 exact cI ((),(E,(m,g.length,q),(j,i.length,l))) trivial (aS R) (tE 7 [4,5,6,3,0,2,1])
 refine bD R R cX (fun E=>(aC (aE (sL [1,0]) (d1 5 R (lM _ (fun w s=>(s.d 8 R)) ?_)))))
 refine lC 1 j9 R (Zo_ok O) R ?_
 rintro ⟨j,a3,l⟩
 refine aL 0 aB ?_
 rintro rfl
 refine aC (aE (sL [2,1,0]) (dR 10 R (vz (.agg [(sc m g q),(sc j i l),(iv v1.Offset),(iv v1.Base)].toArray) (aW fD cX R R)) (hS:=(sL [2,1,0])) (d1 12 R (aK 1 R R cD R R R R R R (lN (_::aI E [(sc m g q),(sc j i l),(iv v1.Offset),(iv v1.Base)] 96::_::_::_::_::_::W1) ?_)))))
 refine aC (aE (sL [2,1,0]) (dD ?_))
 exact cI ((),(E,(m,g.length,q),(j,i.length,l))) trivial (aS R) (tE 7 [4,5,6,3,1,2,0])
 refine bD R R cX (fun E=>(aC (aE (sL [0]) (d1 2 R (lM _ (fun w s=>(s.d 6 R)) ?_)))))
 refine lC 1 j9 R (Zo_ok a1) R ?_
 rintro ⟨m,a8,q⟩
 refine aL 0 aB ?_
 rintro rfl
 refine aC (aE (sL [1,0]) (d1 5 R (lM _ (fun w s=>(s.d 8 R)) ?_)))
 refine lC 1 j9 R (Zo_ok O) R ?_
 rintro ⟨j,a3,l⟩
 refine aL 0 aB ?_
 rintro rfl
 refine aC (aE (sL [2,1,0]) (dR 10 R (vz (.agg [(sc m g q),(sc j i l),(iv v1.Offset),(iv v1.Base)].toArray) (aW fD cX R R)) (hS:=(sL [2,1,0])) (d1 12 R (aK 2 R R cD R R R R R R (lN (_::_::aI E [(sc m g q),(sc j i l),(iv v1.Offset),(iv v1.Base)] 96::_::_::_::_::W1) ?_)))))
 refine aC (aE (sL [2,1,0]) (dD ?_))
 exact cI ((),(E,(m,g.length,q),(j,i.length,l))) trivial (aS R) (tE 7 [4,5,6,3,2,1,0])
 rintro ⟨_,⟨a2,⟨ag,a9,ai⟩,⟨ah,aa,aj⟩⟩⟩ σ1 -
 refine hM 5 aB (fun (hn:a9=g.length)=>?_)
 subst hn
 refine hM 6 aB (fun (hn:aa=i.length)=>?_)
 subst hn
 refine aP ?_
 obtain ⟨b,a5,D⟩:=bd D
 obtain ⟨a7,a6,D⟩:=bd D
 refine iN (A:=(Unit)×(HH×HH)) (fun _=>True) (fun a=>[(4,(pt M 0)),(5,(pt a2 0)),(28,(.bool ((!b.1)||(!a7))))]) (fun a=>aI M [(.slice none 0 0),(.slice none 0 0),(iv 0),(iv 0)] 96::aI a2 [(s3 a.2.1),(s3 a.2.2),(iv b.2.1.Offset),(iv b.2.1.Base)] 96::ow kT3 3 (s3 a.2.1) b.2.1.Dims::ow kT3 3 (s3 a.2.2) b.2.1.Strides::aI b6 [(iv q5)] 3::aI b8 [(iv q7)] 3::aI F [(iv b.2.2)] 3::W1) ?_ ?_
 refine aH (lO (vp _ R) (lM _ (fun w s=>(s.f 7 [5,2,4,1,0,4])) ?_))
 refine b' (fs:=[]) (cs:=[(pt b6 0),(pt b8 0),(pt F 0)]) 6 R R yR R R (Z1g_ok (p1:=(⟨g,i,v1.Offset,v1.Base⟩:View)) a5) R ?_
 rintro ⟨⟨G,ak,J⟩,⟨I,al,L⟩⟩
 refine aL 0 aB ?_
 rintro rfl
 refine aL 1 aB ?_
 rintro rfl
 refine aR ?_
 rcases bo (!b.1) with u | u
 refine aP ?_
 refine lO (eW (!a7) R u) (aC ?_)
 exact cI ((),((G,b.2.1.Dims.length,J),(I,b.2.1.Strides.length,L))) trivial (aS R) (tE 7 [6,2,0,1,3,4,5])
 refine lW (bZ u) (vz (.agg [(sc G b.2.1.Dims J),(sc I b.2.1.Strides L),(iv b.2.1.Offset),(iv b.2.1.Base)].toArray) (eC 2 gD cD R R R R)) (bS 2 R (bZ u) mj R (FnOk.lends (A':=[OO kT3 3 G J b.2.1.Dims,OO kT3 3 I L b.2.1.Strides]) (A:=[RR kT3 G J b.2.1.Dims,RR kT3 I L b.2.1.Strides]) (B:=[]) (Zh_ok (bG a6 (cK u))) ⟨aX,aX,trivial⟩ (fun _=>trivial)) R ?_)
 rintro _
 refine bU ?_
 refine lO (fK R u R) (aC ?_)
 exact cI ((),((G,b.2.1.Dims.length,J),(I,b.2.1.Strides.length,L))) trivial (aS R) (tE 7 [6,2,0,1,3,4,5])
 rintro ⟨_,⟨⟨T,ab,Y⟩,⟨U,ac,Z⟩⟩⟩ σ1 -
 refine hM 2 aB (fun (hn:ab=b.2.1.Dims.length)=>?_)
 subst hn
 refine hM 3 aB (fun (hn:ac=b.2.1.Strides.length)=>?_)
 subst hn
 refine bU ?_
 rcases cR D with ⟨a0,D⟩|⟨a0,D⟩
 refine aP ?_
 refine lO (vz (.agg [(.slice none 0 0),(.slice none 0 0),(iv 0),(iv 0)].toArray) (aW fD cX R R)) (aK 0 R R cD R R R R R R (lN (_::aI a2 [(sc T b.2.1.Dims Y),(sc U b.2.1.Strides Z),(iv b.2.1.Offset),(iv b.2.1.Base)] 96::OO kT3 3 T Y b.2.1.Dims::OO kT3 3 U Z b.2.1.Strides::_::_::_::W1) ?_))
 refine bF ?_
 cases D
 exact qS ((none,0,0),(none,0,0)) (fun w s=>(((s.nilo kT3 3).nilo kT3 3).e 12 [1,0,6,7,8]))
 refine bP R a0 ?_
 refine cB ?_
 refine aK 0 R R cD R R R R R R (lN (aI M [(sc T b.2.1.Dims Y),(sc U b.2.1.Strides Z),(iv b.2.1.Offset),(iv b.2.1.Base)] 96::_::_::_::_::_::_::W1) ?_)
 refine aP ?_
 cases D
 exact qS ((T,b.2.1.Dims.length,Y),(U,b.2.1.Strides.length,Z)) (fun w s=>(s.f 10 [2,5]))
theorem Z2f_ok  {v1:View}{a:Int}{b:Int}{g:Int}{r:View}(q:Z2f v1 a b g=some r) :
 FnOk Tryz.prog 161 [(.agg [(.slice A2 N2 D2),(.slice A3 N3 D3),(iv v1.Offset),(iv v1.Base)].toArray),(iv a),(iv b),(iv g)] [aN kT3 (.slice A2 N2 D2) v1.Dims,aN kT3 (.slice A3 N3 D3) v1.Strides] (fun (h:HH×HH)=>((.agg [(s3 h.1),(s3 h.2),(iv r.Offset),(iv r.Base)].toArray),[ow kT3 3 (s3 h.1) r.Dims,ow kT3 3 (s3 h.2) r.Strides])):=by
 unfold Z2f at q
 refine aQ Tryz.func161 R 12 R R fun C V=>?_
 refine cL 0 aA ?_
 rintro rfl
 refine cL 1 aA ?_
 rintro rfl
 let D:=RR kT3 A2 D2 v1.Dims::RR kT3 A3 D3 v1.Strides::V
 refine cN D ?_
 refine aR ?_
 refine eA R fun G=>?_
 refine eT (cs:=[(iv a)]) R R R (fun I=>(eT (cs:=[(iv b)]) R R R (fun J=>(eT (cs:=[(iv g)]) R R R (fun u=>(bD R R cX (fun B=>(aC ?_))))))))
 let F:=aI G [(sc A2 v1.Dims D2),(sc A3 v1.Strides D3),(iv v1.Offset),(iv v1.Base)] 96::D
 refine aR ?_
 obtain ⟨i,m,q⟩:=bd q
 refine aR ?_
 refine lO (vp (.func (.func 169) [].toArray [(pt I 0),(pt J 0),(pt u 0)].toArray) R) (lM _ (fun w s=>(((s.d 5 R).d 7 R).e 6 [1,0,5,4,3,2])) ?_)
 refine lC 5 r' R (Z39_ok m) R ?_
 rintro ⟨⟨A14,N14,D14⟩,⟨j,E,l⟩⟩
 refine aL 0 aB ?_
 rintro rfl
 refine aL 1 aB ?_
 rintro rfl
 refine aK 5 R R cD R R R R R R (lN (_::_::_::_::_::aI B [(sc A14 i.1.Dims D14),(sc j i.1.Strides l),(iv i.1.Offset),(iv i.1.Base)] 96::F) ?_)
 refine aP ?_
 cases q
 exact qS ((A14,i.1.Dims.length,D14),(j,i.1.Strides.length,l)) (tE 9 [0,1])
theorem Z19_ok  {l:Node}{F:(List Int)}{r:View}(i:Z19 l F=some r) :
 FnOk Tryz.prog 146 [(.agg [(iv l.Op),(.slice A2 N2 D2),(.slice A3 N3 D3),(.slice A4 N4 D4),(aD l.Form),(.slice A5 N5 D5)].toArray),(.slice A7 N7 D7)] [aN kT3 (.slice A2 N2 D2) l.Args,aN kT3 (.slice A3 N3 D3) l.Dims,aN kT3 (.slice A4 N4 D4) l.Ints,aN kT3 (.slice A5 N5 D5) l.Data,aN kT3 (.slice A7 N7 D7) F] (fun (h:HH×HH)=>((.agg [(.slice h.1.1 h.1.2.1 h.1.2.2),(.slice h.2.1 h.2.2.1 h.2.2.2),(iv r.Offset),(iv r.Base)].toArray),[aN kT3 (.slice h.1.1 h.1.2.1 h.1.2.2) r.Dims,aN kT3 (.slice h.2.1 h.2.2.1 h.2.2.2) r.Strides])):=by
 unfold Z19 at i
 refine aQ Tryz.func146 R 76 R R fun C V=>?_
 refine cN (_::_::_::_::_::V) ?_
 refine cL 0 aA ?_
 rintro rfl
 refine cL 1 aA ?_
 rintro rfl
 refine cL 2 aA ?_
 rintro rfl
 refine cL 3 aA ?_
 rintro rfl
 refine cL 4 aA ?_
 rintro rfl
 let W0:List HP:=RR kT3 A2 D2 l.Args::RR kT3 A3 D3 l.Dims::RR kT3 A4 D4 l.Ints::RR kT3 A5 D5 l.Data::RR kT3 A7 D7 F::V
 refine cN W0 ?_
 refine aO (aH (eA R (fun b8=>(bD R R cX (fun I=>(aC ?_))))))
 let G:List HP:=aI b8 [(iv l.Op),(sc A2 l.Args D2),(sc A3 l.Dims D3),(sc A4 l.Ints D4),(aD l.Form),(sc A5 l.Data D5)] 54::W0
 refine qN (_::G) ?_
 refine aJ (aO ?_)
 obtain ⟨a,ai,i⟩:=bd i
 refine aH (lS R (lM (RR kT3 A7 D7 F::_::G) (fun w s=>(s.d 6 R)) ?_))
 refine lC 1 yL R (Z2m_ok ai) R ?_
 rintro ⟨⟨A12,N12,D12⟩,⟨m,am,q⟩⟩
 refine lN (ow kT3 3 (.slice A12 N12 D12) a.Dims::ow kT3 3 (.slice m am q) a.Strides::_::G) ?_
 refine aL 0 aB ?_
 rintro rfl
 refine aL 1 aB ?_
 rintro rfl
 refine bD R R cX (fun J=>(aK 0 R R cD R R R R R R (lN (aI J [(sc A12 a.Dims D12),(sc m a.Strides q),(iv a.Offset),(iv a.Base)] 96::_::_::_::G) ?_)))
 refine aC (aJ (aO (eB (aO (aH (lO (fV 0 jE R) (lO (gH 4 fM R R R) (lO (ln R R) (lB R (aC (aJ ?_)))))))))))
 rcases cR i with ⟨L,i⟩|⟨L,i⟩
 refine cG R L (aO ?_)
 obtain ⟨u,aj,i⟩:=bd i
 refine aH (lO (vz (.agg [(sc A12 a.Dims D12),(sc m a.Strides q),(iv a.Offset),(iv a.Base)].toArray) (eC 0 gD cD R R R R)) (lO (fV 2 kX R) (lO (gH 4 cT R R R) (iM (fun w s=>s.shr 1 R) (iM (fun w s=>s.shr 2 R) (lM (RR kT3 A12 D12 a.Dims::RR kT3 m q a.Strides::RR kT3 A3 D3 l.Dims::RR kT3 m q a.Strides::RR kT3 A12 D12 a.Dims::aI _ _ _::aI _ _ _::G) (fun w s=>((((s.d 1 R).d 1 R).d 8 R).e 7 [2,1,0,3,4,5,6])) ?_))))))
 refine lC 3 yN R (Z2e_ok aj) R ?_
 rintro ⟨⟨Z,an,a5⟩,⟨a0,ao,a6⟩⟩
 refine lN (aN kT3 (.slice Z an a5) u.Dims::aN kT3 (.slice a0 ao a6) u.Strides::_::_::_::_::G) ?_
 refine aL 0 aA ?_
 rintro rfl
 refine aL 1 aA ?_
 rintro rfl
 refine aK 5 R R cD R R R R R R (lN (_::_::_::_::_::aI I [(sc Z u.Dims a5),(sc a0 u.Strides a6),(iv u.Offset),(iv u.Base)] 96::G) ?_)
 refine aC (aJ (bY (dB (cE ?_))))
 obtain rfl:=so i
 exact dF (vs:=[(.agg [(sc Z u.Dims a5),(sc a0 u.Strides a6),(iv u.Offset),(iv u.Base)].toArray)]) (.inl R) ((Z,u.Dims.length,a5),(a0,u.Strides.length,a6)) R ⟨⟨5,I,_,_,R,R,.inl ⟨gD,cD,R⟩⟩,trivial⟩ R (fun w s=>(s.e 12 [0,1]))
 refine bP R L (aO ?_)
 obtain ⟨T,i⟩:=gd i
 refine cQ [(2,(pt b8 0)),(4,(pt I 0)),(5,(pt J 0)),(16,(.bool (((l.Op==(14:Int))&&((l.Ints.length:Int)==(4:Int)))&&(decide ((ix l.Ints (3:Int))≥(1:Int))))))] (aI I [(.slice none 0 0),(.slice none 0 0),(iv 0),(iv 0)] 96::aI J [(sc A12 a.Dims D12),(sc m a.Strides q),(iv a.Offset),(iv a.Base)] 96::OO kT3 3 A12 D12 a.Dims::OO kT3 3 m q a.Strides::G) ?_ ?_
 refine aH (lO (fV 0 jE R) (lO (gH 4 fM R R R) (lO (ln R R) (lB R ?_))))
 rcases bo (l.Op==(14:Int)) with b | b
 refine lW (dI b) (fV 3 hH R) (lW (dI b) (gH 4 cT R R R) (lW (dI b) (m0 bM R) (lW (dI b) (ln R R) (lO (iy R b R) (lB R ?_)))))
 rcases bo ((l.Op==(14:Int))&&((l.Ints.length:Int)==(4:Int))) with g | g
 refine lW (dI g) (fV 3 hH R) (lW (dI g) (gH 4 cT R R R) (bB 7 aA (show 0<l.Ints.length by have:=(T g); omega) (fun av o22 ha=>?_)))
 subst ha
 refine lW (dI g) (eI bM cC R R (T g)) (lW (dI g) (gI 7 fM aA R (T g)) (lW (dI g) (zM R R) (lO (iy R g R) (lB R (aC ?_)))))
 exact qJ (fun w s=>(s.e 4 [3,0,1,2]))
 refine lf (nB g) (lf (nB g) (lf (nB g) (lf (nB g) (lf (nB g) (lO (jP (decide ((ix l.Ints (3:Int))≥(1:Int))) R g) (lB R (aC ?_)))))))
 exact qJ (fun w s=>(s.e 4 [3,0,1,2]))
 refine lf (nB b) (lf (nB b) (lf (nB b) (lf (nB b) (lO (jP ((l.Ints.length:Int)==(4:Int)) R b) (lB R (lf (nB (aF b)) (lf (nB (aF b)) (lf (nB (aF b)) (lf (nB (aF b)) (lf (nB (aF b)) (lO (jP (decide ((ix l.Ints (3:Int))≥(1:Int))) R (aF b)) (lB R (aC ?_)))))))))))))
 exact qJ (fun w s=>(s.e 4 [3,0,1,2]))
 rintro σ1
 refine aJ ?_
 rcases cR i with ⟨M,i⟩|⟨M,i⟩
 refine cG R M (aO ?_)
 obtain ⟨U,i⟩:=gd i
 obtain ⟨ab,i⟩:=gd i
 obtain ⟨ac,i⟩:=gd i
 obtain ⟨ae,i⟩:=gd i
 obtain ⟨D,ak,i⟩:=bd i
 refine aY 7 aA (show 0<l.Ints.length by have:=U; omega) (fun aw o28 ha=>?_)
 subst ha
 refine cZ 19 [0] bN (fun ht hn=>(dR 0 R (vz (.agg [(sc A12 a.Dims D12),(sc m a.Strides q),(iv a.Offset),(iv a.Base)].toArray) (eC 0 gD cD R R R R)) (hS:=(sL [0])) (dR 1 R (fV 3 hH R) (hS:=(sL [0])) (dR 2 R (gH 3 cT R R R) (hS:=(sL [0])) (dR 3 R (eI bM cC R R U) (hS:=(sL [0])) (dR 4 R (gI 6 fM aA R U) (hS:=(sL [0])) (dR 5 R (fV 3 hH R) (hS:=(sL [0])) (dR 6 R (gH 3 cT R R R) (hS:=(sL [0])) (dR 7 R (eI bM cC R R ab) (hS:=(sL [0])) (dR 8 R (gI 6 fM aA R ab) (hS:=(sL [0])) (dR 9 R (fV 3 hH R) (hS:=(sL [0])) (dR 10 R (gH 3 cT R R R) (hS:=(sL [0])) (dR 11 R (eI bM cC R R ac) (hS:=(sL [0])) (dR 12 R (gI 6 fM aA R ac) (hS:=(sL [0])) (dR 13 R (fV 3 hH R) (hS:=(sL [0])) (dR 14 R (gH 3 cT R R R) (hS:=(sL [0])) (dR 15 R (eI bM cC R R ae) (hS:=(sL [0])) (dR 16 R (gI 6 fM aA R ae) (hS:=(sL [0])) (d1 17 R (lM (OO kT3 3 A12 D12 a.Dims::OO kT3 3 m q a.Strides::aI I [(.slice none 0 0),(.slice none 0 0),(iv 0),(iv 0)] 96::aI _ _ _::G) (fun w s=>(s.e 4 [2,3,0,1])) ?_))))))))))))))))))))
 refine lC 2 yP R (FnOk.lends (A':=[OO kT3 3 A12 D12 a.Dims,OO kT3 3 m q a.Strides]) (A:=[RR kT3 A12 D12 a.Dims,RR kT3 m q a.Strides]) (B:=[]) (Z2d_ok ak) ⟨aX,aX,trivial⟩ (fun _=>⟨(bK j0),(bK j0),trivial⟩)) R ?_
 rintro ⟨⟨a1,ap,a7⟩,⟨a2,aq,a8⟩⟩
 refine lN (_::_::ow kT3 3 (.slice a1 ap a7) D.Dims::ow kT3 3 (.slice a2 aq a8) D.Strides::_::_::G) ?_
 refine aL 2 aB ?_
 rintro rfl
 refine aL 3 aB ?_
 rintro rfl
 refine aC (aE (fun w s=>(s.e 6 [5,0,1])) (d1 18 R (aK 4 R R cD R R R R R R (lN (_::_::_::_::aI I [(sc a1 D.Dims a7),(sc a2 D.Strides a8),(iv D.Offset),(iv D.Base)] 96::_::G) ?_))))
 refine aC (aE (fun w s=>(s.e 6 [5,0,1])) (dD (aJ (bY (dB (cE ?_))))))
 obtain rfl:=so i
 exact dF (vs:=[(.agg [(sc a1 D.Dims a7),(sc a2 D.Strides a8),(iv D.Offset),(iv D.Base)].toArray)]) (.inl R) ((a1,D.Dims.length,a7),(a2,D.Strides.length,a8)) R ⟨⟨4,I,_,_,R,R,.inl ⟨gD,cD,R⟩⟩,trivial⟩ R (fun w s=>(((s.shr 2 R).shr 3 R).e 12 [1,0]))
 refine bP R M (aO (cQ [(2,(pt b8 0)),(4,(pt I 0)),(5,(pt J 0)),(51,(.bool ((l.Op==(18:Int))&&((l.Ints.length:Int)==(3:Int)))))] (aI I [(.slice none 0 0),(.slice none 0 0),(iv 0),(iv 0)] 96::aI J [(sc A12 a.Dims D12),(sc m a.Strides q),(iv a.Offset),(iv a.Base)] 96::OO kT3 3 A12 D12 a.Dims::OO kT3 3 m q a.Strides::G) ?_ ?_))
 refine aH (lO (fV 0 jE R) (lO (gH 4 fM R R R) (lO (ln R R) (lB R ?_))))
 rcases bo (l.Op==(18:Int)) with j | j
 refine lW (dI j) (fV 3 hH R) (lW (dI j) (gH 4 cT R R R) (lW (dI j) (m0 bM R) (lW (dI j) (ln R R) (lO (iy R j R) (lB R (aC ?_))))))
 exact qJ (fun w s=>s)
 refine lf (nB j) (lf (nB j) (lf (nB j) (lf (nB j) (lO (jP ((l.Ints.length:Int)==(3:Int)) R j) (lB R (aC ?_))))))
 exact qJ (fun w s=>s)
 rintro σ1
 refine aJ ?_
 rcases cR i with ⟨O,i⟩|⟨O,i⟩
 refine cG R O (aO ?_)
 obtain ⟨Y,i⟩:=gd i
 obtain ⟨ag,i⟩:=gd i
 obtain ⟨ah,i⟩:=gd i
 obtain ⟨E,al,i⟩:=bd i
 refine aY 7 aA (show 0<l.Ints.length by have:=Y; omega) (fun ax o40 ha=>?_)
 subst ha
 refine cZ 15 [0] bN (fun ht hn=>(dR 0 R (vz (.agg [(sc A12 a.Dims D12),(sc m a.Strides q),(iv a.Offset),(iv a.Base)].toArray) (eC 0 gD cD R R R R)) (hS:=(sL [0])) (dR 1 R (fV 3 hH R) (hS:=(sL [0])) (dR 2 R (gH 3 cT R R R) (hS:=(sL [0])) (dR 3 R (eI bM cC R R Y) (hS:=(sL [0])) (dR 4 R (gI 6 fM aA R Y) (hS:=(sL [0])) (dR 5 R (fV 3 hH R) (hS:=(sL [0])) (dR 6 R (gH 3 cT R R R) (hS:=(sL [0])) (dR 7 R (eI bM cC R R ag) (hS:=(sL [0])) (dR 8 R (gI 6 fM aA R ag) (hS:=(sL [0])) (dR 9 R (fV 3 hH R) (hS:=(sL [0])) (dR 10 R (gH 3 cT R R R) (hS:=(sL [0])) (dR 11 R (eI bM cC R R ah) (hS:=(sL [0])) (dR 12 R (gI 6 fM aA R ah) (hS:=(sL [0])) (d1 13 R (lM (ow _ _ _ _::ow _ _ _ _::aI I [(.slice none 0 0),(.slice none 0 0),(iv 0),(iv 0)] 96::aI _ _ _::G) (fun w s=>(s.e 4 [2,3,0,1])) ?_))))))))))))))))
 refine lC 2 yS R (FnOk.lends (A':=[OO kT3 3 A12 D12 a.Dims,OO kT3 3 m q a.Strides]) (A:=[RR kT3 A12 D12 a.Dims,RR kT3 m q a.Strides]) (B:=[]) (Z2f_ok al) ⟨aX,aX,trivial⟩ (fun _=>⟨(bK j0),(bK j0),trivial⟩)) R ?_
 rintro ⟨⟨a3,ar,a9⟩,⟨a4,au,aa⟩⟩
 refine lN (_::_::ow kT3 3 (.slice a3 ar a9) E.Dims::ow kT3 3 (.slice a4 au aa) E.Strides::_::_::G) ?_
 refine aL 2 aB ?_
 rintro rfl
 refine aL 3 aB ?_
 rintro rfl
 refine aC (aE (fun w s=>(s.e 6 [5,0,1])) (d1 14 R (aK 4 R R cD R R R R R R (lN (_::_::_::_::aI I [(sc a3 E.Dims a9),(sc a4 E.Strides aa),(iv E.Offset),(iv E.Base)] 96::_::G) ?_))))
 refine aC (aE (fun w s=>(s.e 6 [5,0,1])) (dD (aJ (bY (dB (cE ?_))))))
 obtain rfl:=so i
 exact dF (vs:=[(.agg [(sc a3 E.Dims a9),(sc a4 E.Strides aa),(iv E.Offset),(iv E.Base)].toArray)]) (.inl R) ((a3,E.Dims.length,a9),(a4,E.Strides.length,aa)) R ⟨⟨4,I,_,_,R,R,.inl ⟨gD,cD,R⟩⟩,trivial⟩ R (fun w s=>(((s.shr 2 R).shr 3 R).e 12 [1,0]))
 refine bP R O (dL (eJ (aJ (aO (aH (lO (vz (.agg [(.slice none 0 0),(.slice none 0 0),(iv 0),(iv 0)].toArray) (aW fD cX R R)) (aK 0 R R cD R R R R R R (lN (aI I [(.slice none 0 0),(.slice none 0 0),(iv 0),(iv 0)] 96::_::_::_::G) ?_))))))))
 refine aC (aJ (bY ?_))
 obtain rfl:=so i
 exact dF (vs:=[(.agg [(.slice none 0 0),(.slice none 0 0),(iv 0),(iv 0)].toArray)]) (.inl R) ((none,0,0),(none,0,0)) R ⟨⟨0,I,_,_,R,R,.inl ⟨gD,cD,R⟩⟩,trivial⟩ R (fun w s=>(((s.nilr kT3).nilr kT3).e 12 [1,0]))
theorem Z36_ok  {e:(List Int)}{a:(List Int)}{b:Int}{r:(List Int)×Int×(List Int)}(m:Z36 e a b=some r) :
 FnOk Tryz.prog 157 [(.slice A2 N2 D2),(.slice A4 N4 D4),(iv b)] [aN kT3 (.slice A2 N2 D2) e,aN kT3 (.slice A4 N4 D4) a] (fun (h:HH×Nat×Nat×HH×Nat)=>((.func (.func 163) [].toArray [(pt h.2.1 0),(pt h.2.2.1 0),(pt h.2.2.2.2 0)].toArray),[aN kT3 (s3 h.1) r.1,aI h.2.1 [(s3 h.1)] 23,aI h.2.2.1 [(iv r.2.1)] 3,aN kT3 (s3 h.2.2.2.1) r.2.2,aI h.2.2.2.2 [(s3 h.2.2.2.1)] 23])):=by
 unfold Z36 at m
 refine aQ Tryz.func157 R 8 R R fun C V=>?_
 refine cL 0 aA ?_
 rintro rfl
 refine cL 1 aA ?_
 rintro rfl
 let l:=RR kT3 A2 D2 e::RR kT3 A4 D4 a::V
 refine cN l ?_
 refine aR ?_
 refine eT (cs:=[(sc A2 e D2)]) R R R (fun g=>(eT (cs:=[(sc A4 a D4)]) R R R (fun i=>(eT (cs:=[(iv b)]) R R R (fun j=>(lO (vp _ R) (aC ?_)))))))
 let q:=aI j [(iv b)] 3::aI i [(sc A4 a D4)] 23::aI g [(sc A2 e D2)] 23::l
 refine qN q ?_
 refine aP ?_
 refine lO (vp (.func (.func 163) [].toArray [(pt g 0),(pt j 0),(pt i 0)].toArray) R) (lO (vp _ R) ?_)
 refine aP ?_
 cases m
 exact qF ((A2,e.length,D2),g,j,(A4,a.length,D4),i) (tE 5 [3,2,0,4,1])
theorem Z03_ok  {F:Type}{YF:F→Int→Option (F×Bool)}{i:F}{l:(List Int)}{p5:Int}{M:(List Int)}{G:Nat}{b6:Nat}{J:Nat}{YE:F→HP}{yl:Nat}(hy:∀ s x q,YF s x=some q→A0 Tryz.prog yl [.int .i64 x] [YE s] (fun _:Unit=>(.bool q.2,[YE q.1]))){r:F}(b:Z03 F YF i l p5 M=some r) :
 FnOk Tryz.prog 163 [(.func (.yield yl) #[] #[]),(pt G 0),(pt b6 0),(pt J 0)] [YE i,aN kT3 (.slice A4 N4 D4) l,aI G [(.slice A4 N4 D4)] 23,aI b6 [(iv p5)] 3,aN kT3 (.slice A9 N9 D9) M,aI J [(.slice A9 N9 D9)] 23] (fun (h:Unit)=>((.tuple [].toArray),[YE r,aI G [(.slice A4 N4 D4)] 23,aI b6 [(iv p5)] 3,aI J [(.slice A9 N9 D9)] 23])):=by
 unfold Z03 at b
 refine aQ Tryz.func163 R 60 R R fun C V=>?_
 refine cM (YE i::aI _ _ _::aI _ _ _::aI _ _ _::aN _ _ _::aN _ _ _::V) (tE 6 [0,2,3,5,1,4]) ?_
 refine cL 4 aA ?_
 rintro rfl
 refine cL 5 aA ?_
 rintro rfl
 let W0:=RR kT3 A4 D4 l::RR kT3 A9 D9 M::V
 refine bU ?_
 obtain ⟨u,b⟩:=gd b
 refine aP ?_
 refine fH (K:=kT3) (m:=(l.length:Int)) (z:=(0:Int)) R R bM cC kc (Zr.zk zT3 gR) (by decide) R R u.1 u.2.1 u.2.2 (fun A11 D11=>(lS R (aC ?_)))
 let L:=aI G [(sc A4 l D4)] 23::aI b6 [(iv p5)] 3::aI J [(sc A9 M D9)] 23::W0
 refine cU ?_
 obtain ⟨e1,a7,a0⟩:=bd b
 refine bC (A:=Unit) a7 (fun s a=>[(0,(.func (.yield yl) #[] #[])),(1,(pt G 0)),(3,(pt J 0)),(5,(sc A11 (List.replicate (l.length:Int).toNat (0:Int)) D11)),(6,(iv s.2.1))]) (fun s a=>ow kT3 3 (.slice A11 (List.replicate (l.length:Int).toNat (0:Int)).length D11) s.1::YE s.2.2::L) () (aS R) tI ?_
 rintro ⟨D,ah,aa⟩ _ σ1 a4 b T
 dsimp only [Z03_L1] at b
 refine aP ?_
 obtain ⟨E,a2,b⟩:=bd b
 refine vN 2 R (fun _ _ h=>h) (lO (vp (.func (.yield yl) #[] #[]) R) (lI R (lM (YE aa::ow kT3 3 (.slice A11 (List.replicate (l.length:Int).toNat (0:Int)).length D11) D::L) (tE 2 [1,0]) ?_)))
 refine aC (tM 1 R R (hy _ _ _ a2) R (fun _ _ h=>h) R (fun _=>(lN (YE E.1::_::L) ?_)))
 refine aP ?_
 split at b
 refine bF ?_
 cases b
 obtain rfl:=T _ R
 have b:=a0
 refine aR ?_
 cases b
 exact zN () (tE 7 [0,2,3,4])
 refine iC ?_
 refine bA (A:=((List Int)×Int×Int)×(Unit)) (fun a=>Z03_J2 F YF E a.1.1 a.1.2.1 a.1.2.2=some a4) (fun a=>[(0,(.func (.yield yl) #[] #[])),(1,(pt G 0)),(3,(pt J 0)),(5,(sc A11 (List.replicate (l.length:Int).toNat (0:Int)) D11)),(6,(iv a.1.2.1)),(7,(iv a.1.2.2))]) (fun a=>ow kT3 3 (.slice A11 (List.replicate (l.length:Int).toNat (0:Int)).length D11) a.1.1::YE E.1::L) ?_ ?_
 refine bU ?_
 obtain ⟨e2,a8,a1⟩:=bd b
 refine bC (A:=Unit) a8 (fun s a=>[(0,(.func (.yield yl) #[] #[])),(1,(pt G 0)),(3,(pt J 0)),(5,(sc A11 (List.replicate (l.length:Int).toNat (0:Int)) D11)),(6,(iv s.2.1)),(7,(iv s.2.2))]) (fun s a=>ow kT3 3 (.slice A11 (List.replicate (l.length:Int).toNat (0:Int)).length D11) s.1::YE E.1::L) () (aS R) (tE 2 [1,0]) ?_
 rintro ⟨e,a5,g⟩ _ σ1 ab b U
 dsimp only [Z03_L2] at b
 refine dJ ?_
 split at b
 refine bT ?_
 obtain ⟨j,b⟩:=gd b
 refine aP ?_
 refine bB 0 aB (show 0<(List.replicate (l.length:Int).toNat (0:Int)).length by have:=j; omega) (fun a6 o80 O=>?_)
 subst O
 refine bF ?_
 refine dZ (K:=kT3) (x':=(aG ((ix e g)+1))) 0 g R R cC R R j.1 j.2 ?_ ?_
 exact fun I h s=>(gL).put I h () (aG ((ix e g)+1)) s
 refine aP ?_
 obtain ⟨Y,b⟩:=gd b
 refine bF ?_
 refine bB 6 aA (show 0<M.length by have:=Y; omega) (fun ac o83 O=>?_)
 subst O
 refine cU ?_
 obtain ⟨Z,b⟩:=gd b
 refine aY 5 aA (show 0<l.length by have:=Z; omega) (fun ae o86 O=>?_)
 subst O
 refine cZ 9 [] bN fun ht hn=>?_
 refine uO 0 [] ?_
 refine dD (aJ ?_)
 split at b
 refine aP ?_
 refine ri R (fB ?_)
 cases b
 obtain rfl:=U _ R
 have b:=a1
 refine aR ?_
 exact qI (((e.set g.toNat (aG ((ix e g)+1))),(aG (a5+(ix M g))),g),()) b tI
 refine bF ?_
 refine cZ 12 [] bN fun ht hn=>?_
 refine tP 0 [] ?_
 refine dD ?_
 refine cB ?_
 refine dZ (K:=kT3) (x':=(0:Int)) 0 g R R cC R R j.1 j.2 ?_ ?_
 exact fun I h s=>(gL).put I h () (0:Int) s
 refine bU ?_
 obtain ⟨a9,B,b⟩:=bd b
 replace B:=Option.some.inj B
 refine qM (ow kT3 3 (.slice (ad a6 o80) (List.replicate (l.length:Int).toNat (0:Int)).length D11) a9::_::L) (fun w s=>by rw [← B]; exact s) ?_
 refine dJ ?_
 cases b
 exact qA () tI
 refine aP ?_
 cases b
 obtain rfl:=U _ R
 have b:=a1
 refine aR ?_
 exact qI ((e,a5,g),()) b tI
 rintro ⟨⟨a3,ai,ag⟩,_⟩ σ1 b
 dsimp only [Z03_J2] at b
 refine bT ?_
 split at b
 refine aP ?_
 cases b
 obtain rfl:=T _ R
 have b:=a0
 refine aR ?_
 cases b
 exact zN () (fun w s=>(s.f 7 [1,4]))
 refine aP ?_
 cases b
 exact qA () tI
theorem Z2g_ok  {v1:View}{r:(List Int)×(List pair)×Bool}(i:Z2g v1=some r) :
 FnOk Tryz.prog 145 [(.agg [(.slice A2 N2 D2),(.slice A3 N3 D3),(iv v1.Offset),(iv v1.Base)].toArray)] [aN kT3 (.slice A2 N2 D2) v1.Dims,aN kT3 (.slice A3 N3 D3) v1.Strides] (fun (h:HH×HH)=>((.tuple [(s3 h.1),(s3 h.2),(.bool r.2.2)].toArray),[aN kT3 (s3 h.1) r.1,ow kT161 161 (s3 h.2) r.2.1])):=by
 unfold Z2g at i
 refine vO Tryz.func145 R 29 R R fun C V=>?_
 refine cL 0 aA ?_
 rintro rfl
 refine cL 1 aA ?_
 rintro rfl
 refine aR ?_
 refine eA R fun b4=>?_
 refine dJ ?_
 obtain ⟨r5,a5,i⟩:=bd i
 refine aR ?_
 refine lM _ (fun w s=>(((s.d 1 R).d 3 R).e 5 [1,0,2,3,4])) ?_
 refine lC 2 mj R (Zh_ok a5) R ?_
 rintro _
 refine aP ?_
 split at i
 refine cW ?_
 cases i
 exact hN ((none,0,0),(none,0,0)) (fun w s=>(((s.nilr kT3).nilo kT161 161).e 5 [1,0]))
 refine cB ?_
 refine bQ (K:=kT161) (xs:=([]:List pair)) (vs:=[]) 0 R R eZ fA eK R R R R R R ?_ R (fun A8 D8=>?_)
 exact fun I h s=>(iV).list [] I h s
 refine bD R R yT (fun Z=>(cP 0 R R s7 R R R R R (lN (aI Z [(sc A8 ([]:List pair) D8)] 147::_::_::_::_::V) ?_)))
 refine aR ?_
 refine vR ?_
 obtain ⟨g,a2,i⟩:=bd i
 refine dJ ?_
 refine lM _ (fun w s=>(((s.d 3 R).d 5 R).f 7 [1,1,0,1,2,5])) ?_
 refine lC 2 yU R (Z36_ok a2) R ?_
 rintro ⟨⟨m,a8,B⟩,T,U,⟨u,a9,D⟩,Y⟩
 refine aL 0 aA ?_
 rintro rfl
 refine aL 3 aA ?_
 rintro rfl
 refine bU ?_
 obtain ⟨F,a3,i⟩:=bd i
 let Ef:Nat→Loop→((List pair))→HP:=fun l G s=>pe fun a:HH=>tt l G::[aI b4 [(sc A2 v1.Dims D2),(sc A3 v1.Strides D3),(iv v1.Offset),(iv v1.Base)] 96,RR kT3 A2 D2 v1.Dims,RR kT3 A3 D3 v1.Strides,aI Z [(s3 a)] 147,ow kT161 161 (s3 a) s]
 refine tN (Wc:=[RR kT3 m B g.1,aI T [(sc m g.1 B)] 23,aI U [(iv g.2.1)] 3,RR kT3 u D g.2.2,aI Y [(sc u g.2.2 D)] 23,aI Z [(sc A8 ([]:List pair) D8)] 147,OO kT161 161 A8 D8 ([]:List pair),aI b4 [(sc A2 v1.Dims D2),(sc A3 v1.Strides D3),(iv v1.Offset),(iv v1.Base)] 96,RR kT3 A2 D2 v1.Dims,RR kT3 A3 D3 v1.Strides]) (E:=fun l G=>Ef l G ([]:List pair)) (E':=fun l G=>Ef l G F) (Pre':=[RR kT3 m B g.1,aI T [(sc m g.1 B)] 23,aI U [(iv g.2.1)] 3,RR kT3 u D g.2.2,aI Y [(sc u g.2.2 D)] 23]) (W3:=[]) (cp:=fun (_:Unit)=>[aI T [(sc m g.1 B)] 23,aI U [(iv g.2.1)] 3,aI Y [(sc u g.2.2 D)] 23]) (Wd:=fun a:HH=>[aI b4 [(sc A2 v1.Dims D2),(sc A3 v1.Strides D3),(iv v1.Offset),(iv v1.Base)] 96,RR kT3 A2 D2 v1.Dims,RR kT3 A3 D3 v1.Strides,aI Z [(s3 a)] 147,ow kT161 161 (s3 a) F]) R R yW (fun V w l G s=>St.pei (A8,([]:List pair).length,D8) ((s.f 11 [0,1,8,3,6,2,1,5]))) ?_ (fun V w l G x s=>let ⟨a,s⟩:=s.peo; ⟨a,s.e 9 [0,1,2,3,4,5]⟩) R ?_
 intro l G a1
 refine Z03_ok (YE:=Ef l G) (yl:=l) ?_ a3
 rintro b j q i
 dsimp only [Z3v] at i
 refine yok (fun a:HH=>[aI b4 [(sc A2 v1.Dims D2),(sc A3 v1.Strides D3),(iv v1.Offset),(iv v1.Base)] 96,RR kT3 A2 D2 v1.Dims,RR kT3 A3 D3 v1.Strides,aI Z [(s3 a)] 147,ow kT161 161 (s3 a) b]) (fun a:HH=>[aI b4 [(sc A2 v1.Dims D2),(sc A3 v1.Strides D3),(iv v1.Offset),(iv v1.Base)] 96,RR kT3 A2 D2 v1.Dims,RR kT3 A3 D3 v1.Strides,aI Z [(s3 a)] 147,ow kT161 161 (s3 a) q.1]) a1 R R R ?_
 rintro ⟨J,a4,M⟩
 apply Exists.intro
 intro C V
 refine ⟨?_,?_⟩
 refine bU ?_
 exact aC xN
 refine aL 4 aB ?_
 rintro rfl
 obtain ⟨a0,i⟩:=gd i
 refine bF ?_
 refine lO (vz (.agg [(iv j),(il b)].toArray) (aW ml eK R R)) (bQ (K:=kT161) (xs:=([(⟨j,(b.length:Int)⟩:pair)]:List pair)) (vs:=[(.agg [(iv j),(il b)].toArray)]) 0 R R eZ fA eK R R R R R R ?_ R (fun a6 a7=>?_))
 exact fun I h s=>(iV).list [(((),()),(⟨j,(b.length:Int)⟩:pair))] I h s
 refine lM _ (fun w s=>(s.f 6 [5,1,0,5])) ?_
 refine eF (K:=kT161) 8796093022208 R R eZ fA lj (Zr.zk zT161 eK) R R R R R R dP a0 (fun L O=>(lN (OO kT161 161 L O (b++([(⟨j,(b.length:Int)⟩:pair)]:List pair))::_::_::_::_::V) ?_))
 refine cP 4 R R s7 R R R R R (lN (_::_::_::_::aI Z [(sc L (b++([(⟨j,(b.length:Int)⟩:pair)]:List pair)) O)] 147::V) ?_)
 refine bU ?_
 cases i
 exact Ab (L,(b++([(⟨j,(b.length:Int)⟩:pair)]:List pair)).length,O) R (fun w s=>(s.f 5 [1,4,0,1]))
 rintro ⟨J,a4,M⟩ Dm V
 refine cL 4 aB ?_
 rintro rfl
 refine aO (cZ 6 [] bN fun ht hn=>?_)
 refine rN 0 [] ?_
 refine dD ?_
 refine aR ?_
 cases i
 exact vQ (dF (vs:=[(sc A2 v1.Dims D2),(sc J F M),(.bool true)]) (.inl R) ((A2,v1.Dims.length,D2),(J,F.length,M)) R ⟨R,R,R,trivial⟩ R (tE 5 [1,4]))
theorem Z2r_ok  {a:Node}{b:(List Int)}{r:(List Int)×(List pair)×Bool}(g:Z2r a b=some r) :
 FnOk Tryz.prog 124 [(.agg [(iv a.Op),(.slice A2 N2 D2),(.slice A3 N3 D3),(.slice A4 N4 D4),(aD a.Form),(.slice A5 N5 D5)].toArray),(.slice A7 N7 D7)] [aN kT3 (.slice A2 N2 D2) a.Args,aN kT3 (.slice A3 N3 D3) a.Dims,aN kT3 (.slice A4 N4 D4) a.Ints,aN kT3 (.slice A5 N5 D5) a.Data,aN kT3 (.slice A7 N7 D7) b] (fun (h:HH×HH)=>((.tuple [(s3 h.1),(s3 h.2),(.bool r.2.2)].toArray),[aN kT3 (s3 h.1) r.1,ow kT161 161 (s3 h.2) r.2.1])):=by
 unfold Z2r at g
 refine aQ Tryz.func124 R 14 R R fun C V=>?_
 refine cL 0 aA ?_
 rintro rfl
 refine cL 1 aA ?_
 rintro rfl
 refine cL 2 aA ?_
 rintro rfl
 refine cL 3 aA ?_
 rintro rfl
 refine cL 4 aA ?_
 rintro rfl
 let D:=RR kT3 A2 D2 a.Args::RR kT3 A3 D3 a.Dims::RR kT3 A4 D4 a.Ints::RR kT3 A5 D5 a.Data::RR kT3 A7 D7 b::V
 refine cN D ?_
 refine aR ?_
 refine eA R fun I=>?_
 refine bF ?_
 let G:=aI I [(iv a.Op),(sc A2 a.Args D2),(sc A3 a.Dims D3),(sc A4 a.Ints D4),(aD a.Form),(sc A5 a.Data D5)] 54::D
 refine qN G ?_
 refine aR ?_
 obtain ⟨J,i,g⟩:=bd g
 obtain ⟨l,j,g⟩:=bd g
 refine aP ?_
 refine lM _ (fun w s=>((((((s.d 1 R).d 3 R).d 5 R).d 7 R).d 9 R).e 5 [4,3,2,1,0])) ?_
 refine lC 5 yX R (Z19_ok i) R ?_
 rintro ⟨⟨A11,N11,D11⟩,⟨A12,N12,D12⟩⟩
 refine aL 0 aA ?_
 rintro rfl
 refine aL 1 aA ?_
 rintro rfl
 refine lM _ (fun w s=>(((s.d 0 R).d 2 R).e 4 [1,0,2,3])) ?_
 refine lC 2 yY R (Z2g_ok j) R ?_
 rintro ⟨⟨m,E,u⟩,⟨q,F,B⟩⟩
 refine aL 0 aA ?_
 rintro rfl
 refine aL 1 aB ?_
 rintro rfl
 refine cO ?_
 cases g
 exact hN ((m,l.1.length,u),(q,l.2.1.length,B)) (tE 10 [0,1])
theorem Z1p_ok  {k1:shiftKind}{b:Node}{a:(List (List Int))}{r:(List Int)×Bool}(i:Z1p k1 b a=some r) :
 FnOk Tryz.prog 220 [(.agg [(aD k1.use),(.func (.func 124) [].toArray [].toArray)].toArray),(.agg [(iv b.Op),(.slice A3 N3 D3),(.slice A4 N4 D4),(.slice A5 N5 D5),(aD b.Form),(.slice A6 N6 D6)].toArray),(.slice A8 N8 D8)] [aN kT3 (.slice A3 N3 D3) b.Args,aN kT3 (.slice A4 N4 D4) b.Dims,aN kT3 (.slice A5 N5 D5) b.Ints,aN kT3 (.slice A6 N6 D6) b.Data,aN bL (.slice A8 N8 D8) a] (fun (h:HH)=>((.tuple [(s3 h),(.bool r.2)].toArray),[aN kT3 (s3 h) r.1])):=by
 unfold Z1p at i
 refine aQ Tryz.func220 R 27 R R fun C V=>?_
 refine cL 0 aA ?_
 rintro rfl
 refine cL 1 aA ?_
 rintro rfl
 refine cL 2 aA ?_
 rintro rfl
 refine cL 3 aA ?_
 rintro rfl
 refine cL 4 aA ?_
 rintro rfl
 let B:=RR kT3 A3 D3 b.Args::RR kT3 A4 D4 b.Dims::RR kT3 A5 D5 b.Ints::RR kT3 A6 D6 b.Data::RR bL A8 D8 a::V
 refine cN B ?_
 refine aR ?_
 refine eA R fun M=>?_
 refine eA R fun q=>?_
 refine aP ?_
 let L:=aI q [(iv b.Op),(sc A3 b.Args D3),(sc A4 b.Dims D4),(sc A5 b.Ints D5),(aD b.Form),(sc A6 b.Data D6)] 54::aI M [(aD k1.use),(.func (.func 124) [].toArray [].toArray)] 145::B
 refine qN L ?_
 refine cO ?_
 split at i
 refine cO ?_
 cases i
 exact jl (none,0,0) (fun w s=>((s.nilr kT3).e 8 [0]))
 refine bF ?_
 obtain ⟨g,i⟩:=gd i
 obtain ⟨u,j,i⟩:=bd i
 refine aY 6 aA (show 0<a.length by have:=g; omega) (fun O o14 T=>?_)
 subst T
 refine dE (K:=bL) 6 (0:Int) dT23.dec R g.1 g.2 ?_
 rintro ⟨D,F⟩
 refine cZ 14 [] bN fun Y U=>?_
 refine kb 0 [] ?_
 refine dR 5 R (eG (fo:=0) 0 cT R R R) (d1 6 R (lM _ (fun w s=>((((((s.d 4 R).d 6 R).d 8 R).d 10 R).d 5 R).e 7 [4,3,2,1,0,5,6])) ?_))
 refine b' (fs:=[]) (cs:=[]) 5 R R yZ R R (Z2r_ok j) R ?_
 rintro ⟨⟨l,I,m⟩,⟨E,J,G⟩⟩
 refine aL 0 aA ?_
 rintro rfl
 refine aL 1 aB ?_
 rintro rfl
 refine aC (aE (sL [1,0]) (dR 7 R (vT R) (hS:=(sL [1,0])) ?_))
 refine rN 8 [1,0] ?_
 refine dD ?_
 refine cW ?_
 cases i
 exact jl (l,u.1.length,m) (tE 11 [0])
theorem Z0x_ok  {l:Node}{j:(List Int)}{r:(List Int)×(List pair)×Bool}(i:Z0x l j=some r) :
 FnOk Tryz.prog 125 [(.agg [(iv l.Op),(.slice A2 N2 D2),(.slice A3 N3 D3),(.slice A4 N4 D4),(aD l.Form),(.slice A5 N5 D5)].toArray),(.slice A7 N7 D7)] [aN kT3 (.slice A2 N2 D2) l.Args,aN kT3 (.slice A3 N3 D3) l.Dims,aN kT3 (.slice A4 N4 D4) l.Ints,aN kT3 (.slice A5 N5 D5) l.Data,aN kT3 (.slice A7 N7 D7) j] (fun (h:HH×HH)=>((.tuple [(s3 h.1),(s3 h.2),(.bool r.2.2)].toArray),[aN kT3 (s3 h.1) r.1,ow kT161 161 (s3 h.2) r.2.1])):=by
 unfold Z0x at i
 refine aQ Tryz.func125 R 37 R R fun C V=>?_
 refine cL 0 aA ?_
 rintro rfl
 refine cL 1 aA ?_
 rintro rfl
 refine cL 2 aA ?_
 rintro rfl
 refine cL 3 aA ?_
 rintro rfl
 refine cL 4 aA ?_
 rintro rfl
 let W0:=RR kT3 A2 D2 l.Args::RR kT3 A3 D3 l.Dims::RR kT3 A4 D4 l.Ints::RR kT3 A5 D5 l.Data::RR kT3 A7 D7 j::V
 refine cN W0 ?_
 refine aR ?_
 refine eA R fun M=>?_
 refine bF ?_
 let u:=aI M [(iv l.Op),(sc A2 l.Args D2),(sc A3 l.Dims D3),(sc A4 l.Ints D4),(aD l.Form),(sc A5 l.Data D5)] 54::W0
 refine qN u ?_
 refine aP ?_
 obtain ⟨r9,F,i⟩:=bd i
 obtain ⟨a6,G,i⟩:=bd i
 obtain ⟨a7,J,i⟩:=bd i
 refine cQ [(1,(sc A7 j D7)),(2,(pt M 0)),(20,(.bool ((!r9)||(a6 != a7))))] (u) ?_ ?_
 refine aP ?_
 refine lM _ (fun w s=>(s.d 2 R)) ?_
 refine lC 1 iW R (Zc_ok F) R ?_
 rintro _
 refine lN u ?_
 refine aR ?_
 rcases bo (!r9) with m | m
 refine cU ?_
 exact qj tI
 refine aR ?_
 refine lM _ (fun w s=>(s.d 2 R)) ?_
 refine bS 1 R (bZ m) jp R (Zm_ok (bG G (cK m))) R ?_
 rintro _
 refine lN u ?_
 refine bU ?_
 refine lM _ (fun w s=>(s.d 5 R)) ?_
 refine bS 1 R (bZ m) jp R (Zm_ok (bG J (cK m))) R ?_
 rintro _
 refine lN u ?_
 refine aP ?_
 exact qj tI
 rintro σ1
 refine bU ?_
 split at i
 refine cW ?_
 cases i
 exact hN ((none,0,0),(none,0,0)) (fun w s=>(((s.nilr kT3).nilo kT161 161).e 8 [1,0]))
 refine cB ?_
 refine bQ (K:=kT161) (xs:=([]:List pair)) (vs:=[]) 0 R R eZ fA eK R R R R R R ?_ R (fun O Y=>?_)
 exact fun I h s=>(iV).list [] I h s
 refine bF ?_
 refine bA (A:=((List pair))×(HH)) (fun a=>Z0x_J1 l a.1=some r) (fun a=>[(2,(pt M 0)),(7,(s3 a.2))]) (fun a=>ow kT161 161 (s3 a.2) a.1::u) ?_ ?_
 refine bU ?_
 obtain ⟨a8,L,i⟩:=bd i
 refine aR ?_
 refine lM _ (fun w s=>(s.d 6 R)) ?_
 refine lC 1 jp R (Zm_ok L) R ?_
 rintro _
 refine bF ?_
 obtain ⟨e1,a5,a4⟩:=bd i
 refine bC (A:=HH) a5 (fun s a=>[(2,(pt M 0)),(7,(s3 a)),(23,(iv a8)),(24,(iv s.2))]) (fun s a=>ow kT161 161 (s3 a) s.1::u) (O,([]:List pair).length,Y) (aS R) tI ?_
 rintro ⟨b,g⟩ ⟨T,a1,Z⟩ σ1 a9 i a3
 dsimp only [Z0x_L1] at i
 refine bJ 0 aB (fun (hn:a1=b.length)=>?_)
 subst hn
 refine bT ?_
 split at i
 refine hW ?_
 obtain ⟨E,i⟩:=gd i
 refine bF ?_
 refine lO (vz (.agg [(iv g),(iv g)].toArray) (aW ml eK R R)) (bQ (K:=kT161) (xs:=([(⟨g,g⟩:pair)]:List pair)) (vs:=[(.agg [(iv g),(iv g)].toArray)]) 0 R R eZ fA eK R R R R R R ?_ R (fun aa ab=>?_))
 exact fun I h s=>(iV).list [(((),()),(⟨g,g⟩:pair))] I h s
 refine lM _ (tE 2 [1,0]) ?_
 refine eF (K:=kT161) 8796093022208 R R eZ fA lj (Zr.zk zT161 eK) R R R R R R dP E (fun B D=>(lN (OO kT161 161 B D (b++([(⟨g,g⟩:pair)]:List pair))::u) ?_))
 refine cU ?_
 cases i
 exact qA (B,(b++([(⟨g,g⟩:pair)]:List pair)).length,D) tI
 refine aP ?_
 cases i
 obtain rfl:=a3 _ R
 have i:=a4
 refine aR ?_
 exact qI (b,(T,b.length,Z)) i tI
 rintro ⟨q,⟨U,a2,a0⟩⟩ σ1 i
 dsimp only [Z0x_J1] at i
 refine bJ 0 aB (fun (hn:a2=q.length)=>?_)
 subst hn
 refine hW ?_
 cases i
 exact hN ((A3,l.Dims.length,D3),(U,q.length,a0)) (tE 7 [3,0])
theorem Z22_ok  {k1:shiftKind}{b:Node}{a:(List (List Int))}{r:(List Int)×Bool}(i:Z22 k1 b a=some r) :
 FnOk Tryz.prog 220 [(.agg [(aD k1.use),(.func (.func 125) [].toArray [].toArray)].toArray),(.agg [(iv b.Op),(.slice A3 N3 D3),(.slice A4 N4 D4),(.slice A5 N5 D5),(aD b.Form),(.slice A6 N6 D6)].toArray),(.slice A8 N8 D8)] [aN kT3 (.slice A3 N3 D3) b.Args,aN kT3 (.slice A4 N4 D4) b.Dims,aN kT3 (.slice A5 N5 D5) b.Ints,aN kT3 (.slice A6 N6 D6) b.Data,aN bL (.slice A8 N8 D8) a] (fun (h:HH)=>((.tuple [(s3 h),(.bool r.2)].toArray),[aN kT3 (s3 h) r.1])):=by
 unfold Z22 at i
 refine aQ Tryz.func220 R 27 R R fun C V=>?_
 refine cL 0 aA ?_
 rintro rfl
 refine cL 1 aA ?_
 rintro rfl
 refine cL 2 aA ?_
 rintro rfl
 refine cL 3 aA ?_
 rintro rfl
 refine cL 4 aA ?_
 rintro rfl
 let B:=RR kT3 A3 D3 b.Args::RR kT3 A4 D4 b.Dims::RR kT3 A5 D5 b.Ints::RR kT3 A6 D6 b.Data::RR bL A8 D8 a::V
 refine cN B ?_
 refine aR ?_
 refine eA R fun M=>?_
 refine eA R fun q=>?_
 refine aP ?_
 let L:=aI q [(iv b.Op),(sc A3 b.Args D3),(sc A4 b.Dims D4),(sc A5 b.Ints D5),(aD b.Form),(sc A6 b.Data D6)] 54::aI M [(aD k1.use),(.func (.func 125) [].toArray [].toArray)] 145::B
 refine qN L ?_
 refine cO ?_
 split at i
 refine cO ?_
 cases i
 exact jl (none,0,0) (fun w s=>((s.nilr kT3).e 8 [0]))
 refine bF ?_
 obtain ⟨g,i⟩:=gd i
 obtain ⟨u,j,i⟩:=bd i
 refine aY 6 aA (show 0<a.length by have:=g; omega) (fun O o14 T=>?_)
 subst T
 refine dE (K:=bL) 6 (0:Int) dT23.dec R g.1 g.2 ?_
 rintro ⟨D,F⟩
 refine cZ 14 [] bN fun Y U=>?_
 refine kb 0 [] ?_
 refine dR 5 R (eG (fo:=0) 0 cT R R R) (d1 6 R (lM _ (fun w s=>((((((s.d 4 R).d 6 R).d 8 R).d 10 R).d 5 R).e 7 [4,3,2,1,0,5,6])) ?_))
 refine b' (fs:=[]) (cs:=[]) 5 R R y' R R (Z0x_ok j) R ?_
 rintro ⟨⟨l,I,m⟩,⟨E,J,G⟩⟩
 refine aL 0 aA ?_
 rintro rfl
 refine aL 1 aB ?_
 rintro rfl
 refine aC (aE (sL [1,0]) (dR 7 R (vT R) (hS:=(sL [1,0])) ?_))
 refine rN 8 [1,0] ?_
 refine dD ?_
 refine cW ?_
 cases i
 exact jl (l,u.1.length,m) (tE 11 [0])
theorem Z1i_ok  {b:(List Int)}{a:Int}{i:Int}{r:(List Int)}(g:Z1i b a i=some r) :
 FnOk Tryz.prog 151 [(.slice A2 N2 D2),(iv a),(iv i)] [aN kT3 (.slice A2 N2 D2) b] (fun (h:HH)=>((s3 h),[ow kT3 3 (s3 h) r])):=by
 unfold Z1i at g
 refine aQ Tryz.func151 R 15 R R fun C V=>?_
 refine cL 0 aA ?_
 rintro rfl
 let m:=RR kT3 A2 D2 b::V
 refine cN m ?_
 refine bT ?_
 obtain ⟨l,j,g⟩:=bd g
 refine aR ?_
 refine lM _ (fun w s=>(s.d 0 R)) ?_
 refine lC 1 j9 R (Zo_ok j) R ?_
 rintro ⟨A7,N7,D7⟩
 refine aL 0 aB ?_
 rintro rfl
 refine bF ?_
 obtain ⟨e,g⟩:=gd g
 refine bF ?_
 refine bB 0 aB (show 0<l.length by have:=e; omega) (fun q o10 u=>?_)
 subst u
 refine bU ?_
 refine dZ (K:=kT3) (x':=i) 0 a R R cC R R e.1 e.2 ?_ ?_
 exact fun I h s=>(gL).put I h () i s
 refine cO ?_
 cases g
 exact qF ((ad q o10),l.length,D7) (tE 2 [0])
theorem Z20_ok  {b:(List Int)}{a:Int}{r:Int×Int×Int}(i:Z20 b a=some r) :
 FnOk Tryz.prog 153 [(.slice A2 N2 D2),(iv a)] [aN kT3 (.slice A2 N2 D2) b] (fun (h:Unit)=>((.tuple [(iv r.1),(iv r.2.1),(iv r.2.2)].toArray),[])):=by
 unfold Z20 at i
 refine aQ Tryz.func153 R 20 R R fun C V=>?_
 refine cL 0 aA ?_
 rintro rfl
 let u:=RR kT3 A2 D2 b::V
 refine cN u ?_
 refine cU ?_
 obtain ⟨g,i⟩:=gd i
 obtain ⟨D,l,i⟩:=bd i
 obtain ⟨m,i⟩:=gd i
 obtain ⟨e,i⟩:=gd i
 obtain ⟨q,j,i⟩:=bd i
 refine cQ [(4,(iv D)),(5,(iv (ix b a))),(6,(iv q))] (u) ?_ ?_
 refine aY 0 aA (show 0<b.length by have:=m; omega) (fun E o10 B=>?_)
 subst B
 refine cZ 16 [] bN fun G F=>?_
 refine gN 0 [] ?_
 refine qX 4 [] ?_
 refine hL [2,11] (by kernel_rfl) R ⟨?_,?_,trivial⟩
 refine fY (K:=kT3) (0:Int) a 0 R R bM cC R R R R g.1 g.2.1 g.2.2 (fun A5 D5=>(aC (aE (sL [0]) (hL [3,11] (by kernel_rfl) R ⟨?_,?_,trivial⟩))))
 refine lM _ (fun w s=>(s.d 0 R)) ?_
 refine lC 1 jp R (Zm_ok l) R ?_
 rintro _
 refine aC (aE (sL [0]) (d1 11 R (fY (K:=kT3) (aG (a+1)) (b.length:Int) 1 R R bM cC R R R R e.1 e.2.1 e.2.2 (fun A12 D12=>(aC (aE (sL [1,0]) (d1 12 R (lM _ (fun w s=>(s.d 0 R)) ?_))))))))
 refine lC 1 jp R (Zm_ok j) R ?_
 rintro _
 refine aC (aE (sL [1,0]) ?_)
 refine hO 13 [1,0] ?_
 refine dD ?_
 exact qj (tE 2 [])
 refine fY (K:=kT3) (aG (a+1)) (b.length:Int) 1 R R bM cC R R R R e.1 e.2.1 e.2.2 (fun A12 D12=>(aC (aE (sL [1,0]) (d1 3 R (lM _ (fun w s=>(s.d 1 R)) ?_)))))
 refine lC 1 jp R (Zm_ok l) R ?_
 rintro _
 refine aC (aE (sL [1,0]) (d1 12 R (lM _ (fun w s=>(s.d 0 R)) ?_)))
 refine lC 1 jp R (Zm_ok j) R ?_
 rintro _
 refine aC (aE (sL [1,0]) ?_)
 refine hO 13 [1,0] ?_
 refine dD ?_
 exact qj (tE 2 [])
 refine fY (K:=kT3) (aG (a+1)) (b.length:Int) 0 R R bM cC R R R R e.1 e.2.1 e.2.2 (fun A12 D12=>(aC (aE (sL [0]) (d1 2 R (fY (K:=kT3) (0:Int) a 1 R R bM cC R R R R g.1 g.2.1 g.2.2 (fun A5 D5=>(aC (aE (sL [1,0]) (d1 3 R (lM _ (fun w s=>(s.d 0 R)) ?_))))))))))
 refine lC 1 jp R (Zm_ok l) R ?_
 rintro _
 refine aC (aE (sL [1,0]) (d1 12 R (lM _ (fun w s=>(s.d 1 R)) ?_)))
 refine lC 1 jp R (Zm_ok j) R ?_
 rintro _
 refine aC (aE (sL [1,0]) ?_)
 refine hO 13 [1,0] ?_
 refine dD ?_
 exact qj (tE 2 [])
 rintro σ1
 refine aR ?_
 cases i
 exact hN () (tE 1 [])
theorem Z7_ok  {B:(List Int)}{T:Int}{F:Int}{b:(List pair)}{r:(List pair)}(g:Z7 B T F b=some r) :
 FnOk Tryz.prog 152 [(.slice A2 N2 D2),(iv T),(iv F),(.slice A6 N6 D6)] [aN kT3 (.slice A2 N2 D2) B,aN kT161 (.slice A6 N6 D6) b] (fun (h:HH)=>((.slice h.1 h.2.1 h.2.2),[ow kT161 161 (.slice h.1 h.2.1 h.2.2) r])):=by
 unfold Z7 at g
 refine aQ Tryz.func152 R 73 R R fun C V=>?_
 refine cN (_::_::V) ?_
 refine cL 0 aA ?_
 rintro rfl
 refine cL 1 aA ?_
 rintro rfl
 let M:List HP:=RR kT3 A2 D2 B::RR kT161 A6 D6 b::V
 refine cN M ?_
 refine aO (aH (lS R (aC (aJ (aO ?_)))))
 obtain ⟨q,bk,g⟩:=bd g
 refine aH (lS R (lI R (lM (RR kT3 A2 D2 B::M) (fun w s=>(s.d 0 R)) ?_)))
 refine lC 1 vd R (Z20_ok bk) R ?_
 rintro _
 refine lN M ?_
 refine lO (vT R) (lI R (lI R (lI R (lI R (lI R (lI R (aC (aJ (aO ?_)))))))))
 obtain ⟨ae,g⟩:=gd g
 refine aH (lI R (lI R (lO (qW R R) (lS R (lO (m0 eZ R) (lO (qW R R) (tK (K:=kT161) (m:=(aG ((aG (q.1*q.2.2))*(b.length:Int)))) (z:=zT161.z) R R eZ fA lj (Zr.zk zT161 eK) (by decide) R R ae.1 ae.2.1 ae.2.2 (fun A10 D10=>(lS R (aC (aJ (aO (bA (A:=((List pair))×(HH)) (fun a=>Z7_J7 a.1=some r) (fun a=>[(12,(.slice a.2.1 a.2.2.1 a.2.2.2))]) (fun a=>ow kT161 161 (.slice a.2.1 a.2.2.1 a.2.2.2) a.1::M) ?_ ?_)))))))))))))
 refine aO (aH (lI R (aC (aJ (eB ?_)))))
 obtain ⟨e1,bh,be⟩:=bd g
 refine bC (A:=HH×HH) bh (fun s a=>[(2,(iv F)),(3,(.slice a.1.1 a.1.2.1 a.1.2.2)),(9,(iv q.1)),(10,(iv q.2.1)),(11,(iv q.2.2)),(12,(.slice a.2.1 a.2.2.1 a.2.2.2)),(13,(iv s.2))]) (fun s a=>aN kT161 (.slice a.1.1 a.1.2.1 a.1.2.2) b::ow kT161 161 (.slice a.2.1 a.2.2.1 a.2.2.2) s.1::M) ((A6,b.length,D6),(A10,([]:List pair).length,D10)) (aS R) (fun w s=>(s.d 2 R)) ?_
 rintro ⟨a5,j⟩ ⟨⟨b3,b6,b5⟩,⟨am,b7,av⟩⟩ σ1 a0 g ba
 replace g:Z7_L1 F b q a5 j=some a0:=g
 unfold Z7_L1 at g
 refine bJ 0 aA (fun (D:b6=b.length)=>?_)
 subst D
 refine bJ 1 aB (fun (D:b7=a5.length)=>?_)
 subst D
 refine aO (aO (aH (lI R (lI R (lO (nR R R) (aC (aJ ?_)))))))
 rcases cR g with ⟨Y,g⟩|⟨Y,g⟩
 refine cG R Y (dL (aJ (aO (bA (A:=((List pair))×(HH×HH)) (fun a=>Z7_J6 j a.1=some a0) (fun a=>[(2,(iv F)),(3,(.slice a.2.1.1 a.2.1.2.1 a.2.1.2.2)),(9,(iv q.1)),(10,(iv q.2.1)),(11,(iv q.2.2)),(12,(.slice a.2.2.1 a.2.2.2.1 a.2.2.2.2)),(13,(iv j))]) (fun a=>aN kT161 (.slice a.2.1.1 a.2.1.2.1 a.2.1.2.2) b::ow kT161 161 (.slice a.2.2.1 a.2.2.2.1 a.2.2.2.2) a.1::M) ?_ ?_))))
 refine eB (aO (aH (lS R (lO (m0 eZ R) (lI R (aC (aJ (eB ?_))))))))
 obtain ⟨e2,bi,bf⟩:=bd g
 refine bC (A:=HH×HH) bi (fun s a=>[(2,(iv F)),(3,(.slice a.1.1 a.1.2.1 a.1.2.2)),(9,(iv q.1)),(10,(iv q.2.1)),(11,(iv q.2.2)),(12,(.slice a.2.1 a.2.2.1 a.2.2.2)),(13,(iv j)),(36,(.slice a.1.1 a.1.2.1 a.1.2.2)),(37,(il b)),(38,(iv s.2))]) (fun s a=>aN kT161 (.slice a.1.1 a.1.2.1 a.1.2.2) b::ow kT161 161 (.slice a.2.1 a.2.2.1 a.2.2.2) s.1::M) ((b3,b.length,b5),(am,a5.length,av)) (aS R) (fun w s=>s) ?_
 rintro ⟨O,i⟩ ⟨⟨b4,b8,L⟩,⟨aa,b9,ab⟩⟩ σ1 a1 g bb
 replace g:Z7_L2 F b q j O i=some a1:=g
 unfold Z7_L2 at g
 refine bJ 0 aA (fun (D:b8=b.length)=>?_)
 subst D
 refine bJ 1 aB (fun (D:b9=O.length)=>?_)
 subst D
 refine aO (aH (lO (nR R R) (aC (aJ (aO ?_)))))
 rcases cR g with ⟨Z,g⟩|⟨Z,g⟩
 refine cG R Z (dL (aJ (aO (bA (A:=((List pair))×(HH×HH)) (fun a=>Z7_J5 i a.1=some a1) (fun a=>[(2,(iv F)),(3,(.slice a.2.1.1 a.2.1.2.1 a.2.1.2.2)),(9,(iv q.1)),(10,(iv q.2.1)),(11,(iv q.2.2)),(12,(.slice a.2.2.1 a.2.2.2.1 a.2.2.2.2)),(13,(iv j)),(36,(.slice a.2.1.1 a.2.1.2.1 a.2.1.2.2)),(37,(il b)),(38,(iv i))]) (fun a=>aN kT161 (.slice a.2.1.1 a.2.1.2.1 a.2.1.2.2) b::ow kT161 161 (.slice a.2.2.1 a.2.2.2.1 a.2.2.2.2) a.1::M) ?_ ?_))))
 refine eB (aO ?_)
 obtain ⟨J,g⟩:=gd g
 refine aH (bB 0 aA (show 0<b.length by have:=J; omega) (fun E o101 ha=>?_))
 subst ha
 refine lO (eI eZ fA R R J) (rz (.agg [(iv (ix b i).from_),(iv (ix b i).to)].toArray) ?_ R R ?_)
 exact (vw (K:=kT161) (cells:=fun x=>[(iv x.from_),(iv x.to)]) 0 i ve fA (DecK.flat xX fun _ _=>R) aA R J.1 J.2)
 refine bD R R eK (fun U=>(aK 0 R R fA R R R R R R (lN (aI U [(iv (ix b i).from_),(iv (ix b i).to)] 161::RR kT161 (ad E o101) L b::OO kT161 161 aa ab O::M) ?_)))
 refine aC (aJ (aO (aH (lI R (aC (aJ (eB ?_)))))))
 obtain ⟨e3,bj,bg⟩:=bd g
 refine bC (A:=HH) bj (fun s a=>[(2,(iv F)),(3,(sc (ad E o101) b L)),(9,(iv q.1)),(10,(iv q.2.1)),(11,(iv q.2.2)),(12,(.slice a.1 a.2.1 a.2.2)),(13,(iv j)),(15,(pt U 0)),(16,(iv s.2)),(36,(sc (ad E o101) b L)),(37,(il b)),(38,(iv i))]) (fun s a=>RR kT161 (ad E o101) L b::ow kT161 161 (.slice a.1 a.2.1 a.2.2) s.1::aI U [(iv (ix b i).from_),(iv (ix b i).to)] 161::M) (aa,O.length,ab) (aS R) (fun w s=>(s.e 3 [1,2,0])) ?_
 rintro ⟨u,l⟩ ⟨a6,aw,a8⟩ σ1 b2 g bc
 replace g:Z7_L3 F b q j i u l=some b2:=g
 unfold Z7_L3 at g
 refine bJ 1 aB (fun (D:aw=u.length)=>?_)
 subst D
 refine aO (aO (aH (lI R (lI R (lO (nR R R) (aC (aJ ?_)))))))
 rcases cR g with ⟨G,g⟩|⟨G,g⟩
 refine cG R G (dL (aJ (aO (eB ?_))))
 obtain ⟨ac,g⟩:=gd g
 refine aH (lS R (lI R (lI R (lO (qW R R) (lO (fV 0 pO R) (lO (gH 2 fM R R R) (lO (lF R R) (lI R (lO (qW R R) (lI R (lO (lF R R) (lI R (lI R (lO (qW R R) (lO (fV 1 pP R) (lO (gH 2 fM R R R) (lO (lF R R) (lI R (lO (qW R R) (lI R (lO (lF R R) (lO (vz (.agg [(iv (aG ((aG ((aG ((aG (j*q.2.1))+(ix b i).from_))*q.2.2))+l))),(iv (aG ((aG ((aG ((aG (j*F))+(ix b i).to))*q.2.2))+l)))].toArray) (aW ml eK R R)) (bQ (K:=kT161) (xs:=([(⟨(aG ((aG ((aG ((aG (j*q.2.1))+(ix b i).from_))*q.2.2))+l)),(aG ((aG ((aG ((aG (j*F))+(ix b i).to))*q.2.2))+l))⟩:pair)]:List pair)) (vs:=[(.agg [(iv (aG ((aG ((aG ((aG (j*q.2.1))+(ix b i).from_))*q.2.2))+l))),(iv (aG ((aG ((aG ((aG (j*F))+(ix b i).to))*q.2.2))+l)))].toArray)]) 0 R R eZ fA eK R R R R R R ?_ R (fun ag an=>?_))))))))))))))))))))))))
 exact fun I h s=>(iV).list [(((),()),(⟨(aG ((aG ((aG ((aG (j*q.2.1))+(ix b i).from_))*q.2.2))+l)),(aG ((aG ((aG ((aG (j*F))+(ix b i).to))*q.2.2))+l))⟩:pair))] I h s
 refine lN (OO kT161 161 ag an ([(⟨(aG ((aG ((aG ((aG (j*q.2.1))+(ix b i).from_))*q.2.2))+l)),(aG ((aG ((aG ((aG (j*F))+(ix b i).to))*q.2.2))+l))⟩:pair)]:List pair)::_::OO kT161 161 a6 a8 u::_::M) ?_
 refine lM (ow _ _ _ _::ow _ _ _ _::aN _ _ _::aI _ _ _::M) (fun w s=>(s.e 4 [2,0,1,3])) ?_
 refine eF (K:=kT161) 8796093022208 R R eZ fA lj (Zr.zk zT161 eK) R R R R R R dP ac (fun a7 a9=>(lN (OO kT161 161 a7 a9 (u++([(⟨(aG ((aG ((aG ((aG (j*q.2.1))+(ix b i).from_))*q.2.2))+l)),(aG ((aG ((aG ((aG (j*F))+(ix b i).to))*q.2.2))+l))⟩:pair)]:List pair))::_::_::M) ?_))
 refine lS R (aC (eJ (aJ (aH (lI R (lO (lF R R) (lI R (aC ?_))))))))
 obtain rfl:=so g
 exact qA (a7,(u++([(⟨(aG ((aG ((aG ((aG (j*q.2.1))+(ix b i).from_))*q.2.2))+l)),(aG ((aG ((aG ((aG (j*F))+(ix b i).to))*q.2.2))+l))⟩:pair)]:List pair)).length,a9) (fun w s=>(s.e 3 [1,0,2]))
 refine bP R G (j5 (fB ?_))
 obtain rfl:=so g
 obtain rfl:=bc _ R
 have g:=bg
 refine fB (hT (eJ ?_))
 exact qI (u,(((ad E o101),b.length,L),(a6,u.length,a8))) g (fun w s=>(s.e 3 [0,1]))
 rintro ⟨a2,⟨⟨ah,ax,ao⟩,⟨ai,ay,ap⟩⟩⟩ σ1 g
 replace g:Z7_J5 i a2=some a1:=g
 unfold Z7_J5 at g
 refine bJ 0 aA (fun (D:ax=b.length)=>?_)
 subst D
 refine bJ 1 aB (fun (D:ay=a2.length)=>?_)
 subst D
 refine aH (lO (lF R R) (lI R (aC ?_)))
 obtain rfl:=so g
 exact qA ((ah,b.length,ao),(ai,a2.length,ap)) (fun w s=>s)
 refine bP R Z (j5 (fB ?_))
 obtain rfl:=so g
 obtain rfl:=bb _ R
 have g:=bf
 refine fB (hT (eJ ?_))
 exact qI (O,((b4,b.length,L),(aa,O.length,ab))) g (fun w s=>s)
 rintro ⟨a3,⟨⟨aj,az,aq⟩,⟨ak,b0,ar⟩⟩⟩ σ1 g
 replace g:Z7_J6 j a3=some a0:=g
 unfold Z7_J6 at g
 refine bJ 0 aA (fun (D:az=b.length)=>?_)
 subst D
 refine bJ 1 aB (fun (D:b0=a3.length)=>?_)
 subst D
 refine aH (lI R (lO (lF R R) (lI R (aC ?_))))
 obtain rfl:=so g
 exact qA ((aj,b.length,aq),(ak,a3.length,ar)) (fun w s=>s)
 refine bP R Y (j5 (fB ?_))
 obtain rfl:=so g
 obtain rfl:=ba _ R
 have g:=be
 refine fB (hT ?_)
 exact qI (a5,(am,a5.length,av)) g (fun w s=>(s.e 2 [1]))
 rintro ⟨a4,⟨al,b1,au⟩⟩ σ1 g
 replace g:Z7_J7 a4=some r:=g
 unfold Z7_J7 at g
 refine bJ 0 aB (fun (D:b1=a4.length)=>?_)
 subst D
 refine aO (aH (lS R (lS R (aC (aJ (bY ?_))))))
 obtain rfl:=so g
 exact qF (al,a4.length,au) (fun w s=>(s.e 3 [0]))
theorem Zx_ok  {j:(List Int)}{l:Int}{b:Int}{g:Int}{i:Int}{r:(List Int)×(List pair)×Bool}(m:Zx j l b g i=some r) :
 FnOk Tryz.prog 128 [(.slice A2 N2 D2),(iv l),(iv b),(iv g),(iv i)] [aN kT3 (.slice A2 N2 D2) j] (fun (h:HH×HH)=>((.tuple [(s3 h.1),(s3 h.2),(.bool r.2.2)].toArray),[ow kT3 3 (s3 h.1) r.1,ow kT161 161 (s3 h.2) r.2.1])):=by
 unfold Zx at m
 refine aQ Tryz.func128 R 84 R R fun C V=>?_
 refine cL 0 aA ?_
 rintro rfl
 let M:=RR kT3 A2 D2 j::V
 refine cN M ?_
 refine cO ?_
 obtain ⟨r7,ap,m⟩:=bd m
 refine aP ?_
 refine lM _ (fun w s=>(s.d 0 R)) ?_
 refine lC 1 gO R (Zl_ok ap) R ?_
 rintro _
 refine lN M ?_
 refine aP ?_
 split at m
 refine cW ?_
 cases m
 exact hN ((none,0,0),(none,0,0)) (fun w s=>(((s.nilo kT3 3).nilo kT161 161).e 3 [1,0]))
 refine bF ?_
 refine bA (A:=(Unit)×(Unit)) (fun a=>Zx_J1 j l b g i=some r) (fun a=>[(0,(sc A2 j D2)),(1,(iv l)),(2,(iv b)),(3,(iv g)),(4,(iv i))]) (fun a=>M) ?_ ?_
 refine cB ?_
 refine bQ (K:=kT3) (xs:=([b,g,i]:List Int)) (vs:=[(iv b),(iv g),(iv i)]) 0 R R bM cC gR R R R R R R ?_ R (fun A10 D10=>?_)
 exact fun I h s=>(gL).list [((),b),((),g),((),i)] I h s
 refine cB ?_
 obtain ⟨e1,an,a6⟩:=bd m
 refine bC (A:=HH) an (fun s a=>[(0,(sc A2 j D2)),(1,(iv l)),(2,(iv b)),(3,(iv g)),(4,(iv i)),(27,(s3 a)),(28,(il ([b,g,i]:List Int))),(29,(iv s))]) (fun s a=>ow kT3 3 (s3 a) ([b,g,i]:List Int)::M) (A10,([b,g,i]:List Int).length,D10) (aS R) tI ?_
 rintro L ⟨av,ai,T⟩ σ1 ar m a2
 dsimp only [Zx_L1] at m
 refine bJ 0 aB (fun (hn:ai=([b,g,i]:List Int).length)=>?_)
 subst hn
 refine bT ?_
 split at m
 refine bT ?_
 obtain ⟨a3,m⟩:=gd m
 refine aH (bB 0 aB (show 0<([b,g,i]:List Int).length by have:=a3; omega) (fun Y o22 ha=>?_))
 subst ha
 refine bT ?_
 refine cQ [(0,(sc A2 j D2)),(1,(iv l)),(2,(iv b)),(3,(iv g)),(4,(iv i)),(27,(sc (ad Y o22) ([b,g,i]:List Int) T)),(28,(il ([b,g,i]:List Int))),(29,(iv L)),(38,(.bool ((decide ((ix ([b,g,i]:List Int) L)<0))||(decide ((ix ([b,g,i]:List Int) L)>4096)))))] (OO kT3 3 (ad Y o22) T ([b,g,i]:List Int)::M) ?_ ?_
 refine bF ?_
 rcases bo (decide ((ix ([b,g,i]:List Int) L)<0)) with a1 | a1
 refine bF ?_
 exact qj tI
 refine bF ?_
 exact qj tI
 rintro σ1
 refine bU ?_
 split at m
 refine hW ?_
 cases m
 obtain rfl:=a2 _ R
 have m:=a6
 refine aP ?_
 cases m
 exact hN ((none,0,0),(none,0,0)) (fun w s=>(((s.nilo kT3 3).nilo kT161 161).e 4 [1,0]))
 refine cU ?_
 cases m
 exact qA ((ad Y o22),([b,g,i]:List Int).length,T) tI
 refine aP ?_
 cases m
 obtain rfl:=a2 _ R
 have m:=a6
 refine aR ?_
 exact qI ((),()) m (tE 1 [])
 rintro ⟨_,_⟩ σ1 m
 dsimp only [Zx_J1] at m
 refine bU ?_
 obtain ⟨a4,m⟩:=gd m
 refine aP ?_
 refine bB 0 aA (show 0<j.length by have:=a4; omega) (fun J o29 ha=>?_)
 subst ha
 refine rM ?_
 obtain ⟨E,a7,m⟩:=bd m
 refine bF ?_
 refine lM _ (fun w s=>(s.d 0 R)) ?_
 refine lC 1 pN R (Z1i_ok a7) R ?_
 rintro ⟨F,ay,G⟩
 refine aL 0 aB ?_
 rintro rfl
 refine cB ?_
 obtain ⟨b0,a8,m⟩:=bd m
 refine aR ?_
 refine lC 1 iW R (FnOk.lends (A':=[OO kT3 3 F G E]) (A:=[RR kT3 F G E]) (B:=[]) (Zc_ok a8) ⟨aX,trivial⟩ (fun _=>trivial)) R ?_
 rintro _
 refine aP ?_
 split at m
 refine cW ?_
 cases m
 exact hN ((none,0,0),(none,0,0)) (fun w s=>(((s.nilo kT3 3).nilo kT161 161).e 4 [1,0]))
 refine cB ?_
 refine bQ (K:=kT161) (xs:=([]:List pair)) (vs:=[]) 0 R R eZ fA eK R R R R R R ?_ R (fun aa ae=>?_)
 exact fun I h s=>(iV).list [] I h s
 refine bF ?_
 refine bA (A:=((List pair))×(HH)) (fun a=>Zx_J2 j l b g i E a.1=some r) (fun a=>[(0,(sc (ad J o29) j D2)),(1,(iv l)),(16,(iv (aG ((aG ((aG (b+(ix j l)))+(aG ((aG ((ix j l) - 1))*i))))+g)))),(17,(sc F E G)),(18,(s3 a.2))]) (fun a=>OO kT3 3 F G E::ow kT161 161 (s3 a.2) a.1::M) ?_ ?_
 refine bT ?_
 obtain ⟨e2,ao,am⟩:=bd m
 refine bC (A:=HH) ao (fun s a=>[(0,(sc (ad J o29) j D2)),(1,(iv l)),(2,(iv b)),(4,(iv i)),(15,(iv (ix j l))),(16,(iv (aG ((aG ((aG (b+(ix j l)))+(aG ((aG ((ix j l) - 1))*i))))+g)))),(17,(sc F E G)),(18,(s3 a)),(19,(iv s.2))]) (fun s a=>OO kT3 3 F G E::ow kT161 161 (s3 a) s.1::M) (aa,([]:List pair).length,ae) (aS R) (tE 2 [1,0]) ?_
 rintro ⟨q,u⟩ ⟨ab,aj,ag⟩ σ1 au m al
 dsimp only [Zx_L2] at m
 refine bJ 1 aB (fun (hn:aj=q.length)=>?_)
 subst hn
 refine cU ?_
 split at m
 refine cB ?_
 obtain ⟨a5,m⟩:=gd m
 refine cO ?_
 refine lO (vz (.agg [(iv u),(iv (aG (b+(aG (u*(aG (i+1)))))))].toArray) (aW ml eK R R)) (bQ (K:=kT161) (xs:=([(⟨u,(aG (b+(aG (u*(aG (i+1))))))⟩:pair)]:List pair)) (vs:=[(.agg [(iv u),(iv (aG (b+(aG (u*(aG (i+1)))))))].toArray)]) 0 R R eZ fA eK R R R R R R ?_ R (fun aw ax=>?_))
 exact fun I h s=>(iV).list [(((),()),(⟨u,(aG (b+(aG (u*(aG (i+1))))))⟩:pair))] I h s
 refine lM _ (tE 3 [2,0,1]) ?_
 refine eF (K:=kT161) 8796093022208 R R eZ fA lj (Zr.zk zT161 eK) R R R R R R dP a5 (fun Z a0=>(lN (OO kT161 161 Z a0 (q++([(⟨u,(aG (b+(aG (u*(aG (i+1))))))⟩:pair)]:List pair))::_::M) ?_))
 refine cO ?_
 cases m
 exact qA (Z,(q++([(⟨u,(aG (b+(aG (u*(aG (i+1))))))⟩:pair)]:List pair)).length,a0) (tE 2 [1,0])
 refine aP ?_
 cases m
 obtain rfl:=al _ R
 have m:=am
 refine aR ?_
 exact qI (q,(ab,q.length,ag)) m tI
 rintro ⟨D,⟨O,ak,U⟩⟩ σ1 m
 dsimp only [Zx_J2] at m
 refine bJ 1 aB (fun (hn:ak=D.length)=>?_)
 subst hn
 refine bU ?_
 obtain ⟨aq,a9,m⟩:=bd m
 refine bT ?_
 refine lM _ (fun w s=>((s.d 2 R).e 3 [2,0,1])) ?_
 refine lC 2 s8 R (FnOk.lends (A':=[OO kT161 161 O U D]) (A:=[RR kT161 O U D]) (B:=[RR kT3 (ad J o29) D2 j]) (FnOk.perm (Z7_ok a9) (Pre':=[RR kT161 O U D,RR kT3 (ad J o29) D2 j]) (fun _ _ _ s=>(s.e 2 [1,0]))) ⟨aX,trivial⟩ (fun _=>⟨(bK rQ),trivial⟩)) R ?_
 rintro ⟨ac,az,ah⟩
 refine aL 1 aB ?_
 rintro rfl
 refine bT ?_
 cases m
 exact hN ((F,E.length,G),(ac,aq.length,ah)) (tE 4 [2,1])
theorem Z1w_ok  {p1:(List Int)}{a:(List Int)}{r:(List Int)×(List pair)×Bool}(b:Z1w p1 a=some r) :
 FnOk Tryz.prog 127 [(.slice A2 N2 D2),(.slice A4 N4 D4)] [aN kT3 (.slice A2 N2 D2) p1,aN kT3 (.slice A4 N4 D4) a] (fun (h:HH×HH)=>((.tuple [(s3 h.1),(s3 h.2),(.bool r.2.2)].toArray),[ow kT3 3 (s3 h.1) r.1,ow kT161 161 (s3 h.2) r.2.1])):=by
 unfold Z1w at b
 refine aQ Tryz.func127 R 24 R R fun C V=>?_
 refine cL 0 aA ?_
 rintro rfl
 refine cL 1 aA ?_
 rintro rfl
 let q:=RR kT3 A2 D2 p1::RR kT3 A4 D4 a::V
 refine cN q ?_
 refine cU ?_
 obtain ⟨l,b⟩:=gd b
 obtain ⟨_,b⟩:=gd b
 obtain ⟨_,b⟩:=gd b
 obtain ⟨_,b⟩:=gd b
 obtain ⟨g,e,b⟩:=bd b
 refine aY 0 aA (show 0<p1.length by have:=l; omega) (fun B o7 u=>?_)
 subst u
 refine cZ 20 [] bN fun E D=>?_
 refine md 0 [] ?_
 refine d1 13 R (lM _ (fun w s=>(s.d 1 R)) ?_)
 refine lC 1 z7 R (Zx_ok e) R ?_
 rintro ⟨⟨i,m,j⟩,⟨A14,N14,D14⟩⟩
 refine aL 0 aB ?_
 rintro rfl
 refine aL 1 aB ?_
 rintro rfl
 refine aC (aE (sL [1,0]) ?_)
 refine rN 14 [1,0] ?_
 refine dD ?_
 refine aR ?_
 cases b
 exact hN ((i,g.1.length,j),(A14,g.2.1.length,D14)) (tE 4 [0,1])
theorem Z2n_ok  {a:Node}{b:(List Int)}{m:Int}{i:Int}{E:Nat}{j:Nat}{g:Nat}{r:(List Int)×(List pair)×Bool}(l:Z2n a b m i=some r) :
 FnOk Tryz.prog 149 [(.agg [(iv a.Op),(.slice A2 N2 D2),(.slice A3 N3 D3),(.slice A4 N4 D4),(aD a.Form),(.slice A5 N5 D5)].toArray),(.slice A7 N7 D7),(pt E 0),(pt j 0),(pt g 0)] [aN kT3 (.slice A2 N2 D2) a.Args,aN kT3 (.slice A3 N3 D3) a.Dims,aN kT3 (.slice A4 N4 D4) a.Ints,aN kT3 (.slice A5 N5 D5) a.Data,aN kT3 (.slice A7 N7 D7) b,aI E [(iv m)] 3,aI j [(iv i)] 3,aI g [(.func (.func 127) [].toArray [].toArray)] 150] (fun (h:HH×HH)=>((.tuple [(s3 h.1),(s3 h.2),(.bool r.2.2)].toArray),[ow kT3 3 (s3 h.1) r.1,ow kT161 161 (s3 h.2) r.2.1,aI E [(iv m)] 3,aI j [(iv i)] 3,aI g [(.func (.func 127) [].toArray [].toArray)] 150])):=by
 unfold Z2n at l
 refine aQ Tryz.func149 R 30 R R fun C V=>?_
 refine cM _ (fun w s=>(s.f 8 [5,3,0,5])) ?_
 refine cL 3 aA ?_
 rintro rfl
 refine cL 4 aA ?_
 rintro rfl
 refine cL 5 aA ?_
 rintro rfl
 refine cL 6 aA ?_
 rintro rfl
 refine cL 7 aA ?_
 rintro rfl
 let T:=RR kT3 A2 D2 a.Args::RR kT3 A3 D3 a.Dims::RR kT3 A4 D4 a.Ints::RR kT3 A5 D5 a.Data::RR kT3 A7 D7 b::V
 refine aR ?_
 refine eA R fun q=>?_
 refine bF ?_
 let L:=aI q [(iv a.Op),(sc A2 a.Args D2),(sc A3 a.Dims D3),(sc A4 a.Ints D4),(aD a.Form),(sc A5 a.Data D5)] 54::aI E [(iv m)] 3::aI j [(iv i)] 3::aI g [(.func (.func 127) [].toArray [].toArray)] 150::T
 refine qN L ?_
 refine aP ?_
 refine cQ [(1,(sc A7 b D7)),(4,(pt g 0)),(5,(pt q 0)),(21,(.bool ((decide ((a.Ints.length:Int)<m))||(decide ((a.Ints.length:Int)>i)))))] (L) ?_ ?_
 refine dJ ?_
 rcases bo (decide ((a.Ints.length:Int)<m)) with u | u
 refine dJ ?_
 exact qj tI
 refine dJ ?_
 exact qj tI
 rintro σ1
 refine bU ?_
 split at l
 refine cW ?_
 cases l
 exact hN ((none,0,0),(none,0,0)) (fun w s=>(((s.nilo kT3 3).nilo kT161 161).e 11 [1,0,3,4,5]))
 refine bF ?_
 obtain ⟨D,B,l⟩:=bd l
 refine cB ?_
 refine lM _ (fun w s=>(((s.d 6 R).d 9 R).e 2 [1,0])) ?_
 refine b' (fs:=[]) (cs:=[]) 2 R R z8 R R (Z1w_ok B) R ?_
 rintro ⟨⟨F,M,I⟩,⟨G,O,J⟩⟩
 refine aL 0 aB ?_
 rintro rfl
 refine aL 1 aB ?_
 rintro rfl
 refine cO ?_
 cases l
 exact hN ((F,D.1.length,I),(G,D.2.1.length,J)) (fun w s=>(s.f 11 [0,2,3,3]))
end Go.Proofs.YtmpnollfdpdipaaGreat
