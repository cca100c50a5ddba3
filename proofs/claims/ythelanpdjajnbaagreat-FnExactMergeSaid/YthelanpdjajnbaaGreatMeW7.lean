import Derived.Test.YthelanpdjajnbaaGreatMeF
import Derived.Test.YthelanpdjajnbaaGreatMeW1
import Derived.Test.YthelanpdjajnbaaGreatMeW6
set_option linter.unusedVariables false
set_option maxRecDepth 20000
namespace Go.Proofs.YthelanpdjajnbaaGreat
open Go Go.Pg
variable {A2 A3 A4 A5 A6 A7 A8 A9 A10 A11:Option Addr}{D2 D3 D4 D5 D6 D7 D8 D9 D10 D11 N2 N3 N4 N5 N6 N7 N8 N9 N10 N11:Nat}
theorem Z0b_ok  {p1:View}{j:(List Int)}{B:View}{D:Nat}{M:Nat}{O:Nat}{r:Bool×View}(b:Z0b p1 j B=some r) :
 FnOk Tryz.prog 167 [(pt D 0),(pt M 0),(pt O 0)] [aO kT3 (.slice A3 N3 D3) p1.Dims,aO kT3 (.slice A4 N4 D4) p1.Strides,aJ D [(.slice A3 N3 D3),(.slice A4 N4 D4),(iv p1.Offset),(iv p1.Base)] 111,aO kT3 (.slice A7 N7 D7) j,aJ M [(.slice A7 N7 D7)] 23,aO kT3 (.slice A10 N10 D10) B.Dims,aO kT3 (.slice A11 N11 D11) B.Strides,aJ O [(.slice A10 N10 D10),(.slice A11 N11 D11),(iv B.Offset),(iv B.Base)] 111] (fun (h:HH×HH)=>((.bool r.1),[aO kT3 (s3 h.1) r.2.Dims,aO kT3 (s3 h.2) r.2.Strides,aJ D [(s3 h.1),(s3 h.2),(iv r.2.Offset),(iv r.2.Base)] 111,aJ M [(.slice A7 N7 D7)] 23,aJ O [(.slice A10 N10 D10),(.slice A11 N11 D11),(iv B.Offset),(iv B.Base)] 111])):=by
 unfold Z0b at b
 refine aR Tryz.func167 R 71 R R fun C V=>?_
 refine cM (aJ _ _ _::aJ _ _ _::aJ _ _ _::aO _ _ _::aO _ _ _::aO _ _ _::aO _ _ _::aO _ _ _::V) (tE 8 [2,4,7,0,1,3,5,6]) ?_
 refine cL 3 aA ?_
 rintro rfl
 refine cL 4 aA ?_
 rintro rfl
 refine cL 5 aA ?_
 rintro rfl
 refine cL 6 aA ?_
 rintro rfl
 refine cL 7 aA ?_
 rintro rfl
 let W0:=RR kT3 A3 D3 p1.Dims::RR kT3 A4 D4 p1.Strides::RR kT3 A7 D7 j::RR kT3 A10 D10 B.Dims::RR kT3 A11 D11 B.Strides::V
 refine bL ?_
 let L:=aJ M [(sc A7 j D7)] 23::aJ O [(sc A10 B.Dims D10),(sc A11 B.Strides D11),(iv B.Offset),(iv B.Base)] 111::W0
 refine aW ?_
 obtain ⟨a9,a5,b⟩:=bd b
 refine cQ [(0,(pt D 0)),(1,(pt M 0)),(2,(pt O 0)),(17,(.bool ((!a9)||(decide ((j.length:Int)<(B.Dims.length:Int))))))] (aJ D [(sc A3 p1.Dims D3),(sc A4 p1.Strides D4),(iv p1.Offset),(iv p1.Base)] 111::L) ?_ ?_
 refine bA ?_
 refine lM (RR kT3 A7 D7 j::_::L) (fun w s=>(s.d 5 R)) ?_
 refine lC 1 lR R (Zf_ok a5) R ?_
 rintro _
 refine bA ?_
 rcases bo (!a9) with Z | Z
 refine dM ?_
 exact qj tI
 refine dM ?_
 exact qj tI
 rintro σ1
 refine cE ?_
 split at b
 refine dM ?_
 cases b
 exact qF ((A3,p1.Dims.length,D3),(A4,p1.Strides.length,D4)) (fun w s=>(s.f 8 [3,2,0,3]))
 refine bL ?_
 obtain ⟨i,a6,b⟩:=bd b
 refine aW ?_
 refine lM (RR kT3 A7 D7 j::_::L) (fun w s=>(s.d 5 R)) ?_
 refine lC 1 iQ R (Zc_ok a6) R ?_
 rintro ⟨l,ab,q⟩
 refine aM 0 aC ?_
 rintro rfl
 refine bA ?_
 refine cO 1 R R eX R R R R R (lN (_::aJ D [(sc l i q),(sc A4 p1.Strides D4),(iv p1.Offset),(iv p1.Base)] 111::L) ?_)
 refine aW ?_
 obtain ⟨E,b⟩:=gd b
 refine bL ?_
 refine fH (K:=kT3) (m:=(j.length:Int)) (z:=(0:Int)) R R bI cI jN (Zr.zk zT3 gB) (by decide) R R E.1 E.2.1 E.2.2 (fun u g=>(lP R (lO (eC 1 fN R) (cO 2 R R eX R R R R R (lN (OO kT3 3 u g (List.replicate (j.length:Int).toNat (0:Int))::_::aJ D [(sc l i q),(sc u (List.replicate (j.length:Int).toNat (0:Int)) g),(iv p1.Offset),(iv p1.Base)] 111::L) ?_)))))
 refine aW ?_
 refine bD (A:=((List Int))×(Unit)) (fun a=>Z0b_J3 p1 i a.1=some r) (fun a=>[]) (fun a=>aJ D [(sc l i q),(sc u (List.replicate (j.length:Int).toNat (0:Int)) g),(iv p1.Offset),(iv p1.Base)] 111::OO kT3 3 l q i::ow kT3 3 (.slice u (List.replicate (j.length:Int).toNat (0:Int)).length g) a.1::L) ?_ ?_
 refine dJ ?_
 obtain ⟨e1,aa,a4⟩:=bd b
 refine bE (A:=Unit) aa (fun s a=>[(0,(pt D 0)),(1,(pt M 0)),(2,(pt O 0)),(31,(il B.Dims)),(32,(iv s.2))]) (fun s a=>aJ D [(sc l i q),(sc u (List.replicate (j.length:Int).toNat (0:Int)) g),(iv p1.Offset),(iv p1.Base)] 111::OO kT3 3 l q i::ow kT3 3 (.slice u (List.replicate (j.length:Int).toNat (0:Int)).length g) s.1::L) () (aS R) (tE 3 [2,1,0]) ?_
 rintro ⟨Y,J⟩ _ σ1 a8 b a0
 dsimp only [Z0b_L1] at b
 refine cH ?_
 split at b
 refine bL ?_
 refine bD (A:=((List Int))×(Unit)) (fun a=>Z0b_J2 J a.1=some a8) (fun a=>[(0,(pt D 0)),(1,(pt M 0)),(2,(pt O 0)),(31,(il B.Dims)),(32,(iv J))]) (fun a=>aJ D [(sc l i q),(sc u (List.replicate (j.length:Int).toNat (0:Int)) g),(iv p1.Offset),(iv p1.Base)] 111::OO kT3 3 l q i::ow kT3 3 (.slice u (List.replicate (j.length:Int).toNat (0:Int)).length g) a.1::L) ?_ ?_
 refine u' ?_
 obtain ⟨a1,b⟩:=gd b
 obtain ⟨a2,b⟩:=gd b
 refine bB 8 aA (show 0<B.Dims.length by have:=a1; omega) (fun ac o44 U=>?_)
 subst U
 refine bB 7 aA (show 0<j.length by have:=a2; omega) (fun ae o47 U=>?_)
 subst U
 refine dE 10 [] bQ fun ht hn=>?_
 refine rM 0 [] ?_
 refine dD (aE ?_)
 split at b
 refine cE ?_
 obtain ⟨a3,b⟩:=gd b
 obtain ⟨F,b⟩:=gd b
 refine bB 9 aA (show 0<B.Strides.length by have:=a3; omega) (fun ag o51 U=>?_)
 subst U
 refine bB 2 aC (show 0<(List.replicate (j.length:Int).toNat (0:Int)).length by have:=F; omega) (fun T o54 U=>?_)
 subst U
 refine dE 12 [2] bQ fun ht hn=>?_
 refine pS 0 [2] ?_
 refine d1 11 R (lM (ow kT3 3 (.slice (ad T o54) (List.replicate (j.length:Int).toNat (0:Int)).length g) Y::aJ D [(sc l i q),(sc (ad T o54) (List.replicate (j.length:Int).toNat (0:Int)) g),(iv p1.Offset),(iv p1.Base)] 111::ow _ _ _ _::L) (tE 3 [2,0,1]) ?_)
 refine eB (K:=kT3) (x':=(ix B.Strides J)) 0 (aK ((aK ((j.length:Int) - (B.Dims.length:Int)))+J)) R R cI R R F.1 F.2 ?_ ?_
 exact fun I h s=>(gF).put I h () (ix B.Strides J) s
 refine aB (aG (sL [0]) (dD ?_))
 obtain ⟨a7,G,b⟩:=bd b
 replace G:=Option.some.inj G
 refine qM (ow kT3 3 (.slice (ad T o54) (List.replicate (j.length:Int).toNat (0:Int)).length g) a7::_::_::L) (fun w s=>by rw [← G]; exact s) ?_
 refine cE ?_
 exact qI (a7,()) b (tE 3 [1,2,0])
 refine j9 ?_
 split at b
 refine dJ ?_
 cases b
 obtain rfl:=a0 _ R
 have b:=a4
 refine aW ?_
 cases b
 exact qF ((l,i.length,q),(u,(List.replicate (j.length:Int).toNat (0:Int)).length,g)) (fun w s=>(((s.shr 1 R).shr 2 R).e 10 [1,0,2,3,4]))
 refine aW ?_
 exact qI (Y,()) b tI
 rintro ⟨ai,_⟩ σ1 b
 dsimp only [Z0b_J2] at b
 refine bL ?_
 cases b
 exact qA () tI
 refine aW ?_
 cases b
 obtain rfl:=a0 _ R
 have b:=a4
 refine bA ?_
 exact cK (Y,()) b trivial tI
 rintro ⟨ah,_⟩ σ1 b
 dsimp only [Z0b_J3] at b
 refine cH ?_
 cases b
 exact qF ((l,i.length,q),(u,(List.replicate (j.length:Int).toNat (0:Int)).length,g)) (fun w s=>(((s.shr 1 R).shr 2 R).e 10 [1,0,2,3,4]))
theorem Z3e_ok  {v1:View}{q5:(List Int)}{E:View}{b6:Nat}{b9:Nat}{r:View}(B:Z3e v1 q5 E=some r) :
 FnOk Tryz.prog 166 [(.agg [(.slice A2 N2 D2),(.slice A3 N3 D3),(iv v1.Offset),(iv v1.Base)].toArray),(.func (.func 167) [].toArray [(pt b6 0),(pt b9 0)].toArray)] [aO kT3 (.slice A2 N2 D2) v1.Dims,aO kT3 (.slice A3 N3 D3) v1.Strides,aO kT3 (.slice A7 N7 D7) q5,aJ b6 [(.slice A7 N7 D7)] 23,aO kT3 (.slice A10 N10 D10) E.Dims,aO kT3 (.slice A11 N11 D11) E.Strides,aJ b9 [(.slice A10 N10 D10),(.slice A11 N11 D11),(iv E.Offset),(iv E.Base)] 111] (fun (h:HH×HH)=>((.agg [(s3 h.1),(s3 h.2),(iv r.Offset),(iv r.Base)].toArray),[aO kT3 (s3 h.1) r.Dims,aO kT3 (s3 h.2) r.Strides,aJ b6 [(.slice A7 N7 D7)] 23,aJ b9 [(.slice A10 N10 D10),(.slice A11 N11 D11),(iv E.Offset),(iv E.Base)] 111])):=by
 unfold Z3e at B
 refine aR Tryz.func166 R 31 R R fun C V=>?_
 refine cM _ (tE 7 [3,6,0,1,2,4,5]) ?_
 refine cL 2 aA ?_
 rintro rfl
 refine cL 3 aA ?_
 rintro rfl
 refine cL 4 aA ?_
 rintro rfl
 refine cL 5 aA ?_
 rintro rfl
 refine cL 6 aA ?_
 rintro rfl
 let W0:=RR kT3 A2 D2 v1.Dims::RR kT3 A3 D3 v1.Strides::RR kT3 A7 D7 q5::RR kT3 A10 D10 E.Dims::RR kT3 A11 D11 E.Strides::V
 refine bA ?_
 refine eJ R fun ae=>?_
 refine aY R R cF (fun F=>(aB (qM _ (tE 4 [0,2,3,1]) ?_)))
 let W1:=aJ ae [(sc A2 v1.Dims D2),(sc A3 v1.Strides D3),(iv v1.Offset),(iv v1.Base)] 111::W0
 refine aW ?_
 obtain ⟨am,a4,B⟩:=bd B
 refine bA ?_
 refine lM _ (fun w s=>(((s.d 4 R).d 6 R).e 5 [1,0,2,3,4])) ?_
 refine lC 2 na R (Zk_ok a4) R ?_
 rintro _
 refine aW ?_
 split at B
 refine aW ?_
 refine lO (vz (.agg [(.slice none 0 0),(.slice none 0 0),(iv 0),(iv 0)].toArray) (aV eE cF R R)) (aL 0 R R bW R R R R R R (aB (aE (bO (bP ?_)))))
 cases B
 exact qS ((none,0,0),(none,0,0)) (fun w s=>(((s.nilr kT3).nilr kT3).e 11 [1,0,3,4]))
 refine bL ?_
 obtain ⟨g,U,B⟩:=bd B
 obtain ⟨i,G,B⟩:=bd B
 refine hU (A:=(Unit)×(Nat×HH×HH)) (fun _=>True) (fun a=>[(1,(.func (.func 167) [].toArray [(pt b6 0),(pt b9 0)].toArray)),(4,(pt F 0)),(5,(pt a.2.1 0))]) (fun a=>aJ b6 [(sc A7 q5 D7)] 23::aJ b9 [(sc A10 E.Dims D10),(sc A11 E.Strides D11),(iv E.Offset),(iv E.Base)] 111::aJ F [(.slice none 0 0),(.slice none 0 0),(iv 0),(iv 0)] 111::aJ a.2.1 [(s3 a.2.2.1),(s3 a.2.2.2),(iv v1.Offset),(iv v1.Base)] 111::ow kT3 3 (s3 a.2.2.1) g::ow kT3 3 (s3 a.2.2.2) i::W1) ?_ ?_
 refine dE 13 [] bQ fun ht T=>?_
 refine iC 0 [] ?_
 refine iC 3 [] ?_
 refine pd 6 [] ?_
 refine fW [2,11] (by kernel_rfl) R ⟨?_,?_,trivial⟩
 refine lM _ (fun w s=>(s.d 4 R)) ?_
 refine lC 1 iQ R (Zc_ok U) R ?_
 rintro ⟨m,a8,q⟩
 refine aM 0 aC ?_
 rintro rfl
 refine aB (aG (sL [0]) (fW [5,11] (by kernel_rfl) R ⟨?_,?_,trivial⟩))
 refine lM _ (fun w s=>(s.d 6 R)) ?_
 refine lC 1 iQ R (Zc_ok G) R ?_
 rintro ⟨j,a3,l⟩
 refine aM 0 aC ?_
 rintro rfl
 refine aB (aG (sL [1,0]) (dR 10 R (vz (.agg [(sc m g q),(sc j i l),(iv v1.Offset),(iv v1.Base)].toArray) (aV eE cF R R)) (hS:=(sL [1,0])) (d1 11 R (aY R R cF (fun D=>(aB (aG (sL [2,1,0]) (d1 12 R (aL 0 R R bW R R R R R R (lN (aJ D [(sc m g q),(sc j i l),(iv v1.Offset),(iv v1.Base)] 111::_::_::_::_::_::W1) ?_))))))))))
 refine aB (aG (sL [2,1,0]) (dD ?_))
 exact cK ((),(D,(m,g.length,q),(j,i.length,l))) trivial (aS R) (tE 6 [4,5,3,0,2,1])
 refine aY R R cF (fun D=>(aB (aG (sL [1,0]) (d1 5 R (lM _ (fun w s=>(s.d 7 R)) ?_)))))
 refine lC 1 iQ R (Zc_ok G) R ?_
 rintro ⟨j,a3,l⟩
 refine aM 0 aC ?_
 rintro rfl
 refine aB (aG (sL [2,1,0]) (dR 10 R (vz (.agg [(sc m g q),(sc j i l),(iv v1.Offset),(iv v1.Base)].toArray) (aV eE cF R R)) (hS:=(sL [2,1,0])) (d1 12 R (aL 1 R R bW R R R R R R (lN (_::aJ D [(sc m g q),(sc j i l),(iv v1.Offset),(iv v1.Base)] 111::_::_::_::_::W1) ?_)))))
 refine aB (aG (sL [2,1,0]) (dD ?_))
 exact cK ((),(D,(m,g.length,q),(j,i.length,l))) trivial (aS R) (tE 6 [4,5,3,1,2,0])
 refine aY R R cF (fun D=>(aB (aG (sL [0]) (d1 2 R (lM _ (fun w s=>(s.d 5 R)) ?_)))))
 refine lC 1 iQ R (Zc_ok U) R ?_
 rintro ⟨m,a8,q⟩
 refine aM 0 aC ?_
 rintro rfl
 refine aB (aG (sL [1,0]) (d1 5 R (lM _ (fun w s=>(s.d 7 R)) ?_)))
 refine lC 1 iQ R (Zc_ok G) R ?_
 rintro ⟨j,a3,l⟩
 refine aM 0 aC ?_
 rintro rfl
 refine aB (aG (sL [2,1,0]) (dR 10 R (vz (.agg [(sc m g q),(sc j i l),(iv v1.Offset),(iv v1.Base)].toArray) (aV eE cF R R)) (hS:=(sL [2,1,0])) (d1 12 R (aL 2 R R bW R R R R R R (lN (_::_::aJ D [(sc m g q),(sc j i l),(iv v1.Offset),(iv v1.Base)] 111::_::_::_::W1) ?_)))))
 refine aB (aG (sL [2,1,0]) (dD ?_))
 exact cK ((),(D,(m,g.length,q),(j,i.length,l))) trivial (aS R) (tE 6 [4,5,3,2,1,0])
 rintro ⟨_,⟨a2,⟨ag,a9,ai⟩,⟨ah,aa,aj⟩⟩⟩ σ1 -
 refine gW 4 aC (fun (T:a9=g.length)=>?_)
 subst T
 refine gW 5 aC (fun (T:aa=i.length)=>?_)
 subst T
 refine aW ?_
 obtain ⟨b,a5,B⟩:=bd B
 obtain ⟨a7,a6,B⟩:=bd B
 refine hU (A:=(Unit)×(HH×HH)) (fun _=>True) (fun a=>[(4,(pt F 0)),(5,(pt a2 0)),(28,(.bool ((!b.1)||(!a7))))]) (fun a=>aJ F [(.slice none 0 0),(.slice none 0 0),(iv 0),(iv 0)] 111::aJ a2 [(s3 a.2.1),(s3 a.2.2),(iv b.2.Offset),(iv b.2.Base)] 111::aO kT3 (s3 a.2.1) b.2.Dims::aO kT3 (s3 a.2.2) b.2.Strides::aJ b6 [(sc A7 q5 D7)] 23::aJ b9 [(sc A10 E.Dims D10),(sc A11 E.Strides D11),(iv E.Offset),(iv E.Base)] 111::W1) ?_ ?_
 refine aD (lO (vp _ R) (fS (fun w s=>s.shr 4 R) (fS (fun w s=>s.shr 5 R) (lM _ (fun w s=>((((((s.d 1 R).d 1 R).d 11 R).d 13 R).d 15 R).e 11 [4,3,10,2,7,1,0,8,5,6,9])) ?_))))
 refine cP (fs:=[]) (cs:=[(pt b6 0),(pt b9 0)]) 8 R R Ag R R (Z0b_ok (p1:=(⟨g,i,v1.Offset,v1.Base⟩:View)) a5) R ?_
 rintro ⟨⟨Y,ak,a0⟩,⟨Z,al,a1⟩⟩
 refine aM 0 aA ?_
 rintro rfl
 refine aM 1 aA ?_
 rintro rfl
 refine bA ?_
 rcases bo (!b.1) with u | u
 refine aW ?_
 refine lO (fE (!a7) R u) (aB ?_)
 exact cK ((),((Y,b.2.Dims.length,a0),(Z,b.2.Strides.length,a1))) trivial (aS R) (tE 8 [7,2,0,1,3,4])
 refine lW (cG u) (vz (.agg [(sc Y b.2.Dims a0),(sc Z b.2.Strides a1),(iv b.2.Offset),(iv b.2.Base)].toArray) (bN 2 eY bW R R R R)) (lM _ (fun w s=>(((s.d 0 R).d 2 R).f 10 [1,1,0,1,2,8])) ?_)
 refine cD 2 R (cG u) na R (Zk_ok (bR a6 (cY u))) R ?_
 rintro _
 refine cE ?_
 refine lO (fZ R u R) (aB ?_)
 exact cK ((),((Y,b.2.Dims.length,a0),(Z,b.2.Strides.length,a1))) trivial (aS R) (tE 8 [7,2,0,1,3,4])
 rintro ⟨_,⟨⟨I,ab,L⟩,⟨J,ac,M⟩⟩⟩ σ1 -
 refine gW 2 aA (fun (T:ab=b.2.Dims.length)=>?_)
 subst T
 refine gW 3 aA (fun (T:ac=b.2.Strides.length)=>?_)
 subst T
 refine cE ?_
 rcases bY B with ⟨O,B⟩|⟨O,B⟩
 refine aW ?_
 refine lO (vz (.agg [(.slice none 0 0),(.slice none 0 0),(iv 0),(iv 0)].toArray) (aV eE cF R R)) (aL 0 R R bW R R R R R R (lN (_::aJ a2 [(sc I b.2.Dims L),(sc J b.2.Strides M),(iv b.2.Offset),(iv b.2.Base)] 111::RR kT3 I L b.2.Dims::RR kT3 J M b.2.Strides::_::_::W1) ?_))
 refine bL ?_
 cases B
 exact qS ((none,0,0),(none,0,0)) (fun w s=>(((s.nilr kT3).nilr kT3).e 14 [1,0,6,7]))
 refine aX R O ?_
 refine cU ?_
 refine aL 0 R R bW R R R R R R (lN (aJ F [(sc I b.2.Dims L),(sc J b.2.Strides M),(iv b.2.Offset),(iv b.2.Base)] 111::_::_::_::_::_::W1) ?_)
 refine aW ?_
 cases B
 exact qS ((I,b.2.Dims.length,L),(J,b.2.Strides.length,M)) (fun w s=>(s.f 12 [2,4]))
theorem Z2n_ok  {v1:View}{a:(List Int)}{r:View}(j:Z2n v1 a=some r) :
 FnOk Tryz.prog 159 [(.agg [(.slice A2 N2 D2),(.slice A3 N3 D3),(iv v1.Offset),(iv v1.Base)].toArray),(.slice A5 N5 D5)] [aO kT3 (.slice A2 N2 D2) v1.Dims,aO kT3 (.slice A3 N3 D3) v1.Strides,aO kT3 (.slice A5 N5 D5) a] (fun (h:HH×HH)=>((.agg [(.slice h.1.1 h.1.2.1 h.1.2.2),(.slice h.2.1 h.2.2.1 h.2.2.2),(iv r.Offset),(iv r.Base)].toArray),[aO kT3 (.slice h.1.1 h.1.2.1 h.1.2.2) r.Dims,aO kT3 (.slice h.2.1 h.2.2.1 h.2.2.2) r.Strides])):=by
 unfold Z2n at j
 refine aR Tryz.func159 R 8 R R fun C V=>?_
 refine cN (_::_::_::V) ?_
 refine cL 0 aA ?_
 rintro rfl
 refine cL 1 aA ?_
 rintro rfl
 refine cL 2 aA ?_
 rintro rfl
 let i:List HP:=RR kT3 A2 D2 v1.Dims::RR kT3 A3 D3 v1.Strides::RR kT3 A5 D5 a::V
 refine cN i ?_
 refine aI (aD (eJ R (fun m=>(fR (cs:=[(sc A5 a D5)]) R R R (fun q=>(aY R R cF (fun l=>(aB (aE (aI ?_))))))))))
 obtain ⟨b,g,j⟩:=bd j
 refine aD (lO (vz (.agg [(sc A2 v1.Dims D2),(sc A3 v1.Strides D3),(iv v1.Offset),(iv v1.Base)].toArray) (bN 2 eY bW R R R R)) (lO (vp (.func (.func 167) [].toArray [(pt q 0),(pt m 0)].toArray) R) (lM (RR kT3 A2 D2 v1.Dims::RR kT3 A3 D3 v1.Strides::RR kT3 A5 D5 a::aJ _ _ _::RR kT3 A2 D2 v1.Dims::RR kT3 A3 D3 v1.Strides::aJ _ _ _::aJ _ _ _::i) (fun w s=>((((((s.d 3 R).d 5 R).d 7 R).d 6 R).d 8 R).e 8 [4,3,2,6,1,0,7,5])) ?_)))
 refine lC 7 tp R (Z3e_ok g) R ?_
 rintro ⟨⟨A11,N11,D11⟩,⟨A12,N12,D12⟩⟩
 refine lN (aO kT3 (.slice A11 N11 D11) b.Dims::aO kT3 (.slice A12 N12 D12) b.Strides::_::_::_::i) ?_
 refine aM 0 aA ?_
 rintro rfl
 refine aM 1 aA ?_
 rintro rfl
 refine aL 4 R R bW R R R R R R (lN (_::_::_::_::aJ l [(sc A11 b.Dims D11),(sc A12 b.Strides D12),(iv b.Offset),(iv b.Base)] 111::i) ?_)
 refine aB (aE (bO ?_))
 obtain rfl:=so j
 exact cX (vs:=[(.agg [(sc A11 b.Dims D11),(sc A12 b.Strides D12),(iv b.Offset),(iv b.Base)].toArray)]) (.inl R) ((A11,b.Dims.length,D11),(A12,b.Strides.length,D12)) R ⟨⟨4,l,_,_,R,R,.inl ⟨eY,bW,R⟩⟩,trivial⟩ R (fun w s=>(s.e 8 [0,1]))
theorem Z16_ok  {v1:View}{e:Int}{b:Int}{g:Int}{q:Nat}{r:View}(m:Z16 v1 e b g=some r) :
 FnOk Tryz.prog 169 [(pt q 0),(iv e),(iv b),(iv g)] [ow kT3 3 (.slice A3 N3 D3) v1.Dims,ow kT3 3 (.slice A4 N4 D4) v1.Strides,aJ q [(.slice A3 N3 D3),(.slice A4 N4 D4),(iv v1.Offset),(iv v1.Base)] 111] (fun (h:HH×HH)=>((.tuple [].toArray),[ow kT3 3 (s3 h.1) r.Dims,ow kT3 3 (s3 h.2) r.Strides,aJ q [(s3 h.1),(s3 h.2),(iv r.Offset),(iv r.Base)] 111])):=by
 unfold Z16 at m
 refine aR Tryz.func169 R 24 R R fun C V=>?_
 refine cL 0 aC ?_
 rintro rfl
 refine cL 1 aC ?_
 rintro rfl
 refine aI (bD (A:=(Int)×(Unit)) (fun a=>Z16_J3 v1 e b a.1=some r) (fun a=>[(0,(pt q 0)),(1,(iv e)),(2,(iv b)),(3,(iv a.1))]) (fun a=>aJ q [(sc A3 v1.Dims D3),(sc A4 v1.Strides D4),(iv v1.Offset),(iv v1.Base)] 111::OO kT3 3 A3 D3 v1.Dims::OO kT3 3 A4 D4 v1.Strides::V) ?_ ?_)
 refine cU ?_
 let E:=aJ q [(sc A3 v1.Dims D3),(sc A4 v1.Strides D4),(iv v1.Offset),(iv v1.Base)] 111::V
 refine cE ?_
 split at m
 refine bL ?_
 exact qI ((0:Int),()) m (tE 3 [2,0,1])
 refine bA ?_
 exact qI (g,()) m (tE 3 [2,0,1])
 rintro ⟨i,_⟩ σ1 m
 dsimp only [Z16_J3] at m
 obtain ⟨j,m⟩:=gd m
 obtain ⟨l,m⟩:=gd m
 refine bB 1 aC (show 0<v1.Dims.length by have:=j; omega) (fun u o12 D=>?_)
 subst D
 refine bB 2 aC (show 0<v1.Strides.length by have:=l; omega) (fun B o15 D=>?_)
 subst D
 refine dE 16 [2,1] bQ fun G F=>?_
 refine mY 0 [2,1] ?_
 refine d1 13 R (lM _ (tE 3 [1,0,2]) ?_)
 refine eB (K:=kT3) (x':=b) 0 e R R cI R R j.1 j.2 ?_ ?_
 exact fun I h s=>(gF).put I h () b s
 refine aB (aG (sL [2,0]) ?_)
 refine pc 14 [2,0] ?_
 refine d1 15 R (lM _ (tE 3 [2,0,1]) ?_)
 refine eB (K:=kT3) (x':=i) 0 e R R cI R R l.1 l.2 ?_ ?_
 exact fun I h s=>(gF).put I h () i s
 refine aB (aG (sL [1,0]) (dD ?_))
 cases m
 exact B6 (((ad u o12),v1.Dims.length,D3),((ad B o15),v1.Strides.length,D4)) (tE 3 [1,0,2])
theorem Z1o_ok  {p1:View}{q:Int}{D:Int}{l:Int}{e:Int}{m:Nat}{E:Nat}{F:Nat}{j:Nat}{b:Nat}{r:Bool×View×Int}(i:Z1o p1 q D l e=some r) :
 FnOk Tryz.prog 168 [(pt m 0),(pt E 0),(pt F 0),(pt j 0),(pt b 0)] [ow kT3 3 (.slice A3 N3 D3) p1.Dims,ow kT3 3 (.slice A4 N4 D4) p1.Strides,aJ m [(.slice A3 N3 D3),(.slice A4 N4 D4),(iv p1.Offset),(iv p1.Base)] 111,aJ E [(iv q)] 3,aJ F [(iv D)] 3,aJ j [(iv l)] 3,aJ b [(iv e)] 3] (fun (h:HH×HH)=>((.bool r.1),[ow kT3 3 (s3 h.1) r.2.1.Dims,ow kT3 3 (s3 h.2) r.2.1.Strides,aJ m [(s3 h.1),(s3 h.2),(iv r.2.1.Offset),(iv r.2.1.Base)] 111,aJ E [(iv q)] 3,aJ F [(iv D)] 3,aJ j [(iv l)] 3,aJ b [(iv r.2.2)] 3])):=by
 unfold Z1o at i
 refine aR Tryz.func168 R 86 R R fun C V=>?_
 refine cL 0 aC ?_
 rintro rfl
 refine cL 1 aC ?_
 rintro rfl
 refine bL ?_
 refine qM _ (fun w s=>(s.f 7 [0,3,6,1,3,3])) ?_
 let I:=aJ E [(iv q)] 3::aJ F [(iv D)] 3::aJ j [(iv l)] 3::V
 refine aW ?_
 obtain ⟨G,u,i⟩:=bd i
 refine cQ [(0,(pt m 0)),(1,(pt E 0)),(2,(pt F 0)),(3,(pt j 0)),(4,(pt b 0)),(24,(.bool (((!G)||(decide (D<1)))||(decide (D>4096)))))] (aJ m [(sc A3 p1.Dims D3),(sc A4 p1.Strides D4),(iv p1.Offset),(iv p1.Base)] 111::OO kT3 3 A3 D3 p1.Dims::OO kT3 3 A4 D4 p1.Strides::aJ b [(iv e)] 3::I) ?_ ?_
 rcases bo (!G) with L | L
 refine dE 15 [] bQ fun ht hn=>?_
 refine kM 0 [] ?_
 refine d1 5 R (lC 1 hN R (FnOk.lends (A':=[OO kT3 3 A3 D3 p1.Dims]) (A:=[RR kT3 A3 D3 p1.Dims]) (B:=[]) (Zn_ok u) ⟨aQ,trivial⟩ (fun _=>trivial)) R ?_)
 rintro _
 refine aB (aG (sL []) ?_)
 refine wu 6 [] ?_
 refine dD ?_
 exact qj (tE 4 [2,0,1,3])
 rcases bo ((!G)||(decide (D<1))) with M | M
 refine dE 15 [] bQ fun ht hn=>?_
 refine kM 0 [] ?_
 refine d1 5 R (lC 1 hN R (FnOk.lends (A':=[OO kT3 3 A3 D3 p1.Dims]) (A:=[RR kT3 A3 D3 p1.Dims]) (B:=[]) (Zn_ok u) ⟨aQ,trivial⟩ (fun _=>trivial)) R ?_)
 rintro _
 refine aB (aG (sL []) ?_)
 refine wu 6 [] ?_
 refine dD ?_
 exact qj (tE 4 [2,0,1,3])
 refine dE 15 [] bQ fun ht hn=>?_
 refine kM 0 [] ?_
 refine d1 5 R (lC 1 hN R (FnOk.lends (A':=[OO kT3 3 A3 D3 p1.Dims]) (A:=[RR kT3 A3 D3 p1.Dims]) (B:=[]) (Zn_ok u) ⟨aQ,trivial⟩ (fun _=>trivial)) R ?_)
 rintro _
 refine aB (aG (sL []) ?_)
 refine wu 6 [] ?_
 refine dD ?_
 exact qj (tE 4 [2,0,1,3])
 rintro σ1
 refine cE ?_
 split at i
 refine dM ?_
 cases i
 exact qF ((A3,p1.Dims.length,D3),(A4,p1.Strides.length,D4)) (tE 7 [1,2,0,4,5,6,3])
 refine bL ?_
 obtain ⟨Z,i⟩:=gd i
 refine bB 1 aC (show 0<p1.Dims.length by have:=Z; omega) (fun g o20 ha=>?_)
 subst ha
 refine dE 8 [] bQ fun ht hn=>?_
 refine v6 0 [] ?_
 refine dD ?_
 refine aW ?_
 refine cQ [(0,(pt m 0)),(1,(pt E 0)),(2,(pt F 0)),(3,(pt j 0)),(4,(pt b 0)),(7,(iv (ix p1.Dims q))),(46,(.bool ((((decide (l<0))||(decide (l≥(ix p1.Dims q))))||(decide (e<(-4096:Int))))||(decide (e>4096)))))] (aJ m [(sc (ad g o20) p1.Dims D3),(sc A4 p1.Strides D4),(iv p1.Offset),(iv p1.Base)] 111::OO kT3 3 (ad g o20) D3 p1.Dims::OO kT3 3 A4 D4 p1.Strides::aJ b [(iv e)] 3::I) ?_ ?_
 refine bL ?_
 rcases bo (decide (l<0)) with O | O
 refine lL ?_
 exact qj tI
 refine cU ?_
 rcases bo ((decide (l<0))||(decide (l≥(ix p1.Dims q)))) with T | T
 refine dM ?_
 exact qj tI
 refine bL ?_
 rcases bo (((decide (l<0))||(decide (l≥(ix p1.Dims q))))||(decide (e<(-4096:Int)))) with U | U
 refine bL ?_
 exact qj tI
 refine bL ?_
 exact qj tI
 rintro σ1
 refine cE ?_
 split at i
 refine dM ?_
 cases i
 exact qF (((ad g o20),p1.Dims.length,D3),(A4,p1.Strides.length,D4)) (tE 7 [1,2,0,4,5,6,3])
 refine bL ?_
 refine bD (A:=(Int)×(Unit)) (fun a=>Z1o_J3 p1 q D l a.1=some r) (fun a=>[(0,(pt m 0)),(1,(pt E 0)),(2,(pt F 0)),(3,(pt j 0)),(4,(pt b 0))]) (fun a=>aJ m [(sc (ad g o20) p1.Dims D3),(sc A4 p1.Strides D4),(iv p1.Offset),(iv p1.Base)] 111::OO kT3 3 (ad g o20) D3 p1.Dims::OO kT3 3 A4 D4 p1.Strides::aJ b [(iv a.1)] 3::I) ?_ ?_
 refine cH ?_
 split at i
 refine lL ?_
 refine cQ [(0,(pt m 0)),(1,(pt E 0)),(2,(pt F 0)),(3,(pt j 0)),(4,(pt b 0)),(61,(.bool ((decide ((aK (l+(aK (e*(aK (D - 1))))))<0))||(decide ((aK (l+(aK (e*(aK (D - 1))))))≥(ix p1.Dims q))))))] (aJ m [(sc (ad g o20) p1.Dims D3),(sc A4 p1.Strides D4),(iv p1.Offset),(iv p1.Base)] 111::OO kT3 3 (ad g o20) D3 p1.Dims::OO kT3 3 A4 D4 p1.Strides::aJ b [(iv e)] 3::I) ?_ ?_
 refine bL ?_
 rcases bo (decide ((aK (l+(aK (e*(aK (D - 1))))))<0)) with Y | Y
 refine cU ?_
 exact qj tI
 refine cU ?_
 exact qj tI
 rintro σ1
 refine cE ?_
 split at i
 refine dM ?_
 cases i
 exact qF (((ad g o20),p1.Dims.length,D3),(A4,p1.Strides.length,D4)) (tE 7 [1,2,0,4,5,6,3])
 refine bA ?_
 exact qI (e,()) i tI
 refine bA ?_
 refine cO 3 R R cI R R R R R (lN (aJ m [(sc (ad g o20) p1.Dims D3),(sc A4 p1.Strides D4),(iv p1.Offset),(iv p1.Base)] 111::OO kT3 3 (ad g o20) D3 p1.Dims::_::aJ b [(iv 0)] 3::I) ?_)
 refine cE ?_
 exact qI ((0:Int),()) i tI
 rintro ⟨a7,_⟩ σ1 i
 dsimp only [Z1o_J3] at i
 refine cE ?_
 obtain ⟨a0,i⟩:=gd i
 refine bB 2 aC (show 0<p1.Strides.length by have:=a0; omega) (fun J o31 ha=>?_)
 subst ha
 refine dE 8 [] bQ fun ht hn=>?_
 refine v6 0 [] ?_
 refine dD (aE (aI (dE 11 [0] bQ fun ht hn=>?_)))
 refine iM 0 [0] ?_
 refine iM 4 [0] ?_
 refine d1 3 R (lO (eH 0 fC R R R) (aB (aG (sL [0]) ?_)))
 refine iM 7 [0] ?_
 refine d1 10 R (cO 0 R R cI R R R R R (lN (aJ m [(sc (ad g o20) p1.Dims D3),(sc (ad J o31) p1.Strides D4),(iv (aK (p1.Offset+(aK (l*(ix p1.Strides q)))))),(iv p1.Base)] 111::_::OO kT3 3 (ad J o31) D4 p1.Strides::aJ b [(iv a7)] 3::I) ?_))
 refine aB (aG (sL [0]) (dD ?_))
 refine bA ?_
 obtain ⟨a2,a1,i⟩:=bd i
 refine dX ?_
 refine lM _ (tE 4 [1,2,0,3]) ?_
 refine lC 3 tq R (Z16_ok (v1:=(⟨p1.Dims,p1.Strides,(aK (p1.Offset+(aK (l*(ix p1.Strides q))))),p1.Base⟩:View)) a1) R ?_
 rintro ⟨⟨a3,a8,a5⟩,⟨a4,a9,a6⟩⟩
 refine aM 0 aC ?_
 rintro rfl
 refine aM 1 aC ?_
 rintro rfl
 refine dM ?_
 cases i
 exact qF ((a3,a2.Dims.length,a5),(a4,a2.Strides.length,a6)) (fun w s=>(s.f 7 [0,3,4,3,3,1]))
theorem Z3d_ok  {v1:View}{q5:Int}{q7:Int}{q9:Int}{a4:Int}{b6:Nat}{b8:Nat}{F:Nat}{G:Nat}{r:View×Int}(D:Z3d v1 q5 q7 q9 a4=some r) :
 FnOk Tryz.prog 166 [(.agg [(.slice A2 N2 D2),(.slice A3 N3 D3),(iv v1.Offset),(iv v1.Base)].toArray),(.func (.func 168) [].toArray [(pt b6 0),(pt b8 0),(pt F 0),(pt G 0)].toArray)] [aO kT3 (.slice A2 N2 D2) v1.Dims,aO kT3 (.slice A3 N3 D3) v1.Strides,aJ b6 [(iv q5)] 3,aJ b8 [(iv q7)] 3,aJ F [(iv q9)] 3,aJ G [(iv a4)] 3] (fun (h:HH×HH)=>((.agg [(s3 h.1),(s3 h.2),(iv r.1.Offset),(iv r.1.Base)].toArray),[ow kT3 3 (s3 h.1) r.1.Dims,ow kT3 3 (s3 h.2) r.1.Strides,aJ b6 [(iv q5)] 3,aJ b8 [(iv q7)] 3,aJ F [(iv q9)] 3,aJ G [(iv r.2)] 3])):=by
 unfold Z3d at D
 refine aR Tryz.func166 R 31 R R fun C V=>?_
 refine cM _ (fun w s=>(s.f 6 [2,4,0,2])) ?_
 refine cL 4 aA ?_
 rintro rfl
 refine cL 5 aA ?_
 rintro rfl
 let W0:=RR kT3 A2 D2 v1.Dims::RR kT3 A3 D3 v1.Strides::V
 refine bA ?_
 refine eJ R fun ah=>?_
 refine aY R R cF (fun O=>(aB (qM _ (tE 6 [0,2,3,4,5,1]) ?_)))
 let W1:=aJ ah [(sc A2 v1.Dims D2),(sc A3 v1.Strides D3),(iv v1.Offset),(iv v1.Base)] 111::W0
 refine aW ?_
 obtain ⟨ao,a6,D⟩:=bd D
 refine bA ?_
 refine lM _ (fun w s=>(((s.d 6 R).d 8 R).f 7 [1,1,0,1,2,5])) ?_
 refine lC 2 na R (Zk_ok a6) R ?_
 rintro _
 refine aW ?_
 split at D
 refine aW ?_
 refine lO (vz (.agg [(.slice none 0 0),(.slice none 0 0),(iv 0),(iv 0)].toArray) (aV eE cF R R)) (aL 0 R R bW R R R R R R (aB (aE (bO (bP ?_)))))
 cases D
 exact qS ((none,0,0),(none,0,0)) (fun w s=>(((s.nilo kT3 3).nilo kT3 3).e 10 [1,0,3,4,5,6]))
 refine bL ?_
 obtain ⟨g,a2,D⟩:=bd D
 obtain ⟨i,T,D⟩:=bd D
 refine hU (A:=(Unit)×(Nat×HH×HH)) (fun _=>True) (fun a=>[(1,(.func (.func 168) [].toArray [(pt b6 0),(pt b8 0),(pt F 0),(pt G 0)].toArray)),(4,(pt O 0)),(5,(pt a.2.1 0))]) (fun a=>aJ b6 [(iv q5)] 3::aJ b8 [(iv q7)] 3::aJ F [(iv q9)] 3::aJ G [(iv a4)] 3::aJ O [(.slice none 0 0),(.slice none 0 0),(iv 0),(iv 0)] 111::aJ a.2.1 [(s3 a.2.2.1),(s3 a.2.2.2),(iv v1.Offset),(iv v1.Base)] 111::ow kT3 3 (s3 a.2.2.1) g::ow kT3 3 (s3 a.2.2.2) i::W1) ?_ ?_
 refine dE 13 [] bQ fun ht hn=>?_
 refine iC 0 [] ?_
 refine iC 3 [] ?_
 refine pd 6 [] ?_
 refine fW [2,11] (by kernel_rfl) R ⟨?_,?_,trivial⟩
 refine lM _ (fun w s=>(s.d 6 R)) ?_
 refine lC 1 iQ R (Zc_ok a2) R ?_
 rintro ⟨m,aa,q⟩
 refine aM 0 aC ?_
 rintro rfl
 refine aB (aG (sL [0]) (fW [5,11] (by kernel_rfl) R ⟨?_,?_,trivial⟩))
 refine lM _ (fun w s=>(s.d 8 R)) ?_
 refine lC 1 iQ R (Zc_ok T) R ?_
 rintro ⟨j,a5,l⟩
 refine aM 0 aC ?_
 rintro rfl
 refine aB (aG (sL [1,0]) (dR 10 R (vz (.agg [(sc m g q),(sc j i l),(iv v1.Offset),(iv v1.Base)].toArray) (aV eE cF R R)) (hS:=(sL [1,0])) (d1 11 R (aY R R cF (fun E=>(aB (aG (sL [2,1,0]) (d1 12 R (aL 0 R R bW R R R R R R (lN (aJ E [(sc m g q),(sc j i l),(iv v1.Offset),(iv v1.Base)] 111::_::_::_::_::_::_::_::W1) ?_))))))))))
 refine aB (aG (sL [2,1,0]) (dD ?_))
 exact cK ((),(E,(m,g.length,q),(j,i.length,l))) trivial (aS R) (tE 8 [4,5,6,7,3,0,2,1])
 refine aY R R cF (fun E=>(aB (aG (sL [1,0]) (d1 5 R (lM _ (fun w s=>(s.d 9 R)) ?_)))))
 refine lC 1 iQ R (Zc_ok T) R ?_
 rintro ⟨j,a5,l⟩
 refine aM 0 aC ?_
 rintro rfl
 refine aB (aG (sL [2,1,0]) (dR 10 R (vz (.agg [(sc m g q),(sc j i l),(iv v1.Offset),(iv v1.Base)].toArray) (aV eE cF R R)) (hS:=(sL [2,1,0])) (d1 12 R (aL 1 R R bW R R R R R R (lN (_::aJ E [(sc m g q),(sc j i l),(iv v1.Offset),(iv v1.Base)] 111::_::_::_::_::_::_::W1) ?_)))))
 refine aB (aG (sL [2,1,0]) (dD ?_))
 exact cK ((),(E,(m,g.length,q),(j,i.length,l))) trivial (aS R) (tE 8 [4,5,6,7,3,1,2,0])
 refine aY R R cF (fun E=>(aB (aG (sL [0]) (d1 2 R (lM _ (fun w s=>(s.d 7 R)) ?_)))))
 refine lC 1 iQ R (Zc_ok a2) R ?_
 rintro ⟨m,aa,q⟩
 refine aM 0 aC ?_
 rintro rfl
 refine aB (aG (sL [1,0]) (d1 5 R (lM _ (fun w s=>(s.d 9 R)) ?_)))
 refine lC 1 iQ R (Zc_ok T) R ?_
 rintro ⟨j,a5,l⟩
 refine aM 0 aC ?_
 rintro rfl
 refine aB (aG (sL [2,1,0]) (dR 10 R (vz (.agg [(sc m g q),(sc j i l),(iv v1.Offset),(iv v1.Base)].toArray) (aV eE cF R R)) (hS:=(sL [2,1,0])) (d1 12 R (aL 2 R R bW R R R R R R (lN (_::_::aJ E [(sc m g q),(sc j i l),(iv v1.Offset),(iv v1.Base)] 111::_::_::_::_::_::W1) ?_)))))
 refine aB (aG (sL [2,1,0]) (dD ?_))
 exact cK ((),(E,(m,g.length,q),(j,i.length,l))) trivial (aS R) (tE 8 [4,5,6,7,3,2,1,0])
 rintro ⟨_,⟨a3,⟨ai,ab,ak⟩,⟨aj,ac,al⟩⟩⟩ σ1 -
 refine gW 6 aC (fun (hn:ab=g.length)=>?_)
 subst hn
 refine gW 7 aC (fun (hn:ac=i.length)=>?_)
 subst hn
 refine aW ?_
 obtain ⟨b,a7,D⟩:=bd D
 obtain ⟨a9,a8,D⟩:=bd D
 refine hU (A:=(Unit)×(HH×HH)) (fun _=>True) (fun a=>[(4,(pt O 0)),(5,(pt a3 0)),(28,(.bool ((!b.1)||(!a9))))]) (fun a=>aJ O [(.slice none 0 0),(.slice none 0 0),(iv 0),(iv 0)] 111::aJ a3 [(s3 a.2.1),(s3 a.2.2),(iv b.2.1.Offset),(iv b.2.1.Base)] 111::ow kT3 3 (s3 a.2.1) b.2.1.Dims::ow kT3 3 (s3 a.2.2) b.2.1.Strides::aJ b6 [(iv q5)] 3::aJ b8 [(iv q7)] 3::aJ F [(iv q9)] 3::aJ G [(iv b.2.2)] 3::W1) ?_ ?_
 refine aD (lO (vp _ R) (lM _ (fun w s=>(s.f 8 [6,2,5,1,0,5])) ?_))
 refine cP (fs:=[]) (cs:=[(pt b6 0),(pt b8 0),(pt F 0),(pt G 0)]) 7 R R Ai R R (Z1o_ok (p1:=(⟨g,i,v1.Offset,v1.Base⟩:View)) a7) R ?_
 rintro ⟨⟨I,am,L⟩,⟨J,an,M⟩⟩
 refine aM 0 aC ?_
 rintro rfl
 refine aM 1 aC ?_
 rintro rfl
 refine bA ?_
 rcases bo (!b.1) with u | u
 refine aW ?_
 refine lO (fE (!a9) R u) (aB ?_)
 exact cK ((),((I,b.2.1.Dims.length,L),(J,b.2.1.Strides.length,M))) trivial (aS R) (tE 8 [7,2,0,1,3,4,5,6])
 refine lW (cG u) (vz (.agg [(sc I b.2.1.Dims L),(sc J b.2.1.Strides M),(iv b.2.1.Offset),(iv b.2.1.Base)].toArray) (bN 2 eY bW R R R R)) (cD 2 R (cG u) na R (FnOk.lends (A':=[OO kT3 3 I L b.2.1.Dims,OO kT3 3 J M b.2.1.Strides]) (A:=[RR kT3 I L b.2.1.Dims,RR kT3 J M b.2.1.Strides]) (B:=[]) (Zk_ok (bR a8 (cY u))) ⟨aQ,aQ,trivial⟩ (fun _=>trivial)) R ?_)
 rintro _
 refine cE ?_
 refine lO (fZ R u R) (aB ?_)
 exact cK ((),((I,b.2.1.Dims.length,L),(J,b.2.1.Strides.length,M))) trivial (aS R) (tE 8 [7,2,0,1,3,4,5,6])
 rintro ⟨_,⟨⟨U,ae,Z⟩,⟨Y,ag,a0⟩⟩⟩ σ1 -
 refine gW 2 aC (fun (hn:ae=b.2.1.Dims.length)=>?_)
 subst hn
 refine gW 3 aC (fun (hn:ag=b.2.1.Strides.length)=>?_)
 subst hn
 refine cE ?_
 rcases bY D with ⟨a1,D⟩|⟨a1,D⟩
 refine aW ?_
 refine lO (vz (.agg [(.slice none 0 0),(.slice none 0 0),(iv 0),(iv 0)].toArray) (aV eE cF R R)) (aL 0 R R bW R R R R R R (lN (_::aJ a3 [(sc U b.2.1.Dims Z),(sc Y b.2.1.Strides a0),(iv b.2.1.Offset),(iv b.2.1.Base)] 111::OO kT3 3 U Z b.2.1.Dims::OO kT3 3 Y a0 b.2.1.Strides::_::_::_::_::W1) ?_))
 refine bL ?_
 cases D
 exact qS ((none,0,0),(none,0,0)) (fun w s=>(((s.nilo kT3 3).nilo kT3 3).e 13 [1,0,6,7,8,9]))
 refine aX R a1 ?_
 refine cU ?_
 refine aL 0 R R bW R R R R R R (lN (aJ O [(sc U b.2.1.Dims Z),(sc Y b.2.1.Strides a0),(iv b.2.1.Offset),(iv b.2.1.Base)] 111::_::_::_::_::_::_::_::W1) ?_)
 refine aW ?_
 cases D
 exact qS ((U,b.2.1.Dims.length,Z),(Y,b.2.1.Strides.length,a0)) (fun w s=>(s.f 11 [2,6]))
theorem Z2m_ok  {v1:View}{b:Int}{I:Int}{a:Int}{g:Int}{r:View}(B:Z2m v1 b I a g=some r) :
 FnOk Tryz.prog 160 [(.agg [(.slice A2 N2 D2),(.slice A3 N3 D3),(iv v1.Offset),(iv v1.Base)].toArray),(iv b),(iv I),(iv a),(iv g)] [aO kT3 (.slice A2 N2 D2) v1.Dims,aO kT3 (.slice A3 N3 D3) v1.Strides] (fun (h:HH×HH)=>((.agg [(s3 h.1),(s3 h.2),(iv r.Offset),(iv r.Base)].toArray),[ow kT3 3 (s3 h.1) r.Dims,ow kT3 3 (s3 h.2) r.Strides])):=by
 unfold Z2m at B
 refine aR Tryz.func160 R 14 R R fun C V=>?_
 refine cL 0 aA ?_
 rintro rfl
 refine cL 1 aA ?_
 rintro rfl
 let J:=RR kT3 A2 D2 v1.Dims::RR kT3 A3 D3 v1.Strides::V
 refine cN J ?_
 refine bA ?_
 refine eJ R fun T=>?_
 refine fR (cs:=[(iv b)]) R R R (fun U=>(fR (cs:=[(iv I)]) R R R (fun D=>(fR (cs:=[(iv a)]) R R R (fun E=>(fR (cs:=[(iv g)]) R R R (fun F=>(aY R R cF (fun G=>(aB ?_))))))))))
 let O:=aJ T [(sc A2 v1.Dims D2),(sc A3 v1.Strides D3),(iv v1.Offset),(iv v1.Base)] 111::J
 refine bA ?_
 obtain ⟨i,u,B⟩:=bd B
 refine bA ?_
 refine lO (vp (.func (.func 168) [].toArray [(pt U 0),(pt E 0),(pt D 0),(pt F 0)].toArray) R) (lM _ (fun w s=>(((s.d 6 R).d 8 R).e 7 [1,0,6,4,5,3,2])) ?_)
 refine lC 6 tp R (Z3d_ok u) R ?_
 rintro ⟨⟨j,L,m⟩,⟨l,M,q⟩⟩
 refine aM 0 aC ?_
 rintro rfl
 refine aM 1 aC ?_
 rintro rfl
 refine aL 6 R R bW R R R R R R (lN (_::_::_::_::_::_::aJ G [(sc j i.1.Dims m),(sc l i.1.Strides q),(iv i.1.Offset),(iv i.1.Base)] 111::O) ?_)
 refine aW ?_
 cases B
 exact qS ((j,i.1.Dims.length,m),(l,i.1.Strides.length,q)) (tE 10 [0,1])
theorem Z2u_ok  {v1:View}{a:Int}{b:Int}{u:Nat}{r:View}(i:Z2u v1 a b=some r) :
 FnOk Tryz.prog 171 [(pt u 0),(iv a),(iv b)] [ow kT3 3 (.slice A3 N3 D3) v1.Dims,ow kT3 3 (.slice A4 N4 D4) v1.Strides,aJ u [(.slice A3 N3 D3),(.slice A4 N4 D4),(iv v1.Offset),(iv v1.Base)] 111] (fun (h:HH×HH)=>((.tuple [].toArray),[ow kT3 3 (.slice h.1.1 h.1.2.1 h.1.2.2) r.Dims,ow kT3 3 (.slice h.2.1 h.2.2.1 h.2.2.2) r.Strides,aJ u [(.slice h.1.1 h.1.2.1 h.1.2.2),(.slice h.2.1 h.2.2.1 h.2.2.2),(iv r.Offset),(iv r.Base)] 111])):=by
 unfold Z2u at i
 refine aR Tryz.func171 R 34 R R fun C V=>?_
 refine cN (_::_::_::V) ?_
 refine cL 0 aC ?_
 rintro rfl
 refine cL 1 aC ?_
 rintro rfl
 refine aI ?_
 obtain ⟨G,i⟩:=gd i
 refine aD (lP R (lP R (lP R (lO (eC 0 f' R) (lO (eH 2 bZ R R R) (bK (K:=kT3) (xs:=([(0:Int)]:List Int)) (vs:=[(iv 0)]) 0 R R bI cI gB R R R R R R ?_ R (fun A7 D7=>?_)))))))
 exact fun I h s=>(gF).list [((),(0:Int))] I h s
 refine lN (OO kT3 3 A7 D7 ([(0:Int)]:List Int)::_::_::aJ u [(sc A3 v1.Dims D3),(sc A4 v1.Strides D4),(iv v1.Offset),(iv v1.Base)] 111::V) ?_
 refine lM (ow _ _ _ _::ow _ _ _ _::ow _ _ _ _::aJ _ _ _::V) (fun w s=>(s.e 4 [1,0,2,3])) ?_
 refine dV (K:=kT3) 17592186044416 R R bI cI jN (Zr.zk zT3 gB) R R R R R R dA G (fun A9 D9=>(lN (OO kT3 3 A9 D9 (v1.Dims++([(0:Int)]:List Int))::_::_::V) ?_))
 refine lP R (lO (eC 0 f' R) (cO 2 R R eX R R R R R (lN (_::_::aJ u [(sc A9 (v1.Dims++([(0:Int)]:List Int)) D9),(sc A4 v1.Strides D4),(iv v1.Offset),(iv v1.Base)] 111::V) ?_)))
 refine aB (aE (aI ?_))
 obtain ⟨E,i⟩:=gd i
 refine aD (lP R (lP R (lP R (lO (eC 1 fN R) (lO (eH 2 bZ R R R) (bK (K:=kT3) (xs:=([(0:Int)]:List Int)) (vs:=[(iv 0)]) 0 R R bI cI gB R R R R R R ?_ R (fun A10 D10=>?_)))))))
 exact fun I h s=>(gF).list [((),(0:Int))] I h s
 refine lN (OO kT3 3 A10 D10 ([(0:Int)]:List Int)::_::_::_::V) ?_
 refine lM (ow _ _ _ _::ow _ _ _ _::ow _ _ _ _::aJ _ _ _::V) (fun w s=>(s.e 4 [2,0,1,3])) ?_
 refine dV (K:=kT3) 17592186044416 R R bI cI jN (Zr.zk zT3 gB) R R R R R R dA E (fun A12 D12=>(lN (OO kT3 3 A12 D12 (v1.Strides++([(0:Int)]:List Int))::_::_::V) ?_))
 refine lP R (lO (eC 1 fN R) (cO 2 R R eX R R R R R (lN (_::_::aJ u [(sc A9 (v1.Dims++([(0:Int)]:List Int)) D9),(sc A12 (v1.Strides++([(0:Int)]:List Int)) D12),(iv v1.Offset),(iv v1.Base)] 111::V) ?_)))
 refine aB (aE ?_)
 obtain ⟨g,F,i⟩:=bd i
 refine aD (lP R (lP R (lP R (lO (eC 0 f' R) (lO (eH 2 bZ R R R) (lO (eT bI R) (lO (xl R R) (lI R (lI R (lM (ow _ _ _ _::ow _ _ _ _::aJ _ _ _::V) (fun w s=>(s.e 3 [1,0,2])) ?_))))))))))
 refine lC 3 tq R (Z16_ok (v1:=(⟨(v1.Dims++([(0:Int)]:List Int)),(v1.Strides++([(0:Int)]:List Int)),v1.Offset,v1.Base⟩:View)) F) R ?_
 rintro ⟨⟨j,B,m⟩,⟨l,D,q⟩⟩
 refine lN (ow kT3 3 (.slice j B m) g.Dims::ow kT3 3 (.slice l D q) g.Strides::aJ u [(.slice j B m),(.slice l D q),(iv g.Offset),(iv g.Base)] 111::V) ?_
 refine aM 0 aC ?_
 rintro rfl
 refine aM 1 aC ?_
 rintro rfl
 refine aB ?_
 obtain rfl:=so i
 exact cX (vs:=[]) (.inr R) ((j,g.Dims.length,m),(l,g.Strides.length,q)) R trivial R (fun w s=>s)
theorem Z1p_ok  {p1:View}{s:Int}{l:Int}{u:Int}{E:Nat}{F:Nat}{G:Nat}{g:Nat}{r:Bool×View×Int}(b:Z1p p1 s l u=some r) :
 FnOk Tryz.prog 170 [(pt E 0),(pt F 0),(pt G 0),(pt g 0)] [ow kT3 3 (.slice A3 N3 D3) p1.Dims,ow kT3 3 (.slice A4 N4 D4) p1.Strides,aJ E [(.slice A3 N3 D3),(.slice A4 N4 D4),(iv p1.Offset),(iv p1.Base)] 111,aJ F [(iv s)] 3,aJ G [(iv l)] 3,aJ g [(iv u)] 3] (fun (h:HH×HH)=>((.bool r.1),[ow kT3 3 (s3 h.1) r.2.1.Dims,ow kT3 3 (s3 h.2) r.2.1.Strides,aJ E [(s3 h.1),(s3 h.2),(iv r.2.1.Offset),(iv r.2.1.Base)] 111,aJ F [(iv s)] 3,aJ G [(iv l)] 3,aJ g [(iv r.2.2)] 3])):=by
 unfold Z1p at b
 refine aR Tryz.func170 R 66 R R fun C V=>?_
 refine cL 0 aC ?_
 rintro rfl
 refine cL 1 aC ?_
 rintro rfl
 refine bL ?_
 refine qM _ (tE 6 [0,1,2,5,3,4]) ?_
 let W1:=aJ F [(iv s)] 3::aJ G [(iv l)] 3::V
 refine aW ?_
 obtain ⟨D,i,b⟩:=bd b
 obtain ⟨j,b⟩:=gd b
 refine cQ [(0,(pt E 0)),(1,(pt F 0)),(2,(pt G 0)),(3,(pt g 0)),(33,(.bool ((((!D)||(decide (l<1)))||(decide (u<1)))||(decide (l>(ix p1.Dims s))))))] (aJ E [(sc A3 p1.Dims D3),(sc A4 p1.Strides D4),(iv p1.Offset),(iv p1.Base)] 111::OO kT3 3 A3 D3 p1.Dims::OO kT3 3 A4 D4 p1.Strides::aJ g [(iv u)] 3::W1) ?_ ?_
 rcases bo (!D) with L | L
 refine dE 26 [] bQ fun Z Y=>?_
 refine kM 0 [] ?_
 refine d1 5 R (lC 1 hN R (FnOk.lends (A':=[OO kT3 3 A3 D3 p1.Dims]) (A:=[RR kT3 A3 D3 p1.Dims]) (B:=[]) (Zn_ok i) ⟨aQ,trivial⟩ (fun _=>trivial)) R ?_)
 rintro _
 refine aB (aG (sL []) ?_)
 refine t7 6 [] ?_
 refine dD ?_
 exact qj (tE 4 [2,0,1,3])
 rcases bo ((!D)||(decide (l<1))) with M | M
 refine dE 26 [] bQ fun Z Y=>?_
 refine kM 0 [] ?_
 refine d1 5 R (lC 1 hN R (FnOk.lends (A':=[OO kT3 3 A3 D3 p1.Dims]) (A:=[RR kT3 A3 D3 p1.Dims]) (B:=[]) (Zn_ok i) ⟨aQ,trivial⟩ (fun _=>trivial)) R ?_)
 rintro _
 refine aB (aG (sL []) ?_)
 refine t7 6 [] ?_
 refine dD ?_
 exact qj (tE 4 [2,0,1,3])
 rcases bo (((!D)||(decide (l<1)))||(decide (u<1))) with e | e
 refine dE 26 [] bQ fun Z Y=>?_
 refine kM 0 [] ?_
 refine d1 5 R (lC 1 hN R (FnOk.lends (A':=[OO kT3 3 A3 D3 p1.Dims]) (A:=[RR kT3 A3 D3 p1.Dims]) (B:=[]) (Zn_ok i) ⟨aQ,trivial⟩ (fun _=>trivial)) R ?_)
 rintro _
 refine aB (aG (sL []) ?_)
 refine t7 6 [] ?_
 refine dD ?_
 exact qj (tE 4 [2,0,1,3])
 refine bB 0 aC (show 0<p1.Dims.length by have:=(j e); omega) (fun I o15 J=>?_)
 subst J
 refine dE 26 [] bQ fun Z Y=>?_
 refine kM 0 [] ?_
 refine d1 5 R (lC 1 hN R (FnOk.lends (A':=[OO kT3 3 (ad I o15) D3 p1.Dims]) (A:=[RR kT3 (ad I o15) D3 p1.Dims]) (B:=[]) (Zn_ok i) ⟨aQ,trivial⟩ (fun _=>trivial)) R ?_)
 rintro _
 refine aB (aG (sL []) ?_)
 refine Bq 6 [] ?_
 refine dW 22 R (cG e) (eA bI cI R R (j e)) (dW 23 R (cG e) (gP 0 fC aC R (j e)) ?_)
 refine iC 24 [] ?_
 refine dD ?_
 exact qj (tE 4 [2,0,1,3])
 rintro σ1
 refine cE ?_
 split at b
 refine dM ?_
 cases b
 exact qF ((A3,p1.Dims.length,D3),(A4,p1.Strides.length,D4)) (tE 6 [1,2,0,4,5,3])
 refine bL ?_
 obtain ⟨O,b⟩:=gd b
 refine bB 2 aC (show 0<p1.Strides.length by have:=O; omega) (fun m o22 J=>?_)
 subst J
 refine dE 8 [] bQ fun Z Y=>?_
 refine v6 0 [] ?_
 refine dD ?_
 refine bA ?_
 obtain ⟨T,b⟩:=gd b
 obtain ⟨U,b⟩:=gd b
 refine bB 1 aC (show 0<p1.Dims.length by have:=T; omega) (fun q o25 J=>?_)
 subst J
 refine dE 13 [] bQ fun Z Y=>?_
 refine rM 0 [] ?_
 refine dR 10 R (vz (iv (aK ((aK ((ix p1.Dims s) - l)).tdiv u))) (mT R R U)) ?_
 refine iC 11 [] ?_
 refine dD (aE (aI (bD (A:=(Int)×(Unit)) (fun a=>Z1p_J3 p1 s l u a.1=some r) (fun a=>[(0,(pt E 0)),(1,(pt F 0)),(2,(pt G 0)),(3,(pt g 0)),(6,(iv (ix p1.Strides s))),(7,(iv (aK ((aK ((aK ((ix p1.Dims s) - l)).tdiv u))+1))))]) (fun a=>aJ E [(sc (ad q o25) p1.Dims D3),(sc (ad m o22) p1.Strides D4),(iv p1.Offset),(iv p1.Base)] 111::OO kT3 3 (ad q o25) D3 p1.Dims::OO kT3 3 (ad m o22) D4 p1.Strides::aJ g [(iv a.1)] 3::W1) ?_ ?_)))
 refine cH ?_
 split at b
 refine bA ?_
 refine cO 3 R R cI R R R R R (lN (aJ E [(sc (ad q o25) p1.Dims D3),(sc (ad m o22) p1.Strides D4),(iv p1.Offset),(iv p1.Base)] 111::OO kT3 3 (ad q o25) D3 p1.Dims::OO kT3 3 (ad m o22) D4 p1.Strides::aJ g [(iv 0)] 3::W1) ?_)
 refine cE ?_
 exact qI ((0:Int),()) b tI
 refine bA ?_
 exact qI (u,()) b tI
 rintro ⟨ai,_⟩ σ1 b
 dsimp only [Z1p_J3] at b
 refine cE ?_
 obtain ⟨ah,a0,b⟩:=bd b
 refine dX ?_
 refine lM _ (tE 4 [1,2,0,3]) ?_
 refine lC 3 tq R (Z16_ok a0) R ?_
 rintro ⟨⟨a7,ab,a9⟩,⟨a8,ac,aa⟩⟩
 refine aM 0 aC ?_
 rintro rfl
 refine aM 1 aC ?_
 rintro rfl
 refine aW ?_
 obtain ⟨a2,a1,b⟩:=bd b
 refine bL ?_
 refine lC 3 Ak R (Z2u_ok a1) R ?_
 rintro ⟨⟨a3,ae,a5⟩,⟨a4,ag,a6⟩⟩
 refine aM 0 aC ?_
 rintro rfl
 refine aM 1 aC ?_
 rintro rfl
 refine dM ?_
 cases b
 exact qF ((a3,a2.Dims.length,a5),(a4,a2.Strides.length,a6)) (tE 6 [0,1,2,4,5,3])
theorem Z3f_ok  {v1:View}{q5:Int}{q7:Int}{q9:Int}{b6:Nat}{b8:Nat}{F:Nat}{r:View×Int}(D:Z3f v1 q5 q7 q9=some r) :
 FnOk Tryz.prog 166 [(.agg [(.slice A2 N2 D2),(.slice A3 N3 D3),(iv v1.Offset),(iv v1.Base)].toArray),(.func (.func 170) [].toArray [(pt b6 0),(pt b8 0),(pt F 0)].toArray)] [aO kT3 (.slice A2 N2 D2) v1.Dims,aO kT3 (.slice A3 N3 D3) v1.Strides,aJ b6 [(iv q5)] 3,aJ b8 [(iv q7)] 3,aJ F [(iv q9)] 3] (fun (h:HH×HH)=>((.agg [(s3 h.1),(s3 h.2),(iv r.1.Offset),(iv r.1.Base)].toArray),[ow kT3 3 (s3 h.1) r.1.Dims,ow kT3 3 (s3 h.2) r.1.Strides,aJ b6 [(iv q5)] 3,aJ b8 [(iv q7)] 3,aJ F [(iv r.2)] 3])):=by
 unfold Z3f at D
 refine aR Tryz.func166 R 31 R R fun C V=>?_
 refine cM _ (fun w s=>(s.f 5 [2,3,0,2])) ?_
 refine cL 3 aA ?_
 rintro rfl
 refine cL 4 aA ?_
 rintro rfl
 let W0:=RR kT3 A2 D2 v1.Dims::RR kT3 A3 D3 v1.Strides::V
 refine bA ?_
 refine eJ R fun ae=>?_
 refine aY R R cF (fun M=>(aB (qM _ (tE 5 [0,2,3,4,1]) ?_)))
 let W1:=aJ ae [(sc A2 v1.Dims D2),(sc A3 v1.Strides D3),(iv v1.Offset),(iv v1.Base)] 111::W0
 refine aW ?_
 obtain ⟨am,a4,D⟩:=bd D
 refine bA ?_
 refine lM _ (fun w s=>(((s.d 5 R).d 7 R).e 6 [1,0,2,3,4,5])) ?_
 refine lC 2 na R (Zk_ok a4) R ?_
 rintro _
 refine aW ?_
 split at D
 refine aW ?_
 refine lO (vz (.agg [(.slice none 0 0),(.slice none 0 0),(iv 0),(iv 0)].toArray) (aV eE cF R R)) (aL 0 R R bW R R R R R R (aB (aE (bO (bP ?_)))))
 cases D
 exact qS ((none,0,0),(none,0,0)) (fun w s=>(((s.nilo kT3 3).nilo kT3 3).e 9 [1,0,3,4,5]))
 refine bL ?_
 obtain ⟨g,a1,D⟩:=bd D
 obtain ⟨i,O,D⟩:=bd D
 refine hU (A:=(Unit)×(Nat×HH×HH)) (fun _=>True) (fun a=>[(1,(.func (.func 170) [].toArray [(pt b6 0),(pt b8 0),(pt F 0)].toArray)),(4,(pt M 0)),(5,(pt a.2.1 0))]) (fun a=>aJ b6 [(iv q5)] 3::aJ b8 [(iv q7)] 3::aJ F [(iv q9)] 3::aJ M [(.slice none 0 0),(.slice none 0 0),(iv 0),(iv 0)] 111::aJ a.2.1 [(s3 a.2.2.1),(s3 a.2.2.2),(iv v1.Offset),(iv v1.Base)] 111::ow kT3 3 (s3 a.2.2.1) g::ow kT3 3 (s3 a.2.2.2) i::W1) ?_ ?_
 refine dE 13 [] bQ fun ht hn=>?_
 refine iC 0 [] ?_
 refine iC 3 [] ?_
 refine pd 6 [] ?_
 refine fW [2,11] (by kernel_rfl) R ⟨?_,?_,trivial⟩
 refine lM _ (fun w s=>(s.d 5 R)) ?_
 refine lC 1 iQ R (Zc_ok a1) R ?_
 rintro ⟨m,a8,q⟩
 refine aM 0 aC ?_
 rintro rfl
 refine aB (aG (sL [0]) (fW [5,11] (by kernel_rfl) R ⟨?_,?_,trivial⟩))
 refine lM _ (fun w s=>(s.d 7 R)) ?_
 refine lC 1 iQ R (Zc_ok O) R ?_
 rintro ⟨j,a3,l⟩
 refine aM 0 aC ?_
 rintro rfl
 refine aB (aG (sL [1,0]) (dR 10 R (vz (.agg [(sc m g q),(sc j i l),(iv v1.Offset),(iv v1.Base)].toArray) (aV eE cF R R)) (hS:=(sL [1,0])) (d1 11 R (aY R R cF (fun E=>(aB (aG (sL [2,1,0]) (d1 12 R (aL 0 R R bW R R R R R R (lN (aJ E [(sc m g q),(sc j i l),(iv v1.Offset),(iv v1.Base)] 111::_::_::_::_::_::_::W1) ?_))))))))))
 refine aB (aG (sL [2,1,0]) (dD ?_))
 exact cK ((),(E,(m,g.length,q),(j,i.length,l))) trivial (aS R) (tE 7 [4,5,6,3,0,2,1])
 refine aY R R cF (fun E=>(aB (aG (sL [1,0]) (d1 5 R (lM _ (fun w s=>(s.d 8 R)) ?_)))))
 refine lC 1 iQ R (Zc_ok O) R ?_
 rintro ⟨j,a3,l⟩
 refine aM 0 aC ?_
 rintro rfl
 refine aB (aG (sL [2,1,0]) (dR 10 R (vz (.agg [(sc m g q),(sc j i l),(iv v1.Offset),(iv v1.Base)].toArray) (aV eE cF R R)) (hS:=(sL [2,1,0])) (d1 12 R (aL 1 R R bW R R R R R R (lN (_::aJ E [(sc m g q),(sc j i l),(iv v1.Offset),(iv v1.Base)] 111::_::_::_::_::_::W1) ?_)))))
 refine aB (aG (sL [2,1,0]) (dD ?_))
 exact cK ((),(E,(m,g.length,q),(j,i.length,l))) trivial (aS R) (tE 7 [4,5,6,3,1,2,0])
 refine aY R R cF (fun E=>(aB (aG (sL [0]) (d1 2 R (lM _ (fun w s=>(s.d 6 R)) ?_)))))
 refine lC 1 iQ R (Zc_ok a1) R ?_
 rintro ⟨m,a8,q⟩
 refine aM 0 aC ?_
 rintro rfl
 refine aB (aG (sL [1,0]) (d1 5 R (lM _ (fun w s=>(s.d 8 R)) ?_)))
 refine lC 1 iQ R (Zc_ok O) R ?_
 rintro ⟨j,a3,l⟩
 refine aM 0 aC ?_
 rintro rfl
 refine aB (aG (sL [2,1,0]) (dR 10 R (vz (.agg [(sc m g q),(sc j i l),(iv v1.Offset),(iv v1.Base)].toArray) (aV eE cF R R)) (hS:=(sL [2,1,0])) (d1 12 R (aL 2 R R bW R R R R R R (lN (_::_::aJ E [(sc m g q),(sc j i l),(iv v1.Offset),(iv v1.Base)] 111::_::_::_::_::W1) ?_)))))
 refine aB (aG (sL [2,1,0]) (dD ?_))
 exact cK ((),(E,(m,g.length,q),(j,i.length,l))) trivial (aS R) (tE 7 [4,5,6,3,2,1,0])
 rintro ⟨_,⟨a2,⟨ag,a9,ai⟩,⟨ah,aa,aj⟩⟩⟩ σ1 -
 refine gW 5 aC (fun (hn:a9=g.length)=>?_)
 subst hn
 refine gW 6 aC (fun (hn:aa=i.length)=>?_)
 subst hn
 refine aW ?_
 obtain ⟨b,a5,D⟩:=bd D
 obtain ⟨a7,a6,D⟩:=bd D
 refine hU (A:=(Unit)×(HH×HH)) (fun _=>True) (fun a=>[(4,(pt M 0)),(5,(pt a2 0)),(28,(.bool ((!b.1)||(!a7))))]) (fun a=>aJ M [(.slice none 0 0),(.slice none 0 0),(iv 0),(iv 0)] 111::aJ a2 [(s3 a.2.1),(s3 a.2.2),(iv b.2.1.Offset),(iv b.2.1.Base)] 111::ow kT3 3 (s3 a.2.1) b.2.1.Dims::ow kT3 3 (s3 a.2.2) b.2.1.Strides::aJ b6 [(iv q5)] 3::aJ b8 [(iv q7)] 3::aJ F [(iv b.2.2)] 3::W1) ?_ ?_
 refine aD (lO (vp _ R) (lM _ (fun w s=>(s.f 7 [5,2,4,1,0,4])) ?_))
 refine cP (fs:=[]) (cs:=[(pt b6 0),(pt b8 0),(pt F 0)]) 6 R R Al R R (Z1p_ok (p1:=(⟨g,i,v1.Offset,v1.Base⟩:View)) a5) R ?_
 rintro ⟨⟨G,ak,J⟩,⟨I,al,L⟩⟩
 refine aM 0 aC ?_
 rintro rfl
 refine aM 1 aC ?_
 rintro rfl
 refine bA ?_
 rcases bo (!b.1) with u | u
 refine aW ?_
 refine lO (fE (!a7) R u) (aB ?_)
 exact cK ((),((G,b.2.1.Dims.length,J),(I,b.2.1.Strides.length,L))) trivial (aS R) (tE 7 [6,2,0,1,3,4,5])
 refine lW (cG u) (vz (.agg [(sc G b.2.1.Dims J),(sc I b.2.1.Strides L),(iv b.2.1.Offset),(iv b.2.1.Base)].toArray) (bN 2 eY bW R R R R)) (cD 2 R (cG u) na R (FnOk.lends (A':=[OO kT3 3 G J b.2.1.Dims,OO kT3 3 I L b.2.1.Strides]) (A:=[RR kT3 G J b.2.1.Dims,RR kT3 I L b.2.1.Strides]) (B:=[]) (Zk_ok (bR a6 (cY u))) ⟨aQ,aQ,trivial⟩ (fun _=>trivial)) R ?_)
 rintro _
 refine cE ?_
 refine lO (fZ R u R) (aB ?_)
 exact cK ((),((G,b.2.1.Dims.length,J),(I,b.2.1.Strides.length,L))) trivial (aS R) (tE 7 [6,2,0,1,3,4,5])
 rintro ⟨_,⟨⟨T,ab,Y⟩,⟨U,ac,Z⟩⟩⟩ σ1 -
 refine gW 2 aC (fun (hn:ab=b.2.1.Dims.length)=>?_)
 subst hn
 refine gW 3 aC (fun (hn:ac=b.2.1.Strides.length)=>?_)
 subst hn
 refine cE ?_
 rcases bY D with ⟨a0,D⟩|⟨a0,D⟩
 refine aW ?_
 refine lO (vz (.agg [(.slice none 0 0),(.slice none 0 0),(iv 0),(iv 0)].toArray) (aV eE cF R R)) (aL 0 R R bW R R R R R R (lN (_::aJ a2 [(sc T b.2.1.Dims Y),(sc U b.2.1.Strides Z),(iv b.2.1.Offset),(iv b.2.1.Base)] 111::OO kT3 3 T Y b.2.1.Dims::OO kT3 3 U Z b.2.1.Strides::_::_::_::W1) ?_))
 refine bL ?_
 cases D
 exact qS ((none,0,0),(none,0,0)) (fun w s=>(((s.nilo kT3 3).nilo kT3 3).e 12 [1,0,6,7,8]))
 refine aX R a0 ?_
 refine cU ?_
 refine aL 0 R R bW R R R R R R (lN (aJ M [(sc T b.2.1.Dims Y),(sc U b.2.1.Strides Z),(iv b.2.1.Offset),(iv b.2.1.Base)] 111::_::_::_::_::_::_::W1) ?_)
 refine aW ?_
 cases D
 exact qS ((T,b.2.1.Dims.length,Y),(U,b.2.1.Strides.length,Z)) (fun w s=>(s.f 10 [2,5]))
theorem Z2o_ok  {v1:View}{a:Int}{b:Int}{g:Int}{r:View}(q:Z2o v1 a b g=some r) :
 FnOk Tryz.prog 161 [(.agg [(.slice A2 N2 D2),(.slice A3 N3 D3),(iv v1.Offset),(iv v1.Base)].toArray),(iv a),(iv b),(iv g)] [aO kT3 (.slice A2 N2 D2) v1.Dims,aO kT3 (.slice A3 N3 D3) v1.Strides] (fun (h:HH×HH)=>((.agg [(s3 h.1),(s3 h.2),(iv r.Offset),(iv r.Base)].toArray),[ow kT3 3 (s3 h.1) r.Dims,ow kT3 3 (s3 h.2) r.Strides])):=by
 unfold Z2o at q
 refine aR Tryz.func161 R 12 R R fun C V=>?_
 refine cL 0 aA ?_
 rintro rfl
 refine cL 1 aA ?_
 rintro rfl
 let D:=RR kT3 A2 D2 v1.Dims::RR kT3 A3 D3 v1.Strides::V
 refine cN D ?_
 refine bA ?_
 refine eJ R fun G=>?_
 refine fR (cs:=[(iv a)]) R R R (fun I=>(fR (cs:=[(iv b)]) R R R (fun J=>(fR (cs:=[(iv g)]) R R R (fun u=>(aY R R cF (fun B=>(aB ?_))))))))
 let F:=aJ G [(sc A2 v1.Dims D2),(sc A3 v1.Strides D3),(iv v1.Offset),(iv v1.Base)] 111::D
 refine bA ?_
 obtain ⟨i,m,q⟩:=bd q
 refine bA ?_
 refine lO (vp (.func (.func 170) [].toArray [(pt I 0),(pt J 0),(pt u 0)].toArray) R) (lM _ (fun w s=>(((s.d 5 R).d 7 R).e 6 [1,0,5,4,3,2])) ?_)
 refine lC 5 tp R (Z3f_ok m) R ?_
 rintro ⟨⟨A14,N14,D14⟩,⟨j,E,l⟩⟩
 refine aM 0 aC ?_
 rintro rfl
 refine aM 1 aC ?_
 rintro rfl
 refine aL 5 R R bW R R R R R R (lN (_::_::_::_::_::aJ B [(sc A14 i.1.Dims D14),(sc j i.1.Strides l),(iv i.1.Offset),(iv i.1.Base)] 111::F) ?_)
 refine aW ?_
 cases q
 exact qS ((A14,i.1.Dims.length,D14),(j,i.1.Strides.length,l)) (tE 9 [0,1])
theorem Z1h_ok  {l:Node}{F:(List Int)}{r:View}(i:Z1h l F=some r) :
 FnOk Tryz.prog 142 [(.agg [(iv l.Op),(.slice A2 N2 D2),(.slice A3 N3 D3),(.slice A4 N4 D4),(aH l.Form),(.slice A5 N5 D5)].toArray),(.slice A7 N7 D7)] [aO kT3 (.slice A2 N2 D2) l.Args,aO kT3 (.slice A3 N3 D3) l.Dims,aO kT3 (.slice A4 N4 D4) l.Ints,aO kT3 (.slice A5 N5 D5) l.Data,aO kT3 (.slice A7 N7 D7) F] (fun (h:HH×HH)=>((.agg [(.slice h.1.1 h.1.2.1 h.1.2.2),(.slice h.2.1 h.2.2.1 h.2.2.2),(iv r.Offset),(iv r.Base)].toArray),[aO kT3 (.slice h.1.1 h.1.2.1 h.1.2.2) r.Dims,aO kT3 (.slice h.2.1 h.2.2.1 h.2.2.2) r.Strides])):=by
 unfold Z1h at i
 refine aR Tryz.func142 R 76 R R fun C V=>?_
 refine cN (_::_::_::_::_::V) ?_
 refine cL 0 aA ?_
 rintro rfl
 refine cL 1 aA ?_
 rintro rfl
 refine cL 2 aA ?_
 rintro rfl
 refine cL 3 aA ?_
 rintro rfl
 refine cL 4 aA ?_
 rintro rfl
 let W0:List HP:=RR kT3 A2 D2 l.Args::RR kT3 A3 D3 l.Dims::RR kT3 A4 D4 l.Ints::RR kT3 A5 D5 l.Data::RR kT3 A7 D7 F::V
 refine cN W0 ?_
 refine aI (aD (eJ R (fun b8=>(aY R R cF (fun I=>(aB ?_))))))
 let G:List HP:=aJ b8 [(iv l.Op),(sc A2 l.Args D2),(sc A3 l.Dims D3),(sc A4 l.Ints D4),(aH l.Form),(sc A5 l.Data D5)] 65::W0
 refine qN (_::G) ?_
 refine aE (aI ?_)
 obtain ⟨a,ai,i⟩:=bd i
 refine aD (lS R (lM (RR kT3 A7 D7 F::_::G) (fun w s=>(s.d 6 R)) ?_))
 refine lC 1 Af R (Z2v_ok ai) R ?_
 rintro ⟨⟨A12,N12,D12⟩,⟨m,am,q⟩⟩
 refine lN (ow kT3 3 (.slice A12 N12 D12) a.Dims::ow kT3 3 (.slice m am q) a.Strides::_::G) ?_
 refine aM 0 aC ?_
 rintro rfl
 refine aM 1 aC ?_
 rintro rfl
 refine aY R R cF (fun J=>(aL 0 R R bW R R R R R R (lN (aJ J [(sc A12 a.Dims D12),(sc m a.Strides q),(iv a.Offset),(iv a.Base)] 111::_::_::_::G) ?_)))
 refine aB (aE (aI (cB (aI (aD (lO (eC 0 gR R) (lO (eH 4 fC R R R) (lO (l8 R R) (lB R (aB (aE ?_)))))))))))
 rcases bY i with ⟨L,i⟩|⟨L,i⟩
 refine bM R L (aI ?_)
 obtain ⟨u,aj,i⟩:=bd i
 refine aD (lO (vz (.agg [(sc A12 a.Dims D12),(sc m a.Strides q),(iv a.Offset),(iv a.Base)].toArray) (bN 0 eY bW R R R R)) (lO (eC 2 i' R) (lO (eH 4 bZ R R R) (fS (fun w s=>s.shr 1 R) (fS (fun w s=>s.shr 2 R) (lM (RR kT3 A12 D12 a.Dims::RR kT3 m q a.Strides::RR kT3 A3 D3 l.Dims::RR kT3 m q a.Strides::RR kT3 A12 D12 a.Dims::aJ _ _ _::aJ _ _ _::G) (fun w s=>((((s.d 1 R).d 1 R).d 8 R).e 7 [2,1,0,3,4,5,6])) ?_))))))
 refine lC 3 Ah R (Z2n_ok aj) R ?_
 rintro ⟨⟨Z,an,a5⟩,⟨a0,ao,a6⟩⟩
 refine lN (aO kT3 (.slice Z an a5) u.Dims::aO kT3 (.slice a0 ao a6) u.Strides::_::_::_::_::G) ?_
 refine aM 0 aA ?_
 rintro rfl
 refine aM 1 aA ?_
 rintro rfl
 refine aL 5 R R bW R R R R R R (lN (_::_::_::_::_::aJ I [(sc Z u.Dims a5),(sc a0 u.Strides a6),(iv u.Offset),(iv u.Base)] 111::G) ?_)
 refine aB (aE (bO (b' (bP ?_))))
 obtain rfl:=so i
 exact cX (vs:=[(.agg [(sc Z u.Dims a5),(sc a0 u.Strides a6),(iv u.Offset),(iv u.Base)].toArray)]) (.inl R) ((Z,u.Dims.length,a5),(a0,u.Strides.length,a6)) R ⟨⟨5,I,_,_,R,R,.inl ⟨eY,bW,R⟩⟩,trivial⟩ R (fun w s=>(s.e 12 [0,1]))
 refine aX R L (aI ?_)
 obtain ⟨T,i⟩:=gd i
 refine cQ [(2,(pt b8 0)),(4,(pt I 0)),(5,(pt J 0)),(16,(.bool (((l.Op==(14:Int))&&((l.Ints.length:Int)==(4:Int)))&&(decide ((ix l.Ints (3:Int))≥(1:Int))))))] (aJ I [(.slice none 0 0),(.slice none 0 0),(iv 0),(iv 0)] 111::aJ J [(sc A12 a.Dims D12),(sc m a.Strides q),(iv a.Offset),(iv a.Base)] 111::OO kT3 3 A12 D12 a.Dims::OO kT3 3 m q a.Strides::G) ?_ ?_
 refine aD (lO (eC 0 gR R) (lO (eH 4 fC R R R) (lO (l8 R R) (lB R ?_))))
 rcases bo (l.Op==(14:Int)) with b | b
 refine lW (eM b) (eC 3 gS R) (lW (eM b) (eH 4 bZ R R R) (lW (eM b) (eT bI R) (lW (eM b) (l8 R R) (lO (ji R b R) (lB R ?_)))))
 rcases bo ((l.Op==(14:Int))&&((l.Ints.length:Int)==(4:Int))) with g | g
 refine lW (eM g) (eC 3 gS R) (lW (eM g) (eH 4 bZ R R R) (bC 7 aA (show 0<l.Ints.length by have:=(T g); omega) (fun av o22 ha=>?_)))
 subst ha
 refine lW (eM g) (eA bI cI R R (T g)) (lW (eM g) (gP 7 fC aA R (T g)) (lW (eM g) (B5 R R) (lO (ji R g R) (lB R (aB ?_)))))
 exact qJ (fun w s=>(s.e 4 [3,0,1,2]))
 refine lf (nN g) (lf (nN g) (lf (nN g) (lf (nN g) (lf (nN g) (lO (kA (decide ((ix l.Ints (3:Int))≥(1:Int))) R g) (lB R (aB ?_)))))))
 exact qJ (fun w s=>(s.e 4 [3,0,1,2]))
 refine lf (nN b) (lf (nN b) (lf (nN b) (lf (nN b) (lO (kA ((l.Ints.length:Int)==(4:Int)) R b) (lB R (lf (nN (aF b)) (lf (nN (aF b)) (lf (nN (aF b)) (lf (nN (aF b)) (lf (nN (aF b)) (lO (kA (decide ((ix l.Ints (3:Int))≥(1:Int))) R (aF b)) (lB R (aB ?_)))))))))))))
 exact qJ (fun w s=>(s.e 4 [3,0,1,2]))
 rintro σ1
 refine aE ?_
 rcases bY i with ⟨M,i⟩|⟨M,i⟩
 refine bM R M (aI ?_)
 obtain ⟨U,i⟩:=gd i
 obtain ⟨ab,i⟩:=gd i
 obtain ⟨ac,i⟩:=gd i
 obtain ⟨ae,i⟩:=gd i
 obtain ⟨D,ak,i⟩:=bd i
 refine bB 7 aA (show 0<l.Ints.length by have:=U; omega) (fun aw o28 ha=>?_)
 subst ha
 refine dE 19 [0] bQ (fun ht hn=>(dR 0 R (vz (.agg [(sc A12 a.Dims D12),(sc m a.Strides q),(iv a.Offset),(iv a.Base)].toArray) (bN 0 eY bW R R R R)) (hS:=(sL [0])) (dR 1 R (eC 3 gS R) (hS:=(sL [0])) (dR 2 R (eH 3 bZ R R R) (hS:=(sL [0])) (dR 3 R (eA bI cI R R U) (hS:=(sL [0])) (dR 4 R (gP 6 fC aA R U) (hS:=(sL [0])) (dR 5 R (eC 3 gS R) (hS:=(sL [0])) (dR 6 R (eH 3 bZ R R R) (hS:=(sL [0])) (dR 7 R (eA bI cI R R ab) (hS:=(sL [0])) (dR 8 R (gP 6 fC aA R ab) (hS:=(sL [0])) (dR 9 R (eC 3 gS R) (hS:=(sL [0])) (dR 10 R (eH 3 bZ R R R) (hS:=(sL [0])) (dR 11 R (eA bI cI R R ac) (hS:=(sL [0])) (dR 12 R (gP 6 fC aA R ac) (hS:=(sL [0])) (dR 13 R (eC 3 gS R) (hS:=(sL [0])) (dR 14 R (eH 3 bZ R R R) (hS:=(sL [0])) (dR 15 R (eA bI cI R R ae) (hS:=(sL [0])) (dR 16 R (gP 6 fC aA R ae) (hS:=(sL [0])) (d1 17 R (lM (OO kT3 3 A12 D12 a.Dims::OO kT3 3 m q a.Strides::aJ I [(.slice none 0 0),(.slice none 0 0),(iv 0),(iv 0)] 111::aJ _ _ _::G) (fun w s=>(s.e 4 [2,3,0,1])) ?_))))))))))))))))))))
 refine lC 2 Aj R (FnOk.lends (A':=[OO kT3 3 A12 D12 a.Dims,OO kT3 3 m q a.Strides]) (A:=[RR kT3 A12 D12 a.Dims,RR kT3 m q a.Strides]) (B:=[]) (Z2m_ok ak) ⟨aQ,aQ,trivial⟩ (fun _=>⟨(bH iP),(bH iP),trivial⟩)) R ?_
 rintro ⟨⟨a1,ap,a7⟩,⟨a2,aq,a8⟩⟩
 refine lN (_::_::ow kT3 3 (.slice a1 ap a7) D.Dims::ow kT3 3 (.slice a2 aq a8) D.Strides::_::_::G) ?_
 refine aM 2 aC ?_
 rintro rfl
 refine aM 3 aC ?_
 rintro rfl
 refine aB (aG (fun w s=>(s.e 6 [5,0,1])) (d1 18 R (aL 4 R R bW R R R R R R (lN (_::_::_::_::aJ I [(sc a1 D.Dims a7),(sc a2 D.Strides a8),(iv D.Offset),(iv D.Base)] 111::_::G) ?_))))
 refine aB (aG (fun w s=>(s.e 6 [5,0,1])) (dD (aE (bO (b' (bP ?_))))))
 obtain rfl:=so i
 exact cX (vs:=[(.agg [(sc a1 D.Dims a7),(sc a2 D.Strides a8),(iv D.Offset),(iv D.Base)].toArray)]) (.inl R) ((a1,D.Dims.length,a7),(a2,D.Strides.length,a8)) R ⟨⟨4,I,_,_,R,R,.inl ⟨eY,bW,R⟩⟩,trivial⟩ R (fun w s=>(((s.shr 2 R).shr 3 R).e 12 [1,0]))
 refine aX R M (aI (cQ [(2,(pt b8 0)),(4,(pt I 0)),(5,(pt J 0)),(51,(.bool ((l.Op==(18:Int))&&((l.Ints.length:Int)==(3:Int)))))] (aJ I [(.slice none 0 0),(.slice none 0 0),(iv 0),(iv 0)] 111::aJ J [(sc A12 a.Dims D12),(sc m a.Strides q),(iv a.Offset),(iv a.Base)] 111::OO kT3 3 A12 D12 a.Dims::OO kT3 3 m q a.Strides::G) ?_ ?_))
 refine aD (lO (eC 0 gR R) (lO (eH 4 fC R R R) (lO (l8 R R) (lB R ?_))))
 rcases bo (l.Op==(18:Int)) with j | j
 refine lW (eM j) (eC 3 gS R) (lW (eM j) (eH 4 bZ R R R) (lW (eM j) (eT bI R) (lW (eM j) (l8 R R) (lO (ji R j R) (lB R (aB ?_))))))
 exact qJ (fun w s=>s)
 refine lf (nN j) (lf (nN j) (lf (nN j) (lf (nN j) (lO (kA ((l.Ints.length:Int)==(3:Int)) R j) (lB R (aB ?_))))))
 exact qJ (fun w s=>s)
 rintro σ1
 refine aE ?_
 rcases bY i with ⟨O,i⟩|⟨O,i⟩
 refine bM R O (aI ?_)
 obtain ⟨Y,i⟩:=gd i
 obtain ⟨ag,i⟩:=gd i
 obtain ⟨ah,i⟩:=gd i
 obtain ⟨E,al,i⟩:=bd i
 refine bB 7 aA (show 0<l.Ints.length by have:=Y; omega) (fun ax o40 ha=>?_)
 subst ha
 refine dE 15 [0] bQ (fun ht hn=>(dR 0 R (vz (.agg [(sc A12 a.Dims D12),(sc m a.Strides q),(iv a.Offset),(iv a.Base)].toArray) (bN 0 eY bW R R R R)) (hS:=(sL [0])) (dR 1 R (eC 3 gS R) (hS:=(sL [0])) (dR 2 R (eH 3 bZ R R R) (hS:=(sL [0])) (dR 3 R (eA bI cI R R Y) (hS:=(sL [0])) (dR 4 R (gP 6 fC aA R Y) (hS:=(sL [0])) (dR 5 R (eC 3 gS R) (hS:=(sL [0])) (dR 6 R (eH 3 bZ R R R) (hS:=(sL [0])) (dR 7 R (eA bI cI R R ag) (hS:=(sL [0])) (dR 8 R (gP 6 fC aA R ag) (hS:=(sL [0])) (dR 9 R (eC 3 gS R) (hS:=(sL [0])) (dR 10 R (eH 3 bZ R R R) (hS:=(sL [0])) (dR 11 R (eA bI cI R R ah) (hS:=(sL [0])) (dR 12 R (gP 6 fC aA R ah) (hS:=(sL [0])) (d1 13 R (lM (ow _ _ _ _::ow _ _ _ _::aJ I [(.slice none 0 0),(.slice none 0 0),(iv 0),(iv 0)] 111::aJ _ _ _::G) (fun w s=>(s.e 4 [2,3,0,1])) ?_))))))))))))))))
 refine lC 2 Am R (FnOk.lends (A':=[OO kT3 3 A12 D12 a.Dims,OO kT3 3 m q a.Strides]) (A:=[RR kT3 A12 D12 a.Dims,RR kT3 m q a.Strides]) (B:=[]) (Z2o_ok al) ⟨aQ,aQ,trivial⟩ (fun _=>⟨(bH iP),(bH iP),trivial⟩)) R ?_
 rintro ⟨⟨a3,ar,a9⟩,⟨a4,au,aa⟩⟩
 refine lN (_::_::ow kT3 3 (.slice a3 ar a9) E.Dims::ow kT3 3 (.slice a4 au aa) E.Strides::_::_::G) ?_
 refine aM 2 aC ?_
 rintro rfl
 refine aM 3 aC ?_
 rintro rfl
 refine aB (aG (fun w s=>(s.e 6 [5,0,1])) (d1 14 R (aL 4 R R bW R R R R R R (lN (_::_::_::_::aJ I [(sc a3 E.Dims a9),(sc a4 E.Strides aa),(iv E.Offset),(iv E.Base)] 111::_::G) ?_))))
 refine aB (aG (fun w s=>(s.e 6 [5,0,1])) (dD (aE (bO (b' (bP ?_))))))
 obtain rfl:=so i
 exact cX (vs:=[(.agg [(sc a3 E.Dims a9),(sc a4 E.Strides aa),(iv E.Offset),(iv E.Base)].toArray)]) (.inl R) ((a3,E.Dims.length,a9),(a4,E.Strides.length,aa)) R ⟨⟨4,I,_,_,R,R,.inl ⟨eY,bW,R⟩⟩,trivial⟩ R (fun w s=>(((s.shr 2 R).shr 3 R).e 12 [1,0]))
 refine aX R O (bS (cT (aE (aI (aD (lO (vz (.agg [(.slice none 0 0),(.slice none 0 0),(iv 0),(iv 0)].toArray) (aV eE cF R R)) (aL 0 R R bW R R R R R R (lN (aJ I [(.slice none 0 0),(.slice none 0 0),(iv 0),(iv 0)] 111::_::_::_::G) ?_))))))))
 refine aB (aE (bO ?_))
 obtain rfl:=so i
 exact cX (vs:=[(.agg [(.slice none 0 0),(.slice none 0 0),(iv 0),(iv 0)].toArray)]) (.inl R) ((none,0,0),(none,0,0)) R ⟨⟨0,I,_,_,R,R,.inl ⟨eY,bW,R⟩⟩,trivial⟩ R (fun w s=>(((s.nilr kT3).nilr kT3).e 12 [1,0]))
theorem Z3c_ok  {e:(List Int)}{a:(List Int)}{b:Int}{r:(List Int)×Int×(List Int)}(m:Z3c e a b=some r) :
 FnOk Tryz.prog 157 [(.slice A2 N2 D2),(.slice A4 N4 D4),(iv b)] [aO kT3 (.slice A2 N2 D2) e,aO kT3 (.slice A4 N4 D4) a] (fun (h:HH×Nat×Nat×HH×Nat)=>((.func (.func 164) [].toArray [(pt h.2.1 0),(pt h.2.2.1 0),(pt h.2.2.2.2 0)].toArray),[aO kT3 (s3 h.1) r.1,aJ h.2.1 [(s3 h.1)] 23,aJ h.2.2.1 [(iv r.2.1)] 3,aO kT3 (s3 h.2.2.2.1) r.2.2,aJ h.2.2.2.2 [(s3 h.2.2.2.1)] 23])):=by
 unfold Z3c at m
 refine aR Tryz.func157 R 8 R R fun C V=>?_
 refine cL 0 aA ?_
 rintro rfl
 refine cL 1 aA ?_
 rintro rfl
 let l:=RR kT3 A2 D2 e::RR kT3 A4 D4 a::V
 refine cN l ?_
 refine bA ?_
 refine fR (cs:=[(sc A2 e D2)]) R R R (fun g=>(fR (cs:=[(sc A4 a D4)]) R R R (fun i=>(fR (cs:=[(iv b)]) R R R (fun j=>(lO (vp _ R) (aB ?_)))))))
 let q:=aJ j [(iv b)] 3::aJ i [(sc A4 a D4)] 23::aJ g [(sc A2 e D2)] 23::l
 refine qN q ?_
 refine aW ?_
 refine lO (vp (.func (.func 164) [].toArray [(pt g 0),(pt j 0),(pt i 0)].toArray) R) (lO (vp _ R) ?_)
 refine aW ?_
 cases m
 exact qF ((A2,e.length,D2),g,j,(A4,a.length,D4),i) (tE 5 [3,2,0,4,1])
theorem Z07_ok  {F:Type}{YF:F→Int→Option (F×Bool)}{i:F}{l:(List Int)}{p5:Int}{M:(List Int)}{G:Nat}{b6:Nat}{J:Nat}{YE:F→HP}{yl:Nat}(hy:∀ s x q,YF s x=some q→Bj Tryz.prog yl [.int .i64 x] [YE s] (fun _:Unit=>(.bool q.2,[YE q.1]))){r:F}(b:Z07 F YF i l p5 M=some r) :
 FnOk Tryz.prog 164 [(.func (.yield yl) #[] #[]),(pt G 0),(pt b6 0),(pt J 0)] [YE i,aO kT3 (.slice A4 N4 D4) l,aJ G [(.slice A4 N4 D4)] 23,aJ b6 [(iv p5)] 3,aO kT3 (.slice A9 N9 D9) M,aJ J [(.slice A9 N9 D9)] 23] (fun (h:Unit)=>((.tuple [].toArray),[YE r,aJ G [(.slice A4 N4 D4)] 23,aJ b6 [(iv p5)] 3,aJ J [(.slice A9 N9 D9)] 23])):=by
 unfold Z07 at b
 refine aR Tryz.func164 R 60 R R fun C V=>?_
 refine cM (YE i::aJ _ _ _::aJ _ _ _::aJ _ _ _::aO _ _ _::aO _ _ _::V) (tE 6 [0,2,3,5,1,4]) ?_
 refine cL 4 aA ?_
 rintro rfl
 refine cL 5 aA ?_
 rintro rfl
 let W0:=RR kT3 A4 D4 l::RR kT3 A9 D9 M::V
 refine cE ?_
 obtain ⟨u,b⟩:=gd b
 refine aW ?_
 refine fH (K:=kT3) (m:=(l.length:Int)) (z:=(0:Int)) R R bI cI jN (Zr.zk zT3 gB) (by decide) R R u.1 u.2.1 u.2.2 (fun A11 D11=>(lS R (aB ?_)))
 let L:=aJ G [(sc A4 l D4)] 23::aJ b6 [(iv p5)] 3::aJ J [(sc A9 M D9)] 23::W0
 refine dM ?_
 obtain ⟨e1,a7,a0⟩:=bd b
 refine bE (A:=Unit) a7 (fun s a=>[(0,(.func (.yield yl) #[] #[])),(1,(pt G 0)),(3,(pt J 0)),(5,(sc A11 (List.replicate (l.length:Int).toNat (0:Int)) D11)),(6,(iv s.2.1))]) (fun s a=>ow kT3 3 (.slice A11 (List.replicate (l.length:Int).toNat (0:Int)).length D11) s.1::YE s.2.2::L) () (aS R) tI ?_
 rintro ⟨D,ah,aa⟩ _ σ1 a4 b T
 dsimp only [Z07_L1] at b
 refine aW ?_
 obtain ⟨E,a2,b⟩:=bd b
 refine xo 2 R (fun _ _ h=>h) (lO (vp (.func (.yield yl) #[] #[]) R) (lI R (lM (YE aa::ow kT3 3 (.slice A11 (List.replicate (l.length:Int).toNat (0:Int)).length D11) D::L) (tE 2 [1,0]) ?_)))
 refine aB (uY 1 R R (hy _ _ _ a2) R (fun _ _ h=>h) R (fun _=>(lN (YE E.1::_::L) ?_)))
 refine aW ?_
 split at b
 refine bL ?_
 cases b
 obtain rfl:=T _ R
 have b:=a0
 refine bA ?_
 cases b
 exact B6 () (tE 7 [0,2,3,4])
 refine iZ ?_
 refine bD (A:=((List Int)×Int×Int)×(Unit)) (fun a=>Z07_J2 F YF E a.1.1 a.1.2.1 a.1.2.2=some a4) (fun a=>[(0,(.func (.yield yl) #[] #[])),(1,(pt G 0)),(3,(pt J 0)),(5,(sc A11 (List.replicate (l.length:Int).toNat (0:Int)) D11)),(6,(iv a.1.2.1)),(7,(iv a.1.2.2))]) (fun a=>ow kT3 3 (.slice A11 (List.replicate (l.length:Int).toNat (0:Int)).length D11) a.1.1::YE E.1::L) ?_ ?_
 refine cE ?_
 obtain ⟨e2,a8,a1⟩:=bd b
 refine bE (A:=Unit) a8 (fun s a=>[(0,(.func (.yield yl) #[] #[])),(1,(pt G 0)),(3,(pt J 0)),(5,(sc A11 (List.replicate (l.length:Int).toNat (0:Int)) D11)),(6,(iv s.2.1)),(7,(iv s.2.2))]) (fun s a=>ow kT3 3 (.slice A11 (List.replicate (l.length:Int).toNat (0:Int)).length D11) s.1::YE E.1::L) () (aS R) (tE 2 [1,0]) ?_
 rintro ⟨e,a5,g⟩ _ σ1 ab b U
 dsimp only [Z07_L2] at b
 refine dX ?_
 split at b
 refine cH ?_
 obtain ⟨j,b⟩:=gd b
 refine aW ?_
 refine bC 0 aC (show 0<(List.replicate (l.length:Int).toNat (0:Int)).length by have:=j; omega) (fun a6 o80 O=>?_)
 subst O
 refine bL ?_
 refine eB (K:=kT3) (x':=(aK ((ix e g)+1))) 0 g R R cI R R j.1 j.2 ?_ ?_
 exact fun I h s=>(gF).put I h () (aK ((ix e g)+1)) s
 refine aW ?_
 obtain ⟨Y,b⟩:=gd b
 refine bL ?_
 refine bC 6 aA (show 0<M.length by have:=Y; omega) (fun ac o83 O=>?_)
 subst O
 refine dM ?_
 obtain ⟨Z,b⟩:=gd b
 refine bB 5 aA (show 0<l.length by have:=Z; omega) (fun ae o86 O=>?_)
 subst O
 refine dE 9 [] bQ fun ht hn=>?_
 refine wu 0 [] ?_
 refine dD (aE ?_)
 split at b
 refine aW ?_
 refine sw R (cR ?_)
 cases b
 obtain rfl:=U _ R
 have b:=a1
 refine bA ?_
 exact qI (((e.set g.toNat (aK ((ix e g)+1))),(aK (a5+(ix M g))),g),()) b tI
 refine bL ?_
 refine dE 12 [] bQ fun ht hn=>?_
 refine v7 0 [] ?_
 refine dD ?_
 refine cU ?_
 refine eB (K:=kT3) (x':=(0:Int)) 0 g R R cI R R j.1 j.2 ?_ ?_
 exact fun I h s=>(gF).put I h () (0:Int) s
 refine cE ?_
 obtain ⟨a9,B,b⟩:=bd b
 replace B:=Option.some.inj B
 refine qM (ow kT3 3 (.slice (ad a6 o80) (List.replicate (l.length:Int).toNat (0:Int)).length D11) a9::_::L) (fun w s=>by rw [← B]; exact s) ?_
 refine dX ?_
 cases b
 exact qA () tI
 refine aW ?_
 cases b
 obtain rfl:=U _ R
 have b:=a1
 refine bA ?_
 exact qI ((e,a5,g),()) b tI
 rintro ⟨⟨a3,ai,ag⟩,_⟩ σ1 b
 dsimp only [Z07_J2] at b
 refine cH ?_
 split at b
 refine aW ?_
 cases b
 obtain rfl:=T _ R
 have b:=a0
 refine bA ?_
 cases b
 exact B6 () (fun w s=>(s.f 7 [1,4]))
 refine aW ?_
 cases b
 exact qA () tI
theorem Z2p_ok  {v1:View}{r:(List Int)×(List pair)×Bool}(i:Z2p v1=some r) :
 FnOk Tryz.prog 141 [(.agg [(.slice A2 N2 D2),(.slice A3 N3 D3),(iv v1.Offset),(iv v1.Base)].toArray)] [aO kT3 (.slice A2 N2 D2) v1.Dims,aO kT3 (.slice A3 N3 D3) v1.Strides] (fun (h:HH×HH)=>((.tuple [(s3 h.1),(s3 h.2),(.bool r.2.2)].toArray),[aO kT3 (s3 h.1) r.1,ow kT165 165 (s3 h.2) r.2.1])):=by
 unfold Z2p at i
 refine xp Tryz.func141 R 29 R R fun C V=>?_
 refine cL 0 aA ?_
 rintro rfl
 refine cL 1 aA ?_
 rintro rfl
 refine bA ?_
 refine eJ R fun b4=>?_
 refine dX ?_
 obtain ⟨r5,a5,i⟩:=bd i
 refine bA ?_
 refine lM _ (fun w s=>(((s.d 1 R).d 3 R).e 5 [1,0,2,3,4])) ?_
 refine lC 2 na R (Zk_ok a5) R ?_
 rintro _
 refine aW ?_
 split at i
 refine dH ?_
 cases i
 exact iL ((none,0,0),(none,0,0)) (fun w s=>(((s.nilr kT3).nilo kT165 165).e 5 [1,0]))
 refine cU ?_
 refine bK (K:=kT165) (xs:=([]:List pair)) (vs:=[]) 0 R R fT fU eZ R R R R R R ?_ R (fun A8 D8=>?_)
 exact fun I h s=>(jB).list [] I h s
 refine aY R R An (fun Z=>(cO 0 R R ts R R R R R (lN (aJ Z [(sc A8 ([]:List pair) D8)] 133::_::_::_::_::V) ?_)))
 refine bA ?_
 refine xr ?_
 obtain ⟨g,a2,i⟩:=bd i
 refine dX ?_
 refine lM _ (fun w s=>(((s.d 3 R).d 5 R).f 7 [1,1,0,1,2,5])) ?_
 refine lC 2 Ao R (Z3c_ok a2) R ?_
 rintro ⟨⟨m,a8,B⟩,T,U,⟨u,a9,D⟩,Y⟩
 refine aM 0 aA ?_
 rintro rfl
 refine aM 3 aA ?_
 rintro rfl
 refine cE ?_
 obtain ⟨F,a3,i⟩:=bd i
 let Ef:Nat→Loop→((List pair))→HP:=fun l G s=>pe fun a:HH=>uI l G::[aJ b4 [(sc A2 v1.Dims D2),(sc A3 v1.Strides D3),(iv v1.Offset),(iv v1.Base)] 111,RR kT3 A2 D2 v1.Dims,RR kT3 A3 D3 v1.Strides,aJ Z [(s3 a)] 133,ow kT165 165 (s3 a) s]
 refine uZ (Wc:=[RR kT3 m B g.1,aJ T [(sc m g.1 B)] 23,aJ U [(iv g.2.1)] 3,RR kT3 u D g.2.2,aJ Y [(sc u g.2.2 D)] 23,aJ Z [(sc A8 ([]:List pair) D8)] 133,OO kT165 165 A8 D8 ([]:List pair),aJ b4 [(sc A2 v1.Dims D2),(sc A3 v1.Strides D3),(iv v1.Offset),(iv v1.Base)] 111,RR kT3 A2 D2 v1.Dims,RR kT3 A3 D3 v1.Strides]) (E:=fun l G=>Ef l G ([]:List pair)) (E':=fun l G=>Ef l G F) (Pre':=[RR kT3 m B g.1,aJ T [(sc m g.1 B)] 23,aJ U [(iv g.2.1)] 3,RR kT3 u D g.2.2,aJ Y [(sc u g.2.2 D)] 23]) (W3:=[]) (cp:=fun (_:Unit)=>[aJ T [(sc m g.1 B)] 23,aJ U [(iv g.2.1)] 3,aJ Y [(sc u g.2.2 D)] 23]) (Wd:=fun a:HH=>[aJ b4 [(sc A2 v1.Dims D2),(sc A3 v1.Strides D3),(iv v1.Offset),(iv v1.Base)] 111,RR kT3 A2 D2 v1.Dims,RR kT3 A3 D3 v1.Strides,aJ Z [(s3 a)] 133,ow kT165 165 (s3 a) F]) R R Aq (fun V w l G s=>St.pei (A8,([]:List pair).length,D8) ((s.f 11 [0,1,8,3,6,2,1,5]))) ?_ (fun V w l G x s=>let ⟨a,s⟩:=s.peo; ⟨a,s.e 9 [0,1,2,3,4,5]⟩) R ?_
 intro l G a1
 refine Z07_ok (YE:=Ef l G) (yl:=l) ?_ a3
 rintro b j q i
 dsimp only [Z40] at i
 refine yok (fun a:HH=>[aJ b4 [(sc A2 v1.Dims D2),(sc A3 v1.Strides D3),(iv v1.Offset),(iv v1.Base)] 111,RR kT3 A2 D2 v1.Dims,RR kT3 A3 D3 v1.Strides,aJ Z [(s3 a)] 133,ow kT165 165 (s3 a) b]) (fun a:HH=>[aJ b4 [(sc A2 v1.Dims D2),(sc A3 v1.Strides D3),(iv v1.Offset),(iv v1.Base)] 111,RR kT3 A2 D2 v1.Dims,RR kT3 A3 D3 v1.Strides,aJ Z [(s3 a)] 133,ow kT165 165 (s3 a) q.1]) a1 R R R ?_
 rintro ⟨J,a4,M⟩
 apply Exists.intro
 intro C V
 refine ⟨?_,?_⟩
 refine cE ?_
 exact aB zf
 refine aM 4 aC ?_
 rintro rfl
 obtain ⟨a0,i⟩:=gd i
 refine bL ?_
 refine lO (vz (.agg [(iv j),(il b)].toArray) (aV nb eZ R R)) (bK (K:=kT165) (xs:=([(⟨j,(b.length:Int)⟩:pair)]:List pair)) (vs:=[(.agg [(iv j),(il b)].toArray)]) 0 R R fT fU eZ R R R R R R ?_ R (fun a6 a7=>?_))
 exact fun I h s=>(jB).list [(((),()),(⟨j,(b.length:Int)⟩:pair))] I h s
 refine lM _ (fun w s=>(s.f 6 [5,1,0,5])) ?_
 refine dV (K:=kT165) 8796093022208 R R fT fU ml (Zr.zk zT165 eZ) R R R R R R dA a0 (fun L O=>(lN (OO kT165 165 L O (b++([(⟨j,(b.length:Int)⟩:pair)]:List pair))::_::_::_::_::V) ?_))
 refine cO 4 R R ts R R R R R (lN (_::_::_::_::aJ Z [(sc L (b++([(⟨j,(b.length:Int)⟩:pair)]:List pair)) O)] 133::V) ?_)
 refine cE ?_
 cases i
 exact Bm (L,(b++([(⟨j,(b.length:Int)⟩:pair)]:List pair)).length,O) R (fun w s=>(s.f 5 [1,4,0,1]))
 rintro ⟨J,a4,M⟩ Dm V
 refine cL 4 aC ?_
 rintro rfl
 refine aI (dE 6 [] bQ fun ht hn=>?_)
 refine t2 0 [] ?_
 refine dD ?_
 refine bA ?_
 cases i
 exact xq (cX (vs:=[(sc A2 v1.Dims D2),(sc J F M),(.bool true)]) (.inl R) ((A2,v1.Dims.length,D2),(J,F.length,M)) R ⟨R,R,R,trivial⟩ R (tE 5 [1,4]))
theorem Z30_ok  {a:Node}{b:(List Int)}{r:(List Int)×(List pair)×Bool}(g:Z30 a b=some r) :
 FnOk Tryz.prog 104 [(.agg [(iv a.Op),(.slice A2 N2 D2),(.slice A3 N3 D3),(.slice A4 N4 D4),(aH a.Form),(.slice A5 N5 D5)].toArray),(.slice A7 N7 D7)] [aO kT3 (.slice A2 N2 D2) a.Args,aO kT3 (.slice A3 N3 D3) a.Dims,aO kT3 (.slice A4 N4 D4) a.Ints,aO kT3 (.slice A5 N5 D5) a.Data,aO kT3 (.slice A7 N7 D7) b] (fun (h:HH×HH)=>((.tuple [(s3 h.1),(s3 h.2),(.bool r.2.2)].toArray),[aO kT3 (s3 h.1) r.1,ow kT165 165 (s3 h.2) r.2.1])):=by
 unfold Z30 at g
 refine aR Tryz.func104 R 14 R R fun C V=>?_
 refine cL 0 aA ?_
 rintro rfl
 refine cL 1 aA ?_
 rintro rfl
 refine cL 2 aA ?_
 rintro rfl
 refine cL 3 aA ?_
 rintro rfl
 refine cL 4 aA ?_
 rintro rfl
 let D:=RR kT3 A2 D2 a.Args::RR kT3 A3 D3 a.Dims::RR kT3 A4 D4 a.Ints::RR kT3 A5 D5 a.Data::RR kT3 A7 D7 b::V
 refine cN D ?_
 refine bA ?_
 refine eJ R fun I=>?_
 refine bL ?_
 let G:=aJ I [(iv a.Op),(sc A2 a.Args D2),(sc A3 a.Dims D3),(sc A4 a.Ints D4),(aH a.Form),(sc A5 a.Data D5)] 65::D
 refine qN G ?_
 refine bA ?_
 obtain ⟨J,i,g⟩:=bd g
 obtain ⟨l,j,g⟩:=bd g
 refine aW ?_
 refine lM _ (fun w s=>((((((s.d 1 R).d 3 R).d 5 R).d 7 R).d 9 R).e 5 [4,3,2,1,0])) ?_
 refine lC 5 Ar R (Z1h_ok i) R ?_
 rintro ⟨⟨A11,N11,D11⟩,⟨A12,N12,D12⟩⟩
 refine aM 0 aA ?_
 rintro rfl
 refine aM 1 aA ?_
 rintro rfl
 refine lM _ (fun w s=>(((s.d 0 R).d 2 R).e 4 [1,0,2,3])) ?_
 refine lC 2 As R (Z2p_ok j) R ?_
 rintro ⟨⟨m,E,u⟩,⟨q,F,B⟩⟩
 refine aM 0 aA ?_
 rintro rfl
 refine aM 1 aC ?_
 rintro rfl
 refine dJ ?_
 cases g
 exact iL ((m,l.1.length,u),(q,l.2.1.length,B)) (tE 10 [0,1])
theorem Z1y_ok  {k1:shiftKind}{b:Node}{a:(List (List Int))}{r:(List Int)×Bool}(i:Z1y k1 b a=some r) :
 FnOk Tryz.prog 217 [(.agg [(aH k1.use),(.func (.func 104) [].toArray [].toArray)].toArray),(.agg [(iv b.Op),(.slice A3 N3 D3),(.slice A4 N4 D4),(.slice A5 N5 D5),(aH b.Form),(.slice A6 N6 D6)].toArray),(.slice A8 N8 D8)] [aO kT3 (.slice A3 N3 D3) b.Args,aO kT3 (.slice A4 N4 D4) b.Dims,aO kT3 (.slice A5 N5 D5) b.Ints,aO kT3 (.slice A6 N6 D6) b.Data,aO kT23 (.slice A8 N8 D8) a] (fun (h:HH)=>((.tuple [(s3 h),(.bool r.2)].toArray),[aO kT3 (s3 h) r.1])):=by
 unfold Z1y at i
 refine aR Tryz.func217 R 27 R R fun C V=>?_
 refine cL 0 aA ?_
 rintro rfl
 refine cL 1 aA ?_
 rintro rfl
 refine cL 2 aA ?_
 rintro rfl
 refine cL 3 aA ?_
 rintro rfl
 refine cL 4 aA ?_
 rintro rfl
 let B:=RR kT3 A3 D3 b.Args::RR kT3 A4 D4 b.Dims::RR kT3 A5 D5 b.Ints::RR kT3 A6 D6 b.Data::RR kT23 A8 D8 a::V
 refine cN B ?_
 refine bA ?_
 refine eJ R fun M=>?_
 refine eJ R fun q=>?_
 refine aW ?_
 let L:=aJ q [(iv b.Op),(sc A3 b.Args D3),(sc A4 b.Dims D4),(sc A5 b.Ints D5),(aH b.Form),(sc A6 b.Data D6)] 65::aJ M [(aH k1.use),(.func (.func 104) [].toArray [].toArray)] 131::B
 refine qN L ?_
 refine dJ ?_
 split at i
 refine dJ ?_
 cases i
 exact ka (none,0,0) (fun w s=>((s.nilr kT3).e 8 [0]))
 refine bL ?_
 obtain ⟨g,i⟩:=gd i
 obtain ⟨u,j,i⟩:=bd i
 refine bB 6 aA (show 0<a.length by have:=g; omega) (fun O o14 T=>?_)
 subst T
 refine dP (K:=kT23) 6 (0:Int) dT23.dec R g.1 g.2 ?_
 rintro ⟨D,F⟩
 refine dE 14 [] bQ fun Y U=>?_
 refine kM 0 [] ?_
 refine dR 5 R (eO (fo:=0) 0 bZ R R R) (d1 6 R (lM _ (fun w s=>((((((s.d 4 R).d 6 R).d 8 R).d 10 R).d 5 R).e 7 [4,3,2,1,0,5,6])) ?_))
 refine cP (fs:=[]) (cs:=[]) 5 R R At R R (Z30_ok j) R ?_
 rintro ⟨⟨l,I,m⟩,⟨E,J,G⟩⟩
 refine aM 0 aA ?_
 rintro rfl
 refine aM 1 aC ?_
 rintro rfl
 refine aB (aG (sL [1,0]) (dR 7 R (vT R) (hS:=(sL [1,0])) ?_))
 refine t2 8 [1,0] ?_
 refine dD ?_
 refine dH ?_
 cases i
 exact ka (l,u.1.length,m) (tE 11 [0])
theorem Z17_ok  {l:Node}{j:(List Int)}{r:(List Int)×(List pair)×Bool}(i:Z17 l j=some r) :
 FnOk Tryz.prog 105 [(.agg [(iv l.Op),(.slice A2 N2 D2),(.slice A3 N3 D3),(.slice A4 N4 D4),(aH l.Form),(.slice A5 N5 D5)].toArray),(.slice A7 N7 D7)] [aO kT3 (.slice A2 N2 D2) l.Args,aO kT3 (.slice A3 N3 D3) l.Dims,aO kT3 (.slice A4 N4 D4) l.Ints,aO kT3 (.slice A5 N5 D5) l.Data,aO kT3 (.slice A7 N7 D7) j] (fun (h:HH×HH)=>((.tuple [(s3 h.1),(s3 h.2),(.bool r.2.2)].toArray),[aO kT3 (s3 h.1) r.1,ow kT165 165 (s3 h.2) r.2.1])):=by
 unfold Z17 at i
 refine aR Tryz.func105 R 37 R R fun C V=>?_
 refine cL 0 aA ?_
 rintro rfl
 refine cL 1 aA ?_
 rintro rfl
 refine cL 2 aA ?_
 rintro rfl
 refine cL 3 aA ?_
 rintro rfl
 refine cL 4 aA ?_
 rintro rfl
 let W0:=RR kT3 A2 D2 l.Args::RR kT3 A3 D3 l.Dims::RR kT3 A4 D4 l.Ints::RR kT3 A5 D5 l.Data::RR kT3 A7 D7 j::V
 refine cN W0 ?_
 refine bA ?_
 refine eJ R fun M=>?_
 refine bL ?_
 let u:=aJ M [(iv l.Op),(sc A2 l.Args D2),(sc A3 l.Dims D3),(sc A4 l.Ints D4),(aH l.Form),(sc A5 l.Data D5)] 65::W0
 refine qN u ?_
 refine aW ?_
 obtain ⟨r9,F,i⟩:=bd i
 obtain ⟨a6,G,i⟩:=bd i
 obtain ⟨a7,J,i⟩:=bd i
 refine cQ [(1,(sc A7 j D7)),(2,(pt M 0)),(20,(.bool ((!r9)||(a6 != a7))))] (u) ?_ ?_
 refine aW ?_
 refine lM _ (fun w s=>(s.d 2 R)) ?_
 refine lC 1 lR R (Zf_ok F) R ?_
 rintro _
 refine lN u ?_
 refine bA ?_
 rcases bo (!r9) with m | m
 refine dM ?_
 exact qj tI
 refine bA ?_
 refine lM _ (fun w s=>(s.d 2 R)) ?_
 refine cD 1 R (cG m) mq R (Zo_ok (bR G (cY m))) R ?_
 rintro _
 refine lN u ?_
 refine cE ?_
 refine lM _ (fun w s=>(s.d 5 R)) ?_
 refine cD 1 R (cG m) mq R (Zo_ok (bR J (cY m))) R ?_
 rintro _
 refine lN u ?_
 refine aW ?_
 exact qj tI
 rintro σ1
 refine cE ?_
 split at i
 refine dH ?_
 cases i
 exact iL ((none,0,0),(none,0,0)) (fun w s=>(((s.nilr kT3).nilo kT165 165).e 8 [1,0]))
 refine cU ?_
 refine bK (K:=kT165) (xs:=([]:List pair)) (vs:=[]) 0 R R fT fU eZ R R R R R R ?_ R (fun O Y=>?_)
 exact fun I h s=>(jB).list [] I h s
 refine bL ?_
 refine bD (A:=((List pair))×(HH)) (fun a=>Z17_J1 l a.1=some r) (fun a=>[(2,(pt M 0)),(7,(s3 a.2))]) (fun a=>ow kT165 165 (s3 a.2) a.1::u) ?_ ?_
 refine cE ?_
 obtain ⟨a8,L,i⟩:=bd i
 refine bA ?_
 refine lM _ (fun w s=>(s.d 6 R)) ?_
 refine lC 1 mq R (Zo_ok L) R ?_
 rintro _
 refine bL ?_
 obtain ⟨e1,a5,a4⟩:=bd i
 refine bE (A:=HH) a5 (fun s a=>[(2,(pt M 0)),(7,(s3 a)),(23,(iv a8)),(24,(iv s.2))]) (fun s a=>ow kT165 165 (s3 a) s.1::u) (O,([]:List pair).length,Y) (aS R) tI ?_
 rintro ⟨b,g⟩ ⟨T,a1,Z⟩ σ1 a9 i a3
 dsimp only [Z17_L1] at i
 refine bJ 0 aC (fun (hn:a1=b.length)=>?_)
 subst hn
 refine cH ?_
 split at i
 refine j9 ?_
 obtain ⟨E,i⟩:=gd i
 refine bL ?_
 refine lO (vz (.agg [(iv g),(iv g)].toArray) (aV nb eZ R R)) (bK (K:=kT165) (xs:=([(⟨g,g⟩:pair)]:List pair)) (vs:=[(.agg [(iv g),(iv g)].toArray)]) 0 R R fT fU eZ R R R R R R ?_ R (fun aa ab=>?_))
 exact fun I h s=>(jB).list [(((),()),(⟨g,g⟩:pair))] I h s
 refine lM _ (tE 2 [1,0]) ?_
 refine dV (K:=kT165) 8796093022208 R R fT fU ml (Zr.zk zT165 eZ) R R R R R R dA E (fun B D=>(lN (OO kT165 165 B D (b++([(⟨g,g⟩:pair)]:List pair))::u) ?_))
 refine dM ?_
 cases i
 exact qA (B,(b++([(⟨g,g⟩:pair)]:List pair)).length,D) tI
 refine aW ?_
 cases i
 obtain rfl:=a3 _ R
 have i:=a4
 refine bA ?_
 exact qI (b,(T,b.length,Z)) i tI
 rintro ⟨q,⟨U,a2,a0⟩⟩ σ1 i
 dsimp only [Z17_J1] at i
 refine bJ 0 aC (fun (hn:a2=q.length)=>?_)
 subst hn
 refine j9 ?_
 cases i
 exact iL ((A3,l.Dims.length,D3),(U,q.length,a0)) (tE 7 [3,0])
theorem Z2b_ok  {k1:shiftKind}{b:Node}{a:(List (List Int))}{r:(List Int)×Bool}(i:Z2b k1 b a=some r) :
 FnOk Tryz.prog 217 [(.agg [(aH k1.use),(.func (.func 105) [].toArray [].toArray)].toArray),(.agg [(iv b.Op),(.slice A3 N3 D3),(.slice A4 N4 D4),(.slice A5 N5 D5),(aH b.Form),(.slice A6 N6 D6)].toArray),(.slice A8 N8 D8)] [aO kT3 (.slice A3 N3 D3) b.Args,aO kT3 (.slice A4 N4 D4) b.Dims,aO kT3 (.slice A5 N5 D5) b.Ints,aO kT3 (.slice A6 N6 D6) b.Data,aO kT23 (.slice A8 N8 D8) a] (fun (h:HH)=>((.tuple [(s3 h),(.bool r.2)].toArray),[aO kT3 (s3 h) r.1])):=by
 unfold Z2b at i
 refine aR Tryz.func217 R 27 R R fun C V=>?_
 refine cL 0 aA ?_
 rintro rfl
 refine cL 1 aA ?_
 rintro rfl
 refine cL 2 aA ?_
 rintro rfl
 refine cL 3 aA ?_
 rintro rfl
 refine cL 4 aA ?_
 rintro rfl
 let B:=RR kT3 A3 D3 b.Args::RR kT3 A4 D4 b.Dims::RR kT3 A5 D5 b.Ints::RR kT3 A6 D6 b.Data::RR kT23 A8 D8 a::V
 refine cN B ?_
 refine bA ?_
 refine eJ R fun M=>?_
 refine eJ R fun q=>?_
 refine aW ?_
 let L:=aJ q [(iv b.Op),(sc A3 b.Args D3),(sc A4 b.Dims D4),(sc A5 b.Ints D5),(aH b.Form),(sc A6 b.Data D6)] 65::aJ M [(aH k1.use),(.func (.func 105) [].toArray [].toArray)] 131::B
 refine qN L ?_
 refine dJ ?_
 split at i
 refine dJ ?_
 cases i
 exact ka (none,0,0) (fun w s=>((s.nilr kT3).e 8 [0]))
 refine bL ?_
 obtain ⟨g,i⟩:=gd i
 obtain ⟨u,j,i⟩:=bd i
 refine bB 6 aA (show 0<a.length by have:=g; omega) (fun O o14 T=>?_)
 subst T
 refine dP (K:=kT23) 6 (0:Int) dT23.dec R g.1 g.2 ?_
 rintro ⟨D,F⟩
 refine dE 14 [] bQ fun Y U=>?_
 refine kM 0 [] ?_
 refine dR 5 R (eO (fo:=0) 0 bZ R R R) (d1 6 R (lM _ (fun w s=>((((((s.d 4 R).d 6 R).d 8 R).d 10 R).d 5 R).e 7 [4,3,2,1,0,5,6])) ?_))
 refine cP (fs:=[]) (cs:=[]) 5 R R Au R R (Z17_ok j) R ?_
 rintro ⟨⟨l,I,m⟩,⟨E,J,G⟩⟩
 refine aM 0 aA ?_
 rintro rfl
 refine aM 1 aC ?_
 rintro rfl
 refine aB (aG (sL [1,0]) (dR 7 R (vT R) (hS:=(sL [1,0])) ?_))
 refine t2 8 [1,0] ?_
 refine dD ?_
 refine dH ?_
 cases i
 exact ka (l,u.1.length,m) (tE 11 [0])
theorem Z1r_ok  {b:(List Int)}{a:Int}{i:Int}{r:(List Int)}(g:Z1r b a i=some r) :
 FnOk Tryz.prog 145 [(.slice A2 N2 D2),(iv a),(iv i)] [aO kT3 (.slice A2 N2 D2) b] (fun (h:HH)=>((s3 h),[ow kT3 3 (s3 h) r])):=by
 unfold Z1r at g
 refine aR Tryz.func145 R 15 R R fun C V=>?_
 refine cL 0 aA ?_
 rintro rfl
 let m:=RR kT3 A2 D2 b::V
 refine cN m ?_
 refine cH ?_
 obtain ⟨l,j,g⟩:=bd g
 refine bA ?_
 refine lM _ (fun w s=>(s.d 0 R)) ?_
 refine lC 1 iQ R (Zc_ok j) R ?_
 rintro ⟨A7,N7,D7⟩
 refine aM 0 aC ?_
 rintro rfl
 refine bL ?_
 obtain ⟨e,g⟩:=gd g
 refine bL ?_
 refine bC 0 aC (show 0<l.length by have:=e; omega) (fun q o10 u=>?_)
 subst u
 refine cE ?_
 refine eB (K:=kT3) (x':=i) 0 a R R cI R R e.1 e.2 ?_ ?_
 exact fun I h s=>(gF).put I h () i s
 refine dJ ?_
 cases g
 exact qF ((ad q o10),l.length,D7) (tE 2 [0])
theorem Z29_ok  {b:(List Int)}{a:Int}{r:Int×Int×Int}(i:Z29 b a=some r) :
 FnOk Tryz.prog 147 [(.slice A2 N2 D2),(iv a)] [aO kT3 (.slice A2 N2 D2) b] (fun (h:Unit)=>((.tuple [(iv r.1),(iv r.2.1),(iv r.2.2)].toArray),[])):=by
 unfold Z29 at i
 refine aR Tryz.func147 R 20 R R fun C V=>?_
 refine cL 0 aA ?_
 rintro rfl
 let u:=RR kT3 A2 D2 b::V
 refine cN u ?_
 refine dM ?_
 obtain ⟨g,i⟩:=gd i
 obtain ⟨D,l,i⟩:=bd i
 obtain ⟨m,i⟩:=gd i
 obtain ⟨e,i⟩:=gd i
 obtain ⟨q,j,i⟩:=bd i
 refine cQ [(4,(iv D)),(5,(iv (ix b a))),(6,(iv q))] (u) ?_ ?_
 refine bB 0 aA (show 0<b.length by have:=m; omega) (fun E o10 B=>?_)
 subst B
 refine dE 16 [] bQ fun G F=>?_
 refine iC 0 [] ?_
 refine t6 4 [] ?_
 refine fW [2,11] (by kernel_rfl) R ⟨?_,?_,trivial⟩
 refine gZ (K:=kT3) (0:Int) a 0 R R bI cI R R R R g.1 g.2.1 g.2.2 (fun A5 D5=>(aB (aG (sL [0]) (fW [3,11] (by kernel_rfl) R ⟨?_,?_,trivial⟩))))
 refine lM _ (fun w s=>(s.d 0 R)) ?_
 refine lC 1 mq R (Zo_ok l) R ?_
 rintro _
 refine aB (aG (sL [0]) (d1 11 R (gZ (K:=kT3) (aK (a+1)) (b.length:Int) 1 R R bI cI R R R R e.1 e.2.1 e.2.2 (fun A12 D12=>(aB (aG (sL [1,0]) (d1 12 R (lM _ (fun w s=>(s.d 0 R)) ?_))))))))
 refine lC 1 mq R (Zo_ok j) R ?_
 rintro _
 refine aB (aG (sL [1,0]) ?_)
 refine iM 13 [1,0] ?_
 refine dD ?_
 exact qj (tE 2 [])
 refine gZ (K:=kT3) (aK (a+1)) (b.length:Int) 1 R R bI cI R R R R e.1 e.2.1 e.2.2 (fun A12 D12=>(aB (aG (sL [1,0]) (d1 3 R (lM _ (fun w s=>(s.d 1 R)) ?_)))))
 refine lC 1 mq R (Zo_ok l) R ?_
 rintro _
 refine aB (aG (sL [1,0]) (d1 12 R (lM _ (fun w s=>(s.d 0 R)) ?_)))
 refine lC 1 mq R (Zo_ok j) R ?_
 rintro _
 refine aB (aG (sL [1,0]) ?_)
 refine iM 13 [1,0] ?_
 refine dD ?_
 exact qj (tE 2 [])
 refine gZ (K:=kT3) (aK (a+1)) (b.length:Int) 0 R R bI cI R R R R e.1 e.2.1 e.2.2 (fun A12 D12=>(aB (aG (sL [0]) (d1 2 R (gZ (K:=kT3) (0:Int) a 1 R R bI cI R R R R g.1 g.2.1 g.2.2 (fun A5 D5=>(aB (aG (sL [1,0]) (d1 3 R (lM _ (fun w s=>(s.d 0 R)) ?_))))))))))
 refine lC 1 mq R (Zo_ok l) R ?_
 rintro _
 refine aB (aG (sL [1,0]) (d1 12 R (lM _ (fun w s=>(s.d 1 R)) ?_)))
 refine lC 1 mq R (Zo_ok j) R ?_
 rintro _
 refine aB (aG (sL [1,0]) ?_)
 refine iM 13 [1,0] ?_
 refine dD ?_
 exact qj (tE 2 [])
 rintro σ1
 refine bA ?_
 cases i
 exact iL () (tE 1 [])
theorem Z9_ok  {B:(List Int)}{T:Int}{F:Int}{b:(List pair)}{r:(List pair)}(g:Z9 B T F b=some r) :
 FnOk Tryz.prog 146 [(.slice A2 N2 D2),(iv T),(iv F),(.slice A6 N6 D6)] [aO kT3 (.slice A2 N2 D2) B,aO kT165 (.slice A6 N6 D6) b] (fun (h:HH)=>((.slice h.1 h.2.1 h.2.2),[ow kT165 165 (.slice h.1 h.2.1 h.2.2) r])):=by
 unfold Z9 at g
 refine aR Tryz.func146 R 73 R R fun C V=>?_
 refine cN (_::_::V) ?_
 refine cL 0 aA ?_
 rintro rfl
 refine cL 1 aA ?_
 rintro rfl
 let M:List HP:=RR kT3 A2 D2 B::RR kT165 A6 D6 b::V
 refine cN M ?_
 refine aI (aD (lS R (aB (aE (aI ?_)))))
 obtain ⟨q,bk,g⟩:=bd g
 refine aD (lS R (lI R (lM (RR kT3 A2 D2 B::M) (fun w s=>(s.d 0 R)) ?_)))
 refine lC 1 wN R (Z29_ok bk) R ?_
 rintro _
 refine lN M ?_
 refine lO (vT R) (lI R (lI R (lI R (lI R (lI R (lI R (aB (aE (aI ?_)))))))))
 obtain ⟨ae,g⟩:=gd g
 refine aD (lI R (lI R (lO (sg R R) (lS R (lO (eT fT R) (lO (sg R R) (uW (K:=kT165) (m:=(aK ((aK (q.1*q.2.2))*(b.length:Int)))) (z:=zT165.z) R R fT fU ml (Zr.zk zT165 eZ) (by decide) R R ae.1 ae.2.1 ae.2.2 (fun A10 D10=>(lS R (aB (aE (aI (bD (A:=((List pair))×(HH)) (fun a=>Z9_J7 a.1=some r) (fun a=>[(12,(.slice a.2.1 a.2.2.1 a.2.2.2))]) (fun a=>ow kT165 165 (.slice a.2.1 a.2.2.1 a.2.2.2) a.1::M) ?_ ?_)))))))))))))
 refine aI (aD (lI R (aB (aE (cB ?_)))))
 obtain ⟨e1,bh,be⟩:=bd g
 refine bE (A:=HH×HH) bh (fun s a=>[(2,(iv F)),(3,(.slice a.1.1 a.1.2.1 a.1.2.2)),(9,(iv q.1)),(10,(iv q.2.1)),(11,(iv q.2.2)),(12,(.slice a.2.1 a.2.2.1 a.2.2.2)),(13,(iv s.2))]) (fun s a=>aO kT165 (.slice a.1.1 a.1.2.1 a.1.2.2) b::ow kT165 165 (.slice a.2.1 a.2.2.1 a.2.2.2) s.1::M) ((A6,b.length,D6),(A10,([]:List pair).length,D10)) (aS R) (fun w s=>(s.d 2 R)) ?_
 rintro ⟨a5,j⟩ ⟨⟨b3,b6,b5⟩,⟨am,b7,av⟩⟩ σ1 a0 g ba
 replace g:Z9_L1 F b q a5 j=some a0:=g
 unfold Z9_L1 at g
 refine bJ 0 aA (fun (D:b6=b.length)=>?_)
 subst D
 refine bJ 1 aC (fun (D:b7=a5.length)=>?_)
 subst D
 refine aI (aI (aD (lI R (lI R (lO (jz R R) (aB (aE ?_)))))))
 rcases bY g with ⟨Y,g⟩|⟨Y,g⟩
 refine bM R Y (bS (aE (aI (bD (A:=((List pair))×(HH×HH)) (fun a=>Z9_J6 j a.1=some a0) (fun a=>[(2,(iv F)),(3,(.slice a.2.1.1 a.2.1.2.1 a.2.1.2.2)),(9,(iv q.1)),(10,(iv q.2.1)),(11,(iv q.2.2)),(12,(.slice a.2.2.1 a.2.2.2.1 a.2.2.2.2)),(13,(iv j))]) (fun a=>aO kT165 (.slice a.2.1.1 a.2.1.2.1 a.2.1.2.2) b::ow kT165 165 (.slice a.2.2.1 a.2.2.2.1 a.2.2.2.2) a.1::M) ?_ ?_))))
 refine cB (aI (aD (lS R (lO (eT fT R) (lI R (aB (aE (cB ?_))))))))
 obtain ⟨e2,bi,bf⟩:=bd g
 refine bE (A:=HH×HH) bi (fun s a=>[(2,(iv F)),(3,(.slice a.1.1 a.1.2.1 a.1.2.2)),(9,(iv q.1)),(10,(iv q.2.1)),(11,(iv q.2.2)),(12,(.slice a.2.1 a.2.2.1 a.2.2.2)),(13,(iv j)),(36,(.slice a.1.1 a.1.2.1 a.1.2.2)),(37,(il b)),(38,(iv s.2))]) (fun s a=>aO kT165 (.slice a.1.1 a.1.2.1 a.1.2.2) b::ow kT165 165 (.slice a.2.1 a.2.2.1 a.2.2.2) s.1::M) ((b3,b.length,b5),(am,a5.length,av)) (aS R) (fun w s=>s) ?_
 rintro ⟨O,i⟩ ⟨⟨b4,b8,L⟩,⟨aa,b9,ab⟩⟩ σ1 a1 g bb
 replace g:Z9_L2 F b q j O i=some a1:=g
 unfold Z9_L2 at g
 refine bJ 0 aA (fun (D:b8=b.length)=>?_)
 subst D
 refine bJ 1 aC (fun (D:b9=O.length)=>?_)
 subst D
 refine aI (aD (lO (jz R R) (aB (aE (aI ?_)))))
 rcases bY g with ⟨Z,g⟩|⟨Z,g⟩
 refine bM R Z (bS (aE (aI (bD (A:=((List pair))×(HH×HH)) (fun a=>Z9_J5 i a.1=some a1) (fun a=>[(2,(iv F)),(3,(.slice a.2.1.1 a.2.1.2.1 a.2.1.2.2)),(9,(iv q.1)),(10,(iv q.2.1)),(11,(iv q.2.2)),(12,(.slice a.2.2.1 a.2.2.2.1 a.2.2.2.2)),(13,(iv j)),(36,(.slice a.2.1.1 a.2.1.2.1 a.2.1.2.2)),(37,(il b)),(38,(iv i))]) (fun a=>aO kT165 (.slice a.2.1.1 a.2.1.2.1 a.2.1.2.2) b::ow kT165 165 (.slice a.2.2.1 a.2.2.2.1 a.2.2.2.2) a.1::M) ?_ ?_))))
 refine cB (aI ?_)
 obtain ⟨J,g⟩:=gd g
 refine aD (bC 0 aA (show 0<b.length by have:=J; omega) (fun E o101 ha=>?_))
 subst ha
 refine lO (eA fT fU R R J) (sJ (.agg [(iv (ix b i).from_),(iv (ix b i).to)].toArray) ?_ R R ?_)
 exact (x9 (K:=kT165) (cells:=fun x=>[(iv x.from_),(iv x.to)]) 0 i wO fU (DecK.flat zp fun _ _=>R) aA R J.1 J.2)
 refine aY R R eZ (fun U=>(aL 0 R R fU R R R R R R (lN (aJ U [(iv (ix b i).from_),(iv (ix b i).to)] 165::RR kT165 (ad E o101) L b::OO kT165 165 aa ab O::M) ?_)))
 refine aB (aE (aI (aD (lI R (aB (aE (cB ?_)))))))
 obtain ⟨e3,bj,bg⟩:=bd g
 refine bE (A:=HH) bj (fun s a=>[(2,(iv F)),(3,(sc (ad E o101) b L)),(9,(iv q.1)),(10,(iv q.2.1)),(11,(iv q.2.2)),(12,(.slice a.1 a.2.1 a.2.2)),(13,(iv j)),(15,(pt U 0)),(16,(iv s.2)),(36,(sc (ad E o101) b L)),(37,(il b)),(38,(iv i))]) (fun s a=>RR kT165 (ad E o101) L b::ow kT165 165 (.slice a.1 a.2.1 a.2.2) s.1::aJ U [(iv (ix b i).from_),(iv (ix b i).to)] 165::M) (aa,O.length,ab) (aS R) (fun w s=>(s.e 3 [1,2,0])) ?_
 rintro ⟨u,l⟩ ⟨a6,aw,a8⟩ σ1 b2 g bc
 replace g:Z9_L3 F b q j i u l=some b2:=g
 unfold Z9_L3 at g
 refine bJ 1 aC (fun (D:aw=u.length)=>?_)
 subst D
 refine aI (aI (aD (lI R (lI R (lO (jz R R) (aB (aE ?_)))))))
 rcases bY g with ⟨G,g⟩|⟨G,g⟩
 refine bM R G (bS (aE (aI (cB ?_))))
 obtain ⟨ac,g⟩:=gd g
 refine aD (lS R (lI R (lI R (lO (sg R R) (lO (eC 0 ra R) (lO (eH 2 fC R R R) (lO (jy R R) (lI R (lO (sg R R) (lI R (lO (jy R R) (lI R (lI R (lO (sg R R) (lO (eC 1 rb R) (lO (eH 2 fC R R R) (lO (jy R R) (lI R (lO (sg R R) (lI R (lO (jy R R) (lO (vz (.agg [(iv (aK ((aK ((aK ((aK (j*q.2.1))+(ix b i).from_))*q.2.2))+l))),(iv (aK ((aK ((aK ((aK (j*F))+(ix b i).to))*q.2.2))+l)))].toArray) (aV nb eZ R R)) (bK (K:=kT165) (xs:=([(⟨(aK ((aK ((aK ((aK (j*q.2.1))+(ix b i).from_))*q.2.2))+l)),(aK ((aK ((aK ((aK (j*F))+(ix b i).to))*q.2.2))+l))⟩:pair)]:List pair)) (vs:=[(.agg [(iv (aK ((aK ((aK ((aK (j*q.2.1))+(ix b i).from_))*q.2.2))+l))),(iv (aK ((aK ((aK ((aK (j*F))+(ix b i).to))*q.2.2))+l)))].toArray)]) 0 R R fT fU eZ R R R R R R ?_ R (fun ag an=>?_))))))))))))))))))))))))
 exact fun I h s=>(jB).list [(((),()),(⟨(aK ((aK ((aK ((aK (j*q.2.1))+(ix b i).from_))*q.2.2))+l)),(aK ((aK ((aK ((aK (j*F))+(ix b i).to))*q.2.2))+l))⟩:pair))] I h s
 refine lN (OO kT165 165 ag an ([(⟨(aK ((aK ((aK ((aK (j*q.2.1))+(ix b i).from_))*q.2.2))+l)),(aK ((aK ((aK ((aK (j*F))+(ix b i).to))*q.2.2))+l))⟩:pair)]:List pair)::_::OO kT165 165 a6 a8 u::_::M) ?_
 refine lM (ow _ _ _ _::ow _ _ _ _::aO _ _ _::aJ _ _ _::M) (fun w s=>(s.e 4 [2,0,1,3])) ?_
 refine dV (K:=kT165) 8796093022208 R R fT fU ml (Zr.zk zT165 eZ) R R R R R R dA ac (fun a7 a9=>(lN (OO kT165 165 a7 a9 (u++([(⟨(aK ((aK ((aK ((aK (j*q.2.1))+(ix b i).from_))*q.2.2))+l)),(aK ((aK ((aK ((aK (j*F))+(ix b i).to))*q.2.2))+l))⟩:pair)]:List pair))::_::_::M) ?_))
 refine lS R (aB (cT (aE (aD (lI R (lO (jy R R) (lI R (aB ?_))))))))
 obtain rfl:=so g
 exact qA (a7,(u++([(⟨(aK ((aK ((aK ((aK (j*q.2.1))+(ix b i).from_))*q.2.2))+l)),(aK ((aK ((aK ((aK (j*F))+(ix b i).to))*q.2.2))+l))⟩:pair)]:List pair)).length,a9) (fun w s=>(s.e 3 [1,0,2]))
 refine aX R G (eL (cR ?_))
 obtain rfl:=so g
 obtain rfl:=bc _ R
 have g:=bg
 refine cR (dU (cT ?_))
 exact qI (u,(((ad E o101),b.length,L),(a6,u.length,a8))) g (fun w s=>(s.e 3 [0,1]))
 rintro ⟨a2,⟨⟨ah,ax,ao⟩,⟨ai,ay,ap⟩⟩⟩ σ1 g
 replace g:Z9_J5 i a2=some a1:=g
 unfold Z9_J5 at g
 refine bJ 0 aA (fun (D:ax=b.length)=>?_)
 subst D
 refine bJ 1 aC (fun (D:ay=a2.length)=>?_)
 subst D
 refine aD (lO (jy R R) (lI R (aB ?_)))
 obtain rfl:=so g
 exact qA ((ah,b.length,ao),(ai,a2.length,ap)) (fun w s=>s)
 refine aX R Z (eL (cR ?_))
 obtain rfl:=so g
 obtain rfl:=bb _ R
 have g:=bf
 refine cR (dU (cT ?_))
 exact qI (O,((b4,b.length,L),(aa,O.length,ab))) g (fun w s=>s)
 rintro ⟨a3,⟨⟨aj,az,aq⟩,⟨ak,b0,ar⟩⟩⟩ σ1 g
 replace g:Z9_J6 j a3=some a0:=g
 unfold Z9_J6 at g
 refine bJ 0 aA (fun (D:az=b.length)=>?_)
 subst D
 refine bJ 1 aC (fun (D:b0=a3.length)=>?_)
 subst D
 refine aD (lI R (lO (jy R R) (lI R (aB ?_))))
 obtain rfl:=so g
 exact qA ((aj,b.length,aq),(ak,a3.length,ar)) (fun w s=>s)
 refine aX R Y (eL (cR ?_))
 obtain rfl:=so g
 obtain rfl:=ba _ R
 have g:=be
 refine cR (dU ?_)
 exact qI (a5,(am,a5.length,av)) g (fun w s=>(s.e 2 [1]))
 rintro ⟨a4,⟨al,b1,au⟩⟩ σ1 g
 replace g:Z9_J7 a4=some r:=g
 unfold Z9_J7 at g
 refine bJ 0 aC (fun (D:b1=a4.length)=>?_)
 subst D
 refine aI (aD (lS R (lS R (aB (aE (bO ?_))))))
 obtain rfl:=so g
 exact qF (al,a4.length,au) (fun w s=>(s.e 3 [0]))
theorem Zy_ok  {j:(List Int)}{l:Int}{b:Int}{g:Int}{i:Int}{r:(List Int)×(List pair)×Bool}(m:Zy j l b g i=some r) :
 FnOk Tryz.prog 108 [(.slice A2 N2 D2),(iv l),(iv b),(iv g),(iv i)] [aO kT3 (.slice A2 N2 D2) j] (fun (h:HH×HH)=>((.tuple [(s3 h.1),(s3 h.2),(.bool r.2.2)].toArray),[ow kT3 3 (s3 h.1) r.1,ow kT165 165 (s3 h.2) r.2.1])):=by
 unfold Zy at m
 refine aR Tryz.func108 R 84 R R fun C V=>?_
 refine cL 0 aA ?_
 rintro rfl
 let M:=RR kT3 A2 D2 j::V
 refine cN M ?_
 refine dJ ?_
 obtain ⟨r7,ap,m⟩:=bd m
 refine aW ?_
 refine lM _ (fun w s=>(s.d 0 R)) ?_
 refine lC 1 hN R (Zn_ok ap) R ?_
 rintro _
 refine lN M ?_
 refine aW ?_
 split at m
 refine dH ?_
 cases m
 exact iL ((none,0,0),(none,0,0)) (fun w s=>(((s.nilo kT3 3).nilo kT165 165).e 3 [1,0]))
 refine bL ?_
 refine bD (A:=(Unit)×(Unit)) (fun a=>Zy_J1 j l b g i=some r) (fun a=>[(0,(sc A2 j D2)),(1,(iv l)),(2,(iv b)),(3,(iv g)),(4,(iv i))]) (fun a=>M) ?_ ?_
 refine cU ?_
 refine bK (K:=kT3) (xs:=([b,g,i]:List Int)) (vs:=[(iv b),(iv g),(iv i)]) 0 R R bI cI gB R R R R R R ?_ R (fun A10 D10=>?_)
 exact fun I h s=>(gF).list [((),b),((),g),((),i)] I h s
 refine cU ?_
 obtain ⟨e1,an,a6⟩:=bd m
 refine bE (A:=HH) an (fun s a=>[(0,(sc A2 j D2)),(1,(iv l)),(2,(iv b)),(3,(iv g)),(4,(iv i)),(27,(s3 a)),(28,(il ([b,g,i]:List Int))),(29,(iv s))]) (fun s a=>ow kT3 3 (s3 a) ([b,g,i]:List Int)::M) (A10,([b,g,i]:List Int).length,D10) (aS R) tI ?_
 rintro L ⟨av,ai,T⟩ σ1 ar m a2
 dsimp only [Zy_L1] at m
 refine bJ 0 aC (fun (hn:ai=([b,g,i]:List Int).length)=>?_)
 subst hn
 refine cH ?_
 split at m
 refine cH ?_
 obtain ⟨a3,m⟩:=gd m
 refine aD (bC 0 aC (show 0<([b,g,i]:List Int).length by have:=a3; omega) (fun Y o22 ha=>?_))
 subst ha
 refine cH ?_
 refine cQ [(0,(sc A2 j D2)),(1,(iv l)),(2,(iv b)),(3,(iv g)),(4,(iv i)),(27,(sc (ad Y o22) ([b,g,i]:List Int) T)),(28,(il ([b,g,i]:List Int))),(29,(iv L)),(38,(.bool ((decide ((ix ([b,g,i]:List Int) L)<0))||(decide ((ix ([b,g,i]:List Int) L)>4096)))))] (OO kT3 3 (ad Y o22) T ([b,g,i]:List Int)::M) ?_ ?_
 refine bL ?_
 rcases bo (decide ((ix ([b,g,i]:List Int) L)<0)) with a1 | a1
 refine bL ?_
 exact qj tI
 refine bL ?_
 exact qj tI
 rintro σ1
 refine cE ?_
 split at m
 refine j9 ?_
 cases m
 obtain rfl:=a2 _ R
 have m:=a6
 refine aW ?_
 cases m
 exact iL ((none,0,0),(none,0,0)) (fun w s=>(((s.nilo kT3 3).nilo kT165 165).e 4 [1,0]))
 refine dM ?_
 cases m
 exact qA ((ad Y o22),([b,g,i]:List Int).length,T) tI
 refine aW ?_
 cases m
 obtain rfl:=a2 _ R
 have m:=a6
 refine bA ?_
 exact qI ((),()) m (tE 1 [])
 rintro ⟨_,_⟩ σ1 m
 dsimp only [Zy_J1] at m
 refine cE ?_
 obtain ⟨a4,m⟩:=gd m
 refine aW ?_
 refine bC 0 aA (show 0<j.length by have:=a4; omega) (fun J o29 ha=>?_)
 subst ha
 refine u' ?_
 obtain ⟨E,a7,m⟩:=bd m
 refine bL ?_
 refine lM _ (fun w s=>(s.d 0 R)) ?_
 refine lC 1 r0 R (Z1r_ok a7) R ?_
 rintro ⟨F,ay,G⟩
 refine aM 0 aC ?_
 rintro rfl
 refine cU ?_
 obtain ⟨b0,a8,m⟩:=bd m
 refine bA ?_
 refine lC 1 lR R (FnOk.lends (A':=[OO kT3 3 F G E]) (A:=[RR kT3 F G E]) (B:=[]) (Zf_ok a8) ⟨aQ,trivial⟩ (fun _=>trivial)) R ?_
 rintro _
 refine aW ?_
 split at m
 refine dH ?_
 cases m
 exact iL ((none,0,0),(none,0,0)) (fun w s=>(((s.nilo kT3 3).nilo kT165 165).e 4 [1,0]))
 refine cU ?_
 refine bK (K:=kT165) (xs:=([]:List pair)) (vs:=[]) 0 R R fT fU eZ R R R R R R ?_ R (fun aa ae=>?_)
 exact fun I h s=>(jB).list [] I h s
 refine bL ?_
 refine bD (A:=((List pair))×(HH)) (fun a=>Zy_J2 j l b g i E a.1=some r) (fun a=>[(0,(sc (ad J o29) j D2)),(1,(iv l)),(16,(iv (aK ((aK ((aK (b+(ix j l)))+(aK ((aK ((ix j l) - 1))*i))))+g)))),(17,(sc F E G)),(18,(s3 a.2))]) (fun a=>OO kT3 3 F G E::ow kT165 165 (s3 a.2) a.1::M) ?_ ?_
 refine cH ?_
 obtain ⟨e2,ao,am⟩:=bd m
 refine bE (A:=HH) ao (fun s a=>[(0,(sc (ad J o29) j D2)),(1,(iv l)),(2,(iv b)),(4,(iv i)),(15,(iv (ix j l))),(16,(iv (aK ((aK ((aK (b+(ix j l)))+(aK ((aK ((ix j l) - 1))*i))))+g)))),(17,(sc F E G)),(18,(s3 a)),(19,(iv s.2))]) (fun s a=>OO kT3 3 F G E::ow kT165 165 (s3 a) s.1::M) (aa,([]:List pair).length,ae) (aS R) (tE 2 [1,0]) ?_
 rintro ⟨q,u⟩ ⟨ab,aj,ag⟩ σ1 au m al
 dsimp only [Zy_L2] at m
 refine bJ 1 aC (fun (hn:aj=q.length)=>?_)
 subst hn
 refine dM ?_
 split at m
 refine cU ?_
 obtain ⟨a5,m⟩:=gd m
 refine dJ ?_
 refine lO (vz (.agg [(iv u),(iv (aK (b+(aK (u*(aK (i+1)))))))].toArray) (aV nb eZ R R)) (bK (K:=kT165) (xs:=([(⟨u,(aK (b+(aK (u*(aK (i+1))))))⟩:pair)]:List pair)) (vs:=[(.agg [(iv u),(iv (aK (b+(aK (u*(aK (i+1)))))))].toArray)]) 0 R R fT fU eZ R R R R R R ?_ R (fun aw ax=>?_))
 exact fun I h s=>(jB).list [(((),()),(⟨u,(aK (b+(aK (u*(aK (i+1))))))⟩:pair))] I h s
 refine lM _ (tE 3 [2,0,1]) ?_
 refine dV (K:=kT165) 8796093022208 R R fT fU ml (Zr.zk zT165 eZ) R R R R R R dA a5 (fun Z a0=>(lN (OO kT165 165 Z a0 (q++([(⟨u,(aK (b+(aK (u*(aK (i+1))))))⟩:pair)]:List pair))::_::M) ?_))
 refine dJ ?_
 cases m
 exact qA (Z,(q++([(⟨u,(aK (b+(aK (u*(aK (i+1))))))⟩:pair)]:List pair)).length,a0) (tE 2 [1,0])
 refine aW ?_
 cases m
 obtain rfl:=al _ R
 have m:=am
 refine bA ?_
 exact qI (q,(ab,q.length,ag)) m tI
 rintro ⟨D,⟨O,ak,U⟩⟩ σ1 m
 dsimp only [Zy_J2] at m
 refine bJ 1 aC (fun (hn:ak=D.length)=>?_)
 subst hn
 refine cE ?_
 obtain ⟨aq,a9,m⟩:=bd m
 refine cH ?_
 refine lM _ (fun w s=>((s.d 2 R).e 3 [2,0,1])) ?_
 refine lC 2 tt R (FnOk.lends (A':=[OO kT165 165 O U D]) (A:=[RR kT165 O U D]) (B:=[RR kT3 (ad J o29) D2 j]) (FnOk.perm (Z9_ok a9) (Pre':=[RR kT165 O U D,RR kT3 (ad J o29) D2 j]) (fun _ _ _ s=>(s.e 2 [1,0]))) ⟨aQ,trivial⟩ (fun _=>⟨(bH ta),trivial⟩)) R ?_
 rintro ⟨ac,az,ah⟩
 refine aM 1 aC ?_
 rintro rfl
 refine cH ?_
 cases m
 exact iL ((F,E.length,G),(ac,aq.length,ah)) (tE 4 [2,1])
theorem Z25_ok  {p1:(List Int)}{a:(List Int)}{r:(List Int)×(List pair)×Bool}(b:Z25 p1 a=some r) :
 FnOk Tryz.prog 107 [(.slice A2 N2 D2),(.slice A4 N4 D4)] [aO kT3 (.slice A2 N2 D2) p1,aO kT3 (.slice A4 N4 D4) a] (fun (h:HH×HH)=>((.tuple [(s3 h.1),(s3 h.2),(.bool r.2.2)].toArray),[ow kT3 3 (s3 h.1) r.1,ow kT165 165 (s3 h.2) r.2.1])):=by
 unfold Z25 at b
 refine aR Tryz.func107 R 24 R R fun C V=>?_
 refine cL 0 aA ?_
 rintro rfl
 refine cL 1 aA ?_
 rintro rfl
 let q:=RR kT3 A2 D2 p1::RR kT3 A4 D4 a::V
 refine cN q ?_
 refine dM ?_
 obtain ⟨l,b⟩:=gd b
 obtain ⟨_,b⟩:=gd b
 obtain ⟨_,b⟩:=gd b
 obtain ⟨_,b⟩:=gd b
 obtain ⟨g,e,b⟩:=bd b
 refine bB 0 aA (show 0<p1.length by have:=l; omega) (fun B o7 u=>?_)
 subst u
 refine dE 20 [] bQ fun E D=>?_
 refine mY 0 [] ?_
 refine d1 13 R (lM _ (fun w s=>(s.d 1 R)) ?_)
 refine lC 1 Aw R (Zy_ok e) R ?_
 rintro ⟨⟨i,m,j⟩,⟨A14,N14,D14⟩⟩
 refine aM 0 aC ?_
 rintro rfl
 refine aM 1 aC ?_
 rintro rfl
 refine aB (aG (sL [1,0]) ?_)
 refine t2 14 [1,0] ?_
 refine dD ?_
 refine bA ?_
 cases b
 exact iL ((i,g.1.length,j),(A14,g.2.1.length,D14)) (tE 4 [0,1])
theorem Z2w_ok  {a:Node}{b:(List Int)}{m:Int}{i:Int}{E:Nat}{j:Nat}{g:Nat}{r:(List Int)×(List pair)×Bool}(l:Z2w a b m i=some r) :
 FnOk Tryz.prog 143 [(.agg [(iv a.Op),(.slice A2 N2 D2),(.slice A3 N3 D3),(.slice A4 N4 D4),(aH a.Form),(.slice A5 N5 D5)].toArray),(.slice A7 N7 D7),(pt E 0),(pt j 0),(pt g 0)] [aO kT3 (.slice A2 N2 D2) a.Args,aO kT3 (.slice A3 N3 D3) a.Dims,aO kT3 (.slice A4 N4 D4) a.Ints,aO kT3 (.slice A5 N5 D5) a.Data,aO kT3 (.slice A7 N7 D7) b,aJ E [(iv m)] 3,aJ j [(iv i)] 3,aJ g [(.func (.func 107) [].toArray [].toArray)] 136] (fun (h:HH×HH)=>((.tuple [(s3 h.1),(s3 h.2),(.bool r.2.2)].toArray),[ow kT3 3 (s3 h.1) r.1,ow kT165 165 (s3 h.2) r.2.1,aJ E [(iv m)] 3,aJ j [(iv i)] 3,aJ g [(.func (.func 107) [].toArray [].toArray)] 136])):=by
 unfold Z2w at l
 refine aR Tryz.func143 R 30 R R fun C V=>?_
 refine cM _ (fun w s=>(s.f 8 [5,3,0,5])) ?_
 refine cL 3 aA ?_
 rintro rfl
 refine cL 4 aA ?_
 rintro rfl
 refine cL 5 aA ?_
 rintro rfl
 refine cL 6 aA ?_
 rintro rfl
 refine cL 7 aA ?_
 rintro rfl
 let T:=RR kT3 A2 D2 a.Args::RR kT3 A3 D3 a.Dims::RR kT3 A4 D4 a.Ints::RR kT3 A5 D5 a.Data::RR kT3 A7 D7 b::V
 refine bA ?_
 refine eJ R fun q=>?_
 refine bL ?_
 let L:=aJ q [(iv a.Op),(sc A2 a.Args D2),(sc A3 a.Dims D3),(sc A4 a.Ints D4),(aH a.Form),(sc A5 a.Data D5)] 65::aJ E [(iv m)] 3::aJ j [(iv i)] 3::aJ g [(.func (.func 107) [].toArray [].toArray)] 136::T
 refine qN L ?_
 refine aW ?_
 refine cQ [(1,(sc A7 b D7)),(4,(pt g 0)),(5,(pt q 0)),(21,(.bool ((decide ((a.Ints.length:Int)<m))||(decide ((a.Ints.length:Int)>i)))))] (L) ?_ ?_
 refine dX ?_
 rcases bo (decide ((a.Ints.length:Int)<m)) with u | u
 refine dX ?_
 exact qj tI
 refine dX ?_
 exact qj tI
 rintro σ1
 refine cE ?_
 split at l
 refine dH ?_
 cases l
 exact iL ((none,0,0),(none,0,0)) (fun w s=>(((s.nilo kT3 3).nilo kT165 165).e 11 [1,0,3,4,5]))
 refine bL ?_
 obtain ⟨D,B,l⟩:=bd l
 refine cU ?_
 refine lM _ (fun w s=>(((s.d 6 R).d 9 R).e 2 [1,0])) ?_
 refine cP (fs:=[]) (cs:=[]) 2 R R Ax R R (Z25_ok B) R ?_
 rintro ⟨⟨F,M,I⟩,⟨G,O,J⟩⟩
 refine aM 0 aC ?_
 rintro rfl
 refine aM 1 aC ?_
 rintro rfl
 refine dJ ?_
 cases l
 exact iL ((F,D.1.length,I),(G,D.2.1.length,J)) (fun w s=>(s.f 11 [0,2,3,3]))
end Go.Proofs.YthelanpdjajnbaaGreat
