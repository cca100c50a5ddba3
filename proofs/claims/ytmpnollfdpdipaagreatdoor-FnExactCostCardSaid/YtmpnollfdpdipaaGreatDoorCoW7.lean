import Derived.Test.YtmpnollfdpdipaaGreatDoorCoF
import Derived.Test.YtmpnollfdpdipaaGreatDoorCoW1
import Derived.Test.YtmpnollfdpdipaaGreatDoorCoW6
set_option linter.unusedVariables false
set_option maxRecDepth 20000
namespace Go.Proofs.YtmpnollfdpdipaaGreatDoor
open Go Go.Pg
variable {A2 A3 A4 A5 A6 A7 A8 A9 A10 A11:Option Addr}{D2 D3 D4 D5 D6 D7 D8 D9 D10 D11 N2 N3 N4 N5 N6 N7 N8 N9 N10 N11:Nat}
theorem Z08_ok  {p1:View}{j:(List Int)}{B:View}{D:Nat}{M:Nat}{O:Nat}{r:Bool×View}(b:Z08 p1 j B=some r) :
 FnOk Tryz.prog 290 [(pt D 0),(pt M 0),(pt O 0)] [aO kT3 (.slice A3 N3 D3) p1.Dims,aO kT3 (.slice A4 N4 D4) p1.Strides,aJ D [(.slice A3 N3 D3),(.slice A4 N4 D4),(iv p1.Offset),(iv p1.Base)] 47,aO kT3 (.slice A7 N7 D7) j,aJ M [(.slice A7 N7 D7)] 36,aO kT3 (.slice A10 N10 D10) B.Dims,aO kT3 (.slice A11 N11 D11) B.Strides,aJ O [(.slice A10 N10 D10),(.slice A11 N11 D11),(iv B.Offset),(iv B.Base)] 47] (fun (h:HH×HH)=>((.bool r.1),[aO kT3 (s3 h.1) r.2.Dims,aO kT3 (s3 h.2) r.2.Strides,aJ D [(s3 h.1),(s3 h.2),(iv r.2.Offset),(iv r.2.Base)] 47,aJ M [(.slice A7 N7 D7)] 36,aJ O [(.slice A10 N10 D10),(.slice A11 N11 D11),(iv B.Offset),(iv B.Base)] 47])):=by
 unfold Z08 at b
 refine aR Tryz.func290 R 71 R R fun C V=>?_
 refine cM (aJ _ _ _::aJ _ _ _::aJ _ _ _::aO _ _ _::aO _ _ _::aO _ _ _::aO _ _ _::aO _ _ _::V) (tE 8 [2,4,7,0,1,3,5,6]) ?_
 refine cL 3 aA ?_
 rintro rfl
 refine cL 4 aA ?_
 rintro rfl
 refine cL 5 aA ?_
 rintro rfl
 refine cL 6 aA ?_
 rintro rfl
 refine cL 7 aA ?_
 rintro rfl
 let W0:=RR kT3 A3 D3 p1.Dims::RR kT3 A4 D4 p1.Strides::RR kT3 A7 D7 j::RR kT3 A10 D10 B.Dims::RR kT3 A11 D11 B.Strides::V
 refine bH ?_
 let L:=aJ M [(sc A7 j D7)] 36::aJ O [(sc A10 B.Dims D10),(sc A11 B.Strides D11),(iv B.Offset),(iv B.Base)] 47::W0
 refine aP ?_
 obtain ⟨a9,a5,b⟩:=bd b
 refine cQ [(0,(pt D 0)),(1,(pt M 0)),(2,(pt O 0)),(17,(.bool ((!a9)||(decide ((j.length:Int)<(B.Dims.length:Int))))))] (aJ D [(sc A3 p1.Dims D3),(sc A4 p1.Strides D4),(iv p1.Offset),(iv p1.Base)] 47::L) ?_ ?_
 refine aU ?_
 refine lM (RR kT3 A7 D7 j::_::L) (fun w s=>(s.d 5 R)) ?_
 refine lC 1 lg R (Zd_ok a5) R ?_
 rintro _
 refine aU ?_
 rcases bo (!a9) with Z | Z
 refine dA ?_
 exact qj tI
 refine dA ?_
 exact qj tI
 rintro σ1
 refine bT ?_
 split at b
 refine dA ?_
 cases b
 exact qF ((A3,p1.Dims.length,D3),(A4,p1.Strides.length,D4)) (fun w s=>(s.f 8 [3,2,0,3]))
 refine bH ?_
 obtain ⟨i,a6,b⟩:=bd b
 refine aP ?_
 refine lM (RR kT3 A7 D7 j::_::L) (fun w s=>(s.d 5 R)) ?_
 refine lC 1 jw R (Zp_ok a6) R ?_
 rintro ⟨l,ab,q⟩
 refine aL 0 aB ?_
 rintro rfl
 refine aU ?_
 refine cP 1 R R eR R R R R R (lN (_::aJ D [(sc l i q),(sc A4 p1.Strides D4),(iv p1.Offset),(iv p1.Base)] 47::L) ?_)
 refine aP ?_
 obtain ⟨E,b⟩:=gd b
 refine bH ?_
 refine eW (K:=kT3) (m:=(j.length:Int)) (z:=(0:Int)) R R bM cE kr (Zr.zk zT3 gR) (by decide) R R E.1 E.2.1 E.2.2 (fun u g=>(lP R (lO (fT 1 gA R) (cP 2 R R eR R R R R R (lN (OO kT3 3 u g (List.replicate (j.length:Int).toNat (0:Int))::_::aJ D [(sc l i q),(sc u (List.replicate (j.length:Int).toNat (0:Int)) g),(iv p1.Offset),(iv p1.Base)] 47::L) ?_)))))
 refine aP ?_
 refine bC (A:=((List Int))×(Unit)) (fun a=>Z08_J3 p1 i a.1=some r) (fun a=>[]) (fun a=>aJ D [(sc l i q),(sc u (List.replicate (j.length:Int).toNat (0:Int)) g),(iv p1.Offset),(iv p1.Base)] 47::OO kT3 3 l q i::ow kT3 3 (.slice u (List.replicate (j.length:Int).toNat (0:Int)).length g) a.1::L) ?_ ?_
 refine cY ?_
 obtain ⟨e1,aa,a4⟩:=bd b
 refine bF (A:=Unit) aa (fun s a=>[(0,(pt D 0)),(1,(pt M 0)),(2,(pt O 0)),(31,(il B.Dims)),(32,(iv s.2))]) (fun s a=>aJ D [(sc l i q),(sc u (List.replicate (j.length:Int).toNat (0:Int)) g),(iv p1.Offset),(iv p1.Base)] 47::OO kT3 3 l q i::ow kT3 3 (.slice u (List.replicate (j.length:Int).toNat (0:Int)).length g) s.1::L) () (aS R) (tE 3 [2,1,0]) ?_
 rintro ⟨Y,J⟩ _ σ1 a8 b a0
 dsimp only [Z08_L1] at b
 refine bV ?_
 split at b
 refine bH ?_
 refine bC (A:=((List Int))×(Unit)) (fun a=>Z08_J2 J a.1=some a8) (fun a=>[(0,(pt D 0)),(1,(pt M 0)),(2,(pt O 0)),(31,(il B.Dims)),(32,(iv J))]) (fun a=>aJ D [(sc l i q),(sc u (List.replicate (j.length:Int).toNat (0:Int)) g),(iv p1.Offset),(iv p1.Base)] 47::OO kT3 3 l q i::ow kT3 3 (.slice u (List.replicate (j.length:Int).toNat (0:Int)).length g) a.1::L) ?_ ?_
 refine ua ?_
 obtain ⟨a1,b⟩:=gd b
 obtain ⟨a2,b⟩:=gd b
 refine aZ 8 aA (show 0<B.Dims.length by have:=a1; omega) (fun ac o44 U=>?_)
 subst U
 refine aZ 7 aA (show 0<j.length by have:=a2; omega) (fun ae o47 U=>?_)
 subst U
 refine dF 10 [] bO fun ht hn=>?_
 refine qG 0 [] ?_
 refine dD (aI ?_)
 split at b
 refine bT ?_
 obtain ⟨a3,b⟩:=gd b
 obtain ⟨F,b⟩:=gd b
 refine aZ 9 aA (show 0<B.Strides.length by have:=a3; omega) (fun ag o51 U=>?_)
 subst U
 refine aZ 2 aB (show 0<(List.replicate (j.length:Int).toNat (0:Int)).length by have:=F; omega) (fun T o54 U=>?_)
 subst U
 refine dF 12 [2] bO fun ht hn=>?_
 refine oZ 0 [2] ?_
 refine d1 11 R (lM (ow kT3 3 (.slice (ad T o54) (List.replicate (j.length:Int).toNat (0:Int)).length g) Y::aJ D [(sc l i q),(sc (ad T o54) (List.replicate (j.length:Int).toNat (0:Int)) g),(iv p1.Offset),(iv p1.Base)] 47::ow _ _ _ _::L) (tE 3 [2,0,1]) ?_)
 refine dX (K:=kT3) (x':=(ix B.Strides J)) 0 (aH ((aH ((j.length:Int) - (B.Dims.length:Int)))+J)) R R cE R R F.1 F.2 ?_ ?_
 exact fun I h s=>(gO).put I h () (ix B.Strides J) s
 refine aC (aG (sL [0]) (dD ?_))
 obtain ⟨a7,G,b⟩:=bd b
 replace G:=Option.some.inj G
 refine qM (ow kT3 3 (.slice (ad T o54) (List.replicate (j.length:Int).toNat (0:Int)).length g) a7::_::_::L) (fun w s=>by rw [← G]; exact s) ?_
 refine bT ?_
 exact qI (a7,()) b (tE 3 [1,2,0])
 refine iD ?_
 split at b
 refine cY ?_
 cases b
 obtain rfl:=a0 _ R
 have b:=a4
 refine aP ?_
 cases b
 exact qF ((l,i.length,q),(u,(List.replicate (j.length:Int).toNat (0:Int)).length,g)) (fun w s=>(((s.shr 1 R).shr 2 R).e 10 [1,0,2,3,4]))
 refine aP ?_
 exact qI (Y,()) b tI
 rintro ⟨ai,_⟩ σ1 b
 dsimp only [Z08_J2] at b
 refine bH ?_
 cases b
 exact qA () tI
 refine aP ?_
 cases b
 obtain rfl:=a0 _ R
 have b:=a4
 refine aU ?_
 exact cJ (Y,()) b trivial tI
 rintro ⟨ah,_⟩ σ1 b
 dsimp only [Z08_J3] at b
 refine bV ?_
 cases b
 exact qF ((l,i.length,q),(u,(List.replicate (j.length:Int).toNat (0:Int)).length,g)) (fun w s=>(((s.shr 1 R).shr 2 R).e 10 [1,0,2,3,4]))
theorem Z32_ok  {v1:View}{q5:(List Int)}{E:View}{b6:Nat}{b9:Nat}{r:View}(B:Z32 v1 q5 E=some r) :
 FnOk Tryz.prog 91 [(.agg [(.slice A2 N2 D2),(.slice A3 N3 D3),(iv v1.Offset),(iv v1.Base)].toArray),(.func (.func 290) [].toArray [(pt b6 0),(pt b9 0)].toArray)] [aO kT3 (.slice A2 N2 D2) v1.Dims,aO kT3 (.slice A3 N3 D3) v1.Strides,aO kT3 (.slice A7 N7 D7) q5,aJ b6 [(.slice A7 N7 D7)] 36,aO kT3 (.slice A10 N10 D10) E.Dims,aO kT3 (.slice A11 N11 D11) E.Strides,aJ b9 [(.slice A10 N10 D10),(.slice A11 N11 D11),(iv E.Offset),(iv E.Base)] 47] (fun (h:HH×HH)=>((.agg [(s3 h.1),(s3 h.2),(iv r.Offset),(iv r.Base)].toArray),[aO kT3 (s3 h.1) r.Dims,aO kT3 (s3 h.2) r.Strides,aJ b6 [(.slice A7 N7 D7)] 36,aJ b9 [(.slice A10 N10 D10),(.slice A11 N11 D11),(iv E.Offset),(iv E.Base)] 47])):=by
 unfold Z32 at B
 refine aR Tryz.func91 R 31 R R fun C V=>?_
 refine cM _ (tE 7 [3,6,0,1,2,4,5]) ?_
 refine cL 2 aA ?_
 rintro rfl
 refine cL 3 aA ?_
 rintro rfl
 refine cL 4 aA ?_
 rintro rfl
 refine cL 5 aA ?_
 rintro rfl
 refine cL 6 aA ?_
 rintro rfl
 let W0:=RR kT3 A2 D2 v1.Dims::RR kT3 A3 D3 v1.Strides::RR kT3 A7 D7 q5::RR kT3 A10 D10 E.Dims::RR kT3 A11 D11 E.Strides::V
 refine aU ?_
 refine eE R fun ae=>?_
 refine bD R R cX (fun F=>(aC (qM _ (tE 4 [0,2,3,1]) ?_)))
 let W1:=aJ ae [(sc A2 v1.Dims D2),(sc A3 v1.Strides D3),(iv v1.Offset),(iv v1.Base)] 47::W0
 refine aP ?_
 obtain ⟨am,a4,B⟩:=bd B
 refine aU ?_
 refine lM _ (fun w s=>(((s.d 4 R).d 6 R).e 5 [1,0,2,3,4])) ?_
 refine lC 2 pg R (Zi_ok a4) R ?_
 rintro _
 refine aP ?_
 split at B
 refine aP ?_
 refine lO (vz (.agg [(.slice none 0 0),(.slice none 0 0),(iv 0),(iv 0)].toArray) (aV fF cX R R)) (aK 0 R R cG R R R R R R (aC (aI (bW (cD ?_)))))
 cases B
 exact qS ((none,0,0),(none,0,0)) (fun w s=>(((s.nilr kT3).nilr kT3).e 11 [1,0,3,4]))
 refine bH ?_
 obtain ⟨g,U,B⟩:=bd B
 obtain ⟨i,G,B⟩:=bd B
 refine iK (A:=(Unit)×(Nat×HH×HH)) (fun _=>True) (fun a=>[(1,(.func (.func 290) [].toArray [(pt b6 0),(pt b9 0)].toArray)),(4,(pt F 0)),(5,(pt a.2.1 0))]) (fun a=>aJ b6 [(sc A7 q5 D7)] 36::aJ b9 [(sc A10 E.Dims D10),(sc A11 E.Strides D11),(iv E.Offset),(iv E.Base)] 47::aJ F [(.slice none 0 0),(.slice none 0 0),(iv 0),(iv 0)] 47::aJ a.2.1 [(s3 a.2.2.1),(s3 a.2.2.2),(iv v1.Offset),(iv v1.Base)] 47::ow kT3 3 (s3 a.2.2.1) g::ow kT3 3 (s3 a.2.2.2) i::W1) ?_ ?_
 refine dF 13 [] bO fun ht T=>?_
 refine gW 0 [] ?_
 refine gW 3 [] ?_
 refine nQ 6 [] ?_
 refine gT [2,11] (by kernel_rfl) R ⟨?_,?_,trivial⟩
 refine lM _ (fun w s=>(s.d 4 R)) ?_
 refine lC 1 jw R (Zp_ok U) R ?_
 rintro ⟨m,a8,q⟩
 refine aL 0 aB ?_
 rintro rfl
 refine aC (aG (sL [0]) (gT [5,11] (by kernel_rfl) R ⟨?_,?_,trivial⟩))
 refine lM _ (fun w s=>(s.d 6 R)) ?_
 refine lC 1 jw R (Zp_ok G) R ?_
 rintro ⟨j,a3,l⟩
 refine aL 0 aB ?_
 rintro rfl
 refine aC (aG (sL [1,0]) (dR 10 R (vz (.agg [(sc m g q),(sc j i l),(iv v1.Offset),(iv v1.Base)].toArray) (aV fF cX R R)) (hS:=(sL [1,0])) (d1 11 R (bD R R cX (fun D=>(aC (aG (sL [2,1,0]) (d1 12 R (aK 0 R R cG R R R R R R (lN (aJ D [(sc m g q),(sc j i l),(iv v1.Offset),(iv v1.Base)] 47::_::_::_::_::_::W1) ?_))))))))))
 refine aC (aG (sL [2,1,0]) (dD ?_))
 exact cJ ((),(D,(m,g.length,q),(j,i.length,l))) trivial (aS R) (tE 6 [4,5,3,0,2,1])
 refine bD R R cX (fun D=>(aC (aG (sL [1,0]) (d1 5 R (lM _ (fun w s=>(s.d 7 R)) ?_)))))
 refine lC 1 jw R (Zp_ok G) R ?_
 rintro ⟨j,a3,l⟩
 refine aL 0 aB ?_
 rintro rfl
 refine aC (aG (sL [2,1,0]) (dR 10 R (vz (.agg [(sc m g q),(sc j i l),(iv v1.Offset),(iv v1.Base)].toArray) (aV fF cX R R)) (hS:=(sL [2,1,0])) (d1 12 R (aK 1 R R cG R R R R R R (lN (_::aJ D [(sc m g q),(sc j i l),(iv v1.Offset),(iv v1.Base)] 47::_::_::_::_::W1) ?_)))))
 refine aC (aG (sL [2,1,0]) (dD ?_))
 exact cJ ((),(D,(m,g.length,q),(j,i.length,l))) trivial (aS R) (tE 6 [4,5,3,1,2,0])
 refine bD R R cX (fun D=>(aC (aG (sL [0]) (d1 2 R (lM _ (fun w s=>(s.d 5 R)) ?_)))))
 refine lC 1 jw R (Zp_ok U) R ?_
 rintro ⟨m,a8,q⟩
 refine aL 0 aB ?_
 rintro rfl
 refine aC (aG (sL [1,0]) (d1 5 R (lM _ (fun w s=>(s.d 7 R)) ?_)))
 refine lC 1 jw R (Zp_ok G) R ?_
 rintro ⟨j,a3,l⟩
 refine aL 0 aB ?_
 rintro rfl
 refine aC (aG (sL [2,1,0]) (dR 10 R (vz (.agg [(sc m g q),(sc j i l),(iv v1.Offset),(iv v1.Base)].toArray) (aV fF cX R R)) (hS:=(sL [2,1,0])) (d1 12 R (aK 2 R R cG R R R R R R (lN (_::_::aJ D [(sc m g q),(sc j i l),(iv v1.Offset),(iv v1.Base)] 47::_::_::_::W1) ?_)))))
 refine aC (aG (sL [2,1,0]) (dD ?_))
 exact cJ ((),(D,(m,g.length,q),(j,i.length,l))) trivial (aS R) (tE 6 [4,5,3,2,1,0])
 rintro ⟨_,⟨a2,⟨ag,a9,ai⟩,⟨ah,aa,aj⟩⟩⟩ σ1 -
 refine fW 4 aB (fun (T:a9=g.length)=>?_)
 subst T
 refine fW 5 aB (fun (T:aa=i.length)=>?_)
 subst T
 refine aP ?_
 obtain ⟨b,a5,B⟩:=bd B
 obtain ⟨a7,a6,B⟩:=bd B
 refine iK (A:=(Unit)×(HH×HH)) (fun _=>True) (fun a=>[(4,(pt F 0)),(5,(pt a2 0)),(28,(.bool ((!b.1)||(!a7))))]) (fun a=>aJ F [(.slice none 0 0),(.slice none 0 0),(iv 0),(iv 0)] 47::aJ a2 [(s3 a.2.1),(s3 a.2.2),(iv b.2.Offset),(iv b.2.Base)] 47::aO kT3 (s3 a.2.1) b.2.Dims::aO kT3 (s3 a.2.2) b.2.Strides::aJ b6 [(sc A7 q5 D7)] 36::aJ b9 [(sc A10 E.Dims D10),(sc A11 E.Strides D11),(iv E.Offset),(iv E.Base)] 47::W1) ?_ ?_
 refine aE (lO (vp _ R) (hW (fun w s=>s.shr 4 R) (hW (fun w s=>s.shr 5 R) (lM _ (fun w s=>((((((s.d 1 R).d 1 R).d 11 R).d 13 R).d 15 R).e 11 [4,3,10,2,7,1,0,8,5,6,9])) ?_))))
 refine cC (fs:=[]) (cs:=[(pt b6 0),(pt b9 0)]) 8 R R zB R R (Z08_ok (p1:=(⟨g,i,v1.Offset,v1.Base⟩:View)) a5) R ?_
 rintro ⟨⟨Y,ak,a0⟩,⟨Z,al,a1⟩⟩
 refine aL 0 aA ?_
 rintro rfl
 refine aL 1 aA ?_
 rintro rfl
 refine aU ?_
 rcases bo (!b.1) with u | u
 refine aP ?_
 refine lO (fB (!a7) R u) (aC ?_)
 exact cJ ((),((Y,b.2.Dims.length,a0),(Z,b.2.Strides.length,a1))) trivial (aS R) (tE 8 [7,2,0,1,3,4])
 refine lW (cA u) (vz (.agg [(sc Y b.2.Dims a0),(sc Z b.2.Strides a1),(iv b.2.Offset),(iv b.2.Base)].toArray) (dP 2 gH cG R R R R)) (lM _ (fun w s=>(((s.d 0 R).d 2 R).f 10 [1,1,0,1,2,8])) ?_)
 refine bX 2 R (cA u) pg R (Zi_ok (bN a6 (cT u))) R ?_
 rintro _
 refine bT ?_
 refine lO (fU R u R) (aC ?_)
 exact cJ ((),((Y,b.2.Dims.length,a0),(Z,b.2.Strides.length,a1))) trivial (aS R) (tE 8 [7,2,0,1,3,4])
 rintro ⟨_,⟨⟨I,ab,L⟩,⟨J,ac,M⟩⟩⟩ σ1 -
 refine fW 2 aA (fun (T:ab=b.2.Dims.length)=>?_)
 subst T
 refine fW 3 aA (fun (T:ac=b.2.Strides.length)=>?_)
 subst T
 refine bT ?_
 rcases cF B with ⟨O,B⟩|⟨O,B⟩
 refine aP ?_
 refine lO (vz (.agg [(.slice none 0 0),(.slice none 0 0),(iv 0),(iv 0)].toArray) (aV fF cX R R)) (aK 0 R R cG R R R R R R (lN (_::aJ a2 [(sc I b.2.Dims L),(sc J b.2.Strides M),(iv b.2.Offset),(iv b.2.Base)] 47::RR kT3 I L b.2.Dims::RR kT3 J M b.2.Strides::_::_::W1) ?_))
 refine bH ?_
 cases B
 exact qS ((none,0,0),(none,0,0)) (fun w s=>(((s.nilr kT3).nilr kT3).e 14 [1,0,6,7]))
 refine bJ R O ?_
 refine b' ?_
 refine aK 0 R R cG R R R R R R (lN (aJ F [(sc I b.2.Dims L),(sc J b.2.Strides M),(iv b.2.Offset),(iv b.2.Base)] 47::_::_::_::_::_::W1) ?_)
 refine aP ?_
 cases B
 exact qS ((I,b.2.Dims.length,L),(J,b.2.Strides.length,M)) (fun w s=>(s.f 12 [2,4]))
theorem Z2b_ok  {v1:View}{a:(List Int)}{r:View}(j:Z2b v1 a=some r) :
 FnOk Tryz.prog 287 [(.agg [(.slice A2 N2 D2),(.slice A3 N3 D3),(iv v1.Offset),(iv v1.Base)].toArray),(.slice A5 N5 D5)] [aO kT3 (.slice A2 N2 D2) v1.Dims,aO kT3 (.slice A3 N3 D3) v1.Strides,aO kT3 (.slice A5 N5 D5) a] (fun (h:HH×HH)=>((.agg [(.slice h.1.1 h.1.2.1 h.1.2.2),(.slice h.2.1 h.2.2.1 h.2.2.2),(iv r.Offset),(iv r.Base)].toArray),[aO kT3 (.slice h.1.1 h.1.2.1 h.1.2.2) r.Dims,aO kT3 (.slice h.2.1 h.2.2.1 h.2.2.2) r.Strides])):=by
 unfold Z2b at j
 refine aR Tryz.func287 R 8 R R fun C V=>?_
 refine cN (_::_::_::V) ?_
 refine cL 0 aA ?_
 rintro rfl
 refine cL 1 aA ?_
 rintro rfl
 refine cL 2 aA ?_
 rintro rfl
 let i:List HP:=RR kT3 A2 D2 v1.Dims::RR kT3 A3 D3 v1.Strides::RR kT3 A5 D5 a::V
 refine cN i ?_
 refine aM (aE (eE R (fun m=>(fA (cs:=[(sc A5 a D5)]) R R R (fun q=>(bD R R cX (fun l=>(aC (aI (aM ?_))))))))))
 obtain ⟨b,g,j⟩:=bd j
 refine aE (lO (vz (.agg [(sc A2 v1.Dims D2),(sc A3 v1.Strides D3),(iv v1.Offset),(iv v1.Base)].toArray) (dP 2 gH cG R R R R)) (lO (vp (.func (.func 290) [].toArray [(pt q 0),(pt m 0)].toArray) R) (lM (RR kT3 A2 D2 v1.Dims::RR kT3 A3 D3 v1.Strides::RR kT3 A5 D5 a::aJ _ _ _::RR kT3 A2 D2 v1.Dims::RR kT3 A3 D3 v1.Strides::aJ _ _ _::aJ _ _ _::i) (fun w s=>((((((s.d 3 R).d 5 R).d 7 R).d 6 R).d 8 R).e 8 [4,3,2,6,1,0,7,5])) ?_)))
 refine lC 7 wK R (Z32_ok g) R ?_
 rintro ⟨⟨A11,N11,D11⟩,⟨A12,N12,D12⟩⟩
 refine lN (aO kT3 (.slice A11 N11 D11) b.Dims::aO kT3 (.slice A12 N12 D12) b.Strides::_::_::_::i) ?_
 refine aL 0 aA ?_
 rintro rfl
 refine aL 1 aA ?_
 rintro rfl
 refine aK 4 R R cG R R R R R R (lN (_::_::_::_::aJ l [(sc A11 b.Dims D11),(sc A12 b.Strides D12),(iv b.Offset),(iv b.Base)] 47::i) ?_)
 refine aC (aI (bW ?_))
 obtain rfl:=so j
 exact dJ (vs:=[(.agg [(sc A11 b.Dims D11),(sc A12 b.Strides D12),(iv b.Offset),(iv b.Base)].toArray)]) (.inl R) ((A11,b.Dims.length,D11),(A12,b.Strides.length,D12)) R ⟨⟨4,l,_,_,R,R,.inl ⟨gH,cG,R⟩⟩,trivial⟩ R (fun w s=>(s.e 8 [0,1]))
theorem Z0y_ok  {v1:View}{e:Int}{b:Int}{g:Int}{q:Nat}{r:View}(m:Z0y v1 e b g=some r) :
 FnOk Tryz.prog 94 [(pt q 0),(iv e),(iv b),(iv g)] [ow kT3 3 (.slice A3 N3 D3) v1.Dims,ow kT3 3 (.slice A4 N4 D4) v1.Strides,aJ q [(.slice A3 N3 D3),(.slice A4 N4 D4),(iv v1.Offset),(iv v1.Base)] 47] (fun (h:HH×HH)=>((.tuple [].toArray),[ow kT3 3 (s3 h.1) r.Dims,ow kT3 3 (s3 h.2) r.Strides,aJ q [(s3 h.1),(s3 h.2),(iv r.Offset),(iv r.Base)] 47])):=by
 unfold Z0y at m
 refine aR Tryz.func94 R 24 R R fun C V=>?_
 refine cL 0 aB ?_
 rintro rfl
 refine cL 1 aB ?_
 rintro rfl
 refine aM (bC (A:=(Int)×(Unit)) (fun a=>Z0y_J3 v1 e b a.1=some r) (fun a=>[(0,(pt q 0)),(1,(iv e)),(2,(iv b)),(3,(iv a.1))]) (fun a=>aJ q [(sc A3 v1.Dims D3),(sc A4 v1.Strides D4),(iv v1.Offset),(iv v1.Base)] 47::OO kT3 3 A3 D3 v1.Dims::OO kT3 3 A4 D4 v1.Strides::V) ?_ ?_)
 refine b' ?_
 let E:=aJ q [(sc A3 v1.Dims D3),(sc A4 v1.Strides D4),(iv v1.Offset),(iv v1.Base)] 47::V
 refine bT ?_
 split at m
 refine bH ?_
 exact qI ((0:Int),()) m (tE 3 [2,0,1])
 refine aU ?_
 exact qI (g,()) m (tE 3 [2,0,1])
 rintro ⟨i,_⟩ σ1 m
 dsimp only [Z0y_J3] at m
 obtain ⟨j,m⟩:=gd m
 obtain ⟨l,m⟩:=gd m
 refine aZ 1 aB (show 0<v1.Dims.length by have:=j; omega) (fun u o12 D=>?_)
 subst D
 refine aZ 2 aB (show 0<v1.Strides.length by have:=l; omega) (fun B o15 D=>?_)
 subst D
 refine dF 16 [2,1] bO fun G F=>?_
 refine mu 0 [2,1] ?_
 refine d1 13 R (lM _ (tE 3 [1,0,2]) ?_)
 refine dX (K:=kT3) (x':=b) 0 e R R cE R R j.1 j.2 ?_ ?_
 exact fun I h s=>(gO).put I h () b s
 refine aC (aG (sL [2,0]) ?_)
 refine m6 14 [2,0] ?_
 refine d1 15 R (lM _ (tE 3 [2,0,1]) ?_)
 refine dX (K:=kT3) (x':=i) 0 e R R cE R R l.1 l.2 ?_ ?_
 exact fun I h s=>(gO).put I h () i s
 refine aC (aG (sL [1,0]) (dD ?_))
 cases m
 exact Au (((ad u o12),v1.Dims.length,D3),((ad B o15),v1.Strides.length,D4)) (tE 3 [1,0,2])
theorem Z1g_ok  {p1:View}{q:Int}{D:Int}{l:Int}{e:Int}{m:Nat}{E:Nat}{F:Nat}{j:Nat}{b:Nat}{r:Bool×View×Int}(i:Z1g p1 q D l e=some r) :
 FnOk Tryz.prog 157 [(pt m 0),(pt E 0),(pt F 0),(pt j 0),(pt b 0)] [ow kT3 3 (.slice A3 N3 D3) p1.Dims,ow kT3 3 (.slice A4 N4 D4) p1.Strides,aJ m [(.slice A3 N3 D3),(.slice A4 N4 D4),(iv p1.Offset),(iv p1.Base)] 47,aJ E [(iv q)] 3,aJ F [(iv D)] 3,aJ j [(iv l)] 3,aJ b [(iv e)] 3] (fun (h:HH×HH)=>((.bool r.1),[ow kT3 3 (s3 h.1) r.2.1.Dims,ow kT3 3 (s3 h.2) r.2.1.Strides,aJ m [(s3 h.1),(s3 h.2),(iv r.2.1.Offset),(iv r.2.1.Base)] 47,aJ E [(iv q)] 3,aJ F [(iv D)] 3,aJ j [(iv l)] 3,aJ b [(iv r.2.2)] 3])):=by
 unfold Z1g at i
 refine aR Tryz.func157 R 86 R R fun C V=>?_
 refine cL 0 aB ?_
 rintro rfl
 refine cL 1 aB ?_
 rintro rfl
 refine bH ?_
 refine qM _ (fun w s=>(s.f 7 [0,3,6,1,3,3])) ?_
 let I:=aJ E [(iv q)] 3::aJ F [(iv D)] 3::aJ j [(iv l)] 3::V
 refine aP ?_
 obtain ⟨G,u,i⟩:=bd i
 refine cQ [(0,(pt m 0)),(1,(pt E 0)),(2,(pt F 0)),(3,(pt j 0)),(4,(pt b 0)),(24,(.bool (((!G)||(decide (D<1)))||(decide (D>4096)))))] (aJ m [(sc A3 p1.Dims D3),(sc A4 p1.Strides D4),(iv p1.Offset),(iv p1.Base)] 47::OO kT3 3 A3 D3 p1.Dims::OO kT3 3 A4 D4 p1.Strides::aJ b [(iv e)] 3::I) ?_ ?_
 rcases bo (!G) with L | L
 refine dF 15 [] bO fun ht hn=>?_
 refine kq 0 [] ?_
 refine d1 5 R (lC 1 jL R (FnOk.lends (A':=[OO kT3 3 A3 D3 p1.Dims]) (A:=[RR kT3 A3 D3 p1.Dims]) (B:=[]) (Zm_ok u) ⟨aY,trivial⟩ (fun _=>trivial)) R ?_)
 rintro _
 refine aC (aG (sL []) ?_)
 refine vl 6 [] ?_
 refine dD ?_
 exact qj (tE 4 [2,0,1,3])
 rcases bo ((!G)||(decide (D<1))) with M | M
 refine dF 15 [] bO fun ht hn=>?_
 refine kq 0 [] ?_
 refine d1 5 R (lC 1 jL R (FnOk.lends (A':=[OO kT3 3 A3 D3 p1.Dims]) (A:=[RR kT3 A3 D3 p1.Dims]) (B:=[]) (Zm_ok u) ⟨aY,trivial⟩ (fun _=>trivial)) R ?_)
 rintro _
 refine aC (aG (sL []) ?_)
 refine vl 6 [] ?_
 refine dD ?_
 exact qj (tE 4 [2,0,1,3])
 refine dF 15 [] bO fun ht hn=>?_
 refine kq 0 [] ?_
 refine d1 5 R (lC 1 jL R (FnOk.lends (A':=[OO kT3 3 A3 D3 p1.Dims]) (A:=[RR kT3 A3 D3 p1.Dims]) (B:=[]) (Zm_ok u) ⟨aY,trivial⟩ (fun _=>trivial)) R ?_)
 rintro _
 refine aC (aG (sL []) ?_)
 refine vl 6 [] ?_
 refine dD ?_
 exact qj (tE 4 [2,0,1,3])
 rintro σ1
 refine bT ?_
 split at i
 refine dA ?_
 cases i
 exact qF ((A3,p1.Dims.length,D3),(A4,p1.Strides.length,D4)) (tE 7 [1,2,0,4,5,6,3])
 refine bH ?_
 obtain ⟨Z,i⟩:=gd i
 refine aZ 1 aB (show 0<p1.Dims.length by have:=Z; omega) (fun g o20 ha=>?_)
 subst ha
 refine dF 8 [] bO fun ht hn=>?_
 refine ub 0 [] ?_
 refine dD ?_
 refine aP ?_
 refine cQ [(0,(pt m 0)),(1,(pt E 0)),(2,(pt F 0)),(3,(pt j 0)),(4,(pt b 0)),(7,(iv (ix p1.Dims q))),(46,(.bool ((((decide (l<0))||(decide (l≥(ix p1.Dims q))))||(decide (e<(-4096:Int))))||(decide (e>4096)))))] (aJ m [(sc (ad g o20) p1.Dims D3),(sc A4 p1.Strides D4),(iv p1.Offset),(iv p1.Base)] 47::OO kT3 3 (ad g o20) D3 p1.Dims::OO kT3 3 A4 D4 p1.Strides::aJ b [(iv e)] 3::I) ?_ ?_
 refine bH ?_
 rcases bo (decide (l<0)) with O | O
 refine lK ?_
 exact qj tI
 refine b' ?_
 rcases bo ((decide (l<0))||(decide (l≥(ix p1.Dims q)))) with T | T
 refine dA ?_
 exact qj tI
 refine bH ?_
 rcases bo (((decide (l<0))||(decide (l≥(ix p1.Dims q))))||(decide (e<(-4096:Int)))) with U | U
 refine bH ?_
 exact qj tI
 refine bH ?_
 exact qj tI
 rintro σ1
 refine bT ?_
 split at i
 refine dA ?_
 cases i
 exact qF (((ad g o20),p1.Dims.length,D3),(A4,p1.Strides.length,D4)) (tE 7 [1,2,0,4,5,6,3])
 refine bH ?_
 refine bC (A:=(Int)×(Unit)) (fun a=>Z1g_J3 p1 q D l a.1=some r) (fun a=>[(0,(pt m 0)),(1,(pt E 0)),(2,(pt F 0)),(3,(pt j 0)),(4,(pt b 0))]) (fun a=>aJ m [(sc (ad g o20) p1.Dims D3),(sc A4 p1.Strides D4),(iv p1.Offset),(iv p1.Base)] 47::OO kT3 3 (ad g o20) D3 p1.Dims::OO kT3 3 A4 D4 p1.Strides::aJ b [(iv a.1)] 3::I) ?_ ?_
 refine bV ?_
 split at i
 refine lK ?_
 refine cQ [(0,(pt m 0)),(1,(pt E 0)),(2,(pt F 0)),(3,(pt j 0)),(4,(pt b 0)),(61,(.bool ((decide ((aH (l+(aH (e*(aH (D - 1))))))<0))||(decide ((aH (l+(aH (e*(aH (D - 1))))))≥(ix p1.Dims q))))))] (aJ m [(sc (ad g o20) p1.Dims D3),(sc A4 p1.Strides D4),(iv p1.Offset),(iv p1.Base)] 47::OO kT3 3 (ad g o20) D3 p1.Dims::OO kT3 3 A4 D4 p1.Strides::aJ b [(iv e)] 3::I) ?_ ?_
 refine bH ?_
 rcases bo (decide ((aH (l+(aH (e*(aH (D - 1))))))<0)) with Y | Y
 refine b' ?_
 exact qj tI
 refine b' ?_
 exact qj tI
 rintro σ1
 refine bT ?_
 split at i
 refine dA ?_
 cases i
 exact qF (((ad g o20),p1.Dims.length,D3),(A4,p1.Strides.length,D4)) (tE 7 [1,2,0,4,5,6,3])
 refine aU ?_
 exact qI (e,()) i tI
 refine aU ?_
 refine cP 3 R R cE R R R R R (lN (aJ m [(sc (ad g o20) p1.Dims D3),(sc A4 p1.Strides D4),(iv p1.Offset),(iv p1.Base)] 47::OO kT3 3 (ad g o20) D3 p1.Dims::_::aJ b [(iv 0)] 3::I) ?_)
 refine bT ?_
 exact qI ((0:Int),()) i tI
 rintro ⟨a7,_⟩ σ1 i
 dsimp only [Z1g_J3] at i
 refine bT ?_
 obtain ⟨a0,i⟩:=gd i
 refine aZ 2 aB (show 0<p1.Strides.length by have:=a0; omega) (fun J o31 ha=>?_)
 subst ha
 refine dF 8 [] bO fun ht hn=>?_
 refine ub 0 [] ?_
 refine dD (aI (aM (dF 11 [0] bO fun ht hn=>?_)))
 refine iw 0 [0] ?_
 refine iw 4 [0] ?_
 refine d1 3 R (lO (gD 0 fO R R R) (aC (aG (sL [0]) ?_)))
 refine iw 7 [0] ?_
 refine d1 10 R (cP 0 R R cE R R R R R (lN (aJ m [(sc (ad g o20) p1.Dims D3),(sc (ad J o31) p1.Strides D4),(iv (aH (p1.Offset+(aH (l*(ix p1.Strides q)))))),(iv p1.Base)] 47::_::OO kT3 3 (ad J o31) D4 p1.Strides::aJ b [(iv a7)] 3::I) ?_))
 refine aC (aG (sL [0]) (dD ?_))
 refine aU ?_
 obtain ⟨a2,a1,i⟩:=bd i
 refine dO ?_
 refine lM _ (tE 4 [1,2,0,3]) ?_
 refine lC 3 wL R (Z0y_ok (v1:=(⟨p1.Dims,p1.Strides,(aH (p1.Offset+(aH (l*(ix p1.Strides q))))),p1.Base⟩:View)) a1) R ?_
 rintro ⟨⟨a3,a8,a5⟩,⟨a4,a9,a6⟩⟩
 refine aL 0 aB ?_
 rintro rfl
 refine aL 1 aB ?_
 rintro rfl
 refine dA ?_
 cases i
 exact qF ((a3,a2.Dims.length,a5),(a4,a2.Strides.length,a6)) (fun w s=>(s.f 7 [0,3,4,3,3,1]))
theorem Z31_ok  {v1:View}{q5:Int}{q7:Int}{q9:Int}{a4:Int}{b6:Nat}{b8:Nat}{F:Nat}{G:Nat}{r:View×Int}(D:Z31 v1 q5 q7 q9 a4=some r) :
 FnOk Tryz.prog 91 [(.agg [(.slice A2 N2 D2),(.slice A3 N3 D3),(iv v1.Offset),(iv v1.Base)].toArray),(.func (.func 157) [].toArray [(pt b6 0),(pt b8 0),(pt F 0),(pt G 0)].toArray)] [aO kT3 (.slice A2 N2 D2) v1.Dims,aO kT3 (.slice A3 N3 D3) v1.Strides,aJ b6 [(iv q5)] 3,aJ b8 [(iv q7)] 3,aJ F [(iv q9)] 3,aJ G [(iv a4)] 3] (fun (h:HH×HH)=>((.agg [(s3 h.1),(s3 h.2),(iv r.1.Offset),(iv r.1.Base)].toArray),[ow kT3 3 (s3 h.1) r.1.Dims,ow kT3 3 (s3 h.2) r.1.Strides,aJ b6 [(iv q5)] 3,aJ b8 [(iv q7)] 3,aJ F [(iv q9)] 3,aJ G [(iv r.2)] 3])):=by
 unfold Z31 at D
 refine aR Tryz.func91 R 31 R R fun C V=>?_
 refine cM _ (fun w s=>(s.f 6 [2,4,0,2])) ?_
 refine cL 4 aA ?_
 rintro rfl
 refine cL 5 aA ?_
 rintro rfl
 let W0:=RR kT3 A2 D2 v1.Dims::RR kT3 A3 D3 v1.Strides::V
 refine aU ?_
 refine eE R fun ah=>?_
 refine bD R R cX (fun O=>(aC (qM _ (tE 6 [0,2,3,4,5,1]) ?_)))
 let W1:=aJ ah [(sc A2 v1.Dims D2),(sc A3 v1.Strides D3),(iv v1.Offset),(iv v1.Base)] 47::W0
 refine aP ?_
 obtain ⟨ao,a6,D⟩:=bd D
 refine aU ?_
 refine lM _ (fun w s=>(((s.d 6 R).d 8 R).f 7 [1,1,0,1,2,5])) ?_
 refine lC 2 pg R (Zi_ok a6) R ?_
 rintro _
 refine aP ?_
 split at D
 refine aP ?_
 refine lO (vz (.agg [(.slice none 0 0),(.slice none 0 0),(iv 0),(iv 0)].toArray) (aV fF cX R R)) (aK 0 R R cG R R R R R R (aC (aI (bW (cD ?_)))))
 cases D
 exact qS ((none,0,0),(none,0,0)) (fun w s=>(((s.nilo kT3 3).nilo kT3 3).e 10 [1,0,3,4,5,6]))
 refine bH ?_
 obtain ⟨g,a2,D⟩:=bd D
 obtain ⟨i,T,D⟩:=bd D
 refine iK (A:=(Unit)×(Nat×HH×HH)) (fun _=>True) (fun a=>[(1,(.func (.func 157) [].toArray [(pt b6 0),(pt b8 0),(pt F 0),(pt G 0)].toArray)),(4,(pt O 0)),(5,(pt a.2.1 0))]) (fun a=>aJ b6 [(iv q5)] 3::aJ b8 [(iv q7)] 3::aJ F [(iv q9)] 3::aJ G [(iv a4)] 3::aJ O [(.slice none 0 0),(.slice none 0 0),(iv 0),(iv 0)] 47::aJ a.2.1 [(s3 a.2.2.1),(s3 a.2.2.2),(iv v1.Offset),(iv v1.Base)] 47::ow kT3 3 (s3 a.2.2.1) g::ow kT3 3 (s3 a.2.2.2) i::W1) ?_ ?_
 refine dF 13 [] bO fun ht hn=>?_
 refine gW 0 [] ?_
 refine gW 3 [] ?_
 refine nQ 6 [] ?_
 refine gT [2,11] (by kernel_rfl) R ⟨?_,?_,trivial⟩
 refine lM _ (fun w s=>(s.d 6 R)) ?_
 refine lC 1 jw R (Zp_ok a2) R ?_
 rintro ⟨m,aa,q⟩
 refine aL 0 aB ?_
 rintro rfl
 refine aC (aG (sL [0]) (gT [5,11] (by kernel_rfl) R ⟨?_,?_,trivial⟩))
 refine lM _ (fun w s=>(s.d 8 R)) ?_
 refine lC 1 jw R (Zp_ok T) R ?_
 rintro ⟨j,a5,l⟩
 refine aL 0 aB ?_
 rintro rfl
 refine aC (aG (sL [1,0]) (dR 10 R (vz (.agg [(sc m g q),(sc j i l),(iv v1.Offset),(iv v1.Base)].toArray) (aV fF cX R R)) (hS:=(sL [1,0])) (d1 11 R (bD R R cX (fun E=>(aC (aG (sL [2,1,0]) (d1 12 R (aK 0 R R cG R R R R R R (lN (aJ E [(sc m g q),(sc j i l),(iv v1.Offset),(iv v1.Base)] 47::_::_::_::_::_::_::_::W1) ?_))))))))))
 refine aC (aG (sL [2,1,0]) (dD ?_))
 exact cJ ((),(E,(m,g.length,q),(j,i.length,l))) trivial (aS R) (tE 8 [4,5,6,7,3,0,2,1])
 refine bD R R cX (fun E=>(aC (aG (sL [1,0]) (d1 5 R (lM _ (fun w s=>(s.d 9 R)) ?_)))))
 refine lC 1 jw R (Zp_ok T) R ?_
 rintro ⟨j,a5,l⟩
 refine aL 0 aB ?_
 rintro rfl
 refine aC (aG (sL [2,1,0]) (dR 10 R (vz (.agg [(sc m g q),(sc j i l),(iv v1.Offset),(iv v1.Base)].toArray) (aV fF cX R R)) (hS:=(sL [2,1,0])) (d1 12 R (aK 1 R R cG R R R R R R (lN (_::aJ E [(sc m g q),(sc j i l),(iv v1.Offset),(iv v1.Base)] 47::_::_::_::_::_::_::W1) ?_)))))
 refine aC (aG (sL [2,1,0]) (dD ?_))
 exact cJ ((),(E,(m,g.length,q),(j,i.length,l))) trivial (aS R) (tE 8 [4,5,6,7,3,1,2,0])
 refine bD R R cX (fun E=>(aC (aG (sL [0]) (d1 2 R (lM _ (fun w s=>(s.d 7 R)) ?_)))))
 refine lC 1 jw R (Zp_ok a2) R ?_
 rintro ⟨m,aa,q⟩
 refine aL 0 aB ?_
 rintro rfl
 refine aC (aG (sL [1,0]) (d1 5 R (lM _ (fun w s=>(s.d 9 R)) ?_)))
 refine lC 1 jw R (Zp_ok T) R ?_
 rintro ⟨j,a5,l⟩
 refine aL 0 aB ?_
 rintro rfl
 refine aC (aG (sL [2,1,0]) (dR 10 R (vz (.agg [(sc m g q),(sc j i l),(iv v1.Offset),(iv v1.Base)].toArray) (aV fF cX R R)) (hS:=(sL [2,1,0])) (d1 12 R (aK 2 R R cG R R R R R R (lN (_::_::aJ E [(sc m g q),(sc j i l),(iv v1.Offset),(iv v1.Base)] 47::_::_::_::_::_::W1) ?_)))))
 refine aC (aG (sL [2,1,0]) (dD ?_))
 exact cJ ((),(E,(m,g.length,q),(j,i.length,l))) trivial (aS R) (tE 8 [4,5,6,7,3,2,1,0])
 rintro ⟨_,⟨a3,⟨ai,ab,ak⟩,⟨aj,ac,al⟩⟩⟩ σ1 -
 refine fW 6 aB (fun (hn:ab=g.length)=>?_)
 subst hn
 refine fW 7 aB (fun (hn:ac=i.length)=>?_)
 subst hn
 refine aP ?_
 obtain ⟨b,a7,D⟩:=bd D
 obtain ⟨a9,a8,D⟩:=bd D
 refine iK (A:=(Unit)×(HH×HH)) (fun _=>True) (fun a=>[(4,(pt O 0)),(5,(pt a3 0)),(28,(.bool ((!b.1)||(!a9))))]) (fun a=>aJ O [(.slice none 0 0),(.slice none 0 0),(iv 0),(iv 0)] 47::aJ a3 [(s3 a.2.1),(s3 a.2.2),(iv b.2.1.Offset),(iv b.2.1.Base)] 47::ow kT3 3 (s3 a.2.1) b.2.1.Dims::ow kT3 3 (s3 a.2.2) b.2.1.Strides::aJ b6 [(iv q5)] 3::aJ b8 [(iv q7)] 3::aJ F [(iv q9)] 3::aJ G [(iv b.2.2)] 3::W1) ?_ ?_
 refine aE (lO (vp _ R) (lM _ (fun w s=>(s.f 8 [6,2,5,1,0,5])) ?_))
 refine cC (fs:=[]) (cs:=[(pt b6 0),(pt b8 0),(pt F 0),(pt G 0)]) 7 R R zD R R (Z1g_ok (p1:=(⟨g,i,v1.Offset,v1.Base⟩:View)) a7) R ?_
 rintro ⟨⟨I,am,L⟩,⟨J,an,M⟩⟩
 refine aL 0 aB ?_
 rintro rfl
 refine aL 1 aB ?_
 rintro rfl
 refine aU ?_
 rcases bo (!b.1) with u | u
 refine aP ?_
 refine lO (fB (!a9) R u) (aC ?_)
 exact cJ ((),((I,b.2.1.Dims.length,L),(J,b.2.1.Strides.length,M))) trivial (aS R) (tE 8 [7,2,0,1,3,4,5,6])
 refine lW (cA u) (vz (.agg [(sc I b.2.1.Dims L),(sc J b.2.1.Strides M),(iv b.2.1.Offset),(iv b.2.1.Base)].toArray) (dP 2 gH cG R R R R)) (bX 2 R (cA u) pg R (FnOk.lends (A':=[OO kT3 3 I L b.2.1.Dims,OO kT3 3 J M b.2.1.Strides]) (A:=[RR kT3 I L b.2.1.Dims,RR kT3 J M b.2.1.Strides]) (B:=[]) (Zi_ok (bN a8 (cT u))) ⟨aY,aY,trivial⟩ (fun _=>trivial)) R ?_)
 rintro _
 refine bT ?_
 refine lO (fU R u R) (aC ?_)
 exact cJ ((),((I,b.2.1.Dims.length,L),(J,b.2.1.Strides.length,M))) trivial (aS R) (tE 8 [7,2,0,1,3,4,5,6])
 rintro ⟨_,⟨⟨U,ae,Z⟩,⟨Y,ag,a0⟩⟩⟩ σ1 -
 refine fW 2 aB (fun (hn:ae=b.2.1.Dims.length)=>?_)
 subst hn
 refine fW 3 aB (fun (hn:ag=b.2.1.Strides.length)=>?_)
 subst hn
 refine bT ?_
 rcases cF D with ⟨a1,D⟩|⟨a1,D⟩
 refine aP ?_
 refine lO (vz (.agg [(.slice none 0 0),(.slice none 0 0),(iv 0),(iv 0)].toArray) (aV fF cX R R)) (aK 0 R R cG R R R R R R (lN (_::aJ a3 [(sc U b.2.1.Dims Z),(sc Y b.2.1.Strides a0),(iv b.2.1.Offset),(iv b.2.1.Base)] 47::OO kT3 3 U Z b.2.1.Dims::OO kT3 3 Y a0 b.2.1.Strides::_::_::_::_::W1) ?_))
 refine bH ?_
 cases D
 exact qS ((none,0,0),(none,0,0)) (fun w s=>(((s.nilo kT3 3).nilo kT3 3).e 13 [1,0,6,7,8,9]))
 refine bJ R a1 ?_
 refine b' ?_
 refine aK 0 R R cG R R R R R R (lN (aJ O [(sc U b.2.1.Dims Z),(sc Y b.2.1.Strides a0),(iv b.2.1.Offset),(iv b.2.1.Base)] 47::_::_::_::_::_::_::_::W1) ?_)
 refine aP ?_
 cases D
 exact qS ((U,b.2.1.Dims.length,Z),(Y,b.2.1.Strides.length,a0)) (fun w s=>(s.f 11 [2,6]))
theorem Z2a_ok  {v1:View}{b:Int}{I:Int}{a:Int}{g:Int}{r:View}(B:Z2a v1 b I a g=some r) :
 FnOk Tryz.prog 60 [(.agg [(.slice A2 N2 D2),(.slice A3 N3 D3),(iv v1.Offset),(iv v1.Base)].toArray),(iv b),(iv I),(iv a),(iv g)] [aO kT3 (.slice A2 N2 D2) v1.Dims,aO kT3 (.slice A3 N3 D3) v1.Strides] (fun (h:HH×HH)=>((.agg [(s3 h.1),(s3 h.2),(iv r.Offset),(iv r.Base)].toArray),[ow kT3 3 (s3 h.1) r.Dims,ow kT3 3 (s3 h.2) r.Strides])):=by
 unfold Z2a at B
 refine aR Tryz.func60 R 14 R R fun C V=>?_
 refine cL 0 aA ?_
 rintro rfl
 refine cL 1 aA ?_
 rintro rfl
 let J:=RR kT3 A2 D2 v1.Dims::RR kT3 A3 D3 v1.Strides::V
 refine cN J ?_
 refine aU ?_
 refine eE R fun T=>?_
 refine fA (cs:=[(iv b)]) R R R (fun U=>(fA (cs:=[(iv I)]) R R R (fun D=>(fA (cs:=[(iv a)]) R R R (fun E=>(fA (cs:=[(iv g)]) R R R (fun F=>(bD R R cX (fun G=>(aC ?_))))))))))
 let O:=aJ T [(sc A2 v1.Dims D2),(sc A3 v1.Strides D3),(iv v1.Offset),(iv v1.Base)] 47::J
 refine aU ?_
 obtain ⟨i,u,B⟩:=bd B
 refine aU ?_
 refine lO (vp (.func (.func 157) [].toArray [(pt U 0),(pt E 0),(pt D 0),(pt F 0)].toArray) R) (lM _ (fun w s=>(((s.d 6 R).d 8 R).e 7 [1,0,6,4,5,3,2])) ?_)
 refine lC 6 wK R (Z31_ok u) R ?_
 rintro ⟨⟨j,L,m⟩,⟨l,M,q⟩⟩
 refine aL 0 aB ?_
 rintro rfl
 refine aL 1 aB ?_
 rintro rfl
 refine aK 6 R R cG R R R R R R (lN (_::_::_::_::_::_::aJ G [(sc j i.1.Dims m),(sc l i.1.Strides q),(iv i.1.Offset),(iv i.1.Base)] 47::O) ?_)
 refine aP ?_
 cases B
 exact qS ((j,i.1.Dims.length,m),(l,i.1.Strides.length,q)) (tE 10 [0,1])
theorem Z2h_ok  {v1:View}{a:Int}{b:Int}{u:Nat}{r:View}(i:Z2h v1 a b=some r) :
 FnOk Tryz.prog 95 [(pt u 0),(iv a),(iv b)] [ow kT3 3 (.slice A3 N3 D3) v1.Dims,ow kT3 3 (.slice A4 N4 D4) v1.Strides,aJ u [(.slice A3 N3 D3),(.slice A4 N4 D4),(iv v1.Offset),(iv v1.Base)] 47] (fun (h:HH×HH)=>((.tuple [].toArray),[ow kT3 3 (.slice h.1.1 h.1.2.1 h.1.2.2) r.Dims,ow kT3 3 (.slice h.2.1 h.2.2.1 h.2.2.2) r.Strides,aJ u [(.slice h.1.1 h.1.2.1 h.1.2.2),(.slice h.2.1 h.2.2.1 h.2.2.2),(iv r.Offset),(iv r.Base)] 47])):=by
 unfold Z2h at i
 refine aR Tryz.func95 R 34 R R fun C V=>?_
 refine cN (_::_::_::V) ?_
 refine cL 0 aB ?_
 rintro rfl
 refine cL 1 aB ?_
 rintro rfl
 refine aM ?_
 obtain ⟨G,i⟩:=gd i
 refine aE (lP R (lP R (lP R (lO (fT 0 gI R) (lO (gD 2 cK R R R) (bL (K:=kT3) (xs:=([(0:Int)]:List Int)) (vs:=[(iv 0)]) 0 R R bM cE gR R R R R R R ?_ R (fun A7 D7=>?_)))))))
 exact fun I h s=>(gO).list [((),(0:Int))] I h s
 refine lN (OO kT3 3 A7 D7 ([(0:Int)]:List Int)::_::_::aJ u [(sc A3 v1.Dims D3),(sc A4 v1.Strides D4),(iv v1.Offset),(iv v1.Base)] 47::V) ?_
 refine lM (ow _ _ _ _::ow _ _ _ _::ow _ _ _ _::aJ _ _ _::V) (fun w s=>(s.e 4 [1,0,2,3])) ?_
 refine eC (K:=kT3) 17592186044416 R R bM cE kr (Zr.zk zT3 gR) R R R R R R dM G (fun A9 D9=>(lN (OO kT3 3 A9 D9 (v1.Dims++([(0:Int)]:List Int))::_::_::V) ?_))
 refine lP R (lO (fT 0 gI R) (cP 2 R R eR R R R R R (lN (_::_::aJ u [(sc A9 (v1.Dims++([(0:Int)]:List Int)) D9),(sc A4 v1.Strides D4),(iv v1.Offset),(iv v1.Base)] 47::V) ?_)))
 refine aC (aI (aM ?_))
 obtain ⟨E,i⟩:=gd i
 refine aE (lP R (lP R (lP R (lO (fT 1 gA R) (lO (gD 2 cK R R R) (bL (K:=kT3) (xs:=([(0:Int)]:List Int)) (vs:=[(iv 0)]) 0 R R bM cE gR R R R R R R ?_ R (fun A10 D10=>?_)))))))
 exact fun I h s=>(gO).list [((),(0:Int))] I h s
 refine lN (OO kT3 3 A10 D10 ([(0:Int)]:List Int)::_::_::_::V) ?_
 refine lM (ow _ _ _ _::ow _ _ _ _::ow _ _ _ _::aJ _ _ _::V) (fun w s=>(s.e 4 [2,0,1,3])) ?_
 refine eC (K:=kT3) 17592186044416 R R bM cE kr (Zr.zk zT3 gR) R R R R R R dM E (fun A12 D12=>(lN (OO kT3 3 A12 D12 (v1.Strides++([(0:Int)]:List Int))::_::_::V) ?_))
 refine lP R (lO (fT 1 gA R) (cP 2 R R eR R R R R R (lN (_::_::aJ u [(sc A9 (v1.Dims++([(0:Int)]:List Int)) D9),(sc A12 (v1.Strides++([(0:Int)]:List Int)) D12),(iv v1.Offset),(iv v1.Base)] 47::V) ?_)))
 refine aC (aI ?_)
 obtain ⟨g,F,i⟩:=bd i
 refine aE (lP R (lP R (lP R (lO (fT 0 gI R) (lO (gD 2 cK R R R) (lO (jC bM R) (lO (wr R R) (lI R (lI R (lM (ow _ _ _ _::ow _ _ _ _::aJ _ _ _::V) (fun w s=>(s.e 3 [1,0,2])) ?_))))))))))
 refine lC 3 wL R (Z0y_ok (v1:=(⟨(v1.Dims++([(0:Int)]:List Int)),(v1.Strides++([(0:Int)]:List Int)),v1.Offset,v1.Base⟩:View)) F) R ?_
 rintro ⟨⟨j,B,m⟩,⟨l,D,q⟩⟩
 refine lN (ow kT3 3 (.slice j B m) g.Dims::ow kT3 3 (.slice l D q) g.Strides::aJ u [(.slice j B m),(.slice l D q),(iv g.Offset),(iv g.Base)] 47::V) ?_
 refine aL 0 aB ?_
 rintro rfl
 refine aL 1 aB ?_
 rintro rfl
 refine aC ?_
 obtain rfl:=so i
 exact dJ (vs:=[]) (.inr R) ((j,g.Dims.length,m),(l,g.Strides.length,q)) R trivial R (fun w s=>s)
theorem Z1h_ok  {p1:View}{s:Int}{l:Int}{u:Int}{E:Nat}{F:Nat}{G:Nat}{g:Nat}{r:Bool×View×Int}(b:Z1h p1 s l u=some r) :
 FnOk Tryz.prog 92 [(pt E 0),(pt F 0),(pt G 0),(pt g 0)] [ow kT3 3 (.slice A3 N3 D3) p1.Dims,ow kT3 3 (.slice A4 N4 D4) p1.Strides,aJ E [(.slice A3 N3 D3),(.slice A4 N4 D4),(iv p1.Offset),(iv p1.Base)] 47,aJ F [(iv s)] 3,aJ G [(iv l)] 3,aJ g [(iv u)] 3] (fun (h:HH×HH)=>((.bool r.1),[ow kT3 3 (s3 h.1) r.2.1.Dims,ow kT3 3 (s3 h.2) r.2.1.Strides,aJ E [(s3 h.1),(s3 h.2),(iv r.2.1.Offset),(iv r.2.1.Base)] 47,aJ F [(iv s)] 3,aJ G [(iv l)] 3,aJ g [(iv r.2.2)] 3])):=by
 unfold Z1h at b
 refine aR Tryz.func92 R 66 R R fun C V=>?_
 refine cL 0 aB ?_
 rintro rfl
 refine cL 1 aB ?_
 rintro rfl
 refine bH ?_
 refine qM _ (tE 6 [0,1,2,5,3,4]) ?_
 let W1:=aJ F [(iv s)] 3::aJ G [(iv l)] 3::V
 refine aP ?_
 obtain ⟨D,i,b⟩:=bd b
 obtain ⟨j,b⟩:=gd b
 refine cQ [(0,(pt E 0)),(1,(pt F 0)),(2,(pt G 0)),(3,(pt g 0)),(33,(.bool ((((!D)||(decide (l<1)))||(decide (u<1)))||(decide (l>(ix p1.Dims s))))))] (aJ E [(sc A3 p1.Dims D3),(sc A4 p1.Strides D4),(iv p1.Offset),(iv p1.Base)] 47::OO kT3 3 A3 D3 p1.Dims::OO kT3 3 A4 D4 p1.Strides::aJ g [(iv u)] 3::W1) ?_ ?_
 rcases bo (!D) with L | L
 refine dF 26 [] bO fun Z Y=>?_
 refine kq 0 [] ?_
 refine d1 5 R (lC 1 jL R (FnOk.lends (A':=[OO kT3 3 A3 D3 p1.Dims]) (A:=[RR kT3 A3 D3 p1.Dims]) (B:=[]) (Zm_ok i) ⟨aY,trivial⟩ (fun _=>trivial)) R ?_)
 rintro _
 refine aC (aG (sL []) ?_)
 refine r' 6 [] ?_
 refine dD ?_
 exact qj (tE 4 [2,0,1,3])
 rcases bo ((!D)||(decide (l<1))) with M | M
 refine dF 26 [] bO fun Z Y=>?_
 refine kq 0 [] ?_
 refine d1 5 R (lC 1 jL R (FnOk.lends (A':=[OO kT3 3 A3 D3 p1.Dims]) (A:=[RR kT3 A3 D3 p1.Dims]) (B:=[]) (Zm_ok i) ⟨aY,trivial⟩ (fun _=>trivial)) R ?_)
 rintro _
 refine aC (aG (sL []) ?_)
 refine r' 6 [] ?_
 refine dD ?_
 exact qj (tE 4 [2,0,1,3])
 rcases bo (((!D)||(decide (l<1)))||(decide (u<1))) with e | e
 refine dF 26 [] bO fun Z Y=>?_
 refine kq 0 [] ?_
 refine d1 5 R (lC 1 jL R (FnOk.lends (A':=[OO kT3 3 A3 D3 p1.Dims]) (A:=[RR kT3 A3 D3 p1.Dims]) (B:=[]) (Zm_ok i) ⟨aY,trivial⟩ (fun _=>trivial)) R ?_)
 rintro _
 refine aC (aG (sL []) ?_)
 refine r' 6 [] ?_
 refine dD ?_
 exact qj (tE 4 [2,0,1,3])
 refine aZ 0 aB (show 0<p1.Dims.length by have:=(j e); omega) (fun I o15 J=>?_)
 subst J
 refine dF 26 [] bO fun Z Y=>?_
 refine kq 0 [] ?_
 refine d1 5 R (lC 1 jL R (FnOk.lends (A':=[OO kT3 3 (ad I o15) D3 p1.Dims]) (A:=[RR kT3 (ad I o15) D3 p1.Dims]) (B:=[]) (Zm_ok i) ⟨aY,trivial⟩ (fun _=>trivial)) R ?_)
 rintro _
 refine aC (aG (sL []) ?_)
 refine AO 6 [] ?_
 refine dW 22 R (cA e) (eJ bM cE R R (j e)) (dW 23 R (cA e) (gU 0 fO aB R (j e)) ?_)
 refine gW 24 [] ?_
 refine dD ?_
 exact qj (tE 4 [2,0,1,3])
 rintro σ1
 refine bT ?_
 split at b
 refine dA ?_
 cases b
 exact qF ((A3,p1.Dims.length,D3),(A4,p1.Strides.length,D4)) (tE 6 [1,2,0,4,5,3])
 refine bH ?_
 obtain ⟨O,b⟩:=gd b
 refine aZ 2 aB (show 0<p1.Strides.length by have:=O; omega) (fun m o22 J=>?_)
 subst J
 refine dF 8 [] bO fun Z Y=>?_
 refine ub 0 [] ?_
 refine dD ?_
 refine aU ?_
 obtain ⟨T,b⟩:=gd b
 obtain ⟨U,b⟩:=gd b
 refine aZ 1 aB (show 0<p1.Dims.length by have:=T; omega) (fun q o25 J=>?_)
 subst J
 refine dF 13 [] bO fun Z Y=>?_
 refine qG 0 [] ?_
 refine dR 10 R (vz (iv (aH ((aH ((ix p1.Dims s) - l)).tdiv u))) (n8 R R U)) ?_
 refine gW 11 [] ?_
 refine dD (aI (aM (bC (A:=(Int)×(Unit)) (fun a=>Z1h_J3 p1 s l u a.1=some r) (fun a=>[(0,(pt E 0)),(1,(pt F 0)),(2,(pt G 0)),(3,(pt g 0)),(6,(iv (ix p1.Strides s))),(7,(iv (aH ((aH ((aH ((ix p1.Dims s) - l)).tdiv u))+1))))]) (fun a=>aJ E [(sc (ad q o25) p1.Dims D3),(sc (ad m o22) p1.Strides D4),(iv p1.Offset),(iv p1.Base)] 47::OO kT3 3 (ad q o25) D3 p1.Dims::OO kT3 3 (ad m o22) D4 p1.Strides::aJ g [(iv a.1)] 3::W1) ?_ ?_)))
 refine bV ?_
 split at b
 refine aU ?_
 refine cP 3 R R cE R R R R R (lN (aJ E [(sc (ad q o25) p1.Dims D3),(sc (ad m o22) p1.Strides D4),(iv p1.Offset),(iv p1.Base)] 47::OO kT3 3 (ad q o25) D3 p1.Dims::OO kT3 3 (ad m o22) D4 p1.Strides::aJ g [(iv 0)] 3::W1) ?_)
 refine bT ?_
 exact qI ((0:Int),()) b tI
 refine aU ?_
 exact qI (u,()) b tI
 rintro ⟨ai,_⟩ σ1 b
 dsimp only [Z1h_J3] at b
 refine bT ?_
 obtain ⟨ah,a0,b⟩:=bd b
 refine dO ?_
 refine lM _ (tE 4 [1,2,0,3]) ?_
 refine lC 3 wL R (Z0y_ok a0) R ?_
 rintro ⟨⟨a7,ab,a9⟩,⟨a8,ac,aa⟩⟩
 refine aL 0 aB ?_
 rintro rfl
 refine aL 1 aB ?_
 rintro rfl
 refine aP ?_
 obtain ⟨a2,a1,b⟩:=bd b
 refine bH ?_
 refine lC 3 B5 R (Z2h_ok a1) R ?_
 rintro ⟨⟨a3,ae,a5⟩,⟨a4,ag,a6⟩⟩
 refine aL 0 aB ?_
 rintro rfl
 refine aL 1 aB ?_
 rintro rfl
 refine dA ?_
 cases b
 exact qF ((a3,a2.Dims.length,a5),(a4,a2.Strides.length,a6)) (tE 6 [0,1,2,4,5,3])
theorem Z33_ok  {v1:View}{q5:Int}{q7:Int}{q9:Int}{b6:Nat}{b8:Nat}{F:Nat}{r:View×Int}(D:Z33 v1 q5 q7 q9=some r) :
 FnOk Tryz.prog 91 [(.agg [(.slice A2 N2 D2),(.slice A3 N3 D3),(iv v1.Offset),(iv v1.Base)].toArray),(.func (.func 92) [].toArray [(pt b6 0),(pt b8 0),(pt F 0)].toArray)] [aO kT3 (.slice A2 N2 D2) v1.Dims,aO kT3 (.slice A3 N3 D3) v1.Strides,aJ b6 [(iv q5)] 3,aJ b8 [(iv q7)] 3,aJ F [(iv q9)] 3] (fun (h:HH×HH)=>((.agg [(s3 h.1),(s3 h.2),(iv r.1.Offset),(iv r.1.Base)].toArray),[ow kT3 3 (s3 h.1) r.1.Dims,ow kT3 3 (s3 h.2) r.1.Strides,aJ b6 [(iv q5)] 3,aJ b8 [(iv q7)] 3,aJ F [(iv r.2)] 3])):=by
 unfold Z33 at D
 refine aR Tryz.func91 R 31 R R fun C V=>?_
 refine cM _ (fun w s=>(s.f 5 [2,3,0,2])) ?_
 refine cL 3 aA ?_
 rintro rfl
 refine cL 4 aA ?_
 rintro rfl
 let W0:=RR kT3 A2 D2 v1.Dims::RR kT3 A3 D3 v1.Strides::V
 refine aU ?_
 refine eE R fun ae=>?_
 refine bD R R cX (fun M=>(aC (qM _ (tE 5 [0,2,3,4,1]) ?_)))
 let W1:=aJ ae [(sc A2 v1.Dims D2),(sc A3 v1.Strides D3),(iv v1.Offset),(iv v1.Base)] 47::W0
 refine aP ?_
 obtain ⟨am,a4,D⟩:=bd D
 refine aU ?_
 refine lM _ (fun w s=>(((s.d 5 R).d 7 R).e 6 [1,0,2,3,4,5])) ?_
 refine lC 2 pg R (Zi_ok a4) R ?_
 rintro _
 refine aP ?_
 split at D
 refine aP ?_
 refine lO (vz (.agg [(.slice none 0 0),(.slice none 0 0),(iv 0),(iv 0)].toArray) (aV fF cX R R)) (aK 0 R R cG R R R R R R (aC (aI (bW (cD ?_)))))
 cases D
 exact qS ((none,0,0),(none,0,0)) (fun w s=>(((s.nilo kT3 3).nilo kT3 3).e 9 [1,0,3,4,5]))
 refine bH ?_
 obtain ⟨g,a1,D⟩:=bd D
 obtain ⟨i,O,D⟩:=bd D
 refine iK (A:=(Unit)×(Nat×HH×HH)) (fun _=>True) (fun a=>[(1,(.func (.func 92) [].toArray [(pt b6 0),(pt b8 0),(pt F 0)].toArray)),(4,(pt M 0)),(5,(pt a.2.1 0))]) (fun a=>aJ b6 [(iv q5)] 3::aJ b8 [(iv q7)] 3::aJ F [(iv q9)] 3::aJ M [(.slice none 0 0),(.slice none 0 0),(iv 0),(iv 0)] 47::aJ a.2.1 [(s3 a.2.2.1),(s3 a.2.2.2),(iv v1.Offset),(iv v1.Base)] 47::ow kT3 3 (s3 a.2.2.1) g::ow kT3 3 (s3 a.2.2.2) i::W1) ?_ ?_
 refine dF 13 [] bO fun ht hn=>?_
 refine gW 0 [] ?_
 refine gW 3 [] ?_
 refine nQ 6 [] ?_
 refine gT [2,11] (by kernel_rfl) R ⟨?_,?_,trivial⟩
 refine lM _ (fun w s=>(s.d 5 R)) ?_
 refine lC 1 jw R (Zp_ok a1) R ?_
 rintro ⟨m,a8,q⟩
 refine aL 0 aB ?_
 rintro rfl
 refine aC (aG (sL [0]) (gT [5,11] (by kernel_rfl) R ⟨?_,?_,trivial⟩))
 refine lM _ (fun w s=>(s.d 7 R)) ?_
 refine lC 1 jw R (Zp_ok O) R ?_
 rintro ⟨j,a3,l⟩
 refine aL 0 aB ?_
 rintro rfl
 refine aC (aG (sL [1,0]) (dR 10 R (vz (.agg [(sc m g q),(sc j i l),(iv v1.Offset),(iv v1.Base)].toArray) (aV fF cX R R)) (hS:=(sL [1,0])) (d1 11 R (bD R R cX (fun E=>(aC (aG (sL [2,1,0]) (d1 12 R (aK 0 R R cG R R R R R R (lN (aJ E [(sc m g q),(sc j i l),(iv v1.Offset),(iv v1.Base)] 47::_::_::_::_::_::_::W1) ?_))))))))))
 refine aC (aG (sL [2,1,0]) (dD ?_))
 exact cJ ((),(E,(m,g.length,q),(j,i.length,l))) trivial (aS R) (tE 7 [4,5,6,3,0,2,1])
 refine bD R R cX (fun E=>(aC (aG (sL [1,0]) (d1 5 R (lM _ (fun w s=>(s.d 8 R)) ?_)))))
 refine lC 1 jw R (Zp_ok O) R ?_
 rintro ⟨j,a3,l⟩
 refine aL 0 aB ?_
 rintro rfl
 refine aC (aG (sL [2,1,0]) (dR 10 R (vz (.agg [(sc m g q),(sc j i l),(iv v1.Offset),(iv v1.Base)].toArray) (aV fF cX R R)) (hS:=(sL [2,1,0])) (d1 12 R (aK 1 R R cG R R R R R R (lN (_::aJ E [(sc m g q),(sc j i l),(iv v1.Offset),(iv v1.Base)] 47::_::_::_::_::_::W1) ?_)))))
 refine aC (aG (sL [2,1,0]) (dD ?_))
 exact cJ ((),(E,(m,g.length,q),(j,i.length,l))) trivial (aS R) (tE 7 [4,5,6,3,1,2,0])
 refine bD R R cX (fun E=>(aC (aG (sL [0]) (d1 2 R (lM _ (fun w s=>(s.d 6 R)) ?_)))))
 refine lC 1 jw R (Zp_ok a1) R ?_
 rintro ⟨m,a8,q⟩
 refine aL 0 aB ?_
 rintro rfl
 refine aC (aG (sL [1,0]) (d1 5 R (lM _ (fun w s=>(s.d 8 R)) ?_)))
 refine lC 1 jw R (Zp_ok O) R ?_
 rintro ⟨j,a3,l⟩
 refine aL 0 aB ?_
 rintro rfl
 refine aC (aG (sL [2,1,0]) (dR 10 R (vz (.agg [(sc m g q),(sc j i l),(iv v1.Offset),(iv v1.Base)].toArray) (aV fF cX R R)) (hS:=(sL [2,1,0])) (d1 12 R (aK 2 R R cG R R R R R R (lN (_::_::aJ E [(sc m g q),(sc j i l),(iv v1.Offset),(iv v1.Base)] 47::_::_::_::_::W1) ?_)))))
 refine aC (aG (sL [2,1,0]) (dD ?_))
 exact cJ ((),(E,(m,g.length,q),(j,i.length,l))) trivial (aS R) (tE 7 [4,5,6,3,2,1,0])
 rintro ⟨_,⟨a2,⟨ag,a9,ai⟩,⟨ah,aa,aj⟩⟩⟩ σ1 -
 refine fW 5 aB (fun (hn:a9=g.length)=>?_)
 subst hn
 refine fW 6 aB (fun (hn:aa=i.length)=>?_)
 subst hn
 refine aP ?_
 obtain ⟨b,a5,D⟩:=bd D
 obtain ⟨a7,a6,D⟩:=bd D
 refine iK (A:=(Unit)×(HH×HH)) (fun _=>True) (fun a=>[(4,(pt M 0)),(5,(pt a2 0)),(28,(.bool ((!b.1)||(!a7))))]) (fun a=>aJ M [(.slice none 0 0),(.slice none 0 0),(iv 0),(iv 0)] 47::aJ a2 [(s3 a.2.1),(s3 a.2.2),(iv b.2.1.Offset),(iv b.2.1.Base)] 47::ow kT3 3 (s3 a.2.1) b.2.1.Dims::ow kT3 3 (s3 a.2.2) b.2.1.Strides::aJ b6 [(iv q5)] 3::aJ b8 [(iv q7)] 3::aJ F [(iv b.2.2)] 3::W1) ?_ ?_
 refine aE (lO (vp _ R) (lM _ (fun w s=>(s.f 7 [5,2,4,1,0,4])) ?_))
 refine cC (fs:=[]) (cs:=[(pt b6 0),(pt b8 0),(pt F 0)]) 6 R R B6 R R (Z1h_ok (p1:=(⟨g,i,v1.Offset,v1.Base⟩:View)) a5) R ?_
 rintro ⟨⟨G,ak,J⟩,⟨I,al,L⟩⟩
 refine aL 0 aB ?_
 rintro rfl
 refine aL 1 aB ?_
 rintro rfl
 refine aU ?_
 rcases bo (!b.1) with u | u
 refine aP ?_
 refine lO (fB (!a7) R u) (aC ?_)
 exact cJ ((),((G,b.2.1.Dims.length,J),(I,b.2.1.Strides.length,L))) trivial (aS R) (tE 7 [6,2,0,1,3,4,5])
 refine lW (cA u) (vz (.agg [(sc G b.2.1.Dims J),(sc I b.2.1.Strides L),(iv b.2.1.Offset),(iv b.2.1.Base)].toArray) (dP 2 gH cG R R R R)) (bX 2 R (cA u) pg R (FnOk.lends (A':=[OO kT3 3 G J b.2.1.Dims,OO kT3 3 I L b.2.1.Strides]) (A:=[RR kT3 G J b.2.1.Dims,RR kT3 I L b.2.1.Strides]) (B:=[]) (Zi_ok (bN a6 (cT u))) ⟨aY,aY,trivial⟩ (fun _=>trivial)) R ?_)
 rintro _
 refine bT ?_
 refine lO (fU R u R) (aC ?_)
 exact cJ ((),((G,b.2.1.Dims.length,J),(I,b.2.1.Strides.length,L))) trivial (aS R) (tE 7 [6,2,0,1,3,4,5])
 rintro ⟨_,⟨⟨T,ab,Y⟩,⟨U,ac,Z⟩⟩⟩ σ1 -
 refine fW 2 aB (fun (hn:ab=b.2.1.Dims.length)=>?_)
 subst hn
 refine fW 3 aB (fun (hn:ac=b.2.1.Strides.length)=>?_)
 subst hn
 refine bT ?_
 rcases cF D with ⟨a0,D⟩|⟨a0,D⟩
 refine aP ?_
 refine lO (vz (.agg [(.slice none 0 0),(.slice none 0 0),(iv 0),(iv 0)].toArray) (aV fF cX R R)) (aK 0 R R cG R R R R R R (lN (_::aJ a2 [(sc T b.2.1.Dims Y),(sc U b.2.1.Strides Z),(iv b.2.1.Offset),(iv b.2.1.Base)] 47::OO kT3 3 T Y b.2.1.Dims::OO kT3 3 U Z b.2.1.Strides::_::_::_::W1) ?_))
 refine bH ?_
 cases D
 exact qS ((none,0,0),(none,0,0)) (fun w s=>(((s.nilo kT3 3).nilo kT3 3).e 12 [1,0,6,7,8]))
 refine bJ R a0 ?_
 refine b' ?_
 refine aK 0 R R cG R R R R R R (lN (aJ M [(sc T b.2.1.Dims Y),(sc U b.2.1.Strides Z),(iv b.2.1.Offset),(iv b.2.1.Base)] 47::_::_::_::_::_::_::W1) ?_)
 refine aP ?_
 cases D
 exact qS ((T,b.2.1.Dims.length,Y),(U,b.2.1.Strides.length,Z)) (fun w s=>(s.f 10 [2,5]))
theorem Z2c_ok  {v1:View}{a:Int}{b:Int}{g:Int}{r:View}(q:Z2c v1 a b g=some r) :
 FnOk Tryz.prog 25 [(.agg [(.slice A2 N2 D2),(.slice A3 N3 D3),(iv v1.Offset),(iv v1.Base)].toArray),(iv a),(iv b),(iv g)] [aO kT3 (.slice A2 N2 D2) v1.Dims,aO kT3 (.slice A3 N3 D3) v1.Strides] (fun (h:HH×HH)=>((.agg [(s3 h.1),(s3 h.2),(iv r.Offset),(iv r.Base)].toArray),[ow kT3 3 (s3 h.1) r.Dims,ow kT3 3 (s3 h.2) r.Strides])):=by
 unfold Z2c at q
 refine aR Tryz.func25 R 12 R R fun C V=>?_
 refine cL 0 aA ?_
 rintro rfl
 refine cL 1 aA ?_
 rintro rfl
 let D:=RR kT3 A2 D2 v1.Dims::RR kT3 A3 D3 v1.Strides::V
 refine cN D ?_
 refine aU ?_
 refine eE R fun G=>?_
 refine fA (cs:=[(iv a)]) R R R (fun I=>(fA (cs:=[(iv b)]) R R R (fun J=>(fA (cs:=[(iv g)]) R R R (fun u=>(bD R R cX (fun B=>(aC ?_))))))))
 let F:=aJ G [(sc A2 v1.Dims D2),(sc A3 v1.Strides D3),(iv v1.Offset),(iv v1.Base)] 47::D
 refine aU ?_
 obtain ⟨i,m,q⟩:=bd q
 refine aU ?_
 refine lO (vp (.func (.func 92) [].toArray [(pt I 0),(pt J 0),(pt u 0)].toArray) R) (lM _ (fun w s=>(((s.d 5 R).d 7 R).e 6 [1,0,5,4,3,2])) ?_)
 refine lC 5 wK R (Z33_ok m) R ?_
 rintro ⟨⟨A14,N14,D14⟩,⟨j,E,l⟩⟩
 refine aL 0 aB ?_
 rintro rfl
 refine aL 1 aB ?_
 rintro rfl
 refine aK 5 R R cG R R R R R R (lN (_::_::_::_::_::aJ B [(sc A14 i.1.Dims D14),(sc j i.1.Strides l),(iv i.1.Offset),(iv i.1.Base)] 47::F) ?_)
 refine aP ?_
 cases q
 exact qS ((A14,i.1.Dims.length,D14),(j,i.1.Strides.length,l)) (tE 9 [0,1])
theorem Z1a_ok  {l:Node}{F:(List Int)}{r:View}(i:Z1a l F=some r) :
 FnOk Tryz.prog 275 [(.agg [(iv l.Op),(.slice A2 N2 D2),(.slice A3 N3 D3),(.slice A4 N4 D4),(aD l.Form),(.slice A5 N5 D5)].toArray),(.slice A7 N7 D7)] [aO kT3 (.slice A2 N2 D2) l.Args,aO kT3 (.slice A3 N3 D3) l.Dims,aO kT3 (.slice A4 N4 D4) l.Ints,aO kT3 (.slice A5 N5 D5) l.Data,aO kT3 (.slice A7 N7 D7) F] (fun (h:HH×HH)=>((.agg [(.slice h.1.1 h.1.2.1 h.1.2.2),(.slice h.2.1 h.2.2.1 h.2.2.2),(iv r.Offset),(iv r.Base)].toArray),[aO kT3 (.slice h.1.1 h.1.2.1 h.1.2.2) r.Dims,aO kT3 (.slice h.2.1 h.2.2.1 h.2.2.2) r.Strides])):=by
 unfold Z1a at i
 refine aR Tryz.func275 R 76 R R fun C V=>?_
 refine cN (_::_::_::_::_::V) ?_
 refine cL 0 aA ?_
 rintro rfl
 refine cL 1 aA ?_
 rintro rfl
 refine cL 2 aA ?_
 rintro rfl
 refine cL 3 aA ?_
 rintro rfl
 refine cL 4 aA ?_
 rintro rfl
 let W0:List HP:=RR kT3 A2 D2 l.Args::RR kT3 A3 D3 l.Dims::RR kT3 A4 D4 l.Ints::RR kT3 A5 D5 l.Data::RR kT3 A7 D7 F::V
 refine cN W0 ?_
 refine aM (aE (eE R (fun b8=>(bD R R cX (fun I=>(aC ?_))))))
 let G:List HP:=aJ b8 [(iv l.Op),(sc A2 l.Args D2),(sc A3 l.Dims D3),(sc A4 l.Ints D4),(aD l.Form),(sc A5 l.Data D5)] 171::W0
 refine qN (_::G) ?_
 refine aI (aM ?_)
 obtain ⟨a,ai,i⟩:=bd i
 refine aE (lS R (lM (RR kT3 A7 D7 F::_::G) (fun w s=>(s.d 6 R)) ?_))
 refine lC 1 B3 R (Z2i_ok ai) R ?_
 rintro ⟨⟨A12,N12,D12⟩,⟨m,am,q⟩⟩
 refine lN (ow kT3 3 (.slice A12 N12 D12) a.Dims::ow kT3 3 (.slice m am q) a.Strides::_::G) ?_
 refine aL 0 aB ?_
 rintro rfl
 refine aL 1 aB ?_
 rintro rfl
 refine bD R R cX (fun J=>(aK 0 R R cG R R R R R R (lN (aJ J [(sc A12 a.Dims D12),(sc m a.Strides q),(iv a.Offset),(iv a.Base)] 47::_::_::_::G) ?_)))
 refine aC (aI (aM (dB (aM (aE (lO (fT 0 iU R) (lO (gD 4 fO R R R) (lO (lH R R) (lB R (aC (aI ?_)))))))))))
 rcases cF i with ⟨L,i⟩|⟨L,i⟩
 refine bZ R L (aM ?_)
 obtain ⟨u,aj,i⟩:=bd i
 refine aE (lO (vz (.agg [(sc A12 a.Dims D12),(sc m a.Strides q),(iv a.Offset),(iv a.Base)].toArray) (dP 0 gH cG R R R R)) (lO (fT 2 kc R) (lO (gD 4 cK R R R) (hW (fun w s=>s.shr 1 R) (hW (fun w s=>s.shr 2 R) (lM (RR kT3 A12 D12 a.Dims::RR kT3 m q a.Strides::RR kT3 A3 D3 l.Dims::RR kT3 m q a.Strides::RR kT3 A12 D12 a.Dims::aJ _ _ _::aJ _ _ _::G) (fun w s=>((((s.d 1 R).d 1 R).d 8 R).e 7 [2,1,0,3,4,5,6])) ?_))))))
 refine lC 3 zC R (Z2b_ok aj) R ?_
 rintro ⟨⟨Z,an,a5⟩,⟨a0,ao,a6⟩⟩
 refine lN (aO kT3 (.slice Z an a5) u.Dims::aO kT3 (.slice a0 ao a6) u.Strides::_::_::_::_::G) ?_
 refine aL 0 aA ?_
 rintro rfl
 refine aL 1 aA ?_
 rintro rfl
 refine aK 5 R R cG R R R R R R (lN (_::_::_::_::_::aJ I [(sc Z u.Dims a5),(sc a0 u.Strides a6),(iv u.Offset),(iv u.Base)] 47::G) ?_)
 refine aC (aI (bW (dG (cD ?_))))
 obtain rfl:=so i
 exact dJ (vs:=[(.agg [(sc Z u.Dims a5),(sc a0 u.Strides a6),(iv u.Offset),(iv u.Base)].toArray)]) (.inl R) ((Z,u.Dims.length,a5),(a0,u.Strides.length,a6)) R ⟨⟨5,I,_,_,R,R,.inl ⟨gH,cG,R⟩⟩,trivial⟩ R (fun w s=>(s.e 12 [0,1]))
 refine bJ R L (aM ?_)
 obtain ⟨T,i⟩:=gd i
 refine cQ [(2,(pt b8 0)),(4,(pt I 0)),(5,(pt J 0)),(16,(.bool (((l.Op==(14:Int))&&((l.Ints.length:Int)==(4:Int)))&&(decide ((ix l.Ints (3:Int))≥(1:Int))))))] (aJ I [(.slice none 0 0),(.slice none 0 0),(iv 0),(iv 0)] 47::aJ J [(sc A12 a.Dims D12),(sc m a.Strides q),(iv a.Offset),(iv a.Base)] 47::OO kT3 3 A12 D12 a.Dims::OO kT3 3 m q a.Strides::G) ?_ ?_
 refine aE (lO (fT 0 iU R) (lO (gD 4 fO R R R) (lO (lH R R) (lB R ?_))))
 rcases bo (l.Op==(14:Int)) with b | b
 refine lW (eG b) (fT 3 fZ R) (lW (eG b) (gD 4 cK R R R) (lW (eG b) (jC bM R) (lW (eG b) (lH R R) (lO (j4 R b R) (lB R ?_)))))
 rcases bo ((l.Op==(14:Int))&&((l.Ints.length:Int)==(4:Int))) with g | g
 refine lW (eG g) (fT 3 fZ R) (lW (eG g) (gD 4 cK R R R) (bA 7 aA (show 0<l.Ints.length by have:=(T g); omega) (fun av o22 ha=>?_)))
 subst ha
 refine lW (eG g) (eJ bM cE R R (T g)) (lW (eG g) (gU 7 fO aA R (T g)) (lW (eG g) (At R R) (lO (j4 R g R) (lB R (aC ?_)))))
 exact qJ (fun w s=>(s.e 4 [3,0,1,2]))
 refine lf (nu g) (lf (nu g) (lf (nu g) (lf (nu g) (lf (nu g) (lO (kk (decide ((ix l.Ints (3:Int))≥(1:Int))) R g) (lB R (aC ?_)))))))
 exact qJ (fun w s=>(s.e 4 [3,0,1,2]))
 refine lf (nu b) (lf (nu b) (lf (nu b) (lf (nu b) (lO (kk ((l.Ints.length:Int)==(4:Int)) R b) (lB R (lf (nu (aF b)) (lf (nu (aF b)) (lf (nu (aF b)) (lf (nu (aF b)) (lf (nu (aF b)) (lO (kk (decide ((ix l.Ints (3:Int))≥(1:Int))) R (aF b)) (lB R (aC ?_)))))))))))))
 exact qJ (fun w s=>(s.e 4 [3,0,1,2]))
 rintro σ1
 refine aI ?_
 rcases cF i with ⟨M,i⟩|⟨M,i⟩
 refine bZ R M (aM ?_)
 obtain ⟨U,i⟩:=gd i
 obtain ⟨ab,i⟩:=gd i
 obtain ⟨ac,i⟩:=gd i
 obtain ⟨ae,i⟩:=gd i
 obtain ⟨D,ak,i⟩:=bd i
 refine aZ 7 aA (show 0<l.Ints.length by have:=U; omega) (fun aw o28 ha=>?_)
 subst ha
 refine dF 19 [0] bO (fun ht hn=>(dR 0 R (vz (.agg [(sc A12 a.Dims D12),(sc m a.Strides q),(iv a.Offset),(iv a.Base)].toArray) (dP 0 gH cG R R R R)) (hS:=(sL [0])) (dR 1 R (fT 3 fZ R) (hS:=(sL [0])) (dR 2 R (gD 3 cK R R R) (hS:=(sL [0])) (dR 3 R (eJ bM cE R R U) (hS:=(sL [0])) (dR 4 R (gU 6 fO aA R U) (hS:=(sL [0])) (dR 5 R (fT 3 fZ R) (hS:=(sL [0])) (dR 6 R (gD 3 cK R R R) (hS:=(sL [0])) (dR 7 R (eJ bM cE R R ab) (hS:=(sL [0])) (dR 8 R (gU 6 fO aA R ab) (hS:=(sL [0])) (dR 9 R (fT 3 fZ R) (hS:=(sL [0])) (dR 10 R (gD 3 cK R R R) (hS:=(sL [0])) (dR 11 R (eJ bM cE R R ac) (hS:=(sL [0])) (dR 12 R (gU 6 fO aA R ac) (hS:=(sL [0])) (dR 13 R (fT 3 fZ R) (hS:=(sL [0])) (dR 14 R (gD 3 cK R R R) (hS:=(sL [0])) (dR 15 R (eJ bM cE R R ae) (hS:=(sL [0])) (dR 16 R (gU 6 fO aA R ae) (hS:=(sL [0])) (d1 17 R (lM (OO kT3 3 A12 D12 a.Dims::OO kT3 3 m q a.Strides::aJ I [(.slice none 0 0),(.slice none 0 0),(iv 0),(iv 0)] 47::aJ _ _ _::G) (fun w s=>(s.e 4 [2,3,0,1])) ?_))))))))))))))))))))
 refine lC 2 B4 R (FnOk.lends (A':=[OO kT3 3 A12 D12 a.Dims,OO kT3 3 m q a.Strides]) (A:=[RR kT3 A12 D12 a.Dims,RR kT3 m q a.Strides]) (B:=[]) (Z2a_ok ak) ⟨aY,aY,trivial⟩ (fun _=>⟨(bK j9),(bK j9),trivial⟩)) R ?_
 rintro ⟨⟨a1,ap,a7⟩,⟨a2,aq,a8⟩⟩
 refine lN (_::_::ow kT3 3 (.slice a1 ap a7) D.Dims::ow kT3 3 (.slice a2 aq a8) D.Strides::_::_::G) ?_
 refine aL 2 aB ?_
 rintro rfl
 refine aL 3 aB ?_
 rintro rfl
 refine aC (aG (fun w s=>(s.e 6 [5,0,1])) (d1 18 R (aK 4 R R cG R R R R R R (lN (_::_::_::_::aJ I [(sc a1 D.Dims a7),(sc a2 D.Strides a8),(iv D.Offset),(iv D.Base)] 47::_::G) ?_))))
 refine aC (aG (fun w s=>(s.e 6 [5,0,1])) (dD (aI (bW (dG (cD ?_))))))
 obtain rfl:=so i
 exact dJ (vs:=[(.agg [(sc a1 D.Dims a7),(sc a2 D.Strides a8),(iv D.Offset),(iv D.Base)].toArray)]) (.inl R) ((a1,D.Dims.length,a7),(a2,D.Strides.length,a8)) R ⟨⟨4,I,_,_,R,R,.inl ⟨gH,cG,R⟩⟩,trivial⟩ R (fun w s=>(((s.shr 2 R).shr 3 R).e 12 [1,0]))
 refine bJ R M (aM (cQ [(2,(pt b8 0)),(4,(pt I 0)),(5,(pt J 0)),(51,(.bool ((l.Op==(18:Int))&&((l.Ints.length:Int)==(3:Int)))))] (aJ I [(.slice none 0 0),(.slice none 0 0),(iv 0),(iv 0)] 47::aJ J [(sc A12 a.Dims D12),(sc m a.Strides q),(iv a.Offset),(iv a.Base)] 47::OO kT3 3 A12 D12 a.Dims::OO kT3 3 m q a.Strides::G) ?_ ?_))
 refine aE (lO (fT 0 iU R) (lO (gD 4 fO R R R) (lO (lH R R) (lB R ?_))))
 rcases bo (l.Op==(18:Int)) with j | j
 refine lW (eG j) (fT 3 fZ R) (lW (eG j) (gD 4 cK R R R) (lW (eG j) (jC bM R) (lW (eG j) (lH R R) (lO (j4 R j R) (lB R (aC ?_))))))
 exact qJ (fun w s=>s)
 refine lf (nu j) (lf (nu j) (lf (nu j) (lf (nu j) (lO (kk ((l.Ints.length:Int)==(3:Int)) R j) (lB R (aC ?_))))))
 exact qJ (fun w s=>s)
 rintro σ1
 refine aI ?_
 rcases cF i with ⟨O,i⟩|⟨O,i⟩
 refine bZ R O (aM ?_)
 obtain ⟨Y,i⟩:=gd i
 obtain ⟨ag,i⟩:=gd i
 obtain ⟨ah,i⟩:=gd i
 obtain ⟨E,al,i⟩:=bd i
 refine aZ 7 aA (show 0<l.Ints.length by have:=Y; omega) (fun ax o40 ha=>?_)
 subst ha
 refine dF 15 [0] bO (fun ht hn=>(dR 0 R (vz (.agg [(sc A12 a.Dims D12),(sc m a.Strides q),(iv a.Offset),(iv a.Base)].toArray) (dP 0 gH cG R R R R)) (hS:=(sL [0])) (dR 1 R (fT 3 fZ R) (hS:=(sL [0])) (dR 2 R (gD 3 cK R R R) (hS:=(sL [0])) (dR 3 R (eJ bM cE R R Y) (hS:=(sL [0])) (dR 4 R (gU 6 fO aA R Y) (hS:=(sL [0])) (dR 5 R (fT 3 fZ R) (hS:=(sL [0])) (dR 6 R (gD 3 cK R R R) (hS:=(sL [0])) (dR 7 R (eJ bM cE R R ag) (hS:=(sL [0])) (dR 8 R (gU 6 fO aA R ag) (hS:=(sL [0])) (dR 9 R (fT 3 fZ R) (hS:=(sL [0])) (dR 10 R (gD 3 cK R R R) (hS:=(sL [0])) (dR 11 R (eJ bM cE R R ah) (hS:=(sL [0])) (dR 12 R (gU 6 fO aA R ah) (hS:=(sL [0])) (d1 13 R (lM (ow _ _ _ _::ow _ _ _ _::aJ I [(.slice none 0 0),(.slice none 0 0),(iv 0),(iv 0)] 47::aJ _ _ _::G) (fun w s=>(s.e 4 [2,3,0,1])) ?_))))))))))))))))
 refine lC 2 B7 R (FnOk.lends (A':=[OO kT3 3 A12 D12 a.Dims,OO kT3 3 m q a.Strides]) (A:=[RR kT3 A12 D12 a.Dims,RR kT3 m q a.Strides]) (B:=[]) (Z2c_ok al) ⟨aY,aY,trivial⟩ (fun _=>⟨(bK j9),(bK j9),trivial⟩)) R ?_
 rintro ⟨⟨a3,ar,a9⟩,⟨a4,au,aa⟩⟩
 refine lN (_::_::ow kT3 3 (.slice a3 ar a9) E.Dims::ow kT3 3 (.slice a4 au aa) E.Strides::_::_::G) ?_
 refine aL 2 aB ?_
 rintro rfl
 refine aL 3 aB ?_
 rintro rfl
 refine aC (aG (fun w s=>(s.e 6 [5,0,1])) (d1 14 R (aK 4 R R cG R R R R R R (lN (_::_::_::_::aJ I [(sc a3 E.Dims a9),(sc a4 E.Strides aa),(iv E.Offset),(iv E.Base)] 47::_::G) ?_))))
 refine aC (aG (fun w s=>(s.e 6 [5,0,1])) (dD (aI (bW (dG (cD ?_))))))
 obtain rfl:=so i
 exact dJ (vs:=[(.agg [(sc a3 E.Dims a9),(sc a4 E.Strides aa),(iv E.Offset),(iv E.Base)].toArray)]) (.inl R) ((a3,E.Dims.length,a9),(a4,E.Strides.length,aa)) R ⟨⟨4,I,_,_,R,R,.inl ⟨gH,cG,R⟩⟩,trivial⟩ R (fun w s=>(((s.shr 2 R).shr 3 R).e 12 [1,0]))
 refine bJ R O (cW (dT (aI (aM (aE (lO (vz (.agg [(.slice none 0 0),(.slice none 0 0),(iv 0),(iv 0)].toArray) (aV fF cX R R)) (aK 0 R R cG R R R R R R (lN (aJ I [(.slice none 0 0),(.slice none 0 0),(iv 0),(iv 0)] 47::_::_::_::G) ?_))))))))
 refine aC (aI (bW ?_))
 obtain rfl:=so i
 exact dJ (vs:=[(.agg [(.slice none 0 0),(.slice none 0 0),(iv 0),(iv 0)].toArray)]) (.inl R) ((none,0,0),(none,0,0)) R ⟨⟨0,I,_,_,R,R,.inl ⟨gH,cG,R⟩⟩,trivial⟩ R (fun w s=>(((s.nilr kT3).nilr kT3).e 12 [1,0]))
theorem Z30_ok  {e:(List Int)}{a:(List Int)}{b:Int}{r:(List Int)×Int×(List Int)}(m:Z30 e a b=some r) :
 FnOk Tryz.prog 158 [(.slice A2 N2 D2),(.slice A4 N4 D4),(iv b)] [aO kT3 (.slice A2 N2 D2) e,aO kT3 (.slice A4 N4 D4) a] (fun (h:HH×Nat×Nat×HH×Nat)=>((.func (.func 193) [].toArray [(pt h.2.1 0),(pt h.2.2.1 0),(pt h.2.2.2.2 0)].toArray),[aO kT3 (s3 h.1) r.1,aJ h.2.1 [(s3 h.1)] 36,aJ h.2.2.1 [(iv r.2.1)] 3,aO kT3 (s3 h.2.2.2.1) r.2.2,aJ h.2.2.2.2 [(s3 h.2.2.2.1)] 36])):=by
 unfold Z30 at m
 refine aR Tryz.func158 R 8 R R fun C V=>?_
 refine cL 0 aA ?_
 rintro rfl
 refine cL 1 aA ?_
 rintro rfl
 let l:=RR kT3 A2 D2 e::RR kT3 A4 D4 a::V
 refine cN l ?_
 refine aU ?_
 refine fA (cs:=[(sc A2 e D2)]) R R R (fun g=>(fA (cs:=[(sc A4 a D4)]) R R R (fun i=>(fA (cs:=[(iv b)]) R R R (fun j=>(lO (vp _ R) (aC ?_)))))))
 let q:=aJ j [(iv b)] 3::aJ i [(sc A4 a D4)] 36::aJ g [(sc A2 e D2)] 36::l
 refine qN q ?_
 refine aP ?_
 refine lO (vp (.func (.func 193) [].toArray [(pt g 0),(pt j 0),(pt i 0)].toArray) R) (lO (vp _ R) ?_)
 refine aP ?_
 cases m
 exact qF ((A2,e.length,D2),g,j,(A4,a.length,D4),i) (tE 5 [3,2,0,4,1])
theorem Z04_ok  {F:Type}{YF:F→Int→Option (F×Bool)}{i:F}{l:(List Int)}{p5:Int}{M:(List Int)}{G:Nat}{b6:Nat}{J:Nat}{YE:F→HP}{yl:Nat}(hy:∀ s x q,YF s x=some q→AH Tryz.prog yl [.int .i64 x] [YE s] (fun _:Unit=>(.bool q.2,[YE q.1]))){r:F}(b:Z04 F YF i l p5 M=some r) :
 FnOk Tryz.prog 193 [(.func (.yield yl) #[] #[]),(pt G 0),(pt b6 0),(pt J 0)] [YE i,aO kT3 (.slice A4 N4 D4) l,aJ G [(.slice A4 N4 D4)] 36,aJ b6 [(iv p5)] 3,aO kT3 (.slice A9 N9 D9) M,aJ J [(.slice A9 N9 D9)] 36] (fun (h:Unit)=>((.tuple [].toArray),[YE r,aJ G [(.slice A4 N4 D4)] 36,aJ b6 [(iv p5)] 3,aJ J [(.slice A9 N9 D9)] 36])):=by
 unfold Z04 at b
 refine aR Tryz.func193 R 60 R R fun C V=>?_
 refine cM (YE i::aJ _ _ _::aJ _ _ _::aJ _ _ _::aO _ _ _::aO _ _ _::V) (tE 6 [0,2,3,5,1,4]) ?_
 refine cL 4 aA ?_
 rintro rfl
 refine cL 5 aA ?_
 rintro rfl
 let W0:=RR kT3 A4 D4 l::RR kT3 A9 D9 M::V
 refine bT ?_
 obtain ⟨u,b⟩:=gd b
 refine aP ?_
 refine eW (K:=kT3) (m:=(l.length:Int)) (z:=(0:Int)) R R bM cE kr (Zr.zk zT3 gR) (by decide) R R u.1 u.2.1 u.2.2 (fun A11 D11=>(lS R (aC ?_)))
 let L:=aJ G [(sc A4 l D4)] 36::aJ b6 [(iv p5)] 3::aJ J [(sc A9 M D9)] 36::W0
 refine dA ?_
 obtain ⟨e1,a7,a0⟩:=bd b
 refine bF (A:=Unit) a7 (fun s a=>[(0,(.func (.yield yl) #[] #[])),(1,(pt G 0)),(3,(pt J 0)),(5,(sc A11 (List.replicate (l.length:Int).toNat (0:Int)) D11)),(6,(iv s.2.1))]) (fun s a=>ow kT3 3 (.slice A11 (List.replicate (l.length:Int).toNat (0:Int)).length D11) s.1::YE s.2.2::L) () (aS R) tI ?_
 rintro ⟨D,ah,aa⟩ _ σ1 a4 b T
 dsimp only [Z04_L1] at b
 refine aP ?_
 obtain ⟨E,a2,b⟩:=bd b
 refine wt 2 R (fun _ _ h=>h) (lO (vp (.func (.yield yl) #[] #[]) R) (lI R (lM (YE aa::ow kT3 3 (.slice A11 (List.replicate (l.length:Int).toNat (0:Int)).length D11) D::L) (tE 2 [1,0]) ?_)))
 refine aC (u7 1 R R (hy _ _ _ a2) R (fun _ _ h=>h) R (fun _=>(lN (YE E.1::_::L) ?_)))
 refine aP ?_
 split at b
 refine bH ?_
 cases b
 obtain rfl:=T _ R
 have b:=a0
 refine aU ?_
 cases b
 exact Au () (tE 7 [0,2,3,4])
 refine iE ?_
 refine bC (A:=((List Int)×Int×Int)×(Unit)) (fun a=>Z04_J2 F YF E a.1.1 a.1.2.1 a.1.2.2=some a4) (fun a=>[(0,(.func (.yield yl) #[] #[])),(1,(pt G 0)),(3,(pt J 0)),(5,(sc A11 (List.replicate (l.length:Int).toNat (0:Int)) D11)),(6,(iv a.1.2.1)),(7,(iv a.1.2.2))]) (fun a=>ow kT3 3 (.slice A11 (List.replicate (l.length:Int).toNat (0:Int)).length D11) a.1.1::YE E.1::L) ?_ ?_
 refine bT ?_
 obtain ⟨e2,a8,a1⟩:=bd b
 refine bF (A:=Unit) a8 (fun s a=>[(0,(.func (.yield yl) #[] #[])),(1,(pt G 0)),(3,(pt J 0)),(5,(sc A11 (List.replicate (l.length:Int).toNat (0:Int)) D11)),(6,(iv s.2.1)),(7,(iv s.2.2))]) (fun s a=>ow kT3 3 (.slice A11 (List.replicate (l.length:Int).toNat (0:Int)).length D11) s.1::YE E.1::L) () (aS R) (tE 2 [1,0]) ?_
 rintro ⟨e,a5,g⟩ _ σ1 ab b U
 dsimp only [Z04_L2] at b
 refine dO ?_
 split at b
 refine bV ?_
 obtain ⟨j,b⟩:=gd b
 refine aP ?_
 refine bA 0 aB (show 0<(List.replicate (l.length:Int).toNat (0:Int)).length by have:=j; omega) (fun a6 o80 O=>?_)
 subst O
 refine bH ?_
 refine dX (K:=kT3) (x':=(aH ((ix e g)+1))) 0 g R R cE R R j.1 j.2 ?_ ?_
 exact fun I h s=>(gO).put I h () (aH ((ix e g)+1)) s
 refine aP ?_
 obtain ⟨Y,b⟩:=gd b
 refine bH ?_
 refine bA 6 aA (show 0<M.length by have:=Y; omega) (fun ac o83 O=>?_)
 subst O
 refine dA ?_
 obtain ⟨Z,b⟩:=gd b
 refine aZ 5 aA (show 0<l.length by have:=Z; omega) (fun ae o86 O=>?_)
 subst O
 refine dF 9 [] bO fun ht hn=>?_
 refine vl 0 [] ?_
 refine dD (aI ?_)
 split at b
 refine aP ?_
 refine rB R (dZ ?_)
 cases b
 obtain rfl:=U _ R
 have b:=a1
 refine aU ?_
 exact qI (((e.set g.toNat (aH ((ix e g)+1))),(aH (a5+(ix M g))),g),()) b tI
 refine bH ?_
 refine dF 12 [] bO fun ht hn=>?_
 refine uc 0 [] ?_
 refine dD ?_
 refine b' ?_
 refine dX (K:=kT3) (x':=(0:Int)) 0 g R R cE R R j.1 j.2 ?_ ?_
 exact fun I h s=>(gO).put I h () (0:Int) s
 refine bT ?_
 obtain ⟨a9,B,b⟩:=bd b
 replace B:=Option.some.inj B
 refine qM (ow kT3 3 (.slice (ad a6 o80) (List.replicate (l.length:Int).toNat (0:Int)).length D11) a9::_::L) (fun w s=>by rw [← B]; exact s) ?_
 refine dO ?_
 cases b
 exact qA () tI
 refine aP ?_
 cases b
 obtain rfl:=U _ R
 have b:=a1
 refine aU ?_
 exact qI ((e,a5,g),()) b tI
 rintro ⟨⟨a3,ai,ag⟩,_⟩ σ1 b
 dsimp only [Z04_J2] at b
 refine bV ?_
 split at b
 refine aP ?_
 cases b
 obtain rfl:=T _ R
 have b:=a0
 refine aU ?_
 cases b
 exact Au () (fun w s=>(s.f 7 [1,4]))
 refine aP ?_
 cases b
 exact qA () tI
theorem Z2d_ok  {v1:View}{r:(List Int)×(List pair)×Bool}(i:Z2d v1=some r) :
 FnOk Tryz.prog 274 [(.agg [(.slice A2 N2 D2),(.slice A3 N3 D3),(iv v1.Offset),(iv v1.Base)].toArray)] [aO kT3 (.slice A2 N2 D2) v1.Dims,aO kT3 (.slice A3 N3 D3) v1.Strides] (fun (h:HH×HH)=>((.tuple [(s3 h.1),(s3 h.2),(.bool r.2.2)].toArray),[aO kT3 (s3 h.1) r.1,ow kT197 197 (s3 h.2) r.2.1])):=by
 unfold Z2d at i
 refine wu Tryz.func274 R 29 R R fun C V=>?_
 refine cL 0 aA ?_
 rintro rfl
 refine cL 1 aA ?_
 rintro rfl
 refine aU ?_
 refine eE R fun b4=>?_
 refine dO ?_
 obtain ⟨r5,a5,i⟩:=bd i
 refine aU ?_
 refine lM _ (fun w s=>(((s.d 1 R).d 3 R).e 5 [1,0,2,3,4])) ?_
 refine lC 2 pg R (Zi_ok a5) R ?_
 rintro _
 refine aP ?_
 split at i
 refine cU ?_
 cases i
 exact iu ((none,0,0),(none,0,0)) (fun w s=>(((s.nilr kT3).nilo kT197 197).e 5 [1,0]))
 refine b' ?_
 refine bL (K:=kT197) (xs:=([]:List pair)) (vs:=[]) 0 R R fC fD eL R R R R R R ?_ R (fun A8 D8=>?_)
 exact fun I h s=>(ja).list [] I h s
 refine bD R R zE (fun Z=>(cP 0 R R su R R R R R (lN (aJ Z [(sc A8 ([]:List pair) D8)] 119::_::_::_::_::V) ?_)))
 refine aU ?_
 refine ww ?_
 obtain ⟨g,a2,i⟩:=bd i
 refine dO ?_
 refine lM _ (fun w s=>(((s.d 3 R).d 5 R).f 7 [1,1,0,1,2,5])) ?_
 refine lC 2 zF R (Z30_ok a2) R ?_
 rintro ⟨⟨m,a8,B⟩,T,U,⟨u,a9,D⟩,Y⟩
 refine aL 0 aA ?_
 rintro rfl
 refine aL 3 aA ?_
 rintro rfl
 refine bT ?_
 obtain ⟨F,a3,i⟩:=bd i
 let Ef:Nat→Loop→((List pair))→HP:=fun l G s=>pe fun a:HH=>tR l G::[aJ b4 [(sc A2 v1.Dims D2),(sc A3 v1.Strides D3),(iv v1.Offset),(iv v1.Base)] 47,RR kT3 A2 D2 v1.Dims,RR kT3 A3 D3 v1.Strides,aJ Z [(s3 a)] 119,ow kT197 197 (s3 a) s]
 refine u9 (Wc:=[RR kT3 m B g.1,aJ T [(sc m g.1 B)] 36,aJ U [(iv g.2.1)] 3,RR kT3 u D g.2.2,aJ Y [(sc u g.2.2 D)] 36,aJ Z [(sc A8 ([]:List pair) D8)] 119,OO kT197 197 A8 D8 ([]:List pair),aJ b4 [(sc A2 v1.Dims D2),(sc A3 v1.Strides D3),(iv v1.Offset),(iv v1.Base)] 47,RR kT3 A2 D2 v1.Dims,RR kT3 A3 D3 v1.Strides]) (E:=fun l G=>Ef l G ([]:List pair)) (E':=fun l G=>Ef l G F) (Pre':=[RR kT3 m B g.1,aJ T [(sc m g.1 B)] 36,aJ U [(iv g.2.1)] 3,RR kT3 u D g.2.2,aJ Y [(sc u g.2.2 D)] 36]) (W3:=[]) (cp:=fun (_:Unit)=>[aJ T [(sc m g.1 B)] 36,aJ U [(iv g.2.1)] 3,aJ Y [(sc u g.2.2 D)] 36]) (Wd:=fun a:HH=>[aJ b4 [(sc A2 v1.Dims D2),(sc A3 v1.Strides D3),(iv v1.Offset),(iv v1.Base)] 47,RR kT3 A2 D2 v1.Dims,RR kT3 A3 D3 v1.Strides,aJ Z [(s3 a)] 119,ow kT197 197 (s3 a) F]) R R zH (fun V w l G s=>St.pei (A8,([]:List pair).length,D8) ((s.f 11 [0,1,8,3,6,2,1,5]))) ?_ (fun V w l G x s=>let ⟨a,s⟩:=s.peo; ⟨a,s.e 9 [0,1,2,3,4,5]⟩) R ?_
 intro l G a1
 refine Z04_ok (YE:=Ef l G) (yl:=l) ?_ a3
 rintro b j q i
 dsimp only [Z3o] at i
 refine yok (fun a:HH=>[aJ b4 [(sc A2 v1.Dims D2),(sc A3 v1.Strides D3),(iv v1.Offset),(iv v1.Base)] 47,RR kT3 A2 D2 v1.Dims,RR kT3 A3 D3 v1.Strides,aJ Z [(s3 a)] 119,ow kT197 197 (s3 a) b]) (fun a:HH=>[aJ b4 [(sc A2 v1.Dims D2),(sc A3 v1.Strides D3),(iv v1.Offset),(iv v1.Base)] 47,RR kT3 A2 D2 v1.Dims,RR kT3 A3 D3 v1.Strides,aJ Z [(s3 a)] 119,ow kT197 197 (s3 a) q.1]) a1 R R R ?_
 rintro ⟨J,a4,M⟩
 apply Exists.intro
 intro C V
 refine ⟨?_,?_⟩
 refine bT ?_
 exact aC yg
 refine aL 4 aB ?_
 rintro rfl
 obtain ⟨a0,i⟩:=gd i
 refine bH ?_
 refine lO (vz (.agg [(iv j),(il b)].toArray) (aV mB eL R R)) (bL (K:=kT197) (xs:=([(⟨j,(b.length:Int)⟩:pair)]:List pair)) (vs:=[(.agg [(iv j),(il b)].toArray)]) 0 R R fC fD eL R R R R R R ?_ R (fun a6 a7=>?_))
 exact fun I h s=>(ja).list [(((),()),(⟨j,(b.length:Int)⟩:pair))] I h s
 refine lM _ (fun w s=>(s.f 6 [5,1,0,5])) ?_
 refine eC (K:=kT197) 8796093022208 R R fC fD lF (Zr.zk zT197 eL) R R R R R R dM a0 (fun L O=>(lN (OO kT197 197 L O (b++([(⟨j,(b.length:Int)⟩:pair)]:List pair))::_::_::_::_::V) ?_))
 refine cP 4 R R su R R R R R (lN (_::_::_::_::aJ Z [(sc L (b++([(⟨j,(b.length:Int)⟩:pair)]:List pair)) O)] 119::V) ?_)
 refine bT ?_
 cases i
 exact AK (L,(b++([(⟨j,(b.length:Int)⟩:pair)]:List pair)).length,O) R (fun w s=>(s.f 5 [1,4,0,1]))
 rintro ⟨J,a4,M⟩ Dm V
 refine cL 4 aB ?_
 rintro rfl
 refine aM (dF 6 [] bO fun ht hn=>?_)
 refine rZ 0 [] ?_
 refine dD ?_
 refine aU ?_
 cases i
 exact wv (dJ (vs:=[(sc A2 v1.Dims D2),(sc J F M),(.bool true)]) (.inl R) ((A2,v1.Dims.length,D2),(J,F.length,M)) R ⟨R,R,R,trivial⟩ R (tE 5 [1,4]))
theorem Z2n_ok  {a:Node}{b:(List Int)}{r:(List Int)×(List pair)×Bool}(g:Z2n a b=some r) :
 FnOk Tryz.prog 242 [(.agg [(iv a.Op),(.slice A2 N2 D2),(.slice A3 N3 D3),(.slice A4 N4 D4),(aD a.Form),(.slice A5 N5 D5)].toArray),(.slice A7 N7 D7)] [aO kT3 (.slice A2 N2 D2) a.Args,aO kT3 (.slice A3 N3 D3) a.Dims,aO kT3 (.slice A4 N4 D4) a.Ints,aO kT3 (.slice A5 N5 D5) a.Data,aO kT3 (.slice A7 N7 D7) b] (fun (h:HH×HH)=>((.tuple [(s3 h.1),(s3 h.2),(.bool r.2.2)].toArray),[aO kT3 (s3 h.1) r.1,ow kT197 197 (s3 h.2) r.2.1])):=by
 unfold Z2n at g
 refine aR Tryz.func242 R 14 R R fun C V=>?_
 refine cL 0 aA ?_
 rintro rfl
 refine cL 1 aA ?_
 rintro rfl
 refine cL 2 aA ?_
 rintro rfl
 refine cL 3 aA ?_
 rintro rfl
 refine cL 4 aA ?_
 rintro rfl
 let D:=RR kT3 A2 D2 a.Args::RR kT3 A3 D3 a.Dims::RR kT3 A4 D4 a.Ints::RR kT3 A5 D5 a.Data::RR kT3 A7 D7 b::V
 refine cN D ?_
 refine aU ?_
 refine eE R fun I=>?_
 refine bH ?_
 let G:=aJ I [(iv a.Op),(sc A2 a.Args D2),(sc A3 a.Dims D3),(sc A4 a.Ints D4),(aD a.Form),(sc A5 a.Data D5)] 171::D
 refine qN G ?_
 refine aU ?_
 obtain ⟨J,i,g⟩:=bd g
 obtain ⟨l,j,g⟩:=bd g
 refine aP ?_
 refine lM _ (fun w s=>((((((s.d 1 R).d 3 R).d 5 R).d 7 R).d 9 R).e 5 [4,3,2,1,0])) ?_
 refine lC 5 zI R (Z1a_ok i) R ?_
 rintro ⟨⟨A11,N11,D11⟩,⟨A12,N12,D12⟩⟩
 refine aL 0 aA ?_
 rintro rfl
 refine aL 1 aA ?_
 rintro rfl
 refine lM _ (fun w s=>(((s.d 0 R).d 2 R).e 4 [1,0,2,3])) ?_
 refine lC 2 zJ R (Z2d_ok j) R ?_
 rintro ⟨⟨m,E,u⟩,⟨q,F,B⟩⟩
 refine aL 0 aA ?_
 rintro rfl
 refine aL 1 aB ?_
 rintro rfl
 refine cY ?_
 cases g
 exact iu ((m,l.1.length,u),(q,l.2.1.length,B)) (tE 10 [0,1])
theorem Z1q_ok  {k1:shiftKind}{b:Node}{a:(List (List Int))}{r:(List Int)×Bool}(i:Z1q k1 b a=some r) :
 FnOk Tryz.prog 321 [(.agg [(aD k1.use),(.func (.func 242) [].toArray [].toArray)].toArray),(.agg [(iv b.Op),(.slice A3 N3 D3),(.slice A4 N4 D4),(.slice A5 N5 D5),(aD b.Form),(.slice A6 N6 D6)].toArray),(.slice A8 N8 D8)] [aO kT3 (.slice A3 N3 D3) b.Args,aO kT3 (.slice A4 N4 D4) b.Dims,aO kT3 (.slice A5 N5 D5) b.Ints,aO kT3 (.slice A6 N6 D6) b.Data,aO bG (.slice A8 N8 D8) a] (fun (h:HH)=>((.tuple [(s3 h),(.bool r.2)].toArray),[aO kT3 (s3 h) r.1])):=by
 unfold Z1q at i
 refine aR Tryz.func321 R 27 R R fun C V=>?_
 refine cL 0 aA ?_
 rintro rfl
 refine cL 1 aA ?_
 rintro rfl
 refine cL 2 aA ?_
 rintro rfl
 refine cL 3 aA ?_
 rintro rfl
 refine cL 4 aA ?_
 rintro rfl
 let B:=RR kT3 A3 D3 b.Args::RR kT3 A4 D4 b.Dims::RR kT3 A5 D5 b.Ints::RR kT3 A6 D6 b.Data::RR bG A8 D8 a::V
 refine cN B ?_
 refine aU ?_
 refine eE R fun M=>?_
 refine eE R fun q=>?_
 refine aP ?_
 let L:=aJ q [(iv b.Op),(sc A3 b.Args D3),(sc A4 b.Dims D4),(sc A5 b.Ints D5),(aD b.Form),(sc A6 b.Data D6)] 171::aJ M [(aD k1.use),(.func (.func 242) [].toArray [].toArray)] 271::B
 refine qN L ?_
 refine cY ?_
 split at i
 refine cY ?_
 cases i
 exact jI (none,0,0) (fun w s=>((s.nilr kT3).e 8 [0]))
 refine bH ?_
 obtain ⟨g,i⟩:=gd i
 obtain ⟨u,j,i⟩:=bd i
 refine aZ 6 aA (show 0<a.length by have:=g; omega) (fun O o14 T=>?_)
 subst T
 refine dI (K:=bG) 6 (0:Int) dT36.dec R g.1 g.2 ?_
 rintro ⟨D,F⟩
 refine dF 14 [] bO fun Y U=>?_
 refine kq 0 [] ?_
 refine dR 5 R (eD (fo:=0) 0 cK R R R) (d1 6 R (lM _ (fun w s=>((((((s.d 4 R).d 6 R).d 8 R).d 10 R).d 5 R).e 7 [4,3,2,1,0,5,6])) ?_))
 refine cC (fs:=[]) (cs:=[]) 5 R R zK R R (Z2n_ok j) R ?_
 rintro ⟨⟨l,I,m⟩,⟨E,J,G⟩⟩
 refine aL 0 aA ?_
 rintro rfl
 refine aL 1 aB ?_
 rintro rfl
 refine aC (aG (sL [1,0]) (dR 7 R (vT R) (hS:=(sL [1,0])) ?_))
 refine rZ 8 [1,0] ?_
 refine dD ?_
 refine cU ?_
 cases i
 exact jI (l,u.1.length,m) (tE 11 [0])
theorem Z0z_ok  {l:Node}{j:(List Int)}{r:(List Int)×(List pair)×Bool}(i:Z0z l j=some r) :
 FnOk Tryz.prog 243 [(.agg [(iv l.Op),(.slice A2 N2 D2),(.slice A3 N3 D3),(.slice A4 N4 D4),(aD l.Form),(.slice A5 N5 D5)].toArray),(.slice A7 N7 D7)] [aO kT3 (.slice A2 N2 D2) l.Args,aO kT3 (.slice A3 N3 D3) l.Dims,aO kT3 (.slice A4 N4 D4) l.Ints,aO kT3 (.slice A5 N5 D5) l.Data,aO kT3 (.slice A7 N7 D7) j] (fun (h:HH×HH)=>((.tuple [(s3 h.1),(s3 h.2),(.bool r.2.2)].toArray),[aO kT3 (s3 h.1) r.1,ow kT197 197 (s3 h.2) r.2.1])):=by
 unfold Z0z at i
 refine aR Tryz.func243 R 37 R R fun C V=>?_
 refine cL 0 aA ?_
 rintro rfl
 refine cL 1 aA ?_
 rintro rfl
 refine cL 2 aA ?_
 rintro rfl
 refine cL 3 aA ?_
 rintro rfl
 refine cL 4 aA ?_
 rintro rfl
 let W0:=RR kT3 A2 D2 l.Args::RR kT3 A3 D3 l.Dims::RR kT3 A4 D4 l.Ints::RR kT3 A5 D5 l.Data::RR kT3 A7 D7 j::V
 refine cN W0 ?_
 refine aU ?_
 refine eE R fun M=>?_
 refine bH ?_
 let u:=aJ M [(iv l.Op),(sc A2 l.Args D2),(sc A3 l.Dims D3),(sc A4 l.Ints D4),(aD l.Form),(sc A5 l.Data D5)] 171::W0
 refine qN u ?_
 refine aP ?_
 obtain ⟨r9,F,i⟩:=bd i
 obtain ⟨a6,G,i⟩:=bd i
 obtain ⟨a7,J,i⟩:=bd i
 refine cQ [(1,(sc A7 j D7)),(2,(pt M 0)),(20,(.bool ((!r9)||(a6 != a7))))] (u) ?_ ?_
 refine aP ?_
 refine lM _ (fun w s=>(s.d 2 R)) ?_
 refine lC 1 lg R (Zd_ok F) R ?_
 rintro _
 refine lN u ?_
 refine aU ?_
 rcases bo (!r9) with m | m
 refine dA ?_
 exact qj tI
 refine aU ?_
 refine lM _ (fun w s=>(s.d 2 R)) ?_
 refine bX 1 R (cA m) kL R (Z9_ok (bN G (cT m))) R ?_
 rintro _
 refine lN u ?_
 refine bT ?_
 refine lM _ (fun w s=>(s.d 5 R)) ?_
 refine bX 1 R (cA m) kL R (Z9_ok (bN J (cT m))) R ?_
 rintro _
 refine lN u ?_
 refine aP ?_
 exact qj tI
 rintro σ1
 refine bT ?_
 split at i
 refine cU ?_
 cases i
 exact iu ((none,0,0),(none,0,0)) (fun w s=>(((s.nilr kT3).nilo kT197 197).e 8 [1,0]))
 refine b' ?_
 refine bL (K:=kT197) (xs:=([]:List pair)) (vs:=[]) 0 R R fC fD eL R R R R R R ?_ R (fun O Y=>?_)
 exact fun I h s=>(ja).list [] I h s
 refine bH ?_
 refine bC (A:=((List pair))×(HH)) (fun a=>Z0z_J1 l a.1=some r) (fun a=>[(2,(pt M 0)),(7,(s3 a.2))]) (fun a=>ow kT197 197 (s3 a.2) a.1::u) ?_ ?_
 refine bT ?_
 obtain ⟨a8,L,i⟩:=bd i
 refine aU ?_
 refine lM _ (fun w s=>(s.d 6 R)) ?_
 refine lC 1 kL R (Z9_ok L) R ?_
 rintro _
 refine bH ?_
 obtain ⟨e1,a5,a4⟩:=bd i
 refine bF (A:=HH) a5 (fun s a=>[(2,(pt M 0)),(7,(s3 a)),(23,(iv a8)),(24,(iv s.2))]) (fun s a=>ow kT197 197 (s3 a) s.1::u) (O,([]:List pair).length,Y) (aS R) tI ?_
 rintro ⟨b,g⟩ ⟨T,a1,Z⟩ σ1 a9 i a3
 dsimp only [Z0z_L1] at i
 refine bI 0 aB (fun (hn:a1=b.length)=>?_)
 subst hn
 refine bV ?_
 split at i
 refine iD ?_
 obtain ⟨E,i⟩:=gd i
 refine bH ?_
 refine lO (vz (.agg [(iv g),(iv g)].toArray) (aV mB eL R R)) (bL (K:=kT197) (xs:=([(⟨g,g⟩:pair)]:List pair)) (vs:=[(.agg [(iv g),(iv g)].toArray)]) 0 R R fC fD eL R R R R R R ?_ R (fun aa ab=>?_))
 exact fun I h s=>(ja).list [(((),()),(⟨g,g⟩:pair))] I h s
 refine lM _ (tE 2 [1,0]) ?_
 refine eC (K:=kT197) 8796093022208 R R fC fD lF (Zr.zk zT197 eL) R R R R R R dM E (fun B D=>(lN (OO kT197 197 B D (b++([(⟨g,g⟩:pair)]:List pair))::u) ?_))
 refine dA ?_
 cases i
 exact qA (B,(b++([(⟨g,g⟩:pair)]:List pair)).length,D) tI
 refine aP ?_
 cases i
 obtain rfl:=a3 _ R
 have i:=a4
 refine aU ?_
 exact qI (b,(T,b.length,Z)) i tI
 rintro ⟨q,⟨U,a2,a0⟩⟩ σ1 i
 dsimp only [Z0z_J1] at i
 refine bI 0 aB (fun (hn:a2=q.length)=>?_)
 subst hn
 refine iD ?_
 cases i
 exact iu ((A3,l.Dims.length,D3),(U,q.length,a0)) (tE 7 [3,0])
theorem Z22_ok  {k1:shiftKind}{b:Node}{a:(List (List Int))}{r:(List Int)×Bool}(i:Z22 k1 b a=some r) :
 FnOk Tryz.prog 321 [(.agg [(aD k1.use),(.func (.func 243) [].toArray [].toArray)].toArray),(.agg [(iv b.Op),(.slice A3 N3 D3),(.slice A4 N4 D4),(.slice A5 N5 D5),(aD b.Form),(.slice A6 N6 D6)].toArray),(.slice A8 N8 D8)] [aO kT3 (.slice A3 N3 D3) b.Args,aO kT3 (.slice A4 N4 D4) b.Dims,aO kT3 (.slice A5 N5 D5) b.Ints,aO kT3 (.slice A6 N6 D6) b.Data,aO bG (.slice A8 N8 D8) a] (fun (h:HH)=>((.tuple [(s3 h),(.bool r.2)].toArray),[aO kT3 (s3 h) r.1])):=by
 unfold Z22 at i
 refine aR Tryz.func321 R 27 R R fun C V=>?_
 refine cL 0 aA ?_
 rintro rfl
 refine cL 1 aA ?_
 rintro rfl
 refine cL 2 aA ?_
 rintro rfl
 refine cL 3 aA ?_
 rintro rfl
 refine cL 4 aA ?_
 rintro rfl
 let B:=RR kT3 A3 D3 b.Args::RR kT3 A4 D4 b.Dims::RR kT3 A5 D5 b.Ints::RR kT3 A6 D6 b.Data::RR bG A8 D8 a::V
 refine cN B ?_
 refine aU ?_
 refine eE R fun M=>?_
 refine eE R fun q=>?_
 refine aP ?_
 let L:=aJ q [(iv b.Op),(sc A3 b.Args D3),(sc A4 b.Dims D4),(sc A5 b.Ints D5),(aD b.Form),(sc A6 b.Data D6)] 171::aJ M [(aD k1.use),(.func (.func 243) [].toArray [].toArray)] 271::B
 refine qN L ?_
 refine cY ?_
 split at i
 refine cY ?_
 cases i
 exact jI (none,0,0) (fun w s=>((s.nilr kT3).e 8 [0]))
 refine bH ?_
 obtain ⟨g,i⟩:=gd i
 obtain ⟨u,j,i⟩:=bd i
 refine aZ 6 aA (show 0<a.length by have:=g; omega) (fun O o14 T=>?_)
 subst T
 refine dI (K:=bG) 6 (0:Int) dT36.dec R g.1 g.2 ?_
 rintro ⟨D,F⟩
 refine dF 14 [] bO fun Y U=>?_
 refine kq 0 [] ?_
 refine dR 5 R (eD (fo:=0) 0 cK R R R) (d1 6 R (lM _ (fun w s=>((((((s.d 4 R).d 6 R).d 8 R).d 10 R).d 5 R).e 7 [4,3,2,1,0,5,6])) ?_))
 refine cC (fs:=[]) (cs:=[]) 5 R R zL R R (Z0z_ok j) R ?_
 rintro ⟨⟨l,I,m⟩,⟨E,J,G⟩⟩
 refine aL 0 aA ?_
 rintro rfl
 refine aL 1 aB ?_
 rintro rfl
 refine aC (aG (sL [1,0]) (dR 7 R (vT R) (hS:=(sL [1,0])) ?_))
 refine rZ 8 [1,0] ?_
 refine dD ?_
 refine cU ?_
 cases i
 exact jI (l,u.1.length,m) (tE 11 [0])
theorem Z1j_ok  {b:(List Int)}{a:Int}{i:Int}{r:(List Int)}(g:Z1j b a i=some r) :
 FnOk Tryz.prog 165 [(.slice A2 N2 D2),(iv a),(iv i)] [aO kT3 (.slice A2 N2 D2) b] (fun (h:HH)=>((s3 h),[ow kT3 3 (s3 h) r])):=by
 unfold Z1j at g
 refine aR Tryz.func165 R 15 R R fun C V=>?_
 refine cL 0 aA ?_
 rintro rfl
 let m:=RR kT3 A2 D2 b::V
 refine cN m ?_
 refine bV ?_
 obtain ⟨l,j,g⟩:=bd g
 refine aU ?_
 refine lM _ (fun w s=>(s.d 0 R)) ?_
 refine lC 1 jw R (Zp_ok j) R ?_
 rintro ⟨A7,N7,D7⟩
 refine aL 0 aB ?_
 rintro rfl
 refine bH ?_
 obtain ⟨e,g⟩:=gd g
 refine bH ?_
 refine bA 0 aB (show 0<l.length by have:=e; omega) (fun q o10 u=>?_)
 subst u
 refine bT ?_
 refine dX (K:=kT3) (x':=i) 0 a R R cE R R e.1 e.2 ?_ ?_
 exact fun I h s=>(gO).put I h () i s
 refine cY ?_
 cases g
 exact qF ((ad q o10),l.length,D7) (tE 2 [0])
theorem Z20_ok  {b:(List Int)}{a:Int}{r:Int×Int×Int}(i:Z20 b a=some r) :
 FnOk Tryz.prog 169 [(.slice A2 N2 D2),(iv a)] [aO kT3 (.slice A2 N2 D2) b] (fun (h:Unit)=>((.tuple [(iv r.1),(iv r.2.1),(iv r.2.2)].toArray),[])):=by
 unfold Z20 at i
 refine aR Tryz.func169 R 20 R R fun C V=>?_
 refine cL 0 aA ?_
 rintro rfl
 let u:=RR kT3 A2 D2 b::V
 refine cN u ?_
 refine dA ?_
 obtain ⟨g,i⟩:=gd i
 obtain ⟨D,l,i⟩:=bd i
 obtain ⟨m,i⟩:=gd i
 obtain ⟨e,i⟩:=gd i
 obtain ⟨q,j,i⟩:=bd i
 refine cQ [(4,(iv D)),(5,(iv (ix b a))),(6,(iv q))] (u) ?_ ?_
 refine aZ 0 aA (show 0<b.length by have:=m; omega) (fun E o10 B=>?_)
 subst B
 refine dF 16 [] bO fun G F=>?_
 refine gW 0 [] ?_
 refine rq 4 [] ?_
 refine gT [2,11] (by kernel_rfl) R ⟨?_,?_,trivial⟩
 refine gC (K:=kT3) (0:Int) a 0 R R bM cE R R R R g.1 g.2.1 g.2.2 (fun A5 D5=>(aC (aG (sL [0]) (gT [3,11] (by kernel_rfl) R ⟨?_,?_,trivial⟩))))
 refine lM _ (fun w s=>(s.d 0 R)) ?_
 refine lC 1 kL R (Z9_ok l) R ?_
 rintro _
 refine aC (aG (sL [0]) (d1 11 R (gC (K:=kT3) (aH (a+1)) (b.length:Int) 1 R R bM cE R R R R e.1 e.2.1 e.2.2 (fun A12 D12=>(aC (aG (sL [1,0]) (d1 12 R (lM _ (fun w s=>(s.d 0 R)) ?_))))))))
 refine lC 1 kL R (Z9_ok j) R ?_
 rintro _
 refine aC (aG (sL [1,0]) ?_)
 refine iw 13 [1,0] ?_
 refine dD ?_
 exact qj (tE 2 [])
 refine gC (K:=kT3) (aH (a+1)) (b.length:Int) 1 R R bM cE R R R R e.1 e.2.1 e.2.2 (fun A12 D12=>(aC (aG (sL [1,0]) (d1 3 R (lM _ (fun w s=>(s.d 1 R)) ?_)))))
 refine lC 1 kL R (Z9_ok l) R ?_
 rintro _
 refine aC (aG (sL [1,0]) (d1 12 R (lM _ (fun w s=>(s.d 0 R)) ?_)))
 refine lC 1 kL R (Z9_ok j) R ?_
 rintro _
 refine aC (aG (sL [1,0]) ?_)
 refine iw 13 [1,0] ?_
 refine dD ?_
 exact qj (tE 2 [])
 refine gC (K:=kT3) (aH (a+1)) (b.length:Int) 0 R R bM cE R R R R e.1 e.2.1 e.2.2 (fun A12 D12=>(aC (aG (sL [0]) (d1 2 R (gC (K:=kT3) (0:Int) a 1 R R bM cE R R R R g.1 g.2.1 g.2.2 (fun A5 D5=>(aC (aG (sL [1,0]) (d1 3 R (lM _ (fun w s=>(s.d 0 R)) ?_))))))))))
 refine lC 1 kL R (Z9_ok l) R ?_
 rintro _
 refine aC (aG (sL [1,0]) (d1 12 R (lM _ (fun w s=>(s.d 1 R)) ?_)))
 refine lC 1 kL R (Z9_ok j) R ?_
 rintro _
 refine aC (aG (sL [1,0]) ?_)
 refine iw 13 [1,0] ?_
 refine dD ?_
 exact qj (tE 2 [])
 rintro σ1
 refine aU ?_
 cases i
 exact iu () (tE 1 [])
theorem Z8_ok  {B:(List Int)}{T:Int}{F:Int}{b:(List pair)}{r:(List pair)}(g:Z8 B T F b=some r) :
 FnOk Tryz.prog 166 [(.slice A2 N2 D2),(iv T),(iv F),(.slice A6 N6 D6)] [aO kT3 (.slice A2 N2 D2) B,aO kT197 (.slice A6 N6 D6) b] (fun (h:HH)=>((.slice h.1 h.2.1 h.2.2),[ow kT197 197 (.slice h.1 h.2.1 h.2.2) r])):=by
 unfold Z8 at g
 refine aR Tryz.func166 R 73 R R fun C V=>?_
 refine cN (_::_::V) ?_
 refine cL 0 aA ?_
 rintro rfl
 refine cL 1 aA ?_
 rintro rfl
 let M:List HP:=RR kT3 A2 D2 B::RR kT197 A6 D6 b::V
 refine cN M ?_
 refine aM (aE (lS R (aC (aI (aM ?_)))))
 obtain ⟨q,bk,g⟩:=bd g
 refine aE (lS R (lI R (lM (RR kT3 A2 D2 B::M) (fun w s=>(s.d 0 R)) ?_)))
 refine lC 1 vN R (Z20_ok bk) R ?_
 rintro _
 refine lN M ?_
 refine lO (vT R) (lI R (lI R (lI R (lI R (lI R (lI R (aC (aI (aM ?_)))))))))
 obtain ⟨ae,g⟩:=gd g
 refine aE (lI R (lI R (lO (rp R R) (lS R (lO (jC fC R) (lO (rp R R) (u5 (K:=kT197) (m:=(aH ((aH (q.1*q.2.2))*(b.length:Int)))) (z:=zT197.z) R R fC fD lF (Zr.zk zT197 eL) (by decide) R R ae.1 ae.2.1 ae.2.2 (fun A10 D10=>(lS R (aC (aI (aM (bC (A:=((List pair))×(HH)) (fun a=>Z8_J7 a.1=some r) (fun a=>[(12,(.slice a.2.1 a.2.2.1 a.2.2.2))]) (fun a=>ow kT197 197 (.slice a.2.1 a.2.2.1 a.2.2.2) a.1::M) ?_ ?_)))))))))))))
 refine aM (aE (lI R (aC (aI (dB ?_)))))
 obtain ⟨e1,bh,be⟩:=bd g
 refine bF (A:=HH×HH) bh (fun s a=>[(2,(iv F)),(3,(.slice a.1.1 a.1.2.1 a.1.2.2)),(9,(iv q.1)),(10,(iv q.2.1)),(11,(iv q.2.2)),(12,(.slice a.2.1 a.2.2.1 a.2.2.2)),(13,(iv s.2))]) (fun s a=>aO kT197 (.slice a.1.1 a.1.2.1 a.1.2.2) b::ow kT197 197 (.slice a.2.1 a.2.2.1 a.2.2.2) s.1::M) ((A6,b.length,D6),(A10,([]:List pair).length,D10)) (aS R) (fun w s=>(s.d 2 R)) ?_
 rintro ⟨a5,j⟩ ⟨⟨b3,b6,b5⟩,⟨am,b7,av⟩⟩ σ1 a0 g ba
 replace g:Z8_L1 F b q a5 j=some a0:=g
 unfold Z8_L1 at g
 refine bI 0 aA (fun (D:b6=b.length)=>?_)
 subst D
 refine bI 1 aB (fun (D:b7=a5.length)=>?_)
 subst D
 refine aM (aM (aE (lI R (lI R (lO (mT R R) (aC (aI ?_)))))))
 rcases cF g with ⟨Y,g⟩|⟨Y,g⟩
 refine bZ R Y (cW (aI (aM (bC (A:=((List pair))×(HH×HH)) (fun a=>Z8_J6 j a.1=some a0) (fun a=>[(2,(iv F)),(3,(.slice a.2.1.1 a.2.1.2.1 a.2.1.2.2)),(9,(iv q.1)),(10,(iv q.2.1)),(11,(iv q.2.2)),(12,(.slice a.2.2.1 a.2.2.2.1 a.2.2.2.2)),(13,(iv j))]) (fun a=>aO kT197 (.slice a.2.1.1 a.2.1.2.1 a.2.1.2.2) b::ow kT197 197 (.slice a.2.2.1 a.2.2.2.1 a.2.2.2.2) a.1::M) ?_ ?_))))
 refine dB (aM (aE (lS R (lO (jC fC R) (lI R (aC (aI (dB ?_))))))))
 obtain ⟨e2,bi,bf⟩:=bd g
 refine bF (A:=HH×HH) bi (fun s a=>[(2,(iv F)),(3,(.slice a.1.1 a.1.2.1 a.1.2.2)),(9,(iv q.1)),(10,(iv q.2.1)),(11,(iv q.2.2)),(12,(.slice a.2.1 a.2.2.1 a.2.2.2)),(13,(iv j)),(36,(.slice a.1.1 a.1.2.1 a.1.2.2)),(37,(il b)),(38,(iv s.2))]) (fun s a=>aO kT197 (.slice a.1.1 a.1.2.1 a.1.2.2) b::ow kT197 197 (.slice a.2.1 a.2.2.1 a.2.2.2) s.1::M) ((b3,b.length,b5),(am,a5.length,av)) (aS R) (fun w s=>s) ?_
 rintro ⟨O,i⟩ ⟨⟨b4,b8,L⟩,⟨aa,b9,ab⟩⟩ σ1 a1 g bb
 replace g:Z8_L2 F b q j O i=some a1:=g
 unfold Z8_L2 at g
 refine bI 0 aA (fun (D:b8=b.length)=>?_)
 subst D
 refine bI 1 aB (fun (D:b9=O.length)=>?_)
 subst D
 refine aM (aE (lO (mT R R) (aC (aI (aM ?_)))))
 rcases cF g with ⟨Z,g⟩|⟨Z,g⟩
 refine bZ R Z (cW (aI (aM (bC (A:=((List pair))×(HH×HH)) (fun a=>Z8_J5 i a.1=some a1) (fun a=>[(2,(iv F)),(3,(.slice a.2.1.1 a.2.1.2.1 a.2.1.2.2)),(9,(iv q.1)),(10,(iv q.2.1)),(11,(iv q.2.2)),(12,(.slice a.2.2.1 a.2.2.2.1 a.2.2.2.2)),(13,(iv j)),(36,(.slice a.2.1.1 a.2.1.2.1 a.2.1.2.2)),(37,(il b)),(38,(iv i))]) (fun a=>aO kT197 (.slice a.2.1.1 a.2.1.2.1 a.2.1.2.2) b::ow kT197 197 (.slice a.2.2.1 a.2.2.2.1 a.2.2.2.2) a.1::M) ?_ ?_))))
 refine dB (aM ?_)
 obtain ⟨J,g⟩:=gd g
 refine aE (bA 0 aA (show 0<b.length by have:=J; omega) (fun E o101 ha=>?_))
 subst ha
 refine lO (eJ fC fD R R J) (rN (.agg [(iv (ix b i).from_),(iv (ix b i).to)].toArray) ?_ R R ?_)
 exact (wd (K:=kT197) (cells:=fun x=>[(iv x.from_),(iv x.to)]) 0 i vO fD (DecK.flat yq fun _ _=>R) aA R J.1 J.2)
 refine bD R R eL (fun U=>(aK 0 R R fD R R R R R R (lN (aJ U [(iv (ix b i).from_),(iv (ix b i).to)] 197::RR kT197 (ad E o101) L b::OO kT197 197 aa ab O::M) ?_)))
 refine aC (aI (aM (aE (lI R (aC (aI (dB ?_)))))))
 obtain ⟨e3,bj,bg⟩:=bd g
 refine bF (A:=HH) bj (fun s a=>[(2,(iv F)),(3,(sc (ad E o101) b L)),(9,(iv q.1)),(10,(iv q.2.1)),(11,(iv q.2.2)),(12,(.slice a.1 a.2.1 a.2.2)),(13,(iv j)),(15,(pt U 0)),(16,(iv s.2)),(36,(sc (ad E o101) b L)),(37,(il b)),(38,(iv i))]) (fun s a=>RR kT197 (ad E o101) L b::ow kT197 197 (.slice a.1 a.2.1 a.2.2) s.1::aJ U [(iv (ix b i).from_),(iv (ix b i).to)] 197::M) (aa,O.length,ab) (aS R) (fun w s=>(s.e 3 [1,2,0])) ?_
 rintro ⟨u,l⟩ ⟨a6,aw,a8⟩ σ1 b2 g bc
 replace g:Z8_L3 F b q j i u l=some b2:=g
 unfold Z8_L3 at g
 refine bI 1 aB (fun (D:aw=u.length)=>?_)
 subst D
 refine aM (aM (aE (lI R (lI R (lO (mT R R) (aC (aI ?_)))))))
 rcases cF g with ⟨G,g⟩|⟨G,g⟩
 refine bZ R G (cW (aI (aM (dB ?_))))
 obtain ⟨ac,g⟩:=gd g
 refine aE (lS R (lI R (lI R (lO (rp R R) (lO (fT 0 q8 R) (lO (gD 2 fO R R R) (lO (l6 R R) (lI R (lO (rp R R) (lI R (lO (l6 R R) (lI R (lI R (lO (rp R R) (lO (fT 1 qa R) (lO (gD 2 fO R R R) (lO (l6 R R) (lI R (lO (rp R R) (lI R (lO (l6 R R) (lO (vz (.agg [(iv (aH ((aH ((aH ((aH (j*q.2.1))+(ix b i).from_))*q.2.2))+l))),(iv (aH ((aH ((aH ((aH (j*F))+(ix b i).to))*q.2.2))+l)))].toArray) (aV mB eL R R)) (bL (K:=kT197) (xs:=([(⟨(aH ((aH ((aH ((aH (j*q.2.1))+(ix b i).from_))*q.2.2))+l)),(aH ((aH ((aH ((aH (j*F))+(ix b i).to))*q.2.2))+l))⟩:pair)]:List pair)) (vs:=[(.agg [(iv (aH ((aH ((aH ((aH (j*q.2.1))+(ix b i).from_))*q.2.2))+l))),(iv (aH ((aH ((aH ((aH (j*F))+(ix b i).to))*q.2.2))+l)))].toArray)]) 0 R R fC fD eL R R R R R R ?_ R (fun ag an=>?_))))))))))))))))))))))))
 exact fun I h s=>(ja).list [(((),()),(⟨(aH ((aH ((aH ((aH (j*q.2.1))+(ix b i).from_))*q.2.2))+l)),(aH ((aH ((aH ((aH (j*F))+(ix b i).to))*q.2.2))+l))⟩:pair))] I h s
 refine lN (OO kT197 197 ag an ([(⟨(aH ((aH ((aH ((aH (j*q.2.1))+(ix b i).from_))*q.2.2))+l)),(aH ((aH ((aH ((aH (j*F))+(ix b i).to))*q.2.2))+l))⟩:pair)]:List pair)::_::OO kT197 197 a6 a8 u::_::M) ?_
 refine lM (ow _ _ _ _::ow _ _ _ _::aO _ _ _::aJ _ _ _::M) (fun w s=>(s.e 4 [2,0,1,3])) ?_
 refine eC (K:=kT197) 8796093022208 R R fC fD lF (Zr.zk zT197 eL) R R R R R R dM ac (fun a7 a9=>(lN (OO kT197 197 a7 a9 (u++([(⟨(aH ((aH ((aH ((aH (j*q.2.1))+(ix b i).from_))*q.2.2))+l)),(aH ((aH ((aH ((aH (j*F))+(ix b i).to))*q.2.2))+l))⟩:pair)]:List pair))::_::_::M) ?_))
 refine lS R (aC (dT (aI (aE (lI R (lO (l6 R R) (lI R (aC ?_))))))))
 obtain rfl:=so g
 exact qA (a7,(u++([(⟨(aH ((aH ((aH ((aH (j*q.2.1))+(ix b i).from_))*q.2.2))+l)),(aH ((aH ((aH ((aH (j*F))+(ix b i).to))*q.2.2))+l))⟩:pair)]:List pair)).length,a9) (fun w s=>(s.e 3 [1,0,2]))
 refine bJ R G (gV (dZ ?_))
 obtain rfl:=so g
 obtain rfl:=bc _ R
 have g:=bg
 refine dZ (fL (dT ?_))
 exact qI (u,(((ad E o101),b.length,L),(a6,u.length,a8))) g (fun w s=>(s.e 3 [0,1]))
 rintro ⟨a2,⟨⟨ah,ax,ao⟩,⟨ai,ay,ap⟩⟩⟩ σ1 g
 replace g:Z8_J5 i a2=some a1:=g
 unfold Z8_J5 at g
 refine bI 0 aA (fun (D:ax=b.length)=>?_)
 subst D
 refine bI 1 aB (fun (D:ay=a2.length)=>?_)
 subst D
 refine aE (lO (l6 R R) (lI R (aC ?_)))
 obtain rfl:=so g
 exact qA ((ah,b.length,ao),(ai,a2.length,ap)) (fun w s=>s)
 refine bJ R Z (gV (dZ ?_))
 obtain rfl:=so g
 obtain rfl:=bb _ R
 have g:=bf
 refine dZ (fL (dT ?_))
 exact qI (O,((b4,b.length,L),(aa,O.length,ab))) g (fun w s=>s)
 rintro ⟨a3,⟨⟨aj,az,aq⟩,⟨ak,b0,ar⟩⟩⟩ σ1 g
 replace g:Z8_J6 j a3=some a0:=g
 unfold Z8_J6 at g
 refine bI 0 aA (fun (D:az=b.length)=>?_)
 subst D
 refine bI 1 aB (fun (D:b0=a3.length)=>?_)
 subst D
 refine aE (lI R (lO (l6 R R) (lI R (aC ?_))))
 obtain rfl:=so g
 exact qA ((aj,b.length,aq),(ak,a3.length,ar)) (fun w s=>s)
 refine bJ R Y (gV (dZ ?_))
 obtain rfl:=so g
 obtain rfl:=ba _ R
 have g:=be
 refine dZ (fL ?_)
 exact qI (a5,(am,a5.length,av)) g (fun w s=>(s.e 2 [1]))
 rintro ⟨a4,⟨al,b1,au⟩⟩ σ1 g
 replace g:Z8_J7 a4=some r:=g
 unfold Z8_J7 at g
 refine bI 0 aB (fun (D:b1=a4.length)=>?_)
 subst D
 refine aM (aE (lS R (lS R (aC (aI (bW ?_))))))
 obtain rfl:=so g
 exact qF (al,a4.length,au) (fun w s=>(s.e 3 [0]))
theorem Zz_ok  {j:(List Int)}{l:Int}{b:Int}{g:Int}{i:Int}{r:(List Int)×(List pair)×Bool}(m:Zz j l b g i=some r) :
 FnOk Tryz.prog 88 [(.slice A2 N2 D2),(iv l),(iv b),(iv g),(iv i)] [aO kT3 (.slice A2 N2 D2) j] (fun (h:HH×HH)=>((.tuple [(s3 h.1),(s3 h.2),(.bool r.2.2)].toArray),[ow kT3 3 (s3 h.1) r.1,ow kT197 197 (s3 h.2) r.2.1])):=by
 unfold Zz at m
 refine aR Tryz.func88 R 84 R R fun C V=>?_
 refine cL 0 aA ?_
 rintro rfl
 let M:=RR kT3 A2 D2 j::V
 refine cN M ?_
 refine cY ?_
 obtain ⟨r7,ap,m⟩:=bd m
 refine aP ?_
 refine lM _ (fun w s=>(s.d 0 R)) ?_
 refine lC 1 jL R (Zm_ok ap) R ?_
 rintro _
 refine lN M ?_
 refine aP ?_
 split at m
 refine cU ?_
 cases m
 exact iu ((none,0,0),(none,0,0)) (fun w s=>(((s.nilo kT3 3).nilo kT197 197).e 3 [1,0]))
 refine bH ?_
 refine bC (A:=(Unit)×(Unit)) (fun a=>Zz_J1 j l b g i=some r) (fun a=>[(0,(sc A2 j D2)),(1,(iv l)),(2,(iv b)),(3,(iv g)),(4,(iv i))]) (fun a=>M) ?_ ?_
 refine b' ?_
 refine bL (K:=kT3) (xs:=([b,g,i]:List Int)) (vs:=[(iv b),(iv g),(iv i)]) 0 R R bM cE gR R R R R R R ?_ R (fun A10 D10=>?_)
 exact fun I h s=>(gO).list [((),b),((),g),((),i)] I h s
 refine b' ?_
 obtain ⟨e1,an,a6⟩:=bd m
 refine bF (A:=HH) an (fun s a=>[(0,(sc A2 j D2)),(1,(iv l)),(2,(iv b)),(3,(iv g)),(4,(iv i)),(27,(s3 a)),(28,(il ([b,g,i]:List Int))),(29,(iv s))]) (fun s a=>ow kT3 3 (s3 a) ([b,g,i]:List Int)::M) (A10,([b,g,i]:List Int).length,D10) (aS R) tI ?_
 rintro L ⟨av,ai,T⟩ σ1 ar m a2
 dsimp only [Zz_L1] at m
 refine bI 0 aB (fun (hn:ai=([b,g,i]:List Int).length)=>?_)
 subst hn
 refine bV ?_
 split at m
 refine bV ?_
 obtain ⟨a3,m⟩:=gd m
 refine aE (bA 0 aB (show 0<([b,g,i]:List Int).length by have:=a3; omega) (fun Y o22 ha=>?_))
 subst ha
 refine bV ?_
 refine cQ [(0,(sc A2 j D2)),(1,(iv l)),(2,(iv b)),(3,(iv g)),(4,(iv i)),(27,(sc (ad Y o22) ([b,g,i]:List Int) T)),(28,(il ([b,g,i]:List Int))),(29,(iv L)),(38,(.bool ((decide ((ix ([b,g,i]:List Int) L)<0))||(decide ((ix ([b,g,i]:List Int) L)>4096)))))] (OO kT3 3 (ad Y o22) T ([b,g,i]:List Int)::M) ?_ ?_
 refine bH ?_
 rcases bo (decide ((ix ([b,g,i]:List Int) L)<0)) with a1 | a1
 refine bH ?_
 exact qj tI
 refine bH ?_
 exact qj tI
 rintro σ1
 refine bT ?_
 split at m
 refine iD ?_
 cases m
 obtain rfl:=a2 _ R
 have m:=a6
 refine aP ?_
 cases m
 exact iu ((none,0,0),(none,0,0)) (fun w s=>(((s.nilo kT3 3).nilo kT197 197).e 4 [1,0]))
 refine dA ?_
 cases m
 exact qA ((ad Y o22),([b,g,i]:List Int).length,T) tI
 refine aP ?_
 cases m
 obtain rfl:=a2 _ R
 have m:=a6
 refine aU ?_
 exact qI ((),()) m (tE 1 [])
 rintro ⟨_,_⟩ σ1 m
 dsimp only [Zz_J1] at m
 refine bT ?_
 obtain ⟨a4,m⟩:=gd m
 refine aP ?_
 refine bA 0 aA (show 0<j.length by have:=a4; omega) (fun J o29 ha=>?_)
 subst ha
 refine ua ?_
 obtain ⟨E,a7,m⟩:=bd m
 refine bH ?_
 refine lM _ (fun w s=>(s.d 0 R)) ?_
 refine lC 1 pZ R (Z1j_ok a7) R ?_
 rintro ⟨F,ay,G⟩
 refine aL 0 aB ?_
 rintro rfl
 refine b' ?_
 obtain ⟨b0,a8,m⟩:=bd m
 refine aU ?_
 refine lC 1 lg R (FnOk.lends (A':=[OO kT3 3 F G E]) (A:=[RR kT3 F G E]) (B:=[]) (Zd_ok a8) ⟨aY,trivial⟩ (fun _=>trivial)) R ?_
 rintro _
 refine aP ?_
 split at m
 refine cU ?_
 cases m
 exact iu ((none,0,0),(none,0,0)) (fun w s=>(((s.nilo kT3 3).nilo kT197 197).e 4 [1,0]))
 refine b' ?_
 refine bL (K:=kT197) (xs:=([]:List pair)) (vs:=[]) 0 R R fC fD eL R R R R R R ?_ R (fun aa ae=>?_)
 exact fun I h s=>(ja).list [] I h s
 refine bH ?_
 refine bC (A:=((List pair))×(HH)) (fun a=>Zz_J2 j l b g i E a.1=some r) (fun a=>[(0,(sc (ad J o29) j D2)),(1,(iv l)),(16,(iv (aH ((aH ((aH (b+(ix j l)))+(aH ((aH ((ix j l) - 1))*i))))+g)))),(17,(sc F E G)),(18,(s3 a.2))]) (fun a=>OO kT3 3 F G E::ow kT197 197 (s3 a.2) a.1::M) ?_ ?_
 refine bV ?_
 obtain ⟨e2,ao,am⟩:=bd m
 refine bF (A:=HH) ao (fun s a=>[(0,(sc (ad J o29) j D2)),(1,(iv l)),(2,(iv b)),(4,(iv i)),(15,(iv (ix j l))),(16,(iv (aH ((aH ((aH (b+(ix j l)))+(aH ((aH ((ix j l) - 1))*i))))+g)))),(17,(sc F E G)),(18,(s3 a)),(19,(iv s.2))]) (fun s a=>OO kT3 3 F G E::ow kT197 197 (s3 a) s.1::M) (aa,([]:List pair).length,ae) (aS R) (tE 2 [1,0]) ?_
 rintro ⟨q,u⟩ ⟨ab,aj,ag⟩ σ1 au m al
 dsimp only [Zz_L2] at m
 refine bI 1 aB (fun (hn:aj=q.length)=>?_)
 subst hn
 refine dA ?_
 split at m
 refine b' ?_
 obtain ⟨a5,m⟩:=gd m
 refine cY ?_
 refine lO (vz (.agg [(iv u),(iv (aH (b+(aH (u*(aH (i+1)))))))].toArray) (aV mB eL R R)) (bL (K:=kT197) (xs:=([(⟨u,(aH (b+(aH (u*(aH (i+1))))))⟩:pair)]:List pair)) (vs:=[(.agg [(iv u),(iv (aH (b+(aH (u*(aH (i+1)))))))].toArray)]) 0 R R fC fD eL R R R R R R ?_ R (fun aw ax=>?_))
 exact fun I h s=>(ja).list [(((),()),(⟨u,(aH (b+(aH (u*(aH (i+1))))))⟩:pair))] I h s
 refine lM _ (tE 3 [2,0,1]) ?_
 refine eC (K:=kT197) 8796093022208 R R fC fD lF (Zr.zk zT197 eL) R R R R R R dM a5 (fun Z a0=>(lN (OO kT197 197 Z a0 (q++([(⟨u,(aH (b+(aH (u*(aH (i+1))))))⟩:pair)]:List pair))::_::M) ?_))
 refine cY ?_
 cases m
 exact qA (Z,(q++([(⟨u,(aH (b+(aH (u*(aH (i+1))))))⟩:pair)]:List pair)).length,a0) (tE 2 [1,0])
 refine aP ?_
 cases m
 obtain rfl:=al _ R
 have m:=am
 refine aU ?_
 exact qI (q,(ab,q.length,ag)) m tI
 rintro ⟨D,⟨O,ak,U⟩⟩ σ1 m
 dsimp only [Zz_J2] at m
 refine bI 1 aB (fun (hn:ak=D.length)=>?_)
 subst hn
 refine bT ?_
 obtain ⟨aq,a9,m⟩:=bd m
 refine bV ?_
 refine lM _ (fun w s=>((s.d 2 R).e 3 [2,0,1])) ?_
 refine lC 2 sv R (FnOk.lends (A':=[OO kT197 197 O U D]) (A:=[RR kT197 O U D]) (B:=[RR kT3 (ad J o29) D2 j]) (FnOk.perm (Z8_ok a9) (Pre':=[RR kT197 O U D,RR kT3 (ad J o29) D2 j]) (fun _ _ _ s=>(s.e 2 [1,0]))) ⟨aY,trivial⟩ (fun _=>⟨(bK s6),trivial⟩)) R ?_
 rintro ⟨ac,az,ah⟩
 refine aL 1 aB ?_
 rintro rfl
 refine bV ?_
 cases m
 exact iu ((F,E.length,G),(ac,aq.length,ah)) (tE 4 [2,1])
theorem Z1w_ok  {p1:(List Int)}{a:(List Int)}{r:(List Int)×(List pair)×Bool}(b:Z1w p1 a=some r) :
 FnOk Tryz.prog 245 [(.slice A2 N2 D2),(.slice A4 N4 D4)] [aO kT3 (.slice A2 N2 D2) p1,aO kT3 (.slice A4 N4 D4) a] (fun (h:HH×HH)=>((.tuple [(s3 h.1),(s3 h.2),(.bool r.2.2)].toArray),[ow kT3 3 (s3 h.1) r.1,ow kT197 197 (s3 h.2) r.2.1])):=by
 unfold Z1w at b
 refine aR Tryz.func245 R 24 R R fun C V=>?_
 refine cL 0 aA ?_
 rintro rfl
 refine cL 1 aA ?_
 rintro rfl
 let q:=RR kT3 A2 D2 p1::RR kT3 A4 D4 a::V
 refine cN q ?_
 refine dA ?_
 obtain ⟨l,b⟩:=gd b
 obtain ⟨_,b⟩:=gd b
 obtain ⟨_,b⟩:=gd b
 obtain ⟨_,b⟩:=gd b
 obtain ⟨g,e,b⟩:=bd b
 refine aZ 0 aA (show 0<p1.length by have:=l; omega) (fun B o7 u=>?_)
 subst u
 refine dF 20 [] bO fun E D=>?_
 refine mu 0 [] ?_
 refine d1 13 R (lM _ (fun w s=>(s.d 1 R)) ?_)
 refine lC 1 B8 R (Zz_ok e) R ?_
 rintro ⟨⟨i,m,j⟩,⟨A14,N14,D14⟩⟩
 refine aL 0 aB ?_
 rintro rfl
 refine aL 1 aB ?_
 rintro rfl
 refine aC (aG (sL [1,0]) ?_)
 refine rZ 14 [1,0] ?_
 refine dD ?_
 refine aU ?_
 cases b
 exact iu ((i,g.1.length,j),(A14,g.2.1.length,D14)) (tE 4 [0,1])
theorem Z2j_ok  {a:Node}{b:(List Int)}{m:Int}{i:Int}{E:Nat}{j:Nat}{g:Nat}{r:(List Int)×(List pair)×Bool}(l:Z2j a b m i=some r) :
 FnOk Tryz.prog 276 [(.agg [(iv a.Op),(.slice A2 N2 D2),(.slice A3 N3 D3),(.slice A4 N4 D4),(aD a.Form),(.slice A5 N5 D5)].toArray),(.slice A7 N7 D7),(pt E 0),(pt j 0),(pt g 0)] [aO kT3 (.slice A2 N2 D2) a.Args,aO kT3 (.slice A3 N3 D3) a.Dims,aO kT3 (.slice A4 N4 D4) a.Ints,aO kT3 (.slice A5 N5 D5) a.Data,aO kT3 (.slice A7 N7 D7) b,aJ E [(iv m)] 3,aJ j [(iv i)] 3,aJ g [(.func (.func 245) [].toArray [].toArray)] 273] (fun (h:HH×HH)=>((.tuple [(s3 h.1),(s3 h.2),(.bool r.2.2)].toArray),[ow kT3 3 (s3 h.1) r.1,ow kT197 197 (s3 h.2) r.2.1,aJ E [(iv m)] 3,aJ j [(iv i)] 3,aJ g [(.func (.func 245) [].toArray [].toArray)] 273])):=by
 unfold Z2j at l
 refine aR Tryz.func276 R 30 R R fun C V=>?_
 refine cM _ (fun w s=>(s.f 8 [5,3,0,5])) ?_
 refine cL 3 aA ?_
 rintro rfl
 refine cL 4 aA ?_
 rintro rfl
 refine cL 5 aA ?_
 rintro rfl
 refine cL 6 aA ?_
 rintro rfl
 refine cL 7 aA ?_
 rintro rfl
 let T:=RR kT3 A2 D2 a.Args::RR kT3 A3 D3 a.Dims::RR kT3 A4 D4 a.Ints::RR kT3 A5 D5 a.Data::RR kT3 A7 D7 b::V
 refine aU ?_
 refine eE R fun q=>?_
 refine bH ?_
 let L:=aJ q [(iv a.Op),(sc A2 a.Args D2),(sc A3 a.Dims D3),(sc A4 a.Ints D4),(aD a.Form),(sc A5 a.Data D5)] 171::aJ E [(iv m)] 3::aJ j [(iv i)] 3::aJ g [(.func (.func 245) [].toArray [].toArray)] 273::T
 refine qN L ?_
 refine aP ?_
 refine cQ [(1,(sc A7 b D7)),(4,(pt g 0)),(5,(pt q 0)),(21,(.bool ((decide ((a.Ints.length:Int)<m))||(decide ((a.Ints.length:Int)>i)))))] (L) ?_ ?_
 refine dO ?_
 rcases bo (decide ((a.Ints.length:Int)<m)) with u | u
 refine dO ?_
 exact qj tI
 refine dO ?_
 exact qj tI
 rintro σ1
 refine bT ?_
 split at l
 refine cU ?_
 cases l
 exact iu ((none,0,0),(none,0,0)) (fun w s=>(((s.nilo kT3 3).nilo kT197 197).e 11 [1,0,3,4,5]))
 refine bH ?_
 obtain ⟨D,B,l⟩:=bd l
 refine b' ?_
 refine lM _ (fun w s=>(((s.d 6 R).d 9 R).e 2 [1,0])) ?_
 refine cC (fs:=[]) (cs:=[]) 2 R R zN R R (Z1w_ok B) R ?_
 rintro ⟨⟨F,M,I⟩,⟨G,O,J⟩⟩
 refine aL 0 aB ?_
 rintro rfl
 refine aL 1 aB ?_
 rintro rfl
 refine cY ?_
 cases l
 exact iu ((F,D.1.length,I),(G,D.2.1.length,J)) (fun w s=>(s.f 11 [0,2,3,3]))
end Go.Proofs.YtmpnollfdpdipaaGreatDoor
