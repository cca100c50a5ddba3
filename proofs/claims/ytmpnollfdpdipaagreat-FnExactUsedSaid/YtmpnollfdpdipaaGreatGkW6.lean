import Derived.Test.YtmpnollfdpdipaaGreatGkF
import Derived.Test.YtmpnollfdpdipaaGreatGkW1
import Derived.Test.YtmpnollfdpdipaaGreatGkW5
set_option linter.unusedVariables false
set_option maxRecDepth 20000
namespace Go.Proofs.YtmpnollfdpdipaaGreat
open Go Go.Pg
variable {A2 A3 A4 A5 A6 A7 A8 A9 A10 A11:Option Addr}{D2 D3 D4 D5 D6 D7 D8 D9 D10 D11 N2 N3 N4 N5 N6 N7 N8 N9 N10 N11:Nat}
theorem Z08_ok  {p1:View}{j:(List Int)}{u:View}{D:Nat}{T:Nat}{U:Nat}{r:Bool×View}(b:Z08 p1 j u=some r) :
 FnOk Tryz.prog 166 [(pt D 0),(pt T 0),(pt U 0)] [aO kT3 (.slice A3 N3 D3) p1.Dims,aO kT3 (.slice A4 N4 D4) p1.Strides,aJ D [(.slice A3 N3 D3),(.slice A4 N4 D4),(iv p1.Offset),(iv p1.Base)] 96,aO kT3 (.slice A7 N7 D7) j,aJ T [(.slice A7 N7 D7)] 23,aO kT3 (.slice A10 N10 D10) u.Dims,aO kT3 (.slice A11 N11 D11) u.Strides,aJ U [(.slice A10 N10 D10),(.slice A11 N11 D11),(iv u.Offset),(iv u.Base)] 96] (fun (h:HH×HH)=>((.bool r.1),[aO kT3 (s3 h.1) r.2.Dims,aO kT3 (s3 h.2) r.2.Strides,aJ D [(s3 h.1),(s3 h.2),(iv r.2.Offset),(iv r.2.Base)] 96,aJ T [(.slice A7 N7 D7)] 23,aJ U [(.slice A10 N10 D10),(.slice A11 N11 D11),(iv u.Offset),(iv u.Base)] 96])):=by
 unfold Z08 at b
 refine aQ Tryz.func166 R 71 R R fun C V=>?_
 refine cM (aJ _ _ _::aJ _ _ _::aJ _ _ _::aO _ _ _::aO _ _ _::aO _ _ _::aO _ _ _::aO _ _ _::V) (tE 8 [2,4,7,0,1,3,5,6]) ?_
 refine cL 3 aA ?_
 rintro rfl
 refine cL 4 aA ?_
 rintro rfl
 refine cL 5 aA ?_
 rintro rfl
 refine cL 6 aA ?_
 rintro rfl
 refine cL 7 aA ?_
 rintro rfl
 let W0:=RR kT3 A3 D3 p1.Dims::RR kT3 A4 D4 p1.Strides::RR kT3 A7 D7 j::RR kT3 A10 D10 u.Dims::RR kT3 A11 D11 u.Strides::V
 refine bG ?_
 let L:=aJ T [(sc A7 j D7)] 23::aJ U [(sc A10 u.Dims D10),(sc A11 u.Strides D11),(iv u.Offset),(iv u.Base)] 96::W0
 refine aP ?_
 obtain ⟨a1,a9,b⟩:=bd b
 refine cQ [(0,(pt D 0)),(1,(pt T 0)),(2,(pt U 0)),(17,(.bool ((!a1)||(decide ((j.length:Int)<(u.Dims.length:Int))))))] (aJ D [(sc A3 p1.Dims D3),(sc A4 p1.Strides D4),(iv p1.Offset),(iv p1.Base)] 96::L) ?_ ?_
 refine aV ?_
 refine lM (RR kT3 A7 D7 j::_::L) (fun w s=>(s.d 5 R)) ?_
 refine lC 1 j8 R (Zb_ok a9) R ?_
 rintro _
 refine aV ?_
 rcases bo (!a1) with a2 | a2
 refine cZ ?_
 exact qj tI
 refine cZ ?_
 exact qj tI
 rintro σ1
 refine bT ?_
 split at b
 refine cZ ?_
 cases b
 exact qF ((A3,p1.Dims.length,D3),(A4,p1.Strides.length,D4)) (fun w s=>(s.f 8 [3,2,0,3]))
 refine bG ?_
 obtain ⟨i,a4,b⟩:=bd b
 refine aP ?_
 refine lM (RR kT3 A7 D7 j::_::L) (fun w s=>(s.d 5 R)) ?_
 refine lC 1 jx R (Zn_ok a4) R ?_
 rintro ⟨q,ab,l⟩
 refine aL 0 aB ?_
 rintro rfl
 refine aV ?_
 refine cT 1 R R fU R R R R R (lN (_::aJ D [(sc q i l),(sc A4 p1.Strides D4),(iv p1.Offset),(iv p1.Base)] 96::L) ?_)
 refine aP ?_
 obtain ⟨G,b⟩:=gd b
 refine bG ?_
 refine fD (K:=kT3) (m:=(j.length:Int)) (z:=(0:Int)) R R bK cC kl (Zr.zk zT3 gF) (by decide) R R G.1 G.2.1 G.2.2 (fun B g=>(lP R (lO (fS 1 fZ R) (cT 2 R R fU R R R R R (lN (OO kT3 3 B g (List.replicate (j.length:Int).toNat (0:Int))::_::aJ D [(sc q i l),(sc B (List.replicate (j.length:Int).toNat (0:Int)) g),(iv p1.Offset),(iv p1.Base)] 96::L) ?_)))))
 refine aP ?_
 refine bB (A:=((List Int))×(Unit)) (fun a=>Z08_J3 p1 i a.1=some r) (fun a=>[]) (fun a=>aJ D [(sc q i l),(sc B (List.replicate (j.length:Int).toNat (0:Int)) g),(iv p1.Offset),(iv p1.Base)] 96::OO kT3 3 q l i::ow kT3 3 (.slice B (List.replicate (j.length:Int).toNat (0:Int)).length g) a.1::L) ?_ ?_
 refine cX ?_
 obtain ⟨e1,aa,a0⟩:=bd b
 refine bD (A:=Unit) aa (fun s a=>[(0,(pt D 0)),(1,(pt T 0)),(2,(pt U 0)),(31,(il u.Dims)),(32,(iv s.2))]) (fun s a=>aJ D [(sc q i l),(sc B (List.replicate (j.length:Int).toNat (0:Int)) g),(iv p1.Offset),(iv p1.Base)] 96::OO kT3 3 q l i::ow kT3 3 (.slice B (List.replicate (j.length:Int).toNat (0:Int)).length g) s.1::L) () (aS R) (tE 3 [2,1,0]) ?_
 rintro ⟨Y,F⟩ _ σ1 Z b a8
 dsimp only [Z08_L1] at b
 refine bV ?_
 split at b
 refine bG ?_
 refine bB (A:=((List Int))×(Unit)) (fun a=>Z08_J2 F a.1=some Z) (fun a=>[(0,(pt D 0)),(1,(pt T 0)),(2,(pt U 0)),(31,(il u.Dims)),(32,(iv F))]) (fun a=>aJ D [(sc q i l),(sc B (List.replicate (j.length:Int).toNat (0:Int)) g),(iv p1.Offset),(iv p1.Base)] 96::OO kT3 3 q l i::ow kT3 3 (.slice B (List.replicate (j.length:Int).toNat (0:Int)).length g) a.1::L) ?_ ?_
 refine us ?_
 obtain ⟨a3,b⟩:=gd b
 obtain ⟨a5,b⟩:=gd b
 refine aZ 8 aA (show 0<u.Dims.length by have:=a3; omega) (fun ai o44 O=>?_)
 subst O
 refine aZ 7 aA (show 0<j.length by have:=a5; omega) (fun ac o47 O=>?_)
 subst O
 refine dG 10 [] bP fun ht hn=>?_
 refine ra 0 [] ?_
 refine dD (aI ?_)
 split at b
 refine bT ?_
 obtain ⟨a6,b⟩:=gd b
 obtain ⟨J,b⟩:=gd b
 refine aZ 9 aA (show 0<u.Strides.length by have:=a6; omega) (fun ag o51 O=>?_)
 subst O
 refine aZ 2 aB (show 0<(List.replicate (j.length:Int).toNat (0:Int)).length by have:=J; omega) (fun M o54 O=>?_)
 subst O
 refine dG 12 [2] bP fun ht hn=>?_
 refine pj 0 [2] ?_
 refine d1 11 R (lM (ow kT3 3 (.slice (ad M o54) (List.replicate (j.length:Int).toNat (0:Int)).length g) Y::aJ D [(sc q i l),(sc (ad M o54) (List.replicate (j.length:Int).toNat (0:Int)) g),(iv p1.Offset),(iv p1.Base)] 96::ow _ _ _ _::L) (tE 3 [2,0,1]) ?_)
 refine dV (K:=kT3) (x':=(ix u.Strides F)) 0 (aH ((aH ((j.length:Int) - (u.Dims.length:Int)))+F)) R R cC R R J.1 J.2 ?_ ?_
 exact fun I h s=>(gD).put I h () (ix u.Strides F) s
 refine aC (aG (sL [0]) (dD ?_))
 obtain ⟨a7,E,b⟩:=bd b
 replace E:=Option.some.inj E
 refine qM (ow kT3 3 (.slice (ad M o54) (List.replicate (j.length:Int).toNat (0:Int)).length g) a7::_::_::L) (fun w s=>by rw [← E]; exact s) ?_
 refine bT ?_
 exact qI (a7,()) b (tE 3 [1,2,0])
 refine iB ?_
 split at b
 refine cX ?_
 cases b
 obtain rfl:=a8 _ R
 have b:=a0
 refine aP ?_
 cases b
 exact qF ((q,i.length,l),(B,(List.replicate (j.length:Int).toNat (0:Int)).length,g)) (fun w s=>(((s.shr 1 R).shr 2 R).e 10 [1,0,2,3,4]))
 refine aP ?_
 exact qI (Y,()) b tI
 rintro ⟨ae,_⟩ σ1 b
 dsimp only [Z08_J2] at b
 refine bG ?_
 cases b
 exact qA () tI
 refine aP ?_
 cases b
 obtain rfl:=a8 _ R
 have b:=a0
 refine aV ?_
 exact cR (Y,()) b trivial tI
 rintro ⟨ah,_⟩ σ1 b
 dsimp only [Z08_J3] at b
 refine bV ?_
 cases b
 exact qF ((q,i.length,l),(B,(List.replicate (j.length:Int).toNat (0:Int)).length,g)) (fun w s=>(((s.shr 1 R).shr 2 R).e 10 [1,0,2,3,4]))
theorem Z34_ok  {v1:View}{q5:(List Int)}{E:View}{b6:Nat}{b9:Nat}{r:View}(B:Z34 v1 q5 E=some r) :
 FnOk Tryz.prog 165 [(.agg [(.slice A2 N2 D2),(.slice A3 N3 D3),(iv v1.Offset),(iv v1.Base)].toArray),(.func (.func 166) [].toArray [(pt b6 0),(pt b9 0)].toArray)] [aO kT3 (.slice A2 N2 D2) v1.Dims,aO kT3 (.slice A3 N3 D3) v1.Strides,aO kT3 (.slice A7 N7 D7) q5,aJ b6 [(.slice A7 N7 D7)] 23,aO kT3 (.slice A10 N10 D10) E.Dims,aO kT3 (.slice A11 N11 D11) E.Strides,aJ b9 [(.slice A10 N10 D10),(.slice A11 N11 D11),(iv E.Offset),(iv E.Base)] 96] (fun (h:HH×HH)=>((.agg [(s3 h.1),(s3 h.2),(iv r.Offset),(iv r.Base)].toArray),[aO kT3 (s3 h.1) r.Dims,aO kT3 (s3 h.2) r.Strides,aJ b6 [(.slice A7 N7 D7)] 23,aJ b9 [(.slice A10 N10 D10),(.slice A11 N11 D11),(iv E.Offset),(iv E.Base)] 96])):=by
 unfold Z34 at B
 refine aQ Tryz.func165 R 31 R R fun C V=>?_
 refine cM _ (tE 7 [3,6,0,1,2,4,5]) ?_
 refine cL 2 aA ?_
 rintro rfl
 refine cL 3 aA ?_
 rintro rfl
 refine cL 4 aA ?_
 rintro rfl
 refine cL 5 aA ?_
 rintro rfl
 refine cL 6 aA ?_
 rintro rfl
 let W0:=RR kT3 A2 D2 v1.Dims::RR kT3 A3 D3 v1.Strides::RR kT3 A7 D7 q5::RR kT3 A10 D10 E.Dims::RR kT3 A11 D11 E.Strides::V
 refine aV ?_
 refine eB R fun ae=>?_
 refine bF R R cY (fun F=>(aC (qM _ (tE 4 [0,2,3,1]) ?_)))
 let W1:=aJ ae [(sc A2 v1.Dims D2),(sc A3 v1.Strides D3),(iv v1.Offset),(iv v1.Base)] 96::W0
 refine aP ?_
 obtain ⟨am,a3,B⟩:=bd B
 refine aV ?_
 refine lM _ (fun w s=>(((s.d 4 R).d 6 R).e 5 [1,0,2,3,4])) ?_
 refine lC 2 mC R (Zg_ok a3) R ?_
 rintro _
 refine aP ?_
 split at B
 refine aP ?_
 refine lO (vz (.agg [(.slice none 0 0),(.slice none 0 0),(iv 0),(iv 0)].toArray) (aW fE cY R R)) (aK 0 R R cH R R R R R R (aC (aI (bW (cE ?_)))))
 cases B
 exact qS ((none,0,0),(none,0,0)) (fun w s=>(((s.nilr kT3).nilr kT3).e 11 [1,0,3,4]))
 refine bG ?_
 obtain ⟨g,T,B⟩:=bd B
 obtain ⟨i,G,B⟩:=bd B
 refine iU (A:=(Unit)×(Nat×HH×HH)) (fun _=>True) (fun a=>[(1,(.func (.func 166) [].toArray [(pt b6 0),(pt b9 0)].toArray)),(4,(pt F 0)),(5,(pt a.2.1 0))]) (fun a=>aJ b6 [(sc A7 q5 D7)] 23::aJ b9 [(sc A10 E.Dims D10),(sc A11 E.Strides D11),(iv E.Offset),(iv E.Base)] 96::aJ F [(.slice none 0 0),(.slice none 0 0),(iv 0),(iv 0)] 96::aJ a.2.1 [(s3 a.2.2.1),(s3 a.2.2.2),(iv v1.Offset),(iv v1.Base)] 96::ow kT3 3 (s3 a.2.2.1) g::ow kT3 3 (s3 a.2.2.2) i::W1) ?_ ?_
 refine dG 13 [] bP fun ht O=>?_
 refine gT 0 [] ?_
 refine gT 3 [] ?_
 refine oA 6 [] ?_
 refine hX [2,11] (by kernel_rfl) R ⟨?_,?_,trivial⟩
 refine lM _ (fun w s=>(s.d 4 R)) ?_
 refine lC 1 jx R (Zn_ok T) R ?_
 rintro ⟨q,a9,m⟩
 refine aL 0 aB ?_
 rintro rfl
 refine aC (aG (sL [0]) (hX [5,11] (by kernel_rfl) R ⟨?_,?_,trivial⟩))
 refine lM _ (fun w s=>(s.d 6 R)) ?_
 refine lC 1 jx R (Zn_ok G) R ?_
 rintro ⟨l,a6,j⟩
 refine aL 0 aB ?_
 rintro rfl
 refine aC (aG (sL [1,0]) (dR 10 R (vz (.agg [(sc q g m),(sc l i j),(iv v1.Offset),(iv v1.Base)].toArray) (aW fE cY R R)) (hS:=(sL [1,0])) (d1 11 R (bF R R cY (fun D=>(aC (aG (sL [2,1,0]) (d1 12 R (aK 0 R R cH R R R R R R (lN (aJ D [(sc q g m),(sc l i j),(iv v1.Offset),(iv v1.Base)] 96::_::_::_::_::_::W1) ?_))))))))))
 refine aC (aG (sL [2,1,0]) (dD ?_))
 exact cR ((),(D,(q,g.length,m),(l,i.length,j))) trivial (aS R) (tE 6 [4,5,3,0,2,1])
 refine bF R R cY (fun D=>(aC (aG (sL [1,0]) (d1 5 R (lM _ (fun w s=>(s.d 7 R)) ?_)))))
 refine lC 1 jx R (Zn_ok G) R ?_
 rintro ⟨l,a6,j⟩
 refine aL 0 aB ?_
 rintro rfl
 refine aC (aG (sL [2,1,0]) (dR 10 R (vz (.agg [(sc q g m),(sc l i j),(iv v1.Offset),(iv v1.Base)].toArray) (aW fE cY R R)) (hS:=(sL [2,1,0])) (d1 12 R (aK 1 R R cH R R R R R R (lN (_::aJ D [(sc q g m),(sc l i j),(iv v1.Offset),(iv v1.Base)] 96::_::_::_::_::W1) ?_)))))
 refine aC (aG (sL [2,1,0]) (dD ?_))
 exact cR ((),(D,(q,g.length,m),(l,i.length,j))) trivial (aS R) (tE 6 [4,5,3,1,2,0])
 refine bF R R cY (fun D=>(aC (aG (sL [0]) (d1 2 R (lM _ (fun w s=>(s.d 5 R)) ?_)))))
 refine lC 1 jx R (Zn_ok T) R ?_
 rintro ⟨q,a9,m⟩
 refine aL 0 aB ?_
 rintro rfl
 refine aC (aG (sL [1,0]) (d1 5 R (lM _ (fun w s=>(s.d 7 R)) ?_)))
 refine lC 1 jx R (Zn_ok G) R ?_
 rintro ⟨l,a6,j⟩
 refine aL 0 aB ?_
 rintro rfl
 refine aC (aG (sL [2,1,0]) (dR 10 R (vz (.agg [(sc q g m),(sc l i j),(iv v1.Offset),(iv v1.Base)].toArray) (aW fE cY R R)) (hS:=(sL [2,1,0])) (d1 12 R (aK 2 R R cH R R R R R R (lN (_::_::aJ D [(sc q g m),(sc l i j),(iv v1.Offset),(iv v1.Base)] 96::_::_::_::W1) ?_)))))
 refine aC (aG (sL [2,1,0]) (dD ?_))
 exact cR ((),(D,(q,g.length,m),(l,i.length,j))) trivial (aS R) (tE 6 [4,5,3,2,1,0])
 rintro ⟨_,⟨a1,⟨aj,ab,ai⟩,⟨ag,a8,ah⟩⟩⟩ σ1 -
 refine hY 4 aB (fun (O:ab=g.length)=>?_)
 subst O
 refine hY 5 aB (fun (O:a8=i.length)=>?_)
 subst O
 refine aP ?_
 obtain ⟨b,a4,B⟩:=bd B
 obtain ⟨a5,a7,B⟩:=bd B
 refine iU (A:=(Unit)×(HH×HH)) (fun _=>True) (fun a=>[(4,(pt F 0)),(5,(pt a1 0)),(28,(.bool ((!b.1)||(!a5))))]) (fun a=>aJ F [(.slice none 0 0),(.slice none 0 0),(iv 0),(iv 0)] 96::aJ a1 [(s3 a.2.1),(s3 a.2.2),(iv b.2.Offset),(iv b.2.Base)] 96::aO kT3 (s3 a.2.1) b.2.Dims::aO kT3 (s3 a.2.2) b.2.Strides::aJ b6 [(sc A7 q5 D7)] 23::aJ b9 [(sc A10 E.Dims D10),(sc A11 E.Strides D11),(iv E.Offset),(iv E.Base)] 96::W1) ?_ ?_
 refine aE (lO (vp _ R) (iT (fun w s=>s.shr 4 R) (iT (fun w s=>s.shr 5 R) (lM _ (fun w s=>((((((s.d 1 R).d 1 R).d 11 R).d 13 R).d 15 R).e 11 [4,3,10,2,7,1,0,8,5,6,9])) ?_))))
 refine cF (fs:=[]) (cs:=[(pt b6 0),(pt b9 0)]) 8 R R zt R R (Z08_ok (p1:=(⟨g,i,v1.Offset,v1.Base⟩:View)) a4) R ?_
 rintro ⟨⟨Z,al,a2⟩,⟨Y,ak,a0⟩⟩
 refine aL 0 aA ?_
 rintro rfl
 refine aL 1 aA ?_
 rintro rfl
 refine aV ?_
 rcases bo (!b.1) with u | u
 refine aP ?_
 refine lO (fA (!a5) R u) (aC ?_)
 exact cR ((),((Z,b.2.Dims.length,a2),(Y,b.2.Strides.length,a0))) trivial (aS R) (tE 8 [7,2,0,1,3,4])
 refine lW (b' u) (vz (.agg [(sc Z b.2.Dims a2),(sc Y b.2.Strides a0),(iv b.2.Offset),(iv b.2.Base)].toArray) (dJ 2 gJ cH R R R R)) (lM _ (fun w s=>(((s.d 0 R).d 2 R).f 10 [1,1,0,1,2,8])) ?_)
 refine bY 2 R (b' u) mC R (Zg_ok (bN a7 (cS u))) R ?_
 rintro _
 refine bT ?_
 refine lO (fT R u R) (aC ?_)
 exact cR ((),((Z,b.2.Dims.length,a2),(Y,b.2.Strides.length,a0))) trivial (aS R) (tE 8 [7,2,0,1,3,4])
 rintro ⟨_,⟨⟨I,ac,M⟩,⟨J,aa,L⟩⟩⟩ σ1 -
 refine hY 2 aA (fun (O:ac=b.2.Dims.length)=>?_)
 subst O
 refine hY 3 aA (fun (O:aa=b.2.Strides.length)=>?_)
 subst O
 refine bT ?_
 rcases cG B with ⟨U,B⟩|⟨U,B⟩
 refine aP ?_
 refine lO (vz (.agg [(.slice none 0 0),(.slice none 0 0),(iv 0),(iv 0)].toArray) (aW fE cY R R)) (aK 0 R R cH R R R R R R (lN (_::aJ a1 [(sc I b.2.Dims M),(sc J b.2.Strides L),(iv b.2.Offset),(iv b.2.Base)] 96::RR kT3 I M b.2.Dims::RR kT3 J L b.2.Strides::_::_::W1) ?_))
 refine bG ?_
 cases B
 exact qS ((none,0,0),(none,0,0)) (fun w s=>(((s.nilr kT3).nilr kT3).e 14 [1,0,6,7]))
 refine bJ R U ?_
 refine cA ?_
 refine aK 0 R R cH R R R R R R (lN (aJ F [(sc I b.2.Dims M),(sc J b.2.Strides L),(iv b.2.Offset),(iv b.2.Base)] 96::_::_::_::_::_::W1) ?_)
 refine aP ?_
 cases B
 exact qS ((I,b.2.Dims.length,M),(J,b.2.Strides.length,L)) (fun w s=>(s.f 12 [2,4]))
theorem Z2d_ok  {v1:View}{a:(List Int)}{r:View}(j:Z2d v1 a=some r) :
 FnOk Tryz.prog 159 [(.agg [(.slice A2 N2 D2),(.slice A3 N3 D3),(iv v1.Offset),(iv v1.Base)].toArray),(.slice A5 N5 D5)] [aO kT3 (.slice A2 N2 D2) v1.Dims,aO kT3 (.slice A3 N3 D3) v1.Strides,aO kT3 (.slice A5 N5 D5) a] (fun (h:HH×HH)=>((.agg [(.slice h.1.1 h.1.2.1 h.1.2.2),(.slice h.2.1 h.2.2.1 h.2.2.2),(iv r.Offset),(iv r.Base)].toArray),[aO kT3 (.slice h.1.1 h.1.2.1 h.1.2.2) r.Dims,aO kT3 (.slice h.2.1 h.2.2.1 h.2.2.2) r.Strides])):=by
 unfold Z2d at j
 refine aQ Tryz.func159 R 8 R R fun C V=>?_
 refine cN (_::_::_::V) ?_
 refine cL 0 aA ?_
 rintro rfl
 refine cL 1 aA ?_
 rintro rfl
 refine cL 2 aA ?_
 rintro rfl
 let i:List HP:=RR kT3 A2 D2 v1.Dims::RR kT3 A3 D3 v1.Strides::RR kT3 A5 D5 a::V
 refine cN i ?_
 refine aM (aE (eB R (fun q=>(eZ (cs:=[(sc A5 a D5)]) R R R (fun m=>(bF R R cY (fun l=>(aC (aI (aM ?_))))))))))
 obtain ⟨b,g,j⟩:=bd j
 refine aE (lO (vz (.agg [(sc A2 v1.Dims D2),(sc A3 v1.Strides D3),(iv v1.Offset),(iv v1.Base)].toArray) (dJ 2 gJ cH R R R R)) (lO (vp (.func (.func 166) [].toArray [(pt m 0),(pt q 0)].toArray) R) (lM (RR kT3 A2 D2 v1.Dims::RR kT3 A3 D3 v1.Strides::RR kT3 A5 D5 a::aJ _ _ _::RR kT3 A2 D2 v1.Dims::RR kT3 A3 D3 v1.Strides::aJ _ _ _::aJ _ _ _::i) (fun w s=>((((((s.d 3 R).d 5 R).d 7 R).d 6 R).d 8 R).e 8 [4,3,2,6,1,0,7,5])) ?_)))
 refine lC 7 sK R (Z34_ok g) R ?_
 rintro ⟨⟨A11,N11,D11⟩,⟨A12,N12,D12⟩⟩
 refine lN (aO kT3 (.slice A11 N11 D11) b.Dims::aO kT3 (.slice A12 N12 D12) b.Strides::_::_::_::i) ?_
 refine aL 0 aA ?_
 rintro rfl
 refine aL 1 aA ?_
 rintro rfl
 refine aK 4 R R cH R R R R R R (lN (_::_::_::_::aJ l [(sc A11 b.Dims D11),(sc A12 b.Strides D12),(iv b.Offset),(iv b.Base)] 96::i) ?_)
 refine aC (aI (bW ?_))
 obtain rfl:=so j
 exact dI (vs:=[(.agg [(sc A11 b.Dims D11),(sc A12 b.Strides D12),(iv b.Offset),(iv b.Base)].toArray)]) (.inl R) ((A11,b.Dims.length,D11),(A12,b.Strides.length,D12)) R ⟨⟨4,l,_,_,R,R,.inl ⟨gJ,cH,R⟩⟩,trivial⟩ R (fun w s=>(s.e 8 [0,1]))
theorem Z0z_ok  {v1:View}{e:Int}{b:Int}{g:Int}{q:Nat}{r:View}(l:Z0z v1 e b g=some r) :
 FnOk Tryz.prog 168 [(pt q 0),(iv e),(iv b),(iv g)] [ow kT3 3 (.slice A3 N3 D3) v1.Dims,ow kT3 3 (.slice A4 N4 D4) v1.Strides,aJ q [(.slice A3 N3 D3),(.slice A4 N4 D4),(iv v1.Offset),(iv v1.Base)] 96] (fun (h:HH×HH)=>((.tuple [].toArray),[ow kT3 3 (s3 h.1) r.Dims,ow kT3 3 (s3 h.2) r.Strides,aJ q [(s3 h.1),(s3 h.2),(iv r.Offset),(iv r.Base)] 96])):=by
 unfold Z0z at l
 refine aQ Tryz.func168 R 24 R R fun C V=>?_
 refine cL 0 aB ?_
 rintro rfl
 refine cL 1 aB ?_
 rintro rfl
 refine aM (bB (A:=(Int)×(Unit)) (fun a=>Z0z_J3 v1 e b a.1=some r) (fun a=>[(0,(pt q 0)),(1,(iv e)),(2,(iv b)),(3,(iv a.1))]) (fun a=>aJ q [(sc A3 v1.Dims D3),(sc A4 v1.Strides D4),(iv v1.Offset),(iv v1.Base)] 96::OO kT3 3 A3 D3 v1.Dims::OO kT3 3 A4 D4 v1.Strides::V) ?_ ?_)
 refine cA ?_
 let F:=aJ q [(sc A3 v1.Dims D3),(sc A4 v1.Strides D4),(iv v1.Offset),(iv v1.Base)] 96::V
 refine bT ?_
 split at l
 refine bG ?_
 exact qI ((0:Int),()) l (tE 3 [2,0,1])
 refine aV ?_
 exact qI (g,()) l (tE 3 [2,0,1])
 rintro ⟨i,_⟩ σ1 l
 dsimp only [Z0z_J3] at l
 obtain ⟨m,l⟩:=gd l
 obtain ⟨j,l⟩:=gd l
 refine aZ 1 aB (show 0<v1.Dims.length by have:=m; omega) (fun D o12 u=>?_)
 subst u
 refine aZ 2 aB (show 0<v1.Strides.length by have:=j; omega) (fun B o15 u=>?_)
 subst u
 refine dG 16 [2,1] bP fun E G=>?_
 refine mu 0 [2,1] ?_
 refine d1 13 R (lM _ (tE 3 [1,0,2]) ?_)
 refine dV (K:=kT3) (x':=b) 0 e R R cC R R m.1 m.2 ?_ ?_
 exact fun I h s=>(gD).put I h () b s
 refine aC (aG (sL [2,0]) ?_)
 refine oz 14 [2,0] ?_
 refine d1 15 R (lM _ (tE 3 [2,0,1]) ?_)
 refine dV (K:=kT3) (x':=i) 0 e R R cC R R j.1 j.2 ?_ ?_
 exact fun I h s=>(gD).put I h () i s
 refine aC (aG (sL [1,0]) (dD ?_))
 cases l
 exact Ap (((ad D o12),v1.Dims.length,D3),((ad B o15),v1.Strides.length,D4)) (tE 3 [1,0,2])
theorem Z1i_ok  {p1:View}{q:Int}{u:Int}{l:Int}{e:Int}{m:Nat}{E:Nat}{F:Nat}{j:Nat}{b:Nat}{r:Bool×View×Int}(i:Z1i p1 q u l e=some r) :
 FnOk Tryz.prog 167 [(pt m 0),(pt E 0),(pt F 0),(pt j 0),(pt b 0)] [ow kT3 3 (.slice A3 N3 D3) p1.Dims,ow kT3 3 (.slice A4 N4 D4) p1.Strides,aJ m [(.slice A3 N3 D3),(.slice A4 N4 D4),(iv p1.Offset),(iv p1.Base)] 96,aJ E [(iv q)] 3,aJ F [(iv u)] 3,aJ j [(iv l)] 3,aJ b [(iv e)] 3] (fun (h:HH×HH)=>((.bool r.1),[ow kT3 3 (s3 h.1) r.2.1.Dims,ow kT3 3 (s3 h.2) r.2.1.Strides,aJ m [(s3 h.1),(s3 h.2),(iv r.2.1.Offset),(iv r.2.1.Base)] 96,aJ E [(iv q)] 3,aJ F [(iv u)] 3,aJ j [(iv l)] 3,aJ b [(iv r.2.2)] 3])):=by
 unfold Z1i at i
 refine aQ Tryz.func167 R 86 R R fun C V=>?_
 refine cL 0 aB ?_
 rintro rfl
 refine cL 1 aB ?_
 rintro rfl
 refine bG ?_
 refine qM _ (fun w s=>(s.f 7 [0,3,6,1,3,3])) ?_
 let I:=aJ E [(iv q)] 3::aJ F [(iv u)] 3::aJ j [(iv l)] 3::V
 refine aP ?_
 obtain ⟨G,D,i⟩:=bd i
 refine cQ [(0,(pt m 0)),(1,(pt E 0)),(2,(pt F 0)),(3,(pt j 0)),(4,(pt b 0)),(24,(.bool (((!G)||(decide (u<1)))||(decide (u>4096)))))] (aJ m [(sc A3 p1.Dims D3),(sc A4 p1.Strides D4),(iv p1.Offset),(iv p1.Base)] 96::OO kT3 3 A3 D3 p1.Dims::OO kT3 3 A4 D4 p1.Strides::aJ b [(iv e)] 3::I) ?_ ?_
 rcases bo (!G) with U | U
 refine dG 15 [] bP fun L O=>?_
 refine kr 0 [] ?_
 refine d1 5 R (lC 1 gQ R (FnOk.lends (A':=[OO kT3 3 A3 D3 p1.Dims]) (A:=[RR kT3 A3 D3 p1.Dims]) (B:=[]) (Zk_ok D) ⟨aU,trivial⟩ (fun _=>trivial)) R ?_)
 rintro _
 refine aC (aG (sL []) ?_)
 refine vD 6 [] ?_
 refine dD ?_
 exact qj (tE 4 [2,0,1,3])
 rcases bo ((!G)||(decide (u<1))) with a0 | a0
 refine dG 15 [] bP fun L O=>?_
 refine kr 0 [] ?_
 refine d1 5 R (lC 1 gQ R (FnOk.lends (A':=[OO kT3 3 A3 D3 p1.Dims]) (A:=[RR kT3 A3 D3 p1.Dims]) (B:=[]) (Zk_ok D) ⟨aU,trivial⟩ (fun _=>trivial)) R ?_)
 rintro _
 refine aC (aG (sL []) ?_)
 refine vD 6 [] ?_
 refine dD ?_
 exact qj (tE 4 [2,0,1,3])
 refine dG 15 [] bP fun L O=>?_
 refine kr 0 [] ?_
 refine d1 5 R (lC 1 gQ R (FnOk.lends (A':=[OO kT3 3 A3 D3 p1.Dims]) (A:=[RR kT3 A3 D3 p1.Dims]) (B:=[]) (Zk_ok D) ⟨aU,trivial⟩ (fun _=>trivial)) R ?_)
 rintro _
 refine aC (aG (sL []) ?_)
 refine vD 6 [] ?_
 refine dD ?_
 exact qj (tE 4 [2,0,1,3])
 rintro σ1
 refine bT ?_
 split at i
 refine cZ ?_
 cases i
 exact qF ((A3,p1.Dims.length,D3),(A4,p1.Strides.length,D4)) (tE 7 [1,2,0,4,5,6,3])
 refine bG ?_
 obtain ⟨Y,i⟩:=gd i
 refine aZ 1 aB (show 0<p1.Dims.length by have:=Y; omega) (fun g o20 ha=>?_)
 subst ha
 refine dG 8 [] bP fun L O=>?_
 refine ut 0 [] ?_
 refine dD ?_
 refine aP ?_
 refine cQ [(0,(pt m 0)),(1,(pt E 0)),(2,(pt F 0)),(3,(pt j 0)),(4,(pt b 0)),(7,(iv (ix p1.Dims q))),(46,(.bool ((((decide (l<0))||(decide (l≥(ix p1.Dims q))))||(decide (e<(-4096:Int))))||(decide (e>4096)))))] (aJ m [(sc (ad g o20) p1.Dims D3),(sc A4 p1.Strides D4),(iv p1.Offset),(iv p1.Base)] 96::OO kT3 3 (ad g o20) D3 p1.Dims::OO kT3 3 A4 D4 p1.Strides::aJ b [(iv e)] 3::I) ?_ ?_
 refine bG ?_
 rcases bo (decide (l<0)) with a1 | a1
 refine lb ?_
 exact qj tI
 refine cA ?_
 rcases bo ((decide (l<0))||(decide (l≥(ix p1.Dims q)))) with M | M
 refine cZ ?_
 exact qj tI
 refine bG ?_
 rcases bo (((decide (l<0))||(decide (l≥(ix p1.Dims q))))||(decide (e<(-4096:Int)))) with Z | Z
 refine bG ?_
 exact qj tI
 refine bG ?_
 exact qj tI
 rintro σ1
 refine bT ?_
 split at i
 refine cZ ?_
 cases i
 exact qF (((ad g o20),p1.Dims.length,D3),(A4,p1.Strides.length,D4)) (tE 7 [1,2,0,4,5,6,3])
 refine bG ?_
 refine bB (A:=(Int)×(Unit)) (fun a=>Z1i_J3 p1 q u l a.1=some r) (fun a=>[(0,(pt m 0)),(1,(pt E 0)),(2,(pt F 0)),(3,(pt j 0)),(4,(pt b 0))]) (fun a=>aJ m [(sc (ad g o20) p1.Dims D3),(sc A4 p1.Strides D4),(iv p1.Offset),(iv p1.Base)] 96::OO kT3 3 (ad g o20) D3 p1.Dims::OO kT3 3 A4 D4 p1.Strides::aJ b [(iv a.1)] 3::I) ?_ ?_
 refine bV ?_
 split at i
 refine lb ?_
 refine cQ [(0,(pt m 0)),(1,(pt E 0)),(2,(pt F 0)),(3,(pt j 0)),(4,(pt b 0)),(61,(.bool ((decide ((aH (l+(aH (e*(aH (u - 1))))))<0))||(decide ((aH (l+(aH (e*(aH (u - 1))))))≥(ix p1.Dims q))))))] (aJ m [(sc (ad g o20) p1.Dims D3),(sc A4 p1.Strides D4),(iv p1.Offset),(iv p1.Base)] 96::OO kT3 3 (ad g o20) D3 p1.Dims::OO kT3 3 A4 D4 p1.Strides::aJ b [(iv e)] 3::I) ?_ ?_
 refine bG ?_
 rcases bo (decide ((aH (l+(aH (e*(aH (u - 1))))))<0)) with a2 | a2
 refine cA ?_
 exact qj tI
 refine cA ?_
 exact qj tI
 rintro σ1
 refine bT ?_
 split at i
 refine cZ ?_
 cases i
 exact qF (((ad g o20),p1.Dims.length,D3),(A4,p1.Strides.length,D4)) (tE 7 [1,2,0,4,5,6,3])
 refine aV ?_
 exact qI (e,()) i tI
 refine aV ?_
 refine cT 3 R R cC R R R R R (lN (aJ m [(sc (ad g o20) p1.Dims D3),(sc A4 p1.Strides D4),(iv p1.Offset),(iv p1.Base)] 96::OO kT3 3 (ad g o20) D3 p1.Dims::_::aJ b [(iv 0)] 3::I) ?_)
 refine bT ?_
 exact qI ((0:Int),()) i tI
 rintro ⟨a5,_⟩ σ1 i
 dsimp only [Z1i_J3] at i
 refine bT ?_
 obtain ⟨a3,i⟩:=gd i
 refine aZ 2 aB (show 0<p1.Strides.length by have:=a3; omega) (fun T o31 ha=>?_)
 subst ha
 refine dG 8 [] bP fun L O=>?_
 refine ut 0 [] ?_
 refine dD (aI (aM (dG 11 [0] bP fun L O=>?_)))
 refine iw 0 [0] ?_
 refine iw 4 [0] ?_
 refine d1 3 R (lO (gB 0 fP R R R) (aC (aG (sL [0]) ?_)))
 refine iw 7 [0] ?_
 refine d1 10 R (cT 0 R R cC R R R R R (lN (aJ m [(sc (ad g o20) p1.Dims D3),(sc (ad T o31) p1.Strides D4),(iv (aH (p1.Offset+(aH (l*(ix p1.Strides q)))))),(iv p1.Base)] 96::_::OO kT3 3 (ad T o31) D4 p1.Strides::aJ b [(iv a5)] 3::I) ?_))
 refine aC (aG (sL [0]) (dD ?_))
 refine aV ?_
 obtain ⟨a4,J,i⟩:=bd i
 refine dN ?_
 refine lM _ (tE 4 [1,2,0,3]) ?_
 refine lC 3 sM R (Z0z_ok (v1:=(⟨p1.Dims,p1.Strides,(aH (p1.Offset+(aH (l*(ix p1.Strides q))))),p1.Base⟩:View)) J) R ?_
 rintro ⟨⟨a6,ab,a9⟩,⟨a7,aa,a8⟩⟩
 refine aL 0 aB ?_
 rintro rfl
 refine aL 1 aB ?_
 rintro rfl
 refine cZ ?_
 cases i
 exact qF ((a6,a4.Dims.length,a9),(a7,a4.Strides.length,a8)) (fun w s=>(s.f 7 [0,3,4,3,3,1]))
theorem Z33_ok  {v1:View}{q5:Int}{q7:Int}{q9:Int}{a3:Int}{b6:Nat}{b8:Nat}{F:Nat}{G:Nat}{r:View×Int}(D:Z33 v1 q5 q7 q9 a3=some r) :
 FnOk Tryz.prog 165 [(.agg [(.slice A2 N2 D2),(.slice A3 N3 D3),(iv v1.Offset),(iv v1.Base)].toArray),(.func (.func 167) [].toArray [(pt b6 0),(pt b8 0),(pt F 0),(pt G 0)].toArray)] [aO kT3 (.slice A2 N2 D2) v1.Dims,aO kT3 (.slice A3 N3 D3) v1.Strides,aJ b6 [(iv q5)] 3,aJ b8 [(iv q7)] 3,aJ F [(iv q9)] 3,aJ G [(iv a3)] 3] (fun (h:HH×HH)=>((.agg [(s3 h.1),(s3 h.2),(iv r.1.Offset),(iv r.1.Base)].toArray),[ow kT3 3 (s3 h.1) r.1.Dims,ow kT3 3 (s3 h.2) r.1.Strides,aJ b6 [(iv q5)] 3,aJ b8 [(iv q7)] 3,aJ F [(iv q9)] 3,aJ G [(iv r.2)] 3])):=by
 unfold Z33 at D
 refine aQ Tryz.func165 R 31 R R fun C V=>?_
 refine cM _ (fun w s=>(s.f 6 [2,4,0,2])) ?_
 refine cL 4 aA ?_
 rintro rfl
 refine cL 5 aA ?_
 rintro rfl
 let W0:=RR kT3 A2 D2 v1.Dims::RR kT3 A3 D3 v1.Strides::V
 refine aV ?_
 refine eB R fun ae=>?_
 refine bF R R cY (fun O=>(aC (qM _ (tE 6 [0,2,3,4,5,1]) ?_)))
 let W1:=aJ ae [(sc A2 v1.Dims D2),(sc A3 v1.Strides D3),(iv v1.Offset),(iv v1.Base)] 96::W0
 refine aP ?_
 obtain ⟨aj,a9,D⟩:=bd D
 refine aV ?_
 refine lM _ (fun w s=>(((s.d 6 R).d 8 R).f 7 [1,1,0,1,2,5])) ?_
 refine lC 2 mC R (Zg_ok a9) R ?_
 rintro _
 refine aP ?_
 split at D
 refine aP ?_
 refine lO (vz (.agg [(.slice none 0 0),(.slice none 0 0),(iv 0),(iv 0)].toArray) (aW fE cY R R)) (aK 0 R R cH R R R R R R (aC (aI (bW (cE ?_)))))
 cases D
 exact qS ((none,0,0),(none,0,0)) (fun w s=>(((s.nilo kT3 3).nilo kT3 3).e 10 [1,0,3,4,5,6]))
 refine bG ?_
 obtain ⟨i,a2,D⟩:=bd D
 obtain ⟨g,J,D⟩:=bd D
 refine iU (A:=(Unit)×(Nat×HH×HH)) (fun _=>True) (fun a=>[(1,(.func (.func 167) [].toArray [(pt b6 0),(pt b8 0),(pt F 0),(pt G 0)].toArray)),(4,(pt O 0)),(5,(pt a.2.1 0))]) (fun a=>aJ b6 [(iv q5)] 3::aJ b8 [(iv q7)] 3::aJ F [(iv q9)] 3::aJ G [(iv a3)] 3::aJ O [(.slice none 0 0),(.slice none 0 0),(iv 0),(iv 0)] 96::aJ a.2.1 [(s3 a.2.2.1),(s3 a.2.2.2),(iv v1.Offset),(iv v1.Base)] 96::ow kT3 3 (s3 a.2.2.1) i::ow kT3 3 (s3 a.2.2.2) g::W1) ?_ ?_
 refine dG 13 [] bP fun ht hn=>?_
 refine gT 0 [] ?_
 refine gT 3 [] ?_
 refine oA 6 [] ?_
 refine hX [2,11] (by kernel_rfl) R ⟨?_,?_,trivial⟩
 refine lM _ (fun w s=>(s.d 6 R)) ?_
 refine lC 1 jx R (Zn_ok a2) R ?_
 rintro ⟨q,ag,m⟩
 refine aL 0 aB ?_
 rintro rfl
 refine aC (aG (sL [0]) (hX [5,11] (by kernel_rfl) R ⟨?_,?_,trivial⟩))
 refine lM _ (fun w s=>(s.d 8 R)) ?_
 refine lC 1 jx R (Zn_ok J) R ?_
 rintro ⟨j,a5,l⟩
 refine aL 0 aB ?_
 rintro rfl
 refine aC (aG (sL [1,0]) (dR 10 R (vz (.agg [(sc q i m),(sc j g l),(iv v1.Offset),(iv v1.Base)].toArray) (aW fE cY R R)) (hS:=(sL [1,0])) (d1 11 R (bF R R cY (fun E=>(aC (aG (sL [2,1,0]) (d1 12 R (aK 0 R R cH R R R R R R (lN (aJ E [(sc q i m),(sc j g l),(iv v1.Offset),(iv v1.Base)] 96::_::_::_::_::_::_::_::W1) ?_))))))))))
 refine aC (aG (sL [2,1,0]) (dD ?_))
 exact cR ((),(E,(q,i.length,m),(j,g.length,l))) trivial (aS R) (tE 8 [4,5,6,7,3,0,2,1])
 refine bF R R cY (fun E=>(aC (aG (sL [1,0]) (d1 5 R (lM _ (fun w s=>(s.d 9 R)) ?_)))))
 refine lC 1 jx R (Zn_ok J) R ?_
 rintro ⟨j,a5,l⟩
 refine aL 0 aB ?_
 rintro rfl
 refine aC (aG (sL [2,1,0]) (dR 10 R (vz (.agg [(sc q i m),(sc j g l),(iv v1.Offset),(iv v1.Base)].toArray) (aW fE cY R R)) (hS:=(sL [2,1,0])) (d1 12 R (aK 1 R R cH R R R R R R (lN (_::aJ E [(sc q i m),(sc j g l),(iv v1.Offset),(iv v1.Base)] 96::_::_::_::_::_::_::W1) ?_)))))
 refine aC (aG (sL [2,1,0]) (dD ?_))
 exact cR ((),(E,(q,i.length,m),(j,g.length,l))) trivial (aS R) (tE 8 [4,5,6,7,3,1,2,0])
 refine bF R R cY (fun E=>(aC (aG (sL [0]) (d1 2 R (lM _ (fun w s=>(s.d 7 R)) ?_)))))
 refine lC 1 jx R (Zn_ok a2) R ?_
 rintro ⟨q,ag,m⟩
 refine aL 0 aB ?_
 rintro rfl
 refine aC (aG (sL [1,0]) (d1 5 R (lM _ (fun w s=>(s.d 9 R)) ?_)))
 refine lC 1 jx R (Zn_ok J) R ?_
 rintro ⟨j,a5,l⟩
 refine aL 0 aB ?_
 rintro rfl
 refine aC (aG (sL [2,1,0]) (dR 10 R (vz (.agg [(sc q i m),(sc j g l),(iv v1.Offset),(iv v1.Base)].toArray) (aW fE cY R R)) (hS:=(sL [2,1,0])) (d1 12 R (aK 2 R R cH R R R R R R (lN (_::_::aJ E [(sc q i m),(sc j g l),(iv v1.Offset),(iv v1.Base)] 96::_::_::_::_::_::W1) ?_)))))
 refine aC (aG (sL [2,1,0]) (dD ?_))
 exact cR ((),(E,(q,i.length,m),(j,g.length,l))) trivial (aS R) (tE 8 [4,5,6,7,3,2,1,0])
 rintro ⟨_,⟨a4,⟨ai,aa,ak⟩,⟨am,ac,ao⟩⟩⟩ σ1 -
 refine hY 6 aB (fun (hn:aa=i.length)=>?_)
 subst hn
 refine hY 7 aB (fun (hn:ac=g.length)=>?_)
 subst hn
 refine aP ?_
 obtain ⟨b,a6,D⟩:=bd D
 obtain ⟨a8,a7,D⟩:=bd D
 refine iU (A:=(Unit)×(HH×HH)) (fun _=>True) (fun a=>[(4,(pt O 0)),(5,(pt a4 0)),(28,(.bool ((!b.1)||(!a8))))]) (fun a=>aJ O [(.slice none 0 0),(.slice none 0 0),(iv 0),(iv 0)] 96::aJ a4 [(s3 a.2.1),(s3 a.2.2),(iv b.2.1.Offset),(iv b.2.1.Base)] 96::ow kT3 3 (s3 a.2.1) b.2.1.Dims::ow kT3 3 (s3 a.2.2) b.2.1.Strides::aJ b6 [(iv q5)] 3::aJ b8 [(iv q7)] 3::aJ F [(iv q9)] 3::aJ G [(iv b.2.2)] 3::W1) ?_ ?_
 refine aE (lO (vp _ R) (lM _ (fun w s=>(s.f 8 [6,2,5,1,0,5])) ?_))
 refine cF (fs:=[]) (cs:=[(pt b6 0),(pt b8 0),(pt F 0),(pt G 0)]) 7 R R zw R R (Z1i_ok (p1:=(⟨i,g,v1.Offset,v1.Base⟩:View)) a6) R ?_
 rintro ⟨⟨I,an,L⟩,⟨T,al,M⟩⟩
 refine aL 0 aB ?_
 rintro rfl
 refine aL 1 aB ?_
 rintro rfl
 refine aV ?_
 rcases bo (!b.1) with u | u
 refine aP ?_
 refine lO (fA (!a8) R u) (aC ?_)
 exact cR ((),((I,b.2.1.Dims.length,L),(T,b.2.1.Strides.length,M))) trivial (aS R) (tE 8 [7,2,0,1,3,4,5,6])
 refine lW (b' u) (vz (.agg [(sc I b.2.1.Dims L),(sc T b.2.1.Strides M),(iv b.2.1.Offset),(iv b.2.1.Base)].toArray) (dJ 2 gJ cH R R R R)) (bY 2 R (b' u) mC R (FnOk.lends (A':=[OO kT3 3 I L b.2.1.Dims,OO kT3 3 T M b.2.1.Strides]) (A:=[RR kT3 I L b.2.1.Dims,RR kT3 T M b.2.1.Strides]) (B:=[]) (Zg_ok (bN a7 (cS u))) ⟨aU,aU,trivial⟩ (fun _=>trivial)) R ?_)
 rintro _
 refine bT ?_
 refine lO (fT R u R) (aC ?_)
 exact cR ((),((I,b.2.1.Dims.length,L),(T,b.2.1.Strides.length,M))) trivial (aS R) (tE 8 [7,2,0,1,3,4,5,6])
 rintro ⟨_,⟨⟨Y,ab,a0⟩,⟨Z,ah,U⟩⟩⟩ σ1 -
 refine hY 2 aB (fun (hn:ab=b.2.1.Dims.length)=>?_)
 subst hn
 refine hY 3 aB (fun (hn:ah=b.2.1.Strides.length)=>?_)
 subst hn
 refine bT ?_
 rcases cG D with ⟨a1,D⟩|⟨a1,D⟩
 refine aP ?_
 refine lO (vz (.agg [(.slice none 0 0),(.slice none 0 0),(iv 0),(iv 0)].toArray) (aW fE cY R R)) (aK 0 R R cH R R R R R R (lN (_::aJ a4 [(sc Y b.2.1.Dims a0),(sc Z b.2.1.Strides U),(iv b.2.1.Offset),(iv b.2.1.Base)] 96::OO kT3 3 Y a0 b.2.1.Dims::OO kT3 3 Z U b.2.1.Strides::_::_::_::_::W1) ?_))
 refine bG ?_
 cases D
 exact qS ((none,0,0),(none,0,0)) (fun w s=>(((s.nilo kT3 3).nilo kT3 3).e 13 [1,0,6,7,8,9]))
 refine bJ R a1 ?_
 refine cA ?_
 refine aK 0 R R cH R R R R R R (lN (aJ O [(sc Y b.2.1.Dims a0),(sc Z b.2.1.Strides U),(iv b.2.1.Offset),(iv b.2.1.Base)] 96::_::_::_::_::_::_::_::W1) ?_)
 refine aP ?_
 cases D
 exact qS ((Y,b.2.1.Dims.length,a0),(Z,b.2.1.Strides.length,U)) (fun w s=>(s.f 11 [2,6]))
theorem Z2c_ok  {v1:View}{g:Int}{F:Int}{a:Int}{b:Int}{r:View}(B:Z2c v1 g F a b=some r) :
 FnOk Tryz.prog 160 [(.agg [(.slice A2 N2 D2),(.slice A3 N3 D3),(iv v1.Offset),(iv v1.Base)].toArray),(iv g),(iv F),(iv a),(iv b)] [aO kT3 (.slice A2 N2 D2) v1.Dims,aO kT3 (.slice A3 N3 D3) v1.Strides] (fun (h:HH×HH)=>((.agg [(s3 h.1),(s3 h.2),(iv r.Offset),(iv r.Base)].toArray),[ow kT3 3 (s3 h.1) r.Dims,ow kT3 3 (s3 h.2) r.Strides])):=by
 unfold Z2c at B
 refine aQ Tryz.func160 R 14 R R fun C V=>?_
 refine cL 0 aA ?_
 rintro rfl
 refine cL 1 aA ?_
 rintro rfl
 let J:=RR kT3 A2 D2 v1.Dims::RR kT3 A3 D3 v1.Strides::V
 refine cN J ?_
 refine aV ?_
 refine eB R fun M=>?_
 refine eZ (cs:=[(iv g)]) R R R (fun O=>(eZ (cs:=[(iv F)]) R R R (fun D=>(eZ (cs:=[(iv a)]) R R R (fun E=>(eZ (cs:=[(iv b)]) R R R (fun G=>(bF R R cY (fun I=>(aC ?_))))))))))
 let U:=aJ M [(sc A2 v1.Dims D2),(sc A3 v1.Strides D3),(iv v1.Offset),(iv v1.Base)] 96::J
 refine aV ?_
 obtain ⟨i,m,B⟩:=bd B
 refine aV ?_
 refine lO (vp (.func (.func 167) [].toArray [(pt O 0),(pt E 0),(pt D 0),(pt G 0)].toArray) R) (lM _ (fun w s=>(((s.d 6 R).d 8 R).e 7 [1,0,6,4,5,3,2])) ?_)
 refine lC 6 sK R (Z33_ok m) R ?_
 rintro ⟨⟨u,L,q⟩,⟨j,T,l⟩⟩
 refine aL 0 aB ?_
 rintro rfl
 refine aL 1 aB ?_
 rintro rfl
 refine aK 6 R R cH R R R R R R (lN (_::_::_::_::_::_::aJ I [(sc u i.1.Dims q),(sc j i.1.Strides l),(iv i.1.Offset),(iv i.1.Base)] 96::U) ?_)
 refine aP ?_
 cases B
 exact qS ((u,i.1.Dims.length,q),(j,i.1.Strides.length,l)) (tE 10 [0,1])
theorem Z2l_ok  {v1:View}{b:Int}{a:Int}{l:Nat}{r:View}(i:Z2l v1 b a=some r) :
 FnOk Tryz.prog 170 [(pt l 0),(iv b),(iv a)] [ow kT3 3 (.slice A3 N3 D3) v1.Dims,ow kT3 3 (.slice A4 N4 D4) v1.Strides,aJ l [(.slice A3 N3 D3),(.slice A4 N4 D4),(iv v1.Offset),(iv v1.Base)] 96] (fun (h:HH×HH)=>((.tuple [].toArray),[ow kT3 3 (.slice h.1.1 h.1.2.1 h.1.2.2) r.Dims,ow kT3 3 (.slice h.2.1 h.2.2.1 h.2.2.2) r.Strides,aJ l [(.slice h.1.1 h.1.2.1 h.1.2.2),(.slice h.2.1 h.2.2.1 h.2.2.2),(iv r.Offset),(iv r.Base)] 96])):=by
 unfold Z2l at i
 refine aQ Tryz.func170 R 34 R R fun C V=>?_
 refine cN (_::_::_::V) ?_
 refine cL 0 aB ?_
 rintro rfl
 refine cL 1 aB ?_
 rintro rfl
 refine aM ?_
 obtain ⟨G,i⟩:=gd i
 refine aE (lP R (lP R (lP R (lO (fS 0 gK R) (lO (gB 2 cO R R R) (bM (K:=kT3) (xs:=([(0:Int)]:List Int)) (vs:=[(iv 0)]) 0 R R bK cC gF R R R R R R ?_ R (fun A7 D7=>?_)))))))
 exact fun I h s=>(gD).list [((),(0:Int))] I h s
 refine lN (OO kT3 3 A7 D7 ([(0:Int)]:List Int)::_::_::aJ l [(sc A3 v1.Dims D3),(sc A4 v1.Strides D4),(iv v1.Offset),(iv v1.Base)] 96::V) ?_
 refine lM (ow _ _ _ _::ow _ _ _ _::ow _ _ _ _::aJ _ _ _::V) (fun w s=>(s.e 4 [1,0,2,3])) ?_
 refine eD (K:=kT3) 17592186044416 R R bK cC kl (Zr.zk zT3 gF) R R R R R R dP G (fun A9 D9=>(lN (OO kT3 3 A9 D9 (v1.Dims++([(0:Int)]:List Int))::_::_::V) ?_))
 refine lP R (lO (fS 0 gK R) (cT 2 R R fU R R R R R (lN (_::_::aJ l [(sc A9 (v1.Dims++([(0:Int)]:List Int)) D9),(sc A4 v1.Strides D4),(iv v1.Offset),(iv v1.Base)] 96::V) ?_)))
 refine aC (aI (aM ?_))
 obtain ⟨F,i⟩:=gd i
 refine aE (lP R (lP R (lP R (lO (fS 1 fZ R) (lO (gB 2 cO R R R) (bM (K:=kT3) (xs:=([(0:Int)]:List Int)) (vs:=[(iv 0)]) 0 R R bK cC gF R R R R R R ?_ R (fun A10 D10=>?_)))))))
 exact fun I h s=>(gD).list [((),(0:Int))] I h s
 refine lN (OO kT3 3 A10 D10 ([(0:Int)]:List Int)::_::_::_::V) ?_
 refine lM (ow _ _ _ _::ow _ _ _ _::ow _ _ _ _::aJ _ _ _::V) (fun w s=>(s.e 4 [2,0,1,3])) ?_
 refine eD (K:=kT3) 17592186044416 R R bK cC kl (Zr.zk zT3 gF) R R R R R R dP F (fun A12 D12=>(lN (OO kT3 3 A12 D12 (v1.Strides++([(0:Int)]:List Int))::_::_::V) ?_))
 refine lP R (lO (fS 1 fZ R) (cT 2 R R fU R R R R R (lN (_::_::aJ l [(sc A9 (v1.Dims++([(0:Int)]:List Int)) D9),(sc A12 (v1.Strides++([(0:Int)]:List Int)) D12),(iv v1.Offset),(iv v1.Base)] 96::V) ?_)))
 refine aC (aI ?_)
 obtain ⟨g,E,i⟩:=bd i
 refine aE (lP R (lP R (lP R (lO (fS 0 gK R) (lO (gB 2 cO R R R) (lO (jG bK R) (lO (wB R R) (lI R (lI R (lM (ow _ _ _ _::ow _ _ _ _::aJ _ _ _::V) (fun w s=>(s.e 3 [1,0,2])) ?_))))))))))
 refine lC 3 sM R (Z0z_ok (v1:=(⟨(v1.Dims++([(0:Int)]:List Int)),(v1.Strides++([(0:Int)]:List Int)),v1.Offset,v1.Base⟩:View)) E) R ?_
 rintro ⟨⟨u,D,q⟩,⟨m,B,j⟩⟩
 refine lN (ow kT3 3 (.slice u D q) g.Dims::ow kT3 3 (.slice m B j) g.Strides::aJ l [(.slice u D q),(.slice m B j),(iv g.Offset),(iv g.Base)] 96::V) ?_
 refine aL 0 aB ?_
 rintro rfl
 refine aL 1 aB ?_
 rintro rfl
 refine aC ?_
 obtain rfl:=so i
 exact dI (vs:=[]) (.inr R) ((u,g.Dims.length,q),(m,g.Strides.length,j)) R trivial R (fun w s=>s)
theorem Z1j_ok  {p1:View}{s:Int}{l:Int}{m:Int}{E:Nat}{F:Nat}{G:Nat}{g:Nat}{r:Bool×View×Int}(b:Z1j p1 s l m=some r) :
 FnOk Tryz.prog 169 [(pt E 0),(pt F 0),(pt G 0),(pt g 0)] [ow kT3 3 (.slice A3 N3 D3) p1.Dims,ow kT3 3 (.slice A4 N4 D4) p1.Strides,aJ E [(.slice A3 N3 D3),(.slice A4 N4 D4),(iv p1.Offset),(iv p1.Base)] 96,aJ F [(iv s)] 3,aJ G [(iv l)] 3,aJ g [(iv m)] 3] (fun (h:HH×HH)=>((.bool r.1),[ow kT3 3 (s3 h.1) r.2.1.Dims,ow kT3 3 (s3 h.2) r.2.1.Strides,aJ E [(s3 h.1),(s3 h.2),(iv r.2.1.Offset),(iv r.2.1.Base)] 96,aJ F [(iv s)] 3,aJ G [(iv l)] 3,aJ g [(iv r.2.2)] 3])):=by
 unfold Z1j at b
 refine aQ Tryz.func169 R 66 R R fun C V=>?_
 refine cL 0 aB ?_
 rintro rfl
 refine cL 1 aB ?_
 rintro rfl
 refine bG ?_
 refine qM _ (tE 6 [0,1,2,5,3,4]) ?_
 let W1:=aJ F [(iv s)] 3::aJ G [(iv l)] 3::V
 refine aP ?_
 obtain ⟨q,i,b⟩:=bd b
 obtain ⟨j,b⟩:=gd b
 refine cQ [(0,(pt E 0)),(1,(pt F 0)),(2,(pt G 0)),(3,(pt g 0)),(33,(.bool ((((!q)||(decide (l<1)))||(decide (m<1)))||(decide (l>(ix p1.Dims s))))))] (aJ E [(sc A3 p1.Dims D3),(sc A4 p1.Strides D4),(iv p1.Offset),(iv p1.Base)] 96::OO kT3 3 A3 D3 p1.Dims::OO kT3 3 A4 D4 p1.Strides::aJ g [(iv m)] 3::W1) ?_ ?_
 rcases bo (!q) with Y | Y
 refine dG 26 [] bP fun L O=>?_
 refine kr 0 [] ?_
 refine d1 5 R (lC 1 gQ R (FnOk.lends (A':=[OO kT3 3 A3 D3 p1.Dims]) (A:=[RR kT3 A3 D3 p1.Dims]) (B:=[]) (Zk_ok i) ⟨aU,trivial⟩ (fun _=>trivial)) R ?_)
 rintro _
 refine aC (aG (sL []) ?_)
 refine sv 6 [] ?_
 refine dD ?_
 exact qj (tE 4 [2,0,1,3])
 rcases bo ((!q)||(decide (l<1))) with Z | Z
 refine dG 26 [] bP fun L O=>?_
 refine kr 0 [] ?_
 refine d1 5 R (lC 1 gQ R (FnOk.lends (A':=[OO kT3 3 A3 D3 p1.Dims]) (A:=[RR kT3 A3 D3 p1.Dims]) (B:=[]) (Zk_ok i) ⟨aU,trivial⟩ (fun _=>trivial)) R ?_)
 rintro _
 refine aC (aG (sL []) ?_)
 refine sv 6 [] ?_
 refine dD ?_
 exact qj (tE 4 [2,0,1,3])
 rcases bo (((!q)||(decide (l<1)))||(decide (m<1))) with e | e
 refine dG 26 [] bP fun L O=>?_
 refine kr 0 [] ?_
 refine d1 5 R (lC 1 gQ R (FnOk.lends (A':=[OO kT3 3 A3 D3 p1.Dims]) (A:=[RR kT3 A3 D3 p1.Dims]) (B:=[]) (Zk_ok i) ⟨aU,trivial⟩ (fun _=>trivial)) R ?_)
 rintro _
 refine aC (aG (sL []) ?_)
 refine sv 6 [] ?_
 refine dD ?_
 exact qj (tE 4 [2,0,1,3])
 refine aZ 0 aB (show 0<p1.Dims.length by have:=(j e); omega) (fun U o15 I=>?_)
 subst I
 refine dG 26 [] bP fun L O=>?_
 refine kr 0 [] ?_
 refine d1 5 R (lC 1 gQ R (FnOk.lends (A':=[OO kT3 3 (ad U o15) D3 p1.Dims]) (A:=[RR kT3 (ad U o15) D3 p1.Dims]) (B:=[]) (Zk_ok i) ⟨aU,trivial⟩ (fun _=>trivial)) R ?_)
 rintro _
 refine aC (aG (sL []) ?_)
 refine AK 6 [] ?_
 refine dW 22 R (b' e) (eI bK cC R R (j e)) (dW 23 R (b' e) (gP 0 fP aB R (j e)) ?_)
 refine gT 24 [] ?_
 refine dD ?_
 exact qj (tE 4 [2,0,1,3])
 rintro σ1
 refine bT ?_
 split at b
 refine cZ ?_
 cases b
 exact qF ((A3,p1.Dims.length,D3),(A4,p1.Strides.length,D4)) (tE 6 [1,2,0,4,5,3])
 refine bG ?_
 obtain ⟨M,b⟩:=gd b
 refine aZ 2 aB (show 0<p1.Strides.length by have:=M; omega) (fun u o22 I=>?_)
 subst I
 refine dG 8 [] bP fun L O=>?_
 refine ut 0 [] ?_
 refine dD ?_
 refine aV ?_
 obtain ⟨a2,b⟩:=gd b
 obtain ⟨a1,b⟩:=gd b
 refine aZ 1 aB (show 0<p1.Dims.length by have:=a2; omega) (fun D o25 I=>?_)
 subst I
 refine dG 13 [] bP fun L O=>?_
 refine ra 0 [] ?_
 refine dR 10 R (vz (iv (aH ((aH ((ix p1.Dims s) - l)).tdiv m))) (mo R R a1)) ?_
 refine gT 11 [] ?_
 refine dD (aI (aM (bB (A:=(Int)×(Unit)) (fun a=>Z1j_J3 p1 s l m a.1=some r) (fun a=>[(0,(pt E 0)),(1,(pt F 0)),(2,(pt G 0)),(3,(pt g 0)),(6,(iv (ix p1.Strides s))),(7,(iv (aH ((aH ((aH ((ix p1.Dims s) - l)).tdiv m))+1))))]) (fun a=>aJ E [(sc (ad D o25) p1.Dims D3),(sc (ad u o22) p1.Strides D4),(iv p1.Offset),(iv p1.Base)] 96::OO kT3 3 (ad D o25) D3 p1.Dims::OO kT3 3 (ad u o22) D4 p1.Strides::aJ g [(iv a.1)] 3::W1) ?_ ?_)))
 refine bV ?_
 split at b
 refine aV ?_
 refine cT 3 R R cC R R R R R (lN (aJ E [(sc (ad D o25) p1.Dims D3),(sc (ad u o22) p1.Strides D4),(iv p1.Offset),(iv p1.Base)] 96::OO kT3 3 (ad D o25) D3 p1.Dims::OO kT3 3 (ad u o22) D4 p1.Strides::aJ g [(iv 0)] 3::W1) ?_)
 refine bT ?_
 exact qI ((0:Int),()) b tI
 refine aV ?_
 exact qI (m,()) b tI
 rintro ⟨a8,_⟩ σ1 b
 dsimp only [Z1j_J3] at b
 refine bT ?_
 obtain ⟨a9,J,b⟩:=bd b
 refine dN ?_
 refine lM _ (tE 4 [1,2,0,3]) ?_
 refine lC 3 sM R (Z0z_ok J) R ?_
 rintro ⟨⟨ae,ac,ab⟩,⟨ag,ah,aa⟩⟩
 refine aL 0 aB ?_
 rintro rfl
 refine aL 1 aB ?_
 rintro rfl
 refine aP ?_
 obtain ⟨T,a0,b⟩:=bd b
 refine bG ?_
 refine lC 3 zy R (Z2l_ok a0) R ?_
 rintro ⟨⟨a4,a7,a6⟩,⟨a5,ai,a3⟩⟩
 refine aL 0 aB ?_
 rintro rfl
 refine aL 1 aB ?_
 rintro rfl
 refine cZ ?_
 cases b
 exact qF ((a4,T.Dims.length,a6),(a5,T.Strides.length,a3)) (tE 6 [0,1,2,4,5,3])
theorem Z35_ok  {v1:View}{q5:Int}{q7:Int}{q9:Int}{b6:Nat}{b8:Nat}{F:Nat}{r:View×Int}(D:Z35 v1 q5 q7 q9=some r) :
 FnOk Tryz.prog 165 [(.agg [(.slice A2 N2 D2),(.slice A3 N3 D3),(iv v1.Offset),(iv v1.Base)].toArray),(.func (.func 169) [].toArray [(pt b6 0),(pt b8 0),(pt F 0)].toArray)] [aO kT3 (.slice A2 N2 D2) v1.Dims,aO kT3 (.slice A3 N3 D3) v1.Strides,aJ b6 [(iv q5)] 3,aJ b8 [(iv q7)] 3,aJ F [(iv q9)] 3] (fun (h:HH×HH)=>((.agg [(s3 h.1),(s3 h.2),(iv r.1.Offset),(iv r.1.Base)].toArray),[ow kT3 3 (s3 h.1) r.1.Dims,ow kT3 3 (s3 h.2) r.1.Strides,aJ b6 [(iv q5)] 3,aJ b8 [(iv q7)] 3,aJ F [(iv r.2)] 3])):=by
 unfold Z35 at D
 refine aQ Tryz.func165 R 31 R R fun C V=>?_
 refine cM _ (fun w s=>(s.f 5 [2,3,0,2])) ?_
 refine cL 3 aA ?_
 rintro rfl
 refine cL 4 aA ?_
 rintro rfl
 let W0:=RR kT3 A2 D2 v1.Dims::RR kT3 A3 D3 v1.Strides::V
 refine aV ?_
 refine eB R fun a8=>?_
 refine bF R R cY (fun J=>(aC (qM _ (tE 5 [0,2,3,4,1]) ?_)))
 let W1:=aJ a8 [(sc A2 v1.Dims D2),(sc A3 v1.Strides D3),(iv v1.Offset),(iv v1.Base)] 96::W0
 refine aP ?_
 obtain ⟨ah,a3,D⟩:=bd D
 refine aV ?_
 refine lM _ (fun w s=>(((s.d 5 R).d 7 R).e 6 [1,0,2,3,4,5])) ?_
 refine lC 2 mC R (Zg_ok a3) R ?_
 rintro _
 refine aP ?_
 split at D
 refine aP ?_
 refine lO (vz (.agg [(.slice none 0 0),(.slice none 0 0),(iv 0),(iv 0)].toArray) (aW fE cY R R)) (aK 0 R R cH R R R R R R (aC (aI (bW (cE ?_)))))
 cases D
 exact qS ((none,0,0),(none,0,0)) (fun w s=>(((s.nilo kT3 3).nilo kT3 3).e 9 [1,0,3,4,5]))
 refine bG ?_
 obtain ⟨g,a0,D⟩:=bd D
 obtain ⟨i,L,D⟩:=bd D
 refine iU (A:=(Unit)×(Nat×HH×HH)) (fun _=>True) (fun a=>[(1,(.func (.func 169) [].toArray [(pt b6 0),(pt b8 0),(pt F 0)].toArray)),(4,(pt J 0)),(5,(pt a.2.1 0))]) (fun a=>aJ b6 [(iv q5)] 3::aJ b8 [(iv q7)] 3::aJ F [(iv q9)] 3::aJ J [(.slice none 0 0),(.slice none 0 0),(iv 0),(iv 0)] 96::aJ a.2.1 [(s3 a.2.2.1),(s3 a.2.2.2),(iv v1.Offset),(iv v1.Base)] 96::ow kT3 3 (s3 a.2.2.1) g::ow kT3 3 (s3 a.2.2.2) i::W1) ?_ ?_
 refine dG 13 [] bP fun ht hn=>?_
 refine gT 0 [] ?_
 refine gT 3 [] ?_
 refine oA 6 [] ?_
 refine hX [2,11] (by kernel_rfl) R ⟨?_,?_,trivial⟩
 refine lM _ (fun w s=>(s.d 5 R)) ?_
 refine lC 1 jx R (Zn_ok a0) R ?_
 rintro ⟨q,a9,m⟩
 refine aL 0 aB ?_
 rintro rfl
 refine aC (aG (sL [0]) (hX [5,11] (by kernel_rfl) R ⟨?_,?_,trivial⟩))
 refine lM _ (fun w s=>(s.d 7 R)) ?_
 refine lC 1 jx R (Zn_ok L) R ?_
 rintro ⟨l,a6,j⟩
 refine aL 0 aB ?_
 rintro rfl
 refine aC (aG (sL [1,0]) (dR 10 R (vz (.agg [(sc q g m),(sc l i j),(iv v1.Offset),(iv v1.Base)].toArray) (aW fE cY R R)) (hS:=(sL [1,0])) (d1 11 R (bF R R cY (fun E=>(aC (aG (sL [2,1,0]) (d1 12 R (aK 0 R R cH R R R R R R (lN (aJ E [(sc q g m),(sc l i j),(iv v1.Offset),(iv v1.Base)] 96::_::_::_::_::_::_::W1) ?_))))))))))
 refine aC (aG (sL [2,1,0]) (dD ?_))
 exact cR ((),(E,(q,g.length,m),(l,i.length,j))) trivial (aS R) (tE 7 [4,5,6,3,0,2,1])
 refine bF R R cY (fun E=>(aC (aG (sL [1,0]) (d1 5 R (lM _ (fun w s=>(s.d 8 R)) ?_)))))
 refine lC 1 jx R (Zn_ok L) R ?_
 rintro ⟨l,a6,j⟩
 refine aL 0 aB ?_
 rintro rfl
 refine aC (aG (sL [2,1,0]) (dR 10 R (vz (.agg [(sc q g m),(sc l i j),(iv v1.Offset),(iv v1.Base)].toArray) (aW fE cY R R)) (hS:=(sL [2,1,0])) (d1 12 R (aK 1 R R cH R R R R R R (lN (_::aJ E [(sc q g m),(sc l i j),(iv v1.Offset),(iv v1.Base)] 96::_::_::_::_::_::W1) ?_)))))
 refine aC (aG (sL [2,1,0]) (dD ?_))
 exact cR ((),(E,(q,g.length,m),(l,i.length,j))) trivial (aS R) (tE 7 [4,5,6,3,1,2,0])
 refine bF R R cY (fun E=>(aC (aG (sL [0]) (d1 2 R (lM _ (fun w s=>(s.d 6 R)) ?_)))))
 refine lC 1 jx R (Zn_ok a0) R ?_
 rintro ⟨q,a9,m⟩
 refine aL 0 aB ?_
 rintro rfl
 refine aC (aG (sL [1,0]) (d1 5 R (lM _ (fun w s=>(s.d 8 R)) ?_)))
 refine lC 1 jx R (Zn_ok L) R ?_
 rintro ⟨l,a6,j⟩
 refine aL 0 aB ?_
 rintro rfl
 refine aC (aG (sL [2,1,0]) (dR 10 R (vz (.agg [(sc q g m),(sc l i j),(iv v1.Offset),(iv v1.Base)].toArray) (aW fE cY R R)) (hS:=(sL [2,1,0])) (d1 12 R (aK 2 R R cH R R R R R R (lN (_::_::aJ E [(sc q g m),(sc l i j),(iv v1.Offset),(iv v1.Base)] 96::_::_::_::_::W1) ?_)))))
 refine aC (aG (sL [2,1,0]) (dD ?_))
 exact cR ((),(E,(q,g.length,m),(l,i.length,j))) trivial (aS R) (tE 7 [4,5,6,3,2,1,0])
 rintro ⟨_,⟨a2,⟨ai,ae,am⟩,⟨ak,aa,aj⟩⟩⟩ σ1 -
 refine hY 5 aB (fun (hn:ae=g.length)=>?_)
 subst hn
 refine hY 6 aB (fun (hn:aa=i.length)=>?_)
 subst hn
 refine aP ?_
 obtain ⟨b,a7,D⟩:=bd D
 obtain ⟨a5,a4,D⟩:=bd D
 refine iU (A:=(Unit)×(HH×HH)) (fun _=>True) (fun a=>[(4,(pt J 0)),(5,(pt a2 0)),(28,(.bool ((!b.1)||(!a5))))]) (fun a=>aJ J [(.slice none 0 0),(.slice none 0 0),(iv 0),(iv 0)] 96::aJ a2 [(s3 a.2.1),(s3 a.2.2),(iv b.2.1.Offset),(iv b.2.1.Base)] 96::ow kT3 3 (s3 a.2.1) b.2.1.Dims::ow kT3 3 (s3 a.2.2) b.2.1.Strides::aJ b6 [(iv q5)] 3::aJ b8 [(iv q7)] 3::aJ F [(iv b.2.2)] 3::W1) ?_ ?_
 refine aE (lO (vp _ R) (lM _ (fun w s=>(s.f 7 [5,2,4,1,0,4])) ?_))
 refine cF (fs:=[]) (cs:=[(pt b6 0),(pt b8 0),(pt F 0)]) 6 R R zz R R (Z1j_ok (p1:=(⟨g,i,v1.Offset,v1.Base⟩:View)) a7) R ?_
 rintro ⟨⟨O,ag,I⟩,⟨G,al,M⟩⟩
 refine aL 0 aB ?_
 rintro rfl
 refine aL 1 aB ?_
 rintro rfl
 refine aV ?_
 rcases bo (!b.1) with u | u
 refine aP ?_
 refine lO (fA (!a5) R u) (aC ?_)
 exact cR ((),((O,b.2.1.Dims.length,I),(G,b.2.1.Strides.length,M))) trivial (aS R) (tE 7 [6,2,0,1,3,4,5])
 refine lW (b' u) (vz (.agg [(sc O b.2.1.Dims I),(sc G b.2.1.Strides M),(iv b.2.1.Offset),(iv b.2.1.Base)].toArray) (dJ 2 gJ cH R R R R)) (bY 2 R (b' u) mC R (FnOk.lends (A':=[OO kT3 3 O I b.2.1.Dims,OO kT3 3 G M b.2.1.Strides]) (A:=[RR kT3 O I b.2.1.Dims,RR kT3 G M b.2.1.Strides]) (B:=[]) (Zg_ok (bN a4 (cS u))) ⟨aU,aU,trivial⟩ (fun _=>trivial)) R ?_)
 rintro _
 refine bT ?_
 refine lO (fT R u R) (aC ?_)
 exact cR ((),((O,b.2.1.Dims.length,I),(G,b.2.1.Strides.length,M))) trivial (aS R) (tE 7 [6,2,0,1,3,4,5])
 rintro ⟨_,⟨⟨U,ac,Y⟩,⟨T,ab,Z⟩⟩⟩ σ1 -
 refine hY 2 aB (fun (hn:ac=b.2.1.Dims.length)=>?_)
 subst hn
 refine hY 3 aB (fun (hn:ab=b.2.1.Strides.length)=>?_)
 subst hn
 refine bT ?_
 rcases cG D with ⟨a1,D⟩|⟨a1,D⟩
 refine aP ?_
 refine lO (vz (.agg [(.slice none 0 0),(.slice none 0 0),(iv 0),(iv 0)].toArray) (aW fE cY R R)) (aK 0 R R cH R R R R R R (lN (_::aJ a2 [(sc U b.2.1.Dims Y),(sc T b.2.1.Strides Z),(iv b.2.1.Offset),(iv b.2.1.Base)] 96::OO kT3 3 U Y b.2.1.Dims::OO kT3 3 T Z b.2.1.Strides::_::_::_::W1) ?_))
 refine bG ?_
 cases D
 exact qS ((none,0,0),(none,0,0)) (fun w s=>(((s.nilo kT3 3).nilo kT3 3).e 12 [1,0,6,7,8]))
 refine bJ R a1 ?_
 refine cA ?_
 refine aK 0 R R cH R R R R R R (lN (aJ J [(sc U b.2.1.Dims Y),(sc T b.2.1.Strides Z),(iv b.2.1.Offset),(iv b.2.1.Base)] 96::_::_::_::_::_::_::W1) ?_)
 refine aP ?_
 cases D
 exact qS ((U,b.2.1.Dims.length,Y),(T,b.2.1.Strides.length,Z)) (fun w s=>(s.f 10 [2,5]))
theorem Z2e_ok  {v1:View}{a:Int}{g:Int}{b:Int}{r:View}(q:Z2e v1 a g b=some r) :
 FnOk Tryz.prog 161 [(.agg [(.slice A2 N2 D2),(.slice A3 N3 D3),(iv v1.Offset),(iv v1.Base)].toArray),(iv a),(iv g),(iv b)] [aO kT3 (.slice A2 N2 D2) v1.Dims,aO kT3 (.slice A3 N3 D3) v1.Strides] (fun (h:HH×HH)=>((.agg [(s3 h.1),(s3 h.2),(iv r.Offset),(iv r.Base)].toArray),[ow kT3 3 (s3 h.1) r.Dims,ow kT3 3 (s3 h.2) r.Strides])):=by
 unfold Z2e at q
 refine aQ Tryz.func161 R 12 R R fun C V=>?_
 refine cL 0 aA ?_
 rintro rfl
 refine cL 1 aA ?_
 rintro rfl
 let D:=RR kT3 A2 D2 v1.Dims::RR kT3 A3 D3 v1.Strides::V
 refine cN D ?_
 refine aV ?_
 refine eB R fun E=>?_
 refine eZ (cs:=[(iv a)]) R R R (fun G=>(eZ (cs:=[(iv g)]) R R R (fun I=>(eZ (cs:=[(iv b)]) R R R (fun u=>(bF R R cY (fun B=>(aC ?_))))))))
 let J:=aJ E [(sc A2 v1.Dims D2),(sc A3 v1.Strides D3),(iv v1.Offset),(iv v1.Base)] 96::D
 refine aV ?_
 obtain ⟨i,m,q⟩:=bd q
 refine aV ?_
 refine lO (vp (.func (.func 169) [].toArray [(pt G 0),(pt I 0),(pt u 0)].toArray) R) (lM _ (fun w s=>(((s.d 5 R).d 7 R).e 6 [1,0,5,4,3,2])) ?_)
 refine lC 5 sK R (Z35_ok m) R ?_
 rintro ⟨⟨A14,N14,D14⟩,⟨l,F,j⟩⟩
 refine aL 0 aB ?_
 rintro rfl
 refine aL 1 aB ?_
 rintro rfl
 refine aK 5 R R cH R R R R R R (lN (_::_::_::_::_::aJ B [(sc A14 i.1.Dims D14),(sc l i.1.Strides j),(iv i.1.Offset),(iv i.1.Base)] 96::J) ?_)
 refine aP ?_
 cases q
 exact qS ((A14,i.1.Dims.length,D14),(l,i.1.Strides.length,j)) (tE 9 [0,1])
theorem Z1c_ok  {l:Node}{F:(List Int)}{r:View}(i:Z1c l F=some r) :
 FnOk Tryz.prog 146 [(.agg [(iv l.Op),(.slice A2 N2 D2),(.slice A3 N3 D3),(.slice A4 N4 D4),(aD l.Form),(.slice A5 N5 D5)].toArray),(.slice A7 N7 D7)] [aO kT3 (.slice A2 N2 D2) l.Args,aO kT3 (.slice A3 N3 D3) l.Dims,aO kT3 (.slice A4 N4 D4) l.Ints,aO kT3 (.slice A5 N5 D5) l.Data,aO kT3 (.slice A7 N7 D7) F] (fun (h:HH×HH)=>((.agg [(.slice h.1.1 h.1.2.1 h.1.2.2),(.slice h.2.1 h.2.2.1 h.2.2.2),(iv r.Offset),(iv r.Base)].toArray),[aO kT3 (.slice h.1.1 h.1.2.1 h.1.2.2) r.Dims,aO kT3 (.slice h.2.1 h.2.2.1 h.2.2.2) r.Strides])):=by
 unfold Z1c at i
 refine aQ Tryz.func146 R 76 R R fun C V=>?_
 refine cN (_::_::_::_::_::V) ?_
 refine cL 0 aA ?_
 rintro rfl
 refine cL 1 aA ?_
 rintro rfl
 refine cL 2 aA ?_
 rintro rfl
 refine cL 3 aA ?_
 rintro rfl
 refine cL 4 aA ?_
 rintro rfl
 let W0:List HP:=RR kT3 A2 D2 l.Args::RR kT3 A3 D3 l.Dims::RR kT3 A4 D4 l.Ints::RR kT3 A5 D5 l.Data::RR kT3 A7 D7 F::V
 refine cN W0 ?_
 refine aM (aE (eB R (fun b8=>(bF R R cY (fun I=>(aC ?_))))))
 let G:List HP:=aJ b8 [(iv l.Op),(sc A2 l.Args D2),(sc A3 l.Dims D3),(sc A4 l.Ints D4),(aD l.Form),(sc A5 l.Data D5)] 54::W0
 refine qN (_::G) ?_
 refine aI (aM ?_)
 obtain ⟨a,ak,i⟩:=bd i
 refine aE (lS R (lM (RR kT3 A7 D7 F::_::G) (fun w s=>(s.d 6 R)) ?_))
 refine lC 1 zr R (Z2m_ok ak) R ?_
 rintro ⟨⟨A12,N12,D12⟩,⟨q,au,m⟩⟩
 refine lN (ow kT3 3 (.slice A12 N12 D12) a.Dims::ow kT3 3 (.slice q au m) a.Strides::_::G) ?_
 refine aL 0 aB ?_
 rintro rfl
 refine aL 1 aB ?_
 rintro rfl
 refine bF R R cY (fun L=>(aK 0 R R cH R R R R R R (lN (aJ L [(sc A12 a.Dims D12),(sc q a.Strides m),(iv a.Offset),(iv a.Base)] 96::_::_::_::G) ?_)))
 refine aC (aI (aM (dC (aM (aE (lO (fS 0 jw R) (lO (gB 4 fP R R R) (lO (lK R R) (lB R (aC (aI ?_)))))))))))
 rcases cG i with ⟨J,i⟩|⟨J,i⟩
 refine bZ R J (aM ?_)
 obtain ⟨E,al,i⟩:=bd i
 refine aE (lO (vz (.agg [(sc A12 a.Dims D12),(sc q a.Strides m),(iv a.Offset),(iv a.Base)].toArray) (dJ 0 gJ cH R R R R)) (lO (fS 2 ks R) (lO (gB 4 cO R R R) (iT (fun w s=>s.shr 1 R) (iT (fun w s=>s.shr 2 R) (lM (RR kT3 A12 D12 a.Dims::RR kT3 q m a.Strides::RR kT3 A3 D3 l.Dims::RR kT3 q m a.Strides::RR kT3 A12 D12 a.Dims::aJ _ _ _::aJ _ _ _::G) (fun w s=>((((s.d 1 R).d 1 R).d 8 R).e 7 [2,1,0,3,4,5,6])) ?_))))))
 refine lC 3 zu R (Z2d_ok al) R ?_
 rintro ⟨⟨a4,ao,a1⟩,⟨a8,am,a2⟩⟩
 refine lN (aO kT3 (.slice a4 ao a1) E.Dims::aO kT3 (.slice a8 am a2) E.Strides::_::_::_::_::G) ?_
 refine aL 0 aA ?_
 rintro rfl
 refine aL 1 aA ?_
 rintro rfl
 refine aK 5 R R cH R R R R R R (lN (_::_::_::_::_::aJ I [(sc a4 E.Dims a1),(sc a8 E.Strides a2),(iv E.Offset),(iv E.Base)] 96::G) ?_)
 refine aC (aI (bW (dF (cE ?_))))
 obtain rfl:=so i
 exact dI (vs:=[(.agg [(sc a4 E.Dims a1),(sc a8 E.Strides a2),(iv E.Offset),(iv E.Base)].toArray)]) (.inl R) ((a4,E.Dims.length,a1),(a8,E.Strides.length,a2)) R ⟨⟨5,I,_,_,R,R,.inl ⟨gJ,cH,R⟩⟩,trivial⟩ R (fun w s=>(s.e 12 [0,1]))
 refine bJ R J (aM ?_)
 obtain ⟨O,i⟩:=gd i
 refine cQ [(2,(pt b8 0)),(4,(pt I 0)),(5,(pt L 0)),(16,(.bool (((l.Op==(14:Int))&&((l.Ints.length:Int)==(4:Int)))&&(decide ((ix l.Ints (3:Int))≥(1:Int))))))] (aJ I [(.slice none 0 0),(.slice none 0 0),(iv 0),(iv 0)] 96::aJ L [(sc A12 a.Dims D12),(sc q a.Strides m),(iv a.Offset),(iv a.Base)] 96::OO kT3 3 A12 D12 a.Dims::OO kT3 3 q m a.Strides::G) ?_ ?_
 refine aE (lO (fS 0 jw R) (lO (gB 4 fP R R R) (lO (lK R R) (lB R ?_))))
 rcases bo (l.Op==(14:Int)) with b | b
 refine lW (eE b) (fS 3 gV R) (lW (eE b) (gB 4 cO R R R) (lW (eE b) (jG bK R) (lW (eE b) (lK R R) (lO (j5 R b R) (lB R ?_)))))
 rcases bo ((l.Op==(14:Int))&&((l.Ints.length:Int)==(4:Int))) with g | g
 refine lW (eE g) (fS 3 gV R) (lW (eE g) (gB 4 cO R R R) (bC 7 aA (show 0<l.Ints.length by have:=(O g); omega) (fun av o22 ha=>?_)))
 subst ha
 refine lW (eE g) (eI bK cC R R (O g)) (lW (eE g) (gP 7 fP aA R (O g)) (lW (eE g) (Ao R R) (lO (j5 R g R) (lB R (aC ?_)))))
 exact qJ (fun w s=>(s.e 4 [3,0,1,2]))
 refine lf (o3 g) (lf (o3 g) (lf (o3 g) (lf (o3 g) (lf (o3 g) (lO (kq (decide ((ix l.Ints (3:Int))≥(1:Int))) R g) (lB R (aC ?_)))))))
 exact qJ (fun w s=>(s.e 4 [3,0,1,2]))
 refine lf (o3 b) (lf (o3 b) (lf (o3 b) (lf (o3 b) (lO (kq ((l.Ints.length:Int)==(4:Int)) R b) (lB R (lf (o3 (aF b)) (lf (o3 (aF b)) (lf (o3 (aF b)) (lf (o3 (aF b)) (lf (o3 (aF b)) (lO (kq (decide ((ix l.Ints (3:Int))≥(1:Int))) R (aF b)) (lB R (aC ?_)))))))))))))
 exact qJ (fun w s=>(s.e 4 [3,0,1,2]))
 rintro σ1
 refine aI ?_
 rcases cG i with ⟨M,i⟩|⟨M,i⟩
 refine bZ R M (aM ?_)
 obtain ⟨Y,i⟩:=gd i
 obtain ⟨ah,i⟩:=gd i
 obtain ⟨ab,i⟩:=gd i
 obtain ⟨ag,i⟩:=gd i
 obtain ⟨u,ai,i⟩:=bd i
 refine aZ 7 aA (show 0<l.Ints.length by have:=Y; omega) (fun ax o28 ha=>?_)
 subst ha
 refine dG 19 [0] bP (fun ht hn=>(dR 0 R (vz (.agg [(sc A12 a.Dims D12),(sc q a.Strides m),(iv a.Offset),(iv a.Base)].toArray) (dJ 0 gJ cH R R R R)) (hS:=(sL [0])) (dR 1 R (fS 3 gV R) (hS:=(sL [0])) (dR 2 R (gB 3 cO R R R) (hS:=(sL [0])) (dR 3 R (eI bK cC R R Y) (hS:=(sL [0])) (dR 4 R (gP 6 fP aA R Y) (hS:=(sL [0])) (dR 5 R (fS 3 gV R) (hS:=(sL [0])) (dR 6 R (gB 3 cO R R R) (hS:=(sL [0])) (dR 7 R (eI bK cC R R ah) (hS:=(sL [0])) (dR 8 R (gP 6 fP aA R ah) (hS:=(sL [0])) (dR 9 R (fS 3 gV R) (hS:=(sL [0])) (dR 10 R (gB 3 cO R R R) (hS:=(sL [0])) (dR 11 R (eI bK cC R R ab) (hS:=(sL [0])) (dR 12 R (gP 6 fP aA R ab) (hS:=(sL [0])) (dR 13 R (fS 3 gV R) (hS:=(sL [0])) (dR 14 R (gB 3 cO R R R) (hS:=(sL [0])) (dR 15 R (eI bK cC R R ag) (hS:=(sL [0])) (dR 16 R (gP 6 fP aA R ag) (hS:=(sL [0])) (d1 17 R (lM (OO kT3 3 A12 D12 a.Dims::OO kT3 3 q m a.Strides::aJ I [(.slice none 0 0),(.slice none 0 0),(iv 0),(iv 0)] 96::aJ _ _ _::G) (fun w s=>(s.e 4 [2,3,0,1])) ?_))))))))))))))))))))
 refine lC 2 zx R (FnOk.lends (A':=[OO kT3 3 A12 D12 a.Dims,OO kT3 3 q m a.Strides]) (A:=[RR kT3 A12 D12 a.Dims,RR kT3 q m a.Strides]) (B:=[]) (Z2c_ok ai) ⟨aU,aU,trivial⟩ (fun _=>⟨(bI iW),(bI iW),trivial⟩)) R ?_
 rintro ⟨⟨a0,ar,a9⟩,⟨a3,ap,a7⟩⟩
 refine lN (_::_::ow kT3 3 (.slice a0 ar a9) u.Dims::ow kT3 3 (.slice a3 ap a7) u.Strides::_::_::G) ?_
 refine aL 2 aB ?_
 rintro rfl
 refine aL 3 aB ?_
 rintro rfl
 refine aC (aG (fun w s=>(s.e 6 [5,0,1])) (d1 18 R (aK 4 R R cH R R R R R R (lN (_::_::_::_::aJ I [(sc a0 u.Dims a9),(sc a3 u.Strides a7),(iv u.Offset),(iv u.Base)] 96::_::G) ?_))))
 refine aC (aG (fun w s=>(s.e 6 [5,0,1])) (dD (aI (bW (dF (cE ?_))))))
 obtain rfl:=so i
 exact dI (vs:=[(.agg [(sc a0 u.Dims a9),(sc a3 u.Strides a7),(iv u.Offset),(iv u.Base)].toArray)]) (.inl R) ((a0,u.Dims.length,a9),(a3,u.Strides.length,a7)) R ⟨⟨4,I,_,_,R,R,.inl ⟨gJ,cH,R⟩⟩,trivial⟩ R (fun w s=>(((s.shr 2 R).shr 3 R).e 12 [1,0]))
 refine bJ R M (aM (cQ [(2,(pt b8 0)),(4,(pt I 0)),(5,(pt L 0)),(51,(.bool ((l.Op==(18:Int))&&((l.Ints.length:Int)==(3:Int)))))] (aJ I [(.slice none 0 0),(.slice none 0 0),(iv 0),(iv 0)] 96::aJ L [(sc A12 a.Dims D12),(sc q a.Strides m),(iv a.Offset),(iv a.Base)] 96::OO kT3 3 A12 D12 a.Dims::OO kT3 3 q m a.Strides::G) ?_ ?_))
 refine aE (lO (fS 0 jw R) (lO (gB 4 fP R R R) (lO (lK R R) (lB R ?_))))
 rcases bo (l.Op==(18:Int)) with j | j
 refine lW (eE j) (fS 3 gV R) (lW (eE j) (gB 4 cO R R R) (lW (eE j) (jG bK R) (lW (eE j) (lK R R) (lO (j5 R j R) (lB R (aC ?_))))))
 exact qJ (fun w s=>s)
 refine lf (o3 j) (lf (o3 j) (lf (o3 j) (lf (o3 j) (lO (kq ((l.Ints.length:Int)==(3:Int)) R j) (lB R (aC ?_))))))
 exact qJ (fun w s=>s)
 rintro σ1
 refine aI ?_
 rcases cG i with ⟨U,i⟩|⟨U,i⟩
 refine bZ R U (aM ?_)
 obtain ⟨T,i⟩:=gd i
 obtain ⟨ac,i⟩:=gd i
 obtain ⟨ae,i⟩:=gd i
 obtain ⟨D,aj,i⟩:=bd i
 refine aZ 7 aA (show 0<l.Ints.length by have:=T; omega) (fun aw o40 ha=>?_)
 subst ha
 refine dG 15 [0] bP (fun ht hn=>(dR 0 R (vz (.agg [(sc A12 a.Dims D12),(sc q a.Strides m),(iv a.Offset),(iv a.Base)].toArray) (dJ 0 gJ cH R R R R)) (hS:=(sL [0])) (dR 1 R (fS 3 gV R) (hS:=(sL [0])) (dR 2 R (gB 3 cO R R R) (hS:=(sL [0])) (dR 3 R (eI bK cC R R T) (hS:=(sL [0])) (dR 4 R (gP 6 fP aA R T) (hS:=(sL [0])) (dR 5 R (fS 3 gV R) (hS:=(sL [0])) (dR 6 R (gB 3 cO R R R) (hS:=(sL [0])) (dR 7 R (eI bK cC R R ac) (hS:=(sL [0])) (dR 8 R (gP 6 fP aA R ac) (hS:=(sL [0])) (dR 9 R (fS 3 gV R) (hS:=(sL [0])) (dR 10 R (gB 3 cO R R R) (hS:=(sL [0])) (dR 11 R (eI bK cC R R ae) (hS:=(sL [0])) (dR 12 R (gP 6 fP aA R ae) (hS:=(sL [0])) (d1 13 R (lM (ow _ _ _ _::ow _ _ _ _::aJ I [(.slice none 0 0),(.slice none 0 0),(iv 0),(iv 0)] 96::aJ _ _ _::G) (fun w s=>(s.e 4 [2,3,0,1])) ?_))))))))))))))))
 refine lC 2 zA R (FnOk.lends (A':=[OO kT3 3 A12 D12 a.Dims,OO kT3 3 q m a.Strides]) (A:=[RR kT3 A12 D12 a.Dims,RR kT3 q m a.Strides]) (B:=[]) (Z2e_ok aj) ⟨aU,aU,trivial⟩ (fun _=>⟨(bI iW),(bI iW),trivial⟩)) R ?_
 rintro ⟨⟨aa,an,a6⟩,⟨Z,aq,a5⟩⟩
 refine lN (_::_::ow kT3 3 (.slice aa an a6) D.Dims::ow kT3 3 (.slice Z aq a5) D.Strides::_::_::G) ?_
 refine aL 2 aB ?_
 rintro rfl
 refine aL 3 aB ?_
 rintro rfl
 refine aC (aG (fun w s=>(s.e 6 [5,0,1])) (d1 14 R (aK 4 R R cH R R R R R R (lN (_::_::_::_::aJ I [(sc aa D.Dims a6),(sc Z D.Strides a5),(iv D.Offset),(iv D.Base)] 96::_::G) ?_))))
 refine aC (aG (fun w s=>(s.e 6 [5,0,1])) (dD (aI (bW (dF (cE ?_))))))
 obtain rfl:=so i
 exact dI (vs:=[(.agg [(sc aa D.Dims a6),(sc Z D.Strides a5),(iv D.Offset),(iv D.Base)].toArray)]) (.inl R) ((aa,D.Dims.length,a6),(Z,D.Strides.length,a5)) R ⟨⟨4,I,_,_,R,R,.inl ⟨gJ,cH,R⟩⟩,trivial⟩ R (fun w s=>(((s.shr 2 R).shr 3 R).e 12 [1,0]))
 refine bJ R U (cP (dO (aI (aM (aE (lO (vz (.agg [(.slice none 0 0),(.slice none 0 0),(iv 0),(iv 0)].toArray) (aW fE cY R R)) (aK 0 R R cH R R R R R R (lN (aJ I [(.slice none 0 0),(.slice none 0 0),(iv 0),(iv 0)] 96::_::_::_::G) ?_))))))))
 refine aC (aI (bW ?_))
 obtain rfl:=so i
 exact dI (vs:=[(.agg [(.slice none 0 0),(.slice none 0 0),(iv 0),(iv 0)].toArray)]) (.inl R) ((none,0,0),(none,0,0)) R ⟨⟨0,I,_,_,R,R,.inl ⟨gJ,cH,R⟩⟩,trivial⟩ R (fun w s=>(((s.nilr kT3).nilr kT3).e 12 [1,0]))
theorem Z32_ok  {e:(List Int)}{a:(List Int)}{b:Int}{r:(List Int)×Int×(List Int)}(m:Z32 e a b=some r) :
 FnOk Tryz.prog 157 [(.slice A2 N2 D2),(.slice A4 N4 D4),(iv b)] [aO kT3 (.slice A2 N2 D2) e,aO kT3 (.slice A4 N4 D4) a] (fun (h:HH×Nat×Nat×HH×Nat)=>((.func (.func 163) [].toArray [(pt h.2.1 0),(pt h.2.2.1 0),(pt h.2.2.2.2 0)].toArray),[aO kT3 (s3 h.1) r.1,aJ h.2.1 [(s3 h.1)] 23,aJ h.2.2.1 [(iv r.2.1)] 3,aO kT3 (s3 h.2.2.2.1) r.2.2,aJ h.2.2.2.2 [(s3 h.2.2.2.1)] 23])):=by
 unfold Z32 at m
 refine aQ Tryz.func157 R 8 R R fun C V=>?_
 refine cL 0 aA ?_
 rintro rfl
 refine cL 1 aA ?_
 rintro rfl
 let l:=RR kT3 A2 D2 e::RR kT3 A4 D4 a::V
 refine cN l ?_
 refine aV ?_
 refine eZ (cs:=[(sc A2 e D2)]) R R R (fun j=>(eZ (cs:=[(sc A4 a D4)]) R R R (fun g=>(eZ (cs:=[(iv b)]) R R R (fun i=>(lO (vp _ R) (aC ?_)))))))
 let q:=aJ i [(iv b)] 3::aJ g [(sc A4 a D4)] 23::aJ j [(sc A2 e D2)] 23::l
 refine qN q ?_
 refine aP ?_
 refine lO (vp (.func (.func 163) [].toArray [(pt j 0),(pt i 0),(pt g 0)].toArray) R) (lO (vp _ R) ?_)
 refine aP ?_
 cases m
 exact qF ((A2,e.length,D2),j,i,(A4,a.length,D4),g) (tE 5 [3,2,0,4,1])
theorem Z05_ok  {J:Type}{YF:J→Int→Option (J×Bool)}{i:J}{l:(List Int)}{p5:Int}{L:(List Int)}{F:Nat}{b6:Nat}{G:Nat}{YE:J→HP}{yl:Nat}(hy:∀ s x q,YF s x=some q→AD Tryz.prog yl [.int .i64 x] [YE s] (fun _:Unit=>(.bool q.2,[YE q.1]))){r:J}(b:Z05 J YF i l p5 L=some r) :
 FnOk Tryz.prog 163 [(.func (.yield yl) #[] #[]),(pt F 0),(pt b6 0),(pt G 0)] [YE i,aO kT3 (.slice A4 N4 D4) l,aJ F [(.slice A4 N4 D4)] 23,aJ b6 [(iv p5)] 3,aO kT3 (.slice A9 N9 D9) L,aJ G [(.slice A9 N9 D9)] 23] (fun (h:Unit)=>((.tuple [].toArray),[YE r,aJ F [(.slice A4 N4 D4)] 23,aJ b6 [(iv p5)] 3,aJ G [(.slice A9 N9 D9)] 23])):=by
 unfold Z05 at b
 refine aQ Tryz.func163 R 60 R R fun C V=>?_
 refine cM (YE i::aJ _ _ _::aJ _ _ _::aJ _ _ _::aO _ _ _::aO _ _ _::V) (tE 6 [0,2,3,5,1,4]) ?_
 refine cL 4 aA ?_
 rintro rfl
 refine cL 5 aA ?_
 rintro rfl
 let W0:=RR kT3 A4 D4 l::RR kT3 A9 D9 L::V
 refine bT ?_
 obtain ⟨u,b⟩:=gd b
 refine aP ?_
 refine fD (K:=kT3) (m:=(l.length:Int)) (z:=(0:Int)) R R bK cC kl (Zr.zk zT3 gF) (by decide) R R u.1 u.2.1 u.2.2 (fun A11 D11=>(lS R (aC ?_)))
 let M:=aJ F [(sc A4 l D4)] 23::aJ b6 [(iv p5)] 3::aJ G [(sc A9 L D9)] 23::W0
 refine cZ ?_
 obtain ⟨e1,a6,a0⟩:=bd b
 refine bD (A:=Unit) a6 (fun s a=>[(0,(.func (.yield yl) #[] #[])),(1,(pt F 0)),(3,(pt G 0)),(5,(sc A11 (List.replicate (l.length:Int).toNat (0:Int)) D11)),(6,(iv s.2.1))]) (fun s a=>ow kT3 3 (.slice A11 (List.replicate (l.length:Int).toNat (0:Int)).length D11) s.1::YE s.2.2::M) () (aS R) tI ?_
 rintro ⟨D,ai,a7⟩ _ σ1 Z b a5
 dsimp only [Z05_L1] at b
 refine aP ?_
 obtain ⟨E,Y,b⟩:=bd b
 refine wD 2 R (fun _ _ h=>h) (lO (vp (.func (.yield yl) #[] #[]) R) (lI R (lM (YE a7::ow kT3 3 (.slice A11 (List.replicate (l.length:Int).toNat (0:Int)).length D11) D::M) (tE 2 [1,0]) ?_)))
 refine aC (uq 1 R R (hy _ _ _ Y) R (fun _ _ h=>h) R (fun _=>(lN (YE E.1::_::M) ?_)))
 refine aP ?_
 split at b
 refine bG ?_
 cases b
 obtain rfl:=a5 _ R
 have b:=a0
 refine aV ?_
 cases b
 exact Ap () (tE 7 [0,2,3,4])
 refine iK ?_
 refine bB (A:=((List Int)×Int×Int)×(Unit)) (fun a=>Z05_J2 J YF E a.1.1 a.1.2.1 a.1.2.2=some Z) (fun a=>[(0,(.func (.yield yl) #[] #[])),(1,(pt F 0)),(3,(pt G 0)),(5,(sc A11 (List.replicate (l.length:Int).toNat (0:Int)) D11)),(6,(iv a.1.2.1)),(7,(iv a.1.2.2))]) (fun a=>ow kT3 3 (.slice A11 (List.replicate (l.length:Int).toNat (0:Int)).length D11) a.1.1::YE E.1::M) ?_ ?_
 refine bT ?_
 obtain ⟨e2,a9,a2⟩:=bd b
 refine bD (A:=Unit) a9 (fun s a=>[(0,(.func (.yield yl) #[] #[])),(1,(pt F 0)),(3,(pt G 0)),(5,(sc A11 (List.replicate (l.length:Int).toNat (0:Int)) D11)),(6,(iv s.2.1)),(7,(iv s.2.2))]) (fun s a=>ow kT3 3 (.slice A11 (List.replicate (l.length:Int).toNat (0:Int)).length D11) s.1::YE E.1::M) () (aS R) (tE 2 [1,0]) ?_
 rintro ⟨e,a4,g⟩ _ σ1 ab b a3
 dsimp only [Z05_L2] at b
 refine dN ?_
 split at b
 refine bV ?_
 obtain ⟨j,b⟩:=gd b
 refine aP ?_
 refine bC 0 aB (show 0<(List.replicate (l.length:Int).toNat (0:Int)).length by have:=j; omega) (fun a8 o80 T=>?_)
 subst T
 refine bG ?_
 refine dV (K:=kT3) (x':=(aH ((ix e g)+1))) 0 g R R cC R R j.1 j.2 ?_ ?_
 exact fun I h s=>(gD).put I h () (aH ((ix e g)+1)) s
 refine aP ?_
 obtain ⟨O,b⟩:=gd b
 refine bG ?_
 refine bC 6 aA (show 0<L.length by have:=O; omega) (fun ac o83 T=>?_)
 subst T
 refine cZ ?_
 obtain ⟨U,b⟩:=gd b
 refine aZ 5 aA (show 0<l.length by have:=U; omega) (fun ah o86 T=>?_)
 subst T
 refine dG 9 [] bP fun ht hn=>?_
 refine vD 0 [] ?_
 refine dD (aI ?_)
 split at b
 refine aP ?_
 refine rS R (dZ ?_)
 cases b
 obtain rfl:=a3 _ R
 have b:=a2
 refine aV ?_
 exact qI (((e.set g.toNat (aH ((ix e g)+1))),(aH (a4+(ix L g))),g),()) b tI
 refine bG ?_
 refine dG 12 [] bP fun ht hn=>?_
 refine uu 0 [] ?_
 refine dD ?_
 refine cA ?_
 refine dV (K:=kT3) (x':=(0:Int)) 0 g R R cC R R j.1 j.2 ?_ ?_
 exact fun I h s=>(gD).put I h () (0:Int) s
 refine bT ?_
 obtain ⟨aa,B,b⟩:=bd b
 replace B:=Option.some.inj B
 refine qM (ow kT3 3 (.slice (ad a8 o80) (List.replicate (l.length:Int).toNat (0:Int)).length D11) aa::_::M) (fun w s=>by rw [← B]; exact s) ?_
 refine dN ?_
 cases b
 exact qA () tI
 refine aP ?_
 cases b
 obtain rfl:=a3 _ R
 have b:=a2
 refine aV ?_
 exact qI ((e,a4,g),()) b tI
 rintro ⟨⟨a1,ae,ag⟩,_⟩ σ1 b
 dsimp only [Z05_J2] at b
 refine bV ?_
 split at b
 refine aP ?_
 cases b
 obtain rfl:=a5 _ R
 have b:=a0
 refine aV ?_
 cases b
 exact Ap () (fun w s=>(s.f 7 [1,4]))
 refine aP ?_
 cases b
 exact qA () tI
theorem Z2f_ok  {v1:View}{r:(List Int)×(List pair)×Bool}(j:Z2f v1=some r) :
 FnOk Tryz.prog 145 [(.agg [(.slice A2 N2 D2),(.slice A3 N3 D3),(iv v1.Offset),(iv v1.Base)].toArray)] [aO kT3 (.slice A2 N2 D2) v1.Dims,aO kT3 (.slice A3 N3 D3) v1.Strides] (fun (h:HH×HH)=>((.tuple [(s3 h.1),(s3 h.2),(.bool r.2.2)].toArray),[aO kT3 (s3 h.1) r.1,ow kT161 161 (s3 h.2) r.2.1])):=by
 unfold Z2f at j
 refine wE Tryz.func145 R 29 R R fun C V=>?_
 refine cL 0 aA ?_
 rintro rfl
 refine cL 1 aA ?_
 rintro rfl
 refine aV ?_
 refine eB R fun b4=>?_
 refine dN ?_
 obtain ⟨r5,a5,j⟩:=bd j
 refine aV ?_
 refine lM _ (fun w s=>(((s.d 1 R).d 3 R).e 5 [1,0,2,3,4])) ?_
 refine lC 2 mC R (Zg_ok a5) R ?_
 rintro _
 refine aP ?_
 split at j
 refine cU ?_
 cases j
 exact iu ((none,0,0),(none,0,0)) (fun w s=>(((s.nilr kT3).nilo kT161 161).e 5 [1,0]))
 refine cA ?_
 refine bM (K:=kT161) (xs:=([]:List pair)) (vs:=[]) 0 R R fB fC eN R R R R R R ?_ R (fun A8 D8=>?_)
 exact fun I h s=>(j7).list [] I h s
 refine bF R R zB (fun O=>(cT 0 R R sN R R R R R (lN (aJ O [(sc A8 ([]:List pair) D8)] 147::_::_::_::_::V) ?_)))
 refine aV ?_
 refine wG ?_
 obtain ⟨g,a2,j⟩:=bd j
 refine dN ?_
 refine lM _ (fun w s=>(((s.d 3 R).d 5 R).f 7 [1,1,0,1,2,5])) ?_
 refine lC 2 zC R (Z32_ok a2) R ?_
 rintro ⟨⟨D,a8,m⟩,U,T,⟨B,a6,u⟩,Y⟩
 refine aL 0 aA ?_
 rintro rfl
 refine aL 3 aA ?_
 rintro rfl
 refine bT ?_
 obtain ⟨F,a0,j⟩:=bd j
 let Ef:Nat→Loop→((List pair))→HP:=fun l G s=>pe fun a:HH=>u4 l G::[aJ b4 [(sc A2 v1.Dims D2),(sc A3 v1.Strides D3),(iv v1.Offset),(iv v1.Base)] 96,RR kT3 A2 D2 v1.Dims,RR kT3 A3 D3 v1.Strides,aJ O [(s3 a)] 147,ow kT161 161 (s3 a) s]
 refine ur (Wc:=[RR kT3 D m g.1,aJ U [(sc D g.1 m)] 23,aJ T [(iv g.2.1)] 3,RR kT3 B u g.2.2,aJ Y [(sc B g.2.2 u)] 23,aJ O [(sc A8 ([]:List pair) D8)] 147,OO kT161 161 A8 D8 ([]:List pair),aJ b4 [(sc A2 v1.Dims D2),(sc A3 v1.Strides D3),(iv v1.Offset),(iv v1.Base)] 96,RR kT3 A2 D2 v1.Dims,RR kT3 A3 D3 v1.Strides]) (E:=fun l G=>Ef l G ([]:List pair)) (E':=fun l G=>Ef l G F) (Pre':=[RR kT3 D m g.1,aJ U [(sc D g.1 m)] 23,aJ T [(iv g.2.1)] 3,RR kT3 B u g.2.2,aJ Y [(sc B g.2.2 u)] 23]) (W3:=[]) (cp:=fun (_:Unit)=>[aJ U [(sc D g.1 m)] 23,aJ T [(iv g.2.1)] 3,aJ Y [(sc B g.2.2 u)] 23]) (Wd:=fun a:HH=>[aJ b4 [(sc A2 v1.Dims D2),(sc A3 v1.Strides D3),(iv v1.Offset),(iv v1.Base)] 96,RR kT3 A2 D2 v1.Dims,RR kT3 A3 D3 v1.Strides,aJ O [(s3 a)] 147,ow kT161 161 (s3 a) F]) R R zE (fun V w l G s=>St.pei (A8,([]:List pair).length,D8) ((s.f 11 [0,1,8,3,6,2,1,5]))) ?_ (fun V w l G x s=>let ⟨a,s⟩:=s.peo; ⟨a,s.e 9 [0,1,2,3,4,5]⟩) R ?_
 intro l G a1
 refine Z05_ok (YE:=Ef l G) (yl:=l) ?_ a0
 rintro b i q j
 dsimp only [Z3q] at j
 refine yok (fun a:HH=>[aJ b4 [(sc A2 v1.Dims D2),(sc A3 v1.Strides D3),(iv v1.Offset),(iv v1.Base)] 96,RR kT3 A2 D2 v1.Dims,RR kT3 A3 D3 v1.Strides,aJ O [(s3 a)] 147,ow kT161 161 (s3 a) b]) (fun a:HH=>[aJ b4 [(sc A2 v1.Dims D2),(sc A3 v1.Strides D3),(iv v1.Offset),(iv v1.Base)] 96,RR kT3 A2 D2 v1.Dims,RR kT3 A3 D3 v1.Strides,aJ O [(s3 a)] 147,ow kT161 161 (s3 a) q.1]) a1 R R R ?_
 rintro ⟨Z,a4,J⟩
 apply Exists.intro
 intro C V
 refine ⟨?_,?_⟩
 refine bT ?_
 exact aC yu
 refine aL 4 aB ?_
 rintro rfl
 obtain ⟨a3,j⟩:=gd j
 refine bG ?_
 refine lO (vz (.agg [(iv i),(il b)].toArray) (aW mD eN R R)) (bM (K:=kT161) (xs:=([(⟨i,(b.length:Int)⟩:pair)]:List pair)) (vs:=[(.agg [(iv i),(il b)].toArray)]) 0 R R fB fC eN R R R R R R ?_ R (fun a7 a9=>?_))
 exact fun I h s=>(j7).list [(((),()),(⟨i,(b.length:Int)⟩:pair))] I h s
 refine lM _ (fun w s=>(s.f 6 [5,1,0,5])) ?_
 refine eD (K:=kT161) 8796093022208 R R fB fC lF (Zr.zk zT161 eN) R R R R R R dP a3 (fun L M=>(lN (OO kT161 161 L M (b++([(⟨i,(b.length:Int)⟩:pair)]:List pair))::_::_::_::_::V) ?_))
 refine cT 4 R R sN R R R R R (lN (_::_::_::_::aJ O [(sc L (b++([(⟨i,(b.length:Int)⟩:pair)]:List pair)) M)] 147::V) ?_)
 refine bT ?_
 cases j
 exact AG (L,(b++([(⟨i,(b.length:Int)⟩:pair)]:List pair)).length,M) R (fun w s=>(s.f 5 [1,4,0,1]))
 rintro ⟨Z,a4,J⟩ Dm V
 refine cL 4 aB ?_
 rintro rfl
 refine aM (dG 6 [] bP fun ht hn=>?_)
 refine sr 0 [] ?_
 refine dD ?_
 refine aV ?_
 cases j
 exact wF (dI (vs:=[(sc A2 v1.Dims D2),(sc Z F J),(.bool true)]) (.inl R) ((A2,v1.Dims.length,D2),(Z,F.length,J)) R ⟨R,R,R,trivial⟩ R (tE 5 [1,4]))
theorem Z2r_ok  {a:Node}{b:(List Int)}{r:(List Int)×(List pair)×Bool}(g:Z2r a b=some r) :
 FnOk Tryz.prog 124 [(.agg [(iv a.Op),(.slice A2 N2 D2),(.slice A3 N3 D3),(.slice A4 N4 D4),(aD a.Form),(.slice A5 N5 D5)].toArray),(.slice A7 N7 D7)] [aO kT3 (.slice A2 N2 D2) a.Args,aO kT3 (.slice A3 N3 D3) a.Dims,aO kT3 (.slice A4 N4 D4) a.Ints,aO kT3 (.slice A5 N5 D5) a.Data,aO kT3 (.slice A7 N7 D7) b] (fun (h:HH×HH)=>((.tuple [(s3 h.1),(s3 h.2),(.bool r.2.2)].toArray),[aO kT3 (s3 h.1) r.1,ow kT161 161 (s3 h.2) r.2.1])):=by
 unfold Z2r at g
 refine aQ Tryz.func124 R 14 R R fun C V=>?_
 refine cL 0 aA ?_
 rintro rfl
 refine cL 1 aA ?_
 rintro rfl
 refine cL 2 aA ?_
 rintro rfl
 refine cL 3 aA ?_
 rintro rfl
 refine cL 4 aA ?_
 rintro rfl
 let D:=RR kT3 A2 D2 a.Args::RR kT3 A3 D3 a.Dims::RR kT3 A4 D4 a.Ints::RR kT3 A5 D5 a.Data::RR kT3 A7 D7 b::V
 refine cN D ?_
 refine aV ?_
 refine eB R fun G=>?_
 refine bG ?_
 let I:=aJ G [(iv a.Op),(sc A2 a.Args D2),(sc A3 a.Dims D3),(sc A4 a.Ints D4),(aD a.Form),(sc A5 a.Data D5)] 54::D
 refine qN I ?_
 refine aV ?_
 obtain ⟨J,l,g⟩:=bd g
 obtain ⟨i,j,g⟩:=bd g
 refine aP ?_
 refine lM _ (fun w s=>((((((s.d 1 R).d 3 R).d 5 R).d 7 R).d 9 R).e 5 [4,3,2,1,0])) ?_
 refine lC 5 zF R (Z1c_ok l) R ?_
 rintro ⟨⟨A11,N11,D11⟩,⟨A12,N12,D12⟩⟩
 refine aL 0 aA ?_
 rintro rfl
 refine aL 1 aA ?_
 rintro rfl
 refine lM _ (fun w s=>(((s.d 0 R).d 2 R).e 4 [1,0,2,3])) ?_
 refine lC 2 zG R (Z2f_ok j) R ?_
 rintro ⟨⟨B,F,u⟩,⟨q,E,m⟩⟩
 refine aL 0 aA ?_
 rintro rfl
 refine aL 1 aB ?_
 rintro rfl
 refine cX ?_
 cases g
 exact iu ((B,i.1.length,u),(q,i.2.1.length,m)) (tE 10 [0,1])
theorem Z1s_ok  {k1:shiftKind}{b:Node}{a:(List (List Int))}{r:(List Int)×Bool}(i:Z1s k1 b a=some r) :
 FnOk Tryz.prog 220 [(.agg [(aD k1.use),(.func (.func 124) [].toArray [].toArray)].toArray),(.agg [(iv b.Op),(.slice A3 N3 D3),(.slice A4 N4 D4),(.slice A5 N5 D5),(aD b.Form),(.slice A6 N6 D6)].toArray),(.slice A8 N8 D8)] [aO kT3 (.slice A3 N3 D3) b.Args,aO kT3 (.slice A4 N4 D4) b.Dims,aO kT3 (.slice A5 N5 D5) b.Ints,aO kT3 (.slice A6 N6 D6) b.Data,aO bL (.slice A8 N8 D8) a] (fun (h:HH)=>((.tuple [(s3 h),(.bool r.2)].toArray),[aO kT3 (s3 h) r.1])):=by
 unfold Z1s at i
 refine aQ Tryz.func220 R 27 R R fun C V=>?_
 refine cL 0 aA ?_
 rintro rfl
 refine cL 1 aA ?_
 rintro rfl
 refine cL 2 aA ?_
 rintro rfl
 refine cL 3 aA ?_
 rintro rfl
 refine cL 4 aA ?_
 rintro rfl
 let B:=RR kT3 A3 D3 b.Args::RR kT3 A4 D4 b.Dims::RR kT3 A5 D5 b.Ints::RR kT3 A6 D6 b.Data::RR bL A8 D8 a::V
 refine cN B ?_
 refine aV ?_
 refine eB R fun G=>?_
 refine eB R fun l=>?_
 refine aP ?_
 let O:=aJ l [(iv b.Op),(sc A3 b.Args D3),(sc A4 b.Dims D4),(sc A5 b.Ints D5),(aD b.Form),(sc A6 b.Data D6)] 54::aJ G [(aD k1.use),(.func (.func 124) [].toArray [].toArray)] 145::B
 refine qN O ?_
 refine cX ?_
 split at i
 refine cX ?_
 cases i
 exact jO (none,0,0) (fun w s=>((s.nilr kT3).e 8 [0]))
 refine bG ?_
 obtain ⟨g,i⟩:=gd i
 obtain ⟨q,j,i⟩:=bd i
 refine aZ 6 aA (show 0<a.length by have:=g; omega) (fun I o14 F=>?_)
 subst F
 refine dL (K:=bL) 6 (0:Int) dT23.dec R g.1 g.2 ?_
 rintro ⟨T,M⟩
 refine dG 14 [] bP fun U Y=>?_
 refine kr 0 [] ?_
 refine dR 5 R (eH (fo:=0) 0 cO R R R) (d1 6 R (lM _ (fun w s=>((((((s.d 4 R).d 6 R).d 8 R).d 10 R).d 5 R).e 7 [4,3,2,1,0,5,6])) ?_))
 refine cF (fs:=[]) (cs:=[]) 5 R R zH R R (Z2r_ok j) R ?_
 rintro ⟨⟨u,E,m⟩,⟨L,D,J⟩⟩
 refine aL 0 aA ?_
 rintro rfl
 refine aL 1 aB ?_
 rintro rfl
 refine aC (aG (sL [1,0]) (dR 7 R (vT R) (hS:=(sL [1,0])) ?_))
 refine sr 8 [1,0] ?_
 refine dD ?_
 refine cU ?_
 cases i
 exact jO (u,q.1.length,m) (tE 11 [0])
theorem Z10_ok  {l:Node}{j:(List Int)}{r:(List Int)×(List pair)×Bool}(i:Z10 l j=some r) :
 FnOk Tryz.prog 125 [(.agg [(iv l.Op),(.slice A2 N2 D2),(.slice A3 N3 D3),(.slice A4 N4 D4),(aD l.Form),(.slice A5 N5 D5)].toArray),(.slice A7 N7 D7)] [aO kT3 (.slice A2 N2 D2) l.Args,aO kT3 (.slice A3 N3 D3) l.Dims,aO kT3 (.slice A4 N4 D4) l.Ints,aO kT3 (.slice A5 N5 D5) l.Data,aO kT3 (.slice A7 N7 D7) j] (fun (h:HH×HH)=>((.tuple [(s3 h.1),(s3 h.2),(.bool r.2.2)].toArray),[aO kT3 (s3 h.1) r.1,ow kT161 161 (s3 h.2) r.2.1])):=by
 unfold Z10 at i
 refine aQ Tryz.func125 R 37 R R fun C V=>?_
 refine cL 0 aA ?_
 rintro rfl
 refine cL 1 aA ?_
 rintro rfl
 refine cL 2 aA ?_
 rintro rfl
 refine cL 3 aA ?_
 rintro rfl
 refine cL 4 aA ?_
 rintro rfl
 let W0:=RR kT3 A2 D2 l.Args::RR kT3 A3 D3 l.Dims::RR kT3 A4 D4 l.Ints::RR kT3 A5 D5 l.Data::RR kT3 A7 D7 j::V
 refine cN W0 ?_
 refine aV ?_
 refine eB R fun M=>?_
 refine bG ?_
 let u:=aJ M [(iv l.Op),(sc A2 l.Args D2),(sc A3 l.Dims D3),(sc A4 l.Ints D4),(aD l.Form),(sc A5 l.Data D5)] 54::W0
 refine qN u ?_
 refine aP ?_
 obtain ⟨r9,F,i⟩:=bd i
 obtain ⟨O,J,i⟩:=bd i
 obtain ⟨U,D,i⟩:=bd i
 refine cQ [(1,(sc A7 j D7)),(2,(pt M 0)),(20,(.bool ((!r9)||(O != U))))] (u) ?_ ?_
 refine aP ?_
 refine lM _ (fun w s=>(s.d 2 R)) ?_
 refine lC 1 j8 R (Zb_ok F) R ?_
 rintro _
 refine lN u ?_
 refine aV ?_
 rcases bo (!r9) with q | q
 refine cZ ?_
 exact qj tI
 refine aV ?_
 refine lM _ (fun w s=>(s.d 2 R)) ?_
 refine bY 1 R (b' q) jI R (Zl_ok (bN J (cS q))) R ?_
 rintro _
 refine lN u ?_
 refine bT ?_
 refine lM _ (fun w s=>(s.d 5 R)) ?_
 refine bY 1 R (b' q) jI R (Zl_ok (bN D (cS q))) R ?_
 rintro _
 refine lN u ?_
 refine aP ?_
 exact qj tI
 rintro σ1
 refine bT ?_
 split at i
 refine cU ?_
 cases i
 exact iu ((none,0,0),(none,0,0)) (fun w s=>(((s.nilr kT3).nilo kT161 161).e 8 [1,0]))
 refine cA ?_
 refine bM (K:=kT161) (xs:=([]:List pair)) (vs:=[]) 0 R R fB fC eN R R R R R R ?_ R (fun Y a2=>?_)
 exact fun I h s=>(j7).list [] I h s
 refine bG ?_
 refine bB (A:=((List pair))×(HH)) (fun a=>Z10_J1 l a.1=some r) (fun a=>[(2,(pt M 0)),(7,(s3 a.2))]) (fun a=>ow kT161 161 (s3 a.2) a.1::u) ?_ ?_
 refine bT ?_
 obtain ⟨a6,G,i⟩:=bd i
 refine aV ?_
 refine lM _ (fun w s=>(s.d 6 R)) ?_
 refine lC 1 jI R (Zl_ok G) R ?_
 rintro _
 refine bG ?_
 obtain ⟨e1,a0,a3⟩:=bd i
 refine bD (A:=HH) a0 (fun s a=>[(2,(pt M 0)),(7,(s3 a)),(23,(iv a6)),(24,(iv s.2))]) (fun s a=>ow kT161 161 (s3 a) s.1::u) (Y,([]:List pair).length,a2) (aS R) tI ?_
 rintro ⟨b,g⟩ ⟨a7,Z,a4⟩ σ1 a9 i a8
 dsimp only [Z10_L1] at i
 refine bH 0 aB (fun (hn:Z=b.length)=>?_)
 subst hn
 refine bV ?_
 split at i
 refine iB ?_
 obtain ⟨L,i⟩:=gd i
 refine bG ?_
 refine lO (vz (.agg [(iv g),(iv g)].toArray) (aW mD eN R R)) (bM (K:=kT161) (xs:=([(⟨g,g⟩:pair)]:List pair)) (vs:=[(.agg [(iv g),(iv g)].toArray)]) 0 R R fB fC eN R R R R R R ?_ R (fun ab aa=>?_))
 exact fun I h s=>(j7).list [(((),()),(⟨g,g⟩:pair))] I h s
 refine lM _ (tE 2 [1,0]) ?_
 refine eD (K:=kT161) 8796093022208 R R fB fC lF (Zr.zk zT161 eN) R R R R R R dP L (fun B E=>(lN (OO kT161 161 B E (b++([(⟨g,g⟩:pair)]:List pair))::u) ?_))
 refine cZ ?_
 cases i
 exact qA (B,(b++([(⟨g,g⟩:pair)]:List pair)).length,E) tI
 refine aP ?_
 cases i
 obtain rfl:=a8 _ R
 have i:=a3
 refine aV ?_
 exact qI (b,(a7,b.length,a4)) i tI
 rintro ⟨m,⟨a1,T,a5⟩⟩ σ1 i
 dsimp only [Z10_J1] at i
 refine bH 0 aB (fun (hn:T=m.length)=>?_)
 subst hn
 refine iB ?_
 cases i
 exact iu ((A3,l.Dims.length,D3),(a1,m.length,a5)) (tE 7 [3,0])
theorem Z23_ok  {k1:shiftKind}{b:Node}{a:(List (List Int))}{r:(List Int)×Bool}(i:Z23 k1 b a=some r) :
 FnOk Tryz.prog 220 [(.agg [(aD k1.use),(.func (.func 125) [].toArray [].toArray)].toArray),(.agg [(iv b.Op),(.slice A3 N3 D3),(.slice A4 N4 D4),(.slice A5 N5 D5),(aD b.Form),(.slice A6 N6 D6)].toArray),(.slice A8 N8 D8)] [aO kT3 (.slice A3 N3 D3) b.Args,aO kT3 (.slice A4 N4 D4) b.Dims,aO kT3 (.slice A5 N5 D5) b.Ints,aO kT3 (.slice A6 N6 D6) b.Data,aO bL (.slice A8 N8 D8) a] (fun (h:HH)=>((.tuple [(s3 h),(.bool r.2)].toArray),[aO kT3 (s3 h) r.1])):=by
 unfold Z23 at i
 refine aQ Tryz.func220 R 27 R R fun C V=>?_
 refine cL 0 aA ?_
 rintro rfl
 refine cL 1 aA ?_
 rintro rfl
 refine cL 2 aA ?_
 rintro rfl
 refine cL 3 aA ?_
 rintro rfl
 refine cL 4 aA ?_
 rintro rfl
 let B:=RR kT3 A3 D3 b.Args::RR kT3 A4 D4 b.Dims::RR kT3 A5 D5 b.Ints::RR kT3 A6 D6 b.Data::RR bL A8 D8 a::V
 refine cN B ?_
 refine aV ?_
 refine eB R fun G=>?_
 refine eB R fun l=>?_
 refine aP ?_
 let O:=aJ l [(iv b.Op),(sc A3 b.Args D3),(sc A4 b.Dims D4),(sc A5 b.Ints D5),(aD b.Form),(sc A6 b.Data D6)] 54::aJ G [(aD k1.use),(.func (.func 125) [].toArray [].toArray)] 145::B
 refine qN O ?_
 refine cX ?_
 split at i
 refine cX ?_
 cases i
 exact jO (none,0,0) (fun w s=>((s.nilr kT3).e 8 [0]))
 refine bG ?_
 obtain ⟨g,i⟩:=gd i
 obtain ⟨q,j,i⟩:=bd i
 refine aZ 6 aA (show 0<a.length by have:=g; omega) (fun I o14 F=>?_)
 subst F
 refine dL (K:=bL) 6 (0:Int) dT23.dec R g.1 g.2 ?_
 rintro ⟨T,M⟩
 refine dG 14 [] bP fun U Y=>?_
 refine kr 0 [] ?_
 refine dR 5 R (eH (fo:=0) 0 cO R R R) (d1 6 R (lM _ (fun w s=>((((((s.d 4 R).d 6 R).d 8 R).d 10 R).d 5 R).e 7 [4,3,2,1,0,5,6])) ?_))
 refine cF (fs:=[]) (cs:=[]) 5 R R zI R R (Z10_ok j) R ?_
 rintro ⟨⟨u,E,m⟩,⟨L,D,J⟩⟩
 refine aL 0 aA ?_
 rintro rfl
 refine aL 1 aB ?_
 rintro rfl
 refine aC (aG (sL [1,0]) (dR 7 R (vT R) (hS:=(sL [1,0])) ?_))
 refine sr 8 [1,0] ?_
 refine dD ?_
 refine cU ?_
 cases i
 exact jO (u,q.1.length,m) (tE 11 [0])
theorem Z1l_ok  {b:(List Int)}{a:Int}{i:Int}{r:(List Int)}(g:Z1l b a i=some r) :
 FnOk Tryz.prog 151 [(.slice A2 N2 D2),(iv a),(iv i)] [aO kT3 (.slice A2 N2 D2) b] (fun (h:HH)=>((s3 h),[ow kT3 3 (s3 h) r])):=by
 unfold Z1l at g
 refine aQ Tryz.func151 R 15 R R fun C V=>?_
 refine cL 0 aA ?_
 rintro rfl
 let u:=RR kT3 A2 D2 b::V
 refine cN u ?_
 refine bV ?_
 obtain ⟨l,j,g⟩:=bd g
 refine aV ?_
 refine lM _ (fun w s=>(s.d 0 R)) ?_
 refine lC 1 jx R (Zn_ok j) R ?_
 rintro ⟨A7,N7,D7⟩
 refine aL 0 aB ?_
 rintro rfl
 refine bG ?_
 obtain ⟨e,g⟩:=gd g
 refine bG ?_
 refine bC 0 aB (show 0<l.length by have:=e; omega) (fun m o10 q=>?_)
 subst q
 refine bT ?_
 refine dV (K:=kT3) (x':=i) 0 a R R cC R R e.1 e.2 ?_ ?_
 exact fun I h s=>(gD).put I h () i s
 refine cX ?_
 cases g
 exact qF ((ad m o10),l.length,D7) (tE 2 [0])
theorem Z21_ok  {b:(List Int)}{a:Int}{r:Int×Int×Int}(i:Z21 b a=some r) :
 FnOk Tryz.prog 153 [(.slice A2 N2 D2),(iv a)] [aO kT3 (.slice A2 N2 D2) b] (fun (h:Unit)=>((.tuple [(iv r.1),(iv r.2.1),(iv r.2.2)].toArray),[])):=by
 unfold Z21 at i
 refine aQ Tryz.func153 R 20 R R fun C V=>?_
 refine cL 0 aA ?_
 rintro rfl
 let u:=RR kT3 A2 D2 b::V
 refine cN u ?_
 refine cZ ?_
 obtain ⟨g,i⟩:=gd i
 obtain ⟨D,l,i⟩:=bd i
 obtain ⟨q,i⟩:=gd i
 obtain ⟨e,i⟩:=gd i
 obtain ⟨m,j,i⟩:=bd i
 refine cQ [(4,(iv D)),(5,(iv (ix b a))),(6,(iv m))] (u) ?_ ?_
 refine aZ 0 aA (show 0<b.length by have:=q; omega) (fun E o10 B=>?_)
 subst B
 refine dG 16 [] bP fun F G=>?_
 refine gT 0 [] ?_
 refine su 4 [] ?_
 refine hX [2,11] (by kernel_rfl) R ⟨?_,?_,trivial⟩
 refine gA (K:=kT3) (0:Int) a 0 R R bK cC R R R R g.1 g.2.1 g.2.2 (fun A5 D5=>(aC (aG (sL [0]) (hX [3,11] (by kernel_rfl) R ⟨?_,?_,trivial⟩))))
 refine lM _ (fun w s=>(s.d 0 R)) ?_
 refine lC 1 jI R (Zl_ok l) R ?_
 rintro _
 refine aC (aG (sL [0]) (d1 11 R (gA (K:=kT3) (aH (a+1)) (b.length:Int) 1 R R bK cC R R R R e.1 e.2.1 e.2.2 (fun A12 D12=>(aC (aG (sL [1,0]) (d1 12 R (lM _ (fun w s=>(s.d 0 R)) ?_))))))))
 refine lC 1 jI R (Zl_ok j) R ?_
 rintro _
 refine aC (aG (sL [1,0]) ?_)
 refine iw 13 [1,0] ?_
 refine dD ?_
 exact qj (tE 2 [])
 refine gA (K:=kT3) (aH (a+1)) (b.length:Int) 1 R R bK cC R R R R e.1 e.2.1 e.2.2 (fun A12 D12=>(aC (aG (sL [1,0]) (d1 3 R (lM _ (fun w s=>(s.d 1 R)) ?_)))))
 refine lC 1 jI R (Zl_ok l) R ?_
 rintro _
 refine aC (aG (sL [1,0]) (d1 12 R (lM _ (fun w s=>(s.d 0 R)) ?_)))
 refine lC 1 jI R (Zl_ok j) R ?_
 rintro _
 refine aC (aG (sL [1,0]) ?_)
 refine iw 13 [1,0] ?_
 refine dD ?_
 exact qj (tE 2 [])
 refine gA (K:=kT3) (aH (a+1)) (b.length:Int) 0 R R bK cC R R R R e.1 e.2.1 e.2.2 (fun A12 D12=>(aC (aG (sL [0]) (d1 2 R (gA (K:=kT3) (0:Int) a 1 R R bK cC R R R R g.1 g.2.1 g.2.2 (fun A5 D5=>(aC (aG (sL [1,0]) (d1 3 R (lM _ (fun w s=>(s.d 0 R)) ?_))))))))))
 refine lC 1 jI R (Zl_ok l) R ?_
 rintro _
 refine aC (aG (sL [1,0]) (d1 12 R (lM _ (fun w s=>(s.d 1 R)) ?_)))
 refine lC 1 jI R (Zl_ok j) R ?_
 rintro _
 refine aC (aG (sL [1,0]) ?_)
 refine iw 13 [1,0] ?_
 refine dD ?_
 exact qj (tE 2 [])
 rintro σ1
 refine aV ?_
 cases i
 exact iu () (tE 1 [])
theorem Z7_ok  {B:(List Int)}{a4:Int}{E:Int}{b:(List pair)}{r:(List pair)}(g:Z7 B a4 E b=some r) :
 FnOk Tryz.prog 152 [(.slice A2 N2 D2),(iv a4),(iv E),(.slice A6 N6 D6)] [aO kT3 (.slice A2 N2 D2) B,aO kT161 (.slice A6 N6 D6) b] (fun (h:HH)=>((.slice h.1 h.2.1 h.2.2),[ow kT161 161 (.slice h.1 h.2.1 h.2.2) r])):=by
 unfold Z7 at g
 refine aQ Tryz.func152 R 73 R R fun C V=>?_
 refine cN (_::_::V) ?_
 refine cL 0 aA ?_
 rintro rfl
 refine cL 1 aA ?_
 rintro rfl
 let O:List HP:=RR kT3 A2 D2 B::RR kT161 A6 D6 b::V
 refine cN O ?_
 refine aM (aE (lS R (aC (aI (aM ?_)))))
 obtain ⟨q,bg,g⟩:=bd g
 refine aE (lS R (lI R (lM (RR kT3 A2 D2 B::O) (fun w s=>(s.d 0 R)) ?_)))
 refine lC 1 v' R (Z21_ok bg) R ?_
 rintro _
 refine lN O ?_
 refine lO (vT R) (lI R (lI R (lI R (lI R (lI R (lI R (aC (aI (aM ?_)))))))))
 obtain ⟨aa,g⟩:=gd g
 refine aE (lI R (lI R (lO (rI R R) (lS R (lO (jG fB R) (lO (rI R R) (un (K:=kT161) (m:=(aH ((aH (q.1*q.2.2))*(b.length:Int)))) (z:=zT161.z) R R fB fC lF (Zr.zk zT161 eN) (by decide) R R aa.1 aa.2.1 aa.2.2 (fun A10 D10=>(lS R (aC (aI (aM (bB (A:=((List pair))×(HH)) (fun a=>Z7_J7 a.1=some r) (fun a=>[(12,(.slice a.2.1 a.2.2.1 a.2.2.2))]) (fun a=>ow kT161 161 (.slice a.2.1 a.2.2.1 a.2.2.2) a.1::O) ?_ ?_)))))))))))))
 refine aM (aE (lI R (aC (aI (dC ?_)))))
 obtain ⟨e1,b5,b6⟩:=bd g
 refine bD (A:=HH×HH) b5 (fun s a=>[(2,(iv E)),(3,(.slice a.1.1 a.1.2.1 a.1.2.2)),(9,(iv q.1)),(10,(iv q.2.1)),(11,(iv q.2.2)),(12,(.slice a.2.1 a.2.2.1 a.2.2.2)),(13,(iv s.2))]) (fun s a=>aO kT161 (.slice a.1.1 a.1.2.1 a.1.2.2) b::ow kT161 161 (.slice a.2.1 a.2.2.1 a.2.2.2) s.1::O) ((A6,b.length,D6),(A10,([]:List pair).length,D10)) (aS R) (fun w s=>(s.d 2 R)) ?_
 rintro ⟨a3,l⟩ ⟨⟨bj,b8,be⟩,⟨ap,b3,au⟩⟩ σ1 a1 g ba
 replace g:Z7_L1 E b q a3 l=some a1:=g
 unfold Z7_L1 at g
 refine bH 0 aA (fun (D:b8=b.length)=>?_)
 subst D
 refine bH 1 aB (fun (D:b3=a3.length)=>?_)
 subst D
 refine aM (aM (aE (lI R (lI R (lO (mW R R) (aC (aI ?_)))))))
 rcases cG g with ⟨Y,g⟩|⟨Y,g⟩
 refine bZ R Y (cP (aI (aM (bB (A:=((List pair))×(HH×HH)) (fun a=>Z7_J6 l a.1=some a1) (fun a=>[(2,(iv E)),(3,(.slice a.2.1.1 a.2.1.2.1 a.2.1.2.2)),(9,(iv q.1)),(10,(iv q.2.1)),(11,(iv q.2.2)),(12,(.slice a.2.2.1 a.2.2.2.1 a.2.2.2.2)),(13,(iv l))]) (fun a=>aO kT161 (.slice a.2.1.1 a.2.1.2.1 a.2.1.2.2) b::ow kT161 161 (.slice a.2.2.1 a.2.2.2.1 a.2.2.2.2) a.1::O) ?_ ?_))))
 refine dC (aM (aE (lS R (lO (jG fB R) (lI R (aC (aI (dC ?_))))))))
 obtain ⟨e2,bh,bk⟩:=bd g
 refine bD (A:=HH×HH) bh (fun s a=>[(2,(iv E)),(3,(.slice a.1.1 a.1.2.1 a.1.2.2)),(9,(iv q.1)),(10,(iv q.2.1)),(11,(iv q.2.2)),(12,(.slice a.2.1 a.2.2.1 a.2.2.2)),(13,(iv l)),(36,(.slice a.1.1 a.1.2.1 a.1.2.2)),(37,(il b)),(38,(iv s.2))]) (fun s a=>aO kT161 (.slice a.1.1 a.1.2.1 a.1.2.2) b::ow kT161 161 (.slice a.2.1 a.2.2.1 a.2.2.2) s.1::O) ((bj,b.length,be),(ap,a3.length,au)) (aS R) (fun w s=>s) ?_
 rintro ⟨L,i⟩ ⟨⟨bf,bc,M⟩,⟨ab,b4,ac⟩⟩ σ1 U g b9
 replace g:Z7_L2 E b q l L i=some U:=g
 unfold Z7_L2 at g
 refine bH 0 aA (fun (D:bc=b.length)=>?_)
 subst D
 refine bH 1 aB (fun (D:b4=L.length)=>?_)
 subst D
 refine aM (aE (lO (mW R R) (aC (aI (aM ?_)))))
 rcases cG g with ⟨T,g⟩|⟨T,g⟩
 refine bZ R T (cP (aI (aM (bB (A:=((List pair))×(HH×HH)) (fun a=>Z7_J5 i a.1=some U) (fun a=>[(2,(iv E)),(3,(.slice a.2.1.1 a.2.1.2.1 a.2.1.2.2)),(9,(iv q.1)),(10,(iv q.2.1)),(11,(iv q.2.2)),(12,(.slice a.2.2.1 a.2.2.2.1 a.2.2.2.2)),(13,(iv l)),(36,(.slice a.2.1.1 a.2.1.2.1 a.2.1.2.2)),(37,(il b)),(38,(iv i))]) (fun a=>aO kT161 (.slice a.2.1.1 a.2.1.2.1 a.2.1.2.2) b::ow kT161 161 (.slice a.2.2.1 a.2.2.2.1 a.2.2.2.2) a.1::O) ?_ ?_))))
 refine dC (aM ?_)
 obtain ⟨J,g⟩:=gd g
 refine aE (bC 0 aA (show 0<b.length by have:=J; omega) (fun F o101 ha=>?_))
 subst ha
 refine lO (eI fB fC R R J) (s7 (.agg [(iv (ix b i).from_),(iv (ix b i).to)].toArray) ?_ R R ?_)
 exact (wm (K:=kT161) (cells:=fun x=>[(iv x.from_),(iv x.to)]) 0 i w0 fC (DecK.flat yD fun _ _=>R) aA R J.1 J.2)
 refine bF R R eN (fun a5=>(aK 0 R R fC R R R R R R (lN (aJ a5 [(iv (ix b i).from_),(iv (ix b i).to)] 161::RR kT161 (ad F o101) M b::OO kT161 161 ab ac L::O) ?_)))
 refine aC (aI (aM (aE (lI R (aC (aI (dC ?_)))))))
 obtain ⟨e3,b7,bi⟩:=bd g
 refine bD (A:=HH) b7 (fun s a=>[(2,(iv E)),(3,(sc (ad F o101) b M)),(9,(iv q.1)),(10,(iv q.2.1)),(11,(iv q.2.2)),(12,(.slice a.1 a.2.1 a.2.2)),(13,(iv l)),(15,(pt a5 0)),(16,(iv s.2)),(36,(sc (ad F o101) b M)),(37,(il b)),(38,(iv i))]) (fun s a=>RR kT161 (ad F o101) M b::ow kT161 161 (.slice a.1 a.2.1 a.2.2) s.1::aJ a5 [(iv (ix b i).from_),(iv (ix b i).to)] 161::O) (ab,L.length,ac) (aS R) (fun w s=>(s.e 3 [1,2,0])) ?_
 rintro ⟨u,j⟩ ⟨a7,b0,a9⟩ σ1 an g bb
 replace g:Z7_L3 E b q l i u j=some an:=g
 unfold Z7_L3 at g
 refine bH 1 aB (fun (D:b0=u.length)=>?_)
 subst D
 refine aM (aM (aE (lI R (lI R (lO (mW R R) (aC (aI ?_)))))))
 rcases cG g with ⟨G,g⟩|⟨G,g⟩
 refine bZ R G (cP (aI (aM (dC ?_))))
 obtain ⟨ae,g⟩:=gd g
 refine aE (lS R (lI R (lI R (lO (rI R R) (lO (fS 0 qr R) (lO (gB 2 fP R R R) (lO (kK R R) (lI R (lO (rI R R) (lI R (lO (kK R R) (lI R (lI R (lO (rI R R) (lO (fS 1 qt R) (lO (gB 2 fP R R R) (lO (kK R R) (lI R (lO (rI R R) (lI R (lO (kK R R) (lO (vz (.agg [(iv (aH ((aH ((aH ((aH (l*q.2.1))+(ix b i).from_))*q.2.2))+j))),(iv (aH ((aH ((aH ((aH (l*E))+(ix b i).to))*q.2.2))+j)))].toArray) (aW mD eN R R)) (bM (K:=kT161) (xs:=([(⟨(aH ((aH ((aH ((aH (l*q.2.1))+(ix b i).from_))*q.2.2))+j)),(aH ((aH ((aH ((aH (l*E))+(ix b i).to))*q.2.2))+j))⟩:pair)]:List pair)) (vs:=[(.agg [(iv (aH ((aH ((aH ((aH (l*q.2.1))+(ix b i).from_))*q.2.2))+j))),(iv (aH ((aH ((aH ((aH (l*E))+(ix b i).to))*q.2.2))+j)))].toArray)]) 0 R R fB fC eN R R R R R R ?_ R (fun b2 am=>?_))))))))))))))))))))))))
 exact fun I h s=>(j7).list [(((),()),(⟨(aH ((aH ((aH ((aH (l*q.2.1))+(ix b i).from_))*q.2.2))+j)),(aH ((aH ((aH ((aH (l*E))+(ix b i).to))*q.2.2))+j))⟩:pair))] I h s
 refine lN (OO kT161 161 b2 am ([(⟨(aH ((aH ((aH ((aH (l*q.2.1))+(ix b i).from_))*q.2.2))+j)),(aH ((aH ((aH ((aH (l*E))+(ix b i).to))*q.2.2))+j))⟩:pair)]:List pair)::_::OO kT161 161 a7 a9 u::_::O) ?_
 refine lM (ow _ _ _ _::ow _ _ _ _::aO _ _ _::aJ _ _ _::O) (fun w s=>(s.e 4 [2,0,1,3])) ?_
 refine eD (K:=kT161) 8796093022208 R R fB fC lF (Zr.zk zT161 eN) R R R R R R dP ae (fun a8 a6=>(lN (OO kT161 161 a8 a6 (u++([(⟨(aH ((aH ((aH ((aH (l*q.2.1))+(ix b i).from_))*q.2.2))+j)),(aH ((aH ((aH ((aH (l*E))+(ix b i).to))*q.2.2))+j))⟩:pair)]:List pair))::_::_::O) ?_))
 refine lS R (aC (dO (aI (aE (lI R (lO (kK R R) (lI R (aC ?_))))))))
 obtain rfl:=so g
 exact qA (a8,(u++([(⟨(aH ((aH ((aH ((aH (l*q.2.1))+(ix b i).from_))*q.2.2))+j)),(aH ((aH ((aH ((aH (l*E))+(ix b i).to))*q.2.2))+j))⟩:pair)]:List pair)).length,a6) (fun w s=>(s.e 3 [1,0,2]))
 refine bJ R G (gR (dZ ?_))
 obtain rfl:=so g
 obtain rfl:=bb _ R
 have g:=bi
 refine dZ (fM (dO ?_))
 exact qI (u,(((ad F o101),b.length,M),(a7,u.length,a9))) g (fun w s=>(s.e 3 [0,1]))
 rintro ⟨a2,⟨⟨ak,al,ax⟩,⟨aq,ay,ah⟩⟩⟩ σ1 g
 replace g:Z7_J5 i a2=some U:=g
 unfold Z7_J5 at g
 refine bH 0 aA (fun (D:al=b.length)=>?_)
 subst D
 refine bH 1 aB (fun (D:ay=a2.length)=>?_)
 subst D
 refine aE (lO (kK R R) (lI R (aC ?_)))
 obtain rfl:=so g
 exact qA ((ak,b.length,ax),(aq,a2.length,ah)) (fun w s=>s)
 refine bJ R T (gR (dZ ?_))
 obtain rfl:=so g
 obtain rfl:=b9 _ R
 have g:=bk
 refine dZ (fM (dO ?_))
 exact qI (L,((bf,b.length,M),(ab,L.length,ac))) g (fun w s=>s)
 rintro ⟨a0,⟨⟨az,aj,ar⟩,⟨ao,av,ai⟩⟩⟩ σ1 g
 replace g:Z7_J6 l a0=some a1:=g
 unfold Z7_J6 at g
 refine bH 0 aA (fun (D:aj=b.length)=>?_)
 subst D
 refine bH 1 aB (fun (D:av=a0.length)=>?_)
 subst D
 refine aE (lI R (lO (kK R R) (lI R (aC ?_))))
 obtain rfl:=so g
 exact qA ((az,b.length,ar),(ao,a0.length,ai)) (fun w s=>s)
 refine bJ R Y (gR (dZ ?_))
 obtain rfl:=so g
 obtain rfl:=ba _ R
 have g:=b6
 refine dZ (fM ?_)
 exact qI (a3,(ap,a3.length,au)) g (fun w s=>(s.e 2 [1]))
 rintro ⟨Z,⟨b1,aw,ag⟩⟩ σ1 g
 replace g:Z7_J7 Z=some r:=g
 unfold Z7_J7 at g
 refine bH 0 aB (fun (D:aw=Z.length)=>?_)
 subst D
 refine aM (aE (lS R (lS R (aC (aI (bW ?_))))))
 obtain rfl:=so g
 exact qF (b1,Z.length,ag) (fun w s=>(s.e 3 [0]))
theorem Zz_ok  {j:(List Int)}{l:Int}{b:Int}{g:Int}{i:Int}{r:(List Int)×(List pair)×Bool}(m:Zz j l b g i=some r) :
 FnOk Tryz.prog 128 [(.slice A2 N2 D2),(iv l),(iv b),(iv g),(iv i)] [aO kT3 (.slice A2 N2 D2) j] (fun (h:HH×HH)=>((.tuple [(s3 h.1),(s3 h.2),(.bool r.2.2)].toArray),[ow kT3 3 (s3 h.1) r.1,ow kT161 161 (s3 h.2) r.2.1])):=by
 unfold Zz at m
 refine aQ Tryz.func128 R 84 R R fun C V=>?_
 refine cL 0 aA ?_
 rintro rfl
 let M:=RR kT3 A2 D2 j::V
 refine cN M ?_
 refine cX ?_
 obtain ⟨r7,aj,m⟩:=bd m
 refine aP ?_
 refine lM _ (fun w s=>(s.d 0 R)) ?_
 refine lC 1 gQ R (Zk_ok aj) R ?_
 rintro _
 refine lN M ?_
 refine aP ?_
 split at m
 refine cU ?_
 cases m
 exact iu ((none,0,0),(none,0,0)) (fun w s=>(((s.nilo kT3 3).nilo kT161 161).e 3 [1,0]))
 refine bG ?_
 refine bB (A:=(Unit)×(Unit)) (fun a=>Zz_J1 j l b g i=some r) (fun a=>[(0,(sc A2 j D2)),(1,(iv l)),(2,(iv b)),(3,(iv g)),(4,(iv i))]) (fun a=>M) ?_ ?_
 refine cA ?_
 refine bM (K:=kT3) (xs:=([b,g,i]:List Int)) (vs:=[(iv b),(iv g),(iv i)]) 0 R R bK cC gF R R R R R R ?_ R (fun A10 D10=>?_)
 exact fun I h s=>(gD).list [((),b),((),g),((),i)] I h s
 refine cA ?_
 obtain ⟨e1,ac,a1⟩:=bd m
 refine bD (A:=HH) ac (fun s a=>[(0,(sc A2 j D2)),(1,(iv l)),(2,(iv b)),(3,(iv g)),(4,(iv i)),(27,(s3 a)),(28,(il ([b,g,i]:List Int))),(29,(iv s))]) (fun s a=>ow kT3 3 (s3 a) ([b,g,i]:List Int)::M) (A10,([b,g,i]:List Int).length,D10) (aS R) tI ?_
 rintro L ⟨av,ae,O⟩ σ1 ar m a5
 dsimp only [Zz_L1] at m
 refine bH 0 aB (fun (hn:ae=([b,g,i]:List Int).length)=>?_)
 subst hn
 refine bV ?_
 split at m
 refine bV ?_
 obtain ⟨a3,m⟩:=gd m
 refine aE (bC 0 aB (show 0<([b,g,i]:List Int).length by have:=a3; omega) (fun U o22 ha=>?_))
 subst ha
 refine bV ?_
 refine cQ [(0,(sc A2 j D2)),(1,(iv l)),(2,(iv b)),(3,(iv g)),(4,(iv i)),(27,(sc (ad U o22) ([b,g,i]:List Int) O)),(28,(il ([b,g,i]:List Int))),(29,(iv L)),(38,(.bool ((decide ((ix ([b,g,i]:List Int) L)<0))||(decide ((ix ([b,g,i]:List Int) L)>4096)))))] (OO kT3 3 (ad U o22) O ([b,g,i]:List Int)::M) ?_ ?_
 refine bG ?_
 rcases bo (decide ((ix ([b,g,i]:List Int) L)<0)) with a7 | a7
 refine bG ?_
 exact qj tI
 refine bG ?_
 exact qj tI
 rintro σ1
 refine bT ?_
 split at m
 refine iB ?_
 cases m
 obtain rfl:=a5 _ R
 have m:=a1
 refine aP ?_
 cases m
 exact iu ((none,0,0),(none,0,0)) (fun w s=>(((s.nilo kT3 3).nilo kT161 161).e 4 [1,0]))
 refine cZ ?_
 cases m
 exact qA ((ad U o22),([b,g,i]:List Int).length,O) tI
 refine aP ?_
 cases m
 obtain rfl:=a5 _ R
 have m:=a1
 refine aV ?_
 exact qI ((),()) m (tE 1 [])
 rintro ⟨_,_⟩ σ1 m
 dsimp only [Zz_J1] at m
 refine bT ?_
 obtain ⟨a2,m⟩:=gd m
 refine aP ?_
 refine bC 0 aA (show 0<j.length by have:=a2; omega) (fun J o29 ha=>?_)
 subst ha
 refine us ?_
 obtain ⟨E,a4,m⟩:=bd m
 refine bG ?_
 refine lM _ (fun w s=>(s.d 0 R)) ?_
 refine lC 1 qq R (Z1l_ok a4) R ?_
 rintro ⟨G,b0,F⟩
 refine aL 0 aB ?_
 rintro rfl
 refine cA ?_
 obtain ⟨ay,a8,m⟩:=bd m
 refine aV ?_
 refine lC 1 j8 R (FnOk.lends (A':=[OO kT3 3 G F E]) (A:=[RR kT3 G F E]) (B:=[]) (Zb_ok a8) ⟨aU,trivial⟩ (fun _=>trivial)) R ?_
 rintro _
 refine aP ?_
 split at m
 refine cU ?_
 cases m
 exact iu ((none,0,0),(none,0,0)) (fun w s=>(((s.nilo kT3 3).nilo kT161 161).e 4 [1,0]))
 refine cA ?_
 refine bM (K:=kT161) (xs:=([]:List pair)) (vs:=[]) 0 R R fB fC eN R R R R R R ?_ R (fun ak ab=>?_)
 exact fun I h s=>(j7).list [] I h s
 refine bG ?_
 refine bB (A:=((List pair))×(HH)) (fun a=>Zz_J2 j l b g i E a.1=some r) (fun a=>[(0,(sc (ad J o29) j D2)),(1,(iv l)),(16,(iv (aH ((aH ((aH (b+(ix j l)))+(aH ((aH ((ix j l) - 1))*i))))+g)))),(17,(sc G E F)),(18,(s3 a.2))]) (fun a=>OO kT3 3 G F E::ow kT161 161 (s3 a.2) a.1::M) ?_ ?_
 refine bV ?_
 obtain ⟨e2,al,an⟩:=bd m
 refine bD (A:=HH) al (fun s a=>[(0,(sc (ad J o29) j D2)),(1,(iv l)),(2,(iv b)),(4,(iv i)),(15,(iv (ix j l))),(16,(iv (aH ((aH ((aH (b+(ix j l)))+(aH ((aH ((ix j l) - 1))*i))))+g)))),(17,(sc G E F)),(18,(s3 a)),(19,(iv s.2))]) (fun s a=>OO kT3 3 G F E::ow kT161 161 (s3 a) s.1::M) (ak,([]:List pair).length,ab) (aS R) (tE 2 [1,0]) ?_
 rintro ⟨q,u⟩ ⟨aa,ag,ah⟩ σ1 au m ap
 dsimp only [Zz_L2] at m
 refine bH 1 aB (fun (hn:ag=q.length)=>?_)
 subst hn
 refine cZ ?_
 split at m
 refine cA ?_
 obtain ⟨a0,m⟩:=gd m
 refine cX ?_
 refine lO (vz (.agg [(iv u),(iv (aH (b+(aH (u*(aH (i+1)))))))].toArray) (aW mD eN R R)) (bM (K:=kT161) (xs:=([(⟨u,(aH (b+(aH (u*(aH (i+1))))))⟩:pair)]:List pair)) (vs:=[(.agg [(iv u),(iv (aH (b+(aH (u*(aH (i+1)))))))].toArray)]) 0 R R fB fC eN R R R R R R ?_ R (fun aw ax=>?_))
 exact fun I h s=>(j7).list [(((),()),(⟨u,(aH (b+(aH (u*(aH (i+1))))))⟩:pair))] I h s
 refine lM _ (tE 3 [2,0,1]) ?_
 refine eD (K:=kT161) 8796093022208 R R fB fC lF (Zr.zk zT161 eN) R R R R R R dP a0 (fun Z a6=>(lN (OO kT161 161 Z a6 (q++([(⟨u,(aH (b+(aH (u*(aH (i+1))))))⟩:pair)]:List pair))::_::M) ?_))
 refine cX ?_
 cases m
 exact qA (Z,(q++([(⟨u,(aH (b+(aH (u*(aH (i+1))))))⟩:pair)]:List pair)).length,a6) (tE 2 [1,0])
 refine aP ?_
 cases m
 obtain rfl:=ap _ R
 have m:=an
 refine aV ?_
 exact qI (q,(aa,q.length,ah)) m tI
 rintro ⟨D,⟨Y,ao,T⟩⟩ σ1 m
 dsimp only [Zz_J2] at m
 refine bH 1 aB (fun (hn:ao=D.length)=>?_)
 subst hn
 refine bT ?_
 obtain ⟨am,a9,m⟩:=bd m
 refine bV ?_
 refine lM _ (fun w s=>((s.d 2 R).e 3 [2,0,1])) ?_
 refine lC 2 sO R (FnOk.lends (A':=[OO kT161 161 Y T D]) (A:=[RR kT161 Y T D]) (B:=[RR kT3 (ad J o29) D2 j]) (FnOk.perm (Z7_ok a9) (Pre':=[RR kT161 Y T D,RR kT3 (ad J o29) D2 j]) (fun _ _ _ s=>(s.e 2 [1,0]))) ⟨aU,trivial⟩ (fun _=>⟨(bI sx),trivial⟩)) R ?_
 rintro ⟨ai,az,aq⟩
 refine aL 1 aB ?_
 rintro rfl
 refine bV ?_
 cases m
 exact iu ((G,E.length,F),(ai,am.length,aq)) (tE 4 [2,1])
theorem Z1x_ok  {p1:(List Int)}{a:(List Int)}{r:(List Int)×(List pair)×Bool}(b:Z1x p1 a=some r) :
 FnOk Tryz.prog 127 [(.slice A2 N2 D2),(.slice A4 N4 D4)] [aO kT3 (.slice A2 N2 D2) p1,aO kT3 (.slice A4 N4 D4) a] (fun (h:HH×HH)=>((.tuple [(s3 h.1),(s3 h.2),(.bool r.2.2)].toArray),[ow kT3 3 (s3 h.1) r.1,ow kT161 161 (s3 h.2) r.2.1])):=by
 unfold Z1x at b
 refine aQ Tryz.func127 R 24 R R fun C V=>?_
 refine cL 0 aA ?_
 rintro rfl
 refine cL 1 aA ?_
 rintro rfl
 let u:=RR kT3 A2 D2 p1::RR kT3 A4 D4 a::V
 refine cN u ?_
 refine cZ ?_
 obtain ⟨l,b⟩:=gd b
 obtain ⟨_,b⟩:=gd b
 obtain ⟨_,b⟩:=gd b
 obtain ⟨_,b⟩:=gd b
 obtain ⟨e,g,b⟩:=bd b
 refine aZ 0 aA (show 0<p1.length by have:=l; omega) (fun D o7 q=>?_)
 subst q
 refine dG 20 [] bP fun B E=>?_
 refine mu 0 [] ?_
 refine d1 13 R (lM _ (fun w s=>(s.d 1 R)) ?_)
 refine lC 1 zK R (Zz_ok g) R ?_
 rintro ⟨⟨i,m,j⟩,⟨A14,N14,D14⟩⟩
 refine aL 0 aB ?_
 rintro rfl
 refine aL 1 aB ?_
 rintro rfl
 refine aC (aG (sL [1,0]) ?_)
 refine sr 14 [1,0] ?_
 refine dD ?_
 refine aV ?_
 cases b
 exact iu ((i,e.1.length,j),(A14,e.2.1.length,D14)) (tE 4 [0,1])
theorem Z2n_ok  {a:Node}{b:(List Int)}{m:Int}{i:Int}{E:Nat}{j:Nat}{g:Nat}{r:(List Int)×(List pair)×Bool}(l:Z2n a b m i=some r) :
 FnOk Tryz.prog 149 [(.agg [(iv a.Op),(.slice A2 N2 D2),(.slice A3 N3 D3),(.slice A4 N4 D4),(aD a.Form),(.slice A5 N5 D5)].toArray),(.slice A7 N7 D7),(pt E 0),(pt j 0),(pt g 0)] [aO kT3 (.slice A2 N2 D2) a.Args,aO kT3 (.slice A3 N3 D3) a.Dims,aO kT3 (.slice A4 N4 D4) a.Ints,aO kT3 (.slice A5 N5 D5) a.Data,aO kT3 (.slice A7 N7 D7) b,aJ E [(iv m)] 3,aJ j [(iv i)] 3,aJ g [(.func (.func 127) [].toArray [].toArray)] 150] (fun (h:HH×HH)=>((.tuple [(s3 h.1),(s3 h.2),(.bool r.2.2)].toArray),[ow kT3 3 (s3 h.1) r.1,ow kT161 161 (s3 h.2) r.2.1,aJ E [(iv m)] 3,aJ j [(iv i)] 3,aJ g [(.func (.func 127) [].toArray [].toArray)] 150])):=by
 unfold Z2n at l
 refine aQ Tryz.func149 R 30 R R fun C V=>?_
 refine cM _ (fun w s=>(s.f 8 [5,3,0,5])) ?_
 refine cL 3 aA ?_
 rintro rfl
 refine cL 4 aA ?_
 rintro rfl
 refine cL 5 aA ?_
 rintro rfl
 refine cL 6 aA ?_
 rintro rfl
 refine cL 7 aA ?_
 rintro rfl
 let O:=RR kT3 A2 D2 a.Args::RR kT3 A3 D3 a.Dims::RR kT3 A4 D4 a.Ints::RR kT3 A5 D5 a.Data::RR kT3 A7 D7 b::V
 refine aV ?_
 refine eB R fun u=>?_
 refine bG ?_
 let L:=aJ u [(iv a.Op),(sc A2 a.Args D2),(sc A3 a.Dims D3),(sc A4 a.Ints D4),(aD a.Form),(sc A5 a.Data D5)] 54::aJ E [(iv m)] 3::aJ j [(iv i)] 3::aJ g [(.func (.func 127) [].toArray [].toArray)] 150::O
 refine qN L ?_
 refine aP ?_
 refine cQ [(1,(sc A7 b D7)),(4,(pt g 0)),(5,(pt u 0)),(21,(.bool ((decide ((a.Ints.length:Int)<m))||(decide ((a.Ints.length:Int)>i)))))] (L) ?_ ?_
 refine dN ?_
 rcases bo (decide ((a.Ints.length:Int)<m)) with D | D
 refine dN ?_
 exact qj tI
 refine dN ?_
 exact qj tI
 rintro σ1
 refine bT ?_
 split at l
 refine cU ?_
 cases l
 exact iu ((none,0,0),(none,0,0)) (fun w s=>(((s.nilo kT3 3).nilo kT161 161).e 11 [1,0,3,4,5]))
 refine bG ?_
 obtain ⟨B,q,l⟩:=bd l
 refine cA ?_
 refine lM _ (fun w s=>(((s.d 6 R).d 9 R).e 2 [1,0])) ?_
 refine cF (fs:=[]) (cs:=[]) 2 R R zL R R (Z1x_ok q) R ?_
 rintro ⟨⟨G,M,F⟩,⟨I,T,J⟩⟩
 refine aL 0 aB ?_
 rintro rfl
 refine aL 1 aB ?_
 rintro rfl
 refine cX ?_
 cases l
 exact iu ((G,B.1.length,F),(I,B.2.1.length,J)) (fun w s=>(s.f 11 [0,2,3,3]))
end Go.Proofs.YtmpnollfdpdipaaGreat
