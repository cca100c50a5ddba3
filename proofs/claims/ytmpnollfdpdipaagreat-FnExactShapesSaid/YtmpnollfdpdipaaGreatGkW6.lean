import Derived.Test.YtmpnollfdpdipaaGreatGkF
import Derived.Test.YtmpnollfdpdipaaGreatGkW1
import Derived.Test.YtmpnollfdpdipaaGreatGkW5
set_option linter.unusedVariables false
set_option maxRecDepth 20000
namespace Go.Proofs.YtmpnollfdpdipaaGreat
open Go Go.Pg
variable {A2 A3 A4 A5 A6 A7 A8 A9 A10 A11:Option Addr}{D2 D3 D4 D5 D6 D7 D8 D9 D10 D11 N2 N3 N4 N5 N6 N7 N8 N9 N10 N11:Nat}
theorem Z04_ok  {p1:View}{j:(List Int)}{u:View}{D:Nat}{U:Nat}{M:Nat}{r:Bool×View}(b:Z04 p1 j u=some r) :
 FnOk Tryz.prog 166 [(pt D 0),(pt U 0),(pt M 0)] [aO kT3 (.slice A3 N3 D3) p1.Dims,aO kT3 (.slice A4 N4 D4) p1.Strides,aJ D [(.slice A3 N3 D3),(.slice A4 N4 D4),(iv p1.Offset),(iv p1.Base)] 96,aO kT3 (.slice A7 N7 D7) j,aJ U [(.slice A7 N7 D7)] 23,aO kT3 (.slice A10 N10 D10) u.Dims,aO kT3 (.slice A11 N11 D11) u.Strides,aJ M [(.slice A10 N10 D10),(.slice A11 N11 D11),(iv u.Offset),(iv u.Base)] 96] (fun (h:HH×HH)=>((.bool r.1),[aO kT3 (s3 h.1) r.2.Dims,aO kT3 (s3 h.2) r.2.Strides,aJ D [(s3 h.1),(s3 h.2),(iv r.2.Offset),(iv r.2.Base)] 96,aJ U [(.slice A7 N7 D7)] 23,aJ M [(.slice A10 N10 D10),(.slice A11 N11 D11),(iv u.Offset),(iv u.Base)] 96])):=by
 unfold Z04 at b
 refine aQ Tryz.func166 R 71 R R fun C V=>?_
 refine cM (aJ _ _ _::aJ _ _ _::aJ _ _ _::aO _ _ _::aO _ _ _::aO _ _ _::aO _ _ _::aO _ _ _::V) (tE 8 [2,4,7,0,1,3,5,6]) ?_
 refine cL 3 aA ?_
 rintro rfl
 refine cL 4 aA ?_
 rintro rfl
 refine cL 5 aA ?_
 rintro rfl
 refine cL 6 aA ?_
 rintro rfl
 refine cL 7 aA ?_
 rintro rfl
 let W0:=RR kT3 A3 D3 p1.Dims::RR kT3 A4 D4 p1.Strides::RR kT3 A7 D7 j::RR kT3 A10 D10 u.Dims::RR kT3 A11 D11 u.Strides::V
 refine bG ?_
 let L:=aJ U [(sc A7 j D7)] 23::aJ M [(sc A10 u.Dims D10),(sc A11 u.Strides D11),(iv u.Offset),(iv u.Base)] 96::W0
 refine aP ?_
 obtain ⟨a4,a9,b⟩:=bd b
 refine cQ [(0,(pt D 0)),(1,(pt U 0)),(2,(pt M 0)),(17,(.bool ((!a4)||(decide ((j.length:Int)<(u.Dims.length:Int))))))] (aJ D [(sc A3 p1.Dims D3),(sc A4 p1.Strides D4),(iv p1.Offset),(iv p1.Base)] 96::L) ?_ ?_
 refine aU ?_
 refine lM (RR kT3 A7 D7 j::_::L) (fun w s=>(s.d 5 R)) ?_
 refine lC 1 j2 R (Zb_ok a9) R ?_
 rintro _
 refine aU ?_
 rcases bo (!a4) with a8 | a8
 refine cV ?_
 exact qj tI
 refine cV ?_
 exact qj tI
 rintro σ1
 refine bR ?_
 split at b
 refine cV ?_
 cases b
 exact qF ((A3,p1.Dims.length,D3),(A4,p1.Strides.length,D4)) (fun w s=>(s.f 8 [3,2,0,3]))
 refine bG ?_
 obtain ⟨i,a6,b⟩:=bd b
 refine aP ?_
 refine lM (RR kT3 A7 D7 j::_::L) (fun w s=>(s.d 5 R)) ?_
 refine lC 1 j3 R (Zg_ok a6) R ?_
 rintro ⟨q,ab,l⟩
 refine aL 0 aB ?_
 rintro rfl
 refine aU ?_
 refine cR 1 R R eZ R R R R R (lN (_::aJ D [(sc q i l),(sc A4 p1.Strides D4),(iv p1.Offset),(iv p1.Base)] 96::L) ?_)
 refine aP ?_
 obtain ⟨G,b⟩:=gd b
 refine bG ?_
 refine fI (K:=kT3) (m:=(j.length:Int)) (z:=(0:Int)) R R bL cE kv (Zr.zk zT3 gZ) (by decide) R R G.1 G.2.1 G.2.2 (fun B g=>(lP R (lO (fZ 1 fW R) (cR 2 R R eZ R R R R R (lN (OO kT3 3 B g (List.replicate (j.length:Int).toNat (0:Int))::_::aJ D [(sc q i l),(sc B (List.replicate (j.length:Int).toNat (0:Int)) g),(iv p1.Offset),(iv p1.Base)] 96::L) ?_)))))
 refine aP ?_
 refine bB (A:=((List Int))×(Unit)) (fun a=>Z04_J3 p1 i a.1=some r) (fun a=>[]) (fun a=>aJ D [(sc q i l),(sc B (List.replicate (j.length:Int).toNat (0:Int)) g),(iv p1.Offset),(iv p1.Base)] 96::OO kT3 3 q l i::ow kT3 3 (.slice B (List.replicate (j.length:Int).toNat (0:Int)).length g) a.1::L) ?_ ?_
 refine cP ?_
 obtain ⟨e1,aa,a1⟩:=bd b
 refine bC (A:=Unit) aa (fun s a=>[(0,(pt D 0)),(1,(pt U 0)),(2,(pt M 0)),(31,(il u.Dims)),(32,(iv s.2))]) (fun s a=>aJ D [(sc q i l),(sc B (List.replicate (j.length:Int).toNat (0:Int)) g),(iv p1.Offset),(iv p1.Base)] 96::OO kT3 3 q l i::ow kT3 3 (.slice B (List.replicate (j.length:Int).toNat (0:Int)).length g) s.1::L) () (aS R) (tE 3 [2,1,0]) ?_
 rintro ⟨T,J⟩ _ σ1 a2 b a5
 dsimp only [Z04_L1] at b
 refine bS ?_
 split at b
 refine bG ?_
 refine bB (A:=((List Int))×(Unit)) (fun a=>Z04_J2 J a.1=some a2) (fun a=>[(0,(pt D 0)),(1,(pt U 0)),(2,(pt M 0)),(31,(il u.Dims)),(32,(iv J))]) (fun a=>aJ D [(sc q i l),(sc B (List.replicate (j.length:Int).toNat (0:Int)) g),(iv p1.Offset),(iv p1.Base)] 96::OO kT3 3 q l i::ow kT3 3 (.slice B (List.replicate (j.length:Int).toNat (0:Int)).length g) a.1::L) ?_ ?_
 refine u9 ?_
 obtain ⟨a3,b⟩:=gd b
 obtain ⟨Z,b⟩:=gd b
 refine aZ 8 aA (show 0<u.Dims.length by have:=a3; omega) (fun ag o44 Y=>?_)
 subst Y
 refine aZ 7 aA (show 0<j.length by have:=Z; omega) (fun ah o47 Y=>?_)
 subst Y
 refine dC 10 [] bO fun ht hn=>?_
 refine qH 0 [] ?_
 refine dD (aI ?_)
 split at b
 refine bR ?_
 obtain ⟨a0,b⟩:=gd b
 obtain ⟨E,b⟩:=gd b
 refine aZ 9 aA (show 0<u.Strides.length by have:=a0; omega) (fun ac o51 Y=>?_)
 subst Y
 refine aZ 2 aB (show 0<(List.replicate (j.length:Int).toNat (0:Int)).length by have:=E; omega) (fun O o54 Y=>?_)
 subst Y
 refine dC 12 [2] bO fun ht hn=>?_
 refine oX 0 [2] ?_
 refine d1 11 R (lM (ow kT3 3 (.slice (ad O o54) (List.replicate (j.length:Int).toNat (0:Int)).length g) T::aJ D [(sc q i l),(sc (ad O o54) (List.replicate (j.length:Int).toNat (0:Int)) g),(iv p1.Offset),(iv p1.Base)] 96::ow _ _ _ _::L) (tE 3 [2,0,1]) ?_)
 refine dX (K:=kT3) (x':=(ix u.Strides J)) 0 (aH ((aH ((j.length:Int) - (u.Dims.length:Int)))+J)) R R cE R R E.1 E.2 ?_ ?_
 exact fun I h s=>(gJ).put I h () (ix u.Strides J) s
 refine aC (aG (sL [0]) (dD ?_))
 obtain ⟨a7,F,b⟩:=bd b
 replace F:=Option.some.inj F
 refine qM (ow kT3 3 (.slice (ad O o54) (List.replicate (j.length:Int).toNat (0:Int)).length g) a7::_::_::L) (fun w s=>by rw [← F]; exact s) ?_
 refine bR ?_
 exact qI (a7,()) b (tE 3 [1,2,0])
 refine iu ?_
 split at b
 refine cP ?_
 cases b
 obtain rfl:=a5 _ R
 have b:=a1
 refine aP ?_
 cases b
 exact qF ((q,i.length,l),(B,(List.replicate (j.length:Int).toNat (0:Int)).length,g)) (fun w s=>(((s.shr 1 R).shr 2 R).e 10 [1,0,2,3,4]))
 refine aP ?_
 exact qI (T,()) b tI
 rintro ⟨ai,_⟩ σ1 b
 dsimp only [Z04_J2] at b
 refine bG ?_
 cases b
 exact qA () tI
 refine aP ?_
 cases b
 obtain rfl:=a5 _ R
 have b:=a1
 refine aU ?_
 exact cJ (T,()) b trivial tI
 rintro ⟨ae,_⟩ σ1 b
 dsimp only [Z04_J3] at b
 refine bS ?_
 cases b
 exact qF ((q,i.length,l),(B,(List.replicate (j.length:Int).toNat (0:Int)).length,g)) (fun w s=>(((s.shr 1 R).shr 2 R).e 10 [1,0,2,3,4]))
theorem Z35_ok  {v1:View}{q5:(List Int)}{E:View}{b6:Nat}{Y:Nat}{r:View}(B:Z35 v1 q5 E=some r) :
 FnOk Tryz.prog 165 [(.agg [(.slice A2 N2 D2),(.slice A3 N3 D3),(iv v1.Offset),(iv v1.Base)].toArray),(.func (.func 166) [].toArray [(pt b6 0),(pt Y 0)].toArray)] [aO kT3 (.slice A2 N2 D2) v1.Dims,aO kT3 (.slice A3 N3 D3) v1.Strides,aO kT3 (.slice A7 N7 D7) q5,aJ b6 [(.slice A7 N7 D7)] 23,aO kT3 (.slice A10 N10 D10) E.Dims,aO kT3 (.slice A11 N11 D11) E.Strides,aJ Y [(.slice A10 N10 D10),(.slice A11 N11 D11),(iv E.Offset),(iv E.Base)] 96] (fun (h:HH×HH)=>((.agg [(s3 h.1),(s3 h.2),(iv r.Offset),(iv r.Base)].toArray),[aO kT3 (s3 h.1) r.Dims,aO kT3 (s3 h.2) r.Strides,aJ b6 [(.slice A7 N7 D7)] 23,aJ Y [(.slice A10 N10 D10),(.slice A11 N11 D11),(iv E.Offset),(iv E.Base)] 96])):=by
 unfold Z35 at B
 refine aQ Tryz.func165 R 31 R R fun C V=>?_
 refine cM _ (tE 7 [3,6,0,1,2,4,5]) ?_
 refine cL 2 aA ?_
 rintro rfl
 refine cL 3 aA ?_
 rintro rfl
 refine cL 4 aA ?_
 rintro rfl
 refine cL 5 aA ?_
 rintro rfl
 refine cL 6 aA ?_
 rintro rfl
 let W0:=RR kT3 A2 D2 v1.Dims::RR kT3 A3 D3 v1.Strides::RR kT3 A7 D7 q5::RR kT3 A10 D10 E.Dims::RR kT3 A11 D11 E.Strides::V
 refine aU ?_
 refine eG R fun ac=>?_
 refine bE R R cW (fun F=>(aC (qM _ (tE 4 [0,2,3,1]) ?_)))
 let W1:=aJ ac [(sc A2 v1.Dims D2),(sc A3 v1.Strides D3),(iv v1.Offset),(iv v1.Base)] 96::W0
 refine aP ?_
 obtain ⟨aj,a5,B⟩:=bd B
 refine aU ?_
 refine lM _ (fun w s=>(((s.d 4 R).d 6 R).e 5 [1,0,2,3,4])) ?_
 refine lC 2 mx R (Zf_ok a5) R ?_
 rintro _
 refine aP ?_
 split at B
 refine aP ?_
 refine lO (vz (.agg [(.slice none 0 0),(.slice none 0 0),(iv 0),(iv 0)].toArray) (aV fD cW R R)) (aK 0 R R cF R R R R R R (aC (aI (bV (cD ?_)))))
 cases B
 exact qS ((none,0,0),(none,0,0)) (fun w s=>(((s.nilr kT3).nilr kT3).e 11 [1,0,3,4]))
 refine bG ?_
 obtain ⟨i,O,B⟩:=bd B
 obtain ⟨g,G,B⟩:=bd B
 refine iS (A:=(Unit)×(Nat×HH×HH)) (fun _=>True) (fun a=>[(1,(.func (.func 166) [].toArray [(pt b6 0),(pt Y 0)].toArray)),(4,(pt F 0)),(5,(pt a.2.1 0))]) (fun a=>aJ b6 [(sc A7 q5 D7)] 23::aJ Y [(sc A10 E.Dims D10),(sc A11 E.Strides D11),(iv E.Offset),(iv E.Base)] 96::aJ F [(.slice none 0 0),(.slice none 0 0),(iv 0),(iv 0)] 96::aJ a.2.1 [(s3 a.2.2.1),(s3 a.2.2.2),(iv v1.Offset),(iv v1.Base)] 96::ow kT3 3 (s3 a.2.2.1) i::ow kT3 3 (s3 a.2.2.2) g::W1) ?_ ?_
 refine dC 13 [] bO fun ht U=>?_
 refine gO 0 [] ?_
 refine gO 3 [] ?_
 refine og 6 [] ?_
 refine hR [2,11] (by kernel_rfl) R ⟨?_,?_,trivial⟩
 refine lM _ (fun w s=>(s.d 4 R)) ?_
 refine lC 1 j3 R (Zg_ok O) R ?_
 rintro ⟨m,ab,q⟩
 refine aL 0 aB ?_
 rintro rfl
 refine aC (aG (sL [0]) (hR [5,11] (by kernel_rfl) R ⟨?_,?_,trivial⟩))
 refine lM _ (fun w s=>(s.d 6 R)) ?_
 refine lC 1 j3 R (Zg_ok G) R ?_
 rintro ⟨j,a4,l⟩
 refine aL 0 aB ?_
 rintro rfl
 refine aC (aG (sL [1,0]) (dR 10 R (vz (.agg [(sc m i q),(sc j g l),(iv v1.Offset),(iv v1.Base)].toArray) (aV fD cW R R)) (hS:=(sL [1,0])) (d1 11 R (bE R R cW (fun D=>(aC (aG (sL [2,1,0]) (d1 12 R (aK 0 R R cF R R R R R R (lN (aJ D [(sc m i q),(sc j g l),(iv v1.Offset),(iv v1.Base)] 96::_::_::_::_::_::W1) ?_))))))))))
 refine aC (aG (sL [2,1,0]) (dD ?_))
 exact cJ ((),(D,(m,i.length,q),(j,g.length,l))) trivial (aS R) (tE 6 [4,5,3,0,2,1])
 refine bE R R cW (fun D=>(aC (aG (sL [1,0]) (d1 5 R (lM _ (fun w s=>(s.d 7 R)) ?_)))))
 refine lC 1 j3 R (Zg_ok G) R ?_
 rintro ⟨j,a4,l⟩
 refine aL 0 aB ?_
 rintro rfl
 refine aC (aG (sL [2,1,0]) (dR 10 R (vz (.agg [(sc m i q),(sc j g l),(iv v1.Offset),(iv v1.Base)].toArray) (aV fD cW R R)) (hS:=(sL [2,1,0])) (d1 12 R (aK 1 R R cF R R R R R R (lN (_::aJ D [(sc m i q),(sc j g l),(iv v1.Offset),(iv v1.Base)] 96::_::_::_::_::W1) ?_)))))
 refine aC (aG (sL [2,1,0]) (dD ?_))
 exact cJ ((),(D,(m,i.length,q),(j,g.length,l))) trivial (aS R) (tE 6 [4,5,3,1,2,0])
 refine bE R R cW (fun D=>(aC (aG (sL [0]) (d1 2 R (lM _ (fun w s=>(s.d 5 R)) ?_)))))
 refine lC 1 j3 R (Zg_ok O) R ?_
 rintro ⟨m,ab,q⟩
 refine aL 0 aB ?_
 rintro rfl
 refine aC (aG (sL [1,0]) (d1 5 R (lM _ (fun w s=>(s.d 7 R)) ?_)))
 refine lC 1 j3 R (Zg_ok G) R ?_
 rintro ⟨j,a4,l⟩
 refine aL 0 aB ?_
 rintro rfl
 refine aC (aG (sL [2,1,0]) (dR 10 R (vz (.agg [(sc m i q),(sc j g l),(iv v1.Offset),(iv v1.Base)].toArray) (aV fD cW R R)) (hS:=(sL [2,1,0])) (d1 12 R (aK 2 R R cF R R R R R R (lN (_::_::aJ D [(sc m i q),(sc j g l),(iv v1.Offset),(iv v1.Base)] 96::_::_::_::W1) ?_)))))
 refine aC (aG (sL [2,1,0]) (dD ?_))
 exact cJ ((),(D,(m,i.length,q),(j,g.length,l))) trivial (aS R) (tE 6 [4,5,3,2,1,0])
 rintro ⟨_,⟨Z,⟨an,ae,ah⟩,⟨ai,ag,am⟩⟩⟩ σ1 -
 refine hT 4 aB (fun (U:ae=i.length)=>?_)
 subst U
 refine hT 5 aB (fun (U:ag=g.length)=>?_)
 subst U
 refine aP ?_
 obtain ⟨b,a6,B⟩:=bd B
 obtain ⟨a7,a8,B⟩:=bd B
 refine iS (A:=(Unit)×(HH×HH)) (fun _=>True) (fun a=>[(4,(pt F 0)),(5,(pt Z 0)),(28,(.bool ((!b.1)||(!a7))))]) (fun a=>aJ F [(.slice none 0 0),(.slice none 0 0),(iv 0),(iv 0)] 96::aJ Z [(s3 a.2.1),(s3 a.2.2),(iv b.2.Offset),(iv b.2.Base)] 96::aO kT3 (s3 a.2.1) b.2.Dims::aO kT3 (s3 a.2.2) b.2.Strides::aJ b6 [(sc A7 q5 D7)] 23::aJ Y [(sc A10 E.Dims D10),(sc A11 E.Strides D11),(iv E.Offset),(iv E.Base)] 96::W1) ?_ ?_
 refine aE (lO (vp _ R) (iE (fun w s=>s.shr 4 R) (iE (fun w s=>s.shr 5 R) (lM _ (fun w s=>((((((s.d 1 R).d 1 R).d 11 R).d 13 R).d 15 R).e 11 [4,3,10,2,7,1,0,8,5,6,9])) ?_))))
 refine cB (fs:=[]) (cs:=[(pt b6 0),(pt Y 0)]) 8 R R za R R (Z04_ok (p1:=(⟨i,g,v1.Offset,v1.Base⟩:View)) a6) R ?_
 rintro ⟨⟨a1,al,a3⟩,⟨a0,ak,a2⟩⟩
 refine aL 0 aA ?_
 rintro rfl
 refine aL 1 aA ?_
 rintro rfl
 refine aU ?_
 rcases bo (!b.1) with u | u
 refine aP ?_
 refine lO (fC (!a7) R u) (aC ?_)
 exact cJ ((),((a1,b.2.Dims.length,a3),(a0,b.2.Strides.length,a2))) trivial (aS R) (tE 8 [7,2,0,1,3,4])
 refine lW (bY u) (vz (.agg [(sc a1 b.2.Dims a3),(sc a0 b.2.Strides a2),(iv b.2.Offset),(iv b.2.Base)].toArray) (dT 2 gC cF R R R R)) (lM _ (fun w s=>(((s.d 0 R).d 2 R).f 10 [1,1,0,1,2,8])) ?_)
 refine bW 2 R (bY u) mx R (Zf_ok (bJ a8 (cO u))) R ?_
 rintro _
 refine bR ?_
 refine lO (fR R u R) (aC ?_)
 exact cJ ((),((a1,b.2.Dims.length,a3),(a0,b.2.Strides.length,a2))) trivial (aS R) (tE 8 [7,2,0,1,3,4])
 rintro ⟨_,⟨⟨J,a9,M⟩,⟨I,aa,L⟩⟩⟩ σ1 -
 refine hT 2 aA (fun (U:a9=b.2.Dims.length)=>?_)
 subst U
 refine hT 3 aA (fun (U:aa=b.2.Strides.length)=>?_)
 subst U
 refine bR ?_
 rcases cK B with ⟨T,B⟩|⟨T,B⟩
 refine aP ?_
 refine lO (vz (.agg [(.slice none 0 0),(.slice none 0 0),(iv 0),(iv 0)].toArray) (aV fD cW R R)) (aK 0 R R cF R R R R R R (lN (_::aJ Z [(sc J b.2.Dims M),(sc I b.2.Strides L),(iv b.2.Offset),(iv b.2.Base)] 96::RR kT3 J M b.2.Dims::RR kT3 I L b.2.Strides::_::_::W1) ?_))
 refine bG ?_
 cases B
 exact qS ((none,0,0),(none,0,0)) (fun w s=>(((s.nilr kT3).nilr kT3).e 14 [1,0,6,7]))
 refine bM R T ?_
 refine b' ?_
 refine aK 0 R R cF R R R R R R (lN (aJ F [(sc J b.2.Dims M),(sc I b.2.Strides L),(iv b.2.Offset),(iv b.2.Base)] 96::_::_::_::_::_::W1) ?_)
 refine aP ?_
 cases B
 exact qS ((J,b.2.Dims.length,M),(I,b.2.Strides.length,L)) (fun w s=>(s.f 12 [2,4]))
theorem Z2e_ok  {v1:View}{a:(List Int)}{r:View}(j:Z2e v1 a=some r) :
 FnOk Tryz.prog 159 [(.agg [(.slice A2 N2 D2),(.slice A3 N3 D3),(iv v1.Offset),(iv v1.Base)].toArray),(.slice A5 N5 D5)] [aO kT3 (.slice A2 N2 D2) v1.Dims,aO kT3 (.slice A3 N3 D3) v1.Strides,aO kT3 (.slice A5 N5 D5) a] (fun (h:HH×HH)=>((.agg [(.slice h.1.1 h.1.2.1 h.1.2.2),(.slice h.2.1 h.2.2.1 h.2.2.2),(iv r.Offset),(iv r.Base)].toArray),[aO kT3 (.slice h.1.1 h.1.2.1 h.1.2.2) r.Dims,aO kT3 (.slice h.2.1 h.2.2.1 h.2.2.2) r.Strides])):=by
 unfold Z2e at j
 refine aQ Tryz.func159 R 8 R R fun C V=>?_
 refine cN (_::_::_::V) ?_
 refine cL 0 aA ?_
 rintro rfl
 refine cL 1 aA ?_
 rintro rfl
 refine cL 2 aA ?_
 rintro rfl
 let i:List HP:=RR kT3 A2 D2 v1.Dims::RR kT3 A3 D3 v1.Strides::RR kT3 A5 D5 a::V
 refine cN i ?_
 refine aN (aE (eG R (fun m=>(eY (cs:=[(sc A5 a D5)]) R R R (fun q=>(bE R R cW (fun l=>(aC (aI (aN ?_))))))))))
 obtain ⟨b,g,j⟩:=bd j
 refine aE (lO (vz (.agg [(sc A2 v1.Dims D2),(sc A3 v1.Strides D3),(iv v1.Offset),(iv v1.Base)].toArray) (dT 2 gC cF R R R R)) (lO (vp (.func (.func 166) [].toArray [(pt q 0),(pt m 0)].toArray) R) (lM (RR kT3 A2 D2 v1.Dims::RR kT3 A3 D3 v1.Strides::RR kT3 A5 D5 a::aJ _ _ _::RR kT3 A2 D2 v1.Dims::RR kT3 A3 D3 v1.Strides::aJ _ _ _::aJ _ _ _::i) (fun w s=>((((((s.d 3 R).d 5 R).d 7 R).d 6 R).d 8 R).e 8 [4,3,2,6,1,0,7,5])) ?_)))
 refine lC 7 sv R (Z35_ok g) R ?_
 rintro ⟨⟨A11,N11,D11⟩,⟨A12,N12,D12⟩⟩
 refine lN (aO kT3 (.slice A11 N11 D11) b.Dims::aO kT3 (.slice A12 N12 D12) b.Strides::_::_::_::i) ?_
 refine aL 0 aA ?_
 rintro rfl
 refine aL 1 aA ?_
 rintro rfl
 refine aK 4 R R cF R R R R R R (lN (_::_::_::_::aJ l [(sc A11 b.Dims D11),(sc A12 b.Strides D12),(iv b.Offset),(iv b.Base)] 96::i) ?_)
 refine aC (aI (bV ?_))
 obtain rfl:=so j
 exact dF (vs:=[(.agg [(sc A11 b.Dims D11),(sc A12 b.Strides D12),(iv b.Offset),(iv b.Base)].toArray)]) (.inl R) ((A11,b.Dims.length,D11),(A12,b.Strides.length,D12)) R ⟨⟨4,l,_,_,R,R,.inl ⟨gC,cF,R⟩⟩,trivial⟩ R (fun w s=>(s.e 8 [0,1]))
theorem Z0y_ok  {v1:View}{e:Int}{b:Int}{g:Int}{q:Nat}{r:View}(m:Z0y v1 e b g=some r) :
 FnOk Tryz.prog 168 [(pt q 0),(iv e),(iv b),(iv g)] [ow kT3 3 (.slice A3 N3 D3) v1.Dims,ow kT3 3 (.slice A4 N4 D4) v1.Strides,aJ q [(.slice A3 N3 D3),(.slice A4 N4 D4),(iv v1.Offset),(iv v1.Base)] 96] (fun (h:HH×HH)=>((.tuple [].toArray),[ow kT3 3 (s3 h.1) r.Dims,ow kT3 3 (s3 h.2) r.Strides,aJ q [(s3 h.1),(s3 h.2),(iv r.Offset),(iv r.Base)] 96])):=by
 unfold Z0y at m
 refine aQ Tryz.func168 R 24 R R fun C V=>?_
 refine cL 0 aB ?_
 rintro rfl
 refine cL 1 aB ?_
 rintro rfl
 refine aN (bB (A:=(Int)×(Unit)) (fun a=>Z0y_J3 v1 e b a.1=some r) (fun a=>[(0,(pt q 0)),(1,(iv e)),(2,(iv b)),(3,(iv a.1))]) (fun a=>aJ q [(sc A3 v1.Dims D3),(sc A4 v1.Strides D4),(iv v1.Offset),(iv v1.Base)] 96::OO kT3 3 A3 D3 v1.Dims::OO kT3 3 A4 D4 v1.Strides::V) ?_ ?_)
 refine b' ?_
 let G:=aJ q [(sc A3 v1.Dims D3),(sc A4 v1.Strides D4),(iv v1.Offset),(iv v1.Base)] 96::V
 refine bR ?_
 split at m
 refine bG ?_
 exact qI ((0:Int),()) m (tE 3 [2,0,1])
 refine aU ?_
 exact qI (g,()) m (tE 3 [2,0,1])
 rintro ⟨i,_⟩ σ1 m
 dsimp only [Z0y_J3] at m
 obtain ⟨l,m⟩:=gd m
 obtain ⟨j,m⟩:=gd m
 refine aZ 1 aB (show 0<v1.Dims.length by have:=l; omega) (fun D o12 u=>?_)
 subst u
 refine aZ 2 aB (show 0<v1.Strides.length by have:=j; omega) (fun B o15 u=>?_)
 subst u
 refine dC 16 [2,1] bO fun F E=>?_
 refine mr 0 [2,1] ?_
 refine d1 13 R (lM _ (tE 3 [1,0,2]) ?_)
 refine dX (K:=kT3) (x':=b) 0 e R R cE R R l.1 l.2 ?_ ?_
 exact fun I h s=>(gJ).put I h () b s
 refine aC (aG (sL [2,0]) ?_)
 refine oe 14 [2,0] ?_
 refine d1 15 R (lM _ (tE 3 [2,0,1]) ?_)
 refine dX (K:=kT3) (x':=i) 0 e R R cE R R j.1 j.2 ?_ ?_
 exact fun I h s=>(gJ).put I h () i s
 refine aC (aG (sL [1,0]) (dD ?_))
 cases m
 exact zZ (((ad D o12),v1.Dims.length,D3),((ad B o15),v1.Strides.length,D4)) (tE 3 [1,0,2])
theorem Z1i_ok  {p1:View}{q:Int}{u:Int}{j:Int}{e:Int}{m:Nat}{E:Nat}{F:Nat}{l:Nat}{b:Nat}{r:Bool×View×Int}(i:Z1i p1 q u j e=some r) :
 FnOk Tryz.prog 167 [(pt m 0),(pt E 0),(pt F 0),(pt l 0),(pt b 0)] [ow kT3 3 (.slice A3 N3 D3) p1.Dims,ow kT3 3 (.slice A4 N4 D4) p1.Strides,aJ m [(.slice A3 N3 D3),(.slice A4 N4 D4),(iv p1.Offset),(iv p1.Base)] 96,aJ E [(iv q)] 3,aJ F [(iv u)] 3,aJ l [(iv j)] 3,aJ b [(iv e)] 3] (fun (h:HH×HH)=>((.bool r.1),[ow kT3 3 (s3 h.1) r.2.1.Dims,ow kT3 3 (s3 h.2) r.2.1.Strides,aJ m [(s3 h.1),(s3 h.2),(iv r.2.1.Offset),(iv r.2.1.Base)] 96,aJ E [(iv q)] 3,aJ F [(iv u)] 3,aJ l [(iv j)] 3,aJ b [(iv r.2.2)] 3])):=by
 unfold Z1i at i
 refine aQ Tryz.func167 R 86 R R fun C V=>?_
 refine cL 0 aB ?_
 rintro rfl
 refine cL 1 aB ?_
 rintro rfl
 refine bG ?_
 refine qM _ (fun w s=>(s.f 7 [0,3,6,1,3,3])) ?_
 let I:=aJ E [(iv q)] 3::aJ F [(iv u)] 3::aJ l [(iv j)] 3::V
 refine aP ?_
 obtain ⟨G,D,i⟩:=bd i
 refine cQ [(0,(pt m 0)),(1,(pt E 0)),(2,(pt F 0)),(3,(pt l 0)),(4,(pt b 0)),(24,(.bool (((!G)||(decide (u<1)))||(decide (u>4096)))))] (aJ m [(sc A3 p1.Dims D3),(sc A4 p1.Strides D4),(iv p1.Offset),(iv p1.Base)] 96::OO kT3 3 A3 D3 p1.Dims::OO kT3 3 A4 D4 p1.Strides::aJ b [(iv e)] 3::I) ?_ ?_
 rcases bo (!G) with a2 | a2
 refine dC 15 [] bO fun Y hn=>?_
 refine kh 0 [] ?_
 refine d1 5 R (lC 1 gL R (FnOk.lends (A':=[OO kT3 3 A3 D3 p1.Dims]) (A:=[RR kT3 A3 D3 p1.Dims]) (B:=[]) (Zk_ok D) ⟨aY,trivial⟩ (fun _=>trivial)) R ?_)
 rintro _
 refine aC (aG (sL []) ?_)
 refine vi 6 [] ?_
 refine dD ?_
 exact qj (tE 4 [2,0,1,3])
 rcases bo ((!G)||(decide (u<1))) with U | U
 refine dC 15 [] bO fun Y hn=>?_
 refine kh 0 [] ?_
 refine d1 5 R (lC 1 gL R (FnOk.lends (A':=[OO kT3 3 A3 D3 p1.Dims]) (A:=[RR kT3 A3 D3 p1.Dims]) (B:=[]) (Zk_ok D) ⟨aY,trivial⟩ (fun _=>trivial)) R ?_)
 rintro _
 refine aC (aG (sL []) ?_)
 refine vi 6 [] ?_
 refine dD ?_
 exact qj (tE 4 [2,0,1,3])
 refine dC 15 [] bO fun Y hn=>?_
 refine kh 0 [] ?_
 refine d1 5 R (lC 1 gL R (FnOk.lends (A':=[OO kT3 3 A3 D3 p1.Dims]) (A:=[RR kT3 A3 D3 p1.Dims]) (B:=[]) (Zk_ok D) ⟨aY,trivial⟩ (fun _=>trivial)) R ?_)
 rintro _
 refine aC (aG (sL []) ?_)
 refine vi 6 [] ?_
 refine dD ?_
 exact qj (tE 4 [2,0,1,3])
 rintro σ1
 refine bR ?_
 split at i
 refine cV ?_
 cases i
 exact qF ((A3,p1.Dims.length,D3),(A4,p1.Strides.length,D4)) (tE 7 [1,2,0,4,5,6,3])
 refine bG ?_
 obtain ⟨T,i⟩:=gd i
 refine aZ 1 aB (show 0<p1.Dims.length by have:=T; omega) (fun g o20 ha=>?_)
 subst ha
 refine dC 8 [] bO fun Y hn=>?_
 refine ua 0 [] ?_
 refine dD ?_
 refine aP ?_
 refine cQ [(0,(pt m 0)),(1,(pt E 0)),(2,(pt F 0)),(3,(pt l 0)),(4,(pt b 0)),(7,(iv (ix p1.Dims q))),(46,(.bool ((((decide (j<0))||(decide (j≥(ix p1.Dims q))))||(decide (e<(-4096:Int))))||(decide (e>4096)))))] (aJ m [(sc (ad g o20) p1.Dims D3),(sc A4 p1.Strides D4),(iv p1.Offset),(iv p1.Base)] 96::OO kT3 3 (ad g o20) D3 p1.Dims::OO kT3 3 A4 D4 p1.Strides::aJ b [(iv e)] 3::I) ?_ ?_
 refine bG ?_
 rcases bo (decide (j<0)) with a3 | a3
 refine mq ?_
 exact qj tI
 refine b' ?_
 rcases bo ((decide (j<0))||(decide (j≥(ix p1.Dims q)))) with J | J
 refine cV ?_
 exact qj tI
 refine bG ?_
 rcases bo (((decide (j<0))||(decide (j≥(ix p1.Dims q))))||(decide (e<(-4096:Int)))) with O | O
 refine bG ?_
 exact qj tI
 refine bG ?_
 exact qj tI
 rintro σ1
 refine bR ?_
 split at i
 refine cV ?_
 cases i
 exact qF (((ad g o20),p1.Dims.length,D3),(A4,p1.Strides.length,D4)) (tE 7 [1,2,0,4,5,6,3])
 refine bG ?_
 refine bB (A:=(Int)×(Unit)) (fun a=>Z1i_J3 p1 q u j a.1=some r) (fun a=>[(0,(pt m 0)),(1,(pt E 0)),(2,(pt F 0)),(3,(pt l 0)),(4,(pt b 0))]) (fun a=>aJ m [(sc (ad g o20) p1.Dims D3),(sc A4 p1.Strides D4),(iv p1.Offset),(iv p1.Base)] 96::OO kT3 3 (ad g o20) D3 p1.Dims::OO kT3 3 A4 D4 p1.Strides::aJ b [(iv a.1)] 3::I) ?_ ?_
 refine bS ?_
 split at i
 refine mq ?_
 refine cQ [(0,(pt m 0)),(1,(pt E 0)),(2,(pt F 0)),(3,(pt l 0)),(4,(pt b 0)),(61,(.bool ((decide ((aH (j+(aH (e*(aH (u - 1))))))<0))||(decide ((aH (j+(aH (e*(aH (u - 1))))))≥(ix p1.Dims q))))))] (aJ m [(sc (ad g o20) p1.Dims D3),(sc A4 p1.Strides D4),(iv p1.Offset),(iv p1.Base)] 96::OO kT3 3 (ad g o20) D3 p1.Dims::OO kT3 3 A4 D4 p1.Strides::aJ b [(iv e)] 3::I) ?_ ?_
 refine bG ?_
 rcases bo (decide ((aH (j+(aH (e*(aH (u - 1))))))<0)) with a1 | a1
 refine b' ?_
 exact qj tI
 refine b' ?_
 exact qj tI
 rintro σ1
 refine bR ?_
 split at i
 refine cV ?_
 cases i
 exact qF (((ad g o20),p1.Dims.length,D3),(A4,p1.Strides.length,D4)) (tE 7 [1,2,0,4,5,6,3])
 refine aU ?_
 exact qI (e,()) i tI
 refine aU ?_
 refine cR 3 R R cE R R R R R (lN (aJ m [(sc (ad g o20) p1.Dims D3),(sc A4 p1.Strides D4),(iv p1.Offset),(iv p1.Base)] 96::OO kT3 3 (ad g o20) D3 p1.Dims::_::aJ b [(iv 0)] 3::I) ?_)
 refine bR ?_
 exact qI ((0:Int),()) i tI
 rintro ⟨a6,_⟩ σ1 i
 dsimp only [Z1i_J3] at i
 refine bR ?_
 obtain ⟨M,i⟩:=gd i
 refine aZ 2 aB (show 0<p1.Strides.length by have:=M; omega) (fun L o31 ha=>?_)
 subst ha
 refine dC 8 [] bO fun Y hn=>?_
 refine ua 0 [] ?_
 refine dD (aI (aN (dC 11 [0] bO fun Y hn=>?_)))
 refine hJ 0 [0] ?_
 refine hJ 4 [0] ?_
 refine d1 3 R (lO (gI 0 fS R R R) (aC (aG (sL [0]) ?_)))
 refine hJ 7 [0] ?_
 refine d1 10 R (cR 0 R R cE R R R R R (lN (aJ m [(sc (ad g o20) p1.Dims D3),(sc (ad L o31) p1.Strides D4),(iv (aH (p1.Offset+(aH (j*(ix p1.Strides q)))))),(iv p1.Base)] 96::_::OO kT3 3 (ad L o31) D4 p1.Strides::aJ b [(iv a6)] 3::I) ?_))
 refine aC (aG (sL [0]) (dD ?_))
 refine aU ?_
 obtain ⟨Z,a0,i⟩:=bd i
 refine dH ?_
 refine lM _ (tE 4 [1,2,0,3]) ?_
 refine lC 3 sw R (Z0y_ok (v1:=(⟨p1.Dims,p1.Strides,(aH (p1.Offset+(aH (j*(ix p1.Strides q))))),p1.Base⟩:View)) a0) R ?_
 rintro ⟨⟨a5,a9,a8⟩,⟨a4,aa,a7⟩⟩
 refine aL 0 aB ?_
 rintro rfl
 refine aL 1 aB ?_
 rintro rfl
 refine cV ?_
 cases i
 exact qF ((a5,Z.Dims.length,a8),(a4,Z.Strides.length,a7)) (fun w s=>(s.f 7 [0,3,4,3,3,1]))
theorem Z34_ok  {v1:View}{q5:Int}{q7:Int}{q9:Int}{a3:Int}{b6:Nat}{b8:Nat}{F:Nat}{G:Nat}{r:View×Int}(D:Z34 v1 q5 q7 q9 a3=some r) :
 FnOk Tryz.prog 165 [(.agg [(.slice A2 N2 D2),(.slice A3 N3 D3),(iv v1.Offset),(iv v1.Base)].toArray),(.func (.func 167) [].toArray [(pt b6 0),(pt b8 0),(pt F 0),(pt G 0)].toArray)] [aO kT3 (.slice A2 N2 D2) v1.Dims,aO kT3 (.slice A3 N3 D3) v1.Strides,aJ b6 [(iv q5)] 3,aJ b8 [(iv q7)] 3,aJ F [(iv q9)] 3,aJ G [(iv a3)] 3] (fun (h:HH×HH)=>((.agg [(s3 h.1),(s3 h.2),(iv r.1.Offset),(iv r.1.Base)].toArray),[ow kT3 3 (s3 h.1) r.1.Dims,ow kT3 3 (s3 h.2) r.1.Strides,aJ b6 [(iv q5)] 3,aJ b8 [(iv q7)] 3,aJ F [(iv q9)] 3,aJ G [(iv r.2)] 3])):=by
 unfold Z34 at D
 refine aQ Tryz.func165 R 31 R R fun C V=>?_
 refine cM _ (fun w s=>(s.f 6 [2,4,0,2])) ?_
 refine cL 4 aA ?_
 rintro rfl
 refine cL 5 aA ?_
 rintro rfl
 let W0:=RR kT3 A2 D2 v1.Dims::RR kT3 A3 D3 v1.Strides::V
 refine aU ?_
 refine eG R fun aa=>?_
 refine bE R R cW (fun T=>(aC (qM _ (tE 6 [0,2,3,4,5,1]) ?_)))
 let W1:=aJ aa [(sc A2 v1.Dims D2),(sc A3 v1.Strides D3),(iv v1.Offset),(iv v1.Base)] 96::W0
 refine aP ?_
 obtain ⟨aj,a9,D⟩:=bd D
 refine aU ?_
 refine lM _ (fun w s=>(((s.d 6 R).d 8 R).f 7 [1,1,0,1,2,5])) ?_
 refine lC 2 mx R (Zf_ok a9) R ?_
 rintro _
 refine aP ?_
 split at D
 refine aP ?_
 refine lO (vz (.agg [(.slice none 0 0),(.slice none 0 0),(iv 0),(iv 0)].toArray) (aV fD cW R R)) (aK 0 R R cF R R R R R R (aC (aI (bV (cD ?_)))))
 cases D
 exact qS ((none,0,0),(none,0,0)) (fun w s=>(((s.nilo kT3 3).nilo kT3 3).e 10 [1,0,3,4,5,6]))
 refine bG ?_
 obtain ⟨g,a1,D⟩:=bd D
 obtain ⟨i,M,D⟩:=bd D
 refine iS (A:=(Unit)×(Nat×HH×HH)) (fun _=>True) (fun a=>[(1,(.func (.func 167) [].toArray [(pt b6 0),(pt b8 0),(pt F 0),(pt G 0)].toArray)),(4,(pt T 0)),(5,(pt a.2.1 0))]) (fun a=>aJ b6 [(iv q5)] 3::aJ b8 [(iv q7)] 3::aJ F [(iv q9)] 3::aJ G [(iv a3)] 3::aJ T [(.slice none 0 0),(.slice none 0 0),(iv 0),(iv 0)] 96::aJ a.2.1 [(s3 a.2.2.1),(s3 a.2.2.2),(iv v1.Offset),(iv v1.Base)] 96::ow kT3 3 (s3 a.2.2.1) g::ow kT3 3 (s3 a.2.2.2) i::W1) ?_ ?_
 refine dC 13 [] bO fun ht hn=>?_
 refine gO 0 [] ?_
 refine gO 3 [] ?_
 refine og 6 [] ?_
 refine hR [2,11] (by kernel_rfl) R ⟨?_,?_,trivial⟩
 refine lM _ (fun w s=>(s.d 6 R)) ?_
 refine lC 1 j3 R (Zg_ok a1) R ?_
 rintro ⟨q,ae,m⟩
 refine aL 0 aB ?_
 rintro rfl
 refine aC (aG (sL [0]) (hR [5,11] (by kernel_rfl) R ⟨?_,?_,trivial⟩))
 refine lM _ (fun w s=>(s.d 8 R)) ?_
 refine lC 1 j3 R (Zg_ok M) R ?_
 rintro ⟨j,a7,l⟩
 refine aL 0 aB ?_
 rintro rfl
 refine aC (aG (sL [1,0]) (dR 10 R (vz (.agg [(sc q g m),(sc j i l),(iv v1.Offset),(iv v1.Base)].toArray) (aV fD cW R R)) (hS:=(sL [1,0])) (d1 11 R (bE R R cW (fun E=>(aC (aG (sL [2,1,0]) (d1 12 R (aK 0 R R cF R R R R R R (lN (aJ E [(sc q g m),(sc j i l),(iv v1.Offset),(iv v1.Base)] 96::_::_::_::_::_::_::_::W1) ?_))))))))))
 refine aC (aG (sL [2,1,0]) (dD ?_))
 exact cJ ((),(E,(q,g.length,m),(j,i.length,l))) trivial (aS R) (tE 8 [4,5,6,7,3,0,2,1])
 refine bE R R cW (fun E=>(aC (aG (sL [1,0]) (d1 5 R (lM _ (fun w s=>(s.d 9 R)) ?_)))))
 refine lC 1 j3 R (Zg_ok M) R ?_
 rintro ⟨j,a7,l⟩
 refine aL 0 aB ?_
 rintro rfl
 refine aC (aG (sL [2,1,0]) (dR 10 R (vz (.agg [(sc q g m),(sc j i l),(iv v1.Offset),(iv v1.Base)].toArray) (aV fD cW R R)) (hS:=(sL [2,1,0])) (d1 12 R (aK 1 R R cF R R R R R R (lN (_::aJ E [(sc q g m),(sc j i l),(iv v1.Offset),(iv v1.Base)] 96::_::_::_::_::_::_::W1) ?_)))))
 refine aC (aG (sL [2,1,0]) (dD ?_))
 exact cJ ((),(E,(q,g.length,m),(j,i.length,l))) trivial (aS R) (tE 8 [4,5,6,7,3,1,2,0])
 refine bE R R cW (fun E=>(aC (aG (sL [0]) (d1 2 R (lM _ (fun w s=>(s.d 7 R)) ?_)))))
 refine lC 1 j3 R (Zg_ok a1) R ?_
 rintro ⟨q,ae,m⟩
 refine aL 0 aB ?_
 rintro rfl
 refine aC (aG (sL [1,0]) (d1 5 R (lM _ (fun w s=>(s.d 9 R)) ?_)))
 refine lC 1 j3 R (Zg_ok M) R ?_
 rintro ⟨j,a7,l⟩
 refine aL 0 aB ?_
 rintro rfl
 refine aC (aG (sL [2,1,0]) (dR 10 R (vz (.agg [(sc q g m),(sc j i l),(iv v1.Offset),(iv v1.Base)].toArray) (aV fD cW R R)) (hS:=(sL [2,1,0])) (d1 12 R (aK 2 R R cF R R R R R R (lN (_::_::aJ E [(sc q g m),(sc j i l),(iv v1.Offset),(iv v1.Base)] 96::_::_::_::_::_::W1) ?_)))))
 refine aC (aG (sL [2,1,0]) (dD ?_))
 exact cJ ((),(E,(q,g.length,m),(j,i.length,l))) trivial (aS R) (tE 8 [4,5,6,7,3,2,1,0])
 rintro ⟨_,⟨a4,⟨ak,ah,an⟩,⟨ai,ag,ao⟩⟩⟩ σ1 -
 refine hT 6 aB (fun (hn:ah=g.length)=>?_)
 subst hn
 refine hT 7 aB (fun (hn:ag=i.length)=>?_)
 subst hn
 refine aP ?_
 obtain ⟨b,a5,D⟩:=bd D
 obtain ⟨a6,a8,D⟩:=bd D
 refine iS (A:=(Unit)×(HH×HH)) (fun _=>True) (fun a=>[(4,(pt T 0)),(5,(pt a4 0)),(28,(.bool ((!b.1)||(!a6))))]) (fun a=>aJ T [(.slice none 0 0),(.slice none 0 0),(iv 0),(iv 0)] 96::aJ a4 [(s3 a.2.1),(s3 a.2.2),(iv b.2.1.Offset),(iv b.2.1.Base)] 96::ow kT3 3 (s3 a.2.1) b.2.1.Dims::ow kT3 3 (s3 a.2.2) b.2.1.Strides::aJ b6 [(iv q5)] 3::aJ b8 [(iv q7)] 3::aJ F [(iv q9)] 3::aJ G [(iv b.2.2)] 3::W1) ?_ ?_
 refine aE (lO (vp _ R) (lM _ (fun w s=>(s.f 8 [6,2,5,1,0,5])) ?_))
 refine cB (fs:=[]) (cs:=[(pt b6 0),(pt b8 0),(pt F 0),(pt G 0)]) 7 R R zd R R (Z1i_ok (p1:=(⟨g,i,v1.Offset,v1.Base⟩:View)) a5) R ?_
 rintro ⟨⟨J,am,O⟩,⟨I,al,L⟩⟩
 refine aL 0 aB ?_
 rintro rfl
 refine aL 1 aB ?_
 rintro rfl
 refine aU ?_
 rcases bo (!b.1) with u | u
 refine aP ?_
 refine lO (fC (!a6) R u) (aC ?_)
 exact cJ ((),((J,b.2.1.Dims.length,O),(I,b.2.1.Strides.length,L))) trivial (aS R) (tE 8 [7,2,0,1,3,4,5,6])
 refine lW (bY u) (vz (.agg [(sc J b.2.1.Dims O),(sc I b.2.1.Strides L),(iv b.2.1.Offset),(iv b.2.1.Base)].toArray) (dT 2 gC cF R R R R)) (bW 2 R (bY u) mx R (FnOk.lends (A':=[OO kT3 3 J O b.2.1.Dims,OO kT3 3 I L b.2.1.Strides]) (A:=[RR kT3 J O b.2.1.Dims,RR kT3 I L b.2.1.Strides]) (B:=[]) (Zf_ok (bJ a8 (cO u))) ⟨aY,aY,trivial⟩ (fun _=>trivial)) R ?_)
 rintro _
 refine bR ?_
 refine lO (fR R u R) (aC ?_)
 exact cJ ((),((J,b.2.1.Dims.length,O),(I,b.2.1.Strides.length,L))) trivial (aS R) (tE 8 [7,2,0,1,3,4,5,6])
 rintro ⟨_,⟨⟨U,ab,Y⟩,⟨Z,ac,a0⟩⟩⟩ σ1 -
 refine hT 2 aB (fun (hn:ab=b.2.1.Dims.length)=>?_)
 subst hn
 refine hT 3 aB (fun (hn:ac=b.2.1.Strides.length)=>?_)
 subst hn
 refine bR ?_
 rcases cK D with ⟨a2,D⟩|⟨a2,D⟩
 refine aP ?_
 refine lO (vz (.agg [(.slice none 0 0),(.slice none 0 0),(iv 0),(iv 0)].toArray) (aV fD cW R R)) (aK 0 R R cF R R R R R R (lN (_::aJ a4 [(sc U b.2.1.Dims Y),(sc Z b.2.1.Strides a0),(iv b.2.1.Offset),(iv b.2.1.Base)] 96::OO kT3 3 U Y b.2.1.Dims::OO kT3 3 Z a0 b.2.1.Strides::_::_::_::_::W1) ?_))
 refine bG ?_
 cases D
 exact qS ((none,0,0),(none,0,0)) (fun w s=>(((s.nilo kT3 3).nilo kT3 3).e 13 [1,0,6,7,8,9]))
 refine bM R a2 ?_
 refine b' ?_
 refine aK 0 R R cF R R R R R R (lN (aJ T [(sc U b.2.1.Dims Y),(sc Z b.2.1.Strides a0),(iv b.2.1.Offset),(iv b.2.1.Base)] 96::_::_::_::_::_::_::_::W1) ?_)
 refine aP ?_
 cases D
 exact qS ((U,b.2.1.Dims.length,Y),(Z,b.2.1.Strides.length,a0)) (fun w s=>(s.f 11 [2,6]))
theorem Z2d_ok  {v1:View}{g:Int}{E:Int}{a:Int}{b:Int}{r:View}(B:Z2d v1 g E a b=some r) :
 FnOk Tryz.prog 160 [(.agg [(.slice A2 N2 D2),(.slice A3 N3 D3),(iv v1.Offset),(iv v1.Base)].toArray),(iv g),(iv E),(iv a),(iv b)] [aO kT3 (.slice A2 N2 D2) v1.Dims,aO kT3 (.slice A3 N3 D3) v1.Strides] (fun (h:HH×HH)=>((.agg [(s3 h.1),(s3 h.2),(iv r.Offset),(iv r.Base)].toArray),[ow kT3 3 (s3 h.1) r.Dims,ow kT3 3 (s3 h.2) r.Strides])):=by
 unfold Z2d at B
 refine aQ Tryz.func160 R 14 R R fun C V=>?_
 refine cL 0 aA ?_
 rintro rfl
 refine cL 1 aA ?_
 rintro rfl
 let J:=RR kT3 A2 D2 v1.Dims::RR kT3 A3 D3 v1.Strides::V
 refine cN J ?_
 refine aU ?_
 refine eG R fun M=>?_
 refine eY (cs:=[(iv g)]) R R R (fun L=>(eY (cs:=[(iv E)]) R R R (fun G=>(eY (cs:=[(iv a)]) R R R (fun F=>(eY (cs:=[(iv b)]) R R R (fun I=>(bE R R cW (fun D=>(aC ?_))))))))))
 let U:=aJ M [(sc A2 v1.Dims D2),(sc A3 v1.Strides D3),(iv v1.Offset),(iv v1.Base)] 96::J
 refine aU ?_
 obtain ⟨i,u,B⟩:=bd B
 refine aU ?_
 refine lO (vp (.func (.func 167) [].toArray [(pt L 0),(pt F 0),(pt G 0),(pt I 0)].toArray) R) (lM _ (fun w s=>(((s.d 6 R).d 8 R).e 7 [1,0,6,4,5,3,2])) ?_)
 refine lC 6 sv R (Z34_ok u) R ?_
 rintro ⟨⟨l,T,m⟩,⟨j,O,q⟩⟩
 refine aL 0 aB ?_
 rintro rfl
 refine aL 1 aB ?_
 rintro rfl
 refine aK 6 R R cF R R R R R R (lN (_::_::_::_::_::_::aJ D [(sc l i.1.Dims m),(sc j i.1.Strides q),(iv i.1.Offset),(iv i.1.Base)] 96::U) ?_)
 refine aP ?_
 cases B
 exact qS ((l,i.1.Dims.length,m),(j,i.1.Strides.length,q)) (tE 10 [0,1])
theorem Z2m_ok  {v1:View}{a:Int}{b:Int}{j:Nat}{r:View}(i:Z2m v1 a b=some r) :
 FnOk Tryz.prog 170 [(pt j 0),(iv a),(iv b)] [ow kT3 3 (.slice A3 N3 D3) v1.Dims,ow kT3 3 (.slice A4 N4 D4) v1.Strides,aJ j [(.slice A3 N3 D3),(.slice A4 N4 D4),(iv v1.Offset),(iv v1.Base)] 96] (fun (h:HH×HH)=>((.tuple [].toArray),[ow kT3 3 (.slice h.1.1 h.1.2.1 h.1.2.2) r.Dims,ow kT3 3 (.slice h.2.1 h.2.2.1 h.2.2.2) r.Strides,aJ j [(.slice h.1.1 h.1.2.1 h.1.2.2),(.slice h.2.1 h.2.2.1 h.2.2.2),(iv r.Offset),(iv r.Base)] 96])):=by
 unfold Z2m at i
 refine aQ Tryz.func170 R 34 R R fun C V=>?_
 refine cN (_::_::_::V) ?_
 refine cL 0 aB ?_
 rintro rfl
 refine cL 1 aB ?_
 rintro rfl
 refine aN ?_
 obtain ⟨G,i⟩:=gd i
 refine aE (lP R (lP R (lP R (lO (fZ 0 gD R) (lO (gI 2 cH R R R) (bK (K:=kT3) (xs:=([(0:Int)]:List Int)) (vs:=[(iv 0)]) 0 R R bL cE gZ R R R R R R ?_ R (fun A7 D7=>?_)))))))
 exact fun I h s=>(gJ).list [((),(0:Int))] I h s
 refine lN (OO kT3 3 A7 D7 ([(0:Int)]:List Int)::_::_::aJ j [(sc A3 v1.Dims D3),(sc A4 v1.Strides D4),(iv v1.Offset),(iv v1.Base)] 96::V) ?_
 refine lM (ow _ _ _ _::ow _ _ _ _::ow _ _ _ _::aJ _ _ _::V) (fun w s=>(s.e 4 [1,0,2,3])) ?_
 refine eF (K:=kT3) 17592186044416 R R bL cE kv (Zr.zk zT3 gZ) R R R R R R dO G (fun A9 D9=>(lN (OO kT3 3 A9 D9 (v1.Dims++([(0:Int)]:List Int))::_::_::V) ?_))
 refine lP R (lO (fZ 0 gD R) (cR 2 R R eZ R R R R R (lN (_::_::aJ j [(sc A9 (v1.Dims++([(0:Int)]:List Int)) D9),(sc A4 v1.Strides D4),(iv v1.Offset),(iv v1.Base)] 96::V) ?_)))
 refine aC (aI (aN ?_))
 obtain ⟨B,i⟩:=gd i
 refine aE (lP R (lP R (lP R (lO (fZ 1 fW R) (lO (gI 2 cH R R R) (bK (K:=kT3) (xs:=([(0:Int)]:List Int)) (vs:=[(iv 0)]) 0 R R bL cE gZ R R R R R R ?_ R (fun A10 D10=>?_)))))))
 exact fun I h s=>(gJ).list [((),(0:Int))] I h s
 refine lN (OO kT3 3 A10 D10 ([(0:Int)]:List Int)::_::_::_::V) ?_
 refine lM (ow _ _ _ _::ow _ _ _ _::ow _ _ _ _::aJ _ _ _::V) (fun w s=>(s.e 4 [2,0,1,3])) ?_
 refine eF (K:=kT3) 17592186044416 R R bL cE kv (Zr.zk zT3 gZ) R R R R R R dO B (fun A12 D12=>(lN (OO kT3 3 A12 D12 (v1.Strides++([(0:Int)]:List Int))::_::_::V) ?_))
 refine lP R (lO (fZ 1 fW R) (cR 2 R R eZ R R R R R (lN (_::_::aJ j [(sc A9 (v1.Dims++([(0:Int)]:List Int)) D9),(sc A12 (v1.Strides++([(0:Int)]:List Int)) D12),(iv v1.Offset),(iv v1.Base)] 96::V) ?_)))
 refine aC (aI ?_)
 obtain ⟨g,F,i⟩:=bd i
 refine aE (lP R (lP R (lP R (lO (fZ 0 gD R) (lO (gI 2 cH R R R) (lO (lj bL R) (lO (wg R R) (lI R (lI R (lM (ow _ _ _ _::ow _ _ _ _::aJ _ _ _::V) (fun w s=>(s.e 3 [1,0,2])) ?_))))))))))
 refine lC 3 sw R (Z0y_ok (v1:=(⟨(v1.Dims++([(0:Int)]:List Int)),(v1.Strides++([(0:Int)]:List Int)),v1.Offset,v1.Base⟩:View)) F) R ?_
 rintro ⟨⟨u,D,q⟩,⟨l,E,m⟩⟩
 refine lN (ow kT3 3 (.slice u D q) g.Dims::ow kT3 3 (.slice l E m) g.Strides::aJ j [(.slice u D q),(.slice l E m),(iv g.Offset),(iv g.Base)] 96::V) ?_
 refine aL 0 aB ?_
 rintro rfl
 refine aL 1 aB ?_
 rintro rfl
 refine aC ?_
 obtain rfl:=so i
 exact dF (vs:=[]) (.inr R) ((u,g.Dims.length,q),(l,g.Strides.length,m)) R trivial R (fun w s=>s)
theorem Z1j_ok  {p1:View}{D:Int}{l:Int}{u:Int}{E:Nat}{F:Nat}{G:Nat}{g:Nat}{r:Bool×View×Int}(b:Z1j p1 D l u=some r) :
 FnOk Tryz.prog 169 [(pt E 0),(pt F 0),(pt G 0),(pt g 0)] [ow kT3 3 (.slice A3 N3 D3) p1.Dims,ow kT3 3 (.slice A4 N4 D4) p1.Strides,aJ E [(.slice A3 N3 D3),(.slice A4 N4 D4),(iv p1.Offset),(iv p1.Base)] 96,aJ F [(iv D)] 3,aJ G [(iv l)] 3,aJ g [(iv u)] 3] (fun (h:HH×HH)=>((.bool r.1),[ow kT3 3 (s3 h.1) r.2.1.Dims,ow kT3 3 (s3 h.2) r.2.1.Strides,aJ E [(s3 h.1),(s3 h.2),(iv r.2.1.Offset),(iv r.2.1.Base)] 96,aJ F [(iv D)] 3,aJ G [(iv l)] 3,aJ g [(iv r.2.2)] 3])):=by
 unfold Z1j at b
 refine aQ Tryz.func169 R 66 R R fun C V=>?_
 refine cL 0 aB ?_
 rintro rfl
 refine cL 1 aB ?_
 rintro rfl
 refine bG ?_
 refine qM _ (tE 6 [0,1,2,5,3,4]) ?_
 let W1:=aJ F [(iv D)] 3::aJ G [(iv l)] 3::V
 refine aP ?_
 obtain ⟨s,i,b⟩:=bd b
 obtain ⟨j,b⟩:=gd b
 refine cQ [(0,(pt E 0)),(1,(pt F 0)),(2,(pt G 0)),(3,(pt g 0)),(33,(.bool ((((!s)||(decide (l<1)))||(decide (u<1)))||(decide (l>(ix p1.Dims D))))))] (aJ E [(sc A3 p1.Dims D3),(sc A4 p1.Strides D4),(iv p1.Offset),(iv p1.Base)] 96::OO kT3 3 A3 D3 p1.Dims::OO kT3 3 A4 D4 p1.Strides::aJ g [(iv u)] 3::W1) ?_ ?_
 rcases bo (!s) with L | L
 refine dC 26 [] bO fun M hn=>?_
 refine kh 0 [] ?_
 refine d1 5 R (lC 1 gL R (FnOk.lends (A':=[OO kT3 3 A3 D3 p1.Dims]) (A:=[RR kT3 A3 D3 p1.Dims]) (B:=[]) (Zk_ok i) ⟨aY,trivial⟩ (fun _=>trivial)) R ?_)
 rintro _
 refine aC (aG (sL []) ?_)
 refine s7 6 [] ?_
 refine dD ?_
 exact qj (tE 4 [2,0,1,3])
 rcases bo ((!s)||(decide (l<1))) with J | J
 refine dC 26 [] bO fun M hn=>?_
 refine kh 0 [] ?_
 refine d1 5 R (lC 1 gL R (FnOk.lends (A':=[OO kT3 3 A3 D3 p1.Dims]) (A:=[RR kT3 A3 D3 p1.Dims]) (B:=[]) (Zk_ok i) ⟨aY,trivial⟩ (fun _=>trivial)) R ?_)
 rintro _
 refine aC (aG (sL []) ?_)
 refine s7 6 [] ?_
 refine dD ?_
 exact qj (tE 4 [2,0,1,3])
 rcases bo (((!s)||(decide (l<1)))||(decide (u<1))) with e | e
 refine dC 26 [] bO fun M hn=>?_
 refine kh 0 [] ?_
 refine d1 5 R (lC 1 gL R (FnOk.lends (A':=[OO kT3 3 A3 D3 p1.Dims]) (A:=[RR kT3 A3 D3 p1.Dims]) (B:=[]) (Zk_ok i) ⟨aY,trivial⟩ (fun _=>trivial)) R ?_)
 rintro _
 refine aC (aG (sL []) ?_)
 refine s7 6 [] ?_
 refine dD ?_
 exact qj (tE 4 [2,0,1,3])
 refine aZ 0 aB (show 0<p1.Dims.length by have:=(j e); omega) (fun T o15 Z=>?_)
 subst Z
 refine dC 26 [] bO fun M hn=>?_
 refine kh 0 [] ?_
 refine d1 5 R (lC 1 gL R (FnOk.lends (A':=[OO kT3 3 (ad T o15) D3 p1.Dims]) (A:=[RR kT3 (ad T o15) D3 p1.Dims]) (B:=[]) (Zk_ok i) ⟨aY,trivial⟩ (fun _=>trivial)) R ?_)
 rintro _
 refine aC (aG (sL []) ?_)
 refine Ap 6 [] ?_
 refine dW 22 R (bY e) (eN bL cE R R (j e)) (dW 23 R (bY e) (gY 0 fS aB R (j e)) ?_)
 refine gO 24 [] ?_
 refine dD ?_
 exact qj (tE 4 [2,0,1,3])
 rintro σ1
 refine bR ?_
 split at b
 refine cV ?_
 cases b
 exact qF ((A3,p1.Dims.length,D3),(A4,p1.Strides.length,D4)) (tE 6 [1,2,0,4,5,3])
 refine bG ?_
 obtain ⟨a1,b⟩:=gd b
 refine aZ 2 aB (show 0<p1.Strides.length by have:=a1; omega) (fun m o22 Z=>?_)
 subst Z
 refine dC 8 [] bO fun M hn=>?_
 refine ua 0 [] ?_
 refine dD ?_
 refine aU ?_
 obtain ⟨I,b⟩:=gd b
 obtain ⟨U,b⟩:=gd b
 refine aZ 1 aB (show 0<p1.Dims.length by have:=I; omega) (fun q o25 Z=>?_)
 subst Z
 refine dC 13 [] bO fun M hn=>?_
 refine qH 0 [] ?_
 refine dR 10 R (vz (iv (aH ((aH ((ix p1.Dims D) - l)).tdiv u))) (mi R R U)) ?_
 refine gO 11 [] ?_
 refine dD (aI (aN (bB (A:=(Int)×(Unit)) (fun a=>Z1j_J3 p1 D l u a.1=some r) (fun a=>[(0,(pt E 0)),(1,(pt F 0)),(2,(pt G 0)),(3,(pt g 0)),(6,(iv (ix p1.Strides D))),(7,(iv (aH ((aH ((aH ((ix p1.Dims D) - l)).tdiv u))+1))))]) (fun a=>aJ E [(sc (ad q o25) p1.Dims D3),(sc (ad m o22) p1.Strides D4),(iv p1.Offset),(iv p1.Base)] 96::OO kT3 3 (ad q o25) D3 p1.Dims::OO kT3 3 (ad m o22) D4 p1.Strides::aJ g [(iv a.1)] 3::W1) ?_ ?_)))
 refine bS ?_
 split at b
 refine aU ?_
 refine cR 3 R R cE R R R R R (lN (aJ E [(sc (ad q o25) p1.Dims D3),(sc (ad m o22) p1.Strides D4),(iv p1.Offset),(iv p1.Base)] 96::OO kT3 3 (ad q o25) D3 p1.Dims::OO kT3 3 (ad m o22) D4 p1.Strides::aJ g [(iv 0)] 3::W1) ?_)
 refine bR ?_
 exact qI ((0:Int),()) b tI
 refine aU ?_
 exact qI (u,()) b tI
 rintro ⟨a7,_⟩ σ1 b
 dsimp only [Z1j_J3] at b
 refine bR ?_
 obtain ⟨ah,O,b⟩:=bd b
 refine dH ?_
 refine lM _ (tE 4 [1,2,0,3]) ?_
 refine lC 3 sw R (Z0y_ok O) R ?_
 rintro ⟨⟨a6,a9,a8⟩,⟨ag,ab,aa⟩⟩
 refine aL 0 aB ?_
 rintro rfl
 refine aL 1 aB ?_
 rintro rfl
 refine aP ?_
 obtain ⟨Y,a0,b⟩:=bd b
 refine bG ?_
 refine lC 3 zf R (Z2m_ok a0) R ?_
 rintro ⟨⟨a2,ac,a3⟩,⟨a4,ae,a5⟩⟩
 refine aL 0 aB ?_
 rintro rfl
 refine aL 1 aB ?_
 rintro rfl
 refine cV ?_
 cases b
 exact qF ((a2,Y.Dims.length,a3),(a4,Y.Strides.length,a5)) (tE 6 [0,1,2,4,5,3])
theorem Z36_ok  {v1:View}{q5:Int}{q7:Int}{q9:Int}{b6:Nat}{b8:Nat}{F:Nat}{r:View×Int}(D:Z36 v1 q5 q7 q9=some r) :
 FnOk Tryz.prog 165 [(.agg [(.slice A2 N2 D2),(.slice A3 N3 D3),(iv v1.Offset),(iv v1.Base)].toArray),(.func (.func 169) [].toArray [(pt b6 0),(pt b8 0),(pt F 0)].toArray)] [aO kT3 (.slice A2 N2 D2) v1.Dims,aO kT3 (.slice A3 N3 D3) v1.Strides,aJ b6 [(iv q5)] 3,aJ b8 [(iv q7)] 3,aJ F [(iv q9)] 3] (fun (h:HH×HH)=>((.agg [(s3 h.1),(s3 h.2),(iv r.1.Offset),(iv r.1.Base)].toArray),[ow kT3 3 (s3 h.1) r.1.Dims,ow kT3 3 (s3 h.2) r.1.Strides,aJ b6 [(iv q5)] 3,aJ b8 [(iv q7)] 3,aJ F [(iv r.2)] 3])):=by
 unfold Z36 at D
 refine aQ Tryz.func165 R 31 R R fun C V=>?_
 refine cM _ (fun w s=>(s.f 5 [2,3,0,2])) ?_
 refine cL 3 aA ?_
 rintro rfl
 refine cL 4 aA ?_
 rintro rfl
 let W0:=RR kT3 A2 D2 v1.Dims::RR kT3 A3 D3 v1.Strides::V
 refine aU ?_
 refine eG R fun aa=>?_
 refine bE R R cW (fun O=>(aC (qM _ (tE 5 [0,2,3,4,1]) ?_)))
 let W1:=aJ aa [(sc A2 v1.Dims D2),(sc A3 v1.Strides D3),(iv v1.Offset),(iv v1.Base)] 96::W0
 refine aP ?_
 obtain ⟨aj,a7,D⟩:=bd D
 refine aU ?_
 refine lM _ (fun w s=>(((s.d 5 R).d 7 R).e 6 [1,0,2,3,4,5])) ?_
 refine lC 2 mx R (Zf_ok a7) R ?_
 rintro _
 refine aP ?_
 split at D
 refine aP ?_
 refine lO (vz (.agg [(.slice none 0 0),(.slice none 0 0),(iv 0),(iv 0)].toArray) (aV fD cW R R)) (aK 0 R R cF R R R R R R (aC (aI (bV (cD ?_)))))
 cases D
 exact qS ((none,0,0),(none,0,0)) (fun w s=>(((s.nilo kT3 3).nilo kT3 3).e 9 [1,0,3,4,5]))
 refine bG ?_
 obtain ⟨i,a0,D⟩:=bd D
 obtain ⟨g,M,D⟩:=bd D
 refine iS (A:=(Unit)×(Nat×HH×HH)) (fun _=>True) (fun a=>[(1,(.func (.func 169) [].toArray [(pt b6 0),(pt b8 0),(pt F 0)].toArray)),(4,(pt O 0)),(5,(pt a.2.1 0))]) (fun a=>aJ b6 [(iv q5)] 3::aJ b8 [(iv q7)] 3::aJ F [(iv q9)] 3::aJ O [(.slice none 0 0),(.slice none 0 0),(iv 0),(iv 0)] 96::aJ a.2.1 [(s3 a.2.2.1),(s3 a.2.2.2),(iv v1.Offset),(iv v1.Base)] 96::ow kT3 3 (s3 a.2.2.1) i::ow kT3 3 (s3 a.2.2.2) g::W1) ?_ ?_
 refine dC 13 [] bO fun ht hn=>?_
 refine gO 0 [] ?_
 refine gO 3 [] ?_
 refine og 6 [] ?_
 refine hR [2,11] (by kernel_rfl) R ⟨?_,?_,trivial⟩
 refine lM _ (fun w s=>(s.d 5 R)) ?_
 refine lC 1 j3 R (Zg_ok a0) R ?_
 rintro ⟨q,a8,m⟩
 refine aL 0 aB ?_
 rintro rfl
 refine aC (aG (sL [0]) (hR [5,11] (by kernel_rfl) R ⟨?_,?_,trivial⟩))
 refine lM _ (fun w s=>(s.d 7 R)) ?_
 refine lC 1 j3 R (Zg_ok M) R ?_
 rintro ⟨j,a6,l⟩
 refine aL 0 aB ?_
 rintro rfl
 refine aC (aG (sL [1,0]) (dR 10 R (vz (.agg [(sc q i m),(sc j g l),(iv v1.Offset),(iv v1.Base)].toArray) (aV fD cW R R)) (hS:=(sL [1,0])) (d1 11 R (bE R R cW (fun E=>(aC (aG (sL [2,1,0]) (d1 12 R (aK 0 R R cF R R R R R R (lN (aJ E [(sc q i m),(sc j g l),(iv v1.Offset),(iv v1.Base)] 96::_::_::_::_::_::_::W1) ?_))))))))))
 refine aC (aG (sL [2,1,0]) (dD ?_))
 exact cJ ((),(E,(q,i.length,m),(j,g.length,l))) trivial (aS R) (tE 7 [4,5,6,3,0,2,1])
 refine bE R R cW (fun E=>(aC (aG (sL [1,0]) (d1 5 R (lM _ (fun w s=>(s.d 8 R)) ?_)))))
 refine lC 1 j3 R (Zg_ok M) R ?_
 rintro ⟨j,a6,l⟩
 refine aL 0 aB ?_
 rintro rfl
 refine aC (aG (sL [2,1,0]) (dR 10 R (vz (.agg [(sc q i m),(sc j g l),(iv v1.Offset),(iv v1.Base)].toArray) (aV fD cW R R)) (hS:=(sL [2,1,0])) (d1 12 R (aK 1 R R cF R R R R R R (lN (_::aJ E [(sc q i m),(sc j g l),(iv v1.Offset),(iv v1.Base)] 96::_::_::_::_::_::W1) ?_)))))
 refine aC (aG (sL [2,1,0]) (dD ?_))
 exact cJ ((),(E,(q,i.length,m),(j,g.length,l))) trivial (aS R) (tE 7 [4,5,6,3,1,2,0])
 refine bE R R cW (fun E=>(aC (aG (sL [0]) (d1 2 R (lM _ (fun w s=>(s.d 6 R)) ?_)))))
 refine lC 1 j3 R (Zg_ok a0) R ?_
 rintro ⟨q,a8,m⟩
 refine aL 0 aB ?_
 rintro rfl
 refine aC (aG (sL [1,0]) (d1 5 R (lM _ (fun w s=>(s.d 8 R)) ?_)))
 refine lC 1 j3 R (Zg_ok M) R ?_
 rintro ⟨j,a6,l⟩
 refine aL 0 aB ?_
 rintro rfl
 refine aC (aG (sL [2,1,0]) (dR 10 R (vz (.agg [(sc q i m),(sc j g l),(iv v1.Offset),(iv v1.Base)].toArray) (aV fD cW R R)) (hS:=(sL [2,1,0])) (d1 12 R (aK 2 R R cF R R R R R R (lN (_::_::aJ E [(sc q i m),(sc j g l),(iv v1.Offset),(iv v1.Base)] 96::_::_::_::_::W1) ?_)))))
 refine aC (aG (sL [2,1,0]) (dD ?_))
 exact cJ ((),(E,(q,i.length,m),(j,g.length,l))) trivial (aS R) (tE 7 [4,5,6,3,2,1,0])
 rintro ⟨_,⟨a2,⟨am,ab,ai⟩,⟨al,ae,ag⟩⟩⟩ σ1 -
 refine hT 5 aB (fun (hn:ab=i.length)=>?_)
 subst hn
 refine hT 6 aB (fun (hn:ae=g.length)=>?_)
 subst hn
 refine aP ?_
 obtain ⟨b,a4,D⟩:=bd D
 obtain ⟨a5,a3,D⟩:=bd D
 refine iS (A:=(Unit)×(HH×HH)) (fun _=>True) (fun a=>[(4,(pt O 0)),(5,(pt a2 0)),(28,(.bool ((!b.1)||(!a5))))]) (fun a=>aJ O [(.slice none 0 0),(.slice none 0 0),(iv 0),(iv 0)] 96::aJ a2 [(s3 a.2.1),(s3 a.2.2),(iv b.2.1.Offset),(iv b.2.1.Base)] 96::ow kT3 3 (s3 a.2.1) b.2.1.Dims::ow kT3 3 (s3 a.2.2) b.2.1.Strides::aJ b6 [(iv q5)] 3::aJ b8 [(iv q7)] 3::aJ F [(iv b.2.2)] 3::W1) ?_ ?_
 refine aE (lO (vp _ R) (lM _ (fun w s=>(s.f 7 [5,2,4,1,0,4])) ?_))
 refine cB (fs:=[]) (cs:=[(pt b6 0),(pt b8 0),(pt F 0)]) 6 R R zg R R (Z1j_ok (p1:=(⟨i,g,v1.Offset,v1.Base⟩:View)) a4) R ?_
 rintro ⟨⟨I,ah,G⟩,⟨J,ak,L⟩⟩
 refine aL 0 aB ?_
 rintro rfl
 refine aL 1 aB ?_
 rintro rfl
 refine aU ?_
 rcases bo (!b.1) with u | u
 refine aP ?_
 refine lO (fC (!a5) R u) (aC ?_)
 exact cJ ((),((I,b.2.1.Dims.length,G),(J,b.2.1.Strides.length,L))) trivial (aS R) (tE 7 [6,2,0,1,3,4,5])
 refine lW (bY u) (vz (.agg [(sc I b.2.1.Dims G),(sc J b.2.1.Strides L),(iv b.2.1.Offset),(iv b.2.1.Base)].toArray) (dT 2 gC cF R R R R)) (bW 2 R (bY u) mx R (FnOk.lends (A':=[OO kT3 3 I G b.2.1.Dims,OO kT3 3 J L b.2.1.Strides]) (A:=[RR kT3 I G b.2.1.Dims,RR kT3 J L b.2.1.Strides]) (B:=[]) (Zf_ok (bJ a3 (cO u))) ⟨aY,aY,trivial⟩ (fun _=>trivial)) R ?_)
 rintro _
 refine bR ?_
 refine lO (fR R u R) (aC ?_)
 exact cJ ((),((I,b.2.1.Dims.length,G),(J,b.2.1.Strides.length,L))) trivial (aS R) (tE 7 [6,2,0,1,3,4,5])
 rintro ⟨_,⟨⟨U,ac,Z⟩,⟨T,a9,Y⟩⟩⟩ σ1 -
 refine hT 2 aB (fun (hn:ac=b.2.1.Dims.length)=>?_)
 subst hn
 refine hT 3 aB (fun (hn:a9=b.2.1.Strides.length)=>?_)
 subst hn
 refine bR ?_
 rcases cK D with ⟨a1,D⟩|⟨a1,D⟩
 refine aP ?_
 refine lO (vz (.agg [(.slice none 0 0),(.slice none 0 0),(iv 0),(iv 0)].toArray) (aV fD cW R R)) (aK 0 R R cF R R R R R R (lN (_::aJ a2 [(sc U b.2.1.Dims Z),(sc T b.2.1.Strides Y),(iv b.2.1.Offset),(iv b.2.1.Base)] 96::OO kT3 3 U Z b.2.1.Dims::OO kT3 3 T Y b.2.1.Strides::_::_::_::W1) ?_))
 refine bG ?_
 cases D
 exact qS ((none,0,0),(none,0,0)) (fun w s=>(((s.nilo kT3 3).nilo kT3 3).e 12 [1,0,6,7,8]))
 refine bM R a1 ?_
 refine b' ?_
 refine aK 0 R R cF R R R R R R (lN (aJ O [(sc U b.2.1.Dims Z),(sc T b.2.1.Strides Y),(iv b.2.1.Offset),(iv b.2.1.Base)] 96::_::_::_::_::_::_::W1) ?_)
 refine aP ?_
 cases D
 exact qS ((U,b.2.1.Dims.length,Z),(T,b.2.1.Strides.length,Y)) (fun w s=>(s.f 10 [2,5]))
theorem Z2f_ok  {v1:View}{g:Int}{a:Int}{b:Int}{r:View}(q:Z2f v1 g a b=some r) :
 FnOk Tryz.prog 161 [(.agg [(.slice A2 N2 D2),(.slice A3 N3 D3),(iv v1.Offset),(iv v1.Base)].toArray),(iv g),(iv a),(iv b)] [aO kT3 (.slice A2 N2 D2) v1.Dims,aO kT3 (.slice A3 N3 D3) v1.Strides] (fun (h:HH×HH)=>((.agg [(s3 h.1),(s3 h.2),(iv r.Offset),(iv r.Base)].toArray),[ow kT3 3 (s3 h.1) r.Dims,ow kT3 3 (s3 h.2) r.Strides])):=by
 unfold Z2f at q
 refine aQ Tryz.func161 R 12 R R fun C V=>?_
 refine cL 0 aA ?_
 rintro rfl
 refine cL 1 aA ?_
 rintro rfl
 let D:=RR kT3 A2 D2 v1.Dims::RR kT3 A3 D3 v1.Strides::V
 refine cN D ?_
 refine aU ?_
 refine eG R fun G=>?_
 refine eY (cs:=[(iv g)]) R R R (fun F=>(eY (cs:=[(iv a)]) R R R (fun E=>(eY (cs:=[(iv b)]) R R R (fun B=>(bE R R cW (fun u=>(aC ?_))))))))
 let J:=aJ G [(sc A2 v1.Dims D2),(sc A3 v1.Strides D3),(iv v1.Offset),(iv v1.Base)] 96::D
 refine aU ?_
 obtain ⟨i,m,q⟩:=bd q
 refine aU ?_
 refine lO (vp (.func (.func 169) [].toArray [(pt F 0),(pt E 0),(pt B 0)].toArray) R) (lM _ (fun w s=>(((s.d 5 R).d 7 R).e 6 [1,0,5,4,3,2])) ?_)
 refine lC 5 sv R (Z36_ok m) R ?_
 rintro ⟨⟨A14,N14,D14⟩,⟨l,I,j⟩⟩
 refine aL 0 aB ?_
 rintro rfl
 refine aL 1 aB ?_
 rintro rfl
 refine aK 5 R R cF R R R R R R (lN (_::_::_::_::_::aJ u [(sc A14 i.1.Dims D14),(sc l i.1.Strides j),(iv i.1.Offset),(iv i.1.Base)] 96::J) ?_)
 refine aP ?_
 cases q
 exact qS ((A14,i.1.Dims.length,D14),(l,i.1.Strides.length,j)) (tE 9 [0,1])
theorem Z1c_ok  {l:Node}{F:(List Int)}{r:View}(i:Z1c l F=some r) :
 FnOk Tryz.prog 146 [(.agg [(iv l.Op),(.slice A2 N2 D2),(.slice A3 N3 D3),(.slice A4 N4 D4),(aD l.Form),(.slice A5 N5 D5)].toArray),(.slice A7 N7 D7)] [aO kT3 (.slice A2 N2 D2) l.Args,aO kT3 (.slice A3 N3 D3) l.Dims,aO kT3 (.slice A4 N4 D4) l.Ints,aO kT3 (.slice A5 N5 D5) l.Data,aO kT3 (.slice A7 N7 D7) F] (fun (h:HH×HH)=>((.agg [(.slice h.1.1 h.1.2.1 h.1.2.2),(.slice h.2.1 h.2.2.1 h.2.2.2),(iv r.Offset),(iv r.Base)].toArray),[aO kT3 (.slice h.1.1 h.1.2.1 h.1.2.2) r.Dims,aO kT3 (.slice h.2.1 h.2.2.1 h.2.2.2) r.Strides])):=by
 unfold Z1c at i
 refine aQ Tryz.func146 R 76 R R fun C V=>?_
 refine cN (_::_::_::_::_::V) ?_
 refine cL 0 aA ?_
 rintro rfl
 refine cL 1 aA ?_
 rintro rfl
 refine cL 2 aA ?_
 rintro rfl
 refine cL 3 aA ?_
 rintro rfl
 refine cL 4 aA ?_
 rintro rfl
 let W0:List HP:=RR kT3 A2 D2 l.Args::RR kT3 A3 D3 l.Dims::RR kT3 A4 D4 l.Ints::RR kT3 A5 D5 l.Data::RR kT3 A7 D7 F::V
 refine cN W0 ?_
 refine aN (aE (eG R (fun b8=>(bE R R cW (fun I=>(aC ?_))))))
 let G:List HP:=aJ b8 [(iv l.Op),(sc A2 l.Args D2),(sc A3 l.Dims D3),(sc A4 l.Ints D4),(aD l.Form),(sc A5 l.Data D5)] 54::W0
 refine qN (_::G) ?_
 refine aI (aN ?_)
 obtain ⟨a,ai,i⟩:=bd i
 refine aE (lS R (lM (RR kT3 A7 D7 F::_::G) (fun w s=>(s.d 6 R)) ?_))
 refine lC 1 z8 R (Z2n_ok ai) R ?_
 rintro ⟨⟨A12,N12,D12⟩,⟨q,an,m⟩⟩
 refine lN (ow kT3 3 (.slice A12 N12 D12) a.Dims::ow kT3 3 (.slice q an m) a.Strides::_::G) ?_
 refine aL 0 aB ?_
 rintro rfl
 refine aL 1 aB ?_
 rintro rfl
 refine bE R R cW (fun Y=>(aK 0 R R cF R R R R R R (lN (aJ Y [(sc A12 a.Dims D12),(sc q a.Strides m),(iv a.Offset),(iv a.Base)] 96::_::_::_::G) ?_)))
 refine aC (aI (aN (dS (aN (aE (lO (fZ 0 jh R) (lO (gI 4 fS R R R) (lO (lA R R) (lB R (aC (aI ?_)))))))))))
 rcases cK i with ⟨L,i⟩|⟨L,i⟩
 refine cC R L (aN ?_)
 obtain ⟨D,al,i⟩:=bd i
 refine aE (lO (vz (.agg [(sc A12 a.Dims D12),(sc q a.Strides m),(iv a.Offset),(iv a.Base)].toArray) (dT 0 gC cF R R R R)) (lO (fZ 2 ki R) (lO (gI 4 cH R R R) (iE (fun w s=>s.shr 1 R) (iE (fun w s=>s.shr 2 R) (lM (RR kT3 A12 D12 a.Dims::RR kT3 q m a.Strides::RR kT3 A3 D3 l.Dims::RR kT3 q m a.Strides::RR kT3 A12 D12 a.Dims::aJ _ _ _::aJ _ _ _::G) (fun w s=>((((s.d 1 R).d 1 R).d 8 R).e 7 [2,1,0,3,4,5,6])) ?_))))))
 refine lC 3 zb R (Z2e_ok al) R ?_
 rintro ⟨⟨a8,am,a3⟩,⟨a4,ar,aa⟩⟩
 refine lN (aO kT3 (.slice a8 am a3) D.Dims::aO kT3 (.slice a4 ar aa) D.Strides::_::_::_::_::G) ?_
 refine aL 0 aA ?_
 rintro rfl
 refine aL 1 aA ?_
 rintro rfl
 refine aK 5 R R cF R R R R R R (lN (_::_::_::_::_::aJ I [(sc a8 D.Dims a3),(sc a4 D.Strides aa),(iv D.Offset),(iv D.Base)] 96::G) ?_)
 refine aC (aI (bV (dA (cD ?_))))
 obtain rfl:=so i
 exact dF (vs:=[(.agg [(sc a8 D.Dims a3),(sc a4 D.Strides aa),(iv D.Offset),(iv D.Base)].toArray)]) (.inl R) ((a8,D.Dims.length,a3),(a4,D.Strides.length,aa)) R ⟨⟨5,I,_,_,R,R,.inl ⟨gC,cF,R⟩⟩,trivial⟩ R (fun w s=>(s.e 12 [0,1]))
 refine bM R L (aN ?_)
 obtain ⟨U,i⟩:=gd i
 refine cQ [(2,(pt b8 0)),(4,(pt I 0)),(5,(pt Y 0)),(16,(.bool (((l.Op==(14:Int))&&((l.Ints.length:Int)==(4:Int)))&&(decide ((ix l.Ints (3:Int))≥(1:Int))))))] (aJ I [(.slice none 0 0),(.slice none 0 0),(iv 0),(iv 0)] 96::aJ Y [(sc A12 a.Dims D12),(sc q a.Strides m),(iv a.Offset),(iv a.Base)] 96::OO kT3 3 A12 D12 a.Dims::OO kT3 3 q m a.Strides::G) ?_ ?_
 refine aE (lO (fZ 0 jh R) (lO (gI 4 fS R R R) (lO (lA R R) (lB R ?_))))
 rcases bo (l.Op==(14:Int)) with b | b
 refine lW (eB b) (fZ 3 gQ R) (lW (eB b) (gI 4 cH R R R) (lW (eB b) (lj bL R) (lW (eB b) (lA R R) (lO (iX R b R) (lB R ?_)))))
 rcases bo ((l.Op==(14:Int))&&((l.Ints.length:Int)==(4:Int))) with g | g
 refine lW (eB g) (fZ 3 gQ R) (lW (eB g) (gI 4 cH R R R) (bD 7 aA (show 0<l.Ints.length by have:=(U g); omega) (fun aw o22 ha=>?_)))
 subst ha
 refine lW (eB g) (eN bL cE R R (U g)) (lW (eB g) (gY 7 fS aA R (U g)) (lW (eB g) (zY R R) (lO (iX R g R) (lB R (aC ?_)))))
 exact qJ (fun w s=>(s.e 4 [3,0,1,2]))
 refine lf (nr g) (lf (nr g) (lf (nr g) (lf (nr g) (lf (nr g) (lO (kc (decide ((ix l.Ints (3:Int))≥(1:Int))) R g) (lB R (aC ?_)))))))
 exact qJ (fun w s=>(s.e 4 [3,0,1,2]))
 refine lf (nr b) (lf (nr b) (lf (nr b) (lf (nr b) (lO (kc ((l.Ints.length:Int)==(4:Int)) R b) (lB R (lf (nr (aF b)) (lf (nr (aF b)) (lf (nr (aF b)) (lf (nr (aF b)) (lf (nr (aF b)) (lO (kc (decide ((ix l.Ints (3:Int))≥(1:Int))) R (aF b)) (lB R (aC ?_)))))))))))))
 exact qJ (fun w s=>(s.e 4 [3,0,1,2]))
 rintro σ1
 refine aI ?_
 rcases cK i with ⟨J,i⟩|⟨J,i⟩
 refine cC R J (aN ?_)
 obtain ⟨M,i⟩:=gd i
 obtain ⟨ab,i⟩:=gd i
 obtain ⟨ag,i⟩:=gd i
 obtain ⟨ah,i⟩:=gd i
 obtain ⟨u,aj,i⟩:=bd i
 refine aZ 7 aA (show 0<l.Ints.length by have:=M; omega) (fun ax o28 ha=>?_)
 subst ha
 refine dC 19 [0] bO (fun ht hn=>(dR 0 R (vz (.agg [(sc A12 a.Dims D12),(sc q a.Strides m),(iv a.Offset),(iv a.Base)].toArray) (dT 0 gC cF R R R R)) (hS:=(sL [0])) (dR 1 R (fZ 3 gQ R) (hS:=(sL [0])) (dR 2 R (gI 3 cH R R R) (hS:=(sL [0])) (dR 3 R (eN bL cE R R M) (hS:=(sL [0])) (dR 4 R (gY 6 fS aA R M) (hS:=(sL [0])) (dR 5 R (fZ 3 gQ R) (hS:=(sL [0])) (dR 6 R (gI 3 cH R R R) (hS:=(sL [0])) (dR 7 R (eN bL cE R R ab) (hS:=(sL [0])) (dR 8 R (gY 6 fS aA R ab) (hS:=(sL [0])) (dR 9 R (fZ 3 gQ R) (hS:=(sL [0])) (dR 10 R (gI 3 cH R R R) (hS:=(sL [0])) (dR 11 R (eN bL cE R R ag) (hS:=(sL [0])) (dR 12 R (gY 6 fS aA R ag) (hS:=(sL [0])) (dR 13 R (fZ 3 gQ R) (hS:=(sL [0])) (dR 14 R (gI 3 cH R R R) (hS:=(sL [0])) (dR 15 R (eN bL cE R R ah) (hS:=(sL [0])) (dR 16 R (gY 6 fS aA R ah) (hS:=(sL [0])) (d1 17 R (lM (OO kT3 3 A12 D12 a.Dims::OO kT3 3 q m a.Strides::aJ I [(.slice none 0 0),(.slice none 0 0),(iv 0),(iv 0)] 96::aJ _ _ _::G) (fun w s=>(s.e 4 [2,3,0,1])) ?_))))))))))))))))))))
 refine lC 2 ze R (FnOk.lends (A':=[OO kT3 3 A12 D12 a.Dims,OO kT3 3 q m a.Strides]) (A:=[RR kT3 A12 D12 a.Dims,RR kT3 q m a.Strides]) (B:=[]) (Z2d_ok aj) ⟨aY,aY,trivial⟩ (fun _=>⟨(bH j0),(bH j0),trivial⟩)) R ?_
 rintro ⟨⟨a0,ao,a7⟩,⟨Z,aq,a5⟩⟩
 refine lN (_::_::ow kT3 3 (.slice a0 ao a7) u.Dims::ow kT3 3 (.slice Z aq a5) u.Strides::_::_::G) ?_
 refine aL 2 aB ?_
 rintro rfl
 refine aL 3 aB ?_
 rintro rfl
 refine aC (aG (fun w s=>(s.e 6 [5,0,1])) (d1 18 R (aK 4 R R cF R R R R R R (lN (_::_::_::_::aJ I [(sc a0 u.Dims a7),(sc Z u.Strides a5),(iv u.Offset),(iv u.Base)] 96::_::G) ?_))))
 refine aC (aG (fun w s=>(s.e 6 [5,0,1])) (dD (aI (bV (dA (cD ?_))))))
 obtain rfl:=so i
 exact dF (vs:=[(.agg [(sc a0 u.Dims a7),(sc Z u.Strides a5),(iv u.Offset),(iv u.Base)].toArray)]) (.inl R) ((a0,u.Dims.length,a7),(Z,u.Strides.length,a5)) R ⟨⟨4,I,_,_,R,R,.inl ⟨gC,cF,R⟩⟩,trivial⟩ R (fun w s=>(((s.shr 2 R).shr 3 R).e 12 [1,0]))
 refine bM R J (aN (cQ [(2,(pt b8 0)),(4,(pt I 0)),(5,(pt Y 0)),(51,(.bool ((l.Op==(18:Int))&&((l.Ints.length:Int)==(3:Int)))))] (aJ I [(.slice none 0 0),(.slice none 0 0),(iv 0),(iv 0)] 96::aJ Y [(sc A12 a.Dims D12),(sc q a.Strides m),(iv a.Offset),(iv a.Base)] 96::OO kT3 3 A12 D12 a.Dims::OO kT3 3 q m a.Strides::G) ?_ ?_))
 refine aE (lO (fZ 0 jh R) (lO (gI 4 fS R R R) (lO (lA R R) (lB R ?_))))
 rcases bo (l.Op==(18:Int)) with j | j
 refine lW (eB j) (fZ 3 gQ R) (lW (eB j) (gI 4 cH R R R) (lW (eB j) (lj bL R) (lW (eB j) (lA R R) (lO (iX R j R) (lB R (aC ?_))))))
 exact qJ (fun w s=>s)
 refine lf (nr j) (lf (nr j) (lf (nr j) (lf (nr j) (lO (kc ((l.Ints.length:Int)==(3:Int)) R j) (lB R (aC ?_))))))
 exact qJ (fun w s=>s)
 rintro σ1
 refine aI ?_
 rcases cK i with ⟨O,i⟩|⟨O,i⟩
 refine cC R O (aN ?_)
 obtain ⟨T,i⟩:=gd i
 obtain ⟨ac,i⟩:=gd i
 obtain ⟨ae,i⟩:=gd i
 obtain ⟨E,ak,i⟩:=bd i
 refine aZ 7 aA (show 0<l.Ints.length by have:=T; omega) (fun av o40 ha=>?_)
 subst ha
 refine dC 15 [0] bO (fun ht hn=>(dR 0 R (vz (.agg [(sc A12 a.Dims D12),(sc q a.Strides m),(iv a.Offset),(iv a.Base)].toArray) (dT 0 gC cF R R R R)) (hS:=(sL [0])) (dR 1 R (fZ 3 gQ R) (hS:=(sL [0])) (dR 2 R (gI 3 cH R R R) (hS:=(sL [0])) (dR 3 R (eN bL cE R R T) (hS:=(sL [0])) (dR 4 R (gY 6 fS aA R T) (hS:=(sL [0])) (dR 5 R (fZ 3 gQ R) (hS:=(sL [0])) (dR 6 R (gI 3 cH R R R) (hS:=(sL [0])) (dR 7 R (eN bL cE R R ac) (hS:=(sL [0])) (dR 8 R (gY 6 fS aA R ac) (hS:=(sL [0])) (dR 9 R (fZ 3 gQ R) (hS:=(sL [0])) (dR 10 R (gI 3 cH R R R) (hS:=(sL [0])) (dR 11 R (eN bL cE R R ae) (hS:=(sL [0])) (dR 12 R (gY 6 fS aA R ae) (hS:=(sL [0])) (d1 13 R (lM (ow _ _ _ _::ow _ _ _ _::aJ I [(.slice none 0 0),(.slice none 0 0),(iv 0),(iv 0)] 96::aJ _ _ _::G) (fun w s=>(s.e 4 [2,3,0,1])) ?_))))))))))))))))
 refine lC 2 zh R (FnOk.lends (A':=[OO kT3 3 A12 D12 a.Dims,OO kT3 3 q m a.Strides]) (A:=[RR kT3 A12 D12 a.Dims,RR kT3 q m a.Strides]) (B:=[]) (Z2f_ok ak) ⟨aY,aY,trivial⟩ (fun _=>⟨(bH j0),(bH j0),trivial⟩)) R ?_
 rintro ⟨⟨a9,ap,a2⟩,⟨a6,au,a1⟩⟩
 refine lN (_::_::ow kT3 3 (.slice a9 ap a2) E.Dims::ow kT3 3 (.slice a6 au a1) E.Strides::_::_::G) ?_
 refine aL 2 aB ?_
 rintro rfl
 refine aL 3 aB ?_
 rintro rfl
 refine aC (aG (fun w s=>(s.e 6 [5,0,1])) (d1 14 R (aK 4 R R cF R R R R R R (lN (_::_::_::_::aJ I [(sc a9 E.Dims a2),(sc a6 E.Strides a1),(iv E.Offset),(iv E.Base)] 96::_::G) ?_))))
 refine aC (aG (fun w s=>(s.e 6 [5,0,1])) (dD (aI (bV (dA (cD ?_))))))
 obtain rfl:=so i
 exact dF (vs:=[(.agg [(sc a9 E.Dims a2),(sc a6 E.Strides a1),(iv E.Offset),(iv E.Base)].toArray)]) (.inl R) ((a9,E.Dims.length,a2),(a6,E.Strides.length,a1)) R ⟨⟨4,I,_,_,R,R,.inl ⟨gC,cF,R⟩⟩,trivial⟩ R (fun w s=>(((s.shr 2 R).shr 3 R).e 12 [1,0]))
 refine bM R O (dI (eD (aI (aN (aE (lO (vz (.agg [(.slice none 0 0),(.slice none 0 0),(iv 0),(iv 0)].toArray) (aV fD cW R R)) (aK 0 R R cF R R R R R R (lN (aJ I [(.slice none 0 0),(.slice none 0 0),(iv 0),(iv 0)] 96::_::_::_::G) ?_))))))))
 refine aC (aI (bV ?_))
 obtain rfl:=so i
 exact dF (vs:=[(.agg [(.slice none 0 0),(.slice none 0 0),(iv 0),(iv 0)].toArray)]) (.inl R) ((none,0,0),(none,0,0)) R ⟨⟨0,I,_,_,R,R,.inl ⟨gC,cF,R⟩⟩,trivial⟩ R (fun w s=>(((s.nilr kT3).nilr kT3).e 12 [1,0]))
theorem Z33_ok  {e:(List Int)}{a:(List Int)}{b:Int}{r:(List Int)×Int×(List Int)}(l:Z33 e a b=some r) :
 FnOk Tryz.prog 157 [(.slice A2 N2 D2),(.slice A4 N4 D4),(iv b)] [aO kT3 (.slice A2 N2 D2) e,aO kT3 (.slice A4 N4 D4) a] (fun (h:HH×Nat×Nat×HH×Nat)=>((.func (.func 163) [].toArray [(pt h.2.1 0),(pt h.2.2.1 0),(pt h.2.2.2.2 0)].toArray),[aO kT3 (s3 h.1) r.1,aJ h.2.1 [(s3 h.1)] 23,aJ h.2.2.1 [(iv r.2.1)] 3,aO kT3 (s3 h.2.2.2.1) r.2.2,aJ h.2.2.2.2 [(s3 h.2.2.2.1)] 23])):=by
 unfold Z33 at l
 refine aQ Tryz.func157 R 8 R R fun C V=>?_
 refine cL 0 aA ?_
 rintro rfl
 refine cL 1 aA ?_
 rintro rfl
 let m:=RR kT3 A2 D2 e::RR kT3 A4 D4 a::V
 refine cN m ?_
 refine aU ?_
 refine eY (cs:=[(sc A2 e D2)]) R R R (fun i=>(eY (cs:=[(sc A4 a D4)]) R R R (fun g=>(eY (cs:=[(iv b)]) R R R (fun j=>(lO (vp _ R) (aC ?_)))))))
 let q:=aJ j [(iv b)] 3::aJ g [(sc A4 a D4)] 23::aJ i [(sc A2 e D2)] 23::m
 refine qN q ?_
 refine aP ?_
 refine lO (vp (.func (.func 163) [].toArray [(pt i 0),(pt j 0),(pt g 0)].toArray) R) (lO (vp _ R) ?_)
 refine aP ?_
 cases l
 exact qF ((A2,e.length,D2),i,j,(A4,a.length,D4),g) (tE 5 [3,2,0,4,1])
theorem Z01_ok  {G:Type}{YF:G→Int→Option (G×Bool)}{g:G}{l:(List Int)}{p5:Int}{M:(List Int)}{F:Nat}{b6:Nat}{J:Nat}{YE:G→HP}{yl:Nat}(hy:∀ s x q,YF s x=some q→Ai Tryz.prog yl [.int .i64 x] [YE s] (fun _:Unit=>(.bool q.2,[YE q.1]))){r:G}(b:Z01 G YF g l p5 M=some r) :
 FnOk Tryz.prog 163 [(.func (.yield yl) #[] #[]),(pt F 0),(pt b6 0),(pt J 0)] [YE g,aO kT3 (.slice A4 N4 D4) l,aJ F [(.slice A4 N4 D4)] 23,aJ b6 [(iv p5)] 3,aO kT3 (.slice A9 N9 D9) M,aJ J [(.slice A9 N9 D9)] 23] (fun (h:Unit)=>((.tuple [].toArray),[YE r,aJ F [(.slice A4 N4 D4)] 23,aJ b6 [(iv p5)] 3,aJ J [(.slice A9 N9 D9)] 23])):=by
 unfold Z01 at b
 refine aQ Tryz.func163 R 60 R R fun C V=>?_
 refine cM (YE g::aJ _ _ _::aJ _ _ _::aJ _ _ _::aO _ _ _::aO _ _ _::V) (tE 6 [0,2,3,5,1,4]) ?_
 refine cL 4 aA ?_
 rintro rfl
 refine cL 5 aA ?_
 rintro rfl
 let W0:=RR kT3 A4 D4 l::RR kT3 A9 D9 M::V
 refine bR ?_
 obtain ⟨D,b⟩:=gd b
 refine aP ?_
 refine fI (K:=kT3) (m:=(l.length:Int)) (z:=(0:Int)) R R bL cE kv (Zr.zk zT3 gZ) (by decide) R R D.1 D.2.1 D.2.2 (fun A11 D11=>(lS R (aC ?_)))
 let L:=aJ F [(sc A4 l D4)] 23::aJ b6 [(iv p5)] 3::aJ J [(sc A9 M D9)] 23::W0
 refine cV ?_
 obtain ⟨e1,a5,U⟩:=bd b
 refine bC (A:=Unit) a5 (fun s a=>[(0,(.func (.yield yl) #[] #[])),(1,(pt F 0)),(3,(pt J 0)),(5,(sc A11 (List.replicate (l.length:Int).toNat (0:Int)) D11)),(6,(iv s.2.1))]) (fun s a=>ow kT3 3 (.slice A11 (List.replicate (l.length:Int).toNat (0:Int)).length D11) s.1::YE s.2.2::L) () (aS R) tI ?_
 rintro ⟨u,ae,a7⟩ _ σ1 Y b a2
 dsimp only [Z01_L1] at b
 refine aP ?_
 obtain ⟨E,T,b⟩:=bd b
 refine wj 2 R (fun _ _ h=>h) (lO (vp (.func (.yield yl) #[] #[]) R) (lI R (lM (YE a7::ow kT3 3 (.slice A11 (List.replicate (l.length:Int).toNat (0:Int)).length D11) u::L) (tE 2 [1,0]) ?_)))
 refine aC (u6 1 R R (hy _ _ _ T) R (fun _ _ h=>h) R (fun _=>(lN (YE E.1::_::L) ?_)))
 refine aP ?_
 split at b
 refine bG ?_
 cases b
 obtain rfl:=a2 _ R
 have b:=U
 refine aU ?_
 cases b
 exact zZ () (tE 7 [0,2,3,4])
 refine iG ?_
 refine bB (A:=((List Int)×Int×Int)×(Unit)) (fun a=>Z01_J2 G YF E a.1.1 a.1.2.1 a.1.2.2=some Y) (fun a=>[(0,(.func (.yield yl) #[] #[])),(1,(pt F 0)),(3,(pt J 0)),(5,(sc A11 (List.replicate (l.length:Int).toNat (0:Int)) D11)),(6,(iv a.1.2.1)),(7,(iv a.1.2.2))]) (fun a=>ow kT3 3 (.slice A11 (List.replicate (l.length:Int).toNat (0:Int)).length D11) a.1.1::YE E.1::L) ?_ ?_
 refine bR ?_
 obtain ⟨e2,a8,a0⟩:=bd b
 refine bC (A:=Unit) a8 (fun s a=>[(0,(.func (.yield yl) #[] #[])),(1,(pt F 0)),(3,(pt J 0)),(5,(sc A11 (List.replicate (l.length:Int).toNat (0:Int)) D11)),(6,(iv s.2.1)),(7,(iv s.2.2))]) (fun s a=>ow kT3 3 (.slice A11 (List.replicate (l.length:Int).toNat (0:Int)).length D11) s.1::YE E.1::L) () (aS R) (tE 2 [1,0]) ?_
 rintro ⟨e,a4,i⟩ _ σ1 aa b Z
 dsimp only [Z01_L2] at b
 refine dH ?_
 split at b
 refine bS ?_
 obtain ⟨j,b⟩:=gd b
 refine aP ?_
 refine bD 0 aB (show 0<(List.replicate (l.length:Int).toNat (0:Int)).length by have:=j; omega) (fun a9 o80 ha=>?_)
 subst ha
 refine bG ?_
 refine dX (K:=kT3) (x':=(aH ((ix e i)+1))) 0 i R R cE R R j.1 j.2 ?_ ?_
 exact fun I h s=>(gJ).put I h () (aH ((ix e i)+1)) s
 refine aP ?_
 obtain ⟨a1,b⟩:=gd b
 refine bG ?_
 refine bD 6 aA (show 0<M.length by have:=a1; omega) (fun ag o83 ha=>?_)
 subst ha
 refine cV ?_
 obtain ⟨O,b⟩:=gd b
 refine aZ 5 aA (show 0<l.length by have:=O; omega) (fun ac o86 ha=>?_)
 subst ha
 refine dC 9 [] bO fun ht hn=>?_
 refine vi 0 [] ?_
 refine dD (aI ?_)
 split at b
 refine aP ?_
 refine rC R (eR ?_)
 cases b
 obtain rfl:=Z _ R
 have b:=a0
 refine aU ?_
 exact qI (((e.set i.toNat (aH ((ix e i)+1))),(aH (a4+(ix M i))),i),()) b tI
 refine bG ?_
 refine dC 12 [] bO fun ht hn=>?_
 refine ub 0 [] ?_
 refine dD ?_
 refine b' ?_
 refine dX (K:=kT3) (x':=(0:Int)) 0 i R R cE R R j.1 j.2 ?_ ?_
 exact fun I h s=>(gJ).put I h () (0:Int) s
 refine bR ?_
 obtain ⟨a6,B,b⟩:=bd b
 replace B:=Option.some.inj B
 refine qM (ow kT3 3 (.slice (ad a9 o80) (List.replicate (l.length:Int).toNat (0:Int)).length D11) a6::_::L) (fun w s=>by rw [← B]; exact s) ?_
 refine dH ?_
 cases b
 exact qA () tI
 refine aP ?_
 cases b
 obtain rfl:=Z _ R
 have b:=a0
 refine aU ?_
 exact qI ((e,a4,i),()) b tI
 rintro ⟨⟨a3,ah,ab⟩,_⟩ σ1 b
 dsimp only [Z01_J2] at b
 refine bS ?_
 split at b
 refine aP ?_
 cases b
 obtain rfl:=a2 _ R
 have b:=U
 refine aU ?_
 cases b
 exact zZ () (fun w s=>(s.f 7 [1,4]))
 refine aP ?_
 cases b
 exact qA () tI
theorem Z2h_ok  {v1:View}{r:(List Int)×(List pair)×Bool}(j:Z2h v1=some r) :
 FnOk Tryz.prog 145 [(.agg [(.slice A2 N2 D2),(.slice A3 N3 D3),(iv v1.Offset),(iv v1.Base)].toArray)] [aO kT3 (.slice A2 N2 D2) v1.Dims,aO kT3 (.slice A3 N3 D3) v1.Strides] (fun (h:HH×HH)=>((.tuple [(s3 h.1),(s3 h.2),(.bool r.2.2)].toArray),[aO kT3 (s3 h.1) r.1,ow kT161 161 (s3 h.2) r.2.1])):=by
 unfold Z2h at j
 refine wl Tryz.func145 R 29 R R fun C V=>?_
 refine cL 0 aA ?_
 rintro rfl
 refine cL 1 aA ?_
 rintro rfl
 refine aU ?_
 refine eG R fun b4=>?_
 refine dH ?_
 obtain ⟨r5,a5,j⟩:=bd j
 refine aU ?_
 refine lM _ (fun w s=>(((s.d 1 R).d 3 R).e 5 [1,0,2,3,4])) ?_
 refine lC 2 mx R (Zf_ok a5) R ?_
 rintro _
 refine aP ?_
 split at j
 refine cT ?_
 cases j
 exact hU ((none,0,0),(none,0,0)) (fun w s=>(((s.nilr kT3).nilo kT161 161).e 5 [1,0]))
 refine b' ?_
 refine bK (K:=kT161) (xs:=([]:List pair)) (vs:=[]) 0 R R fA fB eL R R R R R R ?_ R (fun A8 D8=>?_)
 exact fun I h s=>(j1).list [] I h s
 refine bE R R zi (fun J=>(cR 0 R R sx R R R R R (lN (aJ J [(sc A8 ([]:List pair) D8)] 147::_::_::_::_::V) ?_)))
 refine aU ?_
 refine wo ?_
 obtain ⟨g,a0,j⟩:=bd j
 refine dH ?_
 refine lM _ (fun w s=>(((s.d 3 R).d 5 R).f 7 [1,1,0,1,2,5])) ?_
 refine lC 2 zj R (Z33_ok a0) R ?_
 rintro ⟨⟨B,a7,m⟩,Z,Y,⟨D,a8,u⟩,T⟩
 refine aL 0 aA ?_
 rintro rfl
 refine aL 3 aA ?_
 rintro rfl
 refine bR ?_
 obtain ⟨G,a1,j⟩:=bd j
 let Ef:Nat→Loop→((List pair))→HP:=fun l F s=>pe fun a:HH=>tO l F::[aJ b4 [(sc A2 v1.Dims D2),(sc A3 v1.Strides D3),(iv v1.Offset),(iv v1.Base)] 96,RR kT3 A2 D2 v1.Dims,RR kT3 A3 D3 v1.Strides,aJ J [(s3 a)] 147,ow kT161 161 (s3 a) s]
 refine u7 (Wc:=[RR kT3 B m g.1,aJ Z [(sc B g.1 m)] 23,aJ Y [(iv g.2.1)] 3,RR kT3 D u g.2.2,aJ T [(sc D g.2.2 u)] 23,aJ J [(sc A8 ([]:List pair) D8)] 147,OO kT161 161 A8 D8 ([]:List pair),aJ b4 [(sc A2 v1.Dims D2),(sc A3 v1.Strides D3),(iv v1.Offset),(iv v1.Base)] 96,RR kT3 A2 D2 v1.Dims,RR kT3 A3 D3 v1.Strides]) (E:=fun l F=>Ef l F ([]:List pair)) (E':=fun l F=>Ef l F G) (Pre':=[RR kT3 B m g.1,aJ Z [(sc B g.1 m)] 23,aJ Y [(iv g.2.1)] 3,RR kT3 D u g.2.2,aJ T [(sc D g.2.2 u)] 23]) (W3:=[]) (cp:=fun (_:Unit)=>[aJ Z [(sc B g.1 m)] 23,aJ Y [(iv g.2.1)] 3,aJ T [(sc D g.2.2 u)] 23]) (Wd:=fun a:HH=>[aJ b4 [(sc A2 v1.Dims D2),(sc A3 v1.Strides D3),(iv v1.Offset),(iv v1.Base)] 96,RR kT3 A2 D2 v1.Dims,RR kT3 A3 D3 v1.Strides,aJ J [(s3 a)] 147,ow kT161 161 (s3 a) G]) R R zm (fun V w l F s=>St.pei (A8,([]:List pair).length,D8) ((s.f 11 [0,1,8,3,6,2,1,5]))) ?_ (fun V w l F x s=>let ⟨a,s⟩:=s.peo; ⟨a,s.e 9 [0,1,2,3,4,5]⟩) R ?_
 intro l F a2
 refine Z01_ok (YE:=Ef l F) (yl:=l) ?_ a1
 rintro b i q j
 dsimp only [Z3r] at j
 refine yok (fun a:HH=>[aJ b4 [(sc A2 v1.Dims D2),(sc A3 v1.Strides D3),(iv v1.Offset),(iv v1.Base)] 96,RR kT3 A2 D2 v1.Dims,RR kT3 A3 D3 v1.Strides,aJ J [(s3 a)] 147,ow kT161 161 (s3 a) b]) (fun a:HH=>[aJ b4 [(sc A2 v1.Dims D2),(sc A3 v1.Strides D3),(iv v1.Offset),(iv v1.Base)] 96,RR kT3 A2 D2 v1.Dims,RR kT3 A3 D3 v1.Strides,aJ J [(s3 a)] 147,ow kT161 161 (s3 a) q.1]) a2 R R R ?_
 rintro ⟨M,a4,O⟩
 apply Exists.intro
 intro C V
 refine ⟨?_,?_⟩
 refine bR ?_
 exact aC yb
 refine aL 4 aB ?_
 rintro rfl
 obtain ⟨a3,j⟩:=gd j
 refine bG ?_
 refine lO (vz (.agg [(iv i),(il b)].toArray) (aV my eL R R)) (bK (K:=kT161) (xs:=([(⟨i,(b.length:Int)⟩:pair)]:List pair)) (vs:=[(.agg [(iv i),(il b)].toArray)]) 0 R R fA fB eL R R R R R R ?_ R (fun a9 a6=>?_))
 exact fun I h s=>(j1).list [(((),()),(⟨i,(b.length:Int)⟩:pair))] I h s
 refine lM _ (fun w s=>(s.f 6 [5,1,0,5])) ?_
 refine eF (K:=kT161) 8796093022208 R R fA fB lx (Zr.zk zT161 eL) R R R R R R dO a3 (fun L U=>(lN (OO kT161 161 L U (b++([(⟨i,(b.length:Int)⟩:pair)]:List pair))::_::_::_::_::V) ?_))
 refine cR 4 R R sx R R R R R (lN (_::_::_::_::aJ J [(sc L (b++([(⟨i,(b.length:Int)⟩:pair)]:List pair)) U)] 147::V) ?_)
 refine bR ?_
 cases j
 exact Al (L,(b++([(⟨i,(b.length:Int)⟩:pair)]:List pair)).length,U) R (fun w s=>(s.f 5 [1,4,0,1]))
 rintro ⟨M,a4,O⟩ Dm V
 refine cL 4 aB ?_
 rintro rfl
 refine aN (dC 6 [] bO fun ht hn=>?_)
 refine r' 0 [] ?_
 refine dD ?_
 refine aU ?_
 cases j
 exact wm (dF (vs:=[(sc A2 v1.Dims D2),(sc M G O),(.bool true)]) (.inl R) ((A2,v1.Dims.length,D2),(M,G.length,O)) R ⟨R,R,R,trivial⟩ R (tE 5 [1,4]))
theorem Z2s_ok  {a:Node}{b:(List Int)}{r:(List Int)×(List pair)×Bool}(g:Z2s a b=some r) :
 FnOk Tryz.prog 124 [(.agg [(iv a.Op),(.slice A2 N2 D2),(.slice A3 N3 D3),(.slice A4 N4 D4),(aD a.Form),(.slice A5 N5 D5)].toArray),(.slice A7 N7 D7)] [aO kT3 (.slice A2 N2 D2) a.Args,aO kT3 (.slice A3 N3 D3) a.Dims,aO kT3 (.slice A4 N4 D4) a.Ints,aO kT3 (.slice A5 N5 D5) a.Data,aO kT3 (.slice A7 N7 D7) b] (fun (h:HH×HH)=>((.tuple [(s3 h.1),(s3 h.2),(.bool r.2.2)].toArray),[aO kT3 (s3 h.1) r.1,ow kT161 161 (s3 h.2) r.2.1])):=by
 unfold Z2s at g
 refine aQ Tryz.func124 R 14 R R fun C V=>?_
 refine cL 0 aA ?_
 rintro rfl
 refine cL 1 aA ?_
 rintro rfl
 refine cL 2 aA ?_
 rintro rfl
 refine cL 3 aA ?_
 rintro rfl
 refine cL 4 aA ?_
 rintro rfl
 let D:=RR kT3 A2 D2 a.Args::RR kT3 A3 D3 a.Dims::RR kT3 A4 D4 a.Ints::RR kT3 A5 D5 a.Data::RR kT3 A7 D7 b::V
 refine cN D ?_
 refine aU ?_
 refine eG R fun E=>?_
 refine bG ?_
 let I:=aJ E [(iv a.Op),(sc A2 a.Args D2),(sc A3 a.Dims D3),(sc A4 a.Ints D4),(aD a.Form),(sc A5 a.Data D5)] 54::D
 refine qN I ?_
 refine aU ?_
 obtain ⟨J,i,g⟩:=bd g
 obtain ⟨j,l,g⟩:=bd g
 refine aP ?_
 refine lM _ (fun w s=>((((((s.d 1 R).d 3 R).d 5 R).d 7 R).d 9 R).e 5 [4,3,2,1,0])) ?_
 refine lC 5 zn R (Z1c_ok i) R ?_
 rintro ⟨⟨A11,N11,D11⟩,⟨A12,N12,D12⟩⟩
 refine aL 0 aA ?_
 rintro rfl
 refine aL 1 aA ?_
 rintro rfl
 refine lM _ (fun w s=>(((s.d 0 R).d 2 R).e 4 [1,0,2,3])) ?_
 refine lC 2 zo R (Z2h_ok l) R ?_
 rintro ⟨⟨B,F,u⟩,⟨m,G,q⟩⟩
 refine aL 0 aA ?_
 rintro rfl
 refine aL 1 aB ?_
 rintro rfl
 refine cP ?_
 cases g
 exact hU ((B,j.1.length,u),(m,j.2.1.length,q)) (tE 10 [0,1])
theorem Z1s_ok  {k1:shiftKind}{b:Node}{a:(List (List Int))}{r:(List Int)×Bool}(i:Z1s k1 b a=some r) :
 FnOk Tryz.prog 220 [(.agg [(aD k1.use),(.func (.func 124) [].toArray [].toArray)].toArray),(.agg [(iv b.Op),(.slice A3 N3 D3),(.slice A4 N4 D4),(.slice A5 N5 D5),(aD b.Form),(.slice A6 N6 D6)].toArray),(.slice A8 N8 D8)] [aO kT3 (.slice A3 N3 D3) b.Args,aO kT3 (.slice A4 N4 D4) b.Dims,aO kT3 (.slice A5 N5 D5) b.Ints,aO kT3 (.slice A6 N6 D6) b.Data,aO kT23 (.slice A8 N8 D8) a] (fun (h:HH)=>((.tuple [(s3 h),(.bool r.2)].toArray),[aO kT3 (s3 h) r.1])):=by
 unfold Z1s at i
 refine aQ Tryz.func220 R 27 R R fun C V=>?_
 refine cL 0 aA ?_
 rintro rfl
 refine cL 1 aA ?_
 rintro rfl
 refine cL 2 aA ?_
 rintro rfl
 refine cL 3 aA ?_
 rintro rfl
 refine cL 4 aA ?_
 rintro rfl
 let B:=RR kT3 A3 D3 b.Args::RR kT3 A4 D4 b.Dims::RR kT3 A5 D5 b.Ints::RR kT3 A6 D6 b.Data::RR kT23 A8 D8 a::V
 refine cN B ?_
 refine aU ?_
 refine eG R fun E=>?_
 refine eG R fun u=>?_
 refine aP ?_
 let L:=aJ u [(iv b.Op),(sc A3 b.Args D3),(sc A4 b.Dims D4),(sc A5 b.Ints D5),(aD b.Form),(sc A6 b.Data D6)] 54::aJ E [(aD k1.use),(.func (.func 124) [].toArray [].toArray)] 145::B
 refine qN L ?_
 refine cP ?_
 split at i
 refine cP ?_
 cases i
 exact jC (none,0,0) (fun w s=>((s.nilr kT3).e 8 [0]))
 refine bG ?_
 obtain ⟨g,i⟩:=gd i
 obtain ⟨l,j,i⟩:=bd i
 refine aZ 6 aA (show 0<a.length by have:=g; omega) (fun M o14 G=>?_)
 subst G
 refine dB (K:=kT23) 6 (0:Int) dT23.dec R g.1 g.2 ?_
 rintro ⟨J,I⟩
 refine dC 14 [] bO fun Y U=>?_
 refine kh 0 [] ?_
 refine dR 5 R (eA (fo:=0) 0 cH R R R) (d1 6 R (lM _ (fun w s=>((((((s.d 4 R).d 6 R).d 8 R).d 10 R).d 5 R).e 7 [4,3,2,1,0,5,6])) ?_))
 refine cB (fs:=[]) (cs:=[]) 5 R R zp R R (Z2s_ok j) R ?_
 rintro ⟨⟨m,D,q⟩,⟨T,F,O⟩⟩
 refine aL 0 aA ?_
 rintro rfl
 refine aL 1 aB ?_
 rintro rfl
 refine aC (aG (sL [1,0]) (dR 7 R (vT R) (hS:=(sL [1,0])) ?_))
 refine r' 8 [1,0] ?_
 refine dD ?_
 refine cT ?_
 cases i
 exact jC (m,l.1.length,q) (tE 11 [0])
theorem Z10_ok  {l:Node}{j:(List Int)}{r:(List Int)×(List pair)×Bool}(i:Z10 l j=some r) :
 FnOk Tryz.prog 125 [(.agg [(iv l.Op),(.slice A2 N2 D2),(.slice A3 N3 D3),(.slice A4 N4 D4),(aD l.Form),(.slice A5 N5 D5)].toArray),(.slice A7 N7 D7)] [aO kT3 (.slice A2 N2 D2) l.Args,aO kT3 (.slice A3 N3 D3) l.Dims,aO kT3 (.slice A4 N4 D4) l.Ints,aO kT3 (.slice A5 N5 D5) l.Data,aO kT3 (.slice A7 N7 D7) j] (fun (h:HH×HH)=>((.tuple [(s3 h.1),(s3 h.2),(.bool r.2.2)].toArray),[aO kT3 (s3 h.1) r.1,ow kT161 161 (s3 h.2) r.2.1])):=by
 unfold Z10 at i
 refine aQ Tryz.func125 R 37 R R fun C V=>?_
 refine cL 0 aA ?_
 rintro rfl
 refine cL 1 aA ?_
 rintro rfl
 refine cL 2 aA ?_
 rintro rfl
 refine cL 3 aA ?_
 rintro rfl
 refine cL 4 aA ?_
 rintro rfl
 let W0:=RR kT3 A2 D2 l.Args::RR kT3 A3 D3 l.Dims::RR kT3 A4 D4 l.Ints::RR kT3 A5 D5 l.Data::RR kT3 A7 D7 j::V
 refine cN W0 ?_
 refine aU ?_
 refine eG R fun M=>?_
 refine bG ?_
 let u:=aJ M [(iv l.Op),(sc A2 l.Args D2),(sc A3 l.Dims D3),(sc A4 l.Ints D4),(aD l.Form),(sc A5 l.Data D5)] 54::W0
 refine qN u ?_
 refine aP ?_
 obtain ⟨r9,E,i⟩:=bd i
 obtain ⟨Z,G,i⟩:=bd i
 obtain ⟨a1,L,i⟩:=bd i
 refine cQ [(1,(sc A7 j D7)),(2,(pt M 0)),(20,(.bool ((!r9)||(Z != a1))))] (u) ?_ ?_
 refine aP ?_
 refine lM _ (fun w s=>(s.d 2 R)) ?_
 refine lC 1 j2 R (Zb_ok E) R ?_
 rintro _
 refine lN u ?_
 refine aU ?_
 rcases bo (!r9) with m | m
 refine cV ?_
 exact qj tI
 refine aU ?_
 refine lM _ (fun w s=>(s.d 2 R)) ?_
 refine bW 1 R (bY m) jw R (Zl_ok (bJ G (cO m))) R ?_
 rintro _
 refine lN u ?_
 refine bR ?_
 refine lM _ (fun w s=>(s.d 5 R)) ?_
 refine bW 1 R (bY m) jw R (Zl_ok (bJ L (cO m))) R ?_
 rintro _
 refine lN u ?_
 refine aP ?_
 exact qj tI
 rintro σ1
 refine bR ?_
 split at i
 refine cT ?_
 cases i
 exact hU ((none,0,0),(none,0,0)) (fun w s=>(((s.nilr kT3).nilo kT161 161).e 8 [1,0]))
 refine b' ?_
 refine bK (K:=kT161) (xs:=([]:List pair)) (vs:=[]) 0 R R fA fB eL R R R R R R ?_ R (fun a3 a7=>?_)
 exact fun I h s=>(j1).list [] I h s
 refine bG ?_
 refine bB (A:=((List pair))×(HH)) (fun a=>Z10_J1 l a.1=some r) (fun a=>[(2,(pt M 0)),(7,(s3 a.2))]) (fun a=>ow kT161 161 (s3 a.2) a.1::u) ?_ ?_
 refine bR ?_
 obtain ⟨O,B,i⟩:=bd i
 refine aU ?_
 refine lM _ (fun w s=>(s.d 6 R)) ?_
 refine lC 1 jw R (Zl_ok B) R ?_
 rintro _
 refine bG ?_
 obtain ⟨e1,a0,Y⟩:=bd i
 refine bC (A:=HH) a0 (fun s a=>[(2,(pt M 0)),(7,(s3 a)),(23,(iv O)),(24,(iv s.2))]) (fun s a=>ow kT161 161 (s3 a) s.1::u) (a3,([]:List pair).length,a7) (aS R) tI ?_
 rintro ⟨b,g⟩ ⟨a5,a8,T⟩ σ1 a9 i a6
 dsimp only [Z10_L1] at i
 refine bI 0 aB (fun (hn:a8=b.length)=>?_)
 subst hn
 refine bS ?_
 split at i
 refine iu ?_
 obtain ⟨D,i⟩:=gd i
 refine bG ?_
 refine lO (vz (.agg [(iv g),(iv g)].toArray) (aV my eL R R)) (bK (K:=kT161) (xs:=([(⟨g,g⟩:pair)]:List pair)) (vs:=[(.agg [(iv g),(iv g)].toArray)]) 0 R R fA fB eL R R R R R R ?_ R (fun ab aa=>?_))
 exact fun I h s=>(j1).list [(((),()),(⟨g,g⟩:pair))] I h s
 refine lM _ (tE 2 [1,0]) ?_
 refine eF (K:=kT161) 8796093022208 R R fA fB lx (Zr.zk zT161 eL) R R R R R R dO D (fun F J=>(lN (OO kT161 161 F J (b++([(⟨g,g⟩:pair)]:List pair))::u) ?_))
 refine cV ?_
 cases i
 exact qA (F,(b++([(⟨g,g⟩:pair)]:List pair)).length,J) tI
 refine aP ?_
 cases i
 obtain rfl:=a6 _ R
 have i:=Y
 refine aU ?_
 exact qI (b,(a5,b.length,T)) i tI
 rintro ⟨q,⟨U,a4,a2⟩⟩ σ1 i
 dsimp only [Z10_J1] at i
 refine bI 0 aB (fun (hn:a4=q.length)=>?_)
 subst hn
 refine iu ?_
 cases i
 exact hU ((A3,l.Dims.length,D3),(U,q.length,a2)) (tE 7 [3,0])
theorem Z24_ok  {k1:shiftKind}{b:Node}{a:(List (List Int))}{r:(List Int)×Bool}(i:Z24 k1 b a=some r) :
 FnOk Tryz.prog 220 [(.agg [(aD k1.use),(.func (.func 125) [].toArray [].toArray)].toArray),(.agg [(iv b.Op),(.slice A3 N3 D3),(.slice A4 N4 D4),(.slice A5 N5 D5),(aD b.Form),(.slice A6 N6 D6)].toArray),(.slice A8 N8 D8)] [aO kT3 (.slice A3 N3 D3) b.Args,aO kT3 (.slice A4 N4 D4) b.Dims,aO kT3 (.slice A5 N5 D5) b.Ints,aO kT3 (.slice A6 N6 D6) b.Data,aO kT23 (.slice A8 N8 D8) a] (fun (h:HH)=>((.tuple [(s3 h),(.bool r.2)].toArray),[aO kT3 (s3 h) r.1])):=by
 unfold Z24 at i
 refine aQ Tryz.func220 R 27 R R fun C V=>?_
 refine cL 0 aA ?_
 rintro rfl
 refine cL 1 aA ?_
 rintro rfl
 refine cL 2 aA ?_
 rintro rfl
 refine cL 3 aA ?_
 rintro rfl
 refine cL 4 aA ?_
 rintro rfl
 let B:=RR kT3 A3 D3 b.Args::RR kT3 A4 D4 b.Dims::RR kT3 A5 D5 b.Ints::RR kT3 A6 D6 b.Data::RR kT23 A8 D8 a::V
 refine cN B ?_
 refine aU ?_
 refine eG R fun E=>?_
 refine eG R fun u=>?_
 refine aP ?_
 let L:=aJ u [(iv b.Op),(sc A3 b.Args D3),(sc A4 b.Dims D4),(sc A5 b.Ints D5),(aD b.Form),(sc A6 b.Data D6)] 54::aJ E [(aD k1.use),(.func (.func 125) [].toArray [].toArray)] 145::B
 refine qN L ?_
 refine cP ?_
 split at i
 refine cP ?_
 cases i
 exact jC (none,0,0) (fun w s=>((s.nilr kT3).e 8 [0]))
 refine bG ?_
 obtain ⟨g,i⟩:=gd i
 obtain ⟨l,j,i⟩:=bd i
 refine aZ 6 aA (show 0<a.length by have:=g; omega) (fun M o14 G=>?_)
 subst G
 refine dB (K:=kT23) 6 (0:Int) dT23.dec R g.1 g.2 ?_
 rintro ⟨J,I⟩
 refine dC 14 [] bO fun Y U=>?_
 refine kh 0 [] ?_
 refine dR 5 R (eA (fo:=0) 0 cH R R R) (d1 6 R (lM _ (fun w s=>((((((s.d 4 R).d 6 R).d 8 R).d 10 R).d 5 R).e 7 [4,3,2,1,0,5,6])) ?_))
 refine cB (fs:=[]) (cs:=[]) 5 R R zq R R (Z10_ok j) R ?_
 rintro ⟨⟨m,D,q⟩,⟨T,F,O⟩⟩
 refine aL 0 aA ?_
 rintro rfl
 refine aL 1 aB ?_
 rintro rfl
 refine aC (aG (sL [1,0]) (dR 7 R (vT R) (hS:=(sL [1,0])) ?_))
 refine r' 8 [1,0] ?_
 refine dD ?_
 refine cT ?_
 cases i
 exact jC (m,l.1.length,q) (tE 11 [0])
theorem Z1l_ok  {b:(List Int)}{a:Int}{i:Int}{r:(List Int)}(g:Z1l b a i=some r) :
 FnOk Tryz.prog 151 [(.slice A2 N2 D2),(iv a),(iv i)] [aO kT3 (.slice A2 N2 D2) b] (fun (h:HH)=>((s3 h),[ow kT3 3 (s3 h) r])):=by
 unfold Z1l at g
 refine aQ Tryz.func151 R 15 R R fun C V=>?_
 refine cL 0 aA ?_
 rintro rfl
 let q:=RR kT3 A2 D2 b::V
 refine cN q ?_
 refine bS ?_
 obtain ⟨l,j,g⟩:=bd g
 refine aU ?_
 refine lM _ (fun w s=>(s.d 0 R)) ?_
 refine lC 1 j3 R (Zg_ok j) R ?_
 rintro ⟨A7,N7,D7⟩
 refine aL 0 aB ?_
 rintro rfl
 refine bG ?_
 obtain ⟨e,g⟩:=gd g
 refine bG ?_
 refine bD 0 aB (show 0<l.length by have:=e; omega) (fun u o10 m=>?_)
 subst m
 refine bR ?_
 refine dX (K:=kT3) (x':=i) 0 a R R cE R R e.1 e.2 ?_ ?_
 exact fun I h s=>(gJ).put I h () i s
 refine cP ?_
 cases g
 exact qF ((ad u o10),l.length,D7) (tE 2 [0])
theorem Z22_ok  {b:(List Int)}{a:Int}{r:Int×Int×Int}(i:Z22 b a=some r) :
 FnOk Tryz.prog 153 [(.slice A2 N2 D2),(iv a)] [aO kT3 (.slice A2 N2 D2) b] (fun (h:Unit)=>((.tuple [(iv r.1),(iv r.2.1),(iv r.2.2)].toArray),[])):=by
 unfold Z22 at i
 refine aQ Tryz.func153 R 20 R R fun C V=>?_
 refine cL 0 aA ?_
 rintro rfl
 let u:=RR kT3 A2 D2 b::V
 refine cN u ?_
 refine cV ?_
 obtain ⟨g,i⟩:=gd i
 obtain ⟨D,l,i⟩:=bd i
 obtain ⟨m,i⟩:=gd i
 obtain ⟨e,i⟩:=gd i
 obtain ⟨q,j,i⟩:=bd i
 refine cQ [(4,(iv D)),(5,(iv (ix b a))),(6,(iv q))] (u) ?_ ?_
 refine aZ 0 aA (show 0<b.length by have:=m; omega) (fun G o10 B=>?_)
 subst B
 refine dC 16 [] bO fun F E=>?_
 refine gO 0 [] ?_
 refine s6 4 [] ?_
 refine hR [2,11] (by kernel_rfl) R ⟨?_,?_,trivial⟩
 refine fY (K:=kT3) (0:Int) a 0 R R bL cE R R R R g.1 g.2.1 g.2.2 (fun A5 D5=>(aC (aG (sL [0]) (hR [3,11] (by kernel_rfl) R ⟨?_,?_,trivial⟩))))
 refine lM _ (fun w s=>(s.d 0 R)) ?_
 refine lC 1 jw R (Zl_ok l) R ?_
 rintro _
 refine aC (aG (sL [0]) (d1 11 R (fY (K:=kT3) (aH (a+1)) (b.length:Int) 1 R R bL cE R R R R e.1 e.2.1 e.2.2 (fun A12 D12=>(aC (aG (sL [1,0]) (d1 12 R (lM _ (fun w s=>(s.d 0 R)) ?_))))))))
 refine lC 1 jw R (Zl_ok j) R ?_
 rintro _
 refine aC (aG (sL [1,0]) ?_)
 refine hJ 13 [1,0] ?_
 refine dD ?_
 exact qj (tE 2 [])
 refine fY (K:=kT3) (aH (a+1)) (b.length:Int) 1 R R bL cE R R R R e.1 e.2.1 e.2.2 (fun A12 D12=>(aC (aG (sL [1,0]) (d1 3 R (lM _ (fun w s=>(s.d 1 R)) ?_)))))
 refine lC 1 jw R (Zl_ok l) R ?_
 rintro _
 refine aC (aG (sL [1,0]) (d1 12 R (lM _ (fun w s=>(s.d 0 R)) ?_)))
 refine lC 1 jw R (Zl_ok j) R ?_
 rintro _
 refine aC (aG (sL [1,0]) ?_)
 refine hJ 13 [1,0] ?_
 refine dD ?_
 exact qj (tE 2 [])
 refine fY (K:=kT3) (aH (a+1)) (b.length:Int) 0 R R bL cE R R R R e.1 e.2.1 e.2.2 (fun A12 D12=>(aC (aG (sL [0]) (d1 2 R (fY (K:=kT3) (0:Int) a 1 R R bL cE R R R R g.1 g.2.1 g.2.2 (fun A5 D5=>(aC (aG (sL [1,0]) (d1 3 R (lM _ (fun w s=>(s.d 0 R)) ?_))))))))))
 refine lC 1 jw R (Zl_ok l) R ?_
 rintro _
 refine aC (aG (sL [1,0]) (d1 12 R (lM _ (fun w s=>(s.d 1 R)) ?_)))
 refine lC 1 jw R (Zl_ok j) R ?_
 rintro _
 refine aC (aG (sL [1,0]) ?_)
 refine hJ 13 [1,0] ?_
 refine dD ?_
 exact qj (tE 2 [])
 rintro σ1
 refine aU ?_
 cases i
 exact hU () (tE 1 [])
theorem Z7_ok  {B:(List Int)}{Z:Int}{F:Int}{b:(List pair)}{r:(List pair)}(g:Z7 B Z F b=some r) :
 FnOk Tryz.prog 152 [(.slice A2 N2 D2),(iv Z),(iv F),(.slice A6 N6 D6)] [aO kT3 (.slice A2 N2 D2) B,aO kT161 (.slice A6 N6 D6) b] (fun (h:HH)=>((.slice h.1 h.2.1 h.2.2),[ow kT161 161 (.slice h.1 h.2.1 h.2.2) r])):=by
 unfold Z7 at g
 refine aQ Tryz.func152 R 73 R R fun C V=>?_
 refine cN (_::_::V) ?_
 refine cL 0 aA ?_
 rintro rfl
 refine cL 1 aA ?_
 rintro rfl
 let O:List HP:=RR kT3 A2 D2 B::RR kT161 A6 D6 b::V
 refine cN O ?_
 refine aN (aE (lS R (aC (aI (aN ?_)))))
 obtain ⟨q,b7,g⟩:=bd g
 refine aE (lS R (lI R (lM (RR kT3 A2 D2 B::O) (fun w s=>(s.d 0 R)) ?_)))
 refine lC 1 vG R (Z22_ok b7) R ?_
 rintro _
 refine lN O ?_
 refine lO (vT R) (lI R (lI R (lI R (lI R (lI R (lI R (aC (aI (aN ?_)))))))))
 obtain ⟨ae,g⟩:=gd g
 refine aE (lI R (lI R (lO (rr R R) (lS R (lO (lj fA R) (lO (rr R R) (u4 (K:=kT161) (m:=(aH ((aH (q.1*q.2.2))*(b.length:Int)))) (z:=zT161.z) R R fA fB lx (Zr.zk zT161 eL) (by decide) R R ae.1 ae.2.1 ae.2.2 (fun A10 D10=>(lS R (aC (aI (aN (bB (A:=((List pair))×(HH)) (fun a=>Z7_J7 a.1=some r) (fun a=>[(12,(.slice a.2.1 a.2.2.1 a.2.2.2))]) (fun a=>ow kT161 161 (.slice a.2.1 a.2.2.1 a.2.2.2) a.1::O) ?_ ?_)))))))))))))
 refine aN (aE (lI R (aC (aI (dS ?_)))))
 obtain ⟨e1,b5,b4⟩:=bd g
 refine bC (A:=HH×HH) b5 (fun s a=>[(2,(iv F)),(3,(.slice a.1.1 a.1.2.1 a.1.2.2)),(9,(iv q.1)),(10,(iv q.2.1)),(11,(iv q.2.2)),(12,(.slice a.2.1 a.2.2.1 a.2.2.2)),(13,(iv s.2))]) (fun s a=>aO kT161 (.slice a.1.1 a.1.2.1 a.1.2.2) b::ow kT161 161 (.slice a.2.1 a.2.2.1 a.2.2.2) s.1::O) ((A6,b.length,D6),(A10,([]:List pair).length,D10)) (aS R) (fun w s=>(s.d 2 R)) ?_
 rintro ⟨a1,l⟩ ⟨⟨bb,ba,b3⟩,⟨ai,bj,az⟩⟩ σ1 U g b6
 replace g:Z7_L1 F b q a1 l=some U:=g
 unfold Z7_L1 at g
 refine bI 0 aA (fun (D:ba=b.length)=>?_)
 subst D
 refine bI 1 aB (fun (D:bj=a1.length)=>?_)
 subst D
 refine aN (aN (aE (lI R (lI R (lO (nS R R) (aC (aI ?_)))))))
 rcases cK g with ⟨a3,g⟩|⟨a3,g⟩
 refine cC R a3 (dI (aI (aN (bB (A:=((List pair))×(HH×HH)) (fun a=>Z7_J6 l a.1=some U) (fun a=>[(2,(iv F)),(3,(.slice a.2.1.1 a.2.1.2.1 a.2.1.2.2)),(9,(iv q.1)),(10,(iv q.2.1)),(11,(iv q.2.2)),(12,(.slice a.2.2.1 a.2.2.2.1 a.2.2.2.2)),(13,(iv l))]) (fun a=>aO kT161 (.slice a.2.1.1 a.2.1.2.1 a.2.1.2.2) b::ow kT161 161 (.slice a.2.2.1 a.2.2.2.1 a.2.2.2.2) a.1::O) ?_ ?_))))
 refine dS (aN (aE (lS R (lO (lj fA R) (lI R (aC (aI (dS ?_))))))))
 obtain ⟨e2,bi,bf⟩:=bd g
 refine bC (A:=HH×HH) bi (fun s a=>[(2,(iv F)),(3,(.slice a.1.1 a.1.2.1 a.1.2.2)),(9,(iv q.1)),(10,(iv q.2.1)),(11,(iv q.2.2)),(12,(.slice a.2.1 a.2.2.1 a.2.2.2)),(13,(iv l)),(36,(.slice a.1.1 a.1.2.1 a.1.2.2)),(37,(il b)),(38,(iv s.2))]) (fun s a=>aO kT161 (.slice a.1.1 a.1.2.1 a.1.2.2) b::ow kT161 161 (.slice a.2.1 a.2.2.1 a.2.2.2) s.1::O) ((bb,b.length,b3),(ai,a1.length,az)) (aS R) (fun w s=>s) ?_
 rintro ⟨M,i⟩ ⟨⟨be,bk,L⟩,⟨ab,bg,ac⟩⟩ σ1 a5 g bc
 replace g:Z7_L2 F b q l M i=some a5:=g
 unfold Z7_L2 at g
 refine bI 0 aA (fun (D:bk=b.length)=>?_)
 subst D
 refine bI 1 aB (fun (D:bg=M.length)=>?_)
 subst D
 refine aN (aE (lO (nS R R) (aC (aI (aN ?_)))))
 rcases cK g with ⟨a2,g⟩|⟨a2,g⟩
 refine cC R a2 (dI (aI (aN (bB (A:=((List pair))×(HH×HH)) (fun a=>Z7_J5 i a.1=some a5) (fun a=>[(2,(iv F)),(3,(.slice a.2.1.1 a.2.1.2.1 a.2.1.2.2)),(9,(iv q.1)),(10,(iv q.2.1)),(11,(iv q.2.2)),(12,(.slice a.2.2.1 a.2.2.2.1 a.2.2.2.2)),(13,(iv l)),(36,(.slice a.2.1.1 a.2.1.2.1 a.2.1.2.2)),(37,(il b)),(38,(iv i))]) (fun a=>aO kT161 (.slice a.2.1.1 a.2.1.2.1 a.2.1.2.2) b::ow kT161 161 (.slice a.2.2.1 a.2.2.2.1 a.2.2.2.2) a.1::O) ?_ ?_))))
 refine dS (aN ?_)
 obtain ⟨J,g⟩:=gd g
 refine aE (bD 0 aA (show 0<b.length by have:=J; omega) (fun E o101 ha=>?_))
 subst ha
 refine lO (eN fA fB R R J) (rM (.agg [(iv (ix b i).from_),(iv (ix b i).to)].toArray) ?_ R R ?_)
 exact (vZ (K:=kT161) (cells:=fun x=>[(iv x.from_),(iv x.to)]) 0 i vH fB (DecK.flat yk fun _ _=>R) aA R J.1 J.2)
 refine bE R R eL (fun a4=>(aK 0 R R fB R R R R R R (lN (aJ a4 [(iv (ix b i).from_),(iv (ix b i).to)] 161::RR kT161 (ad E o101) L b::OO kT161 161 ab ac M::O) ?_)))
 refine aC (aI (aN (aE (lI R (aC (aI (dS ?_)))))))
 obtain ⟨e3,b9,b8⟩:=bd g
 refine bC (A:=HH) b9 (fun s a=>[(2,(iv F)),(3,(sc (ad E o101) b L)),(9,(iv q.1)),(10,(iv q.2.1)),(11,(iv q.2.2)),(12,(.slice a.1 a.2.1 a.2.2)),(13,(iv l)),(15,(pt a4 0)),(16,(iv s.2)),(36,(sc (ad E o101) b L)),(37,(il b)),(38,(iv i))]) (fun s a=>RR kT161 (ad E o101) L b::ow kT161 161 (.slice a.1 a.2.1 a.2.2) s.1::aJ a4 [(iv (ix b i).from_),(iv (ix b i).to)] 161::O) (ab,M.length,ac) (aS R) (fun w s=>(s.e 3 [1,2,0])) ?_
 rintro ⟨u,j⟩ ⟨a6,au,a8⟩ σ1 ag g bh
 replace g:Z7_L3 F b q l i u j=some ag:=g
 unfold Z7_L3 at g
 refine bI 1 aB (fun (D:au=u.length)=>?_)
 subst D
 refine aN (aN (aE (lI R (lI R (lO (nS R R) (aC (aI ?_)))))))
 rcases cK g with ⟨G,g⟩|⟨G,g⟩
 refine cC R G (dI (aI (aN (dS ?_))))
 obtain ⟨aa,g⟩:=gd g
 refine aE (lS R (lI R (lI R (lO (rr R R) (lO (fZ 0 q8 R) (lO (gI 2 fS R R R) (lO (lq R R) (lI R (lO (rr R R) (lI R (lO (lq R R) (lI R (lI R (lO (rr R R) (lO (fZ 1 qa R) (lO (gI 2 fS R R R) (lO (lq R R) (lI R (lO (rr R R) (lI R (lO (lq R R) (lO (vz (.agg [(iv (aH ((aH ((aH ((aH (l*q.2.1))+(ix b i).from_))*q.2.2))+j))),(iv (aH ((aH ((aH ((aH (l*F))+(ix b i).to))*q.2.2))+j)))].toArray) (aV my eL R R)) (bK (K:=kT161) (xs:=([(⟨(aH ((aH ((aH ((aH (l*q.2.1))+(ix b i).from_))*q.2.2))+j)),(aH ((aH ((aH ((aH (l*F))+(ix b i).to))*q.2.2))+j))⟩:pair)]:List pair)) (vs:=[(.agg [(iv (aH ((aH ((aH ((aH (l*q.2.1))+(ix b i).from_))*q.2.2))+j))),(iv (aH ((aH ((aH ((aH (l*F))+(ix b i).to))*q.2.2))+j)))].toArray)]) 0 R R fA fB eL R R R R R R ?_ R (fun b2 ay=>?_))))))))))))))))))))))))
 exact fun I h s=>(j1).list [(((),()),(⟨(aH ((aH ((aH ((aH (l*q.2.1))+(ix b i).from_))*q.2.2))+j)),(aH ((aH ((aH ((aH (l*F))+(ix b i).to))*q.2.2))+j))⟩:pair))] I h s
 refine lN (OO kT161 161 b2 ay ([(⟨(aH ((aH ((aH ((aH (l*q.2.1))+(ix b i).from_))*q.2.2))+j)),(aH ((aH ((aH ((aH (l*F))+(ix b i).to))*q.2.2))+j))⟩:pair)]:List pair)::_::OO kT161 161 a6 a8 u::_::O) ?_
 refine lM (ow _ _ _ _::ow _ _ _ _::aO _ _ _::aJ _ _ _::O) (fun w s=>(s.e 4 [2,0,1,3])) ?_
 refine eF (K:=kT161) 8796093022208 R R fA fB lx (Zr.zk zT161 eL) R R R R R R dO aa (fun a7 a9=>(lN (OO kT161 161 a7 a9 (u++([(⟨(aH ((aH ((aH ((aH (l*q.2.1))+(ix b i).from_))*q.2.2))+j)),(aH ((aH ((aH ((aH (l*F))+(ix b i).to))*q.2.2))+j))⟩:pair)]:List pair))::_::_::O) ?_))
 refine lS R (aC (eD (aI (aE (lI R (lO (lq R R) (lI R (aC ?_))))))))
 obtain rfl:=so g
 exact qA (a7,(u++([(⟨(aH ((aH ((aH ((aH (l*q.2.1))+(ix b i).from_))*q.2.2))+j)),(aH ((aH ((aH ((aH (l*F))+(ix b i).to))*q.2.2))+j))⟩:pair)]:List pair)).length,a9) (fun w s=>(s.e 3 [1,0,2]))
 refine bM R G (iQ (eR ?_))
 obtain rfl:=so g
 obtain rfl:=bh _ R
 have g:=b8
 refine eR (gW (eD ?_))
 exact qI (u,(((ad E o101),b.length,L),(a6,u.length,a8))) g (fun w s=>(s.e 3 [0,1]))
 rintro ⟨T,⟨⟨am,ar,aq⟩,⟨ap,ax,av⟩⟩⟩ σ1 g
 replace g:Z7_J5 i T=some a5:=g
 unfold Z7_J5 at g
 refine bI 0 aA (fun (D:ar=b.length)=>?_)
 subst D
 refine bI 1 aB (fun (D:ax=T.length)=>?_)
 subst D
 refine aE (lO (lq R R) (lI R (aC ?_)))
 obtain rfl:=so g
 exact qA ((am,b.length,aq),(ap,T.length,av)) (fun w s=>s)
 refine bM R a2 (iQ (eR ?_))
 obtain rfl:=so g
 obtain rfl:=bc _ R
 have g:=bf
 refine eR (gW (eD ?_))
 exact qI (M,((be,b.length,L),(ab,M.length,ac))) g (fun w s=>s)
 rintro ⟨a0,⟨⟨ao,b0,ah⟩,⟨aj,ak,b1⟩⟩⟩ σ1 g
 replace g:Z7_J6 l a0=some U:=g
 unfold Z7_J6 at g
 refine bI 0 aA (fun (D:b0=b.length)=>?_)
 subst D
 refine bI 1 aB (fun (D:ak=a0.length)=>?_)
 subst D
 refine aE (lI R (lO (lq R R) (lI R (aC ?_))))
 obtain rfl:=so g
 exact qA ((ao,b.length,ah),(aj,a0.length,b1)) (fun w s=>s)
 refine bM R a3 (iQ (eR ?_))
 obtain rfl:=so g
 obtain rfl:=b6 _ R
 have g:=b4
 refine eR (gW ?_)
 exact qI (a1,(ai,a1.length,az)) g (fun w s=>(s.e 2 [1]))
 rintro ⟨Y,⟨aw,al,an⟩⟩ σ1 g
 replace g:Z7_J7 Y=some r:=g
 unfold Z7_J7 at g
 refine bI 0 aB (fun (D:al=Y.length)=>?_)
 subst D
 refine aN (aE (lS R (lS R (aC (aI (bV ?_))))))
 obtain rfl:=so g
 exact qF (aw,Y.length,an) (fun w s=>(s.e 3 [0]))
theorem Zw_ok  {j:(List Int)}{l:Int}{b:Int}{g:Int}{i:Int}{r:(List Int)×(List pair)×Bool}(m:Zw j l b g i=some r) :
 FnOk Tryz.prog 128 [(.slice A2 N2 D2),(iv l),(iv b),(iv g),(iv i)] [aO kT3 (.slice A2 N2 D2) j] (fun (h:HH×HH)=>((.tuple [(s3 h.1),(s3 h.2),(.bool r.2.2)].toArray),[ow kT3 3 (s3 h.1) r.1,ow kT161 161 (s3 h.2) r.2.1])):=by
 unfold Zw at m
 refine aQ Tryz.func128 R 84 R R fun C V=>?_
 refine cL 0 aA ?_
 rintro rfl
 let M:=RR kT3 A2 D2 j::V
 refine cN M ?_
 refine cP ?_
 obtain ⟨r7,am,m⟩:=bd m
 refine aP ?_
 refine lM _ (fun w s=>(s.d 0 R)) ?_
 refine lC 1 gL R (Zk_ok am) R ?_
 rintro _
 refine lN M ?_
 refine aP ?_
 split at m
 refine cT ?_
 cases m
 exact hU ((none,0,0),(none,0,0)) (fun w s=>(((s.nilo kT3 3).nilo kT161 161).e 3 [1,0]))
 refine bG ?_
 refine bB (A:=(Unit)×(Unit)) (fun a=>Zw_J1 j l b g i=some r) (fun a=>[(0,(sc A2 j D2)),(1,(iv l)),(2,(iv b)),(3,(iv g)),(4,(iv i))]) (fun a=>M) ?_ ?_
 refine b' ?_
 refine bK (K:=kT3) (xs:=([b,g,i]:List Int)) (vs:=[(iv b),(iv g),(iv i)]) 0 R R bL cE gZ R R R R R R ?_ R (fun A10 D10=>?_)
 exact fun I h s=>(gJ).list [((),b),((),g),((),i)] I h s
 refine b' ?_
 obtain ⟨e1,ai,a3⟩:=bd m
 refine bC (A:=HH) ai (fun s a=>[(0,(sc A2 j D2)),(1,(iv l)),(2,(iv b)),(3,(iv g)),(4,(iv i)),(27,(s3 a)),(28,(il ([b,g,i]:List Int))),(29,(iv s))]) (fun s a=>ow kT3 3 (s3 a) ([b,g,i]:List Int)::M) (A10,([b,g,i]:List Int).length,D10) (aS R) tI ?_
 rintro J ⟨ay,ab,Y⟩ σ1 ar m a7
 dsimp only [Zw_L1] at m
 refine bI 0 aB (fun (hn:ab=([b,g,i]:List Int).length)=>?_)
 subst hn
 refine bS ?_
 split at m
 refine bS ?_
 obtain ⟨a8,m⟩:=gd m
 refine aE (bD 0 aB (show 0<([b,g,i]:List Int).length by have:=a8; omega) (fun T o22 ha=>?_))
 subst ha
 refine bS ?_
 refine cQ [(0,(sc A2 j D2)),(1,(iv l)),(2,(iv b)),(3,(iv g)),(4,(iv i)),(27,(sc (ad T o22) ([b,g,i]:List Int) Y)),(28,(il ([b,g,i]:List Int))),(29,(iv J)),(38,(.bool ((decide ((ix ([b,g,i]:List Int) J)<0))||(decide ((ix ([b,g,i]:List Int) J)>4096)))))] (OO kT3 3 (ad T o22) Y ([b,g,i]:List Int)::M) ?_ ?_
 refine bG ?_
 rcases bo (decide ((ix ([b,g,i]:List Int) J)<0)) with a0 | a0
 refine bG ?_
 exact qj tI
 refine bG ?_
 exact qj tI
 rintro σ1
 refine bR ?_
 split at m
 refine iu ?_
 cases m
 obtain rfl:=a7 _ R
 have m:=a3
 refine aP ?_
 cases m
 exact hU ((none,0,0),(none,0,0)) (fun w s=>(((s.nilo kT3 3).nilo kT161 161).e 4 [1,0]))
 refine cV ?_
 cases m
 exact qA ((ad T o22),([b,g,i]:List Int).length,Y) tI
 refine aP ?_
 cases m
 obtain rfl:=a7 _ R
 have m:=a3
 refine aU ?_
 exact qI ((),()) m (tE 1 [])
 rintro ⟨_,_⟩ σ1 m
 dsimp only [Zw_J1] at m
 refine bR ?_
 obtain ⟨a4,m⟩:=gd m
 refine aP ?_
 refine bD 0 aA (show 0<j.length by have:=a4; omega) (fun L o29 ha=>?_)
 subst ha
 refine u9 ?_
 obtain ⟨E,a1,m⟩:=bd m
 refine bG ?_
 refine lM _ (fun w s=>(s.d 0 R)) ?_
 refine lC 1 p' R (Z1l_ok a1) R ?_
 rintro ⟨G,az,F⟩
 refine aL 0 aB ?_
 rintro rfl
 refine b' ?_
 obtain ⟨ax,a6,m⟩:=bd m
 refine aU ?_
 refine lC 1 j2 R (FnOk.lends (A':=[OO kT3 3 G F E]) (A:=[RR kT3 G F E]) (B:=[]) (Zb_ok a6) ⟨aY,trivial⟩ (fun _=>trivial)) R ?_
 rintro _
 refine aP ?_
 split at m
 refine cT ?_
 cases m
 exact hU ((none,0,0),(none,0,0)) (fun w s=>(((s.nilo kT3 3).nilo kT161 161).e 4 [1,0]))
 refine b' ?_
 refine bK (K:=kT161) (xs:=([]:List pair)) (vs:=[]) 0 R R fA fB eL R R R R R R ?_ R (fun ao aq=>?_)
 exact fun I h s=>(j1).list [] I h s
 refine bG ?_
 refine bB (A:=((List pair))×(HH)) (fun a=>Zw_J2 j l b g i E a.1=some r) (fun a=>[(0,(sc (ad L o29) j D2)),(1,(iv l)),(16,(iv (aH ((aH ((aH (b+(ix j l)))+(aH ((aH ((ix j l) - 1))*i))))+g)))),(17,(sc G E F)),(18,(s3 a.2))]) (fun a=>OO kT3 3 G F E::ow kT161 161 (s3 a.2) a.1::M) ?_ ?_
 refine bS ?_
 obtain ⟨e2,an,ak⟩:=bd m
 refine bC (A:=HH) an (fun s a=>[(0,(sc (ad L o29) j D2)),(1,(iv l)),(2,(iv b)),(4,(iv i)),(15,(iv (ix j l))),(16,(iv (aH ((aH ((aH (b+(ix j l)))+(aH ((aH ((ix j l) - 1))*i))))+g)))),(17,(sc G E F)),(18,(s3 a)),(19,(iv s.2))]) (fun s a=>OO kT3 3 G F E::ow kT161 161 (s3 a) s.1::M) (ao,([]:List pair).length,aq) (aS R) (tE 2 [1,0]) ?_
 rintro ⟨q,u⟩ ⟨ac,aa,ag⟩ σ1 au m aj
 dsimp only [Zw_L2] at m
 refine bI 1 aB (fun (hn:aa=q.length)=>?_)
 subst hn
 refine cV ?_
 split at m
 refine b' ?_
 obtain ⟨a9,m⟩:=gd m
 refine cP ?_
 refine lO (vz (.agg [(iv u),(iv (aH (b+(aH (u*(aH (i+1)))))))].toArray) (aV my eL R R)) (bK (K:=kT161) (xs:=([(⟨u,(aH (b+(aH (u*(aH (i+1))))))⟩:pair)]:List pair)) (vs:=[(.agg [(iv u),(iv (aH (b+(aH (u*(aH (i+1)))))))].toArray)]) 0 R R fA fB eL R R R R R R ?_ R (fun aw av=>?_))
 exact fun I h s=>(j1).list [(((),()),(⟨u,(aH (b+(aH (u*(aH (i+1))))))⟩:pair))] I h s
 refine lM _ (tE 3 [2,0,1]) ?_
 refine eF (K:=kT161) 8796093022208 R R fA fB lx (Zr.zk zT161 eL) R R R R R R dO a9 (fun Z a2=>(lN (OO kT161 161 Z a2 (q++([(⟨u,(aH (b+(aH (u*(aH (i+1))))))⟩:pair)]:List pair))::_::M) ?_))
 refine cP ?_
 cases m
 exact qA (Z,(q++([(⟨u,(aH (b+(aH (u*(aH (i+1))))))⟩:pair)]:List pair)).length,a2) (tE 2 [1,0])
 refine aP ?_
 cases m
 obtain rfl:=aj _ R
 have m:=ak
 refine aU ?_
 exact qI (q,(ac,q.length,ag)) m tI
 rintro ⟨D,⟨O,ah,U⟩⟩ σ1 m
 dsimp only [Zw_J2] at m
 refine bI 1 aB (fun (hn:ah=D.length)=>?_)
 subst hn
 refine bR ?_
 obtain ⟨ap,a5,m⟩:=bd m
 refine bS ?_
 refine lM _ (fun w s=>((s.d 2 R).e 3 [2,0,1])) ?_
 refine lC 2 sy R (FnOk.lends (A':=[OO kT161 161 O U D]) (A:=[RR kT161 O U D]) (B:=[RR kT3 (ad L o29) D2 j]) (FnOk.perm (Z7_ok a5) (Pre':=[RR kT161 O U D,RR kT3 (ad L o29) D2 j]) (fun _ _ _ s=>(s.e 2 [1,0]))) ⟨aY,trivial⟩ (fun _=>⟨(bH s9),trivial⟩)) R ?_
 rintro ⟨al,b0,ae⟩
 refine aL 1 aB ?_
 rintro rfl
 refine bS ?_
 cases m
 exact hU ((G,E.length,F),(al,ap.length,ae)) (tE 4 [2,1])
theorem Z1y_ok  {p1:(List Int)}{a:(List Int)}{r:(List Int)×(List pair)×Bool}(b:Z1y p1 a=some r) :
 FnOk Tryz.prog 127 [(.slice A2 N2 D2),(.slice A4 N4 D4)] [aO kT3 (.slice A2 N2 D2) p1,aO kT3 (.slice A4 N4 D4) a] (fun (h:HH×HH)=>((.tuple [(s3 h.1),(s3 h.2),(.bool r.2.2)].toArray),[ow kT3 3 (s3 h.1) r.1,ow kT161 161 (s3 h.2) r.2.1])):=by
 unfold Z1y at b
 refine aQ Tryz.func127 R 24 R R fun C V=>?_
 refine cL 0 aA ?_
 rintro rfl
 refine cL 1 aA ?_
 rintro rfl
 let q:=RR kT3 A2 D2 p1::RR kT3 A4 D4 a::V
 refine cN q ?_
 refine cV ?_
 obtain ⟨j,b⟩:=gd b
 obtain ⟨_,b⟩:=gd b
 obtain ⟨_,b⟩:=gd b
 obtain ⟨_,b⟩:=gd b
 obtain ⟨g,e,b⟩:=bd b
 refine aZ 0 aA (show 0<p1.length by have:=j; omega) (fun B o7 m=>?_)
 subst m
 refine dC 20 [] bO fun E D=>?_
 refine mr 0 [] ?_
 refine d1 13 R (lM _ (fun w s=>(s.d 1 R)) ?_)
 refine lC 1 zt R (Zw_ok e) R ?_
 rintro ⟨⟨l,u,i⟩,⟨A14,N14,D14⟩⟩
 refine aL 0 aB ?_
 rintro rfl
 refine aL 1 aB ?_
 rintro rfl
 refine aC (aG (sL [1,0]) ?_)
 refine r' 14 [1,0] ?_
 refine dD ?_
 refine aU ?_
 cases b
 exact hU ((l,g.1.length,i),(A14,g.2.1.length,D14)) (tE 4 [0,1])
theorem Z2o_ok  {a:Node}{b:(List Int)}{l:Int}{i:Int}{E:Nat}{j:Nat}{g:Nat}{r:(List Int)×(List pair)×Bool}(m:Z2o a b l i=some r) :
 FnOk Tryz.prog 149 [(.agg [(iv a.Op),(.slice A2 N2 D2),(.slice A3 N3 D3),(.slice A4 N4 D4),(aD a.Form),(.slice A5 N5 D5)].toArray),(.slice A7 N7 D7),(pt E 0),(pt j 0),(pt g 0)] [aO kT3 (.slice A2 N2 D2) a.Args,aO kT3 (.slice A3 N3 D3) a.Dims,aO kT3 (.slice A4 N4 D4) a.Ints,aO kT3 (.slice A5 N5 D5) a.Data,aO kT3 (.slice A7 N7 D7) b,aJ E [(iv l)] 3,aJ j [(iv i)] 3,aJ g [(.func (.func 127) [].toArray [].toArray)] 150] (fun (h:HH×HH)=>((.tuple [(s3 h.1),(s3 h.2),(.bool r.2.2)].toArray),[ow kT3 3 (s3 h.1) r.1,ow kT161 161 (s3 h.2) r.2.1,aJ E [(iv l)] 3,aJ j [(iv i)] 3,aJ g [(.func (.func 127) [].toArray [].toArray)] 150])):=by
 unfold Z2o at m
 refine aQ Tryz.func149 R 30 R R fun C V=>?_
 refine cM _ (fun w s=>(s.f 8 [5,3,0,5])) ?_
 refine cL 3 aA ?_
 rintro rfl
 refine cL 4 aA ?_
 rintro rfl
 refine cL 5 aA ?_
 rintro rfl
 refine cL 6 aA ?_
 rintro rfl
 refine cL 7 aA ?_
 rintro rfl
 let O:=RR kT3 A2 D2 a.Args::RR kT3 A3 D3 a.Dims::RR kT3 A4 D4 a.Ints::RR kT3 A5 D5 a.Data::RR kT3 A7 D7 b::V
 refine aU ?_
 refine eG R fun D=>?_
 refine bG ?_
 let L:=aJ D [(iv a.Op),(sc A2 a.Args D2),(sc A3 a.Dims D3),(sc A4 a.Ints D4),(aD a.Form),(sc A5 a.Data D5)] 54::aJ E [(iv l)] 3::aJ j [(iv i)] 3::aJ g [(.func (.func 127) [].toArray [].toArray)] 150::O
 refine qN L ?_
 refine aP ?_
 refine cQ [(1,(sc A7 b D7)),(4,(pt g 0)),(5,(pt D 0)),(21,(.bool ((decide ((a.Ints.length:Int)<l))||(decide ((a.Ints.length:Int)>i)))))] (L) ?_ ?_
 refine dH ?_
 rcases bo (decide ((a.Ints.length:Int)<l)) with q | q
 refine dH ?_
 exact qj tI
 refine dH ?_
 exact qj tI
 rintro σ1
 refine bR ?_
 split at m
 refine cT ?_
 cases m
 exact hU ((none,0,0),(none,0,0)) (fun w s=>(((s.nilo kT3 3).nilo kT161 161).e 11 [1,0,3,4,5]))
 refine bG ?_
 obtain ⟨u,B,m⟩:=bd m
 refine b' ?_
 refine lM _ (fun w s=>(((s.d 6 R).d 9 R).e 2 [1,0])) ?_
 refine cB (fs:=[]) (cs:=[]) 2 R R zu R R (Z1y_ok B) R ?_
 rintro ⟨⟨J,M,I⟩,⟨G,T,F⟩⟩
 refine aL 0 aB ?_
 rintro rfl
 refine aL 1 aB ?_
 rintro rfl
 refine cP ?_
 cases m
 exact hU ((J,u.1.length,I),(G,u.2.1.length,F)) (fun w s=>(s.f 11 [0,2,3,3]))
end Go.Proofs.YtmpnollfdpdipaaGreat
