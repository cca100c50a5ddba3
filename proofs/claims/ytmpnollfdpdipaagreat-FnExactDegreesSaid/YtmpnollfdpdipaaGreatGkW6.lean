import Derived.Test.YtmpnollfdpdipaaGreatGkF
import Derived.Test.YtmpnollfdpdipaaGreatGkW1
import Derived.Test.YtmpnollfdpdipaaGreatGkW5
set_option linter.unusedVariables false
set_option maxRecDepth 20000
namespace Go.Proofs.YtmpnollfdpdipaaGreat
open Go Go.Pg
variable {A2 A3 A4 A5 A6 A7 A8 A9 A10 A11:Option Addr}{D2 D3 D4 D5 D6 D7 D8 D9 D10 D11 N2 N3 N4 N5 N6 N7 N8 N9 N10 N11:Nat}
theorem Z08_ok  {p1:View}{j:(List Int)}{B:View}{D:Nat}{Y:Nat}{O:Nat}{r:Bool×View}(b:Z08 p1 j B=some r) :
 FnOk Tryz.prog 166 [(pt D 0),(pt Y 0),(pt O 0)] [aN kT3 (.slice A3 N3 D3) p1.Dims,aN kT3 (.slice A4 N4 D4) p1.Strides,aJ D [(.slice A3 N3 D3),(.slice A4 N4 D4),(iv p1.Offset),(iv p1.Base)] 96,aN kT3 (.slice A7 N7 D7) j,aJ Y [(.slice A7 N7 D7)] 23,aN kT3 (.slice A10 N10 D10) B.Dims,aN kT3 (.slice A11 N11 D11) B.Strides,aJ O [(.slice A10 N10 D10),(.slice A11 N11 D11),(iv B.Offset),(iv B.Base)] 96] (fun (h:HH×HH)=>((.bool r.1),[aN kT3 (s3 h.1) r.2.Dims,aN kT3 (s3 h.2) r.2.Strides,aJ D [(s3 h.1),(s3 h.2),(iv r.2.Offset),(iv r.2.Base)] 96,aJ Y [(.slice A7 N7 D7)] 23,aJ O [(.slice A10 N10 D10),(.slice A11 N11 D11),(iv B.Offset),(iv B.Base)] 96])):=by
 unfold Z08 at b
 refine aQ Tryz.func166 R 71 R R fun C V=>?_
 refine cM (aJ _ _ _::aJ _ _ _::aJ _ _ _::aN _ _ _::aN _ _ _::aN _ _ _::aN _ _ _::aN _ _ _::V) (tE 8 [2,4,7,0,1,3,5,6]) ?_
 refine cL 3 aA ?_
 rintro rfl
 refine cL 4 aA ?_
 rintro rfl
 refine cL 5 aA ?_
 rintro rfl
 refine cL 6 aA ?_
 rintro rfl
 refine cL 7 aA ?_
 rintro rfl
 let W0:=RR kT3 A3 D3 p1.Dims::RR kT3 A4 D4 p1.Strides::RR kT3 A7 D7 j::RR kT3 A10 D10 B.Dims::RR kT3 A11 D11 B.Strides::V
 refine bG ?_
 let L:=aJ Y [(sc A7 j D7)] 23::aJ O [(sc A10 B.Dims D10),(sc A11 B.Strides D11),(iv B.Offset),(iv B.Base)] 96::W0
 refine aP ?_
 obtain ⟨a3,a4,b⟩:=bd b
 refine cQ [(0,(pt D 0)),(1,(pt Y 0)),(2,(pt O 0)),(17,(.bool ((!a3)||(decide ((j.length:Int)<(B.Dims.length:Int))))))] (aJ D [(sc A3 p1.Dims D3),(sc A4 p1.Strides D4),(iv p1.Offset),(iv p1.Base)] 96::L) ?_ ?_
 refine aU ?_
 refine lM (RR kT3 A7 D7 j::_::L) (fun w s=>(s.d 5 R)) ?_
 refine lC 1 i' R (Zd_ok a4) R ?_
 rintro _
 refine aU ?_
 rcases bo (!a3) with a6 | a6
 refine cV ?_
 exact qj tI
 refine cV ?_
 exact qj tI
 rintro σ1
 refine bU ?_
 split at b
 refine cV ?_
 cases b
 exact qF ((A3,p1.Dims.length,D3),(A4,p1.Strides.length,D4)) (fun w s=>(s.f 8 [3,2,0,3]))
 refine bG ?_
 obtain ⟨i,a1,b⟩:=bd b
 refine aP ?_
 refine lM (RR kT3 A7 D7 j::_::L) (fun w s=>(s.d 5 R)) ?_
 refine lC 1 jk R (Zp_ok a1) R ?_
 rintro ⟨l,ai,q⟩
 refine aL 0 aB ?_
 rintro rfl
 refine aU ?_
 refine cK 1 R R fK R R R R R (lN (_::aJ D [(sc l i q),(sc A4 p1.Strides D4),(iv p1.Offset),(iv p1.Base)] 96::L) ?_)
 refine aP ?_
 obtain ⟨E,b⟩:=gd b
 refine bG ?_
 refine fI (K:=kT3) (m:=(j.length:Int)) (z:=(0:Int)) R R bI cB jZ (Zr.zk zT3 f') (by decide) R R E.1 E.2.1 E.2.2 (fun u g=>(lP R (lO (fP 1 gA R) (cK 2 R R fK R R R R R (lN (OO kT3 3 u g (List.replicate (j.length:Int).toNat (0:Int))::_::aJ D [(sc l i q),(sc u (List.replicate (j.length:Int).toNat (0:Int)) g),(iv p1.Offset),(iv p1.Base)] 96::L) ?_)))))
 refine aP ?_
 refine aZ (A:=((List Int))×(Unit)) (fun a=>Z08_J3 p1 i a.1=some r) (fun a=>[]) (fun a=>aJ D [(sc l i q),(sc u (List.replicate (j.length:Int).toNat (0:Int)) g),(iv p1.Offset),(iv p1.Base)] 96::OO kT3 3 l q i::ow kT3 3 (.slice u (List.replicate (j.length:Int).toNat (0:Int)).length g) a.1::L) ?_ ?_
 refine cU ?_
 obtain ⟨e1,aa,a5⟩:=bd b
 refine bD (A:=Unit) aa (fun s a=>[(0,(pt D 0)),(1,(pt Y 0)),(2,(pt O 0)),(31,(il B.Dims)),(32,(iv s.2))]) (fun s a=>aJ D [(sc l i q),(sc u (List.replicate (j.length:Int).toNat (0:Int)) g),(iv p1.Offset),(iv p1.Base)] 96::OO kT3 3 l q i::ow kT3 3 (.slice u (List.replicate (j.length:Int).toNat (0:Int)).length g) s.1::L) () (aS R) (tE 3 [2,1,0]) ?_
 rintro ⟨U,J⟩ _ σ1 a8 b a2
 dsimp only [Z08_L1] at b
 refine bT ?_
 split at b
 refine bG ?_
 refine aZ (A:=((List Int))×(Unit)) (fun a=>Z08_J2 J a.1=some a8) (fun a=>[(0,(pt D 0)),(1,(pt Y 0)),(2,(pt O 0)),(31,(il B.Dims)),(32,(iv J))]) (fun a=>aJ D [(sc l i q),(sc u (List.replicate (j.length:Int).toNat (0:Int)) g),(iv p1.Offset),(iv p1.Base)] 96::OO kT3 3 l q i::ow kT3 3 (.slice u (List.replicate (j.length:Int).toNat (0:Int)).length g) a.1::L) ?_ ?_
 refine uf ?_
 obtain ⟨a0,b⟩:=gd b
 obtain ⟨a7,b⟩:=gd b
 refine bB 8 aA (show 0<B.Dims.length by have:=a0; omega) (fun ac o44 T=>?_)
 subst T
 refine bB 7 aA (show 0<j.length by have:=a7; omega) (fun ag o47 T=>?_)
 subst T
 refine dF 10 [] bP fun ht hn=>?_
 refine qV 0 [] ?_
 refine dD (aI ?_)
 split at b
 refine bU ?_
 obtain ⟨Z,b⟩:=gd b
 obtain ⟨G,b⟩:=gd b
 refine bB 9 aA (show 0<B.Strides.length by have:=Z; omega) (fun ab o51 T=>?_)
 subst T
 refine bB 2 aB (show 0<(List.replicate (j.length:Int).toNat (0:Int)).length by have:=G; omega) (fun M o54 T=>?_)
 subst T
 refine dF 12 [2] bP fun ht hn=>?_
 refine pc 0 [2] ?_
 refine d1 11 R (lM (ow kT3 3 (.slice (ad M o54) (List.replicate (j.length:Int).toNat (0:Int)).length g) U::aJ D [(sc l i q),(sc (ad M o54) (List.replicate (j.length:Int).toNat (0:Int)) g),(iv p1.Offset),(iv p1.Base)] 96::ow _ _ _ _::L) (tE 3 [2,0,1]) ?_)
 refine eA (K:=kT3) (x':=(ix B.Strides J)) 0 (aH ((aH ((j.length:Int) - (B.Dims.length:Int)))+J)) R R cB R R G.1 G.2 ?_ ?_
 exact fun I h s=>(fZ).put I h () (ix B.Strides J) s
 refine aC (aG (sL [0]) (dD ?_))
 obtain ⟨a9,F,b⟩:=bd b
 replace F:=Option.some.inj F
 refine qM (ow kT3 3 (.slice (ad M o54) (List.replicate (j.length:Int).toNat (0:Int)).length g) a9::_::_::L) (fun w s=>by rw [← F]; exact s) ?_
 refine bU ?_
 exact qI (a9,()) b (tE 3 [1,2,0])
 refine hN ?_
 split at b
 refine cU ?_
 cases b
 obtain rfl:=a2 _ R
 have b:=a5
 refine aP ?_
 cases b
 exact qF ((l,i.length,q),(u,(List.replicate (j.length:Int).toNat (0:Int)).length,g)) (fun w s=>(((s.shr 1 R).shr 2 R).e 10 [1,0,2,3,4]))
 refine aP ?_
 exact qI (U,()) b tI
 rintro ⟨ae,_⟩ σ1 b
 dsimp only [Z08_J2] at b
 refine bG ?_
 cases b
 exact qA () tI
 refine aP ?_
 cases b
 obtain rfl:=a2 _ R
 have b:=a5
 refine aU ?_
 exact cS (U,()) b trivial tI
 rintro ⟨ah,_⟩ σ1 b
 dsimp only [Z08_J3] at b
 refine bT ?_
 cases b
 exact qF ((l,i.length,q),(u,(List.replicate (j.length:Int).toNat (0:Int)).length,g)) (fun w s=>(((s.shr 1 R).shr 2 R).e 10 [1,0,2,3,4]))
theorem Z38_ok  {v1:View}{q5:(List Int)}{D:View}{b6:Nat}{b9:Nat}{r:View}(B:Z38 v1 q5 D=some r) :
 FnOk Tryz.prog 165 [(.agg [(.slice A2 N2 D2),(.slice A3 N3 D3),(iv v1.Offset),(iv v1.Base)].toArray),(.func (.func 166) [].toArray [(pt b6 0),(pt b9 0)].toArray)] [aN kT3 (.slice A2 N2 D2) v1.Dims,aN kT3 (.slice A3 N3 D3) v1.Strides,aN kT3 (.slice A7 N7 D7) q5,aJ b6 [(.slice A7 N7 D7)] 23,aN kT3 (.slice A10 N10 D10) D.Dims,aN kT3 (.slice A11 N11 D11) D.Strides,aJ b9 [(.slice A10 N10 D10),(.slice A11 N11 D11),(iv D.Offset),(iv D.Base)] 96] (fun (h:HH×HH)=>((.agg [(s3 h.1),(s3 h.2),(iv r.Offset),(iv r.Base)].toArray),[aN kT3 (s3 h.1) r.Dims,aN kT3 (s3 h.2) r.Strides,aJ b6 [(.slice A7 N7 D7)] 23,aJ b9 [(.slice A10 N10 D10),(.slice A11 N11 D11),(iv D.Offset),(iv D.Base)] 96])):=by
 unfold Z38 at B
 refine aQ Tryz.func165 R 31 R R fun C V=>?_
 refine cM _ (tE 7 [3,6,0,1,2,4,5]) ?_
 refine cL 2 aA ?_
 rintro rfl
 refine cL 3 aA ?_
 rintro rfl
 refine cL 4 aA ?_
 rintro rfl
 refine cL 5 aA ?_
 rintro rfl
 refine cL 6 aA ?_
 rintro rfl
 let W0:=RR kT3 A2 D2 v1.Dims::RR kT3 A3 D3 v1.Strides::RR kT3 A7 D7 q5::RR kT3 A10 D10 D.Dims::RR kT3 A11 D11 D.Strides::V
 refine aU ?_
 refine eF R fun ac=>?_
 refine bF R R cY (fun F=>(aC (qM _ (tE 4 [0,2,3,1]) ?_)))
 let W1:=aJ ac [(sc A2 v1.Dims D2),(sc A3 v1.Strides D3),(iv v1.Offset),(iv v1.Base)] 96::W0
 refine aP ?_
 obtain ⟨ai,a4,B⟩:=bd B
 refine aU ?_
 refine lM _ (fun w s=>(((s.d 4 R).d 6 R).e 5 [1,0,2,3,4])) ?_
 refine lC 2 ms R (Zh_ok a4) R ?_
 rintro _
 refine aP ?_
 split at B
 refine aP ?_
 refine lO (vz (.agg [(.slice none 0 0),(.slice none 0 0),(iv 0),(iv 0)].toArray) (aX fD cY R R)) (aK 0 R R cG R R R R R R (aC (aI (bY (cF ?_)))))
 cases B
 exact qS ((none,0,0),(none,0,0)) (fun w s=>(((s.nilr kT3).nilr kT3).e 11 [1,0,3,4]))
 refine bG ?_
 obtain ⟨i,T,B⟩:=bd B
 obtain ⟨g,G,B⟩:=bd B
 refine iQ (A:=(Unit)×(Nat×HH×HH)) (fun _=>True) (fun a=>[(1,(.func (.func 166) [].toArray [(pt b6 0),(pt b9 0)].toArray)),(4,(pt F 0)),(5,(pt a.2.1 0))]) (fun a=>aJ b6 [(sc A7 q5 D7)] 23::aJ b9 [(sc A10 D.Dims D10),(sc A11 D.Strides D11),(iv D.Offset),(iv D.Base)] 96::aJ F [(.slice none 0 0),(.slice none 0 0),(iv 0),(iv 0)] 96::aJ a.2.1 [(s3 a.2.2.1),(s3 a.2.2.2),(iv v1.Offset),(iv v1.Base)] 96::ow kT3 3 (s3 a.2.2.1) i::ow kT3 3 (s3 a.2.2.2) g::W1) ?_ ?_
 refine dF 13 [] bP fun ht O=>?_
 refine gR 0 [] ?_
 refine gR 3 [] ?_
 refine oq 6 [] ?_
 refine hT [2,11] (by kernel_rfl) R ⟨?_,?_,trivial⟩
 refine lM _ (fun w s=>(s.d 4 R)) ?_
 refine lC 1 jk R (Zp_ok T) R ?_
 rintro ⟨m,ae,q⟩
 refine aL 0 aB ?_
 rintro rfl
 refine aC (aG (sL [0]) (hT [5,11] (by kernel_rfl) R ⟨?_,?_,trivial⟩))
 refine lM _ (fun w s=>(s.d 6 R)) ?_
 refine lC 1 jk R (Zp_ok G) R ?_
 rintro ⟨l,a3,j⟩
 refine aL 0 aB ?_
 rintro rfl
 refine aC (aG (sL [1,0]) (dR 10 R (vz (.agg [(sc m i q),(sc l g j),(iv v1.Offset),(iv v1.Base)].toArray) (aX fD cY R R)) (hS:=(sL [1,0])) (d1 11 R (bF R R cY (fun E=>(aC (aG (sL [2,1,0]) (d1 12 R (aK 0 R R cG R R R R R R (lN (aJ E [(sc m i q),(sc l g j),(iv v1.Offset),(iv v1.Base)] 96::_::_::_::_::_::W1) ?_))))))))))
 refine aC (aG (sL [2,1,0]) (dD ?_))
 exact cS ((),(E,(m,i.length,q),(l,g.length,j))) trivial (aS R) (tE 6 [4,5,3,0,2,1])
 refine bF R R cY (fun E=>(aC (aG (sL [1,0]) (d1 5 R (lM _ (fun w s=>(s.d 7 R)) ?_)))))
 refine lC 1 jk R (Zp_ok G) R ?_
 rintro ⟨l,a3,j⟩
 refine aL 0 aB ?_
 rintro rfl
 refine aC (aG (sL [2,1,0]) (dR 10 R (vz (.agg [(sc m i q),(sc l g j),(iv v1.Offset),(iv v1.Base)].toArray) (aX fD cY R R)) (hS:=(sL [2,1,0])) (d1 12 R (aK 1 R R cG R R R R R R (lN (_::aJ E [(sc m i q),(sc l g j),(iv v1.Offset),(iv v1.Base)] 96::_::_::_::_::W1) ?_)))))
 refine aC (aG (sL [2,1,0]) (dD ?_))
 exact cS ((),(E,(m,i.length,q),(l,g.length,j))) trivial (aS R) (tE 6 [4,5,3,1,2,0])
 refine bF R R cY (fun E=>(aC (aG (sL [0]) (d1 2 R (lM _ (fun w s=>(s.d 5 R)) ?_)))))
 refine lC 1 jk R (Zp_ok T) R ?_
 rintro ⟨m,ae,q⟩
 refine aL 0 aB ?_
 rintro rfl
 refine aC (aG (sL [1,0]) (d1 5 R (lM _ (fun w s=>(s.d 7 R)) ?_)))
 refine lC 1 jk R (Zp_ok G) R ?_
 rintro ⟨l,a3,j⟩
 refine aL 0 aB ?_
 rintro rfl
 refine aC (aG (sL [2,1,0]) (dR 10 R (vz (.agg [(sc m i q),(sc l g j),(iv v1.Offset),(iv v1.Base)].toArray) (aX fD cY R R)) (hS:=(sL [2,1,0])) (d1 12 R (aK 2 R R cG R R R R R R (lN (_::_::aJ E [(sc m i q),(sc l g j),(iv v1.Offset),(iv v1.Base)] 96::_::_::_::W1) ?_)))))
 refine aC (aG (sL [2,1,0]) (dD ?_))
 exact cS ((),(E,(m,i.length,q),(l,g.length,j))) trivial (aS R) (tE 6 [4,5,3,2,1,0])
 rintro ⟨_,⟨Z,⟨am,aa,ah⟩,⟨ag,a9,aj⟩⟩⟩ σ1 -
 refine hU 4 aB (fun (O:aa=i.length)=>?_)
 subst O
 refine hU 5 aB (fun (O:a9=g.length)=>?_)
 subst O
 refine aP ?_
 obtain ⟨b,a5,B⟩:=bd B
 obtain ⟨a7,a6,B⟩:=bd B
 refine iQ (A:=(Unit)×(HH×HH)) (fun _=>True) (fun a=>[(4,(pt F 0)),(5,(pt Z 0)),(28,(.bool ((!b.1)||(!a7))))]) (fun a=>aJ F [(.slice none 0 0),(.slice none 0 0),(iv 0),(iv 0)] 96::aJ Z [(s3 a.2.1),(s3 a.2.2),(iv b.2.Offset),(iv b.2.Base)] 96::aN kT3 (s3 a.2.1) b.2.Dims::aN kT3 (s3 a.2.2) b.2.Strides::aJ b6 [(sc A7 q5 D7)] 23::aJ b9 [(sc A10 D.Dims D10),(sc A11 D.Strides D11),(iv D.Offset),(iv D.Base)] 96::W1) ?_ ?_
 refine aE (lO (vp _ R) (iP (fun w s=>s.shr 4 R) (iP (fun w s=>s.shr 5 R) (lM _ (fun w s=>((((((s.d 1 R).d 1 R).d 11 R).d 13 R).d 15 R).e 11 [4,3,10,2,7,1,0,8,5,6,9])) ?_))))
 refine cE (fs:=[]) (cs:=[(pt b6 0),(pt b9 0)]) 8 R R zl R R (Z08_ok (p1:=(⟨i,g,v1.Offset,v1.Base⟩:View)) a5) R ?_
 rintro ⟨⟨a1,al,Y⟩,⟨a2,ak,a0⟩⟩
 refine aL 0 aA ?_
 rintro rfl
 refine aL 1 aA ?_
 rintro rfl
 refine aU ?_
 rcases bo (!b.1) with u | u
 refine aP ?_
 refine lO (fC (!a7) R u) (aC ?_)
 exact cS ((),((a1,b.2.Dims.length,Y),(a2,b.2.Strides.length,a0))) trivial (aS R) (tE 8 [7,2,0,1,3,4])
 refine lW (cA u) (vz (.agg [(sc a1 b.2.Dims Y),(sc a2 b.2.Strides a0),(iv b.2.Offset),(iv b.2.Base)].toArray) (dT 2 gI cG R R R R)) (lM _ (fun w s=>(((s.d 0 R).d 2 R).f 10 [1,1,0,1,2,8])) ?_)
 refine bX 2 R (cA u) ms R (Zh_ok (bN a6 (cT u))) R ?_
 rintro _
 refine bU ?_
 refine lO (fU R u R) (aC ?_)
 exact cS ((),((a1,b.2.Dims.length,Y),(a2,b.2.Strides.length,a0))) trivial (aS R) (tE 8 [7,2,0,1,3,4])
 rintro ⟨_,⟨⟨L,ab,J⟩,⟨M,a8,I⟩⟩⟩ σ1 -
 refine hU 2 aA (fun (O:ab=b.2.Dims.length)=>?_)
 subst O
 refine hU 3 aA (fun (O:a8=b.2.Strides.length)=>?_)
 subst O
 refine bU ?_
 rcases cO B with ⟨U,B⟩|⟨U,B⟩
 refine aP ?_
 refine lO (vz (.agg [(.slice none 0 0),(.slice none 0 0),(iv 0),(iv 0)].toArray) (aX fD cY R R)) (aK 0 R R cG R R R R R R (lN (_::aJ Z [(sc L b.2.Dims J),(sc M b.2.Strides I),(iv b.2.Offset),(iv b.2.Base)] 96::RR kT3 L J b.2.Dims::RR kT3 M I b.2.Strides::_::_::W1) ?_))
 refine bG ?_
 cases B
 exact qS ((none,0,0),(none,0,0)) (fun w s=>(((s.nilr kT3).nilr kT3).e 14 [1,0,6,7]))
 refine bM R U ?_
 refine bZ ?_
 refine aK 0 R R cG R R R R R R (lN (aJ F [(sc L b.2.Dims J),(sc M b.2.Strides I),(iv b.2.Offset),(iv b.2.Base)] 96::_::_::_::_::_::W1) ?_)
 refine aP ?_
 cases B
 exact qS ((L,b.2.Dims.length,J),(M,b.2.Strides.length,I)) (fun w s=>(s.f 12 [2,4]))
theorem Z2f_ok  {v1:View}{a:(List Int)}{r:View}(j:Z2f v1 a=some r) :
 FnOk Tryz.prog 159 [(.agg [(.slice A2 N2 D2),(.slice A3 N3 D3),(iv v1.Offset),(iv v1.Base)].toArray),(.slice A5 N5 D5)] [aN kT3 (.slice A2 N2 D2) v1.Dims,aN kT3 (.slice A3 N3 D3) v1.Strides,aN kT3 (.slice A5 N5 D5) a] (fun (h:HH×HH)=>((.agg [(.slice h.1.1 h.1.2.1 h.1.2.2),(.slice h.2.1 h.2.2.1 h.2.2.2),(iv r.Offset),(iv r.Base)].toArray),[aN kT3 (.slice h.1.1 h.1.2.1 h.1.2.2) r.Dims,aN kT3 (.slice h.2.1 h.2.2.1 h.2.2.2) r.Strides])):=by
 unfold Z2f at j
 refine aQ Tryz.func159 R 8 R R fun C V=>?_
 refine cN (_::_::_::V) ?_
 refine cL 0 aA ?_
 rintro rfl
 refine cL 1 aA ?_
 rintro rfl
 refine cL 2 aA ?_
 rintro rfl
 let i:List HP:=RR kT3 A2 D2 v1.Dims::RR kT3 A3 D3 v1.Strides::RR kT3 A5 D5 a::V
 refine cN i ?_
 refine aO (aE (eF R (fun m=>(eZ (cs:=[(sc A5 a D5)]) R R R (fun q=>(bF R R cY (fun l=>(aC (aI (aO ?_))))))))))
 obtain ⟨b,g,j⟩:=bd j
 refine aE (lO (vz (.agg [(sc A2 v1.Dims D2),(sc A3 v1.Strides D3),(iv v1.Offset),(iv v1.Base)].toArray) (dT 2 gI cG R R R R)) (lO (vp (.func (.func 166) [].toArray [(pt q 0),(pt m 0)].toArray) R) (lM (RR kT3 A2 D2 v1.Dims::RR kT3 A3 D3 v1.Strides::RR kT3 A5 D5 a::aJ _ _ _::RR kT3 A2 D2 v1.Dims::RR kT3 A3 D3 v1.Strides::aJ _ _ _::aJ _ _ _::i) (fun w s=>((((((s.d 3 R).d 5 R).d 7 R).d 6 R).d 8 R).e 8 [4,3,2,6,1,0,7,5])) ?_)))
 refine lC 7 sB R (Z38_ok g) R ?_
 rintro ⟨⟨A11,N11,D11⟩,⟨A12,N12,D12⟩⟩
 refine lN (aN kT3 (.slice A11 N11 D11) b.Dims::aN kT3 (.slice A12 N12 D12) b.Strides::_::_::_::i) ?_
 refine aL 0 aA ?_
 rintro rfl
 refine aL 1 aA ?_
 rintro rfl
 refine aK 4 R R cG R R R R R R (lN (_::_::_::_::aJ l [(sc A11 b.Dims D11),(sc A12 b.Strides D12),(iv b.Offset),(iv b.Base)] 96::i) ?_)
 refine aC (aI (bY ?_))
 obtain rfl:=so j
 exact dI (vs:=[(.agg [(sc A11 b.Dims D11),(sc A12 b.Strides D12),(iv b.Offset),(iv b.Base)].toArray)]) (.inl R) ((A11,b.Dims.length,D11),(A12,b.Strides.length,D12)) R ⟨⟨4,l,_,_,R,R,.inl ⟨gI,cG,R⟩⟩,trivial⟩ R (fun w s=>(s.e 8 [0,1]))
theorem Z11_ok  {v1:View}{e:Int}{b:Int}{g:Int}{q:Nat}{r:View}(m:Z11 v1 e b g=some r) :
 FnOk Tryz.prog 168 [(pt q 0),(iv e),(iv b),(iv g)] [ow kT3 3 (.slice A3 N3 D3) v1.Dims,ow kT3 3 (.slice A4 N4 D4) v1.Strides,aJ q [(.slice A3 N3 D3),(.slice A4 N4 D4),(iv v1.Offset),(iv v1.Base)] 96] (fun (h:HH×HH)=>((.tuple [].toArray),[ow kT3 3 (s3 h.1) r.Dims,ow kT3 3 (s3 h.2) r.Strides,aJ q [(s3 h.1),(s3 h.2),(iv r.Offset),(iv r.Base)] 96])):=by
 unfold Z11 at m
 refine aQ Tryz.func168 R 24 R R fun C V=>?_
 refine cL 0 aB ?_
 rintro rfl
 refine cL 1 aB ?_
 rintro rfl
 refine aO (aZ (A:=(Int)×(Unit)) (fun a=>Z11_J3 v1 e b a.1=some r) (fun a=>[(0,(pt q 0)),(1,(iv e)),(2,(iv b)),(3,(iv a.1))]) (fun a=>aJ q [(sc A3 v1.Dims D3),(sc A4 v1.Strides D4),(iv v1.Offset),(iv v1.Base)] 96::OO kT3 3 A3 D3 v1.Dims::OO kT3 3 A4 D4 v1.Strides::V) ?_ ?_)
 refine bZ ?_
 let G:=aJ q [(sc A3 v1.Dims D3),(sc A4 v1.Strides D4),(iv v1.Offset),(iv v1.Base)] 96::V
 refine bU ?_
 split at m
 refine bG ?_
 exact qI ((0:Int),()) m (tE 3 [2,0,1])
 refine aU ?_
 exact qI (g,()) m (tE 3 [2,0,1])
 rintro ⟨i,_⟩ σ1 m
 dsimp only [Z11_J3] at m
 obtain ⟨l,m⟩:=gd m
 obtain ⟨j,m⟩:=gd m
 refine bB 1 aB (show 0<v1.Dims.length by have:=l; omega) (fun D o12 B=>?_)
 subst B
 refine bB 2 aB (show 0<v1.Strides.length by have:=j; omega) (fun u o15 B=>?_)
 subst B
 refine dF 16 [2,1] bP fun E F=>?_
 refine ml 0 [2,1] ?_
 refine d1 13 R (lM _ (tE 3 [1,0,2]) ?_)
 refine eA (K:=kT3) (x':=b) 0 e R R cB R R l.1 l.2 ?_ ?_
 exact fun I h s=>(fZ).put I h () b s
 refine aC (aG (sL [2,0]) ?_)
 refine oo 14 [2,0] ?_
 refine d1 15 R (lM _ (tE 3 [2,0,1]) ?_)
 refine eA (K:=kT3) (x':=i) 0 e R R cB R R j.1 j.2 ?_ ?_
 exact fun I h s=>(fZ).put I h () i s
 refine aC (aG (sL [1,0]) (dD ?_))
 cases m
 exact Aj (((ad D o12),v1.Dims.length,D3),((ad u o15),v1.Strides.length,D4)) (tE 3 [1,0,2])
theorem Z1k_ok  {p1:View}{q:Int}{u:Int}{l:Int}{e:Int}{m:Nat}{F:Nat}{E:Nat}{j:Nat}{b:Nat}{r:Bool×View×Int}(i:Z1k p1 q u l e=some r) :
 FnOk Tryz.prog 167 [(pt m 0),(pt F 0),(pt E 0),(pt j 0),(pt b 0)] [ow kT3 3 (.slice A3 N3 D3) p1.Dims,ow kT3 3 (.slice A4 N4 D4) p1.Strides,aJ m [(.slice A3 N3 D3),(.slice A4 N4 D4),(iv p1.Offset),(iv p1.Base)] 96,aJ F [(iv q)] 3,aJ E [(iv u)] 3,aJ j [(iv l)] 3,aJ b [(iv e)] 3] (fun (h:HH×HH)=>((.bool r.1),[ow kT3 3 (s3 h.1) r.2.1.Dims,ow kT3 3 (s3 h.2) r.2.1.Strides,aJ m [(s3 h.1),(s3 h.2),(iv r.2.1.Offset),(iv r.2.1.Base)] 96,aJ F [(iv q)] 3,aJ E [(iv u)] 3,aJ j [(iv l)] 3,aJ b [(iv r.2.2)] 3])):=by
 unfold Z1k at i
 refine aQ Tryz.func167 R 86 R R fun C V=>?_
 refine cL 0 aB ?_
 rintro rfl
 refine cL 1 aB ?_
 rintro rfl
 refine bG ?_
 refine qM _ (fun w s=>(s.f 7 [0,3,6,1,3,3])) ?_
 let I:=aJ F [(iv q)] 3::aJ E [(iv u)] 3::aJ j [(iv l)] 3::V
 refine aP ?_
 obtain ⟨G,D,i⟩:=bd i
 refine cQ [(0,(pt m 0)),(1,(pt F 0)),(2,(pt E 0)),(3,(pt j 0)),(4,(pt b 0)),(24,(.bool (((!G)||(decide (u<1)))||(decide (u>4096)))))] (aJ m [(sc A3 p1.Dims D3),(sc A4 p1.Strides D4),(iv p1.Offset),(iv p1.Base)] 96::OO kT3 3 A3 D3 p1.Dims::OO kT3 3 A4 D4 p1.Strides::aJ b [(iv e)] 3::I) ?_ ?_
 rcases bo (!G) with J | J
 refine dF 15 [] bP fun ht O=>?_
 refine kk 0 [] ?_
 refine d1 5 R (lC 1 gP R (FnOk.lends (A':=[OO kT3 3 A3 D3 p1.Dims]) (A:=[RR kT3 A3 D3 p1.Dims]) (B:=[]) (Zm_ok D) ⟨aV,trivial⟩ (fun _=>trivial)) R ?_)
 rintro _
 refine aC (aG (sL []) ?_)
 refine vr 6 [] ?_
 refine dD ?_
 exact qj (tE 4 [2,0,1,3])
 rcases bo ((!G)||(decide (u<1))) with a0 | a0
 refine dF 15 [] bP fun ht O=>?_
 refine kk 0 [] ?_
 refine d1 5 R (lC 1 gP R (FnOk.lends (A':=[OO kT3 3 A3 D3 p1.Dims]) (A:=[RR kT3 A3 D3 p1.Dims]) (B:=[]) (Zm_ok D) ⟨aV,trivial⟩ (fun _=>trivial)) R ?_)
 rintro _
 refine aC (aG (sL []) ?_)
 refine vr 6 [] ?_
 refine dD ?_
 exact qj (tE 4 [2,0,1,3])
 refine dF 15 [] bP fun ht O=>?_
 refine kk 0 [] ?_
 refine d1 5 R (lC 1 gP R (FnOk.lends (A':=[OO kT3 3 A3 D3 p1.Dims]) (A:=[RR kT3 A3 D3 p1.Dims]) (B:=[]) (Zm_ok D) ⟨aV,trivial⟩ (fun _=>trivial)) R ?_)
 rintro _
 refine aC (aG (sL []) ?_)
 refine vr 6 [] ?_
 refine dD ?_
 exact qj (tE 4 [2,0,1,3])
 rintro σ1
 refine bU ?_
 split at i
 refine cV ?_
 cases i
 exact qF ((A3,p1.Dims.length,D3),(A4,p1.Strides.length,D4)) (tE 7 [1,2,0,4,5,6,3])
 refine bG ?_
 obtain ⟨Z,i⟩:=gd i
 refine bB 1 aB (show 0<p1.Dims.length by have:=Z; omega) (fun g o20 ha=>?_)
 subst ha
 refine dF 8 [] bP fun ht O=>?_
 refine ug 0 [] ?_
 refine dD ?_
 refine aP ?_
 refine cQ [(0,(pt m 0)),(1,(pt F 0)),(2,(pt E 0)),(3,(pt j 0)),(4,(pt b 0)),(7,(iv (ix p1.Dims q))),(46,(.bool ((((decide (l<0))||(decide (l≥(ix p1.Dims q))))||(decide (e<(-4096:Int))))||(decide (e>4096)))))] (aJ m [(sc (ad g o20) p1.Dims D3),(sc A4 p1.Strides D4),(iv p1.Offset),(iv p1.Base)] 96::OO kT3 3 (ad g o20) D3 p1.Dims::OO kT3 3 A4 D4 p1.Strides::aJ b [(iv e)] 3::I) ?_ ?_
 refine bG ?_
 rcases bo (decide (l<0)) with T | T
 refine kj ?_
 exact qj tI
 refine bZ ?_
 rcases bo ((decide (l<0))||(decide (l≥(ix p1.Dims q)))) with Y | Y
 refine cV ?_
 exact qj tI
 refine bG ?_
 rcases bo (((decide (l<0))||(decide (l≥(ix p1.Dims q))))||(decide (e<(-4096:Int)))) with a1 | a1
 refine bG ?_
 exact qj tI
 refine bG ?_
 exact qj tI
 rintro σ1
 refine bU ?_
 split at i
 refine cV ?_
 cases i
 exact qF (((ad g o20),p1.Dims.length,D3),(A4,p1.Strides.length,D4)) (tE 7 [1,2,0,4,5,6,3])
 refine bG ?_
 refine aZ (A:=(Int)×(Unit)) (fun a=>Z1k_J3 p1 q u l a.1=some r) (fun a=>[(0,(pt m 0)),(1,(pt F 0)),(2,(pt E 0)),(3,(pt j 0)),(4,(pt b 0))]) (fun a=>aJ m [(sc (ad g o20) p1.Dims D3),(sc A4 p1.Strides D4),(iv p1.Offset),(iv p1.Base)] 96::OO kT3 3 (ad g o20) D3 p1.Dims::OO kT3 3 A4 D4 p1.Strides::aJ b [(iv a.1)] 3::I) ?_ ?_
 refine bT ?_
 split at i
 refine kj ?_
 refine cQ [(0,(pt m 0)),(1,(pt F 0)),(2,(pt E 0)),(3,(pt j 0)),(4,(pt b 0)),(61,(.bool ((decide ((aH (l+(aH (e*(aH (u - 1))))))<0))||(decide ((aH (l+(aH (e*(aH (u - 1))))))≥(ix p1.Dims q))))))] (aJ m [(sc (ad g o20) p1.Dims D3),(sc A4 p1.Strides D4),(iv p1.Offset),(iv p1.Base)] 96::OO kT3 3 (ad g o20) D3 p1.Dims::OO kT3 3 A4 D4 p1.Strides::aJ b [(iv e)] 3::I) ?_ ?_
 refine bG ?_
 rcases bo (decide ((aH (l+(aH (e*(aH (u - 1))))))<0)) with M | M
 refine bZ ?_
 exact qj tI
 refine bZ ?_
 exact qj tI
 rintro σ1
 refine bU ?_
 split at i
 refine cV ?_
 cases i
 exact qF (((ad g o20),p1.Dims.length,D3),(A4,p1.Strides.length,D4)) (tE 7 [1,2,0,4,5,6,3])
 refine aU ?_
 exact qI (e,()) i tI
 refine aU ?_
 refine cK 3 R R cB R R R R R (lN (aJ m [(sc (ad g o20) p1.Dims D3),(sc A4 p1.Strides D4),(iv p1.Offset),(iv p1.Base)] 96::OO kT3 3 (ad g o20) D3 p1.Dims::_::aJ b [(iv 0)] 3::I) ?_)
 refine bU ?_
 exact qI ((0:Int),()) i tI
 rintro ⟨a5,_⟩ σ1 i
 dsimp only [Z1k_J3] at i
 refine bU ?_
 obtain ⟨U,i⟩:=gd i
 refine bB 2 aB (show 0<p1.Strides.length by have:=U; omega) (fun a2 o31 ha=>?_)
 subst ha
 refine dF 8 [] bP fun ht O=>?_
 refine ug 0 [] ?_
 refine dD (aI (aO (dF 11 [0] bP fun ht O=>?_)))
 refine hX 0 [0] ?_
 refine hX 4 [0] ?_
 refine d1 3 R (lO (fW 0 fQ R R R) (aC (aG (sL [0]) ?_)))
 refine hX 7 [0] ?_
 refine d1 10 R (cK 0 R R cB R R R R R (lN (aJ m [(sc (ad g o20) p1.Dims D3),(sc (ad a2 o31) p1.Strides D4),(iv (aH (p1.Offset+(aH (l*(ix p1.Strides q)))))),(iv p1.Base)] 96::_::OO kT3 3 (ad a2 o31) D4 p1.Strides::aJ b [(iv a5)] 3::I) ?_))
 refine aC (aG (sL [0]) (dD ?_))
 refine aU ?_
 obtain ⟨a3,L,i⟩:=bd i
 refine dG ?_
 refine lM _ (tE 4 [1,2,0,3]) ?_
 refine lC 3 sC R (Z11_ok (v1:=(⟨p1.Dims,p1.Strides,(aH (p1.Offset+(aH (l*(ix p1.Strides q))))),p1.Base⟩:View)) L) R ?_
 rintro ⟨⟨a7,aa,a6⟩,⟨a8,a9,a4⟩⟩
 refine aL 0 aB ?_
 rintro rfl
 refine aL 1 aB ?_
 rintro rfl
 refine cV ?_
 cases i
 exact qF ((a7,a3.Dims.length,a6),(a8,a3.Strides.length,a4)) (fun w s=>(s.f 7 [0,3,4,3,3,1]))
theorem Z37_ok  {v1:View}{q5:Int}{q7:Int}{q9:Int}{a3:Int}{b6:Nat}{b8:Nat}{F:Nat}{G:Nat}{r:View×Int}(D:Z37 v1 q5 q7 q9 a3=some r) :
 FnOk Tryz.prog 165 [(.agg [(.slice A2 N2 D2),(.slice A3 N3 D3),(iv v1.Offset),(iv v1.Base)].toArray),(.func (.func 167) [].toArray [(pt b6 0),(pt b8 0),(pt F 0),(pt G 0)].toArray)] [aN kT3 (.slice A2 N2 D2) v1.Dims,aN kT3 (.slice A3 N3 D3) v1.Strides,aJ b6 [(iv q5)] 3,aJ b8 [(iv q7)] 3,aJ F [(iv q9)] 3,aJ G [(iv a3)] 3] (fun (h:HH×HH)=>((.agg [(s3 h.1),(s3 h.2),(iv r.1.Offset),(iv r.1.Base)].toArray),[ow kT3 3 (s3 h.1) r.1.Dims,ow kT3 3 (s3 h.2) r.1.Strides,aJ b6 [(iv q5)] 3,aJ b8 [(iv q7)] 3,aJ F [(iv q9)] 3,aJ G [(iv r.2)] 3])):=by
 unfold Z37 at D
 refine aQ Tryz.func165 R 31 R R fun C V=>?_
 refine cM _ (fun w s=>(s.f 6 [2,4,0,2])) ?_
 refine cL 4 aA ?_
 rintro rfl
 refine cL 5 aA ?_
 rintro rfl
 let W0:=RR kT3 A2 D2 v1.Dims::RR kT3 A3 D3 v1.Strides::V
 refine aU ?_
 refine eF R fun ag=>?_
 refine bF R R cY (fun I=>(aC (qM _ (tE 6 [0,2,3,4,5,1]) ?_)))
 let W1:=aJ ag [(sc A2 v1.Dims D2),(sc A3 v1.Strides D3),(iv v1.Offset),(iv v1.Base)] 96::W0
 refine aP ?_
 obtain ⟨aj,a8,D⟩:=bd D
 refine aU ?_
 refine lM _ (fun w s=>(((s.d 6 R).d 8 R).f 7 [1,1,0,1,2,5])) ?_
 refine lC 2 ms R (Zh_ok a8) R ?_
 rintro _
 refine aP ?_
 split at D
 refine aP ?_
 refine lO (vz (.agg [(.slice none 0 0),(.slice none 0 0),(iv 0),(iv 0)].toArray) (aX fD cY R R)) (aK 0 R R cG R R R R R R (aC (aI (bY (cF ?_)))))
 cases D
 exact qS ((none,0,0),(none,0,0)) (fun w s=>(((s.nilo kT3 3).nilo kT3 3).e 10 [1,0,3,4,5,6]))
 refine bG ?_
 obtain ⟨g,a1,D⟩:=bd D
 obtain ⟨i,T,D⟩:=bd D
 refine iQ (A:=(Unit)×(Nat×HH×HH)) (fun _=>True) (fun a=>[(1,(.func (.func 167) [].toArray [(pt b6 0),(pt b8 0),(pt F 0),(pt G 0)].toArray)),(4,(pt I 0)),(5,(pt a.2.1 0))]) (fun a=>aJ b6 [(iv q5)] 3::aJ b8 [(iv q7)] 3::aJ F [(iv q9)] 3::aJ G [(iv a3)] 3::aJ I [(.slice none 0 0),(.slice none 0 0),(iv 0),(iv 0)] 96::aJ a.2.1 [(s3 a.2.2.1),(s3 a.2.2.2),(iv v1.Offset),(iv v1.Base)] 96::ow kT3 3 (s3 a.2.2.1) g::ow kT3 3 (s3 a.2.2.2) i::W1) ?_ ?_
 refine dF 13 [] bP fun ht hn=>?_
 refine gR 0 [] ?_
 refine gR 3 [] ?_
 refine oq 6 [] ?_
 refine hT [2,11] (by kernel_rfl) R ⟨?_,?_,trivial⟩
 refine lM _ (fun w s=>(s.d 6 R)) ?_
 refine lC 1 jk R (Zp_ok a1) R ?_
 rintro ⟨m,ac,q⟩
 refine aL 0 aB ?_
 rintro rfl
 refine aC (aG (sL [0]) (hT [5,11] (by kernel_rfl) R ⟨?_,?_,trivial⟩))
 refine lM _ (fun w s=>(s.d 8 R)) ?_
 refine lC 1 jk R (Zp_ok T) R ?_
 rintro ⟨l,a7,j⟩
 refine aL 0 aB ?_
 rintro rfl
 refine aC (aG (sL [1,0]) (dR 10 R (vz (.agg [(sc m g q),(sc l i j),(iv v1.Offset),(iv v1.Base)].toArray) (aX fD cY R R)) (hS:=(sL [1,0])) (d1 11 R (bF R R cY (fun E=>(aC (aG (sL [2,1,0]) (d1 12 R (aK 0 R R cG R R R R R R (lN (aJ E [(sc m g q),(sc l i j),(iv v1.Offset),(iv v1.Base)] 96::_::_::_::_::_::_::_::W1) ?_))))))))))
 refine aC (aG (sL [2,1,0]) (dD ?_))
 exact cS ((),(E,(m,g.length,q),(l,i.length,j))) trivial (aS R) (tE 8 [4,5,6,7,3,0,2,1])
 refine bF R R cY (fun E=>(aC (aG (sL [1,0]) (d1 5 R (lM _ (fun w s=>(s.d 9 R)) ?_)))))
 refine lC 1 jk R (Zp_ok T) R ?_
 rintro ⟨l,a7,j⟩
 refine aL 0 aB ?_
 rintro rfl
 refine aC (aG (sL [2,1,0]) (dR 10 R (vz (.agg [(sc m g q),(sc l i j),(iv v1.Offset),(iv v1.Base)].toArray) (aX fD cY R R)) (hS:=(sL [2,1,0])) (d1 12 R (aK 1 R R cG R R R R R R (lN (_::aJ E [(sc m g q),(sc l i j),(iv v1.Offset),(iv v1.Base)] 96::_::_::_::_::_::_::W1) ?_)))))
 refine aC (aG (sL [2,1,0]) (dD ?_))
 exact cS ((),(E,(m,g.length,q),(l,i.length,j))) trivial (aS R) (tE 8 [4,5,6,7,3,1,2,0])
 refine bF R R cY (fun E=>(aC (aG (sL [0]) (d1 2 R (lM _ (fun w s=>(s.d 7 R)) ?_)))))
 refine lC 1 jk R (Zp_ok a1) R ?_
 rintro ⟨m,ac,q⟩
 refine aL 0 aB ?_
 rintro rfl
 refine aC (aG (sL [1,0]) (d1 5 R (lM _ (fun w s=>(s.d 9 R)) ?_)))
 refine lC 1 jk R (Zp_ok T) R ?_
 rintro ⟨l,a7,j⟩
 refine aL 0 aB ?_
 rintro rfl
 refine aC (aG (sL [2,1,0]) (dR 10 R (vz (.agg [(sc m g q),(sc l i j),(iv v1.Offset),(iv v1.Base)].toArray) (aX fD cY R R)) (hS:=(sL [2,1,0])) (d1 12 R (aK 2 R R cG R R R R R R (lN (_::_::aJ E [(sc m g q),(sc l i j),(iv v1.Offset),(iv v1.Base)] 96::_::_::_::_::_::W1) ?_)))))
 refine aC (aG (sL [2,1,0]) (dD ?_))
 exact cS ((),(E,(m,g.length,q),(l,i.length,j))) trivial (aS R) (tE 8 [4,5,6,7,3,2,1,0])
 rintro ⟨_,⟨a4,⟨ai,ae,ak⟩,⟨ao,aa,an⟩⟩⟩ σ1 -
 refine hU 6 aB (fun (hn:ae=g.length)=>?_)
 subst hn
 refine hU 7 aB (fun (hn:aa=i.length)=>?_)
 subst hn
 refine aP ?_
 obtain ⟨b,a5,D⟩:=bd D
 obtain ⟨a9,a6,D⟩:=bd D
 refine iQ (A:=(Unit)×(HH×HH)) (fun _=>True) (fun a=>[(4,(pt I 0)),(5,(pt a4 0)),(28,(.bool ((!b.1)||(!a9))))]) (fun a=>aJ I [(.slice none 0 0),(.slice none 0 0),(iv 0),(iv 0)] 96::aJ a4 [(s3 a.2.1),(s3 a.2.2),(iv b.2.1.Offset),(iv b.2.1.Base)] 96::ow kT3 3 (s3 a.2.1) b.2.1.Dims::ow kT3 3 (s3 a.2.2) b.2.1.Strides::aJ b6 [(iv q5)] 3::aJ b8 [(iv q7)] 3::aJ F [(iv q9)] 3::aJ G [(iv b.2.2)] 3::W1) ?_ ?_
 refine aE (lO (vp _ R) (lM _ (fun w s=>(s.f 8 [6,2,5,1,0,5])) ?_))
 refine cE (fs:=[]) (cs:=[(pt b6 0),(pt b8 0),(pt F 0),(pt G 0)]) 7 R R zn R R (Z1k_ok (p1:=(⟨g,i,v1.Offset,v1.Base⟩:View)) a5) R ?_
 rintro ⟨⟨O,al,L⟩,⟨J,am,M⟩⟩
 refine aL 0 aB ?_
 rintro rfl
 refine aL 1 aB ?_
 rintro rfl
 refine aU ?_
 rcases bo (!b.1) with u | u
 refine aP ?_
 refine lO (fC (!a9) R u) (aC ?_)
 exact cS ((),((O,b.2.1.Dims.length,L),(J,b.2.1.Strides.length,M))) trivial (aS R) (tE 8 [7,2,0,1,3,4,5,6])
 refine lW (cA u) (vz (.agg [(sc O b.2.1.Dims L),(sc J b.2.1.Strides M),(iv b.2.1.Offset),(iv b.2.1.Base)].toArray) (dT 2 gI cG R R R R)) (bX 2 R (cA u) ms R (FnOk.lends (A':=[OO kT3 3 O L b.2.1.Dims,OO kT3 3 J M b.2.1.Strides]) (A:=[RR kT3 O L b.2.1.Dims,RR kT3 J M b.2.1.Strides]) (B:=[]) (Zh_ok (bN a6 (cT u))) ⟨aV,aV,trivial⟩ (fun _=>trivial)) R ?_)
 rintro _
 refine bU ?_
 refine lO (fU R u R) (aC ?_)
 exact cS ((),((O,b.2.1.Dims.length,L),(J,b.2.1.Strides.length,M))) trivial (aS R) (tE 8 [7,2,0,1,3,4,5,6])
 rintro ⟨_,⟨⟨a0,ab,Z⟩,⟨Y,ah,U⟩⟩⟩ σ1 -
 refine hU 2 aB (fun (hn:ab=b.2.1.Dims.length)=>?_)
 subst hn
 refine hU 3 aB (fun (hn:ah=b.2.1.Strides.length)=>?_)
 subst hn
 refine bU ?_
 rcases cO D with ⟨a2,D⟩|⟨a2,D⟩
 refine aP ?_
 refine lO (vz (.agg [(.slice none 0 0),(.slice none 0 0),(iv 0),(iv 0)].toArray) (aX fD cY R R)) (aK 0 R R cG R R R R R R (lN (_::aJ a4 [(sc a0 b.2.1.Dims Z),(sc Y b.2.1.Strides U),(iv b.2.1.Offset),(iv b.2.1.Base)] 96::OO kT3 3 a0 Z b.2.1.Dims::OO kT3 3 Y U b.2.1.Strides::_::_::_::_::W1) ?_))
 refine bG ?_
 cases D
 exact qS ((none,0,0),(none,0,0)) (fun w s=>(((s.nilo kT3 3).nilo kT3 3).e 13 [1,0,6,7,8,9]))
 refine bM R a2 ?_
 refine bZ ?_
 refine aK 0 R R cG R R R R R R (lN (aJ I [(sc a0 b.2.1.Dims Z),(sc Y b.2.1.Strides U),(iv b.2.1.Offset),(iv b.2.1.Base)] 96::_::_::_::_::_::_::_::W1) ?_)
 refine aP ?_
 cases D
 exact qS ((a0,b.2.1.Dims.length,Z),(Y,b.2.1.Strides.length,U)) (fun w s=>(s.f 11 [2,6]))
theorem Z2e_ok  {v1:View}{b:Int}{D:Int}{a:Int}{g:Int}{r:View}(B:Z2e v1 b D a g=some r) :
 FnOk Tryz.prog 160 [(.agg [(.slice A2 N2 D2),(.slice A3 N3 D3),(iv v1.Offset),(iv v1.Base)].toArray),(iv b),(iv D),(iv a),(iv g)] [aN kT3 (.slice A2 N2 D2) v1.Dims,aN kT3 (.slice A3 N3 D3) v1.Strides] (fun (h:HH×HH)=>((.agg [(s3 h.1),(s3 h.2),(iv r.Offset),(iv r.Base)].toArray),[ow kT3 3 (s3 h.1) r.Dims,ow kT3 3 (s3 h.2) r.Strides])):=by
 unfold Z2e at B
 refine aQ Tryz.func160 R 14 R R fun C V=>?_
 refine cL 0 aA ?_
 rintro rfl
 refine cL 1 aA ?_
 rintro rfl
 let J:=RR kT3 A2 D2 v1.Dims::RR kT3 A3 D3 v1.Strides::V
 refine cN J ?_
 refine aU ?_
 refine eF R fun O=>?_
 refine eZ (cs:=[(iv b)]) R R R (fun L=>(eZ (cs:=[(iv D)]) R R R (fun I=>(eZ (cs:=[(iv a)]) R R R (fun G=>(eZ (cs:=[(iv g)]) R R R (fun F=>(bF R R cY (fun E=>(aC ?_))))))))))
 let U:=aJ O [(sc A2 v1.Dims D2),(sc A3 v1.Strides D3),(iv v1.Offset),(iv v1.Base)] 96::J
 refine aU ?_
 obtain ⟨i,j,B⟩:=bd B
 refine aU ?_
 refine lO (vp (.func (.func 167) [].toArray [(pt L 0),(pt G 0),(pt I 0),(pt F 0)].toArray) R) (lM _ (fun w s=>(((s.d 6 R).d 8 R).e 7 [1,0,6,4,5,3,2])) ?_)
 refine lC 6 sB R (Z37_ok j) R ?_
 rintro ⟨⟨q,M,u⟩,⟨m,T,l⟩⟩
 refine aL 0 aB ?_
 rintro rfl
 refine aL 1 aB ?_
 rintro rfl
 refine aK 6 R R cG R R R R R R (lN (_::_::_::_::_::_::aJ E [(sc q i.1.Dims u),(sc m i.1.Strides l),(iv i.1.Offset),(iv i.1.Base)] 96::U) ?_)
 refine aP ?_
 cases B
 exact qS ((q,i.1.Dims.length,u),(m,i.1.Strides.length,l)) (tE 10 [0,1])
theorem Z2o_ok  {v1:View}{b:Int}{a:Int}{l:Nat}{r:View}(i:Z2o v1 b a=some r) :
 FnOk Tryz.prog 170 [(pt l 0),(iv b),(iv a)] [ow kT3 3 (.slice A3 N3 D3) v1.Dims,ow kT3 3 (.slice A4 N4 D4) v1.Strides,aJ l [(.slice A3 N3 D3),(.slice A4 N4 D4),(iv v1.Offset),(iv v1.Base)] 96] (fun (h:HH×HH)=>((.tuple [].toArray),[ow kT3 3 (.slice h.1.1 h.1.2.1 h.1.2.2) r.Dims,ow kT3 3 (.slice h.2.1 h.2.2.1 h.2.2.2) r.Strides,aJ l [(.slice h.1.1 h.1.2.1 h.1.2.2),(.slice h.2.1 h.2.2.1 h.2.2.2),(iv r.Offset),(iv r.Base)] 96])):=by
 unfold Z2o at i
 refine aQ Tryz.func170 R 34 R R fun C V=>?_
 refine cN (_::_::_::V) ?_
 refine cL 0 aB ?_
 rintro rfl
 refine cL 1 aB ?_
 rintro rfl
 refine aO ?_
 obtain ⟨G,i⟩:=gd i
 refine aE (lP R (lP R (lP R (lO (fP 0 gJ R) (lO (fW 2 cJ R R R) (bK (K:=kT3) (xs:=([(0:Int)]:List Int)) (vs:=[(iv 0)]) 0 R R bI cB f' R R R R R R ?_ R (fun A7 D7=>?_)))))))
 exact fun I h s=>(fZ).list [((),(0:Int))] I h s
 refine lN (OO kT3 3 A7 D7 ([(0:Int)]:List Int)::_::_::aJ l [(sc A3 v1.Dims D3),(sc A4 v1.Strides D4),(iv v1.Offset),(iv v1.Base)] 96::V) ?_
 refine lM (ow _ _ _ _::ow _ _ _ _::ow _ _ _ _::aJ _ _ _::V) (fun w s=>(s.e 4 [1,0,2,3])) ?_
 refine eB (K:=kT3) 17592186044416 R R bI cB jZ (Zr.zk zT3 f') R R R R R R dM G (fun A9 D9=>(lN (OO kT3 3 A9 D9 (v1.Dims++([(0:Int)]:List Int))::_::_::V) ?_))
 refine lP R (lO (fP 0 gJ R) (cK 2 R R fK R R R R R (lN (_::_::aJ l [(sc A9 (v1.Dims++([(0:Int)]:List Int)) D9),(sc A4 v1.Strides D4),(iv v1.Offset),(iv v1.Base)] 96::V) ?_)))
 refine aC (aI (aO ?_))
 obtain ⟨E,i⟩:=gd i
 refine aE (lP R (lP R (lP R (lO (fP 1 gA R) (lO (fW 2 cJ R R R) (bK (K:=kT3) (xs:=([(0:Int)]:List Int)) (vs:=[(iv 0)]) 0 R R bI cB f' R R R R R R ?_ R (fun A10 D10=>?_)))))))
 exact fun I h s=>(fZ).list [((),(0:Int))] I h s
 refine lN (OO kT3 3 A10 D10 ([(0:Int)]:List Int)::_::_::_::V) ?_
 refine lM (ow _ _ _ _::ow _ _ _ _::ow _ _ _ _::aJ _ _ _::V) (fun w s=>(s.e 4 [2,0,1,3])) ?_
 refine eB (K:=kT3) 17592186044416 R R bI cB jZ (Zr.zk zT3 f') R R R R R R dM E (fun A12 D12=>(lN (OO kT3 3 A12 D12 (v1.Strides++([(0:Int)]:List Int))::_::_::V) ?_))
 refine lP R (lO (fP 1 gA R) (cK 2 R R fK R R R R R (lN (_::_::aJ l [(sc A9 (v1.Dims++([(0:Int)]:List Int)) D9),(sc A12 (v1.Strides++([(0:Int)]:List Int)) D12),(iv v1.Offset),(iv v1.Base)] 96::V) ?_)))
 refine aC (aI ?_)
 obtain ⟨g,D,i⟩:=bd i
 refine aE (lP R (lP R (lP R (lO (fP 0 gJ R) (lO (fW 2 cJ R R R) (lO (kc bI R) (lO (wu R R) (lI R (lI R (lM (ow _ _ _ _::ow _ _ _ _::aJ _ _ _::V) (fun w s=>(s.e 3 [1,0,2])) ?_))))))))))
 refine lC 3 sC R (Z11_ok (v1:=(⟨(v1.Dims++([(0:Int)]:List Int)),(v1.Strides++([(0:Int)]:List Int)),v1.Offset,v1.Base⟩:View)) D) R ?_
 rintro ⟨⟨j,F,q⟩,⟨m,B,u⟩⟩
 refine lN (ow kT3 3 (.slice j F q) g.Dims::ow kT3 3 (.slice m B u) g.Strides::aJ l [(.slice j F q),(.slice m B u),(iv g.Offset),(iv g.Base)] 96::V) ?_
 refine aL 0 aB ?_
 rintro rfl
 refine aL 1 aB ?_
 rintro rfl
 refine aC ?_
 obtain rfl:=so i
 exact dI (vs:=[]) (.inr R) ((j,g.Dims.length,q),(m,g.Strides.length,u)) R trivial R (fun w s=>s)
theorem Z1l_ok  {p1:View}{u:Int}{j:Int}{s:Int}{E:Nat}{G:Nat}{F:Nat}{g:Nat}{r:Bool×View×Int}(b:Z1l p1 u j s=some r) :
 FnOk Tryz.prog 169 [(pt E 0),(pt G 0),(pt F 0),(pt g 0)] [ow kT3 3 (.slice A3 N3 D3) p1.Dims,ow kT3 3 (.slice A4 N4 D4) p1.Strides,aJ E [(.slice A3 N3 D3),(.slice A4 N4 D4),(iv p1.Offset),(iv p1.Base)] 96,aJ G [(iv u)] 3,aJ F [(iv j)] 3,aJ g [(iv s)] 3] (fun (h:HH×HH)=>((.bool r.1),[ow kT3 3 (s3 h.1) r.2.1.Dims,ow kT3 3 (s3 h.2) r.2.1.Strides,aJ E [(s3 h.1),(s3 h.2),(iv r.2.1.Offset),(iv r.2.1.Base)] 96,aJ G [(iv u)] 3,aJ F [(iv j)] 3,aJ g [(iv r.2.2)] 3])):=by
 unfold Z1l at b
 refine aQ Tryz.func169 R 66 R R fun C V=>?_
 refine cL 0 aB ?_
 rintro rfl
 refine cL 1 aB ?_
 rintro rfl
 refine bG ?_
 refine qM _ (tE 6 [0,1,2,5,3,4]) ?_
 let W1:=aJ G [(iv u)] 3::aJ F [(iv j)] 3::V
 refine aP ?_
 obtain ⟨m,i,b⟩:=bd b
 obtain ⟨l,b⟩:=gd b
 refine cQ [(0,(pt E 0)),(1,(pt G 0)),(2,(pt F 0)),(3,(pt g 0)),(33,(.bool ((((!m)||(decide (j<1)))||(decide (s<1)))||(decide (j>(ix p1.Dims u))))))] (aJ E [(sc A3 p1.Dims D3),(sc A4 p1.Strides D4),(iv p1.Offset),(iv p1.Base)] 96::OO kT3 3 A3 D3 p1.Dims::OO kT3 3 A4 D4 p1.Strides::aJ g [(iv s)] 3::W1) ?_ ?_
 rcases bo (!m) with O | O
 refine dF 26 [] bP fun Y M=>?_
 refine kk 0 [] ?_
 refine d1 5 R (lC 1 gP R (FnOk.lends (A':=[OO kT3 3 A3 D3 p1.Dims]) (A:=[RR kT3 A3 D3 p1.Dims]) (B:=[]) (Zm_ok i) ⟨aV,trivial⟩ (fun _=>trivial)) R ?_)
 rintro _
 refine aC (aG (sL []) ?_)
 refine sh 6 [] ?_
 refine dD ?_
 exact qj (tE 4 [2,0,1,3])
 rcases bo ((!m)||(decide (j<1))) with L | L
 refine dF 26 [] bP fun Y M=>?_
 refine kk 0 [] ?_
 refine d1 5 R (lC 1 gP R (FnOk.lends (A':=[OO kT3 3 A3 D3 p1.Dims]) (A:=[RR kT3 A3 D3 p1.Dims]) (B:=[]) (Zm_ok i) ⟨aV,trivial⟩ (fun _=>trivial)) R ?_)
 rintro _
 refine aC (aG (sL []) ?_)
 refine sh 6 [] ?_
 refine dD ?_
 exact qj (tE 4 [2,0,1,3])
 rcases bo (((!m)||(decide (j<1)))||(decide (s<1))) with e | e
 refine dF 26 [] bP fun Y M=>?_
 refine kk 0 [] ?_
 refine d1 5 R (lC 1 gP R (FnOk.lends (A':=[OO kT3 3 A3 D3 p1.Dims]) (A:=[RR kT3 A3 D3 p1.Dims]) (B:=[]) (Zm_ok i) ⟨aV,trivial⟩ (fun _=>trivial)) R ?_)
 rintro _
 refine aC (aG (sL []) ?_)
 refine sh 6 [] ?_
 refine dD ?_
 exact qj (tE 4 [2,0,1,3])
 refine bB 0 aB (show 0<p1.Dims.length by have:=(l e); omega) (fun U o15 ha=>?_)
 subst ha
 refine dF 26 [] bP fun Y M=>?_
 refine kk 0 [] ?_
 refine d1 5 R (lC 1 gP R (FnOk.lends (A':=[OO kT3 3 (ad U o15) D3 p1.Dims]) (A:=[RR kT3 (ad U o15) D3 p1.Dims]) (B:=[]) (Zm_ok i) ⟨aV,trivial⟩ (fun _=>trivial)) R ?_)
 rintro _
 refine aC (aG (sL []) ?_)
 refine AC 6 [] ?_
 refine dW 22 R (cA e) (eL bI cB R R (l e)) (dW 23 R (cA e) (gO 0 fQ aB R (l e)) ?_)
 refine gR 24 [] ?_
 refine dD ?_
 exact qj (tE 4 [2,0,1,3])
 rintro σ1
 refine bU ?_
 split at b
 refine cV ?_
 cases b
 exact qF ((A3,p1.Dims.length,D3),(A4,p1.Strides.length,D4)) (tE 6 [1,2,0,4,5,3])
 refine bG ?_
 obtain ⟨Z,b⟩:=gd b
 refine bB 2 aB (show 0<p1.Strides.length by have:=Z; omega) (fun q o22 ha=>?_)
 subst ha
 refine dF 8 [] bP fun Y M=>?_
 refine ug 0 [] ?_
 refine dD ?_
 refine aU ?_
 obtain ⟨J,b⟩:=gd b
 obtain ⟨I,b⟩:=gd b
 refine bB 1 aB (show 0<p1.Dims.length by have:=J; omega) (fun D o25 ha=>?_)
 subst ha
 refine dF 13 [] bP fun Y M=>?_
 refine qV 0 [] ?_
 refine dR 10 R (vz (iv (aH ((aH ((ix p1.Dims u) - j)).tdiv s))) (mf R R I)) ?_
 refine gR 11 [] ?_
 refine dD (aI (aO (aZ (A:=(Int)×(Unit)) (fun a=>Z1l_J3 p1 u j s a.1=some r) (fun a=>[(0,(pt E 0)),(1,(pt G 0)),(2,(pt F 0)),(3,(pt g 0)),(6,(iv (ix p1.Strides u))),(7,(iv (aH ((aH ((aH ((ix p1.Dims u) - j)).tdiv s))+1))))]) (fun a=>aJ E [(sc (ad D o25) p1.Dims D3),(sc (ad q o22) p1.Strides D4),(iv p1.Offset),(iv p1.Base)] 96::OO kT3 3 (ad D o25) D3 p1.Dims::OO kT3 3 (ad q o22) D4 p1.Strides::aJ g [(iv a.1)] 3::W1) ?_ ?_)))
 refine bT ?_
 split at b
 refine aU ?_
 refine cK 3 R R cB R R R R R (lN (aJ E [(sc (ad D o25) p1.Dims D3),(sc (ad q o22) p1.Strides D4),(iv p1.Offset),(iv p1.Base)] 96::OO kT3 3 (ad D o25) D3 p1.Dims::OO kT3 3 (ad q o22) D4 p1.Strides::aJ g [(iv 0)] 3::W1) ?_)
 refine bU ?_
 exact qI ((0:Int),()) b tI
 refine aU ?_
 exact qI (s,()) b tI
 rintro ⟨ae,_⟩ σ1 b
 dsimp only [Z1l_J3] at b
 refine bU ?_
 obtain ⟨ag,a1,b⟩:=bd b
 refine dG ?_
 refine lM _ (tE 4 [1,2,0,3]) ?_
 refine lC 3 sC R (Z11_ok a1) R ?_
 rintro ⟨⟨a6,ac,aa⟩,⟨a8,ab,a9⟩⟩
 refine aL 0 aB ?_
 rintro rfl
 refine aL 1 aB ?_
 rintro rfl
 refine aP ?_
 obtain ⟨T,a0,b⟩:=bd b
 refine bG ?_
 refine lC 3 zp R (Z2o_ok a0) R ?_
 rintro ⟨⟨a5,a7,a4⟩,⟨a3,ah,a2⟩⟩
 refine aL 0 aB ?_
 rintro rfl
 refine aL 1 aB ?_
 rintro rfl
 refine cV ?_
 cases b
 exact qF ((a5,T.Dims.length,a4),(a3,T.Strides.length,a2)) (tE 6 [0,1,2,4,5,3])
theorem Z39_ok  {v1:View}{q5:Int}{q7:Int}{q9:Int}{b6:Nat}{b8:Nat}{F:Nat}{r:View×Int}(D:Z39 v1 q5 q7 q9=some r) :
 FnOk Tryz.prog 165 [(.agg [(.slice A2 N2 D2),(.slice A3 N3 D3),(iv v1.Offset),(iv v1.Base)].toArray),(.func (.func 169) [].toArray [(pt b6 0),(pt b8 0),(pt F 0)].toArray)] [aN kT3 (.slice A2 N2 D2) v1.Dims,aN kT3 (.slice A3 N3 D3) v1.Strides,aJ b6 [(iv q5)] 3,aJ b8 [(iv q7)] 3,aJ F [(iv q9)] 3] (fun (h:HH×HH)=>((.agg [(s3 h.1),(s3 h.2),(iv r.1.Offset),(iv r.1.Base)].toArray),[ow kT3 3 (s3 h.1) r.1.Dims,ow kT3 3 (s3 h.2) r.1.Strides,aJ b6 [(iv q5)] 3,aJ b8 [(iv q7)] 3,aJ F [(iv r.2)] 3])):=by
 unfold Z39 at D
 refine aQ Tryz.func165 R 31 R R fun C V=>?_
 refine cM _ (fun w s=>(s.f 5 [2,3,0,2])) ?_
 refine cL 3 aA ?_
 rintro rfl
 refine cL 4 aA ?_
 rintro rfl
 let W0:=RR kT3 A2 D2 v1.Dims::RR kT3 A3 D3 v1.Strides::V
 refine aU ?_
 refine eF R fun ac=>?_
 refine bF R R cY (fun O=>(aC (qM _ (tE 5 [0,2,3,4,1]) ?_)))
 let W1:=aJ ac [(sc A2 v1.Dims D2),(sc A3 v1.Strides D3),(iv v1.Offset),(iv v1.Base)] 96::W0
 refine aP ?_
 obtain ⟨ai,a6,D⟩:=bd D
 refine aU ?_
 refine lM _ (fun w s=>(((s.d 5 R).d 7 R).e 6 [1,0,2,3,4,5])) ?_
 refine lC 2 ms R (Zh_ok a6) R ?_
 rintro _
 refine aP ?_
 split at D
 refine aP ?_
 refine lO (vz (.agg [(.slice none 0 0),(.slice none 0 0),(iv 0),(iv 0)].toArray) (aX fD cY R R)) (aK 0 R R cG R R R R R R (aC (aI (bY (cF ?_)))))
 cases D
 exact qS ((none,0,0),(none,0,0)) (fun w s=>(((s.nilo kT3 3).nilo kT3 3).e 9 [1,0,3,4,5]))
 refine bG ?_
 obtain ⟨g,a1,D⟩:=bd D
 obtain ⟨i,M,D⟩:=bd D
 refine iQ (A:=(Unit)×(Nat×HH×HH)) (fun _=>True) (fun a=>[(1,(.func (.func 169) [].toArray [(pt b6 0),(pt b8 0),(pt F 0)].toArray)),(4,(pt O 0)),(5,(pt a.2.1 0))]) (fun a=>aJ b6 [(iv q5)] 3::aJ b8 [(iv q7)] 3::aJ F [(iv q9)] 3::aJ O [(.slice none 0 0),(.slice none 0 0),(iv 0),(iv 0)] 96::aJ a.2.1 [(s3 a.2.2.1),(s3 a.2.2.2),(iv v1.Offset),(iv v1.Base)] 96::ow kT3 3 (s3 a.2.2.1) g::ow kT3 3 (s3 a.2.2.2) i::W1) ?_ ?_
 refine dF 13 [] bP fun ht hn=>?_
 refine gR 0 [] ?_
 refine gR 3 [] ?_
 refine oq 6 [] ?_
 refine hT [2,11] (by kernel_rfl) R ⟨?_,?_,trivial⟩
 refine lM _ (fun w s=>(s.d 5 R)) ?_
 refine lC 1 jk R (Zp_ok a1) R ?_
 rintro ⟨m,ae,q⟩
 refine aL 0 aB ?_
 rintro rfl
 refine aC (aG (sL [0]) (hT [5,11] (by kernel_rfl) R ⟨?_,?_,trivial⟩))
 refine lM _ (fun w s=>(s.d 7 R)) ?_
 refine lC 1 jk R (Zp_ok M) R ?_
 rintro ⟨j,a3,l⟩
 refine aL 0 aB ?_
 rintro rfl
 refine aC (aG (sL [1,0]) (dR 10 R (vz (.agg [(sc m g q),(sc j i l),(iv v1.Offset),(iv v1.Base)].toArray) (aX fD cY R R)) (hS:=(sL [1,0])) (d1 11 R (bF R R cY (fun E=>(aC (aG (sL [2,1,0]) (d1 12 R (aK 0 R R cG R R R R R R (lN (aJ E [(sc m g q),(sc j i l),(iv v1.Offset),(iv v1.Base)] 96::_::_::_::_::_::_::W1) ?_))))))))))
 refine aC (aG (sL [2,1,0]) (dD ?_))
 exact cS ((),(E,(m,g.length,q),(j,i.length,l))) trivial (aS R) (tE 7 [4,5,6,3,0,2,1])
 refine bF R R cY (fun E=>(aC (aG (sL [1,0]) (d1 5 R (lM _ (fun w s=>(s.d 8 R)) ?_)))))
 refine lC 1 jk R (Zp_ok M) R ?_
 rintro ⟨j,a3,l⟩
 refine aL 0 aB ?_
 rintro rfl
 refine aC (aG (sL [2,1,0]) (dR 10 R (vz (.agg [(sc m g q),(sc j i l),(iv v1.Offset),(iv v1.Base)].toArray) (aX fD cY R R)) (hS:=(sL [2,1,0])) (d1 12 R (aK 1 R R cG R R R R R R (lN (_::aJ E [(sc m g q),(sc j i l),(iv v1.Offset),(iv v1.Base)] 96::_::_::_::_::_::W1) ?_)))))
 refine aC (aG (sL [2,1,0]) (dD ?_))
 exact cS ((),(E,(m,g.length,q),(j,i.length,l))) trivial (aS R) (tE 7 [4,5,6,3,1,2,0])
 refine bF R R cY (fun E=>(aC (aG (sL [0]) (d1 2 R (lM _ (fun w s=>(s.d 6 R)) ?_)))))
 refine lC 1 jk R (Zp_ok a1) R ?_
 rintro ⟨m,ae,q⟩
 refine aL 0 aB ?_
 rintro rfl
 refine aC (aG (sL [1,0]) (d1 5 R (lM _ (fun w s=>(s.d 8 R)) ?_)))
 refine lC 1 jk R (Zp_ok M) R ?_
 rintro ⟨j,a3,l⟩
 refine aL 0 aB ?_
 rintro rfl
 refine aC (aG (sL [2,1,0]) (dR 10 R (vz (.agg [(sc m g q),(sc j i l),(iv v1.Offset),(iv v1.Base)].toArray) (aX fD cY R R)) (hS:=(sL [2,1,0])) (d1 12 R (aK 2 R R cG R R R R R R (lN (_::_::aJ E [(sc m g q),(sc j i l),(iv v1.Offset),(iv v1.Base)] 96::_::_::_::_::W1) ?_)))))
 refine aC (aG (sL [2,1,0]) (dD ?_))
 exact cS ((),(E,(m,g.length,q),(j,i.length,l))) trivial (aS R) (tE 7 [4,5,6,3,2,1,0])
 rintro ⟨_,⟨a2,⟨ak,a8,ag⟩,⟨am,aa,ah⟩⟩⟩ σ1 -
 refine hU 5 aB (fun (hn:a8=g.length)=>?_)
 subst hn
 refine hU 6 aB (fun (hn:aa=i.length)=>?_)
 subst hn
 refine aP ?_
 obtain ⟨b,a4,D⟩:=bd D
 obtain ⟨a5,a7,D⟩:=bd D
 refine iQ (A:=(Unit)×(HH×HH)) (fun _=>True) (fun a=>[(4,(pt O 0)),(5,(pt a2 0)),(28,(.bool ((!b.1)||(!a5))))]) (fun a=>aJ O [(.slice none 0 0),(.slice none 0 0),(iv 0),(iv 0)] 96::aJ a2 [(s3 a.2.1),(s3 a.2.2),(iv b.2.1.Offset),(iv b.2.1.Base)] 96::ow kT3 3 (s3 a.2.1) b.2.1.Dims::ow kT3 3 (s3 a.2.2) b.2.1.Strides::aJ b6 [(iv q5)] 3::aJ b8 [(iv q7)] 3::aJ F [(iv b.2.2)] 3::W1) ?_ ?_
 refine aE (lO (vp _ R) (lM _ (fun w s=>(s.f 7 [5,2,4,1,0,4])) ?_))
 refine cE (fs:=[]) (cs:=[(pt b6 0),(pt b8 0),(pt F 0)]) 6 R R zq R R (Z1l_ok (p1:=(⟨g,i,v1.Offset,v1.Base⟩:View)) a4) R ?_
 rintro ⟨⟨J,aj,I⟩,⟨L,al,G⟩⟩
 refine aL 0 aB ?_
 rintro rfl
 refine aL 1 aB ?_
 rintro rfl
 refine aU ?_
 rcases bo (!b.1) with u | u
 refine aP ?_
 refine lO (fC (!a5) R u) (aC ?_)
 exact cS ((),((J,b.2.1.Dims.length,I),(L,b.2.1.Strides.length,G))) trivial (aS R) (tE 7 [6,2,0,1,3,4,5])
 refine lW (cA u) (vz (.agg [(sc J b.2.1.Dims I),(sc L b.2.1.Strides G),(iv b.2.1.Offset),(iv b.2.1.Base)].toArray) (dT 2 gI cG R R R R)) (bX 2 R (cA u) ms R (FnOk.lends (A':=[OO kT3 3 J I b.2.1.Dims,OO kT3 3 L G b.2.1.Strides]) (A:=[RR kT3 J I b.2.1.Dims,RR kT3 L G b.2.1.Strides]) (B:=[]) (Zh_ok (bN a7 (cT u))) ⟨aV,aV,trivial⟩ (fun _=>trivial)) R ?_)
 rintro _
 refine bU ?_
 refine lO (fU R u R) (aC ?_)
 exact cS ((),((J,b.2.1.Dims.length,I),(L,b.2.1.Strides.length,G))) trivial (aS R) (tE 7 [6,2,0,1,3,4,5])
 rintro ⟨_,⟨⟨T,a9,U⟩,⟨Z,ab,Y⟩⟩⟩ σ1 -
 refine hU 2 aB (fun (hn:a9=b.2.1.Dims.length)=>?_)
 subst hn
 refine hU 3 aB (fun (hn:ab=b.2.1.Strides.length)=>?_)
 subst hn
 refine bU ?_
 rcases cO D with ⟨a0,D⟩|⟨a0,D⟩
 refine aP ?_
 refine lO (vz (.agg [(.slice none 0 0),(.slice none 0 0),(iv 0),(iv 0)].toArray) (aX fD cY R R)) (aK 0 R R cG R R R R R R (lN (_::aJ a2 [(sc T b.2.1.Dims U),(sc Z b.2.1.Strides Y),(iv b.2.1.Offset),(iv b.2.1.Base)] 96::OO kT3 3 T U b.2.1.Dims::OO kT3 3 Z Y b.2.1.Strides::_::_::_::W1) ?_))
 refine bG ?_
 cases D
 exact qS ((none,0,0),(none,0,0)) (fun w s=>(((s.nilo kT3 3).nilo kT3 3).e 12 [1,0,6,7,8]))
 refine bM R a0 ?_
 refine bZ ?_
 refine aK 0 R R cG R R R R R R (lN (aJ O [(sc T b.2.1.Dims U),(sc Z b.2.1.Strides Y),(iv b.2.1.Offset),(iv b.2.1.Base)] 96::_::_::_::_::_::_::W1) ?_)
 refine aP ?_
 cases D
 exact qS ((T,b.2.1.Dims.length,U),(Z,b.2.1.Strides.length,Y)) (fun w s=>(s.f 10 [2,5]))
theorem Z2g_ok  {v1:View}{b:Int}{g:Int}{a:Int}{r:View}(q:Z2g v1 b g a=some r) :
 FnOk Tryz.prog 161 [(.agg [(.slice A2 N2 D2),(.slice A3 N3 D3),(iv v1.Offset),(iv v1.Base)].toArray),(iv b),(iv g),(iv a)] [aN kT3 (.slice A2 N2 D2) v1.Dims,aN kT3 (.slice A3 N3 D3) v1.Strides] (fun (h:HH×HH)=>((.agg [(s3 h.1),(s3 h.2),(iv r.Offset),(iv r.Base)].toArray),[ow kT3 3 (s3 h.1) r.Dims,ow kT3 3 (s3 h.2) r.Strides])):=by
 unfold Z2g at q
 refine aQ Tryz.func161 R 12 R R fun C V=>?_
 refine cL 0 aA ?_
 rintro rfl
 refine cL 1 aA ?_
 rintro rfl
 let D:=RR kT3 A2 D2 v1.Dims::RR kT3 A3 D3 v1.Strides::V
 refine cN D ?_
 refine aU ?_
 refine eF R fun J=>?_
 refine eZ (cs:=[(iv b)]) R R R (fun F=>(eZ (cs:=[(iv g)]) R R R (fun E=>(eZ (cs:=[(iv a)]) R R R (fun B=>(bF R R cY (fun u=>(aC ?_))))))))
 let G:=aJ J [(sc A2 v1.Dims D2),(sc A3 v1.Strides D3),(iv v1.Offset),(iv v1.Base)] 96::D
 refine aU ?_
 obtain ⟨i,l,q⟩:=bd q
 refine aU ?_
 refine lO (vp (.func (.func 169) [].toArray [(pt F 0),(pt E 0),(pt B 0)].toArray) R) (lM _ (fun w s=>(((s.d 5 R).d 7 R).e 6 [1,0,5,4,3,2])) ?_)
 refine lC 5 sB R (Z39_ok l) R ?_
 rintro ⟨⟨A14,N14,D14⟩,⟨j,I,m⟩⟩
 refine aL 0 aB ?_
 rintro rfl
 refine aL 1 aB ?_
 rintro rfl
 refine aK 5 R R cG R R R R R R (lN (_::_::_::_::_::aJ u [(sc A14 i.1.Dims D14),(sc j i.1.Strides m),(iv i.1.Offset),(iv i.1.Base)] 96::G) ?_)
 refine aP ?_
 cases q
 exact qS ((A14,i.1.Dims.length,D14),(j,i.1.Strides.length,m)) (tE 9 [0,1])
theorem Z1e_ok  {l:Node}{F:(List Int)}{r:View}(i:Z1e l F=some r) :
 FnOk Tryz.prog 146 [(.agg [(iv l.Op),(.slice A2 N2 D2),(.slice A3 N3 D3),(.slice A4 N4 D4),(aD l.Form),(.slice A5 N5 D5)].toArray),(.slice A7 N7 D7)] [aN kT3 (.slice A2 N2 D2) l.Args,aN kT3 (.slice A3 N3 D3) l.Dims,aN kT3 (.slice A4 N4 D4) l.Ints,aN kT3 (.slice A5 N5 D5) l.Data,aN kT3 (.slice A7 N7 D7) F] (fun (h:HH×HH)=>((.agg [(.slice h.1.1 h.1.2.1 h.1.2.2),(.slice h.2.1 h.2.2.1 h.2.2.2),(iv r.Offset),(iv r.Base)].toArray),[aN kT3 (.slice h.1.1 h.1.2.1 h.1.2.2) r.Dims,aN kT3 (.slice h.2.1 h.2.2.1 h.2.2.2) r.Strides])):=by
 unfold Z1e at i
 refine aQ Tryz.func146 R 76 R R fun C V=>?_
 refine cN (_::_::_::_::_::V) ?_
 refine cL 0 aA ?_
 rintro rfl
 refine cL 1 aA ?_
 rintro rfl
 refine cL 2 aA ?_
 rintro rfl
 refine cL 3 aA ?_
 rintro rfl
 refine cL 4 aA ?_
 rintro rfl
 let W0:List HP:=RR kT3 A2 D2 l.Args::RR kT3 A3 D3 l.Dims::RR kT3 A4 D4 l.Ints::RR kT3 A5 D5 l.Data::RR kT3 A7 D7 F::V
 refine cN W0 ?_
 refine aO (aE (eF R (fun b8=>(bF R R cY (fun I=>(aC ?_))))))
 let G:List HP:=aJ b8 [(iv l.Op),(sc A2 l.Args D2),(sc A3 l.Dims D3),(sc A4 l.Ints D4),(aD l.Form),(sc A5 l.Data D5)] 54::W0
 refine qN (_::G) ?_
 refine aI (aO ?_)
 obtain ⟨a,al,i⟩:=bd i
 refine aE (lS R (lM (RR kT3 A7 D7 F::_::G) (fun w s=>(s.d 6 R)) ?_))
 refine lC 1 zj R (Z2p_ok al) R ?_
 rintro ⟨⟨A12,N12,D12⟩,⟨m,aq,q⟩⟩
 refine lN (ow kT3 3 (.slice A12 N12 D12) a.Dims::ow kT3 3 (.slice m aq q) a.Strides::_::G) ?_
 refine aL 0 aB ?_
 rintro rfl
 refine aL 1 aB ?_
 rintro rfl
 refine bF R R cY (fun L=>(aK 0 R R cG R R R R R R (lN (aJ L [(sc A12 a.Dims D12),(sc m a.Strides q),(iv a.Offset),(iv a.Base)] 96::_::_::_::G) ?_)))
 refine aC (aI (aO (dJ (aO (aE (lO (fP 0 ji R) (lO (fW 4 fQ R R R) (lO (ly R R) (lB R (aC (aI ?_)))))))))))
 rcases cO i with ⟨U,i⟩|⟨U,i⟩
 refine cC R U (aO ?_)
 obtain ⟨u,aj,i⟩:=bd i
 refine aE (lO (vz (.agg [(sc A12 a.Dims D12),(sc m a.Strides q),(iv a.Offset),(iv a.Base)].toArray) (dT 0 gI cG R R R R)) (lO (fP 2 kl R) (lO (fW 4 cJ R R R) (iP (fun w s=>s.shr 1 R) (iP (fun w s=>s.shr 2 R) (lM (RR kT3 A12 D12 a.Dims::RR kT3 m q a.Strides::RR kT3 A3 D3 l.Dims::RR kT3 m q a.Strides::RR kT3 A12 D12 a.Dims::aJ _ _ _::aJ _ _ _::G) (fun w s=>((((s.d 1 R).d 1 R).d 8 R).e 7 [2,1,0,3,4,5,6])) ?_))))))
 refine lC 3 zm R (Z2f_ok aj) R ?_
 rintro ⟨⟨Z,ar,a3⟩,⟨a4,au,a7⟩⟩
 refine lN (aN kT3 (.slice Z ar a3) u.Dims::aN kT3 (.slice a4 au a7) u.Strides::_::_::_::_::G) ?_
 refine aL 0 aA ?_
 rintro rfl
 refine aL 1 aA ?_
 rintro rfl
 refine aK 5 R R cG R R R R R R (lN (_::_::_::_::_::aJ I [(sc Z u.Dims a3),(sc a4 u.Strides a7),(iv u.Offset),(iv u.Base)] 96::G) ?_)
 refine aC (aI (bY (dC (cF ?_))))
 obtain rfl:=so i
 exact dI (vs:=[(.agg [(sc Z u.Dims a3),(sc a4 u.Strides a7),(iv u.Offset),(iv u.Base)].toArray)]) (.inl R) ((Z,u.Dims.length,a3),(a4,u.Strides.length,a7)) R ⟨⟨5,I,_,_,R,R,.inl ⟨gI,cG,R⟩⟩,trivial⟩ R (fun w s=>(s.e 12 [0,1]))
 refine bM R U (aO ?_)
 obtain ⟨T,i⟩:=gd i
 refine cQ [(2,(pt b8 0)),(4,(pt I 0)),(5,(pt L 0)),(16,(.bool (((l.Op==(14:Int))&&((l.Ints.length:Int)==(4:Int)))&&(decide ((ix l.Ints (3:Int))≥(1:Int))))))] (aJ I [(.slice none 0 0),(.slice none 0 0),(iv 0),(iv 0)] 96::aJ L [(sc A12 a.Dims D12),(sc m a.Strides q),(iv a.Offset),(iv a.Base)] 96::OO kT3 3 A12 D12 a.Dims::OO kT3 3 m q a.Strides::G) ?_ ?_
 refine aE (lO (fP 0 ji R) (lO (fW 4 fQ R R R) (lO (ly R R) (lB R ?_))))
 rcases bo (l.Op==(14:Int)) with b | b
 refine lW (eH b) (fP 3 gT R) (lW (eH b) (fW 4 cJ R R R) (lW (eH b) (kc bI R) (lW (eH b) (ly R R) (lO (iV R b R) (lB R ?_)))))
 rcases bo ((l.Op==(14:Int))&&((l.Ints.length:Int)==(4:Int))) with g | g
 refine lW (eH g) (fP 3 gT R) (lW (eH g) (fW 4 cJ R R R) (bA 7 aA (show 0<l.Ints.length by have:=(T g); omega) (fun aw o22 ha=>?_)))
 subst ha
 refine lW (eH g) (eL bI cB R R (T g)) (lW (eH g) (gO 7 fQ aA R (T g)) (lW (eH g) (Ai R R) (lO (iV R g R) (lB R (aC ?_)))))
 exact qJ (fun w s=>(s.e 4 [3,0,1,2]))
 refine lf (nt g) (lf (nt g) (lf (nt g) (lf (nt g) (lf (nt g) (lO (kf (decide ((ix l.Ints (3:Int))≥(1:Int))) R g) (lB R (aC ?_)))))))
 exact qJ (fun w s=>(s.e 4 [3,0,1,2]))
 refine lf (nt b) (lf (nt b) (lf (nt b) (lf (nt b) (lO (kf ((l.Ints.length:Int)==(4:Int)) R b) (lB R (lf (nt (aF b)) (lf (nt (aF b)) (lf (nt (aF b)) (lf (nt (aF b)) (lf (nt (aF b)) (lO (kf (decide ((ix l.Ints (3:Int))≥(1:Int))) R (aF b)) (lB R (aC ?_)))))))))))))
 exact qJ (fun w s=>(s.e 4 [3,0,1,2]))
 rintro σ1
 refine aI ?_
 rcases cO i with ⟨J,i⟩|⟨J,i⟩
 refine cC R J (aO ?_)
 obtain ⟨M,i⟩:=gd i
 obtain ⟨ag,i⟩:=gd i
 obtain ⟨ah,i⟩:=gd i
 obtain ⟨ae,i⟩:=gd i
 obtain ⟨E,ai,i⟩:=bd i
 refine bB 7 aA (show 0<l.Ints.length by have:=M; omega) (fun av o28 ha=>?_)
 subst ha
 refine dF 19 [0] bP (fun ht hn=>(dR 0 R (vz (.agg [(sc A12 a.Dims D12),(sc m a.Strides q),(iv a.Offset),(iv a.Base)].toArray) (dT 0 gI cG R R R R)) (hS:=(sL [0])) (dR 1 R (fP 3 gT R) (hS:=(sL [0])) (dR 2 R (fW 3 cJ R R R) (hS:=(sL [0])) (dR 3 R (eL bI cB R R M) (hS:=(sL [0])) (dR 4 R (gO 6 fQ aA R M) (hS:=(sL [0])) (dR 5 R (fP 3 gT R) (hS:=(sL [0])) (dR 6 R (fW 3 cJ R R R) (hS:=(sL [0])) (dR 7 R (eL bI cB R R ag) (hS:=(sL [0])) (dR 8 R (gO 6 fQ aA R ag) (hS:=(sL [0])) (dR 9 R (fP 3 gT R) (hS:=(sL [0])) (dR 10 R (fW 3 cJ R R R) (hS:=(sL [0])) (dR 11 R (eL bI cB R R ah) (hS:=(sL [0])) (dR 12 R (gO 6 fQ aA R ah) (hS:=(sL [0])) (dR 13 R (fP 3 gT R) (hS:=(sL [0])) (dR 14 R (fW 3 cJ R R R) (hS:=(sL [0])) (dR 15 R (eL bI cB R R ae) (hS:=(sL [0])) (dR 16 R (gO 6 fQ aA R ae) (hS:=(sL [0])) (d1 17 R (lM (OO kT3 3 A12 D12 a.Dims::OO kT3 3 m q a.Strides::aJ I [(.slice none 0 0),(.slice none 0 0),(iv 0),(iv 0)] 96::aJ _ _ _::G) (fun w s=>(s.e 4 [2,3,0,1])) ?_))))))))))))))))))))
 refine lC 2 zo R (FnOk.lends (A':=[OO kT3 3 A12 D12 a.Dims,OO kT3 3 m q a.Strides]) (A:=[RR kT3 A12 D12 a.Dims,RR kT3 m q a.Strides]) (B:=[]) (Z2e_ok ai) ⟨aV,aV,trivial⟩ (fun _=>⟨(bH iM),(bH iM),trivial⟩)) R ?_
 rintro ⟨⟨a9,ao,a8⟩,⟨aa,am,a6⟩⟩
 refine lN (_::_::ow kT3 3 (.slice a9 ao a8) E.Dims::ow kT3 3 (.slice aa am a6) E.Strides::_::_::G) ?_
 refine aL 2 aB ?_
 rintro rfl
 refine aL 3 aB ?_
 rintro rfl
 refine aC (aG (fun w s=>(s.e 6 [5,0,1])) (d1 18 R (aK 4 R R cG R R R R R R (lN (_::_::_::_::aJ I [(sc a9 E.Dims a8),(sc aa E.Strides a6),(iv E.Offset),(iv E.Base)] 96::_::G) ?_))))
 refine aC (aG (fun w s=>(s.e 6 [5,0,1])) (dD (aI (bY (dC (cF ?_))))))
 obtain rfl:=so i
 exact dI (vs:=[(.agg [(sc a9 E.Dims a8),(sc aa E.Strides a6),(iv E.Offset),(iv E.Base)].toArray)]) (.inl R) ((a9,E.Dims.length,a8),(aa,E.Strides.length,a6)) R ⟨⟨4,I,_,_,R,R,.inl ⟨gI,cG,R⟩⟩,trivial⟩ R (fun w s=>(((s.shr 2 R).shr 3 R).e 12 [1,0]))
 refine bM R J (aO (cQ [(2,(pt b8 0)),(4,(pt I 0)),(5,(pt L 0)),(51,(.bool ((l.Op==(18:Int))&&((l.Ints.length:Int)==(3:Int)))))] (aJ I [(.slice none 0 0),(.slice none 0 0),(iv 0),(iv 0)] 96::aJ L [(sc A12 a.Dims D12),(sc m a.Strides q),(iv a.Offset),(iv a.Base)] 96::OO kT3 3 A12 D12 a.Dims::OO kT3 3 m q a.Strides::G) ?_ ?_))
 refine aE (lO (fP 0 ji R) (lO (fW 4 fQ R R R) (lO (ly R R) (lB R ?_))))
 rcases bo (l.Op==(18:Int)) with j | j
 refine lW (eH j) (fP 3 gT R) (lW (eH j) (fW 4 cJ R R R) (lW (eH j) (kc bI R) (lW (eH j) (ly R R) (lO (iV R j R) (lB R (aC ?_))))))
 exact qJ (fun w s=>s)
 refine lf (nt j) (lf (nt j) (lf (nt j) (lf (nt j) (lO (kf ((l.Ints.length:Int)==(3:Int)) R j) (lB R (aC ?_))))))
 exact qJ (fun w s=>s)
 rintro σ1
 refine aI ?_
 rcases cO i with ⟨Y,i⟩|⟨Y,i⟩
 refine cC R Y (aO ?_)
 obtain ⟨O,i⟩:=gd i
 obtain ⟨ab,i⟩:=gd i
 obtain ⟨ac,i⟩:=gd i
 obtain ⟨D,ak,i⟩:=bd i
 refine bB 7 aA (show 0<l.Ints.length by have:=O; omega) (fun ax o40 ha=>?_)
 subst ha
 refine dF 15 [0] bP (fun ht hn=>(dR 0 R (vz (.agg [(sc A12 a.Dims D12),(sc m a.Strides q),(iv a.Offset),(iv a.Base)].toArray) (dT 0 gI cG R R R R)) (hS:=(sL [0])) (dR 1 R (fP 3 gT R) (hS:=(sL [0])) (dR 2 R (fW 3 cJ R R R) (hS:=(sL [0])) (dR 3 R (eL bI cB R R O) (hS:=(sL [0])) (dR 4 R (gO 6 fQ aA R O) (hS:=(sL [0])) (dR 5 R (fP 3 gT R) (hS:=(sL [0])) (dR 6 R (fW 3 cJ R R R) (hS:=(sL [0])) (dR 7 R (eL bI cB R R ab) (hS:=(sL [0])) (dR 8 R (gO 6 fQ aA R ab) (hS:=(sL [0])) (dR 9 R (fP 3 gT R) (hS:=(sL [0])) (dR 10 R (fW 3 cJ R R R) (hS:=(sL [0])) (dR 11 R (eL bI cB R R ac) (hS:=(sL [0])) (dR 12 R (gO 6 fQ aA R ac) (hS:=(sL [0])) (d1 13 R (lM (ow _ _ _ _::ow _ _ _ _::aJ I [(.slice none 0 0),(.slice none 0 0),(iv 0),(iv 0)] 96::aJ _ _ _::G) (fun w s=>(s.e 4 [2,3,0,1])) ?_))))))))))))))))
 refine lC 2 zr R (FnOk.lends (A':=[OO kT3 3 A12 D12 a.Dims,OO kT3 3 m q a.Strides]) (A:=[RR kT3 A12 D12 a.Dims,RR kT3 m q a.Strides]) (B:=[]) (Z2g_ok ak) ⟨aV,aV,trivial⟩ (fun _=>⟨(bH iM),(bH iM),trivial⟩)) R ?_
 rintro ⟨⟨a2,ap,a5⟩,⟨a0,an,a1⟩⟩
 refine lN (_::_::ow kT3 3 (.slice a2 ap a5) D.Dims::ow kT3 3 (.slice a0 an a1) D.Strides::_::_::G) ?_
 refine aL 2 aB ?_
 rintro rfl
 refine aL 3 aB ?_
 rintro rfl
 refine aC (aG (fun w s=>(s.e 6 [5,0,1])) (d1 14 R (aK 4 R R cG R R R R R R (lN (_::_::_::_::aJ I [(sc a2 D.Dims a5),(sc a0 D.Strides a1),(iv D.Offset),(iv D.Base)] 96::_::G) ?_))))
 refine aC (aG (fun w s=>(s.e 6 [5,0,1])) (dD (aI (bY (dC (cF ?_))))))
 obtain rfl:=so i
 exact dI (vs:=[(.agg [(sc a2 D.Dims a5),(sc a0 D.Strides a1),(iv D.Offset),(iv D.Base)].toArray)]) (.inl R) ((a2,D.Dims.length,a5),(a0,D.Strides.length,a1)) R ⟨⟨4,I,_,_,R,R,.inl ⟨gI,cG,R⟩⟩,trivial⟩ R (fun w s=>(((s.shr 2 R).shr 3 R).e 12 [1,0]))
 refine bM R Y (dE (dY (aI (aO (aE (lO (vz (.agg [(.slice none 0 0),(.slice none 0 0),(iv 0),(iv 0)].toArray) (aX fD cY R R)) (aK 0 R R cG R R R R R R (lN (aJ I [(.slice none 0 0),(.slice none 0 0),(iv 0),(iv 0)] 96::_::_::_::G) ?_))))))))
 refine aC (aI (bY ?_))
 obtain rfl:=so i
 exact dI (vs:=[(.agg [(.slice none 0 0),(.slice none 0 0),(iv 0),(iv 0)].toArray)]) (.inl R) ((none,0,0),(none,0,0)) R ⟨⟨0,I,_,_,R,R,.inl ⟨gI,cG,R⟩⟩,trivial⟩ R (fun w s=>(((s.nilr kT3).nilr kT3).e 12 [1,0]))
theorem Z36_ok  {e:(List Int)}{a:(List Int)}{b:Int}{r:(List Int)×Int×(List Int)}(m:Z36 e a b=some r) :
 FnOk Tryz.prog 157 [(.slice A2 N2 D2),(.slice A4 N4 D4),(iv b)] [aN kT3 (.slice A2 N2 D2) e,aN kT3 (.slice A4 N4 D4) a] (fun (h:HH×Nat×Nat×HH×Nat)=>((.func (.func 163) [].toArray [(pt h.2.1 0),(pt h.2.2.1 0),(pt h.2.2.2.2 0)].toArray),[aN kT3 (s3 h.1) r.1,aJ h.2.1 [(s3 h.1)] 23,aJ h.2.2.1 [(iv r.2.1)] 3,aN kT3 (s3 h.2.2.2.1) r.2.2,aJ h.2.2.2.2 [(s3 h.2.2.2.1)] 23])):=by
 unfold Z36 at m
 refine aQ Tryz.func157 R 8 R R fun C V=>?_
 refine cL 0 aA ?_
 rintro rfl
 refine cL 1 aA ?_
 rintro rfl
 let l:=RR kT3 A2 D2 e::RR kT3 A4 D4 a::V
 refine cN l ?_
 refine aU ?_
 refine eZ (cs:=[(sc A2 e D2)]) R R R (fun i=>(eZ (cs:=[(sc A4 a D4)]) R R R (fun j=>(eZ (cs:=[(iv b)]) R R R (fun g=>(lO (vp _ R) (aC ?_)))))))
 let q:=aJ g [(iv b)] 3::aJ j [(sc A4 a D4)] 23::aJ i [(sc A2 e D2)] 23::l
 refine qN q ?_
 refine aP ?_
 refine lO (vp (.func (.func 163) [].toArray [(pt i 0),(pt g 0),(pt j 0)].toArray) R) (lO (vp _ R) ?_)
 refine aP ?_
 cases m
 exact qF ((A2,e.length,D2),i,g,(A4,a.length,D4),j) (tE 5 [3,2,0,4,1])
theorem Z05_ok  {J:Type}{YF:J→Int→Option (J×Bool)}{i:J}{l:(List Int)}{p5:Int}{L:(List Int)}{F:Nat}{b6:Nat}{G:Nat}{YE:J→HP}{yl:Nat}(hy:∀ s x q,YF s x=some q→Aw Tryz.prog yl [.int .i64 x] [YE s] (fun _:Unit=>(.bool q.2,[YE q.1]))){r:J}(b:Z05 J YF i l p5 L=some r) :
 FnOk Tryz.prog 163 [(.func (.yield yl) #[] #[]),(pt F 0),(pt b6 0),(pt G 0)] [YE i,aN kT3 (.slice A4 N4 D4) l,aJ F [(.slice A4 N4 D4)] 23,aJ b6 [(iv p5)] 3,aN kT3 (.slice A9 N9 D9) L,aJ G [(.slice A9 N9 D9)] 23] (fun (h:Unit)=>((.tuple [].toArray),[YE r,aJ F [(.slice A4 N4 D4)] 23,aJ b6 [(iv p5)] 3,aJ G [(.slice A9 N9 D9)] 23])):=by
 unfold Z05 at b
 refine aQ Tryz.func163 R 60 R R fun C V=>?_
 refine cM (YE i::aJ _ _ _::aJ _ _ _::aJ _ _ _::aN _ _ _::aN _ _ _::V) (tE 6 [0,2,3,5,1,4]) ?_
 refine cL 4 aA ?_
 rintro rfl
 refine cL 5 aA ?_
 rintro rfl
 let W0:=RR kT3 A4 D4 l::RR kT3 A9 D9 L::V
 refine bU ?_
 obtain ⟨B,b⟩:=gd b
 refine aP ?_
 refine fI (K:=kT3) (m:=(l.length:Int)) (z:=(0:Int)) R R bI cB jZ (Zr.zk zT3 f') (by decide) R R B.1 B.2.1 B.2.2 (fun A11 D11=>(lS R (aC ?_)))
 let M:=aJ F [(sc A4 l D4)] 23::aJ b6 [(iv p5)] 3::aJ G [(sc A9 L D9)] 23::W0
 refine cV ?_
 obtain ⟨e1,a9,a1⟩:=bd b
 refine bD (A:=Unit) a9 (fun s a=>[(0,(.func (.yield yl) #[] #[])),(1,(pt F 0)),(3,(pt G 0)),(5,(sc A11 (List.replicate (l.length:Int).toNat (0:Int)) D11)),(6,(iv s.2.1))]) (fun s a=>ow kT3 3 (.slice A11 (List.replicate (l.length:Int).toNat (0:Int)).length D11) s.1::YE s.2.2::M) () (aS R) tI ?_
 rintro ⟨D,ac,a8⟩ _ σ1 a4 b Y
 dsimp only [Z05_L1] at b
 refine aP ?_
 obtain ⟨E,O,b⟩:=bd b
 refine ww 2 R (fun _ _ h=>h) (lO (vp (.func (.yield yl) #[] #[]) R) (lI R (lM (YE a8::ow kT3 3 (.slice A11 (List.replicate (l.length:Int).toNat (0:Int)).length D11) D::M) (tE 2 [1,0]) ?_)))
 refine aC (uc 1 R R (hy _ _ _ O) R (fun _ _ h=>h) R (fun _=>(lN (YE E.1::_::M) ?_)))
 refine aP ?_
 split at b
 refine bG ?_
 cases b
 obtain rfl:=Y _ R
 have b:=a1
 refine aU ?_
 cases b
 exact Aj () (tE 7 [0,2,3,4])
 refine hH ?_
 refine aZ (A:=((List Int)×Int×Int)×(Unit)) (fun a=>Z05_J2 J YF E a.1.1 a.1.2.1 a.1.2.2=some a4) (fun a=>[(0,(.func (.yield yl) #[] #[])),(1,(pt F 0)),(3,(pt G 0)),(5,(sc A11 (List.replicate (l.length:Int).toNat (0:Int)) D11)),(6,(iv a.1.2.1)),(7,(iv a.1.2.2))]) (fun a=>ow kT3 3 (.slice A11 (List.replicate (l.length:Int).toNat (0:Int)).length D11) a.1.1::YE E.1::M) ?_ ?_
 refine bU ?_
 obtain ⟨e2,a6,U⟩:=bd b
 refine bD (A:=Unit) a6 (fun s a=>[(0,(.func (.yield yl) #[] #[])),(1,(pt F 0)),(3,(pt G 0)),(5,(sc A11 (List.replicate (l.length:Int).toNat (0:Int)) D11)),(6,(iv s.2.1)),(7,(iv s.2.2))]) (fun s a=>ow kT3 3 (.slice A11 (List.replicate (l.length:Int).toNat (0:Int)).length D11) s.1::YE E.1::M) () (aS R) (tE 2 [1,0]) ?_
 rintro ⟨e,a2,g⟩ _ σ1 aa b a3
 dsimp only [Z05_L2] at b
 refine dG ?_
 split at b
 refine bT ?_
 obtain ⟨j,b⟩:=gd b
 refine aP ?_
 refine bA 0 aB (show 0<(List.replicate (l.length:Int).toNat (0:Int)).length by have:=j; omega) (fun a5 o80 ha=>?_)
 subst ha
 refine bG ?_
 refine eA (K:=kT3) (x':=(aH ((ix e g)+1))) 0 g R R cB R R j.1 j.2 ?_ ?_
 exact fun I h s=>(fZ).put I h () (aH ((ix e g)+1)) s
 refine aP ?_
 obtain ⟨T,b⟩:=gd b
 refine bG ?_
 refine bA 6 aA (show 0<L.length by have:=T; omega) (fun ae o83 ha=>?_)
 subst ha
 refine cV ?_
 obtain ⟨a0,b⟩:=gd b
 refine bB 5 aA (show 0<l.length by have:=a0; omega) (fun ab o86 ha=>?_)
 subst ha
 refine dF 9 [] bP fun ht hn=>?_
 refine vr 0 [] ?_
 refine dD (aI ?_)
 split at b
 refine aP ?_
 refine rJ R (eD ?_)
 cases b
 obtain rfl:=a3 _ R
 have b:=U
 refine aU ?_
 exact qI (((e.set g.toNat (aH ((ix e g)+1))),(aH (a2+(ix L g))),g),()) b tI
 refine bG ?_
 refine dF 12 [] bP fun ht hn=>?_
 refine uh 0 [] ?_
 refine dD ?_
 refine bZ ?_
 refine eA (K:=kT3) (x':=(0:Int)) 0 g R R cB R R j.1 j.2 ?_ ?_
 exact fun I h s=>(fZ).put I h () (0:Int) s
 refine bU ?_
 obtain ⟨a7,u,b⟩:=bd b
 replace u:=Option.some.inj u
 refine qM (ow kT3 3 (.slice (ad a5 o80) (List.replicate (l.length:Int).toNat (0:Int)).length D11) a7::_::M) (fun w s=>by rw [← u]; exact s) ?_
 refine dG ?_
 cases b
 exact qA () tI
 refine aP ?_
 cases b
 obtain rfl:=a3 _ R
 have b:=U
 refine aU ?_
 exact qI ((e,a2,g),()) b tI
 rintro ⟨⟨Z,ah,ag⟩,_⟩ σ1 b
 dsimp only [Z05_J2] at b
 refine bT ?_
 split at b
 refine aP ?_
 cases b
 obtain rfl:=Y _ R
 have b:=a1
 refine aU ?_
 cases b
 exact Aj () (fun w s=>(s.f 7 [1,4]))
 refine aP ?_
 cases b
 exact qA () tI
theorem Z2h_ok  {v1:View}{r:(List Int)×(List pair)×Bool}(j:Z2h v1=some r) :
 FnOk Tryz.prog 145 [(.agg [(.slice A2 N2 D2),(.slice A3 N3 D3),(iv v1.Offset),(iv v1.Base)].toArray)] [aN kT3 (.slice A2 N2 D2) v1.Dims,aN kT3 (.slice A3 N3 D3) v1.Strides] (fun (h:HH×HH)=>((.tuple [(s3 h.1),(s3 h.2),(.bool r.2.2)].toArray),[aN kT3 (s3 h.1) r.1,ow kT161 161 (s3 h.2) r.2.1])):=by
 unfold Z2h at j
 refine wx Tryz.func145 R 29 R R fun C V=>?_
 refine cL 0 aA ?_
 rintro rfl
 refine cL 1 aA ?_
 rintro rfl
 refine aU ?_
 refine eF R fun b4=>?_
 refine dG ?_
 obtain ⟨r5,a5,j⟩:=bd j
 refine aU ?_
 refine lM _ (fun w s=>(((s.d 1 R).d 3 R).e 5 [1,0,2,3,4])) ?_
 refine lC 2 ms R (Zh_ok a5) R ?_
 rintro _
 refine aP ?_
 split at j
 refine cP ?_
 cases j
 exact hW ((none,0,0),(none,0,0)) (fun w s=>(((s.nilr kT3).nilo kT161 161).e 5 [1,0]))
 refine bZ ?_
 refine bK (K:=kT161) (xs:=([]:List pair)) (vs:=[]) 0 R R fA fB eO R R R R R R ?_ R (fun A8 D8=>?_)
 exact fun I h s=>(iZ).list [] I h s
 refine bF R R zt (fun O=>(cK 0 R R sD R R R R R (lN (aJ O [(sc A8 ([]:List pair) D8)] 147::_::_::_::_::V) ?_)))
 refine aU ?_
 refine wz ?_
 obtain ⟨g,a3,j⟩:=bd j
 refine dG ?_
 refine lM _ (fun w s=>(((s.d 3 R).d 5 R).f 7 [1,1,0,1,2,5])) ?_
 refine lC 2 zu R (Z36_ok a3) R ?_
 rintro ⟨⟨m,a8,u⟩,Y,J,⟨B,a6,D⟩,T⟩
 refine aL 0 aA ?_
 rintro rfl
 refine aL 3 aA ?_
 rintro rfl
 refine bU ?_
 obtain ⟨F,a2,j⟩:=bd j
 let Ef:Nat→Loop→((List pair))→HP:=fun l G s=>pe fun a:HH=>tT l G::[aJ b4 [(sc A2 v1.Dims D2),(sc A3 v1.Strides D3),(iv v1.Offset),(iv v1.Base)] 96,RR kT3 A2 D2 v1.Dims,RR kT3 A3 D3 v1.Strides,aJ O [(s3 a)] 147,ow kT161 161 (s3 a) s]
 refine ue (Wc:=[RR kT3 m u g.1,aJ Y [(sc m g.1 u)] 23,aJ J [(iv g.2.1)] 3,RR kT3 B D g.2.2,aJ T [(sc B g.2.2 D)] 23,aJ O [(sc A8 ([]:List pair) D8)] 147,OO kT161 161 A8 D8 ([]:List pair),aJ b4 [(sc A2 v1.Dims D2),(sc A3 v1.Strides D3),(iv v1.Offset),(iv v1.Base)] 96,RR kT3 A2 D2 v1.Dims,RR kT3 A3 D3 v1.Strides]) (E:=fun l G=>Ef l G ([]:List pair)) (E':=fun l G=>Ef l G F) (Pre':=[RR kT3 m u g.1,aJ Y [(sc m g.1 u)] 23,aJ J [(iv g.2.1)] 3,RR kT3 B D g.2.2,aJ T [(sc B g.2.2 D)] 23]) (W3:=[]) (cp:=fun (_:Unit)=>[aJ Y [(sc m g.1 u)] 23,aJ J [(iv g.2.1)] 3,aJ T [(sc B g.2.2 D)] 23]) (Wd:=fun a:HH=>[aJ b4 [(sc A2 v1.Dims D2),(sc A3 v1.Strides D3),(iv v1.Offset),(iv v1.Base)] 96,RR kT3 A2 D2 v1.Dims,RR kT3 A3 D3 v1.Strides,aJ O [(s3 a)] 147,ow kT161 161 (s3 a) F]) R R zx (fun V w l G s=>St.pei (A8,([]:List pair).length,D8) ((s.f 11 [0,1,8,3,6,2,1,5]))) ?_ (fun V w l G x s=>let ⟨a,s⟩:=s.peo; ⟨a,s.e 9 [0,1,2,3,4,5]⟩) R ?_
 intro l G a1
 refine Z05_ok (YE:=Ef l G) (yl:=l) ?_ a2
 rintro b i q j
 dsimp only [Z3u] at j
 refine yok (fun a:HH=>[aJ b4 [(sc A2 v1.Dims D2),(sc A3 v1.Strides D3),(iv v1.Offset),(iv v1.Base)] 96,RR kT3 A2 D2 v1.Dims,RR kT3 A3 D3 v1.Strides,aJ O [(s3 a)] 147,ow kT161 161 (s3 a) b]) (fun a:HH=>[aJ b4 [(sc A2 v1.Dims D2),(sc A3 v1.Strides D3),(iv v1.Offset),(iv v1.Base)] 96,RR kT3 A2 D2 v1.Dims,RR kT3 A3 D3 v1.Strides,aJ O [(s3 a)] 147,ow kT161 161 (s3 a) q.1]) a1 R R R ?_
 rintro ⟨Z,a4,L⟩
 apply Exists.intro
 intro C V
 refine ⟨?_,?_⟩
 refine bU ?_
 exact aC yk
 refine aL 4 aB ?_
 rintro rfl
 obtain ⟨a0,j⟩:=gd j
 refine bG ?_
 refine lO (vz (.agg [(iv i),(il b)].toArray) (aX mt eO R R)) (bK (K:=kT161) (xs:=([(⟨i,(b.length:Int)⟩:pair)]:List pair)) (vs:=[(.agg [(iv i),(il b)].toArray)]) 0 R R fA fB eO R R R R R R ?_ R (fun a9 a7=>?_))
 exact fun I h s=>(iZ).list [(((),()),(⟨i,(b.length:Int)⟩:pair))] I h s
 refine lM _ (fun w s=>(s.f 6 [5,1,0,5])) ?_
 refine eB (K:=kT161) 8796093022208 R R fA fB lu (Zr.zk zT161 eO) R R R R R R dM a0 (fun M U=>(lN (OO kT161 161 M U (b++([(⟨i,(b.length:Int)⟩:pair)]:List pair))::_::_::_::_::V) ?_))
 refine cK 4 R R sD R R R R R (lN (_::_::_::_::aJ O [(sc M (b++([(⟨i,(b.length:Int)⟩:pair)]:List pair)) U)] 147::V) ?_)
 refine bU ?_
 cases j
 exact Az (M,(b++([(⟨i,(b.length:Int)⟩:pair)]:List pair)).length,U) R (fun w s=>(s.f 5 [1,4,0,1]))
 rintro ⟨Z,a4,L⟩ Dm V
 refine cL 4 aB ?_
 rintro rfl
 refine aO (dF 6 [] bP fun ht hn=>?_)
 refine sf 0 [] ?_
 refine dD ?_
 refine aU ?_
 cases j
 exact wy (dI (vs:=[(sc A2 v1.Dims D2),(sc Z F L),(.bool true)]) (.inl R) ((A2,v1.Dims.length,D2),(Z,F.length,L)) R ⟨R,R,R,trivial⟩ R (tE 5 [1,4]))
theorem Z2u_ok  {a:Node}{b:(List Int)}{r:(List Int)×(List pair)×Bool}(g:Z2u a b=some r) :
 FnOk Tryz.prog 124 [(.agg [(iv a.Op),(.slice A2 N2 D2),(.slice A3 N3 D3),(.slice A4 N4 D4),(aD a.Form),(.slice A5 N5 D5)].toArray),(.slice A7 N7 D7)] [aN kT3 (.slice A2 N2 D2) a.Args,aN kT3 (.slice A3 N3 D3) a.Dims,aN kT3 (.slice A4 N4 D4) a.Ints,aN kT3 (.slice A5 N5 D5) a.Data,aN kT3 (.slice A7 N7 D7) b] (fun (h:HH×HH)=>((.tuple [(s3 h.1),(s3 h.2),(.bool r.2.2)].toArray),[aN kT3 (s3 h.1) r.1,ow kT161 161 (s3 h.2) r.2.1])):=by
 unfold Z2u at g
 refine aQ Tryz.func124 R 14 R R fun C V=>?_
 refine cL 0 aA ?_
 rintro rfl
 refine cL 1 aA ?_
 rintro rfl
 refine cL 2 aA ?_
 rintro rfl
 refine cL 3 aA ?_
 rintro rfl
 refine cL 4 aA ?_
 rintro rfl
 let D:=RR kT3 A2 D2 a.Args::RR kT3 A3 D3 a.Dims::RR kT3 A4 D4 a.Ints::RR kT3 A5 D5 a.Data::RR kT3 A7 D7 b::V
 refine cN D ?_
 refine aU ?_
 refine eF R fun F=>?_
 refine bG ?_
 let I:=aJ F [(iv a.Op),(sc A2 a.Args D2),(sc A3 a.Dims D3),(sc A4 a.Ints D4),(aD a.Form),(sc A5 a.Data D5)] 54::D
 refine qN I ?_
 refine aU ?_
 obtain ⟨J,i,g⟩:=bd g
 obtain ⟨l,j,g⟩:=bd g
 refine aP ?_
 refine lM _ (fun w s=>((((((s.d 1 R).d 3 R).d 5 R).d 7 R).d 9 R).e 5 [4,3,2,1,0])) ?_
 refine lC 5 zy R (Z1e_ok i) R ?_
 rintro ⟨⟨A11,N11,D11⟩,⟨A12,N12,D12⟩⟩
 refine aL 0 aA ?_
 rintro rfl
 refine aL 1 aA ?_
 rintro rfl
 refine lM _ (fun w s=>(((s.d 0 R).d 2 R).e 4 [1,0,2,3])) ?_
 refine lC 2 zz R (Z2h_ok j) R ?_
 rintro ⟨⟨m,G,u⟩,⟨q,E,B⟩⟩
 refine aL 0 aA ?_
 rintro rfl
 refine aL 1 aB ?_
 rintro rfl
 refine cU ?_
 cases g
 exact hW ((m,l.1.length,u),(q,l.2.1.length,B)) (tE 10 [0,1])
theorem Z1u_ok  {k1:shiftKind}{b:Node}{a:(List (List Int))}{r:(List Int)×Bool}(i:Z1u k1 b a=some r) :
 FnOk Tryz.prog 220 [(.agg [(aD k1.use),(.func (.func 124) [].toArray [].toArray)].toArray),(.agg [(iv b.Op),(.slice A3 N3 D3),(.slice A4 N4 D4),(.slice A5 N5 D5),(aD b.Form),(.slice A6 N6 D6)].toArray),(.slice A8 N8 D8)] [aN kT3 (.slice A3 N3 D3) b.Args,aN kT3 (.slice A4 N4 D4) b.Dims,aN kT3 (.slice A5 N5 D5) b.Ints,aN kT3 (.slice A6 N6 D6) b.Data,aN bL (.slice A8 N8 D8) a] (fun (h:HH)=>((.tuple [(s3 h),(.bool r.2)].toArray),[aN kT3 (s3 h) r.1])):=by
 unfold Z1u at i
 refine aQ Tryz.func220 R 27 R R fun C V=>?_
 refine cL 0 aA ?_
 rintro rfl
 refine cL 1 aA ?_
 rintro rfl
 refine cL 2 aA ?_
 rintro rfl
 refine cL 3 aA ?_
 rintro rfl
 refine cL 4 aA ?_
 rintro rfl
 let B:=RR kT3 A3 D3 b.Args::RR kT3 A4 D4 b.Dims::RR kT3 A5 D5 b.Ints::RR kT3 A6 D6 b.Data::RR bL A8 D8 a::V
 refine cN B ?_
 refine aU ?_
 refine eF R fun E=>?_
 refine eF R fun u=>?_
 refine aP ?_
 let T:=aJ u [(iv b.Op),(sc A3 b.Args D3),(sc A4 b.Dims D4),(sc A5 b.Ints D5),(aD b.Form),(sc A6 b.Data D6)] 54::aJ E [(aD k1.use),(.func (.func 124) [].toArray [].toArray)] 145::B
 refine qN T ?_
 refine cU ?_
 split at i
 refine cU ?_
 cases i
 exact jD (none,0,0) (fun w s=>((s.nilr kT3).e 8 [0]))
 refine bG ?_
 obtain ⟨g,i⟩:=gd i
 obtain ⟨q,j,i⟩:=bd i
 refine bB 6 aA (show 0<a.length by have:=g; omega) (fun F o14 I=>?_)
 subst I
 refine dL (K:=bL) 6 (0:Int) dT23.dec R g.1 g.2 ?_
 rintro ⟨D,L⟩
 refine dF 14 [] bP fun U Y=>?_
 refine kk 0 [] ?_
 refine dR 5 R (eJ (fo:=0) 0 cJ R R R) (d1 6 R (lM _ (fun w s=>((((((s.d 4 R).d 6 R).d 8 R).d 10 R).d 5 R).e 7 [4,3,2,1,0,5,6])) ?_))
 refine cE (fs:=[]) (cs:=[]) 5 R R zA R R (Z2u_ok j) R ?_
 rintro ⟨⟨m,M,l⟩,⟨G,O,J⟩⟩
 refine aL 0 aA ?_
 rintro rfl
 refine aL 1 aB ?_
 rintro rfl
 refine aC (aG (sL [1,0]) (dR 7 R (vT R) (hS:=(sL [1,0])) ?_))
 refine sf 8 [1,0] ?_
 refine dD ?_
 refine cP ?_
 cases i
 exact jD (m,q.1.length,l) (tE 11 [0])
theorem Z12_ok  {l:Node}{j:(List Int)}{r:(List Int)×(List pair)×Bool}(i:Z12 l j=some r) :
 FnOk Tryz.prog 125 [(.agg [(iv l.Op),(.slice A2 N2 D2),(.slice A3 N3 D3),(.slice A4 N4 D4),(aD l.Form),(.slice A5 N5 D5)].toArray),(.slice A7 N7 D7)] [aN kT3 (.slice A2 N2 D2) l.Args,aN kT3 (.slice A3 N3 D3) l.Dims,aN kT3 (.slice A4 N4 D4) l.Ints,aN kT3 (.slice A5 N5 D5) l.Data,aN kT3 (.slice A7 N7 D7) j] (fun (h:HH×HH)=>((.tuple [(s3 h.1),(s3 h.2),(.bool r.2.2)].toArray),[aN kT3 (s3 h.1) r.1,ow kT161 161 (s3 h.2) r.2.1])):=by
 unfold Z12 at i
 refine aQ Tryz.func125 R 37 R R fun C V=>?_
 refine cL 0 aA ?_
 rintro rfl
 refine cL 1 aA ?_
 rintro rfl
 refine cL 2 aA ?_
 rintro rfl
 refine cL 3 aA ?_
 rintro rfl
 refine cL 4 aA ?_
 rintro rfl
 let W0:=RR kT3 A2 D2 l.Args::RR kT3 A3 D3 l.Dims::RR kT3 A4 D4 l.Ints::RR kT3 A5 D5 l.Data::RR kT3 A7 D7 j::V
 refine cN W0 ?_
 refine aU ?_
 refine eF R fun M=>?_
 refine bG ?_
 let u:=aJ M [(iv l.Op),(sc A2 l.Args D2),(sc A3 l.Dims D3),(sc A4 l.Ints D4),(aD l.Form),(sc A5 l.Data D5)] 54::W0
 refine qN u ?_
 refine aP ?_
 obtain ⟨r9,J,i⟩:=bd i
 obtain ⟨Y,B,i⟩:=bd i
 obtain ⟨a0,D,i⟩:=bd i
 refine cQ [(1,(sc A7 j D7)),(2,(pt M 0)),(20,(.bool ((!r9)||(Y != a0))))] (u) ?_ ?_
 refine aP ?_
 refine lM _ (fun w s=>(s.d 2 R)) ?_
 refine lC 1 i' R (Zd_ok J) R ?_
 rintro _
 refine lN u ?_
 refine aU ?_
 rcases bo (!r9) with m | m
 refine cV ?_
 exact qj tI
 refine aU ?_
 refine lM _ (fun w s=>(s.d 2 R)) ?_
 refine bX 1 R (cA m) jy R (Zn_ok (bN B (cT m))) R ?_
 rintro _
 refine lN u ?_
 refine bU ?_
 refine lM _ (fun w s=>(s.d 5 R)) ?_
 refine bX 1 R (cA m) jy R (Zn_ok (bN D (cT m))) R ?_
 rintro _
 refine lN u ?_
 refine aP ?_
 exact qj tI
 rintro σ1
 refine bU ?_
 split at i
 refine cP ?_
 cases i
 exact hW ((none,0,0),(none,0,0)) (fun w s=>(((s.nilr kT3).nilo kT161 161).e 8 [1,0]))
 refine bZ ?_
 refine bK (K:=kT161) (xs:=([]:List pair)) (vs:=[]) 0 R R fA fB eO R R R R R R ?_ R (fun a6 a5=>?_)
 exact fun I h s=>(iZ).list [] I h s
 refine bG ?_
 refine aZ (A:=((List pair))×(HH)) (fun a=>Z12_J1 l a.1=some r) (fun a=>[(2,(pt M 0)),(7,(s3 a.2))]) (fun a=>ow kT161 161 (s3 a.2) a.1::u) ?_ ?_
 refine bU ?_
 obtain ⟨a9,G,i⟩:=bd i
 refine aU ?_
 refine lM _ (fun w s=>(s.d 6 R)) ?_
 refine lC 1 jy R (Zn_ok G) R ?_
 rintro _
 refine bG ?_
 obtain ⟨e1,a4,a2⟩:=bd i
 refine bD (A:=HH) a4 (fun s a=>[(2,(pt M 0)),(7,(s3 a)),(23,(iv a9)),(24,(iv s.2))]) (fun s a=>ow kT161 161 (s3 a) s.1::u) (a6,([]:List pair).length,a5) (aS R) tI ?_
 rintro ⟨b,g⟩ ⟨a7,a1,Z⟩ σ1 aa i U
 dsimp only [Z12_L1] at i
 refine bJ 0 aB (fun (T:a1=b.length)=>?_)
 subst T
 refine bT ?_
 split at i
 refine hN ?_
 obtain ⟨E,i⟩:=gd i
 refine bG ?_
 refine lO (vz (.agg [(iv g),(iv g)].toArray) (aX mt eO R R)) (bK (K:=kT161) (xs:=([(⟨g,g⟩:pair)]:List pair)) (vs:=[(.agg [(iv g),(iv g)].toArray)]) 0 R R fA fB eO R R R R R R ?_ R (fun ac ab=>?_))
 exact fun I h s=>(iZ).list [(((),()),(⟨g,g⟩:pair))] I h s
 refine lM _ (tE 2 [1,0]) ?_
 refine eB (K:=kT161) 8796093022208 R R fA fB lu (Zr.zk zT161 eO) R R R R R R dM E (fun L F=>(lN (OO kT161 161 L F (b++([(⟨g,g⟩:pair)]:List pair))::u) ?_))
 refine cV ?_
 cases i
 exact qA (L,(b++([(⟨g,g⟩:pair)]:List pair)).length,F) tI
 refine aP ?_
 cases i
 obtain rfl:=U _ R
 have i:=a2
 refine aU ?_
 exact qI (b,(a7,b.length,Z)) i tI
 rintro ⟨q,⟨a8,O,a3⟩⟩ σ1 i
 dsimp only [Z12_J1] at i
 refine bJ 0 aB (fun (T:O=q.length)=>?_)
 subst T
 refine hN ?_
 cases i
 exact hW ((A3,l.Dims.length,D3),(a8,q.length,a3)) (tE 7 [3,0])
theorem Z25_ok  {k1:shiftKind}{b:Node}{a:(List (List Int))}{r:(List Int)×Bool}(i:Z25 k1 b a=some r) :
 FnOk Tryz.prog 220 [(.agg [(aD k1.use),(.func (.func 125) [].toArray [].toArray)].toArray),(.agg [(iv b.Op),(.slice A3 N3 D3),(.slice A4 N4 D4),(.slice A5 N5 D5),(aD b.Form),(.slice A6 N6 D6)].toArray),(.slice A8 N8 D8)] [aN kT3 (.slice A3 N3 D3) b.Args,aN kT3 (.slice A4 N4 D4) b.Dims,aN kT3 (.slice A5 N5 D5) b.Ints,aN kT3 (.slice A6 N6 D6) b.Data,aN bL (.slice A8 N8 D8) a] (fun (h:HH)=>((.tuple [(s3 h),(.bool r.2)].toArray),[aN kT3 (s3 h) r.1])):=by
 unfold Z25 at i
 refine aQ Tryz.func220 R 27 R R fun C V=>?_
 refine cL 0 aA ?_
 rintro rfl
 refine cL 1 aA ?_
 rintro rfl
 refine cL 2 aA ?_
 rintro rfl
 refine cL 3 aA ?_
 rintro rfl
 refine cL 4 aA ?_
 rintro rfl
 let B:=RR kT3 A3 D3 b.Args::RR kT3 A4 D4 b.Dims::RR kT3 A5 D5 b.Ints::RR kT3 A6 D6 b.Data::RR bL A8 D8 a::V
 refine cN B ?_
 refine aU ?_
 refine eF R fun E=>?_
 refine eF R fun u=>?_
 refine aP ?_
 let T:=aJ u [(iv b.Op),(sc A3 b.Args D3),(sc A4 b.Dims D4),(sc A5 b.Ints D5),(aD b.Form),(sc A6 b.Data D6)] 54::aJ E [(aD k1.use),(.func (.func 125) [].toArray [].toArray)] 145::B
 refine qN T ?_
 refine cU ?_
 split at i
 refine cU ?_
 cases i
 exact jD (none,0,0) (fun w s=>((s.nilr kT3).e 8 [0]))
 refine bG ?_
 obtain ⟨g,i⟩:=gd i
 obtain ⟨q,j,i⟩:=bd i
 refine bB 6 aA (show 0<a.length by have:=g; omega) (fun F o14 I=>?_)
 subst I
 refine dL (K:=bL) 6 (0:Int) dT23.dec R g.1 g.2 ?_
 rintro ⟨D,L⟩
 refine dF 14 [] bP fun U Y=>?_
 refine kk 0 [] ?_
 refine dR 5 R (eJ (fo:=0) 0 cJ R R R) (d1 6 R (lM _ (fun w s=>((((((s.d 4 R).d 6 R).d 8 R).d 10 R).d 5 R).e 7 [4,3,2,1,0,5,6])) ?_))
 refine cE (fs:=[]) (cs:=[]) 5 R R zB R R (Z12_ok j) R ?_
 rintro ⟨⟨m,M,l⟩,⟨G,O,J⟩⟩
 refine aL 0 aA ?_
 rintro rfl
 refine aL 1 aB ?_
 rintro rfl
 refine aC (aG (sL [1,0]) (dR 7 R (vT R) (hS:=(sL [1,0])) ?_))
 refine sf 8 [1,0] ?_
 refine dD ?_
 refine cP ?_
 cases i
 exact jD (m,q.1.length,l) (tE 11 [0])
theorem Z1n_ok  {b:(List Int)}{a:Int}{i:Int}{r:(List Int)}(g:Z1n b a i=some r) :
 FnOk Tryz.prog 151 [(.slice A2 N2 D2),(iv a),(iv i)] [aN kT3 (.slice A2 N2 D2) b] (fun (h:HH)=>((s3 h),[ow kT3 3 (s3 h) r])):=by
 unfold Z1n at g
 refine aQ Tryz.func151 R 15 R R fun C V=>?_
 refine cL 0 aA ?_
 rintro rfl
 let m:=RR kT3 A2 D2 b::V
 refine cN m ?_
 refine bT ?_
 obtain ⟨l,j,g⟩:=bd g
 refine aU ?_
 refine lM _ (fun w s=>(s.d 0 R)) ?_
 refine lC 1 jk R (Zp_ok j) R ?_
 rintro ⟨A7,N7,D7⟩
 refine aL 0 aB ?_
 rintro rfl
 refine bG ?_
 obtain ⟨e,g⟩:=gd g
 refine bG ?_
 refine bA 0 aB (show 0<l.length by have:=e; omega) (fun u o10 q=>?_)
 subst q
 refine bU ?_
 refine eA (K:=kT3) (x':=i) 0 a R R cB R R e.1 e.2 ?_ ?_
 exact fun I h s=>(fZ).put I h () i s
 refine cU ?_
 cases g
 exact qF ((ad u o10),l.length,D7) (tE 2 [0])
theorem Z23_ok  {b:(List Int)}{a:Int}{r:Int×Int×Int}(i:Z23 b a=some r) :
 FnOk Tryz.prog 153 [(.slice A2 N2 D2),(iv a)] [aN kT3 (.slice A2 N2 D2) b] (fun (h:Unit)=>((.tuple [(iv r.1),(iv r.2.1),(iv r.2.2)].toArray),[])):=by
 unfold Z23 at i
 refine aQ Tryz.func153 R 20 R R fun C V=>?_
 refine cL 0 aA ?_
 rintro rfl
 let u:=RR kT3 A2 D2 b::V
 refine cN u ?_
 refine cV ?_
 obtain ⟨g,i⟩:=gd i
 obtain ⟨D,l,i⟩:=bd i
 obtain ⟨q,i⟩:=gd i
 obtain ⟨e,i⟩:=gd i
 obtain ⟨m,j,i⟩:=bd i
 refine cQ [(4,(iv D)),(5,(iv (ix b a))),(6,(iv m))] (u) ?_ ?_
 refine bB 0 aA (show 0<b.length by have:=q; omega) (fun F o10 B=>?_)
 subst B
 refine dF 16 [] bP fun E G=>?_
 refine gR 0 [] ?_
 refine sg 4 [] ?_
 refine hT [2,11] (by kernel_rfl) R ⟨?_,?_,trivial⟩
 refine gC (K:=kT3) (0:Int) a 0 R R bI cB R R R R g.1 g.2.1 g.2.2 (fun A5 D5=>(aC (aG (sL [0]) (hT [3,11] (by kernel_rfl) R ⟨?_,?_,trivial⟩))))
 refine lM _ (fun w s=>(s.d 0 R)) ?_
 refine lC 1 jy R (Zn_ok l) R ?_
 rintro _
 refine aC (aG (sL [0]) (d1 11 R (gC (K:=kT3) (aH (a+1)) (b.length:Int) 1 R R bI cB R R R R e.1 e.2.1 e.2.2 (fun A12 D12=>(aC (aG (sL [1,0]) (d1 12 R (lM _ (fun w s=>(s.d 0 R)) ?_))))))))
 refine lC 1 jy R (Zn_ok j) R ?_
 rintro _
 refine aC (aG (sL [1,0]) ?_)
 refine hX 13 [1,0] ?_
 refine dD ?_
 exact qj (tE 2 [])
 refine gC (K:=kT3) (aH (a+1)) (b.length:Int) 1 R R bI cB R R R R e.1 e.2.1 e.2.2 (fun A12 D12=>(aC (aG (sL [1,0]) (d1 3 R (lM _ (fun w s=>(s.d 1 R)) ?_)))))
 refine lC 1 jy R (Zn_ok l) R ?_
 rintro _
 refine aC (aG (sL [1,0]) (d1 12 R (lM _ (fun w s=>(s.d 0 R)) ?_)))
 refine lC 1 jy R (Zn_ok j) R ?_
 rintro _
 refine aC (aG (sL [1,0]) ?_)
 refine hX 13 [1,0] ?_
 refine dD ?_
 exact qj (tE 2 [])
 refine gC (K:=kT3) (aH (a+1)) (b.length:Int) 0 R R bI cB R R R R e.1 e.2.1 e.2.2 (fun A12 D12=>(aC (aG (sL [0]) (d1 2 R (gC (K:=kT3) (0:Int) a 1 R R bI cB R R R R g.1 g.2.1 g.2.2 (fun A5 D5=>(aC (aG (sL [1,0]) (d1 3 R (lM _ (fun w s=>(s.d 0 R)) ?_))))))))))
 refine lC 1 jy R (Zn_ok l) R ?_
 rintro _
 refine aC (aG (sL [1,0]) (d1 12 R (lM _ (fun w s=>(s.d 1 R)) ?_)))
 refine lC 1 jy R (Zn_ok j) R ?_
 rintro _
 refine aC (aG (sL [1,0]) ?_)
 refine hX 13 [1,0] ?_
 refine dD ?_
 exact qj (tE 2 [])
 rintro σ1
 refine aU ?_
 cases i
 exact hW () (tE 1 [])
theorem Z8_ok  {D:(List Int)}{a3:Int}{F:Int}{b:(List pair)}{r:(List pair)}(g:Z8 D a3 F b=some r) :
 FnOk Tryz.prog 152 [(.slice A2 N2 D2),(iv a3),(iv F),(.slice A6 N6 D6)] [aN kT3 (.slice A2 N2 D2) D,aN kT161 (.slice A6 N6 D6) b] (fun (h:HH)=>((.slice h.1 h.2.1 h.2.2),[ow kT161 161 (.slice h.1 h.2.1 h.2.2) r])):=by
 unfold Z8 at g
 refine aQ Tryz.func152 R 73 R R fun C V=>?_
 refine cN (_::_::V) ?_
 refine cL 0 aA ?_
 rintro rfl
 refine cL 1 aA ?_
 rintro rfl
 let M:List HP:=RR kT3 A2 D2 D::RR kT161 A6 D6 b::V
 refine cN M ?_
 refine aO (aE (lS R (aC (aI (aO ?_)))))
 obtain ⟨q,bg,g⟩:=bd g
 refine aE (lS R (lI R (lM (RR kT3 A2 D2 D::M) (fun w s=>(s.d 0 R)) ?_)))
 refine lC 1 vQ R (Z23_ok bg) R ?_
 rintro _
 refine lN M ?_
 refine lO (vT R) (lI R (lI R (lI R (lI R (lI R (lI R (aC (aI (aO ?_)))))))))
 obtain ⟨ab,g⟩:=gd g
 refine aE (lI R (lI R (lO (rB R R) (lS R (lO (kc fA R) (lO (rB R R) (ua (K:=kT161) (m:=(aH ((aH (q.1*q.2.2))*(b.length:Int)))) (z:=zT161.z) R R fA fB lu (Zr.zk zT161 eO) (by decide) R R ab.1 ab.2.1 ab.2.2 (fun A10 D10=>(lS R (aC (aI (aO (aZ (A:=((List pair))×(HH)) (fun a=>Z8_J7 a.1=some r) (fun a=>[(12,(.slice a.2.1 a.2.2.1 a.2.2.2))]) (fun a=>ow kT161 161 (.slice a.2.1 a.2.2.1 a.2.2.2) a.1::M) ?_ ?_)))))))))))))
 refine aO (aE (lI R (aC (aI (dJ ?_)))))
 obtain ⟨e1,bj,bi⟩:=bd g
 refine bD (A:=HH×HH) bj (fun s a=>[(2,(iv F)),(3,(.slice a.1.1 a.1.2.1 a.1.2.2)),(9,(iv q.1)),(10,(iv q.2.1)),(11,(iv q.2.2)),(12,(.slice a.2.1 a.2.2.1 a.2.2.2)),(13,(iv s.2))]) (fun s a=>aN kT161 (.slice a.1.1 a.1.2.1 a.1.2.2) b::ow kT161 161 (.slice a.2.1 a.2.2.1 a.2.2.2) s.1::M) ((A6,b.length,D6),(A10,([]:List pair).length,D10)) (aS R) (fun w s=>(s.d 2 R)) ?_
 rintro ⟨a5,j⟩ ⟨⟨bh,bc,bk⟩,⟨ao,bb,aj⟩⟩ σ1 Z g be
 replace g:Z8_L1 F b q a5 j=some Z:=g
 unfold Z8_L1 at g
 refine bJ 0 aA (fun (B:bc=b.length)=>?_)
 subst B
 refine bJ 1 aB (fun (B:bb=a5.length)=>?_)
 subst B
 refine aO (aO (aE (lI R (lI R (lO (mZ R R) (aC (aI ?_)))))))
 rcases cO g with ⟨a1,g⟩|⟨a1,g⟩
 refine cC R a1 (dE (aI (aO (aZ (A:=((List pair))×(HH×HH)) (fun a=>Z8_J6 j a.1=some Z) (fun a=>[(2,(iv F)),(3,(.slice a.2.1.1 a.2.1.2.1 a.2.1.2.2)),(9,(iv q.1)),(10,(iv q.2.1)),(11,(iv q.2.2)),(12,(.slice a.2.2.1 a.2.2.2.1 a.2.2.2.2)),(13,(iv j))]) (fun a=>aN kT161 (.slice a.2.1.1 a.2.1.2.1 a.2.1.2.2) b::ow kT161 161 (.slice a.2.2.1 a.2.2.2.1 a.2.2.2.2) a.1::M) ?_ ?_))))
 refine dJ (aO (aE (lS R (lO (kc fA R) (lI R (aC (aI (dJ ?_))))))))
 obtain ⟨e2,b7,b5⟩:=bd g
 refine bD (A:=HH×HH) b7 (fun s a=>[(2,(iv F)),(3,(.slice a.1.1 a.1.2.1 a.1.2.2)),(9,(iv q.1)),(10,(iv q.2.1)),(11,(iv q.2.2)),(12,(.slice a.2.1 a.2.2.1 a.2.2.2)),(13,(iv j)),(36,(.slice a.1.1 a.1.2.1 a.1.2.2)),(37,(il b)),(38,(iv s.2))]) (fun s a=>aN kT161 (.slice a.1.1 a.1.2.1 a.1.2.2) b::ow kT161 161 (.slice a.2.1 a.2.2.1 a.2.2.2) s.1::M) ((bh,b.length,bk),(ao,a5.length,aj)) (aS R) (fun w s=>s) ?_
 rintro ⟨L,i⟩ ⟨⟨b9,b6,O⟩,⟨ae,b3,aa⟩⟩ σ1 a4 g b8
 replace g:Z8_L2 F b q j L i=some a4:=g
 unfold Z8_L2 at g
 refine bJ 0 aA (fun (B:b6=b.length)=>?_)
 subst B
 refine bJ 1 aB (fun (B:b3=L.length)=>?_)
 subst B
 refine aO (aE (lO (mZ R R) (aC (aI (aO ?_)))))
 rcases cO g with ⟨U,g⟩|⟨U,g⟩
 refine cC R U (dE (aI (aO (aZ (A:=((List pair))×(HH×HH)) (fun a=>Z8_J5 i a.1=some a4) (fun a=>[(2,(iv F)),(3,(.slice a.2.1.1 a.2.1.2.1 a.2.1.2.2)),(9,(iv q.1)),(10,(iv q.2.1)),(11,(iv q.2.2)),(12,(.slice a.2.2.1 a.2.2.2.1 a.2.2.2.2)),(13,(iv j)),(36,(.slice a.2.1.1 a.2.1.2.1 a.2.1.2.2)),(37,(il b)),(38,(iv i))]) (fun a=>aN kT161 (.slice a.2.1.1 a.2.1.2.1 a.2.1.2.2) b::ow kT161 161 (.slice a.2.2.1 a.2.2.2.1 a.2.2.2.2) a.1::M) ?_ ?_))))
 refine dJ (aO ?_)
 obtain ⟨J,g⟩:=gd g
 refine aE (bA 0 aA (show 0<b.length by have:=J; omega) (fun E o101 ha=>?_))
 subst ha
 refine lO (eL fA fB R R J) (rT (.agg [(iv (ix b i).from_),(iv (ix b i).to)].toArray) ?_ R R ?_)
 exact (wc (K:=kT161) (cells:=fun x=>[(iv x.from_),(iv x.to)]) 0 i vR fB (DecK.flat yw fun _ _=>R) aA R J.1 J.2)
 refine bF R R eO (fun Y=>(aK 0 R R fB R R R R R R (lN (aJ Y [(iv (ix b i).from_),(iv (ix b i).to)] 161::RR kT161 (ad E o101) O b::OO kT161 161 ae aa L::M) ?_)))
 refine aC (aI (aO (aE (lI R (aC (aI (dJ ?_)))))))
 obtain ⟨e3,ba,b4⟩:=bd g
 refine bD (A:=HH) ba (fun s a=>[(2,(iv F)),(3,(sc (ad E o101) b O)),(9,(iv q.1)),(10,(iv q.2.1)),(11,(iv q.2.2)),(12,(.slice a.1 a.2.1 a.2.2)),(13,(iv j)),(15,(pt Y 0)),(16,(iv s.2)),(36,(sc (ad E o101) b O)),(37,(il b)),(38,(iv i))]) (fun s a=>RR kT161 (ad E o101) O b::ow kT161 161 (.slice a.1 a.2.1 a.2.2) s.1::aJ Y [(iv (ix b i).from_),(iv (ix b i).to)] 161::M) (ae,L.length,aa) (aS R) (fun w s=>(s.e 3 [1,2,0])) ?_
 rintro ⟨u,l⟩ ⟨a9,aq,a7⟩ σ1 am g bf
 replace g:Z8_L3 F b q j i u l=some am:=g
 unfold Z8_L3 at g
 refine bJ 1 aB (fun (B:aq=u.length)=>?_)
 subst B
 refine aO (aO (aE (lI R (lI R (lO (mZ R R) (aC (aI ?_)))))))
 rcases cO g with ⟨G,g⟩|⟨G,g⟩
 refine cC R G (dE (aI (aO (dJ ?_))))
 obtain ⟨ac,g⟩:=gd g
 refine aE (lS R (lI R (lI R (lO (rB R R) (lO (fP 0 qk R) (lO (fW 2 fQ R R R) (lO (kW R R) (lI R (lO (rB R R) (lI R (lO (kW R R) (lI R (lI R (lO (rB R R) (lO (fP 1 ql R) (lO (fW 2 fQ R R R) (lO (kW R R) (lI R (lO (rB R R) (lI R (lO (kW R R) (lO (vz (.agg [(iv (aH ((aH ((aH ((aH (j*q.2.1))+(ix b i).from_))*q.2.2))+l))),(iv (aH ((aH ((aH ((aH (j*F))+(ix b i).to))*q.2.2))+l)))].toArray) (aX mt eO R R)) (bK (K:=kT161) (xs:=([(⟨(aH ((aH ((aH ((aH (j*q.2.1))+(ix b i).from_))*q.2.2))+l)),(aH ((aH ((aH ((aH (j*F))+(ix b i).to))*q.2.2))+l))⟩:pair)]:List pair)) (vs:=[(.agg [(iv (aH ((aH ((aH ((aH (j*q.2.1))+(ix b i).from_))*q.2.2))+l))),(iv (aH ((aH ((aH ((aH (j*F))+(ix b i).to))*q.2.2))+l)))].toArray)]) 0 R R fA fB eO R R R R R R ?_ R (fun b2 b1=>?_))))))))))))))))))))))))
 exact fun I h s=>(iZ).list [(((),()),(⟨(aH ((aH ((aH ((aH (j*q.2.1))+(ix b i).from_))*q.2.2))+l)),(aH ((aH ((aH ((aH (j*F))+(ix b i).to))*q.2.2))+l))⟩:pair))] I h s
 refine lN (OO kT161 161 b2 b1 ([(⟨(aH ((aH ((aH ((aH (j*q.2.1))+(ix b i).from_))*q.2.2))+l)),(aH ((aH ((aH ((aH (j*F))+(ix b i).to))*q.2.2))+l))⟩:pair)]:List pair)::_::OO kT161 161 a9 a7 u::_::M) ?_
 refine lM (ow _ _ _ _::ow _ _ _ _::aN _ _ _::aJ _ _ _::M) (fun w s=>(s.e 4 [2,0,1,3])) ?_
 refine eB (K:=kT161) 8796093022208 R R fA fB lu (Zr.zk zT161 eO) R R R R R R dM ac (fun a8 a6=>(lN (OO kT161 161 a8 a6 (u++([(⟨(aH ((aH ((aH ((aH (j*q.2.1))+(ix b i).from_))*q.2.2))+l)),(aH ((aH ((aH ((aH (j*F))+(ix b i).to))*q.2.2))+l))⟩:pair)]:List pair))::_::_::M) ?_))
 refine lS R (aC (dY (aI (aE (lI R (lO (kW R R) (lI R (aC ?_))))))))
 obtain rfl:=so g
 exact qA (a8,(u++([(⟨(aH ((aH ((aH ((aH (j*q.2.1))+(ix b i).from_))*q.2.2))+l)),(aH ((aH ((aH ((aH (j*F))+(ix b i).to))*q.2.2))+l))⟩:pair)]:List pair)).length,a6) (fun w s=>(s.e 3 [1,0,2]))
 refine bM R G (hJ (eD ?_))
 obtain rfl:=so g
 obtain rfl:=bf _ R
 have g:=b4
 refine eD (fX (dY ?_))
 exact qI (u,(((ad E o101),b.length,O),(a9,u.length,a7))) g (fun w s=>(s.e 3 [0,1]))
 rintro ⟨T,⟨⟨ap,ar,ak⟩,⟨aw,ag,az⟩⟩⟩ σ1 g
 replace g:Z8_J5 i T=some a4:=g
 unfold Z8_J5 at g
 refine bJ 0 aA (fun (B:ar=b.length)=>?_)
 subst B
 refine bJ 1 aB (fun (B:ag=T.length)=>?_)
 subst B
 refine aE (lO (kW R R) (lI R (aC ?_)))
 obtain rfl:=so g
 exact qA ((ap,b.length,ak),(aw,T.length,az)) (fun w s=>s)
 refine bM R U (hJ (eD ?_))
 obtain rfl:=so g
 obtain rfl:=b8 _ R
 have g:=b5
 refine eD (fX (dY ?_))
 exact qI (L,((b9,b.length,O),(ae,L.length,aa))) g (fun w s=>s)
 rintro ⟨a2,⟨⟨au,an,al⟩,⟨av,ah,ax⟩⟩⟩ σ1 g
 replace g:Z8_J6 j a2=some Z:=g
 unfold Z8_J6 at g
 refine bJ 0 aA (fun (B:an=b.length)=>?_)
 subst B
 refine bJ 1 aB (fun (B:ah=a2.length)=>?_)
 subst B
 refine aE (lI R (lO (kW R R) (lI R (aC ?_))))
 obtain rfl:=so g
 exact qA ((au,b.length,al),(av,a2.length,ax)) (fun w s=>s)
 refine bM R a1 (hJ (eD ?_))
 obtain rfl:=so g
 obtain rfl:=be _ R
 have g:=bi
 refine eD (fX ?_)
 exact qI (a5,(ao,a5.length,aj)) g (fun w s=>(s.e 2 [1]))
 rintro ⟨a0,⟨ay,ai,b0⟩⟩ σ1 g
 replace g:Z8_J7 a0=some r:=g
 unfold Z8_J7 at g
 refine bJ 0 aB (fun (B:ai=a0.length)=>?_)
 subst B
 refine aO (aE (lS R (lS R (aC (aI (bY ?_))))))
 obtain rfl:=so g
 exact qF (ay,a0.length,b0) (fun w s=>(s.e 3 [0]))
theorem Z00_ok  {j:(List Int)}{l:Int}{b:Int}{g:Int}{i:Int}{r:(List Int)×(List pair)×Bool}(m:Z00 j l b g i=some r) :
 FnOk Tryz.prog 128 [(.slice A2 N2 D2),(iv l),(iv b),(iv g),(iv i)] [aN kT3 (.slice A2 N2 D2) j] (fun (h:HH×HH)=>((.tuple [(s3 h.1),(s3 h.2),(.bool r.2.2)].toArray),[ow kT3 3 (s3 h.1) r.1,ow kT161 161 (s3 h.2) r.2.1])):=by
 unfold Z00 at m
 refine aQ Tryz.func128 R 84 R R fun C V=>?_
 refine cL 0 aA ?_
 rintro rfl
 let M:=RR kT3 A2 D2 j::V
 refine cN M ?_
 refine cU ?_
 obtain ⟨r7,ae,m⟩:=bd m
 refine aP ?_
 refine lM _ (fun w s=>(s.d 0 R)) ?_
 refine lC 1 gP R (Zm_ok ae) R ?_
 rintro _
 refine lN M ?_
 refine aP ?_
 split at m
 refine cP ?_
 cases m
 exact hW ((none,0,0),(none,0,0)) (fun w s=>(((s.nilo kT3 3).nilo kT161 161).e 3 [1,0]))
 refine bG ?_
 refine aZ (A:=(Unit)×(Unit)) (fun a=>Z00_J1 j l b g i=some r) (fun a=>[(0,(sc A2 j D2)),(1,(iv l)),(2,(iv b)),(3,(iv g)),(4,(iv i))]) (fun a=>M) ?_ ?_
 refine bZ ?_
 refine bK (K:=kT3) (xs:=([b,g,i]:List Int)) (vs:=[(iv b),(iv g),(iv i)]) 0 R R bI cB f' R R R R R R ?_ R (fun A10 D10=>?_)
 exact fun I h s=>(fZ).list [((),b),((),g),((),i)] I h s
 refine bZ ?_
 obtain ⟨e1,ao,a6⟩:=bd m
 refine bD (A:=HH) ao (fun s a=>[(0,(sc A2 j D2)),(1,(iv l)),(2,(iv b)),(3,(iv g)),(4,(iv i)),(27,(s3 a)),(28,(il ([b,g,i]:List Int))),(29,(iv s))]) (fun s a=>ow kT3 3 (s3 a) ([b,g,i]:List Int)::M) (A10,([b,g,i]:List Int).length,D10) (aS R) tI ?_
 rintro J ⟨b0,ai,U⟩ σ1 au m a1
 dsimp only [Z00_L1] at m
 refine bJ 0 aB (fun (hn:ai=([b,g,i]:List Int).length)=>?_)
 subst hn
 refine bT ?_
 split at m
 refine bT ?_
 obtain ⟨a7,m⟩:=gd m
 refine aE (bA 0 aB (show 0<([b,g,i]:List Int).length by have:=a7; omega) (fun O o22 ha=>?_))
 subst ha
 refine bT ?_
 refine cQ [(0,(sc A2 j D2)),(1,(iv l)),(2,(iv b)),(3,(iv g)),(4,(iv i)),(27,(sc (ad O o22) ([b,g,i]:List Int) U)),(28,(il ([b,g,i]:List Int))),(29,(iv J)),(38,(.bool ((decide ((ix ([b,g,i]:List Int) J)<0))||(decide ((ix ([b,g,i]:List Int) J)>4096)))))] (OO kT3 3 (ad O o22) U ([b,g,i]:List Int)::M) ?_ ?_
 refine bG ?_
 rcases bo (decide ((ix ([b,g,i]:List Int) J)<0)) with a9 | a9
 refine bG ?_
 exact qj tI
 refine bG ?_
 exact qj tI
 rintro σ1
 refine bU ?_
 split at m
 refine hN ?_
 cases m
 obtain rfl:=a1 _ R
 have m:=a6
 refine aP ?_
 cases m
 exact hW ((none,0,0),(none,0,0)) (fun w s=>(((s.nilo kT3 3).nilo kT161 161).e 4 [1,0]))
 refine cV ?_
 cases m
 exact qA ((ad O o22),([b,g,i]:List Int).length,U) tI
 refine aP ?_
 cases m
 obtain rfl:=a1 _ R
 have m:=a6
 refine aU ?_
 exact qI ((),()) m (tE 1 [])
 rintro ⟨_,_⟩ σ1 m
 dsimp only [Z00_J1] at m
 refine bU ?_
 obtain ⟨a4,m⟩:=gd m
 refine aP ?_
 refine bA 0 aA (show 0<j.length by have:=a4; omega) (fun L o29 ha=>?_)
 subst ha
 refine uf ?_
 obtain ⟨E,a3,m⟩:=bd m
 refine bG ?_
 refine lM _ (fun w s=>(s.d 0 R)) ?_
 refine lC 1 qi R (Z1n_ok a3) R ?_
 rintro ⟨F,az,G⟩
 refine aL 0 aB ?_
 rintro rfl
 refine bZ ?_
 obtain ⟨ax,a8,m⟩:=bd m
 refine aU ?_
 refine lC 1 i' R (FnOk.lends (A':=[OO kT3 3 F G E]) (A:=[RR kT3 F G E]) (B:=[]) (Zd_ok a8) ⟨aV,trivial⟩ (fun _=>trivial)) R ?_
 rintro _
 refine aP ?_
 split at m
 refine cP ?_
 cases m
 exact hW ((none,0,0),(none,0,0)) (fun w s=>(((s.nilo kT3 3).nilo kT161 161).e 4 [1,0]))
 refine bZ ?_
 refine bK (K:=kT161) (xs:=([]:List pair)) (vs:=[]) 0 R R fA fB eO R R R R R R ?_ R (fun ah ag=>?_)
 exact fun I h s=>(iZ).list [] I h s
 refine bG ?_
 refine aZ (A:=((List pair))×(HH)) (fun a=>Z00_J2 j l b g i E a.1=some r) (fun a=>[(0,(sc (ad L o29) j D2)),(1,(iv l)),(16,(iv (aH ((aH ((aH (b+(ix j l)))+(aH ((aH ((ix j l) - 1))*i))))+g)))),(17,(sc F E G)),(18,(s3 a.2))]) (fun a=>OO kT3 3 F G E::ow kT161 161 (s3 a.2) a.1::M) ?_ ?_
 refine bT ?_
 obtain ⟨e2,ac,ab⟩:=bd m
 refine bD (A:=HH) ac (fun s a=>[(0,(sc (ad L o29) j D2)),(1,(iv l)),(2,(iv b)),(4,(iv i)),(15,(iv (ix j l))),(16,(iv (aH ((aH ((aH (b+(ix j l)))+(aH ((aH ((ix j l) - 1))*i))))+g)))),(17,(sc F E G)),(18,(s3 a)),(19,(iv s.2))]) (fun s a=>OO kT3 3 F G E::ow kT161 161 (s3 a) s.1::M) (ah,([]:List pair).length,ag) (aS R) (tE 2 [1,0]) ?_
 rintro ⟨q,u⟩ ⟨aq,aa,aj⟩ σ1 ar m ap
 dsimp only [Z00_L2] at m
 refine bJ 1 aB (fun (hn:aa=q.length)=>?_)
 subst hn
 refine cV ?_
 split at m
 refine bZ ?_
 obtain ⟨a2,m⟩:=gd m
 refine cU ?_
 refine lO (vz (.agg [(iv u),(iv (aH (b+(aH (u*(aH (i+1)))))))].toArray) (aX mt eO R R)) (bK (K:=kT161) (xs:=([(⟨u,(aH (b+(aH (u*(aH (i+1))))))⟩:pair)]:List pair)) (vs:=[(.agg [(iv u),(iv (aH (b+(aH (u*(aH (i+1)))))))].toArray)]) 0 R R fA fB eO R R R R R R ?_ R (fun ay av=>?_))
 exact fun I h s=>(iZ).list [(((),()),(⟨u,(aH (b+(aH (u*(aH (i+1))))))⟩:pair))] I h s
 refine lM _ (tE 3 [2,0,1]) ?_
 refine eB (K:=kT161) 8796093022208 R R fA fB lu (Zr.zk zT161 eO) R R R R R R dM a2 (fun a5 a0=>(lN (OO kT161 161 a5 a0 (q++([(⟨u,(aH (b+(aH (u*(aH (i+1))))))⟩:pair)]:List pair))::_::M) ?_))
 refine cU ?_
 cases m
 exact qA (a5,(q++([(⟨u,(aH (b+(aH (u*(aH (i+1))))))⟩:pair)]:List pair)).length,a0) (tE 2 [1,0])
 refine aP ?_
 cases m
 obtain rfl:=ap _ R
 have m:=ab
 refine aU ?_
 exact qI (q,(aq,q.length,aj)) m tI
 rintro ⟨D,⟨Y,am,T⟩⟩ σ1 m
 dsimp only [Z00_J2] at m
 refine bJ 1 aB (fun (hn:am=D.length)=>?_)
 subst hn
 refine bU ?_
 obtain ⟨an,Z,m⟩:=bd m
 refine bT ?_
 refine lM _ (fun w s=>((s.d 2 R).e 3 [2,0,1])) ?_
 refine lC 2 sE R (FnOk.lends (A':=[OO kT161 161 Y T D]) (A:=[RR kT161 Y T D]) (B:=[RR kT3 (ad L o29) D2 j]) (FnOk.perm (Z8_ok Z) (Pre':=[RR kT161 Y T D,RR kT3 (ad L o29) D2 j]) (fun _ _ _ s=>(s.e 2 [1,0]))) ⟨aV,trivial⟩ (fun _=>⟨(bH sk),trivial⟩)) R ?_
 rintro ⟨al,aw,ak⟩
 refine aL 1 aB ?_
 rintro rfl
 refine bT ?_
 cases m
 exact hW ((F,E.length,G),(al,an.length,ak)) (tE 4 [2,1])
theorem Z1z_ok  {p1:(List Int)}{a:(List Int)}{r:(List Int)×(List pair)×Bool}(b:Z1z p1 a=some r) :
 FnOk Tryz.prog 127 [(.slice A2 N2 D2),(.slice A4 N4 D4)] [aN kT3 (.slice A2 N2 D2) p1,aN kT3 (.slice A4 N4 D4) a] (fun (h:HH×HH)=>((.tuple [(s3 h.1),(s3 h.2),(.bool r.2.2)].toArray),[ow kT3 3 (s3 h.1) r.1,ow kT161 161 (s3 h.2) r.2.1])):=by
 unfold Z1z at b
 refine aQ Tryz.func127 R 24 R R fun C V=>?_
 refine cL 0 aA ?_
 rintro rfl
 refine cL 1 aA ?_
 rintro rfl
 let m:=RR kT3 A2 D2 p1::RR kT3 A4 D4 a::V
 refine cN m ?_
 refine cV ?_
 obtain ⟨j,b⟩:=gd b
 obtain ⟨_,b⟩:=gd b
 obtain ⟨_,b⟩:=gd b
 obtain ⟨_,b⟩:=gd b
 obtain ⟨g,e,b⟩:=bd b
 refine bB 0 aA (show 0<p1.length by have:=j; omega) (fun E o7 q=>?_)
 subst q
 refine dF 20 [] bP fun B D=>?_
 refine ml 0 [] ?_
 refine d1 13 R (lM _ (fun w s=>(s.d 1 R)) ?_)
 refine lC 1 zD R (Z00_ok e) R ?_
 rintro ⟨⟨l,u,i⟩,⟨A14,N14,D14⟩⟩
 refine aL 0 aB ?_
 rintro rfl
 refine aL 1 aB ?_
 rintro rfl
 refine aC (aG (sL [1,0]) ?_)
 refine sf 14 [1,0] ?_
 refine dD ?_
 refine aU ?_
 cases b
 exact hW ((l,g.1.length,i),(A14,g.2.1.length,D14)) (tE 4 [0,1])
theorem Z2q_ok  {a:Node}{b:(List Int)}{m:Int}{g:Int}{E:Nat}{j:Nat}{i:Nat}{r:(List Int)×(List pair)×Bool}(l:Z2q a b m g=some r) :
 FnOk Tryz.prog 149 [(.agg [(iv a.Op),(.slice A2 N2 D2),(.slice A3 N3 D3),(.slice A4 N4 D4),(aD a.Form),(.slice A5 N5 D5)].toArray),(.slice A7 N7 D7),(pt E 0),(pt j 0),(pt i 0)] [aN kT3 (.slice A2 N2 D2) a.Args,aN kT3 (.slice A3 N3 D3) a.Dims,aN kT3 (.slice A4 N4 D4) a.Ints,aN kT3 (.slice A5 N5 D5) a.Data,aN kT3 (.slice A7 N7 D7) b,aJ E [(iv m)] 3,aJ j [(iv g)] 3,aJ i [(.func (.func 127) [].toArray [].toArray)] 150] (fun (h:HH×HH)=>((.tuple [(s3 h.1),(s3 h.2),(.bool r.2.2)].toArray),[ow kT3 3 (s3 h.1) r.1,ow kT161 161 (s3 h.2) r.2.1,aJ E [(iv m)] 3,aJ j [(iv g)] 3,aJ i [(.func (.func 127) [].toArray [].toArray)] 150])):=by
 unfold Z2q at l
 refine aQ Tryz.func149 R 30 R R fun C V=>?_
 refine cM _ (fun w s=>(s.f 8 [5,3,0,5])) ?_
 refine cL 3 aA ?_
 rintro rfl
 refine cL 4 aA ?_
 rintro rfl
 refine cL 5 aA ?_
 rintro rfl
 refine cL 6 aA ?_
 rintro rfl
 refine cL 7 aA ?_
 rintro rfl
 let M:=RR kT3 A2 D2 a.Args::RR kT3 A3 D3 a.Dims::RR kT3 A4 D4 a.Ints::RR kT3 A5 D5 a.Data::RR kT3 A7 D7 b::V
 refine aU ?_
 refine eF R fun q=>?_
 refine bG ?_
 let L:=aJ q [(iv a.Op),(sc A2 a.Args D2),(sc A3 a.Dims D3),(sc A4 a.Ints D4),(aD a.Form),(sc A5 a.Data D5)] 54::aJ E [(iv m)] 3::aJ j [(iv g)] 3::aJ i [(.func (.func 127) [].toArray [].toArray)] 150::M
 refine qN L ?_
 refine aP ?_
 refine cQ [(1,(sc A7 b D7)),(4,(pt i 0)),(5,(pt q 0)),(21,(.bool ((decide ((a.Ints.length:Int)<m))||(decide ((a.Ints.length:Int)>g)))))] (L) ?_ ?_
 refine dG ?_
 rcases bo (decide ((a.Ints.length:Int)<m)) with B | B
 refine dG ?_
 exact qj tI
 refine dG ?_
 exact qj tI
 rintro σ1
 refine bU ?_
 split at l
 refine cP ?_
 cases l
 exact hW ((none,0,0),(none,0,0)) (fun w s=>(((s.nilo kT3 3).nilo kT161 161).e 11 [1,0,3,4,5]))
 refine bG ?_
 obtain ⟨D,u,l⟩:=bd l
 refine bZ ?_
 refine lM _ (fun w s=>(((s.d 6 R).d 9 R).e 2 [1,0])) ?_
 refine cE (fs:=[]) (cs:=[]) 2 R R zE R R (Z1z_ok u) R ?_
 rintro ⟨⟨F,O,G⟩,⟨I,T,J⟩⟩
 refine aL 0 aB ?_
 rintro rfl
 refine aL 1 aB ?_
 rintro rfl
 refine cU ?_
 cases l
 exact hW ((F,D.1.length,G),(I,D.2.1.length,J)) (fun w s=>(s.f 11 [0,2,3,3]))
end Go.Proofs.YtmpnollfdpdipaaGreat
