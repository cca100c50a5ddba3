import Derived.Test.YtoffdamdpmeoiaaGreatDoorBkF
import Derived.Test.YtoffdamdpmeoiaaGreatDoorBkW1
import Derived.Test.YtoffdamdpmeoiaaGreatDoorBkW6
set_option linter.unusedVariables false
set_option maxRecDepth 20000
namespace Go.Proofs.YtoffdamdpmeoiaaGreatDoor
open Go Go.Pg
variable {A2 A3 A4 A5 A6 A7 A8 A9 A10 A11:Option Addr}{D2 D3 D4 D5 D6 D7 D8 D9 D10 D11 N2 N3 N4 N5 N6 N7 N8 N9 N10 N11:Nat}
theorem Z34_ok  {k1:formKind}{a:Node}{i:(List (List Int))}{mG:Int}{r:(List Int)×Bool}(u:Z34 k1 a i=some r) :
 FnOk Tryz.prog 209 [(.agg [].toArray),(.agg [(iv a.Op),(.slice A3 N3 D3),(.slice A4 N4 D4),(.slice A5 N5 D5),(aG a.Form),(.slice A6 N6 D6)].toArray),(.slice A8 N8 D8)] [aO kT3 (.slice A3 N3 D3) a.Args,aO kT3 (.slice A4 N4 D4) a.Dims,aO kT3 (.slice A5 N5 D5) a.Ints,aO kT3 (.slice A6 N6 D6) a.Data,aO bF (.slice A8 N8 D8) i,gG mG] (fun (h:HH)=>((.tuple [(s3 h),(.bool r.2)].toArray),[ow kT3 3 (s3 h) r.1])):=by
 unfold Z34 at u
 refine aR Tryz.func209 R 20 R R fun C V=>?_
 refine cL 0 aA ?_
 rintro rfl
 refine cL 1 aA ?_
 rintro rfl
 refine cL 2 aA ?_
 rintro rfl
 refine cL 3 aA ?_
 rintro rfl
 refine cL 4 aA ?_
 rintro rfl
 let M:=RR kT3 A3 D3 a.Args::RR kT3 A4 D4 a.Dims::RR kT3 A5 D5 a.Ints::RR kT3 A6 D6 a.Data::RR bF A8 D8 i::gG mG::V
 refine cN M ?_
 refine aZ ?_
 refine eT R fun b9=>?_
 refine eT R fun J=>?_
 refine aV ?_
 let O:=aK J [(iv a.Op),(sc A3 a.Args D3),(sc A4 a.Dims D4),(sc A5 a.Ints D5),(aG a.Form),(sc A6 a.Data D6)] 42::aK b9 [] 143::M
 refine qN O ?_
 refine aZ ?_
 obtain ⟨b,q,u⟩:=bd u
 refine bL ?_
 refine lM _ (fun w s=>(((s.d 6 R).dgx 8 R).e 2 [1,0])) ?_
 refine lC 2 Bf R (Z0_ok q) R ?_
 rintro ⟨⟨B,T,F⟩,⟨A14,N14,D14⟩,⟨j,U,l⟩,⟨D,Y,G⟩,⟨E,Z,I⟩⟩
 refine aM 0 aA ?_
 rintro rfl
 refine aM 1 aA ?_
 rintro rfl
 refine aM 2 aD ?_
 rintro rfl
 refine aM 3 aD ?_
 rintro rfl
 refine aM 4 aD ?_
 rintro rfl
 refine lO (vT R) (lO (vA R) (lB R (bG R R ly (fun L=>(aL 0 R R hN R R R R R R (lN (aK L [(sc B b.1.groups F),(aG b.1.out_),(aG b.1.order),(sc A14 b.1.loops D14),(sc j b.1.dims l),(sc D b.1.steps G),(sc E b.1.store I)] 211::_::_::_::_::_::O) ?_))))))
 refine lq ?_
 cases u
 exact kb (j,b.1.dims.length,l) (tE 14 [3])
theorem Z2y_ok  {a:(List Int)}{r:View}(b:Z2y a=some r) :
 FnOk Tryz.prog 160 [(.slice A2 N2 D2)] [aO kT3 (.slice A2 N2 D2) a] (fun (h:HH×HH)=>((.agg [(s3 h.1),(s3 h.2),(iv r.Offset),(iv r.Base)].toArray),[ow kT3 3 (s3 h.1) r.Dims,ow kT3 3 (s3 h.2) r.Strides])):=by
 unfold Z2y at b
 refine aR Tryz.func160 R 14 R R fun C V=>?_
 refine cL 0 aA ?_
 rintro rfl
 let E:=RR kT3 A2 D2 a::V
 refine cN E ?_
 refine aZ ?_
 refine bG R R cI (fun F=>(aB (aE (aH (aH ?_)))))
 obtain ⟨G,u,b⟩:=bd b
 refine aZ ?_
 refine lM _ (fun w s=>(s.d 1 R)) ?_
 refine lC 1 jK R (Zf_ok u) R ?_
 rintro _
 refine aV ?_
 split at b
 refine aV ?_
 refine lO (vz (.agg [(.slice none 0 0),(.slice none 0 0),(iv 0),(iv 0)].toArray) (bA eJ cI R R)) (aL 0 R R bU R R R R R R (aB (aE (bY (bZ ?_)))))
 cases b
 exact qS ((none,0,0),(none,0,0)) (fun w s=>(((s.nilo kT3 3).nilo kT3 3).e 4 [1,0]))
 refine bL ?_
 obtain ⟨D,B,b⟩:=bd b
 obtain ⟨i,j,b⟩:=bd b
 obtain ⟨q,l,b⟩:=bd b
 refine aZ ?_
 refine lM _ (fun w s=>(s.d 1 R)) ?_
 refine lC 1 gV R (Zt_ok B) R ?_
 rintro ⟨A9,N9,D9⟩
 refine aM 0 aD ?_
 rintro rfl
 refine lS R (lM _ (fun w s=>(s.d 2 R)) ?_)
 refine lC 1 ua R (Z0c_ok j) R ?_
 rintro ⟨A12,N12,D12⟩
 refine aM 0 aD ?_
 rintro rfl
 refine lS R (lM _ (fun w s=>(s.d 3 R)) ?_)
 refine lC 1 m9 R (Zl_ok l) R ?_
 rintro _
 refine lO (vz (.agg [(sc A9 D D9),(sc A12 i D12),(iv 0),(iv q)].toArray) (bA eJ cI R R)) (aL 2 R R bU R R R R R R (lN (_::_::aK F [(sc A9 D D9),(sc A12 i D12),(iv 0),(iv q)] 125::E) ?_))
 refine aV ?_
 cases b
 exact qS ((A9,D.length,D9),(A12,i.length,D12)) (tE 4 [1,0])
theorem Zk_ok  {v1:View}{r:Bool}(e:Zk v1=some r) :
 FnOk Tryz.prog 158 [(.agg [(.slice A2 N2 D2),(.slice A3 N3 D3),(iv v1.Offset),(iv v1.Base)].toArray)] [aO kT3 (.slice A2 N2 D2) v1.Dims,aO kT3 (.slice A3 N3 D3) v1.Strides] (fun (h:Unit)=>((.bool r),[])):=by
 unfold Zk at e
 refine aR Tryz.func158 R 91 R R fun C V=>?_
 refine cL 0 aA ?_
 rintro rfl
 refine cL 1 aA ?_
 rintro rfl
 let W0:=RR kT3 A2 D2 v1.Dims::RR kT3 A3 D3 v1.Strides::V
 refine cN W0 ?_
 refine aZ ?_
 refine eT R fun E=>?_
 refine aZ ?_
 let u:=aK E [(sc A2 v1.Dims D2),(sc A3 v1.Strides D3),(iv v1.Offset),(iv v1.Base)] 125::W0
 refine qN u ?_
 refine aV ?_
 obtain ⟨D,a4,e⟩:=bd e
 refine cQ [(1,(pt E 0)),(41,(.bool ((((((!D)||((v1.Strides.length:Int) != (v1.Dims.length:Int)))||(decide (v1.Base<1)))||(decide (v1.Base>4096)))||(decide (v1.Offset<0)))||(decide (v1.Offset≥v1.Base)))))] (u) ?_ ?_
 refine aV ?_
 refine lM _ (fun w s=>(s.d 1 R)) ?_
 refine lC 1 jK R (Zf_ok a4) R ?_
 rintro _
 refine lN u ?_
 refine aZ ?_
 rcases bo (!D) with a0 | a0
 refine yj ?_
 exact qj tI
 refine dG ?_
 rcases bo ((!D)||((v1.Strides.length:Int) != (v1.Dims.length:Int))) with a1 | a1
 refine Ao ?_
 exact qj tI
 refine cV ?_
 rcases bo (((!D)||((v1.Strides.length:Int) != (v1.Dims.length:Int)))||(decide (v1.Base<1))) with a2 | a2
 refine qv ?_
 exact qj tI
 refine cV ?_
 rcases bo ((((!D)||((v1.Strides.length:Int) != (v1.Dims.length:Int)))||(decide (v1.Base<1)))||(decide (v1.Base>4096))) with F | F
 refine jl ?_
 exact qj tI
 refine cV ?_
 rcases bo (((((!D)||((v1.Strides.length:Int) != (v1.Dims.length:Int)))||(decide (v1.Base<1)))||(decide (v1.Base>4096)))||(decide (v1.Offset<0))) with G | G
 refine eD ?_
 exact qj tI
 refine eD ?_
 exact qj tI
 rintro σ1
 refine cP ?_
 split at e
 refine dN ?_
 cases e
 exact qF () (tE 3 [])
 refine bL ?_
 refine dP 6 [] bS fun ht hn=>?_
 refine tW 0 [] ?_
 refine dD (aE (aH (bB (A:=(Int×Int)×(Unit)) (fun a=>Zk_J1 v1 a.1.1 a.1.2=some r) (fun a=>[(1,(pt E 0)),(3,(iv a.1.1)),(4,(iv a.1.2))]) (fun a=>u) ?_ ?_)))
 refine dG ?_
 obtain ⟨e1,a3,U⟩:=bd e
 refine bD (A:=HH) a3 (fun s a=>[(1,(pt E 0)),(3,(iv s.1)),(4,(iv s.2.1)),(47,(s3 a)),(48,(il v1.Strides)),(49,(iv s.2.2))]) (fun s a=>aO kT3 (s3 a) v1.Strides::u) (A3,v1.Strides.length,D3) (aS R) (fun w s=>(s.d 2 R)) ?_
 rintro ⟨j,i,b⟩ ⟨a6,Y,q⟩ σ1 a5 e L
 dsimp only [Zk_L1] at e
 refine bK 0 aA (fun (hn:Y=v1.Strides.length)=>?_)
 subst hn
 refine cB ?_
 split at e
 refine cB ?_
 obtain ⟨M,e⟩:=gd e
 refine aZ ?_
 refine bE 0 aA (show 0<v1.Strides.length by have:=M; omega) (fun B o29 Z=>?_)
 subst Z
 refine dN ?_
 refine cQ [(1,(pt E 0)),(3,(iv j)),(4,(iv i)),(5,(iv b)),(6,(iv (ix v1.Strides b))),(47,(sc (ad B o29) v1.Strides q)),(48,(il v1.Strides)),(49,(iv b)),(59,(.bool ((decide ((ix v1.Strides b)<(-4096:Int)))||(decide ((ix v1.Strides b)>4096)))))] (RR kT3 (ad B o29) q v1.Strides::u) ?_ ?_
 refine bL ?_
 rcases bo (decide ((ix v1.Strides b)<(-4096:Int))) with I | I
 refine bL ?_
 exact qj tI
 refine bL ?_
 exact qj tI
 rintro σ1
 refine cP ?_
 split at e
 refine dJ ?_
 cases e
 obtain rfl:=L _ R
 have e:=U
 refine aV ?_
 cases e
 exact qF () (tE 4 [])
 refine bL ?_
 obtain ⟨O,e⟩:=gd e
 refine cB ?_
 refine bE 2 aA (show 0<v1.Dims.length by have:=O; omega) (fun a7 o34 Z=>?_)
 subst Z
 refine bL ?_
 refine lO (vz (iv (if (aI ((ix v1.Strides b)*(aI ((ix v1.Dims b) - 1))))<0 then (aI ((ix v1.Strides b)*(aI ((ix v1.Dims b) - 1)))) else (0:Int))) (xd R R)) ?_
 refine pB ?_
 refine lO (vz (iv (if (aI ((ix v1.Strides b)*(aI ((ix v1.Dims b) - 1))))>0 then (aI ((ix v1.Strides b)*(aI ((ix v1.Dims b) - 1)))) else (0:Int))) (xc R R)) ?_
 refine dG ?_
 cases e
 exact qA ((ad B o29),v1.Strides.length,q) tI
 refine aV ?_
 cases e
 obtain rfl:=L _ R
 have e:=U
 refine aZ ?_
 exact qI ((j,i),()) e (tE 1 [])
 rintro ⟨⟨l,T⟩,_⟩ σ1 e
 dsimp only [Zk_J1] at e
 refine aH (cQ [(2,(.bool ((decide (l≥0))&&(decide (T<v1.Base)))))] (u) ?_ ?_)
 refine bL ?_
 rcases bo (decide (l≥0)) with J | J
 refine eD ?_
 exact qj tI
 refine eD ?_
 exact qj tI
 rintro σ1
 refine aZ ?_
 cases e
 exact qF () (tE 3 [])
theorem Z08_ok  {p1:View}{q:(List Int)}{u:View}{L:Nat}{b6:Nat}{b9:Nat}{r:Bool×View}(b:Z08 p1 q u=some r) :
 FnOk Tryz.prog 170 [(pt L 0),(pt b6 0),(pt b9 0)] [aO kT3 (.slice A3 N3 D3) p1.Dims,aO kT3 (.slice A4 N4 D4) p1.Strides,aK L [(.slice A3 N3 D3),(.slice A4 N4 D4),(iv p1.Offset),(iv p1.Base)] 125,aO kT3 (.slice A7 N7 D7) q,aK b6 [(.slice A7 N7 D7)] 23,aO kT3 (.slice A10 N10 D10) u.Dims,aO kT3 (.slice A11 N11 D11) u.Strides,aK b9 [(.slice A10 N10 D10),(.slice A11 N11 D11),(iv u.Offset),(iv u.Base)] 125] (fun (h:HH×HH)=>((.bool r.1),[aO kT3 (.slice h.1.1 h.1.2.1 h.1.2.2) r.2.Dims,aO kT3 (.slice h.2.1 h.2.2.1 h.2.2.2) r.2.Strides,aK L [(.slice h.1.1 h.1.2.1 h.1.2.2),(.slice h.2.1 h.2.2.1 h.2.2.2),(iv r.2.Offset),(iv r.2.Base)] 125,aK b6 [(.slice A7 N7 D7)] 23,aK b9 [(.slice A10 N10 D10),(.slice A11 N11 D11),(iv u.Offset),(iv u.Base)] 125])):=by
 unfold Z08 at b
 refine aR Tryz.func170 R 71 R R fun C V=>?_
 refine cM (aK _ _ _::aK _ _ _::aK _ _ _::aO _ _ _::aO _ _ _::aO _ _ _::aO _ _ _::aO _ _ _::V) (fun w s=>(s.e 8 [2,4,7,0,1,3,5,6])) ?_
 refine cL 3 aA ?_
 rintro rfl
 refine cL 4 aA ?_
 rintro rfl
 refine cL 5 aA ?_
 rintro rfl
 refine cL 6 aA ?_
 rintro rfl
 refine cL 7 aA ?_
 rintro rfl
 let W0:List HP:=RR kT3 A3 D3 p1.Dims::RR kT3 A4 D4 p1.Strides::RR kT3 A7 D7 q::RR kT3 A10 D10 u.Dims::RR kT3 A11 D11 u.Strides::V
 refine cN (aK L [(sc A3 p1.Dims D3),(sc A4 p1.Strides D4),(iv p1.Offset),(iv p1.Base)] 125::aK b6 [(sc A7 q D7)] 23::aK b9 [(sc A10 u.Dims D10),(sc A11 u.Strides D11),(iv u.Offset),(iv u.Base)] 125::W0) ?_
 refine aH (aC (lB R (aB ?_)))
 let J:List HP:=aK b6 [(sc A7 q D7)] 23::aK b9 [(sc A10 u.Dims D10),(sc A11 u.Strides D11),(iv u.Offset),(iv u.Base)] 125::W0
 refine qN (_::J) ?_
 refine aE (aH (aH ?_))
 obtain ⟨ab,a8,b⟩:=bd b
 refine cQ [(0,(pt L 0)),(1,(pt b6 0)),(2,(pt b9 0)),(17,(.bool ((!ab)||(decide ((q.length:Int)<(u.Dims.length:Int))))))] (aK L [(sc A3 p1.Dims D3),(sc A4 p1.Strides D4),(iv p1.Offset),(iv p1.Base)] 125::J) ?_ ?_
 refine aC (lO (eS 1 cH R R R) (lM (RR kT3 A7 D7 q::_::J) (fun w s=>(s.d 5 R)) ?_))
 refine lC 1 jK R (Zf_ok a8) R ?_
 rintro _
 refine lN (_::J) ?_
 refine lO (ne R) (lB R ?_)
 rcases bo (!ab) with i | i
 refine lf (cX i) (lf (cX i) (lf (cX i) (lf (cX i) (lf (cX i) (lf (cX i) (lO (fB (decide ((q.length:Int)<(u.Dims.length:Int))) R i) (aB ?_)))))))
 exact qJ (fun w s=>s)
 refine lW (bW i) (eS 1 cH R R R) (lW (bW i) (eN bH R) (lW (bW i) (eW 0 eE R) (lW (bW i) (eS 2 cH R R R) (lW (bW i) (eN bH R) (lW (bW i) (jG R R) (lO (fG R i R) (aB ?_)))))))
 exact qJ (fun w s=>s)
 rintro σ1
 refine aE ?_
 rcases cF b with ⟨O,b⟩|⟨O,b⟩
 refine bJ R O (aH (aC (lB R (aB (aE (bY (bZ ?_)))))))
 obtain rfl:=so b
 exact qF ((A3,p1.Dims.length,D3),(A4,p1.Strides.length,D4)) (fun w s=>(s.f 8 [3,2,0,3]))
 refine aY R O (bQ (aE (aH ?_)))
 obtain ⟨j,a9,b⟩:=bd b
 refine aC (lP R (lO (eS 1 cH R R R) (lM (RR kT3 A7 D7 q::_::J) (fun w s=>(s.d 5 R)) ?_)))
 refine lC 1 gV R (Zt_ok a9) R ?_
 rintro ⟨B,ac,D⟩
 refine lN (ow kT3 3 (.slice B ac D) j::_::J) ?_
 refine aM 0 aD ?_
 rintro rfl
 refine lP R (lO (eW 0 eE R) (dI 1 R R fK R R R R R (lN (_::aK L [(sc B j D),(sc A4 p1.Strides D4),(iv p1.Offset),(iv p1.Base)] 125::J) ?_)))
 refine aB (aE (aH ?_))
 obtain ⟨Z,b⟩:=gd b
 refine aC (lP R (lO (eS 2 cH R R R) (lO (eN bH R) (fW (K:=kT3) (m:=(q.length:Int)) (z:=(0:Int)) R R bH cO kE (Zr.zk zT3 gN) (by decide) R R Z.1 Z.2.1 Z.2.2 (fun E l=>(lP R (lO (eW 1 eX R) (dI 2 R R fK R R R R R (lN (OO kT3 3 E l (List.replicate (q.length:Int).toNat (0:Int))::_::aK L [(sc B j D),(sc E (List.replicate (q.length:Int).toNat (0:Int)) l),(iv p1.Offset),(iv p1.Base)] 125::J) ?_)))))))))
 refine aB (aE (aH (bB (A:=((List Int))×(Unit)) (fun a=>Z08_J3 p1 j a.1=some r) (fun a=>[]) (fun a=>aK L [(sc B j D),(sc E (List.replicate (q.length:Int).toNat (0:Int)) l),(iv p1.Offset),(iv p1.Base)] 125::OO kT3 3 B D j::ow kT3 3 (.slice E (List.replicate (q.length:Int).toNat (0:Int)).length l) a.1::J) ?_ ?_)))
 refine aH (aC (lO (eW 0 eE R) (lO (eS 4 cH R R R) (lO (eN bH R) (lI R (aB (aE (bV ?_))))))))
 obtain ⟨e1,ae,a7⟩:=bd b
 refine bD (A:=Unit) ae (fun s a=>[(0,(pt L 0)),(1,(pt b6 0)),(2,(pt b9 0)),(31,(il u.Dims)),(32,(iv s.2))]) (fun s a=>aK L [(sc B j D),(sc E (List.replicate (q.length:Int).toNat (0:Int)) l),(iv p1.Offset),(iv p1.Base)] 125::OO kT3 3 B D j::ow kT3 3 (.slice E (List.replicate (q.length:Int).toNat (0:Int)).length l) s.1::J) () (aS R) (fun w s=>(s.e 3 [2,1,0])) ?_
 rintro ⟨a4,F⟩ _ σ1 a3 b a6
 replace b:Z08_L1 p1 q u j a4 F=some a3:=b
 unfold Z08_L1 at b
 refine aH (aC (lO (jG R R) (aB (aE (aH ?_)))))
 rcases cF b with ⟨T,b⟩|⟨T,b⟩
 refine bJ R T (bQ (aE (aH (bB (A:=((List Int))×(Unit)) (fun a=>Z08_J2 F a.1=some a3) (fun a=>[(0,(pt L 0)),(1,(pt b6 0)),(2,(pt b9 0)),(31,(il u.Dims)),(32,(iv F))]) (fun a=>aK L [(sc B j D),(sc E (List.replicate (q.length:Int).toNat (0:Int)) l),(iv p1.Offset),(iv p1.Base)] 125::OO kT3 3 B D j::ow kT3 3 (.slice E (List.replicate (q.length:Int).toNat (0:Int)).length l) a.1::J) ?_ ?_))))
 refine bV (aH (aC (lI R (lI R (aB (aE (aH (aC (lO (eS 3 cH R R R) (lO (eN bH R) (lO (eW 0 eE R) (lO (eS 4 cH R R R) (lO (eN bH R) (lO (sG R R) (lI R (lO (iE R R) (lI R (aB (aE (aH ?_))))))))))))))))))))
 obtain ⟨G,b⟩:=gd b
 obtain ⟨a0,b⟩:=gd b
 refine bC 8 aA (show 0<u.Dims.length by have:=G; omega) (fun aj o44 ha=>?_)
 subst ha
 refine bC 7 aA (show 0<q.length by have:=a0; omega) (fun ak o47 ha=>?_)
 subst ha
 refine dP 10 [] bS (fun ht hn=>(dR 0 R (eW 0 eE R) (dR 1 R (eS 4 cH R R R) (dR 2 R (vI R) (dR 3 R (dV bH cO R R G) (dR 4 R (fQ 8 fC aA R G) (dR 5 R (eS 3 cH R R R) (dR 6 R (vI R) (dR 7 R (dV bH cO R R a0) (dR 8 R (fQ 7 fC aA R a0) (dR 9 R (kO R R) (dD (aE ?_)))))))))))))
 rcases cF b with ⟨U,b⟩|⟨U,b⟩
 refine bJ R U ?_
 obtain ⟨a1,b⟩:=gd b
 obtain ⟨M,b⟩:=gd b
 refine bC 9 aA (show 0<u.Strides.length by have:=a1; omega) (fun al o51 ha=>?_)
 subst ha
 refine bC 2 aD (show 0<(List.replicate (q.length:Int).toNat (0:Int)).length by have:=M; omega) (fun a5 o54 ha=>?_)
 subst ha
 refine dP 12 [2] bS (fun ht hn=>(dR 0 R (vP R) (hS:=(sL [2])) (dR 1 R (vP R) (hS:=(sL [2])) (dR 2 R (eW 1 eX R) (hS:=(sL [2])) (dR 3 R (eS 0 cH R R R) (hS:=(sL [2])) (dR 4 R (vI R) (hS:=(sL [2])) (dR 5 R (eW 1 eX R) (hS:=(sL [2])) (dR 6 R (eS 3 cH R R R) (hS:=(sL [2])) (dR 7 R (vI R) (hS:=(sL [2])) (dR 8 R (dV bH cO R R a1) (hS:=(sL [2])) (dR 9 R (fQ 8 fC aA R a1) (hS:=(sL [2])) (dR 10 R (dV bH cO R R M) (hS:=(sL [2])) (d1 11 R (lM (ow kT3 3 (.slice (ad a5 o54) (List.replicate (q.length:Int).toNat (0:Int)).length l) a4::aK L [(sc B j D),(sc (ad a5 o54) (List.replicate (q.length:Int).toNat (0:Int)) l),(iv p1.Offset),(iv p1.Base)] 125::ow _ _ _ _::J) (fun w s=>(s.e 3 [2,0,1])) ?_))))))))))))))
 refine eO (K:=kT3) (x':=(ix u.Strides F)) 0 (aI ((aI ((q.length:Int) - (u.Dims.length:Int)))+F)) R R cO R R M.1 M.2 ?_ ?_
 exact fun I h s=>(gM).put I h () (ix u.Strides F) s
 refine lN (ow kT3 3 (.slice (ad a5 o54) (List.replicate (q.length:Int).toNat (0:Int)).length l) (a4.set (aI ((aI ((q.length:Int) - (u.Dims.length:Int)))+F)).toNat (ix u.Strides F))::_::_::J) ?_
 refine aB (aJ (sL [0]) (dD ?_))
 obtain ⟨aa,a2,b⟩:=bd b
 replace a2:=Option.some.inj a2
 refine qM (ow kT3 3 (.slice (ad a5 o54) (List.replicate (q.length:Int).toNat (0:Int)).length l) aa::_::_::J) (fun w s=>by rw [← a2]; exact s) ?_
 refine cD ?_
 exact qI (aa,()) b (fun w s=>(s.e 3 [1,2,0]))
 refine aY R U (aH (aC (lO (eW 0 eE R) (lO (eS 4 cH R R R) (lI R (lO (dV bH cO R R G) (lO (fQ 8 fC aA R G) (lO (vt R R) (aB (aE ?_))))))))))
 rcases cF b with ⟨Y,b⟩|⟨Y,b⟩
 refine bJ R Y (aH (aC (lB R (aB (aE (bY (cG (bZ ?_))))))))
 obtain rfl:=so b
 obtain rfl:=a6 _ R
 have b:=a7
 refine bZ (cG (bZ ?_))
 obtain rfl:=so b
 exact qF ((B,j.length,D),(E,(List.replicate (q.length:Int).toNat (0:Int)).length,l)) (fun w s=>(((s.shr 1 R).shr 2 R).e 10 [1,0,2,3,4]))
 refine aY R Y (bQ (cD ?_))
 exact qI (a4,()) b (fun w s=>s)
 rintro ⟨ai,_⟩ σ1 b
 replace b:Z08_J2 F ai=some a3:=b
 unfold Z08_J2 at b
 refine aC (lO (iE R R) (lI R (aB ?_)))
 obtain rfl:=so b
 exact qA () (fun w s=>s)
 refine aY R T (eA (cE ?_))
 obtain rfl:=so b
 obtain rfl:=a6 _ R
 have b:=a7
 refine cE (dH ?_)
 exact dC (a4,()) b trivial (fun w s=>s)
 rintro ⟨ag,_⟩ σ1 b
 replace b:Z08_J3 p1 j ag=some r:=b
 unfold Z08_J3 at b
 refine aH (aC (lB R (aB (aE (bY ?_)))))
 obtain rfl:=so b
 exact qF ((B,j.length,D),(E,(List.replicate (q.length:Int).toNat (0:Int)).length,l)) (fun w s=>(((s.shr 1 R).shr 2 R).e 10 [1,0,2,3,4]))
theorem Z3g_ok  {v1:View}{q5:(List Int)}{G:View}{b6:Nat}{b9:Nat}{r:View}(E:Z3g v1 q5 G=some r) :
 FnOk Tryz.prog 169 [(.agg [(.slice A2 N2 D2),(.slice A3 N3 D3),(iv v1.Offset),(iv v1.Base)].toArray),(.func (.func 170) [].toArray [(pt b6 0),(pt b9 0)].toArray)] [aO kT3 (.slice A2 N2 D2) v1.Dims,aO kT3 (.slice A3 N3 D3) v1.Strides,aO kT3 (.slice A7 N7 D7) q5,aK b6 [(.slice A7 N7 D7)] 23,aO kT3 (.slice A10 N10 D10) G.Dims,aO kT3 (.slice A11 N11 D11) G.Strides,aK b9 [(.slice A10 N10 D10),(.slice A11 N11 D11),(iv G.Offset),(iv G.Base)] 125] (fun (h:HH×HH)=>((.agg [(s3 h.1),(s3 h.2),(iv r.Offset),(iv r.Base)].toArray),[aO kT3 (s3 h.1) r.Dims,aO kT3 (s3 h.2) r.Strides,aK b6 [(.slice A7 N7 D7)] 23,aK b9 [(.slice A10 N10 D10),(.slice A11 N11 D11),(iv G.Offset),(iv G.Base)] 125])):=by
 unfold Z3g at E
 refine aR Tryz.func169 R 31 R R fun C V=>?_
 refine cM _ (tE 7 [3,6,0,1,2,4,5]) ?_
 refine cL 2 aA ?_
 rintro rfl
 refine cL 3 aA ?_
 rintro rfl
 refine cL 4 aA ?_
 rintro rfl
 refine cL 5 aA ?_
 rintro rfl
 refine cL 6 aA ?_
 rintro rfl
 let W0:=RR kT3 A2 D2 v1.Dims::RR kT3 A3 D3 v1.Strides::RR kT3 A7 D7 q5::RR kT3 A10 D10 G.Dims::RR kT3 A11 D11 G.Strides::V
 refine aZ ?_
 refine eT R fun ai=>?_
 refine bG R R cI (fun I=>(aB (qM _ (tE 4 [0,2,3,1]) ?_)))
 let W1:=aK ai [(sc A2 v1.Dims D2),(sc A3 v1.Strides D3),(iv v1.Offset),(iv v1.Base)] 125::W0
 refine aV ?_
 obtain ⟨ap,a6,E⟩:=bd E
 refine aZ ?_
 refine lM _ (fun w s=>(((s.d 4 R).d 6 R).e 5 [1,0,2,3,4])) ?_
 refine lC 2 nq R (Zk_ok a6) R ?_
 rintro _
 refine aV ?_
 split at E
 refine aV ?_
 refine lO (vz (.agg [(.slice none 0 0),(.slice none 0 0),(iv 0),(iv 0)].toArray) (bA eJ cI R R)) (aL 0 R R bU R R R R R R (aB (aE (bY (bZ ?_)))))
 cases E
 exact qS ((none,0,0),(none,0,0)) (fun w s=>(((s.nilr kT3).nilr kT3).e 11 [1,0,3,4]))
 refine bL ?_
 obtain ⟨i,Z,E⟩:=bd E
 obtain ⟨j,J,E⟩:=bd E
 refine jt (A:=(Unit)×(Nat×HH×HH)) (fun _=>True) (fun a=>[(1,(.func (.func 170) [].toArray [(pt b6 0),(pt b9 0)].toArray)),(4,(pt I 0)),(5,(pt a.2.1 0))]) (fun a=>aK b6 [(sc A7 q5 D7)] 23::aK b9 [(sc A10 G.Dims D10),(sc A11 G.Strides D11),(iv G.Offset),(iv G.Base)] 125::aK I [(.slice none 0 0),(.slice none 0 0),(iv 0),(iv 0)] 125::aK a.2.1 [(s3 a.2.2.1),(s3 a.2.2.2),(iv v1.Offset),(iv v1.Base)] 125::ow kT3 3 (s3 a.2.2.1) i::ow kT3 3 (s3 a.2.2.2) j::W1) ?_ ?_
 refine dP 13 [] bS fun ht Y=>?_
 refine iM 0 [] ?_
 refine iM 3 [] ?_
 refine qg 6 [] ?_
 refine iQ [2,11] (by kernel_rfl) R ⟨?_,?_,trivial⟩
 refine lM _ (fun w s=>(s.d 4 R)) ?_
 refine lC 1 gV R (Zt_ok Z) R ?_
 rintro ⟨u,aa,B⟩
 refine aM 0 aD ?_
 rintro rfl
 refine aB (aJ (sL [0]) (iQ [5,11] (by kernel_rfl) R ⟨?_,?_,trivial⟩))
 refine lM _ (fun w s=>(s.d 6 R)) ?_
 refine lC 1 gV R (Zt_ok J) R ?_
 rintro ⟨l,a5,q⟩
 refine aM 0 aD ?_
 rintro rfl
 refine aB (aJ (sL [1,0]) (dR 10 R (vz (.agg [(sc u i B),(sc l j q),(iv v1.Offset),(iv v1.Base)].toArray) (bA eJ cI R R)) (hS:=(sL [1,0])) (d1 11 R (bG R R cI (fun F=>(aB (aJ (sL [2,1,0]) (d1 12 R (aL 0 R R bU R R R R R R (lN (aK F [(sc u i B),(sc l j q),(iv v1.Offset),(iv v1.Base)] 125::_::_::_::_::_::W1) ?_))))))))))
 refine aB (aJ (sL [2,1,0]) (dD ?_))
 exact dC ((),(F,(u,i.length,B),(l,j.length,q))) trivial (aS R) (tE 6 [4,5,3,0,2,1])
 refine bG R R cI (fun F=>(aB (aJ (sL [1,0]) (d1 5 R (lM _ (fun w s=>(s.d 7 R)) ?_)))))
 refine lC 1 gV R (Zt_ok J) R ?_
 rintro ⟨l,a5,q⟩
 refine aM 0 aD ?_
 rintro rfl
 refine aB (aJ (sL [2,1,0]) (dR 10 R (vz (.agg [(sc u i B),(sc l j q),(iv v1.Offset),(iv v1.Base)].toArray) (bA eJ cI R R)) (hS:=(sL [2,1,0])) (d1 12 R (aL 1 R R bU R R R R R R (lN (_::aK F [(sc u i B),(sc l j q),(iv v1.Offset),(iv v1.Base)] 125::_::_::_::_::W1) ?_)))))
 refine aB (aJ (sL [2,1,0]) (dD ?_))
 exact dC ((),(F,(u,i.length,B),(l,j.length,q))) trivial (aS R) (tE 6 [4,5,3,1,2,0])
 refine bG R R cI (fun F=>(aB (aJ (sL [0]) (d1 2 R (lM _ (fun w s=>(s.d 5 R)) ?_)))))
 refine lC 1 gV R (Zt_ok Z) R ?_
 rintro ⟨u,aa,B⟩
 refine aM 0 aD ?_
 rintro rfl
 refine aB (aJ (sL [1,0]) (d1 5 R (lM _ (fun w s=>(s.d 7 R)) ?_)))
 refine lC 1 gV R (Zt_ok J) R ?_
 rintro ⟨l,a5,q⟩
 refine aM 0 aD ?_
 rintro rfl
 refine aB (aJ (sL [2,1,0]) (dR 10 R (vz (.agg [(sc u i B),(sc l j q),(iv v1.Offset),(iv v1.Base)].toArray) (bA eJ cI R R)) (hS:=(sL [2,1,0])) (d1 12 R (aL 2 R R bU R R R R R R (lN (_::_::aK F [(sc u i B),(sc l j q),(iv v1.Offset),(iv v1.Base)] 125::_::_::_::W1) ?_)))))
 refine aB (aJ (sL [2,1,0]) (dD ?_))
 exact dC ((),(F,(u,i.length,B),(l,j.length,q))) trivial (aS R) (tE 6 [4,5,3,2,1,0])
 rintro ⟨_,⟨a4,⟨aj,ab,al⟩,⟨ak,ac,am⟩⟩⟩ σ1 -
 refine iR 4 aD (fun (Y:ab=i.length)=>?_)
 subst Y
 refine iR 5 aD (fun (Y:ac=j.length)=>?_)
 subst Y
 refine aV ?_
 obtain ⟨b,a7,E⟩:=bd E
 obtain ⟨a9,a8,E⟩:=bd E
 refine jt (A:=(Unit)×(HH×HH)) (fun _=>True) (fun a=>[(4,(pt I 0)),(5,(pt a4 0)),(28,(.bool ((!b.1)||(!a9))))]) (fun a=>aK I [(.slice none 0 0),(.slice none 0 0),(iv 0),(iv 0)] 125::aK a4 [(s3 a.2.1),(s3 a.2.2),(iv b.2.Offset),(iv b.2.Base)] 125::aO kT3 (s3 a.2.1) b.2.Dims::aO kT3 (s3 a.2.2) b.2.Strides::aK b6 [(sc A7 q5 D7)] 23::aK b9 [(sc A10 G.Dims D10),(sc A11 G.Strides D11),(iv G.Offset),(iv G.Base)] 125::W1) ?_ ?_
 refine aC (lO (vp _ R) (ji (fun w s=>s.shr 4 R) (ji (fun w s=>s.shr 5 R) (lM _ (fun w s=>((((((s.d 1 R).d 1 R).d 11 R).d 13 R).d 15 R).e 11 [4,3,10,2,7,1,0,8,5,6,9])) ?_))))
 refine cU (fs:=[]) (cs:=[(pt b6 0),(pt b9 0)]) 8 R R Bi R R (Z08_ok (p1:=(⟨i,j,v1.Offset,v1.Base⟩:View)) a7) R ?_
 rintro ⟨⟨a0,an,a2⟩,⟨a1,ao,a3⟩⟩
 refine aM 0 aA ?_
 rintro rfl
 refine aM 1 aA ?_
 rintro rfl
 refine aZ ?_
 rcases bo (!b.1) with D | D
 refine aV ?_
 refine lO (fB (!a9) R D) (aB ?_)
 exact dC ((),((a0,b.2.Dims.length,a2),(a1,b.2.Strides.length,a3))) trivial (aS R) (tE 8 [7,2,0,1,3,4])
 refine lW (bW D) (vz (.agg [(sc a0 b.2.Dims a2),(sc a1 b.2.Strides a3),(iv b.2.Offset),(iv b.2.Base)].toArray) (dA 2 eR bU R R R R)) (lM _ (fun w s=>(((s.d 0 R).d 2 R).f 10 [1,1,0,1,2,8])) ?_)
 refine b' 2 R (bW D) nq R (Zk_ok (bM a8 (cZ D))) R ?_
 rintro _
 refine cP ?_
 refine lO (fG R D R) (aB ?_)
 exact dC ((),((a0,b.2.Dims.length,a2),(a1,b.2.Strides.length,a3))) trivial (aS R) (tE 8 [7,2,0,1,3,4])
 rintro ⟨_,⟨⟨L,ae,O⟩,⟨M,ag,T⟩⟩⟩ σ1 -
 refine iR 2 aA (fun (Y:ae=b.2.Dims.length)=>?_)
 subst Y
 refine iR 3 aA (fun (Y:ag=b.2.Strides.length)=>?_)
 subst Y
 refine cP ?_
 rcases cF E with ⟨U,E⟩|⟨U,E⟩
 refine aV ?_
 refine lO (vz (.agg [(.slice none 0 0),(.slice none 0 0),(iv 0),(iv 0)].toArray) (bA eJ cI R R)) (aL 0 R R bU R R R R R R (lN (_::aK a4 [(sc L b.2.Dims O),(sc M b.2.Strides T),(iv b.2.Offset),(iv b.2.Base)] 125::RR kT3 L O b.2.Dims::RR kT3 M T b.2.Strides::_::_::W1) ?_))
 refine bL ?_
 cases E
 exact qS ((none,0,0),(none,0,0)) (fun w s=>(((s.nilr kT3).nilr kT3).e 14 [1,0,6,7]))
 refine aY R U ?_
 refine cV ?_
 refine aL 0 R R bU R R R R R R (lN (aK I [(sc L b.2.Dims O),(sc M b.2.Strides T),(iv b.2.Offset),(iv b.2.Base)] 125::_::_::_::_::_::W1) ?_)
 refine aV ?_
 cases E
 exact qS ((L,b.2.Dims.length,O),(M,b.2.Strides.length,T)) (fun w s=>(s.f 12 [2,4]))
theorem Z2p_ok  {v1:View}{a:(List Int)}{r:View}(l:Z2p v1 a=some r) :
 FnOk Tryz.prog 161 [(.agg [(.slice A2 N2 D2),(.slice A3 N3 D3),(iv v1.Offset),(iv v1.Base)].toArray),(.slice A5 N5 D5)] [aO kT3 (.slice A2 N2 D2) v1.Dims,aO kT3 (.slice A3 N3 D3) v1.Strides,aO kT3 (.slice A5 N5 D5) a] (fun (h:HH×HH)=>((.agg [(.slice h.1.1 h.1.2.1 h.1.2.2),(.slice h.2.1 h.2.2.1 h.2.2.2),(iv r.Offset),(iv r.Base)].toArray),[aO kT3 (.slice h.1.1 h.1.2.1 h.1.2.2) r.Dims,aO kT3 (.slice h.2.1 h.2.2.1 h.2.2.2) r.Strides])):=by
 unfold Z2p at l
 refine aR Tryz.func161 R 8 R R fun C V=>?_
 refine cN (_::_::_::V) ?_
 refine cL 0 aA ?_
 rintro rfl
 refine cL 1 aA ?_
 rintro rfl
 refine cL 2 aA ?_
 rintro rfl
 let j:List HP:=RR kT3 A2 D2 v1.Dims::RR kT3 A3 D3 v1.Strides::RR kT3 A5 D5 a::V
 refine cN j ?_
 refine aH (aC (eT R (fun u=>(fS (cs:=[(sc A5 a D5)]) R R R (fun B=>(bG R R cI (fun q=>(aB (aE (aH ?_))))))))))
 obtain ⟨b,i,l⟩:=bd l
 refine aC (lO (vz (.agg [(sc A2 v1.Dims D2),(sc A3 v1.Strides D3),(iv v1.Offset),(iv v1.Base)].toArray) (dA 2 eR bU R R R R)) (lO (vp (.func (.func 170) [].toArray [(pt B 0),(pt u 0)].toArray) R) (lM (RR kT3 A2 D2 v1.Dims::RR kT3 A3 D3 v1.Strides::RR kT3 A5 D5 a::aK _ _ _::RR kT3 A2 D2 v1.Dims::RR kT3 A3 D3 v1.Strides::aK _ _ _::aK _ _ _::j) (fun w s=>((((((s.d 3 R).d 5 R).d 7 R).d 6 R).d 8 R).e 8 [4,3,2,6,1,0,7,5])) ?_)))
 refine lC 7 ub R (Z3g_ok i) R ?_
 rintro ⟨⟨A11,N11,D11⟩,⟨A12,N12,D12⟩⟩
 refine lN (aO kT3 (.slice A11 N11 D11) b.Dims::aO kT3 (.slice A12 N12 D12) b.Strides::_::_::_::j) ?_
 refine aM 0 aA ?_
 rintro rfl
 refine aM 1 aA ?_
 rintro rfl
 refine aL 4 R R bU R R R R R R (lN (_::_::_::_::aK q [(sc A11 b.Dims D11),(sc A12 b.Strides D12),(iv b.Offset),(iv b.Base)] 125::j) ?_)
 refine aB (aE (bY ?_))
 obtain rfl:=so l
 exact dL (vs:=[(.agg [(sc A11 b.Dims D11),(sc A12 b.Strides D12),(iv b.Offset),(iv b.Base)].toArray)]) (.inl R) ((A11,b.Dims.length,D11),(A12,b.Strides.length,D12)) R ⟨⟨4,q,_,_,R,R,.inl ⟨eR,bU,R⟩⟩,trivial⟩ R (fun w s=>(s.e 8 [0,1]))
theorem Z16_ok  {v1:View}{e:Int}{b:Int}{i:Int}{B:Nat}{r:View}(u:Z16 v1 e b i=some r) :
 FnOk Tryz.prog 172 [(pt B 0),(iv e),(iv b),(iv i)] [ow kT3 3 (.slice A3 N3 D3) v1.Dims,ow kT3 3 (.slice A4 N4 D4) v1.Strides,aK B [(.slice A3 N3 D3),(.slice A4 N4 D4),(iv v1.Offset),(iv v1.Base)] 125] (fun (h:HH×HH)=>((.tuple [].toArray),[ow kT3 3 (s3 h.1) r.Dims,ow kT3 3 (s3 h.2) r.Strides,aK B [(s3 h.1),(s3 h.2),(iv r.Offset),(iv r.Base)] 125])):=by
 unfold Z16 at u
 refine aR Tryz.func172 R 24 R R fun C V=>?_
 refine cL 0 aD ?_
 rintro rfl
 refine cL 1 aD ?_
 rintro rfl
 refine aH (bB (A:=(Int)×(Unit)) (fun a=>Z16_J3 v1 e b a.1=some r) (fun a=>[(0,(pt B 0)),(1,(iv e)),(2,(iv b)),(3,(iv a.1))]) (fun a=>aK B [(sc A3 v1.Dims D3),(sc A4 v1.Strides D4),(iv v1.Offset),(iv v1.Base)] 125::OO kT3 3 A3 D3 v1.Dims::OO kT3 3 A4 D4 v1.Strides::V) ?_ ?_)
 refine cV ?_
 let G:=aK B [(sc A3 v1.Dims D3),(sc A4 v1.Strides D4),(iv v1.Offset),(iv v1.Base)] 125::V
 refine cP ?_
 split at u
 refine bL ?_
 exact qI ((0:Int),()) u (tE 3 [2,0,1])
 refine aZ ?_
 exact qI (i,()) u (tE 3 [2,0,1])
 rintro ⟨j,_⟩ σ1 u
 dsimp only [Z16_J3] at u
 obtain ⟨l,u⟩:=gd u
 obtain ⟨q,u⟩:=gd u
 refine bC 1 aD (show 0<v1.Dims.length by have:=l; omega) (fun D o12 F=>?_)
 subst F
 refine bC 2 aD (show 0<v1.Strides.length by have:=q; omega) (fun E o15 F=>?_)
 subst F
 refine dP 16 [2,1] bS fun L J=>?_
 refine nQ 0 [2,1] ?_
 refine d1 13 R (lM _ (tE 3 [1,0,2]) ?_)
 refine eO (K:=kT3) (x':=b) 0 e R R cO R R l.1 l.2 ?_ ?_
 exact fun I h s=>(gM).put I h () b s
 refine aB (aJ (sL [2,0]) ?_)
 refine pC 14 [2,0] ?_
 refine d1 15 R (lM _ (tE 3 [2,0,1]) ?_)
 refine eO (K:=kT3) (x':=j) 0 e R R cO R R q.1 q.2 ?_ ?_
 exact fun I h s=>(gM).put I h () j s
 refine aB (aJ (sL [1,0]) (dD ?_))
 cases u
 exact DY (((ad D o12),v1.Dims.length,D3),((ad E o15),v1.Strides.length,D4)) (tE 3 [1,0,2])
theorem Z1r_ok  {p1:View}{D:Int}{F:Int}{q:Int}{e:Int}{u:Nat}{G:Nat}{I:Nat}{l:Nat}{b:Nat}{r:Bool×View×Int}(j:Z1r p1 D F q e=some r) :
 FnOk Tryz.prog 171 [(pt u 0),(pt G 0),(pt I 0),(pt l 0),(pt b 0)] [ow kT3 3 (.slice A3 N3 D3) p1.Dims,ow kT3 3 (.slice A4 N4 D4) p1.Strides,aK u [(.slice A3 N3 D3),(.slice A4 N4 D4),(iv p1.Offset),(iv p1.Base)] 125,aK G [(iv D)] 3,aK I [(iv F)] 3,aK l [(iv q)] 3,aK b [(iv e)] 3] (fun (h:HH×HH)=>((.bool r.1),[ow kT3 3 (s3 h.1) r.2.1.Dims,ow kT3 3 (s3 h.2) r.2.1.Strides,aK u [(s3 h.1),(s3 h.2),(iv r.2.1.Offset),(iv r.2.1.Base)] 125,aK G [(iv D)] 3,aK I [(iv F)] 3,aK l [(iv q)] 3,aK b [(iv r.2.2)] 3])):=by
 unfold Z1r at j
 refine aR Tryz.func171 R 86 R R fun C V=>?_
 refine cL 0 aD ?_
 rintro rfl
 refine cL 1 aD ?_
 rintro rfl
 refine bL ?_
 refine qM _ (fun w s=>(s.f 7 [0,3,6,1,3,3])) ?_
 let L:=aK G [(iv D)] 3::aK I [(iv F)] 3::aK l [(iv q)] 3::V
 refine aV ?_
 obtain ⟨J,E,j⟩:=bd j
 refine cQ [(0,(pt u 0)),(1,(pt G 0)),(2,(pt I 0)),(3,(pt l 0)),(4,(pt b 0)),(24,(.bool (((!J)||(decide (F<1)))||(decide (F>4096)))))] (aK u [(sc A3 p1.Dims D3),(sc A4 p1.Strides D4),(iv p1.Offset),(iv p1.Base)] 125::OO kT3 3 A3 D3 p1.Dims::OO kT3 3 A4 D4 p1.Strides::aK b [(iv e)] 3::L) ?_ ?_
 rcases bo (!J) with O | O
 refine dP 15 [] bS fun ht hn=>?_
 refine kX 0 [] ?_
 refine d1 5 R (lC 1 hM R (FnOk.lends (A':=[OO kT3 3 A3 D3 p1.Dims]) (A:=[RR kT3 A3 D3 p1.Dims]) (B:=[]) (Zp_ok E) ⟨aU,trivial⟩ (fun _=>trivial)) R ?_)
 rintro _
 refine aB (aJ (sL []) ?_)
 refine xg 6 [] ?_
 refine dD ?_
 exact qj (tE 4 [2,0,1,3])
 rcases bo ((!J)||(decide (F<1))) with T | T
 refine dP 15 [] bS fun ht hn=>?_
 refine kX 0 [] ?_
 refine d1 5 R (lC 1 hM R (FnOk.lends (A':=[OO kT3 3 A3 D3 p1.Dims]) (A:=[RR kT3 A3 D3 p1.Dims]) (B:=[]) (Zp_ok E) ⟨aU,trivial⟩ (fun _=>trivial)) R ?_)
 rintro _
 refine aB (aJ (sL []) ?_)
 refine xg 6 [] ?_
 refine dD ?_
 exact qj (tE 4 [2,0,1,3])
 refine dP 15 [] bS fun ht hn=>?_
 refine kX 0 [] ?_
 refine d1 5 R (lC 1 hM R (FnOk.lends (A':=[OO kT3 3 A3 D3 p1.Dims]) (A:=[RR kT3 A3 D3 p1.Dims]) (B:=[]) (Zp_ok E) ⟨aU,trivial⟩ (fun _=>trivial)) R ?_)
 rintro _
 refine aB (aJ (sL []) ?_)
 refine xg 6 [] ?_
 refine dD ?_
 exact qj (tE 4 [2,0,1,3])
 rintro σ1
 refine cP ?_
 split at j
 refine dN ?_
 cases j
 exact qF ((A3,p1.Dims.length,D3),(A4,p1.Strides.length,D4)) (tE 7 [1,2,0,4,5,6,3])
 refine bL ?_
 obtain ⟨a1,j⟩:=gd j
 refine bC 1 aD (show 0<p1.Dims.length by have:=a1; omega) (fun i o20 ha=>?_)
 subst ha
 refine dP 8 [] bS fun ht hn=>?_
 refine vR 0 [] ?_
 refine dD ?_
 refine aV ?_
 refine cQ [(0,(pt u 0)),(1,(pt G 0)),(2,(pt I 0)),(3,(pt l 0)),(4,(pt b 0)),(7,(iv (ix p1.Dims D))),(46,(.bool ((((decide (q<0))||(decide (q≥(ix p1.Dims D))))||(decide (e<(-4096:Int))))||(decide (e>4096)))))] (aK u [(sc (ad i o20) p1.Dims D3),(sc A4 p1.Strides D4),(iv p1.Offset),(iv p1.Base)] 125::OO kT3 3 (ad i o20) D3 p1.Dims::OO kT3 3 A4 D4 p1.Strides::aK b [(iv e)] 3::L) ?_ ?_
 refine bL ?_
 rcases bo (decide (q<0)) with U | U
 refine lq ?_
 exact qj tI
 refine cV ?_
 rcases bo ((decide (q<0))||(decide (q≥(ix p1.Dims D)))) with Y | Y
 refine dN ?_
 exact qj tI
 refine bL ?_
 rcases bo (((decide (q<0))||(decide (q≥(ix p1.Dims D))))||(decide (e<(-4096:Int)))) with Z | Z
 refine bL ?_
 exact qj tI
 refine bL ?_
 exact qj tI
 rintro σ1
 refine cP ?_
 split at j
 refine dN ?_
 cases j
 exact qF (((ad i o20),p1.Dims.length,D3),(A4,p1.Strides.length,D4)) (tE 7 [1,2,0,4,5,6,3])
 refine bL ?_
 refine bB (A:=(Int)×(Unit)) (fun a=>Z1r_J3 p1 D F q a.1=some r) (fun a=>[(0,(pt u 0)),(1,(pt G 0)),(2,(pt I 0)),(3,(pt l 0)),(4,(pt b 0))]) (fun a=>aK u [(sc (ad i o20) p1.Dims D3),(sc A4 p1.Strides D4),(iv p1.Offset),(iv p1.Base)] 125::OO kT3 3 (ad i o20) D3 p1.Dims::OO kT3 3 A4 D4 p1.Strides::aK b [(iv a.1)] 3::L) ?_ ?_
 refine cB ?_
 split at j
 refine lq ?_
 refine cQ [(0,(pt u 0)),(1,(pt G 0)),(2,(pt I 0)),(3,(pt l 0)),(4,(pt b 0)),(61,(.bool ((decide ((aI (q+(aI (e*(aI (F - 1))))))<0))||(decide ((aI (q+(aI (e*(aI (F - 1))))))≥(ix p1.Dims D))))))] (aK u [(sc (ad i o20) p1.Dims D3),(sc A4 p1.Strides D4),(iv p1.Offset),(iv p1.Base)] 125::OO kT3 3 (ad i o20) D3 p1.Dims::OO kT3 3 A4 D4 p1.Strides::aK b [(iv e)] 3::L) ?_ ?_
 refine bL ?_
 rcases bo (decide ((aI (q+(aI (e*(aI (F - 1))))))<0)) with a0 | a0
 refine cV ?_
 exact qj tI
 refine cV ?_
 exact qj tI
 rintro σ1
 refine cP ?_
 split at j
 refine dN ?_
 cases j
 exact qF (((ad i o20),p1.Dims.length,D3),(A4,p1.Strides.length,D4)) (tE 7 [1,2,0,4,5,6,3])
 refine aZ ?_
 exact qI (e,()) j tI
 refine aZ ?_
 refine dI 3 R R cO R R R R R (lN (aK u [(sc (ad i o20) p1.Dims D3),(sc A4 p1.Strides D4),(iv p1.Offset),(iv p1.Base)] 125::OO kT3 3 (ad i o20) D3 p1.Dims::_::aK b [(iv 0)] 3::L) ?_)
 refine cP ?_
 exact qI ((0:Int),()) j tI
 rintro ⟨a9,_⟩ σ1 j
 dsimp only [Z1r_J3] at j
 refine cP ?_
 obtain ⟨a2,j⟩:=gd j
 refine bC 2 aD (show 0<p1.Strides.length by have:=a2; omega) (fun M o31 ha=>?_)
 subst ha
 refine dP 8 [] bS fun ht hn=>?_
 refine vR 0 [] ?_
 refine dD (aE (aH (dP 11 [0] bS fun ht hn=>?_)))
 refine j6 0 [0] ?_
 refine j6 4 [0] ?_
 refine d1 3 R (lO (eS 0 fC R R R) (aB (aJ (sL [0]) ?_)))
 refine j6 7 [0] ?_
 refine d1 10 R (dI 0 R R cO R R R R R (lN (aK u [(sc (ad i o20) p1.Dims D3),(sc (ad M o31) p1.Strides D4),(iv (aI (p1.Offset+(aI (q*(ix p1.Strides D)))))),(iv p1.Base)] 125::_::OO kT3 3 (ad M o31) D4 p1.Strides::aK b [(iv a9)] 3::L) ?_))
 refine aB (aJ (sL [0]) (dD ?_))
 refine aZ ?_
 obtain ⟨a4,a3,j⟩:=bd j
 refine eD ?_
 refine lM _ (tE 4 [1,2,0,3]) ?_
 refine lC 3 uc R (Z16_ok (v1:=(⟨p1.Dims,p1.Strides,(aI (p1.Offset+(aI (q*(ix p1.Strides D))))),p1.Base⟩:View)) a3) R ?_
 rintro ⟨⟨a5,aa,a7⟩,⟨a6,ab,a8⟩⟩
 refine aM 0 aD ?_
 rintro rfl
 refine aM 1 aD ?_
 rintro rfl
 refine dN ?_
 cases j
 exact qF ((a5,a4.Dims.length,a7),(a6,a4.Strides.length,a8)) (fun w s=>(s.f 7 [0,3,4,3,3,1]))
theorem Z3f_ok  {v1:View}{q5:Int}{q7:Int}{q9:Int}{a6:Int}{b6:Nat}{b8:Nat}{I:Nat}{J:Nat}{r:View×Int}(F:Z3f v1 q5 q7 q9 a6=some r) :
 FnOk Tryz.prog 169 [(.agg [(.slice A2 N2 D2),(.slice A3 N3 D3),(iv v1.Offset),(iv v1.Base)].toArray),(.func (.func 171) [].toArray [(pt b6 0),(pt b8 0),(pt I 0),(pt J 0)].toArray)] [aO kT3 (.slice A2 N2 D2) v1.Dims,aO kT3 (.slice A3 N3 D3) v1.Strides,aK b6 [(iv q5)] 3,aK b8 [(iv q7)] 3,aK I [(iv q9)] 3,aK J [(iv a6)] 3] (fun (h:HH×HH)=>((.agg [(s3 h.1),(s3 h.2),(iv r.1.Offset),(iv r.1.Base)].toArray),[ow kT3 3 (s3 h.1) r.1.Dims,ow kT3 3 (s3 h.2) r.1.Strides,aK b6 [(iv q5)] 3,aK b8 [(iv q7)] 3,aK I [(iv q9)] 3,aK J [(iv r.2)] 3])):=by
 unfold Z3f at F
 refine aR Tryz.func169 R 31 R R fun C V=>?_
 refine cM _ (fun w s=>(s.f 6 [2,4,0,2])) ?_
 refine cL 4 aA ?_
 rintro rfl
 refine cL 5 aA ?_
 rintro rfl
 let W0:=RR kT3 A2 D2 v1.Dims::RR kT3 A3 D3 v1.Strides::V
 refine aZ ?_
 refine eT R fun ak=>?_
 refine bG R R cI (fun U=>(aB (qM _ (tE 6 [0,2,3,4,5,1]) ?_)))
 let W1:=aK ak [(sc A2 v1.Dims D2),(sc A3 v1.Strides D3),(iv v1.Offset),(iv v1.Base)] 125::W0
 refine aV ?_
 obtain ⟨ar,a8,F⟩:=bd F
 refine aZ ?_
 refine lM _ (fun w s=>(((s.d 6 R).d 8 R).f 7 [1,1,0,1,2,5])) ?_
 refine lC 2 nq R (Zk_ok a8) R ?_
 rintro _
 refine aV ?_
 split at F
 refine aV ?_
 refine lO (vz (.agg [(.slice none 0 0),(.slice none 0 0),(iv 0),(iv 0)].toArray) (bA eJ cI R R)) (aL 0 R R bU R R R R R R (aB (aE (bY (bZ ?_)))))
 cases F
 exact qS ((none,0,0),(none,0,0)) (fun w s=>(((s.nilo kT3 3).nilo kT3 3).e 10 [1,0,3,4,5,6]))
 refine bL ?_
 obtain ⟨i,a4,F⟩:=bd F
 obtain ⟨j,Y,F⟩:=bd F
 refine jt (A:=(Unit)×(Nat×HH×HH)) (fun _=>True) (fun a=>[(1,(.func (.func 171) [].toArray [(pt b6 0),(pt b8 0),(pt I 0),(pt J 0)].toArray)),(4,(pt U 0)),(5,(pt a.2.1 0))]) (fun a=>aK b6 [(iv q5)] 3::aK b8 [(iv q7)] 3::aK I [(iv q9)] 3::aK J [(iv a6)] 3::aK U [(.slice none 0 0),(.slice none 0 0),(iv 0),(iv 0)] 125::aK a.2.1 [(s3 a.2.2.1),(s3 a.2.2.2),(iv v1.Offset),(iv v1.Base)] 125::ow kT3 3 (s3 a.2.2.1) i::ow kT3 3 (s3 a.2.2.2) j::W1) ?_ ?_
 refine dP 13 [] bS fun ht hn=>?_
 refine iM 0 [] ?_
 refine iM 3 [] ?_
 refine qg 6 [] ?_
 refine iQ [2,11] (by kernel_rfl) R ⟨?_,?_,trivial⟩
 refine lM _ (fun w s=>(s.d 6 R)) ?_
 refine lC 1 gV R (Zt_ok a4) R ?_
 rintro ⟨u,ac,D⟩
 refine aM 0 aD ?_
 rintro rfl
 refine aB (aJ (sL [0]) (iQ [5,11] (by kernel_rfl) R ⟨?_,?_,trivial⟩))
 refine lM _ (fun w s=>(s.d 8 R)) ?_
 refine lC 1 gV R (Zt_ok Y) R ?_
 rintro ⟨l,a7,q⟩
 refine aM 0 aD ?_
 rintro rfl
 refine aB (aJ (sL [1,0]) (dR 10 R (vz (.agg [(sc u i D),(sc l j q),(iv v1.Offset),(iv v1.Base)].toArray) (bA eJ cI R R)) (hS:=(sL [1,0])) (d1 11 R (bG R R cI (fun G=>(aB (aJ (sL [2,1,0]) (d1 12 R (aL 0 R R bU R R R R R R (lN (aK G [(sc u i D),(sc l j q),(iv v1.Offset),(iv v1.Base)] 125::_::_::_::_::_::_::_::W1) ?_))))))))))
 refine aB (aJ (sL [2,1,0]) (dD ?_))
 exact dC ((),(G,(u,i.length,D),(l,j.length,q))) trivial (aS R) (tE 8 [4,5,6,7,3,0,2,1])
 refine bG R R cI (fun G=>(aB (aJ (sL [1,0]) (d1 5 R (lM _ (fun w s=>(s.d 9 R)) ?_)))))
 refine lC 1 gV R (Zt_ok Y) R ?_
 rintro ⟨l,a7,q⟩
 refine aM 0 aD ?_
 rintro rfl
 refine aB (aJ (sL [2,1,0]) (dR 10 R (vz (.agg [(sc u i D),(sc l j q),(iv v1.Offset),(iv v1.Base)].toArray) (bA eJ cI R R)) (hS:=(sL [2,1,0])) (d1 12 R (aL 1 R R bU R R R R R R (lN (_::aK G [(sc u i D),(sc l j q),(iv v1.Offset),(iv v1.Base)] 125::_::_::_::_::_::_::W1) ?_)))))
 refine aB (aJ (sL [2,1,0]) (dD ?_))
 exact dC ((),(G,(u,i.length,D),(l,j.length,q))) trivial (aS R) (tE 8 [4,5,6,7,3,1,2,0])
 refine bG R R cI (fun G=>(aB (aJ (sL [0]) (d1 2 R (lM _ (fun w s=>(s.d 7 R)) ?_)))))
 refine lC 1 gV R (Zt_ok a4) R ?_
 rintro ⟨u,ac,D⟩
 refine aM 0 aD ?_
 rintro rfl
 refine aB (aJ (sL [1,0]) (d1 5 R (lM _ (fun w s=>(s.d 9 R)) ?_)))
 refine lC 1 gV R (Zt_ok Y) R ?_
 rintro ⟨l,a7,q⟩
 refine aM 0 aD ?_
 rintro rfl
 refine aB (aJ (sL [2,1,0]) (dR 10 R (vz (.agg [(sc u i D),(sc l j q),(iv v1.Offset),(iv v1.Base)].toArray) (bA eJ cI R R)) (hS:=(sL [2,1,0])) (d1 12 R (aL 2 R R bU R R R R R R (lN (_::_::aK G [(sc u i D),(sc l j q),(iv v1.Offset),(iv v1.Base)] 125::_::_::_::_::_::W1) ?_)))))
 refine aB (aJ (sL [2,1,0]) (dD ?_))
 exact dC ((),(G,(u,i.length,D),(l,j.length,q))) trivial (aS R) (tE 8 [4,5,6,7,3,2,1,0])
 rintro ⟨_,⟨a5,⟨al,ae,an⟩,⟨am,ag,ao⟩⟩⟩ σ1 -
 refine iR 6 aD (fun (hn:ae=i.length)=>?_)
 subst hn
 refine iR 7 aD (fun (hn:ag=j.length)=>?_)
 subst hn
 refine aV ?_
 obtain ⟨b,a9,F⟩:=bd F
 obtain ⟨ab,aa,F⟩:=bd F
 refine jt (A:=(Unit)×(HH×HH)) (fun _=>True) (fun a=>[(4,(pt U 0)),(5,(pt a5 0)),(28,(.bool ((!b.1)||(!ab))))]) (fun a=>aK U [(.slice none 0 0),(.slice none 0 0),(iv 0),(iv 0)] 125::aK a5 [(s3 a.2.1),(s3 a.2.2),(iv b.2.1.Offset),(iv b.2.1.Base)] 125::ow kT3 3 (s3 a.2.1) b.2.1.Dims::ow kT3 3 (s3 a.2.2) b.2.1.Strides::aK b6 [(iv q5)] 3::aK b8 [(iv q7)] 3::aK I [(iv q9)] 3::aK J [(iv b.2.2)] 3::W1) ?_ ?_
 refine aC (lO (vp _ R) (lM _ (fun w s=>(s.f 8 [6,2,5,1,0,5])) ?_))
 refine cU (fs:=[]) (cs:=[(pt b6 0),(pt b8 0),(pt I 0),(pt J 0)]) 7 R R Bk R R (Z1r_ok (p1:=(⟨i,j,v1.Offset,v1.Base⟩:View)) a9) R ?_
 rintro ⟨⟨L,ap,O⟩,⟨M,aq,T⟩⟩
 refine aM 0 aD ?_
 rintro rfl
 refine aM 1 aD ?_
 rintro rfl
 refine aZ ?_
 rcases bo (!b.1) with E | E
 refine aV ?_
 refine lO (fB (!ab) R E) (aB ?_)
 exact dC ((),((L,b.2.1.Dims.length,O),(M,b.2.1.Strides.length,T))) trivial (aS R) (tE 8 [7,2,0,1,3,4,5,6])
 refine lW (bW E) (vz (.agg [(sc L b.2.1.Dims O),(sc M b.2.1.Strides T),(iv b.2.1.Offset),(iv b.2.1.Base)].toArray) (dA 2 eR bU R R R R)) (b' 2 R (bW E) nq R (FnOk.lends (A':=[OO kT3 3 L O b.2.1.Dims,OO kT3 3 M T b.2.1.Strides]) (A:=[RR kT3 L O b.2.1.Dims,RR kT3 M T b.2.1.Strides]) (B:=[]) (Zk_ok (bM aa (cZ E))) ⟨aU,aU,trivial⟩ (fun _=>trivial)) R ?_)
 rintro _
 refine cP ?_
 refine lO (fG R E R) (aB ?_)
 exact dC ((),((L,b.2.1.Dims.length,O),(M,b.2.1.Strides.length,T))) trivial (aS R) (tE 8 [7,2,0,1,3,4,5,6])
 rintro ⟨_,⟨⟨Z,ai,a1⟩,⟨a0,aj,a2⟩⟩⟩ σ1 -
 refine iR 2 aD (fun (hn:ai=b.2.1.Dims.length)=>?_)
 subst hn
 refine iR 3 aD (fun (hn:aj=b.2.1.Strides.length)=>?_)
 subst hn
 refine cP ?_
 rcases cF F with ⟨a3,F⟩|⟨a3,F⟩
 refine aV ?_
 refine lO (vz (.agg [(.slice none 0 0),(.slice none 0 0),(iv 0),(iv 0)].toArray) (bA eJ cI R R)) (aL 0 R R bU R R R R R R (lN (_::aK a5 [(sc Z b.2.1.Dims a1),(sc a0 b.2.1.Strides a2),(iv b.2.1.Offset),(iv b.2.1.Base)] 125::OO kT3 3 Z a1 b.2.1.Dims::OO kT3 3 a0 a2 b.2.1.Strides::_::_::_::_::W1) ?_))
 refine bL ?_
 cases F
 exact qS ((none,0,0),(none,0,0)) (fun w s=>(((s.nilo kT3 3).nilo kT3 3).e 13 [1,0,6,7,8,9]))
 refine aY R a3 ?_
 refine cV ?_
 refine aL 0 R R bU R R R R R R (lN (aK U [(sc Z b.2.1.Dims a1),(sc a0 b.2.1.Strides a2),(iv b.2.1.Offset),(iv b.2.1.Base)] 125::_::_::_::_::_::_::_::W1) ?_)
 refine aV ?_
 cases F
 exact qS ((Z,b.2.1.Dims.length,a1),(a0,b.2.1.Strides.length,a2)) (fun w s=>(s.f 11 [2,6]))
theorem Z2o_ok  {v1:View}{b:Int}{L:Int}{a:Int}{i:Int}{r:View}(E:Z2o v1 b L a i=some r) :
 FnOk Tryz.prog 162 [(.agg [(.slice A2 N2 D2),(.slice A3 N3 D3),(iv v1.Offset),(iv v1.Base)].toArray),(iv b),(iv L),(iv a),(iv i)] [aO kT3 (.slice A2 N2 D2) v1.Dims,aO kT3 (.slice A3 N3 D3) v1.Strides] (fun (h:HH×HH)=>((.agg [(s3 h.1),(s3 h.2),(iv r.Offset),(iv r.Base)].toArray),[ow kT3 3 (s3 h.1) r.Dims,ow kT3 3 (s3 h.2) r.Strides])):=by
 unfold Z2o at E
 refine aR Tryz.func162 R 14 R R fun C V=>?_
 refine cL 0 aA ?_
 rintro rfl
 refine cL 1 aA ?_
 rintro rfl
 let M:=RR kT3 A2 D2 v1.Dims::RR kT3 A3 D3 v1.Strides::V
 refine cN M ?_
 refine aZ ?_
 refine eT R fun Y=>?_
 refine fS (cs:=[(iv b)]) R R R (fun Z=>(fS (cs:=[(iv L)]) R R R (fun F=>(fS (cs:=[(iv a)]) R R R (fun G=>(fS (cs:=[(iv i)]) R R R (fun I=>(bG R R cI (fun J=>(aB ?_))))))))))
 let U:=aK Y [(sc A2 v1.Dims D2),(sc A3 v1.Strides D3),(iv v1.Offset),(iv v1.Base)] 125::M
 refine aZ ?_
 obtain ⟨j,D,E⟩:=bd E
 refine aZ ?_
 refine lO (vp (.func (.func 171) [].toArray [(pt Z 0),(pt G 0),(pt F 0),(pt I 0)].toArray) R) (lM _ (fun w s=>(((s.d 6 R).d 8 R).e 7 [1,0,6,4,5,3,2])) ?_)
 refine lC 6 ub R (Z3f_ok D) R ?_
 rintro ⟨⟨l,O,u⟩,⟨q,T,B⟩⟩
 refine aM 0 aD ?_
 rintro rfl
 refine aM 1 aD ?_
 rintro rfl
 refine aL 6 R R bU R R R R R R (lN (_::_::_::_::_::_::aK J [(sc l j.1.Dims u),(sc q j.1.Strides B),(iv j.1.Offset),(iv j.1.Base)] 125::U) ?_)
 refine aV ?_
 cases E
 exact qS ((l,j.1.Dims.length,u),(q,j.1.Strides.length,B)) (tE 10 [0,1])
theorem Z2x_ok  {v1:View}{a:Int}{b:Int}{D:Nat}{r:View}(j:Z2x v1 a b=some r) :
 FnOk Tryz.prog 174 [(pt D 0),(iv a),(iv b)] [ow kT3 3 (.slice A3 N3 D3) v1.Dims,ow kT3 3 (.slice A4 N4 D4) v1.Strides,aK D [(.slice A3 N3 D3),(.slice A4 N4 D4),(iv v1.Offset),(iv v1.Base)] 125] (fun (h:HH×HH)=>((.tuple [].toArray),[ow kT3 3 (.slice h.1.1 h.1.2.1 h.1.2.2) r.Dims,ow kT3 3 (.slice h.2.1 h.2.2.1 h.2.2.2) r.Strides,aK D [(.slice h.1.1 h.1.2.1 h.1.2.2),(.slice h.2.1 h.2.2.1 h.2.2.2),(iv r.Offset),(iv r.Base)] 125])):=by
 unfold Z2x at j
 refine aR Tryz.func174 R 34 R R fun C V=>?_
 refine cN (_::_::_::V) ?_
 refine cL 0 aD ?_
 rintro rfl
 refine cL 1 aD ?_
 rintro rfl
 refine aH ?_
 obtain ⟨L,j⟩:=gd j
 refine aC (lP R (lP R (lP R (lO (eW 0 eE R) (lO (eS 2 cH R R R) (bO (K:=kT3) (xs:=([(0:Int)]:List Int)) (vs:=[(iv 0)]) 0 R R bH cO gN R R R R R R ?_ R (fun A7 D7=>?_)))))))
 exact fun I h s=>(gM).list [((),(0:Int))] I h s
 refine lN (OO kT3 3 A7 D7 ([(0:Int)]:List Int)::_::_::aK D [(sc A3 v1.Dims D3),(sc A4 v1.Strides D4),(iv v1.Offset),(iv v1.Base)] 125::V) ?_
 refine lM (ow _ _ _ _::ow _ _ _ _::ow _ _ _ _::aK _ _ _::V) (fun w s=>(s.e 4 [1,0,2,3])) ?_
 refine eU (K:=kT3) 17592186044416 R R bH cO kE (Zr.zk zT3 gN) R R R R R R eB L (fun A9 D9=>(lN (OO kT3 3 A9 D9 (v1.Dims++([(0:Int)]:List Int))::_::_::V) ?_))
 refine lP R (lO (eW 0 eE R) (dI 2 R R fK R R R R R (lN (_::_::aK D [(sc A9 (v1.Dims++([(0:Int)]:List Int)) D9),(sc A4 v1.Strides D4),(iv v1.Offset),(iv v1.Base)] 125::V) ?_)))
 refine aB (aE (aH ?_))
 obtain ⟨G,j⟩:=gd j
 refine aC (lP R (lP R (lP R (lO (eW 1 eX R) (lO (eS 2 cH R R R) (bO (K:=kT3) (xs:=([(0:Int)]:List Int)) (vs:=[(iv 0)]) 0 R R bH cO gN R R R R R R ?_ R (fun A10 D10=>?_)))))))
 exact fun I h s=>(gM).list [((),(0:Int))] I h s
 refine lN (OO kT3 3 A10 D10 ([(0:Int)]:List Int)::_::_::_::V) ?_
 refine lM (ow _ _ _ _::ow _ _ _ _::ow _ _ _ _::aK _ _ _::V) (fun w s=>(s.e 4 [2,0,1,3])) ?_
 refine eU (K:=kT3) 17592186044416 R R bH cO kE (Zr.zk zT3 gN) R R R R R R eB G (fun A12 D12=>(lN (OO kT3 3 A12 D12 (v1.Strides++([(0:Int)]:List Int))::_::_::V) ?_))
 refine lP R (lO (eW 1 eX R) (dI 2 R R fK R R R R R (lN (_::_::aK D [(sc A9 (v1.Dims++([(0:Int)]:List Int)) D9),(sc A12 (v1.Strides++([(0:Int)]:List Int)) D12),(iv v1.Offset),(iv v1.Base)] 125::V) ?_)))
 refine aB (aE ?_)
 obtain ⟨i,J,j⟩:=bd j
 refine aC (lP R (lP R (lP R (lO (eW 0 eE R) (lO (eS 2 cH R R R) (lO (eN bH R) (lO (sG R R) (lI R (lI R (lM (ow _ _ _ _::ow _ _ _ _::aK _ _ _::V) (fun w s=>(s.e 3 [1,0,2])) ?_))))))))))
 refine lC 3 uc R (Z16_ok (v1:=(⟨(v1.Dims++([(0:Int)]:List Int)),(v1.Strides++([(0:Int)]:List Int)),v1.Offset,v1.Base⟩:View)) J) R ?_
 rintro ⟨⟨l,E,u⟩,⟨q,F,B⟩⟩
 refine lN (ow kT3 3 (.slice l E u) i.Dims::ow kT3 3 (.slice q F B) i.Strides::aK D [(.slice l E u),(.slice q F B),(iv i.Offset),(iv i.Base)] 125::V) ?_
 refine aM 0 aD ?_
 rintro rfl
 refine aM 1 aD ?_
 rintro rfl
 refine aB ?_
 obtain rfl:=so j
 exact dL (vs:=[]) (.inr R) ((l,i.Dims.length,u),(q,i.Strides.length,B)) R trivial R (fun w s=>s)
theorem Z1s_ok  {p1:View}{D:Int}{q:Int}{E:Int}{G:Nat}{I:Nat}{J:Nat}{i:Nat}{r:Bool×View×Int}(b:Z1s p1 D q E=some r) :
 FnOk Tryz.prog 173 [(pt G 0),(pt I 0),(pt J 0),(pt i 0)] [ow kT3 3 (.slice A3 N3 D3) p1.Dims,ow kT3 3 (.slice A4 N4 D4) p1.Strides,aK G [(.slice A3 N3 D3),(.slice A4 N4 D4),(iv p1.Offset),(iv p1.Base)] 125,aK I [(iv D)] 3,aK J [(iv q)] 3,aK i [(iv E)] 3] (fun (h:HH×HH)=>((.bool r.1),[ow kT3 3 (s3 h.1) r.2.1.Dims,ow kT3 3 (s3 h.2) r.2.1.Strides,aK G [(s3 h.1),(s3 h.2),(iv r.2.1.Offset),(iv r.2.1.Base)] 125,aK I [(iv D)] 3,aK J [(iv q)] 3,aK i [(iv r.2.2)] 3])):=by
 unfold Z1s at b
 refine aR Tryz.func173 R 66 R R fun C V=>?_
 refine cL 0 aD ?_
 rintro rfl
 refine cL 1 aD ?_
 rintro rfl
 refine bL ?_
 refine qM _ (tE 6 [0,1,2,5,3,4]) ?_
 let W1:=aK I [(iv D)] 3::aK J [(iv q)] 3::V
 refine aV ?_
 obtain ⟨F,j,b⟩:=bd b
 obtain ⟨l,b⟩:=gd b
 refine cQ [(0,(pt G 0)),(1,(pt I 0)),(2,(pt J 0)),(3,(pt i 0)),(33,(.bool ((((!F)||(decide (q<1)))||(decide (E<1)))||(decide (q>(ix p1.Dims D))))))] (aK G [(sc A3 p1.Dims D3),(sc A4 p1.Strides D4),(iv p1.Offset),(iv p1.Base)] 125::OO kT3 3 A3 D3 p1.Dims::OO kT3 3 A4 D4 p1.Strides::aK i [(iv E)] 3::W1) ?_ ?_
 rcases bo (!F) with O | O
 refine dP 26 [] bS fun ht hn=>?_
 refine kX 0 [] ?_
 refine d1 5 R (lC 1 hM R (FnOk.lends (A':=[OO kT3 3 A3 D3 p1.Dims]) (A:=[RR kT3 A3 D3 p1.Dims]) (B:=[]) (Zp_ok j) ⟨aU,trivial⟩ (fun _=>trivial)) R ?_)
 rintro _
 refine aB (aJ (sL []) ?_)
 refine tY 6 [] ?_
 refine dD ?_
 exact qj (tE 4 [2,0,1,3])
 rcases bo ((!F)||(decide (q<1))) with T | T
 refine dP 26 [] bS fun ht hn=>?_
 refine kX 0 [] ?_
 refine d1 5 R (lC 1 hM R (FnOk.lends (A':=[OO kT3 3 A3 D3 p1.Dims]) (A:=[RR kT3 A3 D3 p1.Dims]) (B:=[]) (Zp_ok j) ⟨aU,trivial⟩ (fun _=>trivial)) R ?_)
 rintro _
 refine aB (aJ (sL []) ?_)
 refine tY 6 [] ?_
 refine dD ?_
 exact qj (tE 4 [2,0,1,3])
 rcases bo (((!F)||(decide (q<1)))||(decide (E<1))) with e | e
 refine dP 26 [] bS fun ht hn=>?_
 refine kX 0 [] ?_
 refine d1 5 R (lC 1 hM R (FnOk.lends (A':=[OO kT3 3 A3 D3 p1.Dims]) (A:=[RR kT3 A3 D3 p1.Dims]) (B:=[]) (Zp_ok j) ⟨aU,trivial⟩ (fun _=>trivial)) R ?_)
 rintro _
 refine aB (aJ (sL []) ?_)
 refine tY 6 [] ?_
 refine dD ?_
 exact qj (tE 4 [2,0,1,3])
 refine bC 0 aD (show 0<p1.Dims.length by have:=(l e); omega) (fun L o15 M=>?_)
 subst M
 refine dP 26 [] bS fun ht hn=>?_
 refine kX 0 [] ?_
 refine d1 5 R (lC 1 hM R (FnOk.lends (A':=[OO kT3 3 (ad L o15) D3 p1.Dims]) (A:=[RR kT3 (ad L o15) D3 p1.Dims]) (B:=[]) (Zp_ok j) ⟨aU,trivial⟩ (fun _=>trivial)) R ?_)
 rintro _
 refine aB (aJ (sL []) ?_)
 refine CA 6 [] ?_
 refine dW 22 R (bW e) (dV bH cO R R (l e)) (dW 23 R (bW e) (fQ 0 fC aD R (l e)) ?_)
 refine iM 24 [] ?_
 refine dD ?_
 exact qj (tE 4 [2,0,1,3])
 rintro σ1
 refine cP ?_
 split at b
 refine dN ?_
 cases b
 exact qF ((A3,p1.Dims.length,D3),(A4,p1.Strides.length,D4)) (tE 6 [1,2,0,4,5,3])
 refine bL ?_
 obtain ⟨U,b⟩:=gd b
 refine bC 2 aD (show 0<p1.Strides.length by have:=U; omega) (fun s o22 M=>?_)
 subst M
 refine dP 8 [] bS fun ht hn=>?_
 refine vR 0 [] ?_
 refine dD ?_
 refine aZ ?_
 obtain ⟨Y,b⟩:=gd b
 obtain ⟨Z,b⟩:=gd b
 refine bC 1 aD (show 0<p1.Dims.length by have:=Y; omega) (fun u o25 M=>?_)
 subst M
 refine dP 13 [] bS fun ht hn=>?_
 refine pD 0 [] ?_
 refine dR 10 R (vz (iv (aI ((aI ((ix p1.Dims D) - q)).tdiv E))) (na R R Z)) ?_
 refine iM 11 [] ?_
 refine dD (aE (aH (bB (A:=(Int)×(Unit)) (fun a=>Z1s_J3 p1 D q E a.1=some r) (fun a=>[(0,(pt G 0)),(1,(pt I 0)),(2,(pt J 0)),(3,(pt i 0)),(6,(iv (ix p1.Strides D))),(7,(iv (aI ((aI ((aI ((ix p1.Dims D) - q)).tdiv E))+1))))]) (fun a=>aK G [(sc (ad u o25) p1.Dims D3),(sc (ad s o22) p1.Strides D4),(iv p1.Offset),(iv p1.Base)] 125::OO kT3 3 (ad u o25) D3 p1.Dims::OO kT3 3 (ad s o22) D4 p1.Strides::aK i [(iv a.1)] 3::W1) ?_ ?_)))
 refine cB ?_
 split at b
 refine aZ ?_
 refine dI 3 R R cO R R R R R (lN (aK G [(sc (ad u o25) p1.Dims D3),(sc (ad s o22) p1.Strides D4),(iv p1.Offset),(iv p1.Base)] 125::OO kT3 3 (ad u o25) D3 p1.Dims::OO kT3 3 (ad s o22) D4 p1.Strides::aK i [(iv 0)] 3::W1) ?_)
 refine cP ?_
 exact qI ((0:Int),()) b tI
 refine aZ ?_
 exact qI (E,()) b tI
 rintro ⟨aj,_⟩ σ1 b
 dsimp only [Z1s_J3] at b
 refine cP ?_
 obtain ⟨ai,a0,b⟩:=bd b
 refine eD ?_
 refine lM _ (tE 4 [1,2,0,3]) ?_
 refine lC 3 uc R (Z16_ok a0) R ?_
 rintro ⟨⟨a7,ab,a9⟩,⟨a8,ac,aa⟩⟩
 refine aM 0 aD ?_
 rintro rfl
 refine aM 1 aD ?_
 rintro rfl
 refine aV ?_
 obtain ⟨a2,a1,b⟩:=bd b
 refine bL ?_
 refine lC 3 Bm R (Z2x_ok a1) R ?_
 rintro ⟨⟨a3,ae,a5⟩,⟨a4,ag,a6⟩⟩
 refine aM 0 aD ?_
 rintro rfl
 refine aM 1 aD ?_
 rintro rfl
 refine dN ?_
 cases b
 exact qF ((a3,a2.Dims.length,a5),(a4,a2.Strides.length,a6)) (tE 6 [0,1,2,4,5,3])
theorem Z3h_ok  {v1:View}{q5:Int}{q7:Int}{q9:Int}{b6:Nat}{b8:Nat}{I:Nat}{r:View×Int}(F:Z3h v1 q5 q7 q9=some r) :
 FnOk Tryz.prog 169 [(.agg [(.slice A2 N2 D2),(.slice A3 N3 D3),(iv v1.Offset),(iv v1.Base)].toArray),(.func (.func 173) [].toArray [(pt b6 0),(pt b8 0),(pt I 0)].toArray)] [aO kT3 (.slice A2 N2 D2) v1.Dims,aO kT3 (.slice A3 N3 D3) v1.Strides,aK b6 [(iv q5)] 3,aK b8 [(iv q7)] 3,aK I [(iv q9)] 3] (fun (h:HH×HH)=>((.agg [(s3 h.1),(s3 h.2),(iv r.1.Offset),(iv r.1.Base)].toArray),[ow kT3 3 (s3 h.1) r.1.Dims,ow kT3 3 (s3 h.2) r.1.Strides,aK b6 [(iv q5)] 3,aK b8 [(iv q7)] 3,aK I [(iv r.2)] 3])):=by
 unfold Z3h at F
 refine aR Tryz.func169 R 31 R R fun C V=>?_
 refine cM _ (fun w s=>(s.f 5 [2,3,0,2])) ?_
 refine cL 3 aA ?_
 rintro rfl
 refine cL 4 aA ?_
 rintro rfl
 let W0:=RR kT3 A2 D2 v1.Dims::RR kT3 A3 D3 v1.Strides::V
 refine aZ ?_
 refine eT R fun ai=>?_
 refine bG R R cI (fun T=>(aB (qM _ (tE 5 [0,2,3,4,1]) ?_)))
 let W1:=aK ai [(sc A2 v1.Dims D2),(sc A3 v1.Strides D3),(iv v1.Offset),(iv v1.Base)] 125::W0
 refine aV ?_
 obtain ⟨ap,a6,F⟩:=bd F
 refine aZ ?_
 refine lM _ (fun w s=>(((s.d 5 R).d 7 R).e 6 [1,0,2,3,4,5])) ?_
 refine lC 2 nq R (Zk_ok a6) R ?_
 rintro _
 refine aV ?_
 split at F
 refine aV ?_
 refine lO (vz (.agg [(.slice none 0 0),(.slice none 0 0),(iv 0),(iv 0)].toArray) (bA eJ cI R R)) (aL 0 R R bU R R R R R R (aB (aE (bY (bZ ?_)))))
 cases F
 exact qS ((none,0,0),(none,0,0)) (fun w s=>(((s.nilo kT3 3).nilo kT3 3).e 9 [1,0,3,4,5]))
 refine bL ?_
 obtain ⟨i,a3,F⟩:=bd F
 obtain ⟨j,U,F⟩:=bd F
 refine jt (A:=(Unit)×(Nat×HH×HH)) (fun _=>True) (fun a=>[(1,(.func (.func 173) [].toArray [(pt b6 0),(pt b8 0),(pt I 0)].toArray)),(4,(pt T 0)),(5,(pt a.2.1 0))]) (fun a=>aK b6 [(iv q5)] 3::aK b8 [(iv q7)] 3::aK I [(iv q9)] 3::aK T [(.slice none 0 0),(.slice none 0 0),(iv 0),(iv 0)] 125::aK a.2.1 [(s3 a.2.2.1),(s3 a.2.2.2),(iv v1.Offset),(iv v1.Base)] 125::ow kT3 3 (s3 a.2.2.1) i::ow kT3 3 (s3 a.2.2.2) j::W1) ?_ ?_
 refine dP 13 [] bS fun ht hn=>?_
 refine iM 0 [] ?_
 refine iM 3 [] ?_
 refine qg 6 [] ?_
 refine iQ [2,11] (by kernel_rfl) R ⟨?_,?_,trivial⟩
 refine lM _ (fun w s=>(s.d 5 R)) ?_
 refine lC 1 gV R (Zt_ok a3) R ?_
 rintro ⟨u,aa,D⟩
 refine aM 0 aD ?_
 rintro rfl
 refine aB (aJ (sL [0]) (iQ [5,11] (by kernel_rfl) R ⟨?_,?_,trivial⟩))
 refine lM _ (fun w s=>(s.d 7 R)) ?_
 refine lC 1 gV R (Zt_ok U) R ?_
 rintro ⟨l,a5,q⟩
 refine aM 0 aD ?_
 rintro rfl
 refine aB (aJ (sL [1,0]) (dR 10 R (vz (.agg [(sc u i D),(sc l j q),(iv v1.Offset),(iv v1.Base)].toArray) (bA eJ cI R R)) (hS:=(sL [1,0])) (d1 11 R (bG R R cI (fun G=>(aB (aJ (sL [2,1,0]) (d1 12 R (aL 0 R R bU R R R R R R (lN (aK G [(sc u i D),(sc l j q),(iv v1.Offset),(iv v1.Base)] 125::_::_::_::_::_::_::W1) ?_))))))))))
 refine aB (aJ (sL [2,1,0]) (dD ?_))
 exact dC ((),(G,(u,i.length,D),(l,j.length,q))) trivial (aS R) (tE 7 [4,5,6,3,0,2,1])
 refine bG R R cI (fun G=>(aB (aJ (sL [1,0]) (d1 5 R (lM _ (fun w s=>(s.d 8 R)) ?_)))))
 refine lC 1 gV R (Zt_ok U) R ?_
 rintro ⟨l,a5,q⟩
 refine aM 0 aD ?_
 rintro rfl
 refine aB (aJ (sL [2,1,0]) (dR 10 R (vz (.agg [(sc u i D),(sc l j q),(iv v1.Offset),(iv v1.Base)].toArray) (bA eJ cI R R)) (hS:=(sL [2,1,0])) (d1 12 R (aL 1 R R bU R R R R R R (lN (_::aK G [(sc u i D),(sc l j q),(iv v1.Offset),(iv v1.Base)] 125::_::_::_::_::_::W1) ?_)))))
 refine aB (aJ (sL [2,1,0]) (dD ?_))
 exact dC ((),(G,(u,i.length,D),(l,j.length,q))) trivial (aS R) (tE 7 [4,5,6,3,1,2,0])
 refine bG R R cI (fun G=>(aB (aJ (sL [0]) (d1 2 R (lM _ (fun w s=>(s.d 6 R)) ?_)))))
 refine lC 1 gV R (Zt_ok a3) R ?_
 rintro ⟨u,aa,D⟩
 refine aM 0 aD ?_
 rintro rfl
 refine aB (aJ (sL [1,0]) (d1 5 R (lM _ (fun w s=>(s.d 8 R)) ?_)))
 refine lC 1 gV R (Zt_ok U) R ?_
 rintro ⟨l,a5,q⟩
 refine aM 0 aD ?_
 rintro rfl
 refine aB (aJ (sL [2,1,0]) (dR 10 R (vz (.agg [(sc u i D),(sc l j q),(iv v1.Offset),(iv v1.Base)].toArray) (bA eJ cI R R)) (hS:=(sL [2,1,0])) (d1 12 R (aL 2 R R bU R R R R R R (lN (_::_::aK G [(sc u i D),(sc l j q),(iv v1.Offset),(iv v1.Base)] 125::_::_::_::_::W1) ?_)))))
 refine aB (aJ (sL [2,1,0]) (dD ?_))
 exact dC ((),(G,(u,i.length,D),(l,j.length,q))) trivial (aS R) (tE 7 [4,5,6,3,2,1,0])
 rintro ⟨_,⟨a4,⟨aj,ab,al⟩,⟨ak,ac,am⟩⟩⟩ σ1 -
 refine iR 5 aD (fun (hn:ab=i.length)=>?_)
 subst hn
 refine iR 6 aD (fun (hn:ac=j.length)=>?_)
 subst hn
 refine aV ?_
 obtain ⟨b,a7,F⟩:=bd F
 obtain ⟨a9,a8,F⟩:=bd F
 refine jt (A:=(Unit)×(HH×HH)) (fun _=>True) (fun a=>[(4,(pt T 0)),(5,(pt a4 0)),(28,(.bool ((!b.1)||(!a9))))]) (fun a=>aK T [(.slice none 0 0),(.slice none 0 0),(iv 0),(iv 0)] 125::aK a4 [(s3 a.2.1),(s3 a.2.2),(iv b.2.1.Offset),(iv b.2.1.Base)] 125::ow kT3 3 (s3 a.2.1) b.2.1.Dims::ow kT3 3 (s3 a.2.2) b.2.1.Strides::aK b6 [(iv q5)] 3::aK b8 [(iv q7)] 3::aK I [(iv b.2.2)] 3::W1) ?_ ?_
 refine aC (lO (vp _ R) (lM _ (fun w s=>(s.f 7 [5,2,4,1,0,4])) ?_))
 refine cU (fs:=[]) (cs:=[(pt b6 0),(pt b8 0),(pt I 0)]) 6 R R Bn R R (Z1s_ok (p1:=(⟨i,j,v1.Offset,v1.Base⟩:View)) a7) R ?_
 rintro ⟨⟨J,an,M⟩,⟨L,ao,O⟩⟩
 refine aM 0 aD ?_
 rintro rfl
 refine aM 1 aD ?_
 rintro rfl
 refine aZ ?_
 rcases bo (!b.1) with E | E
 refine aV ?_
 refine lO (fB (!a9) R E) (aB ?_)
 exact dC ((),((J,b.2.1.Dims.length,M),(L,b.2.1.Strides.length,O))) trivial (aS R) (tE 7 [6,2,0,1,3,4,5])
 refine lW (bW E) (vz (.agg [(sc J b.2.1.Dims M),(sc L b.2.1.Strides O),(iv b.2.1.Offset),(iv b.2.1.Base)].toArray) (dA 2 eR bU R R R R)) (b' 2 R (bW E) nq R (FnOk.lends (A':=[OO kT3 3 J M b.2.1.Dims,OO kT3 3 L O b.2.1.Strides]) (A:=[RR kT3 J M b.2.1.Dims,RR kT3 L O b.2.1.Strides]) (B:=[]) (Zk_ok (bM a8 (cZ E))) ⟨aU,aU,trivial⟩ (fun _=>trivial)) R ?_)
 rintro _
 refine cP ?_
 refine lO (fG R E R) (aB ?_)
 exact dC ((),((J,b.2.1.Dims.length,M),(L,b.2.1.Strides.length,O))) trivial (aS R) (tE 7 [6,2,0,1,3,4,5])
 rintro ⟨_,⟨⟨Y,ae,a0⟩,⟨Z,ag,a1⟩⟩⟩ σ1 -
 refine iR 2 aD (fun (hn:ae=b.2.1.Dims.length)=>?_)
 subst hn
 refine iR 3 aD (fun (hn:ag=b.2.1.Strides.length)=>?_)
 subst hn
 refine cP ?_
 rcases cF F with ⟨a2,F⟩|⟨a2,F⟩
 refine aV ?_
 refine lO (vz (.agg [(.slice none 0 0),(.slice none 0 0),(iv 0),(iv 0)].toArray) (bA eJ cI R R)) (aL 0 R R bU R R R R R R (lN (_::aK a4 [(sc Y b.2.1.Dims a0),(sc Z b.2.1.Strides a1),(iv b.2.1.Offset),(iv b.2.1.Base)] 125::OO kT3 3 Y a0 b.2.1.Dims::OO kT3 3 Z a1 b.2.1.Strides::_::_::_::W1) ?_))
 refine bL ?_
 cases F
 exact qS ((none,0,0),(none,0,0)) (fun w s=>(((s.nilo kT3 3).nilo kT3 3).e 12 [1,0,6,7,8]))
 refine aY R a2 ?_
 refine cV ?_
 refine aL 0 R R bU R R R R R R (lN (aK T [(sc Y b.2.1.Dims a0),(sc Z b.2.1.Strides a1),(iv b.2.1.Offset),(iv b.2.1.Base)] 125::_::_::_::_::_::_::W1) ?_)
 refine aV ?_
 cases F
 exact qS ((Y,b.2.1.Dims.length,a0),(Z,b.2.1.Strides.length,a1)) (fun w s=>(s.f 10 [2,5]))
theorem Z2q_ok  {v1:View}{a:Int}{b:Int}{i:Int}{r:View}(B:Z2q v1 a b i=some r) :
 FnOk Tryz.prog 163 [(.agg [(.slice A2 N2 D2),(.slice A3 N3 D3),(iv v1.Offset),(iv v1.Base)].toArray),(iv a),(iv b),(iv i)] [aO kT3 (.slice A2 N2 D2) v1.Dims,aO kT3 (.slice A3 N3 D3) v1.Strides] (fun (h:HH×HH)=>((.agg [(s3 h.1),(s3 h.2),(iv r.Offset),(iv r.Base)].toArray),[ow kT3 3 (s3 h.1) r.Dims,ow kT3 3 (s3 h.2) r.Strides])):=by
 unfold Z2q at B
 refine aR Tryz.func163 R 12 R R fun C V=>?_
 refine cL 0 aA ?_
 rintro rfl
 refine cL 1 aA ?_
 rintro rfl
 let F:=RR kT3 A2 D2 v1.Dims::RR kT3 A3 D3 v1.Strides::V
 refine cN F ?_
 refine aZ ?_
 refine eT R fun J=>?_
 refine fS (cs:=[(iv a)]) R R R (fun L=>(fS (cs:=[(iv b)]) R R R (fun M=>(fS (cs:=[(iv i)]) R R R (fun D=>(bG R R cI (fun E=>(aB ?_))))))))
 let I:=aK J [(sc A2 v1.Dims D2),(sc A3 v1.Strides D3),(iv v1.Offset),(iv v1.Base)] 125::F
 refine aZ ?_
 obtain ⟨j,u,B⟩:=bd B
 refine aZ ?_
 refine lO (vp (.func (.func 173) [].toArray [(pt L 0),(pt M 0),(pt D 0)].toArray) R) (lM _ (fun w s=>(((s.d 5 R).d 7 R).e 6 [1,0,5,4,3,2])) ?_)
 refine lC 5 ub R (Z3h_ok u) R ?_
 rintro ⟨⟨A14,N14,D14⟩,⟨l,G,q⟩⟩
 refine aM 0 aD ?_
 rintro rfl
 refine aM 1 aD ?_
 rintro rfl
 refine aL 5 R R bU R R R R R R (lN (_::_::_::_::_::aK E [(sc A14 j.1.Dims D14),(sc l j.1.Strides q),(iv j.1.Offset),(iv j.1.Base)] 125::I) ?_)
 refine aV ?_
 cases B
 exact qS ((A14,j.1.Dims.length,D14),(l,j.1.Strides.length,q)) (tE 9 [0,1])
theorem Z1l_ok  {q:Node}{I:(List Int)}{r:View}(j:Z1l q I=some r) :
 FnOk Tryz.prog 144 [(.agg [(iv q.Op),(.slice A2 N2 D2),(.slice A3 N3 D3),(.slice A4 N4 D4),(aG q.Form),(.slice A5 N5 D5)].toArray),(.slice A7 N7 D7)] [aO kT3 (.slice A2 N2 D2) q.Args,aO kT3 (.slice A3 N3 D3) q.Dims,aO kT3 (.slice A4 N4 D4) q.Ints,aO kT3 (.slice A5 N5 D5) q.Data,aO kT3 (.slice A7 N7 D7) I] (fun (h:HH×HH)=>((.agg [(.slice h.1.1 h.1.2.1 h.1.2.2),(.slice h.2.1 h.2.2.1 h.2.2.2),(iv r.Offset),(iv r.Base)].toArray),[aO kT3 (.slice h.1.1 h.1.2.1 h.1.2.2) r.Dims,aO kT3 (.slice h.2.1 h.2.2.1 h.2.2.2) r.Strides])):=by
 unfold Z1l at j
 refine aR Tryz.func144 R 76 R R fun C V=>?_
 refine cN (_::_::_::_::_::V) ?_
 refine cL 0 aA ?_
 rintro rfl
 refine cL 1 aA ?_
 rintro rfl
 refine cL 2 aA ?_
 rintro rfl
 refine cL 3 aA ?_
 rintro rfl
 refine cL 4 aA ?_
 rintro rfl
 let W0:List HP:=RR kT3 A2 D2 q.Args::RR kT3 A3 D3 q.Dims::RR kT3 A4 D4 q.Ints::RR kT3 A5 D5 q.Data::RR kT3 A7 D7 I::V
 refine cN W0 ?_
 refine aH (aC (eT R (fun b8=>(bG R R cI (fun L=>(aB ?_))))))
 let J:List HP:=aK b8 [(iv q.Op),(sc A2 q.Args D2),(sc A3 q.Dims D3),(sc A4 q.Ints D4),(aG q.Form),(sc A5 q.Data D5)] 42::W0
 refine qN (_::J) ?_
 refine aE (aH ?_)
 obtain ⟨a,al,j⟩:=bd j
 refine aC (lS R (lM (RR kT3 A7 D7 I::_::J) (fun w s=>(s.d 6 R)) ?_))
 refine lC 1 Bh R (Z2y_ok al) R ?_
 rintro ⟨⟨A12,N12,D12⟩,⟨u,ap,D⟩⟩
 refine lN (ow kT3 3 (.slice A12 N12 D12) a.Dims::ow kT3 3 (.slice u ap D) a.Strides::_::J) ?_
 refine aM 0 aD ?_
 rintro rfl
 refine aM 1 aD ?_
 rintro rfl
 refine bG R R cI (fun M=>(aL 0 R R bU R R R R R R (lN (aK M [(sc A12 a.Dims D12),(sc u a.Strides D),(iv a.Offset),(iv a.Base)] 125::_::_::_::J) ?_)))
 refine aB (aE (aH (bV (aH (aC (lO (eW 0 jW R) (lO (eS 4 fC R R R) (lO (kO R R) (lB R (aB (aE ?_)))))))))))
 rcases cF j with ⟨O,j⟩|⟨O,j⟩
 refine bJ R O (aH ?_)
 obtain ⟨E,am,j⟩:=bd j
 refine aC (lO (vz (.agg [(sc A12 a.Dims D12),(sc u a.Strides D),(iv a.Offset),(iv a.Base)].toArray) (dA 0 eR bU R R R R)) (lO (eW 2 kY R) (lO (eS 4 cH R R R) (ji (fun w s=>s.shr 1 R) (ji (fun w s=>s.shr 2 R) (lM (RR kT3 A12 D12 a.Dims::RR kT3 u D a.Strides::RR kT3 A3 D3 q.Dims::RR kT3 u D a.Strides::RR kT3 A12 D12 a.Dims::aK _ _ _::aK _ _ _::J) (fun w s=>((((s.d 1 R).d 1 R).d 8 R).e 7 [2,1,0,3,4,5,6])) ?_))))))
 refine lC 3 Bj R (Z2p_ok am) R ?_
 rintro ⟨⟨a1,aq,a7⟩,⟨a2,ar,a8⟩⟩
 refine lN (aO kT3 (.slice a1 aq a7) E.Dims::aO kT3 (.slice a2 ar a8) E.Strides::_::_::_::_::J) ?_
 refine aM 0 aA ?_
 rintro rfl
 refine aM 1 aA ?_
 rintro rfl
 refine aL 5 R R bU R R R R R R (lN (_::_::_::_::_::aK L [(sc a1 E.Dims a7),(sc a2 E.Strides a8),(iv E.Offset),(iv E.Base)] 125::J) ?_)
 refine aB (aE (bY (cG (bZ ?_))))
 obtain rfl:=so j
 exact dL (vs:=[(.agg [(sc a1 E.Dims a7),(sc a2 E.Strides a8),(iv E.Offset),(iv E.Base)].toArray)]) (.inl R) ((a1,E.Dims.length,a7),(a2,E.Strides.length,a8)) R ⟨⟨5,L,_,_,R,R,.inl ⟨eR,bU,R⟩⟩,trivial⟩ R (fun w s=>(s.e 12 [0,1]))
 refine aY R O (aH ?_)
 obtain ⟨Y,j⟩:=gd j
 refine cQ [(2,(pt b8 0)),(4,(pt L 0)),(5,(pt M 0)),(16,(.bool (((q.Op==(14:Int))&&((q.Ints.length:Int)==(4:Int)))&&(decide ((ix q.Ints (3:Int))≥(1:Int))))))] (aK L [(.slice none 0 0),(.slice none 0 0),(iv 0),(iv 0)] 125::aK M [(sc A12 a.Dims D12),(sc u a.Strides D),(iv a.Offset),(iv a.Base)] 125::OO kT3 3 A12 D12 a.Dims::OO kT3 3 u D a.Strides::J) ?_ ?_
 refine aC (lO (eW 0 jW R) (lO (eS 4 fC R R R) (lO (kO R R) (lB R ?_))))
 rcases bo (q.Op==(14:Int)) with b | b
 refine lW (dO b) (eW 3 hW R) (lW (dO b) (eS 4 cH R R R) (lW (dO b) (eN bH R) (lW (dO b) (kO R R) (lO (iJ R b R) (lB R ?_)))))
 rcases bo ((q.Op==(14:Int))&&((q.Ints.length:Int)==(4:Int))) with i | i
 refine lW (dO i) (eW 3 hW R) (lW (dO i) (eS 4 cH R R R) (bE 7 aA (show 0<q.Ints.length by have:=(Y i); omega) (fun ay o22 ha=>?_)))
 subst ha
 refine lW (dO i) (dV bH cO R R (Y i)) (lW (dO i) (fQ 7 fC aA R (Y i)) (lW (dO i) (zP R R) (lO (iJ R i R) (lB R (aB ?_)))))
 exact qJ (fun w s=>(s.e 4 [3,0,1,2]))
 refine lf (jh i) (lf (jh i) (lf (jh i) (lf (jh i) (lf (jh i) (lO (ki (decide ((ix q.Ints (3:Int))≥(1:Int))) R i) (lB R (aB ?_)))))))
 exact qJ (fun w s=>(s.e 4 [3,0,1,2]))
 refine lf (jh b) (lf (jh b) (lf (jh b) (lf (jh b) (lO (ki ((q.Ints.length:Int)==(4:Int)) R b) (lB R (lf (jh (aF b)) (lf (jh (aF b)) (lf (jh (aF b)) (lf (jh (aF b)) (lf (jh (aF b)) (lO (ki (decide ((ix q.Ints (3:Int))≥(1:Int))) R (aF b)) (lB R (aB ?_)))))))))))))
 exact qJ (fun w s=>(s.e 4 [3,0,1,2]))
 rintro σ1
 refine aE ?_
 rcases cF j with ⟨T,j⟩|⟨T,j⟩
 refine bJ R T (aH ?_)
 obtain ⟨Z,j⟩:=gd j
 obtain ⟨ae,j⟩:=gd j
 obtain ⟨ag,j⟩:=gd j
 obtain ⟨ai,j⟩:=gd j
 obtain ⟨F,an,j⟩:=bd j
 refine bC 7 aA (show 0<q.Ints.length by have:=Z; omega) (fun az o28 ha=>?_)
 subst ha
 refine dP 19 [0] bS (fun ht hn=>(dR 0 R (vz (.agg [(sc A12 a.Dims D12),(sc u a.Strides D),(iv a.Offset),(iv a.Base)].toArray) (dA 0 eR bU R R R R)) (hS:=(sL [0])) (dR 1 R (eW 3 hW R) (hS:=(sL [0])) (dR 2 R (eS 3 cH R R R) (hS:=(sL [0])) (dR 3 R (dV bH cO R R Z) (hS:=(sL [0])) (dR 4 R (fQ 6 fC aA R Z) (hS:=(sL [0])) (dR 5 R (eW 3 hW R) (hS:=(sL [0])) (dR 6 R (eS 3 cH R R R) (hS:=(sL [0])) (dR 7 R (dV bH cO R R ae) (hS:=(sL [0])) (dR 8 R (fQ 6 fC aA R ae) (hS:=(sL [0])) (dR 9 R (eW 3 hW R) (hS:=(sL [0])) (dR 10 R (eS 3 cH R R R) (hS:=(sL [0])) (dR 11 R (dV bH cO R R ag) (hS:=(sL [0])) (dR 12 R (fQ 6 fC aA R ag) (hS:=(sL [0])) (dR 13 R (eW 3 hW R) (hS:=(sL [0])) (dR 14 R (eS 3 cH R R R) (hS:=(sL [0])) (dR 15 R (dV bH cO R R ai) (hS:=(sL [0])) (dR 16 R (fQ 6 fC aA R ai) (hS:=(sL [0])) (d1 17 R (lM (OO kT3 3 A12 D12 a.Dims::OO kT3 3 u D a.Strides::aK L [(.slice none 0 0),(.slice none 0 0),(iv 0),(iv 0)] 125::aK _ _ _::J) (fun w s=>(s.e 4 [2,3,0,1])) ?_))))))))))))))))))))
 refine lC 2 Bl R (FnOk.lends (A':=[OO kT3 3 A12 D12 a.Dims,OO kT3 3 u D a.Strides]) (A:=[RR kT3 A12 D12 a.Dims,RR kT3 u D a.Strides]) (B:=[]) (Z2o_ok an) ⟨aU,aU,trivial⟩ (fun _=>⟨(bN jw),(bN jw),trivial⟩)) R ?_
 rintro ⟨⟨a3,au,a9⟩,⟨a4,av,aa⟩⟩
 refine lN (_::_::ow kT3 3 (.slice a3 au a9) F.Dims::ow kT3 3 (.slice a4 av aa) F.Strides::_::_::J) ?_
 refine aM 2 aD ?_
 rintro rfl
 refine aM 3 aD ?_
 rintro rfl
 refine aB (aJ (fun w s=>(s.e 6 [5,0,1])) (d1 18 R (aL 4 R R bU R R R R R R (lN (_::_::_::_::aK L [(sc a3 F.Dims a9),(sc a4 F.Strides aa),(iv F.Offset),(iv F.Base)] 125::_::J) ?_))))
 refine aB (aJ (fun w s=>(s.e 6 [5,0,1])) (dD (aE (bY (cG (bZ ?_))))))
 obtain rfl:=so j
 exact dL (vs:=[(.agg [(sc a3 F.Dims a9),(sc a4 F.Strides aa),(iv F.Offset),(iv F.Base)].toArray)]) (.inl R) ((a3,F.Dims.length,a9),(a4,F.Strides.length,aa)) R ⟨⟨4,L,_,_,R,R,.inl ⟨eR,bU,R⟩⟩,trivial⟩ R (fun w s=>(((s.shr 2 R).shr 3 R).e 12 [1,0]))
 refine aY R T (aH (cQ [(2,(pt b8 0)),(4,(pt L 0)),(5,(pt M 0)),(51,(.bool ((q.Op==(18:Int))&&((q.Ints.length:Int)==(3:Int)))))] (aK L [(.slice none 0 0),(.slice none 0 0),(iv 0),(iv 0)] 125::aK M [(sc A12 a.Dims D12),(sc u a.Strides D),(iv a.Offset),(iv a.Base)] 125::OO kT3 3 A12 D12 a.Dims::OO kT3 3 u D a.Strides::J) ?_ ?_))
 refine aC (lO (eW 0 jW R) (lO (eS 4 fC R R R) (lO (kO R R) (lB R ?_))))
 rcases bo (q.Op==(18:Int)) with l | l
 refine lW (dO l) (eW 3 hW R) (lW (dO l) (eS 4 cH R R R) (lW (dO l) (eN bH R) (lW (dO l) (kO R R) (lO (iJ R l R) (lB R (aB ?_))))))
 exact qJ (fun w s=>s)
 refine lf (jh l) (lf (jh l) (lf (jh l) (lf (jh l) (lO (ki ((q.Ints.length:Int)==(3:Int)) R l) (lB R (aB ?_))))))
 exact qJ (fun w s=>s)
 rintro σ1
 refine aE ?_
 rcases cF j with ⟨U,j⟩|⟨U,j⟩
 refine bJ R U (aH ?_)
 obtain ⟨a0,j⟩:=gd j
 obtain ⟨aj,j⟩:=gd j
 obtain ⟨ak,j⟩:=gd j
 obtain ⟨G,ao,j⟩:=bd j
 refine bC 7 aA (show 0<q.Ints.length by have:=a0; omega) (fun b0 o40 ha=>?_)
 subst ha
 refine dP 15 [0] bS (fun ht hn=>(dR 0 R (vz (.agg [(sc A12 a.Dims D12),(sc u a.Strides D),(iv a.Offset),(iv a.Base)].toArray) (dA 0 eR bU R R R R)) (hS:=(sL [0])) (dR 1 R (eW 3 hW R) (hS:=(sL [0])) (dR 2 R (eS 3 cH R R R) (hS:=(sL [0])) (dR 3 R (dV bH cO R R a0) (hS:=(sL [0])) (dR 4 R (fQ 6 fC aA R a0) (hS:=(sL [0])) (dR 5 R (eW 3 hW R) (hS:=(sL [0])) (dR 6 R (eS 3 cH R R R) (hS:=(sL [0])) (dR 7 R (dV bH cO R R aj) (hS:=(sL [0])) (dR 8 R (fQ 6 fC aA R aj) (hS:=(sL [0])) (dR 9 R (eW 3 hW R) (hS:=(sL [0])) (dR 10 R (eS 3 cH R R R) (hS:=(sL [0])) (dR 11 R (dV bH cO R R ak) (hS:=(sL [0])) (dR 12 R (fQ 6 fC aA R ak) (hS:=(sL [0])) (d1 13 R (lM (ow _ _ _ _::ow _ _ _ _::aK L [(.slice none 0 0),(.slice none 0 0),(iv 0),(iv 0)] 125::aK _ _ _::J) (fun w s=>(s.e 4 [2,3,0,1])) ?_))))))))))))))))
 refine lC 2 Bo R (FnOk.lends (A':=[OO kT3 3 A12 D12 a.Dims,OO kT3 3 u D a.Strides]) (A:=[RR kT3 A12 D12 a.Dims,RR kT3 u D a.Strides]) (B:=[]) (Z2q_ok ao) ⟨aU,aU,trivial⟩ (fun _=>⟨(bN jw),(bN jw),trivial⟩)) R ?_
 rintro ⟨⟨a5,aw,ab⟩,⟨a6,ax,ac⟩⟩
 refine lN (_::_::ow kT3 3 (.slice a5 aw ab) G.Dims::ow kT3 3 (.slice a6 ax ac) G.Strides::_::_::J) ?_
 refine aM 2 aD ?_
 rintro rfl
 refine aM 3 aD ?_
 rintro rfl
 refine aB (aJ (fun w s=>(s.e 6 [5,0,1])) (d1 14 R (aL 4 R R bU R R R R R R (lN (_::_::_::_::aK L [(sc a5 G.Dims ab),(sc a6 G.Strides ac),(iv G.Offset),(iv G.Base)] 125::_::J) ?_))))
 refine aB (aJ (fun w s=>(s.e 6 [5,0,1])) (dD (aE (bY (cG (bZ ?_))))))
 obtain rfl:=so j
 exact dL (vs:=[(.agg [(sc a5 G.Dims ab),(sc a6 G.Strides ac),(iv G.Offset),(iv G.Base)].toArray)]) (.inl R) ((a5,G.Dims.length,ab),(a6,G.Strides.length,ac)) R ⟨⟨4,L,_,_,R,R,.inl ⟨eR,bU,R⟩⟩,trivial⟩ R (fun w s=>(((s.shr 2 R).shr 3 R).e 12 [1,0]))
 refine aY R U (bQ (cD (aE (aH (aC (lO (vz (.agg [(.slice none 0 0),(.slice none 0 0),(iv 0),(iv 0)].toArray) (bA eJ cI R R)) (aL 0 R R bU R R R R R R (lN (aK L [(.slice none 0 0),(.slice none 0 0),(iv 0),(iv 0)] 125::_::_::_::J) ?_))))))))
 refine aB (aE (bY ?_))
 obtain rfl:=so j
 exact dL (vs:=[(.agg [(.slice none 0 0),(.slice none 0 0),(iv 0),(iv 0)].toArray)]) (.inl R) ((none,0,0),(none,0,0)) R ⟨⟨0,L,_,_,R,R,.inl ⟨eR,bU,R⟩⟩,trivial⟩ R (fun w s=>(((s.nilr kT3).nilr kT3).e 12 [1,0]))
theorem Z3e_ok  {e:(List Int)}{a:(List Int)}{b:Int}{r:(List Int)×Int×(List Int)}(s:Z3e e a b=some r) :
 FnOk Tryz.prog 159 [(.slice A2 N2 D2),(.slice A4 N4 D4),(iv b)] [aO kT3 (.slice A2 N2 D2) e,aO kT3 (.slice A4 N4 D4) a] (fun (h:HH×Nat×Nat×HH×Nat)=>((.func (.func 167) [].toArray [(pt h.2.1 0),(pt h.2.2.1 0),(pt h.2.2.2.2 0)].toArray),[aO kT3 (s3 h.1) r.1,aK h.2.1 [(s3 h.1)] 23,aK h.2.2.1 [(iv r.2.1)] 3,aO kT3 (s3 h.2.2.2.1) r.2.2,aK h.2.2.2.2 [(s3 h.2.2.2.1)] 23])):=by
 unfold Z3e at s
 refine aR Tryz.func159 R 8 R R fun C V=>?_
 refine cL 0 aA ?_
 rintro rfl
 refine cL 1 aA ?_
 rintro rfl
 let q:=RR kT3 A2 D2 e::RR kT3 A4 D4 a::V
 refine cN q ?_
 refine aZ ?_
 refine fS (cs:=[(sc A2 e D2)]) R R R (fun i=>(fS (cs:=[(sc A4 a D4)]) R R R (fun j=>(fS (cs:=[(iv b)]) R R R (fun l=>(lO (vp _ R) (aB ?_)))))))
 let u:=aK l [(iv b)] 3::aK j [(sc A4 a D4)] 23::aK i [(sc A2 e D2)] 23::q
 refine qN u ?_
 refine aV ?_
 refine lO (vp (.func (.func 167) [].toArray [(pt i 0),(pt l 0),(pt j 0)].toArray) R) (lO (vp _ R) ?_)
 refine aV ?_
 cases s
 exact qF ((A2,e.length,D2),i,l,(A4,a.length,D4),j) (tE 5 [3,2,0,4,1])
theorem Z04_ok  {YS:Type}{YF:YS→Int→Option (YS×Bool)}{B:YS}{u:(List Int)}{p5:Int}{p7:(List Int)}{b3:Nat}{b6:Nat}{b8:Nat}{YE:YS→HP}{yl:Nat}(hy:∀ s x q,YF s x=some q→Cs Tryz.prog yl [.int .i64 x] [YE s] (fun _:Unit=>(.bool q.2,[YE q.1]))){r:YS}(i:Z04 YS YF B u p5 p7=some r) :
 FnOk Tryz.prog 167 [(.func (.yield yl) #[] #[]),(pt b3 0),(pt b6 0),(pt b8 0)] [YE B,aO kT3 (.slice A4 N4 D4) u,aK b3 [(.slice A4 N4 D4)] 23,aK b6 [(iv p5)] 3,aO kT3 (.slice A9 N9 D9) p7,aK b8 [(.slice A9 N9 D9)] 23] (fun (h:Unit)=>((.tuple [].toArray),[YE r,aK b3 [(.slice A4 N4 D4)] 23,aK b6 [(iv p5)] 3,aK b8 [(.slice A9 N9 D9)] 23])):=by
 unfold Z04 at i
 refine aR Tryz.func167 R 60 R R fun C V=>?_
 refine cM (YE B::aK _ _ _::aK _ _ _::aK _ _ _::aO _ _ _::aO _ _ _::V) (fun w s=>(s.e 6 [0,2,3,5,1,4])) ?_
 refine cL 4 aA ?_
 rintro rfl
 refine cL 5 aA ?_
 rintro rfl
 let W0:List HP:=RR kT3 A4 D4 u::RR kT3 A9 D9 p7::V
 refine cN (_::aK b3 [(sc A4 u D4)] 23::_::aK b8 [(sc A9 p7 D9)] 23::W0) ?_
 refine aH ?_
 obtain ⟨O,i⟩:=gd i
 refine aC (lO (eS 1 cH R R R) (lO (eN bH R) (fW (K:=kT3) (m:=(u.length:Int)) (z:=(0:Int)) R R bH cO kE (Zr.zk zT3 gN) (by decide) R R O.1 O.2.1 O.2.2 (fun A11 D11=>(lS R (aB ?_))))))
 let W1:List HP:=aK b3 [(sc A4 u D4)] 23::aK b6 [(iv p5)] 3::aK b8 [(sc A9 p7 D9)] 23::W0
 refine qN (OO kT3 3 A11 D11 (List.replicate (u.length:Int).toNat (0:Int))::_::W1) ?_
 refine aE (aH (aC (lO (eS 3 fC R R R) (lI R (aB (aE (bV ?_)))))))
 obtain ⟨e1,a9,a4⟩:=bd i
 refine bD (A:=Unit) a9 (fun s a=>[(0,(.func (.yield yl) #[] #[])),(1,(pt b3 0)),(3,(pt b8 0)),(5,(sc A11 (List.replicate (u.length:Int).toNat (0:Int)) D11)),(6,(iv s.2.1))]) (fun s a=>ow kT3 3 (.slice A11 (List.replicate (u.length:Int).toNat (0:Int)).length D11) s.1::YE s.2.2::W1) () (aS R) (fun w s=>s) ?_
 rintro ⟨F,ae,a8⟩ _ σ1 Y i a2
 replace i:Z04_L1 YS YF u p7 F ae a8=some Y:=i
 unfold Z04_L1 at i
 refine bV (aH (aH ?_))
 obtain ⟨Z,a6,i⟩:=bd i
 refine yc 2 R (fun _ _ h=>h) (lO (vp (.func (.yield yl) #[] #[]) R) (lI R (lM (YE a8::ow kT3 3 (.slice A11 (List.replicate (u.length:Int).toNat (0:Int)).length D11) F::W1) (fun w s=>(s.e 2 [1,0])) ?_)))
 refine aB (vO 1 R R (hy _ _ _ a6) R (fun _ _ h=>h) R (fun _=>(lN (YE Z.1::_::W1) ?_)))
 refine lO (ne R) (aB (aE ?_))
 rcases cF i with ⟨G,i⟩|⟨G,i⟩
 refine bJ R G (bY (bZ (cG ?_)))
 obtain rfl:=so i
 obtain rfl:=a2 _ R
 have i:=a4
 refine bZ (cG ?_)
 obtain rfl:=so i
 exact dL (vs:=[]) (.inl R) () R trivial R (fun w s=>(s.e 7 [0,2,3,4]))
 refine aY R G (bQ (aE (aH (aC (lO (eS 2 cH R R R) (lO (eN bH R) (lO (sG R R) (lI R (aB (aE (aH (bB (A:=((List Int)×Int×Int)×(Unit)) (fun a=>Z04_J2 YS YF Z a.1.1 a.1.2.1 a.1.2.2=some Y) (fun a=>[(0,(.func (.yield yl) #[] #[])),(1,(pt b3 0)),(3,(pt b8 0)),(5,(sc A11 (List.replicate (u.length:Int).toNat (0:Int)) D11)),(6,(iv a.1.2.1)),(7,(iv a.1.2.2))]) (fun a=>ow kT3 3 (.slice A11 (List.replicate (u.length:Int).toNat (0:Int)).length D11) a.1.1::YE Z.1::W1) ?_ ?_))))))))))))
 refine bV ?_
 obtain ⟨e2,aa,a5⟩:=bd i
 refine bD (A:=Unit) aa (fun s a=>[(0,(.func (.yield yl) #[] #[])),(1,(pt b3 0)),(3,(pt b8 0)),(5,(sc A11 (List.replicate (u.length:Int).toNat (0:Int)) D11)),(6,(iv s.2.1)),(7,(iv s.2.2))]) (fun s a=>ow kT3 3 (.slice A11 (List.replicate (u.length:Int).toNat (0:Int)).length D11) s.1::YE Z.1::W1) () (aS R) (fun w s=>(s.e 2 [1,0])) ?_
 rintro ⟨b,a1,l⟩ _ σ1 a7 i a3
 replace i:Z04_L2 YS YF u p7 b a1 l=some a7:=i
 unfold Z04_L2 at i
 refine aH (aH (aC (lI R (lO (zP R R) (aB (aE ?_))))))
 rcases cF i with ⟨J,i⟩|⟨J,i⟩
 refine bJ R J (bQ (aE (aH (bV (aH ?_)))))
 obtain ⟨j,i⟩:=gd i
 refine aC (lS R (lI R (bE 0 aD (show 0<(List.replicate (u.length:Int).toNat (0:Int)).length by have:=j; omega) (fun a0 o80 ha=>?_))))
 subst ha
 refine lO (dV bH cO R R j) (lO (fQ 0 fC aD R j) (lO (iE R R) (lO (dV bH cO R R j) (lN (ow kT3 3 (.slice (ad a0 o80) (List.replicate (u.length:Int).toNat (0:Int)).length D11) b::_::W1) ?_))))
 refine eO (K:=kT3) (x':=(aI ((ix b l)+(1:Int)))) 0 l R R cO R R j.1 j.2 ?_ ?_
 exact fun I h s=>(gM).put I h () (aI ((ix b l)+(1:Int))) s
 refine lN (ow kT3 3 (.slice (ad a0 o80) (List.replicate (u.length:Int).toNat (0:Int)).length D11) (b.set l.toNat (aI ((ix b l)+(1:Int))))::_::W1) ?_
 refine aB (aE (aH ?_))
 obtain ⟨D,i⟩:=gd i
 refine aC (lI R (lO (eS 4 cH R R R) (lI R (bE 6 aA (show 0<p7.length by have:=D; omega) (fun ai o83 ha=>?_)))))
 subst ha
 refine lO (dV bH cO R R D) (lO (fQ 6 fC aA R D) (lO (iE R R) (lI R (aB (aE (aH (aH ?_)))))))
 obtain ⟨E,i⟩:=gd i
 refine bC 5 aA (show 0<u.length by have:=E; omega) (fun aj o86 ha=>?_)
 subst ha
 refine dP 9 [] bS (fun ht hn=>(dR 0 R (vS R) (dR 1 R (vI R) (dR 2 R (dV bH cO R R j) (dR 3 R (fQ 0 fC aD R j) (dR 4 R (eS 2 cH R R R) (dR 5 R (vI R) (dR 6 R (dV bH cO R R E) (dR 7 R (fQ 5 fC aA R E) (dR 8 R (jG R R) (dD (aE ?_))))))))))))
 rcases cF i with ⟨L,i⟩|⟨L,i⟩
 refine bJ R L (eA (cE (tv R (cE ?_))))
 obtain rfl:=so i
 obtain rfl:=a3 _ R
 have i:=a5
 refine cE (dH ?_)
 exact qI (((b.set l.toNat (aI ((ix b l)+(1:Int)))),(aI (a1+(ix p7 l))),l),()) i (fun w s=>s)
 refine aY R L (bQ (aE (aH (dP 12 [] bS (fun ht hn=>(dR 0 R (vI R) (dR 1 R (eS 4 cH R R R) (dR 2 R (vI R) (dR 3 R (dV bH cO R R D) (dR 4 R (fQ 6 fC aA R D) (dR 5 R (eS 2 cH R R R) (dR 6 R (vI R) (dR 7 R (dV bH cO R R E) (dR 8 R (fQ 5 fC aA R E) (dR 9 R (rJ R R) (dR 10 R (sG R R) (dR 11 R (vI R) (dD (aE (aC (lS R (lI R (lO (dV bH cO R R j) (eO (K:=kT3) (x':=(0:Int)) 0 l R R cO R R j.1 j.2 ?_ ?_))))))))))))))))))))))))
 exact fun I h s=>(gM).put I h () (0:Int) s
 refine lN (ow kT3 3 (.slice (ad a0 o80) (List.replicate (u.length:Int).toNat (0:Int)).length D11) ((b.set l.toNat (aI ((ix b l)+(1:Int)))).set l.toNat (0:Int))::_::W1) ?_
 refine aB ?_
 obtain ⟨ac,T,i⟩:=bd i
 replace T:=Option.some.inj T
 refine qM (ow kT3 3 (.slice (ad a0 o80) (List.replicate (u.length:Int).toNat (0:Int)).length D11) ac::_::W1) (fun w s=>by rw [← T]; exact s) ?_
 refine cD (aE (aC (lI R (lO (sG R R) (lI R (aB ?_))))))
 obtain rfl:=so i
 exact qA () (fun w s=>s)
 refine aY R J (eA (cE ?_))
 obtain rfl:=so i
 obtain rfl:=a3 _ R
 have i:=a5
 refine cE (dH ?_)
 exact qI ((b,a1,l),()) i (fun w s=>s)
 rintro ⟨⟨U,ag,ab⟩,_⟩ σ1 i
 replace i:Z04_J2 YS YF Z U ag ab=some Y:=i
 unfold Z04_J2 at i
 refine aH (aC (lI R (lO (jG R R) (aB (aE ?_)))))
 rcases cF i with ⟨M,i⟩|⟨M,i⟩
 refine bJ R M (bY (cG ?_))
 obtain rfl:=so i
 obtain rfl:=a2 _ R
 have i:=a4
 refine bZ (cG ?_)
 obtain rfl:=so i
 exact dL (vs:=[]) (.inl R) () R trivial R (fun w s=>(s.f 7 [1,4]))
 refine aY R M (bQ (cD ?_))
 obtain rfl:=so i
 exact qA () (fun w s=>s)
theorem Z2r_ok  {v1:View}{r:(List Int)×(List pair)×Bool}(j:Z2r v1=some r) :
 FnOk Tryz.prog 143 [(.agg [(.slice A2 N2 D2),(.slice A3 N3 D3),(iv v1.Offset),(iv v1.Base)].toArray)] [aO kT3 (.slice A2 N2 D2) v1.Dims,aO kT3 (.slice A3 N3 D3) v1.Strides] (fun (h:HH×HH)=>((.tuple [(s3 h.1),(s3 h.2),(.bool r.2.2)].toArray),[aO kT3 (s3 h.1) r.1,ow kT179 179 (s3 h.2) r.2.1])):=by
 unfold Z2r at j
 refine yd Tryz.func143 R 29 R R fun C V=>?_
 refine cL 0 aA ?_
 rintro rfl
 refine cL 1 aA ?_
 rintro rfl
 refine aZ ?_
 refine eT R fun b4=>?_
 refine eD ?_
 obtain ⟨r5,a6,j⟩:=bd j
 refine aZ ?_
 refine lM _ (fun w s=>(((s.d 1 R).d 3 R).e 5 [1,0,2,3,4])) ?_
 refine lC 2 nq R (Zk_ok a6) R ?_
 rintro _
 refine aV ?_
 split at j
 refine dJ ?_
 cases j
 exact iS ((none,0,0),(none,0,0)) (fun w s=>(((s.nilr kT3).nilo kT179 179).e 5 [1,0]))
 refine cV ?_
 refine bO (K:=kT179) (xs:=([]:List pair)) (vs:=[]) 0 R R fT fU fF R R R R R R ?_ R (fun A8 D8=>?_)
 exact fun I h s=>(jI).list [] I h s
 refine bG R R Bp (fun b9=>(dI 0 R R ue R R R R R (lN (aK b9 [(sc A8 ([]:List pair) D8)] 148::_::_::_::_::V) ?_)))
 refine aZ ?_
 refine yf ?_
 obtain ⟨i,a3,j⟩:=bd j
 refine eD ?_
 refine lM _ (fun w s=>(((s.d 3 R).d 5 R).f 7 [1,1,0,1,2,5])) ?_
 refine lC 2 Bq R (Z3e_ok a3) R ?_
 rintro ⟨⟨B,a9,F⟩,Y,Z,⟨D,aa,G⟩,a0⟩
 refine aM 0 aA ?_
 rintro rfl
 refine aM 3 aA ?_
 rintro rfl
 refine cP ?_
 obtain ⟨J,a4,j⟩:=bd j
 let Ef:Nat→Loop→((List pair))→HP:=fun l L s=>pe fun a:HH=>vu l L::[aK b4 [(sc A2 v1.Dims D2),(sc A3 v1.Strides D3),(iv v1.Offset),(iv v1.Base)] 125,RR kT3 A2 D2 v1.Dims,RR kT3 A3 D3 v1.Strides,aK b9 [(s3 a)] 148,ow kT179 179 (s3 a) s]
 refine vQ (Wc:=[RR kT3 B F i.1,aK Y [(sc B i.1 F)] 23,aK Z [(iv i.2.1)] 3,RR kT3 D G i.2.2,aK a0 [(sc D i.2.2 G)] 23,aK b9 [(sc A8 ([]:List pair) D8)] 148,OO kT179 179 A8 D8 ([]:List pair),aK b4 [(sc A2 v1.Dims D2),(sc A3 v1.Strides D3),(iv v1.Offset),(iv v1.Base)] 125,RR kT3 A2 D2 v1.Dims,RR kT3 A3 D3 v1.Strides]) (E:=fun l L=>Ef l L ([]:List pair)) (E':=fun l L=>Ef l L J) (Pre':=[RR kT3 B F i.1,aK Y [(sc B i.1 F)] 23,aK Z [(iv i.2.1)] 3,RR kT3 D G i.2.2,aK a0 [(sc D i.2.2 G)] 23]) (W3:=[]) (cp:=fun (_:Unit)=>[aK Y [(sc B i.1 F)] 23,aK Z [(iv i.2.1)] 3,aK a0 [(sc D i.2.2 G)] 23]) (Wd:=fun a:HH=>[aK b4 [(sc A2 v1.Dims D2),(sc A3 v1.Strides D3),(iv v1.Offset),(iv v1.Base)] 125,RR kT3 A2 D2 v1.Dims,RR kT3 A3 D3 v1.Strides,aK b9 [(s3 a)] 148,ow kT179 179 (s3 a) J]) R R Bs (fun V w l L s=>St.pei (A8,([]:List pair).length,D8) ((s.f 11 [0,1,8,3,6,2,1,5]))) ?_ (fun V w l L x s=>let ⟨a,s⟩:=s.peo; ⟨a,s.e 9 [0,1,2,3,4,5]⟩) R ?_
 intro l L a2
 refine Z04_ok (YE:=Ef l L) (yl:=l) ?_ a4
 rintro b u q j
 dsimp only [Z43] at j
 refine yok (fun a:HH=>[aK b4 [(sc A2 v1.Dims D2),(sc A3 v1.Strides D3),(iv v1.Offset),(iv v1.Base)] 125,RR kT3 A2 D2 v1.Dims,RR kT3 A3 D3 v1.Strides,aK b9 [(s3 a)] 148,ow kT179 179 (s3 a) b]) (fun a:HH=>[aK b4 [(sc A2 v1.Dims D2),(sc A3 v1.Strides D3),(iv v1.Offset),(iv v1.Base)] 125,RR kT3 A2 D2 v1.Dims,RR kT3 A3 D3 v1.Strides,aK b9 [(s3 a)] 148,ow kT179 179 (s3 a) q.1]) a2 R R R ?_
 rintro ⟨M,a5,T⟩
 apply Exists.intro
 intro C V
 refine ⟨?_,?_⟩
 refine cP ?_
 exact aB Aj
 refine aM 4 aD ?_
 rintro rfl
 obtain ⟨a1,j⟩:=gd j
 refine bL ?_
 refine lO (vz (.agg [(iv u),(il b)].toArray) (bA nr fF R R)) (bO (K:=kT179) (xs:=([(⟨u,(b.length:Int)⟩:pair)]:List pair)) (vs:=[(.agg [(iv u),(il b)].toArray)]) 0 R R fT fU fF R R R R R R ?_ R (fun a7 a8=>?_))
 exact fun I h s=>(jI).list [(((),()),(⟨u,(b.length:Int)⟩:pair))] I h s
 refine lM _ (fun w s=>(s.f 6 [5,1,0,5])) ?_
 refine eU (K:=kT179) 8796093022208 R R fT fU mu (Zr.zk zT179 fF) R R R R R R eB a1 (fun O U=>(lN (OO kT179 179 O U (b++([(⟨u,(b.length:Int)⟩:pair)]:List pair))::_::_::_::_::V) ?_))
 refine dI 4 R R ue R R R R R (lN (_::_::_::_::aK b9 [(sc O (b++([(⟨u,(b.length:Int)⟩:pair)]:List pair)) U)] 148::V) ?_)
 refine cP ?_
 cases j
 exact Cv (O,(b++([(⟨u,(b.length:Int)⟩:pair)]:List pair)).length,U) R (fun w s=>(s.f 5 [1,4,0,1]))
 rintro ⟨M,a5,T⟩ Dm V
 refine cL 4 aD ?_
 rintro rfl
 refine aH (dP 6 [] bS fun ht hn=>?_)
 refine tW 0 [] ?_
 refine dD ?_
 refine aZ ?_
 cases j
 exact ye (dL (vs:=[(sc A2 v1.Dims D2),(sc M J T),(.bool true)]) (.inl R) ((A2,v1.Dims.length,D2),(M,J.length,T)) R ⟨R,R,R,trivial⟩ R (tE 5 [1,4]))
theorem Z33_ok  {a:Node}{b:(List Int)}{r:(List Int)×(List pair)×Bool}(i:Z33 a b=some r) :
 FnOk Tryz.prog 104 [(.agg [(iv a.Op),(.slice A2 N2 D2),(.slice A3 N3 D3),(.slice A4 N4 D4),(aG a.Form),(.slice A5 N5 D5)].toArray),(.slice A7 N7 D7)] [aO kT3 (.slice A2 N2 D2) a.Args,aO kT3 (.slice A3 N3 D3) a.Dims,aO kT3 (.slice A4 N4 D4) a.Ints,aO kT3 (.slice A5 N5 D5) a.Data,aO kT3 (.slice A7 N7 D7) b] (fun (h:HH×HH)=>((.tuple [(s3 h.1),(s3 h.2),(.bool r.2.2)].toArray),[aO kT3 (s3 h.1) r.1,ow kT179 179 (s3 h.2) r.2.1])):=by
 unfold Z33 at i
 refine aR Tryz.func104 R 14 R R fun C V=>?_
 refine cL 0 aA ?_
 rintro rfl
 refine cL 1 aA ?_
 rintro rfl
 refine cL 2 aA ?_
 rintro rfl
 refine cL 3 aA ?_
 rintro rfl
 refine cL 4 aA ?_
 rintro rfl
 let F:=RR kT3 A2 D2 a.Args::RR kT3 A3 D3 a.Dims::RR kT3 A4 D4 a.Ints::RR kT3 A5 D5 a.Data::RR kT3 A7 D7 b::V
 refine cN F ?_
 refine aZ ?_
 refine eT R fun L=>?_
 refine bL ?_
 let J:=aK L [(iv a.Op),(sc A2 a.Args D2),(sc A3 a.Dims D3),(sc A4 a.Ints D4),(aG a.Form),(sc A5 a.Data D5)] 42::F
 refine qN J ?_
 refine aZ ?_
 obtain ⟨M,j,i⟩:=bd i
 obtain ⟨q,l,i⟩:=bd i
 refine aV ?_
 refine lM _ (fun w s=>((((((s.d 1 R).d 3 R).d 5 R).d 7 R).d 9 R).e 5 [4,3,2,1,0])) ?_
 refine lC 5 Bt R (Z1l_ok j) R ?_
 rintro ⟨⟨A11,N11,D11⟩,⟨A12,N12,D12⟩⟩
 refine aM 0 aA ?_
 rintro rfl
 refine aM 1 aA ?_
 rintro rfl
 refine lM _ (fun w s=>(((s.d 0 R).d 2 R).e 4 [1,0,2,3])) ?_
 refine lC 2 Bu R (Z2r_ok l) R ?_
 rintro ⟨⟨u,G,D⟩,⟨B,I,E⟩⟩
 refine aM 0 aA ?_
 rintro rfl
 refine aM 1 aD ?_
 rintro rfl
 refine dG ?_
 cases i
 exact iS ((u,q.1.length,D),(B,q.2.1.length,E)) (tE 10 [0,1])
theorem Z21_ok  {k1:shiftKind}{b:Node}{a:(List (List Int))}{r:(List Int)×Bool}(j:Z21 k1 b a=some r) :
 FnOk Tryz.prog 225 [(.agg [(aG k1.use),(.func (.func 104) [].toArray [].toArray)].toArray),(.agg [(iv b.Op),(.slice A3 N3 D3),(.slice A4 N4 D4),(.slice A5 N5 D5),(aG b.Form),(.slice A6 N6 D6)].toArray),(.slice A8 N8 D8)] [aO kT3 (.slice A3 N3 D3) b.Args,aO kT3 (.slice A4 N4 D4) b.Dims,aO kT3 (.slice A5 N5 D5) b.Ints,aO kT3 (.slice A6 N6 D6) b.Data,aO bF (.slice A8 N8 D8) a] (fun (h:HH)=>((.tuple [(s3 h),(.bool r.2)].toArray),[aO kT3 (s3 h) r.1])):=by
 unfold Z21 at j
 refine aR Tryz.func225 R 27 R R fun C V=>?_
 refine cL 0 aA ?_
 rintro rfl
 refine cL 1 aA ?_
 rintro rfl
 refine cL 2 aA ?_
 rintro rfl
 refine cL 3 aA ?_
 rintro rfl
 refine cL 4 aA ?_
 rintro rfl
 let E:=RR kT3 A3 D3 b.Args::RR kT3 A4 D4 b.Dims::RR kT3 A5 D5 b.Ints::RR kT3 A6 D6 b.Data::RR bF A8 D8 a::V
 refine cN E ?_
 refine aZ ?_
 refine eT R fun T=>?_
 refine eT R fun B=>?_
 refine aV ?_
 let O:=aK B [(iv b.Op),(sc A3 b.Args D3),(sc A4 b.Dims D4),(sc A5 b.Ints D5),(aG b.Form),(sc A6 b.Data D6)] 42::aK T [(aG k1.use),(.func (.func 104) [].toArray [].toArray)] 146::E
 refine qN O ?_
 refine dG ?_
 split at j
 refine dG ?_
 cases j
 exact kb (none,0,0) (fun w s=>((s.nilr kT3).e 8 [0]))
 refine bL ?_
 obtain ⟨i,j⟩:=gd j
 obtain ⟨D,l,j⟩:=bd j
 refine bC 6 aA (show 0<a.length by have:=i; omega) (fun U o14 Y=>?_)
 subst Y
 refine dU (K:=bF) 6 (0:Int) dT23.dec R i.1 i.2 ?_
 rintro ⟨F,I⟩
 refine dP 14 [] bS fun ht Z=>?_
 refine kX 0 [] ?_
 refine dR 5 R (eZ (fo:=0) 0 cH R R R) (d1 6 R (lM _ (fun w s=>((((((s.d 4 R).d 6 R).d 8 R).d 10 R).d 5 R).e 7 [4,3,2,1,0,5,6])) ?_))
 refine cU (fs:=[]) (cs:=[]) 5 R R Bv R R (Z33_ok l) R ?_
 rintro ⟨⟨q,L,u⟩,⟨G,M,J⟩⟩
 refine aM 0 aA ?_
 rintro rfl
 refine aM 1 aD ?_
 rintro rfl
 refine aB (aJ (sL [1,0]) (dR 7 R (vT R) (hS:=(sL [1,0])) ?_))
 refine tW 8 [1,0] ?_
 refine dD ?_
 refine dJ ?_
 cases j
 exact kb (q,D.1.length,u) (tE 11 [0])
theorem Z17_ok  {q:Node}{l:(List Int)}{r:(List Int)×(List pair)×Bool}(j:Z17 q l=some r) :
 FnOk Tryz.prog 105 [(.agg [(iv q.Op),(.slice A2 N2 D2),(.slice A3 N3 D3),(.slice A4 N4 D4),(aG q.Form),(.slice A5 N5 D5)].toArray),(.slice A7 N7 D7)] [aO kT3 (.slice A2 N2 D2) q.Args,aO kT3 (.slice A3 N3 D3) q.Dims,aO kT3 (.slice A4 N4 D4) q.Ints,aO kT3 (.slice A5 N5 D5) q.Data,aO kT3 (.slice A7 N7 D7) l] (fun (h:HH×HH)=>((.tuple [(s3 h.1),(s3 h.2),(.bool r.2.2)].toArray),[aO kT3 (s3 h.1) r.1,ow kT179 179 (s3 h.2) r.2.1])):=by
 unfold Z17 at j
 refine aR Tryz.func105 R 37 R R fun C V=>?_
 refine cL 0 aA ?_
 rintro rfl
 refine cL 1 aA ?_
 rintro rfl
 refine cL 2 aA ?_
 rintro rfl
 refine cL 3 aA ?_
 rintro rfl
 refine cL 4 aA ?_
 rintro rfl
 let W0:=RR kT3 A2 D2 q.Args::RR kT3 A3 D3 q.Dims::RR kT3 A4 D4 q.Ints::RR kT3 A5 D5 q.Data::RR kT3 A7 D7 l::V
 refine cN W0 ?_
 refine aZ ?_
 refine eT R fun T=>?_
 refine bL ?_
 let D:=aK T [(iv q.Op),(sc A2 q.Args D2),(sc A3 q.Dims D3),(sc A4 q.Ints D4),(aG q.Form),(sc A5 q.Data D5)] 42::W0
 refine qN D ?_
 refine aV ?_
 obtain ⟨r9,J,j⟩:=bd j
 obtain ⟨a8,L,j⟩:=bd j
 obtain ⟨a9,M,j⟩:=bd j
 refine cQ [(1,(sc A7 l D7)),(2,(pt T 0)),(20,(.bool ((!r9)||(a8 != a9))))] (D) ?_ ?_
 refine aV ?_
 refine lM _ (fun w s=>(s.d 2 R)) ?_
 refine lC 1 jK R (Zf_ok J) R ?_
 rintro _
 refine lN D ?_
 refine aZ ?_
 rcases bo (!r9) with u | u
 refine dN ?_
 exact qj tI
 refine aZ ?_
 refine lM _ (fun w s=>(s.d 2 R)) ?_
 refine b' 1 R (bW u) m9 R (Zl_ok (bM L (cZ u))) R ?_
 rintro _
 refine lN D ?_
 refine cP ?_
 refine lM _ (fun w s=>(s.d 5 R)) ?_
 refine b' 1 R (bW u) m9 R (Zl_ok (bM M (cZ u))) R ?_
 rintro _
 refine lN D ?_
 refine aV ?_
 exact qj tI
 rintro σ1
 refine cP ?_
 split at j
 refine dJ ?_
 cases j
 exact iS ((none,0,0),(none,0,0)) (fun w s=>(((s.nilr kT3).nilo kT179 179).e 8 [1,0]))
 refine cV ?_
 refine bO (K:=kT179) (xs:=([]:List pair)) (vs:=[]) 0 R R fT fU fF R R R R R R ?_ R (fun U a0=>?_)
 exact fun I h s=>(jI).list [] I h s
 refine bL ?_
 refine bB (A:=((List pair))×(HH)) (fun a=>Z17_J1 q a.1=some r) (fun a=>[(2,(pt T 0)),(7,(s3 a.2))]) (fun a=>ow kT179 179 (s3 a.2) a.1::D) ?_ ?_
 refine cP ?_
 obtain ⟨aa,O,j⟩:=bd j
 refine aZ ?_
 refine lM _ (fun w s=>(s.d 6 R)) ?_
 refine lC 1 m9 R (Zl_ok O) R ?_
 rintro _
 refine bL ?_
 obtain ⟨e1,a7,a6⟩:=bd j
 refine bD (A:=HH) a7 (fun s a=>[(2,(pt T 0)),(7,(s3 a)),(23,(iv aa)),(24,(iv s.2))]) (fun s a=>ow kT179 179 (s3 a) s.1::D) (U,([]:List pair).length,a0) (aS R) tI ?_
 rintro ⟨b,i⟩ ⟨Y,a3,a1⟩ σ1 ab j a5
 dsimp only [Z17_L1] at j
 refine bK 0 aD (fun (hn:a3=b.length)=>?_)
 subst hn
 refine cB ?_
 split at j
 refine hG ?_
 obtain ⟨G,j⟩:=gd j
 refine bL ?_
 refine lO (vz (.agg [(iv i),(iv i)].toArray) (bA nr fF R R)) (bO (K:=kT179) (xs:=([(⟨i,i⟩:pair)]:List pair)) (vs:=[(.agg [(iv i),(iv i)].toArray)]) 0 R R fT fU fF R R R R R R ?_ R (fun ac ae=>?_))
 exact fun I h s=>(jI).list [(((),()),(⟨i,i⟩:pair))] I h s
 refine lM _ (tE 2 [1,0]) ?_
 refine eU (K:=kT179) 8796093022208 R R fT fU mu (Zr.zk zT179 fF) R R R R R R eB G (fun E F=>(lN (OO kT179 179 E F (b++([(⟨i,i⟩:pair)]:List pair))::D) ?_))
 refine dN ?_
 cases j
 exact qA (E,(b++([(⟨i,i⟩:pair)]:List pair)).length,F) tI
 refine aV ?_
 cases j
 obtain rfl:=a5 _ R
 have j:=a6
 refine aZ ?_
 exact qI (b,(Y,b.length,a1)) j tI
 rintro ⟨B,⟨Z,a4,a2⟩⟩ σ1 j
 dsimp only [Z17_J1] at j
 refine bK 0 aD (fun (hn:a4=B.length)=>?_)
 subst hn
 refine hG ?_
 cases j
 exact iS ((A3,q.Dims.length,D3),(Z,B.length,a2)) (tE 7 [3,0])
theorem Z2e_ok  {k1:shiftKind}{b:Node}{a:(List (List Int))}{r:(List Int)×Bool}(j:Z2e k1 b a=some r) :
 FnOk Tryz.prog 225 [(.agg [(aG k1.use),(.func (.func 105) [].toArray [].toArray)].toArray),(.agg [(iv b.Op),(.slice A3 N3 D3),(.slice A4 N4 D4),(.slice A5 N5 D5),(aG b.Form),(.slice A6 N6 D6)].toArray),(.slice A8 N8 D8)] [aO kT3 (.slice A3 N3 D3) b.Args,aO kT3 (.slice A4 N4 D4) b.Dims,aO kT3 (.slice A5 N5 D5) b.Ints,aO kT3 (.slice A6 N6 D6) b.Data,aO bF (.slice A8 N8 D8) a] (fun (h:HH)=>((.tuple [(s3 h),(.bool r.2)].toArray),[aO kT3 (s3 h) r.1])):=by
 unfold Z2e at j
 refine aR Tryz.func225 R 27 R R fun C V=>?_
 refine cL 0 aA ?_
 rintro rfl
 refine cL 1 aA ?_
 rintro rfl
 refine cL 2 aA ?_
 rintro rfl
 refine cL 3 aA ?_
 rintro rfl
 refine cL 4 aA ?_
 rintro rfl
 let E:=RR kT3 A3 D3 b.Args::RR kT3 A4 D4 b.Dims::RR kT3 A5 D5 b.Ints::RR kT3 A6 D6 b.Data::RR bF A8 D8 a::V
 refine cN E ?_
 refine aZ ?_
 refine eT R fun T=>?_
 refine eT R fun B=>?_
 refine aV ?_
 let O:=aK B [(iv b.Op),(sc A3 b.Args D3),(sc A4 b.Dims D4),(sc A5 b.Ints D5),(aG b.Form),(sc A6 b.Data D6)] 42::aK T [(aG k1.use),(.func (.func 105) [].toArray [].toArray)] 146::E
 refine qN O ?_
 refine dG ?_
 split at j
 refine dG ?_
 cases j
 exact kb (none,0,0) (fun w s=>((s.nilr kT3).e 8 [0]))
 refine bL ?_
 obtain ⟨i,j⟩:=gd j
 obtain ⟨D,l,j⟩:=bd j
 refine bC 6 aA (show 0<a.length by have:=i; omega) (fun U o14 Y=>?_)
 subst Y
 refine dU (K:=bF) 6 (0:Int) dT23.dec R i.1 i.2 ?_
 rintro ⟨F,I⟩
 refine dP 14 [] bS fun ht Z=>?_
 refine kX 0 [] ?_
 refine dR 5 R (eZ (fo:=0) 0 cH R R R) (d1 6 R (lM _ (fun w s=>((((((s.d 4 R).d 6 R).d 8 R).d 10 R).d 5 R).e 7 [4,3,2,1,0,5,6])) ?_))
 refine cU (fs:=[]) (cs:=[]) 5 R R Bw R R (Z17_ok l) R ?_
 rintro ⟨⟨q,L,u⟩,⟨G,M,J⟩⟩
 refine aM 0 aA ?_
 rintro rfl
 refine aM 1 aD ?_
 rintro rfl
 refine aB (aJ (sL [1,0]) (dR 7 R (vT R) (hS:=(sL [1,0])) ?_))
 refine tW 8 [1,0] ?_
 refine dD ?_
 refine dJ ?_
 cases j
 exact kb (q,D.1.length,u) (tE 11 [0])
theorem Z1u_ok  {b:(List Int)}{a:Int}{j:Int}{r:(List Int)}(i:Z1u b a j=some r) :
 FnOk Tryz.prog 148 [(.slice A2 N2 D2),(iv a),(iv j)] [aO kT3 (.slice A2 N2 D2) b] (fun (h:HH)=>((s3 h),[ow kT3 3 (s3 h) r])):=by
 unfold Z1u at i
 refine aR Tryz.func148 R 15 R R fun C V=>?_
 refine cL 0 aA ?_
 rintro rfl
 let u:=RR kT3 A2 D2 b::V
 refine cN u ?_
 refine cB ?_
 obtain ⟨q,l,i⟩:=bd i
 refine aZ ?_
 refine lM _ (fun w s=>(s.d 0 R)) ?_
 refine lC 1 gV R (Zt_ok l) R ?_
 rintro ⟨A7,N7,D7⟩
 refine aM 0 aD ?_
 rintro rfl
 refine bL ?_
 obtain ⟨e,i⟩:=gd i
 refine bL ?_
 refine bE 0 aD (show 0<q.length by have:=e; omega) (fun B o10 D=>?_)
 subst D
 refine cP ?_
 refine eO (K:=kT3) (x':=j) 0 a R R cO R R e.1 e.2 ?_ ?_
 exact fun I h s=>(gM).put I h () j s
 refine dG ?_
 cases i
 exact qF ((ad B o10),q.length,D7) (tE 2 [0])
theorem Z2c_ok  {b:(List Int)}{a:Int}{r:Int×Int×Int}(j:Z2c b a=some r) :
 FnOk Tryz.prog 150 [(.slice A2 N2 D2),(iv a)] [aO kT3 (.slice A2 N2 D2) b] (fun (h:Unit)=>((.tuple [(iv r.1),(iv r.2.1),(iv r.2.2)].toArray),[])):=by
 unfold Z2c at j
 refine aR Tryz.func150 R 20 R R fun C V=>?_
 refine cL 0 aA ?_
 rintro rfl
 let D:=RR kT3 A2 D2 b::V
 refine cN D ?_
 refine dN ?_
 obtain ⟨i,j⟩:=gd j
 obtain ⟨F,q,j⟩:=bd j
 obtain ⟨u,j⟩:=gd j
 obtain ⟨e,j⟩:=gd j
 obtain ⟨B,l,j⟩:=bd j
 refine cQ [(4,(iv F)),(5,(iv (ix b a))),(6,(iv B))] (D) ?_ ?_
 refine bC 0 aA (show 0<b.length by have:=u; omega) (fun G o10 E=>?_)
 subst E
 refine dP 16 [] bS fun J I=>?_
 refine iM 0 [] ?_
 refine tl 4 [] ?_
 refine iQ [2,11] (by kernel_rfl) R ⟨?_,?_,trivial⟩
 refine gP (K:=kT3) (0:Int) a 0 R R bH cO R R R R i.1 i.2.1 i.2.2 (fun A5 D5=>(aB (aJ (sL [0]) (iQ [3,11] (by kernel_rfl) R ⟨?_,?_,trivial⟩))))
 refine lM _ (fun w s=>(s.d 0 R)) ?_
 refine lC 1 m9 R (Zl_ok q) R ?_
 rintro _
 refine aB (aJ (sL [0]) (d1 11 R (gP (K:=kT3) (aI (a+1)) (b.length:Int) 1 R R bH cO R R R R e.1 e.2.1 e.2.2 (fun A12 D12=>(aB (aJ (sL [1,0]) (d1 12 R (lM _ (fun w s=>(s.d 0 R)) ?_))))))))
 refine lC 1 m9 R (Zl_ok l) R ?_
 rintro _
 refine aB (aJ (sL [1,0]) ?_)
 refine j6 13 [1,0] ?_
 refine dD ?_
 exact qj (tE 2 [])
 refine gP (K:=kT3) (aI (a+1)) (b.length:Int) 1 R R bH cO R R R R e.1 e.2.1 e.2.2 (fun A12 D12=>(aB (aJ (sL [1,0]) (d1 3 R (lM _ (fun w s=>(s.d 1 R)) ?_)))))
 refine lC 1 m9 R (Zl_ok q) R ?_
 rintro _
 refine aB (aJ (sL [1,0]) (d1 12 R (lM _ (fun w s=>(s.d 0 R)) ?_)))
 refine lC 1 m9 R (Zl_ok l) R ?_
 rintro _
 refine aB (aJ (sL [1,0]) ?_)
 refine j6 13 [1,0] ?_
 refine dD ?_
 exact qj (tE 2 [])
 refine gP (K:=kT3) (aI (a+1)) (b.length:Int) 0 R R bH cO R R R R e.1 e.2.1 e.2.2 (fun A12 D12=>(aB (aJ (sL [0]) (d1 2 R (gP (K:=kT3) (0:Int) a 1 R R bH cO R R R R i.1 i.2.1 i.2.2 (fun A5 D5=>(aB (aJ (sL [1,0]) (d1 3 R (lM _ (fun w s=>(s.d 0 R)) ?_))))))))))
 refine lC 1 m9 R (Zl_ok q) R ?_
 rintro _
 refine aB (aJ (sL [1,0]) (d1 12 R (lM _ (fun w s=>(s.d 1 R)) ?_)))
 refine lC 1 m9 R (Zl_ok l) R ?_
 rintro _
 refine aB (aJ (sL [1,0]) ?_)
 refine j6 13 [1,0] ?_
 refine dD ?_
 exact qj (tE 2 [])
 rintro σ1
 refine aZ ?_
 cases j
 exact iS () (tE 1 [])
end Go.Proofs.YtoffdamdpmeoiaaGreatDoor
