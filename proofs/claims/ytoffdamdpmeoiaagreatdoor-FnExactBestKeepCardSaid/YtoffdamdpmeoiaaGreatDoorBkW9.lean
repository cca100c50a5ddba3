import Derived.Test.YtoffdamdpmeoiaaGreatDoorBkF
import Derived.Test.YtoffdamdpmeoiaaGreatDoorBkW1
import Derived.Test.YtoffdamdpmeoiaaGreatDoorBkW6
import Derived.Test.YtoffdamdpmeoiaaGreatDoorBkW8
set_option linter.unusedVariables false
set_option maxRecDepth 20000
namespace Go.Proofs.YtoffdamdpmeoiaaGreatDoor
open Go Go.Pg
variable {A2 A3 A5:Option Addr}{D2 D3 D5 N2 N3 N5:Nat}
theorem Zj_ok  {g1:Graph}{b:(List (List Int))}{q7:Int}{b8:Nat}{r:Int×Int}(j:Zj g1 b q7=some r) :
 FnOk Tryz.prog 32 [(.agg [(.slice A2 N2 D2),(.slice A3 N3 D3)].toArray),(.slice A5 N5 D5),(.func (.func 30) [].toArray [(pt b8 0)].toArray)] [aO cJ (.slice A2 N2 D2) g1.Nodes,aO kT3 (.slice A3 N3 D3) g1.Outs,aO bF (.slice A5 N5 D5) b,aK b8 [(.int .u64 q7)] 52] (fun (h:Unit)=>((.tuple [(iv r.1),(iv r.2)].toArray),[aK b8 [(.int .u64 q7)] 52])):=by
 unfold Zj at j
 refine aR Tryz.func32 R 79 R R fun C V=>?_
 refine cM (aK _ _ _::aO _ _ _::aO _ _ _::aO _ _ _::V) (fun w s=>(s.e 4 [3,0,1,2])) ?_
 refine cL 1 aA ?_
 rintro rfl
 refine cL 2 aA ?_
 rintro rfl
 refine cL 3 aA ?_
 rintro rfl
 let W0:List HP:=RR cJ A2 D2 g1.Nodes::RR kT3 A3 D3 g1.Outs::RR bF A5 D5 b::V
 refine cN (_::W0) ?_
 refine aH (aC (eT R (fun b9=>(lI R (lI R (aB (qM (aK _ _ _::aK _ _ _::W0) (fun w s=>(s.e 2 [1,0])) ?_)))))))
 let J:List HP:=aK b9 [(sc A2 g1.Nodes D2),(sc A3 g1.Outs D3)] 30::W0
 refine qN (_::J) ?_
 refine aE (aH ?_)
 obtain ⟨E,av,j⟩:=bd j
 refine aC (lO (eW 0 jy R) (lO (eS 1 nR R R R) (lO (eN jx R) (lO (vp _ R) (lC 1 BJ R (Z0h_ok av) R ?_)))))
 rintro ⟨A12,N12,D12⟩
 refine lN (ow kT3 3 (.slice A12 N12 D12) E::_::J) ?_
 refine aM 0 aD ?_
 rintro rfl
 refine lS R (aB (aE (aH ?_)))
 obtain ⟨ai,j⟩:=gd j
 refine aC (lO (eW 0 jy R) (lO (eS 2 nR R R R) (lO (eN jx R) (lO (iE R R) (fW (K:=kT3) (m:=(aI ((g1.Nodes.length:Int)+(1:Int)))) (z:=(0:Int)) R R bH cO kE (Zr.zk zT3 gN) (by decide) R R ai.1 ai.2.1 ai.2.2 (fun A14 D14=>(lS R (aB (aE (aH (aC (lI R (lI R (aB (aE (aH (bB (A:=((List Int)×Int×Int)×(Unit)) (fun a=>Zj_J5 a.1.1 a.1.2.1 a.1.2.2=some r) (fun a=>[(9,(sc A14 (List.replicate (aI ((g1.Nodes.length:Int)+(1:Int))).toNat (0:Int)) D14)),(10,(iv a.1.2.1)),(11,(iv a.1.2.2))]) (fun a=>ow kT3 3 (.slice A14 (List.replicate (aI ((g1.Nodes.length:Int)+(1:Int))).toNat (0:Int)).length D14) a.1.1::aK b8 [(.int .u64 q7)] 52::J) ?_ ?_)))))))))))))))))
 refine aH (aC (lO (eW 0 jy R) (lO (eS 3 nR R R R) (lO (eN jx R) (lI R (aB (aE (bV ?_))))))))
 obtain ⟨e1,bg,bf⟩:=bd j
 refine bD (A:=HH×HH) bg (fun s a=>[(1,(.slice a.1.1 a.1.2.1 a.1.2.2)),(2,(.func (.func 30) [].toArray [(pt b8 0)].toArray)),(8,(sc A12 E D12)),(9,(sc A14 (List.replicate (aI ((g1.Nodes.length:Int)+(1:Int))).toNat (0:Int)) D14)),(10,(iv s.2.1)),(11,(iv s.2.2.1)),(26,(.slice a.2.1 a.2.2.1 a.2.2.2)),(27,(il g1.Nodes)),(28,(iv s.2.2.2))]) (fun s a=>aO bF (.slice a.1.1 a.1.2.1 a.1.2.2) b::aK b8 [(.int .u64 q7)] 52::OO kT3 3 A12 D12 E::ow kT3 3 (.slice A14 (List.replicate (aI ((g1.Nodes.length:Int)+(1:Int))).toNat (0:Int)).length D14) s.1::aO cJ (.slice a.2.1 a.2.2.1 a.2.2.2) g1.Nodes::J) ((A5,b.length,D5),(A2,g1.Nodes.length,D2)) (aS R) (fun w s=>(((s.d 6 R).d 5 R).e 5 [1,4,3,2,0])) ?_
 rintro ⟨l,u,D,i⟩ ⟨⟨b0,b5,U⟩,⟨bi,b6,a2⟩⟩ σ1 O j be
 replace j:Zj_L1 g1 b q7 E l u D i=some O:=j
 unfold Zj_L1 at j
 refine bK 0 aA (fun (hn:b5=b.length)=>?_)
 subst hn
 refine bK 4 aA (fun (hn:b6=g1.Nodes.length)=>?_)
 subst hn
 refine aH (aC (lO (jG R R) (aB (aE (aH ?_)))))
 rcases cF j with ⟨ab,j⟩|⟨ab,j⟩
 refine bJ R ab (bQ (aE (aH (bB (A:=((List Int)×Int×Int)×(HH×HH)) (fun a=>Zj_J4 i a.1.1 a.1.2.1 a.1.2.2=some O) (fun a=>[(1,(.slice a.2.1.1 a.2.1.2.1 a.2.1.2.2)),(2,(.func (.func 30) [].toArray [(pt b8 0)].toArray)),(8,(sc A12 E D12)),(9,(sc A14 (List.replicate (aI ((g1.Nodes.length:Int)+(1:Int))).toNat (0:Int)) D14)),(10,(iv a.1.2.1)),(11,(iv a.1.2.2)),(26,(.slice a.2.2.1 a.2.2.2.1 a.2.2.2.2)),(27,(il g1.Nodes)),(28,(iv i))]) (fun a=>aO bF (.slice a.2.1.1 a.2.1.2.1 a.2.1.2.2) b::aK b8 [(.int .u64 q7)] 52::OO kT3 3 A12 D12 E::ow kT3 3 (.slice A14 (List.replicate (aI ((g1.Nodes.length:Int)+(1:Int))).toNat (0:Int)).length D14) a.1.1::aO cJ (.slice a.2.2.1 a.2.2.2.1 a.2.2.2.2) g1.Nodes::J) ?_ ?_))))
 refine bV (aH ?_)
 obtain ⟨a0,j⟩:=gd j
 refine aC (lI R (bE 4 aA (show 0<g1.Nodes.length by have:=a0; omega) (fun Y o61 ha=>?_)))
 subst ha
 refine lO (dV jx hH R R a0) (fV (K:=cJ) 4 i dT42.dec R a0.1 a0.2 ?_)
 rintro ⟨-,⟨a3,a7⟩,⟨a4,a8⟩,⟨a5,a9⟩,-,⟨a6,aa⟩⟩
 refine lN (cl Y (o61+i.toNat*6) [(iv (ix g1.Nodes i).Op),(sc a3 ((ix g1.Nodes i).Args) a7),(sc a4 ((ix g1.Nodes i).Dims) a8),(sc a5 ((ix g1.Nodes i).Ints) a9),(aG (ix g1.Nodes i).Form),(sc a6 ((ix g1.Nodes i).Data) aa)]::RR kT3 a3 a7 ((ix g1.Nodes i).Args)::RR kT3 a4 a8 ((ix g1.Nodes i).Dims)::RR kT3 a5 a9 ((ix g1.Nodes i).Ints)::RR kT3 a6 aa ((ix g1.Nodes i).Data)::RR bF b0 U b::_::_::ow kT3 3 (.slice A14 (List.replicate (aI ((g1.Nodes.length:Int)+(1:Int))).toNat (0:Int)).length D14) l::RR cJ (ad Y o61) a2 g1.Nodes::J) ?_
 refine lO (vz (.agg [(iv (ix g1.Nodes i).Op),(sc a3 ((ix g1.Nodes i).Args) a7),(sc a4 ((ix g1.Nodes i).Dims) a8),(sc a5 ((ix g1.Nodes i).Ints) a9),(aG (ix g1.Nodes i).Form),(sc a6 ((ix g1.Nodes i).Data) aa)].toArray) (eK (fo:=0) 0 ni hH R R R R)) (bG R R qx (fun bb=>(lI R (aL 0 R R hH R R R R R R (lN (aK bb [(iv (ix g1.Nodes i).Op),(sc a3 ((ix g1.Nodes i).Args) a7),(sc a4 ((ix g1.Nodes i).Dims) a8),(sc a5 ((ix g1.Nodes i).Ints) a9),(aG (ix g1.Nodes i).Form),(sc a6 ((ix g1.Nodes i).Data) aa)] 42::_::_::_::_::_::_::_::_::_::_::J) ?_)))))
 refine aB (aE (aH ?_))
 obtain ⟨a1,j⟩:=gd j
 obtain ⟨bh,aw,j⟩:=bd j
 refine aC (lS R (lI R (bE 6 aA (show 0<b.length by have:=a1; omega) (fun Z o69 ha=>?_))))
 subst ha
 refine lO (dV iW fK R R a1) (fV (K:=bF) 6 i dT23.dec R a1.1 a1.2 ?_)
 rintro ⟨ar,au⟩
 refine lN (cl Z (o69+i.toNat*1) [(sc ar (ix b i) au)]::RR kT3 ar au (ix b i)::_::_::_::_::_::_::RR bF (ad Z o69) U b::_::_::_::_::J) ?_
 refine lO (eZ (fo:=0) 0 cH R R R) (lM (_::_::_::_::_::_::_::_::_::_::_::_::_::_::J) (fun w s=>(s.d 1 R)) ?_)
 refine lC 1 m9 R (Zl_ok aw) R ?_
 rintro _
 refine lN (_::_::_::_::_::_::_::_::_::_::_::_::_::J) ?_
 refine lI R (aB (aE (aH (bB (A:=(Int)×(Unit)) (fun a=>Zj_J3 g1 q7 E l u D i a.1=some O) (fun a=>[(1,(sc (ad Z o69) b U)),(2,(.func (.func 30) [].toArray [(pt b8 0)].toArray)),(8,(sc A12 E D12)),(9,(sc A14 (List.replicate (aI ((g1.Nodes.length:Int)+(1:Int))).toNat (0:Int)) D14)),(10,(iv u)),(11,(iv D)),(12,(iv i)),(14,(iv a.1)),(26,(sc (ad Y o61) g1.Nodes a2)),(27,(il g1.Nodes)),(28,(iv i))]) (fun a=>RR bF (ad Z o69) U b::aK b8 [(.int .u64 q7)] 52::OO kT3 3 A12 D12 E::ow kT3 3 (.slice A14 (List.replicate (aI ((g1.Nodes.length:Int)+(1:Int))).toNat (0:Int)).length D14) l::RR cJ (ad Y o61) a2 g1.Nodes::J) ?_ ?_))))
 refine aH ?_
 obtain ⟨bj,ax,j⟩:=bd j
 refine aC (lO (vz (.agg [(iv (ix g1.Nodes i).Op),(sc a3 ((ix g1.Nodes i).Args) a7),(sc a4 ((ix g1.Nodes i).Dims) a8),(sc a5 ((ix g1.Nodes i).Ints) a9),(aG (ix g1.Nodes i).Form),(sc a6 ((ix g1.Nodes i).Data) aa)].toArray) (dA 2 ni hH R R R R)) (lM (aO _ _ _::aO _ _ _::aO _ _ _::aO _ _ _::cl _ _ _::aO _ _ _::aK _ _ _::cl _ _ _::aO _ _ _::aO _ _ _::aO _ _ _::aO _ _ _::aO _ _ _::aK _ _ _::ow _ _ _ _::ow _ _ _ _::aO _ _ _::J) (fun w s=>(((((s.d 4 R).d 6 R).d 8 R).d 10 R).f 17 [3,1,2,1,1,1,0,1,4,13])) ?_))
 refine lC 4 BK R (Z27_ok ax) R ?_
 rintro _
 refine lN (_::_::_::_::_::_::_::_::_::_::_::_::_::J) ?_
 refine aB (aE ?_)
 rcases cF j with ⟨ac,j⟩|⟨ac,j⟩
 refine bJ R ac (aC (lI R (aB ?_)))
 exact qI ((0:Int),()) j (fun w s=>(s.f 13 [8,5]))
 refine aY R ac (bQ ?_)
 exact qI (bh,()) j (fun w s=>(s.f 13 [8,5]))
 rintro ⟨q,_⟩ σ1 j
 replace j:Zj_J3 g1 q7 E l u D i q=some O:=j
 unfold Zj_J3 at j
 refine aH (aC (lI R (lI R (lO (iE R R) (lI R (aB (aE (aH (aH ?_)))))))))
 obtain ⟨bk,ay,j⟩:=bd j
 refine aC (lO (vp _ R) (lI R (lM (aK _ _ _::aO _ _ _::ow _ _ _ _::ow _ _ _ _::aO _ _ _::J) (fun w s=>(s.e 5 [1,0,2,3,4])) ?_)))
 refine cU (fs:=[]) (cs:=[(pt b8 0)]) 1 R R w7 R R (Z1g_ok ay) R ?_
 rintro _
 refine aB (aE ?_)
 rcases cF j with ⟨ae,j⟩|⟨ae,j⟩
 refine bJ R ae (aH (aC (lI R (lI R (lO (iE R R) (lI R (aB (aE (eA (cE (dH ?_)))))))))))
 exact qI ((l,(aI (u+q)),(aI (D+q))),(((ad Z o69),b.length,U),((ad Y o61),g1.Nodes.length,a2))) j (fun w s=>(s.e 5 [1,0,2,3,4]))
 refine aY R ae (bQ (aE (aH ?_)))
 obtain ⟨M,j⟩:=gd j
 obtain ⟨G,j⟩:=gd j
 refine aC (lS R (lS R (lI R (bE 2 aD (show 0<E.length by have:=M; omega) (fun bc o82 ha=>?_)))))
 subst ha
 refine lO (dV bH cO R R M) (lO (fQ 2 fC aD R M) (bE 3 aD (show 0<(List.replicate (aI ((g1.Nodes.length:Int)+(1:Int))).toNat (0:Int)).length by have:=G; omega) (fun ao o85 ha=>?_)))
 subst ha
 refine lO (dV bH cO R R G) (lO (fQ 3 fC aD R G) (lI R (lO (iE R R) (lO (dV bH cO R R G) (lM (ow kT3 3 (.slice (ad ao o85) (List.replicate (aI ((g1.Nodes.length:Int)+(1:Int))).toNat (0:Int)).length D14) l::aK _ _ _::aO _ _ _::OO kT3 3 (ad bc o82) D12 E::aO _ _ _::J) (fun w s=>(s.e 5 [3,0,1,2,4])) ?_)))))
 refine eO (K:=kT3) (x':=(aI ((ix l (ix E i))+q))) 0 (ix E i) R R cO R R G.1 G.2 ?_ ?_
 exact fun I h s=>(gM).put I h () (aI ((ix l (ix E i))+q)) s
 refine lN (ow kT3 3 (.slice (ad ao o85) (List.replicate (aI ((g1.Nodes.length:Int)+(1:Int))).toNat (0:Int)).length D14) (l.set (ix E i).toNat (aI ((ix l (ix E i))+q)))::_::_::_::_::J) ?_
 refine aB ?_
 obtain ⟨aq,aj,j⟩:=bd j
 replace aj:=Option.some.inj aj
 refine qM (ow kT3 3 (.slice (ad ao o85) (List.replicate (aI ((g1.Nodes.length:Int)+(1:Int))).toNat (0:Int)).length D14) aq::_::_::_::_::J) (fun w s=>by rw [← aj]; exact s) ?_
 refine aE (aH ?_)
 obtain ⟨an,j⟩:=gd j
 refine dP 11 [] bS (fun ht hn=>(dR 0 R (vS R) (dR 1 R (vI R) (dR 2 R (dV bH cO R R M) (dR 3 R (fQ 3 fC aD R M) (dR 4 R (vS R) (dR 5 R (vS R) (dR 6 R (eN bH R) (dR 7 R (sG R R) (dR 8 R (dV bH cO R R an) (dR 9 R (fQ 3 fC aD R an) (dR 10 R (vt R R) (dD (aE ?_))))))))))))))
 rcases cF j with ⟨ag,j⟩|⟨ag,j⟩
 refine bJ R ag (aC (lI R (lI R (lO (iE R R) (lI R (aB (cD ?_)))))))
 exact qI ((aq,u,(aI ((aI (D+q))+q))),(((ad Z o69),b.length,U),((ad Y o61),g1.Nodes.length,a2))) j (fun w s=>(s.e 5 [2,1,3,0,4]))
 refine aY R ag (bQ (cD ?_))
 exact qI ((aq,u,(aI (D+q))),(((ad Z o69),b.length,U),((ad Y o61),g1.Nodes.length,a2))) j (fun w s=>(s.e 5 [2,1,3,0,4]))
 rintro ⟨⟨al,ak,am⟩,⟨⟨b1,b7,b3⟩,⟨b2,ba,b4⟩⟩⟩ σ1 j
 replace j:Zj_J4 i al ak am=some O:=j
 unfold Zj_J4 at j
 refine bK 0 aA (fun (hn:b7=b.length)=>?_)
 subst hn
 refine bK 4 aA (fun (hn:ba=g1.Nodes.length)=>?_)
 subst hn
 refine aC (lO (iE R R) (lI R (aB ?_)))
 obtain rfl:=so j
 exact qA ((b1,b.length,b3),(b2,g1.Nodes.length,b4)) (fun w s=>s)
 refine aY R ab (eA (cE ?_))
 obtain rfl:=so j
 obtain rfl:=be _ R
 have j:=bf
 refine cE (dH ?_)
 exact qI ((l,u,D),()) j (fun w s=>(s.e 5 [3,1]))
 rintro ⟨⟨F,L,T⟩,_⟩ σ1 j
 replace j:Zj_J5 F L T=some r:=j
 unfold Zj_J5 at j
 refine aH ?_
 obtain ⟨az,ap,j⟩:=bd j
 refine aC (lI R (lS R (lC 1 Dn R (FnOk.lends (A':=[ow kT3 3 (.slice A14 (List.replicate (aI ((g1.Nodes.length:Int)+(1:Int))).toNat (0:Int)).length D14) F]) (A:=[aO kT3 (.slice A14 (List.replicate (aI ((g1.Nodes.length:Int)+(1:Int))).toNat (0:Int)).length D14) F]) (B:=[]) (Z1c_ok ap) ⟨aU,trivial⟩ (fun _=>trivial)) R ?_)))
 rintro _
 refine lN (ow kT3 3 (.slice A14 (List.replicate (aI ((g1.Nodes.length:Int)+(1:Int))).toNat (0:Int)).length D14) F::_::J) ?_
 refine lO (iE R R) (lI R (lI R (lI R (aB (aE (bY ?_))))))
 obtain rfl:=so j
 exact dL (vs:=[(iv (aI (L+az))),(iv T)]) (.inl R) () R ⟨R,R,trivial⟩ R (fun w s=>(s.e 6 [1]))
theorem Z9_ok  {g1:Graph}{F:Int}{mG:Int}{r:(List Int)}(q:Z9 g1 F=some r) :
 FnOk Tryz.prog 8 [(.agg [(.slice A2 N2 D2),(.slice A3 N3 D3)].toArray),(iv F)] [aO cJ (.slice A2 N2 D2) g1.Nodes,aO kT3 (.slice A3 N3 D3) g1.Outs,gG mG] (fun (h:HH)=>((.slice h.1 h.2.1 h.2.2),[ow kT3 3 (.slice h.1 h.2.1 h.2.2) r])):=by
 unfold Z9 at q
 refine aR Tryz.func8 R 106 R R fun C V=>?_
 refine cN (_::_::_::V) ?_
 refine cL 0 aA ?_
 rintro rfl
 refine cL 1 aA ?_
 rintro rfl
 let W0:List HP:=RR cJ A2 D2 g1.Nodes::RR kT3 A3 D3 g1.Outs::gG mG::V
 refine cN W0 ?_
 refine aH (aC (eT R (fun b5=>(lS R (aB ?_)))))
 let W1:List HP:=aK b5 [(sc A2 g1.Nodes D2),(sc A3 g1.Outs D3)] 30::W0
 refine qN W1 ?_
 refine aE (aH ?_)
 obtain ⟨r6,bj,q⟩:=bd q
 refine aC (lO (vz (.agg [(sc A2 g1.Nodes D2),(sc A3 g1.Outs D3)].toArray) (dA 0 oG nj R R R R)) (lM (RR cJ A2 D2 g1.Nodes::RR kT3 A3 D3 g1.Outs::gG mG::W1) (fun w s=>((((s.d 1 R).d 3 R).dgx 5 R).e 3 [2,1,0])) ?_))
 refine lC 3 Dj R (Zn_ok bj) R ?_
 rintro ⟨A8,N8,D8⟩
 refine lN (ow (bF).share 23 (.slice A8 N8 D8) r6.1::W1) ?_
 refine aM 0 eQ ?_
 rintro rfl
 refine lO (vT R) (lS R (lB R (lS R (lB R (aB (aE (aH (aH (cQ [(1,(iv F)),(2,(pt b5 0)),(5,(sc A8 r6.1 D8)),(28,(.bool ((!r6.2)||(decide ((g1.Nodes.length:Int)>(12:Int))))))] (OO (bF).share 23 A8 D8 r6.1::W1) ?_ ?_)))))))))
 refine aC (lB R (lO (ne R) (lB R ?_)))
 rcases bo (!r6.2) with a1 | a1
 refine lf (cX a1) (lf (cX a1) (lf (cX a1) (lf (cX a1) (lO (fB (decide ((g1.Nodes.length:Int)>(12:Int))) R a1) (aB ?_)))))
 exact qJ (fun w s=>s)
 refine lW (bW a1) (eW 0 jy R) (lW (bW a1) (eS 1 nR R R R) (lW (bW a1) (eN jx R) (lW (bW a1) (tj R R) (lO (fG R a1 R) (aB ?_)))))
 exact qJ (fun w s=>s)
 rintro σ1
 refine aE ?_
 rcases cF q with ⟨a8,q⟩|⟨a8,q⟩
 refine bJ R a8 (aH (aC (lS R (aB (aE (bY (bZ ?_)))))))
 obtain rfl:=so q
 exact qF (none,0,0) (fun w s=>((s.nilo kT3 3).e 6 [0]))
 refine aY R a8 (bQ (aE (aH (aC (lS R (aB (aE (aH (aC (lI R (lI R (aB (aE (aH (bB (A:=((List Int))×(HH)) (fun a=>Z9_J5 a.1=some r) (fun a=>[(7,(.slice a.2.1 a.2.2.1 a.2.2.2))]) (fun a=>ow kT3 3 (.slice a.2.1 a.2.2.1 a.2.2.2) a.1::W1) ?_ ?_)))))))))))))))
 refine aH ?_
 obtain ⟨al,q⟩:=gd q
 refine aC (lO (eW 0 jy R) (lO (eS 1 nR R R R) (lO (eN jx R) (lO (vz (.int .u64 (IntKind.wrap .u64 ((1:Int)*2 ^ (g1.Nodes.length:Int).toNat))) (xa R R al.1 al.2)) (lI R (aB (aE (bV ?_))))))))
 obtain ⟨e1,bh,bf⟩:=bd q
 refine bD (A:=HH) bh (fun s a=>[(1,(iv F)),(2,(pt b5 0)),(5,(sc A8 r6.1 D8)),(7,(.slice a.1 a.2.1 a.2.2)),(8,(iv s.2.1)),(9,(iv s.2.2.1)),(32,(.int .u64 (IntKind.wrap .u64 ((1:Int)*2 ^ (g1.Nodes.length:Int).toNat)))),(33,(.int .u64 s.2.2.2))]) (fun s a=>OO (bF).share 23 A8 D8 r6.1::ow kT3 3 (.slice a.1 a.2.1 a.2.2) s.1::W1) (none,0,0) (aS R) (fun w s=>((s.nilo kT3 3).e 2 [1,0])) ?_
 rintro ⟨i,b,j,T⟩ ⟨U,b9,Y⟩ σ1 a3 q bc
 replace q:Z9_L1 g1 F r6 i b j T=some a3:=q
 unfold Z9_L1 at q
 refine bK 1 aD (fun (hn:b9=i.length)=>?_)
 subst hn
 refine aH (aC (lO (vp (.bool (decide (T<(IntKind.wrap .u64 ((1:Int)*2 ^ (g1.Nodes.length:Int).toNat))))) R) (aB (aE (aH ?_)))))
 rcases cF q with ⟨a9,q⟩|⟨a9,q⟩
 refine bJ R a9 (bQ (aE (aH (bB (A:=((List Int)×Int×Int)×(HH)) (fun a=>Z9_J4 T a.1.1 a.1.2.1 a.1.2.2=some a3) (fun a=>[(1,(iv F)),(2,(pt b5 0)),(5,(sc A8 r6.1 D8)),(7,(.slice a.2.1 a.2.2.1 a.2.2.2)),(8,(iv a.1.2.1)),(9,(iv a.1.2.2)),(32,(.int .u64 (IntKind.wrap .u64 ((1:Int)*2 ^ (g1.Nodes.length:Int).toNat)))),(33,(.int .u64 T))]) (fun a=>OO (bF).share 23 A8 D8 r6.1::ow kT3 3 (.slice a.2.1 a.2.2.1 a.2.2.2) a.1.1::W1) ?_ ?_))))
 refine bV (aH (aC (lI R (bG R R Dk (fun a6=>(dI 0 R R BH R R R R R (lN (aK a6 [(.int .u64 T)] 52::_::OO kT3 3 U Y i::W1) ?_)))))))
 refine aB (aE (aH (aC (lO (vp (.func (.func 30) [].toArray [(pt a6 0)].toArray) R) (lO (vp _ R) (aB (aE (aH (aH ?_)))))))))
 obtain ⟨bk,b1,q⟩:=bd q
 refine aC (lO (vz (.agg [(sc A2 g1.Nodes D2),(sc A3 g1.Outs D3)].toArray) (dA 3 oG nj R R R R)) (lO (vp _ R) (lM (RR cJ A2 D2 g1.Nodes::RR kT3 A3 D3 g1.Outs::aK _ _ _::ow _ _ _ _::ow _ _ _ _::W1) (fun w s=>(((s.d 4 R).d 6 R).e 5 [1,0,2,3,4])) ?_)))
 refine lC 3 Dl R (Z07_ok b1) R ?_
 rintro _
 refine lN (_::_::_::W1) ?_
 refine lO (ne R) (aB (aE ?_))
 rcases cF q with ⟨aa,q⟩|⟨aa,q⟩
 refine bJ R aa (eA (cE (dH ?_)))
 exact qI ((i,b,j),(U,i.length,Y)) q (fun w s=>(s.e 3 [1,2]))
 refine aY R aa (bQ (aE (aH ?_)))
 obtain ⟨l,b2,q⟩:=bd q
 refine aC (lO (vz (.agg [(sc A2 g1.Nodes D2),(sc A3 g1.Outs D3)].toArray) (dA 3 oG nj R R R R)) (lS R (lO (vp _ R) (lM (ow _ _ _ _::RR cJ A2 D2 g1.Nodes::RR kT3 A3 D3 g1.Outs::aK _ _ _::ow _ _ _ _::W1) (fun w s=>(((s.d 4 R).d 6 R).e 5 [3,1,0,2,4])) ?_))))
 refine lC 4 Dp R (FnOk.lends (A':=[OO (bF).share 23 A8 D8 r6.1]) (A:=[RR bF A8 D8 r6.1]) (B:=[RR cJ A2 D2 g1.Nodes,RR kT3 A3 D3 g1.Outs,aK a6 [(.int .u64 T)] 52]) (FnOk.perm (Zj_ok b2) (Pre':=[RR bF A8 D8 r6.1,RR cJ A2 D2 g1.Nodes,RR kT3 A3 D3 g1.Outs,aK a6 [(.int .u64 T)] 52]) (fun _ _ _ s=>(s.e 4 [1,2,0,3]))) ⟨mL,trivial⟩ (fun _=>⟨sB,trivial⟩)) R ?_
 rintro _
 refine lN (_::_::_::W1) ?_
 refine lO (vT R) (lI R (lI R (lI R (lI R (aB (aE (aH (aH (cQ [(1,(iv F)),(2,(pt b5 0)),(5,(sc A8 r6.1 D8)),(7,(sc U i Y)),(8,(iv b)),(9,(iv j)),(10,(pt a6 0)),(12,(iv l.1)),(13,(iv l.2)),(32,(.int .u64 (IntKind.wrap .u64 ((1:Int)*2 ^ (g1.Nodes.length:Int).toNat)))),(33,(.int .u64 T)),(69,(.bool ((decide (l.1>F))||((decide (b≥(0:Int)))&&((decide (l.2>j))||((l.2==j)&&(decide (l.1>b))))))))] (OO (bF).share 23 A8 D8 r6.1::OO kT3 3 U Y i::aK a6 [(.int .u64 T)] 52::W1) ?_ ?_)))))))))
 refine aC (lI R (lI R (lO (tj R R) (lB R ?_))))
 rcases bo (decide (l.1>F)) with D | D
 refine lf (cX D) (lf (cX D) (lf (cX D) (lf R (lf R (lf R (lf R (lf R (lf R (lf R (lf R (lf R (lf R (lf R (lf R (lf R (lf (cX D) (lO (fB ((decide (b≥(0:Int)))&&((decide (l.2>j))||((l.2==j)&&(decide (l.1>b))))) R D) (aB ?_))))))))))))))))))
 exact qJ (fun w s=>(s.e 3 [0,2,1]))
 refine lW (bW D) (vI R) (lW (bW D) (zP R R) (lW (bW D) (vB R) ?_))
 rcases bo (decide (b≥(0:Int))) with E | E
 refine lW (dO E) (vI R) (lW (dO E) (vI R) (lW (dO E) (tj R R) (lW (dO E) (vB R) ?_)))
 rcases bo (decide (l.2>j)) with J | J
 refine lf (cX J) (lf (cX J) (lf (cX J) (lf (cX J) (lf R (lf R (lf R (lf (cX J) (lW (dO E) (fB ((l.2==j)&&(decide (l.1>b))) R J) (lW (bW D) (iJ R E R) (lO (fG R D R) (aB ?_)))))))))))
 exact qJ (fun w s=>(s.e 3 [0,2,1]))
 refine lW (bW J) (vI R) (lW (bW J) (vI R) (lW (bW J) (kO R R) (lW (bW J) (vB R) ?_)))
 rcases bo (l.2==j) with Z | Z
 refine lW (dO Z) (vI R) (lW (dO Z) (vI R) (lW (dO Z) (tj R R) (lW (bW J) (iJ R Z R) (lW (dO E) (fG R J R) (lW (bW D) (iJ R E R) (lO (fG R D R) (aB ?_)))))))
 exact qJ (fun w s=>(s.e 3 [0,2,1]))
 refine lf (jh Z) (lf (jh Z) (lf (jh Z) (lW (bW J) (ki (decide (l.1>b)) R Z) (lW (dO E) (fG R J R) (lW (bW D) (iJ R E R) (lO (fG R D R) (aB ?_)))))))
 exact qJ (fun w s=>(s.e 3 [0,2,1]))
 refine lf (jh E) (lf (jh E) (lf (jh E) (lf (jh E) (lf R (lf R (lf R (lf R (lf R (lf R (lf R (lf R (lf (jh E) (lW (bW D) (ki ((decide (l.2>j))||((l.2==j)&&(decide (l.1>b)))) R E) (lO (fG R D R) (aB ?_)))))))))))))))
 exact qJ (fun w s=>(s.e 3 [0,2,1]))
 rintro σ1
 refine aE ?_
 rcases cF q with ⟨ab,q⟩|⟨ab,q⟩
 refine bJ R ab (eA (cE (dH ?_)))
 exact qI ((i,b,j),(U,i.length,Y)) q (fun w s=>(s.e 3 [0,1]))
 refine aY R ab (bQ (aE (aH (aC (bO (K:=kT3) (xs:=([]:List Int)) (vs:=[]) 0 R R bH cO gN R R R R R R ?_ R (fun ao av=>?_))))))
 exact fun I h s=>(gM).list [] I h s
 refine lN (OO kT3 3 ao av ([]:List Int)::_::_::_::W1) ?_
 refine lS R (aB (aE (aH (bB (A:=((List Int))×(HH)) (fun a=>Z9_J3 i b j T l a.1=some a3) (fun a=>[(1,(iv F)),(2,(pt b5 0)),(5,(sc A8 r6.1 D8)),(7,(sc U i Y)),(8,(iv b)),(9,(iv j)),(12,(iv l.1)),(13,(iv l.2)),(14,(.slice a.2.1 a.2.2.1 a.2.2.2)),(32,(.int .u64 (IntKind.wrap .u64 ((1:Int)*2 ^ (g1.Nodes.length:Int).toNat)))),(33,(.int .u64 T))]) (fun a=>OO (bF).share 23 A8 D8 r6.1::OO kT3 3 U Y i::ow kT3 3 (.slice a.2.1 a.2.2.1 a.2.2.2) a.1::W1) ?_ ?_))))
 refine aH (aC (lO (eS 3 BI R R R) (lI R (aB (aE (bV ?_))))))
 obtain ⟨e2,bi,bg⟩:=bd q
 refine bD (A:=HH) bi (fun s a=>[(1,(iv F)),(2,(pt b5 0)),(5,(sc A8 r6.1 D8)),(7,(sc U i Y)),(8,(iv b)),(9,(iv j)),(12,(iv l.1)),(13,(iv l.2)),(14,(.slice a.1 a.2.1 a.2.2)),(15,(.int .u64 s.2)),(32,(.int .u64 (IntKind.wrap .u64 ((1:Int)*2 ^ (g1.Nodes.length:Int).toNat)))),(33,(.int .u64 T))]) (fun s a=>OO (bF).share 23 A8 D8 r6.1::OO kT3 3 U Y i::ow kT3 3 (.slice a.1 a.2.1 a.2.2) s.1::W1) (ao,([]:List Int).length,av) (aS R) (fun w s=>(s.e 4 [1,2,0])) ?_
 rintro ⟨M,aj⟩ ⟨ap,ba,aw⟩ σ1 b6 q be
 replace q:Z9_L2 M aj=some b6:=q
 unfold Z9_L2 at q
 refine bK 2 aD (fun (hn:ba=M.length)=>?_)
 subst hn
 refine aH (aH (aC (lI R (lO (vp (.bool (aj != (0:Int))) R) (aB (aE ?_))))))
 rcases cF q with ⟨ac,q⟩|⟨ac,q⟩
 refine bJ R ac (bQ (aE (aH (bV ?_))))
 obtain ⟨a7,b3,q⟩:=bd q
 obtain ⟨b0,q⟩:=gd q
 refine aC (lS R (lI R (lM (gG mG::_::_::OO kT3 3 ap aw M::W1) (fun w s=>(s.dgx 6 R)) ?_)))
 refine lC 1 Dq R (Z3j_ok b3) R ?_
 rintro _
 refine lN (_::_::_::W1) ?_
 refine bO (K:=kT3) (xs:=([a7]:List Int)) (vs:=[(iv a7)]) 0 R R bH cO gN R R R R R R ?_ R (fun b7 b8=>?_)
 exact fun I h s=>(gM).list [((),a7)] I h s
 refine lN (OO kT3 3 b7 b8 ([a7]:List Int)::_::_::_::W1) ?_
 refine lM (ow _ _ _ _::ow _ _ _ _::ow _ _ _ _::ow _ _ _ _::W1) (fun w s=>(s.e 4 [3,0,1,2])) ?_
 refine eU (K:=kT3) 17592186044416 R R bH cO kE (Zr.zk zT3 gN) R R R R R R eB b0 (fun aq ax=>(lN (OO kT3 3 aq ax (M++([a7]:List Int))::_::_::W1) ?_))
 refine lS R (aB (cD (aE (aC (lI R (lI R (lO (vp (.int .u64 (IntKind.wrap .u64 (aj - (1:Int)))) R) (lO (vp (.int .u64 (bits .and .u64 aj (IntKind.wrap .u64 (aj - (1:Int))))) R) (lI R (aB ?_))))))))))
 obtain rfl:=so q
 exact qA (aq,(M++([a7]:List Int)).length,ax) (fun w s=>(s.e 3 [1,2,0]))
 refine aY R ac (eA (cE ?_))
 obtain rfl:=so q
 obtain rfl:=be _ R
 have q:=bg
 refine cE (dH ?_)
 exact qI (M,(ap,M.length,aw)) q (fun w s=>s)
 rintro ⟨G,⟨a4,bb,a5⟩⟩ σ1 q
 replace q:Z9_J3 i b j T l G=some a3:=q
 unfold Z9_J3 at q
 refine bK 2 aD (fun (hn:bb=G.length)=>?_)
 subst hn
 refine aH ?_
 obtain ⟨ak,b4,q⟩:=bd q
 refine cQ [(1,(iv F)),(2,(pt b5 0)),(5,(sc A8 r6.1 D8)),(7,(sc U i Y)),(8,(iv b)),(9,(iv j)),(12,(iv l.1)),(13,(iv l.2)),(14,(sc a4 G a5)),(32,(.int .u64 (IntKind.wrap .u64 ((1:Int)*2 ^ (g1.Nodes.length:Int).toNat)))),(33,(.int .u64 T)),(100,(.bool ((((decide (b<(0:Int)))||(decide (l.2<j)))||(decide (l.1<b)))||(decide (ak<(0:Int))))))] (OO (bF).share 23 A8 D8 r6.1::OO kT3 3 U Y i::OO kT3 3 a4 a5 G::W1) ?_ ?_
 refine aC (lI R (lO (jG R R) (lB R ?_)))
 rcases bo (decide (b<(0:Int))) with u | u
 refine lf (cX u) (lf (cX u) (lf (cX u) (lO (fB (decide (l.2<j)) R u) (lB R (lf (cX (oT u)) (lf (cX (oT u)) (lf (cX (oT u)) (lO (fB (decide (l.1<b)) R (oT u)) (lB R (lf (cX (oT (oT u))) (lf (cX (oT (oT u))) (lf (cX (oT (oT u))) (lf (cX (oT (oT u))) (lO (fB (decide (ak<(0:Int))) R (oT (oT u))) (aB ?_)))))))))))))))
 exact qJ (fun w s=>s)
 refine lW (bW u) (vI R) (lW (bW u) (vI R) (lW (bW u) (jG R R) (lO (fG R u R) (lB R ?_))))
 rcases bo ((decide (b<(0:Int)))||(decide (l.2<j))) with L | L
 refine lf (cX L) (lf (cX L) (lf (cX L) (lO (fB (decide (l.1<b)) R L) (lB R (lf (cX (oT L)) (lf (cX (oT L)) (lf (cX (oT L)) (lf (cX (oT L)) (lO (fB (decide (ak<(0:Int))) R (oT L)) (aB ?_))))))))))
 exact qJ (fun w s=>s)
 refine lW (bW L) (vI R) (lW (bW L) (vI R) (lW (bW L) (jG R R) (lO (fG R L R) (lB R ?_))))
 rcases bo (((decide (b<(0:Int)))||(decide (l.2<j)))||(decide (l.1<b))) with O | O
 refine lf (cX O) (lf (cX O) (lf (cX O) (lf (cX O) (lO (fB (decide (ak<(0:Int))) R O) (aB ?_)))))
 exact qJ (fun w s=>s)
 refine lW (bW O) (vS R) (lW (bW O) (vS R) (lM (OO kT3 3 a4 a5 G::ow _ _ _ _::ow _ _ _ _::W1) (fun w s=>(s.e 3 [2,1,0])) ?_))
 refine b' 2 R (bW O) Ds R (FnOk.lends (A':=[OO kT3 3 a4 a5 G,OO kT3 3 U Y i]) (A:=[RR kT3 a4 a5 G,RR kT3 U Y i]) (B:=[]) (Z0e_ok (bM b4 (cZ O))) ⟨aU,aU,trivial⟩ (fun _=>trivial)) R ?_
 rintro _
 refine lW (bW O) (jG R R) (lO (fG R O R) (aB ?_))
 exact qJ (fun w s=>(s.e 3 [2,1,0]))
 rintro σ1
 refine aE ?_
 rcases cF q with ⟨ae,q⟩|⟨ae,q⟩
 refine bJ R ae (aC (lS R (lI R (lI R (lS R (lI R (lI R (aB (cD ?_)))))))))
 exact qI ((G,l.1,l.2),(a4,G.length,a5)) q (fun w s=>(s.e 3 [0,2]))
 refine aY R ae (bQ (cD ?_))
 exact qI ((i,b,j),(U,i.length,Y)) q (fun w s=>(s.e 3 [0,1]))
 rintro ⟨⟨a2,ag,ai⟩,⟨am,ay,ar⟩⟩ σ1 q
 replace q:Z9_J4 T a2 ag ai=some a3:=q
 unfold Z9_J4 at q
 refine bK 1 aD (fun (hn:ay=a2.length)=>?_)
 subst hn
 refine aC (lO (vp (.int .u64 (IntKind.wrap .u64 (T+(1:Int)))) R) (lI R (aB ?_)))
 obtain rfl:=so q
 exact qA (am,a2.length,ar) (fun w s=>s)
 refine aY R a9 (eA (cE ?_))
 obtain rfl:=so q
 obtain rfl:=bc _ R
 have q:=bf
 refine cE (dH ?_)
 exact qI (i,(U,i.length,Y)) q (fun w s=>(s.e 2 [1]))
 rintro ⟨a0,⟨an,az,au⟩⟩ σ1 q
 replace q:Z9_J5 a0=some r:=q
 unfold Z9_J5 at q
 refine bK 0 aD (fun (hn:az=a0.length)=>?_)
 subst hn
 refine aH (aC (lS R (lS R (aB (aE (bY ?_))))))
 obtain rfl:=so q
 exact qF (an,a0.length,au) (fun w s=>(s.e 5 [0]))
end Go.Proofs.YtoffdamdpmeoiaaGreatDoor
