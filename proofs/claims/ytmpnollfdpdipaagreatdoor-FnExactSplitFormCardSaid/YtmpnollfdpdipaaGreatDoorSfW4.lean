import Derived.Test.YtmpnollfdpdipaaGreatDoorSfF
import Derived.Test.YtmpnollfdpdipaaGreatDoorSfW1
import Derived.Test.YtmpnollfdpdipaaGreatDoorSfW3
set_option linter.unusedVariables false
set_option maxRecDepth 20000
namespace Go.Proofs.YtmpnollfdpdipaaGreatDoor
open Go Go.Pg
variable {A5:Option Addr}{D5 N5:Nat}
theorem Z5_ok  {a2:aD}{i:aD}{n3:Int}{j:(List Tensor)}{mG:Int}{r:(List (List Tensor))×Bool}(m:Z5 a2 i n3 j=some r) :
 FnOk Tryz.prog 11 [(aA a2),(aA i),(iv n3),(.slice A5 N5 D5)] [bF kT38 (.slice A5 N5 D5) j,gl 0 mG] (fun (h:HH)=>((.tuple [(s3 h),(.bool r.2)].toArray),[ow kT27 27 (s3 h) r.1])):=by
 unfold Z5 at m
 refine aU Tryz.func11 R 126 R R fun C V=>?_
 refine cL 0 aB ?_
 rintro rfl
 let W0:=RR kT38 A5 D5 j::gl 0 mG::V
 refine cN W0 ?_
 refine eD ?_
 obtain ⟨E,e0,m⟩:=bd m
 refine aE (lO (vp (aA a2) R) (lO (vp (aA i) R) (lM _ (fun w s=>(s.dg 1 R)) ?_)))
 refine lC 1 uU R (Z0r_ok e0) R ?_
 rintro ⟨A8,N8,D8⟩
 refine aX 0 aB ?_
 rintro rfl
 refine lO (vT R) (lS R (lO (vp (aA E.2.1) R) (lB R (lS R (lO (vp (aA E.2.1) R) ?_)))))
 refine cV ?_
 obtain ⟨r9,d2,m⟩:=bd m
 obtain ⟨e4,d3,m⟩:=bd m
 refine cQ [(0,(aA a2)),(1,(aA i)),(2,(iv n3)),(3,(sc A5 j D5)),(10,(sc A8 E.1 D8)),(42,(.bool (((!E.2.2)||(!r9))||(!e4))))] (RR bI A8 D8 E.1::W0) ?_ ?_
 refine bN ?_
 rcases bo (!E.2.2) with ax | ax
 refine fD ?_
 exact qj tI
 refine bS ?_
 refine bZ 0 R (cI ax) uW R (Z0t_ok (cB d2 (dI ax))) R ?_
 rintro _
 refine aR ?_
 rcases bo ((!E.2.2)||(!r9)) with ay | ay
 refine cV ?_
 exact qj tI
 refine bS ?_
 refine lM _ (fun w s=>(s.d 1 R)) ?_
 refine bZ 1 R (cI ay) uX R (Z02_ok (cB d3 (dI ay))) R ?_
 rintro _
 refine aR ?_
 exact qj tI
 rintro σ1
 refine bS ?_
 split at m
 refine cS ?_
 cases m
 exact pD (none,0,0) (fun w s=>((s.nilo kT27 27).e 4 [0]))
 refine bN ?_
 obtain ⟨ep,d4,m⟩:=bd m
 obtain ⟨T,d5,m⟩:=bd m
 refine aE (lO (vp (aA a2) R) (lS R (lM _ (fun w s=>(s.d 1 R)) ?_)))
 refine lC 1 uZ R (Z0s_ok d4) R ?_
 rintro ⟨eg,ei,eh⟩
 refine aX 0 eM ?_
 rintro rfl
 refine kK (fun w s=>s.shs 0 R) (lM _ (fun w s=>(((s.d 0 R).dg 4 R).e 4 [1,0,2,3])) ?_)
 refine lC 2 u' R (Z3_ok d5) R ?_
 rintro ⟨⟨db,ej,di⟩,⟨dc,ek,dj⟩,⟨dd,el,dk⟩,⟨de,em,dl⟩,⟨df,en,dm⟩⟩
 refine aX 0 aB ?_
 rintro rfl
 refine aX 1 aB ?_
 rintro rfl
 refine aX 2 aC ?_
 rintro rfl
 refine aX 3 aC ?_
 rintro rfl
 refine aX 4 aC ?_
 rintro rfl
 refine lO (vT R) (lO (vA R) (lB R (bO R R jy (fun dq=>(aQ 0 R R gy R R R R R R (lN (aV dq [(sc db T.1.groups di),(aA T.1.out_),(aA T.1.order),(sc dc T.1.loops dj),(sc dd T.1.dims dk),(sc de T.1.steps dl),(sc df T.1.store dm)] 86::_::_::_::_::_::_::_::W0) ?_))))))
 refine fD ?_
 split at m
 refine cS ?_
 cases m
 exact pD (none,0,0) (fun w s=>((s.nilo kT27 27).e 11 [0]))
 refine bN ?_
 obtain ⟨b3,d6,m⟩:=bd m
 obtain ⟨d0,m⟩:=gd m
 refine bU 2 aB (show 0<T.1.loops.length by have:=d0; omega) (fun eo o32 ha=>?_)
 subst ha
 refine eF 9 [] b' fun ht F=>?_
 refine rZ 0 [] ?_
 refine dR 4 R (vp (aA i) R) (d1 5 R (lM _ (fun w s=>(s.dg 9 R)) ?_))
 refine lC 1 qU R (Z08_ok d6) R ?_
 rintro _
 refine aG (aJ (sL []) ?_)
 refine i6 6 [] ?_
 refine dD ?_
 refine cS ?_
 split at m
 refine cS ?_
 cases m
 exact pD (none,0,0) (fun w s=>((s.nilo kT27 27).e 11 [0]))
 refine cV ?_
 refine bV (K:=kT27) (xs:=([]:List (List Tensor))) (vs:=[]) 0 R R kl km kS R R R R R R ?_ R (fun dh dn=>?_)
 exact fun I h s=>(n8).list [] I h s
 refine bN ?_
 refine aW (A:=((List (List Tensor)))×(HH)) (fun a=>Z5_J7 a.1=some r) (fun a=>[(15,(s3 a.2))]) (fun a=>ow kT27 27 (s3 a.2) a.1::W0) ?_ ?_
 refine eD ?_
 obtain ⟨e1,dx,du⟩:=bd m
 refine aP (A:=HH×HH×HH) dx (fun s a=>[(1,(aA i)),(2,(iv n3)),(3,(s3 a.1)),(10,(s3 a.2.1)),(14,(iv (ix T.1.loops b3))),(15,(s3 a.2.2)),(64,(iv n3)),(65,(iv s.2))]) (fun s a=>bF kT38 (s3 a.1) j::bF bI (s3 a.2.1) E.1::ow kT27 27 (s3 a.2.2) s.1::W0) ((A5,j.length,D5),(A8,E.1.length,D8),(dh,([]:List (List Tensor)).length,dn)) (aS R) (fun w s=>((s.d 9 R).e 10 [0,9,1])) ?_
 rintro ⟨D,al⟩ ⟨⟨c2,ck,cb⟩,⟨c3,cm,cc⟩,⟨G,cn,J⟩⟩ σ1 d7 m dr
 dsimp only [Z5_L1] at m
 refine aY 0 aB (fun (F:ck=j.length)=>?_)
 subst F
 refine aY 1 aB (fun (F:cm=E.1.length)=>?_)
 subst F
 refine aY 2 aC (fun (F:cn=D.length)=>?_)
 subst F
 refine bJ ?_
 split at m
 refine iS ?_
 obtain ⟨b1,bv,m⟩:=bd m
 obtain ⟨b2,bw,m⟩:=bd m
 refine bN ?_
 refine lC 0 tz R (Z0g_ok bv) R ?_
 rintro _
 refine bN ?_
 refine lC 0 tz R (Z0g_ok bw) R ?_
 rintro _
 refine bJ ?_
 refine bV (K:=kT38) (xs:=([]:List Tensor)) (vs:=[]) 0 R R iA cP dL R R R R R R ?_ R (fun c4 cf=>?_)
 exact fun I h s=>(me).list [] I h s
 refine bN ?_
 refine aW (A:=((List Tensor))×(HH×HH×HH)) (fun a=>Z5_J6 D al a.1=some d7) (fun a=>[(1,(aA i)),(2,(iv n3)),(3,(s3 a.2.1)),(10,(s3 a.2.2.1)),(14,(iv (ix T.1.loops b3))),(15,(sc G D J)),(19,(s3 a.2.2.2)),(64,(iv n3)),(65,(iv al))]) (fun a=>bF kT38 (s3 a.2.1) j::bF bI (s3 a.2.2.1) E.1::OO kT27 27 G J D::ow kT38 38 (s3 a.2.2.2) a.1::W0) ?_ ?_
 refine dO ?_
 obtain ⟨e2,dy,dv⟩:=bd m
 refine aP (A:=HH×HH×HH) dy (fun s a=>[(1,(aA i)),(2,(iv n3)),(3,(s3 a.1)),(10,(s3 a.2.1)),(14,(iv (ix T.1.loops b3))),(15,(sc G D J)),(17,(iv b1)),(18,(iv b2)),(19,(s3 a.2.2)),(64,(iv n3)),(65,(iv al)),(78,(s3 a.1)),(79,(il j)),(80,(iv s.2))]) (fun s a=>bF kT38 (s3 a.1) j::bF bI (s3 a.2.1) E.1::OO kT27 27 G J D::ow kT38 38 (s3 a.2.2) s.1::W0) ((c2,j.length,cb),(c3,E.1.length,cc),(c4,([]:List Tensor).length,cf)) (aS R) (tE 4 [1,2,3,0]) ?_
 rintro ⟨q,g⟩ ⟨⟨c5,co,Y⟩,⟨c6,cp,ag⟩,⟨ae,cq,ah⟩⟩ σ1 d8 m ds
 dsimp only [Z5_L2] at m
 refine aY 0 aB (fun (F:co=j.length)=>?_)
 subst F
 refine aY 1 aB (fun (F:cp=E.1.length)=>?_)
 subst F
 refine aY 3 aC (fun (F:cq=q.length)=>?_)
 subst F
 refine bJ ?_
 split at m
 refine bJ ?_
 obtain ⟨an,m⟩:=gd m
 refine bD ?_
 refine aZ 0 aB (show 0<j.length by have:=an; omega) (fun a3 o263 ha=>?_)
 subst ha
 refine bS ?_
 refine eH (K:=kT38) 0 g dT38.dec R an.1 an.2 ?_
 rintro ⟨⟨a5,a8⟩,⟨U,Z⟩⟩
 refine lO (vz (.agg [(sc a5 ((ix j g).Dims) a8),(sc U ((ix j g).Data) Z)].toArray) (fB (fo:=0) 0 hW cP R R R R)) (bO R R dL (fun ai=>(lI R (aQ 0 R R cP R R R R R R (lN (aV ai [(sc a5 ((ix j g).Dims) a8),(sc U ((ix j g).Data) Z)] 38::_::_::_::_::_::_::_::W0) ?_)))))
 refine aR ?_
 obtain ⟨ab,bz,m⟩:=bd m
 refine aR ?_
 refine lM _ (fun w s=>(s.d 2 R)) ?_
 refine lC 1 v6 R (Z0q_ok bz) R ?_
 rintro ⟨⟨b6,e9,bg⟩,⟨b7,ea,bh⟩⟩
 refine aX 0 aC ?_
 rintro rfl
 refine aX 1 aC ?_
 rintro rfl
 refine bO R R gO (fun a1=>(aQ 0 R R hB R R R R R R (lN (aV a1 [(sc b6 ab.Dims bg),(sc b7 ab.Strides bh),(iv ab.Offset),(iv ab.Base)] 47::_::_::_::_::_::_::_::_::_::_::W0) ?_)))
 refine aR ?_
 refine aW (A:=((List Int)×(List Int)×Int×Int)×(HH×HH×HH)) (fun a=>Z5_J5 j q g a.1.1 a.1.2.1 a.1.2.2.1 a.1.2.2.2=some d8) (fun a=>[(1,(aA i)),(2,(iv n3)),(3,(sc (ad a3 o263) j Y)),(10,(s3 a.2.1)),(14,(iv (ix T.1.loops b3))),(15,(sc G D J)),(17,(iv b1)),(18,(iv b2)),(19,(sc ae q ah)),(21,(pt ai 0)),(22,(pt a1 0)),(64,(iv n3)),(65,(iv al)),(78,(sc (ad a3 o263) j Y)),(79,(il j)),(80,(iv g))]) (fun a=>RR kT38 (ad a3 o263) Y j::bF bI (s3 a.2.1) E.1::OO kT27 27 G J D::OO kT38 38 ae ah q::aV ai [(sc a5 ((ix j g).Dims) a8),(sc U ((ix j g).Data) Z)] 38::RR kT3 a5 a8 ((ix j g).Dims)::RR kT3 U Z ((ix j g).Data)::aV a1 [(s3 a.2.2.1),(s3 a.2.2.2),(iv a.1.2.2.1),(iv a.1.2.2.2)] 47::ow kT3 3 (s3 a.2.2.1) a.1.1::ow kT3 3 (s3 a.2.2.2) a.1.2.1::W0) ?_ ?_
 refine bS ?_
 obtain ⟨a4,m⟩:=gd m
 refine aR ?_
 refine aZ 8 aB (show 0<E.1.length by have:=a4; omega) (fun ao o274 ha=>?_)
 subst ha
 refine bS ?_
 refine lO (vz (aA (ix E.1 g)) (eE (K:=bI) (fo:=0) (pr:=fun x=>(aA x)) 8 g jx (dT9.leaf fun _ _=>R) aB R a4.1 a4.2)) (lx R R cR R (fun av=>(aG (aH (dY ?_)))))
 obtain ⟨e3,dz,dw⟩:=bd m
 refine aP (A:=HH×HH) dz (fun s a=>[(1,(aA i)),(2,(iv n3)),(3,(sc (ad a3 o263) j Y)),(10,(sc (ad ao o274) E.1 ag)),(14,(iv (ix T.1.loops b3))),(15,(sc G D J)),(17,(iv b1)),(18,(iv b2)),(19,(sc ae q ah)),(20,(iv g)),(21,(pt ai 0)),(22,(pt a1 0)),(64,(iv n3)),(65,(iv al)),(78,(sc (ad a3 o263) j Y)),(79,(il j)),(80,(iv g)),(92,(pt av 0))]) (fun s a=>RR kT38 (ad a3 o263) Y j::RR bI (ad ao o274) ag E.1::OO kT27 27 G J D::OO kT38 38 ae ah q::aV ai [(sc a5 ((ix j g).Dims) a8),(sc U ((ix j g).Data) Z)] 38::RR kT3 a5 a8 ((ix j g).Dims)::RR kT3 U Z ((ix j g).Data)::aV a1 [(s3 a.1),(s3 a.2),(iv s.2.2.1),(iv s.2.2.2.1)] 47::ow kT3 3 (s3 a.1) s.1::ow kT3 3 (s3 a.2) s.2.1::oA av (ix E.1 g) s.2.2.2.2::W0) ((b6,ab.Dims.length,bg),(b7,ab.Strides.length,bh)) (aS R) (fun w s=>(s.f 12 [8,4,4,1,6,2,1,3,0,1])) ?_
 rintro ⟨M,O,b4,b5,am⟩ ⟨⟨a6,cr,a9⟩,⟨a7,cs,aa⟩⟩ σ1 ef m dt
 dsimp only [Z5_L3] at m
 refine aY 8 aC (fun (F:cr=M.length)=>?_)
 subst F
 refine aY 9 aC (fun (F:cs=O.length)=>?_)
 subst F
 refine bS ?_
 obtain ⟨br,m⟩:=gd m
 refine aE (n6 10 R R R R br (lN (_::RR bI (ad ao o274) ag E.1::_::_::_::_::_::aV a1 [(sc a6 M a9),(sc a7 O aa),(iv b4),(iv b5)] 47::OO kT3 3 a6 a9 M::OO kT3 3 a7 aa O::oA av (ix E.1 g) (nk (ix E.1 g) am)::W0) ?_))
 refine lO (vz (.bool (decide (am<((ix E.1 g).length:Int)))) (pF R)) ?_
 refine aR ?_
 rcases eJ m with ⟨aw,m⟩|⟨aw,m⟩
 refine bJ ?_
 refine lO (vz (iv am) (sK R aw)) ?_
 refine bN ?_
 obtain ⟨az,m⟩:=gd m
 obtain ⟨b0,m⟩:=gd m
 refine eF 9 [] b' fun ht F=>?_
 refine i6 0 [] ?_
 refine dR 3 R (vz (aA (ix E.1 g)) (eE (K:=bI) (fo:=0) (pr:=fun x=>(aA x)) 1 g jx (dT9.leaf fun _ _=>R) aB R a4.1 a4.2)) (dR 4 R (vI R) (dR 5 R (vz (.int .u8 (bt (ix E.1 g) am)) (bA cR R R az.1 az.2)) (dR 6 R (vp (aA i) R) (dR 7 R (vz (.int .u8 (bt i 0)) (bA cR R R b0.1 b0.2)) (dR 8 R (vp (.bool ((bt (ix E.1 g) am)==(bt i 0))) R) (dD (aH ?_)))))))
 split at m
 refine bS ?_
 obtain ⟨ac,c0,m⟩:=bd m
 refine eD ?_
 refine lM _ (fun w s=>(s.f 11 [8,2,0,8,10,1])) ?_
 refine lC 2 va R (FnOk.lends (A':=[OO kT3 3 a6 a9 M,OO kT3 3 a7 aa O]) (A:=[RR kT3 a6 a9 M,RR kT3 a7 aa O]) (B:=[]) (Z0j_ok (v1:=(⟨M,O,b4,b5⟩:View)) c0) ⟨bB,bB,trivial⟩ (fun _=>⟨(bP jT),(bP jT),trivial⟩)) R ?_
 rintro ⟨⟨b8,eb,bi⟩,⟨b9,ec,bj⟩⟩
 refine aX 2 aC ?_
 rintro rfl
 refine aX 3 aC ?_
 rintro rfl
 refine aQ 11 R R hB R R R R R R (lN (_::_::_::_::_::_::_::_::_::_::_::aV a1 [(sc b8 ac.Dims bi),(sc b9 ac.Strides bj),(iv ac.Offset),(iv ac.Base)] 47::_::W0) ?_)
 refine bD ?_
 cases m
 exact qA ((b8,ac.Dims.length,bi),(b9,ac.Strides.length,bj)) (fun w s=>(s.f 13 [4,8,2,2,12,1]))
 refine aR ?_
 cases m
 exact qA ((a6,M.length,a9),(a7,O.length,aa)) tI
 refine aR ?_
 cases m
 obtain rfl:=dt _ R
 have m:=dw
 refine bD ?_
 exact qI ((M,O,b4,b5),(((ad ao o274),E.1.length,ag),(a6,M.length,a9),(a7,O.length,aa))) m (fun w s=>(s.f 11 [0,10]))
 rintro ⟨⟨aj,ak,d9,da⟩,⟨⟨c7,ct,cg⟩,⟨ap,cu,ar⟩,⟨aq,cv,au⟩⟩⟩ σ1 m
 dsimp only [Z5_J5] at m
 refine aY 1 aB (fun (F:ct=E.1.length)=>?_)
 subst F
 refine aY 8 aC (fun (F:cu=aj.length)=>?_)
 subst F
 refine aY 9 aC (fun (F:cv=ak.length)=>?_)
 subst F
 obtain ⟨a0,c1,m⟩:=bd m
 obtain ⟨bs,m⟩:=gd m
 refine cV ?_
 refine lM _ (fun w s=>((s.d 6 R).f 11 [9,2,0,9])) ?_
 refine lC 3 vc R (FnOk.lends (A':=[OO kT3 3 ap ar aj,OO kT3 3 aq au ak]) (A:=[RR kT3 ap ar aj,RR kT3 aq au ak]) (B:=[RR kT3 U Z ((ix j g).Data)]) (FnOk.perm (Z0l_ok (v3:=(⟨aj,ak,d9,da⟩:View)) c1) (Pre':=[RR kT3 ap ar aj,RR kT3 aq au ak,RR kT3 U Z ((ix j g).Data)]) (fun _ _ _ s=>(s.e 3 [2,0,1]))) ⟨bB,bB,trivial⟩ (fun _=>⟨(bP jT),(bP jT),trivial⟩)) R ?_
 rintro ⟨⟨ba,ed,bk⟩,⟨bb,ee,bl⟩⟩
 refine aX 2 aC ?_
 rintro rfl
 refine aX 3 aC ?_
 rintro rfl
 refine lM _ (fun w s=>(s.f 12 [2,2,0,2,4,8])) ?_
 refine bV (K:=kT38) (xs:=([a0]:List Tensor)) (vs:=[(.agg [(sc ba a0.Dims bk),(sc bb a0.Data bl)].toArray)]) 2 R R iA cP dL R R R R R R ?_ R (fun e5 e7=>?_)
 exact fun I h s=>(me).list [(((sc ba a0.Dims bk),(sc bb a0.Data bl)),a0)] I h s
 refine lM _ (fun w s=>(s.f 11 [6,1,0,6,7,4])) ?_
 refine fp (K:=kT38) 2932031007402 R R iA cP qP (Zr.zk zT38 dL) R R R R R R eI bs (fun bc bm=>(lN (OO kT38 38 bc bm (q++([a0]:List Tensor))::_::_::_::_::_::_::_::_::_::W0) ?_))
 refine dO ?_
 cases m
 exact qA (((ad a3 o263),j.length,Y),(c7,E.1.length,cg),(bc,(q++([a0]:List Tensor)).length,bm)) (tE 10 [3,4,5,0])
 refine aR ?_
 cases m
 obtain rfl:=ds _ R
 have m:=dv
 refine bD ?_
 exact qI (q,((c5,j.length,Y),(c6,E.1.length,ag),(ae,q.length,ah))) m tI
 rintro ⟨u,⟨⟨c8,cw,ch⟩,⟨c9,cx,ci⟩,⟨be,cy,bn⟩⟩⟩ σ1 m
 dsimp only [Z5_J6] at m
 refine aY 0 aB (fun (F:cw=j.length)=>?_)
 subst F
 refine aY 1 aB (fun (F:cx=E.1.length)=>?_)
 subst F
 refine aY 3 aC (fun (F:cy=u.length)=>?_)
 subst F
 obtain ⟨bu,m⟩:=gd m
 refine aR ?_
 refine lM _ (tE 4 [3,0,1,2]) ?_
 refine bV (K:=kT27) (xs:=([u]:List (List Tensor))) (vs:=[(sc be u bn)]) 1 R R kl km kS R R R R R R ?_ R (fun e6 e8=>?_)
 exact fun I h s=>(n8).list [((sc be u bn),u)] I h s
 refine lM _ (tE 4 [3,0,1,2]) ?_
 refine fp (K:=kT27) 5864062014805 R R kl km tc (Zr.zk sS kS) R R R R R R eI bu (fun bf bp=>(lN (OO kT27 27 bf bp (D++([u]:List (List Tensor)))::_::_::W0) ?_))
 refine dO ?_
 cases m
 exact qA ((c8,j.length,ch),(c9,E.1.length,ci),(bf,(D++([u]:List (List Tensor))).length,bp)) (tE 3 [1,2,0])
 refine aR ?_
 cases m
 obtain rfl:=dr _ R
 have m:=du
 refine bD ?_
 exact qI (D,(G,D.length,J)) m (tE 3 [2])
 rintro ⟨bq,⟨ca,cz,cj⟩⟩ σ1 m
 dsimp only [Z5_J7] at m
 refine aY 0 aC (fun (F:cz=bq.length)=>?_)
 subst F
 refine dO ?_
 cases m
 exact pD (ca,bq.length,cj) (tE 3 [0])
end Go.Proofs.YtmpnollfdpdipaaGreatDoor
