import Derived.Test.YtmpnollfdpdipaaGreatGkW3
set_option linter.unusedVariables false
set_option maxRecDepth 20000
namespace Go.Proofs.YtmpnollfdpdipaaGreat
open Go Go.Pg
variable {A2 A3 A4 A5 A6 A8:Option Addr}{D2 D3 D4 D5 D6 D8 N2 N3 N4 N5 N6 N8:Nat}
theorem Z8_ok  {g1:Graph}{inputs4:(List Tensor)}{blank6:Bool}{r:(List Tensor)×Bool}(hr:Z8 g1 inputs4 blank6=some r) :
 FnOk Tryz.prog 34 [(.agg [(.slice A2 N2 D2),(.slice A3 N3 D3)].toArray),(.slice A5 N5 D5),(.bool blank6)] [rds kT54 (.slice A2 N2 D2) g1.Nodes,rds kT3 (.slice A3 N3 D3) g1.Outs,rds kT58 (.slice A5 N5 D5) inputs4] (fun (h:HH)=>((.tuple [(s3 h),(.bool r.2)].toArray),[ow (kT58).share 58 (s3 h) r.1])):=by
 unfold Z8 at hr
 refine fn_ok Tryz.func34 R 143 R R fun C V=>?_
 refine cN (_::_::_::V) ?_
 refine cL 0 sees_rd ?_
 rintro rfl
 refine cL 1 sees_rd ?_
 rintro rfl
 refine cL 2 sees_rd ?_
 rintro rfl
 let W0:List HP:=RR kT54 A2 D2 g1.Nodes::RR kT3 A3 D3 g1.Outs::RR kT58 A5 D5 inputs4::V
 refine cN W0 ?_
 refine o_2 ?_
 refine lBx R fun b7=>?_
 refine o_3 ?_
 let W1:List HP:=bxl b7 [(sc A2 g1.Nodes D2),(sc A3 g1.Outs D3)] 30::W0
 refine qN W1 ?_
 refine o_3 ?_
 refine l_build (K:=kT58) (xs:=([]:List Tensor)) (vs:=[]) 0 R R sl46 sz58 zc58 R R R R R R ?_ R (fun A8 D8=>?_)
 exact fun I h s=>(mO58).list [] I h s
 refine lN (OO kT58 58 A8 D8 ([]:List Tensor)::W1) ?_
 refine o_5 ?_
 refine cQ [(1,(sc A5 inputs4 D5)),(2,(.bool blank6)),(3,(pt b7 0)),(8,(sc A8 ([]:List Tensor) D8)),(25,(.bool ((decide ((g1.Nodes.length:Int)>(200:Int)))||(decide ((g1.Outs.length:Int)>(40:Int))))))] (OO kT58 58 A8 D8 ([]:List Tensor)::W1) ?_ ?_
 refine o_6 ?_
 rcases bo (decide ((g1.Nodes.length:Int)>(200:Int))) with hc9 | hc9
 refine o_6 ?_
 exact qj tI
 refine o_6 ?_
 exact qj tI
 rintro σ1
 refine o_1 ?_
 rcases bif_ hr with ⟨_,hr⟩|⟨_,hr⟩
 refine o_10 ?_
 obtain rfl:=so hr
 exact qT2 (A8,([]:List Tensor).length,D8) (fun w s=>((s.wk 0 R).e 5 [0]))
 refine o_9 ?_
 refine c_cut (A:=((List Tensor)×Int)×(HH)) (fun a=>Z8_J5 g1 inputs4 blank6 a.1.1 a.1.2=some r) (fun a=>[(1,(sc A5 inputs4 D5)),(2,(.bool blank6)),(3,(pt b7 0)),(8,(s3 a.2)),(9,(iv a.1.2))]) (fun a=>ow (kT58).share 58 (s3 a.2) a.1.1::W1) ?_ ?_
 refine o_6 ?_
 obtain ⟨e1,hl1,hk1⟩:=bd hr
 refine c_loop (A:=HH) hl1 (fun s a=>[(1,(sc A5 inputs4 D5)),(2,(.bool blank6)),(3,(pt b7 0)),(8,(s3 a)),(9,(iv s.2.1)),(10,(iv s.2.2))]) (fun s a=>ow (kT58).share 58 (s3 a) s.1::W1) (A8,([]:List Tensor).length,D8) (aS R) (fun w s=>(s.wk 0 R)) ?_
 rintro ⟨x103,x105,k106⟩ ⟨A104,N104,D104⟩ σ1 out1 hr he1
 dsimp only [Z8_L1] at hr
 refine c_len 0 sees_sh (fun (hn:N104=x103.length)=>?_)
 subst hn
 refine o_10 ?_
 rcases bif_ hr with ⟨_,hr⟩|⟨_,hr⟩
 refine o_6 ?_
 obtain ⟨hg108,hr⟩:=gd hr
 refine o_4 ?_
 refine t_some 2 sees_rd (show 0<g1.Nodes.length by have:=hg108; omega) (fun g109 o110 ha=>?_)
 subst ha
 refine o_1 ?_
 refine t_elem (K:=kT54) 2 k106 dT54.dec R hg108.1 hg108.2 ?_
 rintro ⟨-,⟨A111,D111⟩,⟨A112,D112⟩,⟨A113,D113⟩,-,⟨A114,D114⟩⟩
 refine lN (cl g109 (o110+k106.toNat*6) [(iv (ix g1.Nodes k106).Op),(sc A111 ((ix g1.Nodes k106).Args) D111),(sc A112 ((ix g1.Nodes k106).Dims) D112),(sc A113 ((ix g1.Nodes k106).Ints) D113),(vstr (ix g1.Nodes k106).Form),(sc A114 ((ix g1.Nodes k106).Data) D114)]::RR kT3 A111 D111 ((ix g1.Nodes k106).Args)::RR kT3 A112 D112 ((ix g1.Nodes k106).Dims)::RR kT3 A113 D113 ((ix g1.Nodes k106).Ints)::RR kT3 A114 D114 ((ix g1.Nodes k106).Data)::OO (kT58).share 58 A104 D104 x103::W1) ?_
 refine lO (vz (.agg [(iv (ix g1.Nodes k106).Op),(sc A111 ((ix g1.Nodes k106).Args) D111),(sc A112 ((ix g1.Nodes k106).Dims) D112),(sc A113 ((ix g1.Nodes k106).Ints) D113),(vstr (ix g1.Nodes k106).Form),(sc A114 ((ix g1.Nodes k106).Data) D114)].toArray) (v_clfs (fo:=0) 0 ag54 sz54 R R R R)) (l_alloc R R zc54 (fun b115=>(l_stores 0 R R sz54 R R R R R R (lN (bxl b115 [(iv (ix g1.Nodes k106).Op),(sc A111 ((ix g1.Nodes k106).Args) D111),(sc A112 ((ix g1.Nodes k106).Dims) D112),(sc A113 ((ix g1.Nodes k106).Ints) D113),(vstr (ix g1.Nodes k106).Form),(sc A114 ((ix g1.Nodes k106).Data) D114)] 54::_::_::_::_::_::_::W1) ?_))))
 refine o_4 ?_
 obtain ⟨r116,hx117,hr⟩:=bd hr
 obtain ⟨r118,hx119,hr⟩:=bd hr
 refine cQ [(1,(sc A5 inputs4 D5)),(2,(.bool blank6)),(3,(pt b7 0)),(8,(sc A104 x103 D104)),(9,(iv x105)),(10,(iv k106)),(11,(pt b115 0)),(48,(.bool ((!r116)||(!r118))))] (OO (kT58).share 58 A104 D104 x103::bxl b115 [(iv (ix g1.Nodes k106).Op),(sc A111 ((ix g1.Nodes k106).Args) D111),(sc A112 ((ix g1.Nodes k106).Dims) D112),(sc A113 ((ix g1.Nodes k106).Ints) D113),(vstr (ix g1.Nodes k106).Form),(sc A114 ((ix g1.Nodes k106).Data) D114)] 54::RR kT3 A111 D111 ((ix g1.Nodes k106).Args)::RR kT3 A112 D112 ((ix g1.Nodes k106).Dims)::RR kT3 A113 D113 ((ix g1.Nodes k106).Ints)::RR kT3 A114 D114 ((ix g1.Nodes k106).Data)::W1) ?_ ?_
 refine o_2 ?_
 refine lM (rds _ _ _::rds _ _ _::rds _ _ _::rds _ _ _::bxl _ _ _::cl _ _ _::rds _ _ _::rds _ _ _::rds _ _ _::rds _ _ _::ow _ _ _ _::W1) (fun w s=>(((((s.d 2 R).d 4 R).d 6 R).d 8 R).f 11 [3,1,2,1,1,1,0,1,4,7])) ?_
 refine lC 4 cb51 R (Z0y_ok hx117) R ?_
 rintro _
 refine lN (_::_::_::_::_::_::_::W1) ?_
 refine o_2 ?_
 rcases bo (!r116) with hc120 | hc120
 refine o_7 ?_
 exact qj (tE 7 [6,0,2,3,4,5])
 refine o_3 ?_
 refine lM (_::_::_::_::_::_::_::_::W1) (fun w s=>(s.d 2 R)) ?_
 refine l_calln 1 R (wnF hc120) cb52 R (Z0d_ok (gcall_t hx119 (not_ff hc120))) R ?_
 rintro _
 refine lN (_::_::_::_::_::_::_::W1) ?_
 refine o_3 ?_
 exact qj (tE 7 [6,0,2,3,4,5])
 rintro σ1
 refine o_1 ?_
 rcases bif_ hr with ⟨_,hr⟩|⟨_,hr⟩
 refine o_12 ?_
 obtain rfl:=so hr
 obtain rfl:=he1 _ R
 have hr:=hk1
 refine o_3 ?_
 obtain rfl:=so hr
 exact qT2 (A104,x103.length,D104) (tE 10 [0])
 refine o_5 ?_
 refine l_build (K:=kT58) (xs:=([]:List Tensor)) (vs:=[]) 0 R R sl46 sz58 zc58 R R R R R R ?_ R (fun A122 D122=>?_)
 exact fun I h s=>(mO58).list [] I h s
 refine lN (OO kT58 58 A122 D122 ([]:List Tensor)::_::_::_::_::_::_::W1) ?_
 refine o_4 ?_
 refine c_cut (A:=((List Tensor))×(HH)) (fun a=>Z8_J3 g1 inputs4 blank6 x103 x105 k106 a.1=some out1) (fun a=>[(1,(sc A5 inputs4 D5)),(2,(.bool blank6)),(3,(pt b7 0)),(8,(sc A104 x103 D104)),(9,(iv x105)),(10,(iv k106)),(11,(pt b115 0)),(12,(s3 a.2))]) (fun a=>OO (kT58).share 58 A104 D104 x103::bxl b115 [(iv (ix g1.Nodes k106).Op),(sc A111 ((ix g1.Nodes k106).Args) D111),(sc A112 ((ix g1.Nodes k106).Dims) D112),(sc A113 ((ix g1.Nodes k106).Ints) D113),(vstr (ix g1.Nodes k106).Form),(sc A114 ((ix g1.Nodes k106).Data) D114)] 54::RR kT3 A111 D111 ((ix g1.Nodes k106).Args)::RR kT3 A112 D112 ((ix g1.Nodes k106).Dims)::RR kT3 A113 D113 ((ix g1.Nodes k106).Ints)::RR kT3 A114 D114 ((ix g1.Nodes k106).Data)::ow (kT58).share 58 (s3 a.2) a.1::W1) ?_ ?_
 refine o_6 ?_
 obtain ⟨e2,hl2,hk2⟩:=bd hr
 refine c_loop (A:=HH) hl2 (fun s a=>[(1,(sc A5 inputs4 D5)),(2,(.bool blank6)),(3,(pt b7 0)),(8,(sc A104 x103 D104)),(9,(iv x105)),(10,(iv k106)),(11,(pt b115 0)),(12,(s3 a)),(13,(iv s.2))]) (fun s a=>OO (kT58).share 58 A104 D104 x103::bxl b115 [(iv (ix g1.Nodes k106).Op),(sc A111 ((ix g1.Nodes k106).Args) D111),(sc A112 ((ix g1.Nodes k106).Dims) D112),(sc A113 ((ix g1.Nodes k106).Ints) D113),(vstr (ix g1.Nodes k106).Form),(sc A114 ((ix g1.Nodes k106).Data) D114)] 54::RR kT3 A111 D111 ((ix g1.Nodes k106).Args)::RR kT3 A112 D112 ((ix g1.Nodes k106).Dims)::RR kT3 A113 D113 ((ix g1.Nodes k106).Ints)::RR kT3 A114 D114 ((ix g1.Nodes k106).Data)::ow (kT58).share 58 (s3 a) s.1::W1) (A122,([]:List Tensor).length,D122) (aS R) (fun w s=>((s.wk 0 R).f 7 [1,6,0,1])) ?_
 rintro ⟨a135,j137⟩ ⟨A136,N136,D136⟩ σ1 out2 hr he2
 dsimp only [Z8_L2] at hr
 refine c_len 6 sees_sh (fun (hn:N136=a135.length)=>?_)
 subst hn
 refine o_10 ?_
 rcases bif_ hr with ⟨_,hr⟩|⟨_,hr⟩
 refine o_5 ?_
 obtain ⟨hg139,hr⟩:=gd hr
 obtain ⟨hg142,hr⟩:=gd hr
 obtain ⟨hg148,hr⟩:=gd hr
 refine o_6 ?_
 refine t_some 2 sees_rd (show 0<((ix g1.Nodes k106).Args).length by have:=hg139; omega) (fun g140 o141 ha=>?_)
 subst ha
 refine o_2 ?_
 refine t_some 0 sees_sh (show 0<x103.length by have:=hg142; omega) (fun g143 o144 ha=>?_)
 subst ha
 refine o_1 ?_
 refine l_ldo (K:=(kT58).share) 0 (ix ((ix g1.Nodes k106).Args) j137) R R ag58 sz58 dT58.own R R hg142.1 hg142.2 ?_
 rintro ⟨⟨A145,D145⟩,⟨A146,D146⟩⟩
 refine lN (RR kT3 A145 D145 ((ix x103 (ix ((ix g1.Nodes k106).Args) j137)).Dims)::RR kT3 A146 D146 ((ix x103 (ix ((ix g1.Nodes k106).Args) j137)).Data)::OO (kT58).share 58 (ad g143 o144) D104 x103::bxl b115 [(iv (ix g1.Nodes k106).Op),(sc (ad g140 o141) ((ix g1.Nodes k106).Args) D111),(sc A112 ((ix g1.Nodes k106).Dims) D112),(sc A113 ((ix g1.Nodes k106).Ints) D113),(vstr (ix g1.Nodes k106).Form),(sc A114 ((ix g1.Nodes k106).Data) D114)] 54::RR kT3 (ad g140 o141) D111 ((ix g1.Nodes k106).Args)::_::_::_::OO (kT58).share 58 A136 D136 a135::W1) ?_
 refine lM (rds _ _ _::rds _ _ _::rds _ _ _::rds _ _ _::ow _ _ _ _::bxl _ _ _::rds _ _ _::rds _ _ _::rds _ _ _::rds _ _ _::ow _ _ _ _::W1) (fun w s=>(((s.d 0 R).d 2 R).f 11 [1,1,0,1,2,9])) ?_
 refine l_build (K:=(kT58).share) (xs:=([(ix x103 (ix ((ix g1.Nodes k106).Args) j137))]:List Tensor)) (vs:=[(.agg [(sc A145 ((ix x103 (ix ((ix g1.Nodes k106).Args) j137)).Dims) D145),(sc A146 ((ix x103 (ix ((ix g1.Nodes k106).Args) j137)).Data) D146)].toArray)]) 2 R R sl46 sz58 zc58 R R R R R R ?_ R (fun A147 D147=>?_)
 exact fun I h s=>(mS58).list [(((sc A145 ((ix x103 (ix ((ix g1.Nodes k106).Args) j137)).Dims) D145),(sc A146 ((ix x103 (ix ((ix g1.Nodes k106).Args) j137)).Data) D146)),(ix x103 (ix ((ix g1.Nodes k106).Args) j137)))] I h s
 refine lN (OO (kT58).share 58 A147 D147 ([(ix x103 (ix ((ix g1.Nodes k106).Args) j137))]:List Tensor)::_::_::_::_::_::_::_::_::_::W1) ?_
 refine lM (ow _ _ _ _::ow _ _ _ _::rds _ _ _::rds _ _ _::ow _ _ _ _::bxl _ _ _::rds _ _ _::rds _ _ _::rds _ _ _::rds _ _ _::W1) (fun w s=>(s.f 10 [9,1,0,9])) ?_
 refine l_app (K:=(kT58).share) 2932031007402 R R sl46 sz58 by58 (Zr.zk (Zr.share zT58) zc58) R R R R R R src_ow hg148 (fun A149 D149=>(lN (OO (kT58).share 58 A149 D149 (a135++([(ix x103 (ix ((ix g1.Nodes k106).Args) j137))]:List Tensor))::_::_::_::_::_::_::_::_::W1) ?_))
 refine o_9 ?_
 obtain rfl:=so hr
 exact qA (A149,(a135++([(ix x103 (ix ((ix g1.Nodes k106).Args) j137))]:List Tensor)).length,D149) (fun w s=>(s.f 9 [3,6,0,1]))
 refine o_3 ?_
 obtain rfl:=so hr
 obtain rfl:=he2 _ R
 have hr:=hk2
 refine o_2 ?_
 exact qI (a135,(A136,a135.length,D136)) hr tI
 rintro ⟨a153,⟨A154,N154,D154⟩⟩ σ1 hr
 dsimp only [Z8_J3] at hr
 refine c_len 6 sees_sh (fun (hn:N154=a153.length)=>?_)
 subst hn
 refine o_2 ?_
 refine lO (vz (.agg [(.slice none 0 0),(.slice none 0 0)].toArray) (v_build pl58 zc58 R R)) (l_alloc R R zc58 (fun b155=>(l_stores 0 R R sz58 R R R R R R (lN (_::OO (kT58).share 58 A104 D104 x103::bxl b115 [(iv (ix g1.Nodes k106).Op),(sc A111 ((ix g1.Nodes k106).Args) D111),(sc A112 ((ix g1.Nodes k106).Dims) D112),(sc A113 ((ix g1.Nodes k106).Ints) D113),(vstr (ix g1.Nodes k106).Form),(sc A114 ((ix g1.Nodes k106).Data) D114)] 54::RR kT3 A111 D111 ((ix g1.Nodes k106).Args)::_::_::_::OO (kT58).share 58 A154 D154 a153::W1) ?_))))
 refine o_3 ?_
 refine c_cut (A:=(Int×(List Int)×(List Int))×(HH×HH)) (fun a=>Z8_J4 x103 k106 a.1.1 a.1.2.1 a.1.2.2=some out1) (fun a=>[(1,(sc A5 inputs4 D5)),(2,(.bool blank6)),(3,(pt b7 0)),(8,(sc A104 x103 D104)),(9,(iv a.1.1)),(10,(iv k106)),(14,(pt b155 0))]) (fun a=>OO (kT58).share 58 A104 D104 x103::bxl b155 [(s3 a.2.1),(s3 a.2.2)] 58::ow kT3 3 (s3 a.2.1) a.1.2.1::ow kT3 3 (s3 a.2.2) a.1.2.2::W1) ?_ ?_
 refine o_9 ?_
 rcases bif_ hr with ⟨_,hr⟩|⟨_,hr⟩
 refine o_1 ?_
 obtain ⟨r157,hx158,hr⟩:=bd hr
 refine o_3 ?_
 refine lM (ow _ _ _ _::rds _ _ _::rds _ _ _::rds _ _ _::rds _ _ _::bxl _ _ _::ow _ _ _ _::bxl _ _ _::rds _ _ _::rds _ _ _::rds _ _ _::rds _ _ _::W1) (fun w s=>(((((s.d 3 R).d 5 R).d 7 R).d 9 R).e 12 [11,3,2,1,0,4,5,6,7,8,9,10])) ?_
 refine lC 5 cb53 R (FnOk.lends (A':=[OO (kT58).share 58 A154 D154 a153]) (A:=[RR kT58 A154 D154 a153]) (B:=[RR kT3 A111 D111 ((ix g1.Nodes k106).Args),RR kT3 A112 D112 ((ix g1.Nodes k106).Dims),RR kT3 A113 D113 ((ix g1.Nodes k106).Ints),RR kT3 A114 D114 ((ix g1.Nodes k106).Data)]) (FnOk.perm (Z1_ok hx158) (Pre':=[RR kT58 A154 D154 a153,RR kT3 A111 D111 ((ix g1.Nodes k106).Args),RR kT3 A112 D112 ((ix g1.Nodes k106).Dims),RR kT3 A113 D113 ((ix g1.Nodes k106).Ints),RR kT3 A114 D114 ((ix g1.Nodes k106).Data)]) (fun _ _ _ s=>(s.f 5 [1,4,0,1]))) ⟨lend_sh,trivial⟩ (fun _=>⟨(closed_ow cT3),(closed_ow cT3),trivial⟩)) R ?_
 rintro ⟨⟨A159,N159,D159⟩,⟨A160,N160,D160⟩⟩
 refine lN (_::ow kT3 3 (.slice A159 N159 D159) r157.Dims::ow kT3 3 (.slice A160 N160 D160) r157.Data::_::_::_::_::_::_::_::W1) ?_
 refine l_len 1 sees_ow ?_
 rintro rfl
 refine l_len 2 sees_ow ?_
 rintro rfl
 refine l_stores 3 R R sz58 R R R R R R (lN (_::_::_::bxl b155 [(sc A159 r157.Dims D159),(sc A160 r157.Data D160)] 58::_::_::_::_::_::_::W1) ?_)
 refine o_2 ?_
 exact qI ((x105,r157.Dims,r157.Data),((A159,r157.Dims.length,D159),(A160,r157.Data.length,D160))) hr (tE 10 [4,3,1,2])
 refine o_7 ?_
 rcases bif_ hr with ⟨_,hr⟩|⟨_,hr⟩
 refine o_1 ?_
 obtain ⟨r162,hx163,hr⟩:=bd hr
 refine o_3 ?_
 refine lM (_::bxl b155 [(.slice none 0 0),(.slice none 0 0)] 58::_::_::_::_::_::_::_::W1) (fun w s=>(s.d 4 R)) ?_
 refine lC 1 cb54 R (Z0i_ok hx163) R ?_
 rintro ⟨⟨A164,N164,D164⟩,⟨A165,N165,D165⟩⟩
 refine lN (ow kT3 3 (.slice A164 N164 D164) r162.Dims::ow kT3 3 (.slice A165 N165 D165) r162.Data::_::_::_::_::_::_::_::_::W1) ?_
 refine l_len 0 sees_ow ?_
 rintro rfl
 refine l_len 1 sees_ow ?_
 rintro rfl
 refine l_stores 2 R R sz58 R R R R R R (lN (_::_::bxl b155 [(sc A164 r162.Dims D164),(sc A165 r162.Data D165)] 58::_::_::_::_::_::_::_::W1) ?_)
 refine o_2 ?_
 exact qI ((x105,r162.Dims,r162.Data),((A164,r162.Dims.length,D164),(A165,r162.Data.length,D165))) hr (tE 10 [3,2,0,1])
 refine o_3 ?_
 obtain ⟨hg166,hr⟩:=gd hr
 obtain ⟨r171,hx172,hr⟩:=bd hr
 obtain ⟨hg173,hr⟩:=gd hr
 obtain ⟨r174,hx175,hr⟩:=bd hr
 refine cQ [(1,(sc A5 inputs4 D5)),(2,(.bool blank6)),(3,(pt b7 0)),(8,(sc A104 x103 D104)),(9,(iv x105)),(10,(iv k106)),(11,(pt b115 0)),(14,(pt b155 0)),(92,(.bool (((decide (x105≥(inputs4.length:Int)))||(!r171))||(!r174))))] (OO (kT58).share 58 A104 D104 x103::bxl b115 [(iv (ix g1.Nodes k106).Op),(sc A111 ((ix g1.Nodes k106).Args) D111),(sc A112 ((ix g1.Nodes k106).Dims) D112),(sc A113 ((ix g1.Nodes k106).Ints) D113),(vstr (ix g1.Nodes k106).Form),(sc A114 ((ix g1.Nodes k106).Data) D114)] 54::RR kT3 A111 D111 ((ix g1.Nodes k106).Args)::RR kT3 A112 D112 ((ix g1.Nodes k106).Dims)::RR kT3 A113 D113 ((ix g1.Nodes k106).Ints)::RR kT3 A114 D114 ((ix g1.Nodes k106).Data)::bxl b155 [(.slice none 0 0),(.slice none 0 0)] 58::W1) ?_ ?_
 rcases bo (decide (x105≥(inputs4.length:Int))) with hc176 | hc176
 refine cdr 23 [] mixo fun ht hn=>?_
 refine d23_ 0 [] ?_
 refine dD ?_
 exact qj (fun w s=>(s.f 8 [1,6,0,1]))
 rcases bo ((decide (x105≥(inputs4.length:Int)))||(!r171)) with hc177 | hc177
 refine c_some 11 sees_rd (show 0<inputs4.length by have:=(hg166 hc176); omega) (fun g167 o168 ha=>?_)
 subst ha
 refine c_elem (K:=kT58) 11 x105 dT58.dec R (hg166 hc176).1 (hg166 hc176).2 ?_
 rintro ⟨⟨A169,D169⟩,⟨A170,D170⟩⟩
 refine cN (cl g167 (o168+x105.toNat*2) [(sc A169 ((ix inputs4 x105).Dims) D169),(sc A170 ((ix inputs4 x105).Data) D170)]::RR kT3 A169 D169 ((ix inputs4 x105).Dims)::RR kT3 A170 D170 ((ix inputs4 x105).Data)::bxl b155 [(.slice none 0 0),(.slice none 0 0)] 58::_::_::_::_::_::_::_::W1) ?_
 refine cdr 23 [] mixo fun ht hn=>?_
 refine d7_ 0 [] ?_
 refine dW 7 R (wnF hc176) (vIa sl46 sz58 R R (hg166 hc176)) (dW 8 R (wnF hc176) (vz (.agg [(sc A169 ((ix inputs4 x105).Dims) D169),(sc A170 ((ix inputs4 x105).Data) D170)].toArray) (v_clfs (fo:=0) 0 ag58 sz58 R R R R)) (d1 9 R (lM (rds _ _ _::rds _ _ _::cl _ _ _::rds _ _ _::rds _ _ _::bxl _ _ _::ow _ _ _ _::bxl _ _ _::rds _ _ _::rds _ _ _::rds _ _ _::rds _ _ _::ow _ _ _ _::W1) (fun w s=>(((s.d 1 R).d 3 R).f 13 [1,1,0,1,2,11])) ?_)))
 refine l_calln 2 R (wnF hc176) cb55 R (Zn_ok (gcall_t hx172 (not_ff hc176))) R ?_
 rintro _
 refine lN (_::_::_::_::_::_::_::_::_::_::_::W1) ?_
 refine l_nil (q_draw (sL []) ?_)
 refine d13_ 10 [] ?_
 refine dD ?_
 exact qj (fun w s=>(s.f 11 [4,6,3,1]))
 refine c_some 11 sees_rd (show 0<inputs4.length by have:=(hg166 hc176); omega) (fun g167 o168 ha=>?_)
 subst ha
 refine c_elem (K:=kT58) 11 x105 dT58.dec R (hg166 hc176).1 (hg166 hc176).2 ?_
 rintro ⟨⟨A169,D169⟩,⟨A170,D170⟩⟩
 refine cdr 23 [] mixo fun ht hn=>?_
 refine d7_ 0 [] ?_
 refine dW 7 R (wnF hc176) (vIa sl46 sz58 R R (hg166 hc176)) (dW 8 R (wnF hc176) (vz (.agg [(sc A169 ((ix inputs4 x105).Dims) D169),(sc A170 ((ix inputs4 x105).Data) D170)].toArray) (v_clfs (fo:=0) 0 ag58 sz58 R R R R)) (d1 9 R (lM (rds _ _ _::rds _ _ _::cl _ _ _::rds _ _ _::rds _ _ _::bxl _ _ _::ow _ _ _ _::bxl _ _ _::rds _ _ _::rds _ _ _::rds _ _ _::rds _ _ _::ow _ _ _ _::W1) (fun w s=>(((s.d 1 R).d 3 R).f 13 [1,1,0,1,2,11])) ?_)))
 refine l_calln 2 R (wnF hc176) cb55 R (Zn_ok (gcall_t hx172 (not_ff hc176))) R ?_
 rintro _
 refine lN (_::_::_::_::_::_::_::_::_::_::_::W1) ?_
 refine l_nil (q_draw (sL []) ?_)
 refine d5_ 10 [] ?_
 refine dW 15 R (wnF hc177) (vIa sl46 sz58 R R (hg173 hc177)) (dW 16 R (wnF hc177) (vz (.pointer (some ⟨g167,o168+x105.toNat*2,none⟩)) (v_fa fo58_0 R R)) (dW 17 R (wnF hc177) (v_clf (fo:=0) 0 ag23 R R R) ?_))
 refine d2_ 18 [] ?_
 refine d1 20 R (lM (rds _ _ _::rds _ _ _::cl _ _ _::rds _ _ _::rds _ _ _::bxl _ _ _::ow _ _ _ _::bxl _ _ _::rds _ _ _::rds _ _ _::rds _ _ _::rds _ _ _::ow _ _ _ _::W1) (fun w s=>(((s.d 1 R).d 8 R).f 13 [1,1,0,1,2,11])) ?_)
 refine l_calln 2 R (wnF hc177) cb56 R (Zx_ok (gcall_t hx175 (not_ff hc177))) R ?_
 rintro _
 refine lN (_::_::_::_::_::_::_::_::_::_::_::W1) ?_
 refine l_nil (q_draw (sL []) ?_)
 refine d2_ 21 [] ?_
 refine dD ?_
 exact qj (fun w s=>(s.f 11 [4,6,3,1]))
 rintro σ1
 refine o_1 ?_
 rcases bif_ hr with ⟨_,hr⟩|⟨_,hr⟩
 refine o_14 ?_
 obtain rfl:=so hr
 obtain rfl:=he1 _ R
 have hr:=hk1
 refine o_3 ?_
 obtain rfl:=so hr
 exact qT2 (A104,x103.length,D104) (tE 11 [0])
 refine o_4 ?_
 obtain ⟨r179,hx180,hr⟩:=bd hr
 obtain ⟨hg182,hr⟩:=gd hr
 obtain ⟨r187,hx188,hr⟩:=bd hr
 refine c_some 10 sees_rd (show 0<inputs4.length by have:=hg182; omega) (fun g183 o184 ha=>?_)
 subst ha
 refine c_elem (K:=kT58) 10 x105 dT58.dec R hg182.1 hg182.2 ?_
 rintro ⟨⟨A185,D185⟩,⟨A186,D186⟩⟩
 refine cN (cl g183 (o184+x105.toNat*2) [(sc A185 ((ix inputs4 x105).Dims) D185),(sc A186 ((ix inputs4 x105).Data) D186)]::RR kT3 A185 D185 ((ix inputs4 x105).Dims)::RR kT3 A186 D186 ((ix inputs4 x105).Data)::_::_::_::_::_::_::_::W1) ?_
 refine cdr 11 [9] mixo fun ht hn=>?_
 refine d2_ 0 [9] ?_
 refine d3_ 3 [9] ?_
 refine dR 6 R (vz (.pointer (some ⟨g183,o184+x105.toNat*2+1,none⟩)) (v_fa fo58_1 R R)) (hS:=(sL [9])) (dR 7 R (v_clf (fo:=1) 0 ag23 R R R) (hS:=(sL [9])) (d1 2 R (lM (_::_::_::_::_::_::_::_::_::_::_::W1) (fun w s=>(s.d 6 R)) ?_)))
 refine lC 1 cb57 R (Zp_ok hx180) R ?_
 rintro ⟨A181,N181,D181⟩
 refine lN (ow kT3 3 (.slice A181 N181 D181) r179::_::_::_::_::_::_::_::_::_::_::W1) ?_
 refine l_len 0 sees_ow ?_
 rintro rfl
 refine l_nil (q_draw (sL [10,0]) (d1 8 R (lM (_::_::_::_::_::_::_::_::_::_::_::_::W1) (fun w s=>(s.d 3 R)) ?_)))
 refine lC 1 cb57 R (Zp_ok hx188) R ?_
 rintro ⟨A189,N189,D189⟩
 refine lN (ow kT3 3 (.slice A189 N189 D189) r187::_::_::_::_::_::_::_::_::_::_::_::W1) ?_
 refine l_len 0 sees_ow ?_
 rintro rfl
 refine l_nil (q_draw (sL [11,1,0]) (dR 9 R (vz (.agg [(sc A181 r179 D181),(sc A189 r187 D189)].toArray) (v_build pl58 zc58 R R)) (hS:=(sL [11,1,0])) (d1 10 R (l_stores 11 R R sz58 R R R R R R (lN (_::_::_::_::_::_::_::_::_::_::_::bxl b155 [(sc A181 r179 D181),(sc A189 r187 D189)] 58::W1) ?_)))))
 refine l_nil (q_draw (sL [11,1,0]) (dD ?_))
 refine o_7 ?_
 exact qI (((w64 (x105+(1:Int))),r179,r187),((A181,r179.length,D181),(A189,r187.length,D189))) hr (tE 12 [5,11,1,0])
 rintro ⟨⟨x190,t191,t193⟩,⟨⟨A192,N192,D192⟩,⟨A194,N194,D194⟩⟩⟩ σ1 hr
 dsimp only [Z8_J4] at hr
 refine c_len 2 sees_ow (fun (hn:N192=t191.length)=>?_)
 subst hn
 refine c_len 3 sees_ow (fun (hn:N194=t193.length)=>?_)
 subst hn
 refine o_9 ?_
 rcases bif_ hr with ⟨_,hr⟩|⟨_,hr⟩
 refine o_12 ?_
 obtain rfl:=so hr
 obtain rfl:=he1 _ R
 have hr:=hk1
 refine o_3 ?_
 obtain rfl:=so hr
 exact qT2 (A104,x103.length,D104) (tE 8 [0])
 refine o_3 ?_
 obtain ⟨hg197,hr⟩:=gd hr
 refine o_3 ?_
 refine lM (RR kT3 A192 D192 t191::RR kT3 A194 D194 t193::RR kT3 A194 D194 t193::RR kT3 A192 D192 t191::ow _ _ _ _::bxl b155 [(sc A192 t191 D192),(sc A194 t193 D194)] 58::W1) (fun w s=>(((((s.shr 2 R).d 0 R).shr 4 R).d 0 R).e 6 [2,0,1,3,4,5])) ?_
 refine l_build (K:=(kT58).share) (xs:=([(⟨t191,t193⟩:Tensor)]:List Tensor)) (vs:=[(.agg [(sc A192 t191 D192),(sc A194 t193 D194)].toArray)]) 2 R R sl46 sz58 zc58 R R R R R R ?_ R (fun A196 D196=>?_)
 exact fun I h s=>(mS58).list [(((sc A192 t191 D192),(sc A194 t193 D194)),(⟨t191,t193⟩:Tensor))] I h s
 refine lN (OO (kT58).share 58 A196 D196 ([(⟨t191,t193⟩:Tensor)]:List Tensor)::_::_::_::_::W1) ?_
 refine lM (ow _ _ _ _::ow _ _ _ _::rds _ _ _::rds _ _ _::bxl _ _ _::W1) (tE 5 [3,0,1,2,4]) ?_
 refine l_app (K:=(kT58).share) 2932031007402 R R sl46 sz58 by58 (Zr.zk (Zr.share zT58) zc58) R R R R R R src_ow hg197 (fun A198 D198=>(lN (OO (kT58).share 58 A198 D198 (x103++([(⟨t191,t193⟩:Tensor)]:List Tensor))::_::_::_::W1) ?_))
 refine o_9 ?_
 obtain rfl:=so hr
 exact qA (A198,(x103++([(⟨t191,t193⟩:Tensor)]:List Tensor)).length,D198) (tE 4 [0])
 refine o_3 ?_
 obtain rfl:=so hr
 obtain rfl:=he1 _ R
 have hr:=hk1
 refine o_2 ?_
 exact qI ((x103,x105),(A104,x103.length,D104)) hr tI
 rintro ⟨⟨x203,x205⟩,⟨A204,N204,D204⟩⟩ σ1 hr
 dsimp only [Z8_J5] at hr
 refine c_len 0 sees_sh (fun (hn:N204=x203.length)=>?_)
 subst hn
 refine o_1 ?_
 obtain ⟨r206,hx207,hr⟩:=bd hr
 refine cQ [(6,(sc A204 x203 D204)),(7,(.bool (r206&&(blank6||(x205==(inputs4.length:Int))))))] (OO (kT58).share 58 A204 D204 x203::W1) ?_ ?_
 refine o_7 ?_
 refine lM (RR kT3 A3 D3 g1.Outs::OO (kT58).share 58 A204 D204 x203::W1) (fun w s=>(s.d 3 R)) ?_
 refine lC 1 cb52 R (Z0d_ok hx207) R ?_
 rintro _
 refine lN (_::W1) ?_
 refine o_1 ?_
 rcases bo r206 with hc208 | hc208
 refine o_2 ?_
 rcases bo blank6 with hc209 | hc209
 refine o_9 ?_
 exact qj tI
 refine o_9 ?_
 exact qj tI
 refine o_11 ?_
 exact qj tI
 rintro σ1
 refine o_2 ?_
 obtain rfl:=so hr
 exact qT2 (A204,x203.length,D204) (tE 5 [0])
theorem Z2m_ok  {g1:Graph}{r:Bool}(hr:Z2m g1=some r) :
 FnOk Tryz.prog 10 [(.agg [(.slice A2 N2 D2),(.slice A3 N3 D3)].toArray)] [rds kT54 (.slice A2 N2 D2) g1.Nodes,rds kT3 (.slice A3 N3 D3) g1.Outs] (fun (h:Unit)=>((.bool r),[])):=by
 unfold Z2m at hr
 refine fn_ok Tryz.func10 R 12 R R fun C V=>?_
 refine cN (_::_::V) ?_
 refine cL 0 sees_rd ?_
 rintro rfl
 refine cL 1 sees_rd ?_
 rintro rfl
 let W0:List HP:=RR kT54 A2 D2 g1.Nodes::RR kT3 A3 D3 g1.Outs::V
 refine cN W0 ?_
 refine o_2 ?_
 refine lBx R fun b4=>?_
 refine o_2 ?_
 let W1:List HP:=bxl b4 [(sc A2 g1.Nodes D2),(sc A3 g1.Outs D3)] 30::W0
 refine qN W1 ?_
 refine o_2 ?_
 obtain ⟨r6,hx7,hr⟩:=bd hr
 refine o_2 ?_
 refine l_build (K:=kT58) (xs:=([]:List Tensor)) (vs:=[]) 0 R R sl46 sz58 zc58 R R R R R R ?_ R (fun A5 D5=>?_)
 exact fun I h s=>(mO58).list [] I h s
 refine lN (OO kT58 58 A5 D5 ([]:List Tensor)::W1) ?_
 refine l_st (fun w s=>s.shr 0 R) (lM (RR kT54 A2 D2 g1.Nodes::RR kT3 A3 D3 g1.Outs::RR kT58 A5 D5 ([]:List Tensor)::RR kT58 A5 D5 ([]:List Tensor)::W1) (fun w s=>((((s.d 2 R).d 4 R).d 2 R).e 4 [2,1,0,3])) ?_)
 refine lC 3 cb34 R (Z8_ok hx7) R ?_
 rintro ⟨A8,N8,D8⟩
 refine lN (ow (kT58).share 58 (.slice A8 N8 D8) r6.1::_::W1) ?_
 refine l_len 0 sees_sh ?_
 rintro rfl
 refine lO (vT R) ?_
 refine o_13 ?_
 obtain rfl:=so hr
 exact qF () (tE 5 [])
theorem Z2z_ok  {least1:Int}{most2:Int}{r:Int×Int}(hr:Z2z least1 most2=some r) :
 FnOk Tryz.prog 126 [(iv least1),(iv most2),(.func (.func 127) [].toArray [].toArray)] [] (fun (h:Nat×Nat×Nat)=>((.func (.func 149) [].toArray [(pt h.1 0),(pt h.2.1 0),(pt h.2.2 0)].toArray),[bxl h.1 [(iv r.1)] 3,bxl h.2.1 [(iv r.2)] 3,bxl h.2.2 [(.func (.func 127) [].toArray [].toArray)] 150])):=by
 unfold Z2z at hr
 refine fn_ok Tryz.func126 R 8 R R fun C V=>?_
 refine cN V ?_
 refine o_2 ?_
 refine l_box (cs:=[(iv least1)]) R R R (fun b4=>(l_box (cs:=[(iv most2)]) R R R (fun b5=>(l_box (cs:=[(.func (.func 127) [].toArray [].toArray)]) R R R (fun b6=>(lO (vp _ R) (l_nil ?_)))))))
 let W1:List HP:=bxl b6 [(.func (.func 127) [].toArray [].toArray)] 150::bxl b5 [(iv most2)] 3::bxl b4 [(iv least1)] 3::V
 refine qN W1 ?_
 refine o_3 ?_
 refine lO (vp (.func (.func 149) [].toArray [(pt b4 0),(pt b5 0),(pt b6 0)].toArray) R) (lO (vp _ R) ?_)
 refine o_3 ?_
 obtain rfl:=so hr
 exact qF (b4,b5,b6) (tE 3 [2,1,0])
theorem Z30_ok  {least1:Int}{most2:Int}{r:Int×Int}(hr:Z30 least1 most2=some r) :
 FnOk Tryz.prog 126 [(iv least1),(iv most2),(.func (.func 129) [].toArray [].toArray)] [] (fun (h:Nat×Nat×Nat)=>((.func (.func 149) [].toArray [(pt h.1 0),(pt h.2.1 0),(pt h.2.2 0)].toArray),[bxl h.1 [(iv r.1)] 3,bxl h.2.1 [(iv r.2)] 3,bxl h.2.2 [(.func (.func 129) [].toArray [].toArray)] 150])):=by
 unfold Z30 at hr
 refine fn_ok Tryz.func126 R 8 R R fun C V=>?_
 refine cN V ?_
 refine o_2 ?_
 refine l_box (cs:=[(iv least1)]) R R R (fun b4=>(l_box (cs:=[(iv most2)]) R R R (fun b5=>(l_box (cs:=[(.func (.func 129) [].toArray [].toArray)]) R R R (fun b6=>(lO (vp _ R) (l_nil ?_)))))))
 let W1:List HP:=bxl b6 [(.func (.func 129) [].toArray [].toArray)] 150::bxl b5 [(iv most2)] 3::bxl b4 [(iv least1)] 3::V
 refine qN W1 ?_
 refine o_3 ?_
 refine lO (vp (.func (.func 149) [].toArray [(pt b4 0),(pt b5 0),(pt b6 0)].toArray) R) (lO (vp _ R) ?_)
 refine o_3 ?_
 obtain rfl:=so hr
 exact qF (b4,b5,b6) (tE 3 [2,1,0])
theorem Z31_ok  {least1:Int}{most2:Int}{r:Int×Int}(hr:Z31 least1 most2=some r) :
 FnOk Tryz.prog 126 [(iv least1),(iv most2),(.func (.func 131) [].toArray [].toArray)] [] (fun (h:Nat×Nat×Nat)=>((.func (.func 149) [].toArray [(pt h.1 0),(pt h.2.1 0),(pt h.2.2 0)].toArray),[bxl h.1 [(iv r.1)] 3,bxl h.2.1 [(iv r.2)] 3,bxl h.2.2 [(.func (.func 131) [].toArray [].toArray)] 150])):=by
 unfold Z31 at hr
 refine fn_ok Tryz.func126 R 8 R R fun C V=>?_
 refine cN V ?_
 refine o_2 ?_
 refine l_box (cs:=[(iv least1)]) R R R (fun b4=>(l_box (cs:=[(iv most2)]) R R R (fun b5=>(l_box (cs:=[(.func (.func 131) [].toArray [].toArray)]) R R R (fun b6=>(lO (vp _ R) (l_nil ?_)))))))
 let W1:List HP:=bxl b6 [(.func (.func 131) [].toArray [].toArray)] 150::bxl b5 [(iv most2)] 3::bxl b4 [(iv least1)] 3::V
 refine qN W1 ?_
 refine o_3 ?_
 refine lO (vp (.func (.func 149) [].toArray [(pt b4 0),(pt b5 0),(pt b6 0)].toArray) R) (lO (vp _ R) ?_)
 refine o_3 ?_
 obtain rfl:=so hr
 exact qF (b4,b5,b6) (tE 3 [2,1,0])
theorem Z32_ok  {least1:Int}{most2:Int}{r:Int×Int}(hr:Z32 least1 most2=some r) :
 FnOk Tryz.prog 126 [(iv least1),(iv most2),(.func (.func 133) [].toArray [].toArray)] [] (fun (h:Nat×Nat×Nat)=>((.func (.func 149) [].toArray [(pt h.1 0),(pt h.2.1 0),(pt h.2.2 0)].toArray),[bxl h.1 [(iv r.1)] 3,bxl h.2.1 [(iv r.2)] 3,bxl h.2.2 [(.func (.func 133) [].toArray [].toArray)] 150])):=by
 unfold Z32 at hr
 refine fn_ok Tryz.func126 R 8 R R fun C V=>?_
 refine cN V ?_
 refine o_2 ?_
 refine l_box (cs:=[(iv least1)]) R R R (fun b4=>(l_box (cs:=[(iv most2)]) R R R (fun b5=>(l_box (cs:=[(.func (.func 133) [].toArray [].toArray)]) R R R (fun b6=>(lO (vp _ R) (l_nil ?_)))))))
 let W1:List HP:=bxl b6 [(.func (.func 133) [].toArray [].toArray)] 150::bxl b5 [(iv most2)] 3::bxl b4 [(iv least1)] 3::V
 refine qN W1 ?_
 refine o_3 ?_
 refine lO (vp (.func (.func 149) [].toArray [(pt b4 0),(pt b5 0),(pt b6 0)].toArray) R) (lO (vp _ R) ?_)
 refine o_3 ?_
 obtain rfl:=so hr
 exact qF (b4,b5,b6) (tE 3 [2,1,0])
theorem Zt_ok  {op1:Int}{r:kindOfR}(hr:Zt op1=some r) :
 FnOk Tryz.prog 96 [(iv op1)] [] (fun (h:Nat×Nat×Nat)=>((kindOfRV r (h.1,h.2.1,h.2.2)),[kindOfRE r (h.1,h.2.1,h.2.2)])):=by
 unfold Zt at hr
 refine fn_ok Tryz.func96 R 72 R R fun C V=>?_
 refine cN V ?_
 refine o_2 ?_
 refine lO (vp _ R) ?_
 refine o_15 ?_
 rcases bif_ hr with ⟨_,hr⟩|⟨_,hr⟩
 refine o_3 ?_
 refine lO (vz (.agg [(.bool false)].toArray) (v_build pl136 zc136 R R)) (lO (vz (.iface 136 (.agg [(.bool false)].toArray)) (v_mki cc136 R)) (lO (vp _ R) ?_))
 refine o_5 ?_
 obtain rfl:=so hr
 exact qF (0,0,0) (fun w s=>St.pack (A:=[]) s)
 refine o_7 ?_
 rcases bif_ hr with ⟨_,hr⟩|⟨_,hr⟩
 refine o_3 ?_
 refine lO (vz (.agg [(.bool true)].toArray) (v_build pl136 zc136 R R)) (lO (vz (.iface 136 (.agg [(.bool true)].toArray)) (v_mki cc136 R)) (lO (vp _ R) ?_))
 refine o_5 ?_
 obtain rfl:=so hr
 exact qF (0,0,0) (fun w s=>St.pack (A:=[]) s)
 refine o_2 ?_
 refine c_cut (A:=(Bool)×(Unit)) (fun a=>Zt_J1 op1 a.1=some r) (fun a=>[(0,(iv op1)),(3,(iv op1)),(12,(.bool a.1))]) (fun a=>V) ?_ ?_
 refine o_6 ?_
 rcases bif_ hr with ⟨_,hr⟩|⟨_,hr⟩
 refine o_2 ?_
 exact qI ((op1==(3:Int)),()) hr tI
 refine o_7 ?_
 rcases bif_ hr with ⟨_,hr⟩|⟨_,hr⟩
 refine o_2 ?_
 exact qI ((op1==(4:Int)),()) hr tI
 refine o_5 ?_
 exact qI ((op1==(5:Int)),()) hr tI
 rintro ⟨x6,_⟩ σ1 hr
 dsimp only [Zt_J1] at hr
 rcases bif_ hr with ⟨_,hr⟩|⟨_,hr⟩
 refine o_6 ?_
 refine lO (vz (.agg [(iv (w64 ((w64 (op1 - (3:Int)))+(1:Int))))].toArray) (v_build pl138 zc138 R R)) (lO (vz (.iface 138 (.agg [(iv (w64 ((w64 (op1 - (3:Int)))+(1:Int))))].toArray)) (v_mki cc138 R)) (lO (vp _ R) ?_))
 refine o_5 ?_
 obtain rfl:=so hr
 exact qF (0,0,0) (fun w s=>St.pack (A:=[]) s)
 refine o_2 ?_
 refine c_cut (A:=(Bool)×(Unit)) (fun a=>Zt_J2 op1 a.1=some r) (fun a=>[(0,(iv op1)),(3,(iv op1)),(21,(.bool a.1))]) (fun a=>V) ?_ ?_
 refine o_6 ?_
 rcases bif_ hr with ⟨_,hr⟩|⟨_,hr⟩
 refine o_2 ?_
 exact qI ((op1==(6:Int)),()) hr tI
 refine o_7 ?_
 rcases bif_ hr with ⟨_,hr⟩|⟨_,hr⟩
 refine o_2 ?_
 exact qI ((op1==(7:Int)),()) hr tI
 refine o_7 ?_
 rcases bif_ hr with ⟨_,hr⟩|⟨_,hr⟩
 refine o_2 ?_
 exact qI ((op1==(8:Int)),()) hr tI
 refine o_5 ?_
 exact qI ((op1==(9:Int)),()) hr tI
 rintro ⟨x11,_⟩ σ1 hr
 dsimp only [Zt_J2] at hr
 rcases bif_ hr with ⟨_,hr⟩|⟨_,hr⟩
 refine o_6 ?_
 refine lO (vz (.agg [(iv (w64 ((w64 (op1 - (6:Int)))+(1:Int))))].toArray) (v_build pl139 zc139 R R)) (lO (vz (.iface 139 (.agg [(iv (w64 ((w64 (op1 - (6:Int)))+(1:Int))))].toArray)) (v_mki cc139 R)) (lO (vp _ R) ?_))
 refine o_5 ?_
 obtain rfl:=so hr
 exact qF (0,0,0) (fun w s=>St.pack (A:=[]) s)
 refine o_7 ?_
 rcases bif_ hr with ⟨_,hr⟩|⟨_,hr⟩
 refine o_3 ?_
 refine lO (vz (.agg [].toArray) (v_build pl141 zc141 R R)) (lO (vz (.iface 141 (.agg [].toArray)) (v_mki cc141 R)) (lO (vp _ R) ?_))
 refine o_5 ?_
 obtain rfl:=so hr
 exact qF (0,0,0) (fun w s=>St.pack (A:=[]) s)
 refine o_7 ?_
 rcases bif_ hr with ⟨_,hr⟩|⟨_,hr⟩
 refine o_3 ?_
 refine lO (vz (.agg [].toArray) (v_build pl142 zc142 R R)) (lO (vz (.iface 142 (.agg [].toArray)) (v_mki cc142 R)) (lO (vp _ R) ?_))
 refine o_5 ?_
 obtain rfl:=so hr
 exact qF (0,0,0) (fun w s=>St.pack (A:=[]) s)
 refine o_7 ?_
 rcases bif_ hr with ⟨_,hr⟩|⟨_,hr⟩
 refine o_3 ?_
 refine lO (vz (.agg [(vstr str1),(.func (.func 124) [].toArray [].toArray)].toArray) (v_build pl145 zc145 R R)) (lO (vz (.iface 145 (.agg [(vstr str1),(.func (.func 124) [].toArray [].toArray)].toArray)) (v_mki cc145 R)) (lO (vp _ R) ?_))
 refine o_5 ?_
 obtain rfl:=so hr
 exact qF (0,0,0) (fun w s=>St.pack (A:=[]) s)
 refine o_7 ?_
 rcases bif_ hr with ⟨_,hr⟩|⟨_,hr⟩
 refine o_3 ?_
 refine lO (vz (.agg [(vstr str1),(.func (.func 125) [].toArray [].toArray)].toArray) (v_build pl145 zc145 R R)) (lO (vz (.iface 145 (.agg [(vstr str1),(.func (.func 125) [].toArray [].toArray)].toArray)) (v_mki cc145 R)) (lO (vp _ R) ?_))
 refine o_5 ?_
 obtain rfl:=so hr
 exact qF (0,0,0) (fun w s=>St.pack (A:=[]) s)
 refine o_2 ?_
 refine c_cut (A:=(Bool)×(Unit)) (fun a=>Zt_J3 op1 a.1=some r) (fun a=>[(3,(iv op1)),(47,(.bool a.1))]) (fun a=>V) ?_ ?_
 refine o_6 ?_
 rcases bif_ hr with ⟨_,hr⟩|⟨_,hr⟩
 refine o_2 ?_
 exact qI ((op1==(14:Int)),()) hr tI
 refine o_5 ?_
 exact qI ((op1==(18:Int)),()) hr tI
 rintro ⟨x18,_⟩ σ1 hr
 dsimp only [Zt_J3] at hr
 rcases bif_ hr with ⟨_,hr⟩|⟨_,hr⟩
 refine o_3 ?_
 refine lO (vz (.agg [(vstr str2),(.func (.func 124) [].toArray [].toArray)].toArray) (v_build pl145 zc145 R R)) (lO (vz (.iface 145 (.agg [(vstr str2),(.func (.func 124) [].toArray [].toArray)].toArray)) (v_mki cc145 R)) (lO (vp _ R) ?_))
 refine o_5 ?_
 obtain rfl:=so hr
 exact qF (0,0,0) (fun w s=>St.pack (A:=[]) s)
 refine o_7 ?_
 rcases bif_ hr with ⟨_,hr⟩|⟨_,hr⟩
 refine o_2 ?_
 obtain ⟨r21,hx22,hr⟩:=bd hr
 refine c_region (lC 0 cb126 R (Z2z_ok hx22) R ?_)
 rintro ⟨b23,b24,b25⟩
 refine lN (bxl b23 [(iv r21.1)] 3::bxl b24 [(iv r21.2)] 3::bxl b25 [(.func (.func 127) [].toArray [].toArray)] 150::V) ?_
 refine lO (vz (.agg [(vstr str2),(.func (.func 149) [].toArray [(pt b23 0),(pt b24 0),(pt b25 0)].toArray)].toArray) (v_build pl145 zc145 R R)) (lO (vz (.iface 145 (.agg [(vstr str2),(.func (.func 149) [].toArray [(pt b23 0),(pt b24 0),(pt b25 0)].toArray)].toArray)) (v_mki cc145 R)) (lO (vp _ R) ?_))
 refine o_5 ?_
 obtain rfl:=so hr
 exact qF (b23,b24,b25) (fun w s=>St.pack (A:=[bxl b23 [(iv r21.1)] 3,bxl b24 [(iv r21.2)] 3,bxl b25 [(.func (.func 127) [].toArray [].toArray)] 150]) s)
 refine o_7 ?_
 rcases bif_ hr with ⟨_,hr⟩|⟨_,hr⟩
 refine o_2 ?_
 obtain ⟨r27,hx28,hr⟩:=bd hr
 refine c_region (lC 0 cb126 R (Z30_ok hx28) R ?_)
 rintro ⟨b29,b30,b31⟩
 refine lN (bxl b29 [(iv r27.1)] 3::bxl b30 [(iv r27.2)] 3::bxl b31 [(.func (.func 129) [].toArray [].toArray)] 150::V) ?_
 refine lO (vz (.agg [(vstr str2),(.func (.func 149) [].toArray [(pt b29 0),(pt b30 0),(pt b31 0)].toArray)].toArray) (v_build pl145 zc145 R R)) (lO (vz (.iface 145 (.agg [(vstr str2),(.func (.func 149) [].toArray [(pt b29 0),(pt b30 0),(pt b31 0)].toArray)].toArray)) (v_mki cc145 R)) (lO (vp _ R) ?_))
 refine o_5 ?_
 obtain rfl:=so hr
 exact qF (b29,b30,b31) (fun w s=>St.pack (A:=[bxl b29 [(iv r27.1)] 3,bxl b30 [(iv r27.2)] 3,bxl b31 [(.func (.func 129) [].toArray [].toArray)] 150]) s)
 refine o_7 ?_
 rcases bif_ hr with ⟨_,hr⟩|⟨_,hr⟩
 refine o_2 ?_
 obtain ⟨r33,hx34,hr⟩:=bd hr
 refine c_region (lC 0 cb126 R (Z31_ok hx34) R ?_)
 rintro ⟨b35,b36,b37⟩
 refine lN (bxl b35 [(iv r33.1)] 3::bxl b36 [(iv r33.2)] 3::bxl b37 [(.func (.func 131) [].toArray [].toArray)] 150::V) ?_
 refine lO (vz (.agg [(vstr str2),(.func (.func 149) [].toArray [(pt b35 0),(pt b36 0),(pt b37 0)].toArray)].toArray) (v_build pl145 zc145 R R)) (lO (vz (.iface 145 (.agg [(vstr str2),(.func (.func 149) [].toArray [(pt b35 0),(pt b36 0),(pt b37 0)].toArray)].toArray)) (v_mki cc145 R)) (lO (vp _ R) ?_))
 refine o_5 ?_
 obtain rfl:=so hr
 exact qF (b35,b36,b37) (fun w s=>St.pack (A:=[bxl b35 [(iv r33.1)] 3,bxl b36 [(iv r33.2)] 3,bxl b37 [(.func (.func 131) [].toArray [].toArray)] 150]) s)
 refine o_7 ?_
 rcases bif_ hr with ⟨_,hr⟩|⟨_,hr⟩
 refine o_2 ?_
 obtain ⟨r39,hx40,hr⟩:=bd hr
 refine c_region (lC 0 cb126 R (Z32_ok hx40) R ?_)
 rintro ⟨b41,b42,b43⟩
 refine lN (bxl b41 [(iv r39.1)] 3::bxl b42 [(iv r39.2)] 3::bxl b43 [(.func (.func 133) [].toArray [].toArray)] 150::V) ?_
 refine lO (vz (.agg [(vstr str2),(.func (.func 149) [].toArray [(pt b41 0),(pt b42 0),(pt b43 0)].toArray)].toArray) (v_build pl145 zc145 R R)) (lO (vz (.iface 145 (.agg [(vstr str2),(.func (.func 149) [].toArray [(pt b41 0),(pt b42 0),(pt b43 0)].toArray)].toArray)) (v_mki cc145 R)) (lO (vp _ R) ?_))
 refine o_5 ?_
 obtain rfl:=so hr
 exact qF (b41,b42,b43) (fun w s=>St.pack (A:=[bxl b41 [(iv r39.1)] 3,bxl b42 [(iv r39.2)] 3,bxl b43 [(.func (.func 133) [].toArray [].toArray)] 150]) s)
 refine o_6 ?_
 refine lO (vp _ R) ?_
 refine o_3 ?_
 obtain rfl:=so hr
 exact qF (0,0,0) (fun w s=>St.pack (A:=[]) s)
theorem Z34_ok  {k1:leafKind}{r:Str}(hr:Z34 k1=some r) :
 FnOk Tryz.prog 193 [(.agg [(.bool k1.data)].toArray)] [] (fun (h:Unit)=>((vstr r),[])):=by
 unfold Z34 at hr
 refine fn_ok Tryz.func193 R 5 R R fun C V=>?_
 refine cN V ?_
 refine o_2 ?_
 refine lBx R fun b2=>?_
 refine lO (vp (vstr ([]:Str)) R) (l_nil ?_)
 let W1:List HP:=bxl b2 [(.bool k1.data)] 136::V
 refine qN W1 ?_
 refine o_8 ?_
 rcases bif_ hr with ⟨_,hr⟩|⟨_,hr⟩
 refine o_3 ?_
 refine lO (vp (vstr str3) R) ?_
 refine o_4 ?_
 obtain rfl:=so hr
 exact qF () (tE 1 [])
 refine o_5 ?_
 refine lO (vp (vstr str1) R) ?_
 refine o_3 ?_
 obtain rfl:=so hr
 exact qF () (tE 1 [])
theorem Z35_ok  {k1:pairKind}{r:Str}(hr:Z35 k1=some r) :
 FnOk Tryz.prog 198 [(.agg [(iv k1.op)].toArray)] [] (fun (h:Unit)=>((vstr r),[])):=by
 unfold Z35 at hr
 refine fn_ok Tryz.func198 R 3 R R fun C V=>?_
 refine cN V ?_
 refine o_2 ?_
 refine lBx R fun b2=>?_
 refine lO (vp (vstr ([]:Str)) R) (l_nil ?_)
 let W1:List HP:=bxl b2 [(iv k1.op)] 138::V
 refine qN W1 ?_
 refine o_3 ?_
 refine lO (vp (vstr ([]:Str)) R) ?_
 refine o_3 ?_
 obtain rfl:=so hr
 exact qF () (tE 1 [])
theorem Z3c_ok  {k1:soloKind}{r:Str}(hr:Z3c k1=some r) :
 FnOk Tryz.prog 201 [(.agg [(iv k1.op)].toArray)] [] (fun (h:Unit)=>((vstr r),[])):=by
 unfold Z3c at hr
 refine fn_ok Tryz.func201 R 3 R R fun C V=>?_
 refine cN V ?_
 refine o_2 ?_
 refine lBx R fun b2=>?_
 refine lO (vp (vstr ([]:Str)) R) (l_nil ?_)
 let W1:List HP:=bxl b2 [(iv k1.op)] 139::V
 refine qN W1 ?_
 refine o_3 ?_
 refine lO (vp (vstr ([]:Str)) R) ?_
 refine o_3 ?_
 obtain rfl:=so hr
 exact qF () (tE 1 [])
theorem Z3d_ok  {k1:topKind}{r:Str}(hr:Z3d k1=some r) :
 FnOk Tryz.prog 203 [(.agg [].toArray)] [] (fun (h:Unit)=>((vstr r),[])):=by
 unfold Z3d at hr
 refine fn_ok Tryz.func203 R 3 R R fun C V=>?_
 refine cN V ?_
 refine o_2 ?_
 refine lBx R fun b2=>?_
 refine lO (vp (vstr ([]:Str)) R) (l_nil ?_)
 let W1:List HP:=bxl b2 [] 141::V
 refine qN W1 ?_
 refine o_3 ?_
 refine lO (vp (vstr str2) R) ?_
 refine o_3 ?_
 obtain rfl:=so hr
 exact qF () (tE 1 [])
theorem Z33_ok  {k1:formKind}{r:Str}(hr:Z33 k1=some r) :
 FnOk Tryz.prog 205 [(.agg [].toArray)] [] (fun (h:Unit)=>((vstr r),[])):=by
 unfold Z33 at hr
 refine fn_ok Tryz.func205 R 3 R R fun C V=>?_
 refine cN V ?_
 refine o_2 ?_
 refine lBx R fun b2=>?_
 refine lO (vp (vstr ([]:Str)) R) (l_nil ?_)
 let W1:List HP:=bxl b2 [] 142::V
 refine qN W1 ?_
 refine o_3 ?_
 refine lO (vp (vstr str4) R) ?_
 refine o_3 ?_
 obtain rfl:=so hr
 exact qF () (tE 1 [])
theorem Z3a_ok  {k1:shiftKind}{r:Str}(hr:Z3a k1=some r) :
 FnOk Tryz.prog 221 [(.agg [(vstr k1.use),(.func (.func 124) [].toArray [].toArray)].toArray)] [] (fun (h:Unit)=>((vstr r),[])):=by
 unfold Z3a at hr
 refine fn_ok Tryz.func221 R 5 R R fun C V=>?_
 refine cN V ?_
 refine o_2 ?_
 refine lBx R fun b2=>?_
 refine lO (vp (vstr ([]:Str)) R) (l_nil ?_)
 let W1:List HP:=bxl b2 [(vstr k1.use),(.func (.func 124) [].toArray [].toArray)] 145::V
 refine qN W1 ?_
 refine o_5 ?_
 refine lO (vp (vstr k1.use) R) ?_
 refine o_3 ?_
 obtain rfl:=so hr
 exact qF () (tE 1 [])
theorem Z3b_ok  {k1:shiftKind}{r:Str}(hr:Z3b k1=some r) :
 FnOk Tryz.prog 221 [(.agg [(vstr k1.use),(.func (.func 125) [].toArray [].toArray)].toArray)] [] (fun (h:Unit)=>((vstr r),[])):=by
 unfold Z3b at hr
 refine fn_ok Tryz.func221 R 5 R R fun C V=>?_
 refine cN V ?_
 refine o_2 ?_
 refine lBx R fun b2=>?_
 refine lO (vp (vstr ([]:Str)) R) (l_nil ?_)
 let W1:List HP:=bxl b2 [(vstr k1.use),(.func (.func 125) [].toArray [].toArray)] 145::V
 refine qN W1 ?_
 refine o_5 ?_
 refine lO (vp (vstr k1.use) R) ?_
 refine o_3 ?_
 obtain rfl:=so hr
 exact qF () (tE 1 [])
theorem Z36_ok  {k1:shiftKind}{q2:Int}{q4:Int}{b3:Nat}{b5:Nat}{b7:Nat}{r:Str}(hr:Z36 k1 q2 q4=some r) :
 FnOk Tryz.prog 221 [(.agg [(vstr k1.use),(.func (.func 149) [].toArray [(pt b3 0),(pt b5 0),(pt b7 0)].toArray)].toArray)] [bxl b3 [(iv q2)] 3,bxl b5 [(iv q4)] 3,bxl b7 [(.func (.func 127) [].toArray [].toArray)] 150] (fun (h:Unit)=>((vstr r),[bxl b3 [(iv q2)] 3,bxl b5 [(iv q4)] 3,bxl b7 [(.func (.func 127) [].toArray [].toArray)] 150])):=by
 unfold Z36 at hr
 refine fn_ok Tryz.func221 R 5 R R fun C V=>?_
 refine cN (_::_::_::V) ?_
 refine o_2 ?_
 refine lBx R fun b8=>?_
 refine lO (vp (vstr ([]:Str)) R) (l_nil ?_)
 let W1:List HP:=bxl b8 [(vstr k1.use),(.func (.func 149) [].toArray [(pt b3 0),(pt b5 0),(pt b7 0)].toArray)] 145::bxl b3 [(iv q2)] 3::bxl b5 [(iv q4)] 3::bxl b7 [(.func (.func 127) [].toArray [].toArray)] 150::V
 refine qN W1 ?_
 refine o_5 ?_
 refine lO (vp (vstr k1.use) R) ?_
 refine o_3 ?_
 obtain rfl:=so hr
 exact qF () (fun w s=>(s.f 4 [1,3]))
theorem Z37_ok  {k1:shiftKind}{q2:Int}{q4:Int}{b3:Nat}{b5:Nat}{b7:Nat}{r:Str}(hr:Z37 k1 q2 q4=some r) :
 FnOk Tryz.prog 221 [(.agg [(vstr k1.use),(.func (.func 149) [].toArray [(pt b3 0),(pt b5 0),(pt b7 0)].toArray)].toArray)] [bxl b3 [(iv q2)] 3,bxl b5 [(iv q4)] 3,bxl b7 [(.func (.func 129) [].toArray [].toArray)] 150] (fun (h:Unit)=>((vstr r),[bxl b3 [(iv q2)] 3,bxl b5 [(iv q4)] 3,bxl b7 [(.func (.func 129) [].toArray [].toArray)] 150])):=by
 unfold Z37 at hr
 refine fn_ok Tryz.func221 R 5 R R fun C V=>?_
 refine cN (_::_::_::V) ?_
 refine o_2 ?_
 refine lBx R fun b8=>?_
 refine lO (vp (vstr ([]:Str)) R) (l_nil ?_)
 let W1:List HP:=bxl b8 [(vstr k1.use),(.func (.func 149) [].toArray [(pt b3 0),(pt b5 0),(pt b7 0)].toArray)] 145::bxl b3 [(iv q2)] 3::bxl b5 [(iv q4)] 3::bxl b7 [(.func (.func 129) [].toArray [].toArray)] 150::V
 refine qN W1 ?_
 refine o_5 ?_
 refine lO (vp (vstr k1.use) R) ?_
 refine o_3 ?_
 obtain rfl:=so hr
 exact qF () (fun w s=>(s.f 4 [1,3]))
theorem Z38_ok  {k1:shiftKind}{q2:Int}{q4:Int}{b3:Nat}{b5:Nat}{b7:Nat}{r:Str}(hr:Z38 k1 q2 q4=some r) :
 FnOk Tryz.prog 221 [(.agg [(vstr k1.use),(.func (.func 149) [].toArray [(pt b3 0),(pt b5 0),(pt b7 0)].toArray)].toArray)] [bxl b3 [(iv q2)] 3,bxl b5 [(iv q4)] 3,bxl b7 [(.func (.func 131) [].toArray [].toArray)] 150] (fun (h:Unit)=>((vstr r),[bxl b3 [(iv q2)] 3,bxl b5 [(iv q4)] 3,bxl b7 [(.func (.func 131) [].toArray [].toArray)] 150])):=by
 unfold Z38 at hr
 refine fn_ok Tryz.func221 R 5 R R fun C V=>?_
 refine cN (_::_::_::V) ?_
 refine o_2 ?_
 refine lBx R fun b8=>?_
 refine lO (vp (vstr ([]:Str)) R) (l_nil ?_)
 let W1:List HP:=bxl b8 [(vstr k1.use),(.func (.func 149) [].toArray [(pt b3 0),(pt b5 0),(pt b7 0)].toArray)] 145::bxl b3 [(iv q2)] 3::bxl b5 [(iv q4)] 3::bxl b7 [(.func (.func 131) [].toArray [].toArray)] 150::V
 refine qN W1 ?_
 refine o_5 ?_
 refine lO (vp (vstr k1.use) R) ?_
 refine o_3 ?_
 obtain rfl:=so hr
 exact qF () (fun w s=>(s.f 4 [1,3]))
theorem Z39_ok  {k1:shiftKind}{q2:Int}{q4:Int}{b3:Nat}{b5:Nat}{b7:Nat}{r:Str}(hr:Z39 k1 q2 q4=some r) :
 FnOk Tryz.prog 221 [(.agg [(vstr k1.use),(.func (.func 149) [].toArray [(pt b3 0),(pt b5 0),(pt b7 0)].toArray)].toArray)] [bxl b3 [(iv q2)] 3,bxl b5 [(iv q4)] 3,bxl b7 [(.func (.func 133) [].toArray [].toArray)] 150] (fun (h:Unit)=>((vstr r),[bxl b3 [(iv q2)] 3,bxl b5 [(iv q4)] 3,bxl b7 [(.func (.func 133) [].toArray [].toArray)] 150])):=by
 unfold Z39 at hr
 refine fn_ok Tryz.func221 R 5 R R fun C V=>?_
 refine cN (_::_::_::V) ?_
 refine o_2 ?_
 refine lBx R fun b8=>?_
 refine lO (vp (vstr ([]:Str)) R) (l_nil ?_)
 let W1:List HP:=bxl b8 [(vstr k1.use),(.func (.func 149) [].toArray [(pt b3 0),(pt b5 0),(pt b7 0)].toArray)] 145::bxl b3 [(iv q2)] 3::bxl b5 [(iv q4)] 3::bxl b7 [(.func (.func 133) [].toArray [].toArray)] 150::V
 refine qN W1 ?_
 refine o_5 ?_
 refine lO (vp (vstr k1.use) R) ?_
 refine o_3 ?_
 obtain rfl:=so hr
 exact qF () (fun w s=>(s.f 4 [1,3]))
theorem kindOfR_uses_ok  {r:kindOfR}{h0 h1 h2:Nat}{q:Str}(hr:kindOfR_uses r=some q) :
 InvOk Tryz.prog (kindOfRV r (h0,h1,h2)) "loop.example/g00033/impl.uses" [] [kindOfRE r (h0,h1,h2)] (fun (h:Unit)=>((vstr q),[kindOfRE r (h0,h1,h2)])):=by
 unfold kindOfR_uses at hr
 rcases bif_ hr with ⟨e0,hr⟩|⟨e0,hr⟩
 ·cases hr
 rcases bif_ hr with ⟨e1,hr⟩|⟨e1,hr⟩
 ·obtain ⟨t,b0,i0,i1,s0⟩:=r
  obtain rfl:=Nat.eq_of_beq_eq_true e1
  exact InvOk.mk (me136_uses _) (((Z34_ok hr).perm (Pre':=[pk []]) (fun _ _ _ s=>St.unpack (A:=[]) s)).post id (fun _=>rfl) (fun _ _ _ _ s=>St.pack (A:=[]) (s)))
 rcases bif_ hr with ⟨e2,hr⟩|⟨e2,hr⟩
 ·obtain ⟨t,b0,i0,i1,s0⟩:=r
  obtain rfl:=Nat.eq_of_beq_eq_true e2
  exact InvOk.mk (me138_uses _) (((Z35_ok hr).perm (Pre':=[pk []]) (fun _ _ _ s=>St.unpack (A:=[]) s)).post id (fun _=>rfl) (fun _ _ _ _ s=>St.pack (A:=[]) (s)))
 rcases bif_ hr with ⟨e3,hr⟩|⟨e3,hr⟩
 ·obtain ⟨t,b0,i0,i1,s0⟩:=r
  obtain rfl:=Nat.eq_of_beq_eq_true e3
  exact InvOk.mk (me139_uses _) (((Z3c_ok hr).perm (Pre':=[pk []]) (fun _ _ _ s=>St.unpack (A:=[]) s)).post id (fun _=>rfl) (fun _ _ _ _ s=>St.pack (A:=[]) (s)))
 rcases bif_ hr with ⟨e4,hr⟩|⟨e4,hr⟩
 ·obtain ⟨t,b0,i0,i1,s0⟩:=r
  obtain rfl:=Nat.eq_of_beq_eq_true e4
  exact InvOk.mk (me141_uses _) (((Z3d_ok (k1:=⟨⟩) hr).perm (Pre':=[pk []]) (fun _ _ _ s=>St.unpack (A:=[]) s)).post id (fun _=>rfl) (fun _ _ _ _ s=>St.pack (A:=[]) (s)))
 rcases bif_ hr with ⟨e5,hr⟩|⟨e5,hr⟩
 ·obtain ⟨t,b0,i0,i1,s0⟩:=r
  obtain rfl:=Nat.eq_of_beq_eq_true e5
  exact InvOk.mk (me142_uses _) (((Z33_ok (k1:=⟨⟩) hr).perm (Pre':=[pk []]) (fun _ _ _ s=>St.unpack (A:=[]) s)).post id (fun _=>rfl) (fun _ _ _ _ s=>St.pack (A:=[]) (s)))
 rcases bif_ hr with ⟨e6,hr⟩|⟨e6,hr⟩
 ·obtain ⟨t,b0,i0,i1,s0⟩:=r
  obtain rfl:=Nat.eq_of_beq_eq_true e6
  exact InvOk.mk (me145_uses _) (((Z3a_ok hr).perm (Pre':=[pk []]) (fun _ _ _ s=>St.unpack (A:=[]) s)).post id (fun _=>rfl) (fun _ _ _ _ s=>St.pack (A:=[]) (s)))
 rcases bif_ hr with ⟨e7,hr⟩|⟨e7,hr⟩
 ·obtain ⟨t,b0,i0,i1,s0⟩:=r
  obtain rfl:=Nat.eq_of_beq_eq_true e7
  exact InvOk.mk (me145_uses _) (((Z3b_ok hr).perm (Pre':=[pk []]) (fun _ _ _ s=>St.unpack (A:=[]) s)).post id (fun _=>rfl) (fun _ _ _ _ s=>St.pack (A:=[]) (s)))
 rcases bif_ hr with ⟨e8,hr⟩|⟨e8,hr⟩
 ·obtain ⟨t,b0,i0,i1,s0⟩:=r
  obtain rfl:=Nat.eq_of_beq_eq_true e8
  exact InvOk.mk (me145_uses _) (((Z36_ok hr).perm (Pre':=[pk [bxl h0 [(iv i0)] 3,bxl h1 [(iv i1)] 3,bxl h2 [(.func (.func 127) [].toArray [].toArray)] 150]]) (fun _ _ _ s=>St.unpack (A:=[bxl h0 [(iv i0)] 3,bxl h1 [(iv i1)] 3,bxl h2 [(.func (.func 127) [].toArray [].toArray)] 150]) s)).post id (fun _=>rfl) (fun _ _ _ _ s=>St.pack (A:=[bxl h0 [(iv i0)] 3,bxl h1 [(iv i1)] 3,bxl h2 [(.func (.func 127) [].toArray [].toArray)] 150]) (s)))
 rcases bif_ hr with ⟨e9,hr⟩|⟨e9,hr⟩
 ·obtain ⟨t,b0,i0,i1,s0⟩:=r
  obtain rfl:=Nat.eq_of_beq_eq_true e9
  exact InvOk.mk (me145_uses _) (((Z37_ok hr).perm (Pre':=[pk [bxl h0 [(iv i0)] 3,bxl h1 [(iv i1)] 3,bxl h2 [(.func (.func 129) [].toArray [].toArray)] 150]]) (fun _ _ _ s=>St.unpack (A:=[bxl h0 [(iv i0)] 3,bxl h1 [(iv i1)] 3,bxl h2 [(.func (.func 129) [].toArray [].toArray)] 150]) s)).post id (fun _=>rfl) (fun _ _ _ _ s=>St.pack (A:=[bxl h0 [(iv i0)] 3,bxl h1 [(iv i1)] 3,bxl h2 [(.func (.func 129) [].toArray [].toArray)] 150]) (s)))
 rcases bif_ hr with ⟨e10,hr⟩|⟨e10,hr⟩
 ·obtain ⟨t,b0,i0,i1,s0⟩:=r
  obtain rfl:=Nat.eq_of_beq_eq_true e10
  exact InvOk.mk (me145_uses _) (((Z38_ok hr).perm (Pre':=[pk [bxl h0 [(iv i0)] 3,bxl h1 [(iv i1)] 3,bxl h2 [(.func (.func 131) [].toArray [].toArray)] 150]]) (fun _ _ _ s=>St.unpack (A:=[bxl h0 [(iv i0)] 3,bxl h1 [(iv i1)] 3,bxl h2 [(.func (.func 131) [].toArray [].toArray)] 150]) s)).post id (fun _=>rfl) (fun _ _ _ _ s=>St.pack (A:=[bxl h0 [(iv i0)] 3,bxl h1 [(iv i1)] 3,bxl h2 [(.func (.func 131) [].toArray [].toArray)] 150]) (s)))
 have hV:kindOfRV r (h0,h1,h2)=(.iface 145 (.agg [(vstr r.s0),(.func (.func 149) [].toArray [(pt h0 0),(pt h1 0),(pt h2 0)].toArray)].toArray)):=by simp only [kindOfRV,e0,e1,e2,e3,e4,e5,e6,e7,e8,e9,e10,cond_false]
 have hE:kindOfRE r (h0,h1,h2)=pk [bxl h0 [(iv r.i0)] 3,bxl h1 [(iv r.i1)] 3,bxl h2 [(.func (.func 133) [].toArray [].toArray)] 150]:=by simp only [kindOfRE,e0,e1,e2,e3,e4,e5,e6,e7,e8,e9,e10,cond_false]
 rw [hV,hE]
 exact InvOk.mk (me145_uses _) (((Z39_ok hr).perm (Pre':=[pk [bxl h0 [(iv r.i0)] 3,bxl h1 [(iv r.i1)] 3,bxl h2 [(.func (.func 133) [].toArray [].toArray)] 150]]) (fun _ _ _ s=>St.unpack (A:=[bxl h0 [(iv r.i0)] 3,bxl h1 [(iv r.i1)] 3,bxl h2 [(.func (.func 133) [].toArray [].toArray)] 150]) s)).post id (fun _=>rfl) (fun _ _ _ _ s=>St.pack (A:=[bxl h0 [(iv r.i0)] 3,bxl h1 [(iv r.i1)] 3,bxl h2 [(.func (.func 133) [].toArray [].toArray)] 150]) (s)))
theorem internal_stringslite_Index_ok  {s1 s2:Str}{mG:Int}{r:Int}(hr:internal_stringslite_Index s1 s2=some r) :
 FnOk Tryz.prog 162 [(vstr s1),(vstr s2)] [gl 0 mG] (fun (_:Unit)=>((iv r),[])):=by
 unfold internal_stringslite_Index at hr
 obtain ⟨hg,hr⟩:=gd hr
 obtain rfl:=so hr
 exact fn_gl fun w hm=>Tryz.stringslite_Index ⟨s1.toArray⟩ ⟨s2.toArray⟩ mG w (by simpa [ByteArray.size] using hg) hm
theorem Z21_ok  {p1:Str}{substr2:Str}{mG:Int}{r:Int}(hr:Z21 p1 substr2=some r) :
 FnOk Tryz.prog 154 [(vstr p1),(vstr substr2)] [gl 0 mG] (fun (h:Unit)=>((iv r),[])):=by
 unfold Z21 at hr
 refine fn_ok Tryz.func154 R 8 R R fun C V=>?_
 refine cN (_::V) ?_
 let W0:List HP:=gl 0 mG::V
 refine cN W0 ?_
 refine o_6 ?_
 obtain ⟨r3,hx4,hr⟩:=bd hr
 refine c_region (lO (vp (vstr p1) R) (lO (vp (vstr substr2) R) (lM (gl 0 mG::W0) (fun w s=>(s.dg 0 R)) ?_)))
 refine lC 1 cb162 R (internal_stringslite_Index_ok hx4) R ?_
 rintro _
 refine lN W0 ?_
 refine o_4 ?_
 obtain rfl:=so hr
 exact qF () (tE 1 [])
theorem Z3f_ok  {p1:Str}{substr2:Str}{mG:Int}{r:Bool}(hr:Z3f p1 substr2=some r) :
 FnOk Tryz.prog 136 [(vstr p1),(vstr substr2)] [gl 0 mG] (fun (h:Unit)=>((.bool r),[])):=by
 unfold Z3f at hr
 refine fn_ok Tryz.func136 R 9 R R fun C V=>?_
 refine cN (_::V) ?_
 let W0:List HP:=gl 0 mG::V
 refine cN W0 ?_
 refine o_6 ?_
 obtain ⟨r3,hx4,hr⟩:=bd hr
 refine c_region (lO (vp (vstr p1) R) (lO (vp (vstr substr2) R) (lM (gl 0 mG::W0) (fun w s=>(s.dg 0 R)) ?_)))
 refine lC 1 cb154 R (Z21_ok hx4) R ?_
 rintro _
 refine lN W0 ?_
 refine o_5 ?_
 obtain rfl:=so hr
 exact qF () (tE 1 [])
theorem Z6_ok  {c1:Str}{p2:Str}{mG:Int}{b3:Nat}{r:Bool}(hr:Z6 c1 p2=some r) :
 FnOk Tryz.prog 135 [(vstr c1),(pt b3 0)] [bxl b3 [(vstr p2)] 9,gl 0 mG] (fun (h:Unit)=>((.bool r),[bxl b3 [(vstr p2)] 9])):=by
 unfold Z6 at hr
 refine fn_ok Tryz.func135 R 7 R R fun C V=>?_
 refine cN (_::_::V) ?_
 let W0:List HP:=gl 0 mG::V
 refine cN (_::W0) ?_
 refine o_4 ?_
 let W1:List HP:=bxl b3 [(vstr p2)] 9::W0
 refine qN W1 ?_
 refine o_2 ?_
 obtain ⟨r4,hx5,hr⟩:=bd hr
 refine o_2 ?_
 refine lO (vp (vstr c1) R) (lM (gl 0 mG::W1) (fun w s=>(s.dg 1 R)) ?_)
 refine lC 1 cb136 R (Z3f_ok hx5) R ?_
 rintro _
 refine lN W1 ?_
 refine o_4 ?_
 obtain rfl:=so hr
 exact qF () (tE 2 [0])
theorem Z1m_ok  {n1:Node}{uses6:Str}{mG:Int}{r:Bool}(hr:Z1m n1 uses6=some r) :
 FnOk Tryz.prog 97 [(.agg [(iv n1.Op),(.slice A2 N2 D2),(.slice A3 N3 D3),(.slice A4 N4 D4),(vstr n1.Form),(.slice A5 N5 D5)].toArray),(vstr uses6)] [rds kT3 (.slice A2 N2 D2) n1.Args,rds kT3 (.slice A3 N3 D3) n1.Dims,rds kT3 (.slice A4 N4 D4) n1.Ints,rds kT3 (.slice A5 N5 D5) n1.Data,gl 0 mG] (fun (h:Unit)=>((.bool r),[])):=by
 unfold Z1m at hr
 refine fn_ok Tryz.func97 R 44 R R fun C V=>?_
 refine cN (_::_::_::_::_::V) ?_
 refine cL 0 sees_rd ?_
 rintro rfl
 refine cL 1 sees_rd ?_
 rintro rfl
 refine cL 2 sees_rd ?_
 rintro rfl
 refine cL 3 sees_rd ?_
 rintro rfl
 let W0:List HP:=RR kT3 A2 D2 n1.Args::RR kT3 A3 D3 n1.Dims::RR kT3 A4 D4 n1.Ints::RR kT3 A5 D5 n1.Data::gl 0 mG::V
 refine cN W0 ?_
 refine o_2 ?_
 refine lBx R fun b7=>?_
 refine l_box (cs:=[(vstr uses6)]) R R R (fun b8=>(lB R (l_nil ?_)))
 let W1:List HP:=bxl b7 [(iv n1.Op),(sc A2 n1.Args D2),(sc A3 n1.Dims D3),(sc A4 n1.Ints D4),(vstr n1.Form),(sc A5 n1.Data D5)] 54::W0
 refine qN (_::W1) ?_
 refine o_3 ?_
 refine lO (vp (.func (.func 135) [].toArray [(pt b8 0)].toArray) R) (lO (vp _ R) ?_)
 refine o_3 ?_
 obtain ⟨r9,hx10,hr⟩:=bd hr
 obtain ⟨r11,hx12,hr⟩:=bd hr
 obtain ⟨r13,hx14,hr⟩:=bd hr
 obtain ⟨r15,hx16,hr⟩:=bd hr
 refine cQ [(4,(.bool ((((r9||((n1.Dims.length:Int)==(0:Int)))&&(r11||((n1.Ints.length:Int)==(0:Int))))&&(r13||(n1.Form==([]:Str))))&&(r15||((n1.Data.length:Int)==(0:Int))))))] (W1) ?_ ?_
 refine c_region (lO (vp _ R) (lM (bxl _ _ _::gl 0 mG::W1) (fun w s=>((s.dg 6 R).e 2 [1,0])) ?_))
 refine l_callvn (fs:=[]) (cs:=[(pt b8 0)]) 2 R R cb135 R R (Z6_ok hx10) R ?_
 rintro _
 refine lN (_::W1) ?_
 refine o_1 ?_
 rcases bo r9 with hc17 | hc17
 refine o_4 ?_
 refine lO (pOT ((n1.Dims.length:Int)==(0:Int)) R hc17) (lB R (lW (wnT (oT hc17)) (vp _ R) (lM (bxl _ _ _::gl 0 mG::W1) (fun w s=>((s.dg 6 R).e 2 [1,0])) ?_)))
 refine l_callvn (fs:=[]) (cs:=[(pt b8 0)]) 2 R (wnT (oT hc17)) cb135 R R (Z6_ok (gcall_t hx12 (oT hc17))) R ?_
 rintro _
 refine lN (_::W1) ?_
 refine o_1 ?_
 rcases bo r11 with hc18 | hc18
 refine o_4 ?_
 refine lW (wnT (oT hc17)) (pOT ((n1.Ints.length:Int)==(0:Int)) R hc18) (lO (pAT R (oT hc17) R) (lB R ?_))
 rcases bo ((r9||((n1.Dims.length:Int)==(0:Int)))&&(r11||((n1.Ints.length:Int)==(0:Int)))) with hc19 | hc19
 refine lW (wnT hc19) (vp _ R) (lM (bxl _ _ _::gl 0 mG::W1) (fun w s=>((s.dg 6 R).e 2 [1,0])) ?_)
 refine l_callvn (fs:=[]) (cs:=[(pt b8 0)]) 2 R (wnT hc19) cb135 R R (Z6_ok (gcall_t hx14 hc19)) R ?_
 rintro _
 refine lN (_::W1) ?_
 refine o_1 ?_
 rcases bo r13 with hc20 | hc20
 refine o_3 ?_
 refine lW (wnT hc19) (pOT (n1.Form==([]:Str)) R hc20) (lO (pAT R hc19 R) (lB R ?_))
 rcases bo (((r9||((n1.Dims.length:Int)==(0:Int)))&&(r11||((n1.Ints.length:Int)==(0:Int))))&&(r13||(n1.Form==([]:Str)))) with hc21 | hc21
 refine lW (wnT hc21) (vp _ R) (lM (bxl _ _ _::gl 0 mG::W1) (fun w s=>((s.dg 6 R).e 2 [1,0])) ?_)
 refine l_callvn (fs:=[]) (cs:=[(pt b8 0)]) 2 R (wnT hc21) cb135 R R (Z6_ok (gcall_t hx16 hc21)) R ?_
 rintro _
 refine lN (_::W1) ?_
 refine o_1 ?_
 rcases bo r15 with hc22 | hc22
 refine o_4 ?_
 refine lW (wnT hc21) (pOT ((n1.Data.length:Int)==(0:Int)) R hc22) (lO (pAT R hc21 R) ?_)
 refine o_2 ?_
 exact qj (tE 1 [])
 refine o_4 ?_
 refine lW (wnT hc21) (pOF R hc22 R) (lO (pAT R hc21 R) ?_)
 refine o_2 ?_
 exact qj (tE 1 [])
 refine o_8 ?_
 refine lO (pAF (r15||((n1.Data.length:Int)==(0:Int))) R hc21) ?_
 refine o_2 ?_
 exact qj (tE 1 [])
 refine o_2 ?_
 refine lW (wnF hc20) (vz (.bool (n1.Form==([]:Str))) (v_scmp R R R)) (lW (wnT hc19) (pOF R hc20 R) (lO (pAT R hc19 R) (lB R ?_)))
 rcases bo (((r9||((n1.Dims.length:Int)==(0:Int)))&&(r11||((n1.Ints.length:Int)==(0:Int))))&&(r13||(n1.Form==([]:Str)))) with hc23 | hc23
 refine lW (wnT hc23) (vp _ R) (lM (bxl _ _ _::gl 0 mG::W1) (fun w s=>((s.dg 6 R).e 2 [1,0])) ?_)
 refine l_callvn (fs:=[]) (cs:=[(pt b8 0)]) 2 R (wnT hc23) cb135 R R (Z6_ok (gcall_t hx16 hc23)) R ?_
 rintro _
 refine lN (_::W1) ?_
 refine o_1 ?_
 rcases bo r15 with hc24 | hc24
 refine o_4 ?_
 refine lW (wnT hc23) (pOT ((n1.Data.length:Int)==(0:Int)) R hc24) (lO (pAT R hc23 R) ?_)
 refine o_2 ?_
 exact qj (tE 1 [])
 refine o_4 ?_
 refine lW (wnT hc23) (pOF R hc24 R) (lO (pAT R hc23 R) ?_)
 refine o_2 ?_
 exact qj (tE 1 [])
 refine o_8 ?_
 refine lO (pAF (r15||((n1.Data.length:Int)==(0:Int))) R hc23) ?_
 refine o_2 ?_
 exact qj (tE 1 [])
 refine o_7 ?_
 refine lO (pAF (r13||(n1.Form==([]:Str))) R hc19) ?_
 refine o_9 ?_
 refine lO (pAF (r15||((n1.Data.length:Int)==(0:Int))) R (aF hc19)) ?_
 refine o_2 ?_
 exact qj (tE 1 [])
 refine o_4 ?_
 refine lW (wnT (oT hc17)) (pOF R hc18 R) (lO (pAT R (oT hc17) R) (lB R ?_))
 rcases bo ((r9||((n1.Dims.length:Int)==(0:Int)))&&(r11||((n1.Ints.length:Int)==(0:Int)))) with hc25 | hc25
 refine lW (wnT hc25) (vp _ R) (lM (bxl _ _ _::gl 0 mG::W1) (fun w s=>((s.dg 6 R).e 2 [1,0])) ?_)
 refine l_callvn (fs:=[]) (cs:=[(pt b8 0)]) 2 R (wnT hc25) cb135 R R (Z6_ok (gcall_t hx14 hc25)) R ?_
 rintro _
 refine lN (_::W1) ?_
 refine o_1 ?_
 rcases bo r13 with hc26 | hc26
 refine o_3 ?_
 refine lW (wnT hc25) (pOT (n1.Form==([]:Str)) R hc26) (lO (pAT R hc25 R) (lB R ?_))
 rcases bo (((r9||((n1.Dims.length:Int)==(0:Int)))&&(r11||((n1.Ints.length:Int)==(0:Int))))&&(r13||(n1.Form==([]:Str)))) with hc27 | hc27
 refine lW (wnT hc27) (vp _ R) (lM (bxl _ _ _::gl 0 mG::W1) (fun w s=>((s.dg 6 R).e 2 [1,0])) ?_)
 refine l_callvn (fs:=[]) (cs:=[(pt b8 0)]) 2 R (wnT hc27) cb135 R R (Z6_ok (gcall_t hx16 hc27)) R ?_
 rintro _
 refine lN (_::W1) ?_
 refine o_1 ?_
 rcases bo r15 with hc28 | hc28
 refine o_4 ?_
 refine lW (wnT hc27) (pOT ((n1.Data.length:Int)==(0:Int)) R hc28) (lO (pAT R hc27 R) ?_)
 refine o_2 ?_
 exact qj (tE 1 [])
 refine o_4 ?_
 refine lW (wnT hc27) (pOF R hc28 R) (lO (pAT R hc27 R) ?_)
 refine o_2 ?_
 exact qj (tE 1 [])
 refine o_8 ?_
 refine lO (pAF (r15||((n1.Data.length:Int)==(0:Int))) R hc27) ?_
 refine o_2 ?_
 exact qj (tE 1 [])
 refine o_2 ?_
 refine lW (wnF hc26) (vz (.bool (n1.Form==([]:Str))) (v_scmp R R R)) (lW (wnT hc25) (pOF R hc26 R) (lO (pAT R hc25 R) (lB R ?_)))
 rcases bo (((r9||((n1.Dims.length:Int)==(0:Int)))&&(r11||((n1.Ints.length:Int)==(0:Int))))&&(r13||(n1.Form==([]:Str)))) with hc29 | hc29
 refine lW (wnT hc29) (vp _ R) (lM (bxl _ _ _::gl 0 mG::W1) (fun w s=>((s.dg 6 R).e 2 [1,0])) ?_)
 refine l_callvn (fs:=[]) (cs:=[(pt b8 0)]) 2 R (wnT hc29) cb135 R R (Z6_ok (gcall_t hx16 hc29)) R ?_
 rintro _
 refine lN (_::W1) ?_
 refine o_1 ?_
 rcases bo r15 with hc30 | hc30
 refine o_4 ?_
 refine lW (wnT hc29) (pOT ((n1.Data.length:Int)==(0:Int)) R hc30) (lO (pAT R hc29 R) ?_)
 refine o_2 ?_
 exact qj (tE 1 [])
 refine o_4 ?_
 refine lW (wnT hc29) (pOF R hc30 R) (lO (pAT R hc29 R) ?_)
 refine o_2 ?_
 exact qj (tE 1 [])
 refine o_8 ?_
 refine lO (pAF (r15||((n1.Data.length:Int)==(0:Int))) R hc29) ?_
 refine o_2 ?_
 exact qj (tE 1 [])
 refine o_7 ?_
 refine lO (pAF (r13||(n1.Form==([]:Str))) R hc25) ?_
 refine o_9 ?_
 refine lO (pAF (r15||((n1.Data.length:Int)==(0:Int))) R (aF hc25)) ?_
 refine o_2 ?_
 exact qj (tE 1 [])
 refine o_4 ?_
 refine lO (pOF R hc17 R) (lB R ?_)
 rcases bo (r9||((n1.Dims.length:Int)==(0:Int))) with hc31 | hc31
 refine lW (wnT hc31) (vp _ R) (lM (bxl _ _ _::gl 0 mG::W1) (fun w s=>((s.dg 6 R).e 2 [1,0])) ?_)
 refine l_callvn (fs:=[]) (cs:=[(pt b8 0)]) 2 R (wnT hc31) cb135 R R (Z6_ok (gcall_t hx12 hc31)) R ?_
 rintro _
 refine lN (_::W1) ?_
 refine o_1 ?_
 rcases bo r11 with hc32 | hc32
 refine o_4 ?_
 refine lW (wnT hc31) (pOT ((n1.Ints.length:Int)==(0:Int)) R hc32) (lO (pAT R hc31 R) (lB R ?_))
 rcases bo ((r9||((n1.Dims.length:Int)==(0:Int)))&&(r11||((n1.Ints.length:Int)==(0:Int)))) with hc33 | hc33
 refine lW (wnT hc33) (vp _ R) (lM (bxl _ _ _::gl 0 mG::W1) (fun w s=>((s.dg 6 R).e 2 [1,0])) ?_)
 refine l_callvn (fs:=[]) (cs:=[(pt b8 0)]) 2 R (wnT hc33) cb135 R R (Z6_ok (gcall_t hx14 hc33)) R ?_
 rintro _
 refine lN (_::W1) ?_
 refine o_1 ?_
 rcases bo r13 with hc34 | hc34
 refine o_3 ?_
 refine lW (wnT hc33) (pOT (n1.Form==([]:Str)) R hc34) (lO (pAT R hc33 R) (lB R ?_))
 rcases bo (((r9||((n1.Dims.length:Int)==(0:Int)))&&(r11||((n1.Ints.length:Int)==(0:Int))))&&(r13||(n1.Form==([]:Str)))) with hc35 | hc35
 refine lW (wnT hc35) (vp _ R) (lM (bxl _ _ _::gl 0 mG::W1) (fun w s=>((s.dg 6 R).e 2 [1,0])) ?_)
 refine l_callvn (fs:=[]) (cs:=[(pt b8 0)]) 2 R (wnT hc35) cb135 R R (Z6_ok (gcall_t hx16 hc35)) R ?_
 rintro _
 refine lN (_::W1) ?_
 refine o_1 ?_
 rcases bo r15 with hc36 | hc36
 refine o_4 ?_
 refine lW (wnT hc35) (pOT ((n1.Data.length:Int)==(0:Int)) R hc36) (lO (pAT R hc35 R) ?_)
 refine o_2 ?_
 exact qj (tE 1 [])
 refine o_4 ?_
 refine lW (wnT hc35) (pOF R hc36 R) (lO (pAT R hc35 R) ?_)
 refine o_2 ?_
 exact qj (tE 1 [])
 refine o_8 ?_
 refine lO (pAF (r15||((n1.Data.length:Int)==(0:Int))) R hc35) ?_
 refine o_2 ?_
 exact qj (tE 1 [])
 refine o_2 ?_
 refine lW (wnF hc34) (vz (.bool (n1.Form==([]:Str))) (v_scmp R R R)) (lW (wnT hc33) (pOF R hc34 R) (lO (pAT R hc33 R) (lB R ?_)))
 rcases bo (((r9||((n1.Dims.length:Int)==(0:Int)))&&(r11||((n1.Ints.length:Int)==(0:Int))))&&(r13||(n1.Form==([]:Str)))) with hc37 | hc37
 refine lW (wnT hc37) (vp _ R) (lM (bxl _ _ _::gl 0 mG::W1) (fun w s=>((s.dg 6 R).e 2 [1,0])) ?_)
 refine l_callvn (fs:=[]) (cs:=[(pt b8 0)]) 2 R (wnT hc37) cb135 R R (Z6_ok (gcall_t hx16 hc37)) R ?_
 rintro _
 refine lN (_::W1) ?_
 refine o_1 ?_
 rcases bo r15 with hc38 | hc38
 refine o_4 ?_
 refine lW (wnT hc37) (pOT ((n1.Data.length:Int)==(0:Int)) R hc38) (lO (pAT R hc37 R) ?_)
 refine o_2 ?_
 exact qj (tE 1 [])
 refine o_4 ?_
 refine lW (wnT hc37) (pOF R hc38 R) (lO (pAT R hc37 R) ?_)
 refine o_2 ?_
 exact qj (tE 1 [])
 refine o_8 ?_
 refine lO (pAF (r15||((n1.Data.length:Int)==(0:Int))) R hc37) ?_
 refine o_2 ?_
 exact qj (tE 1 [])
 refine o_7 ?_
 refine lO (pAF (r13||(n1.Form==([]:Str))) R hc33) ?_
 refine o_9 ?_
 refine lO (pAF (r15||((n1.Data.length:Int)==(0:Int))) R (aF hc33)) ?_
 refine o_2 ?_
 exact qj (tE 1 [])
 refine o_4 ?_
 refine lW (wnT hc31) (pOF R hc32 R) (lO (pAT R hc31 R) (lB R ?_))
 rcases bo ((r9||((n1.Dims.length:Int)==(0:Int)))&&(r11||((n1.Ints.length:Int)==(0:Int)))) with hc39 | hc39
 refine lW (wnT hc39) (vp _ R) (lM (bxl _ _ _::gl 0 mG::W1) (fun w s=>((s.dg 6 R).e 2 [1,0])) ?_)
 refine l_callvn (fs:=[]) (cs:=[(pt b8 0)]) 2 R (wnT hc39) cb135 R R (Z6_ok (gcall_t hx14 hc39)) R ?_
 rintro _
 refine lN (_::W1) ?_
 refine o_1 ?_
 rcases bo r13 with hc40 | hc40
 refine o_3 ?_
 refine lW (wnT hc39) (pOT (n1.Form==([]:Str)) R hc40) (lO (pAT R hc39 R) (lB R ?_))
 rcases bo (((r9||((n1.Dims.length:Int)==(0:Int)))&&(r11||((n1.Ints.length:Int)==(0:Int))))&&(r13||(n1.Form==([]:Str)))) with hc41 | hc41
 refine lW (wnT hc41) (vp _ R) (lM (bxl _ _ _::gl 0 mG::W1) (fun w s=>((s.dg 6 R).e 2 [1,0])) ?_)
 refine l_callvn (fs:=[]) (cs:=[(pt b8 0)]) 2 R (wnT hc41) cb135 R R (Z6_ok (gcall_t hx16 hc41)) R ?_
 rintro _
 refine lN (_::W1) ?_
 refine o_1 ?_
 rcases bo r15 with hc42 | hc42
 refine o_4 ?_
 refine lW (wnT hc41) (pOT ((n1.Data.length:Int)==(0:Int)) R hc42) (lO (pAT R hc41 R) ?_)
 refine o_2 ?_
 exact qj (tE 1 [])
 refine o_4 ?_
 refine lW (wnT hc41) (pOF R hc42 R) (lO (pAT R hc41 R) ?_)
 refine o_2 ?_
 exact qj (tE 1 [])
 refine o_8 ?_
 refine lO (pAF (r15||((n1.Data.length:Int)==(0:Int))) R hc41) ?_
 refine o_2 ?_
 exact qj (tE 1 [])
 refine o_2 ?_
 refine lW (wnF hc40) (vz (.bool (n1.Form==([]:Str))) (v_scmp R R R)) (lW (wnT hc39) (pOF R hc40 R) (lO (pAT R hc39 R) (lB R ?_)))
 rcases bo (((r9||((n1.Dims.length:Int)==(0:Int)))&&(r11||((n1.Ints.length:Int)==(0:Int))))&&(r13||(n1.Form==([]:Str)))) with hc43 | hc43
 refine lW (wnT hc43) (vp _ R) (lM (bxl _ _ _::gl 0 mG::W1) (fun w s=>((s.dg 6 R).e 2 [1,0])) ?_)
 refine l_callvn (fs:=[]) (cs:=[(pt b8 0)]) 2 R (wnT hc43) cb135 R R (Z6_ok (gcall_t hx16 hc43)) R ?_
 rintro _
 refine lN (_::W1) ?_
 refine o_1 ?_
 rcases bo r15 with hc44 | hc44
 refine o_4 ?_
 refine lW (wnT hc43) (pOT ((n1.Data.length:Int)==(0:Int)) R hc44) (lO (pAT R hc43 R) ?_)
 refine o_2 ?_
 exact qj (tE 1 [])
 refine o_4 ?_
 refine lW (wnT hc43) (pOF R hc44 R) (lO (pAT R hc43 R) ?_)
 refine o_2 ?_
 exact qj (tE 1 [])
 refine o_8 ?_
 refine lO (pAF (r15||((n1.Data.length:Int)==(0:Int))) R hc43) ?_
 refine o_2 ?_
 exact qj (tE 1 [])
 refine o_7 ?_
 refine lO (pAF (r13||(n1.Form==([]:Str))) R hc39) ?_
 refine o_9 ?_
 refine lO (pAF (r15||((n1.Data.length:Int)==(0:Int))) R (aF hc39)) ?_
 refine o_2 ?_
 exact qj (tE 1 [])
 refine o_8 ?_
 refine lO (pAF (r11||((n1.Ints.length:Int)==(0:Int))) R hc31) ?_
 refine o_8 ?_
 refine lO (pAF (r13||(n1.Form==([]:Str))) R (aF hc31)) ?_
 refine o_9 ?_
 refine lO (pAF (r15||((n1.Data.length:Int)==(0:Int))) R (aF (aF hc31))) ?_
 refine o_2 ?_
 exact qj (tE 1 [])
 rintro σ1
 refine o_2 ?_
 obtain rfl:=so hr
 exact qF () (tE 6 [])
theorem Zb_ok  {dims1:(List Int)}{r:Bool}(hr:Zb dims1=some r) :
 FnOk Tryz.prog 147 [(.slice A2 N2 D2)] [rds kT3 (.slice A2 N2 D2) dims1] (fun (h:Unit)=>((.bool r),[])):=by
 unfold Zb at hr
 refine fn_ok Tryz.func147 R 27 R R fun C V=>?_
 refine cN (_::V) ?_
 refine cL 0 sees_rd ?_
 rintro rfl
 let W0:List HP:=RR kT3 A2 D2 dims1::V
 refine cN W0 ?_
 refine o_11 ?_
 refine c_cut (A:=(Unit)×(HH)) (fun a=>Zb_J1 dims1=some r) (fun a=>[(0,(s3 a.2))]) (fun a=>rds kT3 (s3 a.2) dims1::W0) ?_ ?_
 refine o_8 ?_
 obtain ⟨e1,hl1,hk1⟩:=bd hr
 refine c_loop (A:=HH) hl1 (fun s a=>[(0,(s3 a)),(3,(iv s.1)),(6,(s3 a)),(7,(il dims1)),(8,(iv s.2))]) (fun s a=>rds kT3 (s3 a) dims1::W0) (A2,dims1.length,D2) (aS R) (fun w s=>(s.d 0 R)) ?_
 rintro ⟨n11,x12⟩ ⟨A10,N10,D10⟩ σ1 out1 hr he1
 dsimp only [Zb_L1] at hr
 refine c_len 0 sees_rd (fun (hn:N10=dims1.length)=>?_)
 subst hn
 refine o_6 ?_
 rcases bif_ hr with ⟨_,hr⟩|⟨_,hr⟩
 refine o_6 ?_
 obtain ⟨hg14,hr⟩:=gd hr
 refine c_region (t_some 0 sees_rd (show 0<dims1.length by have:=hg14; omega) (fun g15 o16 ha=>?_))
 subst ha
 refine o_7 ?_
 refine cQ [(0,(sc (ad g15 o16) dims1 D10)),(3,(iv n11)),(5,(iv (ix dims1 x12))),(6,(sc (ad g15 o16) dims1 D10)),(7,(il dims1)),(8,(iv x12)),(17,(.bool ((decide ((ix dims1 x12)<(1:Int)))||(decide ((ix dims1 x12)>(4096:Int))))))] (RR kT3 (ad g15 o16) D10 dims1::W0) ?_ ?_
 refine o_4 ?_
 rcases bo (decide ((ix dims1 x12)<(1:Int))) with hc17 | hc17
 refine o_4 ?_
 exact qj tI
 refine o_4 ?_
 exact qj tI
 rintro σ1
 refine o_1 ?_
 rcases bif_ hr with ⟨_,hr⟩|⟨_,hr⟩
 refine o_10 ?_
 obtain rfl:=so hr
 obtain rfl:=he1 _ R
 have hr:=hk1
 refine o_3 ?_
 obtain rfl:=so hr
 exact qF () (tE 2 [])
 refine o_17 ?_
 rcases bif_ hr with ⟨_,hr⟩|⟨_,hr⟩
 refine o_9 ?_
 obtain rfl:=so hr
 obtain rfl:=he1 _ R
 have hr:=hk1
 refine o_3 ?_
 obtain rfl:=so hr
 exact qF () (tE 2 [])
 refine o_8 ?_
 obtain rfl:=so hr
 exact qA ((ad g15 o16),dims1.length,D10) tI
 refine o_3 ?_
 obtain rfl:=so hr
 obtain rfl:=he1 _ R
 have hr:=hk1
 refine o_2 ?_
 exact qI ((),(A10,dims1.length,D10)) hr tI
 rintro ⟨_,⟨A23,N23,D23⟩⟩ σ1 hr
 dsimp only [Zb_J1] at hr
 refine c_len 0 sees_rd (fun (hn:N23=dims1.length)=>?_)
 subst hn
 refine o_9 ?_
 obtain rfl:=so hr
 exact qF () (tE 2 [])
theorem Zj_ok  {dims1:(List Int)}{r:Int}(hr:Zj dims1=some r) :
 FnOk Tryz.prog 148 [(.slice A2 N2 D2)] [rds kT3 (.slice A2 N2 D2) dims1] (fun (h:Unit)=>((iv r),[])):=by
 unfold Zj at hr
 refine fn_ok Tryz.func148 R 17 R R fun C V=>?_
 refine cN (_::V) ?_
 refine cL 0 sees_rd ?_
 rintro rfl
 let W0:List HP:=RR kT3 A2 D2 dims1::V
 refine cN W0 ?_
 refine o_11 ?_
 refine c_cut (A:=(Int)×(Unit)) (fun a=>Zj_J1 a.1=some r) (fun a=>[(3,(iv a.1))]) (fun a=>W0) ?_ ?_
 refine o_8 ?_
 obtain ⟨e1,hl1,hk1⟩:=bd hr
 refine c_loop (A:=Unit) hl1 (fun s a=>[(3,(iv s.1)),(6,(sc A2 dims1 D2)),(7,(il dims1)),(8,(iv s.2))]) (fun s a=>W0) () (aS R) tI ?_
 rintro ⟨n7,x8⟩ _ σ1 out1 hr he1
 dsimp only [Zj_L1] at hr
 refine o_6 ?_
 rcases bif_ hr with ⟨_,hr⟩|⟨_,hr⟩
 refine o_6 ?_
 obtain ⟨hg10,hr⟩:=gd hr
 refine c_region (t_some 0 sees_rd (show 0<dims1.length by have:=hg10; omega) (fun g11 o12 ha=>?_))
 subst ha
 refine o_17 ?_
 obtain rfl:=so hr
 exact qA () tI
 refine o_3 ?_
 obtain rfl:=so hr
 obtain rfl:=he1 _ R
 have hr:=hk1
 refine o_2 ?_
 exact qI (n7,()) hr tI
 rintro ⟨n15,_⟩ σ1 hr
 dsimp only [Zj_J1] at hr
 refine o_7 ?_
 obtain rfl:=so hr
 exact qF () (tE 1 [])
theorem Z2r_ok  {p1:Int}{r:Bool}(hr:Z2r p1=some r) :
 FnOk Tryz.prog 196 [(iv p1)] [] (fun (h:Unit)=>((.bool r),[])):=by
 unfold Z2r at hr
 refine fn_ok Tryz.func196 R 9 R R fun C V=>?_
 refine cN V ?_
 refine o_6 ?_
 refine cQ [(2,(.bool ((decide (p1≥(0:Int)))&&(decide (p1<(2147483647:Int))))))] (V) ?_ ?_
 refine o_4 ?_
 rcases bo (decide (p1≥(0:Int))) with hc2 | hc2
 refine o_5 ?_
 exact qj tI
 refine o_5 ?_
 exact qj tI
 rintro σ1
 refine o_2 ?_
 obtain rfl:=so hr
 exact qF () tI
theorem Z0u_ok  {xs1:(List Int)}{r:Bool}(hr:Z0u xs1=some r) :
 FnOk Tryz.prog 195 [(.slice A2 N2 D2)] [rds kT3 (.slice A2 N2 D2) xs1] (fun (h:Unit)=>((.bool r),[])):=by
 unfold Z0u at hr
 refine fn_ok Tryz.func195 R 15 R R fun C V=>?_
 refine cN (_::V) ?_
 refine cL 0 sees_rd ?_
 rintro rfl
 let W0:List HP:=RR kT3 A2 D2 xs1::V
 refine cN W0 ?_
 refine o_6 ?_
 refine c_cut (A:=(Unit)×(Unit)) (fun a=>Z0u_J1=some r) (fun a=>[]) (fun a=>W0) ?_ ?_
 refine o_8 ?_
 obtain ⟨e1,hl1,hk1⟩:=bd hr
 refine c_loop (A:=Unit) hl1 (fun s a=>[(5,(sc A2 xs1 D2)),(6,(il xs1)),(7,(iv s))]) (fun s a=>W0) () (aS R) tI ?_
 rintro x10 _ σ1 out1 hr he1
 dsimp only [Z0u_L1] at hr
 refine o_6 ?_
 rcases bif_ hr with ⟨_,hr⟩|⟨_,hr⟩
 refine o_6 ?_
 obtain ⟨hg12,hr⟩:=gd hr
 refine c_region (t_some 0 sees_rd (show 0<xs1.length by have:=hg12; omega) (fun g13 o14 ha=>?_))
 subst ha
 refine o_6 ?_
 obtain ⟨r15,hx16,hr⟩:=bd hr
 refine o_2 ?_
 refine lC 0 cb196 R (Z2r_ok hx16) R ?_
 rintro _
 refine o_3 ?_
 rcases bif_ hr with ⟨_,hr⟩|⟨_,hr⟩
 refine o_9 ?_
 obtain rfl:=so hr
 obtain rfl:=he1 _ R
 have hr:=hk1
 refine o_3 ?_
 obtain rfl:=so hr
 exact qF () (tE 1 [])
 refine o_8 ?_
 obtain rfl:=so hr
 exact qA () tI
 refine o_3 ?_
 obtain rfl:=so hr
 obtain rfl:=he1 _ R
 have hr:=hk1
 refine o_2 ?_
 exact q_join ((),()) hr trivial tI
 rintro ⟨_,_⟩ σ1 hr
 dsimp only [Z0u_J1] at hr
 refine o_6 ?_
 obtain rfl:=so hr
 exact qF () (tE 1 [])
theorem Z29_ok  {t1:Tensor}{r:Bool}(hr:Z29 t1=some r) :
 FnOk Tryz.prog 194 [(.agg [(.slice A2 N2 D2),(.slice A3 N3 D3)].toArray)] [rds kT3 (.slice A2 N2 D2) t1.Dims,rds kT3 (.slice A3 N3 D3) t1.Data] (fun (h:Unit)=>((.bool r),[])):=by
 unfold Z29 at hr
 refine fn_ok Tryz.func194 R 20 R R fun C V=>?_
 refine cN (_::_::V) ?_
 refine cL 0 sees_rd ?_
 rintro rfl
 refine cL 1 sees_rd ?_
 rintro rfl
 let W0:List HP:=RR kT3 A2 D2 t1.Dims::RR kT3 A3 D3 t1.Data::V
 refine cN W0 ?_
 refine o_2 ?_
 refine lBx R fun b4=>?_
 refine o_2 ?_
 let W1:List HP:=bxl b4 [(sc A2 t1.Dims D2),(sc A3 t1.Data D3)] 58::W0
 refine qN W1 ?_
 refine o_2 ?_
 obtain ⟨r5,hx6,hr⟩:=bd hr
 obtain ⟨r7,hx8,hr⟩:=bd hr
 obtain ⟨r9,hx10,hr⟩:=bd hr
 refine cQ [(2,(.bool ((r5&&((t1.Data.length:Int)==r7))&&r9)))] (W1) ?_ ?_
 rcases bo r5 with hc11 | hc11
 rcases bo (r5&&((t1.Data.length:Int)==r7)) with hc12 | hc12
 refine cdr 18 [] mixo fun ht hn=>?_
 refine d2_ 0 [] ?_
 refine d1 2 R (lM (RR kT3 A2 D2 t1.Dims::W1) (fun w s=>(s.d 1 R)) ?_)
 refine lC 1 cb147 R (Zb_ok hx6) R ?_
 rintro _
 refine lN W1 ?_
 refine l_nil (q_draw (sL []) ?_)
 refine d6_ 3 [] ?_
 refine d1 9 R (lM (RR kT3 A2 D2 t1.Dims::W1) (fun w s=>(s.d 1 R)) ?_)
 refine l_calln 1 R (wnT hc11) cb148 R (Zj_ok (gcall_t hx8 hc11)) R ?_
 rintro _
 refine lN W1 ?_
 refine l_nil (q_draw (sL []) ?_)
 refine d5_ 10 [] ?_
 refine d1 15 R (lM (RR kT3 A3 D3 t1.Data::W1) (fun w s=>(s.d 2 R)) ?_)
 refine l_calln 1 R (wnT hc12) cb195 R (Z0u_ok (gcall_t hx10 hc12)) R ?_
 rintro _
 refine lN W1 ?_
 refine l_nil (q_draw (sL []) ?_)
 refine d2_ 16 [] ?_
 refine dD ?_
 exact qj tI
 refine cdr 18 [] mixo fun ht hn=>?_
 refine d2_ 0 [] ?_
 refine d1 2 R (lM (RR kT3 A2 D2 t1.Dims::W1) (fun w s=>(s.d 1 R)) ?_)
 refine lC 1 cb147 R (Zb_ok hx6) R ?_
 rintro _
 refine lN W1 ?_
 refine l_nil (q_draw (sL []) ?_)
 refine d6_ 3 [] ?_
 refine d1 9 R (lM (RR kT3 A2 D2 t1.Dims::W1) (fun w s=>(s.d 1 R)) ?_)
 refine l_calln 1 R (wnT hc11) cb148 R (Zj_ok (gcall_t hx8 hc11)) R ?_
 rintro _
 refine lN W1 ?_
 refine l_nil (q_draw (sL []) ?_)
 refine d8_ 10 [] ?_
 refine dD ?_
 exact qj tI
 refine cdr 18 [] mixo fun ht hn=>?_
 refine d2_ 0 [] ?_
 refine d1 2 R (lM (RR kT3 A2 D2 t1.Dims::W1) (fun w s=>(s.d 1 R)) ?_)
 refine lC 1 cb147 R (Zb_ok hx6) R ?_
 rintro _
 refine lN W1 ?_
 refine l_nil (q_draw (sL []) ?_)
 refine d15_ 3 [] ?_
 refine dD ?_
 exact qj tI
 rintro σ1
 refine o_2 ?_
 obtain rfl:=so hr
 exact qF () (tE 3 [])
theorem Z1a_ok  {k1:leafKind}{n2:Node}{args7:(List (List Int))}{r:(List Int)×Bool}(hr:Z1a k1 n2 args7=some r) :
 FnOk Tryz.prog 192 [(.agg [(.bool k1.data)].toArray),(.agg [(iv n2.Op),(.slice A3 N3 D3),(.slice A4 N4 D4),(.slice A5 N5 D5),(vstr n2.Form),(.slice A6 N6 D6)].toArray),(.slice A8 N8 D8)] [rds kT3 (.slice A3 N3 D3) n2.Args,rds kT3 (.slice A4 N4 D4) n2.Dims,rds kT3 (.slice A5 N5 D5) n2.Ints,rds kT3 (.slice A6 N6 D6) n2.Data,rds kT23 (.slice A8 N8 D8) args7] (fun (h:HH)=>((.tuple [(s3 h),(.bool r.2)].toArray),[rds kT3 (s3 h) r.1])):=by
 unfold Z1a at hr
 refine fn_ok Tryz.func192 R 32 R R fun C V=>?_
 refine cN (_::_::_::_::_::V) ?_
 refine cL 0 sees_rd ?_
 rintro rfl
 refine cL 1 sees_rd ?_
 rintro rfl
 refine cL 2 sees_rd ?_
 rintro rfl
 refine cL 3 sees_rd ?_
 rintro rfl
 refine cL 4 sees_rd ?_
 rintro rfl
 let W0:List HP:=RR kT3 A3 D3 n2.Args::RR kT3 A4 D4 n2.Dims::RR kT3 A5 D5 n2.Ints::RR kT3 A6 D6 n2.Data::RR kT23 A8 D8 args7::V
 refine cN W0 ?_
 refine o_2 ?_
 refine lBx R fun b9=>?_
 refine lBx R fun b10=>?_
 refine o_3 ?_
 let W1:List HP:=bxl b10 [(iv n2.Op),(sc A3 n2.Args D3),(sc A4 n2.Dims D4),(sc A5 n2.Ints D5),(vstr n2.Form),(sc A6 n2.Data D6)] 54::bxl b9 [(.bool k1.data)] 136::W0
 refine qN W1 ?_
 refine o_3 ?_
 obtain ⟨r11,hx12,hr⟩:=bd hr
 obtain ⟨r13,hx14,hr⟩:=bd hr
 refine cQ [(4,(pt b10 0)),(29,(.bool ((((args7.length:Int) != (0:Int))||(!r11))||(k1.data&&(!r13)))))] (W1) ?_ ?_
 refine o_5 ?_
 rcases bo ((args7.length:Int) != (0:Int)) with hc15 | hc15
 refine o_19 ?_
 exact qj tI
 refine o_2 ?_
 refine lM (RR kT3 A4 D4 n2.Dims::W1) (fun w s=>(s.d 3 R)) ?_
 refine l_calln 1 R (wnF hc15) cb147 R (Zb_ok (gcall_t hx12 (not_ff hc15))) R ?_
 rintro _
 refine lN W1 ?_
 refine o_3 ?_
 rcases bo (((args7.length:Int) != (0:Int))||(!r11)) with hc16 | hc16
 refine o_13 ?_
 exact qj tI
 refine o_3 ?_
 rcases bo k1.data with hc17 | hc17
 refine o_4 ?_
 refine lW (wnT hc17) (vz (.agg [(sc A4 n2.Dims D4),(sc A6 n2.Data D6)].toArray) (v_build pl58 zc58 R R)) (lM (RR kT3 A4 D4 n2.Dims::RR kT3 A6 D6 n2.Data::W1) (fun w s=>(((s.d 3 R).d 6 R).e 2 [1,0])) ?_)
 refine l_calln 2 R (wnT hc17) cb194 R (Z29_ok (t1:=(⟨n2.Dims,n2.Data⟩:Tensor)) (gcall_t hx14 (and_tt (not_ff hc16) hc17))) R ?_
 rintro _
 refine lN W1 ?_
 refine o_4 ?_
 exact qj tI
 refine o_10 ?_
 exact qj tI
 rintro σ1
 refine o_1 ?_
 rcases bif_ hr with ⟨_,hr⟩|⟨_,hr⟩
 refine o_9 ?_
 obtain rfl:=so hr
 exact qT2 (none,0,0) (fun w s=>((s.nilr kT3).e 8 [0]))
 refine o_12 ?_
 obtain rfl:=so hr
 exact qT2 (A4,n2.Dims.length,D4) (tE 7 [3])
theorem Z0r_ok  {s11:(List Int)}{s23:(List Int)}{r:Bool}(hr:Z0r s11 s23=some r) :
 FnOk Tryz.prog 199 [(.slice A2 N2 D2),(.slice A4 N4 D4)] [rds kT3 (.slice A2 N2 D2) s11,rds kT3 (.slice A4 N4 D4) s23] (fun (h:Unit)=>((.bool r),[])):=by
 unfold Z0r at hr
 refine fn_ok Tryz.func199 R 26 R R fun C V=>?_
 refine cN (_::_::V) ?_
 refine cL 0 sees_rd ?_
 rintro rfl
 refine cL 1 sees_rd ?_
 rintro rfl
 let W0:List HP:=RR kT3 A2 D2 s11::RR kT3 A4 D4 s23::V
 refine cN W0 ?_
 refine o_15 ?_
 rcases bif_ hr with ⟨_,hr⟩|⟨_,hr⟩
 refine o_8 ?_
 obtain rfl:=so hr
 exact qF () (tE 2 [])
 refine o_4 ?_
 refine c_cut (A:=(Unit)×(Unit)) (fun a=>Z0r_J1=some r) (fun a=>[]) (fun a=>W0) ?_ ?_
 refine o_8 ?_
 obtain ⟨e1,hl1,hk1⟩:=bd hr
 refine c_loop (A:=Unit) hl1 (fun s a=>[(0,(sc A2 s11 D2)),(1,(sc A4 s23 D4)),(12,(il s11)),(13,(iv s))]) (fun s a=>W0) () (aS R) tI ?_
 rintro x14 _ σ1 out1 hr he1
 dsimp only [Z0r_L1] at hr
 refine o_6 ?_
 rcases bif_ hr with ⟨_,hr⟩|⟨_,hr⟩
 refine o_12 ?_
 obtain ⟨hg16,hr⟩:=gd hr
 obtain ⟨hg19,hr⟩:=gd hr
 refine c_some 0 sees_rd (show 0<s11.length by have:=hg16; omega) (fun g17 o18 ha=>?_)
 subst ha
 refine c_some 1 sees_rd (show 0<s23.length by have:=hg19; omega) (fun g20 o21 ha=>?_)
 subst ha
 refine cdr 9 [] mixo fun ht hn=>?_
 refine d9_ 0 [] ?_
 refine dD (q_next ?_)
 rcases bif_ hr with ⟨_,hr⟩|⟨_,hr⟩
 refine o_9 ?_
 obtain rfl:=so hr
 obtain rfl:=he1 _ R
 have hr:=hk1
 refine o_3 ?_
 obtain rfl:=so hr
 exact qF () (tE 2 [])
 refine o_8 ?_
 obtain rfl:=so hr
 exact qA () tI
 refine o_3 ?_
 obtain rfl:=so hr
 obtain rfl:=he1 _ R
 have hr:=hk1
 refine o_2 ?_
 exact q_join ((),()) hr trivial tI
 rintro ⟨_,_⟩ σ1 hr
 dsimp only [Z0r_J1] at hr
 refine o_6 ?_
 obtain rfl:=so hr
 exact qF () (tE 2 [])
theorem Z1t_ok  {k1:pairKind}{n2:Node}{args7:(List (List Int))}{r:(List Int)×Bool}(hr:Z1t k1 n2 args7=some r) :
 FnOk Tryz.prog 197 [(.agg [(iv k1.op)].toArray),(.agg [(iv n2.Op),(.slice A3 N3 D3),(.slice A4 N4 D4),(.slice A5 N5 D5),(vstr n2.Form),(.slice A6 N6 D6)].toArray),(.slice A8 N8 D8)] [rds kT3 (.slice A3 N3 D3) n2.Args,rds kT3 (.slice A4 N4 D4) n2.Dims,rds kT3 (.slice A5 N5 D5) n2.Ints,rds kT3 (.slice A6 N6 D6) n2.Data,rds kT23 (.slice A8 N8 D8) args7] (fun (h:HH)=>((.tuple [(s3 h),(.bool r.2)].toArray),[rds kT3 (s3 h) r.1])):=by
 unfold Z1t at hr
 refine fn_ok Tryz.func197 R 24 R R fun C V=>?_
 refine cN (_::_::_::_::_::V) ?_
 refine cL 0 sees_rd ?_
 rintro rfl
 refine cL 1 sees_rd ?_
 rintro rfl
 refine cL 2 sees_rd ?_
 rintro rfl
 refine cL 3 sees_rd ?_
 rintro rfl
 refine cL 4 sees_rd ?_
 rintro rfl
 let W0:List HP:=RR kT3 A3 D3 n2.Args::RR kT3 A4 D4 n2.Dims::RR kT3 A5 D5 n2.Ints::RR kT3 A6 D6 n2.Data::RR kT23 A8 D8 args7::V
 refine cN W0 ?_
 refine o_2 ?_
 refine lBx R fun b9=>?_
 refine lBx R fun b10=>?_
 refine o_3 ?_
 let W1:List HP:=bxl b10 [(iv n2.Op),(sc A3 n2.Args D3),(sc A4 n2.Dims D4),(sc A5 n2.Ints D5),(vstr n2.Form),(sc A6 n2.Data D6)] 54::bxl b9 [(iv k1.op)] 138::W0
 refine qN W1 ?_
 refine o_3 ?_
 obtain ⟨hg11,hr⟩:=gd hr
 obtain ⟨hg15,hr⟩:=gd hr
 obtain ⟨r17,hx18,hr⟩:=bd hr
 refine cQ [(2,(sc A8 args7 D8)),(20,(.bool (((args7.length:Int) != (2:Int))||(!r17))))] (W1) ?_ ?_
 rcases bo ((args7.length:Int) != (2:Int)) with hc19 | hc19
 refine cdr 13 [] mixo fun ht hn=>?_
 refine d13_ 0 [] ?_
 refine dD ?_
 exact qj tI
 refine c_some 6 sees_rd (show 0<args7.length by have:=(hg11 hc19); omega) (fun g12 o13 ha=>?_)
 subst ha
 refine c_elem (K:=kT23) 6 (0:Int) dT23.dec R (hg11 hc19).1 (hg11 hc19).2 ?_
 rintro ⟨A14,D14⟩
 refine cN (cl g12 (o13+(0:Int).toNat*1) [(sc A14 (ix args7 (0:Int)) D14)]::RR kT3 A14 D14 (ix args7 (0:Int))::W1) ?_
 refine c_elem (K:=kT23) 8 (1:Int) dT23.dec R (hg15 hc19).1 (hg15 hc19).2 ?_
 rintro ⟨A16,D16⟩
 refine cN (cl g12 (o13+(1:Int).toNat*1) [(sc A16 (ix args7 (1:Int)) D16)]::RR kT3 A16 D16 (ix args7 (1:Int))::_::_::W1) ?_
 refine cdr 13 [] mixo fun ht hn=>?_
 refine d5_ 0 [] ?_
 refine dW 5 R (wnF hc19) (vIa sl38 sz23 R R (hg11 hc19)) (dW 6 R (wnF hc19) (v_clf (fo:=0) 2 ag23 R R R) (dW 7 R (wnF hc19) (vS R) (dW 8 R (wnF hc19) (vIa sl38 sz23 R R (hg15 hc19)) (dW 9 R (wnF hc19) (v_clf (fo:=0) 0 ag23 R R R) (d1 10 R (lM (rds _ _ _::rds _ _ _::cl _ _ _::rds _ _ _::cl _ _ _::rds _ _ _::W1) (fun w s=>(((s.d 3 R).d 2 R).e 6 [1,0,2,3,4,5])) ?_))))))
 refine l_calln 2 R (wnF hc19) cb199 R (Z0r_ok (gcall_t hx18 (not_ff hc19))) R ?_
 rintro _
 refine lN (_::_::_::_::W1) ?_
 refine l_nil (q_draw (sL []) ?_)
 refine d2_ 11 [] ?_
 refine dD ?_
 exact qj (tE 4 [])
 rintro σ1
 refine o_1 ?_
 rcases bif_ hr with ⟨_,hr⟩|⟨_,hr⟩
 refine o_9 ?_
 obtain rfl:=so hr
 exact qT2 (none,0,0) (fun w s=>((s.nilr kT3).e 8 [0]))
 refine o_4 ?_
 obtain ⟨hg21,hr⟩:=gd hr
 refine o_2 ?_
 refine t_some 6 sees_rd (show 0<args7.length by have:=hg21; omega) (fun g22 o23 ha=>?_)
 subst ha
 refine o_1 ?_
 refine t_elem (K:=kT23) 6 (0:Int) dT23.dec R hg21.1 hg21.2 ?_
 rintro ⟨A24,D24⟩
 refine lN (cl g22 (o23+(0:Int).toNat*1) [(sc A24 (ix args7 (0:Int)) D24)]::RR kT3 A24 D24 (ix args7 (0:Int))::W1) ?_
 refine lO (v_clf (fo:=0) 0 ag23 R R R) ?_
 refine o_5 ?_
 obtain rfl:=so hr
 exact qT2 (A24,(ix args7 (0:Int)).length,D24) (tE 9 [1])
theorem Z2i_ok  {k1:soloKind}{n2:Node}{args7:(List (List Int))}{r:(List Int)×Bool}(hr:Z2i k1 n2 args7=some r) :
 FnOk Tryz.prog 200 [(.agg [(iv k1.op)].toArray),(.agg [(iv n2.Op),(.slice A3 N3 D3),(.slice A4 N4 D4),(.slice A5 N5 D5),(vstr n2.Form),(.slice A6 N6 D6)].toArray),(.slice A8 N8 D8)] [rds kT3 (.slice A3 N3 D3) n2.Args,rds kT3 (.slice A4 N4 D4) n2.Dims,rds kT3 (.slice A5 N5 D5) n2.Ints,rds kT3 (.slice A6 N6 D6) n2.Data,rds kT23 (.slice A8 N8 D8) args7] (fun (h:HH)=>((.tuple [(s3 h),(.bool r.2)].toArray),[rds kT3 (s3 h) r.1])):=by
 unfold Z2i at hr
 refine fn_ok Tryz.func200 R 14 R R fun C V=>?_
 refine cN (_::_::_::_::_::V) ?_
 refine cL 0 sees_rd ?_
 rintro rfl
 refine cL 1 sees_rd ?_
 rintro rfl
 refine cL 2 sees_rd ?_
 rintro rfl
 refine cL 3 sees_rd ?_
 rintro rfl
 refine cL 4 sees_rd ?_
 rintro rfl
 let W0:List HP:=RR kT3 A3 D3 n2.Args::RR kT3 A4 D4 n2.Dims::RR kT3 A5 D5 n2.Ints::RR kT3 A6 D6 n2.Data::RR kT23 A8 D8 args7::V
 refine cN W0 ?_
 refine o_2 ?_
 refine lBx R fun b9=>?_
 refine lBx R fun b10=>?_
 refine o_3 ?_
 let W1:List HP:=bxl b10 [(iv n2.Op),(sc A3 n2.Args D3),(sc A4 n2.Dims D4),(sc A5 n2.Ints D5),(vstr n2.Form),(sc A6 n2.Data D6)] 54::bxl b9 [(iv k1.op)] 139::W0
 refine qN W1 ?_
 refine o_9 ?_
 rcases bif_ hr with ⟨_,hr⟩|⟨_,hr⟩
 refine o_9 ?_
 obtain rfl:=so hr
 exact qT2 (none,0,0) (fun w s=>((s.nilr kT3).e 8 [0]))
 refine o_4 ?_
 obtain ⟨hg12,hr⟩:=gd hr
 refine o_2 ?_
 refine t_some 6 sees_rd (show 0<args7.length by have:=hg12; omega) (fun g13 o14 ha=>?_)
 subst ha
 refine o_1 ?_
 refine t_elem (K:=kT23) 6 (0:Int) dT23.dec R hg12.1 hg12.2 ?_
 rintro ⟨A15,D15⟩
 refine lN (cl g13 (o14+(0:Int).toNat*1) [(sc A15 (ix args7 (0:Int)) D15)]::RR kT3 A15 D15 (ix args7 (0:Int))::W1) ?_
 refine lO (v_clf (fo:=0) 0 ag23 R R R) ?_
 refine o_5 ?_
 obtain rfl:=so hr
 exact qT2 (A15,(ix args7 (0:Int)).length,D15) (tE 9 [1])
theorem Zi_ok  {dims1:(List Int)}{axis3:Int}{r:Bool}(hr:Zi dims1 axis3=some r) :
 FnOk Tryz.prog 150 [(.slice A2 N2 D2),(iv axis3)] [rds kT3 (.slice A2 N2 D2) dims1] (fun (h:Unit)=>((.bool r),[])):=by
 unfold Zi at hr
 refine fn_ok Tryz.func150 R 13 R R fun C V=>?_
 refine cN (_::V) ?_
 refine cL 0 sees_rd ?_
 rintro rfl
 let W0:List HP:=RR kT3 A2 D2 dims1::V
 refine cN W0 ?_
 refine o_6 ?_
 refine cQ [(4,(.bool ((decide (axis3≥(0:Int)))&&(decide (axis3<(dims1.length:Int))))))] (W0) ?_ ?_
 refine o_4 ?_
 rcases bo (decide (axis3≥(0:Int))) with hc4 | hc4
 refine o_7 ?_
 exact qj tI
 refine o_7 ?_
 exact qj tI
 rintro σ1
 refine o_2 ?_
 obtain rfl:=so hr
 exact qF () (tE 1 [])
theorem Z1n_ok  {k1:topKind}{n2:Node}{args7:(List (List Int))}{r:(List Int)×Bool}(hr:Z1n k1 n2 args7=some r) :
 FnOk Tryz.prog 202 [(.agg [].toArray),(.agg [(iv n2.Op),(.slice A3 N3 D3),(.slice A4 N4 D4),(.slice A5 N5 D5),(vstr n2.Form),(.slice A6 N6 D6)].toArray),(.slice A8 N8 D8)] [rds kT3 (.slice A3 N3 D3) n2.Args,rds kT3 (.slice A4 N4 D4) n2.Dims,rds kT3 (.slice A5 N5 D5) n2.Ints,rds kT3 (.slice A6 N6 D6) n2.Data,rds kT23 (.slice A8 N8 D8) args7] (fun (h:HH)=>((.tuple [(s3 h),(.bool r.2)].toArray),[rds kT3 (s3 h) r.1])):=by
 unfold Z1n at hr
 refine fn_ok Tryz.func202 R 31 R R fun C V=>?_
 refine cN (_::_::_::_::_::V) ?_
 refine cL 0 sees_rd ?_
 rintro rfl
 refine cL 1 sees_rd ?_
 rintro rfl
 refine cL 2 sees_rd ?_
 rintro rfl
 refine cL 3 sees_rd ?_
 rintro rfl
 refine cL 4 sees_rd ?_
 rintro rfl
 let W0:List HP:=RR kT3 A3 D3 n2.Args::RR kT3 A4 D4 n2.Dims::RR kT3 A5 D5 n2.Ints::RR kT3 A6 D6 n2.Data::RR kT23 A8 D8 args7::V
 refine cN W0 ?_
 refine o_2 ?_
 refine lBx R fun b9=>?_
 refine lBx R fun b10=>?_
 refine o_3 ?_
 let W1:List HP:=bxl b10 [(iv n2.Op),(sc A3 n2.Args D3),(sc A4 n2.Dims D4),(sc A5 n2.Ints D5),(vstr n2.Form),(sc A6 n2.Data D6)] 54::bxl b9 [] 141::W0
 refine qN W1 ?_
 refine o_3 ?_
 obtain ⟨hg11,hr⟩:=gd hr
 obtain ⟨hg15,hr⟩:=gd hr
 obtain ⟨r18,hx19,hr⟩:=bd hr
 refine cQ [(2,(sc A8 args7 D8)),(27,(.bool ((((args7.length:Int) != (1:Int))||((n2.Ints.length:Int) != (1:Int)))||(!r18))))] (W1) ?_ ?_
 rcases bo ((args7.length:Int) != (1:Int)) with hc20 | hc20
 refine cdr 20 [] mixo fun ht hn=>?_
 refine d20_ 0 [] ?_
 refine dD ?_
 exact qj tI
 rcases bo (((args7.length:Int) != (1:Int))||((n2.Ints.length:Int) != (1:Int))) with hc21 | hc21
 refine cdr 20 [] mixo fun ht hn=>?_
 refine d20_ 0 [] ?_
 refine dD ?_
 exact qj tI
 refine c_some 6 sees_rd (show 0<args7.length by have:=(hg11 hc21); omega) (fun g12 o13 ha=>?_)
 subst ha
 refine c_elem (K:=kT23) 6 (0:Int) dT23.dec R (hg11 hc21).1 (hg11 hc21).2 ?_
 rintro ⟨A14,D14⟩
 refine cN (cl g12 (o13+(0:Int).toNat*1) [(sc A14 (ix args7 (0:Int)) D14)]::RR kT3 A14 D14 (ix args7 (0:Int))::W1) ?_
 refine c_some 6 sees_rd (show 0<n2.Ints.length by have:=(hg15 hc21); omega) (fun g16 o17 ha=>?_)
 subst ha
 refine cdr 20 [] mixo fun ht hn=>?_
 refine d11_ 0 [] ?_
 refine dW 11 R (wnF hc21) (vIa sl38 sz23 R R (hg11 hc21)) (dW 12 R (wnF hc21) (v_clf (fo:=0) 0 ag23 R R R) ?_)
 refine d2_ 13 [] ?_
 refine dW 15 R (wnF hc21) (vIa sl23 sz3 R R (hg15 hc21)) (dW 16 R (wnF hc21) (vLi 6 ag3 sees_rd R (hg15 hc21)) (d1 17 R (lM (_::_::_::W1) (fun w s=>(s.d 1 R)) ?_)))
 refine l_calln 1 R (wnF hc21) cb150 R (Zi_ok (gcall_t hx19 (not_ff hc21))) R ?_
 rintro _
 refine lN (_::_::W1) ?_
 refine l_nil (q_draw (sL []) ?_)
 refine d2_ 18 [] ?_
 refine dD ?_
 exact qj (tE 2 [])
 rintro σ1
 refine o_1 ?_
 rcases bif_ hr with ⟨_,hr⟩|⟨_,hr⟩
 refine o_9 ?_
 obtain rfl:=so hr
 exact qT2 (none,0,0) (fun w s=>((s.nilr kT3).e 8 [0]))
 refine o_4 ?_
 obtain ⟨hg23,hr⟩:=gd hr
 refine o_2 ?_
 refine t_some 6 sees_rd (show 0<args7.length by have:=hg23; omega) (fun g24 o25 ha=>?_)
 subst ha
 refine o_1 ?_
 refine t_elem (K:=kT23) 6 (0:Int) dT23.dec R hg23.1 hg23.2 ?_
 rintro ⟨A26,D26⟩
 refine lN (cl g24 (o25+(0:Int).toNat*1) [(sc A26 (ix args7 (0:Int)) D26)]::RR kT3 A26 D26 (ix args7 (0:Int))::W1) ?_
 refine lO (v_clf (fo:=0) 0 ag23 R R R) ?_
 refine o_5 ?_
 obtain rfl:=so hr
 exact qT2 (A26,(ix args7 (0:Int)).length,D26) (tE 9 [1])
theorem internal_stringslite_Cut_ok  {p1:Str}{sep2:Str}{mG:Int}{r:Str×Str×Bool}(hr:internal_stringslite_Cut p1 sep2=some r) :
 FnOk Tryz.prog 212 [(vstr p1),(vstr sep2)] [gl 0 mG] (fun (h:Unit)=>((.tuple [(vstr r.1),(vstr r.2.1),(.bool r.2.2)].toArray),[])):=by
 unfold internal_stringslite_Cut at hr
 refine fn_ok Tryz.func212 R 23 R R fun C V=>?_
 refine cN (_::V) ?_
 let W0:List HP:=gl 0 mG::V
 refine cN W0 ?_
 refine o_2 ?_
 refine lO (vp (vstr ([]:Str)) R) (lO (vp (vstr ([]:Str)) R) ?_)
 refine o_5 ?_
 obtain ⟨r3,hx4,hr⟩:=bd hr
 refine c_region (lO (vp (vstr p1) R) (lO (vp (vstr sep2) R) (lM (gl 0 mG::W0) (fun w s=>(s.dg 0 R)) ?_)))
 refine lC 1 cb162 R (internal_stringslite_Index_ok hx4) R ?_
 rintro _
 refine lN W0 ?_
 refine o_9 ?_
 rcases bif_ hr with ⟨_,hr⟩|⟨_,hr⟩
 refine o_2 ?_
 obtain ⟨hg6,hr⟩:=gd hr
 obtain ⟨hg7,hr⟩:=gd hr
 refine cdr 12 [] mixo fun ht hn=>?_
 refine dR 0 R (vp (vstr p1) R) (dR 1 R (vI R) (dR 2 R (vz (vstr (sub p1 (0:Int) r3)) (v_scut (0:Int) r3 un9 R R R hg6.1 hg6.2.1 hg6.2.2)) (dR 3 R (vp (vstr p1) R) (dR 4 R (vI R) (dR 5 R (vp (vstr sep2) R) (dR 6 R (vz (il sep2) (v_slen un9 R)) (dR 7 R (vAd R R) (dR 8 R (vz (vstr (sub p1 (w64 (r3+(sep2.length:Int))) (p1.length:Int))) (v_scut (w64 (r3+(sep2.length:Int))) (p1.length:Int) un9 R R R hg7.1 hg7.2.1 hg7.2.2)) (dR 9 R (vp (vstr (sub p1 (0:Int) r3)) R) (dR 10 R (vp (vstr (sub p1 (w64 (r3+(sep2.length:Int))) (p1.length:Int))) R) (dR 11 R (vB R) (dD ?_))))))))))))
 refine o_3 ?_
 obtain rfl:=so hr
 exact qT3 () (tE 1 [])
 refine o_5 ?_
 refine lO (vp (vstr p1) R) (lO (vp (vstr p1) R) (lO (vp (vstr ([]:Str)) R) ?_))
 refine o_4 ?_
 obtain rfl:=so hr
 exact qT3 () (tE 1 [])
theorem Z2p_ok  {p1:Str}{sep2:Str}{mG:Int}{r:Str×Str×Bool}(hr:Z2p p1 sep2=some r) :
 FnOk Tryz.prog 210 [(vstr p1),(vstr sep2)] [gl 0 mG] (fun (h:Unit)=>((.tuple [(vstr r.1),(vstr r.2.1),(.bool r.2.2)].toArray),[])):=by
 unfold Z2p at hr
 refine fn_ok Tryz.func210 R 13 R R fun C V=>?_
 refine cN (_::V) ?_
 let W0:List HP:=gl 0 mG::V
 refine cN W0 ?_
 refine o_2 ?_
 refine lO (vp (vstr ([]:Str)) R) (lO (vp (vstr ([]:Str)) R) ?_)
 refine o_4 ?_
 obtain ⟨r3,hx4,hr⟩:=bd hr
 refine c_region (lO (vp (vstr p1) R) (lO (vp (vstr sep2) R) (lM (gl 0 mG::W0) (fun w s=>(s.dg 0 R)) ?_)))
 refine lC 1 cb212 R (internal_stringslite_Cut_ok hx4) R ?_
 rintro _
 refine lN W0 ?_
 refine lO (vp (vstr r3.1) R) (lO (vp (vstr r3.2.1) R) (lB R (lO (vp (vstr r3.1) R) (lO (vp (vstr r3.2.1) R) ?_))))
 refine o_4 ?_
 obtain rfl:=so hr
 exact qT3 () (tE 1 [])
theorem Z2y_ok  {s1 s2:Str}{r:Int}(hr:Z2y s1 s2=some r) :
 FnOk Tryz.prog 215 [(vstr s1),(vstr s2)] [] (fun (_:Unit)=>((iv r),[])):=by
 unfold Z2y at hr
 split at hr
 ·rename_i c
  obtain rfl:=so hr
  exact fn_pure fun w=>Tryz.strings_Count_one ⟨s1.toArray⟩ c w
 ·cases hr
theorem Z0e_ok  {p1:Str}{sep2:Str}{sepSave3:Int}{n4:Int}{mG:Int}{r:(List Str)}(hr:Z0e p1 sep2 sepSave3 n4=some r) :
 FnOk Tryz.prog 213 [(vstr p1),(vstr sep2),(iv sepSave3),(iv n4)] [gl 0 mG] (fun (h:HH)=>((s3 h),[rds kT9 (s3 h) r])):=by
 unfold Z0e at hr
 refine fn_ok Tryz.func213 R 66 R R fun C V=>?_
 refine cN (_::V) ?_
 let W0:List HP:=gl 0 mG::V
 refine cN W0 ?_
 refine o_12 ?_
 rcases bif_ hr with ⟨_,hr⟩|⟨_,hr⟩
 refine o_8 ?_
 obtain rfl:=so hr
 exact qF (none,0,0) (fun w s=>((s.nilr kT9).e 2 [0]))
 refine o_6 ?_
 refine lO (vp (vstr sep2) R) (lO (vz (.bool (sep2==([]:Str))) (v_scmp R R R)) ?_)
 refine o_2 ?_
 rcases bif_ hr with ⟨_,hr⟩|⟨_,hr⟩
 refine o_1 ?_
 cases hr
 refine o_4 ?_
 refine c_cut (A:=(Int)×(Unit)) (fun a=>Z0e_J2 p1 sep2 sepSave3 a.1=some r) (fun a=>[(0,(vstr p1)),(1,(vstr sep2)),(2,(iv sepSave3)),(3,(iv a.1))]) (fun a=>W0) ?_ ?_
 refine o_6 ?_
 rcases bif_ hr with ⟨_,hr⟩|⟨_,hr⟩
 refine o_1 ?_
 obtain ⟨r8,hx9,hr⟩:=bd hr
 refine c_region (lO (vp (vstr p1) R) (lO (vp (vstr sep2) R) (lC 0 cb215 R (Z2y_ok hx9) R ?_)))
 rintro _
 refine o_3 ?_
 exact qI ((w64 (r8+(1:Int))),()) hr tI
 refine o_2 ?_
 exact qI (n4,()) hr tI
 rintro ⟨n10,_⟩ σ1 hr
 dsimp only [Z0e_J2] at hr
 refine o_3 ?_
 refine lO (vp (vstr p1) R) (lO (vz (il p1) (v_slen un9 R)) (lO (vAd R R) (lO (vz (iv (if (w64 ((p1.length:Int)+(1:Int)))<n10 then (w64 ((p1.length:Int)+(1:Int))) else n10)) (v_min R R)) ?_)))
 refine o_4 ?_
 obtain ⟨hg11,hr⟩:=gd hr
 refine o_2 ?_
 refine l_make (K:=kT9) (m:=(if (w64 ((p1.length:Int)+(1:Int)))<n10 then (w64 ((p1.length:Int)+(1:Int))) else n10)) (z:=([]:Str)) R R sl122 sz9 by9 (Zr.zk zT9 zc9) (by decide) R R hg11.1 hg11.2.1 hg11.2.2 (fun A12 D12=>(lS R (l_nil (q_next (c_seq (c_region (lI R (lO (vSb R R) (lI R (l_nil (q_next (c_seq (c_region (lI R (l_nil (q_next (c_seq (c_cut (A:=(Str×(List Str)×Int)×(Unit)) (fun a=>Z0e_J3 p1 n10 a.1.1 a.1.2.1 a.1.2.2=some r) (fun a=>[(0,(vstr a.1.1)),(9,(sc A12 (List.replicate (if (w64 ((p1.length:Int)+(1:Int)))<n10 then (w64 ((p1.length:Int)+(1:Int))) else n10).toNat ([]:Str)) D12)),(10,(iv a.1.2.2))]) (fun a=>ow kT9 9 (.slice A12 (List.replicate (if (w64 ((p1.length:Int)+(1:Int)))<n10 then (w64 ((p1.length:Int)+(1:Int))) else n10).toNat ([]:Str)).length D12) a.1.2.1::W0) ?_ ?_))))))))))))))))))
 refine o_1 ?_
 obtain ⟨e1,hl1,hk1⟩:=bd hr
 refine c_loop (A:=Unit) hl1 (fun s a=>[(0,(vstr s.1)),(1,(vstr sep2)),(2,(iv sepSave3)),(3,(iv (w64 ((if (w64 ((p1.length:Int)+(1:Int)))<n10 then (w64 ((p1.length:Int)+(1:Int))) else n10) - (1:Int))))),(9,(sc A12 (List.replicate (if (w64 ((p1.length:Int)+(1:Int)))<n10 then (w64 ((p1.length:Int)+(1:Int))) else n10).toNat ([]:Str)) D12)),(10,(iv s.2.2))]) (fun s a=>ow kT9 9 (.slice A12 (List.replicate (if (w64 ((p1.length:Int)+(1:Int)))<n10 then (w64 ((p1.length:Int)+(1:Int))) else n10).toNat ([]:Str)).length D12) s.2.1::W0) () (aS R) tI ?_
 rintro ⟨x24,a25,i26⟩ _ σ1 out1 hr he1
 dsimp only [Z0e_L1] at hr
 refine o_8 ?_
 rcases bif_ hr with ⟨_,hr⟩|⟨_,hr⟩
 refine o_5 ?_
 obtain ⟨r28,hx29,hr⟩:=bd hr
 refine c_region (lO (vp (vstr x24) R) (lO (vp (vstr sep2) R) (lM (gl 0 mG::ow kT9 9 (.slice A12 (List.replicate (if (w64 ((p1.length:Int)+(1:Int)))<n10 then (w64 ((p1.length:Int)+(1:Int))) else n10).toNat ([]:Str)).length D12) a25::W0) (fun w s=>(s.dg 1 R)) ?_)))
 refine lC 1 cb154 R (Z21_ok hx29) R ?_
 rintro _
 refine lN (_::W0) ?_
 refine o_10 ?_
 rcases bif_ hr with ⟨_,hr⟩|⟨_,hr⟩
 refine o_3 ?_
 refine q_pass R ?_
 obtain rfl:=so hr
 obtain rfl:=he1 _ R
 have hr:=hk1
 refine o_2 ?_
 exact qI ((x24,a25,i26),()) hr tI
 refine o_4 ?_
 obtain ⟨hg31,hr⟩:=gd hr
 obtain ⟨hg32,hr⟩:=gd hr
 refine o_3 ?_
 refine lO (vp (vstr x24) R) ?_
 refine o_3 ?_
 refine lO (vz (vstr (sub x24 (0:Int) (w64 (r28+sepSave3)))) (v_scut (0:Int) (w64 (r28+sepSave3)) un9 R R R hg31.1 hg31.2.1 hg31.2.2)) (t_some 0 sees_ow (show 0<(List.replicate (if (w64 ((p1.length:Int)+(1:Int)))<n10 then (w64 ((p1.length:Int)+(1:Int))) else n10).toNat ([]:Str)).length by have:=hg32; omega) (fun g33 o34 ha=>?_))
 subst ha
 refine o_1 ?_
 refine lN (ow kT9 9 (.slice (ad g33 o34) (List.replicate (if (w64 ((p1.length:Int)+(1:Int)))<n10 then (w64 ((p1.length:Int)+(1:Int))) else n10).toNat ([]:Str)).length D12) a25::W0) ?_
 refine l_stx (K:=kT9) (x':=(sub x24 (0:Int) (w64 (r28+sepSave3)))) 0 i26 R R sz9 R R hg32.1 hg32.2 ?_ ?_
 exact fun I h s=>(mO9).put I h () (sub x24 (0:Int) (w64 (r28+sepSave3))) s
 refine lN (ow kT9 9 (.slice (ad g33 o34) (List.replicate (if (w64 ((p1.length:Int)+(1:Int)))<n10 then (w64 ((p1.length:Int)+(1:Int))) else n10).toNat ([]:Str)).length D12) (a25.set i26.toNat (sub x24 (0:Int) (w64 (r28+sepSave3))))::W0) ?_
 refine o_1 ?_
 obtain ⟨l35,hl36,hr⟩:=bd hr
 replace hl36:=Option.some.inj hl36
 refine qM (ow kT9 9 (.slice (ad g33 o34) (List.replicate (if (w64 ((p1.length:Int)+(1:Int)))<n10 then (w64 ((p1.length:Int)+(1:Int))) else n10).toNat ([]:Str)).length D12) l35::W0) (fun w s=>by rw [← hl36]; exact s) ?_
 refine o_2 ?_
 obtain ⟨hg37,hr⟩:=gd hr
 refine c_region (lO (vp (vstr x24) R) (lI R (lO (vp (vstr sep2) R) (lO (vz (il sep2) (v_slen un9 R)) (lO (vAd R R) (lO (vz (vstr (sub x24 (w64 (r28+(sep2.length:Int))) (x24.length:Int))) (v_scut (w64 (r28+(sep2.length:Int))) (x24.length:Int) un9 R R R hg37.1 hg37.2.1 hg37.2.2)) (lO (vp (vstr (sub x24 (w64 (r28+(sep2.length:Int))) (x24.length:Int))) R) ?_)))))))
 refine o_8 ?_
 obtain rfl:=so hr
 exact qA () tI
 refine o_3 ?_
 obtain rfl:=so hr
 obtain rfl:=he1 _ R
 have hr:=hk1
 refine o_2 ?_
 exact qI ((x24,a25,i26),()) hr tI
 rintro ⟨⟨x41,a42,i43⟩,_⟩ σ1 hr
 dsimp only [Z0e_J3] at hr
 refine o_1 ?_
 obtain ⟨hg44,hr⟩:=gd hr
 refine o_3 ?_
 refine lO (vp (vstr x41) R) (t_some 0 sees_ow (show 0<(List.replicate (if (w64 ((p1.length:Int)+(1:Int)))<n10 then (w64 ((p1.length:Int)+(1:Int))) else n10).toNat ([]:Str)).length by have:=hg44; omega) (fun g45 o46 ha=>?_))
 subst ha
 refine o_1 ?_
 refine lN (ow kT9 9 (.slice (ad g45 o46) (List.replicate (if (w64 ((p1.length:Int)+(1:Int)))<n10 then (w64 ((p1.length:Int)+(1:Int))) else n10).toNat ([]:Str)).length D12) a42::W0) ?_
 refine l_stx (K:=kT9) (x':=x41) 0 i43 R R sz9 R R hg44.1 hg44.2 ?_ ?_
 exact fun I h s=>(mO9).put I h () x41 s
 refine lN (ow kT9 9 (.slice (ad g45 o46) (List.replicate (if (w64 ((p1.length:Int)+(1:Int)))<n10 then (w64 ((p1.length:Int)+(1:Int))) else n10).toNat ([]:Str)).length D12) (a42.set i43.toNat x41)::W0) ?_
 refine o_3 ?_
 obtain ⟨hg47,hr⟩:=gd hr
 refine o_4 ?_
 refine l_st (fun w s=>s.shr 0 R) (l_cut (K:=kT9) (0:Int) (w64 (i43+(1:Int))) 0 R R sl122 sz9 R R R R hg47.1 hg47.2.1 hg47.2.2 (fun A48 D48=>(lS R (l_nil (q_next (c_ret ?_))))))
 obtain rfl:=so hr
 exact qF (A48,(sub (a42.set i43.toNat x41) (0:Int) (w64 (i43+(1:Int)))).length,D48) (tE 3 [0])
theorem Z2q_ok  {p1:Str}{sep2:Str}{mG:Int}{r:(List Str)}(hr:Z2q p1 sep2=some r) :
 FnOk Tryz.prog 211 [(vstr p1),(vstr sep2)] [gl 0 mG] (fun (h:HH)=>((s3 h),[rds kT9 (s3 h) r])):=by
 unfold Z2q at hr
 refine fn_ok Tryz.func211 R 8 R R fun C V=>?_
 refine cN (_::V) ?_
 let W0:List HP:=gl 0 mG::V
 refine cN W0 ?_
 refine o_6 ?_
 obtain ⟨r3,hx4,hr⟩:=bd hr
 refine c_region (lO (vp (vstr p1) R) (lO (vp (vstr sep2) R) (lM (gl 0 mG::W0) (fun w s=>(s.dg 0 R)) ?_)))
 refine lC 1 cb213 R (Z0e_ok hx4) R ?_
 rintro ⟨A5,N5,D5⟩
 refine lN (rds kT9 (.slice A5 N5 D5) r3::W0) ?_
 refine l_len 0 sees_rd ?_
 rintro rfl
 refine o_4 ?_
 obtain rfl:=so hr
 exact qF (A5,r3.length,D5) (tE 2 [0])
theorem internal_stringslite_IndexByte_ok  {s1:Str}{c2:Int}{r:Int}(hr:internal_stringslite_IndexByte s1 c2=some r) :
 FnOk Tryz.prog 171 [(vstr s1),(.int .u8 c2)] [] (fun (_:Unit)=>((iv r),[])):=by
 unfold internal_stringslite_IndexByte at hr
 obtain rfl:=so hr
 exact fn_pure fun w=>Tryz.stringslite_IndexByte ⟨s1.toArray⟩ c2 w
theorem Z1j_ok  {p1:Str}{c2:Int}{r:Int}(hr:Z1j p1 c2=some r) :
 FnOk Tryz.prog 208 [(vstr p1),(.int .u8 c2)] [] (fun (h:Unit)=>((iv r),[])):=by
 unfold Z1j at hr
 refine fn_ok Tryz.func208 R 8 R R fun C V=>?_
 refine cN V ?_
 refine o_6 ?_
 obtain ⟨r3,hx4,hr⟩:=bd hr
 refine c_region (lO (vp (vstr p1) R) (lI R (lC 0 cb171 R (internal_stringslite_IndexByte_ok hx4) R ?_)))
 rintro _
 refine o_4 ?_
 obtain rfl:=so hr
 exact qF () tI
theorem Zc_ok  {form1:Str}{mG:Int}{r:(List Str)×Str×Bool}(hr:Zc form1=some r) :
 FnOk Tryz.prog 207 [(vstr form1)] [gl 0 mG] (fun (h:HH)=>((.tuple [(s3 h),(vstr r.2.1),(.bool r.2.2)].toArray),[rds kT9 (s3 h) r.1])):=by
 unfold Zc at hr
 refine fn_ok Tryz.func207 R 93 R R fun C V=>?_
 refine cN (_::V) ?_
 let W0:List HP:=gl 0 mG::V
 refine cN W0 ?_
 refine o_3 ?_
 refine lO (vp (vstr ([]:Str)) R) ?_
 refine o_4 ?_
 obtain ⟨r2,hx3,hr⟩:=bd hr
 refine c_region (lO (vp (vstr form1) R) (lM (gl 0 mG::W0) (fun w s=>(s.dg 0 R)) ?_))
 refine lC 1 cb210 R (Z2p_ok hx3) R ?_
 rintro _
 refine lN W0 ?_
 refine lO (vT R) (lO (vp (vstr r2.1) R) (lO (vp (vstr r2.2.1) R) (lB R (lO (vp (vstr r2.1) R) (lO (vp (vstr r2.2.1) R) ?_)))))
 refine o_5 ?_
 refine cQ [(5,(vstr r2.1)),(6,(vstr r2.2.1)),(25,(.bool ((!r2.2.2)||(decide ((r2.2.1.length:Int)>(6:Int))))))] (W0) ?_ ?_
 refine o_4 ?_
 rcases bo (!r2.2.2) with hc4 | hc4
 refine o_5 ?_
 exact qj tI
 refine lW (wnF hc4) (vp (vstr r2.2.1) R) (lW (wnF hc4) (vz (il r2.2.1) (v_slen un9 R)) ?_)
 refine o_3 ?_
 exact qj tI
 rintro σ1
 refine o_1 ?_
 rcases bif_ hr with ⟨_,hr⟩|⟨_,hr⟩
 refine o_4 ?_
 refine lO (vp (vstr ([]:Str)) R) ?_
 refine o_5 ?_
 obtain rfl:=so hr
 exact qT3 (none,0,0) (fun w s=>((s.nilr kT9).e 2 [0]))
 refine o_4 ?_
 obtain ⟨r6,hx7,hr⟩:=bd hr
 refine c_region (lO (vp (vstr r2.1) R) (lM (gl 0 mG::W0) (fun w s=>(s.dg 0 R)) ?_))
 refine lC 1 cb211 R (Z2q_ok hx7) R ?_
 rintro ⟨A8,N8,D8⟩
 refine lN (rds kT9 (.slice A8 N8 D8) r6::W0) ?_
 refine l_len 0 sees_rd ?_
 rintro rfl
 refine o_11 ?_
 rcases bif_ hr with ⟨_,hr⟩|⟨_,hr⟩
 refine o_4 ?_
 refine lO (vp (vstr ([]:Str)) R) ?_
 refine o_5 ?_
 obtain rfl:=so hr
 exact qT3 (none,0,0) (fun w s=>((s.nilr kT9).e 3 [0]))
 refine o_4 ?_
 refine c_cut (A:=(Unit)×(HH)) (fun a=>Zc_J3 r2 r6=some r) (fun a=>[(5,(vstr r2.1)),(6,(vstr r2.2.1)),(8,(s3 a.2))]) (fun a=>rds kT9 (s3 a.2) r6::W0) ?_ ?_
 refine o_8 ?_
 obtain ⟨e1,hl1,hk1⟩:=bd hr
 refine c_loop (A:=HH) hl1 (fun s a=>[(5,(vstr r2.1)),(6,(vstr r2.2.1)),(8,(s3 a)),(31,(s3 a)),(32,(il r6)),(33,(iv s))]) (fun s a=>rds kT9 (s3 a) r6::W0) (A8,r6.length,D8) (aS R) tI ?_
 rintro x27 ⟨A26,N26,D26⟩ σ1 out1 hr he1
 dsimp only [Zc_L1] at hr
 refine c_len 0 sees_rd (fun (hn:N26=r6.length)=>?_)
 subst hn
 refine o_6 ?_
 rcases bif_ hr with ⟨_,hr⟩|⟨_,hr⟩
 refine o_4 ?_
 refine c_cut (A:=(Unit)×(HH)) (fun a=>Zc_J2 x27=some out1) (fun a=>[(5,(vstr r2.1)),(6,(vstr r2.2.1)),(8,(s3 a.2)),(31,(s3 a.2)),(32,(il r6)),(33,(iv x27))]) (fun a=>rds kT9 (s3 a.2) r6::W0) ?_ ?_
 refine o_2 ?_
 obtain ⟨hg29,hr⟩:=gd hr
 refine c_region (t_some 0 sees_rd (show 0<r6.length by have:=hg29; omega) (fun g30 o31 ha=>?_))
 subst ha
 refine o_1 ?_
 refine lO (vz (vstr (ix r6 x27)) (v_lde (K:=kT9) (fo:=0) (pr:=fun x=>(vstr x)) 0 x27 ag9 (dT9.leaf fun _ _=>R) sees_rd R hg29.1 hg29.2)) (lO (vp (vstr (ix r6 x27)) R) ?_)
 refine o_5 ?_
 refine lO (vp (vstr (ix r6 x27)) R) (lO (vz (il (ix r6 x27)) (v_slen un9 R)) ?_)
 refine o_3 ?_
 rcases bif_ hr with ⟨_,hr⟩|⟨_,hr⟩
 refine o_4 ?_
 refine lO (vp (vstr ([]:Str)) R) ?_
 refine o_7 ?_
 obtain rfl:=so hr
 obtain rfl:=he1 _ R
 have hr:=hk1
 refine o_3 ?_
 obtain rfl:=so hr
 exact qT3 (none,0,0) (fun w s=>((s.nilr kT9).e 3 [0]))
 refine o_9 ?_
 obtain ⟨e2,hl2,hk2⟩:=bd hr
 refine c_loop (A:=Unit) hl2 (fun s a=>[(5,(vstr r2.1)),(6,(vstr r2.2.1)),(8,(sc (ad g30 o31) r6 D26)),(10,(vstr (ix r6 x27))),(11,(iv s)),(31,(sc (ad g30 o31) r6 D26)),(32,(il r6)),(33,(iv x27))]) (fun s a=>RR kT9 (ad g30 o31) D26 r6::W0) () (aS R) tI ?_
 rintro i37 _ σ1 out2 hr he2
 dsimp only [Zc_L2] at hr
 refine o_4 ?_
 refine lO (vp (vstr (ix r6 x27)) R) (lO (vz (il (ix r6 x27)) (v_slen un9 R)) ?_)
 refine o_3 ?_
 rcases bif_ hr with ⟨_,hr⟩|⟨_,hr⟩
 refine o_6 ?_
 obtain ⟨hg39,hr⟩:=gd hr
 refine cQ [(5,(vstr r2.1)),(6,(vstr r2.2.1)),(8,(sc (ad g30 o31) r6 D26)),(10,(vstr (ix r6 x27))),(11,(iv i37)),(31,(sc (ad g30 o31) r6 D26)),(32,(il r6)),(33,(iv x27)),(55,(.bool ((decide ((bt (ix r6 x27) i37)<(97:Int)))||(decide ((bt (ix r6 x27) i37)>(122:Int))))))] (RR kT9 (ad g30 o31) D26 r6::W0) ?_ ?_
 refine c_region (lO (vp (vstr (ix r6 x27)) R) (lI R (lO (vz (.int .u8 (bt (ix r6 x27) i37)) (v_sindex un9 R R hg39.1 hg39.2)) (lO (vp (.bool (decide ((bt (ix r6 x27) i37)<(97:Int)))) R) (lB R ?_)))))
 rcases bo (decide ((bt (ix r6 x27) i37)<(97:Int))) with hc40 | hc40
 refine o_6 ?_
 exact qj tI
 refine lW (wnF hc40) (vp (vstr (ix r6 x27)) R) (lW (wnF hc40) (vI R) (lW (wnF hc40) (vz (.int .u8 (bt (ix r6 x27) i37)) (v_sindex un9 R R hg39.1 hg39.2)) (lW (wnF hc40) (vp (.bool (decide ((bt (ix r6 x27) i37)>(122:Int)))) R) ?_)))
 refine o_2 ?_
 exact qj tI
 rintro σ1
 refine o_1 ?_
 rcases bif_ hr with ⟨_,hr⟩|⟨_,hr⟩
 refine o_4 ?_
 refine lO (vp (vstr ([]:Str)) R) ?_
 refine o_6 ?_
 obtain rfl:=so hr
 obtain rfl:=he2 _ R
 have hr:=hk2
 refine o_4 ?_
 obtain rfl:=so hr
 obtain rfl:=he1 _ R
 have hr:=hk1
 refine o_3 ?_
 obtain rfl:=so hr
 exact qT3 (none,0,0) (fun w s=>((s.nilr kT9).e 3 [0]))
 refine o_9 ?_
 obtain rfl:=so hr
 exact qA () tI
 refine o_3 ?_
 obtain rfl:=so hr
 obtain rfl:=he2 _ R
 have hr:=hk2
 refine o_3 ?_
 exact qI ((),((ad g30 o31),r6.length,D26)) hr tI
 rintro ⟨_,⟨A43,N43,D43⟩⟩ σ1 hr
 dsimp only [Zc_J2] at hr
 refine c_len 0 sees_rd (fun (hn:N43=r6.length)=>?_)
 subst hn
 refine o_4 ?_
 obtain rfl:=so hr
 exact qA (A43,r6.length,D43) tI
 refine o_3 ?_
 obtain rfl:=so hr
 obtain rfl:=he1 _ R
 have hr:=hk1
 refine o_2 ?_
 exact qI ((),(A26,r6.length,D26)) hr tI
 rintro ⟨_,⟨A46,N46,D46⟩⟩ σ1 hr
 dsimp only [Zc_J3] at hr
 refine c_len 0 sees_rd (fun (hn:N46=r6.length)=>?_)
 subst hn
 refine c_seq (c_cut (A:=(Unit)×(Unit)) (fun a=>Zc_J4 r2 r6=some r) (fun a=>[(6,(vstr r2.2.1)),(8,(sc A46 r6 D46))]) (fun a=>RR kT9 A46 D46 r6::W0) ?_ ?_)
 refine o_6 ?_
 obtain ⟨e3,hl3,hk3⟩:=bd hr
 refine c_loop (A:=Unit) hl3 (fun s a=>[(5,(vstr r2.1)),(6,(vstr r2.2.1)),(8,(sc A46 r6 D46)),(12,(iv s))]) (fun s a=>RR kT9 A46 D46 r6::W0) () (aS R) tI ?_
 rintro i58 _ σ1 out3 hr he3
 dsimp only [Zc_L3] at hr
 refine o_4 ?_
 refine lO (vp (vstr r2.2.1) R) (lO (vz (il r2.2.1) (v_slen un9 R)) ?_)
 refine o_3 ?_
 rcases bif_ hr with ⟨_,hr⟩|⟨_,hr⟩
 refine o_6 ?_
 obtain ⟨hg60,hr⟩:=gd hr
 obtain ⟨hg61,hr⟩:=gd hr
 obtain ⟨r62,hx63,hr⟩:=bd hr
 obtain ⟨r64,hx65,hr⟩:=bd hr
 refine cQ [(5,(vstr r2.1)),(6,(vstr r2.2.1)),(8,(sc A46 r6 D46)),(12,(iv i58)),(90,(.bool ((((decide ((bt r2.2.1 i58)<(97:Int)))||(decide ((bt r2.2.1 i58)>(122:Int))))||(decide (r62≥(0:Int))))||(decide (r64<(0:Int))))))] (RR kT9 A46 D46 r6::W0) ?_ ?_
 rcases bo (decide ((bt r2.2.1 i58)<(97:Int))) with hc66 | hc66
 refine cdr 28 [] mixo fun ht hn=>?_
 refine dR 0 R (vp (vstr r2.2.1) R) (dR 1 R (vI R) (dR 2 R (vz (.int .u8 (bt r2.2.1 i58)) (v_sindex un9 R R hg60.1 hg60.2)) (dR 3 R (vp (.bool (decide ((bt r2.2.1 i58)<(97:Int)))) R) ?_)))
 refine d24_ 4 [] ?_
 refine dD ?_
 exact qj tI
 rcases bo ((decide ((bt r2.2.1 i58)<(97:Int)))||(decide ((bt r2.2.1 i58)>(122:Int)))) with hc67 | hc67
 refine cdr 28 [] mixo fun ht hn=>?_
 refine dR 0 R (vp (vstr r2.2.1) R) (dR 1 R (vI R) (dR 2 R (vz (.int .u8 (bt r2.2.1 i58)) (v_sindex un9 R R hg60.1 hg60.2)) (dR 3 R (vp (.bool (decide ((bt r2.2.1 i58)<(97:Int)))) R) (dR 4 R (vB R) (dW 5 R (wnF hc66) (vp (vstr r2.2.1) R) (dW 6 R (wnF hc66) (vI R) (dW 7 R (wnF hc66) (vz (.int .u8 (bt r2.2.1 i58)) (v_sindex un9 R R hg60.1 hg60.2)) (dW 8 R (wnF hc66) (vp (.bool (decide ((bt r2.2.1 i58)>(122:Int)))) R) ?_))))))))
 refine d19_ 9 [] ?_
 refine dD ?_
 exact qj tI
 rcases bo (((decide ((bt r2.2.1 i58)<(97:Int)))||(decide ((bt r2.2.1 i58)>(122:Int))))||(decide (r62≥(0:Int)))) with hc68 | hc68
 refine cdr 28 [] mixo fun ht hn=>?_
 refine dR 0 R (vp (vstr r2.2.1) R) (dR 1 R (vI R) (dR 2 R (vz (.int .u8 (bt r2.2.1 i58)) (v_sindex un9 R R hg60.1 hg60.2)) (dR 3 R (vp (.bool (decide ((bt r2.2.1 i58)<(97:Int)))) R) (dR 4 R (vB R) (dW 5 R (wnF hc66) (vp (vstr r2.2.1) R) (dW 6 R (wnF hc66) (vI R) (dW 7 R (wnF hc66) (vz (.int .u8 (bt r2.2.1 i58)) (v_sindex un9 R R hg60.1 hg60.2)) (dW 8 R (wnF hc66) (vp (.bool (decide ((bt r2.2.1 i58)>(122:Int)))) R) ?_))))))))
 refine d2_ 9 [] ?_
 refine dW 11 R (wnF hc67) (vp (vstr r2.2.1) R) (dW 12 R (wnF hc67) (vI R) (dW 13 R (wnF hc67) (vz (vstr (sub r2.2.1 (0:Int) i58)) (v_scut (0:Int) i58 un9 R R R (hg61 hc67).1 (hg61 hc67).2.1 (hg61 hc67).2.2)) (dW 14 R (wnF hc67) (vp (vstr r2.2.1) R) (dW 15 R (wnF hc67) (vI R) (dW 16 R (wnF hc67) (vz (.int .u8 (bt r2.2.1 i58)) (v_sindex un9 R R hg60.1 hg60.2)) (d1 17 R (l_calln 0 R (wnF hc67) cb208 R (Z1j_ok (gcall_t hx63 (not_ff hc67))) R ?_)))))))
 rintro _
 refine lN (RR kT9 A46 D46 r6::W0) ?_
 refine l_nil (q_draw (sL []) ?_)
 refine d10_ 18 [] ?_
 refine dD ?_
 exact qj tI
 refine cdr 28 [] mixo fun ht hn=>?_
 refine dR 0 R (vp (vstr r2.2.1) R) (dR 1 R (vI R) (dR 2 R (vz (.int .u8 (bt r2.2.1 i58)) (v_sindex un9 R R hg60.1 hg60.2)) (dR 3 R (vp (.bool (decide ((bt r2.2.1 i58)<(97:Int)))) R) (dR 4 R (vB R) (dW 5 R (wnF hc66) (vp (vstr r2.2.1) R) (dW 6 R (wnF hc66) (vI R) (dW 7 R (wnF hc66) (vz (.int .u8 (bt r2.2.1 i58)) (v_sindex un9 R R hg60.1 hg60.2)) (dW 8 R (wnF hc66) (vp (.bool (decide ((bt r2.2.1 i58)>(122:Int)))) R) ?_))))))))
 refine d2_ 9 [] ?_
 refine dW 11 R (wnF hc67) (vp (vstr r2.2.1) R) (dW 12 R (wnF hc67) (vI R) (dW 13 R (wnF hc67) (vz (vstr (sub r2.2.1 (0:Int) i58)) (v_scut (0:Int) i58 un9 R R R (hg61 hc67).1 (hg61 hc67).2.1 (hg61 hc67).2.2)) (dW 14 R (wnF hc67) (vp (vstr r2.2.1) R) (dW 15 R (wnF hc67) (vI R) (dW 16 R (wnF hc67) (vz (.int .u8 (bt r2.2.1 i58)) (v_sindex un9 R R hg60.1 hg60.2)) (d1 17 R (l_calln 0 R (wnF hc67) cb208 R (Z1j_ok (gcall_t hx63 (not_ff hc67))) R ?_)))))))
 rintro _
 refine l_nil (q_draw (sL []) ?_)
 refine d3_ 18 [] ?_
 refine dW 21 R (wnF hc68) (vp (vstr r2.1) R) (dW 22 R (wnF hc68) (vp (vstr r2.2.1) R) (dW 23 R (wnF hc68) (vI R) (dW 24 R (wnF hc68) (vz (.int .u8 (bt r2.2.1 i58)) (v_sindex un9 R R hg60.1 hg60.2)) (d1 25 R (l_calln 0 R (wnF hc68) cb208 R (Z1j_ok (gcall_t hx65 (not_ff hc68))) R ?_)))))
 rintro _
 refine l_nil (q_draw (sL []) ?_)
 refine d2_ 26 [] ?_
 refine dD ?_
 exact qj tI
 rintro σ1
 refine o_1 ?_
 rcases bif_ hr with ⟨_,hr⟩|⟨_,hr⟩
 refine o_4 ?_
 refine lO (vp (vstr ([]:Str)) R) ?_
 refine o_6 ?_
 obtain rfl:=so hr
 obtain rfl:=he3 _ R
 have hr:=hk3
 refine o_3 ?_
 obtain rfl:=so hr
 exact qT3 (none,0,0) (fun w s=>((s.nilr kT9).e 3 [0]))
 refine o_9 ?_
 obtain rfl:=so hr
 exact qA () tI
 refine o_3 ?_
 obtain rfl:=so hr
 obtain rfl:=he3 _ R
 have hr:=hk3
 refine o_2 ?_
 exact qI ((),()) hr tI
 rintro ⟨_,_⟩ σ1 hr
 dsimp only [Zc_J4] at hr
 refine o_3 ?_
 refine lO (vp (vstr r2.2.1) R) (lS R (lO (vp (vstr r2.2.1) R) ?_))
 refine o_4 ?_
 obtain rfl:=so hr
 exact qT3 (A46,r6.length,D46) (tE 2 [0])
theorem Zl_ok {s1:List Int}{a_2:Option Addr}{n_2 c_2:Nat}{r:(List Int)}(hr:Zl s1=some r) :
  FnOk Tryz.prog 64 [(.slice a_2 n_2 c_2)] [rds kT3 (.slice a_2 n_2 c_2) s1] (fun (h:(Option Addr×Nat×Nat))=>((s3 h),[ow kT3 3 (s3 h) r])):=by
 unfold Zl at hr
 obtain ⟨hg,hr⟩:=gd hr
 obtain rfl:=Option.some.inj hr
 refine fn_ok Tryz.func64 rfl 8 rfl rfl fun C V=>(c_st (V':=rds kT3 (.slice a_2 n_2 c_2) s1::V) tI (c_len 0 sees_rd (fun (hn:n_2=s1.length)=>?_)))
 subst hn
 refine o_2 ?_
 refine lS rfl ?_
 refine o_5 ?_
 refine lS rfl (l_v (.bool a_2.isNone) (v_snil sl23 rfl rfl) rfl rfl (l_nil (q_next ?_)))
 rcases Bool.eq_false_or_eq_true a_2.isNone with ha | ha
 ·refine c_true rfl ha ?_
  refine c_nilx 0 sees_rd ha (fun (hx:s1=[])=>?_)
  subst hx
  refine o_2 ?_
  refine lS rfl ?_
  refine o_4 ?_
  exact q_fin (vs:=[(.slice none 0 0)]) (.inl rfl) (none,0,0) rfl ⟨rfl,trivial⟩ rfl (fun w s=>((s.nilo kT3 3).sel 2 [0] rfl rfl))
 ·refine c_false rfl ha (c_skip (q_next ?_))
  refine o_2 ?_
  refine l_build (K:=kT3) (xs:=([]:List Int)) (vs:=[]) 0 rfl rfl sl23 sz3 zc3 rfl rfl rfl rfl rfl rfl ?_ rfl (fun a_3 c_3=>?_)
  ·exact fun I h s=>(mO3).list [] I h s
  refine lS rfl (l_app (K:=kT3) 17592186044416 rfl rfl sl23 sz3 by3 (Zr.zk zT3 zc3) rfl rfl rfl rfl rfl rfl (src_rd (Kind.scal_flat _ _)) (by simpa using hg) (fun a_4 c_4=>(lS rfl (l_nil (q_next (c_ret ?_))))))
  exact q_fin (vs:=[(.slice a_4 s1.length c_4)]) (.inl rfl) (a_4,s1.length,c_4) rfl ⟨rfl,trivial⟩ rfl tI
end Go.Proofs.YtmpnollfdpdipaaGreat
