import Derived.Test.YtmpnollfdpdipaaGreatGkW5
set_option linter.unusedVariables false
set_option maxRecDepth 20000
namespace Go.Proofs.YtmpnollfdpdipaaGreat
open Go Go.Pg
variable {A2 A3 A4 A5 A6 A7 A8 A9 A10 A11 A12 A14:Option Addr}{D2 D3 D4 D5 D6 D7 D8 D9 D10 D11 D12 D14 N2 N3 N4 N5 N6 N7 N8 N9 N10 N11 N12 N14:Nat}
theorem Z24_ok  {v1:View}{axis4:Int}{size5:Int}{step6:Int}{r:View}(hr:Z24 v1 axis4 size5 step6=some r) :
 FnOk Tryz.prog 161 [(.agg [(.slice A2 N2 D2),(.slice A3 N3 D3),(iv v1.Offset),(iv v1.Base)].toArray),(iv axis4),(iv size5),(iv step6)] [rds kT3 (.slice A2 N2 D2) v1.Dims,rds kT3 (.slice A3 N3 D3) v1.Strides] (fun (h:HH×HH)=>((.agg [(s3 h.1),(s3 h.2),(iv r.Offset),(iv r.Base)].toArray),[ow kT3 3 (s3 h.1) r.Dims,ow kT3 3 (s3 h.2) r.Strides])):=by
 unfold Z24 at hr
 refine fn_ok Tryz.func161 R 12 R R fun C V=>?_
 refine cN (_::_::V) ?_
 refine cL 0 sees_rd ?_
 rintro rfl
 refine cL 1 sees_rd ?_
 rintro rfl
 let W0:List HP:=RR kT3 A2 D2 v1.Dims::RR kT3 A3 D3 v1.Strides::V
 refine cN W0 ?_
 refine o_2 ?_
 refine lBx R fun b7=>?_
 refine l_box (cs:=[(iv axis4)]) R R R (fun b8=>(l_box (cs:=[(iv size5)]) R R R (fun b9=>(l_box (cs:=[(iv step6)]) R R R (fun b10=>(l_alloc R R zc96 (fun b11=>(l_nil ?_))))))))
 let W1:List HP:=bxl b7 [(sc A2 v1.Dims D2),(sc A3 v1.Strides D3),(iv v1.Offset),(iv v1.Base)] 96::W0
 refine qN (_::_::_::_::W1) ?_
 refine o_2 ?_
 obtain ⟨r12,hx13,hr⟩:=bd hr
 refine o_2 ?_
 refine lO (vp (.func (.func 169) [].toArray [(pt b8 0),(pt b9 0),(pt b10 0)].toArray) R) (lM (RR kT3 A2 D2 v1.Dims::RR kT3 A3 D3 v1.Strides::bxl _ _ _::bxl _ _ _::bxl _ _ _::bxl _ _ _::W1) (fun w s=>(((s.d 5 R).d 7 R).e 6 [1,0,5,4,3,2])) ?_)
 refine lC 5 cb165 R (Z2v_ok hx13) R ?_
 rintro ⟨⟨A14,N14,D14⟩,⟨A15,N15,D15⟩⟩
 refine lN (ow kT3 3 (.slice A14 N14 D14) r12.1.Dims::ow kT3 3 (.slice A15 N15 D15) r12.1.Strides::_::_::bxl b10 [(iv r12.2)] 3::_::W1) ?_
 refine l_len 0 sees_ow ?_
 rintro rfl
 refine l_len 1 sees_ow ?_
 rintro rfl
 refine l_stores 5 R R sz96 R R R R R R (lN (_::_::_::_::_::bxl b11 [(sc A14 r12.1.Dims D14),(sc A15 r12.1.Strides D15),(iv r12.1.Offset),(iv r12.1.Base)] 96::W1) ?_)
 refine o_3 ?_
 obtain rfl:=so hr
 exact qS ((A14,r12.1.Dims.length,D14),(A15,r12.1.Strides.length,D15)) (tE 9 [0,1])
theorem Z11_ok  {n1:Node}{dims6:(List Int)}{r:View}(hr:Z11 n1 dims6=some r) :
 FnOk Tryz.prog 146 [(.agg [(iv n1.Op),(.slice A2 N2 D2),(.slice A3 N3 D3),(.slice A4 N4 D4),(vstr n1.Form),(.slice A5 N5 D5)].toArray),(.slice A7 N7 D7)] [rds kT3 (.slice A2 N2 D2) n1.Args,rds kT3 (.slice A3 N3 D3) n1.Dims,rds kT3 (.slice A4 N4 D4) n1.Ints,rds kT3 (.slice A5 N5 D5) n1.Data,rds kT3 (.slice A7 N7 D7) dims6] (fun (h:HH×HH)=>((.agg [(s3 h.1),(s3 h.2),(iv r.Offset),(iv r.Base)].toArray),[rds kT3 (s3 h.1) r.Dims,rds kT3 (s3 h.2) r.Strides])):=by
 unfold Z11 at hr
 refine fn_ok Tryz.func146 R 76 R R fun C V=>?_
 refine cN (_::_::_::_::_::V) ?_
 refine cL 0 sees_rd ?_
 rintro rfl
 refine cL 1 sees_rd ?_
 rintro rfl
 refine cL 2 sees_rd ?_
 rintro rfl
 refine cL 3 sees_rd ?_
 rintro rfl
 refine cL 4 sees_rd ?_
 rintro rfl
 let W0:List HP:=RR kT3 A2 D2 n1.Args::RR kT3 A3 D3 n1.Dims::RR kT3 A4 D4 n1.Ints::RR kT3 A5 D5 n1.Data::RR kT3 A7 D7 dims6::V
 refine cN W0 ?_
 refine o_2 ?_
 refine lBx R fun b8=>?_
 refine l_alloc R R zc96 (fun b9=>(l_nil ?_))
 let W1:List HP:=bxl b8 [(iv n1.Op),(sc A2 n1.Args D2),(sc A3 n1.Dims D3),(sc A4 n1.Ints D4),(vstr n1.Form),(sc A5 n1.Data D5)] 54::W0
 refine qN (_::W1) ?_
 refine o_2 ?_
 obtain ⟨r10,hx11,hr⟩:=bd hr
 refine o_2 ?_
 refine lM (RR kT3 A7 D7 dims6::_::W1) (fun w s=>(s.d 6 R)) ?_
 refine lC 1 cb158 R (Z2b_ok hx11) R ?_
 rintro ⟨⟨A12,N12,D12⟩,⟨A13,N13,D13⟩⟩
 refine lN (ow kT3 3 (.slice A12 N12 D12) r10.Dims::ow kT3 3 (.slice A13 N13 D13) r10.Strides::_::W1) ?_
 refine l_len 0 sees_ow ?_
 rintro rfl
 refine l_len 1 sees_ow ?_
 rintro rfl
 refine l_alloc R R zc96 (fun b14=>(l_stores 0 R R sz96 R R R R R R (lN (bxl b14 [(sc A12 r10.Dims D12),(sc A13 r10.Strides D13),(iv r10.Offset),(iv r10.Base)] 96::_::_::_::W1) ?_)))
 refine o_12 ?_
 rcases bif_ hr with ⟨_,hr⟩|⟨_,hr⟩
 refine o_2 ?_
 obtain ⟨r16,hx17,hr⟩:=bd hr
 refine o_4 ?_
 refine l_st (fun w s=>s.shr 1 R) (l_st (fun w s=>s.shr 2 R) (lM (RR kT3 A12 D12 r10.Dims::RR kT3 A13 D13 r10.Strides::RR kT3 A3 D3 n1.Dims::RR kT3 A13 D13 r10.Strides::RR kT3 A12 D12 r10.Dims::bxl _ _ _::bxl _ _ _::W1) (fun w s=>((((s.d 1 R).d 1 R).d 8 R).e 7 [2,1,0,3,4,5,6])) ?_))
 refine lC 3 cb159 R (Z23_ok hx17) R ?_
 rintro ⟨⟨A18,N18,D18⟩,⟨A19,N19,D19⟩⟩
 refine lN (rds kT3 (.slice A18 N18 D18) r16.Dims::rds kT3 (.slice A19 N19 D19) r16.Strides::_::_::_::_::W1) ?_
 refine l_len 0 sees_rd ?_
 rintro rfl
 refine l_len 1 sees_rd ?_
 rintro rfl
 refine l_stores 5 R R sz96 R R R R R R (lN (_::_::_::_::_::bxl b9 [(sc A18 r16.Dims D18),(sc A19 r16.Strides D19),(iv r16.Offset),(iv r16.Base)] 96::W1) ?_)
 refine o_5 ?_
 obtain rfl:=so hr
 exact qS ((A18,r16.Dims.length,D18),(A19,r16.Strides.length,D19)) (tE 12 [0,1])
 refine o_2 ?_
 obtain ⟨hg20,hr⟩:=gd hr
 refine cQ [(2,(pt b8 0)),(4,(pt b9 0)),(5,(pt b14 0)),(16,(.bool (((n1.Op==(14:Int))&&((n1.Ints.length:Int)==(4:Int)))&&(decide ((ix n1.Ints (3:Int))≥(1:Int))))))] (bxl b9 [(.slice none 0 0),(.slice none 0 0),(iv 0),(iv 0)] 96::bxl b14 [(sc A12 r10.Dims D12),(sc A13 r10.Strides D13),(iv r10.Offset),(iv r10.Base)] 96::OO kT3 3 A12 D12 r10.Dims::OO kT3 3 A13 D13 r10.Strides::W1) ?_ ?_
 refine o_5 ?_
 rcases bo (n1.Op==(14:Int)) with hc23 | hc23
 refine o_6 ?_
 rcases bo ((n1.Op==(14:Int))&&((n1.Ints.length:Int)==(4:Int))) with hc24 | hc24
 refine o_2 ?_
 refine t_some 7 sees_rd (show 0<n1.Ints.length by have:=(hg20 hc24); omega) (fun g21 o22 ha=>?_)
 subst ha
 refine lW (wnT hc24) (vIa sl23 sz3 R R (hg20 hc24)) (lW (wnT hc24) (vLi 7 ag3 sees_rd R (hg20 hc24)) ?_)
 refine o_4 ?_
 exact qj (tE 4 [3,0,1,2])
 refine o_8 ?_
 exact qj (tE 4 [3,0,1,2])
 refine o_14 ?_
 exact qj (tE 4 [3,0,1,2])
 rintro σ1
 refine o_1 ?_
 rcases bif_ hr with ⟨_,hr⟩|⟨_,hr⟩
 refine o_2 ?_
 obtain ⟨hg26,hr⟩:=gd hr
 obtain ⟨_,hr⟩:=gd hr
 obtain ⟨_,hr⟩:=gd hr
 obtain ⟨_,hr⟩:=gd hr
 obtain ⟨r32,hx33,hr⟩:=bd hr
 refine c_some 7 sees_rd (show 0<n1.Ints.length by have:=hg26; omega) (fun g27 o28 ha=>?_)
 subst ha
 refine cdr 19 [0] mixo fun ht hn=>?_
 refine d17_ 0 [0] ?_
 refine d1 17 R (lM (OO kT3 3 A12 D12 r10.Dims::OO kT3 3 A13 D13 r10.Strides::bxl b9 [(.slice none 0 0),(.slice none 0 0),(iv 0),(iv 0)] 96::bxl _ _ _::W1) (tE 4 [2,3,0,1]) ?_)
 refine lC 2 cb160 R (FnOk.lends (A':=[OO kT3 3 A12 D12 r10.Dims,OO kT3 3 A13 D13 r10.Strides]) (A:=[RR kT3 A12 D12 r10.Dims,RR kT3 A13 D13 r10.Strides]) (B:=[]) (Z22_ok hx33) ⟨lend_ow,lend_ow,trivial⟩ (fun _=>⟨(closed_ow cT3),(closed_ow cT3),trivial⟩)) R ?_
 rintro ⟨⟨A34,N34,D34⟩,⟨A35,N35,D35⟩⟩
 refine lN (_::_::ow kT3 3 (.slice A34 N34 D34) r32.Dims::ow kT3 3 (.slice A35 N35 D35) r32.Strides::_::_::W1) ?_
 refine l_len 2 sees_ow ?_
 rintro rfl
 refine l_len 3 sees_ow ?_
 rintro rfl
 refine l_nil (q_draw (tE 6 [5,0,1]) (d1 18 R (l_stores 4 R R sz96 R R R R R R (lN (_::_::_::_::bxl b9 [(sc A34 r32.Dims D34),(sc A35 r32.Strides D35),(iv r32.Offset),(iv r32.Base)] 96::_::W1) ?_))))
 refine l_nil (q_draw (tE 6 [5,0,1]) (dD ?_))
 refine o_4 ?_
 obtain rfl:=so hr
 exact qS ((A34,r32.Dims.length,D34),(A35,r32.Strides.length,D35)) (fun w s=>(((s.shr 2 R).shr 3 R).e 12 [1,0]))
 refine o_2 ?_
 refine cQ [(2,(pt b8 0)),(4,(pt b9 0)),(5,(pt b14 0)),(51,(.bool ((n1.Op==(18:Int))&&((n1.Ints.length:Int)==(3:Int)))))] (bxl b9 [(.slice none 0 0),(.slice none 0 0),(iv 0),(iv 0)] 96::bxl b14 [(sc A12 r10.Dims D12),(sc A13 r10.Strides D13),(iv r10.Offset),(iv r10.Base)] 96::OO kT3 3 A12 D12 r10.Dims::OO kT3 3 A13 D13 r10.Strides::W1) ?_ ?_
 refine o_5 ?_
 rcases bo (n1.Op==(18:Int)) with hc36 | hc36
 refine o_7 ?_
 exact qj tI
 refine o_7 ?_
 exact qj tI
 rintro σ1
 refine o_1 ?_
 rcases bif_ hr with ⟨_,hr⟩|⟨_,hr⟩
 refine o_2 ?_
 obtain ⟨hg38,hr⟩:=gd hr
 obtain ⟨_,hr⟩:=gd hr
 obtain ⟨_,hr⟩:=gd hr
 obtain ⟨r43,hx44,hr⟩:=bd hr
 refine c_some 7 sees_rd (show 0<n1.Ints.length by have:=hg38; omega) (fun g39 o40 ha=>?_)
 subst ha
 refine cdr 15 [0] mixo fun ht hn=>?_
 refine d13_ 0 [0] ?_
 refine d1 13 R (lM (ow _ _ _ _::ow _ _ _ _::bxl b9 [(.slice none 0 0),(.slice none 0 0),(iv 0),(iv 0)] 96::bxl _ _ _::W1) (tE 4 [2,3,0,1]) ?_)
 refine lC 2 cb161 R (FnOk.lends (A':=[OO kT3 3 A12 D12 r10.Dims,OO kT3 3 A13 D13 r10.Strides]) (A:=[RR kT3 A12 D12 r10.Dims,RR kT3 A13 D13 r10.Strides]) (B:=[]) (Z24_ok hx44) ⟨lend_ow,lend_ow,trivial⟩ (fun _=>⟨(closed_ow cT3),(closed_ow cT3),trivial⟩)) R ?_
 rintro ⟨⟨A45,N45,D45⟩,⟨A46,N46,D46⟩⟩
 refine lN (_::_::ow kT3 3 (.slice A45 N45 D45) r43.Dims::ow kT3 3 (.slice A46 N46 D46) r43.Strides::_::_::W1) ?_
 refine l_len 2 sees_ow ?_
 rintro rfl
 refine l_len 3 sees_ow ?_
 rintro rfl
 refine l_nil (q_draw (tE 6 [5,0,1]) (d1 14 R (l_stores 4 R R sz96 R R R R R R (lN (_::_::_::_::bxl b9 [(sc A45 r43.Dims D45),(sc A46 r43.Strides D46),(iv r43.Offset),(iv r43.Base)] 96::_::W1) ?_))))
 refine l_nil (q_draw (tE 6 [5,0,1]) (dD ?_))
 refine o_4 ?_
 obtain rfl:=so hr
 exact qS ((A45,r43.Dims.length,D45),(A46,r43.Strides.length,D46)) (fun w s=>(((s.shr 2 R).shr 3 R).e 12 [1,0]))
 refine o_6 ?_
 refine lO (vz (.agg [(.slice none 0 0),(.slice none 0 0),(iv 0),(iv 0)].toArray) (v_build pl96 zc96 R R)) (l_stores 0 R R sz96 R R R R R R (lN (bxl b9 [(.slice none 0 0),(.slice none 0 0),(iv 0),(iv 0)] 96::_::_::_::W1) ?_))
 refine o_3 ?_
 obtain rfl:=so hr
 exact qS ((none,0,0),(none,0,0)) (fun w s=>(((s.nilr kT3).nilr kT3).e 12 [1,0]))
theorem Z2s_ok  {dims1:(List Int)}{strides3:(List Int)}{offset5:Int}{r:(List Int)×Int×(List Int)}(hr:Z2s dims1 strides3 offset5=some r) :
 FnOk Tryz.prog 157 [(.slice A2 N2 D2),(.slice A4 N4 D4),(iv offset5)] [rds kT3 (.slice A2 N2 D2) dims1,rds kT3 (.slice A4 N4 D4) strides3] (fun (h:HH×Nat×Nat×HH×Nat)=>((.func (.func 163) [].toArray [(pt h.2.1 0),(pt h.2.2.1 0),(pt h.2.2.2.2 0)].toArray),[rds kT3 (s3 h.1) r.1,bxl h.2.1 [(s3 h.1)] 23,bxl h.2.2.1 [(iv r.2.1)] 3,rds kT3 (s3 h.2.2.2.1) r.2.2,bxl h.2.2.2.2 [(s3 h.2.2.2.1)] 23])):=by
 unfold Z2s at hr
 refine fn_ok Tryz.func157 R 8 R R fun C V=>?_
 refine cN (_::_::V) ?_
 refine cL 0 sees_rd ?_
 rintro rfl
 refine cL 1 sees_rd ?_
 rintro rfl
 let W0:List HP:=RR kT3 A2 D2 dims1::RR kT3 A4 D4 strides3::V
 refine cN W0 ?_
 refine o_2 ?_
 refine l_box (cs:=[(sc A2 dims1 D2)]) R R R (fun b6=>(l_box (cs:=[(sc A4 strides3 D4)]) R R R (fun b7=>(l_box (cs:=[(iv offset5)]) R R R (fun b8=>(lO (vp _ R) (l_nil ?_)))))))
 let W1:List HP:=bxl b8 [(iv offset5)] 3::bxl b7 [(sc A4 strides3 D4)] 23::bxl b6 [(sc A2 dims1 D2)] 23::W0
 refine qN W1 ?_
 refine o_3 ?_
 refine lO (vp (.func (.func 163) [].toArray [(pt b6 0),(pt b8 0),(pt b7 0)].toArray) R) (lO (vp _ R) ?_)
 refine o_3 ?_
 obtain rfl:=so hr
 exact qF ((A2,dims1.length,D2),b6,b8,(A4,strides3.length,D4),b7) (tE 5 [3,2,0,4,1])
theorem Z00_ok  {YS:Type}{YF:YS→Int→Option (YS×Bool)}{yield1:YS}{p2:(List Int)}{p5:Int}{p7:(List Int)}{b3:Nat}{b6:Nat}{b8:Nat}{YE:YS→HP}{yl:Nat}(hy:∀ s x q,YF s x=some q→YOk Tryz.prog yl [.int .i64 x] [YE s] (fun _:Unit=>(.bool q.2,[YE q.1]))){r:YS}(hr:Z00 YS YF yield1 p2 p5 p7=some r) :
 FnOk Tryz.prog 163 [(.func (.yield yl) #[] #[]),(pt b3 0),(pt b6 0),(pt b8 0)] [YE yield1,rds kT3 (.slice A4 N4 D4) p2,bxl b3 [(.slice A4 N4 D4)] 23,bxl b6 [(iv p5)] 3,rds kT3 (.slice A9 N9 D9) p7,bxl b8 [(.slice A9 N9 D9)] 23] (fun (h:Unit)=>((.tuple [].toArray),[YE r,bxl b3 [(.slice A4 N4 D4)] 23,bxl b6 [(iv p5)] 3,bxl b8 [(.slice A9 N9 D9)] 23])):=by
 unfold Z00 at hr
 refine fn_ok Tryz.func163 R 60 R R fun C V=>?_
 refine cM (YE yield1::bxl _ _ _::bxl _ _ _::bxl _ _ _::rds _ _ _::rds _ _ _::V) (tE 6 [0,2,3,5,1,4]) ?_
 refine cL 4 sees_rd ?_
 rintro rfl
 refine cL 5 sees_rd ?_
 rintro rfl
 let W0:List HP:=RR kT3 A4 D4 p2::RR kT3 A9 D9 p7::V
 refine cN (_::bxl b3 [(sc A4 p2 D4)] 23::_::bxl b8 [(sc A9 p7 D9)] 23::W0) ?_
 refine o_1 ?_
 obtain ⟨hg10,hr⟩:=gd hr
 refine o_3 ?_
 refine l_make (K:=kT3) (m:=(p2.length:Int)) (z:=(0:Int)) R R sl23 sz3 by3 (Zr.zk zT3 zc3) (by decide) R R hg10.1 hg10.2.1 hg10.2.2 (fun A11 D11=>(lS R (l_nil ?_)))
 let W1:List HP:=bxl b3 [(sc A4 p2 D4)] 23::bxl b6 [(iv p5)] 3::bxl b8 [(sc A9 p7 D9)] 23::W0
 refine qN (OO kT3 3 A11 D11 (List.replicate (p2.length:Int).toNat (0:Int))::_::W1) ?_
 refine o_8 ?_
 obtain ⟨e1,hl1,hk1⟩:=bd hr
 refine c_loop (A:=Unit) hl1 (fun s a=>[(0,(.func (.yield yl) #[] #[])),(1,(pt b3 0)),(3,(pt b8 0)),(5,(sc A11 (List.replicate (p2.length:Int).toNat (0:Int)) D11)),(6,(iv s.2.1))]) (fun s a=>ow kT3 3 (.slice A11 (List.replicate (p2.length:Int).toNat (0:Int)).length D11) s.1::YE s.2.2::W1) () (aS R) tI ?_
 rintro ⟨index53,x54,y55⟩ _ σ1 out1 hr he1
 dsimp only [Z00_L1] at hr
 refine o_3 ?_
 obtain ⟨r56,hx57,hr⟩:=bd hr
 refine c_regy 2 R (fun _ _ h=>h) (lO (vp (.func (.yield yl) #[] #[]) R) (lI R (lM (YE y55::ow kT3 3 (.slice A11 (List.replicate (p2.length:Int).toNat (0:Int)).length D11) index53::W1) (tE 2 [1,0]) ?_)))
 refine l_nil (q_yield 1 R R (hy _ _ _ hx57) R (fun _ _ h=>h) R (fun _=>(lN (YE r56.1::_::W1) ?_)))
 refine o_3 ?_
 rcases bif_ hr with ⟨_,hr⟩|⟨_,hr⟩
 refine o_4 ?_
 obtain rfl:=so hr
 obtain rfl:=he1 _ R
 have hr:=hk1
 refine o_2 ?_
 obtain rfl:=so hr
 exact qT0 () (tE 7 [0,2,3,4])
 refine o_12 ?_
 refine c_cut (A:=((List Int)×Int×Int)×(Unit)) (fun a=>Z00_J2 YS YF r56 a.1.1 a.1.2.1 a.1.2.2=some out1) (fun a=>[(0,(.func (.yield yl) #[] #[])),(1,(pt b3 0)),(3,(pt b8 0)),(5,(sc A11 (List.replicate (p2.length:Int).toNat (0:Int)) D11)),(6,(iv a.1.2.1)),(7,(iv a.1.2.2))]) (fun a=>ow kT3 3 (.slice A11 (List.replicate (p2.length:Int).toNat (0:Int)).length D11) a.1.1::YE r56.1::W1) ?_ ?_
 refine o_1 ?_
 obtain ⟨e2,hl2,hk2⟩:=bd hr
 refine c_loop (A:=Unit) hl2 (fun s a=>[(0,(.func (.yield yl) #[] #[])),(1,(pt b3 0)),(3,(pt b8 0)),(5,(sc A11 (List.replicate (p2.length:Int).toNat (0:Int)) D11)),(6,(iv s.2.1)),(7,(iv s.2.2))]) (fun s a=>ow kT3 3 (.slice A11 (List.replicate (p2.length:Int).toNat (0:Int)).length D11) s.1::YE r56.1::W1) () (aS R) (tE 2 [1,0]) ?_
 rintro ⟨index74,x75,i76⟩ _ σ1 out2 hr he2
 dsimp only [Z00_L2] at hr
 refine o_7 ?_
 rcases bif_ hr with ⟨_,hr⟩|⟨_,hr⟩
 refine o_6 ?_
 obtain ⟨hg78,hr⟩:=gd hr
 refine o_3 ?_
 refine t_some 0 sees_ow (show 0<(List.replicate (p2.length:Int).toNat (0:Int)).length by have:=hg78; omega) (fun g79 o80 ha=>?_)
 subst ha
 refine o_4 ?_
 refine lN (ow kT3 3 (.slice (ad g79 o80) (List.replicate (p2.length:Int).toNat (0:Int)).length D11) index74::_::W1) ?_
 refine l_stx (K:=kT3) (x':=(w64 ((ix index74 i76)+(1:Int)))) 0 i76 R R sz3 R R hg78.1 hg78.2 ?_ ?_
 exact fun I h s=>(mO3).put I h () (w64 ((ix index74 i76)+(1:Int))) s
 refine lN (ow kT3 3 (.slice (ad g79 o80) (List.replicate (p2.length:Int).toNat (0:Int)).length D11) (index74.set i76.toNat (w64 ((ix index74 i76)+(1:Int))))::_::W1) ?_
 refine o_3 ?_
 obtain ⟨hg81,hr⟩:=gd hr
 refine o_4 ?_
 refine t_some 6 sees_rd (show 0<p7.length by have:=hg81; omega) (fun g82 o83 ha=>?_)
 subst ha
 refine o_8 ?_
 obtain ⟨hg84,hr⟩:=gd hr
 refine c_some 5 sees_rd (show 0<p2.length by have:=hg84; omega) (fun g85 o86 ha=>?_)
 subst ha
 refine cdr 9 [] mixo fun ht hn=>?_
 refine d9_ 0 [] ?_
 refine dD (q_next ?_)
 rcases bif_ hr with ⟨_,hr⟩|⟨_,hr⟩
 refine o_3 ?_
 refine q_pass R (q_exit ?_)
 obtain rfl:=so hr
 obtain rfl:=he2 _ R
 have hr:=hk2
 refine o_2 ?_
 exact qI (((index74.set i76.toNat (w64 ((ix index74 i76)+(1:Int)))),(w64 (x75+(ix p7 i76))),i76),()) hr tI
 refine o_4 ?_
 refine cdr 12 [] mixo fun ht hn=>?_
 refine d12_ 0 [] ?_
 refine dD ?_
 refine o_5 ?_
 refine l_stx (K:=kT3) (x':=(0:Int)) 0 i76 R R sz3 R R hg78.1 hg78.2 ?_ ?_
 exact fun I h s=>(mO3).put I h () (0:Int) s
 refine lN (ow kT3 3 (.slice (ad g79 o80) (List.replicate (p2.length:Int).toNat (0:Int)).length D11) ((index74.set i76.toNat (w64 ((ix index74 i76)+(1:Int)))).set i76.toNat (0:Int))::_::W1) ?_
 refine o_1 ?_
 obtain ⟨l88,hl89,hr⟩:=bd hr
 replace hl89:=Option.some.inj hl89
 refine qM (ow kT3 3 (.slice (ad g79 o80) (List.replicate (p2.length:Int).toNat (0:Int)).length D11) l88::_::W1) (fun w s=>by rw [← hl89]; exact s) ?_
 refine o_7 ?_
 obtain rfl:=so hr
 exact qA () tI
 refine o_3 ?_
 obtain rfl:=so hr
 obtain rfl:=he2 _ R
 have hr:=hk2
 refine o_2 ?_
 exact qI ((index74,x75,i76),()) hr tI
 rintro ⟨⟨index93,x94,i95⟩,_⟩ σ1 hr
 dsimp only [Z00_J2] at hr
 refine o_6 ?_
 rcases bif_ hr with ⟨_,hr⟩|⟨_,hr⟩
 refine o_3 ?_
 obtain rfl:=so hr
 obtain rfl:=he1 _ R
 have hr:=hk1
 refine o_2 ?_
 obtain rfl:=so hr
 exact qT0 () (fun w s=>(s.f 7 [1,4]))
 refine o_3 ?_
 obtain rfl:=so hr
 exact qA () tI
theorem Z25_ok  {v1:View}{r:(List Int)×(List pair)×Bool}(hr:Z25 v1=some r) :
 FnOk Tryz.prog 145 [(.agg [(.slice A2 N2 D2),(.slice A3 N3 D3),(iv v1.Offset),(iv v1.Base)].toArray)] [rds kT3 (.slice A2 N2 D2) v1.Dims,rds kT3 (.slice A3 N3 D3) v1.Strides] (fun (h:HH×HH)=>((.tuple [(s3 h.1),(s3 h.2),(.bool r.2.2)].toArray),[rds kT3 (s3 h.1) r.1,ow kT161 161 (s3 h.2) r.2.1])):=by
 unfold Z25 at hr
 refine fn_okm Tryz.func145 R 29 R R fun C V=>?_
 refine cN (_::_::V) ?_
 refine cL 0 sees_rd ?_
 rintro rfl
 refine cL 1 sees_rd ?_
 rintro rfl
 refine o_2 ?_
 refine lBx R fun b4=>?_
 refine o_7 ?_
 obtain ⟨r5,hx6,hr⟩:=bd hr
 refine o_2 ?_
 refine lM (rds _ _ _::rds _ _ _::bxl _ _ _::rds _ _ _::rds _ _ _::V) (fun w s=>(((s.d 1 R).d 3 R).e 5 [1,0,2,3,4])) ?_
 refine lC 2 cb156 R (Ze_ok hx6) R ?_
 rintro _
 refine lN (_::_::_::V) ?_
 refine o_3 ?_
 rcases bif_ hr with ⟨_,hr⟩|⟨_,hr⟩
 refine o_10 ?_
 obtain rfl:=so hr
 exact qT3 ((none,0,0),(none,0,0)) (fun w s=>(((s.nilr kT3).nilo kT161 161).e 5 [1,0]))
 refine o_5 ?_
 refine l_build (K:=kT161) (xs:=([]:List pair)) (vs:=[]) 0 R R sl147 sz161 zc161 R R R R R R ?_ R (fun A8 D8=>?_)
 exact fun I h s=>(mO161).list [] I h s
 refine lN (OO kT161 161 A8 D8 ([]:List pair)::_::_::_::V) ?_
 refine l_alloc R R zc147 (fun b9=>(l_store 0 R R sz147 R R R R R (lN (bxl b9 [(sc A8 ([]:List pair) D8)] 147::_::_::_::_::V) ?_)))
 refine o_2 ?_
 refine c_rseq ?_
 obtain ⟨r10,hx11,hr⟩:=bd hr
 refine o_7 ?_
 refine lM (rds _ _ _::rds _ _ _::bxl _ _ _::ow _ _ _ _::bxl _ _ _::rds _ _ _::rds _ _ _::V) (fun w s=>(((s.d 3 R).d 5 R).f 7 [1,1,0,1,2,5])) ?_
 refine lC 2 cb157 R (Z2s_ok hx11) R ?_
 rintro ⟨⟨A13,N13,D13⟩,b12,b14,⟨A16,N16,D16⟩,b15⟩
 refine lN (rds kT3 (.slice A13 N13 D13) r10.1::bxl b12 [(.slice A13 N13 D13)] 23::bxl b14 [(iv r10.2.1)] 3::rds kT3 (.slice A16 N16 D16) r10.2.2::bxl b15 [(.slice A16 N16 D16)] 23::_::_::_::_::_::V) ?_
 refine l_len 0 sees_rd ?_
 rintro rfl
 refine l_len 3 sees_rd ?_
 rintro rfl
 refine o_1 ?_
 obtain ⟨r29,hx30,hr⟩:=bd hr
 let Ef:Nat→Loop→((List pair))→HP:=fun l rc s=>pe fun a:HH=>lpe l rc::[bxl b4 [(sc A2 v1.Dims D2),(sc A3 v1.Strides D3),(iv v1.Offset),(iv v1.Base)] 96,RR kT3 A2 D2 v1.Dims,RR kT3 A3 D3 v1.Strides,bxl b9 [(s3 a)] 147,ow kT161 161 (s3 a) s]
 refine q_range (Wc:=[RR kT3 A13 D13 r10.1,bxl b12 [(sc A13 r10.1 D13)] 23,bxl b14 [(iv r10.2.1)] 3,RR kT3 A16 D16 r10.2.2,bxl b15 [(sc A16 r10.2.2 D16)] 23,bxl b9 [(sc A8 ([]:List pair) D8)] 147,OO kT161 161 A8 D8 ([]:List pair),bxl b4 [(sc A2 v1.Dims D2),(sc A3 v1.Strides D3),(iv v1.Offset),(iv v1.Base)] 96,RR kT3 A2 D2 v1.Dims,RR kT3 A3 D3 v1.Strides]) (E:=fun l rc=>Ef l rc ([]:List pair)) (E':=fun l rc=>Ef l rc r29) (Pre':=[RR kT3 A13 D13 r10.1,bxl b12 [(sc A13 r10.1 D13)] 23,bxl b14 [(iv r10.2.1)] 3,RR kT3 A16 D16 r10.2.2,bxl b15 [(sc A16 r10.2.2 D16)] 23]) (W3:=[]) (cp:=fun (_:Unit)=>[bxl b12 [(sc A13 r10.1 D13)] 23,bxl b14 [(iv r10.2.1)] 3,bxl b15 [(sc A16 r10.2.2 D16)] 23]) (Wd:=fun a:HH=>[bxl b4 [(sc A2 v1.Dims D2),(sc A3 v1.Strides D3),(iv v1.Offset),(iv v1.Base)] 96,RR kT3 A2 D2 v1.Dims,RR kT3 A3 D3 v1.Strides,bxl b9 [(s3 a)] 147,ow kT161 161 (s3 a) r29]) R R cb163 (fun V w l rc s=>St.pei (A8,([]:List pair).length,D8) ((s.f 11 [0,1,8,3,6,2,1,5]))) ?_ (fun V w l rc x s=>let ⟨a,s⟩:=s.peo; ⟨a,s.e 9 [0,1,2,3,4,5]⟩) R ?_
 intro l rc hrec
 refine Z00_ok (YE:=Ef l rc) (yl:=l) ?_ hx30
 rintro pairs21 x23 q hr
 dsimp only [Z3g] at hr
 refine yok (fun a:HH=>[bxl b4 [(sc A2 v1.Dims D2),(sc A3 v1.Strides D3),(iv v1.Offset),(iv v1.Base)] 96,RR kT3 A2 D2 v1.Dims,RR kT3 A3 D3 v1.Strides,bxl b9 [(s3 a)] 147,ow kT161 161 (s3 a) pairs21]) (fun a:HH=>[bxl b4 [(sc A2 v1.Dims D2),(sc A3 v1.Strides D3),(iv v1.Offset),(iv v1.Base)] 96,RR kT3 A2 D2 v1.Dims,RR kT3 A3 D3 v1.Strides,bxl b9 [(s3 a)] 147,ow kT161 161 (s3 a) q.1]) hrec R R R ?_
 rintro ⟨A22,N22,D22⟩
 apply Exists.intro
 intro C V
 refine ⟨?_,?_⟩
 refine o_1 ?_
 exact l_nil q_mid
 refine lN (_::_::_::bxl b9 [(.slice A22 N22 D22)] 147::ow kT161 161 (.slice A22 N22 D22) pairs21::V) ?_
 refine l_len 4 sees_ow ?_
 rintro rfl
 obtain ⟨hg25,hr⟩:=gd hr
 refine o_4 ?_
 refine lO (vz (.agg [(iv x23),(il pairs21)].toArray) (v_build pl161 zc161 R R)) (l_build (K:=kT161) (xs:=([(⟨x23,(pairs21.length:Int)⟩:pair)]:List pair)) (vs:=[(.agg [(iv x23),(il pairs21)].toArray)]) 0 R R sl147 sz161 zc161 R R R R R R ?_ R (fun A24 D24=>?_))
 exact fun I h s=>(mO161).list [(((),()),(⟨x23,(pairs21.length:Int)⟩:pair))] I h s
 refine lN (OO kT161 161 A24 D24 ([(⟨x23,(pairs21.length:Int)⟩:pair)]:List pair)::_::_::_::bxl b9 [(sc A22 pairs21 D22)] 147::_::V) ?_
 refine lM (ow _ _ _ _::ow _ _ _ _::bxl _ _ _::rds _ _ _::rds _ _ _::bxl _ _ _::V) (fun w s=>(s.f 6 [5,1,0,5])) ?_
 refine l_app (K:=kT161) 8796093022208 R R sl147 sz161 by161 (Zr.zk zT161 zc161) R R R R R R src_ow hg25 (fun A26 D26=>(lN (OO kT161 161 A26 D26 (pairs21++([(⟨x23,(pairs21.length:Int)⟩:pair)]:List pair))::_::_::_::_::V) ?_))
 refine l_store 4 R R sz147 R R R R R (lN (_::_::_::_::bxl b9 [(sc A26 (pairs21++([(⟨x23,(pairs21.length:Int)⟩:pair)]:List pair)) D26)] 147::V) ?_)
 refine o_1 ?_
 obtain rfl:=so hr
 exact q_rd (A26,(pairs21++([(⟨x23,(pairs21.length:Int)⟩:pair)]:List pair)).length,D26) R (fun w s=>(s.f 5 [1,4,0,1]))
 rintro ⟨A22,N22,D22⟩ Dm V
 refine cN (_::_::_::bxl b9 [(.slice A22 N22 D22)] 147::ow kT161 161 (.slice A22 N22 D22) r29::V) ?_
 refine cL 4 sees_ow ?_
 rintro rfl
 refine c_seq (cdr 6 [] mixo fun ht hn=>?_)
 refine d6_ 0 [] ?_
 refine dD ?_
 refine o_2 ?_
 obtain rfl:=so hr
 exact q_endr (q_fin (vs:=[(sc A2 v1.Dims D2),(sc A22 r29 D22),(.bool true)]) (.inl R) ((A2,v1.Dims.length,D2),(A22,r29.length,D22)) R ⟨R,R,R,trivial⟩ R (tE 5 [1,4]))
theorem Z2g_ok  {n1:Node}{dims6:(List Int)}{r:(List Int)×(List pair)×Bool}(hr:Z2g n1 dims6=some r) :
 FnOk Tryz.prog 124 [(.agg [(iv n1.Op),(.slice A2 N2 D2),(.slice A3 N3 D3),(.slice A4 N4 D4),(vstr n1.Form),(.slice A5 N5 D5)].toArray),(.slice A7 N7 D7)] [rds kT3 (.slice A2 N2 D2) n1.Args,rds kT3 (.slice A3 N3 D3) n1.Dims,rds kT3 (.slice A4 N4 D4) n1.Ints,rds kT3 (.slice A5 N5 D5) n1.Data,rds kT3 (.slice A7 N7 D7) dims6] (fun (h:HH×HH)=>((.tuple [(s3 h.1),(s3 h.2),(.bool r.2.2)].toArray),[rds kT3 (s3 h.1) r.1,ow kT161 161 (s3 h.2) r.2.1])):=by
 unfold Z2g at hr
 refine fn_ok Tryz.func124 R 14 R R fun C V=>?_
 refine cN (_::_::_::_::_::V) ?_
 refine cL 0 sees_rd ?_
 rintro rfl
 refine cL 1 sees_rd ?_
 rintro rfl
 refine cL 2 sees_rd ?_
 rintro rfl
 refine cL 3 sees_rd ?_
 rintro rfl
 refine cL 4 sees_rd ?_
 rintro rfl
 let W0:List HP:=RR kT3 A2 D2 n1.Args::RR kT3 A3 D3 n1.Dims::RR kT3 A4 D4 n1.Ints::RR kT3 A5 D5 n1.Data::RR kT3 A7 D7 dims6::V
 refine cN W0 ?_
 refine o_2 ?_
 refine lBx R fun b8=>?_
 refine o_4 ?_
 let W1:List HP:=bxl b8 [(iv n1.Op),(sc A2 n1.Args D2),(sc A3 n1.Dims D3),(sc A4 n1.Ints D4),(vstr n1.Form),(sc A5 n1.Data D5)] 54::W0
 refine qN W1 ?_
 refine o_2 ?_
 obtain ⟨r9,hx10,hr⟩:=bd hr
 obtain ⟨r13,hx14,hr⟩:=bd hr
 refine o_3 ?_
 refine lM (RR kT3 A2 D2 n1.Args::RR kT3 A3 D3 n1.Dims::RR kT3 A4 D4 n1.Ints::RR kT3 A5 D5 n1.Data::RR kT3 A7 D7 dims6::W1) (fun w s=>((((((s.d 1 R).d 3 R).d 5 R).d 7 R).d 9 R).e 5 [4,3,2,1,0])) ?_
 refine lC 5 cb146 R (Z11_ok hx10) R ?_
 rintro ⟨⟨A11,N11,D11⟩,⟨A12,N12,D12⟩⟩
 refine lN (rds kT3 (.slice A11 N11 D11) r9.Dims::rds kT3 (.slice A12 N12 D12) r9.Strides::W1) ?_
 refine l_len 0 sees_rd ?_
 rintro rfl
 refine l_len 1 sees_rd ?_
 rintro rfl
 refine lM (rds _ _ _::rds _ _ _::rds _ _ _::rds _ _ _::W1) (fun w s=>(((s.d 0 R).d 2 R).e 4 [1,0,2,3])) ?_
 refine lC 2 cb145 R (Z25_ok hx14) R ?_
 rintro ⟨⟨A15,N15,D15⟩,⟨A16,N16,D16⟩⟩
 refine lN (rds kT3 (.slice A15 N15 D15) r13.1::ow kT161 161 (.slice A16 N16 D16) r13.2.1::_::_::W1) ?_
 refine l_len 0 sees_rd ?_
 rintro rfl
 refine l_len 1 sees_ow ?_
 rintro rfl
 refine o_9 ?_
 obtain rfl:=so hr
 exact qT3 ((A15,r13.1.length,D15),(A16,r13.2.1.length,D16)) (tE 10 [0,1])
theorem Z1i_ok  {k1:shiftKind}{n2:Node}{args7:(List (List Int))}{r:(List Int)×Bool}(hr:Z1i k1 n2 args7=some r) :
 FnOk Tryz.prog 220 [(.agg [(vstr k1.use),(.func (.func 124) [].toArray [].toArray)].toArray),(.agg [(iv n2.Op),(.slice A3 N3 D3),(.slice A4 N4 D4),(.slice A5 N5 D5),(vstr n2.Form),(.slice A6 N6 D6)].toArray),(.slice A8 N8 D8)] [rds kT3 (.slice A3 N3 D3) n2.Args,rds kT3 (.slice A4 N4 D4) n2.Dims,rds kT3 (.slice A5 N5 D5) n2.Ints,rds kT3 (.slice A6 N6 D6) n2.Data,rds kT23 (.slice A8 N8 D8) args7] (fun (h:HH)=>((.tuple [(s3 h),(.bool r.2)].toArray),[rds kT3 (s3 h) r.1])):=by
 unfold Z1i at hr
 refine fn_ok Tryz.func220 R 27 R R fun C V=>?_
 refine cN (_::_::_::_::_::V) ?_
 refine cL 0 sees_rd ?_
 rintro rfl
 refine cL 1 sees_rd ?_
 rintro rfl
 refine cL 2 sees_rd ?_
 rintro rfl
 refine cL 3 sees_rd ?_
 rintro rfl
 refine cL 4 sees_rd ?_
 rintro rfl
 let W0:List HP:=RR kT3 A3 D3 n2.Args::RR kT3 A4 D4 n2.Dims::RR kT3 A5 D5 n2.Ints::RR kT3 A6 D6 n2.Data::RR kT23 A8 D8 args7::V
 refine cN W0 ?_
 refine o_2 ?_
 refine lBx R fun b9=>?_
 refine lBx R fun b10=>?_
 refine o_3 ?_
 let W1:List HP:=bxl b10 [(iv n2.Op),(sc A3 n2.Args D3),(sc A4 n2.Dims D4),(sc A5 n2.Ints D5),(vstr n2.Form),(sc A6 n2.Data D6)] 54::bxl b9 [(vstr k1.use),(.func (.func 124) [].toArray [].toArray)] 145::W0
 refine qN W1 ?_
 refine o_9 ?_
 rcases bif_ hr with ⟨_,hr⟩|⟨_,hr⟩
 refine o_9 ?_
 obtain rfl:=so hr
 exact qT2 (none,0,0) (fun w s=>((s.nilr kT3).e 8 [0]))
 refine o_4 ?_
 obtain ⟨hg12,hr⟩:=gd hr
 obtain ⟨r16,hx17,hr⟩:=bd hr
 refine c_some 6 sees_rd (show 0<args7.length by have:=hg12; omega) (fun g13 o14 ha=>?_)
 subst ha
 refine c_elem (K:=kT23) 6 (0:Int) dT23.dec R hg12.1 hg12.2 ?_
 rintro ⟨A15,D15⟩
 refine cN (cl g13 (o14+(0:Int).toNat*1) [(sc A15 (ix args7 (0:Int)) D15)]::RR kT3 A15 D15 (ix args7 (0:Int))::W1) ?_
 refine cdr 14 [] mixo fun ht hn=>?_
 refine d5_ 0 [] ?_
 refine dR 5 R (v_clf (fo:=0) 0 ag23 R R R) (d1 6 R (lM (RR kT3 A3 D3 n2.Args::RR kT3 A4 D4 n2.Dims::RR kT3 A5 D5 n2.Ints::RR kT3 A6 D6 n2.Data::rds _ _ _::cl _ _ _::rds _ _ _::W1) (fun w s=>((((((s.d 4 R).d 6 R).d 8 R).d 10 R).d 5 R).e 7 [4,3,2,1,0,5,6])) ?_))
 refine l_callvn (fs:=[]) (cs:=[]) 5 R R cb124 R R (Z2g_ok hx17) R ?_
 rintro ⟨⟨A18,N18,D18⟩,⟨A19,N19,D19⟩⟩
 refine lN (rds kT3 (.slice A18 N18 D18) r16.1::ow kT161 161 (.slice A19 N19 D19) r16.2.1::_::_::W1) ?_
 refine l_len 0 sees_rd ?_
 rintro rfl
 refine l_len 1 sees_ow ?_
 rintro rfl
 refine l_nil (q_draw (sL [1,0]) (dR 7 R (vT R) (hS:=(sL [1,0])) ?_))
 refine d6_ 8 [1,0] ?_
 refine dD ?_
 refine o_10 ?_
 obtain rfl:=so hr
 exact qT2 (A18,r16.1.length,D18) (tE 11 [0])
theorem Z0q_ok  {n1:Node}{dims6:(List Int)}{r:(List Int)×(List pair)×Bool}(hr:Z0q n1 dims6=some r) :
 FnOk Tryz.prog 125 [(.agg [(iv n1.Op),(.slice A2 N2 D2),(.slice A3 N3 D3),(.slice A4 N4 D4),(vstr n1.Form),(.slice A5 N5 D5)].toArray),(.slice A7 N7 D7)] [rds kT3 (.slice A2 N2 D2) n1.Args,rds kT3 (.slice A3 N3 D3) n1.Dims,rds kT3 (.slice A4 N4 D4) n1.Ints,rds kT3 (.slice A5 N5 D5) n1.Data,rds kT3 (.slice A7 N7 D7) dims6] (fun (h:HH×HH)=>((.tuple [(s3 h.1),(s3 h.2),(.bool r.2.2)].toArray),[rds kT3 (s3 h.1) r.1,ow kT161 161 (s3 h.2) r.2.1])):=by
 unfold Z0q at hr
 refine fn_ok Tryz.func125 R 37 R R fun C V=>?_
 refine cN (_::_::_::_::_::V) ?_
 refine cL 0 sees_rd ?_
 rintro rfl
 refine cL 1 sees_rd ?_
 rintro rfl
 refine cL 2 sees_rd ?_
 rintro rfl
 refine cL 3 sees_rd ?_
 rintro rfl
 refine cL 4 sees_rd ?_
 rintro rfl
 let W0:List HP:=RR kT3 A2 D2 n1.Args::RR kT3 A3 D3 n1.Dims::RR kT3 A4 D4 n1.Ints::RR kT3 A5 D5 n1.Data::RR kT3 A7 D7 dims6::V
 refine cN W0 ?_
 refine o_2 ?_
 refine lBx R fun b8=>?_
 refine o_4 ?_
 let W1:List HP:=bxl b8 [(iv n1.Op),(sc A2 n1.Args D2),(sc A3 n1.Dims D3),(sc A4 n1.Ints D4),(vstr n1.Form),(sc A5 n1.Data D5)] 54::W0
 refine qN W1 ?_
 refine o_3 ?_
 obtain ⟨r9,hx10,hr⟩:=bd hr
 obtain ⟨r11,hx12,hr⟩:=bd hr
 obtain ⟨r13,hx14,hr⟩:=bd hr
 refine cQ [(1,(sc A7 dims6 D7)),(2,(pt b8 0)),(20,(.bool ((!r9)||(r11 != r13))))] (W1) ?_ ?_
 refine o_3 ?_
 refine lM (RR kT3 A3 D3 n1.Dims::W1) (fun w s=>(s.d 2 R)) ?_
 refine lC 1 cb147 R (Zb_ok hx10) R ?_
 rintro _
 refine lN W1 ?_
 refine o_2 ?_
 rcases bo (!r9) with hc15 | hc15
 refine o_8 ?_
 exact qj tI
 refine o_2 ?_
 refine lM (RR kT3 A3 D3 n1.Dims::W1) (fun w s=>(s.d 2 R)) ?_
 refine l_calln 1 R (wnF hc15) cb148 R (Zj_ok (gcall_t hx12 (not_ff hc15))) R ?_
 rintro _
 refine lN W1 ?_
 refine o_1 ?_
 refine lM (RR kT3 A7 D7 dims6::W1) (fun w s=>(s.d 5 R)) ?_
 refine l_calln 1 R (wnF hc15) cb148 R (Zj_ok (gcall_t hx14 (not_ff hc15))) R ?_
 rintro _
 refine lN W1 ?_
 refine o_3 ?_
 exact qj tI
 rintro σ1
 refine o_1 ?_
 rcases bif_ hr with ⟨_,hr⟩|⟨_,hr⟩
 refine o_10 ?_
 obtain rfl:=so hr
 exact qT3 ((none,0,0),(none,0,0)) (fun w s=>(((s.nilr kT3).nilo kT161 161).e 8 [1,0]))
 refine o_5 ?_
 refine l_build (K:=kT161) (xs:=([]:List pair)) (vs:=[]) 0 R R sl147 sz161 zc161 R R R R R R ?_ R (fun A17 D17=>?_)
 exact fun I h s=>(mO161).list [] I h s
 refine lN (OO kT161 161 A17 D17 ([]:List pair)::W1) ?_
 refine o_4 ?_
 refine c_cut (A:=((List pair))×(HH)) (fun a=>Z0q_J1 n1 a.1=some r) (fun a=>[(2,(pt b8 0)),(7,(s3 a.2))]) (fun a=>ow kT161 161 (s3 a.2) a.1::W1) ?_ ?_
 refine o_1 ?_
 obtain ⟨r18,hx19,hr⟩:=bd hr
 refine o_2 ?_
 refine lM (RR kT3 A7 D7 dims6::_::W1) (fun w s=>(s.d 6 R)) ?_
 refine lC 1 cb148 R (Zj_ok hx19) R ?_
 rintro _
 refine lN (_::W1) ?_
 refine o_4 ?_
 obtain ⟨e1,hl1,hk1⟩:=bd hr
 refine c_loop (A:=HH) hl1 (fun s a=>[(2,(pt b8 0)),(7,(s3 a)),(23,(iv r18)),(24,(iv s.2))]) (fun s a=>ow kT161 161 (s3 a) s.1::W1) (A17,([]:List pair).length,D17) (aS R) tI ?_
 rintro ⟨pairs24,x26⟩ ⟨A25,N25,D25⟩ σ1 out1 hr he1
 dsimp only [Z0q_L1] at hr
 refine c_len 0 sees_ow (fun (hn:N25=pairs24.length)=>?_)
 subst hn
 refine o_6 ?_
 rcases bif_ hr with ⟨_,hr⟩|⟨_,hr⟩
 refine o_11 ?_
 obtain ⟨hg29,hr⟩:=gd hr
 refine o_4 ?_
 refine lO (vz (.agg [(iv x26),(iv x26)].toArray) (v_build pl161 zc161 R R)) (l_build (K:=kT161) (xs:=([(⟨x26,x26⟩:pair)]:List pair)) (vs:=[(.agg [(iv x26),(iv x26)].toArray)]) 0 R R sl147 sz161 zc161 R R R R R R ?_ R (fun A28 D28=>?_))
 exact fun I h s=>(mO161).list [(((),()),(⟨x26,x26⟩:pair))] I h s
 refine lN (OO kT161 161 A28 D28 ([(⟨x26,x26⟩:pair)]:List pair)::OO kT161 161 A25 D25 pairs24::W1) ?_
 refine lM (ow _ _ _ _::ow _ _ _ _::W1) (tE 2 [1,0]) ?_
 refine l_app (K:=kT161) 8796093022208 R R sl147 sz161 by161 (Zr.zk zT161 zc161) R R R R R R src_ow hg29 (fun A30 D30=>(lN (OO kT161 161 A30 D30 (pairs24++([(⟨x26,x26⟩:pair)]:List pair))::W1) ?_))
 refine o_8 ?_
 obtain rfl:=so hr
 exact qA (A30,(pairs24++([(⟨x26,x26⟩:pair)]:List pair)).length,D30) tI
 refine o_3 ?_
 obtain rfl:=so hr
 obtain rfl:=he1 _ R
 have hr:=hk1
 refine o_2 ?_
 exact qI (pairs24,(A25,pairs24.length,D25)) hr tI
 rintro ⟨pairs34,⟨A35,N35,D35⟩⟩ σ1 hr
 dsimp only [Z0q_J1] at hr
 refine c_len 0 sees_ow (fun (hn:N35=pairs34.length)=>?_)
 subst hn
 refine o_11 ?_
 obtain rfl:=so hr
 exact qT3 ((A3,n1.Dims.length,D3),(A35,pairs34.length,D35)) (tE 7 [3,0])
theorem Z1u_ok  {k1:shiftKind}{n2:Node}{args7:(List (List Int))}{r:(List Int)×Bool}(hr:Z1u k1 n2 args7=some r) :
 FnOk Tryz.prog 220 [(.agg [(vstr k1.use),(.func (.func 125) [].toArray [].toArray)].toArray),(.agg [(iv n2.Op),(.slice A3 N3 D3),(.slice A4 N4 D4),(.slice A5 N5 D5),(vstr n2.Form),(.slice A6 N6 D6)].toArray),(.slice A8 N8 D8)] [rds kT3 (.slice A3 N3 D3) n2.Args,rds kT3 (.slice A4 N4 D4) n2.Dims,rds kT3 (.slice A5 N5 D5) n2.Ints,rds kT3 (.slice A6 N6 D6) n2.Data,rds kT23 (.slice A8 N8 D8) args7] (fun (h:HH)=>((.tuple [(s3 h),(.bool r.2)].toArray),[rds kT3 (s3 h) r.1])):=by
 unfold Z1u at hr
 refine fn_ok Tryz.func220 R 27 R R fun C V=>?_
 refine cN (_::_::_::_::_::V) ?_
 refine cL 0 sees_rd ?_
 rintro rfl
 refine cL 1 sees_rd ?_
 rintro rfl
 refine cL 2 sees_rd ?_
 rintro rfl
 refine cL 3 sees_rd ?_
 rintro rfl
 refine cL 4 sees_rd ?_
 rintro rfl
 let W0:List HP:=RR kT3 A3 D3 n2.Args::RR kT3 A4 D4 n2.Dims::RR kT3 A5 D5 n2.Ints::RR kT3 A6 D6 n2.Data::RR kT23 A8 D8 args7::V
 refine cN W0 ?_
 refine o_2 ?_
 refine lBx R fun b9=>?_
 refine lBx R fun b10=>?_
 refine o_3 ?_
 let W1:List HP:=bxl b10 [(iv n2.Op),(sc A3 n2.Args D3),(sc A4 n2.Dims D4),(sc A5 n2.Ints D5),(vstr n2.Form),(sc A6 n2.Data D6)] 54::bxl b9 [(vstr k1.use),(.func (.func 125) [].toArray [].toArray)] 145::W0
 refine qN W1 ?_
 refine o_9 ?_
 rcases bif_ hr with ⟨_,hr⟩|⟨_,hr⟩
 refine o_9 ?_
 obtain rfl:=so hr
 exact qT2 (none,0,0) (fun w s=>((s.nilr kT3).e 8 [0]))
 refine o_4 ?_
 obtain ⟨hg12,hr⟩:=gd hr
 obtain ⟨r16,hx17,hr⟩:=bd hr
 refine c_some 6 sees_rd (show 0<args7.length by have:=hg12; omega) (fun g13 o14 ha=>?_)
 subst ha
 refine c_elem (K:=kT23) 6 (0:Int) dT23.dec R hg12.1 hg12.2 ?_
 rintro ⟨A15,D15⟩
 refine cN (cl g13 (o14+(0:Int).toNat*1) [(sc A15 (ix args7 (0:Int)) D15)]::RR kT3 A15 D15 (ix args7 (0:Int))::W1) ?_
 refine cdr 14 [] mixo fun ht hn=>?_
 refine d5_ 0 [] ?_
 refine dR 5 R (v_clf (fo:=0) 0 ag23 R R R) (d1 6 R (lM (RR kT3 A3 D3 n2.Args::RR kT3 A4 D4 n2.Dims::RR kT3 A5 D5 n2.Ints::RR kT3 A6 D6 n2.Data::rds _ _ _::cl _ _ _::rds _ _ _::W1) (fun w s=>((((((s.d 4 R).d 6 R).d 8 R).d 10 R).d 5 R).e 7 [4,3,2,1,0,5,6])) ?_))
 refine l_callvn (fs:=[]) (cs:=[]) 5 R R cb125 R R (Z0q_ok hx17) R ?_
 rintro ⟨⟨A18,N18,D18⟩,⟨A19,N19,D19⟩⟩
 refine lN (rds kT3 (.slice A18 N18 D18) r16.1::ow kT161 161 (.slice A19 N19 D19) r16.2.1::_::_::W1) ?_
 refine l_len 0 sees_rd ?_
 rintro rfl
 refine l_len 1 sees_ow ?_
 rintro rfl
 refine l_nil (q_draw (sL [1,0]) (dR 7 R (vT R) (hS:=(sL [1,0])) ?_))
 refine d6_ 8 [1,0] ?_
 refine dD ?_
 refine o_10 ?_
 obtain rfl:=so hr
 exact qT2 (A18,r16.1.length,D18) (tE 11 [0])
theorem Z1b_ok  {dims1:(List Int)}{axis3:Int}{n4:Int}{r:(List Int)}(hr:Z1b dims1 axis3 n4=some r) :
 FnOk Tryz.prog 151 [(.slice A2 N2 D2),(iv axis3),(iv n4)] [rds kT3 (.slice A2 N2 D2) dims1] (fun (h:HH)=>((s3 h),[ow kT3 3 (s3 h) r])):=by
 unfold Z1b at hr
 refine fn_ok Tryz.func151 R 15 R R fun C V=>?_
 refine cN (_::V) ?_
 refine cL 0 sees_rd ?_
 rintro rfl
 let W0:List HP:=RR kT3 A2 D2 dims1::V
 refine cN W0 ?_
 refine o_6 ?_
 obtain ⟨r5,hx6,hr⟩:=bd hr
 refine o_2 ?_
 refine lM (RR kT3 A2 D2 dims1::W0) (fun w s=>(s.d 0 R)) ?_
 refine lC 1 cb64 R (Zl_ok hx6) R ?_
 rintro ⟨A7,N7,D7⟩
 refine lN (ow kT3 3 (.slice A7 N7 D7) r5::W0) ?_
 refine l_len 0 sees_ow ?_
 rintro rfl
 refine o_4 ?_
 obtain ⟨hg8,hr⟩:=gd hr
 refine o_4 ?_
 refine t_some 0 sees_ow (show 0<r5.length by have:=hg8; omega) (fun g9 o10 ha=>?_)
 subst ha
 refine o_1 ?_
 refine lN (OO kT3 3 (ad g9 o10) D7 r5::W0) ?_
 refine l_stx (K:=kT3) (x':=n4) 0 axis3 R R sz3 R R hg8.1 hg8.2 ?_ ?_
 exact fun I h s=>(mO3).put I h () n4 s
 refine lN (ow kT3 3 (.slice (ad g9 o10) r5.length D7) (r5.set axis3.toNat n4)::W0) ?_
 refine o_9 ?_
 obtain rfl:=so hr
 exact qF ((ad g9 o10),r5.length,D7) (tE 2 [0])
theorem Z1s_ok  {dims1:(List Int)}{axis3:Int}{r:Int×Int×Int}(hr:Z1s dims1 axis3=some r) :
 FnOk Tryz.prog 153 [(.slice A2 N2 D2),(iv axis3)] [rds kT3 (.slice A2 N2 D2) dims1] (fun (h:Unit)=>((.tuple [(iv r.1),(iv r.2.1),(iv r.2.2)].toArray),[])):=by
 unfold Z1s at hr
 refine fn_ok Tryz.func153 R 20 R R fun C V=>?_
 refine cN (_::V) ?_
 refine cL 0 sees_rd ?_
 rintro rfl
 let W0:List HP:=RR kT3 A2 D2 dims1::V
 refine cN W0 ?_
 refine o_8 ?_
 obtain ⟨hg4,hr⟩:=gd hr
 obtain ⟨r6,hx7,hr⟩:=bd hr
 obtain ⟨hg8,hr⟩:=gd hr
 obtain ⟨hg11,hr⟩:=gd hr
 obtain ⟨r13,hx14,hr⟩:=bd hr
 refine cQ [(4,(iv r6)),(5,(iv (ix dims1 axis3))),(6,(iv r13))] (W0) ?_ ?_
 refine c_some 0 sees_rd (show 0<dims1.length by have:=hg8; omega) (fun g9 o10 ha=>?_)
 subst ha
 refine cdr 16 [] mixo fun ht hn=>?_
 refine d2_ 0 [] ?_
 refine d7_ 4 [] ?_
 refine d_all [2,11] (by kernel_rfl) R ⟨?_,?_,trivial⟩
 refine l_cut (K:=kT3) (0:Int) axis3 0 R R sl23 sz3 R R R R hg4.1 hg4.2.1 hg4.2.2 (fun A5 D5=>(l_nil (q_draw (sL [0]) (d_all [3,11] (by kernel_rfl) R ⟨?_,?_,trivial⟩))))
 refine lM (RR kT3 A5 D5 (sub dims1 (0:Int) axis3)::RR kT3 A5 D5 (sub dims1 (0:Int) axis3)::W0) (fun w s=>(s.d 0 R)) ?_
 refine lC 1 cb148 R (Zj_ok hx7) R ?_
 rintro _
 refine lN (_::W0) ?_
 refine l_nil (q_draw (sL [0]) (d1 11 R (l_cut (K:=kT3) (w64 (axis3+(1:Int))) (dims1.length:Int) 1 R R sl23 sz3 R R R R hg11.1 hg11.2.1 hg11.2.2 (fun A12 D12=>(l_nil (q_draw (sL [1,0]) (d1 12 R (lM (RR kT3 A12 D12 (sub dims1 (w64 (axis3+(1:Int))) (dims1.length:Int))::RR kT3 A12 D12 (sub dims1 (w64 (axis3+(1:Int))) (dims1.length:Int))::_::W0) (fun w s=>(s.d 0 R)) ?_))))))))
 refine lC 1 cb148 R (Zj_ok hx14) R ?_
 rintro _
 refine lN (_::_::W0) ?_
 refine l_nil (q_draw (sL [1,0]) ?_)
 refine d3_ 13 [1,0] ?_
 refine dD ?_
 exact qj (tE 2 [])
 refine l_cut (K:=kT3) (w64 (axis3+(1:Int))) (dims1.length:Int) 1 R R sl23 sz3 R R R R hg11.1 hg11.2.1 hg11.2.2 (fun A12 D12=>(l_nil (q_draw (sL [1,0]) (d1 3 R (lM (_::_::_::W0) (fun w s=>(s.d 1 R)) ?_)))))
 refine lC 1 cb148 R (Zj_ok hx7) R ?_
 rintro _
 refine lN (_::_::W0) ?_
 refine l_nil (q_draw (sL [1,0]) (d1 12 R (lM (_::_::_::W0) (fun w s=>(s.d 0 R)) ?_)))
 refine lC 1 cb148 R (Zj_ok hx14) R ?_
 rintro _
 refine lN (_::_::W0) ?_
 refine l_nil (q_draw (sL [1,0]) ?_)
 refine d3_ 13 [1,0] ?_
 refine dD ?_
 exact qj (tE 2 [])
 refine l_cut (K:=kT3) (w64 (axis3+(1:Int))) (dims1.length:Int) 0 R R sl23 sz3 R R R R hg11.1 hg11.2.1 hg11.2.2 (fun A12 D12=>(l_nil (q_draw (sL [0]) (d1 2 R (l_cut (K:=kT3) (0:Int) axis3 1 R R sl23 sz3 R R R R hg4.1 hg4.2.1 hg4.2.2 (fun A5 D5=>(l_nil (q_draw (sL [1,0]) (d1 3 R (lM (_::_::_::W0) (fun w s=>(s.d 0 R)) ?_))))))))))
 refine lC 1 cb148 R (Zj_ok hx7) R ?_
 rintro _
 refine lN (_::_::W0) ?_
 refine l_nil (q_draw (sL [1,0]) (d1 12 R (lM (_::_::_::W0) (fun w s=>(s.d 1 R)) ?_)))
 refine lC 1 cb148 R (Zj_ok hx14) R ?_
 rintro _
 refine lN (_::_::W0) ?_
 refine l_nil (q_draw (sL [1,0]) ?_)
 refine d3_ 13 [1,0] ?_
 refine dD ?_
 exact qj (tE 2 [])
 rintro σ1
 refine o_2 ?_
 obtain rfl:=so hr
 exact qT3 () (tE 1 [])
theorem Z9_ok  {dims1:(List Int)}{axis3:Int}{n4:Int}{list5:(List pair)}{r:(List pair)}(hr:Z9 dims1 axis3 n4 list5=some r) :
 FnOk Tryz.prog 152 [(.slice A2 N2 D2),(iv axis3),(iv n4),(.slice A6 N6 D6)] [rds kT3 (.slice A2 N2 D2) dims1,rds kT161 (.slice A6 N6 D6) list5] (fun (h:HH)=>((s3 h),[ow kT161 161 (s3 h) r])):=by
 unfold Z9 at hr
 refine fn_ok Tryz.func152 R 73 R R fun C V=>?_
 refine cN (_::_::V) ?_
 refine cL 0 sees_rd ?_
 rintro rfl
 refine cL 1 sees_rd ?_
 rintro rfl
 let W0:List HP:=RR kT3 A2 D2 dims1::RR kT161 A6 D6 list5::V
 refine cN W0 ?_
 refine o_6 ?_
 obtain ⟨r7,hx8,hr⟩:=bd hr
 refine o_3 ?_
 refine lM (RR kT3 A2 D2 dims1::W0) (fun w s=>(s.d 0 R)) ?_
 refine lC 1 cb153 R (Z1s_ok hx8) R ?_
 rintro _
 refine lN W0 ?_
 refine lO (vT R) ?_
 refine o_9 ?_
 obtain ⟨hg9,hr⟩:=gd hr
 refine o_7 ?_
 refine l_makec (K:=kT161) (m:=(w64 ((w64 (r7.1*r7.2.2))*(list5.length:Int)))) (z:=zT161.z) R R sl147 sz161 by161 (Zr.zk zT161 zc161) (by decide) R R hg9.1 hg9.2.1 hg9.2.2 (fun A10 D10=>(lS R (l_nil (q_next (c_seq (c_cut (A:=((List pair))×(HH)) (fun a=>Z9_J7 a.1=some r) (fun a=>[(12,(s3 a.2))]) (fun a=>ow kT161 161 (s3 a.2) a.1::W0) ?_ ?_))))))
 refine o_6 ?_
 obtain ⟨e1,hl1,hk1⟩:=bd hr
 refine c_loop (A:=HH×HH) hl1 (fun s a=>[(2,(iv n4)),(3,(s3 a.1)),(9,(iv r7.1)),(10,(iv r7.2.1)),(11,(iv r7.2.2)),(12,(s3 a.2)),(13,(iv s.2))]) (fun s a=>rds kT161 (s3 a.1) list5::ow kT161 161 (s3 a.2) s.1::W0) ((A6,list5.length,D6),(A10,([]:List pair).length,D10)) (aS R) (fun w s=>(s.d 2 R)) ?_
 rintro ⟨x68,i70⟩ ⟨⟨A67,N67,D67⟩,⟨A69,N69,D69⟩⟩ σ1 out1 hr he1
 dsimp only [Z9_L1] at hr
 refine c_len 0 sees_rd (fun (hn:N67=list5.length)=>?_)
 subst hn
 refine c_len 1 sees_ow (fun (hn:N69=x68.length)=>?_)
 subst hn
 refine o_8 ?_
 rcases bif_ hr with ⟨_,hr⟩|⟨_,hr⟩
 refine o_4 ?_
 refine c_cut (A:=((List pair))×(HH×HH)) (fun a=>Z9_J6 i70 a.1=some out1) (fun a=>[(2,(iv n4)),(3,(s3 a.2.1)),(9,(iv r7.1)),(10,(iv r7.2.1)),(11,(iv r7.2.2)),(12,(s3 a.2.2)),(13,(iv i70))]) (fun a=>rds kT161 (s3 a.2.1) list5::ow kT161 161 (s3 a.2.2) a.1::W0) ?_ ?_
 refine o_9 ?_
 obtain ⟨e2,hl2,hk2⟩:=bd hr
 refine c_loop (A:=HH×HH) hl2 (fun s a=>[(2,(iv n4)),(3,(s3 a.1)),(9,(iv r7.1)),(10,(iv r7.2.1)),(11,(iv r7.2.2)),(12,(s3 a.2)),(13,(iv i70)),(36,(s3 a.1)),(37,(il list5)),(38,(iv s.2))]) (fun s a=>rds kT161 (s3 a.1) list5::ow kT161 161 (s3 a.2) s.1::W0) ((A67,list5.length,D67),(A69,x68.length,D69)) (aS R) tI ?_
 rintro ⟨x95,x97⟩ ⟨⟨A94,N94,D94⟩,⟨A96,N96,D96⟩⟩ σ1 out2 hr he2
 dsimp only [Z9_L2] at hr
 refine c_len 0 sees_rd (fun (hn:N94=list5.length)=>?_)
 subst hn
 refine c_len 1 sees_ow (fun (hn:N96=x95.length)=>?_)
 subst hn
 refine o_6 ?_
 rcases bif_ hr with ⟨_,hr⟩|⟨_,hr⟩
 refine o_4 ?_
 refine c_cut (A:=((List pair))×(HH×HH)) (fun a=>Z9_J5 x97 a.1=some out2) (fun a=>[(2,(iv n4)),(3,(s3 a.2.1)),(9,(iv r7.1)),(10,(iv r7.2.1)),(11,(iv r7.2.2)),(12,(s3 a.2.2)),(13,(iv i70)),(36,(s3 a.2.1)),(37,(il list5)),(38,(iv x97))]) (fun a=>rds kT161 (s3 a.2.1) list5::ow kT161 161 (s3 a.2.2) a.1::W0) ?_ ?_
 refine o_2 ?_
 obtain ⟨hg99,hr⟩:=gd hr
 refine c_region (t_some 0 sees_rd (show 0<list5.length by have:=hg99; omega) (fun g100 o101 ha=>?_))
 subst ha
 refine o_1 ?_
 refine l_v (.agg [(iv (ix list5 x97).from_),(iv (ix list5 x97).to)].toArray) ?_ R R ?_
 exact (v_ldef (K:=kT161) (cells:=fun x=>[(iv x.from_),(iv x.to)]) 0 x97 ag161 sz161 (DecK.flat dT161 fun _ _=>R) sees_rd R hg99.1 hg99.2)
 refine l_alloc R R zc161 (fun b102=>(l_stores 0 R R sz161 R R R R R R (lN (bxl b102 [(iv (ix list5 x97).from_),(iv (ix list5 x97).to)] 161::RR kT161 (ad g100 o101) D94 list5::OO kT161 161 A96 D96 x95::W0) ?_)))
 refine o_8 ?_
 obtain ⟨e3,hl3,hk3⟩:=bd hr
 refine c_loop (A:=HH) hl3 (fun s a=>[(2,(iv n4)),(3,(sc (ad g100 o101) list5 D94)),(9,(iv r7.1)),(10,(iv r7.2.1)),(11,(iv r7.2.2)),(12,(s3 a)),(13,(iv i70)),(15,(pt b102 0)),(16,(iv s.2)),(36,(sc (ad g100 o101) list5 D94)),(37,(il list5)),(38,(iv x97))]) (fun s a=>RR kT161 (ad g100 o101) D94 list5::ow kT161 161 (s3 a) s.1::bxl b102 [(iv (ix list5 x97).from_),(iv (ix list5 x97).to)] 161::W0) (A96,x95.length,D96) (aS R) (tE 3 [1,2,0]) ?_
 rintro ⟨x107,j109⟩ ⟨A108,N108,D108⟩ σ1 out3 hr he3
 dsimp only [Z9_L3] at hr
 refine c_len 1 sees_ow (fun (hn:N108=x107.length)=>?_)
 subst hn
 refine o_8 ?_
 rcases bif_ hr with ⟨_,hr⟩|⟨_,hr⟩
 refine o_5 ?_
 obtain ⟨hg112,hr⟩:=gd hr
 refine o_22 ?_
 refine lO (vz (.agg [(iv (w64 ((w64 ((w64 ((w64 (i70*r7.2.1))+(ix list5 x97).from_))*r7.2.2))+j109))),(iv (w64 ((w64 ((w64 ((w64 (i70*n4))+(ix list5 x97).to))*r7.2.2))+j109)))].toArray) (v_build pl161 zc161 R R)) (l_build (K:=kT161) (xs:=([(⟨(w64 ((w64 ((w64 ((w64 (i70*r7.2.1))+(ix list5 x97).from_))*r7.2.2))+j109)),(w64 ((w64 ((w64 ((w64 (i70*n4))+(ix list5 x97).to))*r7.2.2))+j109))⟩:pair)]:List pair)) (vs:=[(.agg [(iv (w64 ((w64 ((w64 ((w64 (i70*r7.2.1))+(ix list5 x97).from_))*r7.2.2))+j109))),(iv (w64 ((w64 ((w64 ((w64 (i70*n4))+(ix list5 x97).to))*r7.2.2))+j109)))].toArray)]) 0 R R sl147 sz161 zc161 R R R R R R ?_ R (fun A111 D111=>?_))
 exact fun I h s=>(mO161).list [(((),()),(⟨(w64 ((w64 ((w64 ((w64 (i70*r7.2.1))+(ix list5 x97).from_))*r7.2.2))+j109)),(w64 ((w64 ((w64 ((w64 (i70*n4))+(ix list5 x97).to))*r7.2.2))+j109))⟩:pair))] I h s
 refine lN (OO kT161 161 A111 D111 ([(⟨(w64 ((w64 ((w64 ((w64 (i70*r7.2.1))+(ix list5 x97).from_))*r7.2.2))+j109)),(w64 ((w64 ((w64 ((w64 (i70*n4))+(ix list5 x97).to))*r7.2.2))+j109))⟩:pair)]:List pair)::_::OO kT161 161 A108 D108 x107::_::W0) ?_
 refine lM (ow _ _ _ _::ow _ _ _ _::rds _ _ _::bxl _ _ _::W0) (tE 4 [2,0,1,3]) ?_
 refine l_app (K:=kT161) 8796093022208 R R sl147 sz161 by161 (Zr.zk zT161 zc161) R R R R R R src_ow hg112 (fun A113 D113=>(lN (OO kT161 161 A113 D113 (x107++([(⟨(w64 ((w64 ((w64 ((w64 (i70*r7.2.1))+(ix list5 x97).from_))*r7.2.2))+j109)),(w64 ((w64 ((w64 ((w64 (i70*n4))+(ix list5 x97).to))*r7.2.2))+j109))⟩:pair)]:List pair))::_::_::W0) ?_))
 refine o_9 ?_
 obtain rfl:=so hr
 exact qA (A113,(x107++([(⟨(w64 ((w64 ((w64 ((w64 (i70*r7.2.1))+(ix list5 x97).from_))*r7.2.2))+j109)),(w64 ((w64 ((w64 ((w64 (i70*n4))+(ix list5 x97).to))*r7.2.2))+j109))⟩:pair)]:List pair)).length,D113) (tE 3 [1,0,2])
 refine o_3 ?_
 obtain rfl:=so hr
 obtain rfl:=he3 _ R
 have hr:=hk3
 refine o_3 ?_
 exact qI (x107,(((ad g100 o101),list5.length,D94),(A108,x107.length,D108))) hr (tE 3 [0,1])
 rintro ⟨x118,⟨⟨A117,N117,D117⟩,⟨A119,N119,D119⟩⟩⟩ σ1 hr
 dsimp only [Z9_J5] at hr
 refine c_len 0 sees_rd (fun (hn:N117=list5.length)=>?_)
 subst hn
 refine c_len 1 sees_ow (fun (hn:N119=x118.length)=>?_)
 subst hn
 refine o_4 ?_
 obtain rfl:=so hr
 exact qA ((A117,list5.length,D117),(A119,x118.length,D119)) tI
 refine o_3 ?_
 obtain rfl:=so hr
 obtain rfl:=he2 _ R
 have hr:=hk2
 refine o_3 ?_
 exact qI (x95,((A94,list5.length,D94),(A96,x95.length,D96))) hr tI
 rintro ⟨x125,⟨⟨A124,N124,D124⟩,⟨A126,N126,D126⟩⟩⟩ σ1 hr
 dsimp only [Z9_J6] at hr
 refine c_len 0 sees_rd (fun (hn:N124=list5.length)=>?_)
 subst hn
 refine c_len 1 sees_ow (fun (hn:N126=x125.length)=>?_)
 subst hn
 refine o_5 ?_
 obtain rfl:=so hr
 exact qA ((A124,list5.length,D124),(A126,x125.length,D126)) tI
 refine o_3 ?_
 obtain rfl:=so hr
 obtain rfl:=he1 _ R
 have hr:=hk1
 refine o_2 ?_
 exact qI (x68,(A69,x68.length,D69)) hr (tE 2 [1])
 rintro ⟨x131,⟨A132,N132,D132⟩⟩ σ1 hr
 dsimp only [Z9_J7] at hr
 refine c_len 0 sees_ow (fun (hn:N132=x131.length)=>?_)
 subst hn
 refine o_7 ?_
 obtain rfl:=so hr
 exact qF (A132,x131.length,D132) (tE 3 [0])
theorem Zu_ok  {dims1:(List Int)}{axis3:Int}{before4:Int}{after5:Int}{gap6:Int}{r:(List Int)×(List pair)×Bool}(hr:Zu dims1 axis3 before4 after5 gap6=some r) :
 FnOk Tryz.prog 128 [(.slice A2 N2 D2),(iv axis3),(iv before4),(iv after5),(iv gap6)] [rds kT3 (.slice A2 N2 D2) dims1] (fun (h:HH×HH)=>((.tuple [(s3 h.1),(s3 h.2),(.bool r.2.2)].toArray),[ow kT3 3 (s3 h.1) r.1,ow kT161 161 (s3 h.2) r.2.1])):=by
 unfold Zu at hr
 refine fn_ok Tryz.func128 R 84 R R fun C V=>?_
 refine cN (_::V) ?_
 refine cL 0 sees_rd ?_
 rintro rfl
 let W0:List HP:=RR kT3 A2 D2 dims1::V
 refine cN W0 ?_
 refine o_9 ?_
 obtain ⟨r7,hx8,hr⟩:=bd hr
 refine o_3 ?_
 refine lM (RR kT3 A2 D2 dims1::W0) (fun w s=>(s.d 0 R)) ?_
 refine lC 1 cb150 R (Zi_ok hx8) R ?_
 rintro _
 refine lN W0 ?_
 refine o_3 ?_
 rcases bif_ hr with ⟨_,hr⟩|⟨_,hr⟩
 refine o_10 ?_
 obtain rfl:=so hr
 exact qT3 ((none,0,0),(none,0,0)) (fun w s=>(((s.nilo kT3 3).nilo kT161 161).e 3 [1,0]))
 refine o_4 ?_
 refine c_cut (A:=(Unit)×(Unit)) (fun a=>Zu_J1 dims1 axis3 before4 after5 gap6=some r) (fun a=>[(0,(sc A2 dims1 D2)),(1,(iv axis3)),(2,(iv before4)),(3,(iv after5)),(4,(iv gap6))]) (fun a=>W0) ?_ ?_
 refine o_5 ?_
 refine l_build (K:=kT3) (xs:=([before4,after5,gap6]:List Int)) (vs:=[(iv before4),(iv after5),(iv gap6)]) 0 R R sl23 sz3 zc3 R R R R R R ?_ R (fun A10 D10=>?_)
 exact fun I h s=>(mO3).list [((),before4),((),after5),((),gap6)] I h s
 refine lN (OO kT3 3 A10 D10 ([before4,after5,gap6]:List Int)::W0) ?_
 refine o_5 ?_
 obtain ⟨e1,hl1,hk1⟩:=bd hr
 refine c_loop (A:=HH) hl1 (fun s a=>[(0,(sc A2 dims1 D2)),(1,(iv axis3)),(2,(iv before4)),(3,(iv after5)),(4,(iv gap6)),(27,(s3 a)),(28,(il ([before4,after5,gap6]:List Int))),(29,(iv s))]) (fun s a=>ow kT3 3 (s3 a) ([before4,after5,gap6]:List Int)::W0) (A10,([before4,after5,gap6]:List Int).length,D10) (aS R) tI ?_
 rintro x18 ⟨A17,N17,D17⟩ σ1 out1 hr he1
 dsimp only [Zu_L1] at hr
 refine c_len 0 sees_ow (fun (hn:N17=([before4,after5,gap6]:List Int).length)=>?_)
 subst hn
 refine o_6 ?_
 rcases bif_ hr with ⟨_,hr⟩|⟨_,hr⟩
 refine o_6 ?_
 obtain ⟨hg20,hr⟩:=gd hr
 refine c_region (t_some 0 sees_ow (show 0<([before4,after5,gap6]:List Int).length by have:=hg20; omega) (fun g21 o22 ha=>?_))
 subst ha
 refine o_6 ?_
 refine cQ [(0,(sc A2 dims1 D2)),(1,(iv axis3)),(2,(iv before4)),(3,(iv after5)),(4,(iv gap6)),(27,(sc (ad g21 o22) ([before4,after5,gap6]:List Int) D17)),(28,(il ([before4,after5,gap6]:List Int))),(29,(iv x18)),(38,(.bool ((decide ((ix ([before4,after5,gap6]:List Int) x18)<(0:Int)))||(decide ((ix ([before4,after5,gap6]:List Int) x18)>(4096:Int))))))] (OO kT3 3 (ad g21 o22) D17 ([before4,after5,gap6]:List Int)::W0) ?_ ?_
 refine o_4 ?_
 rcases bo (decide ((ix ([before4,after5,gap6]:List Int) x18)<(0:Int))) with hc23 | hc23
 refine o_4 ?_
 exact qj tI
 refine o_4 ?_
 exact qj tI
 rintro σ1
 refine o_1 ?_
 rcases bif_ hr with ⟨_,hr⟩|⟨_,hr⟩
 refine o_11 ?_
 obtain rfl:=so hr
 obtain rfl:=he1 _ R
 have hr:=hk1
 refine o_3 ?_
 obtain rfl:=so hr
 exact qT3 ((none,0,0),(none,0,0)) (fun w s=>(((s.nilo kT3 3).nilo kT161 161).e 4 [1,0]))
 refine o_8 ?_
 obtain rfl:=so hr
 exact qA ((ad g21 o22),([before4,after5,gap6]:List Int).length,D17) tI
 refine o_3 ?_
 obtain rfl:=so hr
 obtain rfl:=he1 _ R
 have hr:=hk1
 refine o_2 ?_
 exact qI ((),()) hr (tE 1 [])
 rintro ⟨_,_⟩ σ1 hr
 dsimp only [Zu_J1] at hr
 refine o_1 ?_
 obtain ⟨hg27,hr⟩:=gd hr
 refine o_3 ?_
 refine t_some 0 sees_rd (show 0<dims1.length by have:=hg27; omega) (fun g28 o29 ha=>?_)
 subst ha
 refine o_21 ?_
 obtain ⟨r30,hx31,hr⟩:=bd hr
 refine o_4 ?_
 refine lM (RR kT3 (ad g28 o29) D2 dims1::W0) (fun w s=>(s.d 0 R)) ?_
 refine lC 1 cb151 R (Z1b_ok hx31) R ?_
 rintro ⟨A32,N32,D32⟩
 refine lN (ow kT3 3 (.slice A32 N32 D32) r30::W0) ?_
 refine l_len 0 sees_ow ?_
 rintro rfl
 refine o_5 ?_
 obtain ⟨r33,hx34,hr⟩:=bd hr
 refine o_2 ?_
 refine lC 1 cb147 R (FnOk.lends (A':=[OO kT3 3 A32 D32 r30]) (A:=[RR kT3 A32 D32 r30]) (B:=[]) (Zb_ok hx34) ⟨lend_ow,trivial⟩ (fun _=>trivial)) R ?_
 rintro _
 refine o_3 ?_
 rcases bif_ hr with ⟨_,hr⟩|⟨_,hr⟩
 refine o_10 ?_
 obtain rfl:=so hr
 exact qT3 ((none,0,0),(none,0,0)) (fun w s=>(((s.nilo kT3 3).nilo kT161 161).e 4 [1,0]))
 refine o_5 ?_
 refine l_build (K:=kT161) (xs:=([]:List pair)) (vs:=[]) 0 R R sl147 sz161 zc161 R R R R R R ?_ R (fun A36 D36=>?_)
 exact fun I h s=>(mO161).list [] I h s
 refine lN (OO kT161 161 A36 D36 ([]:List pair)::_::W0) ?_
 refine o_4 ?_
 refine c_cut (A:=((List pair))×(HH)) (fun a=>Zu_J2 dims1 axis3 before4 after5 gap6 r30 a.1=some r) (fun a=>[(0,(sc (ad g28 o29) dims1 D2)),(1,(iv axis3)),(16,(iv (w64 ((w64 ((w64 (before4+(ix dims1 axis3)))+(w64 ((w64 ((ix dims1 axis3) - (1:Int)))*gap6))))+after5)))),(17,(sc A32 r30 D32)),(18,(s3 a.2))]) (fun a=>OO kT3 3 A32 D32 r30::ow kT161 161 (s3 a.2) a.1::W0) ?_ ?_
 refine o_6 ?_
 obtain ⟨e2,hl2,hk2⟩:=bd hr
 refine c_loop (A:=HH) hl2 (fun s a=>[(0,(sc (ad g28 o29) dims1 D2)),(1,(iv axis3)),(2,(iv before4)),(4,(iv gap6)),(15,(iv (ix dims1 axis3))),(16,(iv (w64 ((w64 ((w64 (before4+(ix dims1 axis3)))+(w64 ((w64 ((ix dims1 axis3) - (1:Int)))*gap6))))+after5)))),(17,(sc A32 r30 D32)),(18,(s3 a)),(19,(iv s.2))]) (fun s a=>OO kT3 3 A32 D32 r30::ow kT161 161 (s3 a) s.1::W0) (A36,([]:List pair).length,D36) (aS R) (tE 2 [1,0]) ?_
 rintro ⟨list41,k43⟩ ⟨A42,N42,D42⟩ σ1 out2 hr he2
 dsimp only [Zu_L2] at hr
 refine c_len 1 sees_ow (fun (hn:N42=list41.length)=>?_)
 subst hn
 refine o_8 ?_
 rcases bif_ hr with ⟨_,hr⟩|⟨_,hr⟩
 refine o_5 ?_
 obtain ⟨hg46,hr⟩:=gd hr
 refine o_9 ?_
 refine lO (vz (.agg [(iv k43),(iv (w64 (before4+(w64 (k43*(w64 (gap6+(1:Int))))))))].toArray) (v_build pl161 zc161 R R)) (l_build (K:=kT161) (xs:=([(⟨k43,(w64 (before4+(w64 (k43*(w64 (gap6+(1:Int)))))))⟩:pair)]:List pair)) (vs:=[(.agg [(iv k43),(iv (w64 (before4+(w64 (k43*(w64 (gap6+(1:Int))))))))].toArray)]) 0 R R sl147 sz161 zc161 R R R R R R ?_ R (fun A45 D45=>?_))
 exact fun I h s=>(mO161).list [(((),()),(⟨k43,(w64 (before4+(w64 (k43*(w64 (gap6+(1:Int)))))))⟩:pair))] I h s
 refine lN (OO kT161 161 A45 D45 ([(⟨k43,(w64 (before4+(w64 (k43*(w64 (gap6+(1:Int)))))))⟩:pair)]:List pair)::_::OO kT161 161 A42 D42 list41::W0) ?_
 refine lM (ow _ _ _ _::ow _ _ _ _::ow _ _ _ _::W0) (tE 3 [2,0,1]) ?_
 refine l_app (K:=kT161) 8796093022208 R R sl147 sz161 by161 (Zr.zk zT161 zc161) R R R R R R src_ow hg46 (fun A47 D47=>(lN (OO kT161 161 A47 D47 (list41++([(⟨k43,(w64 (before4+(w64 (k43*(w64 (gap6+(1:Int)))))))⟩:pair)]:List pair))::_::W0) ?_))
 refine o_9 ?_
 obtain rfl:=so hr
 exact qA (A47,(list41++([(⟨k43,(w64 (before4+(w64 (k43*(w64 (gap6+(1:Int)))))))⟩:pair)]:List pair)).length,D47) (tE 2 [1,0])
 refine o_3 ?_
 obtain rfl:=so hr
 obtain rfl:=he2 _ R
 have hr:=hk2
 refine o_2 ?_
 exact qI (list41,(A42,list41.length,D42)) hr tI
 rintro ⟨list51,⟨A52,N52,D52⟩⟩ σ1 hr
 dsimp only [Zu_J2] at hr
 refine c_len 1 sees_ow (fun (hn:N52=list51.length)=>?_)
 subst hn
 refine o_1 ?_
 obtain ⟨r53,hx54,hr⟩:=bd hr
 refine o_6 ?_
 refine lM (OO kT161 161 A52 D52 list51::RR kT3 (ad g28 o29) D2 dims1::ow _ _ _ _::W0) (fun w s=>((s.d 2 R).e 3 [2,0,1])) ?_
 refine lC 2 cb152 R (FnOk.lends (A':=[OO kT161 161 A52 D52 list51]) (A:=[RR kT161 A52 D52 list51]) (B:=[RR kT3 (ad g28 o29) D2 dims1]) (FnOk.perm (Z9_ok hx54) (Pre':=[RR kT161 A52 D52 list51,RR kT3 (ad g28 o29) D2 dims1]) (fun _ _ _ s=>(s.e 2 [1,0]))) ⟨lend_ow,trivial⟩ (fun _=>⟨(closed_ow cT161),trivial⟩)) R ?_
 rintro ⟨A55,N55,D55⟩
 refine lN (_::ow kT161 161 (.slice A55 N55 D55) r53::_::W0) ?_
 refine l_len 1 sees_ow ?_
 rintro rfl
 refine o_6 ?_
 obtain rfl:=so hr
 exact qT3 ((A32,r30.length,D32),(A55,r53.length,D55)) (tE 4 [2,1])
theorem Z1o_ok  {p1:(List Int)}{dims3:(List Int)}{r:(List Int)×(List pair)×Bool}(hr:Z1o p1 dims3=some r) :
 FnOk Tryz.prog 127 [(.slice A2 N2 D2),(.slice A4 N4 D4)] [rds kT3 (.slice A2 N2 D2) p1,rds kT3 (.slice A4 N4 D4) dims3] (fun (h:HH×HH)=>((.tuple [(s3 h.1),(s3 h.2),(.bool r.2.2)].toArray),[ow kT3 3 (s3 h.1) r.1,ow kT161 161 (s3 h.2) r.2.1])):=by
 unfold Z1o at hr
 refine fn_ok Tryz.func127 R 24 R R fun C V=>?_
 refine cN (_::_::V) ?_
 refine cL 0 sees_rd ?_
 rintro rfl
 refine cL 1 sees_rd ?_
 rintro rfl
 let W0:List HP:=RR kT3 A2 D2 p1::RR kT3 A4 D4 dims3::V
 refine cN W0 ?_
 refine o_8 ?_
 obtain ⟨hg5,hr⟩:=gd hr
 obtain ⟨_,hr⟩:=gd hr
 obtain ⟨_,hr⟩:=gd hr
 obtain ⟨_,hr⟩:=gd hr
 obtain ⟨r11,hx12,hr⟩:=bd hr
 refine c_some 0 sees_rd (show 0<p1.length by have:=hg5; omega) (fun g6 o7 ha=>?_)
 subst ha
 refine cdr 20 [] mixo fun ht hn=>?_
 refine d13_ 0 [] ?_
 refine d1 13 R (lM (RR kT3 A4 D4 dims3::W0) (fun w s=>(s.d 1 R)) ?_)
 refine lC 1 cb128 R (Zu_ok hx12) R ?_
 rintro ⟨⟨A13,N13,D13⟩,⟨A14,N14,D14⟩⟩
 refine lN (ow kT3 3 (.slice A13 N13 D13) r11.1::ow kT161 161 (.slice A14 N14 D14) r11.2.1::W0) ?_
 refine l_len 0 sees_ow ?_
 rintro rfl
 refine l_len 1 sees_ow ?_
 rintro rfl
 refine l_nil (q_draw (sL [1,0]) ?_)
 refine d6_ 14 [1,0] ?_
 refine dD ?_
 refine o_2 ?_
 obtain rfl:=so hr
 exact qT3 ((A13,r11.1.length,D13),(A14,r11.2.1.length,D14)) (tE 4 [0,1])
theorem Z2c_ok  {n1:Node}{dims6:(List Int)}{p8:Int}{p10:Int}{b9:Nat}{b11:Nat}{b13:Nat}{r:(List Int)×(List pair)×Bool}(hr:Z2c n1 dims6 p8 p10=some r) :
 FnOk Tryz.prog 149 [(.agg [(iv n1.Op),(.slice A2 N2 D2),(.slice A3 N3 D3),(.slice A4 N4 D4),(vstr n1.Form),(.slice A5 N5 D5)].toArray),(.slice A7 N7 D7),(pt b9 0),(pt b11 0),(pt b13 0)] [rds kT3 (.slice A2 N2 D2) n1.Args,rds kT3 (.slice A3 N3 D3) n1.Dims,rds kT3 (.slice A4 N4 D4) n1.Ints,rds kT3 (.slice A5 N5 D5) n1.Data,rds kT3 (.slice A7 N7 D7) dims6,bxl b9 [(iv p8)] 3,bxl b11 [(iv p10)] 3,bxl b13 [(.func (.func 127) [].toArray [].toArray)] 150] (fun (h:HH×HH)=>((.tuple [(s3 h.1),(s3 h.2),(.bool r.2.2)].toArray),[ow kT3 3 (s3 h.1) r.1,ow kT161 161 (s3 h.2) r.2.1,bxl b9 [(iv p8)] 3,bxl b11 [(iv p10)] 3,bxl b13 [(.func (.func 127) [].toArray [].toArray)] 150])):=by
 unfold Z2c at hr
 refine fn_ok Tryz.func149 R 30 R R fun C V=>?_
 refine cM (bxl _ _ _::bxl _ _ _::bxl _ _ _::rds _ _ _::rds _ _ _::rds _ _ _::rds _ _ _::rds _ _ _::V) (fun w s=>(s.f 8 [5,3,0,5])) ?_
 refine cL 3 sees_rd ?_
 rintro rfl
 refine cL 4 sees_rd ?_
 rintro rfl
 refine cL 5 sees_rd ?_
 rintro rfl
 refine cL 6 sees_rd ?_
 rintro rfl
 refine cL 7 sees_rd ?_
 rintro rfl
 let W0:List HP:=RR kT3 A2 D2 n1.Args::RR kT3 A3 D3 n1.Dims::RR kT3 A4 D4 n1.Ints::RR kT3 A5 D5 n1.Data::RR kT3 A7 D7 dims6::V
 refine cN (_::_::_::W0) ?_
 refine o_2 ?_
 refine lBx R fun b14=>?_
 refine o_4 ?_
 let W1:List HP:=bxl b14 [(iv n1.Op),(sc A2 n1.Args D2),(sc A3 n1.Dims D3),(sc A4 n1.Ints D4),(vstr n1.Form),(sc A5 n1.Data D5)] 54::bxl b9 [(iv p8)] 3::bxl b11 [(iv p10)] 3::bxl b13 [(.func (.func 127) [].toArray [].toArray)] 150::W0
 refine qN W1 ?_
 refine o_3 ?_
 refine cQ [(1,(sc A7 dims6 D7)),(4,(pt b13 0)),(5,(pt b14 0)),(21,(.bool ((decide ((n1.Ints.length:Int)<p8))||(decide ((n1.Ints.length:Int)>p10)))))] (W1) ?_ ?_
 refine o_7 ?_
 rcases bo (decide ((n1.Ints.length:Int)<p8)) with hc15 | hc15
 refine o_7 ?_
 exact qj tI
 refine o_7 ?_
 exact qj tI
 rintro σ1
 refine o_1 ?_
 rcases bif_ hr with ⟨_,hr⟩|⟨_,hr⟩
 refine o_10 ?_
 obtain rfl:=so hr
 exact qT3 ((none,0,0),(none,0,0)) (fun w s=>(((s.nilo kT3 3).nilo kT161 161).e 11 [1,0,3,4,5]))
 refine o_4 ?_
 obtain ⟨r17,hx18,hr⟩:=bd hr
 refine o_5 ?_
 refine lM (RR kT3 A4 D4 n1.Ints::RR kT3 A7 D7 dims6::W1) (fun w s=>(((s.d 6 R).d 9 R).e 2 [1,0])) ?_
 refine l_callvn (fs:=[]) (cs:=[]) 2 R R cb127 R R (Z1o_ok hx18) R ?_
 rintro ⟨⟨A19,N19,D19⟩,⟨A20,N20,D20⟩⟩
 refine lN (ow kT3 3 (.slice A19 N19 D19) r17.1::ow kT161 161 (.slice A20 N20 D20) r17.2.1::W1) ?_
 refine l_len 0 sees_ow ?_
 rintro rfl
 refine l_len 1 sees_ow ?_
 rintro rfl
 refine o_9 ?_
 obtain rfl:=so hr
 exact qT3 ((A19,r17.1.length,D19),(A20,r17.2.1.length,D20)) (fun w s=>(s.f 11 [0,2,3,3]))
theorem Z1e_ok  {k1:shiftKind}{q2:Int}{q4:Int}{n8:Node}{args13:(List (List Int))}{b3:Nat}{b5:Nat}{b7:Nat}{r:(List Int)×Bool}(hr:Z1e k1 q2 q4 n8 args13=some r) :
 FnOk Tryz.prog 220 [(.agg [(vstr k1.use),(.func (.func 149) [].toArray [(pt b3 0),(pt b5 0),(pt b7 0)].toArray)].toArray),(.agg [(iv n8.Op),(.slice A9 N9 D9),(.slice A10 N10 D10),(.slice A11 N11 D11),(vstr n8.Form),(.slice A12 N12 D12)].toArray),(.slice A14 N14 D14)] [bxl b3 [(iv q2)] 3,bxl b5 [(iv q4)] 3,bxl b7 [(.func (.func 127) [].toArray [].toArray)] 150,rds kT3 (.slice A9 N9 D9) n8.Args,rds kT3 (.slice A10 N10 D10) n8.Dims,rds kT3 (.slice A11 N11 D11) n8.Ints,rds kT3 (.slice A12 N12 D12) n8.Data,rds kT23 (.slice A14 N14 D14) args13] (fun (h:HH)=>((.tuple [(s3 h),(.bool r.2)].toArray),[ow kT3 3 (s3 h) r.1,bxl b3 [(iv q2)] 3,bxl b5 [(iv q4)] 3,bxl b7 [(.func (.func 127) [].toArray [].toArray)] 150])):=by
 unfold Z1e at hr
 refine fn_ok Tryz.func220 R 27 R R fun C V=>?_
 refine cN (_::_::_::_::_::_::_::_::V) ?_
 refine cL 3 sees_rd ?_
 rintro rfl
 refine cL 4 sees_rd ?_
 rintro rfl
 refine cL 5 sees_rd ?_
 rintro rfl
 refine cL 6 sees_rd ?_
 rintro rfl
 refine cL 7 sees_rd ?_
 rintro rfl
 let W0:List HP:=RR kT3 A9 D9 n8.Args::RR kT3 A10 D10 n8.Dims::RR kT3 A11 D11 n8.Ints::RR kT3 A12 D12 n8.Data::RR kT23 A14 D14 args13::V
 refine cN (_::_::_::W0) ?_
 refine o_2 ?_
 refine lBx R fun b15=>?_
 refine lBx R fun b16=>?_
 refine o_3 ?_
 refine qM (bxl _ _ _::bxl _ _ _::bxl _ _ _::bxl _ _ _::bxl _ _ _::W0) (fun w s=>(s.f 5 [2,3,0,2])) ?_
 let W1:List HP:=bxl b16 [(iv n8.Op),(sc A9 n8.Args D9),(sc A10 n8.Dims D10),(sc A11 n8.Ints D11),(vstr n8.Form),(sc A12 n8.Data D12)] 54::bxl b15 [(vstr k1.use),(.func (.func 149) [].toArray [(pt b3 0),(pt b5 0),(pt b7 0)].toArray)] 145::W0
 refine qN (_::_::_::W1) ?_
 refine o_9 ?_
 rcases bif_ hr with ⟨_,hr⟩|⟨_,hr⟩
 refine o_9 ?_
 obtain rfl:=so hr
 exact qT2 (none,0,0) (fun w s=>((s.nilo kT3 3).f 11 [0,4]))
 refine o_4 ?_
 obtain ⟨hg18,hr⟩:=gd hr
 obtain ⟨r22,hx23,hr⟩:=bd hr
 refine c_some 9 sees_rd (show 0<args13.length by have:=hg18; omega) (fun g19 o20 ha=>?_)
 subst ha
 refine c_elem (K:=kT23) 9 (0:Int) dT23.dec R hg18.1 hg18.2 ?_
 rintro ⟨A21,D21⟩
 refine cN (cl g19 (o20+(0:Int).toNat*1) [(sc A21 (ix args13 (0:Int)) D21)]::RR kT3 A21 D21 (ix args13 (0:Int))::_::_::_::W1) ?_
 refine cdr 14 [] mixo fun ht hn=>?_
 refine d5_ 0 [] ?_
 refine dR 5 R (v_clf (fo:=0) 0 ag23 R R R) (d1 6 R (lM (RR kT3 A9 D9 n8.Args::RR kT3 A10 D10 n8.Dims::RR kT3 A11 D11 n8.Ints::RR kT3 A12 D12 n8.Data::rds _ _ _::bxl _ _ _::bxl _ _ _::bxl _ _ _::cl _ _ _::rds _ _ _::W1) (fun w s=>((((((s.d 7 R).d 9 R).d 11 R).d 13 R).d 5 R).e 10 [4,3,2,1,0,7,8,9,5,6])) ?_))
 refine l_callvn (fs:=[]) (cs:=[(pt b3 0),(pt b5 0),(pt b7 0)]) 8 R R cb149 R R (Z2c_ok hx23) R ?_
 rintro ⟨⟨A24,N24,D24⟩,⟨A25,N25,D25⟩⟩
 refine lN (ow kT3 3 (.slice A24 N24 D24) r22.1::ow kT161 161 (.slice A25 N25 D25) r22.2.1::_::_::_::_::_::W1) ?_
 refine l_len 0 sees_ow ?_
 rintro rfl
 refine l_len 1 sees_ow ?_
 rintro rfl
 refine l_nil (q_draw (fun w s=>(s.f 7 [5,2,2,3])) (dR 7 R (vT R) (hS:=(fun w s=>(s.f 7 [5,2,2,3]))) (dR 8 R (vS R) (hS:=(fun w s=>(s.f 7 [5,2,2,3]))) (dR 9 R (vS R) (hS:=(fun w s=>(s.f 7 [5,2,2,3]))) (dR 10 R (vB R) (hS:=(fun w s=>(s.f 7 [5,2,2,3]))) (dR 11 R (vS R) (hS:=(fun w s=>(s.f 7 [5,2,2,3]))) (dR 12 R (vS R) (hS:=(fun w s=>(s.f 7 [5,2,2,3]))) (dR 13 R (vB R) (hS:=(fun w s=>(s.f 7 [5,2,2,3]))) (dD ?_)))))))))
 refine o_10 ?_
 obtain rfl:=so hr
 exact qT2 (A24,r22.1.length,D24) (tE 14 [0,2,3,4])
theorem Z06_ok  {dims1:(List Int)}{axis3:Int}{index4:(List Int)}{r:(List Int)×(List pair)×Bool}(hr:Z06 dims1 axis3 index4=some r) :
 FnOk Tryz.prog 130 [(.slice A2 N2 D2),(iv axis3),(.slice A5 N5 D5)] [rds kT3 (.slice A2 N2 D2) dims1,rds kT3 (.slice A5 N5 D5) index4] (fun (h:HH×HH)=>((.tuple [(s3 h.1),(s3 h.2),(.bool r.2.2)].toArray),[ow kT3 3 (s3 h.1) r.1,ow kT161 161 (s3 h.2) r.2.1])):=by
 unfold Z06 at hr
 refine fn_ok Tryz.func130 R 67 R R fun C V=>?_
 refine cN (_::_::V) ?_
 refine cL 0 sees_rd ?_
 rintro rfl
 refine cL 1 sees_rd ?_
 rintro rfl
 let W0:List HP:=RR kT3 A2 D2 dims1::RR kT3 A5 D5 index4::V
 refine cN W0 ?_
 refine o_9 ?_
 obtain ⟨r6,hx7,hr⟩:=bd hr
 refine cQ [(0,(sc A2 dims1 D2)),(1,(iv axis3)),(2,(sc A5 index4 D5)),(26,(.bool (((!r6)||((index4.length:Int)==(0:Int)))||(decide ((index4.length:Int)>(4096:Int))))))] (W0) ?_ ?_
 refine o_3 ?_
 refine lM (RR kT3 A2 D2 dims1::W0) (fun w s=>(s.d 0 R)) ?_
 refine lC 1 cb150 R (Zi_ok hx7) R ?_
 rintro _
 refine lN W0 ?_
 refine o_2 ?_
 rcases bo (!r6) with hc8 | hc8
 refine o_10 ?_
 exact qj tI
 refine o_5 ?_
 rcases bo ((!r6)||((index4.length:Int)==(0:Int))) with hc9 | hc9
 refine o_5 ?_
 exact qj tI
 refine o_5 ?_
 exact qj tI
 rintro σ1
 refine o_1 ?_
 rcases bif_ hr with ⟨_,hr⟩|⟨_,hr⟩
 refine o_10 ?_
 obtain rfl:=so hr
 exact qT3 ((none,0,0),(none,0,0)) (fun w s=>(((s.nilo kT3 3).nilo kT161 161).e 4 [1,0]))
 refine o_5 ?_
 refine l_build (K:=kT161) (xs:=([]:List pair)) (vs:=[]) 0 R R sl147 sz161 zc161 R R R R R R ?_ R (fun A11 D11=>?_)
 exact fun I h s=>(mO161).list [] I h s
 refine lN (OO kT161 161 A11 D11 ([]:List pair)::W0) ?_
 refine o_4 ?_
 refine c_cut (A:=((List pair))×(HH×HH)) (fun a=>Z06_J1 dims1 axis3 index4 a.1=some r) (fun a=>[(0,(sc A2 dims1 D2)),(1,(iv axis3)),(2,(s3 a.2.1)),(9,(s3 a.2.2))]) (fun a=>rds kT3 (s3 a.2.1) index4::ow kT161 161 (s3 a.2.2) a.1::W0) ?_ ?_
 refine o_8 ?_
 obtain ⟨e1,hl1,hk1⟩:=bd hr
 refine c_loop (A:=HH×HH) hl1 (fun s a=>[(0,(sc A2 dims1 D2)),(1,(iv axis3)),(2,(s3 a.1)),(9,(s3 a.2)),(28,(s3 a.1)),(29,(il index4)),(30,(iv s.2))]) (fun s a=>rds kT3 (s3 a.1) index4::ow kT161 161 (s3 a.2) s.1::W0) ((A5,index4.length,D5),(A11,([]:List pair).length,D11)) (aS R) (fun w s=>(s.d 2 R)) ?_
 rintro ⟨list25,x27⟩ ⟨⟨A24,N24,D24⟩,⟨A26,N26,D26⟩⟩ σ1 out1 hr he1
 dsimp only [Z06_L1] at hr
 refine c_len 0 sees_rd (fun (hn:N24=index4.length)=>?_)
 subst hn
 refine c_len 1 sees_ow (fun (hn:N26=list25.length)=>?_)
 subst hn
 refine o_6 ?_
 rcases bif_ hr with ⟨_,hr⟩|⟨_,hr⟩
 refine o_6 ?_
 obtain ⟨hg29,hr⟩:=gd hr
 refine o_2 ?_
 refine t_some 0 sees_rd (show 0<index4.length by have:=hg29; omega) (fun g30 o31 ha=>?_)
 subst ha
 refine o_8 ?_
 obtain ⟨hg32,hr⟩:=gd hr
 refine cQ [(0,(sc A2 dims1 D2)),(1,(iv axis3)),(2,(sc (ad g30 o31) index4 D24)),(9,(sc A26 list25 D26)),(10,(iv x27)),(11,(iv (ix index4 x27))),(28,(sc (ad g30 o31) index4 D24)),(29,(il index4)),(30,(iv x27)),(44,(.bool ((decide ((ix index4 x27)<(0:Int)))||(decide ((ix index4 x27)≥(ix dims1 axis3))))))] (RR kT3 (ad g30 o31) D24 index4::OO kT161 161 A26 D26 list25::W0) ?_ ?_
 refine o_4 ?_
 rcases bo (decide ((ix index4 x27)<(0:Int))) with hc35 | hc35
 refine o_8 ?_
 exact qj tI
 refine o_3 ?_
 refine t_some 2 sees_rd (show 0<dims1.length by have:=(hg32 hc35); omega) (fun g33 o34 ha=>?_)
 subst ha
 refine lW (wnF hc35) (vIa sl23 sz3 R R (hg32 hc35)) (lW (wnF hc35) (vLi 2 ag3 sees_rd R (hg32 hc35)) ?_)
 refine o_3 ?_
 exact qj tI
 rintro σ1
 refine o_1 ?_
 rcases bif_ hr with ⟨_,hr⟩|⟨_,hr⟩
 refine o_12 ?_
 obtain rfl:=so hr
 obtain rfl:=he1 _ R
 have hr:=hk1
 refine o_3 ?_
 obtain rfl:=so hr
 exact qT3 ((none,0,0),(none,0,0)) (fun w s=>(((s.nilo kT3 3).nilo kT161 161).e 6 [1,0]))
 refine o_3 ?_
 obtain ⟨hg38,hr⟩:=gd hr
 refine o_4 ?_
 refine lO (vz (.agg [(iv (ix index4 x27)),(iv x27)].toArray) (v_build pl161 zc161 R R)) (l_build (K:=kT161) (xs:=([(⟨(ix index4 x27),x27⟩:pair)]:List pair)) (vs:=[(.agg [(iv (ix index4 x27)),(iv x27)].toArray)]) 0 R R sl147 sz161 zc161 R R R R R R ?_ R (fun A37 D37=>?_))
 exact fun I h s=>(mO161).list [(((),()),(⟨(ix index4 x27),x27⟩:pair))] I h s
 refine lN (OO kT161 161 A37 D37 ([(⟨(ix index4 x27),x27⟩:pair)]:List pair)::RR kT3 (ad g30 o31) D24 index4::OO kT161 161 A26 D26 list25::W0) ?_
 refine lM (ow _ _ _ _::ow _ _ _ _::rds _ _ _::W0) (tE 3 [2,0,1]) ?_
 refine l_app (K:=kT161) 8796093022208 R R sl147 sz161 by161 (Zr.zk zT161 zc161) R R R R R R src_ow hg38 (fun A39 D39=>(lN (OO kT161 161 A39 D39 (list25++([(⟨(ix index4 x27),x27⟩:pair)]:List pair))::_::W0) ?_))
 refine o_8 ?_
 obtain rfl:=so hr
 exact qA (((ad g30 o31),index4.length,D24),(A39,(list25++([(⟨(ix index4 x27),x27⟩:pair)]:List pair)).length,D39)) (tE 2 [1,0])
 refine o_3 ?_
 obtain rfl:=so hr
 obtain rfl:=he1 _ R
 have hr:=hk1
 refine o_2 ?_
 exact qI (list25,((A24,index4.length,D24),(A26,list25.length,D26))) hr tI
 rintro ⟨list45,⟨⟨A44,N44,D44⟩,⟨A46,N46,D46⟩⟩⟩ σ1 hr
 dsimp only [Z06_J1] at hr
 refine c_len 0 sees_rd (fun (hn:N44=index4.length)=>?_)
 subst hn
 refine c_len 1 sees_ow (fun (hn:N46=list45.length)=>?_)
 subst hn
 refine o_1 ?_
 obtain ⟨r47,hx48,hr⟩:=bd hr
 refine o_5 ?_
 refine lM (RR kT3 A2 D2 dims1::RR kT3 A44 D44 index4::OO kT161 161 A46 D46 list45::W0) (fun w s=>(s.d 2 R)) ?_
 refine lC 1 cb151 R (Z1b_ok hx48) R ?_
 rintro ⟨A49,N49,D49⟩
 refine lN (ow kT3 3 (.slice A49 N49 D49) r47::_::_::W0) ?_
 refine l_len 0 sees_ow ?_
 rintro rfl
 refine o_5 ?_
 obtain ⟨r50,hx51,hr⟩:=bd hr
 refine o_2 ?_
 refine lC 1 cb147 R (FnOk.lends (A':=[OO kT3 3 A49 D49 r47]) (A:=[RR kT3 A49 D49 r47]) (B:=[]) (Zb_ok hx51) ⟨lend_ow,trivial⟩ (fun _=>trivial)) R ?_
 rintro _
 refine o_3 ?_
 rcases bif_ hr with ⟨_,hr⟩|⟨_,hr⟩
 refine o_10 ?_
 obtain rfl:=so hr
 exact qT3 ((none,0,0),(none,0,0)) (fun w s=>(((s.nilo kT3 3).nilo kT161 161).e 7 [1,0]))
 refine o_4 ?_
 obtain ⟨r53,hx54,hr⟩:=bd hr
 refine o_7 ?_
 refine lM (ow _ _ _ _::RR kT3 A2 D2 dims1::ow _ _ _ _::rds _ _ _::W0) (fun w s=>((s.d 3 R).e 4 [3,0,1,2])) ?_
 refine lC 2 cb152 R (FnOk.lends (A':=[OO kT161 161 A46 D46 list45]) (A:=[RR kT161 A46 D46 list45]) (B:=[RR kT3 A2 D2 dims1]) (FnOk.perm (Z9_ok hx54) (Pre':=[RR kT161 A46 D46 list45,RR kT3 A2 D2 dims1]) (fun _ _ _ s=>(s.e 2 [1,0]))) ⟨lend_ow,trivial⟩ (fun _=>⟨(closed_ow cT161),trivial⟩)) R ?_
 rintro ⟨A55,N55,D55⟩
 refine lN (_::ow kT161 161 (.slice A55 N55 D55) r53::_::_::W0) ?_
 refine l_len 1 sees_ow ?_
 rintro rfl
 refine o_6 ?_
 obtain rfl:=so hr
 exact qT3 ((A49,r47.length,D49),(A55,r53.length,D55)) (tE 6 [2,1])
theorem Z1p_ok  {p1:(List Int)}{dims3:(List Int)}{r:(List Int)×(List pair)×Bool}(hr:Z1p p1 dims3=some r) :
 FnOk Tryz.prog 129 [(.slice A2 N2 D2),(.slice A4 N4 D4)] [rds kT3 (.slice A2 N2 D2) p1,rds kT3 (.slice A4 N4 D4) dims3] (fun (h:HH×HH)=>((.tuple [(s3 h.1),(s3 h.2),(.bool r.2.2)].toArray),[ow kT3 3 (s3 h.1) r.1,ow kT161 161 (s3 h.2) r.2.1])):=by
 unfold Z1p at hr
 refine fn_ok Tryz.func129 R 17 R R fun C V=>?_
 refine cN (_::_::V) ?_
 refine cL 0 sees_rd ?_
 rintro rfl
 refine cL 1 sees_rd ?_
 rintro rfl
 let W0:List HP:=RR kT3 A2 D2 p1::RR kT3 A4 D4 dims3::V
 refine cN W0 ?_
 refine o_8 ?_
 obtain ⟨hg5,hr⟩:=gd hr
 obtain ⟨hg8,hr⟩:=gd hr
 obtain ⟨r10,hx11,hr⟩:=bd hr
 refine c_some 0 sees_rd (show 0<p1.length by have:=hg5; omega) (fun g6 o7 ha=>?_)
 subst ha
 refine cdr 13 [] mixo fun ht hn=>?_
 refine d5_ 0 [] ?_
 refine d1 5 R (l_cut (K:=kT3) (1:Int) (p1.length:Int) 0 R R sl23 sz3 R R R R hg8.1 hg8.2.1 hg8.2.2 (fun A9 D9=>(l_nil (q_draw (sL [0]) (d1 6 R (lM (RR kT3 A4 D4 dims3::RR kT3 A9 D9 (sub p1 (1:Int) (p1.length:Int))::RR kT3 A9 D9 (sub p1 (1:Int) (p1.length:Int))::W0) (fun w s=>(((s.d 2 R).d 1 R).e 3 [1,0,2])) ?_))))))
 refine lC 2 cb130 R (Z06_ok hx11) R ?_
 rintro ⟨⟨A12,N12,D12⟩,⟨A13,N13,D13⟩⟩
 refine lN (ow kT3 3 (.slice A12 N12 D12) r10.1::ow kT161 161 (.slice A13 N13 D13) r10.2.1::_::W0) ?_
 refine l_len 0 sees_ow ?_
 rintro rfl
 refine l_len 1 sees_ow ?_
 rintro rfl
 refine l_nil (q_draw (sL [2,1,0]) ?_)
 refine d6_ 7 [2,1,0] ?_
 refine dD ?_
 refine o_2 ?_
 obtain rfl:=so hr
 exact qT3 ((A12,r10.1.length,D12),(A13,r10.2.1.length,D13)) (tE 5 [0,1])
theorem Z2d_ok  {n1:Node}{dims6:(List Int)}{p8:Int}{p10:Int}{b9:Nat}{b11:Nat}{b13:Nat}{r:(List Int)×(List pair)×Bool}(hr:Z2d n1 dims6 p8 p10=some r) :
 FnOk Tryz.prog 149 [(.agg [(iv n1.Op),(.slice A2 N2 D2),(.slice A3 N3 D3),(.slice A4 N4 D4),(vstr n1.Form),(.slice A5 N5 D5)].toArray),(.slice A7 N7 D7),(pt b9 0),(pt b11 0),(pt b13 0)] [rds kT3 (.slice A2 N2 D2) n1.Args,rds kT3 (.slice A3 N3 D3) n1.Dims,rds kT3 (.slice A4 N4 D4) n1.Ints,rds kT3 (.slice A5 N5 D5) n1.Data,rds kT3 (.slice A7 N7 D7) dims6,bxl b9 [(iv p8)] 3,bxl b11 [(iv p10)] 3,bxl b13 [(.func (.func 129) [].toArray [].toArray)] 150] (fun (h:HH×HH)=>((.tuple [(s3 h.1),(s3 h.2),(.bool r.2.2)].toArray),[ow kT3 3 (s3 h.1) r.1,ow kT161 161 (s3 h.2) r.2.1,bxl b9 [(iv p8)] 3,bxl b11 [(iv p10)] 3,bxl b13 [(.func (.func 129) [].toArray [].toArray)] 150])):=by
 unfold Z2d at hr
 refine fn_ok Tryz.func149 R 30 R R fun C V=>?_
 refine cM (bxl _ _ _::bxl _ _ _::bxl _ _ _::rds _ _ _::rds _ _ _::rds _ _ _::rds _ _ _::rds _ _ _::V) (fun w s=>(s.f 8 [5,3,0,5])) ?_
 refine cL 3 sees_rd ?_
 rintro rfl
 refine cL 4 sees_rd ?_
 rintro rfl
 refine cL 5 sees_rd ?_
 rintro rfl
 refine cL 6 sees_rd ?_
 rintro rfl
 refine cL 7 sees_rd ?_
 rintro rfl
 let W0:List HP:=RR kT3 A2 D2 n1.Args::RR kT3 A3 D3 n1.Dims::RR kT3 A4 D4 n1.Ints::RR kT3 A5 D5 n1.Data::RR kT3 A7 D7 dims6::V
 refine cN (_::_::_::W0) ?_
 refine o_2 ?_
 refine lBx R fun b14=>?_
 refine o_4 ?_
 let W1:List HP:=bxl b14 [(iv n1.Op),(sc A2 n1.Args D2),(sc A3 n1.Dims D3),(sc A4 n1.Ints D4),(vstr n1.Form),(sc A5 n1.Data D5)] 54::bxl b9 [(iv p8)] 3::bxl b11 [(iv p10)] 3::bxl b13 [(.func (.func 129) [].toArray [].toArray)] 150::W0
 refine qN W1 ?_
 refine o_3 ?_
 refine cQ [(1,(sc A7 dims6 D7)),(4,(pt b13 0)),(5,(pt b14 0)),(21,(.bool ((decide ((n1.Ints.length:Int)<p8))||(decide ((n1.Ints.length:Int)>p10)))))] (W1) ?_ ?_
 refine o_7 ?_
 rcases bo (decide ((n1.Ints.length:Int)<p8)) with hc15 | hc15
 refine o_7 ?_
 exact qj tI
 refine o_7 ?_
 exact qj tI
 rintro σ1
 refine o_1 ?_
 rcases bif_ hr with ⟨_,hr⟩|⟨_,hr⟩
 refine o_10 ?_
 obtain rfl:=so hr
 exact qT3 ((none,0,0),(none,0,0)) (fun w s=>(((s.nilo kT3 3).nilo kT161 161).e 11 [1,0,3,4,5]))
 refine o_4 ?_
 obtain ⟨r17,hx18,hr⟩:=bd hr
 refine o_5 ?_
 refine lM (RR kT3 A4 D4 n1.Ints::RR kT3 A7 D7 dims6::W1) (fun w s=>(((s.d 6 R).d 9 R).e 2 [1,0])) ?_
 refine l_callvn (fs:=[]) (cs:=[]) 2 R R cb129 R R (Z1p_ok hx18) R ?_
 rintro ⟨⟨A19,N19,D19⟩,⟨A20,N20,D20⟩⟩
 refine lN (ow kT3 3 (.slice A19 N19 D19) r17.1::ow kT161 161 (.slice A20 N20 D20) r17.2.1::W1) ?_
 refine l_len 0 sees_ow ?_
 rintro rfl
 refine l_len 1 sees_ow ?_
 rintro rfl
 refine o_9 ?_
 obtain rfl:=so hr
 exact qT3 ((A19,r17.1.length,D19),(A20,r17.2.1.length,D20)) (fun w s=>(s.f 11 [0,2,3,3]))
theorem Z1f_ok  {k1:shiftKind}{q2:Int}{q4:Int}{n8:Node}{args13:(List (List Int))}{b3:Nat}{b5:Nat}{b7:Nat}{r:(List Int)×Bool}(hr:Z1f k1 q2 q4 n8 args13=some r) :
 FnOk Tryz.prog 220 [(.agg [(vstr k1.use),(.func (.func 149) [].toArray [(pt b3 0),(pt b5 0),(pt b7 0)].toArray)].toArray),(.agg [(iv n8.Op),(.slice A9 N9 D9),(.slice A10 N10 D10),(.slice A11 N11 D11),(vstr n8.Form),(.slice A12 N12 D12)].toArray),(.slice A14 N14 D14)] [bxl b3 [(iv q2)] 3,bxl b5 [(iv q4)] 3,bxl b7 [(.func (.func 129) [].toArray [].toArray)] 150,rds kT3 (.slice A9 N9 D9) n8.Args,rds kT3 (.slice A10 N10 D10) n8.Dims,rds kT3 (.slice A11 N11 D11) n8.Ints,rds kT3 (.slice A12 N12 D12) n8.Data,rds kT23 (.slice A14 N14 D14) args13] (fun (h:HH)=>((.tuple [(s3 h),(.bool r.2)].toArray),[ow kT3 3 (s3 h) r.1,bxl b3 [(iv q2)] 3,bxl b5 [(iv q4)] 3,bxl b7 [(.func (.func 129) [].toArray [].toArray)] 150])):=by
 unfold Z1f at hr
 refine fn_ok Tryz.func220 R 27 R R fun C V=>?_
 refine cN (_::_::_::_::_::_::_::_::V) ?_
 refine cL 3 sees_rd ?_
 rintro rfl
 refine cL 4 sees_rd ?_
 rintro rfl
 refine cL 5 sees_rd ?_
 rintro rfl
 refine cL 6 sees_rd ?_
 rintro rfl
 refine cL 7 sees_rd ?_
 rintro rfl
 let W0:List HP:=RR kT3 A9 D9 n8.Args::RR kT3 A10 D10 n8.Dims::RR kT3 A11 D11 n8.Ints::RR kT3 A12 D12 n8.Data::RR kT23 A14 D14 args13::V
 refine cN (_::_::_::W0) ?_
 refine o_2 ?_
 refine lBx R fun b15=>?_
 refine lBx R fun b16=>?_
 refine o_3 ?_
 refine qM (bxl _ _ _::bxl _ _ _::bxl _ _ _::bxl _ _ _::bxl _ _ _::W0) (fun w s=>(s.f 5 [2,3,0,2])) ?_
 let W1:List HP:=bxl b16 [(iv n8.Op),(sc A9 n8.Args D9),(sc A10 n8.Dims D10),(sc A11 n8.Ints D11),(vstr n8.Form),(sc A12 n8.Data D12)] 54::bxl b15 [(vstr k1.use),(.func (.func 149) [].toArray [(pt b3 0),(pt b5 0),(pt b7 0)].toArray)] 145::W0
 refine qN (_::_::_::W1) ?_
 refine o_9 ?_
 rcases bif_ hr with ⟨_,hr⟩|⟨_,hr⟩
 refine o_9 ?_
 obtain rfl:=so hr
 exact qT2 (none,0,0) (fun w s=>((s.nilo kT3 3).f 11 [0,4]))
 refine o_4 ?_
 obtain ⟨hg18,hr⟩:=gd hr
 obtain ⟨r22,hx23,hr⟩:=bd hr
 refine c_some 9 sees_rd (show 0<args13.length by have:=hg18; omega) (fun g19 o20 ha=>?_)
 subst ha
 refine c_elem (K:=kT23) 9 (0:Int) dT23.dec R hg18.1 hg18.2 ?_
 rintro ⟨A21,D21⟩
 refine cN (cl g19 (o20+(0:Int).toNat*1) [(sc A21 (ix args13 (0:Int)) D21)]::RR kT3 A21 D21 (ix args13 (0:Int))::_::_::_::W1) ?_
 refine cdr 14 [] mixo fun ht hn=>?_
 refine d5_ 0 [] ?_
 refine dR 5 R (v_clf (fo:=0) 0 ag23 R R R) (d1 6 R (lM (RR kT3 A9 D9 n8.Args::RR kT3 A10 D10 n8.Dims::RR kT3 A11 D11 n8.Ints::RR kT3 A12 D12 n8.Data::rds _ _ _::bxl _ _ _::bxl _ _ _::bxl _ _ _::cl _ _ _::rds _ _ _::W1) (fun w s=>((((((s.d 7 R).d 9 R).d 11 R).d 13 R).d 5 R).e 10 [4,3,2,1,0,7,8,9,5,6])) ?_))
 refine l_callvn (fs:=[]) (cs:=[(pt b3 0),(pt b5 0),(pt b7 0)]) 8 R R cb149 R R (Z2d_ok hx23) R ?_
 rintro ⟨⟨A24,N24,D24⟩,⟨A25,N25,D25⟩⟩
 refine lN (ow kT3 3 (.slice A24 N24 D24) r22.1::ow kT161 161 (.slice A25 N25 D25) r22.2.1::_::_::_::_::_::W1) ?_
 refine l_len 0 sees_ow ?_
 rintro rfl
 refine l_len 1 sees_ow ?_
 rintro rfl
 refine l_nil (q_draw (fun w s=>(s.f 7 [5,2,2,3])) (dR 7 R (vT R) (hS:=(fun w s=>(s.f 7 [5,2,2,3]))) (dR 8 R (vS R) (hS:=(fun w s=>(s.f 7 [5,2,2,3]))) (dR 9 R (vS R) (hS:=(fun w s=>(s.f 7 [5,2,2,3]))) (dR 10 R (vB R) (hS:=(fun w s=>(s.f 7 [5,2,2,3]))) (dR 11 R (vS R) (hS:=(fun w s=>(s.f 7 [5,2,2,3]))) (dR 12 R (vS R) (hS:=(fun w s=>(s.f 7 [5,2,2,3]))) (dR 13 R (vB R) (hS:=(fun w s=>(s.f 7 [5,2,2,3]))) (dD ?_)))))))))
 refine o_10 ?_
 obtain rfl:=so hr
 exact qT2 (A24,r22.1.length,D24) (tE 14 [0,2,3,4])
theorem Z07_ok  {dims1:(List Int)}{axis3:Int}{index4:(List Int)}{n6:Int}{r:(List Int)×(List pair)×Bool}(hr:Z07 dims1 axis3 index4 n6=some r) :
 FnOk Tryz.prog 132 [(.slice A2 N2 D2),(iv axis3),(.slice A5 N5 D5),(iv n6)] [rds kT3 (.slice A2 N2 D2) dims1,rds kT3 (.slice A5 N5 D5) index4] (fun (h:HH×HH)=>((.tuple [(s3 h.1),(s3 h.2),(.bool r.2.2)].toArray),[ow kT3 3 (s3 h.1) r.1,ow kT161 161 (s3 h.2) r.2.1])):=by
 unfold Z07 at hr
 refine fn_ok Tryz.func132 R 67 R R fun C V=>?_
 refine cN (_::_::V) ?_
 refine cL 0 sees_rd ?_
 rintro rfl
 refine cL 1 sees_rd ?_
 rintro rfl
 let W0:List HP:=RR kT3 A2 D2 dims1::RR kT3 A5 D5 index4::V
 refine cN W0 ?_
 refine o_9 ?_
 obtain ⟨r7,hx8,hr⟩:=bd hr
 obtain ⟨hg9,hr⟩:=gd hr
 refine cQ [(0,(sc A2 dims1 D2)),(1,(iv axis3)),(2,(sc A5 index4 D5)),(3,(iv n6)),(31,(.bool (((!r7)||((index4.length:Int) != (ix dims1 axis3)))||(decide (n6<(1:Int))))))] (W0) ?_ ?_
 refine o_3 ?_
 refine lM (RR kT3 A2 D2 dims1::W0) (fun w s=>(s.d 0 R)) ?_
 refine lC 1 cb150 R (Zi_ok hx8) R ?_
 rintro _
 refine lN W0 ?_
 refine o_2 ?_
 rcases bo (!r7) with hc12 | hc12
 refine o_13 ?_
 exact qj tI
 refine o_4 ?_
 refine t_some 0 sees_rd (show 0<dims1.length by have:=(hg9 hc12); omega) (fun g10 o11 ha=>?_)
 subst ha
 refine lW (wnF hc12) (vIa sl23 sz3 R R (hg9 hc12)) (lW (wnF hc12) (vLi 0 ag3 sees_rd R (hg9 hc12)) ?_)
 refine o_3 ?_
 rcases bo ((!r7)||((index4.length:Int) != (ix dims1 axis3))) with hc13 | hc13
 refine o_4 ?_
 exact qj tI
 refine o_4 ?_
 exact qj tI
 rintro σ1
 refine o_1 ?_
 rcases bif_ hr with ⟨_,hr⟩|⟨_,hr⟩
 refine o_10 ?_
 obtain rfl:=so hr
 exact qT3 ((none,0,0),(none,0,0)) (fun w s=>(((s.nilo kT3 3).nilo kT161 161).e 4 [1,0]))
 refine o_5 ?_
 refine l_build (K:=kT161) (xs:=([]:List pair)) (vs:=[]) 0 R R sl147 sz161 zc161 R R R R R R ?_ R (fun A15 D15=>?_)
 exact fun I h s=>(mO161).list [] I h s
 refine lN (OO kT161 161 A15 D15 ([]:List pair)::W0) ?_
 refine o_4 ?_
 refine c_cut (A:=((List pair))×(HH)) (fun a=>Z07_J1 dims1 axis3 n6 a.1=some r) (fun a=>[(0,(sc A2 dims1 D2)),(1,(iv axis3)),(3,(iv n6)),(11,(s3 a.2))]) (fun a=>ow kT161 161 (s3 a.2) a.1::W0) ?_ ?_
 refine o_8 ?_
 obtain ⟨e1,hl1,hk1⟩:=bd hr
 refine c_loop (A:=HH×HH) hl1 (fun s a=>[(0,(sc A2 dims1 D2)),(1,(iv axis3)),(3,(iv n6)),(11,(s3 a.1)),(33,(s3 a.2)),(34,(il index4)),(35,(iv s.2))]) (fun s a=>ow kT161 161 (s3 a.1) s.1::rds kT3 (s3 a.2) index4::W0) ((A15,([]:List pair).length,D15),(A5,index4.length,D5)) (aS R) (fun w s=>((s.d 2 R).e 2 [1,0])) ?_
 rintro ⟨list25,x28⟩ ⟨⟨A26,N26,D26⟩,⟨A27,N27,D27⟩⟩ σ1 out1 hr he1
 dsimp only [Z07_L1] at hr
 refine c_len 0 sees_ow (fun (hn:N26=list25.length)=>?_)
 subst hn
 refine c_len 1 sees_rd (fun (hn:N27=index4.length)=>?_)
 subst hn
 refine o_6 ?_
 rcases bif_ hr with ⟨_,hr⟩|⟨_,hr⟩
 refine o_6 ?_
 obtain ⟨hg30,hr⟩:=gd hr
 refine o_2 ?_
 refine t_some 1 sees_rd (show 0<index4.length by have:=hg30; omega) (fun g31 o32 ha=>?_)
 subst ha
 refine o_8 ?_
 refine cQ [(0,(sc A2 dims1 D2)),(1,(iv axis3)),(3,(iv n6)),(11,(sc A26 list25 D26)),(12,(iv x28)),(13,(iv (ix index4 x28))),(33,(sc (ad g31 o32) index4 D27)),(34,(il index4)),(35,(iv x28)),(46,(.bool ((decide ((ix index4 x28)<(0:Int)))||(decide ((ix index4 x28)≥n6)))))] (OO kT161 161 A26 D26 list25::RR kT3 (ad g31 o32) D27 index4::W0) ?_ ?_
 refine o_4 ?_
 rcases bo (decide ((ix index4 x28)<(0:Int))) with hc33 | hc33
 refine o_5 ?_
 exact qj tI
 refine o_5 ?_
 exact qj tI
 rintro σ1
 refine o_1 ?_
 rcases bif_ hr with ⟨_,hr⟩|⟨_,hr⟩
 refine o_12 ?_
 obtain rfl:=so hr
 obtain rfl:=he1 _ R
 have hr:=hk1
 refine o_3 ?_
 obtain rfl:=so hr
 exact qT3 ((none,0,0),(none,0,0)) (fun w s=>(((s.nilo kT3 3).nilo kT161 161).e 6 [1,0]))
 refine o_3 ?_
 obtain ⟨hg36,hr⟩:=gd hr
 refine o_4 ?_
 refine lO (vz (.agg [(iv x28),(iv (ix index4 x28))].toArray) (v_build pl161 zc161 R R)) (l_build (K:=kT161) (xs:=([(⟨x28,(ix index4 x28)⟩:pair)]:List pair)) (vs:=[(.agg [(iv x28),(iv (ix index4 x28))].toArray)]) 0 R R sl147 sz161 zc161 R R R R R R ?_ R (fun A35 D35=>?_))
 exact fun I h s=>(mO161).list [(((),()),(⟨x28,(ix index4 x28)⟩:pair))] I h s
 refine lN (OO kT161 161 A35 D35 ([(⟨x28,(ix index4 x28)⟩:pair)]:List pair)::OO kT161 161 A26 D26 list25::RR kT3 (ad g31 o32) D27 index4::W0) ?_
 refine lM (ow _ _ _ _::ow _ _ _ _::rds _ _ _::W0) (tE 3 [1,0,2]) ?_
 refine l_app (K:=kT161) 8796093022208 R R sl147 sz161 by161 (Zr.zk zT161 zc161) R R R R R R src_ow hg36 (fun A37 D37=>(lN (OO kT161 161 A37 D37 (list25++([(⟨x28,(ix index4 x28)⟩:pair)]:List pair))::_::W0) ?_))
 refine o_8 ?_
 obtain rfl:=so hr
 exact qA ((A37,(list25++([(⟨x28,(ix index4 x28)⟩:pair)]:List pair)).length,D37),((ad g31 o32),index4.length,D27)) tI
 refine o_3 ?_
 obtain rfl:=so hr
 obtain rfl:=he1 _ R
 have hr:=hk1
 refine o_2 ?_
 exact qI (list25,(A26,list25.length,D26)) hr (tE 2 [0])
 rintro ⟨list42,⟨A43,N43,D43⟩⟩ σ1 hr
 dsimp only [Z07_J1] at hr
 refine c_len 0 sees_ow (fun (hn:N43=list42.length)=>?_)
 subst hn
 refine o_1 ?_
 obtain ⟨r44,hx45,hr⟩:=bd hr
 refine o_4 ?_
 refine lM (RR kT3 A2 D2 dims1::OO kT161 161 A43 D43 list42::W0) (fun w s=>(s.d 1 R)) ?_
 refine lC 1 cb151 R (Z1b_ok hx45) R ?_
 rintro ⟨A46,N46,D46⟩
 refine lN (ow kT3 3 (.slice A46 N46 D46) r44::_::W0) ?_
 refine l_len 0 sees_ow ?_
 rintro rfl
 refine o_5 ?_
 obtain ⟨r47,hx48,hr⟩:=bd hr
 refine o_2 ?_
 refine lC 1 cb147 R (FnOk.lends (A':=[OO kT3 3 A46 D46 r44]) (A:=[RR kT3 A46 D46 r44]) (B:=[]) (Zb_ok hx48) ⟨lend_ow,trivial⟩ (fun _=>trivial)) R ?_
 rintro _
 refine o_3 ?_
 rcases bif_ hr with ⟨_,hr⟩|⟨_,hr⟩
 refine o_10 ?_
 obtain rfl:=so hr
 exact qT3 ((none,0,0),(none,0,0)) (fun w s=>(((s.nilo kT3 3).nilo kT161 161).e 6 [1,0]))
 refine o_4 ?_
 obtain ⟨r50,hx51,hr⟩:=bd hr
 refine o_6 ?_
 refine lM (ow _ _ _ _::RR kT3 A2 D2 dims1::ow _ _ _ _::W0) (fun w s=>((s.d 2 R).e 3 [2,0,1])) ?_
 refine lC 2 cb152 R (FnOk.lends (A':=[OO kT161 161 A43 D43 list42]) (A:=[RR kT161 A43 D43 list42]) (B:=[RR kT3 A2 D2 dims1]) (FnOk.perm (Z9_ok hx51) (Pre':=[RR kT161 A43 D43 list42,RR kT3 A2 D2 dims1]) (fun _ _ _ s=>(s.e 2 [1,0]))) ⟨lend_ow,trivial⟩ (fun _=>⟨(closed_ow cT161),trivial⟩)) R ?_
 rintro ⟨A52,N52,D52⟩
 refine lN (_::ow kT161 161 (.slice A52 N52 D52) r50::_::W0) ?_
 refine l_len 1 sees_ow ?_
 rintro rfl
 refine o_6 ?_
 obtain rfl:=so hr
 exact qT3 ((A46,r44.length,D46),(A52,r50.length,D52)) (tE 5 [2,1])
theorem Z1q_ok  {p1:(List Int)}{dims3:(List Int)}{r:(List Int)×(List pair)×Bool}(hr:Z1q p1 dims3=some r) :
 FnOk Tryz.prog 131 [(.slice A2 N2 D2),(.slice A4 N4 D4)] [rds kT3 (.slice A2 N2 D2) p1,rds kT3 (.slice A4 N4 D4) dims3] (fun (h:HH×HH)=>((.tuple [(s3 h.1),(s3 h.2),(.bool r.2.2)].toArray),[ow kT3 3 (s3 h.1) r.1,ow kT161 161 (s3 h.2) r.2.1])):=by
 unfold Z1q at hr
 refine fn_ok Tryz.func131 R 20 R R fun C V=>?_
 refine cN (_::_::V) ?_
 refine cL 0 sees_rd ?_
 rintro rfl
 refine cL 1 sees_rd ?_
 rintro rfl
 let W0:List HP:=RR kT3 A2 D2 p1::RR kT3 A4 D4 dims3::V
 refine cN W0 ?_
 refine o_8 ?_
 obtain ⟨hg5,hr⟩:=gd hr
 obtain ⟨hg8,hr⟩:=gd hr
 obtain ⟨_,hr⟩:=gd hr
 obtain ⟨r11,hx12,hr⟩:=bd hr
 refine c_some 0 sees_rd (show 0<p1.length by have:=hg5; omega) (fun g6 o7 ha=>?_)
 subst ha
 refine cdr 16 [] mixo fun ht hn=>?_
 refine d5_ 0 [] ?_
 refine d3_ 6 [] ?_
 refine d1 5 R (l_cut (K:=kT3) (2:Int) (p1.length:Int) 0 R R sl23 sz3 R R R R hg8.1 hg8.2.1 hg8.2.2 (fun A9 D9=>(l_nil (q_draw (sL [0]) (d1 9 R (lM (RR kT3 A4 D4 dims3::RR kT3 A9 D9 (sub p1 (2:Int) (p1.length:Int))::RR kT3 A9 D9 (sub p1 (2:Int) (p1.length:Int))::W0) (fun w s=>(((s.d 2 R).d 1 R).e 3 [1,0,2])) ?_))))))
 refine lC 2 cb132 R (Z07_ok hx12) R ?_
 rintro ⟨⟨A13,N13,D13⟩,⟨A14,N14,D14⟩⟩
 refine lN (ow kT3 3 (.slice A13 N13 D13) r11.1::ow kT161 161 (.slice A14 N14 D14) r11.2.1::_::W0) ?_
 refine l_len 0 sees_ow ?_
 rintro rfl
 refine l_len 1 sees_ow ?_
 rintro rfl
 refine l_nil (q_draw (sL [2,1,0]) ?_)
 refine d6_ 10 [2,1,0] ?_
 refine dD ?_
 refine o_2 ?_
 obtain rfl:=so hr
 exact qT3 ((A13,r11.1.length,D13),(A14,r11.2.1.length,D14)) (tE 5 [0,1])
theorem Z2e_ok  {n1:Node}{dims6:(List Int)}{p8:Int}{p10:Int}{b9:Nat}{b11:Nat}{b13:Nat}{r:(List Int)×(List pair)×Bool}(hr:Z2e n1 dims6 p8 p10=some r) :
 FnOk Tryz.prog 149 [(.agg [(iv n1.Op),(.slice A2 N2 D2),(.slice A3 N3 D3),(.slice A4 N4 D4),(vstr n1.Form),(.slice A5 N5 D5)].toArray),(.slice A7 N7 D7),(pt b9 0),(pt b11 0),(pt b13 0)] [rds kT3 (.slice A2 N2 D2) n1.Args,rds kT3 (.slice A3 N3 D3) n1.Dims,rds kT3 (.slice A4 N4 D4) n1.Ints,rds kT3 (.slice A5 N5 D5) n1.Data,rds kT3 (.slice A7 N7 D7) dims6,bxl b9 [(iv p8)] 3,bxl b11 [(iv p10)] 3,bxl b13 [(.func (.func 131) [].toArray [].toArray)] 150] (fun (h:HH×HH)=>((.tuple [(s3 h.1),(s3 h.2),(.bool r.2.2)].toArray),[ow kT3 3 (s3 h.1) r.1,ow kT161 161 (s3 h.2) r.2.1,bxl b9 [(iv p8)] 3,bxl b11 [(iv p10)] 3,bxl b13 [(.func (.func 131) [].toArray [].toArray)] 150])):=by
 unfold Z2e at hr
 refine fn_ok Tryz.func149 R 30 R R fun C V=>?_
 refine cM (bxl _ _ _::bxl _ _ _::bxl _ _ _::rds _ _ _::rds _ _ _::rds _ _ _::rds _ _ _::rds _ _ _::V) (fun w s=>(s.f 8 [5,3,0,5])) ?_
 refine cL 3 sees_rd ?_
 rintro rfl
 refine cL 4 sees_rd ?_
 rintro rfl
 refine cL 5 sees_rd ?_
 rintro rfl
 refine cL 6 sees_rd ?_
 rintro rfl
 refine cL 7 sees_rd ?_
 rintro rfl
 let W0:List HP:=RR kT3 A2 D2 n1.Args::RR kT3 A3 D3 n1.Dims::RR kT3 A4 D4 n1.Ints::RR kT3 A5 D5 n1.Data::RR kT3 A7 D7 dims6::V
 refine cN (_::_::_::W0) ?_
 refine o_2 ?_
 refine lBx R fun b14=>?_
 refine o_4 ?_
 let W1:List HP:=bxl b14 [(iv n1.Op),(sc A2 n1.Args D2),(sc A3 n1.Dims D3),(sc A4 n1.Ints D4),(vstr n1.Form),(sc A5 n1.Data D5)] 54::bxl b9 [(iv p8)] 3::bxl b11 [(iv p10)] 3::bxl b13 [(.func (.func 131) [].toArray [].toArray)] 150::W0
 refine qN W1 ?_
 refine o_3 ?_
 refine cQ [(1,(sc A7 dims6 D7)),(4,(pt b13 0)),(5,(pt b14 0)),(21,(.bool ((decide ((n1.Ints.length:Int)<p8))||(decide ((n1.Ints.length:Int)>p10)))))] (W1) ?_ ?_
 refine o_7 ?_
 rcases bo (decide ((n1.Ints.length:Int)<p8)) with hc15 | hc15
 refine o_7 ?_
 exact qj tI
 refine o_7 ?_
 exact qj tI
 rintro σ1
 refine o_1 ?_
 rcases bif_ hr with ⟨_,hr⟩|⟨_,hr⟩
 refine o_10 ?_
 obtain rfl:=so hr
 exact qT3 ((none,0,0),(none,0,0)) (fun w s=>(((s.nilo kT3 3).nilo kT161 161).e 11 [1,0,3,4,5]))
 refine o_4 ?_
 obtain ⟨r17,hx18,hr⟩:=bd hr
 refine o_5 ?_
 refine lM (RR kT3 A4 D4 n1.Ints::RR kT3 A7 D7 dims6::W1) (fun w s=>(((s.d 6 R).d 9 R).e 2 [1,0])) ?_
 refine l_callvn (fs:=[]) (cs:=[]) 2 R R cb131 R R (Z1q_ok hx18) R ?_
 rintro ⟨⟨A19,N19,D19⟩,⟨A20,N20,D20⟩⟩
 refine lN (ow kT3 3 (.slice A19 N19 D19) r17.1::ow kT161 161 (.slice A20 N20 D20) r17.2.1::W1) ?_
 refine l_len 0 sees_ow ?_
 rintro rfl
 refine l_len 1 sees_ow ?_
 rintro rfl
 refine o_9 ?_
 obtain rfl:=so hr
 exact qT3 ((A19,r17.1.length,D19),(A20,r17.2.1.length,D20)) (fun w s=>(s.f 11 [0,2,3,3]))
theorem Z1g_ok  {k1:shiftKind}{q2:Int}{q4:Int}{n8:Node}{args13:(List (List Int))}{b3:Nat}{b5:Nat}{b7:Nat}{r:(List Int)×Bool}(hr:Z1g k1 q2 q4 n8 args13=some r) :
 FnOk Tryz.prog 220 [(.agg [(vstr k1.use),(.func (.func 149) [].toArray [(pt b3 0),(pt b5 0),(pt b7 0)].toArray)].toArray),(.agg [(iv n8.Op),(.slice A9 N9 D9),(.slice A10 N10 D10),(.slice A11 N11 D11),(vstr n8.Form),(.slice A12 N12 D12)].toArray),(.slice A14 N14 D14)] [bxl b3 [(iv q2)] 3,bxl b5 [(iv q4)] 3,bxl b7 [(.func (.func 131) [].toArray [].toArray)] 150,rds kT3 (.slice A9 N9 D9) n8.Args,rds kT3 (.slice A10 N10 D10) n8.Dims,rds kT3 (.slice A11 N11 D11) n8.Ints,rds kT3 (.slice A12 N12 D12) n8.Data,rds kT23 (.slice A14 N14 D14) args13] (fun (h:HH)=>((.tuple [(s3 h),(.bool r.2)].toArray),[ow kT3 3 (s3 h) r.1,bxl b3 [(iv q2)] 3,bxl b5 [(iv q4)] 3,bxl b7 [(.func (.func 131) [].toArray [].toArray)] 150])):=by
 unfold Z1g at hr
 refine fn_ok Tryz.func220 R 27 R R fun C V=>?_
 refine cN (_::_::_::_::_::_::_::_::V) ?_
 refine cL 3 sees_rd ?_
 rintro rfl
 refine cL 4 sees_rd ?_
 rintro rfl
 refine cL 5 sees_rd ?_
 rintro rfl
 refine cL 6 sees_rd ?_
 rintro rfl
 refine cL 7 sees_rd ?_
 rintro rfl
 let W0:List HP:=RR kT3 A9 D9 n8.Args::RR kT3 A10 D10 n8.Dims::RR kT3 A11 D11 n8.Ints::RR kT3 A12 D12 n8.Data::RR kT23 A14 D14 args13::V
 refine cN (_::_::_::W0) ?_
 refine o_2 ?_
 refine lBx R fun b15=>?_
 refine lBx R fun b16=>?_
 refine o_3 ?_
 refine qM (bxl _ _ _::bxl _ _ _::bxl _ _ _::bxl _ _ _::bxl _ _ _::W0) (fun w s=>(s.f 5 [2,3,0,2])) ?_
 let W1:List HP:=bxl b16 [(iv n8.Op),(sc A9 n8.Args D9),(sc A10 n8.Dims D10),(sc A11 n8.Ints D11),(vstr n8.Form),(sc A12 n8.Data D12)] 54::bxl b15 [(vstr k1.use),(.func (.func 149) [].toArray [(pt b3 0),(pt b5 0),(pt b7 0)].toArray)] 145::W0
 refine qN (_::_::_::W1) ?_
 refine o_9 ?_
 rcases bif_ hr with ⟨_,hr⟩|⟨_,hr⟩
 refine o_9 ?_
 obtain rfl:=so hr
 exact qT2 (none,0,0) (fun w s=>((s.nilo kT3 3).f 11 [0,4]))
 refine o_4 ?_
 obtain ⟨hg18,hr⟩:=gd hr
 obtain ⟨r22,hx23,hr⟩:=bd hr
 refine c_some 9 sees_rd (show 0<args13.length by have:=hg18; omega) (fun g19 o20 ha=>?_)
 subst ha
 refine c_elem (K:=kT23) 9 (0:Int) dT23.dec R hg18.1 hg18.2 ?_
 rintro ⟨A21,D21⟩
 refine cN (cl g19 (o20+(0:Int).toNat*1) [(sc A21 (ix args13 (0:Int)) D21)]::RR kT3 A21 D21 (ix args13 (0:Int))::_::_::_::W1) ?_
 refine cdr 14 [] mixo fun ht hn=>?_
 refine d5_ 0 [] ?_
 refine dR 5 R (v_clf (fo:=0) 0 ag23 R R R) (d1 6 R (lM (RR kT3 A9 D9 n8.Args::RR kT3 A10 D10 n8.Dims::RR kT3 A11 D11 n8.Ints::RR kT3 A12 D12 n8.Data::rds _ _ _::bxl _ _ _::bxl _ _ _::bxl _ _ _::cl _ _ _::rds _ _ _::W1) (fun w s=>((((((s.d 7 R).d 9 R).d 11 R).d 13 R).d 5 R).e 10 [4,3,2,1,0,7,8,9,5,6])) ?_))
 refine l_callvn (fs:=[]) (cs:=[(pt b3 0),(pt b5 0),(pt b7 0)]) 8 R R cb149 R R (Z2e_ok hx23) R ?_
 rintro ⟨⟨A24,N24,D24⟩,⟨A25,N25,D25⟩⟩
 refine lN (ow kT3 3 (.slice A24 N24 D24) r22.1::ow kT161 161 (.slice A25 N25 D25) r22.2.1::_::_::_::_::_::W1) ?_
 refine l_len 0 sees_ow ?_
 rintro rfl
 refine l_len 1 sees_ow ?_
 rintro rfl
 refine l_nil (q_draw (fun w s=>(s.f 7 [5,2,2,3])) (dR 7 R (vT R) (hS:=(fun w s=>(s.f 7 [5,2,2,3]))) (dR 8 R (vS R) (hS:=(fun w s=>(s.f 7 [5,2,2,3]))) (dR 9 R (vS R) (hS:=(fun w s=>(s.f 7 [5,2,2,3]))) (dR 10 R (vB R) (hS:=(fun w s=>(s.f 7 [5,2,2,3]))) (dR 11 R (vS R) (hS:=(fun w s=>(s.f 7 [5,2,2,3]))) (dR 12 R (vS R) (hS:=(fun w s=>(s.f 7 [5,2,2,3]))) (dR 13 R (vB R) (hS:=(fun w s=>(s.f 7 [5,2,2,3]))) (dD ?_)))))))))
 refine o_10 ?_
 obtain rfl:=so hr
 exact qT2 (A24,r22.1.length,D24) (tE 14 [0,2,3,4])
end Go.Proofs.YtmpnollfdpdipaaGreat
