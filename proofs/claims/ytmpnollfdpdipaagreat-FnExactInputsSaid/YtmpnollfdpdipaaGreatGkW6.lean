import Derived.Test.YtmpnollfdpdipaaGreatGkF
import Derived.Test.YtmpnollfdpdipaaGreatGkW1
import Derived.Test.YtmpnollfdpdipaaGreatGkW5
set_option linter.unusedVariables false
set_option maxRecDepth 20000
namespace Go.Proofs.YtmpnollfdpdipaaGreat
open Go Go.Pg
variable {A2 A3 A4 A5 A6 A7 A8 A9 A10 A11:Option Addr}{D2 D3 D4 D5 D6 D7 D8 D9 D10 D11 N2 N3 N4 N5 N6 N7 N8 N9 N10 N11:Nat}
theorem Z07_ok  {p1:View}{p5:(List Int)}{p8:View}{b2:Nat}{b6:Nat}{b9:Nat}{r:Bool×View}(hr:Z07 p1 p5 p8=some r) :
 FnOk Tryz.prog 166 [(pt b2 0),(pt b6 0),(pt b9 0)] [rds kT3 (.slice A3 N3 D3) p1.Dims,rds kT3 (.slice A4 N4 D4) p1.Strides,bxl b2 [(.slice A3 N3 D3),(.slice A4 N4 D4),(iv p1.Offset),(iv p1.Base)] 96,rds kT3 (.slice A7 N7 D7) p5,bxl b6 [(.slice A7 N7 D7)] 23,rds kT3 (.slice A10 N10 D10) p8.Dims,rds kT3 (.slice A11 N11 D11) p8.Strides,bxl b9 [(.slice A10 N10 D10),(.slice A11 N11 D11),(iv p8.Offset),(iv p8.Base)] 96] (fun (h:HH×HH)=>((.bool r.1),[rds kT3 (s3 h.1) r.2.Dims,rds kT3 (s3 h.2) r.2.Strides,bxl b2 [(s3 h.1),(s3 h.2),(iv r.2.Offset),(iv r.2.Base)] 96,bxl b6 [(.slice A7 N7 D7)] 23,bxl b9 [(.slice A10 N10 D10),(.slice A11 N11 D11),(iv p8.Offset),(iv p8.Base)] 96])):=by
 unfold Z07 at hr
 refine fn_ok Tryz.func166 R 71 R R fun C V=>?_
 refine cM (bxl _ _ _::bxl _ _ _::bxl _ _ _::rds _ _ _::rds _ _ _::rds _ _ _::rds _ _ _::rds _ _ _::V) (tE 8 [2,4,7,0,1,3,5,6]) ?_
 refine cL 3 sees_rd ?_
 rintro rfl
 refine cL 4 sees_rd ?_
 rintro rfl
 refine cL 5 sees_rd ?_
 rintro rfl
 refine cL 6 sees_rd ?_
 rintro rfl
 refine cL 7 sees_rd ?_
 rintro rfl
 let W0:=RR kT3 A3 D3 p1.Dims::RR kT3 A4 D4 p1.Strides::RR kT3 A7 D7 p5::RR kT3 A10 D10 p8.Dims::RR kT3 A11 D11 p8.Strides::V
 refine o_4 ?_
 let W1:=bxl b6 [(sc A7 p5 D7)] 23::bxl b9 [(sc A10 p8.Dims D10),(sc A11 p8.Strides D11),(iv p8.Offset),(iv p8.Base)] 96::W0
 refine o_3 ?_
 obtain ⟨r12,hx13,hr⟩:=bd hr
 refine cQ [(0,(pt b2 0)),(1,(pt b6 0)),(2,(pt b9 0)),(17,(.bool ((!r12)||(decide ((p5.length:Int)<(p8.Dims.length:Int))))))] (bxl b2 [(sc A3 p1.Dims D3),(sc A4 p1.Strides D4),(iv p1.Offset),(iv p1.Base)] 96::W1) ?_ ?_
 refine o_2 ?_
 refine lM (RR kT3 A7 D7 p5::_::W1) (fun w s=>(s.d 5 R)) ?_
 refine lC 1 cb147 R (Zb_ok hx13) R ?_
 rintro _
 refine o_2 ?_
 rcases bo (!r12) with hc14 | hc14
 refine o_8 ?_
 exact qj tI
 refine o_8 ?_
 exact qj tI
 rintro σ1
 refine o_1 ?_
 split at hr
 refine o_8 ?_
 cases hr
 exact qF ((A3,p1.Dims.length,D3),(A4,p1.Strides.length,D4)) (fun w s=>(s.f 8 [3,2,0,3]))
 refine o_4 ?_
 obtain ⟨r16,hx17,hr⟩:=bd hr
 refine o_3 ?_
 refine lM (RR kT3 A7 D7 p5::_::W1) (fun w s=>(s.d 5 R)) ?_
 refine lC 1 cb64 R (Zm_ok hx17) R ?_
 rintro ⟨A18,N18,D18⟩
 refine l_len 0 sees_ow ?_
 rintro rfl
 refine o_2 ?_
 refine l_store 1 R R sz23 R R R R R (lN (_::bxl b2 [(sc A18 r16 D18),(sc A4 p1.Strides D4),(iv p1.Offset),(iv p1.Base)] 96::W1) ?_)
 refine o_3 ?_
 obtain ⟨hg19,hr⟩:=gd hr
 refine o_4 ?_
 refine l_make (K:=kT3) (m:=(p5.length:Int)) (z:=(0:Int)) R R sl23 sz3 by3 (Zr.zk zT3 zc3) (by decide) R R hg19.1 hg19.2.1 hg19.2.2 (fun A20 D20=>(lP R (lO (vFa 1 fo96_1 R) (l_store 2 R R sz23 R R R R R (lN (OO kT3 3 A20 D20 (List.replicate (p5.length:Int).toNat (0:Int))::_::bxl b2 [(sc A18 r16 D18),(sc A20 (List.replicate (p5.length:Int).toNat (0:Int)) D20),(iv p1.Offset),(iv p1.Base)] 96::W1) ?_)))))
 refine o_3 ?_
 refine c_cut (A:=((List Int))×(Unit)) (fun a=>Z07_J3 p1 r16 a.1=some r) (fun a=>[]) (fun a=>bxl b2 [(sc A18 r16 D18),(sc A20 (List.replicate (p5.length:Int).toNat (0:Int)) D20),(iv p1.Offset),(iv p1.Base)] 96::OO kT3 3 A18 D18 r16::ow kT3 3 (.slice A20 (List.replicate (p5.length:Int).toNat (0:Int)).length D20) a.1::W1) ?_ ?_
 refine o_9 ?_
 obtain ⟨e1,hl1,hk1⟩:=bd hr
 refine c_loop (A:=Unit) hl1 (fun s a=>[(0,(pt b2 0)),(1,(pt b6 0)),(2,(pt b9 0)),(31,(il p8.Dims)),(32,(iv s.2))]) (fun s a=>bxl b2 [(sc A18 r16 D18),(sc A20 (List.replicate (p5.length:Int).toNat (0:Int)) D20),(iv p1.Offset),(iv p1.Base)] 96::OO kT3 3 A18 D18 r16::ow kT3 3 (.slice A20 (List.replicate (p5.length:Int).toNat (0:Int)).length D20) s.1::W1) () (aS R) (tE 3 [2,1,0]) ?_
 rintro ⟨x39,x40⟩ _ σ1 out1 hr he1
 dsimp only [Z07_L1] at hr
 refine o_6 ?_
 split at hr
 refine o_4 ?_
 refine c_cut (A:=((List Int))×(Unit)) (fun a=>Z07_J2 x40 a.1=some out1) (fun a=>[(0,(pt b2 0)),(1,(pt b6 0)),(2,(pt b9 0)),(31,(il p8.Dims)),(32,(iv x40))]) (fun a=>bxl b2 [(sc A18 r16 D18),(sc A20 (List.replicate (p5.length:Int).toNat (0:Int)) D20),(iv p1.Offset),(iv p1.Base)] 96::OO kT3 3 A18 D18 r16::ow kT3 3 (.slice A20 (List.replicate (p5.length:Int).toNat (0:Int)).length D20) a.1::W1) ?_ ?_
 refine o_21 ?_
 obtain ⟨hg42,hr⟩:=gd hr
 obtain ⟨hg45,hr⟩:=gd hr
 refine c_some 8 sees_rd (show 0<p8.Dims.length by have:=hg42; omega) (fun g43 o44 ha=>?_)
 subst ha
 refine c_some 7 sees_rd (show 0<p5.length by have:=hg45; omega) (fun g46 o47 ha=>?_)
 subst ha
 refine cdr 10 [] mixo fun ht hn=>?_
 refine d10_ 0 [] ?_
 refine dD (q_next ?_)
 split at hr
 refine o_1 ?_
 obtain ⟨hg49,hr⟩:=gd hr
 obtain ⟨hg52,hr⟩:=gd hr
 refine c_some 9 sees_rd (show 0<p8.Strides.length by have:=hg49; omega) (fun g50 o51 ha=>?_)
 subst ha
 refine c_some 2 sees_ow (show 0<(List.replicate (p5.length:Int).toNat (0:Int)).length by have:=hg52; omega) (fun g53 o54 ha=>?_)
 subst ha
 refine cdr 12 [2] mixo fun ht hn=>?_
 refine d11_ 0 [2] ?_
 refine d1 11 R (lM (ow kT3 3 (.slice (ad g53 o54) (List.replicate (p5.length:Int).toNat (0:Int)).length D20) x39::bxl b2 [(sc A18 r16 D18),(sc (ad g53 o54) (List.replicate (p5.length:Int).toNat (0:Int)) D20),(iv p1.Offset),(iv p1.Base)] 96::ow _ _ _ _::W1) (tE 3 [2,0,1]) ?_)
 refine l_stx (K:=kT3) (x':=(ix p8.Strides x40)) 0 (w64 ((w64 ((p5.length:Int) - (p8.Dims.length:Int)))+x40)) R R sz3 R R hg52.1 hg52.2 ?_ ?_
 exact fun I h s=>(mO3).put I h () (ix p8.Strides x40) s
 refine l_nil (q_draw (sL [0]) (dD ?_))
 obtain ⟨l55,hl56,hr⟩:=bd hr
 replace hl56:=Option.some.inj hl56
 refine qM (ow kT3 3 (.slice (ad g53 o54) (List.replicate (p5.length:Int).toNat (0:Int)).length D20) l55::_::_::W1) (fun w s=>by rw [← hl56]; exact s) ?_
 refine o_1 ?_
 exact qI (l55,()) hr (tE 3 [1,2,0])
 refine o_11 ?_
 split at hr
 refine o_9 ?_
 cases hr
 obtain rfl:=he1 _ R
 have hr:=hk1
 refine o_3 ?_
 cases hr
 exact qF ((A18,r16.length,D18),(A20,(List.replicate (p5.length:Int).toNat (0:Int)).length,D20)) (fun w s=>(((s.shr 1 R).shr 2 R).e 10 [1,0,2,3,4]))
 refine o_3 ?_
 exact qI (x39,()) hr tI
 rintro ⟨x58,_⟩ σ1 hr
 dsimp only [Z07_J2] at hr
 refine o_4 ?_
 cases hr
 exact qA () tI
 refine o_3 ?_
 cases hr
 obtain rfl:=he1 _ R
 have hr:=hk1
 refine o_2 ?_
 exact q_join (x39,()) hr trivial tI
 rintro ⟨p61,_⟩ σ1 hr
 dsimp only [Z07_J3] at hr
 refine o_6 ?_
 cases hr
 exact qF ((A18,r16.length,D18),(A20,(List.replicate (p5.length:Int).toNat (0:Int)).length,D20)) (fun w s=>(((s.shr 1 R).shr 2 R).e 10 [1,0,2,3,4]))
theorem Z32_ok  {v1:View}{q5:(List Int)}{q8:View}{b6:Nat}{b9:Nat}{r:View}(hr:Z32 v1 q5 q8=some r) :
 FnOk Tryz.prog 165 [(.agg [(.slice A2 N2 D2),(.slice A3 N3 D3),(iv v1.Offset),(iv v1.Base)].toArray),(.func (.func 166) [].toArray [(pt b6 0),(pt b9 0)].toArray)] [rds kT3 (.slice A2 N2 D2) v1.Dims,rds kT3 (.slice A3 N3 D3) v1.Strides,rds kT3 (.slice A7 N7 D7) q5,bxl b6 [(.slice A7 N7 D7)] 23,rds kT3 (.slice A10 N10 D10) q8.Dims,rds kT3 (.slice A11 N11 D11) q8.Strides,bxl b9 [(.slice A10 N10 D10),(.slice A11 N11 D11),(iv q8.Offset),(iv q8.Base)] 96] (fun (h:HH×HH)=>((.agg [(s3 h.1),(s3 h.2),(iv r.Offset),(iv r.Base)].toArray),[rds kT3 (s3 h.1) r.Dims,rds kT3 (s3 h.2) r.Strides,bxl b6 [(.slice A7 N7 D7)] 23,bxl b9 [(.slice A10 N10 D10),(.slice A11 N11 D11),(iv q8.Offset),(iv q8.Base)] 96])):=by
 unfold Z32 at hr
 refine fn_ok Tryz.func165 R 31 R R fun C V=>?_
 refine cM _ (tE 7 [3,6,0,1,2,4,5]) ?_
 refine cL 2 sees_rd ?_
 rintro rfl
 refine cL 3 sees_rd ?_
 rintro rfl
 refine cL 4 sees_rd ?_
 rintro rfl
 refine cL 5 sees_rd ?_
 rintro rfl
 refine cL 6 sees_rd ?_
 rintro rfl
 let W0:=RR kT3 A2 D2 v1.Dims::RR kT3 A3 D3 v1.Strides::RR kT3 A7 D7 q5::RR kT3 A10 D10 q8.Dims::RR kT3 A11 D11 q8.Strides::V
 refine o_2 ?_
 refine lBx R fun b12=>?_
 refine l_alloc R R zc96 (fun b13=>(l_nil (qM _ (tE 4 [0,2,3,1]) ?_)))
 let W1:=bxl b12 [(sc A2 v1.Dims D2),(sc A3 v1.Strides D3),(iv v1.Offset),(iv v1.Base)] 96::W0
 refine o_3 ?_
 obtain ⟨r14,hx15,hr⟩:=bd hr
 refine o_2 ?_
 refine lM _ (fun w s=>(((s.d 4 R).d 6 R).e 5 [1,0,2,3,4])) ?_
 refine lC 2 cb156 R (Zf_ok hx15) R ?_
 rintro _
 refine o_3 ?_
 split at hr
 refine o_3 ?_
 refine lO (vz (.agg [(.slice none 0 0),(.slice none 0 0),(iv 0),(iv 0)].toArray) (v_build pl96 zc96 R R)) (l_stores 0 R R sz96 R R R R R R (l_nil (q_next (c_ret (q_ret ?_)))))
 cases hr
 exact qS ((none,0,0),(none,0,0)) (fun w s=>(((s.nilr kT3).nilr kT3).e 11 [1,0,3,4]))
 refine o_4 ?_
 obtain ⟨r17,hx18,hr⟩:=bd hr
 obtain ⟨r20,hx21,hr⟩:=bd hr
 refine c_cutq (A:=(Unit)×(Nat×HH×HH)) (fun _=>True) (fun a=>[(1,(.func (.func 166) [].toArray [(pt b6 0),(pt b9 0)].toArray)),(4,(pt b13 0)),(5,(pt a.2.1 0))]) (fun a=>bxl b6 [(sc A7 q5 D7)] 23::bxl b9 [(sc A10 q8.Dims D10),(sc A11 q8.Strides D11),(iv q8.Offset),(iv q8.Base)] 96::bxl b13 [(.slice none 0 0),(.slice none 0 0),(iv 0),(iv 0)] 96::bxl a.2.1 [(s3 a.2.2.1),(s3 a.2.2.2),(iv v1.Offset),(iv v1.Base)] 96::ow kT3 3 (s3 a.2.2.1) r17::ow kT3 3 (s3 a.2.2.2) r20::W1) ?_ ?_
 refine cdr 13 [] mixo fun ht hn=>?_
 refine d2_ 0 [] ?_
 refine d2_ 3 [] ?_
 refine d4_ 6 [] ?_
 refine d_all [2,11] (by kernel_rfl) R ⟨?_,?_,trivial⟩
 refine lM _ (fun w s=>(s.d 4 R)) ?_
 refine lC 1 cb64 R (Zm_ok hx18) R ?_
 rintro ⟨A19,N19,D19⟩
 refine l_len 0 sees_ow ?_
 rintro rfl
 refine l_nil (q_draw (sL [0]) (d_all [5,11] (by kernel_rfl) R ⟨?_,?_,trivial⟩))
 refine lM _ (fun w s=>(s.d 6 R)) ?_
 refine lC 1 cb64 R (Zm_ok hx21) R ?_
 rintro ⟨A22,N22,D22⟩
 refine l_len 0 sees_ow ?_
 rintro rfl
 refine l_nil (q_draw (sL [1,0]) (dR 10 R (vz (.agg [(sc A19 r17 D19),(sc A22 r20 D22),(iv v1.Offset),(iv v1.Base)].toArray) (v_build pl96 zc96 R R)) (hS:=(sL [1,0])) (d1 11 R (l_alloc R R zc96 (fun b23=>(l_nil (q_draw (sL [2,1,0]) (d1 12 R (l_stores 0 R R sz96 R R R R R R (lN (bxl b23 [(sc A19 r17 D19),(sc A22 r20 D22),(iv v1.Offset),(iv v1.Base)] 96::_::_::_::_::_::W1) ?_))))))))))
 refine l_nil (q_draw (sL [2,1,0]) (dD ?_))
 exact q_join ((),(b23,(A19,r17.length,D19),(A22,r20.length,D22))) trivial (aS R) (tE 6 [4,5,3,0,2,1])
 refine l_alloc R R zc96 (fun b23=>(l_nil (q_draw (sL [1,0]) (d1 5 R (lM _ (fun w s=>(s.d 7 R)) ?_)))))
 refine lC 1 cb64 R (Zm_ok hx21) R ?_
 rintro ⟨A22,N22,D22⟩
 refine l_len 0 sees_ow ?_
 rintro rfl
 refine l_nil (q_draw (sL [2,1,0]) (dR 10 R (vz (.agg [(sc A19 r17 D19),(sc A22 r20 D22),(iv v1.Offset),(iv v1.Base)].toArray) (v_build pl96 zc96 R R)) (hS:=(sL [2,1,0])) (d1 12 R (l_stores 1 R R sz96 R R R R R R (lN (_::bxl b23 [(sc A19 r17 D19),(sc A22 r20 D22),(iv v1.Offset),(iv v1.Base)] 96::_::_::_::_::W1) ?_)))))
 refine l_nil (q_draw (sL [2,1,0]) (dD ?_))
 exact q_join ((),(b23,(A19,r17.length,D19),(A22,r20.length,D22))) trivial (aS R) (tE 6 [4,5,3,1,2,0])
 refine l_alloc R R zc96 (fun b23=>(l_nil (q_draw (sL [0]) (d1 2 R (lM _ (fun w s=>(s.d 5 R)) ?_)))))
 refine lC 1 cb64 R (Zm_ok hx18) R ?_
 rintro ⟨A19,N19,D19⟩
 refine l_len 0 sees_ow ?_
 rintro rfl
 refine l_nil (q_draw (sL [1,0]) (d1 5 R (lM _ (fun w s=>(s.d 7 R)) ?_)))
 refine lC 1 cb64 R (Zm_ok hx21) R ?_
 rintro ⟨A22,N22,D22⟩
 refine l_len 0 sees_ow ?_
 rintro rfl
 refine l_nil (q_draw (sL [2,1,0]) (dR 10 R (vz (.agg [(sc A19 r17 D19),(sc A22 r20 D22),(iv v1.Offset),(iv v1.Base)].toArray) (v_build pl96 zc96 R R)) (hS:=(sL [2,1,0])) (d1 12 R (l_stores 2 R R sz96 R R R R R R (lN (_::_::bxl b23 [(sc A19 r17 D19),(sc A22 r20 D22),(iv v1.Offset),(iv v1.Base)] 96::_::_::_::W1) ?_)))))
 refine l_nil (q_draw (sL [2,1,0]) (dD ?_))
 exact q_join ((),(b23,(A19,r17.length,D19),(A22,r20.length,D22))) trivial (aS R) (tE 6 [4,5,3,2,1,0])
 rintro ⟨_,⟨b24,⟨A25,N25,D25⟩,⟨A26,N26,D26⟩⟩⟩ σ1 -
 refine q_len 4 sees_ow (fun (hn:N25=r17.length)=>?_)
 subst hn
 refine q_len 5 sees_ow (fun (hn:N26=r20.length)=>?_)
 subst hn
 refine o_3 ?_
 obtain ⟨r27,hx28,hr⟩:=bd hr
 obtain ⟨r31,hx32,hr⟩:=bd hr
 refine c_cutq (A:=(Unit)×(HH×HH)) (fun _=>True) (fun a=>[(4,(pt b13 0)),(5,(pt b24 0)),(28,(.bool ((!r27.1)||(!r31))))]) (fun a=>bxl b13 [(.slice none 0 0),(.slice none 0 0),(iv 0),(iv 0)] 96::bxl b24 [(s3 a.2.1),(s3 a.2.2),(iv r27.2.Offset),(iv r27.2.Base)] 96::rds kT3 (s3 a.2.1) r27.2.Dims::rds kT3 (s3 a.2.2) r27.2.Strides::bxl b6 [(sc A7 q5 D7)] 23::bxl b9 [(sc A10 q8.Dims D10),(sc A11 q8.Strides D11),(iv q8.Offset),(iv q8.Base)] 96::W1) ?_ ?_
 refine c_region (lO (vp _ R) (l_st (fun w s=>s.shr 4 R) (l_st (fun w s=>s.shr 5 R) (lM _ (fun w s=>((((((s.d 1 R).d 1 R).d 11 R).d 13 R).d 15 R).e 11 [4,3,10,2,7,1,0,8,5,6,9])) ?_))))
 refine l_callvn (fs:=[]) (cs:=[(pt b6 0),(pt b9 0)]) 8 R R cb166 R R (Z07_ok (p1:=(⟨r17,r20,v1.Offset,v1.Base⟩:View)) hx28) R ?_
 rintro ⟨⟨A29,N29,D29⟩,⟨A30,N30,D30⟩⟩
 refine l_len 0 sees_rd ?_
 rintro rfl
 refine l_len 1 sees_rd ?_
 rintro rfl
 refine o_2 ?_
 rcases bo (!r27.1) with hc33 | hc33
 refine o_3 ?_
 refine lO (pOT (!r31) R hc33) (l_nil ?_)
 exact q_join ((),((A29,r27.2.Dims.length,D29),(A30,r27.2.Strides.length,D30))) trivial (aS R) (tE 8 [7,2,0,1,3,4])
 refine lW (wnF hc33) (vz (.agg [(sc A29 r27.2.Dims D29),(sc A30 r27.2.Strides D30),(iv r27.2.Offset),(iv r27.2.Base)].toArray) (v_loadw 2 ag96 sz96 R R R R)) (lM _ (fun w s=>(((s.d 0 R).d 2 R).f 10 [1,1,0,1,2,8])) ?_)
 refine l_calln 2 R (wnF hc33) cb156 R (Zf_ok (gcall_t hx32 (not_ff hc33))) R ?_
 rintro _
 refine o_1 ?_
 refine lO (pOF R hc33 R) (l_nil ?_)
 exact q_join ((),((A29,r27.2.Dims.length,D29),(A30,r27.2.Strides.length,D30))) trivial (aS R) (tE 8 [7,2,0,1,3,4])
 rintro ⟨_,⟨⟨A34,N34,D34⟩,⟨A35,N35,D35⟩⟩⟩ σ1 -
 refine q_len 2 sees_rd (fun (hn:N34=r27.2.Dims.length)=>?_)
 subst hn
 refine q_len 3 sees_rd (fun (hn:N35=r27.2.Strides.length)=>?_)
 subst hn
 refine o_1 ?_
 rcases bif_ hr with ⟨hb36,hr⟩|⟨hb36,hr⟩
 refine o_3 ?_
 refine lO (vz (.agg [(.slice none 0 0),(.slice none 0 0),(iv 0),(iv 0)].toArray) (v_build pl96 zc96 R R)) (l_stores 0 R R sz96 R R R R R R (lN (_::bxl b24 [(sc A34 r27.2.Dims D34),(sc A35 r27.2.Strides D35),(iv r27.2.Offset),(iv r27.2.Base)] 96::RR kT3 A34 D34 r27.2.Dims::RR kT3 A35 D35 r27.2.Strides::_::_::W1) ?_))
 refine o_4 ?_
 cases hr
 exact qS ((none,0,0),(none,0,0)) (fun w s=>(((s.nilr kT3).nilr kT3).e 14 [1,0,6,7]))
 refine c_false R hb36 ?_
 refine o_5 ?_
 refine l_stores 0 R R sz96 R R R R R R (lN (bxl b13 [(sc A34 r27.2.Dims D34),(sc A35 r27.2.Strides D35),(iv r27.2.Offset),(iv r27.2.Base)] 96::_::_::_::_::_::W1) ?_)
 refine o_3 ?_
 cases hr
 exact qS ((A34,r27.2.Dims.length,D34),(A35,r27.2.Strides.length,D35)) (fun w s=>(s.f 12 [2,4]))
theorem Z2b_ok  {v1:View}{dims4:(List Int)}{r:View}(hr:Z2b v1 dims4=some r) :
 FnOk Tryz.prog 159 [(.agg [(.slice A2 N2 D2),(.slice A3 N3 D3),(iv v1.Offset),(iv v1.Base)].toArray),(.slice A5 N5 D5)] [rds kT3 (.slice A2 N2 D2) v1.Dims,rds kT3 (.slice A3 N3 D3) v1.Strides,rds kT3 (.slice A5 N5 D5) dims4] (fun (h:HH×HH)=>((.agg [(.slice h.1.1 h.1.2.1 h.1.2.2),(.slice h.2.1 h.2.2.1 h.2.2.2),(iv r.Offset),(iv r.Base)].toArray),[rds kT3 (.slice h.1.1 h.1.2.1 h.1.2.2) r.Dims,rds kT3 (.slice h.2.1 h.2.2.1 h.2.2.2) r.Strides])):=by
 unfold Z2b at hr
 refine fn_ok Tryz.func159 R 8 R R fun C V=>?_
 refine cN (_::_::_::V) ?_
 refine cL 0 sees_rd ?_
 rintro rfl
 refine cL 1 sees_rd ?_
 rintro rfl
 refine cL 2 sees_rd ?_
 rintro rfl
 let W0:List HP:=RR kT3 A2 D2 v1.Dims::RR kT3 A3 D3 v1.Strides::RR kT3 A5 D5 dims4::V
 refine cN W0 ?_
 refine c_seq (c_region (lBx R (fun b6=>(l_box (cs:=[(sc A5 dims4 D5)]) R R R (fun b7=>(l_alloc R R zc96 (fun b8=>(l_nil (q_next (c_seq ?_))))))))))
 obtain ⟨r9,hx10,hr⟩:=bd hr
 refine c_region (lO (vz (.agg [(sc A2 v1.Dims D2),(sc A3 v1.Strides D3),(iv v1.Offset),(iv v1.Base)].toArray) (v_loadw 2 ag96 sz96 R R R R)) (lO (vp (.func (.func 166) [].toArray [(pt b7 0),(pt b6 0)].toArray) R) (lM (RR kT3 A2 D2 v1.Dims::RR kT3 A3 D3 v1.Strides::RR kT3 A5 D5 dims4::bxl _ _ _::RR kT3 A2 D2 v1.Dims::RR kT3 A3 D3 v1.Strides::bxl _ _ _::bxl _ _ _::W0) (fun w s=>((((((s.d 3 R).d 5 R).d 7 R).d 6 R).d 8 R).e 8 [4,3,2,6,1,0,7,5])) ?_)))
 refine lC 7 cb165 R (Z32_ok hx10) R ?_
 rintro ⟨⟨A11,N11,D11⟩,⟨A12,N12,D12⟩⟩
 refine lN (rds kT3 (.slice A11 N11 D11) r9.Dims::rds kT3 (.slice A12 N12 D12) r9.Strides::_::_::_::W0) ?_
 refine l_len 0 sees_rd ?_
 rintro rfl
 refine l_len 1 sees_rd ?_
 rintro rfl
 refine l_stores 4 R R sz96 R R R R R R (lN (_::_::_::_::bxl b8 [(sc A11 r9.Dims D11),(sc A12 r9.Strides D12),(iv r9.Offset),(iv r9.Base)] 96::W0) ?_)
 refine l_nil (q_next (c_ret ?_))
 obtain rfl:=so hr
 exact q_fin (vs:=[(.agg [(sc A11 r9.Dims D11),(sc A12 r9.Strides D12),(iv r9.Offset),(iv r9.Base)].toArray)]) (.inl R) ((A11,r9.Dims.length,D11),(A12,r9.Strides.length,D12)) R ⟨⟨4,b8,_,_,R,R,.inl ⟨ag96,sz96,R⟩⟩,trivial⟩ R (fun w s=>(s.e 8 [0,1]))
theorem Z0w_ok  {v1:View}{axis5:Int}{length6:Int}{stride7:Int}{b2:Nat}{r:View}(hr:Z0w v1 axis5 length6 stride7=some r) :
 FnOk Tryz.prog 168 [(pt b2 0),(iv axis5),(iv length6),(iv stride7)] [ow kT3 3 (.slice A3 N3 D3) v1.Dims,ow kT3 3 (.slice A4 N4 D4) v1.Strides,bxl b2 [(.slice A3 N3 D3),(.slice A4 N4 D4),(iv v1.Offset),(iv v1.Base)] 96] (fun (h:HH×HH)=>((.tuple [].toArray),[ow kT3 3 (s3 h.1) r.Dims,ow kT3 3 (s3 h.2) r.Strides,bxl b2 [(s3 h.1),(s3 h.2),(iv r.Offset),(iv r.Base)] 96])):=by
 unfold Z0w at hr
 refine fn_ok Tryz.func168 R 24 R R fun C V=>?_
 refine cL 0 sees_ow ?_
 rintro rfl
 refine cL 1 sees_ow ?_
 rintro rfl
 refine c_seq (c_cut (A:=(Int)×(Unit)) (fun a=>Z0w_J3 v1 axis5 length6 a.1=some r) (fun a=>[(0,(pt b2 0)),(1,(iv axis5)),(2,(iv length6)),(3,(iv a.1))]) (fun a=>bxl b2 [(sc A3 v1.Dims D3),(sc A4 v1.Strides D4),(iv v1.Offset),(iv v1.Base)] 96::OO kT3 3 A3 D3 v1.Dims::OO kT3 3 A4 D4 v1.Strides::V) ?_ ?_)
 refine o_5 ?_
 let W1:=bxl b2 [(sc A3 v1.Dims D3),(sc A4 v1.Strides D4),(iv v1.Offset),(iv v1.Base)] 96::V
 refine o_1 ?_
 split at hr
 refine o_4 ?_
 exact qI ((0:Int),()) hr (tE 3 [2,0,1])
 refine o_2 ?_
 exact qI (stride7,()) hr (tE 3 [2,0,1])
 rintro ⟨stride9,_⟩ σ1 hr
 dsimp only [Z0w_J3] at hr
 obtain ⟨hg10,hr⟩:=gd hr
 obtain ⟨hg13,hr⟩:=gd hr
 refine c_some 1 sees_ow (show 0<v1.Dims.length by have:=hg10; omega) (fun g11 o12 ha=>?_)
 subst ha
 refine c_some 2 sees_ow (show 0<v1.Strides.length by have:=hg13; omega) (fun g14 o15 ha=>?_)
 subst ha
 refine cdr 16 [2,1] mixo fun ht hn=>?_
 refine d13_ 0 [2,1] ?_
 refine d1 13 R (lM _ (tE 3 [1,0,2]) ?_)
 refine l_stx (K:=kT3) (x':=length6) 0 axis5 R R sz3 R R hg10.1 hg10.2 ?_ ?_
 exact fun I h s=>(mO3).put I h () length6 s
 refine l_nil (q_draw (sL [2,0]) ?_)
 refine d1_ 14 [2,0] ?_
 refine d1 15 R (lM _ (tE 3 [2,0,1]) ?_)
 refine l_stx (K:=kT3) (x':=stride9) 0 axis5 R R sz3 R R hg13.1 hg13.2 ?_ ?_
 exact fun I h s=>(mO3).put I h () stride9 s
 refine l_nil (q_draw (sL [1,0]) (dD ?_))
 cases hr
 exact qT0 (((ad g11 o12),v1.Dims.length,D3),((ad g14 o15),v1.Strides.length,D4)) (tE 3 [1,0,2])
theorem Z1f_ok  {p1:View}{p5:Int}{p7:Int}{p9:Int}{p11:Int}{b2:Nat}{b6:Nat}{b8:Nat}{b10:Nat}{b12:Nat}{r:Bool×View×Int}(hr:Z1f p1 p5 p7 p9 p11=some r) :
 FnOk Tryz.prog 167 [(pt b2 0),(pt b6 0),(pt b8 0),(pt b10 0),(pt b12 0)] [ow kT3 3 (.slice A3 N3 D3) p1.Dims,ow kT3 3 (.slice A4 N4 D4) p1.Strides,bxl b2 [(.slice A3 N3 D3),(.slice A4 N4 D4),(iv p1.Offset),(iv p1.Base)] 96,bxl b6 [(iv p5)] 3,bxl b8 [(iv p7)] 3,bxl b10 [(iv p9)] 3,bxl b12 [(iv p11)] 3] (fun (h:HH×HH)=>((.bool r.1),[ow kT3 3 (s3 h.1) r.2.1.Dims,ow kT3 3 (s3 h.2) r.2.1.Strides,bxl b2 [(s3 h.1),(s3 h.2),(iv r.2.1.Offset),(iv r.2.1.Base)] 96,bxl b6 [(iv p5)] 3,bxl b8 [(iv p7)] 3,bxl b10 [(iv p9)] 3,bxl b12 [(iv r.2.2)] 3])):=by
 unfold Z1f at hr
 refine fn_ok Tryz.func167 R 86 R R fun C V=>?_
 refine cL 0 sees_ow ?_
 rintro rfl
 refine cL 1 sees_ow ?_
 rintro rfl
 refine o_4 ?_
 refine qM _ (fun w s=>(s.f 7 [0,3,6,1,3,3])) ?_
 let W1:=bxl b6 [(iv p5)] 3::bxl b8 [(iv p7)] 3::bxl b10 [(iv p9)] 3::V
 refine o_3 ?_
 obtain ⟨r13,hx14,hr⟩:=bd hr
 refine cQ [(0,(pt b2 0)),(1,(pt b6 0)),(2,(pt b8 0)),(3,(pt b10 0)),(4,(pt b12 0)),(24,(.bool (((!r13)||(decide (p7<1)))||(decide (p7>4096)))))] (bxl b2 [(sc A3 p1.Dims D3),(sc A4 p1.Strides D4),(iv p1.Offset),(iv p1.Base)] 96::OO kT3 3 A3 D3 p1.Dims::OO kT3 3 A4 D4 p1.Strides::bxl b12 [(iv p11)] 3::W1) ?_ ?_
 rcases bo (!r13) with hc15 | hc15
 refine cdr 15 [] mixo fun ht hn=>?_
 refine d5_ 0 [] ?_
 refine d1 5 R (lC 1 cb150 R (FnOk.lends (A':=[OO kT3 3 A3 D3 p1.Dims]) (A:=[RR kT3 A3 D3 p1.Dims]) (B:=[]) (Zj_ok hx14) ⟨lend_ow,trivial⟩ (fun _=>trivial)) R ?_)
 rintro _
 refine l_nil (q_draw (sL []) ?_)
 refine d9_ 6 [] ?_
 refine dD ?_
 exact qj (tE 4 [2,0,1,3])
 rcases bo ((!r13)||(decide (p7<1))) with hc16 | hc16
 refine cdr 15 [] mixo fun ht hn=>?_
 refine d5_ 0 [] ?_
 refine d1 5 R (lC 1 cb150 R (FnOk.lends (A':=[OO kT3 3 A3 D3 p1.Dims]) (A:=[RR kT3 A3 D3 p1.Dims]) (B:=[]) (Zj_ok hx14) ⟨lend_ow,trivial⟩ (fun _=>trivial)) R ?_)
 rintro _
 refine l_nil (q_draw (sL []) ?_)
 refine d9_ 6 [] ?_
 refine dD ?_
 exact qj (tE 4 [2,0,1,3])
 refine cdr 15 [] mixo fun ht hn=>?_
 refine d5_ 0 [] ?_
 refine d1 5 R (lC 1 cb150 R (FnOk.lends (A':=[OO kT3 3 A3 D3 p1.Dims]) (A:=[RR kT3 A3 D3 p1.Dims]) (B:=[]) (Zj_ok hx14) ⟨lend_ow,trivial⟩ (fun _=>trivial)) R ?_)
 rintro _
 refine l_nil (q_draw (sL []) ?_)
 refine d9_ 6 [] ?_
 refine dD ?_
 exact qj (tE 4 [2,0,1,3])
 rintro σ1
 refine o_1 ?_
 split at hr
 refine o_8 ?_
 cases hr
 exact qF ((A3,p1.Dims.length,D3),(A4,p1.Strides.length,D4)) (tE 7 [1,2,0,4,5,6,3])
 refine o_4 ?_
 obtain ⟨hg18,hr⟩:=gd hr
 refine c_some 1 sees_ow (show 0<p1.Dims.length by have:=hg18; omega) (fun g19 o20 ha=>?_)
 subst ha
 refine cdr 8 [] mixo fun ht hn=>?_
 refine d8_ 0 [] ?_
 refine dD ?_
 refine o_3 ?_
 refine cQ [(0,(pt b2 0)),(1,(pt b6 0)),(2,(pt b8 0)),(3,(pt b10 0)),(4,(pt b12 0)),(7,(iv (ix p1.Dims p5))),(46,(.bool ((((decide (p9<0))||(decide (p9≥(ix p1.Dims p5))))||(decide (p11<(-4096:Int))))||(decide (p11>4096)))))] (bxl b2 [(sc (ad g19 o20) p1.Dims D3),(sc A4 p1.Strides D4),(iv p1.Offset),(iv p1.Base)] 96::OO kT3 3 (ad g19 o20) D3 p1.Dims::OO kT3 3 A4 D4 p1.Strides::bxl b12 [(iv p11)] 3::W1) ?_ ?_
 refine o_4 ?_
 rcases bo (decide (p9<0)) with hc21 | hc21
 refine o_13 ?_
 exact qj tI
 refine o_5 ?_
 rcases bo ((decide (p9<0))||(decide (p9≥(ix p1.Dims p5)))) with hc22 | hc22
 refine o_8 ?_
 exact qj tI
 refine o_4 ?_
 rcases bo (((decide (p9<0))||(decide (p9≥(ix p1.Dims p5))))||(decide (p11<(-4096:Int)))) with hc23 | hc23
 refine o_4 ?_
 exact qj tI
 refine o_4 ?_
 exact qj tI
 rintro σ1
 refine o_1 ?_
 split at hr
 refine o_8 ?_
 cases hr
 exact qF (((ad g19 o20),p1.Dims.length,D3),(A4,p1.Strides.length,D4)) (tE 7 [1,2,0,4,5,6,3])
 refine o_4 ?_
 refine c_cut (A:=(Int)×(Unit)) (fun a=>Z1f_J3 p1 p5 p7 p9 a.1=some r) (fun a=>[(0,(pt b2 0)),(1,(pt b6 0)),(2,(pt b8 0)),(3,(pt b10 0)),(4,(pt b12 0))]) (fun a=>bxl b2 [(sc (ad g19 o20) p1.Dims D3),(sc A4 p1.Strides D4),(iv p1.Offset),(iv p1.Base)] 96::OO kT3 3 (ad g19 o20) D3 p1.Dims::OO kT3 3 A4 D4 p1.Strides::bxl b12 [(iv a.1)] 3::W1) ?_ ?_
 refine o_6 ?_
 split at hr
 refine o_13 ?_
 refine cQ [(0,(pt b2 0)),(1,(pt b6 0)),(2,(pt b8 0)),(3,(pt b10 0)),(4,(pt b12 0)),(61,(.bool ((decide ((w64 (p9+(w64 (p11*(w64 (p7 - 1))))))<0))||(decide ((w64 (p9+(w64 (p11*(w64 (p7 - 1))))))≥(ix p1.Dims p5))))))] (bxl b2 [(sc (ad g19 o20) p1.Dims D3),(sc A4 p1.Strides D4),(iv p1.Offset),(iv p1.Base)] 96::OO kT3 3 (ad g19 o20) D3 p1.Dims::OO kT3 3 A4 D4 p1.Strides::bxl b12 [(iv p11)] 3::W1) ?_ ?_
 refine o_4 ?_
 rcases bo (decide ((w64 (p9+(w64 (p11*(w64 (p7 - 1))))))<0)) with hc26 | hc26
 refine o_5 ?_
 exact qj tI
 refine o_5 ?_
 exact qj tI
 rintro σ1
 refine o_1 ?_
 split at hr
 refine o_8 ?_
 cases hr
 exact qF (((ad g19 o20),p1.Dims.length,D3),(A4,p1.Strides.length,D4)) (tE 7 [1,2,0,4,5,6,3])
 refine o_2 ?_
 exact qI (p11,()) hr tI
 refine o_2 ?_
 refine l_store 3 R R sz3 R R R R R (lN (bxl b2 [(sc (ad g19 o20) p1.Dims D3),(sc A4 p1.Strides D4),(iv p1.Offset),(iv p1.Base)] 96::OO kT3 3 (ad g19 o20) D3 p1.Dims::_::bxl b12 [(iv 0)] 3::W1) ?_)
 refine o_1 ?_
 exact qI ((0:Int),()) hr tI
 rintro ⟨x28,_⟩ σ1 hr
 dsimp only [Z1f_J3] at hr
 refine o_1 ?_
 obtain ⟨hg29,hr⟩:=gd hr
 refine c_some 2 sees_ow (show 0<p1.Strides.length by have:=hg29; omega) (fun g30 o31 ha=>?_)
 subst ha
 refine cdr 8 [] mixo fun ht hn=>?_
 refine d8_ 0 [] ?_
 refine dD (q_next (c_seq (cdr 11 [0] mixo fun ht hn=>?_)))
 refine d3_ 0 [0] ?_
 refine d3_ 4 [0] ?_
 refine d1 3 R (lO (vLd 0 ag3 R R R) (l_nil (q_draw (sL [0]) ?_)))
 refine d3_ 7 [0] ?_
 refine d1 10 R (l_store 0 R R sz3 R R R R R (lN (bxl b2 [(sc (ad g19 o20) p1.Dims D3),(sc (ad g30 o31) p1.Strides D4),(iv (w64 (p1.Offset+(w64 (p9*(ix p1.Strides p5)))))),(iv p1.Base)] 96::_::OO kT3 3 (ad g30 o31) D4 p1.Strides::bxl b12 [(iv x28)] 3::W1) ?_))
 refine l_nil (q_draw (sL [0]) (dD ?_))
 refine o_2 ?_
 obtain ⟨r32,hx33,hr⟩:=bd hr
 refine o_7 ?_
 refine lM _ (tE 4 [1,2,0,3]) ?_
 refine lC 3 cb168 R (Z0w_ok (v1:=(⟨p1.Dims,p1.Strides,(w64 (p1.Offset+(w64 (p9*(ix p1.Strides p5))))),p1.Base⟩:View)) hx33) R ?_
 rintro ⟨⟨A34,N34,D34⟩,⟨A35,N35,D35⟩⟩
 refine l_len 0 sees_ow ?_
 rintro rfl
 refine l_len 1 sees_ow ?_
 rintro rfl
 refine o_8 ?_
 cases hr
 exact qF ((A34,r32.Dims.length,D34),(A35,r32.Strides.length,D35)) (fun w s=>(s.f 7 [0,3,4,3,3,1]))
theorem Z31_ok  {v1:View}{q5:Int}{q7:Int}{q9:Int}{q11:Int}{b6:Nat}{b8:Nat}{b10:Nat}{b12:Nat}{r:View×Int}(hr:Z31 v1 q5 q7 q9 q11=some r) :
 FnOk Tryz.prog 165 [(.agg [(.slice A2 N2 D2),(.slice A3 N3 D3),(iv v1.Offset),(iv v1.Base)].toArray),(.func (.func 167) [].toArray [(pt b6 0),(pt b8 0),(pt b10 0),(pt b12 0)].toArray)] [rds kT3 (.slice A2 N2 D2) v1.Dims,rds kT3 (.slice A3 N3 D3) v1.Strides,bxl b6 [(iv q5)] 3,bxl b8 [(iv q7)] 3,bxl b10 [(iv q9)] 3,bxl b12 [(iv q11)] 3] (fun (h:HH×HH)=>((.agg [(s3 h.1),(s3 h.2),(iv r.1.Offset),(iv r.1.Base)].toArray),[ow kT3 3 (s3 h.1) r.1.Dims,ow kT3 3 (s3 h.2) r.1.Strides,bxl b6 [(iv q5)] 3,bxl b8 [(iv q7)] 3,bxl b10 [(iv q9)] 3,bxl b12 [(iv r.2)] 3])):=by
 unfold Z31 at hr
 refine fn_ok Tryz.func165 R 31 R R fun C V=>?_
 refine cM _ (fun w s=>(s.f 6 [2,4,0,2])) ?_
 refine cL 4 sees_rd ?_
 rintro rfl
 refine cL 5 sees_rd ?_
 rintro rfl
 let W0:=RR kT3 A2 D2 v1.Dims::RR kT3 A3 D3 v1.Strides::V
 refine o_2 ?_
 refine lBx R fun b13=>?_
 refine l_alloc R R zc96 (fun b14=>(l_nil (qM _ (tE 6 [0,2,3,4,5,1]) ?_)))
 let W1:=bxl b13 [(sc A2 v1.Dims D2),(sc A3 v1.Strides D3),(iv v1.Offset),(iv v1.Base)] 96::W0
 refine o_3 ?_
 obtain ⟨r15,hx16,hr⟩:=bd hr
 refine o_2 ?_
 refine lM _ (fun w s=>(((s.d 6 R).d 8 R).f 7 [1,1,0,1,2,5])) ?_
 refine lC 2 cb156 R (Zf_ok hx16) R ?_
 rintro _
 refine o_3 ?_
 split at hr
 refine o_3 ?_
 refine lO (vz (.agg [(.slice none 0 0),(.slice none 0 0),(iv 0),(iv 0)].toArray) (v_build pl96 zc96 R R)) (l_stores 0 R R sz96 R R R R R R (l_nil (q_next (c_ret (q_ret ?_)))))
 cases hr
 exact qS ((none,0,0),(none,0,0)) (fun w s=>(((s.nilo kT3 3).nilo kT3 3).e 10 [1,0,3,4,5,6]))
 refine o_4 ?_
 obtain ⟨r18,hx19,hr⟩:=bd hr
 obtain ⟨r21,hx22,hr⟩:=bd hr
 refine c_cutq (A:=(Unit)×(Nat×HH×HH)) (fun _=>True) (fun a=>[(1,(.func (.func 167) [].toArray [(pt b6 0),(pt b8 0),(pt b10 0),(pt b12 0)].toArray)),(4,(pt b14 0)),(5,(pt a.2.1 0))]) (fun a=>bxl b6 [(iv q5)] 3::bxl b8 [(iv q7)] 3::bxl b10 [(iv q9)] 3::bxl b12 [(iv q11)] 3::bxl b14 [(.slice none 0 0),(.slice none 0 0),(iv 0),(iv 0)] 96::bxl a.2.1 [(s3 a.2.2.1),(s3 a.2.2.2),(iv v1.Offset),(iv v1.Base)] 96::ow kT3 3 (s3 a.2.2.1) r18::ow kT3 3 (s3 a.2.2.2) r21::W1) ?_ ?_
 refine cdr 13 [] mixo fun ht hn=>?_
 refine d2_ 0 [] ?_
 refine d2_ 3 [] ?_
 refine d4_ 6 [] ?_
 refine d_all [2,11] (by kernel_rfl) R ⟨?_,?_,trivial⟩
 refine lM _ (fun w s=>(s.d 6 R)) ?_
 refine lC 1 cb64 R (Zm_ok hx19) R ?_
 rintro ⟨A20,N20,D20⟩
 refine l_len 0 sees_ow ?_
 rintro rfl
 refine l_nil (q_draw (sL [0]) (d_all [5,11] (by kernel_rfl) R ⟨?_,?_,trivial⟩))
 refine lM _ (fun w s=>(s.d 8 R)) ?_
 refine lC 1 cb64 R (Zm_ok hx22) R ?_
 rintro ⟨A23,N23,D23⟩
 refine l_len 0 sees_ow ?_
 rintro rfl
 refine l_nil (q_draw (sL [1,0]) (dR 10 R (vz (.agg [(sc A20 r18 D20),(sc A23 r21 D23),(iv v1.Offset),(iv v1.Base)].toArray) (v_build pl96 zc96 R R)) (hS:=(sL [1,0])) (d1 11 R (l_alloc R R zc96 (fun b24=>(l_nil (q_draw (sL [2,1,0]) (d1 12 R (l_stores 0 R R sz96 R R R R R R (lN (bxl b24 [(sc A20 r18 D20),(sc A23 r21 D23),(iv v1.Offset),(iv v1.Base)] 96::_::_::_::_::_::_::_::W1) ?_))))))))))
 refine l_nil (q_draw (sL [2,1,0]) (dD ?_))
 exact q_join ((),(b24,(A20,r18.length,D20),(A23,r21.length,D23))) trivial (aS R) (tE 8 [4,5,6,7,3,0,2,1])
 refine l_alloc R R zc96 (fun b24=>(l_nil (q_draw (sL [1,0]) (d1 5 R (lM _ (fun w s=>(s.d 9 R)) ?_)))))
 refine lC 1 cb64 R (Zm_ok hx22) R ?_
 rintro ⟨A23,N23,D23⟩
 refine l_len 0 sees_ow ?_
 rintro rfl
 refine l_nil (q_draw (sL [2,1,0]) (dR 10 R (vz (.agg [(sc A20 r18 D20),(sc A23 r21 D23),(iv v1.Offset),(iv v1.Base)].toArray) (v_build pl96 zc96 R R)) (hS:=(sL [2,1,0])) (d1 12 R (l_stores 1 R R sz96 R R R R R R (lN (_::bxl b24 [(sc A20 r18 D20),(sc A23 r21 D23),(iv v1.Offset),(iv v1.Base)] 96::_::_::_::_::_::_::W1) ?_)))))
 refine l_nil (q_draw (sL [2,1,0]) (dD ?_))
 exact q_join ((),(b24,(A20,r18.length,D20),(A23,r21.length,D23))) trivial (aS R) (tE 8 [4,5,6,7,3,1,2,0])
 refine l_alloc R R zc96 (fun b24=>(l_nil (q_draw (sL [0]) (d1 2 R (lM _ (fun w s=>(s.d 7 R)) ?_)))))
 refine lC 1 cb64 R (Zm_ok hx19) R ?_
 rintro ⟨A20,N20,D20⟩
 refine l_len 0 sees_ow ?_
 rintro rfl
 refine l_nil (q_draw (sL [1,0]) (d1 5 R (lM _ (fun w s=>(s.d 9 R)) ?_)))
 refine lC 1 cb64 R (Zm_ok hx22) R ?_
 rintro ⟨A23,N23,D23⟩
 refine l_len 0 sees_ow ?_
 rintro rfl
 refine l_nil (q_draw (sL [2,1,0]) (dR 10 R (vz (.agg [(sc A20 r18 D20),(sc A23 r21 D23),(iv v1.Offset),(iv v1.Base)].toArray) (v_build pl96 zc96 R R)) (hS:=(sL [2,1,0])) (d1 12 R (l_stores 2 R R sz96 R R R R R R (lN (_::_::bxl b24 [(sc A20 r18 D20),(sc A23 r21 D23),(iv v1.Offset),(iv v1.Base)] 96::_::_::_::_::_::W1) ?_)))))
 refine l_nil (q_draw (sL [2,1,0]) (dD ?_))
 exact q_join ((),(b24,(A20,r18.length,D20),(A23,r21.length,D23))) trivial (aS R) (tE 8 [4,5,6,7,3,2,1,0])
 rintro ⟨_,⟨b25,⟨A26,N26,D26⟩,⟨A27,N27,D27⟩⟩⟩ σ1 -
 refine q_len 6 sees_ow (fun (hn:N26=r18.length)=>?_)
 subst hn
 refine q_len 7 sees_ow (fun (hn:N27=r21.length)=>?_)
 subst hn
 refine o_3 ?_
 obtain ⟨r28,hx29,hr⟩:=bd hr
 obtain ⟨r32,hx33,hr⟩:=bd hr
 refine c_cutq (A:=(Unit)×(HH×HH)) (fun _=>True) (fun a=>[(4,(pt b14 0)),(5,(pt b25 0)),(28,(.bool ((!r28.1)||(!r32))))]) (fun a=>bxl b14 [(.slice none 0 0),(.slice none 0 0),(iv 0),(iv 0)] 96::bxl b25 [(s3 a.2.1),(s3 a.2.2),(iv r28.2.1.Offset),(iv r28.2.1.Base)] 96::ow kT3 3 (s3 a.2.1) r28.2.1.Dims::ow kT3 3 (s3 a.2.2) r28.2.1.Strides::bxl b6 [(iv q5)] 3::bxl b8 [(iv q7)] 3::bxl b10 [(iv q9)] 3::bxl b12 [(iv r28.2.2)] 3::W1) ?_ ?_
 refine c_region (lO (vp _ R) (lM _ (fun w s=>(s.f 8 [6,2,5,1,0,5])) ?_))
 refine l_callvn (fs:=[]) (cs:=[(pt b6 0),(pt b8 0),(pt b10 0),(pt b12 0)]) 7 R R cb167 R R (Z1f_ok (p1:=(⟨r18,r21,v1.Offset,v1.Base⟩:View)) hx29) R ?_
 rintro ⟨⟨A30,N30,D30⟩,⟨A31,N31,D31⟩⟩
 refine l_len 0 sees_ow ?_
 rintro rfl
 refine l_len 1 sees_ow ?_
 rintro rfl
 refine o_2 ?_
 rcases bo (!r28.1) with hc34 | hc34
 refine o_3 ?_
 refine lO (pOT (!r32) R hc34) (l_nil ?_)
 exact q_join ((),((A30,r28.2.1.Dims.length,D30),(A31,r28.2.1.Strides.length,D31))) trivial (aS R) (tE 8 [7,2,0,1,3,4,5,6])
 refine lW (wnF hc34) (vz (.agg [(sc A30 r28.2.1.Dims D30),(sc A31 r28.2.1.Strides D31),(iv r28.2.1.Offset),(iv r28.2.1.Base)].toArray) (v_loadw 2 ag96 sz96 R R R R)) (l_calln 2 R (wnF hc34) cb156 R (FnOk.lends (A':=[OO kT3 3 A30 D30 r28.2.1.Dims,OO kT3 3 A31 D31 r28.2.1.Strides]) (A:=[RR kT3 A30 D30 r28.2.1.Dims,RR kT3 A31 D31 r28.2.1.Strides]) (B:=[]) (Zf_ok (gcall_t hx33 (not_ff hc34))) ⟨lend_ow,lend_ow,trivial⟩ (fun _=>trivial)) R ?_)
 rintro _
 refine o_1 ?_
 refine lO (pOF R hc34 R) (l_nil ?_)
 exact q_join ((),((A30,r28.2.1.Dims.length,D30),(A31,r28.2.1.Strides.length,D31))) trivial (aS R) (tE 8 [7,2,0,1,3,4,5,6])
 rintro ⟨_,⟨⟨A35,N35,D35⟩,⟨A36,N36,D36⟩⟩⟩ σ1 -
 refine q_len 2 sees_ow (fun (hn:N35=r28.2.1.Dims.length)=>?_)
 subst hn
 refine q_len 3 sees_ow (fun (hn:N36=r28.2.1.Strides.length)=>?_)
 subst hn
 refine o_1 ?_
 rcases bif_ hr with ⟨hb37,hr⟩|⟨hb37,hr⟩
 refine o_3 ?_
 refine lO (vz (.agg [(.slice none 0 0),(.slice none 0 0),(iv 0),(iv 0)].toArray) (v_build pl96 zc96 R R)) (l_stores 0 R R sz96 R R R R R R (lN (_::bxl b25 [(sc A35 r28.2.1.Dims D35),(sc A36 r28.2.1.Strides D36),(iv r28.2.1.Offset),(iv r28.2.1.Base)] 96::OO kT3 3 A35 D35 r28.2.1.Dims::OO kT3 3 A36 D36 r28.2.1.Strides::_::_::_::_::W1) ?_))
 refine o_4 ?_
 cases hr
 exact qS ((none,0,0),(none,0,0)) (fun w s=>(((s.nilo kT3 3).nilo kT3 3).e 13 [1,0,6,7,8,9]))
 refine c_false R hb37 ?_
 refine o_5 ?_
 refine l_stores 0 R R sz96 R R R R R R (lN (bxl b14 [(sc A35 r28.2.1.Dims D35),(sc A36 r28.2.1.Strides D36),(iv r28.2.1.Offset),(iv r28.2.1.Base)] 96::_::_::_::_::_::_::_::W1) ?_)
 refine o_3 ?_
 cases hr
 exact qS ((A35,r28.2.1.Dims.length,D35),(A36,r28.2.1.Strides.length,D36)) (fun w s=>(s.f 11 [2,6]))
theorem Z2a_ok  {v1:View}{axis4:Int}{p5:Int}{count6:Int}{step7:Int}{r:View}(hr:Z2a v1 axis4 p5 count6 step7=some r) :
 FnOk Tryz.prog 160 [(.agg [(.slice A2 N2 D2),(.slice A3 N3 D3),(iv v1.Offset),(iv v1.Base)].toArray),(iv axis4),(iv p5),(iv count6),(iv step7)] [rds kT3 (.slice A2 N2 D2) v1.Dims,rds kT3 (.slice A3 N3 D3) v1.Strides] (fun (h:HH×HH)=>((.agg [(s3 h.1),(s3 h.2),(iv r.Offset),(iv r.Base)].toArray),[ow kT3 3 (s3 h.1) r.Dims,ow kT3 3 (s3 h.2) r.Strides])):=by
 unfold Z2a at hr
 refine fn_ok Tryz.func160 R 14 R R fun C V=>?_
 refine cL 0 sees_rd ?_
 rintro rfl
 refine cL 1 sees_rd ?_
 rintro rfl
 let W0:=RR kT3 A2 D2 v1.Dims::RR kT3 A3 D3 v1.Strides::V
 refine cN W0 ?_
 refine o_2 ?_
 refine lBx R fun b8=>?_
 refine l_box (cs:=[(iv axis4)]) R R R (fun b9=>(l_box (cs:=[(iv p5)]) R R R (fun b10=>(l_box (cs:=[(iv count6)]) R R R (fun b11=>(l_box (cs:=[(iv step7)]) R R R (fun b12=>(l_alloc R R zc96 (fun b13=>(l_nil ?_))))))))))
 let W1:=bxl b8 [(sc A2 v1.Dims D2),(sc A3 v1.Strides D3),(iv v1.Offset),(iv v1.Base)] 96::W0
 refine o_2 ?_
 obtain ⟨r14,hx15,hr⟩:=bd hr
 refine o_2 ?_
 refine lO (vp (.func (.func 167) [].toArray [(pt b9 0),(pt b11 0),(pt b10 0),(pt b12 0)].toArray) R) (lM _ (fun w s=>(((s.d 6 R).d 8 R).e 7 [1,0,6,4,5,3,2])) ?_)
 refine lC 6 cb165 R (Z31_ok hx15) R ?_
 rintro ⟨⟨A16,N16,D16⟩,⟨A17,N17,D17⟩⟩
 refine l_len 0 sees_ow ?_
 rintro rfl
 refine l_len 1 sees_ow ?_
 rintro rfl
 refine l_stores 6 R R sz96 R R R R R R (lN (_::_::_::_::_::_::bxl b13 [(sc A16 r14.1.Dims D16),(sc A17 r14.1.Strides D17),(iv r14.1.Offset),(iv r14.1.Base)] 96::W1) ?_)
 refine o_3 ?_
 cases hr
 exact qS ((A16,r14.1.Dims.length,D16),(A17,r14.1.Strides.length,D17)) (tE 10 [0,1])
theorem Z2j_ok  {v1:View}{length5:Int}{stride6:Int}{b2:Nat}{r:View}(hr:Z2j v1 length5 stride6=some r) :
 FnOk Tryz.prog 170 [(pt b2 0),(iv length5),(iv stride6)] [ow kT3 3 (.slice A3 N3 D3) v1.Dims,ow kT3 3 (.slice A4 N4 D4) v1.Strides,bxl b2 [(.slice A3 N3 D3),(.slice A4 N4 D4),(iv v1.Offset),(iv v1.Base)] 96] (fun (h:HH×HH)=>((.tuple [].toArray),[ow kT3 3 (.slice h.1.1 h.1.2.1 h.1.2.2) r.Dims,ow kT3 3 (.slice h.2.1 h.2.2.1 h.2.2.2) r.Strides,bxl b2 [(.slice h.1.1 h.1.2.1 h.1.2.2),(.slice h.2.1 h.2.2.1 h.2.2.2),(iv r.Offset),(iv r.Base)] 96])):=by
 unfold Z2j at hr
 refine fn_ok Tryz.func170 R 34 R R fun C V=>?_
 refine cN (_::_::_::V) ?_
 refine cL 0 sees_ow ?_
 rintro rfl
 refine cL 1 sees_ow ?_
 rintro rfl
 refine c_seq ?_
 obtain ⟨hg8,hr⟩:=gd hr
 refine c_region (lP R (lP R (lP R (lO (vFa 0 fo96_0 R) (lO (vLd 2 ag23 R R R) (l_build (K:=kT3) (xs:=([(0:Int)]:List Int)) (vs:=[(iv 0)]) 0 R R sl23 sz3 zc3 R R R R R R ?_ R (fun A7 D7=>?_)))))))
 exact fun I h s=>(mO3).list [((),(0:Int))] I h s
 refine lN (OO kT3 3 A7 D7 ([(0:Int)]:List Int)::_::_::bxl b2 [(sc A3 v1.Dims D3),(sc A4 v1.Strides D4),(iv v1.Offset),(iv v1.Base)] 96::V) ?_
 refine lM (ow _ _ _ _::ow _ _ _ _::ow _ _ _ _::bxl _ _ _::V) (fun w s=>(s.e 4 [1,0,2,3])) ?_
 refine l_app (K:=kT3) 17592186044416 R R sl23 sz3 by3 (Zr.zk zT3 zc3) R R R R R R src_ow hg8 (fun A9 D9=>(lN (OO kT3 3 A9 D9 (v1.Dims++([(0:Int)]:List Int))::_::_::V) ?_))
 refine lP R (lO (vFa 0 fo96_0 R) (l_store 2 R R sz23 R R R R R (lN (_::_::bxl b2 [(sc A9 (v1.Dims++([(0:Int)]:List Int)) D9),(sc A4 v1.Strides D4),(iv v1.Offset),(iv v1.Base)] 96::V) ?_)))
 refine l_nil (q_next (c_seq ?_))
 obtain ⟨hg11,hr⟩:=gd hr
 refine c_region (lP R (lP R (lP R (lO (vFa 1 fo96_1 R) (lO (vLd 2 ag23 R R R) (l_build (K:=kT3) (xs:=([(0:Int)]:List Int)) (vs:=[(iv 0)]) 0 R R sl23 sz3 zc3 R R R R R R ?_ R (fun A10 D10=>?_)))))))
 exact fun I h s=>(mO3).list [((),(0:Int))] I h s
 refine lN (OO kT3 3 A10 D10 ([(0:Int)]:List Int)::_::_::_::V) ?_
 refine lM (ow _ _ _ _::ow _ _ _ _::ow _ _ _ _::bxl _ _ _::V) (fun w s=>(s.e 4 [2,0,1,3])) ?_
 refine l_app (K:=kT3) 17592186044416 R R sl23 sz3 by3 (Zr.zk zT3 zc3) R R R R R R src_ow hg11 (fun A12 D12=>(lN (OO kT3 3 A12 D12 (v1.Strides++([(0:Int)]:List Int))::_::_::V) ?_))
 refine lP R (lO (vFa 1 fo96_1 R) (l_store 2 R R sz23 R R R R R (lN (_::_::bxl b2 [(sc A9 (v1.Dims++([(0:Int)]:List Int)) D9),(sc A12 (v1.Strides++([(0:Int)]:List Int)) D12),(iv v1.Offset),(iv v1.Base)] 96::V) ?_)))
 refine l_nil (q_next ?_)
 obtain ⟨r13,hx14,hr⟩:=bd hr
 refine c_region (lP R (lP R (lP R (lO (vFa 0 fo96_0 R) (lO (vLd 2 ag23 R R R) (lO (v_len sl23 R) (lO (vSb R R) (lI R (lI R (lM (ow _ _ _ _::ow _ _ _ _::bxl _ _ _::V) (fun w s=>(s.e 3 [1,0,2])) ?_))))))))))
 refine lC 3 cb168 R (Z0w_ok (v1:=(⟨(v1.Dims++([(0:Int)]:List Int)),(v1.Strides++([(0:Int)]:List Int)),v1.Offset,v1.Base⟩:View)) hx14) R ?_
 rintro ⟨⟨A15,N15,D15⟩,⟨A16,N16,D16⟩⟩
 refine lN (ow kT3 3 (.slice A15 N15 D15) r13.Dims::ow kT3 3 (.slice A16 N16 D16) r13.Strides::bxl b2 [(.slice A15 N15 D15),(.slice A16 N16 D16),(iv r13.Offset),(iv r13.Base)] 96::V) ?_
 refine l_len 0 sees_ow ?_
 rintro rfl
 refine l_len 1 sees_ow ?_
 rintro rfl
 refine l_nil ?_
 obtain rfl:=so hr
 exact q_fin (vs:=[]) (.inr R) ((A15,r13.Dims.length,D15),(A16,r13.Strides.length,D16)) R trivial R (fun w s=>s)
theorem Z1g_ok  {p1:View}{p5:Int}{p7:Int}{p9:Int}{b2:Nat}{b6:Nat}{b8:Nat}{b10:Nat}{r:Bool×View×Int}(hr:Z1g p1 p5 p7 p9=some r) :
 FnOk Tryz.prog 169 [(pt b2 0),(pt b6 0),(pt b8 0),(pt b10 0)] [ow kT3 3 (.slice A3 N3 D3) p1.Dims,ow kT3 3 (.slice A4 N4 D4) p1.Strides,bxl b2 [(.slice A3 N3 D3),(.slice A4 N4 D4),(iv p1.Offset),(iv p1.Base)] 96,bxl b6 [(iv p5)] 3,bxl b8 [(iv p7)] 3,bxl b10 [(iv p9)] 3] (fun (h:HH×HH)=>((.bool r.1),[ow kT3 3 (s3 h.1) r.2.1.Dims,ow kT3 3 (s3 h.2) r.2.1.Strides,bxl b2 [(s3 h.1),(s3 h.2),(iv r.2.1.Offset),(iv r.2.1.Base)] 96,bxl b6 [(iv p5)] 3,bxl b8 [(iv p7)] 3,bxl b10 [(iv r.2.2)] 3])):=by
 unfold Z1g at hr
 refine fn_ok Tryz.func169 R 66 R R fun C V=>?_
 refine cL 0 sees_ow ?_
 rintro rfl
 refine cL 1 sees_ow ?_
 rintro rfl
 refine o_4 ?_
 refine qM _ (tE 6 [0,1,2,5,3,4]) ?_
 let W1:=bxl b6 [(iv p5)] 3::bxl b8 [(iv p7)] 3::V
 refine o_3 ?_
 obtain ⟨r11,hx12,hr⟩:=bd hr
 obtain ⟨hg13,hr⟩:=gd hr
 refine cQ [(0,(pt b2 0)),(1,(pt b6 0)),(2,(pt b8 0)),(3,(pt b10 0)),(33,(.bool ((((!r11)||(decide (p7<1)))||(decide (p9<1)))||(decide (p7>(ix p1.Dims p5))))))] (bxl b2 [(sc A3 p1.Dims D3),(sc A4 p1.Strides D4),(iv p1.Offset),(iv p1.Base)] 96::OO kT3 3 A3 D3 p1.Dims::OO kT3 3 A4 D4 p1.Strides::bxl b10 [(iv p9)] 3::W1) ?_ ?_
 rcases bo (!r11) with hc16 | hc16
 refine cdr 26 [] mixo fun ht hn=>?_
 refine d5_ 0 [] ?_
 refine d1 5 R (lC 1 cb150 R (FnOk.lends (A':=[OO kT3 3 A3 D3 p1.Dims]) (A:=[RR kT3 A3 D3 p1.Dims]) (B:=[]) (Zj_ok hx12) ⟨lend_ow,trivial⟩ (fun _=>trivial)) R ?_)
 rintro _
 refine l_nil (q_draw (sL []) ?_)
 refine d20_ 6 [] ?_
 refine dD ?_
 exact qj (tE 4 [2,0,1,3])
 rcases bo ((!r11)||(decide (p7<1))) with hc17 | hc17
 refine cdr 26 [] mixo fun ht hn=>?_
 refine d5_ 0 [] ?_
 refine d1 5 R (lC 1 cb150 R (FnOk.lends (A':=[OO kT3 3 A3 D3 p1.Dims]) (A:=[RR kT3 A3 D3 p1.Dims]) (B:=[]) (Zj_ok hx12) ⟨lend_ow,trivial⟩ (fun _=>trivial)) R ?_)
 rintro _
 refine l_nil (q_draw (sL []) ?_)
 refine d20_ 6 [] ?_
 refine dD ?_
 exact qj (tE 4 [2,0,1,3])
 rcases bo (((!r11)||(decide (p7<1)))||(decide (p9<1))) with hc18 | hc18
 refine cdr 26 [] mixo fun ht hn=>?_
 refine d5_ 0 [] ?_
 refine d1 5 R (lC 1 cb150 R (FnOk.lends (A':=[OO kT3 3 A3 D3 p1.Dims]) (A:=[RR kT3 A3 D3 p1.Dims]) (B:=[]) (Zj_ok hx12) ⟨lend_ow,trivial⟩ (fun _=>trivial)) R ?_)
 rintro _
 refine l_nil (q_draw (sL []) ?_)
 refine d20_ 6 [] ?_
 refine dD ?_
 exact qj (tE 4 [2,0,1,3])
 refine c_some 0 sees_ow (show 0<p1.Dims.length by have:=(hg13 hc18); omega) (fun g14 o15 ha=>?_)
 subst ha
 refine cdr 26 [] mixo fun ht hn=>?_
 refine d5_ 0 [] ?_
 refine d1 5 R (lC 1 cb150 R (FnOk.lends (A':=[OO kT3 3 (ad g14 o15) D3 p1.Dims]) (A:=[RR kT3 (ad g14 o15) D3 p1.Dims]) (B:=[]) (Zj_ok hx12) ⟨lend_ow,trivial⟩ (fun _=>trivial)) R ?_)
 rintro _
 refine l_nil (q_draw (sL []) ?_)
 refine d16_ 6 [] ?_
 refine dW 22 R (wnF hc18) (vIa sl23 sz3 R R (hg13 hc18)) (dW 23 R (wnF hc18) (vLi 0 ag3 sees_ow R (hg13 hc18)) ?_)
 refine d2_ 24 [] ?_
 refine dD ?_
 exact qj (tE 4 [2,0,1,3])
 rintro σ1
 refine o_1 ?_
 split at hr
 refine o_8 ?_
 cases hr
 exact qF ((A3,p1.Dims.length,D3),(A4,p1.Strides.length,D4)) (tE 6 [1,2,0,4,5,3])
 refine o_4 ?_
 obtain ⟨hg20,hr⟩:=gd hr
 refine c_some 2 sees_ow (show 0<p1.Strides.length by have:=hg20; omega) (fun g21 o22 ha=>?_)
 subst ha
 refine cdr 8 [] mixo fun ht hn=>?_
 refine d8_ 0 [] ?_
 refine dD ?_
 refine o_2 ?_
 obtain ⟨hg23,hr⟩:=gd hr
 obtain ⟨hg26,hr⟩:=gd hr
 refine c_some 1 sees_ow (show 0<p1.Dims.length by have:=hg23; omega) (fun g24 o25 ha=>?_)
 subst ha
 refine cdr 13 [] mixo fun ht hn=>?_
 refine d10_ 0 [] ?_
 refine dR 10 R (vz (iv (w64 ((w64 ((ix p1.Dims p5) - p7)).tdiv p9))) (v_quo R R hg26)) ?_
 refine d2_ 11 [] ?_
 refine dD (q_next (c_seq (c_cut (A:=(Int)×(Unit)) (fun a=>Z1g_J3 p1 p5 p7 p9 a.1=some r) (fun a=>[(0,(pt b2 0)),(1,(pt b6 0)),(2,(pt b8 0)),(3,(pt b10 0)),(6,(iv (ix p1.Strides p5))),(7,(iv (w64 ((w64 ((w64 ((ix p1.Dims p5) - p7)).tdiv p9))+1))))]) (fun a=>bxl b2 [(sc (ad g24 o25) p1.Dims D3),(sc (ad g21 o22) p1.Strides D4),(iv p1.Offset),(iv p1.Base)] 96::OO kT3 3 (ad g24 o25) D3 p1.Dims::OO kT3 3 (ad g21 o22) D4 p1.Strides::bxl b10 [(iv a.1)] 3::W1) ?_ ?_)))
 refine o_6 ?_
 split at hr
 refine o_2 ?_
 refine l_store 3 R R sz3 R R R R R (lN (bxl b2 [(sc (ad g24 o25) p1.Dims D3),(sc (ad g21 o22) p1.Strides D4),(iv p1.Offset),(iv p1.Base)] 96::OO kT3 3 (ad g24 o25) D3 p1.Dims::OO kT3 3 (ad g21 o22) D4 p1.Strides::bxl b10 [(iv 0)] 3::W1) ?_)
 refine o_1 ?_
 exact qI ((0:Int),()) hr tI
 refine o_2 ?_
 exact qI (p9,()) hr tI
 rintro ⟨x28,_⟩ σ1 hr
 dsimp only [Z1g_J3] at hr
 refine o_1 ?_
 obtain ⟨r29,hx30,hr⟩:=bd hr
 refine o_7 ?_
 refine lM _ (tE 4 [1,2,0,3]) ?_
 refine lC 3 cb168 R (Z0w_ok hx30) R ?_
 rintro ⟨⟨A31,N31,D31⟩,⟨A32,N32,D32⟩⟩
 refine l_len 0 sees_ow ?_
 rintro rfl
 refine l_len 1 sees_ow ?_
 rintro rfl
 refine o_3 ?_
 obtain ⟨r33,hx34,hr⟩:=bd hr
 refine o_4 ?_
 refine lC 3 cb170 R (Z2j_ok hx34) R ?_
 rintro ⟨⟨A35,N35,D35⟩,⟨A36,N36,D36⟩⟩
 refine l_len 0 sees_ow ?_
 rintro rfl
 refine l_len 1 sees_ow ?_
 rintro rfl
 refine o_8 ?_
 cases hr
 exact qF ((A35,r33.Dims.length,D35),(A36,r33.Strides.length,D36)) (tE 6 [0,1,2,4,5,3])
theorem Z33_ok  {v1:View}{q5:Int}{q7:Int}{q9:Int}{b6:Nat}{b8:Nat}{b10:Nat}{r:View×Int}(hr:Z33 v1 q5 q7 q9=some r) :
 FnOk Tryz.prog 165 [(.agg [(.slice A2 N2 D2),(.slice A3 N3 D3),(iv v1.Offset),(iv v1.Base)].toArray),(.func (.func 169) [].toArray [(pt b6 0),(pt b8 0),(pt b10 0)].toArray)] [rds kT3 (.slice A2 N2 D2) v1.Dims,rds kT3 (.slice A3 N3 D3) v1.Strides,bxl b6 [(iv q5)] 3,bxl b8 [(iv q7)] 3,bxl b10 [(iv q9)] 3] (fun (h:HH×HH)=>((.agg [(s3 h.1),(s3 h.2),(iv r.1.Offset),(iv r.1.Base)].toArray),[ow kT3 3 (s3 h.1) r.1.Dims,ow kT3 3 (s3 h.2) r.1.Strides,bxl b6 [(iv q5)] 3,bxl b8 [(iv q7)] 3,bxl b10 [(iv r.2)] 3])):=by
 unfold Z33 at hr
 refine fn_ok Tryz.func165 R 31 R R fun C V=>?_
 refine cM _ (fun w s=>(s.f 5 [2,3,0,2])) ?_
 refine cL 3 sees_rd ?_
 rintro rfl
 refine cL 4 sees_rd ?_
 rintro rfl
 let W0:=RR kT3 A2 D2 v1.Dims::RR kT3 A3 D3 v1.Strides::V
 refine o_2 ?_
 refine lBx R fun b11=>?_
 refine l_alloc R R zc96 (fun b12=>(l_nil (qM _ (tE 5 [0,2,3,4,1]) ?_)))
 let W1:=bxl b11 [(sc A2 v1.Dims D2),(sc A3 v1.Strides D3),(iv v1.Offset),(iv v1.Base)] 96::W0
 refine o_3 ?_
 obtain ⟨r13,hx14,hr⟩:=bd hr
 refine o_2 ?_
 refine lM _ (fun w s=>(((s.d 5 R).d 7 R).e 6 [1,0,2,3,4,5])) ?_
 refine lC 2 cb156 R (Zf_ok hx14) R ?_
 rintro _
 refine o_3 ?_
 split at hr
 refine o_3 ?_
 refine lO (vz (.agg [(.slice none 0 0),(.slice none 0 0),(iv 0),(iv 0)].toArray) (v_build pl96 zc96 R R)) (l_stores 0 R R sz96 R R R R R R (l_nil (q_next (c_ret (q_ret ?_)))))
 cases hr
 exact qS ((none,0,0),(none,0,0)) (fun w s=>(((s.nilo kT3 3).nilo kT3 3).e 9 [1,0,3,4,5]))
 refine o_4 ?_
 obtain ⟨r16,hx17,hr⟩:=bd hr
 obtain ⟨r19,hx20,hr⟩:=bd hr
 refine c_cutq (A:=(Unit)×(Nat×HH×HH)) (fun _=>True) (fun a=>[(1,(.func (.func 169) [].toArray [(pt b6 0),(pt b8 0),(pt b10 0)].toArray)),(4,(pt b12 0)),(5,(pt a.2.1 0))]) (fun a=>bxl b6 [(iv q5)] 3::bxl b8 [(iv q7)] 3::bxl b10 [(iv q9)] 3::bxl b12 [(.slice none 0 0),(.slice none 0 0),(iv 0),(iv 0)] 96::bxl a.2.1 [(s3 a.2.2.1),(s3 a.2.2.2),(iv v1.Offset),(iv v1.Base)] 96::ow kT3 3 (s3 a.2.2.1) r16::ow kT3 3 (s3 a.2.2.2) r19::W1) ?_ ?_
 refine cdr 13 [] mixo fun ht hn=>?_
 refine d2_ 0 [] ?_
 refine d2_ 3 [] ?_
 refine d4_ 6 [] ?_
 refine d_all [2,11] (by kernel_rfl) R ⟨?_,?_,trivial⟩
 refine lM _ (fun w s=>(s.d 5 R)) ?_
 refine lC 1 cb64 R (Zm_ok hx17) R ?_
 rintro ⟨A18,N18,D18⟩
 refine l_len 0 sees_ow ?_
 rintro rfl
 refine l_nil (q_draw (sL [0]) (d_all [5,11] (by kernel_rfl) R ⟨?_,?_,trivial⟩))
 refine lM _ (fun w s=>(s.d 7 R)) ?_
 refine lC 1 cb64 R (Zm_ok hx20) R ?_
 rintro ⟨A21,N21,D21⟩
 refine l_len 0 sees_ow ?_
 rintro rfl
 refine l_nil (q_draw (sL [1,0]) (dR 10 R (vz (.agg [(sc A18 r16 D18),(sc A21 r19 D21),(iv v1.Offset),(iv v1.Base)].toArray) (v_build pl96 zc96 R R)) (hS:=(sL [1,0])) (d1 11 R (l_alloc R R zc96 (fun b22=>(l_nil (q_draw (sL [2,1,0]) (d1 12 R (l_stores 0 R R sz96 R R R R R R (lN (bxl b22 [(sc A18 r16 D18),(sc A21 r19 D21),(iv v1.Offset),(iv v1.Base)] 96::_::_::_::_::_::_::W1) ?_))))))))))
 refine l_nil (q_draw (sL [2,1,0]) (dD ?_))
 exact q_join ((),(b22,(A18,r16.length,D18),(A21,r19.length,D21))) trivial (aS R) (tE 7 [4,5,6,3,0,2,1])
 refine l_alloc R R zc96 (fun b22=>(l_nil (q_draw (sL [1,0]) (d1 5 R (lM _ (fun w s=>(s.d 8 R)) ?_)))))
 refine lC 1 cb64 R (Zm_ok hx20) R ?_
 rintro ⟨A21,N21,D21⟩
 refine l_len 0 sees_ow ?_
 rintro rfl
 refine l_nil (q_draw (sL [2,1,0]) (dR 10 R (vz (.agg [(sc A18 r16 D18),(sc A21 r19 D21),(iv v1.Offset),(iv v1.Base)].toArray) (v_build pl96 zc96 R R)) (hS:=(sL [2,1,0])) (d1 12 R (l_stores 1 R R sz96 R R R R R R (lN (_::bxl b22 [(sc A18 r16 D18),(sc A21 r19 D21),(iv v1.Offset),(iv v1.Base)] 96::_::_::_::_::_::W1) ?_)))))
 refine l_nil (q_draw (sL [2,1,0]) (dD ?_))
 exact q_join ((),(b22,(A18,r16.length,D18),(A21,r19.length,D21))) trivial (aS R) (tE 7 [4,5,6,3,1,2,0])
 refine l_alloc R R zc96 (fun b22=>(l_nil (q_draw (sL [0]) (d1 2 R (lM _ (fun w s=>(s.d 6 R)) ?_)))))
 refine lC 1 cb64 R (Zm_ok hx17) R ?_
 rintro ⟨A18,N18,D18⟩
 refine l_len 0 sees_ow ?_
 rintro rfl
 refine l_nil (q_draw (sL [1,0]) (d1 5 R (lM _ (fun w s=>(s.d 8 R)) ?_)))
 refine lC 1 cb64 R (Zm_ok hx20) R ?_
 rintro ⟨A21,N21,D21⟩
 refine l_len 0 sees_ow ?_
 rintro rfl
 refine l_nil (q_draw (sL [2,1,0]) (dR 10 R (vz (.agg [(sc A18 r16 D18),(sc A21 r19 D21),(iv v1.Offset),(iv v1.Base)].toArray) (v_build pl96 zc96 R R)) (hS:=(sL [2,1,0])) (d1 12 R (l_stores 2 R R sz96 R R R R R R (lN (_::_::bxl b22 [(sc A18 r16 D18),(sc A21 r19 D21),(iv v1.Offset),(iv v1.Base)] 96::_::_::_::_::W1) ?_)))))
 refine l_nil (q_draw (sL [2,1,0]) (dD ?_))
 exact q_join ((),(b22,(A18,r16.length,D18),(A21,r19.length,D21))) trivial (aS R) (tE 7 [4,5,6,3,2,1,0])
 rintro ⟨_,⟨b23,⟨A24,N24,D24⟩,⟨A25,N25,D25⟩⟩⟩ σ1 -
 refine q_len 5 sees_ow (fun (hn:N24=r16.length)=>?_)
 subst hn
 refine q_len 6 sees_ow (fun (hn:N25=r19.length)=>?_)
 subst hn
 refine o_3 ?_
 obtain ⟨r26,hx27,hr⟩:=bd hr
 obtain ⟨r30,hx31,hr⟩:=bd hr
 refine c_cutq (A:=(Unit)×(HH×HH)) (fun _=>True) (fun a=>[(4,(pt b12 0)),(5,(pt b23 0)),(28,(.bool ((!r26.1)||(!r30))))]) (fun a=>bxl b12 [(.slice none 0 0),(.slice none 0 0),(iv 0),(iv 0)] 96::bxl b23 [(s3 a.2.1),(s3 a.2.2),(iv r26.2.1.Offset),(iv r26.2.1.Base)] 96::ow kT3 3 (s3 a.2.1) r26.2.1.Dims::ow kT3 3 (s3 a.2.2) r26.2.1.Strides::bxl b6 [(iv q5)] 3::bxl b8 [(iv q7)] 3::bxl b10 [(iv r26.2.2)] 3::W1) ?_ ?_
 refine c_region (lO (vp _ R) (lM _ (fun w s=>(s.f 7 [5,2,4,1,0,4])) ?_))
 refine l_callvn (fs:=[]) (cs:=[(pt b6 0),(pt b8 0),(pt b10 0)]) 6 R R cb169 R R (Z1g_ok (p1:=(⟨r16,r19,v1.Offset,v1.Base⟩:View)) hx27) R ?_
 rintro ⟨⟨A28,N28,D28⟩,⟨A29,N29,D29⟩⟩
 refine l_len 0 sees_ow ?_
 rintro rfl
 refine l_len 1 sees_ow ?_
 rintro rfl
 refine o_2 ?_
 rcases bo (!r26.1) with hc32 | hc32
 refine o_3 ?_
 refine lO (pOT (!r30) R hc32) (l_nil ?_)
 exact q_join ((),((A28,r26.2.1.Dims.length,D28),(A29,r26.2.1.Strides.length,D29))) trivial (aS R) (tE 7 [6,2,0,1,3,4,5])
 refine lW (wnF hc32) (vz (.agg [(sc A28 r26.2.1.Dims D28),(sc A29 r26.2.1.Strides D29),(iv r26.2.1.Offset),(iv r26.2.1.Base)].toArray) (v_loadw 2 ag96 sz96 R R R R)) (l_calln 2 R (wnF hc32) cb156 R (FnOk.lends (A':=[OO kT3 3 A28 D28 r26.2.1.Dims,OO kT3 3 A29 D29 r26.2.1.Strides]) (A:=[RR kT3 A28 D28 r26.2.1.Dims,RR kT3 A29 D29 r26.2.1.Strides]) (B:=[]) (Zf_ok (gcall_t hx31 (not_ff hc32))) ⟨lend_ow,lend_ow,trivial⟩ (fun _=>trivial)) R ?_)
 rintro _
 refine o_1 ?_
 refine lO (pOF R hc32 R) (l_nil ?_)
 exact q_join ((),((A28,r26.2.1.Dims.length,D28),(A29,r26.2.1.Strides.length,D29))) trivial (aS R) (tE 7 [6,2,0,1,3,4,5])
 rintro ⟨_,⟨⟨A33,N33,D33⟩,⟨A34,N34,D34⟩⟩⟩ σ1 -
 refine q_len 2 sees_ow (fun (hn:N33=r26.2.1.Dims.length)=>?_)
 subst hn
 refine q_len 3 sees_ow (fun (hn:N34=r26.2.1.Strides.length)=>?_)
 subst hn
 refine o_1 ?_
 rcases bif_ hr with ⟨hb35,hr⟩|⟨hb35,hr⟩
 refine o_3 ?_
 refine lO (vz (.agg [(.slice none 0 0),(.slice none 0 0),(iv 0),(iv 0)].toArray) (v_build pl96 zc96 R R)) (l_stores 0 R R sz96 R R R R R R (lN (_::bxl b23 [(sc A33 r26.2.1.Dims D33),(sc A34 r26.2.1.Strides D34),(iv r26.2.1.Offset),(iv r26.2.1.Base)] 96::OO kT3 3 A33 D33 r26.2.1.Dims::OO kT3 3 A34 D34 r26.2.1.Strides::_::_::_::W1) ?_))
 refine o_4 ?_
 cases hr
 exact qS ((none,0,0),(none,0,0)) (fun w s=>(((s.nilo kT3 3).nilo kT3 3).e 12 [1,0,6,7,8]))
 refine c_false R hb35 ?_
 refine o_5 ?_
 refine l_stores 0 R R sz96 R R R R R R (lN (bxl b12 [(sc A33 r26.2.1.Dims D33),(sc A34 r26.2.1.Strides D34),(iv r26.2.1.Offset),(iv r26.2.1.Base)] 96::_::_::_::_::_::_::W1) ?_)
 refine o_3 ?_
 cases hr
 exact qS ((A33,r26.2.1.Dims.length,D33),(A34,r26.2.1.Strides.length,D34)) (fun w s=>(s.f 10 [2,5]))
theorem Z2c_ok  {v1:View}{axis4:Int}{size5:Int}{step6:Int}{r:View}(hr:Z2c v1 axis4 size5 step6=some r) :
 FnOk Tryz.prog 161 [(.agg [(.slice A2 N2 D2),(.slice A3 N3 D3),(iv v1.Offset),(iv v1.Base)].toArray),(iv axis4),(iv size5),(iv step6)] [rds kT3 (.slice A2 N2 D2) v1.Dims,rds kT3 (.slice A3 N3 D3) v1.Strides] (fun (h:HH×HH)=>((.agg [(s3 h.1),(s3 h.2),(iv r.Offset),(iv r.Base)].toArray),[ow kT3 3 (s3 h.1) r.Dims,ow kT3 3 (s3 h.2) r.Strides])):=by
 unfold Z2c at hr
 refine fn_ok Tryz.func161 R 12 R R fun C V=>?_
 refine cL 0 sees_rd ?_
 rintro rfl
 refine cL 1 sees_rd ?_
 rintro rfl
 let W0:=RR kT3 A2 D2 v1.Dims::RR kT3 A3 D3 v1.Strides::V
 refine cN W0 ?_
 refine o_2 ?_
 refine lBx R fun b7=>?_
 refine l_box (cs:=[(iv axis4)]) R R R (fun b8=>(l_box (cs:=[(iv size5)]) R R R (fun b9=>(l_box (cs:=[(iv step6)]) R R R (fun b10=>(l_alloc R R zc96 (fun b11=>(l_nil ?_))))))))
 let W1:=bxl b7 [(sc A2 v1.Dims D2),(sc A3 v1.Strides D3),(iv v1.Offset),(iv v1.Base)] 96::W0
 refine o_2 ?_
 obtain ⟨r12,hx13,hr⟩:=bd hr
 refine o_2 ?_
 refine lO (vp (.func (.func 169) [].toArray [(pt b8 0),(pt b9 0),(pt b10 0)].toArray) R) (lM _ (fun w s=>(((s.d 5 R).d 7 R).e 6 [1,0,5,4,3,2])) ?_)
 refine lC 5 cb165 R (Z33_ok hx13) R ?_
 rintro ⟨⟨A14,N14,D14⟩,⟨A15,N15,D15⟩⟩
 refine l_len 0 sees_ow ?_
 rintro rfl
 refine l_len 1 sees_ow ?_
 rintro rfl
 refine l_stores 5 R R sz96 R R R R R R (lN (_::_::_::_::_::bxl b11 [(sc A14 r12.1.Dims D14),(sc A15 r12.1.Strides D15),(iv r12.1.Offset),(iv r12.1.Base)] 96::W1) ?_)
 refine o_3 ?_
 cases hr
 exact qS ((A14,r12.1.Dims.length,D14),(A15,r12.1.Strides.length,D15)) (tE 9 [0,1])
theorem Z19_ok  {n1:Node}{dims6:(List Int)}{r:View}(hr:Z19 n1 dims6=some r) :
 FnOk Tryz.prog 146 [(.agg [(iv n1.Op),(.slice A2 N2 D2),(.slice A3 N3 D3),(.slice A4 N4 D4),(vstr n1.Form),(.slice A5 N5 D5)].toArray),(.slice A7 N7 D7)] [rds kT3 (.slice A2 N2 D2) n1.Args,rds kT3 (.slice A3 N3 D3) n1.Dims,rds kT3 (.slice A4 N4 D4) n1.Ints,rds kT3 (.slice A5 N5 D5) n1.Data,rds kT3 (.slice A7 N7 D7) dims6] (fun (h:HH×HH)=>((.agg [(.slice h.1.1 h.1.2.1 h.1.2.2),(.slice h.2.1 h.2.2.1 h.2.2.2),(iv r.Offset),(iv r.Base)].toArray),[rds kT3 (.slice h.1.1 h.1.2.1 h.1.2.2) r.Dims,rds kT3 (.slice h.2.1 h.2.2.1 h.2.2.2) r.Strides])):=by
 unfold Z19 at hr
 refine fn_ok Tryz.func146 R 76 R R fun C V=>?_
 refine cN (_::_::_::_::_::V) ?_
 refine cL 0 sees_rd ?_
 rintro rfl
 refine cL 1 sees_rd ?_
 rintro rfl
 refine cL 2 sees_rd ?_
 rintro rfl
 refine cL 3 sees_rd ?_
 rintro rfl
 refine cL 4 sees_rd ?_
 rintro rfl
 let W0:List HP:=RR kT3 A2 D2 n1.Args::RR kT3 A3 D3 n1.Dims::RR kT3 A4 D4 n1.Ints::RR kT3 A5 D5 n1.Data::RR kT3 A7 D7 dims6::V
 refine cN W0 ?_
 refine c_seq (c_region (lBx R (fun b8=>(l_alloc R R zc96 (fun b9=>(l_nil ?_))))))
 let W1:List HP:=bxl b8 [(iv n1.Op),(sc A2 n1.Args D2),(sc A3 n1.Dims D3),(sc A4 n1.Ints D4),(vstr n1.Form),(sc A5 n1.Data D5)] 54::W0
 refine qN (_::W1) ?_
 refine q_next (c_seq ?_)
 obtain ⟨r10,hx11,hr⟩:=bd hr
 refine c_region (lS R (lM (RR kT3 A7 D7 dims6::_::W1) (fun w s=>(s.d 6 R)) ?_))
 refine lC 1 cb158 R (Z2k_ok hx11) R ?_
 rintro ⟨⟨A12,N12,D12⟩,⟨A13,N13,D13⟩⟩
 refine lN (ow kT3 3 (.slice A12 N12 D12) r10.Dims::ow kT3 3 (.slice A13 N13 D13) r10.Strides::_::W1) ?_
 refine l_len 0 sees_ow ?_
 rintro rfl
 refine l_len 1 sees_ow ?_
 rintro rfl
 refine l_alloc R R zc96 (fun b14=>(l_stores 0 R R sz96 R R R R R R (lN (bxl b14 [(sc A12 r10.Dims D12),(sc A13 r10.Strides D13),(iv r10.Offset),(iv r10.Base)] 96::_::_::_::W1) ?_)))
 refine l_nil (q_next (c_seq (c_block (c_seq (c_region (lO (vFa 0 fo54_0 R) (lO (vLd 4 ag3 R R R) (lO (vEq R R) (lB R (l_nil (q_next ?_)))))))))))
 rcases bif_ hr with ⟨hb15,hr⟩|⟨hb15,hr⟩
 refine c_true R hb15 (c_seq ?_)
 obtain ⟨r16,hx17,hr⟩:=bd hr
 refine c_region (lO (vz (.agg [(sc A12 r10.Dims D12),(sc A13 r10.Strides D13),(iv r10.Offset),(iv r10.Base)].toArray) (v_loadw 0 ag96 sz96 R R R R)) (lO (vFa 2 fo54_2 R) (lO (vLd 4 ag23 R R R) (l_st (fun w s=>s.shr 1 R) (l_st (fun w s=>s.shr 2 R) (lM (RR kT3 A12 D12 r10.Dims::RR kT3 A13 D13 r10.Strides::RR kT3 A3 D3 n1.Dims::RR kT3 A13 D13 r10.Strides::RR kT3 A12 D12 r10.Dims::bxl _ _ _::bxl _ _ _::W1) (fun w s=>((((s.d 1 R).d 1 R).d 8 R).e 7 [2,1,0,3,4,5,6])) ?_))))))
 refine lC 3 cb159 R (Z2b_ok hx17) R ?_
 rintro ⟨⟨A18,N18,D18⟩,⟨A19,N19,D19⟩⟩
 refine lN (rds kT3 (.slice A18 N18 D18) r16.Dims::rds kT3 (.slice A19 N19 D19) r16.Strides::_::_::_::_::W1) ?_
 refine l_len 0 sees_rd ?_
 rintro rfl
 refine l_len 1 sees_rd ?_
 rintro rfl
 refine l_stores 5 R R sz96 R R R R R R (lN (_::_::_::_::_::bxl b9 [(sc A18 r16.Dims D18),(sc A19 r16.Strides D19),(iv r16.Offset),(iv r16.Base)] 96::W1) ?_)
 refine l_nil (q_next (c_ret (q_blockr (q_ret ?_))))
 obtain rfl:=so hr
 exact q_fin (vs:=[(.agg [(sc A18 r16.Dims D18),(sc A19 r16.Strides D19),(iv r16.Offset),(iv r16.Base)].toArray)]) (.inl R) ((A18,r16.Dims.length,D18),(A19,r16.Strides.length,D19)) R ⟨⟨5,b9,_,_,R,R,.inl ⟨ag96,sz96,R⟩⟩,trivial⟩ R (fun w s=>(s.e 12 [0,1]))
 refine c_false R hb15 (c_seq ?_)
 obtain ⟨hg20,hr⟩:=gd hr
 refine cQ [(2,(pt b8 0)),(4,(pt b9 0)),(5,(pt b14 0)),(16,(.bool (((n1.Op==(14:Int))&&((n1.Ints.length:Int)==(4:Int)))&&(decide ((ix n1.Ints (3:Int))≥(1:Int))))))] (bxl b9 [(.slice none 0 0),(.slice none 0 0),(iv 0),(iv 0)] 96::bxl b14 [(sc A12 r10.Dims D12),(sc A13 r10.Strides D13),(iv r10.Offset),(iv r10.Base)] 96::OO kT3 3 A12 D12 r10.Dims::OO kT3 3 A13 D13 r10.Strides::W1) ?_ ?_
 refine c_region (lO (vFa 0 fo54_0 R) (lO (vLd 4 ag3 R R R) (lO (vEq R R) (lB R ?_))))
 rcases bo (n1.Op==(14:Int)) with hc23 | hc23
 refine lW (wnT hc23) (vFa 3 fo54_3 R) (lW (wnT hc23) (vLd 4 ag23 R R R) (lW (wnT hc23) (v_len sl23 R) (lW (wnT hc23) (vEq R R) (lO (pAT R hc23 R) (lB R ?_)))))
 rcases bo ((n1.Op==(14:Int))&&((n1.Ints.length:Int)==(4:Int))) with hc24 | hc24
 refine lW (wnT hc24) (vFa 3 fo54_3 R) (lW (wnT hc24) (vLd 4 ag23 R R R) (t_some 7 sees_rd (show 0<n1.Ints.length by have:=(hg20 hc24); omega) (fun g21 o22 ha=>?_)))
 subst ha
 refine lW (wnT hc24) (vIa sl23 sz3 R R (hg20 hc24)) (lW (wnT hc24) (vLi 7 ag3 sees_rd R (hg20 hc24)) (lW (wnT hc24) (vGe R R) (lO (pAT R hc24 R) (lB R (l_nil ?_)))))
 exact qJ (fun w s=>(s.e 4 [3,0,1,2]))
 refine lf (wfF hc24) (lf (wfF hc24) (lf (wfF hc24) (lf (wfF hc24) (lf (wfF hc24) (lO (pAF (decide ((ix n1.Ints (3:Int))≥(1:Int))) R hc24) (lB R (l_nil ?_)))))))
 exact qJ (fun w s=>(s.e 4 [3,0,1,2]))
 refine lf (wfF hc23) (lf (wfF hc23) (lf (wfF hc23) (lf (wfF hc23) (lO (pAF ((n1.Ints.length:Int)==(4:Int)) R hc23) (lB R (lf (wfF (aF hc23)) (lf (wfF (aF hc23)) (lf (wfF (aF hc23)) (lf (wfF (aF hc23)) (lf (wfF (aF hc23)) (lO (pAF (decide ((ix n1.Ints (3:Int))≥(1:Int))) R (aF hc23)) (lB R (l_nil ?_)))))))))))))
 exact qJ (fun w s=>(s.e 4 [3,0,1,2]))
 rintro σ1
 refine q_next ?_
 rcases bif_ hr with ⟨hb25,hr⟩|⟨hb25,hr⟩
 refine c_true R hb25 (c_seq ?_)
 obtain ⟨hg26,hr⟩:=gd hr
 obtain ⟨hg29,hr⟩:=gd hr
 obtain ⟨hg30,hr⟩:=gd hr
 obtain ⟨hg31,hr⟩:=gd hr
 obtain ⟨r32,hx33,hr⟩:=bd hr
 refine c_some 7 sees_rd (show 0<n1.Ints.length by have:=hg26; omega) (fun g27 o28 ha=>?_)
 subst ha
 refine cdr 19 [0] mixo (fun ht hn=>(dR 0 R (vz (.agg [(sc A12 r10.Dims D12),(sc A13 r10.Strides D13),(iv r10.Offset),(iv r10.Base)].toArray) (v_loadw 0 ag96 sz96 R R R R)) (hS:=(sL [0])) (dR 1 R (vFa 3 fo54_3 R) (hS:=(sL [0])) (dR 2 R (vLd 3 ag23 R R R) (hS:=(sL [0])) (dR 3 R (vIa sl23 sz3 R R hg26) (hS:=(sL [0])) (dR 4 R (vLi 6 ag3 sees_rd R hg26) (hS:=(sL [0])) (dR 5 R (vFa 3 fo54_3 R) (hS:=(sL [0])) (dR 6 R (vLd 3 ag23 R R R) (hS:=(sL [0])) (dR 7 R (vIa sl23 sz3 R R hg29) (hS:=(sL [0])) (dR 8 R (vLi 6 ag3 sees_rd R hg29) (hS:=(sL [0])) (dR 9 R (vFa 3 fo54_3 R) (hS:=(sL [0])) (dR 10 R (vLd 3 ag23 R R R) (hS:=(sL [0])) (dR 11 R (vIa sl23 sz3 R R hg30) (hS:=(sL [0])) (dR 12 R (vLi 6 ag3 sees_rd R hg30) (hS:=(sL [0])) (dR 13 R (vFa 3 fo54_3 R) (hS:=(sL [0])) (dR 14 R (vLd 3 ag23 R R R) (hS:=(sL [0])) (dR 15 R (vIa sl23 sz3 R R hg31) (hS:=(sL [0])) (dR 16 R (vLi 6 ag3 sees_rd R hg31) (hS:=(sL [0])) (d1 17 R (lM (OO kT3 3 A12 D12 r10.Dims::OO kT3 3 A13 D13 r10.Strides::bxl b9 [(.slice none 0 0),(.slice none 0 0),(iv 0),(iv 0)] 96::bxl _ _ _::W1) (fun w s=>(s.e 4 [2,3,0,1])) ?_))))))))))))))))))))
 refine lC 2 cb160 R (FnOk.lends (A':=[OO kT3 3 A12 D12 r10.Dims,OO kT3 3 A13 D13 r10.Strides]) (A:=[RR kT3 A12 D12 r10.Dims,RR kT3 A13 D13 r10.Strides]) (B:=[]) (Z2a_ok hx33) ⟨lend_ow,lend_ow,trivial⟩ (fun _=>⟨(closed_ow cT3),(closed_ow cT3),trivial⟩)) R ?_
 rintro ⟨⟨A34,N34,D34⟩,⟨A35,N35,D35⟩⟩
 refine lN (_::_::ow kT3 3 (.slice A34 N34 D34) r32.Dims::ow kT3 3 (.slice A35 N35 D35) r32.Strides::_::_::W1) ?_
 refine l_len 2 sees_ow ?_
 rintro rfl
 refine l_len 3 sees_ow ?_
 rintro rfl
 refine l_nil (q_draw (fun w s=>(s.e 6 [5,0,1])) (d1 18 R (l_stores 4 R R sz96 R R R R R R (lN (_::_::_::_::bxl b9 [(sc A34 r32.Dims D34),(sc A35 r32.Strides D35),(iv r32.Offset),(iv r32.Base)] 96::_::W1) ?_))))
 refine l_nil (q_draw (fun w s=>(s.e 6 [5,0,1])) (dD (q_next (c_ret (q_blockr (q_ret ?_))))))
 obtain rfl:=so hr
 exact q_fin (vs:=[(.agg [(sc A34 r32.Dims D34),(sc A35 r32.Strides D35),(iv r32.Offset),(iv r32.Base)].toArray)]) (.inl R) ((A34,r32.Dims.length,D34),(A35,r32.Strides.length,D35)) R ⟨⟨4,b9,_,_,R,R,.inl ⟨ag96,sz96,R⟩⟩,trivial⟩ R (fun w s=>(((s.shr 2 R).shr 3 R).e 12 [1,0]))
 refine c_false R hb25 (c_seq (cQ [(2,(pt b8 0)),(4,(pt b9 0)),(5,(pt b14 0)),(51,(.bool ((n1.Op==(18:Int))&&((n1.Ints.length:Int)==(3:Int)))))] (bxl b9 [(.slice none 0 0),(.slice none 0 0),(iv 0),(iv 0)] 96::bxl b14 [(sc A12 r10.Dims D12),(sc A13 r10.Strides D13),(iv r10.Offset),(iv r10.Base)] 96::OO kT3 3 A12 D12 r10.Dims::OO kT3 3 A13 D13 r10.Strides::W1) ?_ ?_))
 refine c_region (lO (vFa 0 fo54_0 R) (lO (vLd 4 ag3 R R R) (lO (vEq R R) (lB R ?_))))
 rcases bo (n1.Op==(18:Int)) with hc36 | hc36
 refine lW (wnT hc36) (vFa 3 fo54_3 R) (lW (wnT hc36) (vLd 4 ag23 R R R) (lW (wnT hc36) (v_len sl23 R) (lW (wnT hc36) (vEq R R) (lO (pAT R hc36 R) (lB R (l_nil ?_))))))
 exact qJ (fun w s=>s)
 refine lf (wfF hc36) (lf (wfF hc36) (lf (wfF hc36) (lf (wfF hc36) (lO (pAF ((n1.Ints.length:Int)==(3:Int)) R hc36) (lB R (l_nil ?_))))))
 exact qJ (fun w s=>s)
 rintro σ1
 refine q_next ?_
 rcases bif_ hr with ⟨hb37,hr⟩|⟨hb37,hr⟩
 refine c_true R hb37 (c_seq ?_)
 obtain ⟨hg38,hr⟩:=gd hr
 obtain ⟨hg41,hr⟩:=gd hr
 obtain ⟨hg42,hr⟩:=gd hr
 obtain ⟨r43,hx44,hr⟩:=bd hr
 refine c_some 7 sees_rd (show 0<n1.Ints.length by have:=hg38; omega) (fun g39 o40 ha=>?_)
 subst ha
 refine cdr 15 [0] mixo (fun ht hn=>(dR 0 R (vz (.agg [(sc A12 r10.Dims D12),(sc A13 r10.Strides D13),(iv r10.Offset),(iv r10.Base)].toArray) (v_loadw 0 ag96 sz96 R R R R)) (hS:=(sL [0])) (dR 1 R (vFa 3 fo54_3 R) (hS:=(sL [0])) (dR 2 R (vLd 3 ag23 R R R) (hS:=(sL [0])) (dR 3 R (vIa sl23 sz3 R R hg38) (hS:=(sL [0])) (dR 4 R (vLi 6 ag3 sees_rd R hg38) (hS:=(sL [0])) (dR 5 R (vFa 3 fo54_3 R) (hS:=(sL [0])) (dR 6 R (vLd 3 ag23 R R R) (hS:=(sL [0])) (dR 7 R (vIa sl23 sz3 R R hg41) (hS:=(sL [0])) (dR 8 R (vLi 6 ag3 sees_rd R hg41) (hS:=(sL [0])) (dR 9 R (vFa 3 fo54_3 R) (hS:=(sL [0])) (dR 10 R (vLd 3 ag23 R R R) (hS:=(sL [0])) (dR 11 R (vIa sl23 sz3 R R hg42) (hS:=(sL [0])) (dR 12 R (vLi 6 ag3 sees_rd R hg42) (hS:=(sL [0])) (d1 13 R (lM (ow _ _ _ _::ow _ _ _ _::bxl b9 [(.slice none 0 0),(.slice none 0 0),(iv 0),(iv 0)] 96::bxl _ _ _::W1) (fun w s=>(s.e 4 [2,3,0,1])) ?_))))))))))))))))
 refine lC 2 cb161 R (FnOk.lends (A':=[OO kT3 3 A12 D12 r10.Dims,OO kT3 3 A13 D13 r10.Strides]) (A:=[RR kT3 A12 D12 r10.Dims,RR kT3 A13 D13 r10.Strides]) (B:=[]) (Z2c_ok hx44) ⟨lend_ow,lend_ow,trivial⟩ (fun _=>⟨(closed_ow cT3),(closed_ow cT3),trivial⟩)) R ?_
 rintro ⟨⟨A45,N45,D45⟩,⟨A46,N46,D46⟩⟩
 refine lN (_::_::ow kT3 3 (.slice A45 N45 D45) r43.Dims::ow kT3 3 (.slice A46 N46 D46) r43.Strides::_::_::W1) ?_
 refine l_len 2 sees_ow ?_
 rintro rfl
 refine l_len 3 sees_ow ?_
 rintro rfl
 refine l_nil (q_draw (fun w s=>(s.e 6 [5,0,1])) (d1 14 R (l_stores 4 R R sz96 R R R R R R (lN (_::_::_::_::bxl b9 [(sc A45 r43.Dims D45),(sc A46 r43.Strides D46),(iv r43.Offset),(iv r43.Base)] 96::_::W1) ?_))))
 refine l_nil (q_draw (fun w s=>(s.e 6 [5,0,1])) (dD (q_next (c_ret (q_blockr (q_ret ?_))))))
 obtain rfl:=so hr
 exact q_fin (vs:=[(.agg [(sc A45 r43.Dims D45),(sc A46 r43.Strides D46),(iv r43.Offset),(iv r43.Base)].toArray)]) (.inl R) ((A45,r43.Dims.length,D45),(A46,r43.Strides.length,D46)) R ⟨⟨4,b9,_,_,R,R,.inl ⟨ag96,sz96,R⟩⟩,trivial⟩ R (fun w s=>(((s.shr 2 R).shr 3 R).e 12 [1,0]))
 refine c_false R hb37 (c_skip (q_blockn (q_next (c_seq (c_region (lO (vz (.agg [(.slice none 0 0),(.slice none 0 0),(iv 0),(iv 0)].toArray) (v_build pl96 zc96 R R)) (l_stores 0 R R sz96 R R R R R R (lN (bxl b9 [(.slice none 0 0),(.slice none 0 0),(iv 0),(iv 0)] 96::_::_::_::W1) ?_))))))))
 refine l_nil (q_next (c_ret ?_))
 obtain rfl:=so hr
 exact q_fin (vs:=[(.agg [(.slice none 0 0),(.slice none 0 0),(iv 0),(iv 0)].toArray)]) (.inl R) ((none,0,0),(none,0,0)) R ⟨⟨0,b9,_,_,R,R,.inl ⟨ag96,sz96,R⟩⟩,trivial⟩ R (fun w s=>(((s.nilr kT3).nilr kT3).e 12 [1,0]))
theorem Z30_ok  {dims1:(List Int)}{strides3:(List Int)}{offset5:Int}{r:(List Int)×Int×(List Int)}(hr:Z30 dims1 strides3 offset5=some r) :
 FnOk Tryz.prog 157 [(.slice A2 N2 D2),(.slice A4 N4 D4),(iv offset5)] [rds kT3 (.slice A2 N2 D2) dims1,rds kT3 (.slice A4 N4 D4) strides3] (fun (h:HH×Nat×Nat×HH×Nat)=>((.func (.func 163) [].toArray [(pt h.2.1 0),(pt h.2.2.1 0),(pt h.2.2.2.2 0)].toArray),[rds kT3 (s3 h.1) r.1,bxl h.2.1 [(s3 h.1)] 23,bxl h.2.2.1 [(iv r.2.1)] 3,rds kT3 (s3 h.2.2.2.1) r.2.2,bxl h.2.2.2.2 [(s3 h.2.2.2.1)] 23])):=by
 unfold Z30 at hr
 refine fn_ok Tryz.func157 R 8 R R fun C V=>?_
 refine cL 0 sees_rd ?_
 rintro rfl
 refine cL 1 sees_rd ?_
 rintro rfl
 let W0:=RR kT3 A2 D2 dims1::RR kT3 A4 D4 strides3::V
 refine cN W0 ?_
 refine o_2 ?_
 refine l_box (cs:=[(sc A2 dims1 D2)]) R R R (fun b6=>(l_box (cs:=[(sc A4 strides3 D4)]) R R R (fun b7=>(l_box (cs:=[(iv offset5)]) R R R (fun b8=>(lO (vp _ R) (l_nil ?_)))))))
 let W1:=bxl b8 [(iv offset5)] 3::bxl b7 [(sc A4 strides3 D4)] 23::bxl b6 [(sc A2 dims1 D2)] 23::W0
 refine qN W1 ?_
 refine o_3 ?_
 refine lO (vp (.func (.func 163) [].toArray [(pt b6 0),(pt b8 0),(pt b7 0)].toArray) R) (lO (vp _ R) ?_)
 refine o_3 ?_
 cases hr
 exact qF ((A2,dims1.length,D2),b6,b8,(A4,strides3.length,D4),b7) (tE 5 [3,2,0,4,1])
theorem Z03_ok  {YS:Type}{YF:YS→Int→Option (YS×Bool)}{yield1:YS}{p2:(List Int)}{p5:Int}{p7:(List Int)}{b3:Nat}{b6:Nat}{b8:Nat}{YE:YS→HP}{yl:Nat}(hy:∀ s x q,YF s x=some q→YOk Tryz.prog yl [.int .i64 x] [YE s] (fun _:Unit=>(.bool q.2,[YE q.1]))){r:YS}(hr:Z03 YS YF yield1 p2 p5 p7=some r) :
 FnOk Tryz.prog 163 [(.func (.yield yl) #[] #[]),(pt b3 0),(pt b6 0),(pt b8 0)] [YE yield1,rds kT3 (.slice A4 N4 D4) p2,bxl b3 [(.slice A4 N4 D4)] 23,bxl b6 [(iv p5)] 3,rds kT3 (.slice A9 N9 D9) p7,bxl b8 [(.slice A9 N9 D9)] 23] (fun (h:Unit)=>((.tuple [].toArray),[YE r,bxl b3 [(.slice A4 N4 D4)] 23,bxl b6 [(iv p5)] 3,bxl b8 [(.slice A9 N9 D9)] 23])):=by
 unfold Z03 at hr
 refine fn_ok Tryz.func163 R 60 R R fun C V=>?_
 refine cM (YE yield1::bxl _ _ _::bxl _ _ _::bxl _ _ _::rds _ _ _::rds _ _ _::V) (tE 6 [0,2,3,5,1,4]) ?_
 refine cL 4 sees_rd ?_
 rintro rfl
 refine cL 5 sees_rd ?_
 rintro rfl
 let W0:=RR kT3 A4 D4 p2::RR kT3 A9 D9 p7::V
 refine o_1 ?_
 obtain ⟨hg10,hr⟩:=gd hr
 refine o_3 ?_
 refine l_make (K:=kT3) (m:=(p2.length:Int)) (z:=(0:Int)) R R sl23 sz3 by3 (Zr.zk zT3 zc3) (by decide) R R hg10.1 hg10.2.1 hg10.2.2 (fun A11 D11=>(lS R (l_nil ?_)))
 let W1:=bxl b3 [(sc A4 p2 D4)] 23::bxl b6 [(iv p5)] 3::bxl b8 [(sc A9 p7 D9)] 23::W0
 refine o_8 ?_
 obtain ⟨e1,hl1,hk1⟩:=bd hr
 refine c_loop (A:=Unit) hl1 (fun s a=>[(0,(.func (.yield yl) #[] #[])),(1,(pt b3 0)),(3,(pt b8 0)),(5,(sc A11 (List.replicate (p2.length:Int).toNat (0:Int)) D11)),(6,(iv s.2.1))]) (fun s a=>ow kT3 3 (.slice A11 (List.replicate (p2.length:Int).toNat (0:Int)).length D11) s.1::YE s.2.2::W1) () (aS R) tI ?_
 rintro ⟨index53,x54,y55⟩ _ σ1 out1 hr he1
 dsimp only [Z03_L1] at hr
 refine o_3 ?_
 obtain ⟨r56,hx57,hr⟩:=bd hr
 refine c_regy 2 R (fun _ _ h=>h) (lO (vp (.func (.yield yl) #[] #[]) R) (lI R (lM (YE y55::ow kT3 3 (.slice A11 (List.replicate (p2.length:Int).toNat (0:Int)).length D11) index53::W1) (tE 2 [1,0]) ?_)))
 refine l_nil (q_yield 1 R R (hy _ _ _ hx57) R (fun _ _ h=>h) R (fun _=>(lN (YE r56.1::_::W1) ?_)))
 refine o_3 ?_
 split at hr
 refine o_4 ?_
 cases hr
 obtain rfl:=he1 _ R
 have hr:=hk1
 refine o_2 ?_
 cases hr
 exact qT0 () (tE 7 [0,2,3,4])
 refine o_12 ?_
 refine c_cut (A:=((List Int)×Int×Int)×(Unit)) (fun a=>Z03_J2 YS YF r56 a.1.1 a.1.2.1 a.1.2.2=some out1) (fun a=>[(0,(.func (.yield yl) #[] #[])),(1,(pt b3 0)),(3,(pt b8 0)),(5,(sc A11 (List.replicate (p2.length:Int).toNat (0:Int)) D11)),(6,(iv a.1.2.1)),(7,(iv a.1.2.2))]) (fun a=>ow kT3 3 (.slice A11 (List.replicate (p2.length:Int).toNat (0:Int)).length D11) a.1.1::YE r56.1::W1) ?_ ?_
 refine o_1 ?_
 obtain ⟨e2,hl2,hk2⟩:=bd hr
 refine c_loop (A:=Unit) hl2 (fun s a=>[(0,(.func (.yield yl) #[] #[])),(1,(pt b3 0)),(3,(pt b8 0)),(5,(sc A11 (List.replicate (p2.length:Int).toNat (0:Int)) D11)),(6,(iv s.2.1)),(7,(iv s.2.2))]) (fun s a=>ow kT3 3 (.slice A11 (List.replicate (p2.length:Int).toNat (0:Int)).length D11) s.1::YE r56.1::W1) () (aS R) (tE 2 [1,0]) ?_
 rintro ⟨index74,x75,i76⟩ _ σ1 out2 hr he2
 dsimp only [Z03_L2] at hr
 refine o_7 ?_
 split at hr
 refine o_6 ?_
 obtain ⟨hg78,hr⟩:=gd hr
 refine o_3 ?_
 refine t_some 0 sees_ow (show 0<(List.replicate (p2.length:Int).toNat (0:Int)).length by have:=hg78; omega) (fun g79 o80 ha=>?_)
 subst ha
 refine o_4 ?_
 refine l_stx (K:=kT3) (x':=(w64 ((ix index74 i76)+1))) 0 i76 R R sz3 R R hg78.1 hg78.2 ?_ ?_
 exact fun I h s=>(mO3).put I h () (w64 ((ix index74 i76)+1)) s
 refine o_3 ?_
 obtain ⟨hg81,hr⟩:=gd hr
 refine o_4 ?_
 refine t_some 6 sees_rd (show 0<p7.length by have:=hg81; omega) (fun g82 o83 ha=>?_)
 subst ha
 refine o_8 ?_
 obtain ⟨hg84,hr⟩:=gd hr
 refine c_some 5 sees_rd (show 0<p2.length by have:=hg84; omega) (fun g85 o86 ha=>?_)
 subst ha
 refine cdr 9 [] mixo fun ht hn=>?_
 refine d9_ 0 [] ?_
 refine dD (q_next ?_)
 split at hr
 refine o_3 ?_
 refine q_pass R (q_exit ?_)
 cases hr
 obtain rfl:=he2 _ R
 have hr:=hk2
 refine o_2 ?_
 exact qI (((index74.set i76.toNat (w64 ((ix index74 i76)+1))),(w64 (x75+(ix p7 i76))),i76),()) hr tI
 refine o_4 ?_
 refine cdr 12 [] mixo fun ht hn=>?_
 refine d12_ 0 [] ?_
 refine dD ?_
 refine o_5 ?_
 refine l_stx (K:=kT3) (x':=(0:Int)) 0 i76 R R sz3 R R hg78.1 hg78.2 ?_ ?_
 exact fun I h s=>(mO3).put I h () (0:Int) s
 refine o_1 ?_
 obtain ⟨l88,hl89,hr⟩:=bd hr
 replace hl89:=Option.some.inj hl89
 refine qM (ow kT3 3 (.slice (ad g79 o80) (List.replicate (p2.length:Int).toNat (0:Int)).length D11) l88::_::W1) (fun w s=>by rw [← hl89]; exact s) ?_
 refine o_7 ?_
 cases hr
 exact qA () tI
 refine o_3 ?_
 cases hr
 obtain rfl:=he2 _ R
 have hr:=hk2
 refine o_2 ?_
 exact qI ((index74,x75,i76),()) hr tI
 rintro ⟨⟨index93,x94,i95⟩,_⟩ σ1 hr
 dsimp only [Z03_J2] at hr
 refine o_6 ?_
 split at hr
 refine o_3 ?_
 cases hr
 obtain rfl:=he1 _ R
 have hr:=hk1
 refine o_2 ?_
 cases hr
 exact qT0 () (fun w s=>(s.f 7 [1,4]))
 refine o_3 ?_
 cases hr
 exact qA () tI
theorem Z2d_ok  {v1:View}{r:(List Int)×(List pair)×Bool}(hr:Z2d v1=some r) :
 FnOk Tryz.prog 145 [(.agg [(.slice A2 N2 D2),(.slice A3 N3 D3),(iv v1.Offset),(iv v1.Base)].toArray)] [rds kT3 (.slice A2 N2 D2) v1.Dims,rds kT3 (.slice A3 N3 D3) v1.Strides] (fun (h:HH×HH)=>((.tuple [(s3 h.1),(s3 h.2),(.bool r.2.2)].toArray),[rds kT3 (s3 h.1) r.1,ow kT161 161 (s3 h.2) r.2.1])):=by
 unfold Z2d at hr
 refine fn_okm Tryz.func145 R 29 R R fun C V=>?_
 refine cL 0 sees_rd ?_
 rintro rfl
 refine cL 1 sees_rd ?_
 rintro rfl
 refine o_2 ?_
 refine lBx R fun b4=>?_
 refine o_7 ?_
 obtain ⟨r5,hx6,hr⟩:=bd hr
 refine o_2 ?_
 refine lM _ (fun w s=>(((s.d 1 R).d 3 R).e 5 [1,0,2,3,4])) ?_
 refine lC 2 cb156 R (Zf_ok hx6) R ?_
 rintro _
 refine o_3 ?_
 split at hr
 refine o_10 ?_
 cases hr
 exact qT3 ((none,0,0),(none,0,0)) (fun w s=>(((s.nilr kT3).nilo kT161 161).e 5 [1,0]))
 refine o_5 ?_
 refine l_build (K:=kT161) (xs:=([]:List pair)) (vs:=[]) 0 R R sl147 sz161 zc161 R R R R R R ?_ R (fun A8 D8=>?_)
 exact fun I h s=>(mO161).list [] I h s
 refine l_alloc R R zc147 (fun b9=>(l_store 0 R R sz147 R R R R R (lN (bxl b9 [(sc A8 ([]:List pair) D8)] 147::_::_::_::_::V) ?_)))
 refine o_2 ?_
 refine c_rseq ?_
 obtain ⟨r10,hx11,hr⟩:=bd hr
 refine o_7 ?_
 refine lM _ (fun w s=>(((s.d 3 R).d 5 R).f 7 [1,1,0,1,2,5])) ?_
 refine lC 2 cb157 R (Z30_ok hx11) R ?_
 rintro ⟨⟨A13,N13,D13⟩,b12,b14,⟨A16,N16,D16⟩,b15⟩
 refine l_len 0 sees_rd ?_
 rintro rfl
 refine l_len 3 sees_rd ?_
 rintro rfl
 refine o_1 ?_
 obtain ⟨r29,hx30,hr⟩:=bd hr
 let Ef:Nat→Loop→((List pair))→HP:=fun l rc s=>pe fun a:HH=>lpe l rc::[bxl b4 [(sc A2 v1.Dims D2),(sc A3 v1.Strides D3),(iv v1.Offset),(iv v1.Base)] 96,RR kT3 A2 D2 v1.Dims,RR kT3 A3 D3 v1.Strides,bxl b9 [(s3 a)] 147,ow kT161 161 (s3 a) s]
 refine q_range (Wc:=[RR kT3 A13 D13 r10.1,bxl b12 [(sc A13 r10.1 D13)] 23,bxl b14 [(iv r10.2.1)] 3,RR kT3 A16 D16 r10.2.2,bxl b15 [(sc A16 r10.2.2 D16)] 23,bxl b9 [(sc A8 ([]:List pair) D8)] 147,OO kT161 161 A8 D8 ([]:List pair),bxl b4 [(sc A2 v1.Dims D2),(sc A3 v1.Strides D3),(iv v1.Offset),(iv v1.Base)] 96,RR kT3 A2 D2 v1.Dims,RR kT3 A3 D3 v1.Strides]) (E:=fun l rc=>Ef l rc ([]:List pair)) (E':=fun l rc=>Ef l rc r29) (Pre':=[RR kT3 A13 D13 r10.1,bxl b12 [(sc A13 r10.1 D13)] 23,bxl b14 [(iv r10.2.1)] 3,RR kT3 A16 D16 r10.2.2,bxl b15 [(sc A16 r10.2.2 D16)] 23]) (W3:=[]) (cp:=fun (_:Unit)=>[bxl b12 [(sc A13 r10.1 D13)] 23,bxl b14 [(iv r10.2.1)] 3,bxl b15 [(sc A16 r10.2.2 D16)] 23]) (Wd:=fun a:HH=>[bxl b4 [(sc A2 v1.Dims D2),(sc A3 v1.Strides D3),(iv v1.Offset),(iv v1.Base)] 96,RR kT3 A2 D2 v1.Dims,RR kT3 A3 D3 v1.Strides,bxl b9 [(s3 a)] 147,ow kT161 161 (s3 a) r29]) R R cb163 (fun V w l rc s=>St.pei (A8,([]:List pair).length,D8) ((s.f 11 [0,1,8,3,6,2,1,5]))) ?_ (fun V w l rc x s=>let ⟨a,s⟩:=s.peo; ⟨a,s.e 9 [0,1,2,3,4,5]⟩) R ?_
 intro l rc hrec
 refine Z03_ok (YE:=Ef l rc) (yl:=l) ?_ hx30
 rintro pairs21 x23 q hr
 dsimp only [Z3o] at hr
 refine yok (fun a:HH=>[bxl b4 [(sc A2 v1.Dims D2),(sc A3 v1.Strides D3),(iv v1.Offset),(iv v1.Base)] 96,RR kT3 A2 D2 v1.Dims,RR kT3 A3 D3 v1.Strides,bxl b9 [(s3 a)] 147,ow kT161 161 (s3 a) pairs21]) (fun a:HH=>[bxl b4 [(sc A2 v1.Dims D2),(sc A3 v1.Strides D3),(iv v1.Offset),(iv v1.Base)] 96,RR kT3 A2 D2 v1.Dims,RR kT3 A3 D3 v1.Strides,bxl b9 [(s3 a)] 147,ow kT161 161 (s3 a) q.1]) hrec R R R ?_
 rintro ⟨A22,N22,D22⟩
 apply Exists.intro
 intro C V
 refine ⟨?_,?_⟩
 refine o_1 ?_
 exact l_nil q_mid
 refine l_len 4 sees_ow ?_
 rintro rfl
 obtain ⟨hg25,hr⟩:=gd hr
 refine o_4 ?_
 refine lO (vz (.agg [(iv x23),(il pairs21)].toArray) (v_build pl161 zc161 R R)) (l_build (K:=kT161) (xs:=([(⟨x23,(pairs21.length:Int)⟩:pair)]:List pair)) (vs:=[(.agg [(iv x23),(il pairs21)].toArray)]) 0 R R sl147 sz161 zc161 R R R R R R ?_ R (fun A24 D24=>?_))
 exact fun I h s=>(mO161).list [(((),()),(⟨x23,(pairs21.length:Int)⟩:pair))] I h s
 refine lM _ (fun w s=>(s.f 6 [5,1,0,5])) ?_
 refine l_app (K:=kT161) 8796093022208 R R sl147 sz161 by161 (Zr.zk zT161 zc161) R R R R R R src_ow hg25 (fun A26 D26=>(lN (OO kT161 161 A26 D26 (pairs21++([(⟨x23,(pairs21.length:Int)⟩:pair)]:List pair))::_::_::_::_::V) ?_))
 refine l_store 4 R R sz147 R R R R R (lN (_::_::_::_::bxl b9 [(sc A26 (pairs21++([(⟨x23,(pairs21.length:Int)⟩:pair)]:List pair)) D26)] 147::V) ?_)
 refine o_1 ?_
 cases hr
 exact q_rd (A26,(pairs21++([(⟨x23,(pairs21.length:Int)⟩:pair)]:List pair)).length,D26) R (fun w s=>(s.f 5 [1,4,0,1]))
 rintro ⟨A22,N22,D22⟩ Dm V
 refine cL 4 sees_ow ?_
 rintro rfl
 refine c_seq (cdr 6 [] mixo fun ht hn=>?_)
 refine d6_ 0 [] ?_
 refine dD ?_
 refine o_2 ?_
 cases hr
 exact q_endr (q_fin (vs:=[(sc A2 v1.Dims D2),(sc A22 r29 D22),(.bool true)]) (.inl R) ((A2,v1.Dims.length,D2),(A22,r29.length,D22)) R ⟨R,R,R,trivial⟩ R (tE 5 [1,4]))
theorem Z2p_ok  {n1:Node}{dims6:(List Int)}{r:(List Int)×(List pair)×Bool}(hr:Z2p n1 dims6=some r) :
 FnOk Tryz.prog 124 [(.agg [(iv n1.Op),(.slice A2 N2 D2),(.slice A3 N3 D3),(.slice A4 N4 D4),(vstr n1.Form),(.slice A5 N5 D5)].toArray),(.slice A7 N7 D7)] [rds kT3 (.slice A2 N2 D2) n1.Args,rds kT3 (.slice A3 N3 D3) n1.Dims,rds kT3 (.slice A4 N4 D4) n1.Ints,rds kT3 (.slice A5 N5 D5) n1.Data,rds kT3 (.slice A7 N7 D7) dims6] (fun (h:HH×HH)=>((.tuple [(s3 h.1),(s3 h.2),(.bool r.2.2)].toArray),[rds kT3 (s3 h.1) r.1,ow kT161 161 (s3 h.2) r.2.1])):=by
 unfold Z2p at hr
 refine fn_ok Tryz.func124 R 14 R R fun C V=>?_
 refine cL 0 sees_rd ?_
 rintro rfl
 refine cL 1 sees_rd ?_
 rintro rfl
 refine cL 2 sees_rd ?_
 rintro rfl
 refine cL 3 sees_rd ?_
 rintro rfl
 refine cL 4 sees_rd ?_
 rintro rfl
 let W0:=RR kT3 A2 D2 n1.Args::RR kT3 A3 D3 n1.Dims::RR kT3 A4 D4 n1.Ints::RR kT3 A5 D5 n1.Data::RR kT3 A7 D7 dims6::V
 refine cN W0 ?_
 refine o_2 ?_
 refine lBx R fun b8=>?_
 refine o_4 ?_
 let W1:=bxl b8 [(iv n1.Op),(sc A2 n1.Args D2),(sc A3 n1.Dims D3),(sc A4 n1.Ints D4),(vstr n1.Form),(sc A5 n1.Data D5)] 54::W0
 refine qN W1 ?_
 refine o_2 ?_
 obtain ⟨r9,hx10,hr⟩:=bd hr
 obtain ⟨r13,hx14,hr⟩:=bd hr
 refine o_3 ?_
 refine lM _ (fun w s=>((((((s.d 1 R).d 3 R).d 5 R).d 7 R).d 9 R).e 5 [4,3,2,1,0])) ?_
 refine lC 5 cb146 R (Z19_ok hx10) R ?_
 rintro ⟨⟨A11,N11,D11⟩,⟨A12,N12,D12⟩⟩
 refine l_len 0 sees_rd ?_
 rintro rfl
 refine l_len 1 sees_rd ?_
 rintro rfl
 refine lM _ (fun w s=>(((s.d 0 R).d 2 R).e 4 [1,0,2,3])) ?_
 refine lC 2 cb145 R (Z2d_ok hx14) R ?_
 rintro ⟨⟨A15,N15,D15⟩,⟨A16,N16,D16⟩⟩
 refine l_len 0 sees_rd ?_
 rintro rfl
 refine l_len 1 sees_ow ?_
 rintro rfl
 refine o_9 ?_
 cases hr
 exact qT3 ((A15,r13.1.length,D15),(A16,r13.2.1.length,D16)) (tE 10 [0,1])
theorem Z1p_ok  {k1:shiftKind}{n2:Node}{args7:(List (List Int))}{r:(List Int)×Bool}(hr:Z1p k1 n2 args7=some r) :
 FnOk Tryz.prog 220 [(.agg [(vstr k1.use),(.func (.func 124) [].toArray [].toArray)].toArray),(.agg [(iv n2.Op),(.slice A3 N3 D3),(.slice A4 N4 D4),(.slice A5 N5 D5),(vstr n2.Form),(.slice A6 N6 D6)].toArray),(.slice A8 N8 D8)] [rds kT3 (.slice A3 N3 D3) n2.Args,rds kT3 (.slice A4 N4 D4) n2.Dims,rds kT3 (.slice A5 N5 D5) n2.Ints,rds kT3 (.slice A6 N6 D6) n2.Data,rds kT23 (.slice A8 N8 D8) args7] (fun (h:HH)=>((.tuple [(s3 h),(.bool r.2)].toArray),[rds kT3 (s3 h) r.1])):=by
 unfold Z1p at hr
 refine fn_ok Tryz.func220 R 27 R R fun C V=>?_
 refine cL 0 sees_rd ?_
 rintro rfl
 refine cL 1 sees_rd ?_
 rintro rfl
 refine cL 2 sees_rd ?_
 rintro rfl
 refine cL 3 sees_rd ?_
 rintro rfl
 refine cL 4 sees_rd ?_
 rintro rfl
 let W0:=RR kT3 A3 D3 n2.Args::RR kT3 A4 D4 n2.Dims::RR kT3 A5 D5 n2.Ints::RR kT3 A6 D6 n2.Data::RR kT23 A8 D8 args7::V
 refine cN W0 ?_
 refine o_2 ?_
 refine lBx R fun b9=>?_
 refine lBx R fun b10=>?_
 refine o_3 ?_
 let W1:=bxl b10 [(iv n2.Op),(sc A3 n2.Args D3),(sc A4 n2.Dims D4),(sc A5 n2.Ints D5),(vstr n2.Form),(sc A6 n2.Data D6)] 54::bxl b9 [(vstr k1.use),(.func (.func 124) [].toArray [].toArray)] 145::W0
 refine qN W1 ?_
 refine o_9 ?_
 split at hr
 refine o_9 ?_
 cases hr
 exact qT2 (none,0,0) (fun w s=>((s.nilr kT3).e 8 [0]))
 refine o_4 ?_
 obtain ⟨hg12,hr⟩:=gd hr
 obtain ⟨r16,hx17,hr⟩:=bd hr
 refine c_some 6 sees_rd (show 0<args7.length by have:=hg12; omega) (fun g13 o14 ha=>?_)
 subst ha
 refine c_elem (K:=kT23) 6 (0:Int) dT23.dec R hg12.1 hg12.2 ?_
 rintro ⟨A15,D15⟩
 refine cdr 14 [] mixo fun ht hn=>?_
 refine d5_ 0 [] ?_
 refine dR 5 R (v_clf (fo:=0) 0 ag23 R R R) (d1 6 R (lM _ (fun w s=>((((((s.d 4 R).d 6 R).d 8 R).d 10 R).d 5 R).e 7 [4,3,2,1,0,5,6])) ?_))
 refine l_callvn (fs:=[]) (cs:=[]) 5 R R cb124 R R (Z2p_ok hx17) R ?_
 rintro ⟨⟨A18,N18,D18⟩,⟨A19,N19,D19⟩⟩
 refine l_len 0 sees_rd ?_
 rintro rfl
 refine l_len 1 sees_ow ?_
 rintro rfl
 refine l_nil (q_draw (sL [1,0]) (dR 7 R (vT R) (hS:=(sL [1,0])) ?_))
 refine d6_ 8 [1,0] ?_
 refine dD ?_
 refine o_10 ?_
 cases hr
 exact qT2 (A18,r16.1.length,D18) (tE 11 [0])
theorem Z0x_ok  {n1:Node}{dims6:(List Int)}{r:(List Int)×(List pair)×Bool}(hr:Z0x n1 dims6=some r) :
 FnOk Tryz.prog 125 [(.agg [(iv n1.Op),(.slice A2 N2 D2),(.slice A3 N3 D3),(.slice A4 N4 D4),(vstr n1.Form),(.slice A5 N5 D5)].toArray),(.slice A7 N7 D7)] [rds kT3 (.slice A2 N2 D2) n1.Args,rds kT3 (.slice A3 N3 D3) n1.Dims,rds kT3 (.slice A4 N4 D4) n1.Ints,rds kT3 (.slice A5 N5 D5) n1.Data,rds kT3 (.slice A7 N7 D7) dims6] (fun (h:HH×HH)=>((.tuple [(s3 h.1),(s3 h.2),(.bool r.2.2)].toArray),[rds kT3 (s3 h.1) r.1,ow kT161 161 (s3 h.2) r.2.1])):=by
 unfold Z0x at hr
 refine fn_ok Tryz.func125 R 37 R R fun C V=>?_
 refine cL 0 sees_rd ?_
 rintro rfl
 refine cL 1 sees_rd ?_
 rintro rfl
 refine cL 2 sees_rd ?_
 rintro rfl
 refine cL 3 sees_rd ?_
 rintro rfl
 refine cL 4 sees_rd ?_
 rintro rfl
 let W0:=RR kT3 A2 D2 n1.Args::RR kT3 A3 D3 n1.Dims::RR kT3 A4 D4 n1.Ints::RR kT3 A5 D5 n1.Data::RR kT3 A7 D7 dims6::V
 refine cN W0 ?_
 refine o_2 ?_
 refine lBx R fun b8=>?_
 refine o_4 ?_
 let W1:=bxl b8 [(iv n1.Op),(sc A2 n1.Args D2),(sc A3 n1.Dims D3),(sc A4 n1.Ints D4),(vstr n1.Form),(sc A5 n1.Data D5)] 54::W0
 refine qN W1 ?_
 refine o_3 ?_
 obtain ⟨r9,hx10,hr⟩:=bd hr
 obtain ⟨r11,hx12,hr⟩:=bd hr
 obtain ⟨r13,hx14,hr⟩:=bd hr
 refine cQ [(1,(sc A7 dims6 D7)),(2,(pt b8 0)),(20,(.bool ((!r9)||(r11 != r13))))] (W1) ?_ ?_
 refine o_3 ?_
 refine lM _ (fun w s=>(s.d 2 R)) ?_
 refine lC 1 cb147 R (Zb_ok hx10) R ?_
 rintro _
 refine lN W1 ?_
 refine o_2 ?_
 rcases bo (!r9) with hc15 | hc15
 refine o_8 ?_
 exact qj tI
 refine o_2 ?_
 refine lM _ (fun w s=>(s.d 2 R)) ?_
 refine l_calln 1 R (wnF hc15) cb148 R (Zk_ok (gcall_t hx12 (not_ff hc15))) R ?_
 rintro _
 refine lN W1 ?_
 refine o_1 ?_
 refine lM _ (fun w s=>(s.d 5 R)) ?_
 refine l_calln 1 R (wnF hc15) cb148 R (Zk_ok (gcall_t hx14 (not_ff hc15))) R ?_
 rintro _
 refine lN W1 ?_
 refine o_3 ?_
 exact qj tI
 rintro σ1
 refine o_1 ?_
 split at hr
 refine o_10 ?_
 cases hr
 exact qT3 ((none,0,0),(none,0,0)) (fun w s=>(((s.nilr kT3).nilo kT161 161).e 8 [1,0]))
 refine o_5 ?_
 refine l_build (K:=kT161) (xs:=([]:List pair)) (vs:=[]) 0 R R sl147 sz161 zc161 R R R R R R ?_ R (fun A17 D17=>?_)
 exact fun I h s=>(mO161).list [] I h s
 refine o_4 ?_
 refine c_cut (A:=((List pair))×(HH)) (fun a=>Z0x_J1 n1 a.1=some r) (fun a=>[(2,(pt b8 0)),(7,(s3 a.2))]) (fun a=>ow kT161 161 (s3 a.2) a.1::W1) ?_ ?_
 refine o_1 ?_
 obtain ⟨r18,hx19,hr⟩:=bd hr
 refine o_2 ?_
 refine lM _ (fun w s=>(s.d 6 R)) ?_
 refine lC 1 cb148 R (Zk_ok hx19) R ?_
 rintro _
 refine o_4 ?_
 obtain ⟨e1,hl1,hk1⟩:=bd hr
 refine c_loop (A:=HH) hl1 (fun s a=>[(2,(pt b8 0)),(7,(s3 a)),(23,(iv r18)),(24,(iv s.2))]) (fun s a=>ow kT161 161 (s3 a) s.1::W1) (A17,([]:List pair).length,D17) (aS R) tI ?_
 rintro ⟨pairs24,x26⟩ ⟨A25,N25,D25⟩ σ1 out1 hr he1
 dsimp only [Z0x_L1] at hr
 refine c_len 0 sees_ow (fun (hn:N25=pairs24.length)=>?_)
 subst hn
 refine o_6 ?_
 split at hr
 refine o_11 ?_
 obtain ⟨hg29,hr⟩:=gd hr
 refine o_4 ?_
 refine lO (vz (.agg [(iv x26),(iv x26)].toArray) (v_build pl161 zc161 R R)) (l_build (K:=kT161) (xs:=([(⟨x26,x26⟩:pair)]:List pair)) (vs:=[(.agg [(iv x26),(iv x26)].toArray)]) 0 R R sl147 sz161 zc161 R R R R R R ?_ R (fun A28 D28=>?_))
 exact fun I h s=>(mO161).list [(((),()),(⟨x26,x26⟩:pair))] I h s
 refine lM _ (tE 2 [1,0]) ?_
 refine l_app (K:=kT161) 8796093022208 R R sl147 sz161 by161 (Zr.zk zT161 zc161) R R R R R R src_ow hg29 (fun A30 D30=>(lN (OO kT161 161 A30 D30 (pairs24++([(⟨x26,x26⟩:pair)]:List pair))::W1) ?_))
 refine o_8 ?_
 cases hr
 exact qA (A30,(pairs24++([(⟨x26,x26⟩:pair)]:List pair)).length,D30) tI
 refine o_3 ?_
 cases hr
 obtain rfl:=he1 _ R
 have hr:=hk1
 refine o_2 ?_
 exact qI (pairs24,(A25,pairs24.length,D25)) hr tI
 rintro ⟨pairs34,⟨A35,N35,D35⟩⟩ σ1 hr
 dsimp only [Z0x_J1] at hr
 refine c_len 0 sees_ow (fun (hn:N35=pairs34.length)=>?_)
 subst hn
 refine o_11 ?_
 cases hr
 exact qT3 ((A3,n1.Dims.length,D3),(A35,pairs34.length,D35)) (tE 7 [3,0])
theorem Z21_ok  {k1:shiftKind}{n2:Node}{args7:(List (List Int))}{r:(List Int)×Bool}(hr:Z21 k1 n2 args7=some r) :
 FnOk Tryz.prog 220 [(.agg [(vstr k1.use),(.func (.func 125) [].toArray [].toArray)].toArray),(.agg [(iv n2.Op),(.slice A3 N3 D3),(.slice A4 N4 D4),(.slice A5 N5 D5),(vstr n2.Form),(.slice A6 N6 D6)].toArray),(.slice A8 N8 D8)] [rds kT3 (.slice A3 N3 D3) n2.Args,rds kT3 (.slice A4 N4 D4) n2.Dims,rds kT3 (.slice A5 N5 D5) n2.Ints,rds kT3 (.slice A6 N6 D6) n2.Data,rds kT23 (.slice A8 N8 D8) args7] (fun (h:HH)=>((.tuple [(s3 h),(.bool r.2)].toArray),[rds kT3 (s3 h) r.1])):=by
 unfold Z21 at hr
 refine fn_ok Tryz.func220 R 27 R R fun C V=>?_
 refine cL 0 sees_rd ?_
 rintro rfl
 refine cL 1 sees_rd ?_
 rintro rfl
 refine cL 2 sees_rd ?_
 rintro rfl
 refine cL 3 sees_rd ?_
 rintro rfl
 refine cL 4 sees_rd ?_
 rintro rfl
 let W0:=RR kT3 A3 D3 n2.Args::RR kT3 A4 D4 n2.Dims::RR kT3 A5 D5 n2.Ints::RR kT3 A6 D6 n2.Data::RR kT23 A8 D8 args7::V
 refine cN W0 ?_
 refine o_2 ?_
 refine lBx R fun b9=>?_
 refine lBx R fun b10=>?_
 refine o_3 ?_
 let W1:=bxl b10 [(iv n2.Op),(sc A3 n2.Args D3),(sc A4 n2.Dims D4),(sc A5 n2.Ints D5),(vstr n2.Form),(sc A6 n2.Data D6)] 54::bxl b9 [(vstr k1.use),(.func (.func 125) [].toArray [].toArray)] 145::W0
 refine qN W1 ?_
 refine o_9 ?_
 split at hr
 refine o_9 ?_
 cases hr
 exact qT2 (none,0,0) (fun w s=>((s.nilr kT3).e 8 [0]))
 refine o_4 ?_
 obtain ⟨hg12,hr⟩:=gd hr
 obtain ⟨r16,hx17,hr⟩:=bd hr
 refine c_some 6 sees_rd (show 0<args7.length by have:=hg12; omega) (fun g13 o14 ha=>?_)
 subst ha
 refine c_elem (K:=kT23) 6 (0:Int) dT23.dec R hg12.1 hg12.2 ?_
 rintro ⟨A15,D15⟩
 refine cdr 14 [] mixo fun ht hn=>?_
 refine d5_ 0 [] ?_
 refine dR 5 R (v_clf (fo:=0) 0 ag23 R R R) (d1 6 R (lM _ (fun w s=>((((((s.d 4 R).d 6 R).d 8 R).d 10 R).d 5 R).e 7 [4,3,2,1,0,5,6])) ?_))
 refine l_callvn (fs:=[]) (cs:=[]) 5 R R cb125 R R (Z0x_ok hx17) R ?_
 rintro ⟨⟨A18,N18,D18⟩,⟨A19,N19,D19⟩⟩
 refine l_len 0 sees_rd ?_
 rintro rfl
 refine l_len 1 sees_ow ?_
 rintro rfl
 refine l_nil (q_draw (sL [1,0]) (dR 7 R (vT R) (hS:=(sL [1,0])) ?_))
 refine d6_ 8 [1,0] ?_
 refine dD ?_
 refine o_10 ?_
 cases hr
 exact qT2 (A18,r16.1.length,D18) (tE 11 [0])
theorem Z1i_ok  {dims1:(List Int)}{axis3:Int}{n4:Int}{r:(List Int)}(hr:Z1i dims1 axis3 n4=some r) :
 FnOk Tryz.prog 151 [(.slice A2 N2 D2),(iv axis3),(iv n4)] [rds kT3 (.slice A2 N2 D2) dims1] (fun (h:HH)=>((s3 h),[ow kT3 3 (s3 h) r])):=by
 unfold Z1i at hr
 refine fn_ok Tryz.func151 R 15 R R fun C V=>?_
 refine cL 0 sees_rd ?_
 rintro rfl
 let W0:=RR kT3 A2 D2 dims1::V
 refine cN W0 ?_
 refine o_6 ?_
 obtain ⟨r5,hx6,hr⟩:=bd hr
 refine o_2 ?_
 refine lM _ (fun w s=>(s.d 0 R)) ?_
 refine lC 1 cb64 R (Zm_ok hx6) R ?_
 rintro ⟨A7,N7,D7⟩
 refine l_len 0 sees_ow ?_
 rintro rfl
 refine o_4 ?_
 obtain ⟨hg8,hr⟩:=gd hr
 refine o_4 ?_
 refine t_some 0 sees_ow (show 0<r5.length by have:=hg8; omega) (fun g9 o10 ha=>?_)
 subst ha
 refine o_1 ?_
 refine l_stx (K:=kT3) (x':=n4) 0 axis3 R R sz3 R R hg8.1 hg8.2 ?_ ?_
 exact fun I h s=>(mO3).put I h () n4 s
 refine o_9 ?_
 cases hr
 exact qF ((ad g9 o10),r5.length,D7) (tE 2 [0])
theorem Z1z_ok  {dims1:(List Int)}{axis3:Int}{r:Int×Int×Int}(hr:Z1z dims1 axis3=some r) :
 FnOk Tryz.prog 153 [(.slice A2 N2 D2),(iv axis3)] [rds kT3 (.slice A2 N2 D2) dims1] (fun (h:Unit)=>((.tuple [(iv r.1),(iv r.2.1),(iv r.2.2)].toArray),[])):=by
 unfold Z1z at hr
 refine fn_ok Tryz.func153 R 20 R R fun C V=>?_
 refine cL 0 sees_rd ?_
 rintro rfl
 let W0:=RR kT3 A2 D2 dims1::V
 refine cN W0 ?_
 refine o_8 ?_
 obtain ⟨hg4,hr⟩:=gd hr
 obtain ⟨r6,hx7,hr⟩:=bd hr
 obtain ⟨hg8,hr⟩:=gd hr
 obtain ⟨hg11,hr⟩:=gd hr
 obtain ⟨r13,hx14,hr⟩:=bd hr
 refine cQ [(4,(iv r6)),(5,(iv (ix dims1 axis3))),(6,(iv r13))] (W0) ?_ ?_
 refine c_some 0 sees_rd (show 0<dims1.length by have:=hg8; omega) (fun g9 o10 ha=>?_)
 subst ha
 refine cdr 16 [] mixo fun ht hn=>?_
 refine d2_ 0 [] ?_
 refine d7_ 4 [] ?_
 refine d_all [2,11] (by kernel_rfl) R ⟨?_,?_,trivial⟩
 refine l_cut (K:=kT3) (0:Int) axis3 0 R R sl23 sz3 R R R R hg4.1 hg4.2.1 hg4.2.2 (fun A5 D5=>(l_nil (q_draw (sL [0]) (d_all [3,11] (by kernel_rfl) R ⟨?_,?_,trivial⟩))))
 refine lM _ (fun w s=>(s.d 0 R)) ?_
 refine lC 1 cb148 R (Zk_ok hx7) R ?_
 rintro _
 refine l_nil (q_draw (sL [0]) (d1 11 R (l_cut (K:=kT3) (w64 (axis3+1)) (dims1.length:Int) 1 R R sl23 sz3 R R R R hg11.1 hg11.2.1 hg11.2.2 (fun A12 D12=>(l_nil (q_draw (sL [1,0]) (d1 12 R (lM _ (fun w s=>(s.d 0 R)) ?_))))))))
 refine lC 1 cb148 R (Zk_ok hx14) R ?_
 rintro _
 refine l_nil (q_draw (sL [1,0]) ?_)
 refine d3_ 13 [1,0] ?_
 refine dD ?_
 exact qj (tE 2 [])
 refine l_cut (K:=kT3) (w64 (axis3+1)) (dims1.length:Int) 1 R R sl23 sz3 R R R R hg11.1 hg11.2.1 hg11.2.2 (fun A12 D12=>(l_nil (q_draw (sL [1,0]) (d1 3 R (lM _ (fun w s=>(s.d 1 R)) ?_)))))
 refine lC 1 cb148 R (Zk_ok hx7) R ?_
 rintro _
 refine l_nil (q_draw (sL [1,0]) (d1 12 R (lM _ (fun w s=>(s.d 0 R)) ?_)))
 refine lC 1 cb148 R (Zk_ok hx14) R ?_
 rintro _
 refine l_nil (q_draw (sL [1,0]) ?_)
 refine d3_ 13 [1,0] ?_
 refine dD ?_
 exact qj (tE 2 [])
 refine l_cut (K:=kT3) (w64 (axis3+1)) (dims1.length:Int) 0 R R sl23 sz3 R R R R hg11.1 hg11.2.1 hg11.2.2 (fun A12 D12=>(l_nil (q_draw (sL [0]) (d1 2 R (l_cut (K:=kT3) (0:Int) axis3 1 R R sl23 sz3 R R R R hg4.1 hg4.2.1 hg4.2.2 (fun A5 D5=>(l_nil (q_draw (sL [1,0]) (d1 3 R (lM _ (fun w s=>(s.d 0 R)) ?_))))))))))
 refine lC 1 cb148 R (Zk_ok hx7) R ?_
 rintro _
 refine l_nil (q_draw (sL [1,0]) (d1 12 R (lM _ (fun w s=>(s.d 1 R)) ?_)))
 refine lC 1 cb148 R (Zk_ok hx14) R ?_
 rintro _
 refine l_nil (q_draw (sL [1,0]) ?_)
 refine d3_ 13 [1,0] ?_
 refine dD ?_
 exact qj (tE 2 [])
 rintro σ1
 refine o_2 ?_
 cases hr
 exact qT3 () (tE 1 [])
theorem Z7_ok  {dims1:(List Int)}{axis3:Int}{n4:Int}{list5:(List pair)}{r:(List pair)}(hr:Z7 dims1 axis3 n4 list5=some r) :
 FnOk Tryz.prog 152 [(.slice A2 N2 D2),(iv axis3),(iv n4),(.slice A6 N6 D6)] [rds kT3 (.slice A2 N2 D2) dims1,rds kT161 (.slice A6 N6 D6) list5] (fun (h:HH)=>((.slice h.1 h.2.1 h.2.2),[ow kT161 161 (.slice h.1 h.2.1 h.2.2) r])):=by
 unfold Z7 at hr
 refine fn_ok Tryz.func152 R 73 R R fun C V=>?_
 refine cN (_::_::V) ?_
 refine cL 0 sees_rd ?_
 rintro rfl
 refine cL 1 sees_rd ?_
 rintro rfl
 let W0:List HP:=RR kT3 A2 D2 dims1::RR kT161 A6 D6 list5::V
 refine cN W0 ?_
 refine c_seq (c_region (lS R (l_nil (q_next (c_seq ?_)))))
 obtain ⟨r7,hx8,hr⟩:=bd hr
 refine c_region (lS R (lI R (lM (RR kT3 A2 D2 dims1::W0) (fun w s=>(s.d 0 R)) ?_)))
 refine lC 1 cb153 R (Z1z_ok hx8) R ?_
 rintro _
 refine lN W0 ?_
 refine lO (vT R) (lI R (lI R (lI R (lI R (lI R (lI R (l_nil (q_next (c_seq ?_)))))))))
 obtain ⟨hg9,hr⟩:=gd hr
 refine c_region (lI R (lI R (lO (vMu R R) (lS R (lO (v_len sl147 R) (lO (vMu R R) (l_makec (K:=kT161) (m:=(w64 ((w64 (r7.1*r7.2.2))*(list5.length:Int)))) (z:=zT161.z) R R sl147 sz161 by161 (Zr.zk zT161 zc161) (by decide) R R hg9.1 hg9.2.1 hg9.2.2 (fun A10 D10=>(lS R (l_nil (q_next (c_seq (c_cut (A:=((List pair))×(HH)) (fun a=>Z7_J7 a.1=some r) (fun a=>[(12,(.slice a.2.1 a.2.2.1 a.2.2.2))]) (fun a=>ow kT161 161 (.slice a.2.1 a.2.2.1 a.2.2.2) a.1::W0) ?_ ?_)))))))))))))
 refine c_seq (c_region (lI R (l_nil (q_next (c_block ?_)))))
 obtain ⟨e1,hl1,hk1⟩:=bd hr
 refine c_loop (A:=HH×HH) hl1 (fun s a=>[(2,(iv n4)),(3,(.slice a.1.1 a.1.2.1 a.1.2.2)),(9,(iv r7.1)),(10,(iv r7.2.1)),(11,(iv r7.2.2)),(12,(.slice a.2.1 a.2.2.1 a.2.2.2)),(13,(iv s.2))]) (fun s a=>rds kT161 (.slice a.1.1 a.1.2.1 a.1.2.2) list5::ow kT161 161 (.slice a.2.1 a.2.2.1 a.2.2.2) s.1::W0) ((A6,list5.length,D6),(A10,([]:List pair).length,D10)) (aS R) (fun w s=>(s.d 2 R)) ?_
 rintro ⟨x68,i70⟩ ⟨⟨A67,N67,D67⟩,⟨A69,N69,D69⟩⟩ σ1 out1 hr he1
 replace hr:Z7_L1 n4 list5 r7 x68 i70=some out1:=hr
 unfold Z7_L1 at hr
 refine c_len 0 sees_rd (fun (hn:N67=list5.length)=>?_)
 subst hn
 refine c_len 1 sees_ow (fun (hn:N69=x68.length)=>?_)
 subst hn
 refine c_seq (c_seq (c_region (lI R (lI R (lO (vLt R R) (l_nil (q_next ?_)))))))
 rcases bif_ hr with ⟨hb71,hr⟩|⟨hb71,hr⟩
 refine c_true R hb71 (c_skip (q_next (c_seq (c_cut (A:=((List pair))×(HH×HH)) (fun a=>Z7_J6 i70 a.1=some out1) (fun a=>[(2,(iv n4)),(3,(.slice a.2.1.1 a.2.1.2.1 a.2.1.2.2)),(9,(iv r7.1)),(10,(iv r7.2.1)),(11,(iv r7.2.2)),(12,(.slice a.2.2.1 a.2.2.2.1 a.2.2.2.2)),(13,(iv i70))]) (fun a=>rds kT161 (.slice a.2.1.1 a.2.1.2.1 a.2.1.2.2) list5::ow kT161 161 (.slice a.2.2.1 a.2.2.2.1 a.2.2.2.2) a.1::W0) ?_ ?_))))
 refine c_block (c_seq (c_region (lS R (lO (v_len sl147 R) (lI R (l_nil (q_next (c_block ?_))))))))
 obtain ⟨e2,hl2,hk2⟩:=bd hr
 refine c_loop (A:=HH×HH) hl2 (fun s a=>[(2,(iv n4)),(3,(.slice a.1.1 a.1.2.1 a.1.2.2)),(9,(iv r7.1)),(10,(iv r7.2.1)),(11,(iv r7.2.2)),(12,(.slice a.2.1 a.2.2.1 a.2.2.2)),(13,(iv i70)),(36,(.slice a.1.1 a.1.2.1 a.1.2.2)),(37,(il list5)),(38,(iv s.2))]) (fun s a=>rds kT161 (.slice a.1.1 a.1.2.1 a.1.2.2) list5::ow kT161 161 (.slice a.2.1 a.2.2.1 a.2.2.2) s.1::W0) ((A67,list5.length,D67),(A69,x68.length,D69)) (aS R) (fun w s=>s) ?_
 rintro ⟨x95,x97⟩ ⟨⟨A94,N94,D94⟩,⟨A96,N96,D96⟩⟩ σ1 out2 hr he2
 replace hr:Z7_L2 n4 list5 r7 i70 x95 x97=some out2:=hr
 unfold Z7_L2 at hr
 refine c_len 0 sees_rd (fun (hn:N94=list5.length)=>?_)
 subst hn
 refine c_len 1 sees_ow (fun (hn:N96=x95.length)=>?_)
 subst hn
 refine c_seq (c_region (lO (vLt R R) (l_nil (q_next (c_seq ?_)))))
 rcases bif_ hr with ⟨hb98,hr⟩|⟨hb98,hr⟩
 refine c_true R hb98 (c_skip (q_next (c_seq (c_cut (A:=((List pair))×(HH×HH)) (fun a=>Z7_J5 x97 a.1=some out2) (fun a=>[(2,(iv n4)),(3,(.slice a.2.1.1 a.2.1.2.1 a.2.1.2.2)),(9,(iv r7.1)),(10,(iv r7.2.1)),(11,(iv r7.2.2)),(12,(.slice a.2.2.1 a.2.2.2.1 a.2.2.2.2)),(13,(iv i70)),(36,(.slice a.2.1.1 a.2.1.2.1 a.2.1.2.2)),(37,(il list5)),(38,(iv x97))]) (fun a=>rds kT161 (.slice a.2.1.1 a.2.1.2.1 a.2.1.2.2) list5::ow kT161 161 (.slice a.2.2.1 a.2.2.2.1 a.2.2.2.2) a.1::W0) ?_ ?_))))
 refine c_block (c_seq ?_)
 obtain ⟨hg99,hr⟩:=gd hr
 refine c_region (t_some 0 sees_rd (show 0<list5.length by have:=hg99; omega) (fun g100 o101 ha=>?_))
 subst ha
 refine lO (vIa sl147 sz161 R R hg99) (l_v (.agg [(iv (ix list5 x97).from_),(iv (ix list5 x97).to)].toArray) ?_ R R ?_)
 exact (v_ldef (K:=kT161) (cells:=fun x=>[(iv x.from_),(iv x.to)]) 0 x97 ag161 sz161 (DecK.flat dT161 fun _ _=>R) sees_rd R hg99.1 hg99.2)
 refine l_alloc R R zc161 (fun b102=>(l_stores 0 R R sz161 R R R R R R (lN (bxl b102 [(iv (ix list5 x97).from_),(iv (ix list5 x97).to)] 161::RR kT161 (ad g100 o101) D94 list5::OO kT161 161 A96 D96 x95::W0) ?_)))
 refine l_nil (q_next (c_seq (c_region (lI R (l_nil (q_next (c_block ?_)))))))
 obtain ⟨e3,hl3,hk3⟩:=bd hr
 refine c_loop (A:=HH) hl3 (fun s a=>[(2,(iv n4)),(3,(sc (ad g100 o101) list5 D94)),(9,(iv r7.1)),(10,(iv r7.2.1)),(11,(iv r7.2.2)),(12,(.slice a.1 a.2.1 a.2.2)),(13,(iv i70)),(15,(pt b102 0)),(16,(iv s.2)),(36,(sc (ad g100 o101) list5 D94)),(37,(il list5)),(38,(iv x97))]) (fun s a=>RR kT161 (ad g100 o101) D94 list5::ow kT161 161 (.slice a.1 a.2.1 a.2.2) s.1::bxl b102 [(iv (ix list5 x97).from_),(iv (ix list5 x97).to)] 161::W0) (A96,x95.length,D96) (aS R) (fun w s=>(s.e 3 [1,2,0])) ?_
 rintro ⟨x107,j109⟩ ⟨A108,N108,D108⟩ σ1 out3 hr he3
 replace hr:Z7_L3 n4 list5 r7 i70 x97 x107 j109=some out3:=hr
 unfold Z7_L3 at hr
 refine c_len 1 sees_ow (fun (hn:N108=x107.length)=>?_)
 subst hn
 refine c_seq (c_seq (c_region (lI R (lI R (lO (vLt R R) (l_nil (q_next ?_)))))))
 rcases bif_ hr with ⟨hb110,hr⟩|⟨hb110,hr⟩
 refine c_true R hb110 (c_skip (q_next (c_seq (c_block ?_))))
 obtain ⟨hg112,hr⟩:=gd hr
 refine c_region (lS R (lI R (lI R (lO (vMu R R) (lO (vFa 0 fo161_0 R) (lO (vLd 2 ag3 R R R) (lO (vAd R R) (lI R (lO (vMu R R) (lI R (lO (vAd R R) (lI R (lI R (lO (vMu R R) (lO (vFa 1 fo161_1 R) (lO (vLd 2 ag3 R R R) (lO (vAd R R) (lI R (lO (vMu R R) (lI R (lO (vAd R R) (lO (vz (.agg [(iv (w64 ((w64 ((w64 ((w64 (i70*r7.2.1))+(ix list5 x97).from_))*r7.2.2))+j109))),(iv (w64 ((w64 ((w64 ((w64 (i70*n4))+(ix list5 x97).to))*r7.2.2))+j109)))].toArray) (v_build pl161 zc161 R R)) (l_build (K:=kT161) (xs:=([(⟨(w64 ((w64 ((w64 ((w64 (i70*r7.2.1))+(ix list5 x97).from_))*r7.2.2))+j109)),(w64 ((w64 ((w64 ((w64 (i70*n4))+(ix list5 x97).to))*r7.2.2))+j109))⟩:pair)]:List pair)) (vs:=[(.agg [(iv (w64 ((w64 ((w64 ((w64 (i70*r7.2.1))+(ix list5 x97).from_))*r7.2.2))+j109))),(iv (w64 ((w64 ((w64 ((w64 (i70*n4))+(ix list5 x97).to))*r7.2.2))+j109)))].toArray)]) 0 R R sl147 sz161 zc161 R R R R R R ?_ R (fun A111 D111=>?_))))))))))))))))))))))))
 exact fun I h s=>(mO161).list [(((),()),(⟨(w64 ((w64 ((w64 ((w64 (i70*r7.2.1))+(ix list5 x97).from_))*r7.2.2))+j109)),(w64 ((w64 ((w64 ((w64 (i70*n4))+(ix list5 x97).to))*r7.2.2))+j109))⟩:pair))] I h s
 refine lN (OO kT161 161 A111 D111 ([(⟨(w64 ((w64 ((w64 ((w64 (i70*r7.2.1))+(ix list5 x97).from_))*r7.2.2))+j109)),(w64 ((w64 ((w64 ((w64 (i70*n4))+(ix list5 x97).to))*r7.2.2))+j109))⟩:pair)]:List pair)::_::OO kT161 161 A108 D108 x107::_::W0) ?_
 refine lM (ow _ _ _ _::ow _ _ _ _::rds _ _ _::bxl _ _ _::W0) (fun w s=>(s.e 4 [2,0,1,3])) ?_
 refine l_app (K:=kT161) 8796093022208 R R sl147 sz161 by161 (Zr.zk zT161 zc161) R R R R R R src_ow hg112 (fun A113 D113=>(lN (OO kT161 161 A113 D113 (x107++([(⟨(w64 ((w64 ((w64 ((w64 (i70*r7.2.1))+(ix list5 x97).from_))*r7.2.2))+j109)),(w64 ((w64 ((w64 ((w64 (i70*n4))+(ix list5 x97).to))*r7.2.2))+j109))⟩:pair)]:List pair))::_::_::W0) ?_))
 refine lS R (l_nil (q_blockn (q_next (c_region (lI R (lO (vAd R R) (lI R (l_nil ?_))))))))
 obtain rfl:=so hr
 exact qA (A113,(x107++([(⟨(w64 ((w64 ((w64 ((w64 (i70*r7.2.1))+(ix list5 x97).from_))*r7.2.2))+j109)),(w64 ((w64 ((w64 ((w64 (i70*n4))+(ix list5 x97).to))*r7.2.2))+j109))⟩:pair)]:List pair)).length,D113) (fun w s=>(s.e 3 [1,0,2]))
 refine c_false R hb110 (c_exit (q_exit ?_))
 obtain rfl:=so hr
 obtain rfl:=he3 _ R
 have hr:=hk3
 refine q_exit (q_block (q_blockn ?_))
 exact qI (x107,(((ad g100 o101),list5.length,D94),(A108,x107.length,D108))) hr (fun w s=>(s.e 3 [0,1]))
 rintro ⟨x118,⟨⟨A117,N117,D117⟩,⟨A119,N119,D119⟩⟩⟩ σ1 hr
 replace hr:Z7_J5 x97 x118=some out2:=hr
 unfold Z7_J5 at hr
 refine c_len 0 sees_rd (fun (hn:N117=list5.length)=>?_)
 subst hn
 refine c_len 1 sees_ow (fun (hn:N119=x118.length)=>?_)
 subst hn
 refine c_region (lO (vAd R R) (lI R (l_nil ?_)))
 obtain rfl:=so hr
 exact qA ((A117,list5.length,D117),(A119,x118.length,D119)) (fun w s=>s)
 refine c_false R hb98 (c_exit (q_exit ?_))
 obtain rfl:=so hr
 obtain rfl:=he2 _ R
 have hr:=hk2
 refine q_exit (q_block (q_blockn ?_))
 exact qI (x95,((A94,list5.length,D94),(A96,x95.length,D96))) hr (fun w s=>s)
 rintro ⟨x125,⟨⟨A124,N124,D124⟩,⟨A126,N126,D126⟩⟩⟩ σ1 hr
 replace hr:Z7_J6 i70 x125=some out1:=hr
 unfold Z7_J6 at hr
 refine c_len 0 sees_rd (fun (hn:N124=list5.length)=>?_)
 subst hn
 refine c_len 1 sees_ow (fun (hn:N126=x125.length)=>?_)
 subst hn
 refine c_region (lI R (lO (vAd R R) (lI R (l_nil ?_))))
 obtain rfl:=so hr
 exact qA ((A124,list5.length,D124),(A126,x125.length,D126)) (fun w s=>s)
 refine c_false R hb71 (c_exit (q_exit ?_))
 obtain rfl:=so hr
 obtain rfl:=he1 _ R
 have hr:=hk1
 refine q_exit (q_block ?_)
 exact qI (x68,(A69,x68.length,D69)) hr (fun w s=>(s.e 2 [1]))
 rintro ⟨x131,⟨A132,N132,D132⟩⟩ σ1 hr
 replace hr:Z7_J7 x131=some r:=hr
 unfold Z7_J7 at hr
 refine c_len 0 sees_ow (fun (hn:N132=x131.length)=>?_)
 subst hn
 refine c_seq (c_region (lS R (lS R (l_nil (q_next (c_ret ?_))))))
 obtain rfl:=so hr
 exact qF (A132,x131.length,D132) (fun w s=>(s.e 3 [0]))
theorem Zx_ok  {dims1:(List Int)}{axis3:Int}{before4:Int}{after5:Int}{gap6:Int}{r:(List Int)×(List pair)×Bool}(hr:Zx dims1 axis3 before4 after5 gap6=some r) :
 FnOk Tryz.prog 128 [(.slice A2 N2 D2),(iv axis3),(iv before4),(iv after5),(iv gap6)] [rds kT3 (.slice A2 N2 D2) dims1] (fun (h:HH×HH)=>((.tuple [(s3 h.1),(s3 h.2),(.bool r.2.2)].toArray),[ow kT3 3 (s3 h.1) r.1,ow kT161 161 (s3 h.2) r.2.1])):=by
 unfold Zx at hr
 refine fn_ok Tryz.func128 R 84 R R fun C V=>?_
 refine cL 0 sees_rd ?_
 rintro rfl
 let W0:=RR kT3 A2 D2 dims1::V
 refine cN W0 ?_
 refine o_9 ?_
 obtain ⟨r7,hx8,hr⟩:=bd hr
 refine o_3 ?_
 refine lM _ (fun w s=>(s.d 0 R)) ?_
 refine lC 1 cb150 R (Zj_ok hx8) R ?_
 rintro _
 refine lN W0 ?_
 refine o_3 ?_
 split at hr
 refine o_10 ?_
 cases hr
 exact qT3 ((none,0,0),(none,0,0)) (fun w s=>(((s.nilo kT3 3).nilo kT161 161).e 3 [1,0]))
 refine o_4 ?_
 refine c_cut (A:=(Unit)×(Unit)) (fun a=>Zx_J1 dims1 axis3 before4 after5 gap6=some r) (fun a=>[(0,(sc A2 dims1 D2)),(1,(iv axis3)),(2,(iv before4)),(3,(iv after5)),(4,(iv gap6))]) (fun a=>W0) ?_ ?_
 refine o_5 ?_
 refine l_build (K:=kT3) (xs:=([before4,after5,gap6]:List Int)) (vs:=[(iv before4),(iv after5),(iv gap6)]) 0 R R sl23 sz3 zc3 R R R R R R ?_ R (fun A10 D10=>?_)
 exact fun I h s=>(mO3).list [((),before4),((),after5),((),gap6)] I h s
 refine o_5 ?_
 obtain ⟨e1,hl1,hk1⟩:=bd hr
 refine c_loop (A:=HH) hl1 (fun s a=>[(0,(sc A2 dims1 D2)),(1,(iv axis3)),(2,(iv before4)),(3,(iv after5)),(4,(iv gap6)),(27,(s3 a)),(28,(il ([before4,after5,gap6]:List Int))),(29,(iv s))]) (fun s a=>ow kT3 3 (s3 a) ([before4,after5,gap6]:List Int)::W0) (A10,([before4,after5,gap6]:List Int).length,D10) (aS R) tI ?_
 rintro x18 ⟨A17,N17,D17⟩ σ1 out1 hr he1
 dsimp only [Zx_L1] at hr
 refine c_len 0 sees_ow (fun (hn:N17=([before4,after5,gap6]:List Int).length)=>?_)
 subst hn
 refine o_6 ?_
 split at hr
 refine o_6 ?_
 obtain ⟨hg20,hr⟩:=gd hr
 refine c_region (t_some 0 sees_ow (show 0<([before4,after5,gap6]:List Int).length by have:=hg20; omega) (fun g21 o22 ha=>?_))
 subst ha
 refine o_6 ?_
 refine cQ [(0,(sc A2 dims1 D2)),(1,(iv axis3)),(2,(iv before4)),(3,(iv after5)),(4,(iv gap6)),(27,(sc (ad g21 o22) ([before4,after5,gap6]:List Int) D17)),(28,(il ([before4,after5,gap6]:List Int))),(29,(iv x18)),(38,(.bool ((decide ((ix ([before4,after5,gap6]:List Int) x18)<0))||(decide ((ix ([before4,after5,gap6]:List Int) x18)>4096)))))] (OO kT3 3 (ad g21 o22) D17 ([before4,after5,gap6]:List Int)::W0) ?_ ?_
 refine o_4 ?_
 rcases bo (decide ((ix ([before4,after5,gap6]:List Int) x18)<0)) with hc23 | hc23
 refine o_4 ?_
 exact qj tI
 refine o_4 ?_
 exact qj tI
 rintro σ1
 refine o_1 ?_
 split at hr
 refine o_11 ?_
 cases hr
 obtain rfl:=he1 _ R
 have hr:=hk1
 refine o_3 ?_
 cases hr
 exact qT3 ((none,0,0),(none,0,0)) (fun w s=>(((s.nilo kT3 3).nilo kT161 161).e 4 [1,0]))
 refine o_8 ?_
 cases hr
 exact qA ((ad g21 o22),([before4,after5,gap6]:List Int).length,D17) tI
 refine o_3 ?_
 cases hr
 obtain rfl:=he1 _ R
 have hr:=hk1
 refine o_2 ?_
 exact qI ((),()) hr (tE 1 [])
 rintro ⟨_,_⟩ σ1 hr
 dsimp only [Zx_J1] at hr
 refine o_1 ?_
 obtain ⟨hg27,hr⟩:=gd hr
 refine o_3 ?_
 refine t_some 0 sees_rd (show 0<dims1.length by have:=hg27; omega) (fun g28 o29 ha=>?_)
 subst ha
 refine o_21 ?_
 obtain ⟨r30,hx31,hr⟩:=bd hr
 refine o_4 ?_
 refine lM _ (fun w s=>(s.d 0 R)) ?_
 refine lC 1 cb151 R (Z1i_ok hx31) R ?_
 rintro ⟨A32,N32,D32⟩
 refine l_len 0 sees_ow ?_
 rintro rfl
 refine o_5 ?_
 obtain ⟨r33,hx34,hr⟩:=bd hr
 refine o_2 ?_
 refine lC 1 cb147 R (FnOk.lends (A':=[OO kT3 3 A32 D32 r30]) (A:=[RR kT3 A32 D32 r30]) (B:=[]) (Zb_ok hx34) ⟨lend_ow,trivial⟩ (fun _=>trivial)) R ?_
 rintro _
 refine o_3 ?_
 split at hr
 refine o_10 ?_
 cases hr
 exact qT3 ((none,0,0),(none,0,0)) (fun w s=>(((s.nilo kT3 3).nilo kT161 161).e 4 [1,0]))
 refine o_5 ?_
 refine l_build (K:=kT161) (xs:=([]:List pair)) (vs:=[]) 0 R R sl147 sz161 zc161 R R R R R R ?_ R (fun A36 D36=>?_)
 exact fun I h s=>(mO161).list [] I h s
 refine o_4 ?_
 refine c_cut (A:=((List pair))×(HH)) (fun a=>Zx_J2 dims1 axis3 before4 after5 gap6 r30 a.1=some r) (fun a=>[(0,(sc (ad g28 o29) dims1 D2)),(1,(iv axis3)),(16,(iv (w64 ((w64 ((w64 (before4+(ix dims1 axis3)))+(w64 ((w64 ((ix dims1 axis3) - 1))*gap6))))+after5)))),(17,(sc A32 r30 D32)),(18,(s3 a.2))]) (fun a=>OO kT3 3 A32 D32 r30::ow kT161 161 (s3 a.2) a.1::W0) ?_ ?_
 refine o_6 ?_
 obtain ⟨e2,hl2,hk2⟩:=bd hr
 refine c_loop (A:=HH) hl2 (fun s a=>[(0,(sc (ad g28 o29) dims1 D2)),(1,(iv axis3)),(2,(iv before4)),(4,(iv gap6)),(15,(iv (ix dims1 axis3))),(16,(iv (w64 ((w64 ((w64 (before4+(ix dims1 axis3)))+(w64 ((w64 ((ix dims1 axis3) - 1))*gap6))))+after5)))),(17,(sc A32 r30 D32)),(18,(s3 a)),(19,(iv s.2))]) (fun s a=>OO kT3 3 A32 D32 r30::ow kT161 161 (s3 a) s.1::W0) (A36,([]:List pair).length,D36) (aS R) (tE 2 [1,0]) ?_
 rintro ⟨list41,k43⟩ ⟨A42,N42,D42⟩ σ1 out2 hr he2
 dsimp only [Zx_L2] at hr
 refine c_len 1 sees_ow (fun (hn:N42=list41.length)=>?_)
 subst hn
 refine o_8 ?_
 split at hr
 refine o_5 ?_
 obtain ⟨hg46,hr⟩:=gd hr
 refine o_9 ?_
 refine lO (vz (.agg [(iv k43),(iv (w64 (before4+(w64 (k43*(w64 (gap6+1)))))))].toArray) (v_build pl161 zc161 R R)) (l_build (K:=kT161) (xs:=([(⟨k43,(w64 (before4+(w64 (k43*(w64 (gap6+1))))))⟩:pair)]:List pair)) (vs:=[(.agg [(iv k43),(iv (w64 (before4+(w64 (k43*(w64 (gap6+1)))))))].toArray)]) 0 R R sl147 sz161 zc161 R R R R R R ?_ R (fun A45 D45=>?_))
 exact fun I h s=>(mO161).list [(((),()),(⟨k43,(w64 (before4+(w64 (k43*(w64 (gap6+1))))))⟩:pair))] I h s
 refine lM _ (tE 3 [2,0,1]) ?_
 refine l_app (K:=kT161) 8796093022208 R R sl147 sz161 by161 (Zr.zk zT161 zc161) R R R R R R src_ow hg46 (fun A47 D47=>(lN (OO kT161 161 A47 D47 (list41++([(⟨k43,(w64 (before4+(w64 (k43*(w64 (gap6+1))))))⟩:pair)]:List pair))::_::W0) ?_))
 refine o_9 ?_
 cases hr
 exact qA (A47,(list41++([(⟨k43,(w64 (before4+(w64 (k43*(w64 (gap6+1))))))⟩:pair)]:List pair)).length,D47) (tE 2 [1,0])
 refine o_3 ?_
 cases hr
 obtain rfl:=he2 _ R
 have hr:=hk2
 refine o_2 ?_
 exact qI (list41,(A42,list41.length,D42)) hr tI
 rintro ⟨list51,⟨A52,N52,D52⟩⟩ σ1 hr
 dsimp only [Zx_J2] at hr
 refine c_len 1 sees_ow (fun (hn:N52=list51.length)=>?_)
 subst hn
 refine o_1 ?_
 obtain ⟨r53,hx54,hr⟩:=bd hr
 refine o_6 ?_
 refine lM _ (fun w s=>((s.d 2 R).e 3 [2,0,1])) ?_
 refine lC 2 cb152 R (FnOk.lends (A':=[OO kT161 161 A52 D52 list51]) (A:=[RR kT161 A52 D52 list51]) (B:=[RR kT3 (ad g28 o29) D2 dims1]) (FnOk.perm (Z7_ok hx54) (Pre':=[RR kT161 A52 D52 list51,RR kT3 (ad g28 o29) D2 dims1]) (fun _ _ _ s=>(s.e 2 [1,0]))) ⟨lend_ow,trivial⟩ (fun _=>⟨(closed_ow cT161),trivial⟩)) R ?_
 rintro ⟨A55,N55,D55⟩
 refine l_len 1 sees_ow ?_
 rintro rfl
 refine o_6 ?_
 cases hr
 exact qT3 ((A32,r30.length,D32),(A55,r53.length,D55)) (tE 4 [2,1])
theorem Z1v_ok  {p1:(List Int)}{dims3:(List Int)}{r:(List Int)×(List pair)×Bool}(hr:Z1v p1 dims3=some r) :
 FnOk Tryz.prog 127 [(.slice A2 N2 D2),(.slice A4 N4 D4)] [rds kT3 (.slice A2 N2 D2) p1,rds kT3 (.slice A4 N4 D4) dims3] (fun (h:HH×HH)=>((.tuple [(s3 h.1),(s3 h.2),(.bool r.2.2)].toArray),[ow kT3 3 (s3 h.1) r.1,ow kT161 161 (s3 h.2) r.2.1])):=by
 unfold Z1v at hr
 refine fn_ok Tryz.func127 R 24 R R fun C V=>?_
 refine cL 0 sees_rd ?_
 rintro rfl
 refine cL 1 sees_rd ?_
 rintro rfl
 let W0:=RR kT3 A2 D2 p1::RR kT3 A4 D4 dims3::V
 refine cN W0 ?_
 refine o_8 ?_
 obtain ⟨hg5,hr⟩:=gd hr
 obtain ⟨_,hr⟩:=gd hr
 obtain ⟨_,hr⟩:=gd hr
 obtain ⟨_,hr⟩:=gd hr
 obtain ⟨r11,hx12,hr⟩:=bd hr
 refine c_some 0 sees_rd (show 0<p1.length by have:=hg5; omega) (fun g6 o7 ha=>?_)
 subst ha
 refine cdr 20 [] mixo fun ht hn=>?_
 refine d13_ 0 [] ?_
 refine d1 13 R (lM _ (fun w s=>(s.d 1 R)) ?_)
 refine lC 1 cb128 R (Zx_ok hx12) R ?_
 rintro ⟨⟨A13,N13,D13⟩,⟨A14,N14,D14⟩⟩
 refine l_len 0 sees_ow ?_
 rintro rfl
 refine l_len 1 sees_ow ?_
 rintro rfl
 refine l_nil (q_draw (sL [1,0]) ?_)
 refine d6_ 14 [1,0] ?_
 refine dD ?_
 refine o_2 ?_
 cases hr
 exact qT3 ((A13,r11.1.length,D13),(A14,r11.2.1.length,D14)) (tE 4 [0,1])
theorem Z2l_ok  {n1:Node}{dims6:(List Int)}{p8:Int}{p10:Int}{b9:Nat}{b11:Nat}{b13:Nat}{r:(List Int)×(List pair)×Bool}(hr:Z2l n1 dims6 p8 p10=some r) :
 FnOk Tryz.prog 149 [(.agg [(iv n1.Op),(.slice A2 N2 D2),(.slice A3 N3 D3),(.slice A4 N4 D4),(vstr n1.Form),(.slice A5 N5 D5)].toArray),(.slice A7 N7 D7),(pt b9 0),(pt b11 0),(pt b13 0)] [rds kT3 (.slice A2 N2 D2) n1.Args,rds kT3 (.slice A3 N3 D3) n1.Dims,rds kT3 (.slice A4 N4 D4) n1.Ints,rds kT3 (.slice A5 N5 D5) n1.Data,rds kT3 (.slice A7 N7 D7) dims6,bxl b9 [(iv p8)] 3,bxl b11 [(iv p10)] 3,bxl b13 [(.func (.func 127) [].toArray [].toArray)] 150] (fun (h:HH×HH)=>((.tuple [(s3 h.1),(s3 h.2),(.bool r.2.2)].toArray),[ow kT3 3 (s3 h.1) r.1,ow kT161 161 (s3 h.2) r.2.1,bxl b9 [(iv p8)] 3,bxl b11 [(iv p10)] 3,bxl b13 [(.func (.func 127) [].toArray [].toArray)] 150])):=by
 unfold Z2l at hr
 refine fn_ok Tryz.func149 R 30 R R fun C V=>?_
 refine cM _ (fun w s=>(s.f 8 [5,3,0,5])) ?_
 refine cL 3 sees_rd ?_
 rintro rfl
 refine cL 4 sees_rd ?_
 rintro rfl
 refine cL 5 sees_rd ?_
 rintro rfl
 refine cL 6 sees_rd ?_
 rintro rfl
 refine cL 7 sees_rd ?_
 rintro rfl
 let W0:=RR kT3 A2 D2 n1.Args::RR kT3 A3 D3 n1.Dims::RR kT3 A4 D4 n1.Ints::RR kT3 A5 D5 n1.Data::RR kT3 A7 D7 dims6::V
 refine o_2 ?_
 refine lBx R fun b14=>?_
 refine o_4 ?_
 let W1:=bxl b14 [(iv n1.Op),(sc A2 n1.Args D2),(sc A3 n1.Dims D3),(sc A4 n1.Ints D4),(vstr n1.Form),(sc A5 n1.Data D5)] 54::bxl b9 [(iv p8)] 3::bxl b11 [(iv p10)] 3::bxl b13 [(.func (.func 127) [].toArray [].toArray)] 150::W0
 refine qN W1 ?_
 refine o_3 ?_
 refine cQ [(1,(sc A7 dims6 D7)),(4,(pt b13 0)),(5,(pt b14 0)),(21,(.bool ((decide ((n1.Ints.length:Int)<p8))||(decide ((n1.Ints.length:Int)>p10)))))] (W1) ?_ ?_
 refine o_7 ?_
 rcases bo (decide ((n1.Ints.length:Int)<p8)) with hc15 | hc15
 refine o_7 ?_
 exact qj tI
 refine o_7 ?_
 exact qj tI
 rintro σ1
 refine o_1 ?_
 split at hr
 refine o_10 ?_
 cases hr
 exact qT3 ((none,0,0),(none,0,0)) (fun w s=>(((s.nilo kT3 3).nilo kT161 161).e 11 [1,0,3,4,5]))
 refine o_4 ?_
 obtain ⟨r17,hx18,hr⟩:=bd hr
 refine o_5 ?_
 refine lM _ (fun w s=>(((s.d 6 R).d 9 R).e 2 [1,0])) ?_
 refine l_callvn (fs:=[]) (cs:=[]) 2 R R cb127 R R (Z1v_ok hx18) R ?_
 rintro ⟨⟨A19,N19,D19⟩,⟨A20,N20,D20⟩⟩
 refine l_len 0 sees_ow ?_
 rintro rfl
 refine l_len 1 sees_ow ?_
 rintro rfl
 refine o_9 ?_
 cases hr
 exact qT3 ((A19,r17.1.length,D19),(A20,r17.2.1.length,D20)) (fun w s=>(s.f 11 [0,2,3,3]))
end Go.Proofs.YtmpnollfdpdipaaGreat
