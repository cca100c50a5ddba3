import Derived.Test.YtmpnollfdpdipaaGreatGkF
import Derived.Test.YtmpnollfdpdipaaGreatGkW2
import Derived.Test.YtmpnollfdpdipaaGreatGkW3
set_option linter.unusedVariables false
set_option maxRecDepth 20000
namespace Go.Proofs.YtmpnollfdpdipaaGreat
open Go Go.Pg
variable {A2 A3 A4 A5 A7:Option Addr}{D2 D3 D4 D5 D7 N2 N3 N4 N5 N7:Nat}
theorem Z0c_ok  {v1:View}{axis4:Int}{size5:Int}{step6:Int}{r:View}(hr:Z0c v1 axis4 size5 step6=some r) :
 FnOk Tryz.prog 90 [(.agg [(.slice A2 N2 D2),(.slice A3 N3 D3),(iv v1.Offset),(iv v1.Base)].toArray),(iv axis4),(iv size5),(iv step6)] [rds kT3 (.slice A2 N2 D2) v1.Dims,rds kT3 (.slice A3 N3 D3) v1.Strides] (fun (h:HH×HH)=>((.agg [(.slice h.1.1 h.1.2.1 h.1.2.2),(.slice h.2.1 h.2.2.1 h.2.2.2),(iv r.Offset),(iv r.Base)].toArray),[rds kT3 (.slice h.1.1 h.1.2.1 h.1.2.2) r.Dims,rds kT3 (.slice h.2.1 h.2.2.1 h.2.2.2) r.Strides])):=by
 unfold Z0c at hr
 refine fn_ok Tryz.func90 R 85 R R fun C V=>?_
 refine cN (_::_::V) ?_
 refine cL 0 sees_rd ?_
 rintro rfl
 refine cL 1 sees_rd ?_
 rintro rfl
 let W0:List HP:=RR kT3 A2 D2 v1.Dims::RR kT3 A3 D3 v1.Strides::V
 refine cN W0 ?_
 refine c_seq (c_region (lBx R (fun b7=>(l_alloc R R zc96 (fun b8=>(l_nil ?_))))))
 let W1:List HP:=bxl b7 [(sc A2 v1.Dims D2),(sc A3 v1.Strides D3),(iv v1.Offset),(iv v1.Base)] 96::W0
 refine qN (_::W1) ?_
 refine q_next (c_seq (c_seq ?_))
 obtain ⟨r9,hx10,hr⟩:=bd hr
 obtain ⟨hg11,hr⟩:=gd hr
 refine cQ [(1,(iv axis4)),(2,(iv size5)),(3,(iv step6)),(4,(pt b7 0)),(8,(pt b8 0)),(32,(.bool ((((!r9)||(decide (size5<(1:Int))))||(decide (step6<(1:Int))))||(decide (size5>(ix v1.Dims axis4))))))] (bxl b8 [(.slice none 0 0),(.slice none 0 0),(iv 0),(iv 0)] 96::W1) ?_ ?_
 refine c_region (lO (vz (.agg [(sc A2 v1.Dims D2),(sc A3 v1.Strides D3),(iv v1.Offset),(iv v1.Base)].toArray) (v_loadw 1 ag96 sz96 R R R R)) (lI R (lM (RR kT3 A2 D2 v1.Dims::RR kT3 A3 D3 v1.Strides::bxl _ _ _::W1) (fun w s=>(((s.d 2 R).d 4 R).e 3 [1,0,2])) ?_)))
 refine lC 2 cb119 R (Z25_ok hx10) R ?_
 rintro _
 refine lN (_::W1) ?_
 refine lO (vNo R) (lB R ?_)
 rcases bo (!r9) with hc14 | hc14
 refine lf (wfT hc14) (lf (wfT hc14) (lO (pOT (decide (size5<(1:Int))) R hc14) (lB R (lf (wfT (oT hc14)) (lf (wfT (oT hc14)) (lO (pOT (decide (step6<(1:Int))) R (oT hc14)) (lB R (lf (wfT (oT (oT hc14))) (lf (wfT (oT (oT hc14))) (lf (wfT (oT (oT hc14))) (lf (wfT (oT (oT hc14))) (lf (wfT (oT (oT hc14))) (lf (wfT (oT (oT hc14))) (lf (wfT (oT (oT hc14))) (lO (pOT (decide (size5>(ix v1.Dims axis4))) R (oT (oT hc14))) (l_nil ?_))))))))))))))))
 exact qJ (fun w s=>s)
 refine lW (wnF hc14) (vI R) (lW (wnF hc14) (vLt R R) (lO (pOF R hc14 R) (lB R ?_)))
 rcases bo ((!r9)||(decide (size5<(1:Int)))) with hc15 | hc15
 refine lf (wfT hc15) (lf (wfT hc15) (lO (pOT (decide (step6<(1:Int))) R hc15) (lB R (lf (wfT (oT hc15)) (lf (wfT (oT hc15)) (lf (wfT (oT hc15)) (lf (wfT (oT hc15)) (lf (wfT (oT hc15)) (lf (wfT (oT hc15)) (lf (wfT (oT hc15)) (lO (pOT (decide (size5>(ix v1.Dims axis4))) R (oT hc15)) (l_nil ?_))))))))))))
 exact qJ (fun w s=>s)
 refine lW (wnF hc15) (vI R) (lW (wnF hc15) (vLt R R) (lO (pOF R hc15 R) (lB R ?_)))
 rcases bo (((!r9)||(decide (size5<(1:Int))))||(decide (step6<(1:Int)))) with hc16 | hc16
 refine lf (wfT hc16) (lf (wfT hc16) (lf (wfT hc16) (lf (wfT hc16) (lf (wfT hc16) (lf (wfT hc16) (lf (wfT hc16) (lO (pOT (decide (size5>(ix v1.Dims axis4))) R hc16) (l_nil ?_))))))))
 exact qJ (fun w s=>s)
 refine lW (wnF hc16) (vI R) (lW (wnF hc16) (vFa 0 fo96_0 R) (lW (wnF hc16) (vLd 1 ag23 R R R) (lW (wnF hc16) (vI R) (t_some 2 sees_rd (show 0<v1.Dims.length by have:=(hg11 hc16); omega) (fun g12 o13 ha=>?_)))))
 subst ha
 refine lW (wnF hc16) (vIa sl23 sz3 R R (hg11 hc16)) (lW (wnF hc16) (vLi 2 ag3 sees_rd R (hg11 hc16)) (lW (wnF hc16) (vGt R R) (lO (pOF R hc16 R) (l_nil ?_))))
 exact qJ (fun w s=>s)
 rintro σ1
 refine q_next ?_
 rcases bif_ hr with ⟨hb17,hr⟩|⟨hb17,hr⟩
 refine c_true R hb17 (c_seq (c_region (lO (vz (.agg [(.slice none 0 0),(.slice none 0 0),(iv 0),(iv 0)].toArray) (v_build pl96 zc96 R R)) (l_stores 0 R R sz96 R R R R R R (l_nil (q_next (c_ret (q_ret ?_))))))))
 obtain rfl:=so hr
 exact q_fin (vs:=[(.agg [(.slice none 0 0),(.slice none 0 0),(iv 0),(iv 0)].toArray)]) (.inl R) ((none,0,0),(none,0,0)) R ⟨⟨0,b8,_,_,R,R,.inl ⟨ag96,sz96,R⟩⟩,trivial⟩ R (fun w s=>(((s.nilr kT3).nilr kT3).e 6 [1,0]))
 refine c_false R hb17 (c_skip (q_next (c_seq ?_)))
 obtain ⟨r18,hx19,hr⟩:=bd hr
 refine c_region (lO (vz (.agg [(sc A2 v1.Dims D2),(sc A3 v1.Strides D3),(iv v1.Offset),(iv v1.Base)].toArray) (v_loadw 1 ag96 sz96 R R R R)) (lM (RR kT3 A2 D2 v1.Dims::RR kT3 A3 D3 v1.Strides::bxl _ _ _::W1) (fun w s=>(((s.d 2 R).d 4 R).e 3 [1,0,2])) ?_))
 refine lC 2 cb120 R (Z27_ok hx19) R ?_
 rintro ⟨⟨A20,N20,D20⟩,⟨A21,N21,D21⟩⟩
 refine lN (ow kT3 3 (.slice A20 N20 D20) r18.Dims::ow kT3 3 (.slice A21 N21 D21) r18.Strides::_::W1) ?_
 refine l_len 0 sees_ow ?_
 rintro rfl
 refine l_len 1 sees_ow ?_
 rintro rfl
 refine l_alloc R R zc96 (fun b22=>(l_stores 0 R R sz96 R R R R R R (lN (bxl b22 [(sc A20 r18.Dims D20),(sc A21 r18.Strides D21),(iv r18.Offset),(iv r18.Base)] 96::_::_::_::W1) ?_)))
 refine l_nil (q_next (c_seq ?_))
 obtain ⟨hg23,hr⟩:=gd hr
 obtain ⟨hg26,hr⟩:=gd hr
 refine c_region (lO (vFa 0 fo96_0 R) (lO (vLd 4 ag23 R R R) (lI R (t_some 5 sees_rd (show 0<v1.Dims.length by have:=hg23; omega) (fun g24 o25 ha=>?_)))))
 subst ha
 refine lO (vIa sl23 sz3 R R hg23) (lO (vLi 5 ag3 sees_rd R hg23) (lI R (lO (vSb R R) (lI R (lO (vz (iv (w64 ((w64 ((ix v1.Dims axis4) - size5)).tdiv step6))) (v_quo R R hg26)) (lO (vAd R R) (lI R (l_nil (q_next (c_seq ?_))))))))))
 obtain ⟨hg27,hr⟩:=gd hr
 refine c_region (lO (vFa 1 fo96_1 R) (lO (vLd 4 ag23 R R R) (lI R (t_some 6 sees_rd (show 0<v1.Strides.length by have:=hg27; omega) (fun g28 o29 ha=>?_)))))
 subst ha
 refine lO (vIa sl23 sz3 R R hg27) (lO (vLi 6 ag3 sees_rd R hg27) (lI R (l_nil (q_next (c_seq ?_)))))
 obtain ⟨hg30,hr⟩:=gd hr
 refine c_region (lO (vFa 0 fo96_0 R) (lO (vLd 0 ag23 R R R) (lI R (lI R (t_some 1 sees_ow (show 0<r18.Dims.length by have:=hg30; omega) (fun g31 o32 ha=>?_))))))
 subst ha
 refine lO (vIa sl23 sz3 R R hg30) (lM (OO kT3 3 (ad g31 o32) D20 r18.Dims::bxl b22 [(sc (ad g31 o32) r18.Dims D20),(sc A21 r18.Strides D21),(iv r18.Offset),(iv r18.Base)] 96::ow _ _ _ _::bxl _ _ _::W1) (fun w s=>(s.e 4 [1,0,2,3])) ?_)
 refine l_stx (K:=kT3) (x':=(w64 ((w64 ((w64 ((ix v1.Dims axis4) - size5)).tdiv step6))+(1:Int)))) 0 axis4 R R sz3 R R hg30.1 hg30.2 ?_ ?_
 exact fun I h s=>(mO3).put I h () (w64 ((w64 ((w64 ((ix v1.Dims axis4) - size5)).tdiv step6))+(1:Int))) s
 refine lN (ow kT3 3 (.slice (ad g31 o32) r18.Dims.length D20) (r18.Dims.set axis4.toNat (w64 ((w64 ((w64 ((ix v1.Dims axis4) - size5)).tdiv step6))+(1:Int))))::_::_::_::W1) ?_
 refine l_nil ?_
 obtain ⟨l33,hl34,hr⟩:=bd hr
 replace hl34:=Option.some.inj hl34
 refine qM (ow kT3 3 (.slice (ad g31 o32) r18.Dims.length D20) l33::_::_::_::W1) (fun w s=>by rw [← hl34]; exact s) ?_
 refine q_next (c_seq ?_)
 obtain ⟨hg35,hr⟩:=gd hr
 refine c_region (lO (vFa 1 fo96_1 R) (lO (vLd 1 ag23 R R R) (lI R (t_some 2 sees_ow (show 0<r18.Strides.length by have:=hg35; omega) (fun g36 o37 ha=>?_)))))
 subst ha
 refine lO (vIa sl23 sz3 R R hg35) (lM (OO kT3 3 (ad g36 o37) D21 r18.Strides::ow _ _ _ _::bxl b22 [(sc (ad g31 o32) r18.Dims D20),(sc (ad g36 o37) r18.Strides D21),(iv r18.Offset),(iv r18.Base)] 96::bxl _ _ _::W1) (fun w s=>(s.e 4 [2,0,1,3])) ?_)
 refine l_stx (K:=kT3) (x':=(0:Int)) 0 axis4 R R sz3 R R hg35.1 hg35.2 ?_ ?_
 exact fun I h s=>(mO3).put I h () (0:Int) s
 refine lN (ow kT3 3 (.slice (ad g36 o37) r18.Strides.length D21) (r18.Strides.set axis4.toNat (0:Int))::_::_::_::W1) ?_
 refine l_nil (q_next (c_seq (c_cut (A:=((List Int))×(Unit)) (fun a=>Z0c_J1 v1 axis4 size5 r18 l33 a.1=some r) (fun a=>[(2,(iv size5)),(8,(pt b8 0)),(9,(pt b22 0)),(11,(iv (ix v1.Strides axis4)))]) (fun a=>bxl b8 [(.slice none 0 0),(.slice none 0 0),(iv 0),(iv 0)] 96::bxl b22 [(sc (ad g31 o32) r18.Dims D20),(sc (ad g36 o37) r18.Strides D21),(iv r18.Offset),(iv r18.Base)] 96::ow kT3 3 (.slice (ad g31 o32) r18.Dims.length D20) l33::ow kT3 3 (.slice (ad g36 o37) r18.Strides.length D21) a.1::W1) ?_ ?_)))
 refine c_seq (c_region (lI R (lO (vGt R R) (l_nil (q_next ?_)))))
 rcases bif_ hr with ⟨hb38,hr⟩|⟨hb38,hr⟩
 refine c_true R hb38 (c_region (lO (vFa 1 fo96_1 R) (lO (vLd 2 ag23 R R R) (lI R (lI R (lI R (lO (vMu R R) (lO (vIa sl23 sz3 R R hg35) (l_stx (K:=kT3) (x':=(w64 ((ix v1.Strides axis4)*step6))) 0 axis4 R R sz3 R R hg35.1 hg35.2 ?_ ?_)))))))))
 exact fun I h s=>(mO3).put I h () (w64 ((ix v1.Strides axis4)*step6)) s
 refine lN (ow kT3 3 (.slice (ad g36 o37) r18.Strides.length D21) ((r18.Strides.set axis4.toNat (0:Int)).set axis4.toNat (w64 ((ix v1.Strides axis4)*step6)))::_::_::_::W1) ?_
 refine l_nil ?_
 obtain ⟨l39,hl40,hr⟩:=bd hr
 replace hl40:=Option.some.inj hl40
 refine qM (ow kT3 3 (.slice (ad g36 o37) r18.Strides.length D21) l39::_::_::_::W1) (fun w s=>by rw [← hl40]; exact s) ?_
 exact qI (l39,()) hr (fun w s=>(s.e 4 [3,2,1,0]))
 refine c_false R hb38 (c_skip ?_)
 exact qI ((r18.Strides.set axis4.toNat (0:Int)),()) hr (fun w s=>(s.e 4 [3,2,1,0]))
 rintro ⟨x41,_⟩ σ1 hr
 replace hr:Z0c_J1 v1 axis4 size5 r18 l33 x41=some r:=hr
 unfold Z0c_J1 at hr
 refine c_seq ?_
 obtain ⟨hg43,hr⟩:=gd hr
 refine c_region (lO (vFa 0 fo96_0 R) (lO (vLd 1 ag23 R R R) (lI R (l_build (K:=kT3) (xs:=([size5]:List Int)) (vs:=[(iv size5)]) 0 R R sl23 sz3 zc3 R R R R R R ?_ R (fun A42 D42=>?_)))))
 exact fun I h s=>(mO3).list [((),size5)] I h s
 refine lN (OO kT3 3 A42 D42 ([size5]:List Int)::_::_::_::ow kT3 3 (.slice (ad g36 o37) r18.Strides.length D21) x41::W1) ?_
 refine lM (ow _ _ _ _::ow _ _ _ _::bxl _ _ _::bxl _ _ _::ow _ _ _ _::W1) (fun w s=>(s.e 5 [3,0,1,2,4])) ?_
 refine l_app (K:=kT3) 17592186044416 R R sl23 sz3 by3 (Zr.zk zT3 zc3) R R R R R R src_ow hg43 (fun A44 D44=>(lN (OO kT3 3 A44 D44 (l33++([size5]:List Int))::_::_::_::W1) ?_))
 refine lO (vFa 0 fo96_0 R) (l_store 2 R R sz23 R R R R R (lN (_::_::bxl b22 [(sc A44 (l33++([size5]:List Int)) D44),(sc (ad g36 o37) r18.Strides D21),(iv r18.Offset),(iv r18.Base)] 96::_::W1) ?_))
 refine l_nil (q_next (c_seq (c_cut (A:=(Int)×(Unit)) (fun a=>Z0c_J2 size5 r18 l33 x41 a.1=some r) (fun a=>[(8,(pt b8 0)),(9,(pt b22 0)),(11,(iv a.1))]) (fun a=>bxl b8 [(.slice none 0 0),(.slice none 0 0),(iv 0),(iv 0)] 96::bxl b22 [(sc A44 (l33++([size5]:List Int)) D44),(sc (ad g36 o37) r18.Strides D21),(iv r18.Offset),(iv r18.Base)] 96::OO kT3 3 A44 D44 (l33++([size5]:List Int))::ow kT3 3 (.slice (ad g36 o37) r18.Strides.length D21) x41::W1) ?_ ?_)))
 refine c_seq (c_region (lI R (lO (vEq R R) (l_nil (q_next ?_)))))
 rcases bif_ hr with ⟨hb45,hr⟩|⟨hb45,hr⟩
 refine c_true R hb45 (c_region (lI R (l_nil ?_)))
 exact qI ((0:Int),()) hr (fun w s=>(s.e 4 [1,2,0,3]))
 refine c_false R hb45 (c_skip ?_)
 exact qI ((ix v1.Strides axis4),()) hr (fun w s=>(s.e 4 [1,2,0,3]))
 rintro ⟨x46,_⟩ σ1 hr
 replace hr:Z0c_J2 size5 r18 l33 x41 x46=some r:=hr
 unfold Z0c_J2 at hr
 refine c_seq ?_
 obtain ⟨hg48,hr⟩:=gd hr
 refine c_region (lO (vFa 1 fo96_1 R) (lO (vLd 1 ag23 R R R) (lI R (l_build (K:=kT3) (xs:=([x46]:List Int)) (vs:=[(iv x46)]) 0 R R sl23 sz3 zc3 R R R R R R ?_ R (fun A47 D47=>?_)))))
 exact fun I h s=>(mO3).list [((),x46)] I h s
 refine lN (OO kT3 3 A47 D47 ([x46]:List Int)::_::_::_::_::W1) ?_
 refine lM (ow _ _ _ _::ow _ _ _ _::bxl _ _ _::bxl _ _ _::ow _ _ _ _::W1) (fun w s=>(s.f 5 [4,1,0,4])) ?_
 refine l_app (K:=kT3) 17592186044416 R R sl23 sz3 by3 (Zr.zk zT3 zc3) R R R R R R src_ow hg48 (fun A49 D49=>(lN (OO kT3 3 A49 D49 (x41++([x46]:List Int))::_::_::_::W1) ?_))
 refine lO (vFa 1 fo96_1 R) (l_store 2 R R sz23 R R R R R (lN (_::_::bxl b22 [(sc A44 (l33++([size5]:List Int)) D44),(sc A49 (x41++([x46]:List Int)) D49),(iv r18.Offset),(iv r18.Base)] 96::_::W1) ?_))
 refine l_nil (q_next (c_seq ?_))
 obtain ⟨r50,hx51,hr⟩:=bd hr
 refine c_region (lO (vz (.agg [(sc A44 (l33++([size5]:List Int)) D44),(sc A49 (x41++([x46]:List Int)) D49),(iv r18.Offset),(iv r18.Base)].toArray) (v_loadw 2 ag96 sz96 R R R R)) (l_st (fun w s=>s.shr 3 R) (l_st (fun w s=>s.shr 1 R) (lM (RR kT3 A44 D44 (l33++([size5]:List Int))::RR kT3 A49 D49 (x41++([x46]:List Int))::RR kT3 A49 D49 (x41++([x46]:List Int))::RR kT3 A44 D44 (l33++([size5]:List Int))::bxl _ _ _::bxl _ _ _::W1) (fun w s=>(((s.d 1 R).d 1 R).e 6 [1,0,2,3,4,5])) ?_))))
 refine lC 2 cb121 R (Z28_ok (v1:=(⟨(l33++([size5]:List Int)),(x41++([x46]:List Int)),r18.Offset,r18.Base⟩:View)) hx51) R ?_
 rintro ⟨⟨A52,N52,D52⟩,⟨A53,N53,D53⟩⟩
 refine lN (rds kT3 (.slice A52 N52 D52) r50.Dims::rds kT3 (.slice A53 N53 D53) r50.Strides::_::_::_::_::W1) ?_
 refine l_len 0 sees_rd ?_
 rintro rfl
 refine l_len 1 sees_rd ?_
 rintro rfl
 refine l_stores 4 R R sz96 R R R R R R (lN (_::_::_::_::bxl b8 [(sc A52 r50.Dims D52),(sc A53 r50.Strides D53),(iv r50.Offset),(iv r50.Base)] 96::_::W1) ?_)
 refine l_nil (q_next (c_ret ?_))
 obtain rfl:=so hr
 exact q_fin (vs:=[(.agg [(sc A52 r50.Dims D52),(sc A53 r50.Strides D53),(iv r50.Offset),(iv r50.Base)].toArray)]) (.inl R) ((A52,r50.Dims.length,D52),(A53,r50.Strides.length,D53)) R ⟨⟨4,b8,_,_,R,R,.inl ⟨ag96,sz96,R⟩⟩,trivial⟩ R (fun w s=>(s.e 9 [0,1]))
theorem Z0p_ok  {t1:Tensor}{axis4:Int}{step5:Int}{n6:Int}{r:Tensor}(hr:Z0p t1 axis4 step5 n6=some r) :
 FnOk Tryz.prog 91 [(.agg [(.slice A2 N2 D2),(.slice A3 N3 D3)].toArray),(iv axis4),(iv step5),(iv n6)] [rds kT3 (.slice A2 N2 D2) t1.Dims,rds kT3 (.slice A3 N3 D3) t1.Data] (fun (h:HH×HH)=>((.agg [(s3 h.1),(s3 h.2)].toArray),[ow kT3 3 (s3 h.1) r.Dims,ow kT3 3 (s3 h.2) r.Data])):=by
 unfold Z0p at hr
 refine fn_ok Tryz.func91 R 118 R R fun C V=>?_
 refine cL 0 sees_rd ?_
 rintro rfl
 refine cL 1 sees_rd ?_
 rintro rfl
 let W0:=RR kT3 A2 D2 t1.Dims::RR kT3 A3 D3 t1.Data::V
 refine cN W0 ?_
 refine o_2 ?_
 refine lBx R fun b7=>?_
 refine l_alloc R R zc58 (fun b8=>(l_nil ?_))
 let W1:=bxl b7 [(sc A2 t1.Dims D2),(sc A3 t1.Data D3)] 58::W0
 refine o_12 ?_
 obtain ⟨r9,hx10,hr⟩:=bd hr
 refine cQ [(1,(iv axis4)),(2,(iv step5)),(3,(iv n6)),(4,(pt b7 0)),(8,(pt b8 0)),(9,(iv (w64 ((t1.Dims.length:Int) - 1)))),(40,(.bool (((((!r9)||(axis4==(w64 ((t1.Dims.length:Int) - 1))))||(decide (step5<1)))||(decide (n6<1)))||(decide (n6>4096)))))] (bxl b8 [(.slice none 0 0),(.slice none 0 0)] 58::W1) ?_ ?_
 refine o_3 ?_
 refine lM _ (fun w s=>(((s.d 2 R).d 4 R).e 3 [1,0,2])) ?_
 refine lC 2 cb106 R (Z1d_ok hx10) R ?_
 rintro _
 refine o_2 ?_
 rcases bo (!r9) with hc11 | hc11
 refine o_17 ?_
 exact qj tI
 refine o_5 ?_
 rcases bo ((!r9)||(axis4==(w64 ((t1.Dims.length:Int) - 1)))) with hc12 | hc12
 refine o_12 ?_
 exact qj tI
 refine o_4 ?_
 rcases bo (((!r9)||(axis4==(w64 ((t1.Dims.length:Int) - 1))))||(decide (step5<1))) with hc13 | hc13
 refine o_8 ?_
 exact qj tI
 refine o_4 ?_
 rcases bo ((((!r9)||(axis4==(w64 ((t1.Dims.length:Int) - 1))))||(decide (step5<1)))||(decide (n6<1))) with hc14 | hc14
 refine o_4 ?_
 exact qj tI
 refine o_4 ?_
 exact qj tI
 rintro σ1
 refine o_1 ?_
 split at hr
 refine o_3 ?_
 refine lO (vz (.agg [(.slice none 0 0),(.slice none 0 0)].toArray) (v_build pl58 zc58 R R)) (l_stores 0 R R sz58 R R R R R R (l_nil (q_next (c_ret (q_ret ?_)))))
 cases hr
 exact qS ((none,0,0),(none,0,0)) (fun w s=>(((s.nilo kT3 3).nilo kT3 3).e 6 [1,0]))
 refine o_4 ?_
 obtain ⟨hg16,hr⟩:=gd hr
 refine o_4 ?_
 refine t_some 2 sees_rd (show 0<t1.Dims.length by have:=hg16; omega) (fun g17 o18 ha=>?_)
 subst ha
 refine o_7 ?_
 obtain ⟨hg19,hr⟩:=gd hr
 obtain ⟨hg20,hr⟩:=gd hr
 refine cQ [(1,(iv axis4)),(2,(iv step5)),(3,(iv n6)),(4,(pt b7 0)),(8,(pt b8 0)),(9,(iv (w64 ((t1.Dims.length:Int) - 1)))),(63,(.bool ((decide ((ix t1.Dims (w64 ((t1.Dims.length:Int) - 1)))>n6))||((w64 ((w64 ((w64 (n6 - (ix t1.Dims (w64 ((t1.Dims.length:Int) - 1))))).tdiv step5))+1)) != (ix t1.Dims axis4)))))] (bxl b8 [(.slice none 0 0),(.slice none 0 0)] 58::W1) ?_ ?_
 rcases bo (decide ((ix t1.Dims (w64 ((t1.Dims.length:Int) - 1)))>n6)) with hc21 | hc21
 refine cdr 17 [] mixo fun ht hn=>?_
 refine d17_ 0 [] ?_
 refine dD ?_
 exact qj tI
 refine cdr 17 [] mixo fun ht hn=>?_
 refine d8_ 0 [] ?_
 refine dW 8 R (wnF hc21) (vz (iv (w64 ((w64 (n6 - (ix t1.Dims (w64 ((t1.Dims.length:Int) - 1))))).tdiv step5))) (v_quo R R (hg19 hc21))) ?_
 refine d4_ 9 [] ?_
 refine dW 13 R (wnF hc21) (vIa sl23 sz3 R R (hg20 hc21)) (dW 14 R (wnF hc21) (vLi 2 ag3 sees_rd R (hg20 hc21)) ?_)
 refine d2_ 15 [] ?_
 refine dD ?_
 exact qj tI
 rintro σ1
 refine o_1 ?_
 split at hr
 refine o_3 ?_
 refine lO (vz (.agg [(.slice none 0 0),(.slice none 0 0)].toArray) (v_build pl58 zc58 R R)) (l_stores 0 R R sz58 R R R R R R (l_nil (q_next (c_ret (q_ret ?_)))))
 cases hr
 exact qS ((none,0,0),(none,0,0)) (fun w s=>(((s.nilo kT3 3).nilo kT3 3).e 6 [1,0]))
 refine o_4 ?_
 obtain ⟨r23,hx24,hr⟩:=bd hr
 obtain ⟨hg26,hr⟩:=gd hr
 refine o_5 ?_
 refine lM _ (fun w s=>(s.d 2 R)) ?_
 refine lC 1 cb122 R (Z0h_ok hx24) R ?_
 rintro ⟨A25,N25,D25⟩
 refine l_len 0 sees_ow ?_
 rintro rfl
 refine lI R (l_st (fun w s=>s.shr 0 R) (l_cut (K:=kT3) (0:Int) (w64 ((t1.Dims.length:Int) - 1)) 0 R R sl23 sz3 R R R R hg26.1 hg26.2.1 hg26.2.2 (fun A27 D27=>(lS R (l_nil (q_next (c_seq (c_seq ?_))))))))
 obtain ⟨r28,hx29,hr⟩:=bd hr
 refine o_2 ?_
 refine lM _ (fun w s=>(s.d 0 R)) ?_
 refine lC 1 cb92 R (Zl_ok hx29) R ?_
 rintro _
 refine o_3 ?_
 split at hr
 refine o_3 ?_
 refine lO (vz (.agg [(.slice none 0 0),(.slice none 0 0)].toArray) (v_build pl58 zc58 R R)) (l_stores 2 R R sz58 R R R R R R (l_nil (q_next (c_ret (q_ret ?_)))))
 cases hr
 exact qS ((none,0,0),(none,0,0)) (fun w s=>(((s.nilo kT3 3).nilo kT3 3).e 8 [1,0]))
 refine o_4 ?_
 obtain ⟨r31,hx32,hr⟩:=bd hr
 refine o_2 ?_
 refine lM _ (fun w s=>(s.d 0 R)) ?_
 refine lC 1 cb93 R (Z0g_ok hx32) R ?_
 rintro ⟨⟨A33,N33,D33⟩,⟨A34,N34,D34⟩⟩
 refine l_len 0 sees_ow ?_
 rintro rfl
 refine l_len 1 sees_ow ?_
 rintro rfl
 refine l_alloc R R zc58 (fun b35=>(l_stores 0 R R sz58 R R R R R R (lN (bxl b35 [(sc A33 r31.Dims D33),(sc A34 r31.Data D34)] 58::_::_::_::_::_::W1) ?_)))
 refine o_3 ?_
 refine c_cut (A:=((List Int))×(Unit)) (fun a=>Z0p_J1 r31 a.1=some r) (fun a=>[(8,(pt b8 0)),(12,(pt b35 0))]) (fun a=>bxl b8 [(.slice none 0 0),(.slice none 0 0)] 58::bxl b35 [(sc A33 r31.Dims D33),(sc A34 r31.Data D34)] 58::OO kT3 3 A33 D33 r31.Dims::ow kT3 3 (.slice A34 r31.Data.length D34) a.1::W1) ?_ ?_
 refine o_6 ?_
 obtain ⟨e1,hl1,hk1⟩:=bd hr
 refine c_loop (A:=Unit) hl1 (fun s a=>[(1,(iv axis4)),(2,(iv step5)),(4,(pt b7 0)),(8,(pt b8 0)),(9,(iv (w64 ((t1.Dims.length:Int) - 1)))),(12,(pt b35 0)),(13,(iv s.2))]) (fun s a=>bxl b8 [(.slice none 0 0),(.slice none 0 0)] 58::bxl b35 [(sc A33 r31.Dims D33),(sc A34 r31.Data D34)] 58::OO kT3 3 A33 D33 r31.Dims::ow kT3 3 (.slice A34 r31.Data.length D34) s.1::W1) () (aS R) (tE 6 [5,0,1,2]) ?_
 rintro ⟨x58,i59⟩ _ σ1 out1 hr he1
 dsimp only [Z0p_L1] at hr
 refine o_10 ?_
 split at hr
 refine o_6 ?_
 obtain ⟨r61,hx62,hr⟩:=bd hr
 refine o_4 ?_
 refine lM _ (fun w s=>(s.d 5 R)) ?_
 refine lC 1 cb102 R (Zg_ok hx62) R ?_
 rintro ⟨A63,N63,D63⟩
 refine l_len 0 sees_ow ?_
 rintro rfl
 refine o_4 ?_
 obtain ⟨hg64,hr⟩:=gd hr
 obtain ⟨_,hr⟩:=gd hr
 obtain ⟨r68,hx69,hr⟩:=bd hr
 obtain ⟨hg71,hr⟩:=gd hr
 refine c_some 0 sees_ow (show 0<r61.length by have:=hg64; omega) (fun g65 o66 ha=>?_)
 subst ha
 refine cdr 17 [] mixo fun ht hn=>?_
 refine d13_ 0 [] ?_
 refine dR 14 R (vI R) (d1 13 R (lC 1 cb122 R (FnOk.lends (A':=[OO kT3 3 (ad g65 o66) D63 r61]) (A:=[RR kT3 (ad g65 o66) D63 r61]) (B:=[]) (Z0h_ok hx69) ⟨lend_ow,trivial⟩ (fun _=>⟨(closed_ow cT3),trivial⟩)) R ?_))
 rintro ⟨A70,N70,D70⟩
 refine l_len 1 sees_ow ?_
 rintro rfl
 refine l_nil (q_draw (sL [1]) (d1 15 R (l_st (fun w s=>s.shr 1 R) (l_cut (K:=kT3) (0:Int) (w64 ((t1.Dims.length:Int) - 1)) 0 R R sl23 sz3 R R R R hg71.1 hg71.2.1 hg71.2.2 (fun A72 D72=>(l_nil (q_draw (sL [1,0]) (dR 16 R (vS R) (hS:=(sL [1,0])) (dD (q_next ?_))))))))))
 obtain ⟨r73,hx74,hr⟩:=bd hr
 obtain ⟨hg75,hr⟩:=gd hr
 obtain ⟨r78,hx79,hr⟩:=bd hr
 obtain ⟨r80,hx81,hr⟩:=bd hr
 refine c_some 9 sees_rd (show 0<t1.Data.length by have:=hg75; omega) (fun g76 o77 ha=>?_)
 subst ha
 refine cdr 12 [6] mixo fun ht hn=>?_
 refine d4_ 0 [6] ?_
 refine d5_ 5 [6] ?_
 refine d1 4 R (lM _ (fun w s=>((s.d 0 R).f 8 [6,2,0,6])) ?_)
 refine lC 3 cb112 R (FnOk.lends (A':=[OO kT3 3 A33 D33 r31.Dims,ow kT3 3 (.slice A34 r31.Data.length D34) x58]) (A:=[RR kT3 A33 D33 r31.Dims,rds kT3 (.slice A34 r31.Data.length D34) x58]) (B:=[RR kT3 A72 D72 (sub r68 (0:Int) (w64 ((t1.Dims.length:Int) - 1)))]) (Z13_ok (t1:=(⟨r31.Dims,x58⟩:Tensor)) hx74) ⟨lend_ow,lend_ow,trivial⟩ (fun _=>trivial)) R ?_
 rintro _
 refine l_nil (q_draw (fun w s=>(s.f 7 [2,5,0,1])) (d1 10 R (lC 0 cb115 R (Z1j_ok hx79) R ?_)))
 rintro _
 refine l_nil (q_draw (fun w s=>(s.f 7 [2,5,0,1])) (d1 11 R (lM _ (fun w s=>((s.d 2 R).f 8 [1,2,0,1,3,5])) ?_)))
 refine lC 3 cb123 R (FnOk.lends (A':=[OO kT3 3 A33 D33 r31.Dims]) (A:=[RR kT3 A33 D33 r31.Dims]) (B:=[ow kT3 3 (.slice A34 r31.Data.length D34) x58,RR kT3 A72 D72 (sub r68 (0:Int) (w64 ((t1.Dims.length:Int) - 1)))]) (Z1r_ok (t1:=(⟨r31.Dims,x58⟩:Tensor)) hx81) ⟨lend_ow,trivial⟩ (fun _=>⟨(closed_ow cT3),trivial⟩)) R ?_
 rintro _
 refine l_nil (q_draw (fun w s=>(s.f 7 [2,5,0,1])) (dD ?_))
 refine o_7 ?_
 cases hr
 exact qA () (tE 7 [5,6,0,1])
 refine o_3 ?_
 cases hr
 obtain rfl:=he1 _ R
 have hr:=hk1
 refine o_2 ?_
 exact qI (x58,()) hr tI
 rintro ⟨x84,_⟩ σ1 hr
 dsimp only [Z0p_J1] at hr
 refine o_3 ?_
 refine l_stores 0 R R sz58 R R R R R R (lN (bxl b8 [(sc A33 r31.Dims D33),(sc A34 r31.Data D34)] 58::_::_::ow kT3 3 (.slice A34 r31.Data.length D34) x84::W1) ?_)
 refine o_3 ?_
 cases hr
 exact qS ((A33,r31.Dims.length,D33),(A34,r31.Data.length,D34)) (tE 7 [2,3])
theorem Z1_ok  {n1:Node}{a6:(List Tensor)}{r:Tensor}(hr:Z1 n1 a6=some r) :
 FnOk Tryz.prog 53 [(.agg [(iv n1.Op),(.slice A2 N2 D2),(.slice A3 N3 D3),(.slice A4 N4 D4),(vstr n1.Form),(.slice A5 N5 D5)].toArray),(.slice A7 N7 D7)] [rds kT3 (.slice A2 N2 D2) n1.Args,rds kT3 (.slice A3 N3 D3) n1.Dims,rds kT3 (.slice A4 N4 D4) n1.Ints,rds kT3 (.slice A5 N5 D5) n1.Data,rds kT58 (.slice A7 N7 D7) a6] (fun (h:HH×HH)=>((.agg [(.slice h.1.1 h.1.2.1 h.1.2.2),(.slice h.2.1 h.2.2.1 h.2.2.2)].toArray),[ow kT3 3 (.slice h.1.1 h.1.2.1 h.1.2.2) r.Dims,ow kT3 3 (.slice h.2.1 h.2.2.1 h.2.2.2) r.Data])):=by
 unfold Z1 at hr
 refine fn_ok Tryz.func53 R 217 R R fun C V=>?_
 refine cN (_::_::_::_::_::V) ?_
 refine cL 0 sees_rd ?_
 rintro rfl
 refine cL 1 sees_rd ?_
 rintro rfl
 refine cL 2 sees_rd ?_
 rintro rfl
 refine cL 3 sees_rd ?_
 rintro rfl
 refine cL 4 sees_rd ?_
 rintro rfl
 let W0:List HP:=RR kT3 A2 D2 n1.Args::RR kT3 A3 D3 n1.Dims::RR kT3 A4 D4 n1.Ints::RR kT3 A5 D5 n1.Data::RR kT58 A7 D7 a6::V
 refine cN W0 ?_
 refine c_seq (c_region (lBx R (fun b8=>(l_alloc R R zc58 (fun b9=>(l_nil ?_))))))
 let W1:List HP:=bxl b8 [(iv n1.Op),(sc A2 n1.Args D2),(sc A3 n1.Dims D3),(sc A4 n1.Ints D4),(vstr n1.Form),(sc A5 n1.Data D5)] 54::W0
 refine qN (_::W1) ?_
 refine q_next (c_seq (c_region (lO (vFa 3 fo54_3 R) (lO (vLd 1 ag23 R R R) (lS R (l_nil (q_next (c_seq (c_seq (c_region (lO (vFa 0 fo54_0 R) (lO (vLd 1 ag3 R R R) (l_nil (q_next (c_block (c_seq (c_region (lO (vEq R R) (lB R (l_nil (q_next ?_)))))))))))))))))))))
 rcases bif_ hr with ⟨hb10,hr⟩|⟨hb10,hr⟩
 refine c_true R hb10 (c_seq (c_region (lO (vFa 2 fo54_2 R) (lO (vLd 1 ag23 R R R) (lO (vFa 5 fo54_5 R) (lO (vLd 1 ag23 R R R) (lO (vz (.agg [(sc A3 n1.Dims D3),(sc A5 n1.Data D5)].toArray) (v_build pl58 zc58 R R)) (l_alloc R R zc58 (fun b11=>(l_stores 0 R R sz58 R R R R R R (lN (bxl b11 [(sc A3 n1.Dims D3),(sc A5 n1.Data D5)] 58::_::W1) ?_)))))))))))
 refine l_nil (q_next (c_seq (c_seq ?_)))
 obtain ⟨r12,hx13,hr⟩:=bd hr
 refine c_region (lO (vz (.agg [(sc A3 n1.Dims D3),(sc A5 n1.Data D5)].toArray) (v_loadw 0 ag58 sz58 R R R R)) (lM (RR kT3 A3 D3 n1.Dims::RR kT3 A5 D5 n1.Data::bxl _ _ _::bxl _ _ _::W1) (fun w s=>(((s.d 4 R).d 7 R).e 4 [1,0,2,3])) ?_))
 refine lC 2 cb55 R (Zo_ok (t1:=(⟨n1.Dims,n1.Data⟩:Tensor)) hx13) R ?_
 rintro _
 refine lN (_::_::W1) ?_
 refine lO (vNo R) (l_nil (q_next ?_))
 rcases bif_ hr with ⟨hb14,hr⟩|⟨hb14,hr⟩
 refine c_true R hb14 (c_seq (c_region (lO (vz (.agg [(.slice none 0 0),(.slice none 0 0)].toArray) (v_build pl58 zc58 R R)) (l_stores 1 R R sz58 R R R R R R (l_nil (q_next (c_ret (q_ret (q_blockr (q_ret ?_))))))))))
 obtain rfl:=so hr
 exact q_fin (vs:=[(.agg [(.slice none 0 0),(.slice none 0 0)].toArray)]) (.inl R) ((none,0,0),(none,0,0)) R ⟨⟨1,b9,_,_,R,R,.inl ⟨ag58,sz58,R⟩⟩,trivial⟩ R (fun w s=>(((s.nilo kT3 3).nilo kT3 3).e 10 [1,0]))
 refine c_false R hb14 (c_skip (q_next (c_seq ?_)))
 obtain ⟨r15,hx16,hr⟩:=bd hr
 obtain ⟨r18,hx19,hr⟩:=bd hr
 refine cdr 8 [1] mixo (fun ht hn=>(dR 0 R (vFa 2 fo54_2 R) (hS:=(sL [1])) (dR 1 R (vLd 1 ag23 R R R) (hS:=(sL [1])) (dR 3 R (vFa 5 fo54_5 R) (hS:=(sL [1])) (dR 4 R (vLd 1 ag23 R R R) (hS:=(sL [1])) (d1 2 R (lM (RR kT3 A3 D3 n1.Dims::_::_::W1) (fun w s=>(s.d 4 R)) ?_)))))))
 refine lC 1 cb57 R (Zq_ok hx16) R ?_
 rintro ⟨A17,N17,D17⟩
 refine lN (ow kT3 3 (.slice A17 N17 D17) r15::_::_::W1) ?_
 refine l_len 0 sees_ow ?_
 rintro rfl
 refine l_nil (q_draw (sL [2,0]) (d1 5 R (lM (RR kT3 A5 D5 n1.Data::_::_::_::W1) (fun w s=>(s.d 7 R)) ?_)))
 refine lC 1 cb57 R (Zq_ok hx19) R ?_
 rintro ⟨A20,N20,D20⟩
 refine lN (ow kT3 3 (.slice A20 N20 D20) r18::_::_::_::W1) ?_
 refine l_len 0 sees_ow ?_
 rintro rfl
 refine l_nil (q_draw (sL [3,1,0]) (dR 6 R (vz (.agg [(sc A17 r15 D17),(sc A20 r18 D20)].toArray) (v_build pl58 zc58 R R)) (hS:=(sL [3,1,0])) (d1 7 R (l_stores 3 R R sz58 R R R R R R (lN (_::_::_::bxl b9 [(sc A17 r15 D17),(sc A20 r18 D20)] 58::W1) ?_)))))
 refine l_nil (q_draw (sL [3,1,0]) (dD (q_next (c_ret (q_blockr (q_ret ?_))))))
 obtain rfl:=so hr
 exact q_fin (vs:=[(.agg [(sc A17 r15 D17),(sc A20 r18 D20)].toArray)]) (.inl R) ((A17,r15.length,D17),(A20,r18.length,D20)) R ⟨⟨3,b9,_,_,R,R,.inl ⟨ag58,sz58,R⟩⟩,trivial⟩ R (fun w s=>(s.e 10 [1,0]))
 refine c_false R hb10 (c_seq (c_cut (A:=(Bool)×(Unit)) (fun a=>Z1_J1 n1 a6 a.1=some r) (fun a=>[(1,(sc A7 a6 D7)),(2,(pt b8 0)),(4,(pt b9 0)),(5,(sc A4 n1.Ints D4)),(10,(iv n1.Op)),(29,(.bool a.1))]) (fun a=>bxl b9 [(.slice none 0 0),(.slice none 0 0)] 58::W1) ?_ ?_))
 refine c_seq (c_region (lO (vEq R R) (lB R (l_nil (q_next ?_)))))
 rcases bif_ hr with ⟨hb21,hr⟩|⟨hb21,hr⟩
 refine c_true R hb21 (c_skip ?_)
 exact qI ((n1.Op==(3:Int)),()) hr (fun w s=>s)
 refine c_false R hb21 (c_seq (c_region (lO (vEq R R) (lB R (l_nil (q_next ?_))))))
 rcases bif_ hr with ⟨hb22,hr⟩|⟨hb22,hr⟩
 refine c_true R hb22 (c_skip ?_)
 exact qI ((n1.Op==(4:Int)),()) hr (fun w s=>s)
 refine c_false R hb22 (c_region (lO (vEq R R) (lB R (l_nil ?_))))
 exact qI ((n1.Op==(5:Int)),()) hr (fun w s=>s)
 rintro ⟨x23,_⟩ σ1 hr
 replace hr:Z1_J1 n1 a6 x23=some r:=hr
 unfold Z1_J1 at hr
 rcases bif_ hr with ⟨hb24,hr⟩|⟨hb24,hr⟩
 refine c_true R hb24 (c_seq (c_seq ?_))
 obtain ⟨hg25,hr⟩:=gd hr
 obtain ⟨hg30,hr⟩:=gd hr
 obtain ⟨r33,hx34,hr⟩:=bd hr
 refine c_some 6 sees_rd (show 0<a6.length by have:=hg25; omega) (fun g26 o27 ha=>?_)
 subst ha
 refine c_elem (K:=kT58) 6 (0:Int) dT58.dec R hg25.1 hg25.2 ?_
 rintro ⟨⟨A28,D28⟩,⟨A29,D29⟩⟩
 refine cN (cl g26 (o27+(0:Int).toNat*2) [(sc A28 ((ix a6 (0:Int)).Dims) D28),(sc A29 ((ix a6 (0:Int)).Data) D29)]::RR kT3 A28 D28 ((ix a6 (0:Int)).Dims)::RR kT3 A29 D29 ((ix a6 (0:Int)).Data)::bxl b9 [(.slice none 0 0),(.slice none 0 0)] 58::W1) ?_
 refine c_elem (K:=kT58) 9 (1:Int) dT58.dec R hg30.1 hg30.2 ?_
 rintro ⟨⟨A31,D31⟩,⟨A32,D32⟩⟩
 refine cN (cl g26 (o27+(1:Int).toNat*2) [(sc A31 ((ix a6 (1:Int)).Dims) D31),(sc A32 ((ix a6 (1:Int)).Data) D32)]::RR kT3 A31 D31 ((ix a6 (1:Int)).Dims)::RR kT3 A32 D32 ((ix a6 (1:Int)).Data)::_::_::_::_::W1) ?_
 refine cdr 10 [] mixo (fun ht hn=>(dR 0 R (vS R) (dR 1 R (vIa sl46 sz58 R R hg25) (dR 2 R (vz (.pointer (some ⟨g26,o27+(0:Int).toNat*2,none⟩)) (v_fa fo58_0 R R)) (dR 3 R (v_clf (fo:=0) 3 ag23 R R R) (dR 4 R (vS R) (dR 5 R (vIa sl46 sz58 R R hg30) (dR 6 R (vz (.pointer (some ⟨g26,o27+(1:Int).toNat*2,none⟩)) (v_fa fo58_0 R R)) (dR 7 R (v_clf (fo:=0) 0 ag23 R R R) (d1 8 R (lM (rds _ _ _::rds _ _ _::cl _ _ _::rds _ _ _::rds _ _ _::cl _ _ _::rds _ _ _::rds _ _ _::bxl _ _ _::W1) (fun w s=>(((s.d 4 R).d 2 R).f 9 [1,1,0,1,2,7])) ?_)))))))))))
 refine lC 2 cb56 R (Zz_ok hx34) R ?_
 rintro _
 refine lN (_::_::_::_::_::_::_::W1) ?_
 refine l_nil (q_draw (sL []) (dR 9 R (vNo R) (dD (q_next ?_))))
 rcases bif_ hr with ⟨hb35,hr⟩|⟨hb35,hr⟩
 refine c_true R hb35 (c_seq (c_region (lO (vz (.agg [(.slice none 0 0),(.slice none 0 0)].toArray) (v_build pl58 zc58 R R)) (l_stores 6 R R sz58 R R R R R R (l_nil (q_next (c_ret (q_ret (q_blockr (q_ret ?_))))))))))
 obtain rfl:=so hr
 exact q_fin (vs:=[(.agg [(.slice none 0 0),(.slice none 0 0)].toArray)]) (.inl R) ((none,0,0),(none,0,0)) R ⟨⟨6,b9,_,_,R,R,.inl ⟨ag58,sz58,R⟩⟩,trivial⟩ R (fun w s=>(((s.nilo kT3 3).nilo kT3 3).e 15 [1,0]))
 refine c_false R hb35 (c_skip (q_next (c_seq ?_)))
 obtain ⟨r36,hx37,hr⟩:=bd hr
 refine cdr 12 [6] mixo (fun ht hn=>(dR 0 R (vFa 0 fo54_0 R) (hS:=(sL [6])) (dR 1 R (vLd 6 ag3 R R R) (hS:=(sL [6])) (dR 2 R (vSb R R) (hS:=(sL [6])) (dR 3 R (vAd R R) (hS:=(sL [6])) (dR 4 R (vS R) (hS:=(sL [6])) (dR 5 R (vIa sl46 sz58 R R hg25) (hS:=(sL [6])) (dR 6 R (vz (.agg [(sc A28 ((ix a6 (0:Int)).Dims) D28),(sc A29 ((ix a6 (0:Int)).Data) D29)].toArray) (v_clfs (fo:=0) 3 ag58 sz58 R R R R)) (hS:=(sL [6])) (dR 7 R (vS R) (hS:=(sL [6])) (dR 8 R (vIa sl46 sz58 R R hg30) (hS:=(sL [6])) (dR 9 R (vz (.agg [(sc A31 ((ix a6 (1:Int)).Dims) D31),(sc A32 ((ix a6 (1:Int)).Data) D32)].toArray) (v_clfs (fo:=0) 0 ag58 sz58 R R R R)) (hS:=(sL [6])) (d1 10 R (lM (rds _ _ _::rds _ _ _::rds _ _ _::rds _ _ _::cl _ _ _::rds _ _ _::rds _ _ _::cl _ _ _::rds _ _ _::rds _ _ _::bxl _ _ _::W1) (fun w s=>(((((s.d 4 R).d 6 R).d 3 R).d 5 R).f 11 [3,1,2,1,1,1,0,1,4,7])) ?_)))))))))))))
 refine lC 4 cb78 R (Z10_ok hx37) R ?_
 rintro ⟨⟨A38,N38,D38⟩,⟨A39,N39,D39⟩⟩
 refine lN (ow kT3 3 (.slice A38 N38 D38) r36.Dims::ow kT3 3 (.slice A39 N39 D39) r36.Data::_::_::_::_::_::_::_::W1) ?_
 refine l_len 0 sees_ow ?_
 rintro rfl
 refine l_len 1 sees_ow ?_
 rintro rfl
 refine l_nil (q_draw (sL [8,1,0]) (d1 11 R (l_stores 8 R R sz58 R R R R R R (lN (_::_::_::_::_::_::_::_::bxl b9 [(sc A38 r36.Dims D38),(sc A39 r36.Data D39)] 58::W1) ?_))))
 refine l_nil (q_draw (sL [8,1,0]) (dD (q_next (c_ret (q_blockr (q_ret ?_))))))
 obtain rfl:=so hr
 exact q_fin (vs:=[(.agg [(sc A38 r36.Dims D38),(sc A39 r36.Data D39)].toArray)]) (.inl R) ((A38,r36.Dims.length,D38),(A39,r36.Data.length,D39)) R ⟨⟨8,b9,_,_,R,R,.inl ⟨ag58,sz58,R⟩⟩,trivial⟩ R (fun w s=>(s.e 15 [0,1]))
 refine c_false R hb24 (c_seq (c_cut (A:=(Bool)×(Unit)) (fun a=>Z1_J2 n1 a6 a.1=some r) (fun a=>[(1,(sc A7 a6 D7)),(2,(pt b8 0)),(4,(pt b9 0)),(5,(sc A4 n1.Ints D4)),(10,(iv n1.Op)),(55,(.bool a.1))]) (fun a=>bxl b9 [(.slice none 0 0),(.slice none 0 0)] 58::W1) ?_ ?_))
 refine c_seq (c_region (lO (vEq R R) (lB R (l_nil (q_next ?_)))))
 rcases bif_ hr with ⟨hb40,hr⟩|⟨hb40,hr⟩
 refine c_true R hb40 (c_skip ?_)
 exact qI ((n1.Op==(6:Int)),()) hr (fun w s=>s)
 refine c_false R hb40 (c_seq (c_region (lO (vEq R R) (lB R (l_nil (q_next ?_))))))
 rcases bif_ hr with ⟨hb41,hr⟩|⟨hb41,hr⟩
 refine c_true R hb41 (c_skip ?_)
 exact qI ((n1.Op==(7:Int)),()) hr (fun w s=>s)
 refine c_false R hb41 (c_seq (c_region (lO (vEq R R) (lB R (l_nil (q_next ?_))))))
 rcases bif_ hr with ⟨hb42,hr⟩|⟨hb42,hr⟩
 refine c_true R hb42 (c_skip ?_)
 exact qI ((n1.Op==(8:Int)),()) hr (fun w s=>s)
 refine c_false R hb42 (c_region (lO (vEq R R) (lB R (l_nil ?_))))
 exact qI ((n1.Op==(9:Int)),()) hr (fun w s=>s)
 rintro ⟨x43,_⟩ σ1 hr
 replace hr:Z1_J2 n1 a6 x43=some r:=hr
 unfold Z1_J2 at hr
 rcases bif_ hr with ⟨hb44,hr⟩|⟨hb44,hr⟩
 refine c_true R hb44 (c_seq ?_)
 obtain ⟨hg45,hr⟩:=gd hr
 obtain ⟨r50,hx51,hr⟩:=bd hr
 refine c_some 6 sees_rd (show 0<a6.length by have:=hg45; omega) (fun g46 o47 ha=>?_)
 subst ha
 refine c_elem (K:=kT58) 6 (0:Int) dT58.dec R hg45.1 hg45.2 ?_
 rintro ⟨⟨A48,D48⟩,⟨A49,D49⟩⟩
 refine cN (cl g46 (o47+(0:Int).toNat*2) [(sc A48 ((ix a6 (0:Int)).Dims) D48),(sc A49 ((ix a6 (0:Int)).Data) D49)]::RR kT3 A48 D48 ((ix a6 (0:Int)).Dims)::RR kT3 A49 D49 ((ix a6 (0:Int)).Data)::bxl b9 [(.slice none 0 0),(.slice none 0 0)] 58::W1) ?_
 refine cdr 9 [3] mixo (fun ht hn=>(dR 0 R (vFa 0 fo54_0 R) (hS:=(sL [3])) (dR 1 R (vLd 3 ag3 R R R) (hS:=(sL [3])) (dR 2 R (vSb R R) (hS:=(sL [3])) (dR 3 R (vAd R R) (hS:=(sL [3])) (dR 4 R (vS R) (hS:=(sL [3])) (dR 5 R (vIa sl46 sz58 R R hg45) (hS:=(sL [3])) (dR 6 R (vz (.agg [(sc A48 ((ix a6 (0:Int)).Dims) D48),(sc A49 ((ix a6 (0:Int)).Data) D49)].toArray) (v_clfs (fo:=0) 0 ag58 sz58 R R R R)) (hS:=(sL [3])) (d1 7 R (lM (rds _ _ _::rds _ _ _::cl _ _ _::rds _ _ _::rds _ _ _::bxl _ _ _::W1) (fun w s=>(((s.d 1 R).d 3 R).e 6 [1,0,2,3,4,5])) ?_))))))))))
 refine lC 2 cb79 R (Z0z_ok hx51) R ?_
 rintro ⟨⟨A52,N52,D52⟩,⟨A53,N53,D53⟩⟩
 refine lN (ow kT3 3 (.slice A52 N52 D52) r50.Dims::ow kT3 3 (.slice A53 N53 D53) r50.Data::_::_::_::_::W1) ?_
 refine l_len 0 sees_ow ?_
 rintro rfl
 refine l_len 1 sees_ow ?_
 rintro rfl
 refine l_nil (q_draw (sL [5,1,0]) (d1 8 R (l_stores 5 R R sz58 R R R R R R (lN (_::_::_::_::_::bxl b9 [(sc A52 r50.Dims D52),(sc A53 r50.Data D53)] 58::W1) ?_))))
 refine l_nil (q_draw (sL [5,1,0]) (dD (q_next (c_ret (q_blockr (q_ret ?_))))))
 obtain rfl:=so hr
 exact q_fin (vs:=[(.agg [(sc A52 r50.Dims D52),(sc A53 r50.Data D53)].toArray)]) (.inl R) ((A52,r50.Dims.length,D52),(A53,r50.Data.length,D53)) R ⟨⟨5,b9,_,_,R,R,.inl ⟨ag58,sz58,R⟩⟩,trivial⟩ R (fun w s=>(s.e 12 [0,1]))
 refine c_false R hb44 (c_seq (c_region (lO (vEq R R) (lB R (l_nil (q_next ?_))))))
 rcases bif_ hr with ⟨hb54,hr⟩|⟨hb54,hr⟩
 refine c_true R hb54 (c_seq ?_)
 obtain ⟨hg55,hr⟩:=gd hr
 obtain ⟨hg60,hr⟩:=gd hr
 obtain ⟨r63,hx64,hr⟩:=bd hr
 refine c_some 6 sees_rd (show 0<a6.length by have:=hg55; omega) (fun g56 o57 ha=>?_)
 subst ha
 refine c_elem (K:=kT58) 6 (0:Int) dT58.dec R hg55.1 hg55.2 ?_
 rintro ⟨⟨A58,D58⟩,⟨A59,D59⟩⟩
 refine cN (cl g56 (o57+(0:Int).toNat*2) [(sc A58 ((ix a6 (0:Int)).Dims) D58),(sc A59 ((ix a6 (0:Int)).Data) D59)]::RR kT3 A58 D58 ((ix a6 (0:Int)).Dims)::RR kT3 A59 D59 ((ix a6 (0:Int)).Data)::bxl b9 [(.slice none 0 0),(.slice none 0 0)] 58::W1) ?_
 refine c_some 7 sees_rd (show 0<n1.Ints.length by have:=hg60; omega) (fun g61 o62 ha=>?_)
 subst ha
 refine cdr 8 [3] mixo (fun ht hn=>(dR 0 R (vS R) (hS:=(sL [3])) (dR 1 R (vIa sl46 sz58 R R hg55) (hS:=(sL [3])) (dR 2 R (vz (.agg [(sc A58 ((ix a6 (0:Int)).Dims) D58),(sc A59 ((ix a6 (0:Int)).Data) D59)].toArray) (v_clfs (fo:=0) 0 ag58 sz58 R R R R)) (hS:=(sL [3])) (dR 3 R (vS R) (hS:=(sL [3])) (dR 4 R (vIa sl23 sz3 R R hg60) (hS:=(sL [3])) (dR 5 R (vLi 6 ag3 sees_rd R hg60) (hS:=(sL [3])) (d1 6 R (lM (rds _ _ _::rds _ _ _::cl _ _ _::rds _ _ _::rds _ _ _::bxl _ _ _::W1) (fun w s=>(((s.d 1 R).d 3 R).e 6 [1,0,2,3,4,5])) ?_)))))))))
 refine lC 2 cb80 R (Za_ok hx64) R ?_
 rintro ⟨⟨A65,N65,D65⟩,⟨A66,N66,D66⟩⟩
 refine lN (ow kT3 3 (.slice A65 N65 D65) r63.Dims::ow kT3 3 (.slice A66 N66 D66) r63.Data::_::_::_::_::W1) ?_
 refine l_len 0 sees_ow ?_
 rintro rfl
 refine l_len 1 sees_ow ?_
 rintro rfl
 refine l_nil (q_draw (sL [5,1,0]) (d1 7 R (l_stores 5 R R sz58 R R R R R R (lN (_::_::_::_::_::bxl b9 [(sc A65 r63.Dims D65),(sc A66 r63.Data D66)] 58::W1) ?_))))
 refine l_nil (q_draw (sL [5,1,0]) (dD (q_next (c_ret (q_blockr (q_ret ?_))))))
 obtain rfl:=so hr
 exact q_fin (vs:=[(.agg [(sc A65 r63.Dims D65),(sc A66 r63.Data D66)].toArray)]) (.inl R) ((A65,r63.Dims.length,D65),(A66,r63.Data.length,D66)) R ⟨⟨5,b9,_,_,R,R,.inl ⟨ag58,sz58,R⟩⟩,trivial⟩ R (fun w s=>(s.e 12 [0,1]))
 refine c_false R hb54 (c_seq (c_region (lO (vEq R R) (lB R (l_nil (q_next ?_))))))
 rcases bif_ hr with ⟨hb67,hr⟩|⟨hb67,hr⟩
 refine c_true R hb67 (c_seq ?_)
 obtain ⟨r68,hx69,hr⟩:=bd hr
 refine c_region (lO (vFa 4 fo54_4 R) (lO (vLd 1 ag9 R R R) (lS R (lM (RR kT58 A7 D7 a6::bxl b9 [(.slice none 0 0),(.slice none 0 0)] 58::W1) (fun w s=>(s.d 6 R)) ?_))))
 refine lC 1 cb81 R (Z5_ok hx69) R ?_
 rintro ⟨⟨A70,N70,D70⟩,⟨A71,N71,D71⟩⟩
 refine lN (ow kT3 3 (.slice A70 N70 D70) r68.Dims::ow kT3 3 (.slice A71 N71 D71) r68.Data::_::W1) ?_
 refine l_len 0 sees_ow ?_
 rintro rfl
 refine l_len 1 sees_ow ?_
 rintro rfl
 refine l_stores 2 R R sz58 R R R R R R (lN (_::_::bxl b9 [(sc A70 r68.Dims D70),(sc A71 r68.Data D71)] 58::W1) ?_)
 refine l_nil (q_next (c_ret (q_blockr (q_ret ?_))))
 obtain rfl:=so hr
 exact q_fin (vs:=[(.agg [(sc A70 r68.Dims D70),(sc A71 r68.Data D71)].toArray)]) (.inl R) ((A70,r68.Dims.length,D70),(A71,r68.Data.length,D71)) R ⟨⟨2,b9,_,_,R,R,.inl ⟨ag58,sz58,R⟩⟩,trivial⟩ R (fun w s=>(s.e 9 [0,1]))
 refine c_false R hb67 (c_seq (c_region (lO (vEq R R) (lB R (l_nil (q_next ?_))))))
 rcases bif_ hr with ⟨hb72,hr⟩|⟨hb72,hr⟩
 refine c_true R hb72 (c_seq ?_)
 obtain ⟨hg73,hr⟩:=gd hr
 obtain ⟨r78,hx79,hr⟩:=bd hr
 obtain ⟨r82,hx83,hr⟩:=bd hr
 obtain ⟨r86,hx87,hr⟩:=bd hr
 refine c_some 6 sees_rd (show 0<a6.length by have:=hg73; omega) (fun g74 o75 ha=>?_)
 subst ha
 refine c_elem (K:=kT58) 6 (0:Int) dT58.dec R hg73.1 hg73.2 ?_
 rintro ⟨⟨A76,D76⟩,⟨A77,D77⟩⟩
 refine cN (cl g74 (o75+(0:Int).toNat*2) [(sc A76 ((ix a6 (0:Int)).Dims) D76),(sc A77 ((ix a6 (0:Int)).Data) D77)]::RR kT3 A76 D76 ((ix a6 (0:Int)).Dims)::RR kT3 A77 D77 ((ix a6 (0:Int)).Data)::bxl b9 [(.slice none 0 0),(.slice none 0 0)] 58::W1) ?_
 refine cdr 13 [3] mixo (fun ht hn=>(dR 0 R (vS R) (hS:=(sL [3])) (dR 1 R (vIa sl46 sz58 R R hg73) (hS:=(sL [3])) (dR 2 R (vz (.agg [(sc A76 ((ix a6 (0:Int)).Dims) D76),(sc A77 ((ix a6 (0:Int)).Data) D77)].toArray) (v_clfs (fo:=0) 0 ag58 sz58 R R R R)) (hS:=(sL [3])) (dR 3 R (vS R) (hS:=(sL [3])) (dR 4 R (vIa sl46 sz58 R R hg73) (hS:=(sL [3])) (dR 5 R (vz (.pointer (some ⟨g74,o75+(0:Int).toNat*2,none⟩)) (v_fa fo58_0 R R)) (hS:=(sL [3])) (dR 6 R (v_clf (fo:=0) 0 ag23 R R R) (hS:=(sL [3])) (dR 8 R (vFa 2 fo54_2 R) (hS:=(sL [3])) (dR 9 R (vLd 3 ag23 R R R) (hS:=(sL [3])) (d1 7 R (lM (_::_::_::_::_::W1) (fun w s=>(s.d 1 R)) ?_))))))))))))
 refine lC 1 cb84 R (Zv_ok hx79) R ?_
 rintro ⟨⟨A80,N80,D80⟩,⟨A81,N81,D81⟩⟩
 refine lN (rds kT3 (.slice A80 N80 D80) r78.Dims::ow kT3 3 (.slice A81 N81 D81) r78.Strides::_::_::_::_::W1) ?_
 refine l_len 0 sees_rd ?_
 rintro rfl
 refine l_len 1 sees_ow ?_
 rintro rfl
 refine l_nil (q_draw (sL [5,1,0]) (d1 10 R (lM (ow _ _ _ _::rds _ _ _::RR kT3 A3 D3 n1.Dims::rds _ _ _::cl _ _ _::rds _ _ _::rds _ _ _::bxl _ _ _::W1) (fun w s=>(((s.d 0 R).d 9 R).e 8 [3,1,0,2,4,5,6,7])) ?_)))
 refine lC 3 cb83 R (FnOk.lends (A':=[OO kT3 3 A81 D81 r78.Strides]) (A:=[RR kT3 A81 D81 r78.Strides]) (B:=[RR kT3 A80 D80 r78.Dims,RR kT3 A3 D3 n1.Dims]) (FnOk.perm (Z02_ok hx83) (Pre':=[RR kT3 A81 D81 r78.Strides,RR kT3 A80 D80 r78.Dims,RR kT3 A3 D3 n1.Dims]) (fun _ _ _ s=>(s.e 3 [1,0,2]))) ⟨lend_ow,trivial⟩ (fun _=>⟨(closed_ow cT3),(closed_ow cT3),trivial⟩)) R ?_
 rintro ⟨⟨A84,N84,D84⟩,⟨A85,N85,D85⟩⟩
 refine lN (_::ow kT3 3 (.slice A84 N84 D84) r82.Dims::ow kT3 3 (.slice A85 N85 D85) r82.Strides::_::_::_::_::_::W1) ?_
 refine l_len 1 sees_ow ?_
 rintro rfl
 refine l_len 2 sees_ow ?_
 rintro rfl
 refine l_nil (q_draw (sL [7,3,2,1,0]) (d1 11 R (lM (ow _ _ _ _::ow _ _ _ _::rds _ _ _::rds _ _ _::ow _ _ _ _::rds _ _ _::cl _ _ _::rds _ _ _::rds _ _ _::bxl _ _ _::W1) (fun w s=>(((s.d 5 R).d 7 R).e 10 [3,4,1,0,2,5,6,7,8,9])) ?_)))
 refine lC 4 cb82 R (FnOk.lends (A':=[OO kT3 3 A84 D84 r82.Dims,OO kT3 3 A85 D85 r82.Strides]) (A:=[RR kT3 A84 D84 r82.Dims,RR kT3 A85 D85 r82.Strides]) (B:=[RR kT3 A76 D76 ((ix a6 (0:Int)).Dims),RR kT3 A77 D77 ((ix a6 (0:Int)).Data)]) (FnOk.perm (Z00_ok hx87) (Pre':=[RR kT3 A84 D84 r82.Dims,RR kT3 A85 D85 r82.Strides,RR kT3 A76 D76 ((ix a6 (0:Int)).Dims),RR kT3 A77 D77 ((ix a6 (0:Int)).Data)]) (fun _ _ _ s=>(s.e 4 [2,3,0,1]))) ⟨lend_ow,lend_ow,trivial⟩ (fun _=>⟨(closed_ow cT3),(closed_ow cT3),trivial⟩)) R ?_
 rintro ⟨⟨A88,N88,D88⟩,⟨A89,N89,D89⟩⟩
 refine lN (_::_::ow kT3 3 (.slice A88 N88 D88) r86.Dims::ow kT3 3 (.slice A89 N89 D89) r86.Data::_::_::_::_::_::_::W1) ?_
 refine l_len 2 sees_ow ?_
 rintro rfl
 refine l_len 3 sees_ow ?_
 rintro rfl
 refine l_nil (q_draw (sL [9,5,4,3,2,1,0]) (d1 12 R (l_stores 9 R R sz58 R R R R R R (lN (_::_::_::_::_::_::_::_::_::bxl b9 [(sc A88 r86.Dims D88),(sc A89 r86.Data D89)] 58::W1) ?_))))
 refine l_nil (q_draw (sL [9,5,4,3,2,1,0]) (dD (q_next (c_ret (q_blockr (q_ret ?_))))))
 obtain rfl:=so hr
 exact q_fin (vs:=[(.agg [(sc A88 r86.Dims D88),(sc A89 r86.Data D89)].toArray)]) (.inl R) ((A88,r86.Dims.length,D88),(A89,r86.Data.length,D89)) R ⟨⟨9,b9,_,_,R,R,.inl ⟨ag58,sz58,R⟩⟩,trivial⟩ R (fun w s=>(s.e 16 [2,3]))
 refine c_false R hb72 (c_seq (c_region (lO (vEq R R) (lB R (l_nil (q_next ?_))))))
 rcases bif_ hr with ⟨hb90,hr⟩|⟨hb90,hr⟩
 refine c_true R hb90 (c_seq ?_)
 obtain ⟨hg91,hr⟩:=gd hr
 obtain ⟨r96,hx97,hr⟩:=bd hr
 obtain ⟨r100,hx101,hr⟩:=bd hr
 obtain ⟨r104,hx105,hr⟩:=bd hr
 refine c_some 6 sees_rd (show 0<a6.length by have:=hg91; omega) (fun g92 o93 ha=>?_)
 subst ha
 refine c_elem (K:=kT58) 6 (0:Int) dT58.dec R hg91.1 hg91.2 ?_
 rintro ⟨⟨A94,D94⟩,⟨A95,D95⟩⟩
 refine cN (cl g92 (o93+(0:Int).toNat*2) [(sc A94 ((ix a6 (0:Int)).Dims) D94),(sc A95 ((ix a6 (0:Int)).Data) D95)]::RR kT3 A94 D94 ((ix a6 (0:Int)).Dims)::RR kT3 A95 D95 ((ix a6 (0:Int)).Data)::bxl b9 [(.slice none 0 0),(.slice none 0 0)] 58::W1) ?_
 refine cdr 13 [3] mixo (fun ht hn=>(dR 0 R (vS R) (hS:=(sL [3])) (dR 1 R (vIa sl46 sz58 R R hg91) (hS:=(sL [3])) (dR 2 R (vz (.agg [(sc A94 ((ix a6 (0:Int)).Dims) D94),(sc A95 ((ix a6 (0:Int)).Data) D95)].toArray) (v_clfs (fo:=0) 0 ag58 sz58 R R R R)) (hS:=(sL [3])) (dR 3 R (vS R) (hS:=(sL [3])) (dR 4 R (vIa sl46 sz58 R R hg91) (hS:=(sL [3])) (dR 5 R (vz (.pointer (some ⟨g92,o93+(0:Int).toNat*2,none⟩)) (v_fa fo58_0 R R)) (hS:=(sL [3])) (dR 6 R (v_clf (fo:=0) 0 ag23 R R R) (hS:=(sL [3])) (dR 8 R (vFa 2 fo54_2 R) (hS:=(sL [3])) (dR 9 R (vLd 3 ag23 R R R) (hS:=(sL [3])) (d1 7 R (lM (_::_::_::_::_::W1) (fun w s=>(s.d 1 R)) ?_))))))))))))
 refine lC 1 cb84 R (Zv_ok hx97) R ?_
 rintro ⟨⟨A98,N98,D98⟩,⟨A99,N99,D99⟩⟩
 refine lN (rds kT3 (.slice A98 N98 D98) r96.Dims::ow kT3 3 (.slice A99 N99 D99) r96.Strides::_::_::_::_::W1) ?_
 refine l_len 0 sees_rd ?_
 rintro rfl
 refine l_len 1 sees_ow ?_
 rintro rfl
 refine l_nil (q_draw (sL [5,1,0]) (d1 10 R (lM (ow _ _ _ _::rds _ _ _::RR kT3 A3 D3 n1.Dims::rds _ _ _::cl _ _ _::rds _ _ _::rds _ _ _::bxl _ _ _::W1) (fun w s=>(((s.d 0 R).d 9 R).e 8 [3,1,0,2,4,5,6,7])) ?_)))
 refine lC 3 cb85 R (FnOk.lends (A':=[OO kT3 3 A99 D99 r96.Strides]) (A:=[RR kT3 A99 D99 r96.Strides]) (B:=[RR kT3 A98 D98 r96.Dims,RR kT3 A3 D3 n1.Dims]) (FnOk.perm (Z09_ok hx101) (Pre':=[RR kT3 A99 D99 r96.Strides,RR kT3 A98 D98 r96.Dims,RR kT3 A3 D3 n1.Dims]) (fun _ _ _ s=>(s.e 3 [1,0,2]))) ⟨lend_ow,trivial⟩ (fun _=>⟨(closed_ow cT3),(closed_ow cT3),trivial⟩)) R ?_
 rintro ⟨⟨A102,N102,D102⟩,⟨A103,N103,D103⟩⟩
 refine lN (_::ow kT3 3 (.slice A102 N102 D102) r100.Dims::ow kT3 3 (.slice A103 N103 D103) r100.Strides::_::_::_::_::_::W1) ?_
 refine l_len 1 sees_ow ?_
 rintro rfl
 refine l_len 2 sees_ow ?_
 rintro rfl
 refine l_nil (q_draw (sL [7,3,2,1,0]) (d1 11 R (lM (ow _ _ _ _::ow _ _ _ _::rds _ _ _::rds _ _ _::ow _ _ _ _::rds _ _ _::cl _ _ _::rds _ _ _::rds _ _ _::bxl _ _ _::W1) (fun w s=>(((s.d 5 R).d 7 R).e 10 [3,4,1,0,2,5,6,7,8,9])) ?_)))
 refine lC 4 cb82 R (FnOk.lends (A':=[OO kT3 3 A102 D102 r100.Dims,OO kT3 3 A103 D103 r100.Strides]) (A:=[RR kT3 A102 D102 r100.Dims,RR kT3 A103 D103 r100.Strides]) (B:=[RR kT3 A94 D94 ((ix a6 (0:Int)).Dims),RR kT3 A95 D95 ((ix a6 (0:Int)).Data)]) (FnOk.perm (Z00_ok hx105) (Pre':=[RR kT3 A102 D102 r100.Dims,RR kT3 A103 D103 r100.Strides,RR kT3 A94 D94 ((ix a6 (0:Int)).Dims),RR kT3 A95 D95 ((ix a6 (0:Int)).Data)]) (fun _ _ _ s=>(s.e 4 [2,3,0,1]))) ⟨lend_ow,lend_ow,trivial⟩ (fun _=>⟨(closed_ow cT3),(closed_ow cT3),trivial⟩)) R ?_
 rintro ⟨⟨A106,N106,D106⟩,⟨A107,N107,D107⟩⟩
 refine lN (_::_::ow kT3 3 (.slice A106 N106 D106) r104.Dims::ow kT3 3 (.slice A107 N107 D107) r104.Data::_::_::_::_::_::_::W1) ?_
 refine l_len 2 sees_ow ?_
 rintro rfl
 refine l_len 3 sees_ow ?_
 rintro rfl
 refine l_nil (q_draw (sL [9,5,4,3,2,1,0]) (d1 12 R (l_stores 9 R R sz58 R R R R R R (lN (_::_::_::_::_::_::_::_::_::bxl b9 [(sc A106 r104.Dims D106),(sc A107 r104.Data D107)] 58::W1) ?_))))
 refine l_nil (q_draw (sL [9,5,4,3,2,1,0]) (dD (q_next (c_ret (q_blockr (q_ret ?_))))))
 obtain rfl:=so hr
 exact q_fin (vs:=[(.agg [(sc A106 r104.Dims D106),(sc A107 r104.Data D107)].toArray)]) (.inl R) ((A106,r104.Dims.length,D106),(A107,r104.Data.length,D107)) R ⟨⟨9,b9,_,_,R,R,.inl ⟨ag58,sz58,R⟩⟩,trivial⟩ R (fun w s=>(s.e 16 [2,3]))
 refine c_false R hb90 (c_seq (c_region (lO (vEq R R) (lB R (l_nil (q_next ?_))))))
 rcases bif_ hr with ⟨hb108,hr⟩|⟨hb108,hr⟩
 refine c_true R hb108 (c_seq (c_seq ?_))
 obtain ⟨hg109,hr⟩:=gd hr
 refine c_region (lS R (t_some 4 sees_rd (show 0<n1.Ints.length by have:=hg109; omega) (fun g110 o111 ha=>?_)))
 subst ha
 refine lO (vIa sl23 sz3 R R hg109) (lO (vLi 4 ag3 sees_rd R hg109) (lO (vLt R R) (l_nil (q_next ?_))))
 rcases bif_ hr with ⟨hb112,hr⟩|⟨hb112,hr⟩
 refine c_true R hb112 (c_seq (c_region (lO (vz (.agg [(.slice none 0 0),(.slice none 0 0)].toArray) (v_build pl58 zc58 R R)) (l_stores 0 R R sz58 R R R R R R (lN (bxl b9 [(.slice none 0 0),(.slice none 0 0)] 58::W1) ?_)))))
 refine l_nil (q_next (c_ret (q_ret (q_blockr (q_ret ?_)))))
 obtain rfl:=so hr
 exact q_fin (vs:=[(.agg [(.slice none 0 0),(.slice none 0 0)].toArray)]) (.inl R) ((none,0,0),(none,0,0)) R ⟨⟨0,b9,_,_,R,R,.inl ⟨ag58,sz58,R⟩⟩,trivial⟩ R (fun w s=>(((s.nilo kT3 3).nilo kT3 3).e 9 [1,0]))
 refine c_false R hb112 (c_skip (q_next (c_seq ?_)))
 obtain ⟨hg113,hr⟩:=gd hr
 obtain ⟨r118,hx119,hr⟩:=bd hr
 obtain ⟨hg122,hr⟩:=gd hr
 obtain ⟨hg123,hr⟩:=gd hr
 obtain ⟨hg124,hr⟩:=gd hr
 obtain ⟨r125,hx126,hr⟩:=bd hr
 obtain ⟨r129,hx130,hr⟩:=bd hr
 refine c_some 6 sees_rd (show 0<a6.length by have:=hg113; omega) (fun g114 o115 ha=>?_)
 subst ha
 refine c_elem (K:=kT58) 6 (0:Int) dT58.dec R hg113.1 hg113.2 ?_
 rintro ⟨⟨A116,D116⟩,⟨A117,D117⟩⟩
 refine cN (cl g114 (o115+(0:Int).toNat*2) [(sc A116 ((ix a6 (0:Int)).Dims) D116),(sc A117 ((ix a6 (0:Int)).Data) D117)]::RR kT3 A116 D116 ((ix a6 (0:Int)).Dims)::RR kT3 A117 D117 ((ix a6 (0:Int)).Data)::_::W1) ?_
 refine cdr 23 [3] mixo (fun ht hn=>(dR 0 R (vS R) (hS:=(sL [3])) (dR 1 R (vIa sl46 sz58 R R hg113) (hS:=(sL [3])) (dR 2 R (vz (.agg [(sc A116 ((ix a6 (0:Int)).Dims) D116),(sc A117 ((ix a6 (0:Int)).Data) D117)].toArray) (v_clfs (fo:=0) 0 ag58 sz58 R R R R)) (hS:=(sL [3])) (dR 3 R (vS R) (hS:=(sL [3])) (dR 4 R (vIa sl46 sz58 R R hg113) (hS:=(sL [3])) (dR 5 R (vz (.pointer (some ⟨g114,o115+(0:Int).toNat*2,none⟩)) (v_fa fo58_0 R R)) (hS:=(sL [3])) (dR 6 R (v_clf (fo:=0) 0 ag23 R R R) (hS:=(sL [3])) (dR 8 R (vS R) (hS:=(sL [3])) (dR 9 R (vIa sl23 sz3 R R hg122) (hS:=(sL [3])) (dR 10 R (vLi 6 ag3 sees_rd R hg122) (hS:=(sL [3])) (dR 11 R (vS R) (hS:=(sL [3])) (dR 12 R (vIa sl23 sz3 R R hg123) (hS:=(sL [3])) (dR 13 R (vLi 6 ag3 sees_rd R hg123) (hS:=(sL [3])) (dR 14 R (vS R) (hS:=(sL [3])) (dR 15 R (vIa sl23 sz3 R R hg124) (hS:=(sL [3])) (dR 16 R (vLi 6 ag3 sees_rd R hg124) (hS:=(sL [3])) (dR 17 R (vS R) (hS:=(sL [3])) (dR 18 R (vIa sl23 sz3 R R hg109) (hS:=(sL [3])) (dR 19 R (vLi 6 ag3 sees_rd R hg109) (hS:=(sL [3])) (d1 7 R (lM (_::_::_::_::_::W1) (fun w s=>(s.d 1 R)) ?_))))))))))))))))))))))
 refine lC 1 cb84 R (Zv_ok hx119) R ?_
 rintro ⟨⟨A120,N120,D120⟩,⟨A121,N121,D121⟩⟩
 refine lN (rds kT3 (.slice A120 N120 D120) r118.Dims::ow kT3 3 (.slice A121 N121 D121) r118.Strides::_::_::_::_::W1) ?_
 refine l_len 0 sees_rd ?_
 rintro rfl
 refine l_len 1 sees_ow ?_
 rintro rfl
 refine l_nil (q_draw (sL [5,1,0]) (d1 20 R (l_st (fun w s=>s.shr 1 R) (lM (rds _ _ _::RR kT3 A121 D121 r118.Strides::RR kT3 A121 D121 r118.Strides::rds _ _ _::cl _ _ _::rds _ _ _::rds _ _ _::bxl _ _ _::W1) (fun w s=>(((s.d 1 R).d 1 R).f 8 [1,1,0,1,2,6])) ?_))))
 refine lC 2 cb86 R (Z17_ok hx126) R ?_
 rintro ⟨⟨A127,N127,D127⟩,⟨A128,N128,D128⟩⟩
 refine lN (rds kT3 (.slice A127 N127 D127) r125.Dims::rds kT3 (.slice A128 N128 D128) r125.Strides::_::_::_::_::_::_::W1) ?_
 refine l_len 0 sees_rd ?_
 rintro rfl
 refine l_len 1 sees_rd ?_
 rintro rfl
 refine l_nil (q_draw (sL [7,3,2,1,0]) (d1 21 R (lM (rds _ _ _::rds _ _ _::rds _ _ _::rds _ _ _::rds _ _ _::rds _ _ _::rds _ _ _::rds _ _ _::cl _ _ _::rds _ _ _::rds _ _ _::bxl _ _ _::W1) (fun w s=>(((((s.d 5 R).d 7 R).d 2 R).d 4 R).f 12 [3,1,2,1,1,1,0,1,4,8])) ?_)))
 refine lC 4 cb82 R (Z00_ok hx130) R ?_
 rintro ⟨⟨A131,N131,D131⟩,⟨A132,N132,D132⟩⟩
 refine lN (ow kT3 3 (.slice A131 N131 D131) r129.Dims::ow kT3 3 (.slice A132 N132 D132) r129.Data::_::_::_::_::_::_::_::_::W1) ?_
 refine l_len 0 sees_ow ?_
 rintro rfl
 refine l_len 1 sees_ow ?_
 rintro rfl
 refine l_nil (q_draw (sL [9,5,4,3,2,1,0]) (d1 22 R (l_stores 9 R R sz58 R R R R R R (lN (_::_::_::_::_::_::_::_::_::bxl b9 [(sc A131 r129.Dims D131),(sc A132 r129.Data D132)] 58::W1) ?_))))
 refine l_nil (q_draw (sL [9,5,4,3,2,1,0]) (dD (q_next (c_ret (q_blockr (q_ret ?_))))))
 obtain rfl:=so hr
 exact q_fin (vs:=[(.agg [(sc A131 r129.Dims D131),(sc A132 r129.Data D132)].toArray)]) (.inl R) ((A131,r129.Dims.length,D131),(A132,r129.Data.length,D132)) R ⟨⟨9,b9,_,_,R,R,.inl ⟨ag58,sz58,R⟩⟩,trivial⟩ R (fun w s=>(s.e 16 [0,1]))
 refine c_false R hb108 (c_seq (c_region (lO (vEq R R) (lB R (l_nil (q_next ?_))))))
 rcases bif_ hr with ⟨hb133,hr⟩|⟨hb133,hr⟩
 refine c_true R hb133 (c_seq ?_)
 obtain ⟨hg134,hr⟩:=gd hr
 obtain ⟨hg139,hr⟩:=gd hr
 obtain ⟨hg142,hr⟩:=gd hr
 obtain ⟨hg143,hr⟩:=gd hr
 obtain ⟨hg144,hr⟩:=gd hr
 obtain ⟨r145,hx146,hr⟩:=bd hr
 refine c_some 6 sees_rd (show 0<a6.length by have:=hg134; omega) (fun g135 o136 ha=>?_)
 subst ha
 refine c_elem (K:=kT58) 6 (0:Int) dT58.dec R hg134.1 hg134.2 ?_
 rintro ⟨⟨A137,D137⟩,⟨A138,D138⟩⟩
 refine cN (cl g135 (o136+(0:Int).toNat*2) [(sc A137 ((ix a6 (0:Int)).Dims) D137),(sc A138 ((ix a6 (0:Int)).Data) D138)]::RR kT3 A137 D137 ((ix a6 (0:Int)).Dims)::RR kT3 A138 D138 ((ix a6 (0:Int)).Data)::bxl b9 [(.slice none 0 0),(.slice none 0 0)] 58::W1) ?_
 refine c_some 7 sees_rd (show 0<n1.Ints.length by have:=hg139; omega) (fun g140 o141 ha=>?_)
 subst ha
 refine cdr 17 [3] mixo (fun ht hn=>(dR 0 R (vS R) (hS:=(sL [3])) (dR 1 R (vIa sl46 sz58 R R hg134) (hS:=(sL [3])) (dR 2 R (vz (.agg [(sc A137 ((ix a6 (0:Int)).Dims) D137),(sc A138 ((ix a6 (0:Int)).Data) D138)].toArray) (v_clfs (fo:=0) 0 ag58 sz58 R R R R)) (hS:=(sL [3])) (dR 3 R (vS R) (hS:=(sL [3])) (dR 4 R (vIa sl23 sz3 R R hg139) (hS:=(sL [3])) (dR 5 R (vLi 6 ag3 sees_rd R hg139) (hS:=(sL [3])) (dR 6 R (vS R) (hS:=(sL [3])) (dR 7 R (vIa sl23 sz3 R R hg142) (hS:=(sL [3])) (dR 8 R (vLi 6 ag3 sees_rd R hg142) (hS:=(sL [3])) (dR 9 R (vS R) (hS:=(sL [3])) (dR 10 R (vIa sl23 sz3 R R hg143) (hS:=(sL [3])) (dR 11 R (vLi 6 ag3 sees_rd R hg143) (hS:=(sL [3])) (dR 12 R (vS R) (hS:=(sL [3])) (dR 13 R (vIa sl23 sz3 R R hg144) (hS:=(sL [3])) (dR 14 R (vLi 6 ag3 sees_rd R hg144) (hS:=(sL [3])) (d1 15 R (lM (rds _ _ _::rds _ _ _::cl _ _ _::rds _ _ _::rds _ _ _::bxl _ _ _::W1) (fun w s=>(((s.d 1 R).d 3 R).e 6 [1,0,2,3,4,5])) ?_))))))))))))))))))
 refine lC 2 cb87 R (Z0r_ok hx146) R ?_
 rintro ⟨⟨A147,N147,D147⟩,⟨A148,N148,D148⟩⟩
 refine lN (ow kT3 3 (.slice A147 N147 D147) r145.Dims::ow kT3 3 (.slice A148 N148 D148) r145.Data::_::_::_::_::W1) ?_
 refine l_len 0 sees_ow ?_
 rintro rfl
 refine l_len 1 sees_ow ?_
 rintro rfl
 refine l_nil (q_draw (sL [5,1,0]) (d1 16 R (l_stores 5 R R sz58 R R R R R R (lN (_::_::_::_::_::bxl b9 [(sc A147 r145.Dims D147),(sc A148 r145.Data D148)] 58::W1) ?_))))
 refine l_nil (q_draw (sL [5,1,0]) (dD (q_next (c_ret (q_blockr (q_ret ?_))))))
 obtain rfl:=so hr
 exact q_fin (vs:=[(.agg [(sc A147 r145.Dims D147),(sc A148 r145.Data D148)].toArray)]) (.inl R) ((A147,r145.Dims.length,D147),(A148,r145.Data.length,D148)) R ⟨⟨5,b9,_,_,R,R,.inl ⟨ag58,sz58,R⟩⟩,trivial⟩ R (fun w s=>(s.e 12 [0,1]))
 refine c_false R hb133 (c_seq (c_region (lO (vEq R R) (lB R (l_nil (q_next ?_))))))
 rcases bif_ hr with ⟨hb149,hr⟩|⟨hb149,hr⟩
 refine c_true R hb149 (c_seq ?_)
 obtain ⟨hg150,hr⟩:=gd hr
 obtain ⟨hg155,hr⟩:=gd hr
 obtain ⟨hg158,hr⟩:=gd hr
 obtain ⟨r160,hx161,hr⟩:=bd hr
 refine c_some 6 sees_rd (show 0<a6.length by have:=hg150; omega) (fun g151 o152 ha=>?_)
 subst ha
 refine c_elem (K:=kT58) 6 (0:Int) dT58.dec R hg150.1 hg150.2 ?_
 rintro ⟨⟨A153,D153⟩,⟨A154,D154⟩⟩
 refine cN (cl g151 (o152+(0:Int).toNat*2) [(sc A153 ((ix a6 (0:Int)).Dims) D153),(sc A154 ((ix a6 (0:Int)).Data) D154)]::RR kT3 A153 D153 ((ix a6 (0:Int)).Dims)::RR kT3 A154 D154 ((ix a6 (0:Int)).Data)::bxl b9 [(.slice none 0 0),(.slice none 0 0)] 58::W1) ?_
 refine c_some 7 sees_rd (show 0<n1.Ints.length by have:=hg155; omega) (fun g156 o157 ha=>?_)
 subst ha
 refine cdr 10 [3] mixo (fun ht hn=>(dR 0 R (vS R) (hS:=(sL [3])) (dR 1 R (vIa sl46 sz58 R R hg150) (hS:=(sL [3])) (dR 2 R (vz (.agg [(sc A153 ((ix a6 (0:Int)).Dims) D153),(sc A154 ((ix a6 (0:Int)).Data) D154)].toArray) (v_clfs (fo:=0) 0 ag58 sz58 R R R R)) (hS:=(sL [3])) (dR 3 R (vS R) (hS:=(sL [3])) (dR 4 R (vIa sl23 sz3 R R hg155) (hS:=(sL [3])) (dR 5 R (vLi 6 ag3 sees_rd R hg155) (hS:=(sL [3])) (dR 6 R (vS R) (hS:=(sL [3])) (d1 7 R (l_cut (K:=kT3) (1:Int) (n1.Ints.length:Int) 7 R R sl23 sz3 R R R R hg158.1 hg158.2.1 hg158.2.2 (fun A159 D159=>(l_nil (q_draw (sL [4,0]) (d1 8 R (lM (rds _ _ _::rds _ _ _::RR kT3 A159 D159 (sub n1.Ints (1:Int) (n1.Ints.length:Int))::RR kT3 A159 D159 (sub n1.Ints (1:Int) (n1.Ints.length:Int))::cl _ _ _::rds _ _ _::rds _ _ _::bxl _ _ _::W1) (fun w s=>((((s.d 2 R).d 4 R).d 2 R).e 8 [2,1,0,3,4,5,6,7])) ?_)))))))))))))))
 refine lC 3 cb88 R (Z0q_ok hx161) R ?_
 rintro ⟨⟨A162,N162,D162⟩,⟨A163,N163,D163⟩⟩
 refine lN (ow kT3 3 (.slice A162 N162 D162) r160.Dims::ow kT3 3 (.slice A163 N163 D163) r160.Data::_::_::_::_::_::W1) ?_
 refine l_len 0 sees_ow ?_
 rintro rfl
 refine l_len 1 sees_ow ?_
 rintro rfl
 refine l_nil (q_draw (sL [6,2,1,0]) (d1 9 R (l_stores 6 R R sz58 R R R R R R (lN (_::_::_::_::_::_::bxl b9 [(sc A162 r160.Dims D162),(sc A163 r160.Data D163)] 58::W1) ?_))))
 refine l_nil (q_draw (sL [6,2,1,0]) (dD (q_next (c_ret (q_blockr (q_ret ?_))))))
 obtain rfl:=so hr
 exact q_fin (vs:=[(.agg [(sc A162 r160.Dims D162),(sc A163 r160.Data D163)].toArray)]) (.inl R) ((A162,r160.Dims.length,D162),(A163,r160.Data.length,D163)) R ⟨⟨6,b9,_,_,R,R,.inl ⟨ag58,sz58,R⟩⟩,trivial⟩ R (fun w s=>(s.e 13 [0,1]))
 refine c_false R hb149 (c_seq (c_region (lO (vEq R R) (lB R (l_nil (q_next ?_))))))
 rcases bif_ hr with ⟨hb164,hr⟩|⟨hb164,hr⟩
 refine c_true R hb164 (c_seq ?_)
 obtain ⟨hg165,hr⟩:=gd hr
 obtain ⟨hg170,hr⟩:=gd hr
 obtain ⟨hg173,hr⟩:=gd hr
 obtain ⟨hg175,hr⟩:=gd hr
 obtain ⟨r176,hx177,hr⟩:=bd hr
 refine c_some 6 sees_rd (show 0<a6.length by have:=hg165; omega) (fun g166 o167 ha=>?_)
 subst ha
 refine c_elem (K:=kT58) 6 (0:Int) dT58.dec R hg165.1 hg165.2 ?_
 rintro ⟨⟨A168,D168⟩,⟨A169,D169⟩⟩
 refine cN (cl g166 (o167+(0:Int).toNat*2) [(sc A168 ((ix a6 (0:Int)).Dims) D168),(sc A169 ((ix a6 (0:Int)).Data) D169)]::RR kT3 A168 D168 ((ix a6 (0:Int)).Dims)::RR kT3 A169 D169 ((ix a6 (0:Int)).Data)::bxl b9 [(.slice none 0 0),(.slice none 0 0)] 58::W1) ?_
 refine c_some 7 sees_rd (show 0<n1.Ints.length by have:=hg170; omega) (fun g171 o172 ha=>?_)
 subst ha
 refine cdr 13 [3] mixo (fun ht hn=>(dR 0 R (vS R) (hS:=(sL [3])) (dR 1 R (vIa sl46 sz58 R R hg165) (hS:=(sL [3])) (dR 2 R (vz (.agg [(sc A168 ((ix a6 (0:Int)).Dims) D168),(sc A169 ((ix a6 (0:Int)).Data) D169)].toArray) (v_clfs (fo:=0) 0 ag58 sz58 R R R R)) (hS:=(sL [3])) (dR 3 R (vS R) (hS:=(sL [3])) (dR 4 R (vIa sl23 sz3 R R hg170) (hS:=(sL [3])) (dR 5 R (vLi 6 ag3 sees_rd R hg170) (hS:=(sL [3])) (dR 6 R (vS R) (hS:=(sL [3])) (dR 8 R (vS R) (hS:=(sL [3])) (dR 9 R (vIa sl23 sz3 R R hg175) (hS:=(sL [3])) (dR 10 R (vLi 6 ag3 sees_rd R hg175) (hS:=(sL [3])) (d1 7 R (l_cut (K:=kT3) (2:Int) (n1.Ints.length:Int) 7 R R sl23 sz3 R R R R hg173.1 hg173.2.1 hg173.2.2 (fun A174 D174=>(l_nil (q_draw (sL [4,0]) (d1 11 R (lM (rds _ _ _::rds _ _ _::RR kT3 A174 D174 (sub n1.Ints (2:Int) (n1.Ints.length:Int))::RR kT3 A174 D174 (sub n1.Ints (2:Int) (n1.Ints.length:Int))::cl _ _ _::rds _ _ _::rds _ _ _::bxl _ _ _::W1) (fun w s=>((((s.d 2 R).d 4 R).d 2 R).e 8 [2,1,0,3,4,5,6,7])) ?_))))))))))))))))))
 refine lC 3 cb89 R (Z0s_ok hx177) R ?_
 rintro ⟨⟨A178,N178,D178⟩,⟨A179,N179,D179⟩⟩
 refine lN (ow kT3 3 (.slice A178 N178 D178) r176.Dims::ow kT3 3 (.slice A179 N179 D179) r176.Data::_::_::_::_::_::W1) ?_
 refine l_len 0 sees_ow ?_
 rintro rfl
 refine l_len 1 sees_ow ?_
 rintro rfl
 refine l_nil (q_draw (sL [6,2,1,0]) (d1 12 R (l_stores 6 R R sz58 R R R R R R (lN (_::_::_::_::_::_::bxl b9 [(sc A178 r176.Dims D178),(sc A179 r176.Data D179)] 58::W1) ?_))))
 refine l_nil (q_draw (sL [6,2,1,0]) (dD (q_next (c_ret (q_blockr (q_ret ?_))))))
 obtain rfl:=so hr
 exact q_fin (vs:=[(.agg [(sc A178 r176.Dims D178),(sc A179 r176.Data D179)].toArray)]) (.inl R) ((A178,r176.Dims.length,D178),(A179,r176.Data.length,D179)) R ⟨⟨6,b9,_,_,R,R,.inl ⟨ag58,sz58,R⟩⟩,trivial⟩ R (fun w s=>(s.e 13 [0,1]))
 refine c_false R hb164 (c_seq (c_region (lO (vEq R R) (lB R (l_nil (q_next ?_))))))
 rcases bif_ hr with ⟨hb180,hr⟩|⟨hb180,hr⟩
 refine c_true R hb180 (c_seq ?_)
 obtain ⟨hg181,hr⟩:=gd hr
 obtain ⟨r186,hx187,hr⟩:=bd hr
 obtain ⟨hg190,hr⟩:=gd hr
 obtain ⟨hg193,hr⟩:=gd hr
 obtain ⟨hg194,hr⟩:=gd hr
 obtain ⟨r195,hx196,hr⟩:=bd hr
 obtain ⟨r199,hx200,hr⟩:=bd hr
 refine c_some 6 sees_rd (show 0<a6.length by have:=hg181; omega) (fun g182 o183 ha=>?_)
 subst ha
 refine c_elem (K:=kT58) 6 (0:Int) dT58.dec R hg181.1 hg181.2 ?_
 rintro ⟨⟨A184,D184⟩,⟨A185,D185⟩⟩
 refine cN (cl g182 (o183+(0:Int).toNat*2) [(sc A184 ((ix a6 (0:Int)).Dims) D184),(sc A185 ((ix a6 (0:Int)).Data) D185)]::RR kT3 A184 D184 ((ix a6 (0:Int)).Dims)::RR kT3 A185 D185 ((ix a6 (0:Int)).Data)::bxl b9 [(.slice none 0 0),(.slice none 0 0)] 58::W1) ?_
 refine c_some 7 sees_rd (show 0<n1.Ints.length by have:=hg190; omega) (fun g191 o192 ha=>?_)
 subst ha
 refine cdr 20 [3] mixo (fun ht hn=>(dR 0 R (vS R) (hS:=(sL [3])) (dR 1 R (vIa sl46 sz58 R R hg181) (hS:=(sL [3])) (dR 2 R (vz (.agg [(sc A184 ((ix a6 (0:Int)).Dims) D184),(sc A185 ((ix a6 (0:Int)).Data) D185)].toArray) (v_clfs (fo:=0) 0 ag58 sz58 R R R R)) (hS:=(sL [3])) (dR 3 R (vS R) (hS:=(sL [3])) (dR 4 R (vIa sl46 sz58 R R hg181) (hS:=(sL [3])) (dR 5 R (vz (.pointer (some ⟨g182,o183+(0:Int).toNat*2,none⟩)) (v_fa fo58_0 R R)) (hS:=(sL [3])) (dR 6 R (v_clf (fo:=0) 0 ag23 R R R) (hS:=(sL [3])) (dR 8 R (vS R) (hS:=(sL [3])) (dR 9 R (vIa sl23 sz3 R R hg190) (hS:=(sL [3])) (dR 10 R (vLi 6 ag3 sees_rd R hg190) (hS:=(sL [3])) (dR 11 R (vS R) (hS:=(sL [3])) (dR 12 R (vIa sl23 sz3 R R hg193) (hS:=(sL [3])) (dR 13 R (vLi 6 ag3 sees_rd R hg193) (hS:=(sL [3])) (dR 14 R (vS R) (hS:=(sL [3])) (dR 15 R (vIa sl23 sz3 R R hg194) (hS:=(sL [3])) (dR 16 R (vLi 6 ag3 sees_rd R hg194) (hS:=(sL [3])) (d1 7 R (lM (_::_::_::_::_::W1) (fun w s=>(s.d 1 R)) ?_)))))))))))))))))))
 refine lC 1 cb84 R (Zv_ok hx187) R ?_
 rintro ⟨⟨A188,N188,D188⟩,⟨A189,N189,D189⟩⟩
 refine lN (rds kT3 (.slice A188 N188 D188) r186.Dims::ow kT3 3 (.slice A189 N189 D189) r186.Strides::_::_::_::_::W1) ?_
 refine l_len 0 sees_rd ?_
 rintro rfl
 refine l_len 1 sees_ow ?_
 rintro rfl
 refine l_nil (q_draw (sL [5,1,0]) (d1 17 R (l_st (fun w s=>s.shr 1 R) (lM (rds _ _ _::RR kT3 A189 D189 r186.Strides::RR kT3 A189 D189 r186.Strides::rds _ _ _::cl _ _ _::rds _ _ _::rds _ _ _::bxl _ _ _::W1) (fun w s=>(((s.d 1 R).d 1 R).f 8 [1,1,0,1,2,6])) ?_))))
 refine lC 2 cb90 R (Z0c_ok hx196) R ?_
 rintro ⟨⟨A197,N197,D197⟩,⟨A198,N198,D198⟩⟩
 refine lN (rds kT3 (.slice A197 N197 D197) r195.Dims::rds kT3 (.slice A198 N198 D198) r195.Strides::_::_::_::_::_::_::W1) ?_
 refine l_len 0 sees_rd ?_
 rintro rfl
 refine l_len 1 sees_rd ?_
 rintro rfl
 refine l_nil (q_draw (sL [7,3,2,1,0]) (d1 18 R (lM (rds _ _ _::rds _ _ _::rds _ _ _::rds _ _ _::rds _ _ _::rds _ _ _::rds _ _ _::rds _ _ _::cl _ _ _::rds _ _ _::rds _ _ _::bxl _ _ _::W1) (fun w s=>(((((s.d 5 R).d 7 R).d 2 R).d 4 R).f 12 [3,1,2,1,1,1,0,1,4,8])) ?_)))
 refine lC 4 cb82 R (Z00_ok hx200) R ?_
 rintro ⟨⟨A201,N201,D201⟩,⟨A202,N202,D202⟩⟩
 refine lN (ow kT3 3 (.slice A201 N201 D201) r199.Dims::ow kT3 3 (.slice A202 N202 D202) r199.Data::_::_::_::_::_::_::_::_::W1) ?_
 refine l_len 0 sees_ow ?_
 rintro rfl
 refine l_len 1 sees_ow ?_
 rintro rfl
 refine l_nil (q_draw (sL [9,5,4,3,2,1,0]) (d1 19 R (l_stores 9 R R sz58 R R R R R R (lN (_::_::_::_::_::_::_::_::_::bxl b9 [(sc A201 r199.Dims D201),(sc A202 r199.Data D202)] 58::W1) ?_))))
 refine l_nil (q_draw (sL [9,5,4,3,2,1,0]) (dD (q_next (c_ret (q_blockr (q_ret ?_))))))
 obtain rfl:=so hr
 exact q_fin (vs:=[(.agg [(sc A201 r199.Dims D201),(sc A202 r199.Data D202)].toArray)]) (.inl R) ((A201,r199.Dims.length,D201),(A202,r199.Data.length,D202)) R ⟨⟨9,b9,_,_,R,R,.inl ⟨ag58,sz58,R⟩⟩,trivial⟩ R (fun w s=>(s.e 16 [0,1]))
 refine c_false R hb180 (c_skip (q_blockn (q_next (c_seq ?_))))
 obtain ⟨hg203,hr⟩:=gd hr
 obtain ⟨hg208,hr⟩:=gd hr
 obtain ⟨hg211,hr⟩:=gd hr
 obtain ⟨hg212,hr⟩:=gd hr
 obtain ⟨r213,hx214,hr⟩:=bd hr
 refine c_some 6 sees_rd (show 0<a6.length by have:=hg203; omega) (fun g204 o205 ha=>?_)
 subst ha
 refine c_elem (K:=kT58) 6 (0:Int) dT58.dec R hg203.1 hg203.2 ?_
 rintro ⟨⟨A206,D206⟩,⟨A207,D207⟩⟩
 refine cN (cl g204 (o205+(0:Int).toNat*2) [(sc A206 ((ix a6 (0:Int)).Dims) D206),(sc A207 ((ix a6 (0:Int)).Data) D207)]::RR kT3 A206 D206 ((ix a6 (0:Int)).Dims)::RR kT3 A207 D207 ((ix a6 (0:Int)).Data)::bxl b9 [(.slice none 0 0),(.slice none 0 0)] 58::W1) ?_
 refine c_some 7 sees_rd (show 0<n1.Ints.length by have:=hg208; omega) (fun g209 o210 ha=>?_)
 subst ha
 refine cdr 14 [3] mixo (fun ht hn=>(dR 0 R (vS R) (hS:=(sL [3])) (dR 1 R (vIa sl46 sz58 R R hg203) (hS:=(sL [3])) (dR 2 R (vz (.agg [(sc A206 ((ix a6 (0:Int)).Dims) D206),(sc A207 ((ix a6 (0:Int)).Data) D207)].toArray) (v_clfs (fo:=0) 0 ag58 sz58 R R R R)) (hS:=(sL [3])) (dR 3 R (vS R) (hS:=(sL [3])) (dR 4 R (vIa sl23 sz3 R R hg208) (hS:=(sL [3])) (dR 5 R (vLi 6 ag3 sees_rd R hg208) (hS:=(sL [3])) (dR 6 R (vS R) (hS:=(sL [3])) (dR 7 R (vIa sl23 sz3 R R hg211) (hS:=(sL [3])) (dR 8 R (vLi 6 ag3 sees_rd R hg211) (hS:=(sL [3])) (dR 9 R (vS R) (hS:=(sL [3])) (dR 10 R (vIa sl23 sz3 R R hg212) (hS:=(sL [3])) (dR 11 R (vLi 6 ag3 sees_rd R hg212) (hS:=(sL [3])) (d1 12 R (lM (rds _ _ _::rds _ _ _::cl _ _ _::rds _ _ _::rds _ _ _::bxl _ _ _::W1) (fun w s=>(((s.d 1 R).d 3 R).e 6 [1,0,2,3,4,5])) ?_)))))))))))))))
 refine lC 2 cb91 R (Z0p_ok hx214) R ?_
 rintro ⟨⟨A215,N215,D215⟩,⟨A216,N216,D216⟩⟩
 refine lN (ow kT3 3 (.slice A215 N215 D215) r213.Dims::ow kT3 3 (.slice A216 N216 D216) r213.Data::_::_::_::_::W1) ?_
 refine l_len 0 sees_ow ?_
 rintro rfl
 refine l_len 1 sees_ow ?_
 rintro rfl
 refine l_nil (q_draw (sL [5,1,0]) (d1 13 R (l_stores 5 R R sz58 R R R R R R (lN (_::_::_::_::_::bxl b9 [(sc A215 r213.Dims D215),(sc A216 r213.Data D216)] 58::W1) ?_))))
 refine l_nil (q_draw (sL [5,1,0]) (dD (q_next (c_ret ?_))))
 obtain rfl:=so hr
 exact q_fin (vs:=[(.agg [(sc A215 r213.Dims D215),(sc A216 r213.Data D216)].toArray)]) (.inl R) ((A215,r213.Dims.length,D215),(A216,r213.Data.length,D216)) R ⟨⟨5,b9,_,_,R,R,.inl ⟨ag58,sz58,R⟩⟩,trivial⟩ R (fun w s=>(s.e 12 [0,1]))
theorem Z0o_ok  {dims1:(List Int)}{p3:Int}{r:Tensor}(hr:Z0o dims1 p3=some r) :
 FnOk Tryz.prog 54 [(.slice A2 N2 D2),(iv p3)] [rds kT3 (.slice A2 N2 D2) dims1] (fun (h:HH×HH)=>((.agg [(s3 h.1),(s3 h.2)].toArray),[ow kT3 3 (s3 h.1) r.Dims,ow kT3 3 (s3 h.2) r.Data])):=by
 unfold Z0o at hr
 refine fn_ok Tryz.func54 R 27 R R fun C V=>?_
 refine cL 0 sees_rd ?_
 rintro rfl
 let W0:=RR kT3 A2 D2 dims1::V
 refine cN W0 ?_
 refine o_2 ?_
 refine l_alloc R R zc58 (fun b4=>(l_nil (q_next (c_seq (c_seq ?_)))))
 obtain ⟨r5,hx6,hr⟩:=bd hr
 refine o_2 ?_
 refine lM _ (fun w s=>(s.d 1 R)) ?_
 refine lC 1 cb92 R (Zl_ok hx6) R ?_
 rintro _
 refine o_3 ?_
 split at hr
 refine o_3 ?_
 refine lO (vz (.agg [(.slice none 0 0),(.slice none 0 0)].toArray) (v_build pl58 zc58 R R)) (l_stores 0 R R sz58 R R R R R R (l_nil (q_next (c_ret (q_ret ?_)))))
 cases hr
 exact qS ((none,0,0),(none,0,0)) (fun w s=>(((s.nilo kT3 3).nilo kT3 3).e 4 [1,0]))
 refine o_4 ?_
 obtain ⟨r8,hx9,hr⟩:=bd hr
 refine o_2 ?_
 refine lM _ (fun w s=>(s.d 1 R)) ?_
 refine lC 1 cb93 R (Z0g_ok hx9) R ?_
 rintro ⟨⟨A10,N10,D10⟩,⟨A11,N11,D11⟩⟩
 refine l_len 0 sees_ow ?_
 rintro rfl
 refine l_len 1 sees_ow ?_
 rintro rfl
 refine l_alloc R R zc58 (fun b12=>(l_stores 0 R R sz58 R R R R R R (lN (bxl b12 [(sc A10 r8.Dims D10),(sc A11 r8.Data D11)] 58::_::_::_::W0) ?_)))
 refine o_3 ?_
 refine c_cut (A:=((List Int))×(Unit)) (fun a=>Z0o_J1 r8 a.1=some r) (fun a=>[(4,(pt b4 0)),(5,(pt b12 0))]) (fun a=>bxl b4 [(.slice none 0 0),(.slice none 0 0)] 58::bxl b12 [(sc A10 r8.Dims D10),(sc A11 r8.Data D11)] 58::OO kT3 3 A10 D10 r8.Dims::ow kT3 3 (.slice A11 r8.Data.length D11) a.1::W0) ?_ ?_
 refine o_6 ?_
 obtain ⟨e1,hl1,hk1⟩:=bd hr
 refine c_loop (A:=Unit) hl1 (fun s a=>[(1,(iv p3)),(4,(pt b4 0)),(5,(pt b12 0)),(6,(iv s.2))]) (fun s a=>bxl b4 [(.slice none 0 0),(.slice none 0 0)] 58::bxl b12 [(sc A10 r8.Dims D10),(sc A11 r8.Data D11)] 58::OO kT3 3 A10 D10 r8.Dims::ow kT3 3 (.slice A11 r8.Data.length D11) s.1::W0) () (aS R) (tE 4 [3,0,1,2]) ?_
 rintro ⟨t19,i20⟩ _ σ1 out1 hr he1
 dsimp only [Z0o_L1] at hr
 refine o_10 ?_
 split at hr
 refine o_5 ?_
 obtain ⟨r22,hx23,hr⟩:=bd hr
 obtain ⟨hg24,hr⟩:=gd hr
 refine c_some 3 sees_ow (show 0<r8.Data.length by have:=hg24; omega) (fun g25 o26 ha=>?_)
 subst ha
 refine cdr 7 [3] mixo fun ht hn=>?_
 refine d4_ 0 [3] ?_
 refine d1 4 R (lC 0 cb94 R (Zn_ok hx23) R ?_)
 rintro _
 refine l_nil (q_draw (sL [3]) ?_)
 refine d1_ 5 [3] ?_
 refine d1 6 R (lM _ (tE 4 [3,0,1,2]) ?_)
 refine l_stx (K:=kT3) (x':=r22) 0 i20 R R sz3 R R hg24.1 hg24.2 ?_ ?_
 exact fun I h s=>(mO3).put I h () r22 s
 refine l_nil (q_draw (sL [0]) (dD ?_))
 refine o_7 ?_
 cases hr
 exact qA () (tE 4 [1,2,3,0])
 refine o_3 ?_
 cases hr
 obtain rfl:=he1 _ R
 have hr:=hk1
 refine o_2 ?_
 exact qI (t19,()) hr tI
 rintro ⟨t29,_⟩ σ1 hr
 dsimp only [Z0o_J1] at hr
 refine o_3 ?_
 refine l_stores 0 R R sz58 R R R R R R (lN (bxl b4 [(sc A10 r8.Dims D10),(sc A11 r8.Data D11)] 58::bxl b12 [(sc A10 r8.Dims D10),(sc A11 r8.Data D11)] 58::_::ow kT3 3 (.slice A11 r8.Data.length D11) t29::W0) ?_)
 refine o_3 ?_
 cases hr
 exact qS ((A10,r8.Dims.length,D10),(A11,r8.Data.length,D11)) (tE 5 [2,3])
theorem Z9_ok  {g1:Graph}{inputs4:(List Tensor)}{blank6:Bool}{r:(List Tensor)×Bool}(hr:Z9 g1 inputs4 blank6=some r) :
 FnOk Tryz.prog 34 [(.agg [(.slice A2 N2 D2),(.slice A3 N3 D3)].toArray),(.slice A5 N5 D5),(.bool blank6)] [rds kT54 (.slice A2 N2 D2) g1.Nodes,rds kT3 (.slice A3 N3 D3) g1.Outs,rds kT58 (.slice A5 N5 D5) inputs4] (fun (h:HH)=>((.tuple [(s3 h),(.bool r.2)].toArray),[ow (kT58).share 58 (s3 h) r.1])):=by
 unfold Z9 at hr
 refine fn_ok Tryz.func34 R 143 R R fun C V=>?_
 refine cL 0 sees_rd ?_
 rintro rfl
 refine cL 1 sees_rd ?_
 rintro rfl
 refine cL 2 sees_rd ?_
 rintro rfl
 let W0:=RR kT54 A2 D2 g1.Nodes::RR kT3 A3 D3 g1.Outs::RR kT58 A5 D5 inputs4::V
 refine cN W0 ?_
 refine o_2 ?_
 refine lBx R fun b7=>?_
 refine o_3 ?_
 let W1:=bxl b7 [(sc A2 g1.Nodes D2),(sc A3 g1.Outs D3)] 30::W0
 refine qN W1 ?_
 refine o_3 ?_
 refine l_build (K:=kT58) (xs:=([]:List Tensor)) (vs:=[]) 0 R R sl46 sz58 zc58 R R R R R R ?_ R (fun A8 D8=>?_)
 exact fun I h s=>(mO58).list [] I h s
 refine o_5 ?_
 refine cQ [(1,(sc A5 inputs4 D5)),(2,(.bool blank6)),(3,(pt b7 0)),(8,(sc A8 ([]:List Tensor) D8)),(25,(.bool ((decide ((g1.Nodes.length:Int)>200))||(decide ((g1.Outs.length:Int)>40)))))] (OO kT58 58 A8 D8 ([]:List Tensor)::W1) ?_ ?_
 refine o_6 ?_
 rcases bo (decide ((g1.Nodes.length:Int)>200)) with hc9 | hc9
 refine o_6 ?_
 exact qj tI
 refine o_6 ?_
 exact qj tI
 rintro σ1
 refine o_1 ?_
 split at hr
 refine o_10 ?_
 cases hr
 exact qT2 (A8,([]:List Tensor).length,D8) (fun w s=>((s.wk 0 R).e 5 [0]))
 refine o_9 ?_
 refine c_cut (A:=((List Tensor)×Int)×(HH)) (fun a=>Z9_J5 g1 inputs4 blank6 a.1.1 a.1.2=some r) (fun a=>[(1,(sc A5 inputs4 D5)),(2,(.bool blank6)),(3,(pt b7 0)),(8,(s3 a.2)),(9,(iv a.1.2))]) (fun a=>ow (kT58).share 58 (s3 a.2) a.1.1::W1) ?_ ?_
 refine o_6 ?_
 obtain ⟨e1,hl1,hk1⟩:=bd hr
 refine c_loop (A:=HH) hl1 (fun s a=>[(1,(sc A5 inputs4 D5)),(2,(.bool blank6)),(3,(pt b7 0)),(8,(s3 a)),(9,(iv s.2.1)),(10,(iv s.2.2))]) (fun s a=>ow (kT58).share 58 (s3 a) s.1::W1) (A8,([]:List Tensor).length,D8) (aS R) (fun w s=>(s.wk 0 R)) ?_
 rintro ⟨x103,x105,k106⟩ ⟨A104,N104,D104⟩ σ1 out1 hr he1
 dsimp only [Z9_L1] at hr
 refine c_len 0 sees_sh (fun (hn:N104=x103.length)=>?_)
 subst hn
 refine o_10 ?_
 split at hr
 refine o_6 ?_
 obtain ⟨hg108,hr⟩:=gd hr
 refine o_4 ?_
 refine t_some 2 sees_rd (show 0<g1.Nodes.length by have:=hg108; omega) (fun g109 o110 ha=>?_)
 subst ha
 refine o_1 ?_
 refine t_elem (K:=kT54) 2 k106 dT54.dec R hg108.1 hg108.2 ?_
 rintro ⟨-,⟨A111,D111⟩,⟨A112,D112⟩,⟨A113,D113⟩,-,⟨A114,D114⟩⟩
 refine lO (vz (.agg [(iv (ix g1.Nodes k106).Op),(sc A111 ((ix g1.Nodes k106).Args) D111),(sc A112 ((ix g1.Nodes k106).Dims) D112),(sc A113 ((ix g1.Nodes k106).Ints) D113),(vstr (ix g1.Nodes k106).Form),(sc A114 ((ix g1.Nodes k106).Data) D114)].toArray) (v_clfs (fo:=0) 0 ag54 sz54 R R R R)) (l_alloc R R zc54 (fun b115=>(l_stores 0 R R sz54 R R R R R R (lN (bxl b115 [(iv (ix g1.Nodes k106).Op),(sc A111 ((ix g1.Nodes k106).Args) D111),(sc A112 ((ix g1.Nodes k106).Dims) D112),(sc A113 ((ix g1.Nodes k106).Ints) D113),(vstr (ix g1.Nodes k106).Form),(sc A114 ((ix g1.Nodes k106).Data) D114)] 54::_::_::_::_::_::_::W1) ?_))))
 refine o_4 ?_
 obtain ⟨r116,hx117,hr⟩:=bd hr
 obtain ⟨r118,hx119,hr⟩:=bd hr
 refine cQ [(1,(sc A5 inputs4 D5)),(2,(.bool blank6)),(3,(pt b7 0)),(8,(sc A104 x103 D104)),(9,(iv x105)),(10,(iv k106)),(11,(pt b115 0)),(48,(.bool ((!r116)||(!r118))))] (OO (kT58).share 58 A104 D104 x103::bxl b115 [(iv (ix g1.Nodes k106).Op),(sc A111 ((ix g1.Nodes k106).Args) D111),(sc A112 ((ix g1.Nodes k106).Dims) D112),(sc A113 ((ix g1.Nodes k106).Ints) D113),(vstr (ix g1.Nodes k106).Form),(sc A114 ((ix g1.Nodes k106).Data) D114)] 54::RR kT3 A111 D111 ((ix g1.Nodes k106).Args)::RR kT3 A112 D112 ((ix g1.Nodes k106).Dims)::RR kT3 A113 D113 ((ix g1.Nodes k106).Ints)::RR kT3 A114 D114 ((ix g1.Nodes k106).Data)::W1) ?_ ?_
 refine o_2 ?_
 refine lM _ (fun w s=>(((((s.d 2 R).d 4 R).d 6 R).d 8 R).f 11 [3,1,2,1,1,1,0,1,4,7])) ?_
 refine lC 4 cb51 R (Z14_ok hx117) R ?_
 rintro _
 refine o_2 ?_
 rcases bo (!r116) with hc120 | hc120
 refine o_7 ?_
 exact qj (tE 7 [6,0,2,3,4,5])
 refine o_3 ?_
 refine lM _ (fun w s=>(s.d 2 R)) ?_
 refine l_calln 1 R (wnF hc120) cb52 R (Z0i_ok (gcall_t hx119 (not_ff hc120))) R ?_
 rintro _
 refine o_3 ?_
 exact qj (tE 7 [6,0,2,3,4,5])
 rintro σ1
 refine o_1 ?_
 split at hr
 refine o_12 ?_
 cases hr
 obtain rfl:=he1 _ R
 have hr:=hk1
 refine o_3 ?_
 cases hr
 exact qT2 (A104,x103.length,D104) (tE 10 [0])
 refine o_5 ?_
 refine l_build (K:=kT58) (xs:=([]:List Tensor)) (vs:=[]) 0 R R sl46 sz58 zc58 R R R R R R ?_ R (fun A122 D122=>?_)
 exact fun I h s=>(mO58).list [] I h s
 refine o_4 ?_
 refine c_cut (A:=((List Tensor))×(HH)) (fun a=>Z9_J3 g1 inputs4 blank6 x103 x105 k106 a.1=some out1) (fun a=>[(1,(sc A5 inputs4 D5)),(2,(.bool blank6)),(3,(pt b7 0)),(8,(sc A104 x103 D104)),(9,(iv x105)),(10,(iv k106)),(11,(pt b115 0)),(12,(s3 a.2))]) (fun a=>OO (kT58).share 58 A104 D104 x103::bxl b115 [(iv (ix g1.Nodes k106).Op),(sc A111 ((ix g1.Nodes k106).Args) D111),(sc A112 ((ix g1.Nodes k106).Dims) D112),(sc A113 ((ix g1.Nodes k106).Ints) D113),(vstr (ix g1.Nodes k106).Form),(sc A114 ((ix g1.Nodes k106).Data) D114)] 54::RR kT3 A111 D111 ((ix g1.Nodes k106).Args)::RR kT3 A112 D112 ((ix g1.Nodes k106).Dims)::RR kT3 A113 D113 ((ix g1.Nodes k106).Ints)::RR kT3 A114 D114 ((ix g1.Nodes k106).Data)::ow (kT58).share 58 (s3 a.2) a.1::W1) ?_ ?_
 refine o_6 ?_
 obtain ⟨e2,hl2,hk2⟩:=bd hr
 refine c_loop (A:=HH) hl2 (fun s a=>[(1,(sc A5 inputs4 D5)),(2,(.bool blank6)),(3,(pt b7 0)),(8,(sc A104 x103 D104)),(9,(iv x105)),(10,(iv k106)),(11,(pt b115 0)),(12,(s3 a)),(13,(iv s.2))]) (fun s a=>OO (kT58).share 58 A104 D104 x103::bxl b115 [(iv (ix g1.Nodes k106).Op),(sc A111 ((ix g1.Nodes k106).Args) D111),(sc A112 ((ix g1.Nodes k106).Dims) D112),(sc A113 ((ix g1.Nodes k106).Ints) D113),(vstr (ix g1.Nodes k106).Form),(sc A114 ((ix g1.Nodes k106).Data) D114)] 54::RR kT3 A111 D111 ((ix g1.Nodes k106).Args)::RR kT3 A112 D112 ((ix g1.Nodes k106).Dims)::RR kT3 A113 D113 ((ix g1.Nodes k106).Ints)::RR kT3 A114 D114 ((ix g1.Nodes k106).Data)::ow (kT58).share 58 (s3 a) s.1::W1) (A122,([]:List Tensor).length,D122) (aS R) (fun w s=>((s.wk 0 R).f 7 [1,6,0,1])) ?_
 rintro ⟨a135,j137⟩ ⟨A136,N136,D136⟩ σ1 out2 hr he2
 dsimp only [Z9_L2] at hr
 refine c_len 6 sees_sh (fun (hn:N136=a135.length)=>?_)
 subst hn
 refine o_10 ?_
 split at hr
 refine o_5 ?_
 obtain ⟨hg139,hr⟩:=gd hr
 obtain ⟨hg142,hr⟩:=gd hr
 obtain ⟨hg148,hr⟩:=gd hr
 refine o_6 ?_
 refine t_some 2 sees_rd (show 0<((ix g1.Nodes k106).Args).length by have:=hg139; omega) (fun g140 o141 ha=>?_)
 subst ha
 refine o_2 ?_
 refine t_some 0 sees_sh (show 0<x103.length by have:=hg142; omega) (fun g143 o144 ha=>?_)
 subst ha
 refine o_1 ?_
 refine l_ldo (K:=(kT58).share) 0 (ix ((ix g1.Nodes k106).Args) j137) R R ag58 sz58 dT58.own R R hg142.1 hg142.2 ?_
 rintro ⟨⟨A145,D145⟩,⟨A146,D146⟩⟩
 refine lM _ (fun w s=>(((s.d 0 R).d 2 R).f 11 [1,1,0,1,2,9])) ?_
 refine l_build (K:=(kT58).share) (xs:=([(ix x103 (ix ((ix g1.Nodes k106).Args) j137))]:List Tensor)) (vs:=[(.agg [(sc A145 ((ix x103 (ix ((ix g1.Nodes k106).Args) j137)).Dims) D145),(sc A146 ((ix x103 (ix ((ix g1.Nodes k106).Args) j137)).Data) D146)].toArray)]) 2 R R sl46 sz58 zc58 R R R R R R ?_ R (fun A147 D147=>?_)
 exact fun I h s=>(mS58).list [(((sc A145 ((ix x103 (ix ((ix g1.Nodes k106).Args) j137)).Dims) D145),(sc A146 ((ix x103 (ix ((ix g1.Nodes k106).Args) j137)).Data) D146)),(ix x103 (ix ((ix g1.Nodes k106).Args) j137)))] I h s
 refine lM _ (fun w s=>(s.f 10 [9,1,0,9])) ?_
 refine l_app (K:=(kT58).share) 2932031007402 R R sl46 sz58 by58 (Zr.zk (Zr.share zT58) zc58) R R R R R R src_ow hg148 (fun A149 D149=>(lN (OO (kT58).share 58 A149 D149 (a135++([(ix x103 (ix ((ix g1.Nodes k106).Args) j137))]:List Tensor))::_::_::_::_::_::_::_::_::W1) ?_))
 refine o_9 ?_
 cases hr
 exact qA (A149,(a135++([(ix x103 (ix ((ix g1.Nodes k106).Args) j137))]:List Tensor)).length,D149) (fun w s=>(s.f 9 [3,6,0,1]))
 refine o_3 ?_
 cases hr
 obtain rfl:=he2 _ R
 have hr:=hk2
 refine o_2 ?_
 exact qI (a135,(A136,a135.length,D136)) hr tI
 rintro ⟨a153,⟨A154,N154,D154⟩⟩ σ1 hr
 dsimp only [Z9_J3] at hr
 refine c_len 6 sees_sh (fun (hn:N154=a153.length)=>?_)
 subst hn
 refine o_2 ?_
 refine lO (vz (.agg [(.slice none 0 0),(.slice none 0 0)].toArray) (v_build pl58 zc58 R R)) (l_alloc R R zc58 (fun b155=>(l_stores 0 R R sz58 R R R R R R (lN (_::OO (kT58).share 58 A104 D104 x103::bxl b115 [(iv (ix g1.Nodes k106).Op),(sc A111 ((ix g1.Nodes k106).Args) D111),(sc A112 ((ix g1.Nodes k106).Dims) D112),(sc A113 ((ix g1.Nodes k106).Ints) D113),(vstr (ix g1.Nodes k106).Form),(sc A114 ((ix g1.Nodes k106).Data) D114)] 54::RR kT3 A111 D111 ((ix g1.Nodes k106).Args)::_::_::_::OO (kT58).share 58 A154 D154 a153::W1) ?_))))
 refine o_3 ?_
 refine c_cut (A:=(Int×(List Int)×(List Int))×(HH×HH)) (fun a=>Z9_J4 x103 k106 a.1.1 a.1.2.1 a.1.2.2=some out1) (fun a=>[(1,(sc A5 inputs4 D5)),(2,(.bool blank6)),(3,(pt b7 0)),(8,(sc A104 x103 D104)),(9,(iv a.1.1)),(10,(iv k106)),(14,(pt b155 0))]) (fun a=>OO (kT58).share 58 A104 D104 x103::bxl b155 [(s3 a.2.1),(s3 a.2.2)] 58::ow kT3 3 (s3 a.2.1) a.1.2.1::ow kT3 3 (s3 a.2.2) a.1.2.2::W1) ?_ ?_
 refine o_9 ?_
 split at hr
 refine o_1 ?_
 obtain ⟨r157,hx158,hr⟩:=bd hr
 refine o_3 ?_
 refine lM _ (fun w s=>(((((s.d 3 R).d 5 R).d 7 R).d 9 R).e 12 [11,3,2,1,0,4,5,6,7,8,9,10])) ?_
 refine lC 5 cb53 R (FnOk.lends (A':=[OO (kT58).share 58 A154 D154 a153]) (A:=[RR kT58 A154 D154 a153]) (B:=[RR kT3 A111 D111 ((ix g1.Nodes k106).Args),RR kT3 A112 D112 ((ix g1.Nodes k106).Dims),RR kT3 A113 D113 ((ix g1.Nodes k106).Ints),RR kT3 A114 D114 ((ix g1.Nodes k106).Data)]) (FnOk.perm (Z1_ok hx158) (Pre':=[RR kT58 A154 D154 a153,RR kT3 A111 D111 ((ix g1.Nodes k106).Args),RR kT3 A112 D112 ((ix g1.Nodes k106).Dims),RR kT3 A113 D113 ((ix g1.Nodes k106).Ints),RR kT3 A114 D114 ((ix g1.Nodes k106).Data)]) (fun _ _ _ s=>(s.f 5 [1,4,0,1]))) ⟨lend_sh,trivial⟩ (fun _=>⟨(closed_ow cT3),(closed_ow cT3),trivial⟩)) R ?_
 rintro ⟨⟨A159,N159,D159⟩,⟨A160,N160,D160⟩⟩
 refine l_len 1 sees_ow ?_
 rintro rfl
 refine l_len 2 sees_ow ?_
 rintro rfl
 refine l_stores 3 R R sz58 R R R R R R (lN (_::_::_::bxl b155 [(sc A159 r157.Dims D159),(sc A160 r157.Data D160)] 58::_::_::_::_::_::_::W1) ?_)
 refine o_2 ?_
 exact qI ((x105,r157.Dims,r157.Data),((A159,r157.Dims.length,D159),(A160,r157.Data.length,D160))) hr (tE 10 [4,3,1,2])
 refine o_7 ?_
 split at hr
 refine o_1 ?_
 obtain ⟨r162,hx163,hr⟩:=bd hr
 refine o_3 ?_
 refine lM _ (fun w s=>(s.d 4 R)) ?_
 refine lC 1 cb54 R (Z0o_ok hx163) R ?_
 rintro ⟨⟨A164,N164,D164⟩,⟨A165,N165,D165⟩⟩
 refine l_len 0 sees_ow ?_
 rintro rfl
 refine l_len 1 sees_ow ?_
 rintro rfl
 refine l_stores 2 R R sz58 R R R R R R (lN (_::_::bxl b155 [(sc A164 r162.Dims D164),(sc A165 r162.Data D165)] 58::_::_::_::_::_::_::_::W1) ?_)
 refine o_2 ?_
 exact qI ((x105,r162.Dims,r162.Data),((A164,r162.Dims.length,D164),(A165,r162.Data.length,D165))) hr (tE 10 [3,2,0,1])
 refine o_3 ?_
 obtain ⟨hg166,hr⟩:=gd hr
 obtain ⟨r171,hx172,hr⟩:=bd hr
 obtain ⟨hg173,hr⟩:=gd hr
 obtain ⟨r174,hx175,hr⟩:=bd hr
 refine cQ [(1,(sc A5 inputs4 D5)),(2,(.bool blank6)),(3,(pt b7 0)),(8,(sc A104 x103 D104)),(9,(iv x105)),(10,(iv k106)),(11,(pt b115 0)),(14,(pt b155 0)),(92,(.bool (((decide (x105≥(inputs4.length:Int)))||(!r171))||(!r174))))] (OO (kT58).share 58 A104 D104 x103::bxl b115 [(iv (ix g1.Nodes k106).Op),(sc A111 ((ix g1.Nodes k106).Args) D111),(sc A112 ((ix g1.Nodes k106).Dims) D112),(sc A113 ((ix g1.Nodes k106).Ints) D113),(vstr (ix g1.Nodes k106).Form),(sc A114 ((ix g1.Nodes k106).Data) D114)] 54::RR kT3 A111 D111 ((ix g1.Nodes k106).Args)::RR kT3 A112 D112 ((ix g1.Nodes k106).Dims)::RR kT3 A113 D113 ((ix g1.Nodes k106).Ints)::RR kT3 A114 D114 ((ix g1.Nodes k106).Data)::bxl b155 [(.slice none 0 0),(.slice none 0 0)] 58::W1) ?_ ?_
 rcases bo (decide (x105≥(inputs4.length:Int))) with hc176 | hc176
 refine cdr 23 [] mixo fun ht hn=>?_
 refine d23_ 0 [] ?_
 refine dD ?_
 exact qj (fun w s=>(s.f 8 [1,6,0,1]))
 rcases bo ((decide (x105≥(inputs4.length:Int)))||(!r171)) with hc177 | hc177
 refine c_some 11 sees_rd (show 0<inputs4.length by have:=(hg166 hc176); omega) (fun g167 o168 ha=>?_)
 subst ha
 refine c_elem (K:=kT58) 11 x105 dT58.dec R (hg166 hc176).1 (hg166 hc176).2 ?_
 rintro ⟨⟨A169,D169⟩,⟨A170,D170⟩⟩
 refine cdr 23 [] mixo fun ht hn=>?_
 refine d7_ 0 [] ?_
 refine dW 7 R (wnF hc176) (vIa sl46 sz58 R R (hg166 hc176)) (dW 8 R (wnF hc176) (vz (.agg [(sc A169 ((ix inputs4 x105).Dims) D169),(sc A170 ((ix inputs4 x105).Data) D170)].toArray) (v_clfs (fo:=0) 0 ag58 sz58 R R R R)) (d1 9 R (lM _ (fun w s=>(((s.d 1 R).d 3 R).f 13 [1,1,0,1,2,11])) ?_)))
 refine l_calln 2 R (wnF hc176) cb55 R (Zo_ok (gcall_t hx172 (not_ff hc176))) R ?_
 rintro _
 refine l_nil (q_draw (sL []) ?_)
 refine d13_ 10 [] ?_
 refine dD ?_
 exact qj (fun w s=>(s.f 11 [4,6,3,1]))
 refine c_some 11 sees_rd (show 0<inputs4.length by have:=(hg166 hc176); omega) (fun g167 o168 ha=>?_)
 subst ha
 refine c_elem (K:=kT58) 11 x105 dT58.dec R (hg166 hc176).1 (hg166 hc176).2 ?_
 rintro ⟨⟨A169,D169⟩,⟨A170,D170⟩⟩
 refine cdr 23 [] mixo fun ht hn=>?_
 refine d7_ 0 [] ?_
 refine dW 7 R (wnF hc176) (vIa sl46 sz58 R R (hg166 hc176)) (dW 8 R (wnF hc176) (vz (.agg [(sc A169 ((ix inputs4 x105).Dims) D169),(sc A170 ((ix inputs4 x105).Data) D170)].toArray) (v_clfs (fo:=0) 0 ag58 sz58 R R R R)) (d1 9 R (lM _ (fun w s=>(((s.d 1 R).d 3 R).f 13 [1,1,0,1,2,11])) ?_)))
 refine l_calln 2 R (wnF hc176) cb55 R (Zo_ok (gcall_t hx172 (not_ff hc176))) R ?_
 rintro _
 refine l_nil (q_draw (sL []) ?_)
 refine d5_ 10 [] ?_
 refine dW 15 R (wnF hc177) (vIa sl46 sz58 R R (hg173 hc177)) (dW 16 R (wnF hc177) (vz (.pointer (some ⟨g167,o168+x105.toNat*2,none⟩)) (v_fa fo58_0 R R)) (dW 17 R (wnF hc177) (v_clf (fo:=0) 0 ag23 R R R) ?_))
 refine d2_ 18 [] ?_
 refine d1 20 R (lM _ (fun w s=>(((s.d 1 R).d 8 R).f 13 [1,1,0,1,2,11])) ?_)
 refine l_calln 2 R (wnF hc177) cb56 R (Zz_ok (gcall_t hx175 (not_ff hc177))) R ?_
 rintro _
 refine l_nil (q_draw (sL []) ?_)
 refine d2_ 21 [] ?_
 refine dD ?_
 exact qj (fun w s=>(s.f 11 [4,6,3,1]))
 rintro σ1
 refine o_1 ?_
 split at hr
 refine o_14 ?_
 cases hr
 obtain rfl:=he1 _ R
 have hr:=hk1
 refine o_3 ?_
 cases hr
 exact qT2 (A104,x103.length,D104) (tE 11 [0])
 refine o_4 ?_
 obtain ⟨r179,hx180,hr⟩:=bd hr
 obtain ⟨hg182,hr⟩:=gd hr
 obtain ⟨r187,hx188,hr⟩:=bd hr
 refine c_some 10 sees_rd (show 0<inputs4.length by have:=hg182; omega) (fun g183 o184 ha=>?_)
 subst ha
 refine c_elem (K:=kT58) 10 x105 dT58.dec R hg182.1 hg182.2 ?_
 rintro ⟨⟨A185,D185⟩,⟨A186,D186⟩⟩
 refine cdr 11 [9] mixo fun ht hn=>?_
 refine d2_ 0 [9] ?_
 refine d3_ 3 [9] ?_
 refine dR 6 R (vz (.pointer (some ⟨g183,o184+x105.toNat*2+1,none⟩)) (v_fa fo58_1 R R)) (hS:=(sL [9])) (dR 7 R (v_clf (fo:=1) 0 ag23 R R R) (hS:=(sL [9])) (d1 2 R (lM _ (fun w s=>(s.d 6 R)) ?_)))
 refine lC 1 cb57 R (Zq_ok hx180) R ?_
 rintro ⟨A181,N181,D181⟩
 refine l_len 0 sees_ow ?_
 rintro rfl
 refine l_nil (q_draw (sL [10,0]) (d1 8 R (lM _ (fun w s=>(s.d 3 R)) ?_)))
 refine lC 1 cb57 R (Zq_ok hx188) R ?_
 rintro ⟨A189,N189,D189⟩
 refine l_len 0 sees_ow ?_
 rintro rfl
 refine l_nil (q_draw (sL [11,1,0]) (dR 9 R (vz (.agg [(sc A181 r179 D181),(sc A189 r187 D189)].toArray) (v_build pl58 zc58 R R)) (hS:=(sL [11,1,0])) (d1 10 R (l_stores 11 R R sz58 R R R R R R (lN (_::_::_::_::_::_::_::_::_::_::_::bxl b155 [(sc A181 r179 D181),(sc A189 r187 D189)] 58::W1) ?_)))))
 refine l_nil (q_draw (sL [11,1,0]) (dD ?_))
 refine o_7 ?_
 exact qI (((w64 (x105+1)),r179,r187),((A181,r179.length,D181),(A189,r187.length,D189))) hr (tE 12 [5,11,1,0])
 rintro ⟨⟨x190,t191,t193⟩,⟨⟨A192,N192,D192⟩,⟨A194,N194,D194⟩⟩⟩ σ1 hr
 dsimp only [Z9_J4] at hr
 refine c_len 2 sees_ow (fun (hn:N192=t191.length)=>?_)
 subst hn
 refine c_len 3 sees_ow (fun (hn:N194=t193.length)=>?_)
 subst hn
 refine o_9 ?_
 split at hr
 refine o_12 ?_
 cases hr
 obtain rfl:=he1 _ R
 have hr:=hk1
 refine o_3 ?_
 cases hr
 exact qT2 (A104,x103.length,D104) (tE 8 [0])
 refine o_3 ?_
 obtain ⟨hg197,hr⟩:=gd hr
 refine o_3 ?_
 refine lM _ (fun w s=>(((((s.shr 2 R).d 0 R).shr 4 R).d 0 R).e 6 [2,0,1,3,4,5])) ?_
 refine l_build (K:=(kT58).share) (xs:=([(⟨t191,t193⟩:Tensor)]:List Tensor)) (vs:=[(.agg [(sc A192 t191 D192),(sc A194 t193 D194)].toArray)]) 2 R R sl46 sz58 zc58 R R R R R R ?_ R (fun A196 D196=>?_)
 exact fun I h s=>(mS58).list [(((sc A192 t191 D192),(sc A194 t193 D194)),(⟨t191,t193⟩:Tensor))] I h s
 refine lM _ (tE 5 [3,0,1,2,4]) ?_
 refine l_app (K:=(kT58).share) 2932031007402 R R sl46 sz58 by58 (Zr.zk (Zr.share zT58) zc58) R R R R R R src_ow hg197 (fun A198 D198=>(lN (OO (kT58).share 58 A198 D198 (x103++([(⟨t191,t193⟩:Tensor)]:List Tensor))::_::_::_::W1) ?_))
 refine o_9 ?_
 cases hr
 exact qA (A198,(x103++([(⟨t191,t193⟩:Tensor)]:List Tensor)).length,D198) (tE 4 [0])
 refine o_3 ?_
 cases hr
 obtain rfl:=he1 _ R
 have hr:=hk1
 refine o_2 ?_
 exact qI ((x103,x105),(A104,x103.length,D104)) hr tI
 rintro ⟨⟨x203,x205⟩,⟨A204,N204,D204⟩⟩ σ1 hr
 dsimp only [Z9_J5] at hr
 refine c_len 0 sees_sh (fun (hn:N204=x203.length)=>?_)
 subst hn
 refine o_1 ?_
 obtain ⟨r206,hx207,hr⟩:=bd hr
 refine cQ [(6,(sc A204 x203 D204)),(7,(.bool (r206&&(blank6||(x205==(inputs4.length:Int))))))] (OO (kT58).share 58 A204 D204 x203::W1) ?_ ?_
 refine o_7 ?_
 refine lM _ (fun w s=>(s.d 3 R)) ?_
 refine lC 1 cb52 R (Z0i_ok hx207) R ?_
 rintro _
 refine o_1 ?_
 rcases bo r206 with hc208 | hc208
 refine o_2 ?_
 rcases bo blank6 with hc209 | hc209
 refine o_9 ?_
 exact qj tI
 refine o_9 ?_
 exact qj tI
 refine o_11 ?_
 exact qj tI
 rintro σ1
 refine o_2 ?_
 cases hr
 exact qT2 (A204,x203.length,D204) (tE 5 [0])
theorem Z2u_ok  {g1:Graph}{r:Bool}(hr:Z2u g1=some r) :
 FnOk Tryz.prog 10 [(.agg [(.slice A2 N2 D2),(.slice A3 N3 D3)].toArray)] [rds kT54 (.slice A2 N2 D2) g1.Nodes,rds kT3 (.slice A3 N3 D3) g1.Outs] (fun (h:Unit)=>((.bool r),[])):=by
 unfold Z2u at hr
 refine fn_ok Tryz.func10 R 12 R R fun C V=>?_
 refine cL 0 sees_rd ?_
 rintro rfl
 refine cL 1 sees_rd ?_
 rintro rfl
 let W0:=RR kT54 A2 D2 g1.Nodes::RR kT3 A3 D3 g1.Outs::V
 refine cN W0 ?_
 refine o_2 ?_
 refine lBx R fun b4=>?_
 refine o_2 ?_
 let W1:=bxl b4 [(sc A2 g1.Nodes D2),(sc A3 g1.Outs D3)] 30::W0
 refine qN W1 ?_
 refine o_2 ?_
 obtain ⟨r6,hx7,hr⟩:=bd hr
 refine o_2 ?_
 refine l_build (K:=kT58) (xs:=([]:List Tensor)) (vs:=[]) 0 R R sl46 sz58 zc58 R R R R R R ?_ R (fun A5 D5=>?_)
 exact fun I h s=>(mO58).list [] I h s
 refine l_st (fun w s=>s.shr 0 R) (lM _ (fun w s=>((((s.d 2 R).d 4 R).d 2 R).e 4 [2,1,0,3])) ?_)
 refine lC 3 cb34 R (Z9_ok hx7) R ?_
 rintro ⟨A8,N8,D8⟩
 refine l_len 0 sees_sh ?_
 rintro rfl
 refine lO (vT R) ?_
 refine o_13 ?_
 cases hr
 exact qF () (tE 5 [])
theorem Z01_ok  {g1:Graph}{r:(List Int)}(hr:Z01 g1=some r) :
 FnOk Tryz.prog 14 [(.agg [(.slice A2 N2 D2),(.slice A3 N3 D3)].toArray)] [rds kT54 (.slice A2 N2 D2) g1.Nodes,rds kT3 (.slice A3 N3 D3) g1.Outs] (fun (h:HH)=>((.slice h.1 h.2.1 h.2.2),[ow kT3 3 (.slice h.1 h.2.1 h.2.2) r])):=by
 unfold Z01 at hr
 refine fn_ok Tryz.func14 R 31 R R fun C V=>?_
 refine cN (_::_::V) ?_
 refine cL 0 sees_rd ?_
 rintro rfl
 refine cL 1 sees_rd ?_
 rintro rfl
 let W0:List HP:=RR kT54 A2 D2 g1.Nodes::RR kT3 A3 D3 g1.Outs::V
 refine cN W0 ?_
 refine c_seq (c_region (lBx R (fun b4=>(lS R (l_nil ?_)))))
 let W1:List HP:=bxl b4 [(sc A2 g1.Nodes D2),(sc A3 g1.Outs D3)] 30::W0
 refine qN W1 ?_
 refine q_next (c_seq (c_region (l_build (K:=kT3) (xs:=([]:List Int)) (vs:=[]) 0 R R sl23 sz3 zc3 R R R R R R ?_ R (fun A5 D5=>?_))))
 exact fun I h s=>(mO3).list [] I h s
 refine lN (OO kT3 3 A5 D5 ([]:List Int)::W1) ?_
 refine lS R (l_nil (q_next (c_seq ?_)))
 obtain ⟨r6,hx7,hr⟩:=bd hr
 refine c_region (lO (vz (.agg [(sc A2 g1.Nodes D2),(sc A3 g1.Outs D3)].toArray) (v_loadw 1 ag30 sz30 R R R R)) (lM (RR kT54 A2 D2 g1.Nodes::RR kT3 A3 D3 g1.Outs::ow _ _ _ _::W1) (fun w s=>(((s.d 2 R).d 4 R).e 3 [1,0,2])) ?_))
 refine lC 2 cb10 R (Z2u_ok hx7) R ?_
 rintro _
 refine lN (_::W1) ?_
 refine lB R (l_nil (q_next (c_seq (c_cut (A:=((List Int))×(HH)) (fun a=>Z01_J3 a.1=some r) (fun a=>[(3,(.slice a.2.1 a.2.2.1 a.2.2.2))]) (fun a=>ow kT3 3 (.slice a.2.1 a.2.2.1 a.2.2.2) a.1::W1) ?_ ?_))))
 refine c_seq (c_region (lI R (l_nil (q_next (c_block ?_)))))
 obtain ⟨e1,hl1,hk1⟩:=bd hr
 refine c_loop (A:=HH) hl1 (fun s a=>[(1,(pt b4 0)),(3,(.slice a.1 a.2.1 a.2.2)),(4,(.bool r6)),(5,(iv s.2))]) (fun s a=>ow kT3 3 (.slice a.1 a.2.1 a.2.2) s.1::W1) (A5,([]:List Int).length,D5) (aS R) (fun w s=>s) ?_
 rintro ⟨x19,k21⟩ ⟨A20,N20,D20⟩ σ1 out1 hr he1
 replace hr:Z01_L1 g1 r6 x19 k21=some out1:=hr
 unfold Z01_L1 at hr
 refine c_len 0 sees_ow (fun (hn:N20=x19.length)=>?_)
 subst hn
 refine c_seq (c_seq (cQ [(1,(pt b4 0)),(3,(sc A20 x19 D20)),(4,(.bool r6)),(5,(iv k21)),(16,(.bool ((decide (k21<(g1.Nodes.length:Int)))&&r6)))] (OO kT3 3 A20 D20 x19::W1) ?_ ?_))
 refine c_region (lI R (lO (vFa 0 fo30_0 R) (lO (vLd 1 ag28 R R R) (lO (v_len sl28 R) (lO (vLt R R) (lB R ?_))))))
 rcases bo (decide (k21<(g1.Nodes.length:Int))) with hc22 | hc22
 refine lW (wnT hc22) (vB R) (lO (pAT R hc22 R) (l_nil ?_))
 exact qJ (fun w s=>s)
 refine lf (wfF hc22) (lO (pAF r6 R hc22) (l_nil ?_))
 exact qJ (fun w s=>s)
 rintro σ1
 refine q_next ?_
 rcases bif_ hr with ⟨hb23,hr⟩|⟨hb23,hr⟩
 refine c_true R hb23 (c_skip (q_next (c_seq (c_cut (A:=((List Int))×(HH)) (fun a=>Z01_J2 k21 a.1=some out1) (fun a=>[(1,(pt b4 0)),(3,(.slice a.2.1 a.2.2.1 a.2.2.2)),(4,(.bool r6)),(5,(iv k21))]) (fun a=>ow kT3 3 (.slice a.2.1 a.2.2.1 a.2.2.2) a.1::W1) ?_ ?_))))
 refine c_block (c_seq ?_)
 obtain ⟨hg24,hr⟩:=gd hr
 refine c_region (lO (vFa 0 fo30_0 R) (lO (vLd 1 ag28 R R R) (lI R (t_some 2 sees_rd (show 0<g1.Nodes.length by have:=hg24; omega) (fun g25 o26 ha=>?_)))))
 subst ha
 refine lO (vIa sl28 sz54 R R hg24) (lO (vz (.pointer (some ⟨g25,o26+k21.toNat*6,none⟩)) (v_fa fo54_0 R R)) (lO (vz (iv (ix g1.Nodes k21).Op) (v_lde (K:=kT54) (fo:=0) (pr:=fun x=>(iv x.Op)) 2 k21 ag3 (dT54.leaf fun _ _=>R) sees_rd R hg24.1 hg24.2)) (lO (vEq R R) (l_nil (q_next ?_)))))
 rcases bif_ hr with ⟨hb27,hr⟩|⟨hb27,hr⟩
 refine c_true R hb27 ?_
 obtain ⟨hg29,hr⟩:=gd hr
 refine c_region (lS R (lI R (l_build (K:=kT3) (xs:=([k21]:List Int)) (vs:=[(iv k21)]) 0 R R sl23 sz3 zc3 R R R R R R ?_ R (fun A28 D28=>?_))))
 exact fun I h s=>(mO3).list [((),k21)] I h s
 refine lN (OO kT3 3 A28 D28 ([k21]:List Int)::OO kT3 3 A20 D20 x19::W1) ?_
 refine lM (ow _ _ _ _::ow _ _ _ _::W1) (fun w s=>(s.e 2 [1,0])) ?_
 refine l_app (K:=kT3) 17592186044416 R R sl23 sz3 by3 (Zr.zk zT3 zc3) R R R R R R src_ow hg29 (fun A30 D30=>(lN (OO kT3 3 A30 D30 (x19++([k21]:List Int))::W1) ?_))
 refine lS R (l_nil (q_blockn ?_))
 exact qI ((x19++([k21]:List Int)),(A30,(x19++([k21]:List Int)).length,D30)) hr (fun w s=>s)
 refine c_false R hb27 (c_skip (q_blockn ?_))
 exact qI (x19,(A20,x19.length,D20)) hr (fun w s=>s)
 rintro ⟨x31,⟨A32,N32,D32⟩⟩ σ1 hr
 replace hr:Z01_J2 k21 x31=some out1:=hr
 unfold Z01_J2 at hr
 refine c_len 0 sees_ow (fun (hn:N32=x31.length)=>?_)
 subst hn
 refine c_region (lI R (lO (vAd R R) (lI R (l_nil ?_))))
 obtain rfl:=so hr
 exact qA (A32,x31.length,D32) (fun w s=>s)
 refine c_false R hb23 (c_exit (q_exit ?_))
 obtain rfl:=so hr
 obtain rfl:=he1 _ R
 have hr:=hk1
 refine q_exit (q_block ?_)
 exact qI (x19,(A20,x19.length,D20)) hr (fun w s=>s)
 rintro ⟨x36,⟨A37,N37,D37⟩⟩ σ1 hr
 replace hr:Z01_J3 x36=some r:=hr
 unfold Z01_J3 at hr
 refine c_len 0 sees_ow (fun (hn:N37=x36.length)=>?_)
 subst hn
 refine c_seq (c_region (lS R (lS R (l_nil (q_next (c_ret ?_))))))
 obtain rfl:=so hr
 exact qF (A37,x36.length,D37) (fun w s=>(s.e 4 [0]))
end Go.Proofs.YtmpnollfdpdipaaGreat
