import Derived.Test.YtmpnollfdpdipaaGreatGkW2
set_option linter.unusedVariables false
set_option maxRecDepth 20000
namespace Go.Proofs.YtmpnollfdpdipaaGreat
open Go Go.Pg
variable {A2 A3 A4 A5 A6 A7:Option Addr}{D2 D3 D4 D5 D6 D7 N2 N3 N4 N5 N6 N7:Nat}
theorem Z20_ok  {v1:View}{r:View}(hr:Z20 v1=some r) :
 FnOk Tryz.prog 121 [(.agg [(.slice A2 N2 D2),(.slice A3 N3 D3),(iv v1.Offset),(iv v1.Base)].toArray)] [rds kT3 (.slice A2 N2 D2) v1.Dims,rds kT3 (.slice A3 N3 D3) v1.Strides] (fun (h:HH×HH)=>((.agg [(s3 h.1),(s3 h.2),(iv r.Offset),(iv r.Base)].toArray),[rds kT3 (s3 h.1) r.Dims,rds kT3 (s3 h.2) r.Strides])):=by
 unfold Z20 at hr
 refine fn_ok Tryz.func121 R 8 R R fun C V=>?_
 refine cN (_::_::V) ?_
 refine cL 0 sees_rd ?_
 rintro rfl
 refine cL 1 sees_rd ?_
 rintro rfl
 let W0:List HP:=RR kT3 A2 D2 v1.Dims::RR kT3 A3 D3 v1.Strides::V
 refine cN W0 ?_
 refine o_2 ?_
 refine lBx R fun b4=>?_
 refine l_alloc R R zc96 (fun b5=>(l_nil ?_))
 let W1:List HP:=bxl b4 [(sc A2 v1.Dims D2),(sc A3 v1.Strides D3),(iv v1.Offset),(iv v1.Base)] 96::W0
 refine qN (_::W1) ?_
 refine o_3 ?_
 obtain ⟨r6,hx7,hr⟩:=bd hr
 refine o_2 ?_
 refine lM (RR kT3 A2 D2 v1.Dims::RR kT3 A3 D3 v1.Strides::bxl _ _ _::W1) (fun w s=>(((s.d 2 R).d 4 R).e 3 [1,0,2])) ?_
 refine lC 2 cb116 R (Z7_ok hx7) R ?_
 rintro _
 refine lN (_::W1) ?_
 refine o_3 ?_
 rcases bif_ hr with ⟨_,hr⟩|⟨_,hr⟩
 refine o_3 ?_
 refine lO (vz (.agg [(.slice none 0 0),(.slice none 0 0),(iv 0),(iv 0)].toArray) (v_build pl96 zc96 R R)) (l_stores 0 R R sz96 R R R R R R (l_nil (q_next (c_ret (q_ret ?_)))))
 obtain rfl:=so hr
 exact qS ((none,0,0),(none,0,0)) (fun w s=>(((s.nilr kT3).nilr kT3).e 6 [1,0]))
 refine o_6 ?_
 refine l_stores 0 R R sz96 R R R R R R (lN (bxl b5 [(sc A2 v1.Dims D2),(sc A3 v1.Strides D3),(iv v1.Offset),(iv v1.Base)] 96::W1) ?_)
 refine o_3 ?_
 obtain rfl:=so hr
 exact qS ((A2,v1.Dims.length,D2),(A3,v1.Strides.length,D3)) (tE 4 [2,3])
theorem Z14_ok  {v1:View}{axis4:Int}{p5:Int}{count6:Int}{step7:Int}{r:View}(hr:Z14 v1 axis4 p5 count6 step7=some r) :
 FnOk Tryz.prog 86 [(.agg [(.slice A2 N2 D2),(.slice A3 N3 D3),(iv v1.Offset),(iv v1.Base)].toArray),(iv axis4),(iv p5),(iv count6),(iv step7)] [rds kT3 (.slice A2 N2 D2) v1.Dims,rds kT3 (.slice A3 N3 D3) v1.Strides] (fun (h:HH×HH)=>((.agg [(s3 h.1),(s3 h.2),(iv r.Offset),(iv r.Base)].toArray),[rds kT3 (s3 h.1) r.Dims,rds kT3 (s3 h.2) r.Strides])):=by
 unfold Z14 at hr
 refine fn_ok Tryz.func86 R 102 R R fun C V=>?_
 refine cN (_::_::V) ?_
 refine cL 0 sees_rd ?_
 rintro rfl
 refine cL 1 sees_rd ?_
 rintro rfl
 let W0:List HP:=RR kT3 A2 D2 v1.Dims::RR kT3 A3 D3 v1.Strides::V
 refine cN W0 ?_
 refine o_2 ?_
 refine lBx R fun b8=>?_
 refine l_alloc R R zc96 (fun b9=>(l_nil ?_))
 let W1:List HP:=bxl b8 [(sc A2 v1.Dims D2),(sc A3 v1.Strides D3),(iv v1.Offset),(iv v1.Base)] 96::W0
 refine qN (_::W1) ?_
 refine o_3 ?_
 obtain ⟨r10,hx11,hr⟩:=bd hr
 obtain ⟨hg12,hr⟩:=gd hr
 refine cQ [(1,(iv axis4)),(2,(iv p5)),(3,(iv count6)),(4,(iv step7)),(5,(pt b8 0)),(10,(pt b9 0)),(45,(.bool (((((((!r10)||(decide (count6<(1:Int))))||(decide (count6>(4096:Int))))||(decide (step7<(-4096:Int))))||(decide (step7>(4096:Int))))||(decide (p5<(0:Int))))||(decide (p5≥(ix v1.Dims axis4))))))] (bxl b9 [(.slice none 0 0),(.slice none 0 0),(iv 0),(iv 0)] 96::W1) ?_ ?_
 refine o_3 ?_
 refine lM (RR kT3 A2 D2 v1.Dims::RR kT3 A3 D3 v1.Strides::bxl _ _ _::W1) (fun w s=>(((s.d 2 R).d 4 R).e 3 [1,0,2])) ?_
 refine lC 2 cb119 R (Z1x_ok hx11) R ?_
 rintro _
 refine lN (_::W1) ?_
 refine o_2 ?_
 rcases bo (!r10) with hc15 | hc15
 refine o_29 ?_
 exact qj tI
 refine o_4 ?_
 rcases bo ((!r10)||(decide (count6<(1:Int)))) with hc16 | hc16
 refine o_25 ?_
 exact qj tI
 refine o_4 ?_
 rcases bo (((!r10)||(decide (count6<(1:Int))))||(decide (count6>(4096:Int)))) with hc17 | hc17
 refine o_21 ?_
 exact qj tI
 refine o_4 ?_
 rcases bo ((((!r10)||(decide (count6<(1:Int))))||(decide (count6>(4096:Int))))||(decide (step7<(-4096:Int)))) with hc18 | hc18
 refine o_17 ?_
 exact qj tI
 refine o_4 ?_
 rcases bo (((((!r10)||(decide (count6<(1:Int))))||(decide (count6>(4096:Int))))||(decide (step7<(-4096:Int))))||(decide (step7>(4096:Int)))) with hc19 | hc19
 refine o_13 ?_
 exact qj tI
 refine o_4 ?_
 rcases bo ((((((!r10)||(decide (count6<(1:Int))))||(decide (count6>(4096:Int))))||(decide (step7<(-4096:Int))))||(decide (step7>(4096:Int))))||(decide (p5<(0:Int)))) with hc20 | hc20
 refine o_9 ?_
 exact qj tI
 refine o_4 ?_
 refine t_some 2 sees_rd (show 0<v1.Dims.length by have:=(hg12 hc20); omega) (fun g13 o14 ha=>?_)
 subst ha
 refine lW (wnF hc20) (vIa sl23 sz3 R R (hg12 hc20)) (lW (wnF hc20) (vLi 2 ag3 sees_rd R (hg12 hc20)) ?_)
 refine o_3 ?_
 exact qj tI
 rintro σ1
 refine o_1 ?_
 rcases bif_ hr with ⟨_,hr⟩|⟨_,hr⟩
 refine o_3 ?_
 refine lO (vz (.agg [(.slice none 0 0),(.slice none 0 0),(iv 0),(iv 0)].toArray) (v_build pl96 zc96 R R)) (l_stores 0 R R sz96 R R R R R R (l_nil (q_next (c_ret (q_ret ?_)))))
 obtain rfl:=so hr
 exact qS ((none,0,0),(none,0,0)) (fun w s=>(((s.nilr kT3).nilr kT3).e 6 [1,0]))
 refine o_16 ?_
 obtain ⟨hg22,hr⟩:=gd hr
 refine cQ [(1,(iv axis4)),(2,(iv p5)),(3,(iv count6)),(4,(iv step7)),(5,(pt b8 0)),(10,(pt b9 0)),(63,(.bool ((decide ((w64 (p5+(w64 ((w64 (count6 - (1:Int)))*step7))))<(0:Int)))||(decide ((w64 (p5+(w64 ((w64 (count6 - (1:Int)))*step7))))≥(ix v1.Dims axis4))))))] (bxl b9 [(.slice none 0 0),(.slice none 0 0),(iv 0),(iv 0)] 96::W1) ?_ ?_
 refine o_4 ?_
 rcases bo (decide ((w64 (p5+(w64 ((w64 (count6 - (1:Int)))*step7))))<(0:Int))) with hc25 | hc25
 refine o_9 ?_
 exact qj tI
 refine o_4 ?_
 refine t_some 2 sees_rd (show 0<v1.Dims.length by have:=(hg22 hc25); omega) (fun g23 o24 ha=>?_)
 subst ha
 refine lW (wnF hc25) (vIa sl23 sz3 R R (hg22 hc25)) (lW (wnF hc25) (vLi 2 ag3 sees_rd R (hg22 hc25)) ?_)
 refine o_3 ?_
 exact qj tI
 rintro σ1
 refine o_1 ?_
 rcases bif_ hr with ⟨_,hr⟩|⟨_,hr⟩
 refine o_3 ?_
 refine lO (vz (.agg [(.slice none 0 0),(.slice none 0 0),(iv 0),(iv 0)].toArray) (v_build pl96 zc96 R R)) (l_stores 0 R R sz96 R R R R R R (l_nil (q_next (c_ret (q_ret ?_)))))
 obtain rfl:=so hr
 exact qS ((none,0,0),(none,0,0)) (fun w s=>(((s.nilr kT3).nilr kT3).e 6 [1,0]))
 refine o_4 ?_
 obtain ⟨r27,hx28,hr⟩:=bd hr
 refine o_2 ?_
 refine lM (RR kT3 A2 D2 v1.Dims::RR kT3 A3 D3 v1.Strides::bxl _ _ _::W1) (fun w s=>(((s.d 2 R).d 4 R).e 3 [1,0,2])) ?_
 refine lC 2 cb120 R (Z1z_ok hx28) R ?_
 rintro ⟨⟨A29,N29,D29⟩,⟨A30,N30,D30⟩⟩
 refine lN (ow kT3 3 (.slice A29 N29 D29) r27.Dims::ow kT3 3 (.slice A30 N30 D30) r27.Strides::_::W1) ?_
 refine l_len 0 sees_ow ?_
 rintro rfl
 refine l_len 1 sees_ow ?_
 rintro rfl
 refine l_alloc R R zc96 (fun b31=>(l_stores 0 R R sz96 R R R R R R (lN (bxl b31 [(sc A29 r27.Dims D29),(sc A30 r27.Strides D30),(iv r27.Offset),(iv r27.Base)] 96::_::_::_::W1) ?_)))
 refine o_3 ?_
 obtain ⟨hg32,hr⟩:=gd hr
 refine cQ [(1,(iv axis4)),(3,(iv count6)),(4,(iv step7)),(10,(pt b9 0)),(12,(pt b31 0))] (bxl b9 [(.slice none 0 0),(.slice none 0 0),(iv 0),(iv 0)] 96::bxl b31 [(sc A29 r27.Dims D29),(sc A30 r27.Strides D30),(iv (w64 (r27.Offset+(w64 (p5*(ix r27.Strides axis4)))))),(iv r27.Base)] 96::OO kT3 3 A29 D29 r27.Dims::OO kT3 3 A30 D30 r27.Strides::W1) ?_ ?_
 refine c_some 2 sees_ow (show 0<r27.Strides.length by have:=hg32; omega) (fun g33 o34 ha=>?_)
 subst ha
 refine cdr 12 [0] mixo fun ht hn=>?_
 refine d1_ 0 [0] ?_
 refine d2_ 2 [0] ?_
 refine d1_ 5 [0] ?_
 refine d_all [1,4] (by kernel_rfl) R ⟨?_,?_,trivial⟩
 refine lO (vLd 0 ag3 R R R) (l_nil (q_draw (sL [0]) (d1 4 R (lO (vLd 0 ag23 R R R) (l_nil (q_draw (sL [0]) ?_))))))
 refine d5_ 6 [0] ?_
 refine d1 11 R (l_store 0 R R sz3 R R R R R (lN (bxl b31 [(sc A29 r27.Dims D29),(sc (ad g33 o34) r27.Strides D30),(iv (w64 (r27.Offset+(w64 (p5*(ix r27.Strides axis4)))))),(iv r27.Base)] 96::_::OO kT3 3 (ad g33 o34) D30 r27.Strides::_::W1) ?_))
 refine l_nil (q_draw (sL [0]) (dD ?_))
 exact qj (tE 4 [3,0,1,2])
 refine lO (vLd 0 ag23 R R R) (l_nil (q_draw (sL [0]) ?_))
 refine d3_ 6 [0] ?_
 refine d1 1 R (lO (vLd 0 ag3 R R R) (l_nil (q_draw (sL [0]) ?_)))
 refine d2_ 9 [0] ?_
 refine d1 11 R (l_store 0 R R sz3 R R R R R (l_nil (q_draw (sL [0]) (dD ?_))))
 exact qj (tE 4 [3,0,1,2])
 rintro σ1
 refine o_2 ?_
 obtain ⟨hg35,hr⟩:=gd hr
 refine o_5 ?_
 refine t_some 2 sees_ow (show 0<r27.Dims.length by have:=hg35; omega) (fun g36 o37 ha=>?_)
 subst ha
 refine o_1 ?_
 refine lM (OO kT3 3 (ad g36 o37) D29 r27.Dims::bxl _ _ _::bxl b31 [(sc (ad g36 o37) r27.Dims D29),(sc A30 r27.Strides D30),(iv (w64 (r27.Offset+(w64 (p5*(ix r27.Strides axis4)))))),(iv r27.Base)] 96::OO kT3 3 A30 D30 r27.Strides::W1) (tE 4 [2,0,1,3]) ?_
 refine l_stx (K:=kT3) (x':=count6) 0 axis4 R R sz3 R R hg35.1 hg35.2 ?_ ?_
 exact fun I h s=>(mO3).put I h () count6 s
 refine lN (ow kT3 3 (.slice (ad g36 o37) r27.Dims.length D29) (r27.Dims.set axis4.toNat count6)::_::_::_::W1) ?_
 refine o_3 ?_
 refine c_some 3 sees_ow (show 0<r27.Strides.length by have:=hg32; omega) (fun g38 o39 ha=>?_)
 subst ha
 refine cdr 12 [3] mixo fun ht hn=>?_
 refine d7_ 0 [3] ?_
 refine d1_ 8 [3] ?_
 refine d1 7 R (lO (vLi 3 ag3 sees_ow R hg32) (l_nil (q_draw (sL [3]) ?_)))
 refine d2_ 9 [3] ?_
 refine d1 11 R (lM (OO kT3 3 (ad g38 o39) D30 r27.Strides::ow _ _ _ _::bxl _ _ _::bxl b31 [(sc (ad g36 o37) r27.Dims D29),(sc (ad g38 o39) r27.Strides D30),(iv (w64 (r27.Offset+(w64 (p5*(ix r27.Strides axis4)))))),(iv r27.Base)] 96::W1) (tE 4 [3,0,1,2]) ?_)
 refine l_stx (K:=kT3) (x':=(w64 ((ix r27.Strides axis4)*step7))) 0 axis4 R R sz3 R R hg32.1 hg32.2 ?_ ?_
 exact fun I h s=>(mO3).put I h () (w64 ((ix r27.Strides axis4)*step7)) s
 refine lN (ow kT3 3 (.slice (ad g38 o39) r27.Strides.length D30) (r27.Strides.set axis4.toNat (w64 ((ix r27.Strides axis4)*step7)))::_::_::_::W1) ?_
 refine l_nil (q_draw (sL [0]) (dD ?_))
 obtain ⟨l40,hl41,hr⟩:=bd hr
 replace hl41:=Option.some.inj hl41
 refine qM (ow kT3 3 (.slice (ad g38 o39) r27.Strides.length D30) l40::_::_::_::W1) (fun w s=>by rw [← hl41]; exact s) ?_
 refine o_2 ?_
 refine c_cut (A:=((List Int))×(Unit)) (fun a=>Z14_J1 axis4 p5 count6 r27 a.1=some r) (fun a=>[(10,(pt b9 0)),(12,(pt b31 0))]) (fun a=>bxl b9 [(.slice none 0 0),(.slice none 0 0),(iv 0),(iv 0)] 96::bxl b31 [(sc (ad g36 o37) r27.Dims D29),(sc (ad g38 o39) r27.Strides D30),(iv (w64 (r27.Offset+(w64 (p5*(ix r27.Strides axis4)))))),(iv r27.Base)] 96::ow kT3 3 (.slice (ad g36 o37) r27.Dims.length D29) (r27.Dims.set axis4.toNat count6)::ow kT3 3 (.slice (ad g38 o39) r27.Strides.length D30) a.1::W1) ?_ ?_
 refine o_6 ?_
 rcases bif_ hr with ⟨hb42,hr⟩|⟨hb42,hr⟩
 refine o_6 ?_
 refine l_stx (K:=kT3) (x':=(0:Int)) 0 axis4 R R sz3 R R hg32.1 hg32.2 ?_ ?_
 exact fun I h s=>(mO3).put I h () (0:Int) s
 refine lN (ow kT3 3 (.slice (ad g38 o39) r27.Strides.length D30) (l40.set axis4.toNat (0:Int))::_::_::_::W1) ?_
 refine o_1 ?_
 exact qI ((l40.set axis4.toNat (0:Int)),()) hr (tE 4 [2,3,1,0])
 refine c_false R hb42 (c_skip ?_)
 exact qI (l40,()) hr (tE 4 [2,3,1,0])
 rintro ⟨x43,_⟩ σ1 hr
 dsimp only [Z14_J1] at hr
 refine o_1 ?_
 obtain ⟨r44,hx45,hr⟩:=bd hr
 refine o_2 ?_
 refine l_st (fun w s=>s.shr 2 R) (l_st (fun w s=>s.shr 3 R) (lM (rds kT3 (.slice (ad g36 o37) r27.Dims.length D29) (r27.Dims.set axis4.toNat count6)::rds kT3 (.slice (ad g38 o39) r27.Strides.length D30) x43::rds kT3 (.slice (ad g38 o39) r27.Strides.length D30) x43::rds kT3 (.slice (ad g36 o37) r27.Dims.length D29) (r27.Dims.set axis4.toNat count6)::bxl _ _ _::bxl _ _ _::W1) (fun w s=>(((s.d 1 R).d 1 R).e 6 [1,0,2,3,4,5])) ?_))
 refine lC 2 cb121 R (Z20_ok (v1:=(⟨(r27.Dims.set axis4.toNat count6),x43,(w64 (r27.Offset+(w64 (p5*(ix r27.Strides axis4))))),r27.Base⟩:View)) hx45) R ?_
 rintro ⟨⟨A46,N46,D46⟩,⟨A47,N47,D47⟩⟩
 refine lN (rds kT3 (.slice A46 N46 D46) r44.Dims::rds kT3 (.slice A47 N47 D47) r44.Strides::_::_::_::_::W1) ?_
 refine l_len 0 sees_rd ?_
 rintro rfl
 refine l_len 1 sees_rd ?_
 rintro rfl
 refine l_stores 4 R R sz96 R R R R R R (lN (_::_::_::_::bxl b9 [(sc A46 r44.Dims D46),(sc A47 r44.Strides D47),(iv r44.Offset),(iv r44.Base)] 96::_::W1) ?_)
 refine o_3 ?_
 obtain rfl:=so hr
 exact qS ((A46,r44.Dims.length,D46),(A47,r44.Strides.length,D47)) (tE 9 [0,1])
theorem Z1l_ok  {t1:Tensor}{index4:(List Int)}{p6:Int}{r:(List Int)}(hr:Z1l t1 index4 p6=some r) :
 FnOk Tryz.prog 123 [(.agg [(.slice A2 N2 D2),(.slice A3 N3 D3)].toArray),(.slice A5 N5 D5),(iv p6)] [rds kT3 (.slice A2 N2 D2) t1.Dims,ow kT3 3 (.slice A3 N3 D3) t1.Data,rds kT3 (.slice A5 N5 D5) index4] (fun (h:Unit)=>((.tuple [].toArray),[ow kT3 3 (.slice A3 N3 D3) r])):=by
 unfold Z1l at hr
 refine fn_ok Tryz.func123 R 14 R R fun C V=>?_
 refine cM (ow _ _ _ _::rds _ _ _::rds _ _ _::V) (tE 3 [1,0,2]) ?_
 refine cL 0 sees_ow ?_
 rintro rfl
 refine cL 1 sees_rd ?_
 rintro rfl
 refine cL 2 sees_rd ?_
 rintro rfl
 let W0:List HP:=RR kT3 A2 D2 t1.Dims::RR kT3 A5 D5 index4::V
 refine cN (_::W0) ?_
 refine o_2 ?_
 refine lBx R fun b7=>?_
 refine l_nil (qM (ow _ _ _ _::bxl _ _ _::W0) (tE 2 [1,0]) ?_)
 let W1:List HP:=bxl b7 [(sc A2 t1.Dims D2),(sc A3 t1.Data D3)] 58::W0
 refine qN (_::W1) ?_
 refine o_1 ?_
 obtain ⟨r8,hx9,hr⟩:=bd hr
 obtain ⟨hg10,hr⟩:=gd hr
 refine c_some 0 sees_ow (show 0<t1.Data.length by have:=hg10; omega) (fun g11 o12 ha=>?_)
 subst ha
 refine cdr 9 [0] mixo fun ht hn=>?_
 refine d5_ 0 [0] ?_
 refine d1_ 6 [0] ?_
 refine d1 5 R (lM (RR kT3 A2 D2 t1.Dims::RR kT3 A5 D5 index4::OO kT3 3 (ad g11 o12) D3 t1.Data::W1) (fun w s=>(((s.d 2 R).d 4 R).e 3 [1,0,2])) ?_)
 refine lC 2 cb114 R (Z0g_ok hx9) R ?_
 rintro _
 refine lN (_::W1) ?_
 refine l_nil (q_draw (sL [0]) ?_)
 refine d1_ 7 [0] ?_
 refine d1 8 R (l_stx (K:=kT3) (x':=p6) 0 r8 R R sz3 R R hg10.1 hg10.2 ?_ ?_)
 exact fun I h s=>(mO3).put I h () p6 s
 refine lN (ow kT3 3 (.slice (ad g11 o12) t1.Data.length D3) (t1.Data.set r8.toNat p6)::W1) ?_
 refine l_nil (q_draw (sL [0]) (dD ?_))
 obtain rfl:=so hr
 exact qT0 () (tE 4 [0])
theorem Z0l_ok  {t1:Tensor}{axis4:Int}{before5:Int}{after6:Int}{gap7:Int}{r:Tensor}(hr:Z0l t1 axis4 before5 after6 gap7=some r) :
 FnOk Tryz.prog 87 [(.agg [(.slice A2 N2 D2),(.slice A3 N3 D3)].toArray),(iv axis4),(iv before5),(iv after6),(iv gap7)] [rds kT3 (.slice A2 N2 D2) t1.Dims,rds kT3 (.slice A3 N3 D3) t1.Data] (fun (h:HH×HH)=>((.agg [(s3 h.1),(s3 h.2)].toArray),[ow kT3 3 (s3 h.1) r.Dims,ow kT3 3 (s3 h.2) r.Data])):=by
 unfold Z0l at hr
 refine fn_ok Tryz.func87 R 101 R R fun C V=>?_
 refine cN (_::_::V) ?_
 refine cL 0 sees_rd ?_
 rintro rfl
 refine cL 1 sees_rd ?_
 rintro rfl
 let W0:List HP:=RR kT3 A2 D2 t1.Dims::RR kT3 A3 D3 t1.Data::V
 refine cN W0 ?_
 refine o_2 ?_
 refine lBx R fun b8=>?_
 refine l_alloc R R zc58 (fun b9=>(l_nil ?_))
 let W1:List HP:=bxl b8 [(sc A2 t1.Dims D2),(sc A3 t1.Data D3)] 58::W0
 refine qN (_::W1) ?_
 refine o_3 ?_
 obtain ⟨r10,hx11,hr⟩:=bd hr
 refine cQ [(1,(iv axis4)),(2,(iv before5)),(3,(iv after6)),(4,(iv gap7)),(5,(pt b8 0)),(10,(pt b9 0)),(43,(.bool (((((((!r10)||(decide (before5<(0:Int))))||(decide (before5>(4096:Int))))||(decide (after6<(0:Int))))||(decide (after6>(4096:Int))))||(decide (gap7<(0:Int))))||(decide (gap7>(4096:Int))))))] (bxl b9 [(.slice none 0 0),(.slice none 0 0)] 58::W1) ?_ ?_
 refine o_3 ?_
 refine lM (RR kT3 A2 D2 t1.Dims::RR kT3 A3 D3 t1.Data::bxl _ _ _::W1) (fun w s=>(((s.d 2 R).d 4 R).e 3 [1,0,2])) ?_
 refine lC 2 cb106 R (Z16_ok hx11) R ?_
 rintro _
 refine lN (_::W1) ?_
 refine o_2 ?_
 rcases bo (!r10) with hc12 | hc12
 refine o_24 ?_
 exact qj tI
 refine o_4 ?_
 rcases bo ((!r10)||(decide (before5<(0:Int)))) with hc13 | hc13
 refine o_20 ?_
 exact qj tI
 refine o_4 ?_
 rcases bo (((!r10)||(decide (before5<(0:Int))))||(decide (before5>(4096:Int)))) with hc14 | hc14
 refine o_16 ?_
 exact qj tI
 refine o_4 ?_
 rcases bo ((((!r10)||(decide (before5<(0:Int))))||(decide (before5>(4096:Int))))||(decide (after6<(0:Int)))) with hc15 | hc15
 refine o_12 ?_
 exact qj tI
 refine o_4 ?_
 rcases bo (((((!r10)||(decide (before5<(0:Int))))||(decide (before5>(4096:Int))))||(decide (after6<(0:Int))))||(decide (after6>(4096:Int)))) with hc16 | hc16
 refine o_8 ?_
 exact qj tI
 refine o_4 ?_
 rcases bo ((((((!r10)||(decide (before5<(0:Int))))||(decide (before5>(4096:Int))))||(decide (after6<(0:Int))))||(decide (after6>(4096:Int))))||(decide (gap7<(0:Int)))) with hc17 | hc17
 refine o_4 ?_
 exact qj tI
 refine o_4 ?_
 exact qj tI
 rintro σ1
 refine o_1 ?_
 rcases bif_ hr with ⟨_,hr⟩|⟨_,hr⟩
 refine o_3 ?_
 refine lO (vz (.agg [(.slice none 0 0),(.slice none 0 0)].toArray) (v_build pl58 zc58 R R)) (l_stores 0 R R sz58 R R R R R R (l_nil (q_next (c_ret (q_ret ?_)))))
 obtain rfl:=so hr
 exact qS ((none,0,0),(none,0,0)) (fun w s=>(((s.nilo kT3 3).nilo kT3 3).e 6 [1,0]))
 refine o_4 ?_
 obtain ⟨hg19,hr⟩:=gd hr
 refine o_4 ?_
 refine t_some 2 sees_rd (show 0<t1.Dims.length by have:=hg19; omega) (fun g20 o21 ha=>?_)
 subst ha
 refine o_6 ?_
 obtain ⟨r22,hx23,hr⟩:=bd hr
 refine o_14 ?_
 refine lM (RR kT3 (ad g20 o21) D2 t1.Dims::_::W1) (fun w s=>(s.d 2 R)) ?_
 refine lC 1 cb122 R (Z0c_ok hx23) R ?_
 rintro ⟨A24,N24,D24⟩
 refine lN (ow kT3 3 (.slice A24 N24 D24) r22::_::W1) ?_
 refine l_len 0 sees_ow ?_
 rintro rfl
 refine o_5 ?_
 obtain ⟨r25,hx26,hr⟩:=bd hr
 refine o_2 ?_
 refine lC 1 cb92 R (FnOk.lends (A':=[OO kT3 3 A24 D24 r22]) (A:=[RR kT3 A24 D24 r22]) (B:=[]) (Zk_ok hx26) ⟨lend_ow,trivial⟩ (fun _=>trivial)) R ?_
 rintro _
 refine o_3 ?_
 rcases bif_ hr with ⟨_,hr⟩|⟨_,hr⟩
 refine o_3 ?_
 refine lO (vz (.agg [(.slice none 0 0),(.slice none 0 0)].toArray) (v_build pl58 zc58 R R)) (l_stores 1 R R sz58 R R R R R R (l_nil (q_next (c_ret (q_ret ?_)))))
 obtain rfl:=so hr
 exact qS ((none,0,0),(none,0,0)) (fun w s=>(((s.nilo kT3 3).nilo kT3 3).e 7 [1,0]))
 refine o_4 ?_
 obtain ⟨r28,hx29,hr⟩:=bd hr
 refine o_2 ?_
 refine lC 1 cb93 R (FnOk.lends (A':=[OO kT3 3 A24 D24 r22]) (A:=[RR kT3 A24 D24 r22]) (B:=[]) (Z0b_ok hx29) ⟨lend_ow,trivial⟩ (fun _=>⟨(closed_ow cT3),(closed_ow cT3),trivial⟩)) R ?_
 rintro ⟨⟨A30,N30,D30⟩,⟨A31,N31,D31⟩⟩
 refine lN (_::ow kT3 3 (.slice A30 N30 D30) r28.Dims::ow kT3 3 (.slice A31 N31 D31) r28.Data::_::W1) ?_
 refine l_len 1 sees_ow ?_
 rintro rfl
 refine l_len 2 sees_ow ?_
 rintro rfl
 refine l_alloc R R zc58 (fun b32=>(l_stores 0 R R sz58 R R R R R R (lN (bxl b32 [(sc A30 r28.Dims D30),(sc A31 r28.Data D31)] 58::_::_::_::_::W1) ?_)))
 refine o_3 ?_
 refine c_cut (A:=((List Int))×(Unit)) (fun a=>Z0l_J1 r28 a.1=some r) (fun a=>[(10,(pt b9 0)),(13,(pt b32 0))]) (fun a=>bxl b9 [(.slice none 0 0),(.slice none 0 0)] 58::bxl b32 [(sc A30 r28.Dims D30),(sc A31 r28.Data D31)] 58::OO kT3 3 A30 D30 r28.Dims::ow kT3 3 (.slice A31 r28.Data.length D31) a.1::W1) ?_ ?_
 refine o_6 ?_
 obtain ⟨e1,hl1,hk1⟩:=bd hr
 refine c_loop (A:=Unit) hl1 (fun s a=>[(1,(iv axis4)),(2,(iv before5)),(4,(iv gap7)),(5,(pt b8 0)),(10,(pt b9 0)),(13,(pt b32 0)),(14,(iv s.2))]) (fun s a=>bxl b9 [(.slice none 0 0),(.slice none 0 0)] 58::bxl b32 [(sc A30 r28.Dims D30),(sc A31 r28.Data D31)] 58::OO kT3 3 A30 D30 r28.Dims::ow kT3 3 (.slice A31 r28.Data.length D31) s.1::W1) () (aS R) (tE 5 [4,0,2,3]) ?_
 rintro ⟨x48,i49⟩ _ σ1 out1 hr he1
 dsimp only [Z0l_L1] at hr
 refine o_10 ?_
 rcases bif_ hr with ⟨_,hr⟩|⟨_,hr⟩
 refine o_6 ?_
 obtain ⟨r51,hx52,hr⟩:=bd hr
 refine o_4 ?_
 refine lM (RR kT3 (ad g20 o21) D2 t1.Dims::_::_::_::ow kT3 3 (.slice A31 r28.Data.length D31) x48::W1) (fun w s=>(s.d 5 R)) ?_
 refine lC 1 cb102 R (Zf_ok hx52) R ?_
 rintro ⟨A53,N53,D53⟩
 refine lN (ow kT3 3 (.slice A53 N53 D53) r51::_::_::_::_::W1) ?_
 refine l_len 0 sees_ow ?_
 rintro rfl
 refine o_3 ?_
 obtain ⟨hg54,hr⟩:=gd hr
 obtain ⟨r57,hx58,hr⟩:=bd hr
 obtain ⟨hg60,hr⟩:=gd hr
 obtain ⟨r63,hx64,hr⟩:=bd hr
 refine c_some 0 sees_ow (show 0<r51.length by have:=hg54; omega) (fun g55 o56 ha=>?_)
 subst ha
 refine c_some 7 sees_rd (show 0<t1.Data.length by have:=hg60; omega) (fun g61 o62 ha=>?_)
 subst ha
 refine cdr 19 [4] mixo fun ht hn=>?_
 refine d12_ 0 [4] ?_
 refine d5_ 13 [4] ?_
 refine d1 12 R (lC 1 cb122 R (FnOk.lends (A':=[OO kT3 3 (ad g55 o56) D53 r51]) (A:=[RR kT3 (ad g55 o56) D53 r51]) (B:=[]) (Z0c_ok hx58) ⟨lend_ow,trivial⟩ (fun _=>⟨(closed_ow cT3),trivial⟩)) R ?_)
 rintro ⟨A59,N59,D59⟩
 refine lN (OO kT3 3 (ad g55 o56) D53 r51::ow kT3 3 (.slice A59 N59 D59) r57::_::_::_::_::W1) ?_
 refine l_len 1 sees_ow ?_
 rintro rfl
 refine l_nil (q_draw (sL [5,1]) (d1 18 R (lM (ow _ _ _ _::ow _ _ _ _::ow _ _ _ _::ow _ _ _ _::bxl _ _ _::bxl _ _ _::W1) (tE 6 [4,1,5,0,2,3]) ?_)))
 refine lC 3 cb123 R (FnOk.lends (A':=[OO kT3 3 A30 D30 r28.Dims,OO kT3 3 A59 D59 r57]) (A:=[RR kT3 A30 D30 r28.Dims,RR kT3 A59 D59 r57]) (B:=[ow kT3 3 (.slice A31 r28.Data.length D31) x48]) (FnOk.perm (Z1l_ok (t1:=(⟨r28.Dims,x48⟩:Tensor)) hx64) (Pre':=[RR kT3 A30 D30 r28.Dims,RR kT3 A59 D59 r57,ow kT3 3 (.slice A31 r28.Data.length D31) x48]) (fun _ _ _ s=>(s.e 3 [0,2,1]))) ⟨lend_ow,lend_ow,trivial⟩ (fun _=>⟨(closed_ow cT3),trivial⟩)) R ?_
 rintro _
 refine lN (_::_::ow kT3 3 (.slice A31 r28.Data.length D31) r63::_::_::_::W1) ?_
 refine l_nil (q_draw (tE 6 [3,4,5,0]) (dD ?_))
 refine o_7 ?_
 obtain rfl:=so hr
 exact qA () (tE 6 [4,5,0,2])
 refine o_3 ?_
 obtain rfl:=so hr
 obtain rfl:=he1 _ R
 have hr:=hk1
 refine o_2 ?_
 exact qI (x48,()) hr tI
 rintro ⟨x67,_⟩ σ1 hr
 dsimp only [Z0l_J1] at hr
 refine o_3 ?_
 refine l_stores 0 R R sz58 R R R R R R (lN (bxl b9 [(sc A30 r28.Dims D30),(sc A31 r28.Data D31)] 58::_::_::ow kT3 3 (.slice A31 r28.Data.length D31) x67::W1) ?_)
 refine o_3 ?_
 obtain rfl:=so hr
 exact qS ((A30,r28.Dims.length,D30),(A31,r28.Data.length,D31)) (tE 7 [2,3])
theorem Z0k_ok  {t1:Tensor}{axis4:Int}{index5:(List Int)}{r:Tensor}(hr:Z0k t1 axis4 index5=some r) :
 FnOk Tryz.prog 88 [(.agg [(.slice A2 N2 D2),(.slice A3 N3 D3)].toArray),(iv axis4),(.slice A6 N6 D6)] [rds kT3 (.slice A2 N2 D2) t1.Dims,rds kT3 (.slice A3 N3 D3) t1.Data,rds kT3 (.slice A6 N6 D6) index5] (fun (h:HH×HH)=>((.agg [(s3 h.1),(s3 h.2)].toArray),[ow kT3 3 (s3 h.1) r.Dims,ow kT3 3 (s3 h.2) r.Data])):=by
 unfold Z0k at hr
 refine fn_ok Tryz.func88 R 70 R R fun C V=>?_
 refine cN (_::_::_::V) ?_
 refine cL 0 sees_rd ?_
 rintro rfl
 refine cL 1 sees_rd ?_
 rintro rfl
 refine cL 2 sees_rd ?_
 rintro rfl
 let W0:List HP:=RR kT3 A2 D2 t1.Dims::RR kT3 A3 D3 t1.Data::RR kT3 A6 D6 index5::V
 refine cN W0 ?_
 refine o_2 ?_
 refine lBx R fun b7=>?_
 refine l_alloc R R zc58 (fun b8=>(l_nil ?_))
 let W1:List HP:=bxl b7 [(sc A2 t1.Dims D2),(sc A3 t1.Data D3)] 58::W0
 refine qN (_::W1) ?_
 refine o_3 ?_
 obtain ⟨r9,hx10,hr⟩:=bd hr
 obtain ⟨hg11,hr⟩:=gd hr
 obtain ⟨r14,hx15,hr⟩:=bd hr
 refine cQ [(1,(iv axis4)),(2,(sc A6 index5 D6)),(3,(pt b7 0)),(6,(pt b8 0)),(29,(.bool (((!r9)||((index5.length:Int)==(0:Int)))||(!r14))))] (bxl b8 [(.slice none 0 0),(.slice none 0 0)] 58::W1) ?_ ?_
 refine o_3 ?_
 refine lM (RR kT3 A2 D2 t1.Dims::RR kT3 A3 D3 t1.Data::bxl _ _ _::W1) (fun w s=>(((s.d 2 R).d 4 R).e 3 [1,0,2])) ?_
 refine lC 2 cb106 R (Z16_ok hx10) R ?_
 rintro _
 refine lN (_::W1) ?_
 refine o_2 ?_
 rcases bo (!r9) with hc16 | hc16
 refine o_15 ?_
 exact qj tI
 refine o_5 ?_
 rcases bo ((!r9)||((index5.length:Int)==(0:Int))) with hc17 | hc17
 refine o_10 ?_
 exact qj tI
 refine o_4 ?_
 refine t_some 2 sees_rd (show 0<t1.Dims.length by have:=(hg11 hc17); omega) (fun g12 o13 ha=>?_)
 subst ha
 refine lW (wnF hc17) (vIa sl23 sz3 R R (hg11 hc17)) (lW (wnF hc17) (vLi 2 ag3 sees_rd R (hg11 hc17)) (lM (RR kT3 A6 D6 index5::_::W1) (fun w s=>(s.d 4 R)) ?_))
 refine l_calln 1 R (wnF hc17) cb52 R (Z0d_ok (gcall_t hx15 (not_ff hc17))) R ?_
 rintro _
 refine lN (_::W1) ?_
 refine o_3 ?_
 exact qj tI
 rintro σ1
 refine o_1 ?_
 rcases bif_ hr with ⟨_,hr⟩|⟨_,hr⟩
 refine o_3 ?_
 refine lO (vz (.agg [(.slice none 0 0),(.slice none 0 0)].toArray) (v_build pl58 zc58 R R)) (l_stores 0 R R sz58 R R R R R R (l_nil (q_next (c_ret (q_ret ?_)))))
 obtain rfl:=so hr
 exact qS ((none,0,0),(none,0,0)) (fun w s=>(((s.nilo kT3 3).nilo kT3 3).e 7 [1,0]))
 refine o_4 ?_
 obtain ⟨r19,hx20,hr⟩:=bd hr
 refine o_6 ?_
 refine lM (RR kT3 A2 D2 t1.Dims::_::W1) (fun w s=>(s.d 2 R)) ?_
 refine lC 1 cb122 R (Z0c_ok hx20) R ?_
 rintro ⟨A21,N21,D21⟩
 refine lN (ow kT3 3 (.slice A21 N21 D21) r19::_::W1) ?_
 refine l_len 0 sees_ow ?_
 rintro rfl
 refine o_5 ?_
 obtain ⟨r22,hx23,hr⟩:=bd hr
 refine o_2 ?_
 refine lC 1 cb92 R (FnOk.lends (A':=[OO kT3 3 A21 D21 r19]) (A:=[RR kT3 A21 D21 r19]) (B:=[]) (Zk_ok hx23) ⟨lend_ow,trivial⟩ (fun _=>trivial)) R ?_
 rintro _
 refine o_3 ?_
 rcases bif_ hr with ⟨_,hr⟩|⟨_,hr⟩
 refine o_3 ?_
 refine lO (vz (.agg [(.slice none 0 0),(.slice none 0 0)].toArray) (v_build pl58 zc58 R R)) (l_stores 1 R R sz58 R R R R R R (l_nil (q_next (c_ret (q_ret ?_)))))
 obtain rfl:=so hr
 exact qS ((none,0,0),(none,0,0)) (fun w s=>(((s.nilo kT3 3).nilo kT3 3).e 8 [1,0]))
 refine o_4 ?_
 obtain ⟨r25,hx26,hr⟩:=bd hr
 refine o_2 ?_
 refine lC 1 cb93 R (FnOk.lends (A':=[OO kT3 3 A21 D21 r19]) (A:=[RR kT3 A21 D21 r19]) (B:=[]) (Z0b_ok hx26) ⟨lend_ow,trivial⟩ (fun _=>⟨(closed_ow cT3),(closed_ow cT3),trivial⟩)) R ?_
 rintro ⟨⟨A27,N27,D27⟩,⟨A28,N28,D28⟩⟩
 refine lN (_::ow kT3 3 (.slice A27 N27 D27) r25.Dims::ow kT3 3 (.slice A28 N28 D28) r25.Data::_::W1) ?_
 refine l_len 1 sees_ow ?_
 rintro rfl
 refine l_len 2 sees_ow ?_
 rintro rfl
 refine l_alloc R R zc58 (fun b29=>(l_stores 0 R R sz58 R R R R R R (lN (bxl b29 [(sc A27 r25.Dims D27),(sc A28 r25.Data D28)] 58::_::_::_::_::W1) ?_)))
 refine o_3 ?_
 refine c_cut (A:=((List Int))×(Unit)) (fun a=>Z0k_J1 r25 a.1=some r) (fun a=>[(6,(pt b8 0)),(8,(pt b29 0))]) (fun a=>bxl b8 [(.slice none 0 0),(.slice none 0 0)] 58::bxl b29 [(sc A27 r25.Dims D27),(sc A28 r25.Data D28)] 58::OO kT3 3 A27 D27 r25.Dims::ow kT3 3 (.slice A28 r25.Data.length D28) a.1::W1) ?_ ?_
 refine o_6 ?_
 obtain ⟨e1,hl1,hk1⟩:=bd hr
 refine c_loop (A:=Unit) hl1 (fun s a=>[(1,(iv axis4)),(2,(sc A6 index5 D6)),(3,(pt b7 0)),(6,(pt b8 0)),(7,(sc A21 r19 D21)),(8,(pt b29 0)),(9,(iv s.2))]) (fun s a=>bxl b8 [(.slice none 0 0),(.slice none 0 0)] 58::OO kT3 3 A21 D21 r19::bxl b29 [(sc A27 r25.Dims D27),(sc A28 r25.Data D28)] 58::OO kT3 3 A27 D27 r25.Dims::ow kT3 3 (.slice A28 r25.Data.length D28) s.1::W1) () (aS R) (tE 5 [4,1,0,2,3]) ?_
 rintro ⟨x48,i49⟩ _ σ1 out1 hr he1
 dsimp only [Z0k_L1] at hr
 refine o_10 ?_
 rcases bif_ hr with ⟨_,hr⟩|⟨_,hr⟩
 refine o_6 ?_
 obtain ⟨r51,hx52,hr⟩:=bd hr
 refine o_3 ?_
 refine lM (ow _ _ _ _::bxl _ _ _::bxl _ _ _::ow _ _ _ _::ow kT3 3 (.slice A28 r25.Data.length D28) x48::W1) (tE 5 [1,0,2,3,4]) ?_
 refine lC 1 cb102 R (FnOk.lends (A':=[OO kT3 3 A21 D21 r19]) (A:=[RR kT3 A21 D21 r19]) (B:=[]) (Zf_ok hx52) ⟨lend_ow,trivial⟩ (fun _=>⟨(closed_ow cT3),trivial⟩)) R ?_
 rintro ⟨A53,N53,D53⟩
 refine lN (_::ow kT3 3 (.slice A53 N53 D53) r51::_::_::_::_::W1) ?_
 refine l_len 1 sees_ow ?_
 rintro rfl
 refine o_3 ?_
 obtain ⟨hg54,hr⟩:=gd hr
 obtain ⟨hg57,hr⟩:=gd hr
 obtain ⟨r60,hx61,hr⟩:=bd hr
 obtain ⟨r63,hx64,hr⟩:=bd hr
 obtain ⟨hg65,hr⟩:=gd hr
 refine c_some 1 sees_ow (show 0<r51.length by have:=hg54; omega) (fun g55 o56 ha=>?_)
 subst ha
 refine c_some 9 sees_rd (show 0<index5.length by have:=hg57; omega) (fun g58 o59 ha=>?_)
 subst ha
 refine c_some 5 sees_ow (show 0<r25.Data.length by have:=hg65; omega) (fun g66 o67 ha=>?_)
 subst ha
 refine cdr 17 [5] mixo fun ht hn=>?_
 refine d13_ 0 [5] ?_
 refine d1 13 R (lM (OO kT3 3 (ad g55 o56) D53 r51::ow _ _ _ _::bxl _ _ _::bxl b29 [(sc A27 r25.Dims D27),(sc (ad g66 o67) r25.Data D28)] 58::ow _ _ _ _::ow kT3 3 (.slice (ad g66 o67) r25.Data.length D28) x48::W1) (tE 6 [1,0,2,3,4,5]) ?_)
 refine lC 1 cb122 R (FnOk.lends (A':=[OO kT3 3 (ad g55 o56) D53 r51]) (A:=[RR kT3 (ad g55 o56) D53 r51]) (B:=[]) (Z0c_ok hx61) ⟨lend_ow,trivial⟩ (fun _=>⟨(closed_ow cT3),trivial⟩)) R ?_
 rintro ⟨A62,N62,D62⟩
 refine lN (_::ow kT3 3 (.slice A62 N62 D62) r60::_::_::_::_::_::W1) ?_
 refine l_len 1 sees_ow ?_
 rintro rfl
 refine l_nil (q_draw (tE 7 [2,0,3,4,5]) (d1 14 R (lM (ow _ _ _ _::RR kT3 A2 D2 t1.Dims::RR kT3 A3 D3 t1.Data::ow _ _ _ _::ow _ _ _ _::bxl _ _ _::bxl _ _ _::ow _ _ _ _::ow _ _ _ _::W1) (fun w s=>(((s.d 8 R).d 10 R).e 9 [3,1,0,2,4,5,6,7,8])) ?_)))
 refine lC 3 cb112 R (FnOk.lends (A':=[OO kT3 3 A62 D62 r60]) (A:=[RR kT3 A62 D62 r60]) (B:=[RR kT3 A2 D2 t1.Dims,RR kT3 A3 D3 t1.Data]) (FnOk.perm (Z0w_ok hx64) (Pre':=[RR kT3 A62 D62 r60,RR kT3 A2 D2 t1.Dims,RR kT3 A3 D3 t1.Data]) (fun _ _ _ s=>(s.e 3 [1,2,0]))) ⟨lend_ow,trivial⟩ (fun _=>trivial)) R ?_
 rintro _
 refine lN (_::_::_::_::_::_::_::W1) ?_
 refine l_nil (q_draw (tE 7 [2,1,3,4,5]) (dR 15 R (vIa sl23 sz3 R R hg65) (hS:=(tE 7 [2,1,3,4,5])) (d1 16 R (lM (ow _ _ _ _::ow _ _ _ _::ow _ _ _ _::ow _ _ _ _::bxl _ _ _::bxl _ _ _::ow _ _ _ _::W1) (fun w s=>(s.f 7 [6,1,0,6])) ?_))))
 refine l_stx (K:=kT3) (x':=r63) 0 i49 R R sz3 R R hg65.1 hg65.2 ?_ ?_
 exact fun I h s=>(mO3).put I h () r63 s
 refine lN (ow kT3 3 (.slice (ad g66 o67) r25.Data.length D28) (x48.set i49.toNat r63)::_::_::_::_::_::_::W1) ?_
 refine l_nil (q_draw (tE 7 [3,2,4,5,6]) (dD ?_))
 refine o_7 ?_
 obtain rfl:=so hr
 exact qA () (tE 7 [4,3,5,6,0])
 refine o_3 ?_
 obtain rfl:=so hr
 obtain rfl:=he1 _ R
 have hr:=hk1
 refine o_2 ?_
 exact qI (x48,()) hr (tE 5 [0,2,3,4])
 rintro ⟨x70,_⟩ σ1 hr
 dsimp only [Z0k_J1] at hr
 refine o_3 ?_
 refine l_stores 0 R R sz58 R R R R R R (lN (bxl b8 [(sc A27 r25.Dims D27),(sc A28 r25.Data D28)] 58::bxl b29 [(sc A27 r25.Dims D27),(sc A28 r25.Data D28)] 58::_::ow kT3 3 (.slice A28 r25.Data.length D28) x70::W1) ?_)
 refine o_3 ?_
 obtain rfl:=so hr
 exact qS ((A27,r25.Dims.length,D27),(A28,r25.Data.length,D28)) (tE 8 [2,3])
theorem Z0m_ok  {t1:Tensor}{axis4:Int}{index5:(List Int)}{n7:Int}{r:Tensor}(hr:Z0m t1 axis4 index5 n7=some r) :
 FnOk Tryz.prog 89 [(.agg [(.slice A2 N2 D2),(.slice A3 N3 D3)].toArray),(iv axis4),(.slice A6 N6 D6),(iv n7)] [rds kT3 (.slice A2 N2 D2) t1.Dims,rds kT3 (.slice A3 N3 D3) t1.Data,rds kT3 (.slice A6 N6 D6) index5] (fun (h:HH×HH)=>((.agg [(s3 h.1),(s3 h.2)].toArray),[ow kT3 3 (s3 h.1) r.Dims,ow kT3 3 (s3 h.2) r.Data])):=by
 unfold Z0m at hr
 refine fn_ok Tryz.func89 R 80 R R fun C V=>?_
 refine cN (_::_::_::V) ?_
 refine cL 0 sees_rd ?_
 rintro rfl
 refine cL 1 sees_rd ?_
 rintro rfl
 refine cL 2 sees_rd ?_
 rintro rfl
 let W0:List HP:=RR kT3 A2 D2 t1.Dims::RR kT3 A3 D3 t1.Data::RR kT3 A6 D6 index5::V
 refine cN W0 ?_
 refine o_2 ?_
 refine lBx R fun b8=>?_
 refine l_alloc R R zc58 (fun b9=>(l_nil ?_))
 let W1:List HP:=bxl b8 [(sc A2 t1.Dims D2),(sc A3 t1.Data D3)] 58::W0
 refine qN (_::W1) ?_
 refine o_3 ?_
 obtain ⟨r10,hx11,hr⟩:=bd hr
 obtain ⟨hg12,hr⟩:=gd hr
 obtain ⟨r15,hx16,hr⟩:=bd hr
 refine cQ [(1,(iv axis4)),(2,(sc A6 index5 D6)),(3,(iv n7)),(4,(pt b8 0)),(8,(pt b9 0)),(33,(.bool (((!r10)||((index5.length:Int) != (ix t1.Dims axis4)))||(!r15))))] (bxl b9 [(.slice none 0 0),(.slice none 0 0)] 58::W1) ?_ ?_
 refine o_3 ?_
 refine lM (RR kT3 A2 D2 t1.Dims::RR kT3 A3 D3 t1.Data::bxl _ _ _::W1) (fun w s=>(((s.d 2 R).d 4 R).e 3 [1,0,2])) ?_
 refine lC 2 cb106 R (Z16_ok hx11) R ?_
 rintro _
 refine lN (_::W1) ?_
 refine o_2 ?_
 rcases bo (!r10) with hc17 | hc17
 refine o_16 ?_
 exact qj tI
 refine o_5 ?_
 refine t_some 2 sees_rd (show 0<t1.Dims.length by have:=(hg12 hc17); omega) (fun g13 o14 ha=>?_)
 subst ha
 refine lW (wnF hc17) (vIa sl23 sz3 R R (hg12 hc17)) (lW (wnF hc17) (vLi 2 ag3 sees_rd R (hg12 hc17)) ?_)
 refine o_3 ?_
 rcases bo ((!r10)||((index5.length:Int) != (ix t1.Dims axis4))) with hc18 | hc18
 refine o_6 ?_
 exact qj tI
 refine o_2 ?_
 refine lM (RR kT3 A6 D6 index5::_::W1) (fun w s=>(s.d 4 R)) ?_
 refine l_calln 1 R (wnF hc18) cb52 R (Z0d_ok (gcall_t hx16 (not_ff hc18))) R ?_
 rintro _
 refine lN (_::W1) ?_
 refine o_3 ?_
 exact qj tI
 rintro σ1
 refine o_1 ?_
 rcases bif_ hr with ⟨_,hr⟩|⟨_,hr⟩
 refine o_3 ?_
 refine lO (vz (.agg [(.slice none 0 0),(.slice none 0 0)].toArray) (v_build pl58 zc58 R R)) (l_stores 0 R R sz58 R R R R R R (l_nil (q_next (c_ret (q_ret ?_)))))
 obtain rfl:=so hr
 exact qS ((none,0,0),(none,0,0)) (fun w s=>(((s.nilo kT3 3).nilo kT3 3).e 7 [1,0]))
 refine o_4 ?_
 obtain ⟨r20,hx21,hr⟩:=bd hr
 refine o_5 ?_
 refine lM (RR kT3 A2 D2 t1.Dims::_::W1) (fun w s=>(s.d 2 R)) ?_
 refine lC 1 cb122 R (Z0c_ok hx21) R ?_
 rintro ⟨A22,N22,D22⟩
 refine lN (ow kT3 3 (.slice A22 N22 D22) r20::_::W1) ?_
 refine l_len 0 sees_ow ?_
 rintro rfl
 refine o_5 ?_
 obtain ⟨r23,hx24,hr⟩:=bd hr
 refine o_2 ?_
 refine lC 1 cb92 R (FnOk.lends (A':=[OO kT3 3 A22 D22 r20]) (A:=[RR kT3 A22 D22 r20]) (B:=[]) (Zk_ok hx24) ⟨lend_ow,trivial⟩ (fun _=>trivial)) R ?_
 rintro _
 refine o_3 ?_
 rcases bif_ hr with ⟨_,hr⟩|⟨_,hr⟩
 refine o_3 ?_
 refine lO (vz (.agg [(.slice none 0 0),(.slice none 0 0)].toArray) (v_build pl58 zc58 R R)) (l_stores 1 R R sz58 R R R R R R (l_nil (q_next (c_ret (q_ret ?_)))))
 obtain rfl:=so hr
 exact qS ((none,0,0),(none,0,0)) (fun w s=>(((s.nilo kT3 3).nilo kT3 3).e 8 [1,0]))
 refine o_4 ?_
 obtain ⟨r26,hx27,hr⟩:=bd hr
 refine o_2 ?_
 refine lC 1 cb93 R (FnOk.lends (A':=[OO kT3 3 A22 D22 r20]) (A:=[RR kT3 A22 D22 r20]) (B:=[]) (Z0b_ok hx27) ⟨lend_ow,trivial⟩ (fun _=>⟨(closed_ow cT3),(closed_ow cT3),trivial⟩)) R ?_
 rintro ⟨⟨A28,N28,D28⟩,⟨A29,N29,D29⟩⟩
 refine lN (_::ow kT3 3 (.slice A28 N28 D28) r26.Dims::ow kT3 3 (.slice A29 N29 D29) r26.Data::_::W1) ?_
 refine l_len 1 sees_ow ?_
 rintro rfl
 refine l_len 2 sees_ow ?_
 rintro rfl
 refine l_alloc R R zc58 (fun b30=>(l_stores 0 R R sz58 R R R R R R (lN (bxl b30 [(sc A28 r26.Dims D28),(sc A29 r26.Data D29)] 58::_::_::_::_::W1) ?_)))
 refine o_3 ?_
 refine c_cut (A:=((List Int))×(Unit)) (fun a=>Z0m_J1 r26 a.1=some r) (fun a=>[(8,(pt b9 0)),(10,(pt b30 0))]) (fun a=>bxl b9 [(.slice none 0 0),(.slice none 0 0)] 58::bxl b30 [(sc A28 r26.Dims D28),(sc A29 r26.Data D29)] 58::OO kT3 3 A28 D28 r26.Dims::ow kT3 3 (.slice A29 r26.Data.length D29) a.1::W1) ?_ ?_
 refine o_6 ?_
 obtain ⟨e1,hl1,hk1⟩:=bd hr
 refine c_loop (A:=Unit) hl1 (fun s a=>[(1,(iv axis4)),(2,(sc A6 index5 D6)),(4,(pt b8 0)),(8,(pt b9 0)),(10,(pt b30 0)),(11,(iv s.2))]) (fun s a=>bxl b9 [(.slice none 0 0),(.slice none 0 0)] 58::bxl b30 [(sc A28 r26.Dims D28),(sc A29 r26.Data D29)] 58::OO kT3 3 A28 D28 r26.Dims::ow kT3 3 (.slice A29 r26.Data.length D29) s.1::W1) () (aS R) (tE 5 [4,0,2,3]) ?_
 rintro ⟨x53,i54⟩ _ σ1 out1 hr he1
 dsimp only [Z0m_L1] at hr
 refine o_10 ?_
 rcases bif_ hr with ⟨_,hr⟩|⟨_,hr⟩
 refine o_6 ?_
 obtain ⟨r56,hx57,hr⟩:=bd hr
 refine o_4 ?_
 refine lM (RR kT3 A2 D2 t1.Dims::_::_::_::ow kT3 3 (.slice A29 r26.Data.length D29) x53::W1) (fun w s=>(s.d 5 R)) ?_
 refine lC 1 cb102 R (Zf_ok hx57) R ?_
 rintro ⟨A58,N58,D58⟩
 refine lN (ow kT3 3 (.slice A58 N58 D58) r56::_::_::_::_::W1) ?_
 refine l_len 0 sees_ow ?_
 rintro rfl
 refine o_4 ?_
 obtain ⟨hg59,hr⟩:=gd hr
 obtain ⟨hg62,hr⟩:=gd hr
 obtain ⟨r65,hx66,hr⟩:=bd hr
 refine o_6 ?_
 refine t_some 0 sees_ow (show 0<r56.length by have:=hg59; omega) (fun g60 o61 ha=>?_)
 subst ha
 refine o_2 ?_
 refine t_some 8 sees_rd (show 0<index5.length by have:=hg62; omega) (fun g63 o64 ha=>?_)
 subst ha
 refine o_2 ?_
 refine lC 1 cb122 R (FnOk.lends (A':=[OO kT3 3 (ad g60 o61) D58 r56]) (A:=[RR kT3 (ad g60 o61) D58 r56]) (B:=[]) (Z0c_ok hx66) ⟨lend_ow,trivial⟩ (fun _=>⟨(closed_ow cT3),trivial⟩)) R ?_
 rintro ⟨A67,N67,D67⟩
 refine lN (OO kT3 3 (ad g60 o61) D58 r56::ow kT3 3 (.slice A67 N67 D67) r65::_::_::_::_::W1) ?_
 refine l_len 1 sees_ow ?_
 rintro rfl
 refine o_3 ?_
 obtain ⟨r68,hx69,hr⟩:=bd hr
 obtain ⟨hg70,hr⟩:=gd hr
 obtain ⟨r73,hx74,hr⟩:=bd hr
 obtain ⟨r75,hx76,hr⟩:=bd hr
 refine c_some 8 sees_rd (show 0<t1.Data.length by have:=hg70; omega) (fun g71 o72 ha=>?_)
 subst ha
 refine cdr 12 [5] mixo fun ht hn=>?_
 refine d4_ 0 [5] ?_
 refine d5_ 5 [5] ?_
 refine d1 4 R (lM (ow _ _ _ _::ow _ _ _ _::ow _ _ _ _::ow _ _ _ _::bxl _ _ _::bxl _ _ _::W1) (tE 6 [4,5,1,0,2,3]) ?_)
 refine lC 3 cb112 R (FnOk.lends (A':=[OO kT3 3 A28 D28 r26.Dims,ow kT3 3 (.slice A29 r26.Data.length D29) x53,OO kT3 3 A67 D67 r65]) (A:=[RR kT3 A28 D28 r26.Dims,rds kT3 (.slice A29 r26.Data.length D29) x53,RR kT3 A67 D67 r65]) (B:=[]) (Z0w_ok (t1:=(⟨r26.Dims,x53⟩:Tensor)) hx69) ⟨lend_ow,lend_ow,lend_ow,trivial⟩ (fun _=>trivial)) R ?_
 rintro _
 refine l_nil (q_draw (tE 6 [3,2,4,5,0]) (d1 10 R (lC 0 cb115 R (Z1c_ok hx74) R ?_)))
 rintro _
 refine l_nil (q_draw (tE 6 [3,2,4,5,0]) (d1 11 R (lM (ow _ _ _ _::ow _ _ _ _::ow _ _ _ _::ow _ _ _ _::bxl _ _ _::bxl _ _ _::W1) (tE 6 [0,2,1,3,4,5]) ?_)))
 refine lC 3 cb123 R (FnOk.lends (A':=[OO kT3 3 A28 D28 r26.Dims,OO kT3 3 A67 D67 r65]) (A:=[RR kT3 A28 D28 r26.Dims,RR kT3 A67 D67 r65]) (B:=[ow kT3 3 (.slice A29 r26.Data.length D29) x53]) (FnOk.perm (Z1l_ok (t1:=(⟨r26.Dims,x53⟩:Tensor)) hx76) (Pre':=[RR kT3 A28 D28 r26.Dims,RR kT3 A67 D67 r65,ow kT3 3 (.slice A29 r26.Data.length D29) x53]) (fun _ _ _ s=>(s.e 3 [0,2,1]))) ⟨lend_ow,lend_ow,trivial⟩ (fun _=>⟨(closed_ow cT3),trivial⟩)) R ?_
 rintro _
 refine lN (_::_::ow kT3 3 (.slice A29 r26.Data.length D29) r75::_::_::_::W1) ?_
 refine l_nil (q_draw (tE 6 [3,1,4,5,0]) (dD ?_))
 refine o_7 ?_
 obtain rfl:=so hr
 exact qA () (tE 6 [4,5,0,2])
 refine o_3 ?_
 obtain rfl:=so hr
 obtain rfl:=he1 _ R
 have hr:=hk1
 refine o_2 ?_
 exact qI (x53,()) hr tI
 rintro ⟨x79,_⟩ σ1 hr
 dsimp only [Z0m_J1] at hr
 refine o_3 ?_
 refine l_stores 0 R R sz58 R R R R R R (lN (bxl b9 [(sc A28 r26.Dims D28),(sc A29 r26.Data D29)] 58::_::_::ow kT3 3 (.slice A29 r26.Data.length D29) x79::W1) ?_)
 refine o_3 ?_
 obtain rfl:=so hr
 exact qS ((A28,r26.Dims.length,D28),(A29,r26.Data.length,D29)) (tE 8 [2,3])
theorem Z0f_ok  {v1:View}{axis4:Int}{size5:Int}{step6:Int}{r:View}(hr:Z0f v1 axis4 size5 step6=some r) :
 FnOk Tryz.prog 90 [(.agg [(.slice A2 N2 D2),(.slice A3 N3 D3),(iv v1.Offset),(iv v1.Base)].toArray),(iv axis4),(iv size5),(iv step6)] [rds kT3 (.slice A2 N2 D2) v1.Dims,rds kT3 (.slice A3 N3 D3) v1.Strides] (fun (h:HH×HH)=>((.agg [(s3 h.1),(s3 h.2),(iv r.Offset),(iv r.Base)].toArray),[rds kT3 (s3 h.1) r.Dims,rds kT3 (s3 h.2) r.Strides])):=by
 unfold Z0f at hr
 refine fn_ok Tryz.func90 R 85 R R fun C V=>?_
 refine cN (_::_::V) ?_
 refine cL 0 sees_rd ?_
 rintro rfl
 refine cL 1 sees_rd ?_
 rintro rfl
 let W0:List HP:=RR kT3 A2 D2 v1.Dims::RR kT3 A3 D3 v1.Strides::V
 refine cN W0 ?_
 refine o_2 ?_
 refine lBx R fun b7=>?_
 refine l_alloc R R zc96 (fun b8=>(l_nil ?_))
 let W1:List HP:=bxl b7 [(sc A2 v1.Dims D2),(sc A3 v1.Strides D3),(iv v1.Offset),(iv v1.Base)] 96::W0
 refine qN (_::W1) ?_
 refine o_3 ?_
 obtain ⟨r9,hx10,hr⟩:=bd hr
 obtain ⟨hg11,hr⟩:=gd hr
 refine cQ [(1,(iv axis4)),(2,(iv size5)),(3,(iv step6)),(4,(pt b7 0)),(8,(pt b8 0)),(32,(.bool ((((!r9)||(decide (size5<(1:Int))))||(decide (step6<(1:Int))))||(decide (size5>(ix v1.Dims axis4))))))] (bxl b8 [(.slice none 0 0),(.slice none 0 0),(iv 0),(iv 0)] 96::W1) ?_ ?_
 refine o_3 ?_
 refine lM (RR kT3 A2 D2 v1.Dims::RR kT3 A3 D3 v1.Strides::bxl _ _ _::W1) (fun w s=>(((s.d 2 R).d 4 R).e 3 [1,0,2])) ?_
 refine lC 2 cb119 R (Z1x_ok hx10) R ?_
 rintro _
 refine lN (_::W1) ?_
 refine o_2 ?_
 rcases bo (!r9) with hc14 | hc14
 refine o_17 ?_
 exact qj tI
 refine o_4 ?_
 rcases bo ((!r9)||(decide (size5<(1:Int)))) with hc15 | hc15
 refine o_13 ?_
 exact qj tI
 refine o_4 ?_
 rcases bo (((!r9)||(decide (size5<(1:Int))))||(decide (step6<(1:Int)))) with hc16 | hc16
 refine o_9 ?_
 exact qj tI
 refine o_4 ?_
 refine t_some 2 sees_rd (show 0<v1.Dims.length by have:=(hg11 hc16); omega) (fun g12 o13 ha=>?_)
 subst ha
 refine lW (wnF hc16) (vIa sl23 sz3 R R (hg11 hc16)) (lW (wnF hc16) (vLi 2 ag3 sees_rd R (hg11 hc16)) ?_)
 refine o_3 ?_
 exact qj tI
 rintro σ1
 refine o_1 ?_
 rcases bif_ hr with ⟨_,hr⟩|⟨_,hr⟩
 refine o_3 ?_
 refine lO (vz (.agg [(.slice none 0 0),(.slice none 0 0),(iv 0),(iv 0)].toArray) (v_build pl96 zc96 R R)) (l_stores 0 R R sz96 R R R R R R (l_nil (q_next (c_ret (q_ret ?_)))))
 obtain rfl:=so hr
 exact qS ((none,0,0),(none,0,0)) (fun w s=>(((s.nilr kT3).nilr kT3).e 6 [1,0]))
 refine o_4 ?_
 obtain ⟨r18,hx19,hr⟩:=bd hr
 refine o_2 ?_
 refine lM (RR kT3 A2 D2 v1.Dims::RR kT3 A3 D3 v1.Strides::bxl _ _ _::W1) (fun w s=>(((s.d 2 R).d 4 R).e 3 [1,0,2])) ?_
 refine lC 2 cb120 R (Z1z_ok hx19) R ?_
 rintro ⟨⟨A20,N20,D20⟩,⟨A21,N21,D21⟩⟩
 refine lN (ow kT3 3 (.slice A20 N20 D20) r18.Dims::ow kT3 3 (.slice A21 N21 D21) r18.Strides::_::W1) ?_
 refine l_len 0 sees_ow ?_
 rintro rfl
 refine l_len 1 sees_ow ?_
 rintro rfl
 refine l_alloc R R zc96 (fun b22=>(l_stores 0 R R sz96 R R R R R R (lN (bxl b22 [(sc A20 r18.Dims D20),(sc A21 r18.Strides D21),(iv r18.Offset),(iv r18.Base)] 96::_::_::_::W1) ?_)))
 refine o_3 ?_
 obtain ⟨hg23,hr⟩:=gd hr
 obtain ⟨hg26,hr⟩:=gd hr
 refine o_4 ?_
 refine t_some 5 sees_rd (show 0<v1.Dims.length by have:=hg23; omega) (fun g24 o25 ha=>?_)
 subst ha
 refine o_5 ?_
 refine lO (vz (iv (w64 ((w64 ((ix v1.Dims axis4) - size5)).tdiv step6))) (v_quo R R hg26)) ?_
 refine o_5 ?_
 obtain ⟨hg27,hr⟩:=gd hr
 refine o_4 ?_
 refine t_some 6 sees_rd (show 0<v1.Strides.length by have:=hg27; omega) (fun g28 o29 ha=>?_)
 subst ha
 refine o_6 ?_
 obtain ⟨hg30,hr⟩:=gd hr
 refine o_5 ?_
 refine t_some 1 sees_ow (show 0<r18.Dims.length by have:=hg30; omega) (fun g31 o32 ha=>?_)
 subst ha
 refine o_1 ?_
 refine lM (OO kT3 3 (ad g31 o32) D20 r18.Dims::bxl b22 [(sc (ad g31 o32) r18.Dims D20),(sc A21 r18.Strides D21),(iv r18.Offset),(iv r18.Base)] 96::ow _ _ _ _::bxl _ _ _::W1) (tE 4 [1,0,2,3]) ?_
 refine l_stx (K:=kT3) (x':=(w64 ((w64 ((w64 ((ix v1.Dims axis4) - size5)).tdiv step6))+(1:Int)))) 0 axis4 R R sz3 R R hg30.1 hg30.2 ?_ ?_
 exact fun I h s=>(mO3).put I h () (w64 ((w64 ((w64 ((ix v1.Dims axis4) - size5)).tdiv step6))+(1:Int))) s
 refine lN (ow kT3 3 (.slice (ad g31 o32) r18.Dims.length D20) (r18.Dims.set axis4.toNat (w64 ((w64 ((w64 ((ix v1.Dims axis4) - size5)).tdiv step6))+(1:Int))))::_::_::_::W1) ?_
 refine o_1 ?_
 obtain ⟨l33,hl34,hr⟩:=bd hr
 replace hl34:=Option.some.inj hl34
 refine qM (ow kT3 3 (.slice (ad g31 o32) r18.Dims.length D20) l33::_::_::_::W1) (fun w s=>by rw [← hl34]; exact s) ?_
 refine o_2 ?_
 obtain ⟨hg35,hr⟩:=gd hr
 refine o_4 ?_
 refine t_some 2 sees_ow (show 0<r18.Strides.length by have:=hg35; omega) (fun g36 o37 ha=>?_)
 subst ha
 refine o_1 ?_
 refine lM (OO kT3 3 (ad g36 o37) D21 r18.Strides::ow _ _ _ _::bxl b22 [(sc (ad g31 o32) r18.Dims D20),(sc (ad g36 o37) r18.Strides D21),(iv r18.Offset),(iv r18.Base)] 96::bxl _ _ _::W1) (tE 4 [2,0,1,3]) ?_
 refine l_stx (K:=kT3) (x':=(0:Int)) 0 axis4 R R sz3 R R hg35.1 hg35.2 ?_ ?_
 exact fun I h s=>(mO3).put I h () (0:Int) s
 refine lN (ow kT3 3 (.slice (ad g36 o37) r18.Strides.length D21) (r18.Strides.set axis4.toNat (0:Int))::_::_::_::W1) ?_
 refine o_3 ?_
 refine c_cut (A:=((List Int))×(Unit)) (fun a=>Z0f_J1 v1 axis4 size5 r18 l33 a.1=some r) (fun a=>[(2,(iv size5)),(8,(pt b8 0)),(9,(pt b22 0)),(11,(iv (ix v1.Strides axis4)))]) (fun a=>bxl b8 [(.slice none 0 0),(.slice none 0 0),(iv 0),(iv 0)] 96::bxl b22 [(sc (ad g31 o32) r18.Dims D20),(sc (ad g36 o37) r18.Strides D21),(iv r18.Offset),(iv r18.Base)] 96::ow kT3 3 (.slice (ad g31 o32) r18.Dims.length D20) l33::ow kT3 3 (.slice (ad g36 o37) r18.Strides.length D21) a.1::W1) ?_ ?_
 refine o_6 ?_
 rcases bif_ hr with ⟨_,hr⟩|⟨_,hr⟩
 refine o_9 ?_
 refine l_stx (K:=kT3) (x':=(w64 ((ix v1.Strides axis4)*step6))) 0 axis4 R R sz3 R R hg35.1 hg35.2 ?_ ?_
 exact fun I h s=>(mO3).put I h () (w64 ((ix v1.Strides axis4)*step6)) s
 refine lN (ow kT3 3 (.slice (ad g36 o37) r18.Strides.length D21) ((r18.Strides.set axis4.toNat (0:Int)).set axis4.toNat (w64 ((ix v1.Strides axis4)*step6)))::_::_::_::W1) ?_
 refine o_1 ?_
 obtain ⟨l39,hl40,hr⟩:=bd hr
 replace hl40:=Option.some.inj hl40
 refine qM (ow kT3 3 (.slice (ad g36 o37) r18.Strides.length D21) l39::_::_::_::W1) (fun w s=>by rw [← hl40]; exact s) ?_
 exact qI (l39,()) hr (tE 4 [3,2,1,0])
 refine o_2 ?_
 exact qI ((r18.Strides.set axis4.toNat (0:Int)),()) hr (tE 4 [3,2,1,0])
 rintro ⟨x41,_⟩ σ1 hr
 dsimp only [Z0f_J1] at hr
 refine o_1 ?_
 obtain ⟨hg43,hr⟩:=gd hr
 refine o_4 ?_
 refine l_build (K:=kT3) (xs:=([size5]:List Int)) (vs:=[(iv size5)]) 0 R R sl23 sz3 zc3 R R R R R R ?_ R (fun A42 D42=>?_)
 exact fun I h s=>(mO3).list [((),size5)] I h s
 refine lN (OO kT3 3 A42 D42 ([size5]:List Int)::_::_::_::ow kT3 3 (.slice (ad g36 o37) r18.Strides.length D21) x41::W1) ?_
 refine lM (ow _ _ _ _::ow _ _ _ _::bxl _ _ _::bxl _ _ _::ow _ _ _ _::W1) (tE 5 [3,0,1,2,4]) ?_
 refine l_app (K:=kT3) 17592186044416 R R sl23 sz3 by3 (Zr.zk zT3 zc3) R R R R R R src_ow hg43 (fun A44 D44=>(lN (OO kT3 3 A44 D44 (l33++([size5]:List Int))::_::_::_::W1) ?_))
 refine o_1 ?_
 refine l_store 2 R R sz23 R R R R R (lN (_::_::bxl b22 [(sc A44 (l33++([size5]:List Int)) D44),(sc (ad g36 o37) r18.Strides D21),(iv r18.Offset),(iv r18.Base)] 96::_::W1) ?_)
 refine o_3 ?_
 refine c_cut (A:=(Int)×(Unit)) (fun a=>Z0f_J2 size5 r18 l33 x41 a.1=some r) (fun a=>[(8,(pt b8 0)),(9,(pt b22 0)),(11,(iv a.1))]) (fun a=>bxl b8 [(.slice none 0 0),(.slice none 0 0),(iv 0),(iv 0)] 96::bxl b22 [(sc A44 (l33++([size5]:List Int)) D44),(sc (ad g36 o37) r18.Strides D21),(iv r18.Offset),(iv r18.Base)] 96::OO kT3 3 A44 D44 (l33++([size5]:List Int))::ow kT3 3 (.slice (ad g36 o37) r18.Strides.length D21) x41::W1) ?_ ?_
 refine o_6 ?_
 rcases bif_ hr with ⟨_,hr⟩|⟨_,hr⟩
 refine o_4 ?_
 exact qI ((0:Int),()) hr (tE 4 [1,2,0,3])
 refine o_2 ?_
 exact qI ((ix v1.Strides axis4),()) hr (tE 4 [1,2,0,3])
 rintro ⟨x46,_⟩ σ1 hr
 dsimp only [Z0f_J2] at hr
 refine o_1 ?_
 obtain ⟨hg48,hr⟩:=gd hr
 refine o_4 ?_
 refine l_build (K:=kT3) (xs:=([x46]:List Int)) (vs:=[(iv x46)]) 0 R R sl23 sz3 zc3 R R R R R R ?_ R (fun A47 D47=>?_)
 exact fun I h s=>(mO3).list [((),x46)] I h s
 refine lN (OO kT3 3 A47 D47 ([x46]:List Int)::_::_::_::_::W1) ?_
 refine lM (ow _ _ _ _::ow _ _ _ _::bxl _ _ _::bxl _ _ _::ow _ _ _ _::W1) (fun w s=>(s.f 5 [4,1,0,4])) ?_
 refine l_app (K:=kT3) 17592186044416 R R sl23 sz3 by3 (Zr.zk zT3 zc3) R R R R R R src_ow hg48 (fun A49 D49=>(lN (OO kT3 3 A49 D49 (x41++([x46]:List Int))::_::_::_::W1) ?_))
 refine o_1 ?_
 refine l_store 2 R R sz23 R R R R R (lN (_::_::bxl b22 [(sc A44 (l33++([size5]:List Int)) D44),(sc A49 (x41++([x46]:List Int)) D49),(iv r18.Offset),(iv r18.Base)] 96::_::W1) ?_)
 refine o_3 ?_
 obtain ⟨r50,hx51,hr⟩:=bd hr
 refine o_2 ?_
 refine l_st (fun w s=>s.shr 3 R) (l_st (fun w s=>s.shr 1 R) (lM (RR kT3 A44 D44 (l33++([size5]:List Int))::RR kT3 A49 D49 (x41++([x46]:List Int))::RR kT3 A49 D49 (x41++([x46]:List Int))::RR kT3 A44 D44 (l33++([size5]:List Int))::bxl _ _ _::bxl _ _ _::W1) (fun w s=>(((s.d 1 R).d 1 R).e 6 [1,0,2,3,4,5])) ?_))
 refine lC 2 cb121 R (Z20_ok (v1:=(⟨(l33++([size5]:List Int)),(x41++([x46]:List Int)),r18.Offset,r18.Base⟩:View)) hx51) R ?_
 rintro ⟨⟨A52,N52,D52⟩,⟨A53,N53,D53⟩⟩
 refine lN (rds kT3 (.slice A52 N52 D52) r50.Dims::rds kT3 (.slice A53 N53 D53) r50.Strides::_::_::_::_::W1) ?_
 refine l_len 0 sees_rd ?_
 rintro rfl
 refine l_len 1 sees_rd ?_
 rintro rfl
 refine l_stores 4 R R sz96 R R R R R R (lN (_::_::_::_::bxl b8 [(sc A52 r50.Dims D52),(sc A53 r50.Strides D53),(iv r50.Offset),(iv r50.Base)] 96::_::W1) ?_)
 refine o_3 ?_
 obtain rfl:=so hr
 exact qS ((A52,r50.Dims.length,D52),(A53,r50.Strides.length,D53)) (tE 9 [0,1])
theorem Z0j_ok  {t1:Tensor}{axis4:Int}{step5:Int}{n6:Int}{r:Tensor}(hr:Z0j t1 axis4 step5 n6=some r) :
 FnOk Tryz.prog 91 [(.agg [(.slice A2 N2 D2),(.slice A3 N3 D3)].toArray),(iv axis4),(iv step5),(iv n6)] [rds kT3 (.slice A2 N2 D2) t1.Dims,rds kT3 (.slice A3 N3 D3) t1.Data] (fun (h:HH×HH)=>((.agg [(s3 h.1),(s3 h.2)].toArray),[ow kT3 3 (s3 h.1) r.Dims,ow kT3 3 (s3 h.2) r.Data])):=by
 unfold Z0j at hr
 refine fn_ok Tryz.func91 R 118 R R fun C V=>?_
 refine cN (_::_::V) ?_
 refine cL 0 sees_rd ?_
 rintro rfl
 refine cL 1 sees_rd ?_
 rintro rfl
 let W0:List HP:=RR kT3 A2 D2 t1.Dims::RR kT3 A3 D3 t1.Data::V
 refine cN W0 ?_
 refine o_2 ?_
 refine lBx R fun b7=>?_
 refine l_alloc R R zc58 (fun b8=>(l_nil ?_))
 let W1:List HP:=bxl b7 [(sc A2 t1.Dims D2),(sc A3 t1.Data D3)] 58::W0
 refine qN (_::W1) ?_
 refine o_12 ?_
 obtain ⟨r9,hx10,hr⟩:=bd hr
 refine cQ [(1,(iv axis4)),(2,(iv step5)),(3,(iv n6)),(4,(pt b7 0)),(8,(pt b8 0)),(9,(iv (w64 ((t1.Dims.length:Int) - (1:Int))))),(40,(.bool (((((!r9)||(axis4==(w64 ((t1.Dims.length:Int) - (1:Int)))))||(decide (step5<(1:Int))))||(decide (n6<(1:Int))))||(decide (n6>(4096:Int))))))] (bxl b8 [(.slice none 0 0),(.slice none 0 0)] 58::W1) ?_ ?_
 refine o_3 ?_
 refine lM (RR kT3 A2 D2 t1.Dims::RR kT3 A3 D3 t1.Data::bxl _ _ _::W1) (fun w s=>(((s.d 2 R).d 4 R).e 3 [1,0,2])) ?_
 refine lC 2 cb106 R (Z16_ok hx10) R ?_
 rintro _
 refine lN (_::W1) ?_
 refine o_2 ?_
 rcases bo (!r9) with hc11 | hc11
 refine o_17 ?_
 exact qj tI
 refine o_5 ?_
 rcases bo ((!r9)||(axis4==(w64 ((t1.Dims.length:Int) - (1:Int))))) with hc12 | hc12
 refine o_12 ?_
 exact qj tI
 refine o_4 ?_
 rcases bo (((!r9)||(axis4==(w64 ((t1.Dims.length:Int) - (1:Int)))))||(decide (step5<(1:Int)))) with hc13 | hc13
 refine o_8 ?_
 exact qj tI
 refine o_4 ?_
 rcases bo ((((!r9)||(axis4==(w64 ((t1.Dims.length:Int) - (1:Int)))))||(decide (step5<(1:Int))))||(decide (n6<(1:Int)))) with hc14 | hc14
 refine o_4 ?_
 exact qj tI
 refine o_4 ?_
 exact qj tI
 rintro σ1
 refine o_1 ?_
 rcases bif_ hr with ⟨_,hr⟩|⟨_,hr⟩
 refine o_3 ?_
 refine lO (vz (.agg [(.slice none 0 0),(.slice none 0 0)].toArray) (v_build pl58 zc58 R R)) (l_stores 0 R R sz58 R R R R R R (l_nil (q_next (c_ret (q_ret ?_)))))
 obtain rfl:=so hr
 exact qS ((none,0,0),(none,0,0)) (fun w s=>(((s.nilo kT3 3).nilo kT3 3).e 6 [1,0]))
 refine o_4 ?_
 obtain ⟨hg16,hr⟩:=gd hr
 refine o_4 ?_
 refine t_some 2 sees_rd (show 0<t1.Dims.length by have:=hg16; omega) (fun g17 o18 ha=>?_)
 subst ha
 refine o_7 ?_
 obtain ⟨hg19,hr⟩:=gd hr
 obtain ⟨hg20,hr⟩:=gd hr
 refine cQ [(1,(iv axis4)),(2,(iv step5)),(3,(iv n6)),(4,(pt b7 0)),(8,(pt b8 0)),(9,(iv (w64 ((t1.Dims.length:Int) - (1:Int))))),(63,(.bool ((decide ((ix t1.Dims (w64 ((t1.Dims.length:Int) - (1:Int))))>n6))||((w64 ((w64 ((w64 (n6 - (ix t1.Dims (w64 ((t1.Dims.length:Int) - (1:Int)))))).tdiv step5))+(1:Int))) != (ix t1.Dims axis4)))))] (bxl b8 [(.slice none 0 0),(.slice none 0 0)] 58::W1) ?_ ?_
 rcases bo (decide ((ix t1.Dims (w64 ((t1.Dims.length:Int) - (1:Int))))>n6)) with hc21 | hc21
 refine cdr 17 [] mixo fun ht hn=>?_
 refine d17_ 0 [] ?_
 refine dD ?_
 exact qj tI
 refine cdr 17 [] mixo fun ht hn=>?_
 refine d8_ 0 [] ?_
 refine dW 8 R (wnF hc21) (vz (iv (w64 ((w64 (n6 - (ix t1.Dims (w64 ((t1.Dims.length:Int) - (1:Int)))))).tdiv step5))) (v_quo R R (hg19 hc21))) ?_
 refine d4_ 9 [] ?_
 refine dW 13 R (wnF hc21) (vIa sl23 sz3 R R (hg20 hc21)) (dW 14 R (wnF hc21) (vLi 2 ag3 sees_rd R (hg20 hc21)) ?_)
 refine d2_ 15 [] ?_
 refine dD ?_
 exact qj tI
 rintro σ1
 refine o_1 ?_
 rcases bif_ hr with ⟨_,hr⟩|⟨_,hr⟩
 refine o_3 ?_
 refine lO (vz (.agg [(.slice none 0 0),(.slice none 0 0)].toArray) (v_build pl58 zc58 R R)) (l_stores 0 R R sz58 R R R R R R (l_nil (q_next (c_ret (q_ret ?_)))))
 obtain rfl:=so hr
 exact qS ((none,0,0),(none,0,0)) (fun w s=>(((s.nilo kT3 3).nilo kT3 3).e 6 [1,0]))
 refine o_4 ?_
 obtain ⟨r23,hx24,hr⟩:=bd hr
 obtain ⟨hg26,hr⟩:=gd hr
 refine o_5 ?_
 refine lM (RR kT3 (ad g17 o18) D2 t1.Dims::_::W1) (fun w s=>(s.d 2 R)) ?_
 refine lC 1 cb122 R (Z0c_ok hx24) R ?_
 rintro ⟨A25,N25,D25⟩
 refine lN (ow kT3 3 (.slice A25 N25 D25) r23::_::W1) ?_
 refine l_len 0 sees_ow ?_
 rintro rfl
 refine lI R (l_st (fun w s=>s.shr 0 R) (l_cut (K:=kT3) (0:Int) (w64 ((t1.Dims.length:Int) - (1:Int))) 0 R R sl23 sz3 R R R R hg26.1 hg26.2.1 hg26.2.2 (fun A27 D27=>(lS R (l_nil (q_next (c_seq (c_seq ?_))))))))
 obtain ⟨r28,hx29,hr⟩:=bd hr
 refine o_2 ?_
 refine lM (RR kT3 A27 D27 (sub r23 (0:Int) (w64 ((t1.Dims.length:Int) - (1:Int))))::RR kT3 A27 D27 (sub r23 (0:Int) (w64 ((t1.Dims.length:Int) - (1:Int))))::RR kT3 A25 D25 r23::_::W1) (fun w s=>(s.d 0 R)) ?_
 refine lC 1 cb92 R (Zk_ok hx29) R ?_
 rintro _
 refine lN (_::_::_::W1) ?_
 refine o_3 ?_
 rcases bif_ hr with ⟨_,hr⟩|⟨_,hr⟩
 refine o_3 ?_
 refine lO (vz (.agg [(.slice none 0 0),(.slice none 0 0)].toArray) (v_build pl58 zc58 R R)) (l_stores 2 R R sz58 R R R R R R (l_nil (q_next (c_ret (q_ret ?_)))))
 obtain rfl:=so hr
 exact qS ((none,0,0),(none,0,0)) (fun w s=>(((s.nilo kT3 3).nilo kT3 3).e 8 [1,0]))
 refine o_4 ?_
 obtain ⟨r31,hx32,hr⟩:=bd hr
 refine o_2 ?_
 refine lM (_::_::_::_::W1) (fun w s=>(s.d 0 R)) ?_
 refine lC 1 cb93 R (Z0b_ok hx32) R ?_
 rintro ⟨⟨A33,N33,D33⟩,⟨A34,N34,D34⟩⟩
 refine lN (ow kT3 3 (.slice A33 N33 D33) r31.Dims::ow kT3 3 (.slice A34 N34 D34) r31.Data::_::_::_::W1) ?_
 refine l_len 0 sees_ow ?_
 rintro rfl
 refine l_len 1 sees_ow ?_
 rintro rfl
 refine l_alloc R R zc58 (fun b35=>(l_stores 0 R R sz58 R R R R R R (lN (bxl b35 [(sc A33 r31.Dims D33),(sc A34 r31.Data D34)] 58::_::_::_::_::_::W1) ?_)))
 refine o_3 ?_
 refine c_cut (A:=((List Int))×(Unit)) (fun a=>Z0j_J1 r31 a.1=some r) (fun a=>[(8,(pt b8 0)),(12,(pt b35 0))]) (fun a=>bxl b8 [(.slice none 0 0),(.slice none 0 0)] 58::bxl b35 [(sc A33 r31.Dims D33),(sc A34 r31.Data D34)] 58::OO kT3 3 A33 D33 r31.Dims::ow kT3 3 (.slice A34 r31.Data.length D34) a.1::W1) ?_ ?_
 refine o_6 ?_
 obtain ⟨e1,hl1,hk1⟩:=bd hr
 refine c_loop (A:=Unit) hl1 (fun s a=>[(1,(iv axis4)),(2,(iv step5)),(4,(pt b7 0)),(8,(pt b8 0)),(9,(iv (w64 ((t1.Dims.length:Int) - (1:Int))))),(12,(pt b35 0)),(13,(iv s.2))]) (fun s a=>bxl b8 [(.slice none 0 0),(.slice none 0 0)] 58::bxl b35 [(sc A33 r31.Dims D33),(sc A34 r31.Data D34)] 58::OO kT3 3 A33 D33 r31.Dims::ow kT3 3 (.slice A34 r31.Data.length D34) s.1::W1) () (aS R) (tE 6 [5,0,1,2]) ?_
 rintro ⟨x58,i59⟩ _ σ1 out1 hr he1
 dsimp only [Z0j_L1] at hr
 refine o_10 ?_
 rcases bif_ hr with ⟨_,hr⟩|⟨_,hr⟩
 refine o_6 ?_
 obtain ⟨r61,hx62,hr⟩:=bd hr
 refine o_4 ?_
 refine lM (RR kT3 (ad g17 o18) D2 t1.Dims::_::_::_::ow kT3 3 (.slice A34 r31.Data.length D34) x58::W1) (fun w s=>(s.d 5 R)) ?_
 refine lC 1 cb102 R (Zf_ok hx62) R ?_
 rintro ⟨A63,N63,D63⟩
 refine lN (ow kT3 3 (.slice A63 N63 D63) r61::_::_::_::_::W1) ?_
 refine l_len 0 sees_ow ?_
 rintro rfl
 refine o_4 ?_
 obtain ⟨hg64,hr⟩:=gd hr
 obtain ⟨_,hr⟩:=gd hr
 obtain ⟨r68,hx69,hr⟩:=bd hr
 obtain ⟨hg71,hr⟩:=gd hr
 refine c_some 0 sees_ow (show 0<r61.length by have:=hg64; omega) (fun g65 o66 ha=>?_)
 subst ha
 refine cdr 17 [] mixo fun ht hn=>?_
 refine d13_ 0 [] ?_
 refine dR 14 R (vI R) (d1 13 R (lC 1 cb122 R (FnOk.lends (A':=[OO kT3 3 (ad g65 o66) D63 r61]) (A:=[RR kT3 (ad g65 o66) D63 r61]) (B:=[]) (Z0c_ok hx69) ⟨lend_ow,trivial⟩ (fun _=>⟨(closed_ow cT3),trivial⟩)) R ?_))
 rintro ⟨A70,N70,D70⟩
 refine lN (OO kT3 3 (ad g65 o66) D63 r61::ow kT3 3 (.slice A70 N70 D70) r68::_::_::_::_::W1) ?_
 refine l_len 1 sees_ow ?_
 rintro rfl
 refine l_nil (q_draw (sL [1]) (d1 15 R (l_st (fun w s=>s.shr 1 R) (l_cut (K:=kT3) (0:Int) (w64 ((t1.Dims.length:Int) - (1:Int))) 0 R R sl23 sz3 R R R R hg71.1 hg71.2.1 hg71.2.2 (fun A72 D72=>(l_nil (q_draw (sL [1,0]) (dR 16 R (vS R) (hS:=(sL [1,0])) (dD (q_next ?_))))))))))
 obtain ⟨r73,hx74,hr⟩:=bd hr
 obtain ⟨hg75,hr⟩:=gd hr
 obtain ⟨r78,hx79,hr⟩:=bd hr
 obtain ⟨r80,hx81,hr⟩:=bd hr
 refine c_some 9 sees_rd (show 0<t1.Data.length by have:=hg75; omega) (fun g76 o77 ha=>?_)
 subst ha
 refine cdr 12 [6] mixo fun ht hn=>?_
 refine d4_ 0 [6] ?_
 refine d5_ 5 [6] ?_
 refine d1 4 R (lM (ow _ _ _ _::ow _ _ _ _::RR kT3 A72 D72 (sub r68 (0:Int) (w64 ((t1.Dims.length:Int) - (1:Int))))::RR kT3 A72 D72 (sub r68 (0:Int) (w64 ((t1.Dims.length:Int) - (1:Int))))::RR kT3 A70 D70 r68::ow _ _ _ _::bxl _ _ _::bxl _ _ _::W1) (fun w s=>((s.d 0 R).f 8 [6,2,0,6])) ?_)
 refine lC 3 cb112 R (FnOk.lends (A':=[OO kT3 3 A33 D33 r31.Dims,ow kT3 3 (.slice A34 r31.Data.length D34) x58]) (A:=[RR kT3 A33 D33 r31.Dims,rds kT3 (.slice A34 r31.Data.length D34) x58]) (B:=[RR kT3 A72 D72 (sub r68 (0:Int) (w64 ((t1.Dims.length:Int) - (1:Int))))]) (Z0w_ok (t1:=(⟨r31.Dims,x58⟩:Tensor)) hx74) ⟨lend_ow,lend_ow,trivial⟩ (fun _=>trivial)) R ?_
 rintro _
 refine lN (_::_::_::_::_::_::_::W1) ?_
 refine l_nil (q_draw (fun w s=>(s.f 7 [2,5,0,1])) (d1 10 R (lC 0 cb115 R (Z1c_ok hx79) R ?_)))
 rintro _
 refine l_nil (q_draw (fun w s=>(s.f 7 [2,5,0,1])) (d1 11 R (lM (ow _ _ _ _::ow _ _ _ _::rds _ _ _::rds _ _ _::rds _ _ _::ow _ _ _ _::bxl _ _ _::bxl _ _ _::W1) (fun w s=>((s.d 2 R).f 8 [1,2,0,1,3,5])) ?_)))
 refine lC 3 cb123 R (FnOk.lends (A':=[OO kT3 3 A33 D33 r31.Dims]) (A:=[RR kT3 A33 D33 r31.Dims]) (B:=[ow kT3 3 (.slice A34 r31.Data.length D34) x58,RR kT3 A72 D72 (sub r68 (0:Int) (w64 ((t1.Dims.length:Int) - (1:Int))))]) (Z1l_ok (t1:=(⟨r31.Dims,x58⟩:Tensor)) hx81) ⟨lend_ow,trivial⟩ (fun _=>⟨(closed_ow cT3),trivial⟩)) R ?_
 rintro _
 refine lN (_::ow kT3 3 (.slice A34 r31.Data.length D34) r80::_::_::_::_::_::W1) ?_
 refine l_nil (q_draw (fun w s=>(s.f 7 [2,5,0,1])) (dD ?_))
 refine o_7 ?_
 obtain rfl:=so hr
 exact qA () (tE 7 [5,6,0,1])
 refine o_3 ?_
 obtain rfl:=so hr
 obtain rfl:=he1 _ R
 have hr:=hk1
 refine o_2 ?_
 exact qI (x58,()) hr tI
 rintro ⟨x84,_⟩ σ1 hr
 dsimp only [Z0j_J1] at hr
 refine o_3 ?_
 refine l_stores 0 R R sz58 R R R R R R (lN (bxl b8 [(sc A33 r31.Dims D33),(sc A34 r31.Data D34)] 58::_::_::ow kT3 3 (.slice A34 r31.Data.length D34) x84::W1) ?_)
 refine o_3 ?_
 obtain rfl:=so hr
 exact qS ((A33,r31.Dims.length,D33),(A34,r31.Data.length,D34)) (tE 7 [2,3])
theorem Z1_ok  {n1:Node}{a6:(List Tensor)}{r:Tensor}(hr:Z1 n1 a6=some r) :
 FnOk Tryz.prog 53 [(.agg [(iv n1.Op),(.slice A2 N2 D2),(.slice A3 N3 D3),(.slice A4 N4 D4),(vstr n1.Form),(.slice A5 N5 D5)].toArray),(.slice A7 N7 D7)] [rds kT3 (.slice A2 N2 D2) n1.Args,rds kT3 (.slice A3 N3 D3) n1.Dims,rds kT3 (.slice A4 N4 D4) n1.Ints,rds kT3 (.slice A5 N5 D5) n1.Data,rds kT58 (.slice A7 N7 D7) a6] (fun (h:HH×HH)=>((.agg [(s3 h.1),(s3 h.2)].toArray),[ow kT3 3 (s3 h.1) r.Dims,ow kT3 3 (s3 h.2) r.Data])):=by
 unfold Z1 at hr
 refine fn_ok Tryz.func53 R 217 R R fun C V=>?_
 refine cN (_::_::_::_::_::V) ?_
 refine cL 0 sees_rd ?_
 rintro rfl
 refine cL 1 sees_rd ?_
 rintro rfl
 refine cL 2 sees_rd ?_
 rintro rfl
 refine cL 3 sees_rd ?_
 rintro rfl
 refine cL 4 sees_rd ?_
 rintro rfl
 let W0:List HP:=RR kT3 A2 D2 n1.Args::RR kT3 A3 D3 n1.Dims::RR kT3 A4 D4 n1.Ints::RR kT3 A5 D5 n1.Data::RR kT58 A7 D7 a6::V
 refine cN W0 ?_
 refine o_2 ?_
 refine lBx R fun b8=>?_
 refine l_alloc R R zc58 (fun b9=>(l_nil ?_))
 let W1:List HP:=bxl b8 [(iv n1.Op),(sc A2 n1.Args D2),(sc A3 n1.Dims D3),(sc A4 n1.Ints D4),(vstr n1.Form),(sc A5 n1.Data D5)] 54::W0
 refine qN (_::W1) ?_
 refine o_22 ?_
 rcases bif_ hr with ⟨_,hr⟩|⟨_,hr⟩
 refine o_7 ?_
 refine lO (vz (.agg [(sc A3 n1.Dims D3),(sc A5 n1.Data D5)].toArray) (v_build pl58 zc58 R R)) (l_alloc R R zc58 (fun b11=>(l_stores 0 R R sz58 R R R R R R (lN (bxl b11 [(sc A3 n1.Dims D3),(sc A5 n1.Data D5)] 58::_::W1) ?_))))
 refine o_4 ?_
 obtain ⟨r12,hx13,hr⟩:=bd hr
 refine o_2 ?_
 refine lM (RR kT3 A3 D3 n1.Dims::RR kT3 A5 D5 n1.Data::bxl _ _ _::bxl _ _ _::W1) (fun w s=>(((s.d 4 R).d 7 R).e 4 [1,0,2,3])) ?_
 refine lC 2 cb55 R (Zn_ok (t1:=(⟨n1.Dims,n1.Data⟩:Tensor)) hx13) R ?_
 rintro _
 refine lN (_::_::W1) ?_
 refine o_3 ?_
 rcases bif_ hr with ⟨_,hr⟩|⟨_,hr⟩
 refine o_3 ?_
 refine lO (vz (.agg [(.slice none 0 0),(.slice none 0 0)].toArray) (v_build pl58 zc58 R R)) (l_stores 1 R R sz58 R R R R R R (l_nil (q_next (c_ret (q_ret (q_blockr (q_ret ?_)))))))
 obtain rfl:=so hr
 exact qS ((none,0,0),(none,0,0)) (fun w s=>(((s.nilo kT3 3).nilo kT3 3).e 10 [1,0]))
 refine o_4 ?_
 obtain ⟨r15,hx16,hr⟩:=bd hr
 obtain ⟨r18,hx19,hr⟩:=bd hr
 refine cdr 8 [1] mixo fun ht hn=>?_
 refine d2_ 0 [1] ?_
 refine d2_ 3 [1] ?_
 refine d1 2 R (lM (RR kT3 A3 D3 n1.Dims::_::_::W1) (fun w s=>(s.d 4 R)) ?_)
 refine lC 1 cb57 R (Zp_ok hx16) R ?_
 rintro ⟨A17,N17,D17⟩
 refine lN (ow kT3 3 (.slice A17 N17 D17) r15::_::_::W1) ?_
 refine l_len 0 sees_ow ?_
 rintro rfl
 refine l_nil (q_draw (sL [2,0]) (d1 5 R (lM (RR kT3 A5 D5 n1.Data::_::_::_::W1) (fun w s=>(s.d 7 R)) ?_)))
 refine lC 1 cb57 R (Zp_ok hx19) R ?_
 rintro ⟨A20,N20,D20⟩
 refine lN (ow kT3 3 (.slice A20 N20 D20) r18::_::_::_::W1) ?_
 refine l_len 0 sees_ow ?_
 rintro rfl
 refine l_nil (q_draw (sL [3,1,0]) (dR 6 R (vz (.agg [(sc A17 r15 D17),(sc A20 r18 D20)].toArray) (v_build pl58 zc58 R R)) (hS:=(sL [3,1,0])) (d1 7 R (l_stores 3 R R sz58 R R R R R R (lN (_::_::_::bxl b9 [(sc A17 r15 D17),(sc A20 r18 D20)] 58::W1) ?_)))))
 refine l_nil (q_draw (sL [3,1,0]) (dD ?_))
 refine o_4 ?_
 obtain rfl:=so hr
 exact qS ((A17,r15.length,D17),(A20,r18.length,D20)) (tE 10 [1,0])
 refine o_2 ?_
 refine c_cut (A:=(Bool)×(Unit)) (fun a=>Z1_J1 n1 a6 a.1=some r) (fun a=>[(1,(sc A7 a6 D7)),(2,(pt b8 0)),(4,(pt b9 0)),(5,(sc A4 n1.Ints D4)),(10,(iv n1.Op)),(29,(.bool a.1))]) (fun a=>bxl b9 [(.slice none 0 0),(.slice none 0 0)] 58::W1) ?_ ?_
 refine o_6 ?_
 rcases bif_ hr with ⟨_,hr⟩|⟨_,hr⟩
 refine o_2 ?_
 exact qI ((n1.Op==(3:Int)),()) hr tI
 refine o_7 ?_
 rcases bif_ hr with ⟨_,hr⟩|⟨_,hr⟩
 refine o_2 ?_
 exact qI ((n1.Op==(4:Int)),()) hr tI
 refine o_5 ?_
 exact qI ((n1.Op==(5:Int)),()) hr tI
 rintro ⟨x23,_⟩ σ1 hr
 dsimp only [Z1_J1] at hr
 rcases bif_ hr with ⟨_,hr⟩|⟨_,hr⟩
 refine o_3 ?_
 obtain ⟨hg25,hr⟩:=gd hr
 obtain ⟨hg30,hr⟩:=gd hr
 obtain ⟨r33,hx34,hr⟩:=bd hr
 refine c_some 6 sees_rd (show 0<a6.length by have:=hg25; omega) (fun g26 o27 ha=>?_)
 subst ha
 refine c_elem (K:=kT58) 6 (0:Int) dT58.dec R hg25.1 hg25.2 ?_
 rintro ⟨⟨A28,D28⟩,⟨A29,D29⟩⟩
 refine cN (cl g26 (o27+(0:Int).toNat*2) [(sc A28 ((ix a6 (0:Int)).Dims) D28),(sc A29 ((ix a6 (0:Int)).Data) D29)]::RR kT3 A28 D28 ((ix a6 (0:Int)).Dims)::RR kT3 A29 D29 ((ix a6 (0:Int)).Data)::bxl b9 [(.slice none 0 0),(.slice none 0 0)] 58::W1) ?_
 refine c_elem (K:=kT58) 9 (1:Int) dT58.dec R hg30.1 hg30.2 ?_
 rintro ⟨⟨A31,D31⟩,⟨A32,D32⟩⟩
 refine cN (cl g26 (o27+(1:Int).toNat*2) [(sc A31 ((ix a6 (1:Int)).Dims) D31),(sc A32 ((ix a6 (1:Int)).Data) D32)]::RR kT3 A31 D31 ((ix a6 (1:Int)).Dims)::RR kT3 A32 D32 ((ix a6 (1:Int)).Data)::_::_::_::_::W1) ?_
 refine cdr 10 [] mixo fun ht hn=>?_
 refine d2_ 0 [] ?_
 refine dR 2 R (vz (.pointer (some ⟨g26,o27+(0:Int).toNat*2,none⟩)) (v_fa fo58_0 R R)) (dR 3 R (v_clf (fo:=0) 3 ag23 R R R) ?_)
 refine d2_ 4 [] ?_
 refine dR 6 R (vz (.pointer (some ⟨g26,o27+(1:Int).toNat*2,none⟩)) (v_fa fo58_0 R R)) (dR 7 R (v_clf (fo:=0) 0 ag23 R R R) (d1 8 R (lM (rds _ _ _::rds _ _ _::cl _ _ _::rds _ _ _::rds _ _ _::cl _ _ _::rds _ _ _::rds _ _ _::bxl _ _ _::W1) (fun w s=>(((s.d 4 R).d 2 R).f 9 [1,1,0,1,2,7])) ?_)))
 refine lC 2 cb56 R (Zx_ok hx34) R ?_
 rintro _
 refine lN (_::_::_::_::_::_::_::W1) ?_
 refine l_nil (q_draw (sL []) (dR 9 R (vNo R) (dD (q_next ?_))))
 rcases bif_ hr with ⟨_,hr⟩|⟨_,hr⟩
 refine o_3 ?_
 refine lO (vz (.agg [(.slice none 0 0),(.slice none 0 0)].toArray) (v_build pl58 zc58 R R)) (l_stores 6 R R sz58 R R R R R R (l_nil (q_next (c_ret (q_ret (q_blockr (q_ret ?_)))))))
 obtain rfl:=so hr
 exact qS ((none,0,0),(none,0,0)) (fun w s=>(((s.nilo kT3 3).nilo kT3 3).e 15 [1,0]))
 refine o_4 ?_
 obtain ⟨r36,hx37,hr⟩:=bd hr
 refine cdr 12 [6] mixo fun ht hn=>?_
 refine d6_ 0 [6] ?_
 refine dR 6 R (vz (.agg [(sc A28 ((ix a6 (0:Int)).Dims) D28),(sc A29 ((ix a6 (0:Int)).Data) D29)].toArray) (v_clfs (fo:=0) 3 ag58 sz58 R R R R)) (hS:=(sL [6])) ?_
 refine d2_ 7 [6] ?_
 refine dR 9 R (vz (.agg [(sc A31 ((ix a6 (1:Int)).Dims) D31),(sc A32 ((ix a6 (1:Int)).Data) D32)].toArray) (v_clfs (fo:=0) 0 ag58 sz58 R R R R)) (hS:=(sL [6])) (d1 10 R (lM (rds _ _ _::rds _ _ _::rds _ _ _::rds _ _ _::cl _ _ _::rds _ _ _::rds _ _ _::cl _ _ _::rds _ _ _::rds _ _ _::bxl _ _ _::W1) (fun w s=>(((((s.d 4 R).d 6 R).d 3 R).d 5 R).f 11 [3,1,2,1,1,1,0,1,4,7])) ?_))
 refine lC 4 cb78 R (Z0t_ok hx37) R ?_
 rintro ⟨⟨A38,N38,D38⟩,⟨A39,N39,D39⟩⟩
 refine lN (ow kT3 3 (.slice A38 N38 D38) r36.Dims::ow kT3 3 (.slice A39 N39 D39) r36.Data::_::_::_::_::_::_::_::W1) ?_
 refine l_len 0 sees_ow ?_
 rintro rfl
 refine l_len 1 sees_ow ?_
 rintro rfl
 refine l_nil (q_draw (sL [8,1,0]) (d1 11 R (l_stores 8 R R sz58 R R R R R R (lN (_::_::_::_::_::_::_::_::bxl b9 [(sc A38 r36.Dims D38),(sc A39 r36.Data D39)] 58::W1) ?_))))
 refine l_nil (q_draw (sL [8,1,0]) (dD ?_))
 refine o_4 ?_
 obtain rfl:=so hr
 exact qS ((A38,r36.Dims.length,D38),(A39,r36.Data.length,D39)) (tE 15 [0,1])
 refine o_2 ?_
 refine c_cut (A:=(Bool)×(Unit)) (fun a=>Z1_J2 n1 a6 a.1=some r) (fun a=>[(1,(sc A7 a6 D7)),(2,(pt b8 0)),(4,(pt b9 0)),(5,(sc A4 n1.Ints D4)),(10,(iv n1.Op)),(55,(.bool a.1))]) (fun a=>bxl b9 [(.slice none 0 0),(.slice none 0 0)] 58::W1) ?_ ?_
 refine o_6 ?_
 rcases bif_ hr with ⟨_,hr⟩|⟨_,hr⟩
 refine o_2 ?_
 exact qI ((n1.Op==(6:Int)),()) hr tI
 refine o_7 ?_
 rcases bif_ hr with ⟨_,hr⟩|⟨_,hr⟩
 refine o_2 ?_
 exact qI ((n1.Op==(7:Int)),()) hr tI
 refine o_7 ?_
 rcases bif_ hr with ⟨_,hr⟩|⟨_,hr⟩
 refine o_2 ?_
 exact qI ((n1.Op==(8:Int)),()) hr tI
 refine o_5 ?_
 exact qI ((n1.Op==(9:Int)),()) hr tI
 rintro ⟨x43,_⟩ σ1 hr
 dsimp only [Z1_J2] at hr
 rcases bif_ hr with ⟨_,hr⟩|⟨_,hr⟩
 refine o_2 ?_
 obtain ⟨hg45,hr⟩:=gd hr
 obtain ⟨r50,hx51,hr⟩:=bd hr
 refine c_some 6 sees_rd (show 0<a6.length by have:=hg45; omega) (fun g46 o47 ha=>?_)
 subst ha
 refine c_elem (K:=kT58) 6 (0:Int) dT58.dec R hg45.1 hg45.2 ?_
 rintro ⟨⟨A48,D48⟩,⟨A49,D49⟩⟩
 refine cN (cl g46 (o47+(0:Int).toNat*2) [(sc A48 ((ix a6 (0:Int)).Dims) D48),(sc A49 ((ix a6 (0:Int)).Data) D49)]::RR kT3 A48 D48 ((ix a6 (0:Int)).Dims)::RR kT3 A49 D49 ((ix a6 (0:Int)).Data)::bxl b9 [(.slice none 0 0),(.slice none 0 0)] 58::W1) ?_
 refine cdr 9 [3] mixo fun ht hn=>?_
 refine d6_ 0 [3] ?_
 refine dR 6 R (vz (.agg [(sc A48 ((ix a6 (0:Int)).Dims) D48),(sc A49 ((ix a6 (0:Int)).Data) D49)].toArray) (v_clfs (fo:=0) 0 ag58 sz58 R R R R)) (hS:=(sL [3])) (d1 7 R (lM (rds _ _ _::rds _ _ _::cl _ _ _::rds _ _ _::rds _ _ _::bxl _ _ _::W1) (fun w s=>(((s.d 1 R).d 3 R).e 6 [1,0,2,3,4,5])) ?_))
 refine lC 2 cb79 R (Z0s_ok hx51) R ?_
 rintro ⟨⟨A52,N52,D52⟩,⟨A53,N53,D53⟩⟩
 refine lN (ow kT3 3 (.slice A52 N52 D52) r50.Dims::ow kT3 3 (.slice A53 N53 D53) r50.Data::_::_::_::_::W1) ?_
 refine l_len 0 sees_ow ?_
 rintro rfl
 refine l_len 1 sees_ow ?_
 rintro rfl
 refine l_nil (q_draw (sL [5,1,0]) (d1 8 R (l_stores 5 R R sz58 R R R R R R (lN (_::_::_::_::_::bxl b9 [(sc A52 r50.Dims D52),(sc A53 r50.Data D53)] 58::W1) ?_))))
 refine l_nil (q_draw (sL [5,1,0]) (dD ?_))
 refine o_4 ?_
 obtain rfl:=so hr
 exact qS ((A52,r50.Dims.length,D52),(A53,r50.Data.length,D53)) (tE 12 [0,1])
 refine o_7 ?_
 rcases bif_ hr with ⟨_,hr⟩|⟨_,hr⟩
 refine o_2 ?_
 obtain ⟨hg55,hr⟩:=gd hr
 obtain ⟨hg60,hr⟩:=gd hr
 obtain ⟨r63,hx64,hr⟩:=bd hr
 refine c_some 6 sees_rd (show 0<a6.length by have:=hg55; omega) (fun g56 o57 ha=>?_)
 subst ha
 refine c_elem (K:=kT58) 6 (0:Int) dT58.dec R hg55.1 hg55.2 ?_
 rintro ⟨⟨A58,D58⟩,⟨A59,D59⟩⟩
 refine cN (cl g56 (o57+(0:Int).toNat*2) [(sc A58 ((ix a6 (0:Int)).Dims) D58),(sc A59 ((ix a6 (0:Int)).Data) D59)]::RR kT3 A58 D58 ((ix a6 (0:Int)).Dims)::RR kT3 A59 D59 ((ix a6 (0:Int)).Data)::bxl b9 [(.slice none 0 0),(.slice none 0 0)] 58::W1) ?_
 refine c_some 7 sees_rd (show 0<n1.Ints.length by have:=hg60; omega) (fun g61 o62 ha=>?_)
 subst ha
 refine cdr 8 [3] mixo fun ht hn=>?_
 refine d2_ 0 [3] ?_
 refine dR 2 R (vz (.agg [(sc A58 ((ix a6 (0:Int)).Dims) D58),(sc A59 ((ix a6 (0:Int)).Data) D59)].toArray) (v_clfs (fo:=0) 0 ag58 sz58 R R R R)) (hS:=(sL [3])) ?_
 refine d3_ 3 [3] ?_
 refine d1 6 R (lM (rds _ _ _::rds _ _ _::cl _ _ _::rds _ _ _::rds _ _ _::bxl _ _ _::W1) (fun w s=>(((s.d 1 R).d 3 R).e 6 [1,0,2,3,4,5])) ?_)
 refine lC 2 cb80 R (Za_ok hx64) R ?_
 rintro ⟨⟨A65,N65,D65⟩,⟨A66,N66,D66⟩⟩
 refine lN (ow kT3 3 (.slice A65 N65 D65) r63.Dims::ow kT3 3 (.slice A66 N66 D66) r63.Data::_::_::_::_::W1) ?_
 refine l_len 0 sees_ow ?_
 rintro rfl
 refine l_len 1 sees_ow ?_
 rintro rfl
 refine l_nil (q_draw (sL [5,1,0]) (d1 7 R (l_stores 5 R R sz58 R R R R R R (lN (_::_::_::_::_::bxl b9 [(sc A65 r63.Dims D65),(sc A66 r63.Data D66)] 58::W1) ?_))))
 refine l_nil (q_draw (sL [5,1,0]) (dD ?_))
 refine o_4 ?_
 obtain rfl:=so hr
 exact qS ((A65,r63.Dims.length,D65),(A66,r63.Data.length,D66)) (tE 12 [0,1])
 refine o_7 ?_
 rcases bif_ hr with ⟨_,hr⟩|⟨_,hr⟩
 refine o_2 ?_
 obtain ⟨r68,hx69,hr⟩:=bd hr
 refine o_4 ?_
 refine lM (RR kT58 A7 D7 a6::bxl b9 [(.slice none 0 0),(.slice none 0 0)] 58::W1) (fun w s=>(s.d 6 R)) ?_
 refine lC 1 cb81 R (Z5_ok hx69) R ?_
 rintro ⟨⟨A70,N70,D70⟩,⟨A71,N71,D71⟩⟩
 refine lN (ow kT3 3 (.slice A70 N70 D70) r68.Dims::ow kT3 3 (.slice A71 N71 D71) r68.Data::_::W1) ?_
 refine l_len 0 sees_ow ?_
 rintro rfl
 refine l_len 1 sees_ow ?_
 rintro rfl
 refine l_stores 2 R R sz58 R R R R R R (lN (_::_::bxl b9 [(sc A70 r68.Dims D70),(sc A71 r68.Data D71)] 58::W1) ?_)
 refine o_5 ?_
 obtain rfl:=so hr
 exact qS ((A70,r68.Dims.length,D70),(A71,r68.Data.length,D71)) (tE 9 [0,1])
 refine o_7 ?_
 rcases bif_ hr with ⟨_,hr⟩|⟨_,hr⟩
 refine o_2 ?_
 obtain ⟨hg73,hr⟩:=gd hr
 obtain ⟨r78,hx79,hr⟩:=bd hr
 obtain ⟨r82,hx83,hr⟩:=bd hr
 obtain ⟨r86,hx87,hr⟩:=bd hr
 refine c_some 6 sees_rd (show 0<a6.length by have:=hg73; omega) (fun g74 o75 ha=>?_)
 subst ha
 refine c_elem (K:=kT58) 6 (0:Int) dT58.dec R hg73.1 hg73.2 ?_
 rintro ⟨⟨A76,D76⟩,⟨A77,D77⟩⟩
 refine cN (cl g74 (o75+(0:Int).toNat*2) [(sc A76 ((ix a6 (0:Int)).Dims) D76),(sc A77 ((ix a6 (0:Int)).Data) D77)]::RR kT3 A76 D76 ((ix a6 (0:Int)).Dims)::RR kT3 A77 D77 ((ix a6 (0:Int)).Data)::bxl b9 [(.slice none 0 0),(.slice none 0 0)] 58::W1) ?_
 refine cdr 13 [3] mixo fun ht hn=>?_
 refine d2_ 0 [3] ?_
 refine dR 2 R (vz (.agg [(sc A76 ((ix a6 (0:Int)).Dims) D76),(sc A77 ((ix a6 (0:Int)).Data) D77)].toArray) (v_clfs (fo:=0) 0 ag58 sz58 R R R R)) (hS:=(sL [3])) ?_
 refine d2_ 3 [3] ?_
 refine dR 5 R (vz (.pointer (some ⟨g74,o75+(0:Int).toNat*2,none⟩)) (v_fa fo58_0 R R)) (hS:=(sL [3])) (dR 6 R (v_clf (fo:=0) 0 ag23 R R R) (hS:=(sL [3])) ?_)
 refine d2_ 8 [3] ?_
 refine d1 7 R (lM (_::_::_::_::_::W1) (fun w s=>(s.d 1 R)) ?_)
 refine lC 1 cb84 R (Zw_ok hx79) R ?_
 rintro ⟨⟨A80,N80,D80⟩,⟨A81,N81,D81⟩⟩
 refine lN (rds kT3 (.slice A80 N80 D80) r78.Dims::ow kT3 3 (.slice A81 N81 D81) r78.Strides::_::_::_::_::W1) ?_
 refine l_len 0 sees_rd ?_
 rintro rfl
 refine l_len 1 sees_ow ?_
 rintro rfl
 refine l_nil (q_draw (sL [5,1,0]) (d1 10 R (lM (ow _ _ _ _::rds _ _ _::RR kT3 A3 D3 n1.Dims::rds _ _ _::cl _ _ _::rds _ _ _::rds _ _ _::bxl _ _ _::W1) (fun w s=>(((s.d 0 R).d 9 R).e 8 [3,1,0,2,4,5,6,7])) ?_)))
 refine lC 3 cb83 R (FnOk.lends (A':=[OO kT3 3 A81 D81 r78.Strides]) (A:=[RR kT3 A81 D81 r78.Strides]) (B:=[RR kT3 A80 D80 r78.Dims,RR kT3 A3 D3 n1.Dims]) (FnOk.perm (Zz_ok hx83) (Pre':=[RR kT3 A81 D81 r78.Strides,RR kT3 A80 D80 r78.Dims,RR kT3 A3 D3 n1.Dims]) (fun _ _ _ s=>(s.e 3 [1,0,2]))) ⟨lend_ow,trivial⟩ (fun _=>⟨(closed_ow cT3),(closed_ow cT3),trivial⟩)) R ?_
 rintro ⟨⟨A84,N84,D84⟩,⟨A85,N85,D85⟩⟩
 refine lN (_::ow kT3 3 (.slice A84 N84 D84) r82.Dims::ow kT3 3 (.slice A85 N85 D85) r82.Strides::_::_::_::_::_::W1) ?_
 refine l_len 1 sees_ow ?_
 rintro rfl
 refine l_len 2 sees_ow ?_
 rintro rfl
 refine l_nil (q_draw (sL [7,3,2,1,0]) (d1 11 R (lM (ow _ _ _ _::ow _ _ _ _::rds _ _ _::rds _ _ _::ow _ _ _ _::rds _ _ _::cl _ _ _::rds _ _ _::rds _ _ _::bxl _ _ _::W1) (fun w s=>(((s.d 5 R).d 7 R).e 10 [3,4,1,0,2,5,6,7,8,9])) ?_)))
 refine lC 4 cb82 R (FnOk.lends (A':=[OO kT3 3 A84 D84 r82.Dims,OO kT3 3 A85 D85 r82.Strides]) (A:=[RR kT3 A84 D84 r82.Dims,RR kT3 A85 D85 r82.Strides]) (B:=[RR kT3 A76 D76 ((ix a6 (0:Int)).Dims),RR kT3 A77 D77 ((ix a6 (0:Int)).Data)]) (FnOk.perm (Zy_ok hx87) (Pre':=[RR kT3 A84 D84 r82.Dims,RR kT3 A85 D85 r82.Strides,RR kT3 A76 D76 ((ix a6 (0:Int)).Dims),RR kT3 A77 D77 ((ix a6 (0:Int)).Data)]) (fun _ _ _ s=>(s.e 4 [2,3,0,1]))) ⟨lend_ow,lend_ow,trivial⟩ (fun _=>⟨(closed_ow cT3),(closed_ow cT3),trivial⟩)) R ?_
 rintro ⟨⟨A88,N88,D88⟩,⟨A89,N89,D89⟩⟩
 refine lN (_::_::ow kT3 3 (.slice A88 N88 D88) r86.Dims::ow kT3 3 (.slice A89 N89 D89) r86.Data::_::_::_::_::_::_::W1) ?_
 refine l_len 2 sees_ow ?_
 rintro rfl
 refine l_len 3 sees_ow ?_
 rintro rfl
 refine l_nil (q_draw (sL [9,5,4,3,2,1,0]) (d1 12 R (l_stores 9 R R sz58 R R R R R R (lN (_::_::_::_::_::_::_::_::_::bxl b9 [(sc A88 r86.Dims D88),(sc A89 r86.Data D89)] 58::W1) ?_))))
 refine l_nil (q_draw (sL [9,5,4,3,2,1,0]) (dD ?_))
 refine o_4 ?_
 obtain rfl:=so hr
 exact qS ((A88,r86.Dims.length,D88),(A89,r86.Data.length,D89)) (tE 16 [2,3])
 refine o_7 ?_
 rcases bif_ hr with ⟨_,hr⟩|⟨_,hr⟩
 refine o_2 ?_
 obtain ⟨hg91,hr⟩:=gd hr
 obtain ⟨r96,hx97,hr⟩:=bd hr
 obtain ⟨r100,hx101,hr⟩:=bd hr
 obtain ⟨r104,hx105,hr⟩:=bd hr
 refine c_some 6 sees_rd (show 0<a6.length by have:=hg91; omega) (fun g92 o93 ha=>?_)
 subst ha
 refine c_elem (K:=kT58) 6 (0:Int) dT58.dec R hg91.1 hg91.2 ?_
 rintro ⟨⟨A94,D94⟩,⟨A95,D95⟩⟩
 refine cN (cl g92 (o93+(0:Int).toNat*2) [(sc A94 ((ix a6 (0:Int)).Dims) D94),(sc A95 ((ix a6 (0:Int)).Data) D95)]::RR kT3 A94 D94 ((ix a6 (0:Int)).Dims)::RR kT3 A95 D95 ((ix a6 (0:Int)).Data)::bxl b9 [(.slice none 0 0),(.slice none 0 0)] 58::W1) ?_
 refine cdr 13 [3] mixo fun ht hn=>?_
 refine d2_ 0 [3] ?_
 refine dR 2 R (vz (.agg [(sc A94 ((ix a6 (0:Int)).Dims) D94),(sc A95 ((ix a6 (0:Int)).Data) D95)].toArray) (v_clfs (fo:=0) 0 ag58 sz58 R R R R)) (hS:=(sL [3])) ?_
 refine d2_ 3 [3] ?_
 refine dR 5 R (vz (.pointer (some ⟨g92,o93+(0:Int).toNat*2,none⟩)) (v_fa fo58_0 R R)) (hS:=(sL [3])) (dR 6 R (v_clf (fo:=0) 0 ag23 R R R) (hS:=(sL [3])) ?_)
 refine d2_ 8 [3] ?_
 refine d1 7 R (lM (_::_::_::_::_::W1) (fun w s=>(s.d 1 R)) ?_)
 refine lC 1 cb84 R (Zw_ok hx97) R ?_
 rintro ⟨⟨A98,N98,D98⟩,⟨A99,N99,D99⟩⟩
 refine lN (rds kT3 (.slice A98 N98 D98) r96.Dims::ow kT3 3 (.slice A99 N99 D99) r96.Strides::_::_::_::_::W1) ?_
 refine l_len 0 sees_rd ?_
 rintro rfl
 refine l_len 1 sees_ow ?_
 rintro rfl
 refine l_nil (q_draw (sL [5,1,0]) (d1 10 R (lM (ow _ _ _ _::rds _ _ _::RR kT3 A3 D3 n1.Dims::rds _ _ _::cl _ _ _::rds _ _ _::rds _ _ _::bxl _ _ _::W1) (fun w s=>(((s.d 0 R).d 9 R).e 8 [3,1,0,2,4,5,6,7])) ?_)))
 refine lC 3 cb85 R (FnOk.lends (A':=[OO kT3 3 A99 D99 r96.Strides]) (A:=[RR kT3 A99 D99 r96.Strides]) (B:=[RR kT3 A98 D98 r96.Dims,RR kT3 A3 D3 n1.Dims]) (FnOk.perm (Z05_ok hx101) (Pre':=[RR kT3 A99 D99 r96.Strides,RR kT3 A98 D98 r96.Dims,RR kT3 A3 D3 n1.Dims]) (fun _ _ _ s=>(s.e 3 [1,0,2]))) ⟨lend_ow,trivial⟩ (fun _=>⟨(closed_ow cT3),(closed_ow cT3),trivial⟩)) R ?_
 rintro ⟨⟨A102,N102,D102⟩,⟨A103,N103,D103⟩⟩
 refine lN (_::ow kT3 3 (.slice A102 N102 D102) r100.Dims::ow kT3 3 (.slice A103 N103 D103) r100.Strides::_::_::_::_::_::W1) ?_
 refine l_len 1 sees_ow ?_
 rintro rfl
 refine l_len 2 sees_ow ?_
 rintro rfl
 refine l_nil (q_draw (sL [7,3,2,1,0]) (d1 11 R (lM (ow _ _ _ _::ow _ _ _ _::rds _ _ _::rds _ _ _::ow _ _ _ _::rds _ _ _::cl _ _ _::rds _ _ _::rds _ _ _::bxl _ _ _::W1) (fun w s=>(((s.d 5 R).d 7 R).e 10 [3,4,1,0,2,5,6,7,8,9])) ?_)))
 refine lC 4 cb82 R (FnOk.lends (A':=[OO kT3 3 A102 D102 r100.Dims,OO kT3 3 A103 D103 r100.Strides]) (A:=[RR kT3 A102 D102 r100.Dims,RR kT3 A103 D103 r100.Strides]) (B:=[RR kT3 A94 D94 ((ix a6 (0:Int)).Dims),RR kT3 A95 D95 ((ix a6 (0:Int)).Data)]) (FnOk.perm (Zy_ok hx105) (Pre':=[RR kT3 A102 D102 r100.Dims,RR kT3 A103 D103 r100.Strides,RR kT3 A94 D94 ((ix a6 (0:Int)).Dims),RR kT3 A95 D95 ((ix a6 (0:Int)).Data)]) (fun _ _ _ s=>(s.e 4 [2,3,0,1]))) ⟨lend_ow,lend_ow,trivial⟩ (fun _=>⟨(closed_ow cT3),(closed_ow cT3),trivial⟩)) R ?_
 rintro ⟨⟨A106,N106,D106⟩,⟨A107,N107,D107⟩⟩
 refine lN (_::_::ow kT3 3 (.slice A106 N106 D106) r104.Dims::ow kT3 3 (.slice A107 N107 D107) r104.Data::_::_::_::_::_::_::W1) ?_
 refine l_len 2 sees_ow ?_
 rintro rfl
 refine l_len 3 sees_ow ?_
 rintro rfl
 refine l_nil (q_draw (sL [9,5,4,3,2,1,0]) (d1 12 R (l_stores 9 R R sz58 R R R R R R (lN (_::_::_::_::_::_::_::_::_::bxl b9 [(sc A106 r104.Dims D106),(sc A107 r104.Data D107)] 58::W1) ?_))))
 refine l_nil (q_draw (sL [9,5,4,3,2,1,0]) (dD ?_))
 refine o_4 ?_
 obtain rfl:=so hr
 exact qS ((A106,r104.Dims.length,D106),(A107,r104.Data.length,D107)) (tE 16 [2,3])
 refine o_7 ?_
 rcases bif_ hr with ⟨_,hr⟩|⟨_,hr⟩
 refine o_3 ?_
 obtain ⟨hg109,hr⟩:=gd hr
 refine o_2 ?_
 refine t_some 4 sees_rd (show 0<n1.Ints.length by have:=hg109; omega) (fun g110 o111 ha=>?_)
 subst ha
 refine o_5 ?_
 rcases bif_ hr with ⟨_,hr⟩|⟨_,hr⟩
 refine o_3 ?_
 refine lO (vz (.agg [(.slice none 0 0),(.slice none 0 0)].toArray) (v_build pl58 zc58 R R)) (l_stores 0 R R sz58 R R R R R R (lN (bxl b9 [(.slice none 0 0),(.slice none 0 0)] 58::W1) ?_))
 refine o_6 ?_
 obtain rfl:=so hr
 exact qS ((none,0,0),(none,0,0)) (fun w s=>(((s.nilo kT3 3).nilo kT3 3).e 9 [1,0]))
 refine o_4 ?_
 obtain ⟨hg113,hr⟩:=gd hr
 obtain ⟨r118,hx119,hr⟩:=bd hr
 obtain ⟨_,hr⟩:=gd hr
 obtain ⟨_,hr⟩:=gd hr
 obtain ⟨_,hr⟩:=gd hr
 obtain ⟨r125,hx126,hr⟩:=bd hr
 obtain ⟨r129,hx130,hr⟩:=bd hr
 refine c_some 6 sees_rd (show 0<a6.length by have:=hg113; omega) (fun g114 o115 ha=>?_)
 subst ha
 refine c_elem (K:=kT58) 6 (0:Int) dT58.dec R hg113.1 hg113.2 ?_
 rintro ⟨⟨A116,D116⟩,⟨A117,D117⟩⟩
 refine cN (cl g114 (o115+(0:Int).toNat*2) [(sc A116 ((ix a6 (0:Int)).Dims) D116),(sc A117 ((ix a6 (0:Int)).Data) D117)]::RR kT3 A116 D116 ((ix a6 (0:Int)).Dims)::RR kT3 A117 D117 ((ix a6 (0:Int)).Data)::_::W1) ?_
 refine cdr 23 [3] mixo fun ht hn=>?_
 refine d2_ 0 [3] ?_
 refine dR 2 R (vz (.agg [(sc A116 ((ix a6 (0:Int)).Dims) D116),(sc A117 ((ix a6 (0:Int)).Data) D117)].toArray) (v_clfs (fo:=0) 0 ag58 sz58 R R R R)) (hS:=(sL [3])) ?_
 refine d2_ 3 [3] ?_
 refine dR 5 R (vz (.pointer (some ⟨g114,o115+(0:Int).toNat*2,none⟩)) (v_fa fo58_0 R R)) (hS:=(sL [3])) (dR 6 R (v_clf (fo:=0) 0 ag23 R R R) (hS:=(sL [3])) ?_)
 refine d12_ 8 [3] ?_
 refine d1 7 R (lM (_::_::_::_::_::W1) (fun w s=>(s.d 1 R)) ?_)
 refine lC 1 cb84 R (Zw_ok hx119) R ?_
 rintro ⟨⟨A120,N120,D120⟩,⟨A121,N121,D121⟩⟩
 refine lN (rds kT3 (.slice A120 N120 D120) r118.Dims::ow kT3 3 (.slice A121 N121 D121) r118.Strides::_::_::_::_::W1) ?_
 refine l_len 0 sees_rd ?_
 rintro rfl
 refine l_len 1 sees_ow ?_
 rintro rfl
 refine l_nil (q_draw (sL [5,1,0]) (d1 20 R (l_st (fun w s=>s.shr 1 R) (lM (rds _ _ _::RR kT3 A121 D121 r118.Strides::RR kT3 A121 D121 r118.Strides::rds _ _ _::cl _ _ _::rds _ _ _::rds _ _ _::bxl _ _ _::W1) (fun w s=>(((s.d 1 R).d 1 R).f 8 [1,1,0,1,2,6])) ?_))))
 refine lC 2 cb86 R (Z14_ok hx126) R ?_
 rintro ⟨⟨A127,N127,D127⟩,⟨A128,N128,D128⟩⟩
 refine lN (rds kT3 (.slice A127 N127 D127) r125.Dims::rds kT3 (.slice A128 N128 D128) r125.Strides::_::_::_::_::_::_::W1) ?_
 refine l_len 0 sees_rd ?_
 rintro rfl
 refine l_len 1 sees_rd ?_
 rintro rfl
 refine l_nil (q_draw (sL [7,3,2,1,0]) (d1 21 R (lM (rds _ _ _::rds _ _ _::rds _ _ _::rds _ _ _::rds _ _ _::rds _ _ _::rds _ _ _::rds _ _ _::cl _ _ _::rds _ _ _::rds _ _ _::bxl _ _ _::W1) (fun w s=>(((((s.d 5 R).d 7 R).d 2 R).d 4 R).f 12 [3,1,2,1,1,1,0,1,4,8])) ?_)))
 refine lC 4 cb82 R (Zy_ok hx130) R ?_
 rintro ⟨⟨A131,N131,D131⟩,⟨A132,N132,D132⟩⟩
 refine lN (ow kT3 3 (.slice A131 N131 D131) r129.Dims::ow kT3 3 (.slice A132 N132 D132) r129.Data::_::_::_::_::_::_::_::_::W1) ?_
 refine l_len 0 sees_ow ?_
 rintro rfl
 refine l_len 1 sees_ow ?_
 rintro rfl
 refine l_nil (q_draw (sL [9,5,4,3,2,1,0]) (d1 22 R (l_stores 9 R R sz58 R R R R R R (lN (_::_::_::_::_::_::_::_::_::bxl b9 [(sc A131 r129.Dims D131),(sc A132 r129.Data D132)] 58::W1) ?_))))
 refine l_nil (q_draw (sL [9,5,4,3,2,1,0]) (dD ?_))
 refine o_4 ?_
 obtain rfl:=so hr
 exact qS ((A131,r129.Dims.length,D131),(A132,r129.Data.length,D132)) (tE 16 [0,1])
 refine o_7 ?_
 rcases bif_ hr with ⟨_,hr⟩|⟨_,hr⟩
 refine o_2 ?_
 obtain ⟨hg134,hr⟩:=gd hr
 obtain ⟨hg139,hr⟩:=gd hr
 obtain ⟨_,hr⟩:=gd hr
 obtain ⟨_,hr⟩:=gd hr
 obtain ⟨_,hr⟩:=gd hr
 obtain ⟨r145,hx146,hr⟩:=bd hr
 refine c_some 6 sees_rd (show 0<a6.length by have:=hg134; omega) (fun g135 o136 ha=>?_)
 subst ha
 refine c_elem (K:=kT58) 6 (0:Int) dT58.dec R hg134.1 hg134.2 ?_
 rintro ⟨⟨A137,D137⟩,⟨A138,D138⟩⟩
 refine cN (cl g135 (o136+(0:Int).toNat*2) [(sc A137 ((ix a6 (0:Int)).Dims) D137),(sc A138 ((ix a6 (0:Int)).Data) D138)]::RR kT3 A137 D137 ((ix a6 (0:Int)).Dims)::RR kT3 A138 D138 ((ix a6 (0:Int)).Data)::bxl b9 [(.slice none 0 0),(.slice none 0 0)] 58::W1) ?_
 refine c_some 7 sees_rd (show 0<n1.Ints.length by have:=hg139; omega) (fun g140 o141 ha=>?_)
 subst ha
 refine cdr 17 [3] mixo fun ht hn=>?_
 refine d2_ 0 [3] ?_
 refine dR 2 R (vz (.agg [(sc A137 ((ix a6 (0:Int)).Dims) D137),(sc A138 ((ix a6 (0:Int)).Data) D138)].toArray) (v_clfs (fo:=0) 0 ag58 sz58 R R R R)) (hS:=(sL [3])) ?_
 refine d12_ 3 [3] ?_
 refine d1 15 R (lM (rds _ _ _::rds _ _ _::cl _ _ _::rds _ _ _::rds _ _ _::bxl _ _ _::W1) (fun w s=>(((s.d 1 R).d 3 R).e 6 [1,0,2,3,4,5])) ?_)
 refine lC 2 cb87 R (Z0l_ok hx146) R ?_
 rintro ⟨⟨A147,N147,D147⟩,⟨A148,N148,D148⟩⟩
 refine lN (ow kT3 3 (.slice A147 N147 D147) r145.Dims::ow kT3 3 (.slice A148 N148 D148) r145.Data::_::_::_::_::W1) ?_
 refine l_len 0 sees_ow ?_
 rintro rfl
 refine l_len 1 sees_ow ?_
 rintro rfl
 refine l_nil (q_draw (sL [5,1,0]) (d1 16 R (l_stores 5 R R sz58 R R R R R R (lN (_::_::_::_::_::bxl b9 [(sc A147 r145.Dims D147),(sc A148 r145.Data D148)] 58::W1) ?_))))
 refine l_nil (q_draw (sL [5,1,0]) (dD ?_))
 refine o_4 ?_
 obtain rfl:=so hr
 exact qS ((A147,r145.Dims.length,D147),(A148,r145.Data.length,D148)) (tE 12 [0,1])
 refine o_7 ?_
 rcases bif_ hr with ⟨_,hr⟩|⟨_,hr⟩
 refine o_2 ?_
 obtain ⟨hg150,hr⟩:=gd hr
 obtain ⟨hg155,hr⟩:=gd hr
 obtain ⟨hg158,hr⟩:=gd hr
 obtain ⟨r160,hx161,hr⟩:=bd hr
 refine c_some 6 sees_rd (show 0<a6.length by have:=hg150; omega) (fun g151 o152 ha=>?_)
 subst ha
 refine c_elem (K:=kT58) 6 (0:Int) dT58.dec R hg150.1 hg150.2 ?_
 rintro ⟨⟨A153,D153⟩,⟨A154,D154⟩⟩
 refine cN (cl g151 (o152+(0:Int).toNat*2) [(sc A153 ((ix a6 (0:Int)).Dims) D153),(sc A154 ((ix a6 (0:Int)).Data) D154)]::RR kT3 A153 D153 ((ix a6 (0:Int)).Dims)::RR kT3 A154 D154 ((ix a6 (0:Int)).Data)::bxl b9 [(.slice none 0 0),(.slice none 0 0)] 58::W1) ?_
 refine c_some 7 sees_rd (show 0<n1.Ints.length by have:=hg155; omega) (fun g156 o157 ha=>?_)
 subst ha
 refine cdr 10 [3] mixo fun ht hn=>?_
 refine d2_ 0 [3] ?_
 refine dR 2 R (vz (.agg [(sc A153 ((ix a6 (0:Int)).Dims) D153),(sc A154 ((ix a6 (0:Int)).Data) D154)].toArray) (v_clfs (fo:=0) 0 ag58 sz58 R R R R)) (hS:=(sL [3])) ?_
 refine d4_ 3 [3] ?_
 refine d1 7 R (l_cut (K:=kT3) (1:Int) (n1.Ints.length:Int) 7 R R sl23 sz3 R R R R hg158.1 hg158.2.1 hg158.2.2 (fun A159 D159=>(l_nil (q_draw (sL [4,0]) (d1 8 R (lM (rds _ _ _::rds _ _ _::RR kT3 A159 D159 (sub n1.Ints (1:Int) (n1.Ints.length:Int))::RR kT3 A159 D159 (sub n1.Ints (1:Int) (n1.Ints.length:Int))::cl _ _ _::rds _ _ _::rds _ _ _::bxl _ _ _::W1) (fun w s=>((((s.d 2 R).d 4 R).d 2 R).e 8 [2,1,0,3,4,5,6,7])) ?_))))))
 refine lC 3 cb88 R (Z0k_ok hx161) R ?_
 rintro ⟨⟨A162,N162,D162⟩,⟨A163,N163,D163⟩⟩
 refine lN (ow kT3 3 (.slice A162 N162 D162) r160.Dims::ow kT3 3 (.slice A163 N163 D163) r160.Data::_::_::_::_::_::W1) ?_
 refine l_len 0 sees_ow ?_
 rintro rfl
 refine l_len 1 sees_ow ?_
 rintro rfl
 refine l_nil (q_draw (sL [6,2,1,0]) (d1 9 R (l_stores 6 R R sz58 R R R R R R (lN (_::_::_::_::_::_::bxl b9 [(sc A162 r160.Dims D162),(sc A163 r160.Data D163)] 58::W1) ?_))))
 refine l_nil (q_draw (sL [6,2,1,0]) (dD ?_))
 refine o_4 ?_
 obtain rfl:=so hr
 exact qS ((A162,r160.Dims.length,D162),(A163,r160.Data.length,D163)) (tE 13 [0,1])
 refine o_7 ?_
 rcases bif_ hr with ⟨_,hr⟩|⟨_,hr⟩
 refine o_2 ?_
 obtain ⟨hg165,hr⟩:=gd hr
 obtain ⟨hg170,hr⟩:=gd hr
 obtain ⟨hg173,hr⟩:=gd hr
 obtain ⟨_,hr⟩:=gd hr
 obtain ⟨r176,hx177,hr⟩:=bd hr
 refine c_some 6 sees_rd (show 0<a6.length by have:=hg165; omega) (fun g166 o167 ha=>?_)
 subst ha
 refine c_elem (K:=kT58) 6 (0:Int) dT58.dec R hg165.1 hg165.2 ?_
 rintro ⟨⟨A168,D168⟩,⟨A169,D169⟩⟩
 refine cN (cl g166 (o167+(0:Int).toNat*2) [(sc A168 ((ix a6 (0:Int)).Dims) D168),(sc A169 ((ix a6 (0:Int)).Data) D169)]::RR kT3 A168 D168 ((ix a6 (0:Int)).Dims)::RR kT3 A169 D169 ((ix a6 (0:Int)).Data)::bxl b9 [(.slice none 0 0),(.slice none 0 0)] 58::W1) ?_
 refine c_some 7 sees_rd (show 0<n1.Ints.length by have:=hg170; omega) (fun g171 o172 ha=>?_)
 subst ha
 refine cdr 13 [3] mixo fun ht hn=>?_
 refine d2_ 0 [3] ?_
 refine dR 2 R (vz (.agg [(sc A168 ((ix a6 (0:Int)).Dims) D168),(sc A169 ((ix a6 (0:Int)).Data) D169)].toArray) (v_clfs (fo:=0) 0 ag58 sz58 R R R R)) (hS:=(sL [3])) ?_
 refine d4_ 3 [3] ?_
 refine d3_ 8 [3] ?_
 refine d1 7 R (l_cut (K:=kT3) (2:Int) (n1.Ints.length:Int) 7 R R sl23 sz3 R R R R hg173.1 hg173.2.1 hg173.2.2 (fun A174 D174=>(l_nil (q_draw (sL [4,0]) (d1 11 R (lM (rds _ _ _::rds _ _ _::RR kT3 A174 D174 (sub n1.Ints (2:Int) (n1.Ints.length:Int))::RR kT3 A174 D174 (sub n1.Ints (2:Int) (n1.Ints.length:Int))::cl _ _ _::rds _ _ _::rds _ _ _::bxl _ _ _::W1) (fun w s=>((((s.d 2 R).d 4 R).d 2 R).e 8 [2,1,0,3,4,5,6,7])) ?_))))))
 refine lC 3 cb89 R (Z0m_ok hx177) R ?_
 rintro ⟨⟨A178,N178,D178⟩,⟨A179,N179,D179⟩⟩
 refine lN (ow kT3 3 (.slice A178 N178 D178) r176.Dims::ow kT3 3 (.slice A179 N179 D179) r176.Data::_::_::_::_::_::W1) ?_
 refine l_len 0 sees_ow ?_
 rintro rfl
 refine l_len 1 sees_ow ?_
 rintro rfl
 refine l_nil (q_draw (sL [6,2,1,0]) (d1 12 R (l_stores 6 R R sz58 R R R R R R (lN (_::_::_::_::_::_::bxl b9 [(sc A178 r176.Dims D178),(sc A179 r176.Data D179)] 58::W1) ?_))))
 refine l_nil (q_draw (sL [6,2,1,0]) (dD ?_))
 refine o_4 ?_
 obtain rfl:=so hr
 exact qS ((A178,r176.Dims.length,D178),(A179,r176.Data.length,D179)) (tE 13 [0,1])
 refine o_7 ?_
 rcases bif_ hr with ⟨_,hr⟩|⟨_,hr⟩
 refine o_2 ?_
 obtain ⟨hg181,hr⟩:=gd hr
 obtain ⟨r186,hx187,hr⟩:=bd hr
 obtain ⟨hg190,hr⟩:=gd hr
 obtain ⟨_,hr⟩:=gd hr
 obtain ⟨_,hr⟩:=gd hr
 obtain ⟨r195,hx196,hr⟩:=bd hr
 obtain ⟨r199,hx200,hr⟩:=bd hr
 refine c_some 6 sees_rd (show 0<a6.length by have:=hg181; omega) (fun g182 o183 ha=>?_)
 subst ha
 refine c_elem (K:=kT58) 6 (0:Int) dT58.dec R hg181.1 hg181.2 ?_
 rintro ⟨⟨A184,D184⟩,⟨A185,D185⟩⟩
 refine cN (cl g182 (o183+(0:Int).toNat*2) [(sc A184 ((ix a6 (0:Int)).Dims) D184),(sc A185 ((ix a6 (0:Int)).Data) D185)]::RR kT3 A184 D184 ((ix a6 (0:Int)).Dims)::RR kT3 A185 D185 ((ix a6 (0:Int)).Data)::bxl b9 [(.slice none 0 0),(.slice none 0 0)] 58::W1) ?_
 refine c_some 7 sees_rd (show 0<n1.Ints.length by have:=hg190; omega) (fun g191 o192 ha=>?_)
 subst ha
 refine cdr 20 [3] mixo fun ht hn=>?_
 refine d2_ 0 [3] ?_
 refine dR 2 R (vz (.agg [(sc A184 ((ix a6 (0:Int)).Dims) D184),(sc A185 ((ix a6 (0:Int)).Data) D185)].toArray) (v_clfs (fo:=0) 0 ag58 sz58 R R R R)) (hS:=(sL [3])) ?_
 refine d2_ 3 [3] ?_
 refine dR 5 R (vz (.pointer (some ⟨g182,o183+(0:Int).toNat*2,none⟩)) (v_fa fo58_0 R R)) (hS:=(sL [3])) (dR 6 R (v_clf (fo:=0) 0 ag23 R R R) (hS:=(sL [3])) ?_)
 refine d9_ 8 [3] ?_
 refine d1 7 R (lM (_::_::_::_::_::W1) (fun w s=>(s.d 1 R)) ?_)
 refine lC 1 cb84 R (Zw_ok hx187) R ?_
 rintro ⟨⟨A188,N188,D188⟩,⟨A189,N189,D189⟩⟩
 refine lN (rds kT3 (.slice A188 N188 D188) r186.Dims::ow kT3 3 (.slice A189 N189 D189) r186.Strides::_::_::_::_::W1) ?_
 refine l_len 0 sees_rd ?_
 rintro rfl
 refine l_len 1 sees_ow ?_
 rintro rfl
 refine l_nil (q_draw (sL [5,1,0]) (d1 17 R (l_st (fun w s=>s.shr 1 R) (lM (rds _ _ _::RR kT3 A189 D189 r186.Strides::RR kT3 A189 D189 r186.Strides::rds _ _ _::cl _ _ _::rds _ _ _::rds _ _ _::bxl _ _ _::W1) (fun w s=>(((s.d 1 R).d 1 R).f 8 [1,1,0,1,2,6])) ?_))))
 refine lC 2 cb90 R (Z0f_ok hx196) R ?_
 rintro ⟨⟨A197,N197,D197⟩,⟨A198,N198,D198⟩⟩
 refine lN (rds kT3 (.slice A197 N197 D197) r195.Dims::rds kT3 (.slice A198 N198 D198) r195.Strides::_::_::_::_::_::_::W1) ?_
 refine l_len 0 sees_rd ?_
 rintro rfl
 refine l_len 1 sees_rd ?_
 rintro rfl
 refine l_nil (q_draw (sL [7,3,2,1,0]) (d1 18 R (lM (rds _ _ _::rds _ _ _::rds _ _ _::rds _ _ _::rds _ _ _::rds _ _ _::rds _ _ _::rds _ _ _::cl _ _ _::rds _ _ _::rds _ _ _::bxl _ _ _::W1) (fun w s=>(((((s.d 5 R).d 7 R).d 2 R).d 4 R).f 12 [3,1,2,1,1,1,0,1,4,8])) ?_)))
 refine lC 4 cb82 R (Zy_ok hx200) R ?_
 rintro ⟨⟨A201,N201,D201⟩,⟨A202,N202,D202⟩⟩
 refine lN (ow kT3 3 (.slice A201 N201 D201) r199.Dims::ow kT3 3 (.slice A202 N202 D202) r199.Data::_::_::_::_::_::_::_::_::W1) ?_
 refine l_len 0 sees_ow ?_
 rintro rfl
 refine l_len 1 sees_ow ?_
 rintro rfl
 refine l_nil (q_draw (sL [9,5,4,3,2,1,0]) (d1 19 R (l_stores 9 R R sz58 R R R R R R (lN (_::_::_::_::_::_::_::_::_::bxl b9 [(sc A201 r199.Dims D201),(sc A202 r199.Data D202)] 58::W1) ?_))))
 refine l_nil (q_draw (sL [9,5,4,3,2,1,0]) (dD ?_))
 refine o_4 ?_
 obtain rfl:=so hr
 exact qS ((A201,r199.Dims.length,D201),(A202,r199.Data.length,D202)) (tE 16 [0,1])
 refine o_5 ?_
 obtain ⟨hg203,hr⟩:=gd hr
 obtain ⟨hg208,hr⟩:=gd hr
 obtain ⟨_,hr⟩:=gd hr
 obtain ⟨_,hr⟩:=gd hr
 obtain ⟨r213,hx214,hr⟩:=bd hr
 refine c_some 6 sees_rd (show 0<a6.length by have:=hg203; omega) (fun g204 o205 ha=>?_)
 subst ha
 refine c_elem (K:=kT58) 6 (0:Int) dT58.dec R hg203.1 hg203.2 ?_
 rintro ⟨⟨A206,D206⟩,⟨A207,D207⟩⟩
 refine cN (cl g204 (o205+(0:Int).toNat*2) [(sc A206 ((ix a6 (0:Int)).Dims) D206),(sc A207 ((ix a6 (0:Int)).Data) D207)]::RR kT3 A206 D206 ((ix a6 (0:Int)).Dims)::RR kT3 A207 D207 ((ix a6 (0:Int)).Data)::bxl b9 [(.slice none 0 0),(.slice none 0 0)] 58::W1) ?_
 refine c_some 7 sees_rd (show 0<n1.Ints.length by have:=hg208; omega) (fun g209 o210 ha=>?_)
 subst ha
 refine cdr 14 [3] mixo fun ht hn=>?_
 refine d2_ 0 [3] ?_
 refine dR 2 R (vz (.agg [(sc A206 ((ix a6 (0:Int)).Dims) D206),(sc A207 ((ix a6 (0:Int)).Data) D207)].toArray) (v_clfs (fo:=0) 0 ag58 sz58 R R R R)) (hS:=(sL [3])) ?_
 refine d9_ 3 [3] ?_
 refine d1 12 R (lM (rds _ _ _::rds _ _ _::cl _ _ _::rds _ _ _::rds _ _ _::bxl _ _ _::W1) (fun w s=>(((s.d 1 R).d 3 R).e 6 [1,0,2,3,4,5])) ?_)
 refine lC 2 cb91 R (Z0j_ok hx214) R ?_
 rintro ⟨⟨A215,N215,D215⟩,⟨A216,N216,D216⟩⟩
 refine lN (ow kT3 3 (.slice A215 N215 D215) r213.Dims::ow kT3 3 (.slice A216 N216 D216) r213.Data::_::_::_::_::W1) ?_
 refine l_len 0 sees_ow ?_
 rintro rfl
 refine l_len 1 sees_ow ?_
 rintro rfl
 refine l_nil (q_draw (sL [5,1,0]) (d1 13 R (l_stores 5 R R sz58 R R R R R R (lN (_::_::_::_::_::bxl b9 [(sc A215 r213.Dims D215),(sc A216 r213.Data D216)] 58::W1) ?_))))
 refine l_nil (q_draw (sL [5,1,0]) (dD ?_))
 refine o_2 ?_
 obtain rfl:=so hr
 exact qS ((A215,r213.Dims.length,D215),(A216,r213.Data.length,D216)) (tE 12 [0,1])
theorem Z0i_ok  {dims1:(List Int)}{p3:Int}{r:Tensor}(hr:Z0i dims1 p3=some r) :
 FnOk Tryz.prog 54 [(.slice A2 N2 D2),(iv p3)] [rds kT3 (.slice A2 N2 D2) dims1] (fun (h:HH×HH)=>((.agg [(s3 h.1),(s3 h.2)].toArray),[ow kT3 3 (s3 h.1) r.Dims,ow kT3 3 (s3 h.2) r.Data])):=by
 unfold Z0i at hr
 refine fn_ok Tryz.func54 R 27 R R fun C V=>?_
 refine cN (_::V) ?_
 refine cL 0 sees_rd ?_
 rintro rfl
 let W0:List HP:=RR kT3 A2 D2 dims1::V
 refine cN W0 ?_
 refine o_2 ?_
 refine l_alloc R R zc58 (fun b4=>(l_nil (q_next (c_seq (c_seq ?_)))))
 obtain ⟨r5,hx6,hr⟩:=bd hr
 refine o_2 ?_
 refine lM (RR kT3 A2 D2 dims1::_::W0) (fun w s=>(s.d 1 R)) ?_
 refine lC 1 cb92 R (Zk_ok hx6) R ?_
 rintro _
 refine lN (_::W0) ?_
 refine o_3 ?_
 rcases bif_ hr with ⟨_,hr⟩|⟨_,hr⟩
 refine o_3 ?_
 refine lO (vz (.agg [(.slice none 0 0),(.slice none 0 0)].toArray) (v_build pl58 zc58 R R)) (l_stores 0 R R sz58 R R R R R R (l_nil (q_next (c_ret (q_ret ?_)))))
 obtain rfl:=so hr
 exact qS ((none,0,0),(none,0,0)) (fun w s=>(((s.nilo kT3 3).nilo kT3 3).e 4 [1,0]))
 refine o_4 ?_
 obtain ⟨r8,hx9,hr⟩:=bd hr
 refine o_2 ?_
 refine lM (RR kT3 A2 D2 dims1::_::W0) (fun w s=>(s.d 1 R)) ?_
 refine lC 1 cb93 R (Z0b_ok hx9) R ?_
 rintro ⟨⟨A10,N10,D10⟩,⟨A11,N11,D11⟩⟩
 refine lN (ow kT3 3 (.slice A10 N10 D10) r8.Dims::ow kT3 3 (.slice A11 N11 D11) r8.Data::_::W0) ?_
 refine l_len 0 sees_ow ?_
 rintro rfl
 refine l_len 1 sees_ow ?_
 rintro rfl
 refine l_alloc R R zc58 (fun b12=>(l_stores 0 R R sz58 R R R R R R (lN (bxl b12 [(sc A10 r8.Dims D10),(sc A11 r8.Data D11)] 58::_::_::_::W0) ?_)))
 refine o_3 ?_
 refine c_cut (A:=((List Int))×(Unit)) (fun a=>Z0i_J1 r8 a.1=some r) (fun a=>[(4,(pt b4 0)),(5,(pt b12 0))]) (fun a=>bxl b4 [(.slice none 0 0),(.slice none 0 0)] 58::bxl b12 [(sc A10 r8.Dims D10),(sc A11 r8.Data D11)] 58::OO kT3 3 A10 D10 r8.Dims::ow kT3 3 (.slice A11 r8.Data.length D11) a.1::W0) ?_ ?_
 refine o_6 ?_
 obtain ⟨e1,hl1,hk1⟩:=bd hr
 refine c_loop (A:=Unit) hl1 (fun s a=>[(1,(iv p3)),(4,(pt b4 0)),(5,(pt b12 0)),(6,(iv s.2))]) (fun s a=>bxl b4 [(.slice none 0 0),(.slice none 0 0)] 58::bxl b12 [(sc A10 r8.Dims D10),(sc A11 r8.Data D11)] 58::OO kT3 3 A10 D10 r8.Dims::ow kT3 3 (.slice A11 r8.Data.length D11) s.1::W0) () (aS R) (tE 4 [3,0,1,2]) ?_
 rintro ⟨t19,i20⟩ _ σ1 out1 hr he1
 dsimp only [Z0i_L1] at hr
 refine o_10 ?_
 rcases bif_ hr with ⟨_,hr⟩|⟨_,hr⟩
 refine o_5 ?_
 obtain ⟨r22,hx23,hr⟩:=bd hr
 obtain ⟨hg24,hr⟩:=gd hr
 refine c_some 3 sees_ow (show 0<r8.Data.length by have:=hg24; omega) (fun g25 o26 ha=>?_)
 subst ha
 refine cdr 7 [3] mixo fun ht hn=>?_
 refine d4_ 0 [3] ?_
 refine d1 4 R (lC 0 cb94 R (Zm_ok hx23) R ?_)
 rintro _
 refine lN (_::bxl b12 [(sc A10 r8.Dims D10),(sc (ad g25 o26) r8.Data D11)] 58::_::ow kT3 3 (.slice (ad g25 o26) r8.Data.length D11) t19::W0) ?_
 refine l_nil (q_draw (sL [3]) ?_)
 refine d1_ 5 [3] ?_
 refine d1 6 R (lM (ow _ _ _ _::bxl _ _ _::bxl _ _ _::ow _ _ _ _::W0) (tE 4 [3,0,1,2]) ?_)
 refine l_stx (K:=kT3) (x':=r22) 0 i20 R R sz3 R R hg24.1 hg24.2 ?_ ?_
 exact fun I h s=>(mO3).put I h () r22 s
 refine lN (ow kT3 3 (.slice (ad g25 o26) r8.Data.length D11) (t19.set i20.toNat r22)::_::_::_::W0) ?_
 refine l_nil (q_draw (sL [0]) (dD ?_))
 refine o_7 ?_
 obtain rfl:=so hr
 exact qA () (tE 4 [1,2,3,0])
 refine o_3 ?_
 obtain rfl:=so hr
 obtain rfl:=he1 _ R
 have hr:=hk1
 refine o_2 ?_
 exact qI (t19,()) hr tI
 rintro ⟨t29,_⟩ σ1 hr
 dsimp only [Z0i_J1] at hr
 refine o_3 ?_
 refine l_stores 0 R R sz58 R R R R R R (lN (bxl b4 [(sc A10 r8.Dims D10),(sc A11 r8.Data D11)] 58::bxl b12 [(sc A10 r8.Dims D10),(sc A11 r8.Data D11)] 58::_::ow kT3 3 (.slice A11 r8.Data.length D11) t29::W0) ?_)
 refine o_3 ?_
 obtain rfl:=so hr
 exact qS ((A10,r8.Dims.length,D10),(A11,r8.Data.length,D11)) (tE 5 [2,3])
end Go.Proofs.YtmpnollfdpdipaaGreat
