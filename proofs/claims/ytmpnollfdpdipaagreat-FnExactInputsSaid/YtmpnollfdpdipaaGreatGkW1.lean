import Derived.Test.YtmpnollfdpdipaaGreatGkF
set_option linter.unusedVariables false
set_option maxRecDepth 20000
namespace Go.Proofs.YtmpnollfdpdipaaGreat
open Go Go.Pg
variable {A2 A3 A4 A5 A6 A7 A8 A9 A10:Option Addr}{D2 D3 D4 D5 D6 D7 D8 D9 D10 N2 N3 N4 N5 N6 N7 N8 N9 N10:Nat}
theorem Z1e_ok  {a1:(List Int)}{left3:Int}{r:Int}(hr:Z1e a1 left3=some r) :
 FnOk Tryz.prog 33 [(.slice A2 N2 D2),(iv left3)] [rds kT3 (.slice A2 N2 D2) a1] (fun (h:Unit)=>((iv r),[])):=by
 unfold Z1e at hr
 refine fn_ok Tryz.func33 R 12 R R fun C V=>?_
 refine cL 0 sees_rd ?_
 rintro rfl
 let W0:=RR kT3 A2 D2 a1::V
 refine cN W0 ?_
 refine o_21 ?_
 split at hr
 refine o_8 ?_
 cases hr
 exact qF () (tE 1 [])
 refine o_10 ?_
 cases hr
 exact qF () (tE 1 [])
theorem Z2g_ok  {a1:Node}{left6:Int}{r:Int}(hr:Z2g a1 left6=some r) :
 FnOk Tryz.prog 50 [(.agg [(iv a1.Op),(.slice A2 N2 D2),(.slice A3 N3 D3),(.slice A4 N4 D4),(vstr a1.Form),(.slice A5 N5 D5)].toArray),(iv left6)] [rds kT3 (.slice A2 N2 D2) a1.Args,rds kT3 (.slice A3 N3 D3) a1.Dims,rds kT3 (.slice A4 N4 D4) a1.Ints,rds kT3 (.slice A5 N5 D5) a1.Data] (fun (h:Unit)=>((iv r),[])):=by
 unfold Z2g at hr
 refine fn_ok Tryz.func50 R 37 R R fun C V=>?_
 refine cL 0 sees_rd ?_
 rintro rfl
 refine cL 1 sees_rd ?_
 rintro rfl
 refine cL 2 sees_rd ?_
 rintro rfl
 refine cL 3 sees_rd ?_
 rintro rfl
 let W0:=RR kT3 A2 D2 a1.Args::RR kT3 A3 D3 a1.Dims::RR kT3 A4 D4 a1.Ints::RR kT3 A5 D5 a1.Data::V
 refine cN W0 ?_
 refine o_2 ?_
 refine lBx R fun b7=>?_
 refine o_2 ?_
 let W1:=bxl b7 [(iv a1.Op),(sc A2 a1.Args D2),(sc A3 a1.Dims D3),(sc A4 a1.Ints D4),(vstr a1.Form),(sc A5 a1.Data D5)] 70::W0
 refine qN W1 ?_
 refine o_2 ?_
 obtain ⟨r8,hx9,hr⟩:=bd hr
 refine o_4 ?_
 refine lM _ (fun w s=>(s.d 1 R)) ?_
 refine lC 1 cb33 R (Z1e_ok hx9) R ?_
 rintro _
 refine lN W1 ?_
 refine o_10 ?_
 split at hr
 refine o_8 ?_
 cases hr
 exact qF () (tE 5 [])
 refine o_4 ?_
 obtain ⟨r11,hx12,hr⟩:=bd hr
 refine o_4 ?_
 refine lM _ (fun w s=>(s.d 2 R)) ?_
 refine lC 1 cb33 R (Z1e_ok hx12) R ?_
 rintro _
 refine lN W1 ?_
 refine o_10 ?_
 split at hr
 refine o_8 ?_
 cases hr
 exact qF () (tE 5 [])
 refine o_4 ?_
 obtain ⟨r14,hx15,hr⟩:=bd hr
 refine o_4 ?_
 refine lM _ (fun w s=>(s.d 3 R)) ?_
 refine lC 1 cb33 R (Z1e_ok hx15) R ?_
 rintro _
 refine lN W1 ?_
 refine o_10 ?_
 split at hr
 refine o_8 ?_
 cases hr
 exact qF () (tE 5 [])
 refine o_8 ?_
 refine lO (vz (il a1.Form) (v_slen un9 R)) ?_
 refine o_11 ?_
 split at hr
 refine o_8 ?_
 cases hr
 exact qF () (tE 5 [])
 refine o_4 ?_
 obtain ⟨r18,hx19,hr⟩:=bd hr
 refine o_4 ?_
 refine lM _ (fun w s=>(s.d 4 R)) ?_
 refine lC 1 cb33 R (Z1e_ok hx19) R ?_
 rintro _
 refine lN W1 ?_
 refine o_10 ?_
 split at hr
 refine o_8 ?_
 cases hr
 exact qF () (tE 5 [])
 refine o_10 ?_
 cases hr
 exact qF () (tE 5 [])
theorem Z15_ok  {a1:(List Node)}{left3:Int}{r:Int}(hr:Z15 a1 left3=some r) :
 FnOk Tryz.prog 32 [(.slice A2 N2 D2),(iv left3)] [rds kT70 (.slice A2 N2 D2) a1] (fun (h:Unit)=>((iv r),[])):=by
 unfold Z15 at hr
 refine fn_ok Tryz.func32 R 27 R R fun C V=>?_
 refine cL 0 sees_rd ?_
 rintro rfl
 let W0:=RR kT70 A2 D2 a1::V
 refine cN W0 ?_
 refine o_21 ?_
 split at hr
 refine o_8 ?_
 cases hr
 exact qF () (tE 1 [])
 refine o_4 ?_
 refine c_cut (A:=(Int)×(Unit)) (fun a=>Z15_J1 a.1=some r) (fun a=>[(1,(iv a.1))]) (fun a=>W0) ?_ ?_
 refine o_6 ?_
 obtain ⟨e1,hl1,hk1⟩:=bd hr
 refine c_loop (A:=Unit) hl1 (fun s a=>[(0,(sc A2 a1 D2)),(1,(iv s.1)),(5,(iv s.2))]) (fun s a=>W0) () (aS R) tI ?_
 rintro ⟨left16,i17⟩ _ σ1 out1 hr he1
 dsimp only [Z15_L1] at hr
 refine o_9 ?_
 split at hr
 refine o_6 ?_
 obtain ⟨hg19,hr⟩:=gd hr
 obtain ⟨r26,hx27,hr⟩:=bd hr
 refine o_3 ?_
 refine t_some 0 sees_rd (show 0<a1.length by have:=hg19; omega) (fun g20 o21 ha=>?_)
 subst ha
 refine o_1 ?_
 refine t_elem (K:=kT70) 0 i17 dT70.dec R hg19.1 hg19.2 ?_
 rintro ⟨-,⟨A22,D22⟩,⟨A23,D23⟩,⟨A24,D24⟩,-,⟨A25,D25⟩⟩
 refine lO (vz (.agg [(iv (ix a1 i17).Op),(sc A22 ((ix a1 i17).Args) D22),(sc A23 ((ix a1 i17).Dims) D23),(sc A24 ((ix a1 i17).Ints) D24),(vstr (ix a1 i17).Form),(sc A25 ((ix a1 i17).Data) D25)].toArray) (v_clfs (fo:=0) 0 ag70 sz70 R R R R)) (lI R (lM _ (fun w s=>(((((s.d 1 R).d 3 R).d 5 R).d 7 R).e 9 [3,2,1,0,4,5,6,7,8])) ?_))
 refine lC 4 cb50 R (Z2g_ok hx27) R ?_
 rintro _
 refine o_9 ?_
 split at hr
 refine o_9 ?_
 cases hr
 obtain rfl:=he1 _ R
 have hr:=hk1
 refine o_3 ?_
 cases hr
 exact qF () (tE 6 [])
 refine o_9 ?_
 cases hr
 exact qA () (tE 5 [])
 refine o_3 ?_
 cases hr
 obtain rfl:=he1 _ R
 have hr:=hk1
 refine o_2 ?_
 exact qI (left16,()) hr tI
 rintro ⟨left31,_⟩ σ1 hr
 dsimp only [Z15_J1] at hr
 refine o_7 ?_
 cases hr
 exact qF () (tE 1 [])
theorem Z2s_ok  {a1:Graph}{left4:Int}{r:Int}(hr:Z2s a1 left4=some r) :
 FnOk Tryz.prog 9 [(.agg [(.slice A2 N2 D2),(.slice A3 N3 D3)].toArray),(iv left4)] [rds kT70 (.slice A2 N2 D2) a1.Nodes,rds kT3 (.slice A3 N3 D3) a1.Outs] (fun (h:Unit)=>((iv r),[])):=by
 unfold Z2s at hr
 refine fn_ok Tryz.func9 R 18 R R fun C V=>?_
 refine cL 0 sees_rd ?_
 rintro rfl
 refine cL 1 sees_rd ?_
 rintro rfl
 let W0:=RR kT70 A2 D2 a1.Nodes::RR kT3 A3 D3 a1.Outs::V
 refine cN W0 ?_
 refine o_2 ?_
 refine lBx R fun b5=>?_
 refine o_2 ?_
 let W1:=bxl b5 [(sc A2 a1.Nodes D2),(sc A3 a1.Outs D3)] 25::W0
 refine qN W1 ?_
 refine o_2 ?_
 obtain ⟨r6,hx7,hr⟩:=bd hr
 refine o_4 ?_
 refine lM _ (fun w s=>(s.d 1 R)) ?_
 refine lC 1 cb32 R (Z15_ok hx7) R ?_
 rintro _
 refine lN W1 ?_
 refine o_10 ?_
 split at hr
 refine o_8 ?_
 cases hr
 exact qF () (tE 3 [])
 refine o_4 ?_
 obtain ⟨r9,hx10,hr⟩:=bd hr
 refine o_4 ?_
 refine lM _ (fun w s=>(s.d 2 R)) ?_
 refine lC 1 cb33 R (Z1e_ok hx10) R ?_
 rintro _
 refine lN W1 ?_
 refine o_10 ?_
 split at hr
 refine o_8 ?_
 cases hr
 exact qF () (tE 3 [])
 refine o_10 ?_
 cases hr
 exact qF () (tE 3 [])
theorem Z05_ok  {a1:(List Int)}{r:(List Int)}(hr:Z05 a1=some r) :
 FnOk Tryz.prog 28 [(.slice A2 N2 D2)] [rds kT3 (.slice A2 N2 D2) a1] (fun (h:HH)=>((s3 h),[ow kT3 3 (s3 h) r])):=by
 unfold Z05 at hr
 refine fn_ok Tryz.func28 R 22 R R fun C V=>?_
 refine cL 0 sees_rd ?_
 rintro rfl
 let W0:=RR kT3 A2 D2 a1::V
 refine cN W0 ?_
 refine o_6 ?_
 obtain ⟨hg3,hr⟩:=gd hr
 refine o_3 ?_
 refine l_make (K:=kT3) (m:=(a1.length:Int)) (z:=(0:Int)) R R sl23 sz3 by3 (Zr.zk zT3 zc3) (by decide) R R hg3.1 hg3.2.1 hg3.2.2 (fun A4 D4=>(lS R (l_nil (q_next (c_seq (c_cut (A:=((List Int))×(Unit)) (fun a=>Z05_J1 a.1=some r) (fun a=>[(3,(sc A4 (List.replicate (a1.length:Int).toNat (0:Int)) D4))]) (fun a=>ow kT3 3 (.slice A4 (List.replicate (a1.length:Int).toNat (0:Int)).length D4) a.1::W0) ?_ ?_))))))
 refine o_6 ?_
 obtain ⟨e1,hl1,hk1⟩:=bd hr
 refine c_loop (A:=Unit) hl1 (fun s a=>[(0,(sc A2 a1 D2)),(3,(sc A4 (List.replicate (a1.length:Int).toNat (0:Int)) D4)),(4,(iv s.2))]) (fun s a=>ow kT3 3 (.slice A4 (List.replicate (a1.length:Int).toNat (0:Int)).length D4) s.1::W0) () (aS R) tI ?_
 rintro ⟨x14,i15⟩ _ σ1 out1 hr he1
 dsimp only [Z05_L1] at hr
 refine o_9 ?_
 split at hr
 refine o_5 ?_
 obtain ⟨hg17,hr⟩:=gd hr
 obtain ⟨hg20,hr⟩:=gd hr
 refine o_5 ?_
 refine t_some 1 sees_rd (show 0<a1.length by have:=hg17; omega) (fun g18 o19 ha=>?_)
 subst ha
 refine o_2 ?_
 refine t_some 0 sees_ow (show 0<(List.replicate (a1.length:Int).toNat (0:Int)).length by have:=hg20; omega) (fun g21 o22 ha=>?_)
 subst ha
 refine o_1 ?_
 refine l_stx (K:=kT3) (x':=(ix a1 i15)) 0 i15 R R sz3 R R hg20.1 hg20.2 ?_ ?_
 exact fun I h s=>(mO3).put I h () (ix a1 i15) s
 refine o_8 ?_
 cases hr
 exact qA () tI
 refine o_3 ?_
 cases hr
 obtain rfl:=he1 _ R
 have hr:=hk1
 refine o_2 ?_
 exact qI (x14,()) hr tI
 rintro ⟨x25,_⟩ σ1 hr
 dsimp only [Z05_J1] at hr
 refine o_7 ?_
 cases hr
 exact qF (A4,(List.replicate (a1.length:Int).toNat (0:Int)).length,D4) (tE 2 [0])
theorem Z2t_ok  {a1:Node}{r:Node}(hr:Z2t a1=some r) :
 FnOk Tryz.prog 58 [(.agg [(iv a1.Op),(.slice A2 N2 D2),(.slice A3 N3 D3),(.slice A4 N4 D4),(vstr a1.Form),(.slice A5 N5 D5)].toArray)] [rds kT3 (.slice A2 N2 D2) a1.Args,rds kT3 (.slice A3 N3 D3) a1.Dims,rds kT3 (.slice A4 N4 D4) a1.Ints,rds kT3 (.slice A5 N5 D5) a1.Data] (fun (h:HH×HH×HH×HH)=>((.agg [(iv r.Op),(s3 h.1),(s3 h.2.1),(s3 h.2.2.1),(vstr r.Form),(s3 h.2.2.2)].toArray),[ow kT3 3 (s3 h.1) r.Args,ow kT3 3 (s3 h.2.1) r.Dims,ow kT3 3 (s3 h.2.2.1) r.Ints,ow kT3 3 (s3 h.2.2.2) r.Data])):=by
 unfold Z2t at hr
 refine fn_ok Tryz.func58 R 27 R R fun C V=>?_
 refine cL 0 sees_rd ?_
 rintro rfl
 refine cL 1 sees_rd ?_
 rintro rfl
 refine cL 2 sees_rd ?_
 rintro rfl
 refine cL 3 sees_rd ?_
 rintro rfl
 let W0:=RR kT3 A2 D2 a1.Args::RR kT3 A3 D3 a1.Dims::RR kT3 A4 D4 a1.Ints::RR kT3 A5 D5 a1.Data::V
 refine cN W0 ?_
 refine o_2 ?_
 refine lBx R fun b6=>?_
 refine l_alloc R R zc54 (fun b7=>(l_nil ?_))
 let W1:=bxl b6 [(iv a1.Op),(sc A2 a1.Args D2),(sc A3 a1.Dims D3),(sc A4 a1.Ints D4),(vstr a1.Form),(sc A5 a1.Data D5)] 70::W0
 refine o_3 ?_
 refine l_alloc R R zc54 (fun b8=>(l_nil (q_next (c_seq (c_region (lO (vFa 0 fo70_0 R) (lO (vLd 2 ag3 R R R) (lO (vFa 0 fo54_0 R) (l_store 0 R R sz3 R R R R R (lN (bxl b8 [(iv a1.Op),(.slice none 0 0),(.slice none 0 0),(.slice none 0 0),(vstr ([]:Str)),(.slice none 0 0)] 54::_::W1) ?_))))))))))
 refine o_3 ?_
 obtain ⟨r9,hx10,hr⟩:=bd hr
 refine o_3 ?_
 refine lM _ (fun w s=>(s.d 3 R)) ?_
 refine lC 1 cb28 R (Z05_ok hx10) R ?_
 rintro ⟨A11,N11,D11⟩
 refine l_len 0 sees_ow ?_
 rintro rfl
 refine o_1 ?_
 refine l_store 1 R R sz23 R R R R R (lN (_::bxl b8 [(iv a1.Op),(sc A11 r9 D11),(.slice none 0 0),(.slice none 0 0),(vstr ([]:Str)),(.slice none 0 0)] 54::_::W1) ?_)
 refine o_3 ?_
 obtain ⟨r12,hx13,hr⟩:=bd hr
 refine o_3 ?_
 refine lM _ (fun w s=>(s.d 5 R)) ?_
 refine lC 1 cb28 R (Z05_ok hx13) R ?_
 rintro ⟨A14,N14,D14⟩
 refine l_len 0 sees_ow ?_
 rintro rfl
 refine o_1 ?_
 refine l_store 2 R R sz23 R R R R R (lN (_::_::bxl b8 [(iv a1.Op),(sc A11 r9 D11),(sc A14 r12 D14),(.slice none 0 0),(vstr ([]:Str)),(.slice none 0 0)] 54::_::W1) ?_)
 refine o_3 ?_
 obtain ⟨r15,hx16,hr⟩:=bd hr
 refine o_3 ?_
 refine lM _ (fun w s=>(s.d 7 R)) ?_
 refine lC 1 cb28 R (Z05_ok hx16) R ?_
 rintro ⟨A17,N17,D17⟩
 refine l_len 0 sees_ow ?_
 rintro rfl
 refine o_1 ?_
 refine l_store 3 R R sz23 R R R R R (lN (_::_::_::bxl b8 [(iv a1.Op),(sc A11 r9 D11),(sc A14 r12 D14),(sc A17 r15 D17),(vstr ([]:Str)),(.slice none 0 0)] 54::_::W1) ?_)
 refine o_7 ?_
 refine l_store 3 R R sz9 R R R R R (lN (_::_::_::bxl b8 [(iv a1.Op),(sc A11 r9 D11),(sc A14 r12 D14),(sc A17 r15 D17),(vstr a1.Form),(.slice none 0 0)] 54::_::W1) ?_)
 refine o_3 ?_
 obtain ⟨r18,hx19,hr⟩:=bd hr
 refine o_3 ?_
 refine lM _ (fun w s=>(s.d 9 R)) ?_
 refine lC 1 cb28 R (Z05_ok hx19) R ?_
 rintro ⟨A20,N20,D20⟩
 refine l_len 0 sees_ow ?_
 rintro rfl
 refine o_1 ?_
 refine l_store 4 R R sz23 R R R R R (lN (_::_::_::_::bxl b8 [(iv a1.Op),(sc A11 r9 D11),(sc A14 r12 D14),(sc A17 r15 D17),(vstr a1.Form),(sc A20 r18 D20)] 54::_::W1) ?_)
 refine o_5 ?_
 refine l_stores 5 R R sz54 R R R R R R (lN (_::_::_::_::_::bxl b7 [(iv a1.Op),(sc A11 r9 D11),(sc A14 r12 D14),(sc A17 r15 D17),(vstr a1.Form),(sc A20 r18 D20)] 54::W1) ?_)
 refine o_3 ?_
 cases hr
 exact qS ((A11,r9.length,D11),(A14,r12.length,D14),(A17,r15.length,D17),(A20,r18.length,D20)) (tE 11 [3,2,1,0])
theorem Z0n_ok  {a1:(List Node)}{r:(List Node)}(hr:Z0n a1=some r) :
 FnOk Tryz.prog 35 [(.slice A2 N2 D2)] [rds kT70 (.slice A2 N2 D2) a1] (fun (h:HH)=>((s3 h),[ow kT54 54 (s3 h) r])):=by
 unfold Z0n at hr
 refine fn_ok Tryz.func35 R 23 R R fun C V=>?_
 refine cL 0 sees_rd ?_
 rintro rfl
 let W0:=RR kT70 A2 D2 a1::V
 refine cN W0 ?_
 refine o_6 ?_
 obtain ⟨hg3,hr⟩:=gd hr
 refine o_3 ?_
 refine l_make (K:=kT54) (m:=(a1.length:Int)) (z:=zT54.z) R R sl28 sz54 by54 (Zr.zk zT54 zc54) (by decide) R R hg3.1 hg3.2.1 hg3.2.2 (fun A4 D4=>(lS R (l_nil (q_next (c_seq (c_cut (A:=((List Node))×(Unit)) (fun a=>Z0n_J1 a.1=some r) (fun a=>[(3,(sc A4 (List.replicate (a1.length:Int).toNat zT54.z) D4))]) (fun a=>ow kT54 54 (.slice A4 (List.replicate (a1.length:Int).toNat zT54.z).length D4) a.1::W0) ?_ ?_))))))
 refine o_6 ?_
 obtain ⟨e1,hl1,hk1⟩:=bd hr
 refine c_loop (A:=Unit) hl1 (fun s a=>[(0,(sc A2 a1 D2)),(3,(sc A4 (List.replicate (a1.length:Int).toNat zT54.z) D4)),(4,(iv s.2))]) (fun s a=>ow kT54 54 (.slice A4 (List.replicate (a1.length:Int).toNat zT54.z).length D4) s.1::W0) () (aS R) tI ?_
 rintro ⟨x24,i25⟩ _ σ1 out1 hr he1
 dsimp only [Z0n_L1] at hr
 refine o_9 ?_
 split at hr
 refine o_5 ?_
 obtain ⟨hg27,hr⟩:=gd hr
 obtain ⟨r34,hx35,hr⟩:=bd hr
 obtain ⟨hg40,hr⟩:=gd hr
 refine o_5 ?_
 refine t_some 1 sees_rd (show 0<a1.length by have:=hg27; omega) (fun g28 o29 ha=>?_)
 subst ha
 refine o_1 ?_
 refine t_elem (K:=kT70) 1 i25 dT70.dec R hg27.1 hg27.2 ?_
 rintro ⟨-,⟨A30,D30⟩,⟨A31,D31⟩,⟨A32,D32⟩,-,⟨A33,D33⟩⟩
 refine lO (vz (.agg [(iv (ix a1 i25).Op),(sc A30 ((ix a1 i25).Args) D30),(sc A31 ((ix a1 i25).Dims) D31),(sc A32 ((ix a1 i25).Ints) D32),(vstr (ix a1 i25).Form),(sc A33 ((ix a1 i25).Data) D33)].toArray) (v_clfs (fo:=0) 0 ag70 sz70 R R R R)) (lM _ (fun w s=>(((((s.d 1 R).d 3 R).d 5 R).d 7 R).e 10 [3,2,1,0,4,5,6,7,8,9])) ?_)
 refine lC 4 cb58 R (Z2t_ok hx35) R ?_
 rintro ⟨⟨A36,N36,D36⟩,⟨A37,N37,D37⟩,⟨A38,N38,D38⟩,⟨A39,N39,D39⟩⟩
 refine l_len 0 sees_ow ?_
 rintro rfl
 refine l_len 1 sees_ow ?_
 rintro rfl
 refine l_len 2 sees_ow ?_
 rintro rfl
 refine l_len 3 sees_ow ?_
 rintro rfl
 refine t_some 9 sees_ow (show 0<(List.replicate (a1.length:Int).toNat zT54.z).length by have:=hg40; omega) (fun g41 o42 ha=>?_)
 subst ha
 refine o_1 ?_
 refine lM _ (fun w s=>(s.f 10 [9,1,0,9])) ?_
 refine l_stx (K:=kT54) (x':=r34) 4 i25 R R sz54 R R hg40.1 hg40.2 ?_ ?_
 exact fun I h s=>(mO54).put I h ((),(sc A36 r34.Args D36),(sc A37 r34.Dims D37),(sc A38 r34.Ints D38),(),(sc A39 r34.Data D39)) r34 s
 refine o_8 ?_
 cases hr
 exact qA () (tE 6 [0])
 refine o_3 ?_
 cases hr
 obtain rfl:=he1 _ R
 have hr:=hk1
 refine o_2 ?_
 exact qI (x24,()) hr tI
 rintro ⟨x45,_⟩ σ1 hr
 dsimp only [Z0n_J1] at hr
 refine o_7 ?_
 cases hr
 exact qF (A4,(List.replicate (a1.length:Int).toNat zT54.z).length,D4) (tE 2 [0])
theorem Z16_ok  {a1:Graph}{r:Graph}(hr:Z16 a1=some r) :
 FnOk Tryz.prog 11 [(.agg [(.slice A2 N2 D2),(.slice A3 N3 D3)].toArray)] [rds kT70 (.slice A2 N2 D2) a1.Nodes,rds kT3 (.slice A3 N3 D3) a1.Outs] (fun (h:HH×HH)=>((.agg [(s3 h.1),(s3 h.2)].toArray),[ow kT54 54 (s3 h.1) r.Nodes,ow kT3 3 (s3 h.2) r.Outs])):=by
 unfold Z16 at hr
 refine fn_ok Tryz.func11 R 13 R R fun C V=>?_
 refine cL 0 sees_rd ?_
 rintro rfl
 refine cL 1 sees_rd ?_
 rintro rfl
 let W0:=RR kT70 A2 D2 a1.Nodes::RR kT3 A3 D3 a1.Outs::V
 refine cN W0 ?_
 refine o_2 ?_
 refine lBx R fun b4=>?_
 refine l_alloc R R zc30 (fun b5=>(l_nil ?_))
 let W1:=bxl b4 [(sc A2 a1.Nodes D2),(sc A3 a1.Outs D3)] 25::W0
 refine o_3 ?_
 refine l_alloc R R zc30 (fun b6=>(l_nil (q_next (c_seq ?_))))
 obtain ⟨r7,hx8,hr⟩:=bd hr
 refine o_3 ?_
 refine lM _ (fun w s=>(s.d 3 R)) ?_
 refine lC 1 cb35 R (Z0n_ok hx8) R ?_
 rintro ⟨A9,N9,D9⟩
 refine l_len 0 sees_ow ?_
 rintro rfl
 refine o_1 ?_
 refine l_store 1 R R sz28 R R R R R (lN (_::bxl b6 [(sc A9 r7 D9),(.slice none 0 0)] 30::_::W1) ?_)
 refine o_3 ?_
 obtain ⟨r10,hx11,hr⟩:=bd hr
 refine o_3 ?_
 refine lM _ (fun w s=>(s.d 5 R)) ?_
 refine lC 1 cb28 R (Z05_ok hx11) R ?_
 rintro ⟨A12,N12,D12⟩
 refine l_len 0 sees_ow ?_
 rintro rfl
 refine o_1 ?_
 refine l_store 2 R R sz23 R R R R R (lN (_::_::bxl b6 [(sc A9 r7 D9),(sc A12 r10 D12)] 30::_::W1) ?_)
 refine o_5 ?_
 refine l_stores 3 R R sz30 R R R R R R (lN (_::_::_::bxl b5 [(sc A9 r7 D9),(sc A12 r10 D12)] 30::W1) ?_)
 refine o_3 ?_
 cases hr
 exact qS ((A9,r7.length,D9),(A12,r10.length,D12)) (tE 7 [1,0])
theorem internal_stringslite_Index_ok  {s1 s2:Str}{mG:Int}{r:Int}(hr:internal_stringslite_Index s1 s2=some r) :
 FnOk Tryz.prog 162 [(vstr s1),(vstr s2)] [gl 0 mG] (fun (_:Unit)=>((iv r),[])):=by
 unfold internal_stringslite_Index at hr
 obtain ⟨hg,hr⟩:=gd hr
 obtain rfl:=so hr
 exact fn_gl fun w hm=>Tryz.stringslite_Index ⟨s1.toArray⟩ ⟨s2.toArray⟩ mG w (by simpa [ByteArray.size] using hg) hm
theorem Z29_ok  {p1:Str}{substr2:Str}{mG:Int}{r:Int}(hr:Z29 p1 substr2=some r) :
 FnOk Tryz.prog 154 [(vstr p1),(vstr substr2)] [gl 0 mG] (fun (h:Unit)=>((iv r),[])):=by
 unfold Z29 at hr
 refine fn_ok Tryz.func154 R 8 R R fun C V=>?_
 let W0:=gl 0 mG::V
 refine cN W0 ?_
 refine o_6 ?_
 obtain ⟨r3,hx4,hr⟩:=bd hr
 refine c_region (lO (vp (vstr p1) R) (lO (vp (vstr substr2) R) (lM _ (fun w s=>(s.dg 0 R)) ?_)))
 refine lC 1 cb162 R (internal_stringslite_Index_ok hx4) R ?_
 rintro _
 refine lN W0 ?_
 refine o_4 ?_
 cases hr
 exact qF () (tE 1 [])
theorem Z3n_ok  {p1:Str}{substr2:Str}{mG:Int}{r:Bool}(hr:Z3n p1 substr2=some r) :
 FnOk Tryz.prog 136 [(vstr p1),(vstr substr2)] [gl 0 mG] (fun (h:Unit)=>((.bool r),[])):=by
 unfold Z3n at hr
 refine fn_ok Tryz.func136 R 9 R R fun C V=>?_
 let W0:=gl 0 mG::V
 refine cN W0 ?_
 refine o_6 ?_
 obtain ⟨r3,hx4,hr⟩:=bd hr
 refine c_region (lO (vp (vstr p1) R) (lO (vp (vstr substr2) R) (lM _ (fun w s=>(s.dg 0 R)) ?_)))
 refine lC 1 cb154 R (Z29_ok hx4) R ?_
 rintro _
 refine lN W0 ?_
 refine o_5 ?_
 cases hr
 exact qF () (tE 1 [])
theorem Z0y_ok  {s11:(List Int)}{s23:(List Int)}{r:Bool}(hr:Z0y s11 s23=some r) :
 FnOk Tryz.prog 199 [(.slice A2 N2 D2),(.slice A4 N4 D4)] [rds kT3 (.slice A2 N2 D2) s11,rds kT3 (.slice A4 N4 D4) s23] (fun (h:Unit)=>((.bool r),[])):=by
 unfold Z0y at hr
 refine fn_ok Tryz.func199 R 26 R R fun C V=>?_
 refine cL 0 sees_rd ?_
 rintro rfl
 refine cL 1 sees_rd ?_
 rintro rfl
 let W0:=RR kT3 A2 D2 s11::RR kT3 A4 D4 s23::V
 refine cN W0 ?_
 refine o_15 ?_
 split at hr
 refine o_8 ?_
 cases hr
 exact qF () (tE 2 [])
 refine o_4 ?_
 refine c_cut (A:=(Unit)×(Unit)) (fun a=>Z0y_J1=some r) (fun a=>[]) (fun a=>W0) ?_ ?_
 refine o_8 ?_
 obtain ⟨e1,hl1,hk1⟩:=bd hr
 refine c_loop (A:=Unit) hl1 (fun s a=>[(0,(sc A2 s11 D2)),(1,(sc A4 s23 D4)),(12,(il s11)),(13,(iv s))]) (fun s a=>W0) () (aS R) tI ?_
 rintro x14 _ σ1 out1 hr he1
 dsimp only [Z0y_L1] at hr
 refine o_6 ?_
 split at hr
 refine o_12 ?_
 obtain ⟨hg16,hr⟩:=gd hr
 obtain ⟨hg19,hr⟩:=gd hr
 refine c_some 0 sees_rd (show 0<s11.length by have:=hg16; omega) (fun g17 o18 ha=>?_)
 subst ha
 refine c_some 1 sees_rd (show 0<s23.length by have:=hg19; omega) (fun g20 o21 ha=>?_)
 subst ha
 refine cdr 9 [] mixo fun ht hn=>?_
 refine d9_ 0 [] ?_
 refine dD (q_next ?_)
 split at hr
 refine o_9 ?_
 cases hr
 obtain rfl:=he1 _ R
 have hr:=hk1
 refine o_3 ?_
 cases hr
 exact qF () (tE 2 [])
 refine o_8 ?_
 cases hr
 exact qA () tI
 refine o_3 ?_
 cases hr
 obtain rfl:=he1 _ R
 have hr:=hk1
 refine o_2 ?_
 exact q_join ((),()) hr trivial tI
 rintro ⟨_,_⟩ σ1 hr
 dsimp only [Z0y_J1] at hr
 refine o_6 ?_
 cases hr
 exact qF () (tE 2 [])
theorem internal_stringslite_Cut_ok  {p1:Str}{sep2:Str}{mG:Int}{r:Str×Str×Bool}(hr:internal_stringslite_Cut p1 sep2=some r) :
 FnOk Tryz.prog 212 [(vstr p1),(vstr sep2)] [gl 0 mG] (fun (h:Unit)=>((.tuple [(vstr r.1),(vstr r.2.1),(.bool r.2.2)].toArray),[])):=by
 unfold internal_stringslite_Cut at hr
 refine fn_ok Tryz.func212 R 23 R R fun C V=>?_
 let W0:=gl 0 mG::V
 refine cN W0 ?_
 refine o_2 ?_
 refine lO (vp (vstr ([]:Str)) R) (lO (vp (vstr ([]:Str)) R) ?_)
 refine o_5 ?_
 obtain ⟨r3,hx4,hr⟩:=bd hr
 refine c_region (lO (vp (vstr p1) R) (lO (vp (vstr sep2) R) (lM _ (fun w s=>(s.dg 0 R)) ?_)))
 refine lC 1 cb162 R (internal_stringslite_Index_ok hx4) R ?_
 rintro _
 refine lN W0 ?_
 refine o_9 ?_
 split at hr
 refine o_2 ?_
 obtain ⟨hg6,hr⟩:=gd hr
 obtain ⟨hg7,hr⟩:=gd hr
 refine cdr 12 [] mixo fun ht hn=>?_
 refine dR 0 R (vp (vstr p1) R) (dR 1 R (vI R) (dR 2 R (vz (vstr (sub p1 (0:Int) r3)) (v_scut (0:Int) r3 un9 R R R hg6.1 hg6.2.1 hg6.2.2)) (dR 3 R (vp (vstr p1) R) (dR 4 R (vI R) (dR 5 R (vp (vstr sep2) R) (dR 6 R (vz (il sep2) (v_slen un9 R)) (dR 7 R (vAd R R) (dR 8 R (vz (vstr (sub p1 (w64 (r3+(sep2.length:Int))) (p1.length:Int))) (v_scut (w64 (r3+(sep2.length:Int))) (p1.length:Int) un9 R R R hg7.1 hg7.2.1 hg7.2.2)) (dR 9 R (vp (vstr (sub p1 (0:Int) r3)) R) (dR 10 R (vp (vstr (sub p1 (w64 (r3+(sep2.length:Int))) (p1.length:Int))) R) (dR 11 R (vB R) (dD ?_))))))))))))
 refine o_3 ?_
 cases hr
 exact qT3 () (tE 1 [])
 refine o_5 ?_
 refine lO (vp (vstr p1) R) (lO (vp (vstr p1) R) (lO (vp (vstr ([]:Str)) R) ?_))
 refine o_4 ?_
 cases hr
 exact qT3 () (tE 1 [])
theorem Z2x_ok  {p1:Str}{sep2:Str}{mG:Int}{r:Str×Str×Bool}(hr:Z2x p1 sep2=some r) :
 FnOk Tryz.prog 210 [(vstr p1),(vstr sep2)] [gl 0 mG] (fun (h:Unit)=>((.tuple [(vstr r.1),(vstr r.2.1),(.bool r.2.2)].toArray),[])):=by
 unfold Z2x at hr
 refine fn_ok Tryz.func210 R 13 R R fun C V=>?_
 let W0:=gl 0 mG::V
 refine cN W0 ?_
 refine o_2 ?_
 refine lO (vp (vstr ([]:Str)) R) (lO (vp (vstr ([]:Str)) R) ?_)
 refine o_4 ?_
 obtain ⟨r3,hx4,hr⟩:=bd hr
 refine c_region (lO (vp (vstr p1) R) (lO (vp (vstr sep2) R) (lM _ (fun w s=>(s.dg 0 R)) ?_)))
 refine lC 1 cb212 R (internal_stringslite_Cut_ok hx4) R ?_
 rintro _
 refine lN W0 ?_
 refine lO (vp (vstr r3.1) R) (lO (vp (vstr r3.2.1) R) (lB R (lO (vp (vstr r3.1) R) (lO (vp (vstr r3.2.1) R) ?_))))
 refine o_4 ?_
 cases hr
 exact qT3 () (tE 1 [])
theorem Z36_ok  {s1 s2:Str}{r:Int}(hr:Z36 s1 s2=some r) :
 FnOk Tryz.prog 215 [(vstr s1),(vstr s2)] [] (fun (_:Unit)=>((iv r),[])):=by
 unfold Z36 at hr
 split at hr
 ·rename_i c
  obtain rfl:=so hr
  exact fn_pure fun w=>Tryz.strings_Count_one ⟨s1.toArray⟩ c w
 ·cases hr
theorem Z0j_ok  {p1:Str}{sep2:Str}{sepSave3:Int}{n4:Int}{mG:Int}{r:(List Str)}(hr:Z0j p1 sep2 sepSave3 n4=some r) :
 FnOk Tryz.prog 213 [(vstr p1),(vstr sep2),(iv sepSave3),(iv n4)] [gl 0 mG] (fun (h:HH)=>((s3 h),[rds kT9 (s3 h) r])):=by
 unfold Z0j at hr
 refine fn_ok Tryz.func213 R 66 R R fun C V=>?_
 let W0:=gl 0 mG::V
 refine cN W0 ?_
 refine o_12 ?_
 rcases bif_ hr with ⟨_,hr⟩|⟨_,hr⟩
 refine o_8 ?_
 cases hr
 exact qF (none,0,0) (fun w s=>((s.nilr kT9).e 2 [0]))
 refine o_6 ?_
 refine lO (vp (vstr sep2) R) (lO (vz (.bool (sep2==([]:Str))) (v_scmp R R R)) ?_)
 refine o_2 ?_
 rcases bif_ hr with ⟨_,hr⟩|⟨_,hr⟩
 refine o_1 ?_
 cases hr
 refine o_4 ?_
 refine c_cut (A:=(Int)×(Unit)) (fun a=>Z0j_J2 p1 sep2 sepSave3 a.1=some r) (fun a=>[(0,(vstr p1)),(1,(vstr sep2)),(2,(iv sepSave3)),(3,(iv a.1))]) (fun a=>W0) ?_ ?_
 refine o_6 ?_
 rcases bif_ hr with ⟨_,hr⟩|⟨_,hr⟩
 refine o_1 ?_
 obtain ⟨r8,hx9,hr⟩:=bd hr
 refine c_region (lO (vp (vstr p1) R) (lO (vp (vstr sep2) R) (lC 0 cb215 R (Z36_ok hx9) R ?_)))
 rintro _
 refine o_3 ?_
 exact qI ((w64 (r8+1)),()) hr tI
 refine o_2 ?_
 exact qI (n4,()) hr tI
 rintro ⟨n10,_⟩ σ1 hr
 dsimp only [Z0j_J2] at hr
 refine o_3 ?_
 refine lO (vp (vstr p1) R) (lO (vz (il p1) (v_slen un9 R)) (lO (vAd R R) (lO (vz (iv (if (w64 ((p1.length:Int)+1))<n10 then (w64 ((p1.length:Int)+1)) else n10)) (v_min R R)) ?_)))
 refine o_4 ?_
 obtain ⟨hg11,hr⟩:=gd hr
 refine o_2 ?_
 refine l_make (K:=kT9) (m:=(if (w64 ((p1.length:Int)+1))<n10 then (w64 ((p1.length:Int)+1)) else n10)) (z:=([]:Str)) R R sl122 sz9 by9 (Zr.zk zT9 zc9) (by decide) R R hg11.1 hg11.2.1 hg11.2.2 (fun A12 D12=>(lS R (l_nil (q_next (c_seq (c_region (lI R (lO (vSb R R) (lI R (l_nil (q_next (c_seq (c_region (lI R (l_nil (q_next (c_seq (c_cut (A:=(Str×(List Str)×Int)×(Unit)) (fun a=>Z0j_J3 p1 n10 a.1.1 a.1.2.1 a.1.2.2=some r) (fun a=>[(0,(vstr a.1.1)),(9,(sc A12 (List.replicate (if (w64 ((p1.length:Int)+1))<n10 then (w64 ((p1.length:Int)+1)) else n10).toNat ([]:Str)) D12)),(10,(iv a.1.2.2))]) (fun a=>ow kT9 9 (.slice A12 (List.replicate (if (w64 ((p1.length:Int)+1))<n10 then (w64 ((p1.length:Int)+1)) else n10).toNat ([]:Str)).length D12) a.1.2.1::W0) ?_ ?_))))))))))))))))))
 refine o_1 ?_
 obtain ⟨e1,hl1,hk1⟩:=bd hr
 refine c_loop (A:=Unit) hl1 (fun s a=>[(0,(vstr s.1)),(1,(vstr sep2)),(2,(iv sepSave3)),(3,(iv (w64 ((if (w64 ((p1.length:Int)+1))<n10 then (w64 ((p1.length:Int)+1)) else n10) - 1)))),(9,(sc A12 (List.replicate (if (w64 ((p1.length:Int)+1))<n10 then (w64 ((p1.length:Int)+1)) else n10).toNat ([]:Str)) D12)),(10,(iv s.2.2))]) (fun s a=>ow kT9 9 (.slice A12 (List.replicate (if (w64 ((p1.length:Int)+1))<n10 then (w64 ((p1.length:Int)+1)) else n10).toNat ([]:Str)).length D12) s.2.1::W0) () (aS R) tI ?_
 rintro ⟨x24,a25,i26⟩ _ σ1 out1 hr he1
 dsimp only [Z0j_L1] at hr
 refine o_8 ?_
 rcases bif_ hr with ⟨_,hr⟩|⟨_,hr⟩
 refine o_5 ?_
 obtain ⟨r28,hx29,hr⟩:=bd hr
 refine c_region (lO (vp (vstr x24) R) (lO (vp (vstr sep2) R) (lM (gl 0 mG::ow kT9 9 (.slice A12 (List.replicate (if (w64 ((p1.length:Int)+1))<n10 then (w64 ((p1.length:Int)+1)) else n10).toNat ([]:Str)).length D12) a25::W0) (fun w s=>(s.dg 1 R)) ?_)))
 refine lC 1 cb154 R (Z29_ok hx29) R ?_
 rintro _
 refine o_10 ?_
 rcases bif_ hr with ⟨_,hr⟩|⟨_,hr⟩
 refine o_3 ?_
 refine q_pass R ?_
 cases hr
 obtain rfl:=he1 _ R
 have hr:=hk1
 refine o_2 ?_
 exact qI ((x24,a25,i26),()) hr tI
 refine o_4 ?_
 obtain ⟨hg31,hr⟩:=gd hr
 obtain ⟨hg32,hr⟩:=gd hr
 refine o_3 ?_
 refine lO (vp (vstr x24) R) ?_
 refine o_3 ?_
 refine lO (vz (vstr (sub x24 (0:Int) (w64 (r28+sepSave3)))) (v_scut (0:Int) (w64 (r28+sepSave3)) un9 R R R hg31.1 hg31.2.1 hg31.2.2)) (t_some 0 sees_ow (show 0<(List.replicate (if (w64 ((p1.length:Int)+1))<n10 then (w64 ((p1.length:Int)+1)) else n10).toNat ([]:Str)).length by have:=hg32; omega) (fun g33 o34 ha=>?_))
 subst ha
 refine o_1 ?_
 refine l_stx (K:=kT9) (x':=(sub x24 (0:Int) (w64 (r28+sepSave3)))) 0 i26 R R sz9 R R hg32.1 hg32.2 ?_ ?_
 exact fun I h s=>(mO9).put I h () (sub x24 (0:Int) (w64 (r28+sepSave3))) s
 refine o_1 ?_
 obtain ⟨l35,hl36,hr⟩:=bd hr
 replace hl36:=Option.some.inj hl36
 refine qM (ow kT9 9 (.slice (ad g33 o34) (List.replicate (if (w64 ((p1.length:Int)+1))<n10 then (w64 ((p1.length:Int)+1)) else n10).toNat ([]:Str)).length D12) l35::W0) (fun w s=>by rw [← hl36]; exact s) ?_
 refine o_2 ?_
 obtain ⟨hg37,hr⟩:=gd hr
 refine c_region (lO (vp (vstr x24) R) (lI R (lO (vp (vstr sep2) R) (lO (vz (il sep2) (v_slen un9 R)) (lO (vAd R R) (lO (vz (vstr (sub x24 (w64 (r28+(sep2.length:Int))) (x24.length:Int))) (v_scut (w64 (r28+(sep2.length:Int))) (x24.length:Int) un9 R R R hg37.1 hg37.2.1 hg37.2.2)) (lO (vp (vstr (sub x24 (w64 (r28+(sep2.length:Int))) (x24.length:Int))) R) ?_)))))))
 refine o_8 ?_
 cases hr
 exact qA () tI
 refine o_3 ?_
 cases hr
 obtain rfl:=he1 _ R
 have hr:=hk1
 refine o_2 ?_
 exact qI ((x24,a25,i26),()) hr tI
 rintro ⟨⟨x41,a42,i43⟩,_⟩ σ1 hr
 dsimp only [Z0j_J3] at hr
 refine o_1 ?_
 obtain ⟨hg44,hr⟩:=gd hr
 refine o_3 ?_
 refine lO (vp (vstr x41) R) (t_some 0 sees_ow (show 0<(List.replicate (if (w64 ((p1.length:Int)+1))<n10 then (w64 ((p1.length:Int)+1)) else n10).toNat ([]:Str)).length by have:=hg44; omega) (fun g45 o46 ha=>?_))
 subst ha
 refine o_1 ?_
 refine l_stx (K:=kT9) (x':=x41) 0 i43 R R sz9 R R hg44.1 hg44.2 ?_ ?_
 exact fun I h s=>(mO9).put I h () x41 s
 refine o_3 ?_
 obtain ⟨hg47,hr⟩:=gd hr
 refine o_4 ?_
 refine l_st (fun w s=>s.shr 0 R) (l_cut (K:=kT9) (0:Int) (w64 (i43+1)) 0 R R sl122 sz9 R R R R hg47.1 hg47.2.1 hg47.2.2 (fun A48 D48=>(lS R (l_nil (q_next (c_ret ?_))))))
 cases hr
 exact qF (A48,(sub (a42.set i43.toNat x41) (0:Int) (w64 (i43+1))).length,D48) (tE 3 [0])
theorem Z2y_ok  {p1:Str}{sep2:Str}{mG:Int}{r:(List Str)}(hr:Z2y p1 sep2=some r) :
 FnOk Tryz.prog 211 [(vstr p1),(vstr sep2)] [gl 0 mG] (fun (h:HH)=>((.slice h.1 h.2.1 h.2.2),[rds kT9 (.slice h.1 h.2.1 h.2.2) r])):=by
 unfold Z2y at hr
 refine fn_ok Tryz.func211 R 8 R R fun C V=>?_
 refine cN (_::V) ?_
 let W0:List HP:=gl 0 mG::V
 refine cN W0 ?_
 refine c_seq (c_region (lS R (l_nil (q_next (c_seq ?_)))))
 obtain ⟨r3,hx4,hr⟩:=bd hr
 refine c_region (lO (vp (vstr p1) R) (lO (vp (vstr sep2) R) (lM (gl 0 mG::W0) (fun w s=>(s.dg 0 R)) ?_)))
 refine lC 1 cb213 R (Z0j_ok hx4) R ?_
 rintro ⟨A5,N5,D5⟩
 refine lN (rds kT9 (.slice A5 N5 D5) r3::W0) ?_
 refine l_len 0 sees_rd ?_
 rintro rfl
 refine lS R (l_nil (q_next (c_ret ?_)))
 obtain rfl:=so hr
 exact qF (A5,r3.length,D5) (fun w s=>(s.e 2 [0]))
theorem internal_stringslite_IndexByte_ok  {s1:Str}{c2:Int}{r:Int}(hr:internal_stringslite_IndexByte s1 c2=some r) :
 FnOk Tryz.prog 171 [(vstr s1),(.int .u8 c2)] [] (fun (_:Unit)=>((iv r),[])):=by
 unfold internal_stringslite_IndexByte at hr
 obtain rfl:=so hr
 exact fn_pure fun w=>Tryz.stringslite_IndexByte ⟨s1.toArray⟩ c2 w
theorem Z1q_ok  {p1:Str}{c2:Int}{r:Int}(hr:Z1q p1 c2=some r) :
 FnOk Tryz.prog 208 [(vstr p1),(.int .u8 c2)] [] (fun (h:Unit)=>((iv r),[])):=by
 unfold Z1q at hr
 refine fn_ok Tryz.func208 R 8 R R fun C V=>?_
 refine cN V ?_
 refine o_6 ?_
 obtain ⟨r3,hx4,hr⟩:=bd hr
 refine c_region (lO (vp (vstr p1) R) (lI R (lC 0 cb171 R (internal_stringslite_IndexByte_ok hx4) R ?_)))
 rintro _
 refine o_4 ?_
 cases hr
 exact qF () tI
theorem Zm_ok {s1:List Int}{a_2:Option Addr}{n_2 c_2:Nat}{r:(List Int)}(hr:Zm s1=some r) :
  FnOk Tryz.prog 64 [(.slice a_2 n_2 c_2)] [rds kT3 (.slice a_2 n_2 c_2) s1] (fun (h:(Option Addr×Nat×Nat))=>((s3 h),[ow kT3 3 (s3 h) r])):=by
 unfold Zm at hr
 obtain ⟨hg,hr⟩:=gd hr
 obtain rfl:=Option.some.inj hr
 refine fn_ok Tryz.func64 rfl 8 rfl rfl fun C V=>(c_st (V':=rds kT3 (.slice a_2 n_2 c_2) s1::V) tI (c_len 0 sees_rd (fun (hn:n_2=s1.length)=>?_)))
 subst hn
 refine o_2 ?_
 refine lS rfl ?_
 refine o_5 ?_
 refine lS rfl (l_v (.bool a_2.isNone) (v_snil sl23 rfl rfl) rfl rfl (l_nil (q_next ?_)))
 rcases Bool.eq_false_or_eq_true a_2.isNone with ha | ha
 ·refine c_true rfl ha ?_
  refine c_nilx 0 sees_rd ha (fun (hx:s1=[])=>?_)
  subst hx
  refine o_2 ?_
  refine lS rfl ?_
  refine o_4 ?_
  exact q_fin (vs:=[(.slice none 0 0)]) (.inl rfl) (none,0,0) rfl ⟨rfl,trivial⟩ rfl (fun w s=>((s.nilo kT3 3).sel 2 [0] rfl rfl))
 ·refine c_false rfl ha (c_skip (q_next ?_))
  refine o_2 ?_
  refine l_build (K:=kT3) (xs:=([]:List Int)) (vs:=[]) 0 rfl rfl sl23 sz3 zc3 rfl rfl rfl rfl rfl rfl ?_ rfl (fun a_3 c_3=>?_)
  ·exact fun I h s=>(mO3).list [] I h s
  refine lS rfl (l_app (K:=kT3) 17592186044416 rfl rfl sl23 sz3 by3 (Zr.zk zT3 zc3) rfl rfl rfl rfl rfl rfl (src_rd (Kind.scal_flat _ _)) (by simpa using hg) (fun a_4 c_4=>(lS rfl (l_nil (q_next (c_ret ?_))))))
  exact q_fin (vs:=[(.slice a_4 s1.length c_4)]) (.inl rfl) (a_4,s1.length,c_4) rfl ⟨rfl,trivial⟩ rfl tI
theorem Zu_ok  {a1:(List Int)}{b3:(List Int)}{r:Bool}(hr:Zu a1 b3=some r) :
 FnOk Tryz.prog 16 [(.slice A2 N2 D2),(.slice A4 N4 D4)] [rds kT3 (.slice A2 N2 D2) a1,rds kT3 (.slice A4 N4 D4) b3] (fun (h:Unit)=>((.bool r),[])):=by
 unfold Zu at hr
 refine fn_ok Tryz.func16 R 26 R R fun C V=>?_
 refine cL 0 sees_rd ?_
 rintro rfl
 refine cL 1 sees_rd ?_
 rintro rfl
 let W0:=RR kT3 A2 D2 a1::RR kT3 A4 D4 b3::V
 refine cN W0 ?_
 refine o_15 ?_
 split at hr
 refine o_8 ?_
 cases hr
 exact qF () (tE 2 [])
 refine o_4 ?_
 refine c_cut (A:=(Unit)×(Unit)) (fun a=>Zu_J1=some r) (fun a=>[]) (fun a=>W0) ?_ ?_
 refine o_6 ?_
 obtain ⟨e1,hl1,hk1⟩:=bd hr
 refine c_loop (A:=Unit) hl1 (fun s a=>[(0,(sc A2 a1 D2)),(1,(sc A4 b3 D4)),(5,(iv s))]) (fun s a=>W0) () (aS R) tI ?_
 rintro i14 _ σ1 out1 hr he1
 dsimp only [Zu_L1] at hr
 refine o_9 ?_
 split at hr
 refine o_6 ?_
 obtain ⟨hg16,hr⟩:=gd hr
 obtain ⟨hg19,hr⟩:=gd hr
 refine c_some 0 sees_rd (show 0<a1.length by have:=hg16; omega) (fun g17 o18 ha=>?_)
 subst ha
 refine c_some 1 sees_rd (show 0<b3.length by have:=hg19; omega) (fun g20 o21 ha=>?_)
 subst ha
 refine cdr 9 [] mixo fun ht hn=>?_
 refine d9_ 0 [] ?_
 refine dD (q_next ?_)
 split at hr
 refine o_9 ?_
 cases hr
 obtain rfl:=he1 _ R
 have hr:=hk1
 refine o_3 ?_
 cases hr
 exact qF () (tE 2 [])
 refine o_9 ?_
 cases hr
 exact qA () tI
 refine o_3 ?_
 cases hr
 obtain rfl:=he1 _ R
 have hr:=hk1
 refine o_2 ?_
 exact q_join ((),()) hr trivial tI
 rintro ⟨_,_⟩ σ1 hr
 dsimp only [Zu_J1] at hr
 refine o_6 ?_
 cases hr
 exact qF () (tE 2 [])
theorem Z2f_ok  {a1:Node}{b6:Node}{r:Bool}(hr:Z2f a1 b6=some r) :
 FnOk Tryz.prog 60 [(.agg [(iv a1.Op),(.slice A2 N2 D2),(.slice A3 N3 D3),(.slice A4 N4 D4),(vstr a1.Form),(.slice A5 N5 D5)].toArray),(.agg [(iv b6.Op),(.slice A7 N7 D7),(.slice A8 N8 D8),(.slice A9 N9 D9),(vstr b6.Form),(.slice A10 N10 D10)].toArray)] [rds kT3 (.slice A2 N2 D2) a1.Args,rds kT3 (.slice A3 N3 D3) a1.Dims,rds kT3 (.slice A4 N4 D4) a1.Ints,rds kT3 (.slice A5 N5 D5) a1.Data,rds kT3 (.slice A7 N7 D7) b6.Args,rds kT3 (.slice A8 N8 D8) b6.Dims,rds kT3 (.slice A9 N9 D9) b6.Ints,rds kT3 (.slice A10 N10 D10) b6.Data] (fun (h:Unit)=>((.bool r),[])):=by
 unfold Z2f at hr
 refine fn_ok Tryz.func60 R 39 R R fun C V=>?_
 refine cL 0 sees_rd ?_
 rintro rfl
 refine cL 1 sees_rd ?_
 rintro rfl
 refine cL 2 sees_rd ?_
 rintro rfl
 refine cL 3 sees_rd ?_
 rintro rfl
 refine cL 4 sees_rd ?_
 rintro rfl
 refine cL 5 sees_rd ?_
 rintro rfl
 refine cL 6 sees_rd ?_
 rintro rfl
 refine cL 7 sees_rd ?_
 rintro rfl
 let W0:=RR kT3 A2 D2 a1.Args::RR kT3 A3 D3 a1.Dims::RR kT3 A4 D4 a1.Ints::RR kT3 A5 D5 a1.Data::RR kT3 A7 D7 b6.Args::RR kT3 A8 D8 b6.Dims::RR kT3 A9 D9 b6.Ints::RR kT3 A10 D10 b6.Data::V
 refine cN W0 ?_
 refine o_2 ?_
 refine lBx R fun b11=>?_
 refine lBx R fun b12=>?_
 refine o_2 ?_
 let W1:=bxl b12 [(iv b6.Op),(sc A7 b6.Args D7),(sc A8 b6.Dims D8),(sc A9 b6.Ints D9),(vstr b6.Form),(sc A10 b6.Data D10)] 54::bxl b11 [(iv a1.Op),(sc A2 a1.Args D2),(sc A3 a1.Dims D3),(sc A4 a1.Ints D4),(vstr a1.Form),(sc A5 a1.Data D5)] 54::W0
 refine qN W1 ?_
 refine o_11 ?_
 split at hr
 refine o_8 ?_
 cases hr
 exact qF () (tE 10 [])
 refine o_5 ?_
 obtain ⟨r14,hx15,hr⟩:=bd hr
 refine o_5 ?_
 refine lM _ (fun w s=>(((s.d 2 R).d 7 R).e 2 [1,0])) ?_
 refine lC 2 cb16 R (Zu_ok hx15) R ?_
 rintro _
 refine lN W1 ?_
 refine o_3 ?_
 split at hr
 refine o_8 ?_
 cases hr
 exact qF () (tE 10 [])
 refine o_5 ?_
 obtain ⟨r17,hx18,hr⟩:=bd hr
 refine o_5 ?_
 refine lM _ (fun w s=>(((s.d 3 R).d 8 R).e 2 [1,0])) ?_
 refine lC 2 cb16 R (Zu_ok hx18) R ?_
 rintro _
 refine lN W1 ?_
 refine o_3 ?_
 split at hr
 refine o_8 ?_
 cases hr
 exact qF () (tE 10 [])
 refine o_5 ?_
 obtain ⟨r20,hx21,hr⟩:=bd hr
 refine o_5 ?_
 refine lM _ (fun w s=>(((s.d 4 R).d 9 R).e 2 [1,0])) ?_
 refine lC 2 cb16 R (Zu_ok hx21) R ?_
 rintro _
 refine lN W1 ?_
 refine o_3 ?_
 split at hr
 refine o_8 ?_
 cases hr
 exact qF () (tE 10 [])
 refine o_10 ?_
 refine lO (vz (.bool (!(a1.Form==b6.Form))) (v_scmp R R R)) ?_
 refine o_2 ?_
 split at hr
 refine o_8 ?_
 cases hr
 exact qF () (tE 10 [])
 refine o_5 ?_
 obtain ⟨r24,hx25,hr⟩:=bd hr
 refine o_5 ?_
 refine lM _ (fun w s=>(((s.d 5 R).d 10 R).e 2 [1,0])) ?_
 refine lC 2 cb16 R (Zu_ok hx25) R ?_
 rintro _
 refine lN W1 ?_
 refine o_3 ?_
 split at hr
 refine o_8 ?_
 cases hr
 exact qF () (tE 10 [])
 refine o_9 ?_
 cases hr
 exact qF () (tE 10 [])
theorem Z1a_ok  {a1:(List Node)}{b3:(List Node)}{r:Bool}(hr:Z1a a1 b3=some r) :
 FnOk Tryz.prog 37 [(.slice A2 N2 D2),(.slice A4 N4 D4)] [rds kT54 (.slice A2 N2 D2) a1,rds kT54 (.slice A4 N4 D4) b3] (fun (h:Unit)=>((.bool r),[])):=by
 unfold Z1a at hr
 refine fn_ok Tryz.func37 R 27 R R fun C V=>?_
 refine cL 0 sees_rd ?_
 rintro rfl
 refine cL 1 sees_rd ?_
 rintro rfl
 let W0:=RR kT54 A2 D2 a1::RR kT54 A4 D4 b3::V
 refine cN W0 ?_
 refine o_15 ?_
 split at hr
 refine o_8 ?_
 cases hr
 exact qF () (tE 2 [])
 refine o_4 ?_
 refine c_cut (A:=(Unit)×(Unit)) (fun a=>Z1a_J1=some r) (fun a=>[]) (fun a=>W0) ?_ ?_
 refine o_6 ?_
 obtain ⟨e1,hl1,hk1⟩:=bd hr
 refine c_loop (A:=Unit) hl1 (fun s a=>[(0,(sc A2 a1 D2)),(1,(sc A4 b3 D4)),(5,(iv s))]) (fun s a=>W0) () (aS R) tI ?_
 rintro i24 _ σ1 out1 hr he1
 dsimp only [Z1a_L1] at hr
 refine o_9 ?_
 split at hr
 refine o_6 ?_
 obtain ⟨hg26,hr⟩:=gd hr
 obtain ⟨hg33,hr⟩:=gd hr
 obtain ⟨r40,hx41,hr⟩:=bd hr
 refine c_some 0 sees_rd (show 0<a1.length by have:=hg26; omega) (fun g27 o28 ha=>?_)
 subst ha
 refine c_elem (K:=kT54) 0 i24 dT54.dec R hg26.1 hg26.2 ?_
 rintro ⟨-,⟨A29,D29⟩,⟨A30,D30⟩,⟨A31,D31⟩,-,⟨A32,D32⟩⟩
 refine c_some 6 sees_rd (show 0<b3.length by have:=hg33; omega) (fun g34 o35 ha=>?_)
 subst ha
 refine c_elem (K:=kT54) 6 i24 dT54.dec R hg33.1 hg33.2 ?_
 rintro ⟨-,⟨A36,D36⟩,⟨A37,D37⟩,⟨A38,D38⟩,-,⟨A39,D39⟩⟩
 refine cdr 10 [] mixo fun ht hn=>?_
 refine d3_ 0 [] ?_
 refine dR 3 R (vz (.agg [(iv (ix a1 i24).Op),(sc A29 ((ix a1 i24).Args) D29),(sc A30 ((ix a1 i24).Dims) D30),(sc A31 ((ix a1 i24).Ints) D31),(vstr (ix a1 i24).Form),(sc A32 ((ix a1 i24).Data) D32)].toArray) (v_clfs (fo:=0) 5 ag54 sz54 R R R R)) ?_
 refine d3_ 4 [] ?_
 refine dR 7 R (vz (.agg [(iv (ix b3 i24).Op),(sc A36 ((ix b3 i24).Args) D36),(sc A37 ((ix b3 i24).Dims) D37),(sc A38 ((ix b3 i24).Ints) D38),(vstr (ix b3 i24).Form),(sc A39 ((ix b3 i24).Data) D39)].toArray) (v_clfs (fo:=0) 0 ag54 sz54 R R R R)) (d1 8 R (lM _ (fun w s=>(((((((((s.d 6 R).d 8 R).d 10 R).d 12 R).d 5 R).d 7 R).d 9 R).d 11 R).e 18 [7,6,5,4,3,2,1,0,8,9,10,11,12,13,14,15,16,17])) ?_))
 refine lC 8 cb60 R (Z2f_ok hx41) R ?_
 rintro _
 refine l_nil (q_draw (sL []) (dR 9 R (vNo R) (dD (q_next ?_))))
 split at hr
 refine o_9 ?_
 cases hr
 obtain rfl:=he1 _ R
 have hr:=hk1
 refine o_3 ?_
 cases hr
 exact qF () (tE 12 [])
 refine o_9 ?_
 cases hr
 exact qA () (tE 10 [])
 refine o_3 ?_
 cases hr
 obtain rfl:=he1 _ R
 have hr:=hk1
 refine o_2 ?_
 exact q_join ((),()) hr trivial tI
 rintro ⟨_,_⟩ σ1 hr
 dsimp only [Z1a_J1] at hr
 refine o_6 ?_
 cases hr
 exact qF () (tE 2 [])
theorem Z2e_ok  {a1:Graph}{b4:Graph}{r:Bool}(hr:Z2e a1 b4=some r) :
 FnOk Tryz.prog 13 [(.agg [(.slice A2 N2 D2),(.slice A3 N3 D3)].toArray),(.agg [(.slice A5 N5 D5),(.slice A6 N6 D6)].toArray)] [rds kT54 (.slice A2 N2 D2) a1.Nodes,rds kT3 (.slice A3 N3 D3) a1.Outs,rds kT54 (.slice A5 N5 D5) b4.Nodes,rds kT3 (.slice A6 N6 D6) b4.Outs] (fun (h:Unit)=>((.bool r),[])):=by
 unfold Z2e at hr
 refine fn_ok Tryz.func13 R 17 R R fun C V=>?_
 refine cL 0 sees_rd ?_
 rintro rfl
 refine cL 1 sees_rd ?_
 rintro rfl
 refine cL 2 sees_rd ?_
 rintro rfl
 refine cL 3 sees_rd ?_
 rintro rfl
 let W0:=RR kT54 A2 D2 a1.Nodes::RR kT3 A3 D3 a1.Outs::RR kT54 A5 D5 b4.Nodes::RR kT3 A6 D6 b4.Outs::V
 refine cN W0 ?_
 refine o_2 ?_
 refine lBx R fun b7=>?_
 refine lBx R fun b8=>?_
 refine o_2 ?_
 let W1:=bxl b8 [(sc A5 b4.Nodes D5),(sc A6 b4.Outs D6)] 30::bxl b7 [(sc A2 a1.Nodes D2),(sc A3 a1.Outs D3)] 30::W0
 refine qN W1 ?_
 refine o_3 ?_
 obtain ⟨r9,hx10,hr⟩:=bd hr
 refine o_5 ?_
 refine lM _ (fun w s=>(((s.d 2 R).d 5 R).e 2 [1,0])) ?_
 refine lC 2 cb37 R (Z1a_ok hx10) R ?_
 rintro _
 refine lN W1 ?_
 refine o_3 ?_
 split at hr
 refine o_8 ?_
 cases hr
 exact qF () (tE 6 [])
 refine o_5 ?_
 obtain ⟨r12,hx13,hr⟩:=bd hr
 refine o_5 ?_
 refine lM _ (fun w s=>(((s.d 3 R).d 6 R).e 2 [1,0])) ?_
 refine lC 2 cb16 R (Zu_ok hx13) R ?_
 rintro _
 refine lN W1 ?_
 refine o_3 ?_
 split at hr
 refine o_8 ?_
 cases hr
 exact qF () (tE 6 [])
 refine o_9 ?_
 cases hr
 exact qF () (tE 6 [])
theorem Zs_ok  {a1:(List Int)}{k3:Int}{r:Int×(List Int)}(hr:Zs a1 k3=some r) :
 FnOk Tryz.prog 18 [(.slice A2 N2 D2),(iv k3)] [ow kT3 3 (.slice A2 N2 D2) a1] (fun (h:Unit)=>((iv r.1),[ow kT3 3 (.slice A2 N2 D2) r.2])):=by
 unfold Zs at hr
 refine fn_ok Tryz.func18 R 19 R R fun C V=>?_
 refine cL 0 sees_ow ?_
 rintro rfl
 refine o_6 ?_
 refine c_cut (A:=(Int×(List Int))×(Unit)) (fun a=>Zs_J1 a.1.1 a.1.2=some r) (fun a=>[(1,(iv a.1.1))]) (fun a=>ow kT3 3 (.slice A2 a1.length D2) a.1.2::V) ?_ ?_
 refine o_6 ?_
 obtain ⟨e1,hl1,hk1⟩:=bd hr
 refine c_loop (A:=Unit) hl1 (fun s a=>[(0,(sc A2 a1 D2)),(1,(iv s.2.1)),(5,(iv s.2.2))]) (fun s a=>ow kT3 3 (.slice A2 a1.length D2) s.1::V) () (aS R) tI ?_
 rintro ⟨a8,k9,i10⟩ _ σ1 out1 hr he1
 dsimp only [Zs_L1] at hr
 refine o_9 ?_
 split at hr
 refine o_6 ?_
 obtain ⟨hg12,hr⟩:=gd hr
 refine o_4 ?_
 refine t_some 0 sees_ow (show 0<a1.length by have:=hg12; omega) (fun g13 o14 ha=>?_)
 subst ha
 refine o_1 ?_
 refine l_stx (K:=kT3) (x':=k9) 0 i10 R R sz3 R R hg12.1 hg12.2 ?_ ?_
 exact fun I h s=>(mO3).put I h () k9 s
 refine o_14 ?_
 cases hr
 exact qA () tI
 refine o_3 ?_
 cases hr
 obtain rfl:=he1 _ R
 have hr:=hk1
 refine o_2 ?_
 exact qI ((k9,a8),()) hr tI
 rintro ⟨⟨k18,p19⟩,_⟩ σ1 hr
 dsimp only [Zs_J1] at hr
 refine o_7 ?_
 cases hr
 exact qF () tI
theorem Z0m_ok  {k1:Int}{r:Str}(hr:Z0m k1=some r) :
 FnOk Tryz.prog 61 [(iv k1)] [] (fun (h:Unit)=>((vstr r),[])):=by
 unfold Z0m at hr
 refine fn_ok Tryz.func61 R 20 R R fun C V=>?_
 refine cN V ?_
 refine o_2 ?_
 refine lO (vp (vstr ([]:Str)) R) ?_
 refine o_9 ?_
 split at hr
 refine o_3 ?_
 refine lO (vp (vstr str7) R) ?_
 refine o_4 ?_
 cases hr
 exact qF () tI
 refine o_5 ?_
 refine lO (vp (vstr ([]:Str)) R) ?_
 refine o_3 ?_
 refine c_cut (A:=(Str)×(Unit)) (fun a=>Z0m_J1 a.1=some r) (fun a=>[(3,(vstr a.1))]) (fun a=>V) ?_ ?_
 refine o_1 ?_
 obtain ⟨e1,hl1,hk1⟩:=bd hr
 refine c_loop (A:=Unit) hl1 (fun s a=>[(0,(iv s.1)),(3,(vstr s.2))]) (fun s a=>V) () (aS R) tI ?_
 rintro ⟨k6,x7⟩ _ σ1 out1 hr he1
 dsimp only [Z0m_L1] at hr
 refine o_7 ?_
 split at hr
 refine o_5 ?_
 obtain ⟨hg10,hr⟩:=gd hr
 refine o_2 ?_
 refine lO (v_rem R R (by decide)) (lO (vAd R R) (lO (vz (.int .u8 (IntKind.wrap .u8 ((w64 ((48:Int)+(k6.tmod (10:Int))))))) (v_conv un3 un5 R)) (l_build (K:=kT5) (xs:=([(IntKind.wrap .u8 ((w64 ((48:Int)+(k6.tmod (10:Int))))))]:List Int)) (vs:=[(.int .u8 (IntKind.wrap .u8 ((w64 ((48:Int)+(k6.tmod (10:Int)))))))]) 0 R R sl112 sz5 zc5 R R R R R R ?_ R (fun A9 D9=>?_))))
 exact fun I h s=>(mO5).list [((),(IntKind.wrap .u8 ((w64 ((48:Int)+(k6.tmod (10:Int)))))))] I h s
 refine lO (vz (vstr (strB ([(IntKind.wrap .u8 ((w64 ((48:Int)+(k6.tmod (10:Int))))))]:List Int))) (v_b2s 0 sl112 un5 un9 sees_ow R)) (lO (vp (vstr x7) R) (lO (vz (vstr ((strB ([(IntKind.wrap .u8 ((w64 ((48:Int)+(k6.tmod (10:Int))))))]:List Int))++x7)) (v_scat R R hg10)) (lO (vp (vstr ((strB ([(IntKind.wrap .u8 ((w64 ((48:Int)+(k6.tmod (10:Int))))))]:List Int))++x7)) R) ?_)))
 refine o_4 ?_
 refine lO (vz (iv (w64 (k6.tdiv (10:Int)))) (v_quo R R (by decide))) ?_
 refine o_3 ?_
 cases hr
 exact qA () (tE 1 [])
 refine o_3 ?_
 cases hr
 obtain rfl:=he1 _ R
 have hr:=hk1
 refine o_2 ?_
 exact qI (x7,()) hr tI
 rintro ⟨x13,_⟩ σ1 hr
 dsimp only [Z0m_J1] at hr
 refine o_1 ?_
 obtain ⟨hg14,hr⟩:=gd hr
 refine c_region (lO (vp (vstr x13) R) (lO (vz (vstr (str8++x13)) (v_scat R R hg14)) (lO (vp (vstr (str8++x13)) R) ?_)))
 refine o_3 ?_
 cases hr
 exact qF () tI
theorem Z0k_ok  {a1:(List Node)}{k3:Int}{r:Int×(List Node)}(hr:Z0k a1 k3=some r) :
 FnOk Tryz.prog 39 [(.slice A2 N2 D2),(iv k3)] [ow kT54 54 (.slice A2 N2 D2) a1] (fun (h:Unit)=>((iv r.1),[ow kT54 54 (.slice A2 N2 D2) r.2])):=by
 unfold Z0k at hr
 refine fn_ok Tryz.func39 R 56 R R fun C V=>?_
 refine cL 0 sees_ow ?_
 rintro rfl
 refine o_6 ?_
 refine c_cut (A:=(Int×(List Node))×(Unit)) (fun a=>Z0k_J1 a.1.1 a.1.2=some r) (fun a=>[(1,(iv a.1.1))]) (fun a=>ow kT54 54 (.slice A2 a1.length D2) a.1.2::V) ?_ ?_
 refine o_6 ?_
 obtain ⟨e1,hl1,hk1⟩:=bd hr
 refine c_loop (A:=Unit) hl1 (fun s a=>[(0,(sc A2 a1 D2)),(1,(iv s.2.1)),(5,(iv s.2.2))]) (fun s a=>ow kT54 54 (.slice A2 a1.length D2) s.1::V) () (aS R) tI ?_
 rintro ⟨a46,k47,i48⟩ _ σ1 out1 hr he1
 dsimp only [Z0k_L1] at hr
 refine o_9 ?_
 split at hr
 refine o_6 ?_
 obtain ⟨hg50,hr⟩:=gd hr
 refine o_4 ?_
 refine t_some 0 sees_ow (show 0<a1.length by have:=hg50; omega) (fun g51 o52 ha=>?_)
 subst ha
 refine o_1 ?_
 refine lO (vz (.pointer (some ⟨g51,o52+i48.toNat*6,none⟩)) (v_fa fo54_0 R R)) (l_ste (K:=kT54) (fo:=0) (v:=(iv k47)) (f:=(fun x:Node=>(⟨k47,x.Args,x.Dims,x.Ints,x.Form,x.Data⟩:Node))) 0 i48 R R sz3 ?_ R R R R hg50.1 hg50.2 ?_)
 exact SetL.deep sP54 mO54 (fun a x=>((),(.slice a.2.1.1 x.Args.length a.2.1.2),(.slice a.2.2.1.1 x.Dims.length a.2.2.1.2),(.slice a.2.2.2.1.1 x.Ints.length a.2.2.2.1.2),(),(.slice a.2.2.2.2.2.1 x.Data.length a.2.2.2.2.2.2))) R (fun _ _=>R) (fun _ _=>R)
 refine o_1 ?_
 obtain ⟨l53,hl54,hr⟩:=bd hr
 replace hl54:=Option.some.inj hl54
 refine qM (ow kT54 54 (.slice (ad g51 o52) a1.length D2) l53::V) (fun w s=>by rw [← hl54]; exact s) ?_
 refine o_9 ?_
 obtain ⟨r59,hx60,hr⟩:=bd hr
 refine o_4 ?_
 refine lO (vz (.pointer (some ⟨g51,o52+i48.toNat*6+1,none⟩)) (v_fa fo54_1 R R)) (t_focus (K:=kT54) sP54 0 i48 R hg50.1 hg50.2 ?_)
 rintro ⟨-,⟨A55,D55⟩,⟨A56,D56⟩,⟨A57,D57⟩,-,⟨A58,D58⟩⟩
 refine lO (v_holf (fo:=1) 0 ag23 R R R) (lI R (lM (ow _ _ _ _::hol _ _ _ _ _ _::ow _ _ _ _::ow _ _ _ _::ow _ _ _ _::V) (tE 5 [1,0,2,3,4]) ?_))
 refine lC 1 cb18 R (Zs_ok hx60) R ?_
 rintro _
 refine o_2 ?_
 refine qM (ow kT54 54 (.slice (ad g51 o52) a1.length D2) (l53.set i48.toNat (⟨(ix l53 i48).Op,r59.2,(ix l53 i48).Dims,(ix l53 i48).Ints,(ix l53 i48).Form,(ix l53 i48).Data⟩:Node))::V) (fun w s=>St.unfocus (E:=[ow kT3 3 (.slice A55 ((ix l53 i48).Args).length D55) r59.2,OO kT3 3 A56 D56 ((ix l53 i48).Dims),OO kT3 3 A57 D57 ((ix l53 i48).Ints),OO kT3 3 A58 D58 ((ix l53 i48).Data)]) (⟨(ix l53 i48).Op,r59.2,(ix l53 i48).Dims,(ix l53 i48).Ints,(ix l53 i48).Form,(ix l53 i48).Data⟩:Node) (s.e 5 [1,0,2,3,4]) ?_) ?_
 exact fun I h s=>(mO54).put I h ((),(sc A55 ((ix l53 i48).Args) D55),(sc A56 ((ix l53 i48).Dims) D56),(sc A57 ((ix l53 i48).Ints) D57),(),(sc A58 ((ix l53 i48).Data) D58)) (⟨(ix l53 i48).Op,r59.2,(ix l53 i48).Dims,(ix l53 i48).Ints,(ix l53 i48).Form,(ix l53 i48).Data⟩:Node) s
 obtain ⟨l61,hl62,hr⟩:=bd hr
 replace hl62:=Option.some.inj hl62
 refine qM (ow kT54 54 (.slice (ad g51 o52) a1.length D2) l61::V) (fun w s=>by rw [← hl62]; exact s) ?_
 refine o_2 ?_
 obtain ⟨r67,hx68,hr⟩:=bd hr
 refine o_4 ?_
 refine lO (vz (.pointer (some ⟨g51,o52+i48.toNat*6+2,none⟩)) (v_fa fo54_2 R R)) (t_focus (K:=kT54) sP54 0 i48 R hg50.1 hg50.2 ?_)
 rintro ⟨-,⟨A63,D63⟩,⟨A64,D64⟩,⟨A65,D65⟩,-,⟨A66,D66⟩⟩
 refine lO (v_holf (fo:=2) 0 ag23 R R R) (lI R (lM (ow _ _ _ _::hol _ _ _ _ _ _::ow _ _ _ _::ow _ _ _ _::ow _ _ _ _::V) (tE 5 [2,0,1,3,4]) ?_))
 refine lC 1 cb18 R (Zs_ok hx68) R ?_
 rintro _
 refine o_2 ?_
 refine qM (ow kT54 54 (.slice (ad g51 o52) a1.length D2) (l61.set i48.toNat (⟨(ix l61 i48).Op,(ix l61 i48).Args,r67.2,(ix l61 i48).Ints,(ix l61 i48).Form,(ix l61 i48).Data⟩:Node))::V) (fun w s=>St.unfocus (E:=[OO kT3 3 A63 D63 ((ix l61 i48).Args),ow kT3 3 (.slice A64 ((ix l61 i48).Dims).length D64) r67.2,OO kT3 3 A65 D65 ((ix l61 i48).Ints),OO kT3 3 A66 D66 ((ix l61 i48).Data)]) (⟨(ix l61 i48).Op,(ix l61 i48).Args,r67.2,(ix l61 i48).Ints,(ix l61 i48).Form,(ix l61 i48).Data⟩:Node) (s.e 5 [1,2,0,3,4]) ?_) ?_
 exact fun I h s=>(mO54).put I h ((),(sc A63 ((ix l61 i48).Args) D63),(sc A64 ((ix l61 i48).Dims) D64),(sc A65 ((ix l61 i48).Ints) D65),(),(sc A66 ((ix l61 i48).Data) D66)) (⟨(ix l61 i48).Op,(ix l61 i48).Args,r67.2,(ix l61 i48).Ints,(ix l61 i48).Form,(ix l61 i48).Data⟩:Node) s
 obtain ⟨l69,hl70,hr⟩:=bd hr
 replace hl70:=Option.some.inj hl70
 refine qM (ow kT54 54 (.slice (ad g51 o52) a1.length D2) l69::V) (fun w s=>by rw [← hl70]; exact s) ?_
 refine o_2 ?_
 obtain ⟨r75,hx76,hr⟩:=bd hr
 refine o_4 ?_
 refine lO (vz (.pointer (some ⟨g51,o52+i48.toNat*6+3,none⟩)) (v_fa fo54_3 R R)) (t_focus (K:=kT54) sP54 0 i48 R hg50.1 hg50.2 ?_)
 rintro ⟨-,⟨A71,D71⟩,⟨A72,D72⟩,⟨A73,D73⟩,-,⟨A74,D74⟩⟩
 refine lO (v_holf (fo:=3) 0 ag23 R R R) (lI R (lM (ow _ _ _ _::hol _ _ _ _ _ _::ow _ _ _ _::ow _ _ _ _::ow _ _ _ _::V) (tE 5 [3,0,1,2,4]) ?_))
 refine lC 1 cb18 R (Zs_ok hx76) R ?_
 rintro _
 refine o_2 ?_
 refine qM (ow kT54 54 (.slice (ad g51 o52) a1.length D2) (l69.set i48.toNat (⟨(ix l69 i48).Op,(ix l69 i48).Args,(ix l69 i48).Dims,r75.2,(ix l69 i48).Form,(ix l69 i48).Data⟩:Node))::V) (fun w s=>St.unfocus (E:=[OO kT3 3 A71 D71 ((ix l69 i48).Args),OO kT3 3 A72 D72 ((ix l69 i48).Dims),ow kT3 3 (.slice A73 ((ix l69 i48).Ints).length D73) r75.2,OO kT3 3 A74 D74 ((ix l69 i48).Data)]) (⟨(ix l69 i48).Op,(ix l69 i48).Args,(ix l69 i48).Dims,r75.2,(ix l69 i48).Form,(ix l69 i48).Data⟩:Node) (s.e 5 [1,2,3,0,4]) ?_) ?_
 exact fun I h s=>(mO54).put I h ((),(sc A71 ((ix l69 i48).Args) D71),(sc A72 ((ix l69 i48).Dims) D72),(sc A73 ((ix l69 i48).Ints) D73),(),(sc A74 ((ix l69 i48).Data) D74)) (⟨(ix l69 i48).Op,(ix l69 i48).Args,(ix l69 i48).Dims,r75.2,(ix l69 i48).Form,(ix l69 i48).Data⟩:Node) s
 obtain ⟨l77,hl78,hr⟩:=bd hr
 replace hl78:=Option.some.inj hl78
 refine qM (ow kT54 54 (.slice (ad g51 o52) a1.length D2) l77::V) (fun w s=>by rw [← hl78]; exact s) ?_
 refine o_2 ?_
 obtain ⟨r79,hx80,hr⟩:=bd hr
 refine o_4 ?_
 refine lC 0 cb61 R (Z0m_ok hx80) R ?_
 rintro _
 refine o_1 ?_
 refine lO (vz (.pointer (some ⟨g51,o52+i48.toNat*6+4,none⟩)) (v_fa fo54_4 R R)) (l_ste (K:=kT54) (fo:=4) (v:=(vstr r79)) (f:=(fun x:Node=>(⟨x.Op,x.Args,x.Dims,x.Ints,r79,x.Data⟩:Node))) 0 i48 R R sz9 ?_ R R R R hg50.1 hg50.2 ?_)
 exact SetL.deep sP54 mO54 (fun a x=>((),(.slice a.2.1.1 x.Args.length a.2.1.2),(.slice a.2.2.1.1 x.Dims.length a.2.2.1.2),(.slice a.2.2.2.1.1 x.Ints.length a.2.2.2.1.2),(),(.slice a.2.2.2.2.2.1 x.Data.length a.2.2.2.2.2.2))) R (fun _ _=>R) (fun _ _=>R)
 refine o_1 ?_
 obtain ⟨l81,hl82,hr⟩:=bd hr
 replace hl82:=Option.some.inj hl82
 refine qM (ow kT54 54 (.slice (ad g51 o52) a1.length D2) l81::V) (fun w s=>by rw [← hl82]; exact s) ?_
 refine o_8 ?_
 obtain ⟨r87,hx88,hr⟩:=bd hr
 refine o_4 ?_
 refine lO (vz (.pointer (some ⟨g51,o52+i48.toNat*6+5,none⟩)) (v_fa fo54_5 R R)) (t_focus (K:=kT54) sP54 0 i48 R hg50.1 hg50.2 ?_)
 rintro ⟨-,⟨A83,D83⟩,⟨A84,D84⟩,⟨A85,D85⟩,-,⟨A86,D86⟩⟩
 refine lO (v_holf (fo:=5) 0 ag23 R R R) (lI R (lM (ow _ _ _ _::hol _ _ _ _ _ _::ow _ _ _ _::ow _ _ _ _::ow _ _ _ _::V) (fun w s=>(s.f 5 [4,1,0,4])) ?_))
 refine lC 1 cb18 R (Zs_ok hx88) R ?_
 rintro _
 refine o_2 ?_
 refine qM (ow kT54 54 (.slice (ad g51 o52) a1.length D2) (l81.set i48.toNat (⟨(ix l81 i48).Op,(ix l81 i48).Args,(ix l81 i48).Dims,(ix l81 i48).Ints,(ix l81 i48).Form,r87.2⟩:Node))::V) (fun w s=>St.unfocus (E:=[OO kT3 3 A83 D83 ((ix l81 i48).Args),OO kT3 3 A84 D84 ((ix l81 i48).Dims),OO kT3 3 A85 D85 ((ix l81 i48).Ints),ow kT3 3 (.slice A86 ((ix l81 i48).Data).length D86) r87.2]) (⟨(ix l81 i48).Op,(ix l81 i48).Args,(ix l81 i48).Dims,(ix l81 i48).Ints,(ix l81 i48).Form,r87.2⟩:Node) (s.f 5 [1,4,0,1]) ?_) ?_
 exact fun I h s=>(mO54).put I h ((),(sc A83 ((ix l81 i48).Args) D83),(sc A84 ((ix l81 i48).Dims) D84),(sc A85 ((ix l81 i48).Ints) D85),(),(sc A86 ((ix l81 i48).Data) D86)) (⟨(ix l81 i48).Op,(ix l81 i48).Args,(ix l81 i48).Dims,(ix l81 i48).Ints,(ix l81 i48).Form,r87.2⟩:Node) s
 obtain ⟨l89,hl90,hr⟩:=bd hr
 replace hl90:=Option.some.inj hl90
 refine qM (ow kT54 54 (.slice (ad g51 o52) a1.length D2) l89::V) (fun w s=>by rw [← hl90]; exact s) ?_
 refine o_7 ?_
 cases hr
 exact qA () tI
 refine o_3 ?_
 cases hr
 obtain rfl:=he1 _ R
 have hr:=hk1
 refine o_2 ?_
 exact qI ((k47,a46),()) hr tI
 rintro ⟨⟨k94,p95⟩,_⟩ σ1 hr
 dsimp only [Z0k_J1] at hr
 refine o_7 ?_
 cases hr
 exact qF () tI
theorem Z22_ok  {a1:Graph}{k4:Int}{r:Int×(List Node)×(List Int)}(hr:Z22 a1 k4=some r) :
 FnOk Tryz.prog 17 [(.agg [(.slice A2 N2 D2),(.slice A3 N3 D3)].toArray),(iv k4)] [ow kT54 54 (.slice A2 N2 D2) a1.Nodes,ow kT3 3 (.slice A3 N3 D3) a1.Outs] (fun (h:Unit)=>((iv r.1),[ow kT54 54 (.slice A2 N2 D2) r.2.1,ow kT3 3 (.slice A3 N3 D3) r.2.2])):=by
 unfold Z22 at hr
 refine fn_ok Tryz.func17 R 14 R R fun C V=>?_
 refine cL 0 sees_ow ?_
 rintro rfl
 refine cL 1 sees_ow ?_
 rintro rfl
 refine o_2 ?_
 refine lBx R fun b5=>?_
 refine o_2 ?_
 refine qM _ (tE 3 [1,2,0]) ?_
 let W1:=bxl b5 [(sc A2 a1.Nodes D2),(sc A3 a1.Outs D3)] 30::V
 refine o_2 ?_
 obtain ⟨r6,hx7,hr⟩:=bd hr
 refine o_4 ?_
 refine lC 1 cb39 R (Z0k_ok hx7) R ?_
 rintro _
 refine o_4 ?_
 obtain ⟨r8,hx9,hr⟩:=bd hr
 refine o_4 ?_
 refine lM _ (tE 2 [1,0]) ?_
 refine lC 1 cb18 R (Zs_ok hx9) R ?_
 rintro _
 refine o_10 ?_
 cases hr
 exact qF () (tE 3 [1,0])
theorem Z0b_ok  {a1:(List Int)}{k3:Int}{r:Int}(hr:Z0b a1 k3=some r) :
 FnOk Tryz.prog 19 [(.slice A2 N2 D2),(iv k3)] [rds kT3 (.slice A2 N2 D2) a1] (fun (h:Unit)=>((iv r),[])):=by
 unfold Z0b at hr
 refine fn_ok Tryz.func19 R 21 R R fun C V=>?_
 refine cL 0 sees_rd ?_
 rintro rfl
 let W0:=RR kT3 A2 D2 a1::V
 refine cN W0 ?_
 refine o_6 ?_
 refine c_cut (A:=(Int)×(Unit)) (fun a=>Z0b_J1 a.1=some r) (fun a=>[(1,(iv a.1))]) (fun a=>W0) ?_ ?_
 refine o_6 ?_
 obtain ⟨e1,hl1,hk1⟩:=bd hr
 refine c_loop (A:=Unit) hl1 (fun s a=>[(0,(sc A2 a1 D2)),(1,(iv s.1)),(5,(iv s.2))]) (fun s a=>W0) () (aS R) tI ?_
 rintro ⟨k9,i10⟩ _ σ1 out1 hr he1
 dsimp only [Z0b_L1] at hr
 refine o_9 ?_
 split at hr
 refine o_7 ?_
 obtain ⟨hg12,hr⟩:=gd hr
 refine o_3 ?_
 refine t_some 0 sees_rd (show 0<a1.length by have:=hg12; omega) (fun g13 o14 ha=>?_)
 subst ha
 refine o_6 ?_
 split at hr
 refine o_10 ?_
 cases hr
 obtain rfl:=he1 _ R
 have hr:=hk1
 refine o_3 ?_
 cases hr
 exact qF () (tE 1 [])
 refine o_15 ?_
 cases hr
 exact qA () tI
 refine o_3 ?_
 cases hr
 obtain rfl:=he1 _ R
 have hr:=hk1
 refine o_2 ?_
 exact qI (k9,()) hr tI
 rintro ⟨k18,_⟩ σ1 hr
 dsimp only [Z0b_J1] at hr
 refine o_7 ?_
 cases hr
 exact qF () (tE 1 [])
end Go.Proofs.YtmpnollfdpdipaaGreat
