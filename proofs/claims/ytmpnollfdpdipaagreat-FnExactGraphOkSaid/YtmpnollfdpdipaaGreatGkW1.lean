import Derived.Test.YtmpnollfdpdipaaGreatGkF
set_option linter.unusedVariables false
set_option maxRecDepth 20000
namespace Go.Proofs.YtmpnollfdpdipaaGreat
open Go Go.Pg
variable {A2 A3 A4 A5 A6 A7:Option Addr}{D2 D3 D4 D5 D6 D7 N2 N3 N4 N5 N6 N7:Nat}
theorem Z17_ok  {a1:(List Int)}{left3:Int}{r:Int}(hr:Z17 a1 left3=some r) :
 FnOk Tryz.prog 33 [(.slice A2 N2 D2),(iv left3)] [rds kT3 (.slice A2 N2 D2) a1] (fun (h:Unit)=>((iv r),[])):=by
 unfold Z17 at hr
 refine fn_ok Tryz.func33 R 12 R R fun C V=>?_
 refine cN (_::V) ?_
 refine cL 0 sees_rd ?_
 rintro rfl
 let W0:List HP:=RR kT3 A2 D2 a1::V
 refine cN W0 ?_
 refine o_21 ?_
 rcases bif_ hr with ⟨_,hr⟩|⟨_,hr⟩
 refine o_8 ?_
 obtain rfl:=so hr
 exact qF () (tE 1 [])
 refine o_10 ?_
 obtain rfl:=so hr
 exact qF () (tE 1 [])
theorem Z27_ok  {a1:Node}{left6:Int}{r:Int}(hr:Z27 a1 left6=some r) :
 FnOk Tryz.prog 50 [(.agg [(iv a1.Op),(.slice A2 N2 D2),(.slice A3 N3 D3),(.slice A4 N4 D4),(vstr a1.Form),(.slice A5 N5 D5)].toArray),(iv left6)] [rds kT3 (.slice A2 N2 D2) a1.Args,rds kT3 (.slice A3 N3 D3) a1.Dims,rds kT3 (.slice A4 N4 D4) a1.Ints,rds kT3 (.slice A5 N5 D5) a1.Data] (fun (h:Unit)=>((iv r),[])):=by
 unfold Z27 at hr
 refine fn_ok Tryz.func50 R 37 R R fun C V=>?_
 refine cN (_::_::_::_::V) ?_
 refine cL 0 sees_rd ?_
 rintro rfl
 refine cL 1 sees_rd ?_
 rintro rfl
 refine cL 2 sees_rd ?_
 rintro rfl
 refine cL 3 sees_rd ?_
 rintro rfl
 let W0:List HP:=RR kT3 A2 D2 a1.Args::RR kT3 A3 D3 a1.Dims::RR kT3 A4 D4 a1.Ints::RR kT3 A5 D5 a1.Data::V
 refine cN W0 ?_
 refine o_2 ?_
 refine lBx R fun b7=>?_
 refine o_2 ?_
 let W1:List HP:=bxl b7 [(iv a1.Op),(sc A2 a1.Args D2),(sc A3 a1.Dims D3),(sc A4 a1.Ints D4),(vstr a1.Form),(sc A5 a1.Data D5)] 70::W0
 refine qN W1 ?_
 refine o_2 ?_
 obtain ⟨r8,hx9,hr⟩:=bd hr
 refine o_4 ?_
 refine lM (RR kT3 A2 D2 a1.Args::W1) (fun w s=>(s.d 1 R)) ?_
 refine lC 1 cb33 R (Z17_ok hx9) R ?_
 rintro _
 refine lN W1 ?_
 refine o_10 ?_
 rcases bif_ hr with ⟨_,hr⟩|⟨_,hr⟩
 refine o_8 ?_
 obtain rfl:=so hr
 exact qF () (tE 5 [])
 refine o_4 ?_
 obtain ⟨r11,hx12,hr⟩:=bd hr
 refine o_4 ?_
 refine lM (RR kT3 A3 D3 a1.Dims::W1) (fun w s=>(s.d 2 R)) ?_
 refine lC 1 cb33 R (Z17_ok hx12) R ?_
 rintro _
 refine lN W1 ?_
 refine o_10 ?_
 rcases bif_ hr with ⟨_,hr⟩|⟨_,hr⟩
 refine o_8 ?_
 obtain rfl:=so hr
 exact qF () (tE 5 [])
 refine o_4 ?_
 obtain ⟨r14,hx15,hr⟩:=bd hr
 refine o_4 ?_
 refine lM (RR kT3 A4 D4 a1.Ints::W1) (fun w s=>(s.d 3 R)) ?_
 refine lC 1 cb33 R (Z17_ok hx15) R ?_
 rintro _
 refine lN W1 ?_
 refine o_10 ?_
 rcases bif_ hr with ⟨_,hr⟩|⟨_,hr⟩
 refine o_8 ?_
 obtain rfl:=so hr
 exact qF () (tE 5 [])
 refine o_8 ?_
 refine lO (vz (il a1.Form) (v_slen un9 R)) ?_
 refine o_11 ?_
 rcases bif_ hr with ⟨_,hr⟩|⟨_,hr⟩
 refine o_8 ?_
 obtain rfl:=so hr
 exact qF () (tE 5 [])
 refine o_4 ?_
 obtain ⟨r18,hx19,hr⟩:=bd hr
 refine o_4 ?_
 refine lM (RR kT3 A5 D5 a1.Data::W1) (fun w s=>(s.d 4 R)) ?_
 refine lC 1 cb33 R (Z17_ok hx19) R ?_
 rintro _
 refine lN W1 ?_
 refine o_10 ?_
 rcases bif_ hr with ⟨_,hr⟩|⟨_,hr⟩
 refine o_8 ?_
 obtain rfl:=so hr
 exact qF () (tE 5 [])
 refine o_10 ?_
 obtain rfl:=so hr
 exact qF () (tE 5 [])
theorem Z0z_ok  {a1:(List Node)}{left3:Int}{r:Int}(hr:Z0z a1 left3=some r) :
 FnOk Tryz.prog 32 [(.slice A2 N2 D2),(iv left3)] [rds kT70 (.slice A2 N2 D2) a1] (fun (h:Unit)=>((iv r),[])):=by
 unfold Z0z at hr
 refine fn_ok Tryz.func32 R 27 R R fun C V=>?_
 refine cN (_::V) ?_
 refine cL 0 sees_rd ?_
 rintro rfl
 let W0:List HP:=RR kT70 A2 D2 a1::V
 refine cN W0 ?_
 refine o_21 ?_
 rcases bif_ hr with ⟨_,hr⟩|⟨_,hr⟩
 refine o_8 ?_
 obtain rfl:=so hr
 exact qF () (tE 1 [])
 refine o_4 ?_
 refine c_cut (A:=(Int)×(Unit)) (fun a=>Z0z_J1 a.1=some r) (fun a=>[(1,(iv a.1))]) (fun a=>W0) ?_ ?_
 refine o_6 ?_
 obtain ⟨e1,hl1,hk1⟩:=bd hr
 refine c_loop (A:=Unit) hl1 (fun s a=>[(0,(sc A2 a1 D2)),(1,(iv s.1)),(5,(iv s.2))]) (fun s a=>W0) () (aS R) tI ?_
 rintro ⟨left16,i17⟩ _ σ1 out1 hr he1
 dsimp only [Z0z_L1] at hr
 refine o_9 ?_
 rcases bif_ hr with ⟨_,hr⟩|⟨_,hr⟩
 refine o_6 ?_
 obtain ⟨hg19,hr⟩:=gd hr
 obtain ⟨r26,hx27,hr⟩:=bd hr
 refine o_3 ?_
 refine t_some 0 sees_rd (show 0<a1.length by have:=hg19; omega) (fun g20 o21 ha=>?_)
 subst ha
 refine o_1 ?_
 refine t_elem (K:=kT70) 0 i17 dT70.dec R hg19.1 hg19.2 ?_
 rintro ⟨-,⟨A22,D22⟩,⟨A23,D23⟩,⟨A24,D24⟩,-,⟨A25,D25⟩⟩
 refine lN (cl g20 (o21+i17.toNat*6) [(iv (ix a1 i17).Op),(sc A22 ((ix a1 i17).Args) D22),(sc A23 ((ix a1 i17).Dims) D23),(sc A24 ((ix a1 i17).Ints) D24),(vstr (ix a1 i17).Form),(sc A25 ((ix a1 i17).Data) D25)]::RR kT3 A22 D22 ((ix a1 i17).Args)::RR kT3 A23 D23 ((ix a1 i17).Dims)::RR kT3 A24 D24 ((ix a1 i17).Ints)::RR kT3 A25 D25 ((ix a1 i17).Data)::W0) ?_
 refine lO (vz (.agg [(iv (ix a1 i17).Op),(sc A22 ((ix a1 i17).Args) D22),(sc A23 ((ix a1 i17).Dims) D23),(sc A24 ((ix a1 i17).Ints) D24),(vstr (ix a1 i17).Form),(sc A25 ((ix a1 i17).Data) D25)].toArray) (v_clfs (fo:=0) 0 ag70 sz70 R R R R)) (lI R (lM (rds _ _ _::rds _ _ _::rds _ _ _::rds _ _ _::cl _ _ _::rds _ _ _::rds _ _ _::rds _ _ _::rds _ _ _::W0) (fun w s=>(((((s.d 1 R).d 3 R).d 5 R).d 7 R).e 9 [3,2,1,0,4,5,6,7,8])) ?_))
 refine lC 4 cb50 R (Z27_ok hx27) R ?_
 rintro _
 refine lN (_::_::_::_::_::W0) ?_
 refine o_9 ?_
 rcases bif_ hr with ⟨_,hr⟩|⟨_,hr⟩
 refine o_9 ?_
 obtain rfl:=so hr
 obtain rfl:=he1 _ R
 have hr:=hk1
 refine o_3 ?_
 obtain rfl:=so hr
 exact qF () (tE 6 [])
 refine o_9 ?_
 obtain rfl:=so hr
 exact qA () (tE 5 [])
 refine o_3 ?_
 obtain rfl:=so hr
 obtain rfl:=he1 _ R
 have hr:=hk1
 refine o_2 ?_
 exact qI (left16,()) hr tI
 rintro ⟨left31,_⟩ σ1 hr
 dsimp only [Z0z_J1] at hr
 refine o_7 ?_
 obtain rfl:=so hr
 exact qF () (tE 1 [])
theorem Z2k_ok  {a1:Graph}{left4:Int}{r:Int}(hr:Z2k a1 left4=some r) :
 FnOk Tryz.prog 9 [(.agg [(.slice A2 N2 D2),(.slice A3 N3 D3)].toArray),(iv left4)] [rds kT70 (.slice A2 N2 D2) a1.Nodes,rds kT3 (.slice A3 N3 D3) a1.Outs] (fun (h:Unit)=>((iv r),[])):=by
 unfold Z2k at hr
 refine fn_ok Tryz.func9 R 18 R R fun C V=>?_
 refine cN (_::_::V) ?_
 refine cL 0 sees_rd ?_
 rintro rfl
 refine cL 1 sees_rd ?_
 rintro rfl
 let W0:List HP:=RR kT70 A2 D2 a1.Nodes::RR kT3 A3 D3 a1.Outs::V
 refine cN W0 ?_
 refine o_2 ?_
 refine lBx R fun b5=>?_
 refine o_2 ?_
 let W1:List HP:=bxl b5 [(sc A2 a1.Nodes D2),(sc A3 a1.Outs D3)] 25::W0
 refine qN W1 ?_
 refine o_2 ?_
 obtain ⟨r6,hx7,hr⟩:=bd hr
 refine o_4 ?_
 refine lM (RR kT70 A2 D2 a1.Nodes::W1) (fun w s=>(s.d 1 R)) ?_
 refine lC 1 cb32 R (Z0z_ok hx7) R ?_
 rintro _
 refine lN W1 ?_
 refine o_10 ?_
 rcases bif_ hr with ⟨_,hr⟩|⟨_,hr⟩
 refine o_8 ?_
 obtain rfl:=so hr
 exact qF () (tE 3 [])
 refine o_4 ?_
 obtain ⟨r9,hx10,hr⟩:=bd hr
 refine o_4 ?_
 refine lM (RR kT3 A3 D3 a1.Outs::W1) (fun w s=>(s.d 2 R)) ?_
 refine lC 1 cb33 R (Z17_ok hx10) R ?_
 rintro _
 refine lN W1 ?_
 refine o_10 ?_
 rcases bif_ hr with ⟨_,hr⟩|⟨_,hr⟩
 refine o_8 ?_
 obtain rfl:=so hr
 exact qF () (tE 3 [])
 refine o_10 ?_
 obtain rfl:=so hr
 exact qF () (tE 3 [])
theorem Z02_ok  {a1:(List Int)}{r:(List Int)}(hr:Z02 a1=some r) :
 FnOk Tryz.prog 28 [(.slice A2 N2 D2)] [rds kT3 (.slice A2 N2 D2) a1] (fun (h:HH)=>((s3 h),[ow kT3 3 (s3 h) r])):=by
 unfold Z02 at hr
 refine fn_ok Tryz.func28 R 22 R R fun C V=>?_
 refine cN (_::V) ?_
 refine cL 0 sees_rd ?_
 rintro rfl
 let W0:List HP:=RR kT3 A2 D2 a1::V
 refine cN W0 ?_
 refine o_6 ?_
 obtain ⟨hg3,hr⟩:=gd hr
 refine o_3 ?_
 refine l_make (K:=kT3) (m:=(a1.length:Int)) (z:=(0:Int)) R R sl23 sz3 by3 (Zr.zk zT3 zc3) (by decide) R R hg3.1 hg3.2.1 hg3.2.2 (fun A4 D4=>(lS R (l_nil (q_next (c_seq (c_cut (A:=((List Int))×(Unit)) (fun a=>Z02_J1 a.1=some r) (fun a=>[(3,(sc A4 (List.replicate (a1.length:Int).toNat (0:Int)) D4))]) (fun a=>ow kT3 3 (.slice A4 (List.replicate (a1.length:Int).toNat (0:Int)).length D4) a.1::W0) ?_ ?_))))))
 refine o_6 ?_
 obtain ⟨e1,hl1,hk1⟩:=bd hr
 refine c_loop (A:=Unit) hl1 (fun s a=>[(0,(sc A2 a1 D2)),(3,(sc A4 (List.replicate (a1.length:Int).toNat (0:Int)) D4)),(4,(iv s.2))]) (fun s a=>ow kT3 3 (.slice A4 (List.replicate (a1.length:Int).toNat (0:Int)).length D4) s.1::W0) () (aS R) tI ?_
 rintro ⟨x14,i15⟩ _ σ1 out1 hr he1
 dsimp only [Z02_L1] at hr
 refine o_9 ?_
 rcases bif_ hr with ⟨_,hr⟩|⟨_,hr⟩
 refine o_5 ?_
 obtain ⟨hg17,hr⟩:=gd hr
 obtain ⟨hg20,hr⟩:=gd hr
 refine o_5 ?_
 refine t_some 1 sees_rd (show 0<a1.length by have:=hg17; omega) (fun g18 o19 ha=>?_)
 subst ha
 refine o_2 ?_
 refine t_some 0 sees_ow (show 0<(List.replicate (a1.length:Int).toNat (0:Int)).length by have:=hg20; omega) (fun g21 o22 ha=>?_)
 subst ha
 refine o_1 ?_
 refine lN (ow kT3 3 (.slice (ad g21 o22) (List.replicate (a1.length:Int).toNat (0:Int)).length D4) x14::W0) ?_
 refine l_stx (K:=kT3) (x':=(ix a1 i15)) 0 i15 R R sz3 R R hg20.1 hg20.2 ?_ ?_
 exact fun I h s=>(mO3).put I h () (ix a1 i15) s
 refine lN (ow kT3 3 (.slice (ad g21 o22) (List.replicate (a1.length:Int).toNat (0:Int)).length D4) (x14.set i15.toNat (ix a1 i15))::W0) ?_
 refine o_8 ?_
 obtain rfl:=so hr
 exact qA () tI
 refine o_3 ?_
 obtain rfl:=so hr
 obtain rfl:=he1 _ R
 have hr:=hk1
 refine o_2 ?_
 exact qI (x14,()) hr tI
 rintro ⟨x25,_⟩ σ1 hr
 dsimp only [Z02_J1] at hr
 refine o_7 ?_
 obtain rfl:=so hr
 exact qF (A4,(List.replicate (a1.length:Int).toNat (0:Int)).length,D4) (tE 2 [0])
theorem Z2l_ok  {a1:Node}{r:Node}(hr:Z2l a1=some r) :
 FnOk Tryz.prog 58 [(.agg [(iv a1.Op),(.slice A2 N2 D2),(.slice A3 N3 D3),(.slice A4 N4 D4),(vstr a1.Form),(.slice A5 N5 D5)].toArray)] [rds kT3 (.slice A2 N2 D2) a1.Args,rds kT3 (.slice A3 N3 D3) a1.Dims,rds kT3 (.slice A4 N4 D4) a1.Ints,rds kT3 (.slice A5 N5 D5) a1.Data] (fun (h:HH×HH×HH×HH)=>((.agg [(iv r.Op),(s3 h.1),(s3 h.2.1),(s3 h.2.2.1),(vstr r.Form),(s3 h.2.2.2)].toArray),[ow kT3 3 (s3 h.1) r.Args,ow kT3 3 (s3 h.2.1) r.Dims,ow kT3 3 (s3 h.2.2.1) r.Ints,ow kT3 3 (s3 h.2.2.2) r.Data])):=by
 unfold Z2l at hr
 refine fn_ok Tryz.func58 R 27 R R fun C V=>?_
 refine cN (_::_::_::_::V) ?_
 refine cL 0 sees_rd ?_
 rintro rfl
 refine cL 1 sees_rd ?_
 rintro rfl
 refine cL 2 sees_rd ?_
 rintro rfl
 refine cL 3 sees_rd ?_
 rintro rfl
 let W0:List HP:=RR kT3 A2 D2 a1.Args::RR kT3 A3 D3 a1.Dims::RR kT3 A4 D4 a1.Ints::RR kT3 A5 D5 a1.Data::V
 refine cN W0 ?_
 refine o_2 ?_
 refine lBx R fun b6=>?_
 refine l_alloc R R zc54 (fun b7=>(l_nil ?_))
 let W1:List HP:=bxl b6 [(iv a1.Op),(sc A2 a1.Args D2),(sc A3 a1.Dims D3),(sc A4 a1.Ints D4),(vstr a1.Form),(sc A5 a1.Data D5)] 70::W0
 refine qN (_::W1) ?_
 refine o_3 ?_
 refine l_alloc R R zc54 (fun b8=>(l_nil (q_next (c_seq (c_region (lO (vFa 0 fo70_0 R) (lO (vLd 2 ag3 R R R) (lO (vFa 0 fo54_0 R) (l_store 0 R R sz3 R R R R R (lN (bxl b8 [(iv a1.Op),(.slice none 0 0),(.slice none 0 0),(.slice none 0 0),(vstr ([]:Str)),(.slice none 0 0)] 54::_::W1) ?_))))))))))
 refine o_3 ?_
 obtain ⟨r9,hx10,hr⟩:=bd hr
 refine o_3 ?_
 refine lM (RR kT3 A2 D2 a1.Args::_::_::W1) (fun w s=>(s.d 3 R)) ?_
 refine lC 1 cb28 R (Z02_ok hx10) R ?_
 rintro ⟨A11,N11,D11⟩
 refine lN (ow kT3 3 (.slice A11 N11 D11) r9::_::_::W1) ?_
 refine l_len 0 sees_ow ?_
 rintro rfl
 refine o_1 ?_
 refine l_store 1 R R sz23 R R R R R (lN (_::bxl b8 [(iv a1.Op),(sc A11 r9 D11),(.slice none 0 0),(.slice none 0 0),(vstr ([]:Str)),(.slice none 0 0)] 54::_::W1) ?_)
 refine o_3 ?_
 obtain ⟨r12,hx13,hr⟩:=bd hr
 refine o_3 ?_
 refine lM (RR kT3 A3 D3 a1.Dims::_::_::_::W1) (fun w s=>(s.d 5 R)) ?_
 refine lC 1 cb28 R (Z02_ok hx13) R ?_
 rintro ⟨A14,N14,D14⟩
 refine lN (ow kT3 3 (.slice A14 N14 D14) r12::_::_::_::W1) ?_
 refine l_len 0 sees_ow ?_
 rintro rfl
 refine o_1 ?_
 refine l_store 2 R R sz23 R R R R R (lN (_::_::bxl b8 [(iv a1.Op),(sc A11 r9 D11),(sc A14 r12 D14),(.slice none 0 0),(vstr ([]:Str)),(.slice none 0 0)] 54::_::W1) ?_)
 refine o_3 ?_
 obtain ⟨r15,hx16,hr⟩:=bd hr
 refine o_3 ?_
 refine lM (RR kT3 A4 D4 a1.Ints::_::_::_::_::W1) (fun w s=>(s.d 7 R)) ?_
 refine lC 1 cb28 R (Z02_ok hx16) R ?_
 rintro ⟨A17,N17,D17⟩
 refine lN (ow kT3 3 (.slice A17 N17 D17) r15::_::_::_::_::W1) ?_
 refine l_len 0 sees_ow ?_
 rintro rfl
 refine o_1 ?_
 refine l_store 3 R R sz23 R R R R R (lN (_::_::_::bxl b8 [(iv a1.Op),(sc A11 r9 D11),(sc A14 r12 D14),(sc A17 r15 D17),(vstr ([]:Str)),(.slice none 0 0)] 54::_::W1) ?_)
 refine o_7 ?_
 refine l_store 3 R R sz9 R R R R R (lN (_::_::_::bxl b8 [(iv a1.Op),(sc A11 r9 D11),(sc A14 r12 D14),(sc A17 r15 D17),(vstr a1.Form),(.slice none 0 0)] 54::_::W1) ?_)
 refine o_3 ?_
 obtain ⟨r18,hx19,hr⟩:=bd hr
 refine o_3 ?_
 refine lM (RR kT3 A5 D5 a1.Data::_::_::_::_::_::W1) (fun w s=>(s.d 9 R)) ?_
 refine lC 1 cb28 R (Z02_ok hx19) R ?_
 rintro ⟨A20,N20,D20⟩
 refine lN (ow kT3 3 (.slice A20 N20 D20) r18::_::_::_::_::_::W1) ?_
 refine l_len 0 sees_ow ?_
 rintro rfl
 refine o_1 ?_
 refine l_store 4 R R sz23 R R R R R (lN (_::_::_::_::bxl b8 [(iv a1.Op),(sc A11 r9 D11),(sc A14 r12 D14),(sc A17 r15 D17),(vstr a1.Form),(sc A20 r18 D20)] 54::_::W1) ?_)
 refine o_5 ?_
 refine l_stores 5 R R sz54 R R R R R R (lN (_::_::_::_::_::bxl b7 [(iv a1.Op),(sc A11 r9 D11),(sc A14 r12 D14),(sc A17 r15 D17),(vstr a1.Form),(sc A20 r18 D20)] 54::W1) ?_)
 refine o_3 ?_
 obtain rfl:=so hr
 exact qS ((A11,r9.length,D11),(A14,r12.length,D14),(A17,r15.length,D17),(A20,r18.length,D20)) (tE 11 [3,2,1,0])
theorem Z0h_ok  {a1:(List Node)}{r:(List Node)}(hr:Z0h a1=some r) :
 FnOk Tryz.prog 35 [(.slice A2 N2 D2)] [rds kT70 (.slice A2 N2 D2) a1] (fun (h:HH)=>((s3 h),[ow kT54 54 (s3 h) r])):=by
 unfold Z0h at hr
 refine fn_ok Tryz.func35 R 23 R R fun C V=>?_
 refine cN (_::V) ?_
 refine cL 0 sees_rd ?_
 rintro rfl
 let W0:List HP:=RR kT70 A2 D2 a1::V
 refine cN W0 ?_
 refine o_6 ?_
 obtain ⟨hg3,hr⟩:=gd hr
 refine o_3 ?_
 refine l_make (K:=kT54) (m:=(a1.length:Int)) (z:=zT54.z) R R sl28 sz54 by54 (Zr.zk zT54 zc54) (by decide) R R hg3.1 hg3.2.1 hg3.2.2 (fun A4 D4=>(lS R (l_nil (q_next (c_seq (c_cut (A:=((List Node))×(Unit)) (fun a=>Z0h_J1 a.1=some r) (fun a=>[(3,(sc A4 (List.replicate (a1.length:Int).toNat zT54.z) D4))]) (fun a=>ow kT54 54 (.slice A4 (List.replicate (a1.length:Int).toNat zT54.z).length D4) a.1::W0) ?_ ?_))))))
 refine o_6 ?_
 obtain ⟨e1,hl1,hk1⟩:=bd hr
 refine c_loop (A:=Unit) hl1 (fun s a=>[(0,(sc A2 a1 D2)),(3,(sc A4 (List.replicate (a1.length:Int).toNat zT54.z) D4)),(4,(iv s.2))]) (fun s a=>ow kT54 54 (.slice A4 (List.replicate (a1.length:Int).toNat zT54.z).length D4) s.1::W0) () (aS R) tI ?_
 rintro ⟨x24,i25⟩ _ σ1 out1 hr he1
 dsimp only [Z0h_L1] at hr
 refine o_9 ?_
 rcases bif_ hr with ⟨_,hr⟩|⟨_,hr⟩
 refine o_5 ?_
 obtain ⟨hg27,hr⟩:=gd hr
 obtain ⟨r34,hx35,hr⟩:=bd hr
 obtain ⟨hg40,hr⟩:=gd hr
 refine o_5 ?_
 refine t_some 1 sees_rd (show 0<a1.length by have:=hg27; omega) (fun g28 o29 ha=>?_)
 subst ha
 refine o_1 ?_
 refine t_elem (K:=kT70) 1 i25 dT70.dec R hg27.1 hg27.2 ?_
 rintro ⟨-,⟨A30,D30⟩,⟨A31,D31⟩,⟨A32,D32⟩,-,⟨A33,D33⟩⟩
 refine lN (cl g28 (o29+i25.toNat*6) [(iv (ix a1 i25).Op),(sc A30 ((ix a1 i25).Args) D30),(sc A31 ((ix a1 i25).Dims) D31),(sc A32 ((ix a1 i25).Ints) D32),(vstr (ix a1 i25).Form),(sc A33 ((ix a1 i25).Data) D33)]::RR kT3 A30 D30 ((ix a1 i25).Args)::RR kT3 A31 D31 ((ix a1 i25).Dims)::RR kT3 A32 D32 ((ix a1 i25).Ints)::RR kT3 A33 D33 ((ix a1 i25).Data)::ow kT54 54 (.slice A4 (List.replicate (a1.length:Int).toNat zT54.z).length D4) x24::W0) ?_
 refine lO (vz (.agg [(iv (ix a1 i25).Op),(sc A30 ((ix a1 i25).Args) D30),(sc A31 ((ix a1 i25).Dims) D31),(sc A32 ((ix a1 i25).Ints) D32),(vstr (ix a1 i25).Form),(sc A33 ((ix a1 i25).Data) D33)].toArray) (v_clfs (fo:=0) 0 ag70 sz70 R R R R)) (lM (rds _ _ _::rds _ _ _::rds _ _ _::rds _ _ _::cl _ _ _::rds _ _ _::rds _ _ _::rds _ _ _::rds _ _ _::ow _ _ _ _::W0) (fun w s=>(((((s.d 1 R).d 3 R).d 5 R).d 7 R).e 10 [3,2,1,0,4,5,6,7,8,9])) ?_)
 refine lC 4 cb58 R (Z2l_ok hx35) R ?_
 rintro ⟨⟨A36,N36,D36⟩,⟨A37,N37,D37⟩,⟨A38,N38,D38⟩,⟨A39,N39,D39⟩⟩
 refine lN (ow kT3 3 (.slice A36 N36 D36) r34.Args::ow kT3 3 (.slice A37 N37 D37) r34.Dims::ow kT3 3 (.slice A38 N38 D38) r34.Ints::ow kT3 3 (.slice A39 N39 D39) r34.Data::_::_::_::_::_::_::W0) ?_
 refine l_len 0 sees_ow ?_
 rintro rfl
 refine l_len 1 sees_ow ?_
 rintro rfl
 refine l_len 2 sees_ow ?_
 rintro rfl
 refine l_len 3 sees_ow ?_
 rintro rfl
 refine t_some 9 sees_ow (show 0<(List.replicate (a1.length:Int).toNat zT54.z).length by have:=hg40; omega) (fun g41 o42 ha=>?_)
 subst ha
 refine o_1 ?_
 refine lM (ow kT54 54 (.slice (ad g41 o42) (List.replicate (a1.length:Int).toNat zT54.z).length D4) x24::ow _ _ _ _::ow _ _ _ _::ow _ _ _ _::ow _ _ _ _::cl _ _ _::rds _ _ _::rds _ _ _::rds _ _ _::rds _ _ _::W0) (fun w s=>(s.f 10 [9,1,0,9])) ?_
 refine l_stx (K:=kT54) (x':=r34) 4 i25 R R sz54 R R hg40.1 hg40.2 ?_ ?_
 exact fun I h s=>(mO54).put I h ((),(sc A36 r34.Args D36),(sc A37 r34.Dims D37),(sc A38 r34.Ints D38),(),(sc A39 r34.Data D39)) r34 s
 refine lN (ow kT54 54 (.slice (ad g41 o42) (List.replicate (a1.length:Int).toNat zT54.z).length D4) (x24.set i25.toNat r34)::_::_::_::_::_::W0) ?_
 refine o_8 ?_
 obtain rfl:=so hr
 exact qA () (tE 6 [0])
 refine o_3 ?_
 obtain rfl:=so hr
 obtain rfl:=he1 _ R
 have hr:=hk1
 refine o_2 ?_
 exact qI (x24,()) hr tI
 rintro ⟨x45,_⟩ σ1 hr
 dsimp only [Z0h_J1] at hr
 refine o_7 ?_
 obtain rfl:=so hr
 exact qF (A4,(List.replicate (a1.length:Int).toNat zT54.z).length,D4) (tE 2 [0])
theorem Z1k_ok  {a1:Graph}{r:Graph}(hr:Z1k a1=some r) :
 FnOk Tryz.prog 11 [(.agg [(.slice A2 N2 D2),(.slice A3 N3 D3)].toArray)] [rds kT70 (.slice A2 N2 D2) a1.Nodes,rds kT3 (.slice A3 N3 D3) a1.Outs] (fun (h:HH×HH)=>((.agg [(s3 h.1),(s3 h.2)].toArray),[ow kT54 54 (s3 h.1) r.Nodes,ow kT3 3 (s3 h.2) r.Outs])):=by
 unfold Z1k at hr
 refine fn_ok Tryz.func11 R 13 R R fun C V=>?_
 refine cN (_::_::V) ?_
 refine cL 0 sees_rd ?_
 rintro rfl
 refine cL 1 sees_rd ?_
 rintro rfl
 let W0:List HP:=RR kT70 A2 D2 a1.Nodes::RR kT3 A3 D3 a1.Outs::V
 refine cN W0 ?_
 refine o_2 ?_
 refine lBx R fun b4=>?_
 refine l_alloc R R zc30 (fun b5=>(l_nil ?_))
 let W1:List HP:=bxl b4 [(sc A2 a1.Nodes D2),(sc A3 a1.Outs D3)] 25::W0
 refine qN (_::W1) ?_
 refine o_3 ?_
 refine l_alloc R R zc30 (fun b6=>(l_nil (q_next (c_seq ?_))))
 obtain ⟨r7,hx8,hr⟩:=bd hr
 refine o_3 ?_
 refine lM (RR kT70 A2 D2 a1.Nodes::_::_::W1) (fun w s=>(s.d 3 R)) ?_
 refine lC 1 cb35 R (Z0h_ok hx8) R ?_
 rintro ⟨A9,N9,D9⟩
 refine lN (ow kT54 54 (.slice A9 N9 D9) r7::_::_::W1) ?_
 refine l_len 0 sees_ow ?_
 rintro rfl
 refine o_1 ?_
 refine l_store 1 R R sz28 R R R R R (lN (_::bxl b6 [(sc A9 r7 D9),(.slice none 0 0)] 30::_::W1) ?_)
 refine o_3 ?_
 obtain ⟨r10,hx11,hr⟩:=bd hr
 refine o_3 ?_
 refine lM (RR kT3 A3 D3 a1.Outs::_::_::_::W1) (fun w s=>(s.d 5 R)) ?_
 refine lC 1 cb28 R (Z02_ok hx11) R ?_
 rintro ⟨A12,N12,D12⟩
 refine lN (ow kT3 3 (.slice A12 N12 D12) r10::_::_::_::W1) ?_
 refine l_len 0 sees_ow ?_
 rintro rfl
 refine o_1 ?_
 refine l_store 2 R R sz23 R R R R R (lN (_::_::bxl b6 [(sc A9 r7 D9),(sc A12 r10 D12)] 30::_::W1) ?_)
 refine o_5 ?_
 refine l_stores 3 R R sz30 R R R R R R (lN (_::_::_::bxl b5 [(sc A9 r7 D9),(sc A12 r10 D12)] 30::W1) ?_)
 refine o_3 ?_
 obtain rfl:=so hr
 exact qS ((A9,r7.length,D9),(A12,r10.length,D12)) (tE 7 [1,0])
theorem Z2o_ok  {op1:Int}{r:Int×Int}(hr:Z2o op1=some r) :
 FnOk Tryz.prog 75 [(iv op1)] [] (fun (h:Unit)=>((.tuple [(iv r.1),(iv r.2)].toArray),[])):=by
 unfold Z2o at hr
 refine fn_ok Tryz.func75 R 13 R R fun C V=>?_
 refine cN V ?_
 refine o_15 ?_
 rcases bif_ hr with ⟨_,hr⟩|⟨_,hr⟩
 refine o_10 ?_
 obtain rfl:=so hr
 exact qT2 () tI
 refine o_8 ?_
 rcases bif_ hr with ⟨_,hr⟩|⟨_,hr⟩
 refine o_10 ?_
 obtain rfl:=so hr
 exact qT2 () tI
 refine o_8 ?_
 rcases bif_ hr with ⟨_,hr⟩|⟨_,hr⟩
 refine o_10 ?_
 obtain rfl:=so hr
 exact qT2 () tI
 refine o_11 ?_
 obtain rfl:=so hr
 exact qT2 () tI
theorem Z2x_ok  {op1:Int}{r:Bool}(hr:Z2x op1=some r) :
 FnOk Tryz.prog 76 [(iv op1)] [] (fun (h:Unit)=>((.bool r),[])):=by
 unfold Z2x at hr
 refine fn_ok Tryz.func76 R 17 R R fun C V=>?_
 refine cN V ?_
 refine o_6 ?_
 refine cQ [(2,(.bool ((((op1==(1:Int))||(op1==(2:Int)))||(op1==(12:Int)))||(op1==(13:Int)))))] (V) ?_ ?_
 refine o_4 ?_
 rcases bo (op1==(1:Int)) with hc2 | hc2
 refine o_13 ?_
 exact qj tI
 refine o_4 ?_
 rcases bo ((op1==(1:Int))||(op1==(2:Int))) with hc3 | hc3
 refine o_9 ?_
 exact qj tI
 refine o_4 ?_
 rcases bo (((op1==(1:Int))||(op1==(2:Int)))||(op1==(12:Int))) with hc4 | hc4
 refine o_5 ?_
 exact qj tI
 refine o_5 ?_
 exact qj tI
 rintro σ1
 refine o_2 ?_
 obtain rfl:=so hr
 exact qF () tI
theorem Z10_ok  {op1:Int}{r:Int}(hr:Z10 op1=some r) :
 FnOk Tryz.prog 77 [(iv op1)] [] (fun (h:Unit)=>((iv r),[])):=by
 unfold Z10 at hr
 refine fn_ok Tryz.func77 R 16 R R fun C V=>?_
 refine cN V ?_
 refine o_18 ?_
 rcases bif_ hr with ⟨_,hr⟩|⟨_,hr⟩
 refine o_9 ?_
 obtain rfl:=so hr
 exact qF () tI
 refine o_2 ?_
 refine c_cut (A:=(Bool)×(Unit)) (fun a=>Z10_J1 op1 a.1=some r) (fun a=>[(3,(iv op1)),(6,(.bool a.1))]) (fun a=>V) ?_ ?_
 refine o_6 ?_
 rcases bif_ hr with ⟨_,hr⟩|⟨_,hr⟩
 refine o_2 ?_
 exact qI ((op1==(14:Int)),()) hr tI
 refine o_5 ?_
 exact qI ((op1==(15:Int)),()) hr tI
 rintro ⟨x4,_⟩ σ1 hr
 dsimp only [Z10_J1] at hr
 rcases bif_ hr with ⟨_,hr⟩|⟨_,hr⟩
 refine o_9 ?_
 obtain rfl:=so hr
 exact qF () tI
 refine o_7 ?_
 rcases bif_ hr with ⟨_,hr⟩|⟨_,hr⟩
 refine o_9 ?_
 obtain rfl:=so hr
 exact qF () tI
 refine o_7 ?_
 rcases bif_ hr with ⟨_,hr⟩|⟨_,hr⟩
 refine o_9 ?_
 obtain rfl:=so hr
 exact qF () tI
 refine o_2 ?_
 refine c_cut (A:=(Bool)×(Unit)) (fun a=>Z10_J2 a.1=some r) (fun a=>[(13,(.bool a.1))]) (fun a=>V) ?_ ?_
 refine o_6 ?_
 rcases bif_ hr with ⟨_,hr⟩|⟨_,hr⟩
 refine o_2 ?_
 exact qI ((op1==(18:Int)),()) hr tI
 refine o_5 ?_
 exact qI ((op1==(19:Int)),()) hr tI
 rintro ⟨x9,_⟩ σ1 hr
 dsimp only [Z10_J2] at hr
 rcases bif_ hr with ⟨_,hr⟩|⟨_,hr⟩
 refine o_9 ?_
 obtain rfl:=so hr
 exact qF () tI
 refine o_10 ?_
 obtain rfl:=so hr
 exact qF () tI
theorem Z0y_ok  {n1:Node}{r:Bool}(hr:Z0y n1=some r) :
 FnOk Tryz.prog 51 [(.agg [(iv n1.Op),(.slice A2 N2 D2),(.slice A3 N3 D3),(.slice A4 N4 D4),(vstr n1.Form),(.slice A5 N5 D5)].toArray)] [rds kT3 (.slice A2 N2 D2) n1.Args,rds kT3 (.slice A3 N3 D3) n1.Dims,rds kT3 (.slice A4 N4 D4) n1.Ints,rds kT3 (.slice A5 N5 D5) n1.Data] (fun (h:Unit)=>((.bool r),[])):=by
 unfold Z0y at hr
 refine fn_ok Tryz.func51 R 92 R R fun C V=>?_
 refine cN (_::_::_::_::V) ?_
 refine cL 0 sees_rd ?_
 rintro rfl
 refine cL 1 sees_rd ?_
 rintro rfl
 refine cL 2 sees_rd ?_
 rintro rfl
 refine cL 3 sees_rd ?_
 rintro rfl
 let W0:List HP:=RR kT3 A2 D2 n1.Args::RR kT3 A3 D3 n1.Dims::RR kT3 A4 D4 n1.Ints::RR kT3 A5 D5 n1.Data::V
 refine cN W0 ?_
 refine o_2 ?_
 refine lBx R fun b6=>?_
 refine o_2 ?_
 let W1:List HP:=bxl b6 [(iv n1.Op),(sc A2 n1.Args D2),(sc A3 n1.Dims D3),(sc A4 n1.Ints D4),(vstr n1.Form),(sc A5 n1.Data D5)] 54::W0
 refine qN W1 ?_
 refine o_3 ?_
 refine cQ [(1,(pt b6 0)),(13,(.bool ((decide (n1.Op<(1:Int)))||(decide (n1.Op>(19:Int))))))] (W1) ?_ ?_
 refine o_5 ?_
 rcases bo (decide (n1.Op<(1:Int))) with hc7 | hc7
 refine o_3 ?_
 refine lO (pOT (decide (n1.Op>(19:Int))) R hc7) (l_nil ?_)
 exact qj tI
 refine o_3 ?_
 refine lO (pOF R hc7 R) (l_nil ?_)
 exact qj tI
 rintro σ1
 refine o_1 ?_
 rcases bif_ hr with ⟨_,hr⟩|⟨_,hr⟩
 refine o_8 ?_
 obtain rfl:=so hr
 exact qF () (tE 5 [])
 refine o_4 ?_
 obtain ⟨r9,hx10,hr⟩:=bd hr
 refine o_3 ?_
 refine lC 0 cb75 R (Z2o_ok hx10) R ?_
 rintro _
 refine lO (vT R) ?_
 refine o_8 ?_
 refine cQ [(1,(pt b6 0)),(31,(.bool ((decide ((n1.Args.length:Int)<r9.1))||(decide ((n1.Args.length:Int)>r9.2)))))] (W1) ?_ ?_
 refine o_7 ?_
 rcases bo (decide ((n1.Args.length:Int)<r9.1)) with hc11 | hc11
 refine o_5 ?_
 refine lO (pOT (decide ((n1.Args.length:Int)>r9.2)) R hc11) (l_nil ?_)
 exact qj tI
 refine o_5 ?_
 refine lO (pOF R hc11 R) (l_nil ?_)
 exact qj tI
 rintro σ1
 refine o_1 ?_
 rcases bif_ hr with ⟨_,hr⟩|⟨_,hr⟩
 refine o_8 ?_
 obtain rfl:=so hr
 exact qF () (tE 5 [])
 refine o_5 ?_
 obtain ⟨r13,hx14,hr⟩:=bd hr
 refine cQ [(1,(pt b6 0)),(62,(.bool ((((!r13)&&(decide ((n1.Dims.length:Int)>(0:Int))))||((n1.Op != (11:Int))&&(!(n1.Form==([]:Str)))))||((n1.Op != (2:Int))&&(decide ((n1.Data.length:Int)>(0:Int)))))))] (W1) ?_ ?_
 refine o_3 ?_
 refine lC 0 cb76 R (Z2x_ok hx14) R ?_
 rintro _
 refine o_2 ?_
 rcases bo (!r13) with hc15 | hc15
 refine o_4 ?_
 refine lO (pAT R hc15 R) (lB R ?_)
 rcases bo ((!r13)&&(decide ((n1.Dims.length:Int)>(0:Int)))) with hc16 | hc16
 refine o_8 ?_
 refine lO (pOT ((n1.Op != (11:Int))&&(!(n1.Form==([]:Str)))) R hc16) ?_
 refine o_10 ?_
 refine lO (pOT ((n1.Op != (2:Int))&&(decide ((n1.Data.length:Int)>(0:Int)))) R (oT hc16)) (l_nil ?_)
 exact qj tI
 refine o_4 ?_
 rcases bo (n1.Op != (11:Int)) with hc17 | hc17
 refine o_2 ?_
 refine lW (wnT hc17) (vz (.bool (!(n1.Form==([]:Str)))) (v_scmp R R R)) (lW (wnF hc16) (pAT R hc17 R) (lO (pOF R hc16 R) (lB R ?_)))
 rcases bo (((!r13)&&(decide ((n1.Dims.length:Int)>(0:Int))))||((n1.Op != (11:Int))&&(!(n1.Form==([]:Str))))) with hc18 | hc18
 refine o_9 ?_
 refine lO (pOT ((n1.Op != (2:Int))&&(decide ((n1.Data.length:Int)>(0:Int)))) R hc18) (l_nil ?_)
 exact qj tI
 refine o_4 ?_
 rcases bo (n1.Op != (2:Int)) with hc19 | hc19
 refine o_4 ?_
 refine lW (wnF hc18) (pAT R hc19 R) (lO (pOF R hc18 R) (l_nil ?_))
 exact qj tI
 refine o_4 ?_
 refine lW (wnF hc18) (pAF (decide ((n1.Data.length:Int)>(0:Int))) R hc19) (lO (pOF R hc18 R) (l_nil ?_))
 exact qj tI
 refine o_3 ?_
 refine lW (wnF hc16) (pAF (!(n1.Form==([]:Str))) R hc17) (lO (pOF R hc16 R) (lB R ?_))
 rcases bo (((!r13)&&(decide ((n1.Dims.length:Int)>(0:Int))))||((n1.Op != (11:Int))&&(!(n1.Form==([]:Str))))) with hc20 | hc20
 refine o_9 ?_
 refine lO (pOT ((n1.Op != (2:Int))&&(decide ((n1.Data.length:Int)>(0:Int)))) R hc20) (l_nil ?_)
 exact qj tI
 refine o_4 ?_
 rcases bo (n1.Op != (2:Int)) with hc21 | hc21
 refine o_4 ?_
 refine lW (wnF hc20) (pAT R hc21 R) (lO (pOF R hc20 R) (l_nil ?_))
 exact qj tI
 refine o_4 ?_
 refine lW (wnF hc20) (pAF (decide ((n1.Data.length:Int)>(0:Int))) R hc21) (lO (pOF R hc20 R) (l_nil ?_))
 exact qj tI
 refine o_4 ?_
 refine lO (pAF (decide ((n1.Dims.length:Int)>(0:Int))) R hc15) ?_
 refine o_5 ?_
 rcases bo (n1.Op != (11:Int)) with hc22 | hc22
 refine o_2 ?_
 refine lW (wnT hc22) (vz (.bool (!(n1.Form==([]:Str)))) (v_scmp R R R)) (lW (wnF (aF hc15)) (pAT R hc22 R) (lO (pOF R (aF hc15) R) (lB R ?_)))
 rcases bo (((!r13)&&(decide ((n1.Dims.length:Int)>(0:Int))))||((n1.Op != (11:Int))&&(!(n1.Form==([]:Str))))) with hc23 | hc23
 refine o_9 ?_
 refine lO (pOT ((n1.Op != (2:Int))&&(decide ((n1.Data.length:Int)>(0:Int)))) R hc23) (l_nil ?_)
 exact qj tI
 refine o_4 ?_
 rcases bo (n1.Op != (2:Int)) with hc24 | hc24
 refine o_4 ?_
 refine lW (wnF hc23) (pAT R hc24 R) (lO (pOF R hc23 R) (l_nil ?_))
 exact qj tI
 refine o_4 ?_
 refine lW (wnF hc23) (pAF (decide ((n1.Data.length:Int)>(0:Int))) R hc24) (lO (pOF R hc23 R) (l_nil ?_))
 exact qj tI
 refine o_3 ?_
 refine lW (wnF (aF hc15)) (pAF (!(n1.Form==([]:Str))) R hc22) (lO (pOF R (aF hc15) R) (lB R ?_))
 rcases bo (((!r13)&&(decide ((n1.Dims.length:Int)>(0:Int))))||((n1.Op != (11:Int))&&(!(n1.Form==([]:Str))))) with hc25 | hc25
 refine o_9 ?_
 refine lO (pOT ((n1.Op != (2:Int))&&(decide ((n1.Data.length:Int)>(0:Int)))) R hc25) (l_nil ?_)
 exact qj tI
 refine o_4 ?_
 rcases bo (n1.Op != (2:Int)) with hc26 | hc26
 refine o_4 ?_
 refine lW (wnF hc25) (pAT R hc26 R) (lO (pOF R hc25 R) (l_nil ?_))
 exact qj tI
 refine o_4 ?_
 refine lW (wnF hc25) (pAF (decide ((n1.Data.length:Int)>(0:Int))) R hc26) (lO (pOF R hc25 R) (l_nil ?_))
 exact qj tI
 rintro σ1
 refine o_1 ?_
 rcases bif_ hr with ⟨_,hr⟩|⟨_,hr⟩
 refine o_8 ?_
 obtain rfl:=so hr
 exact qF () (tE 5 [])
 refine o_4 ?_
 obtain ⟨r28,hx29,hr⟩:=bd hr
 refine o_3 ?_
 refine lC 0 cb77 R (Z10_ok hx29) R ?_
 rintro _
 refine o_5 ?_
 refine cQ [(1,(pt b6 0)),(5,(iv r28)),(73,(.bool ((n1.Op==(16:Int))||(n1.Op==(17:Int)))))] (W1) ?_ ?_
 refine o_5 ?_
 rcases bo (n1.Op==(16:Int)) with hc30 | hc30
 refine o_3 ?_
 refine lO (pOT (n1.Op==(17:Int)) R hc30) (l_nil ?_)
 exact qj tI
 refine o_3 ?_
 refine lO (pOF R hc30 R) (l_nil ?_)
 exact qj tI
 rintro σ1
 refine o_1 ?_
 rcases bif_ hr with ⟨_,hr⟩|⟨_,hr⟩
 refine o_2 ?_
 refine cQ [(2,(.bool ((decide ((n1.Ints.length:Int)≥r28))&&(decide ((n1.Ints.length:Int)≤(w64 (r28+(4096:Int))))))))] (W1) ?_ ?_
 refine o_7 ?_
 rcases bo (decide ((n1.Ints.length:Int)≥r28)) with hc32 | hc32
 refine o_6 ?_
 refine lO (pAT R hc32 R) ?_
 refine o_2 ?_
 exact qj tI
 refine o_6 ?_
 refine lO (pAF (decide ((n1.Ints.length:Int)≤(w64 (r28+(4096:Int))))) R hc32) ?_
 refine o_2 ?_
 exact qj tI
 rintro σ1
 refine o_3 ?_
 obtain rfl:=so hr
 exact qF () (tE 5 [])
 refine o_14 ?_
 obtain rfl:=so hr
 exact qF () (tE 5 [])
theorem Z0d_ok  {index1:(List Int)}{n3:Int}{r:Bool}(hr:Z0d index1 n3=some r) :
 FnOk Tryz.prog 52 [(.slice A2 N2 D2),(iv n3)] [rds kT3 (.slice A2 N2 D2) index1] (fun (h:Unit)=>((.bool r),[])):=by
 unfold Z0d at hr
 refine fn_ok Tryz.func52 R 25 R R fun C V=>?_
 refine cN (_::V) ?_
 refine cL 0 sees_rd ?_
 rintro rfl
 let W0:List HP:=RR kT3 A2 D2 index1::V
 refine cN W0 ?_
 refine o_6 ?_
 refine c_cut (A:=(Unit)×(Unit)) (fun a=>Z0d_J1=some r) (fun a=>[]) (fun a=>W0) ?_ ?_
 refine o_6 ?_
 obtain ⟨e1,hl1,hk1⟩:=bd hr
 refine c_loop (A:=Unit) hl1 (fun s a=>[(0,(sc A2 index1 D2)),(1,(iv n3)),(5,(iv s))]) (fun s a=>W0) () (aS R) tI ?_
 rintro i10 _ σ1 out1 hr he1
 dsimp only [Z0d_L1] at hr
 refine o_9 ?_
 rcases bif_ hr with ⟨_,hr⟩|⟨_,hr⟩
 refine o_6 ?_
 obtain ⟨hg12,hr⟩:=gd hr
 refine cQ [(0,(sc A2 index1 D2)),(1,(iv n3)),(5,(iv i10)),(24,(.bool ((decide ((ix index1 i10)<(0:Int)))||(decide ((ix index1 i10)≥n3)))))] (W0) ?_ ?_
 refine o_3 ?_
 refine t_some 0 sees_rd (show 0<index1.length by have:=hg12; omega) (fun g13 o14 ha=>?_)
 subst ha
 refine o_4 ?_
 rcases bo (decide ((ix index1 i10)<(0:Int))) with hc15 | hc15
 refine o_8 ?_
 exact qj tI
 refine o_8 ?_
 exact qj tI
 rintro σ1
 refine o_1 ?_
 rcases bif_ hr with ⟨_,hr⟩|⟨_,hr⟩
 refine o_9 ?_
 obtain rfl:=so hr
 obtain rfl:=he1 _ R
 have hr:=hk1
 refine o_3 ?_
 obtain rfl:=so hr
 exact qF () (tE 1 [])
 refine o_9 ?_
 obtain rfl:=so hr
 exact qA () tI
 refine o_3 ?_
 obtain rfl:=so hr
 obtain rfl:=he1 _ R
 have hr:=hk1
 refine o_2 ?_
 exact q_join ((),()) hr trivial tI
 rintro ⟨_,_⟩ σ1 hr
 dsimp only [Z0d_J1] at hr
 refine o_6 ?_
 obtain rfl:=so hr
 exact qF () (tE 1 [])
theorem Zs_ok  {dims1:(List Int)}{r:Int}(hr:Zs dims1=some r) :
 FnOk Tryz.prog 95 [(.slice A2 N2 D2)] [rds kT3 (.slice A2 N2 D2) dims1] (fun (h:Unit)=>((iv r),[])):=by
 unfold Zs at hr
 refine fn_ok Tryz.func95 R 32 R R fun C V=>?_
 refine cN (_::V) ?_
 refine cL 0 sees_rd ?_
 rintro rfl
 let W0:List HP:=RR kT3 A2 D2 dims1::V
 refine cN W0 ?_
 refine o_11 ?_
 refine c_cut (A:=(Int)×(Unit)) (fun a=>Zs_J1 a.1=some r) (fun a=>[(3,(iv a.1))]) (fun a=>W0) ?_ ?_
 refine o_6 ?_
 obtain ⟨e1,hl1,hk1⟩:=bd hr
 refine c_loop (A:=Unit) hl1 (fun s a=>[(0,(sc A2 dims1 D2)),(3,(iv s.1)),(4,(iv s.2))]) (fun s a=>W0) () (aS R) tI ?_
 rintro ⟨n12,i13⟩ _ σ1 out1 hr he1
 dsimp only [Zs_L1] at hr
 refine o_9 ?_
 rcases bif_ hr with ⟨_,hr⟩|⟨_,hr⟩
 refine o_7 ?_
 obtain ⟨hg15,hr⟩:=gd hr
 refine cQ [(0,(sc A2 dims1 D2)),(3,(iv n12)),(4,(iv i13)),(22,(.bool ((decide ((ix dims1 i13)<(1:Int)))||(decide ((ix dims1 i13)>(4096:Int))))))] (W0) ?_ ?_
 refine o_3 ?_
 refine t_some 0 sees_rd (show 0<dims1.length by have:=hg15; omega) (fun g16 o17 ha=>?_)
 subst ha
 refine o_4 ?_
 rcases bo (decide ((ix dims1 i13)<(1:Int))) with hc18 | hc18
 refine o_7 ?_
 exact qj tI
 refine o_7 ?_
 exact qj tI
 rintro σ1
 refine o_1 ?_
 rcases bif_ hr with ⟨_,hr⟩|⟨_,hr⟩
 refine o_10 ?_
 obtain rfl:=so hr
 obtain rfl:=he1 _ R
 have hr:=hk1
 refine o_3 ?_
 obtain rfl:=so hr
 exact qF () (tE 1 [])
 refine o_8 ?_
 refine t_some 0 sees_rd (show 0<dims1.length by have:=hg15; omega) (fun g20 o21 ha=>?_)
 subst ha
 refine o_12 ?_
 rcases bif_ hr with ⟨_,hr⟩|⟨_,hr⟩
 refine o_9 ?_
 obtain rfl:=so hr
 obtain rfl:=he1 _ R
 have hr:=hk1
 refine o_3 ?_
 obtain rfl:=so hr
 exact qF () (tE 1 [])
 refine o_9 ?_
 obtain rfl:=so hr
 exact qA () tI
 refine o_3 ?_
 obtain rfl:=so hr
 obtain rfl:=he1 _ R
 have hr:=hk1
 refine o_2 ?_
 exact qI (n12,()) hr tI
 rintro ⟨n25,_⟩ σ1 hr
 dsimp only [Zs_J1] at hr
 refine o_7 ?_
 obtain rfl:=so hr
 exact qF () (tE 1 [])
theorem Zk_ok  {dims1:(List Int)}{r:Bool}(hr:Zk dims1=some r) :
 FnOk Tryz.prog 92 [(.slice A2 N2 D2)] [rds kT3 (.slice A2 N2 D2) dims1] (fun (h:Unit)=>((.bool r),[])):=by
 unfold Zk at hr
 refine fn_ok Tryz.func92 R 11 R R fun C V=>?_
 refine cN (_::V) ?_
 refine cL 0 sees_rd ?_
 rintro rfl
 let W0:List HP:=RR kT3 A2 D2 dims1::V
 refine cN W0 ?_
 refine o_6 ?_
 obtain ⟨r3,hx4,hr⟩:=bd hr
 refine cQ [(2,(.bool ((decide ((dims1.length:Int)≤(6:Int)))&&(decide (r3>(0:Int))))))] (W0) ?_ ?_
 refine o_5 ?_
 rcases bo (decide ((dims1.length:Int)≤(6:Int))) with hc5 | hc5
 refine o_1 ?_
 refine lM (RR kT3 A2 D2 dims1::W0) (fun w s=>(s.d 0 R)) ?_
 refine l_calln 1 R (wnT hc5) cb95 R (Zs_ok (gcall_t hx4 hc5)) R ?_
 rintro _
 refine lN W0 ?_
 refine o_4 ?_
 exact qj tI
 refine o_6 ?_
 exact qj tI
 rintro σ1
 refine o_2 ?_
 obtain rfl:=so hr
 exact qF () (tE 1 [])
theorem Zn_ok  {t1:Tensor}{r:Bool}(hr:Zn t1=some r) :
 FnOk Tryz.prog 55 [(.agg [(.slice A2 N2 D2),(.slice A3 N3 D3)].toArray)] [rds kT3 (.slice A2 N2 D2) t1.Dims,rds kT3 (.slice A3 N3 D3) t1.Data] (fun (h:Unit)=>((.bool r),[])):=by
 unfold Zn at hr
 refine fn_ok Tryz.func55 R 38 R R fun C V=>?_
 refine cN (_::_::V) ?_
 refine cL 0 sees_rd ?_
 rintro rfl
 refine cL 1 sees_rd ?_
 rintro rfl
 let W0:List HP:=RR kT3 A2 D2 t1.Dims::RR kT3 A3 D3 t1.Data::V
 refine cN W0 ?_
 refine o_2 ?_
 refine lBx R fun b4=>?_
 refine o_2 ?_
 let W1:List HP:=bxl b4 [(sc A2 t1.Dims D2),(sc A3 t1.Data D3)] 58::W0
 refine qN W1 ?_
 refine o_3 ?_
 obtain ⟨r5,hx6,hr⟩:=bd hr
 obtain ⟨r7,hx8,hr⟩:=bd hr
 refine cQ [(1,(pt b4 0)),(16,(.bool ((!r5)||((t1.Data.length:Int) != r7))))] (W1) ?_ ?_
 rcases bo (!r5) with hc9 | hc9
 refine cdr 13 [] mixo fun ht hn=>?_
 refine d2_ 0 [] ?_
 refine d1 2 R (lM (RR kT3 A2 D2 t1.Dims::W1) (fun w s=>(s.d 1 R)) ?_)
 refine lC 1 cb92 R (Zk_ok hx6) R ?_
 rintro _
 refine lN W1 ?_
 refine l_nil (q_draw (sL []) ?_)
 refine d10_ 3 [] ?_
 refine dD ?_
 exact qj tI
 refine cdr 13 [] mixo fun ht hn=>?_
 refine d2_ 0 [] ?_
 refine d1 2 R (lM (RR kT3 A2 D2 t1.Dims::W1) (fun w s=>(s.d 1 R)) ?_)
 refine lC 1 cb92 R (Zk_ok hx6) R ?_
 rintro _
 refine lN W1 ?_
 refine l_nil (q_draw (sL []) ?_)
 refine d7_ 3 [] ?_
 refine d1 10 R (lM (RR kT3 A2 D2 t1.Dims::W1) (fun w s=>(s.d 1 R)) ?_)
 refine l_calln 1 R (wnF hc9) cb95 R (Zs_ok (gcall_t hx8 (not_ff hc9))) R ?_
 rintro _
 refine lN W1 ?_
 refine l_nil (q_draw (sL []) ?_)
 refine d2_ 11 [] ?_
 refine dD ?_
 exact qj tI
 rintro σ1
 refine o_1 ?_
 rcases bif_ hr with ⟨_,hr⟩|⟨_,hr⟩
 refine o_8 ?_
 obtain rfl:=so hr
 exact qF () (tE 3 [])
 refine o_4 ?_
 refine c_cut (A:=(Unit)×(Unit)) (fun a=>Zn_J1=some r) (fun a=>[]) (fun a=>W1) ?_ ?_
 refine o_6 ?_
 obtain ⟨e1,hl1,hk1⟩:=bd hr
 refine c_loop (A:=Unit) hl1 (fun s a=>[(1,(pt b4 0)),(3,(iv s))]) (fun s a=>W1) () (aS R) tI ?_
 rintro i17 _ σ1 out1 hr he1
 dsimp only [Zn_L1] at hr
 refine o_10 ?_
 rcases bif_ hr with ⟨_,hr⟩|⟨_,hr⟩
 refine o_6 ?_
 obtain ⟨hg19,hr⟩:=gd hr
 refine cQ [(1,(pt b4 0)),(3,(iv i17)),(37,(.bool ((decide ((ix t1.Data i17)<(0:Int)))||(decide ((ix t1.Data i17)≥(2147483647:Int))))))] (W1) ?_ ?_
 refine o_4 ?_
 refine t_some 2 sees_rd (show 0<t1.Data.length by have:=hg19; omega) (fun g20 o21 ha=>?_)
 subst ha
 refine o_4 ?_
 rcases bo (decide ((ix t1.Data i17)<(0:Int))) with hc22 | hc22
 refine o_8 ?_
 exact qj tI
 refine o_8 ?_
 exact qj tI
 rintro σ1
 refine o_1 ?_
 rcases bif_ hr with ⟨_,hr⟩|⟨_,hr⟩
 refine o_9 ?_
 obtain rfl:=so hr
 obtain rfl:=he1 _ R
 have hr:=hk1
 refine o_3 ?_
 obtain rfl:=so hr
 exact qF () (tE 3 [])
 refine o_9 ?_
 obtain rfl:=so hr
 exact qA () tI
 refine o_3 ?_
 obtain rfl:=so hr
 obtain rfl:=he1 _ R
 have hr:=hk1
 refine o_2 ?_
 exact q_join ((),()) hr trivial tI
 rintro ⟨_,_⟩ σ1 hr
 dsimp only [Zn_J1] at hr
 refine o_6 ?_
 obtain rfl:=so hr
 exact qF () (tE 3 [])
theorem Zp_ok  {a1:(List Int)}{r:(List Int)}(hr:Zp a1=some r) :
 FnOk Tryz.prog 57 [(.slice A2 N2 D2)] [rds kT3 (.slice A2 N2 D2) a1] (fun (h:HH)=>((s3 h),[ow kT3 3 (s3 h) r])):=by
 unfold Zp at hr
 refine fn_ok Tryz.func57 R 6 R R fun C V=>?_
 refine cN (_::V) ?_
 refine cL 0 sees_rd ?_
 rintro rfl
 let W0:List HP:=RR kT3 A2 D2 a1::V
 refine cN W0 ?_
 refine o_6 ?_
 obtain ⟨hg4,hr⟩:=gd hr
 refine c_region (l_build (K:=kT3) (xs:=([]:List Int)) (vs:=[]) 0 R R sl23 sz3 zc3 R R R R R R ?_ R (fun A3 D3=>?_))
 exact fun I h s=>(mO3).list [] I h s
 refine lN (OO kT3 3 A3 D3 ([]:List Int)::W0) ?_
 refine lS R (lM (_::RR kT3 A2 D2 a1::W0) (fun w s=>((s.dup 1 R).mv 1)) ?_)
 refine l_app (K:=kT3) 17592186044416 R R sl23 sz3 by3 (Zr.zk zT3 zc3) R R R R R R (src_rd (Kind.scal_flat _ _)) hg4 (fun A5 D5=>(lN (OO kT3 3 A5 D5 (([]:List Int)++a1)::W0) ?_))
 refine o_4 ?_
 obtain rfl:=so hr
 exact qF (A5,(([]:List Int)++a1).length,D5) (tE 2 [0])
theorem Zx_ok  {a1:(List Int)}{b3:(List Int)}{r:Bool}(hr:Zx a1 b3=some r) :
 FnOk Tryz.prog 56 [(.slice A2 N2 D2),(.slice A4 N4 D4)] [rds kT3 (.slice A2 N2 D2) a1,rds kT3 (.slice A4 N4 D4) b3] (fun (h:Unit)=>((.bool r),[])):=by
 unfold Zx at hr
 refine fn_ok Tryz.func56 R 26 R R fun C V=>?_
 refine cN (_::_::V) ?_
 refine cL 0 sees_rd ?_
 rintro rfl
 refine cL 1 sees_rd ?_
 rintro rfl
 let W0:List HP:=RR kT3 A2 D2 a1::RR kT3 A4 D4 b3::V
 refine cN W0 ?_
 refine o_15 ?_
 rcases bif_ hr with ⟨_,hr⟩|⟨_,hr⟩
 refine o_8 ?_
 obtain rfl:=so hr
 exact qF () (tE 2 [])
 refine o_4 ?_
 refine c_cut (A:=(Unit)×(Unit)) (fun a=>Zx_J1=some r) (fun a=>[]) (fun a=>W0) ?_ ?_
 refine o_6 ?_
 obtain ⟨e1,hl1,hk1⟩:=bd hr
 refine c_loop (A:=Unit) hl1 (fun s a=>[(0,(sc A2 a1 D2)),(1,(sc A4 b3 D4)),(5,(iv s))]) (fun s a=>W0) () (aS R) tI ?_
 rintro i14 _ σ1 out1 hr he1
 dsimp only [Zx_L1] at hr
 refine o_9 ?_
 rcases bif_ hr with ⟨_,hr⟩|⟨_,hr⟩
 refine o_6 ?_
 obtain ⟨hg16,hr⟩:=gd hr
 obtain ⟨hg19,hr⟩:=gd hr
 refine c_some 0 sees_rd (show 0<a1.length by have:=hg16; omega) (fun g17 o18 ha=>?_)
 subst ha
 refine c_some 1 sees_rd (show 0<b3.length by have:=hg19; omega) (fun g20 o21 ha=>?_)
 subst ha
 refine cdr 9 [] mixo fun ht hn=>?_
 refine d9_ 0 [] ?_
 refine dD (q_next ?_)
 rcases bif_ hr with ⟨_,hr⟩|⟨_,hr⟩
 refine o_9 ?_
 obtain rfl:=so hr
 obtain rfl:=he1 _ R
 have hr:=hk1
 refine o_3 ?_
 obtain rfl:=so hr
 exact qF () (tE 2 [])
 refine o_9 ?_
 obtain rfl:=so hr
 exact qA () tI
 refine o_3 ?_
 obtain rfl:=so hr
 obtain rfl:=he1 _ R
 have hr:=hk1
 refine o_2 ?_
 exact q_join ((),()) hr trivial tI
 rintro ⟨_,_⟩ σ1 hr
 dsimp only [Zx_J1] at hr
 refine o_6 ?_
 obtain rfl:=so hr
 exact qF () (tE 2 [])
theorem Z1y_ok  {dims1:(List Int)}{k3:Int}{r:Int}(hr:Z1y dims1 k3=some r) :
 FnOk Tryz.prog 138 [(.slice A2 N2 D2),(iv k3)] [rds kT3 (.slice A2 N2 D2) dims1] (fun (h:Unit)=>((iv r),[])):=by
 unfold Z1y at hr
 refine fn_ok Tryz.func138 R 17 R R fun C V=>?_
 refine cN (_::V) ?_
 refine cL 0 sees_rd ?_
 rintro rfl
 let W0:List HP:=RR kT3 A2 D2 dims1::V
 refine cN W0 ?_
 refine o_14 ?_
 rcases bif_ hr with ⟨_,hr⟩|⟨_,hr⟩
 refine o_8 ?_
 obtain rfl:=so hr
 exact qF () (tE 1 [])
 refine o_4 ?_
 obtain ⟨hg5,hr⟩:=gd hr
 refine o_7 ?_
 refine t_some 0 sees_rd (show 0<dims1.length by have:=hg5; omega) (fun g6 o7 ha=>?_)
 subst ha
 refine o_6 ?_
 obtain rfl:=so hr
 exact qF () (tE 1 [])
theorem Zv_ok  {a1:(List Int)}{b3:(List Int)}{r:(List Int)}(hr:Zv a1 b3=some r) :
 FnOk Tryz.prog 101 [(.slice A2 N2 D2),(.slice A4 N4 D4)] [rds kT3 (.slice A2 N2 D2) a1,rds kT3 (.slice A4 N4 D4) b3] (fun (h:HH)=>((s3 h),[ow kT3 3 (s3 h) r])):=by
 unfold Zv at hr
 refine fn_ok Tryz.func101 R 68 R R fun C V=>?_
 refine cN (_::_::V) ?_
 refine cL 0 sees_rd ?_
 rintro rfl
 refine cL 1 sees_rd ?_
 rintro rfl
 let W0:List HP:=RR kT3 A2 D2 a1::RR kT3 A4 D4 b3::V
 refine cN W0 ?_
 refine o_7 ?_
 obtain ⟨r5,hx6,hr⟩:=bd hr
 obtain ⟨r7,hx8,hr⟩:=bd hr
 refine cQ [(0,(sc A2 a1 D2)),(1,(sc A4 b3 D4)),(17,(.bool ((!r5)||(!r7))))] (W0) ?_ ?_
 refine o_2 ?_
 refine lM (RR kT3 A2 D2 a1::W0) (fun w s=>(s.d 0 R)) ?_
 refine lC 1 cb92 R (Zk_ok hx6) R ?_
 rintro _
 refine lN W0 ?_
 refine o_2 ?_
 rcases bo (!r5) with hc9 | hc9
 refine o_5 ?_
 exact qj tI
 refine o_1 ?_
 refine lM (RR kT3 A4 D4 b3::W0) (fun w s=>(s.d 1 R)) ?_
 refine l_calln 1 R (wnF hc9) cb92 R (Zk_ok (gcall_t hx8 (not_ff hc9))) R ?_
 rintro _
 refine lN W0 ?_
 refine o_3 ?_
 exact qj tI
 rintro σ1
 refine o_1 ?_
 rcases bif_ hr with ⟨_,hr⟩|⟨_,hr⟩
 refine o_3 ?_
 refine l_build (K:=kT3) (xs:=([]:List Int)) (vs:=[]) 0 R R sl23 sz3 zc3 R R R R R R ?_ R (fun A11 D11=>?_)
 exact fun I h s=>(mO3).list [] I h s
 refine lN (OO kT3 3 A11 D11 ([]:List Int)::W0) ?_
 refine o_5 ?_
 obtain rfl:=so hr
 exact qF (A11,([]:List Int).length,D11) (tE 3 [0])
 refine o_11 ?_
 refine c_cut (A:=(Int)×(Unit)) (fun a=>Zv_J1 a1 b3 a.1=some r) (fun a=>[(0,(sc A2 a1 D2)),(1,(sc A4 b3 D4)),(5,(iv a.1))]) (fun a=>W0) ?_ ?_
 refine o_8 ?_
 rcases bif_ hr with ⟨_,hr⟩|⟨_,hr⟩
 refine o_6 ?_
 exact qI ((b3.length:Int),()) hr tI
 refine o_2 ?_
 exact qI ((a1.length:Int),()) hr tI
 rintro ⟨n13,_⟩ σ1 hr
 dsimp only [Zv_J1] at hr
 refine o_1 ?_
 obtain ⟨hg14,hr⟩:=gd hr
 refine o_2 ?_
 refine l_make (K:=kT3) (m:=n13) (z:=(0:Int)) R R sl23 sz3 by3 (Zr.zk zT3 zc3) (by decide) R R hg14.1 hg14.2.1 hg14.2.2 (fun A15 D15=>(lS R (l_nil (q_next (c_seq (c_cut (A:=((List Int))×(Unit)) (fun a=>Zv_J4 a.1=some r) (fun a=>[(6,(sc A15 (List.replicate n13.toNat (0:Int)) D15))]) (fun a=>ow kT3 3 (.slice A15 (List.replicate n13.toNat (0:Int)).length D15) a.1::W0) ?_ ?_))))))
 refine o_6 ?_
 obtain ⟨e1,hl1,hk1⟩:=bd hr
 refine c_loop (A:=Unit) hl1 (fun s a=>[(0,(sc A2 a1 D2)),(1,(sc A4 b3 D4)),(5,(iv n13)),(6,(sc A15 (List.replicate n13.toNat (0:Int)) D15)),(7,(iv s.2))]) (fun s a=>ow kT3 3 (.slice A15 (List.replicate n13.toNat (0:Int)).length D15) s.1::W0) () (aS R) tI ?_
 rintro ⟨x32,k33⟩ _ σ1 out1 hr he1
 dsimp only [Zv_L1] at hr
 refine o_8 ?_
 rcases bif_ hr with ⟨_,hr⟩|⟨_,hr⟩
 refine o_6 ?_
 obtain ⟨r35,hx36,hr⟩:=bd hr
 refine o_3 ?_
 refine lM (RR kT3 A2 D2 a1::ow kT3 3 (.slice A15 (List.replicate n13.toNat (0:Int)).length D15) x32::W0) (fun w s=>(s.d 1 R)) ?_
 refine lC 1 cb138 R (Z1y_ok hx36) R ?_
 rintro _
 refine lN (_::W0) ?_
 refine o_4 ?_
 obtain ⟨r37,hx38,hr⟩:=bd hr
 refine o_3 ?_
 refine lM (RR kT3 A4 D4 b3::_::W0) (fun w s=>(s.d 2 R)) ?_
 refine lC 1 cb138 R (Z1y_ok hx38) R ?_
 rintro _
 refine lN (_::W0) ?_
 refine o_5 ?_
 refine cQ [(0,(sc A2 a1 D2)),(1,(sc A4 b3 D4)),(5,(iv n13)),(6,(sc A15 (List.replicate n13.toNat (0:Int)) D15)),(7,(iv k33)),(8,(iv r35)),(9,(iv r37)),(50,(.bool (((r35 != r37)&&(r35 != (1:Int)))&&(r37 != (1:Int)))))] (ow kT3 3 (.slice A15 (List.replicate n13.toNat (0:Int)).length D15) x32::W0) ?_ ?_
 refine o_5 ?_
 rcases bo (r35 != r37) with hc39 | hc39
 refine o_4 ?_
 rcases bo ((r35 != r37)&&(r35 != (1:Int))) with hc40 | hc40
 refine o_4 ?_
 exact qj tI
 refine o_4 ?_
 exact qj tI
 refine o_8 ?_
 exact qj tI
 rintro σ1
 refine o_1 ?_
 rcases bif_ hr with ⟨_,hr⟩|⟨_,hr⟩
 refine o_3 ?_
 refine l_build (K:=kT3) (xs:=([]:List Int)) (vs:=[]) 0 R R sl23 sz3 zc3 R R R R R R ?_ R (fun A42 D42=>?_)
 exact fun I h s=>(mO3).list [] I h s
 refine lN (OO kT3 3 A42 D42 ([]:List Int)::_::W0) ?_
 refine o_7 ?_
 obtain rfl:=so hr
 obtain rfl:=he1 _ R
 have hr:=hk1
 refine o_3 ?_
 obtain rfl:=so hr
 exact qF (A42,([]:List Int).length,D42) (tE 4 [0])
 refine o_4 ?_
 refine c_cut (A:=(Int)×(Unit)) (fun a=>Zv_J3 n13 x32 k33 a.1=some out1) (fun a=>[(0,(sc A2 a1 D2)),(1,(sc A4 b3 D4)),(5,(iv n13)),(6,(sc A15 (List.replicate n13.toNat (0:Int)) D15)),(7,(iv k33)),(8,(iv a.1))]) (fun a=>ow kT3 3 (.slice A15 (List.replicate n13.toNat (0:Int)).length D15) x32::W0) ?_ ?_
 refine o_7 ?_
 rcases bif_ hr with ⟨_,hr⟩|⟨_,hr⟩
 refine o_5 ?_
 exact qI (r37,()) hr tI
 refine o_2 ?_
 exact qI (r35,()) hr tI
 rintro ⟨x44,_⟩ σ1 hr
 dsimp only [Zv_J3] at hr
 obtain ⟨hg45,hr⟩:=gd hr
 refine o_7 ?_
 refine t_some 0 sees_ow (show 0<(List.replicate n13.toNat (0:Int)).length by have:=hg45; omega) (fun g46 o47 ha=>?_)
 subst ha
 refine o_1 ?_
 refine lN (ow kT3 3 (.slice (ad g46 o47) (List.replicate n13.toNat (0:Int)).length D15) x32::W0) ?_
 refine l_stx (K:=kT3) (x':=x44) 0 (w64 ((w64 (n13 - (1:Int))) - k33)) R R sz3 R R hg45.1 hg45.2 ?_ ?_
 exact fun I h s=>(mO3).put I h () x44 s
 refine lN (ow kT3 3 (.slice (ad g46 o47) (List.replicate n13.toNat (0:Int)).length D15) (x32.set (w64 ((w64 (n13 - (1:Int))) - k33)).toNat x44)::W0) ?_
 refine o_8 ?_
 obtain rfl:=so hr
 exact qA () tI
 refine o_3 ?_
 obtain rfl:=so hr
 obtain rfl:=he1 _ R
 have hr:=hk1
 refine o_2 ?_
 exact qI (x32,()) hr tI
 rintro ⟨x50,_⟩ σ1 hr
 dsimp only [Zv_J4] at hr
 refine o_2 ?_
 obtain ⟨r51,hx52,hr⟩:=bd hr
 refine o_2 ?_
 refine lC 1 cb92 R (FnOk.lends (A':=[ow kT3 3 (.slice A15 (List.replicate n13.toNat (0:Int)).length D15) x50]) (A:=[rds kT3 (.slice A15 (List.replicate n13.toNat (0:Int)).length D15) x50]) (B:=[]) (Zk_ok hx52) ⟨lend_ow,trivial⟩ (fun _=>trivial)) R ?_
 rintro _
 refine lN (ow kT3 3 (.slice A15 (List.replicate n13.toNat (0:Int)).length D15) x50::W0) ?_
 refine o_3 ?_
 rcases bif_ hr with ⟨_,hr⟩|⟨_,hr⟩
 refine o_3 ?_
 refine l_build (K:=kT3) (xs:=([]:List Int)) (vs:=[]) 0 R R sl23 sz3 zc3 R R R R R R ?_ R (fun A54 D54=>?_)
 exact fun I h s=>(mO3).list [] I h s
 refine lN (OO kT3 3 A54 D54 ([]:List Int)::_::W0) ?_
 refine o_5 ?_
 obtain rfl:=so hr
 exact qF (A54,([]:List Int).length,D54) (tE 4 [0])
 refine o_10 ?_
 obtain rfl:=so hr
 exact qF (A15,(List.replicate n13.toNat (0:Int)).length,D15) (tE 3 [0])
theorem Z0b_ok  {dims1:(List Int)}{r:Tensor}(hr:Z0b dims1=some r) :
 FnOk Tryz.prog 93 [(.slice A2 N2 D2)] [rds kT3 (.slice A2 N2 D2) dims1] (fun (h:HH×HH)=>((.agg [(s3 h.1),(s3 h.2)].toArray),[ow kT3 3 (s3 h.1) r.Dims,ow kT3 3 (s3 h.2) r.Data])):=by
 unfold Z0b at hr
 refine fn_ok Tryz.func93 R 9 R R fun C V=>?_
 refine cN (_::V) ?_
 refine cL 0 sees_rd ?_
 rintro rfl
 let W0:List HP:=RR kT3 A2 D2 dims1::V
 refine cN W0 ?_
 refine o_2 ?_
 refine l_alloc R R zc58 (fun b3=>(l_nil (q_next (c_seq ?_))))
 obtain ⟨r4,hx5,hr⟩:=bd hr
 obtain ⟨r7,hx8,hr⟩:=bd hr
 obtain ⟨hg9,hr⟩:=gd hr
 refine o_2 ?_
 refine lM (RR kT3 A2 D2 dims1::_::W0) (fun w s=>(s.d 1 R)) ?_
 refine lC 1 cb57 R (Zp_ok hx5) R ?_
 rintro ⟨A6,N6,D6⟩
 refine lN (ow kT3 3 (.slice A6 N6 D6) r4::_::W0) ?_
 refine l_len 0 sees_ow ?_
 rintro rfl
 refine lS R (lM (RR kT3 A2 D2 dims1::_::_::W0) (fun w s=>(s.d 2 R)) ?_)
 refine lC 1 cb95 R (Zs_ok hx8) R ?_
 rintro _
 refine lN (_::_::W0) ?_
 refine l_make (K:=kT3) (m:=r7) (z:=(0:Int)) R R sl23 sz3 by3 (Zr.zk zT3 zc3) (by decide) R R hg9.1 hg9.2.1 hg9.2.2 (fun A10 D10=>(lO (vz (.agg [(sc A6 r4 D6),(sc A10 (List.replicate r7.toNat (0:Int)) D10)].toArray) (v_build pl58 zc58 R R)) (l_stores 2 R R sz58 R R R R R R (lN (OO kT3 3 A10 D10 (List.replicate r7.toNat (0:Int))::_::bxl b3 [(sc A6 r4 D6),(sc A10 (List.replicate r7.toNat (0:Int)) D10)] 58::W0) ?_))))
 refine o_3 ?_
 obtain rfl:=so hr
 exact qS ((A6,r4.length,D6),(A10,(List.replicate r7.toNat (0:Int)).length,D10)) (tE 4 [1,0])
theorem Zf_ok  {dims1:(List Int)}{k3:Int}{r:(List Int)}(hr:Zf dims1 k3=some r) :
 FnOk Tryz.prog 102 [(.slice A2 N2 D2),(iv k3)] [rds kT3 (.slice A2 N2 D2) dims1] (fun (h:HH)=>((s3 h),[ow kT3 3 (s3 h) r])):=by
 unfold Zf at hr
 refine fn_ok Tryz.func102 R 33 R R fun C V=>?_
 refine cN (_::V) ?_
 refine cL 0 sees_rd ?_
 rintro rfl
 let W0:List HP:=RR kT3 A2 D2 dims1::V
 refine cN W0 ?_
 refine o_6 ?_
 obtain ⟨hg4,hr⟩:=gd hr
 refine o_3 ?_
 refine l_make (K:=kT3) (m:=(dims1.length:Int)) (z:=(0:Int)) R R sl23 sz3 by3 (Zr.zk zT3 zc3) (by decide) R R hg4.1 hg4.2.1 hg4.2.2 (fun A5 D5=>(lS R (l_nil (q_next (c_seq (c_cut (A:=((List Int))×(Unit)) (fun a=>Zf_J1 a.1=some r) (fun a=>[(5,(sc A5 (List.replicate (dims1.length:Int).toNat (0:Int)) D5))]) (fun a=>ow kT3 3 (.slice A5 (List.replicate (dims1.length:Int).toNat (0:Int)).length D5) a.1::W0) ?_ ?_))))))
 refine o_9 ?_
 obtain ⟨e1,hl1,hk1⟩:=bd hr
 refine c_loop (A:=Unit) hl1 (fun s a=>[(0,(sc A2 dims1 D2)),(1,(iv s.1)),(5,(sc A5 (List.replicate (dims1.length:Int).toNat (0:Int)) D5)),(6,(iv s.2.2))]) (fun s a=>ow kT3 3 (.slice A5 (List.replicate (dims1.length:Int).toNat (0:Int)).length D5) s.2.1::W0) () (aS R) tI ?_
 rintro ⟨k16,x17,i18⟩ _ σ1 out1 hr he1
 dsimp only [Zf_L1] at hr
 refine o_7 ?_
 rcases bif_ hr with ⟨_,hr⟩|⟨_,hr⟩
 refine o_6 ?_
 obtain ⟨hg20,hr⟩:=gd hr
 obtain ⟨hg23,hr⟩:=gd hr
 obtain ⟨hg24,hr⟩:=gd hr
 refine o_6 ?_
 refine t_some 1 sees_rd (show 0<dims1.length by have:=hg20; omega) (fun g21 o22 ha=>?_)
 subst ha
 refine o_2 ?_
 refine lO (v_rem R R hg23) (t_some 0 sees_ow (show 0<(List.replicate (dims1.length:Int).toNat (0:Int)).length by have:=hg24; omega) (fun g25 o26 ha=>?_))
 subst ha
 refine o_1 ?_
 refine lN (ow kT3 3 (.slice (ad g25 o26) (List.replicate (dims1.length:Int).toNat (0:Int)).length D5) x17::W0) ?_
 refine l_stx (K:=kT3) (x':=(k16.tmod (ix dims1 i18))) 0 i18 R R sz3 R R hg24.1 hg24.2 ?_ ?_
 exact fun I h s=>(mO3).put I h () (k16.tmod (ix dims1 i18)) s
 refine lN (ow kT3 3 (.slice (ad g25 o26) (List.replicate (dims1.length:Int).toNat (0:Int)).length D5) (x17.set i18.toNat (k16.tmod (ix dims1 i18)))::W0) ?_
 refine o_8 ?_
 refine lO (vz (iv (w64 (k16.tdiv (ix dims1 i18)))) (v_quo R R hg23)) ?_
 refine o_9 ?_
 obtain rfl:=so hr
 exact qA () tI
 refine o_3 ?_
 obtain rfl:=so hr
 obtain rfl:=he1 _ R
 have hr:=hk1
 refine o_2 ?_
 exact qI (x17,()) hr tI
 rintro ⟨x30,_⟩ σ1 hr
 dsimp only [Zf_J1] at hr
 refine o_7 ?_
 obtain rfl:=so hr
 exact qF (A5,(List.replicate (dims1.length:Int).toNat (0:Int)).length,D5) (tE 2 [0])
theorem Z0g_ok  {dims1:(List Int)}{index3:(List Int)}{r:Int}(hr:Z0g dims1 index3=some r) :
 FnOk Tryz.prog 114 [(.slice A2 N2 D2),(.slice A4 N4 D4)] [rds kT3 (.slice A2 N2 D2) dims1,rds kT3 (.slice A4 N4 D4) index3] (fun (h:Unit)=>((iv r),[])):=by
 unfold Z0g at hr
 refine fn_ok Tryz.func114 R 25 R R fun C V=>?_
 refine cN (_::_::V) ?_
 refine cL 0 sees_rd ?_
 rintro rfl
 refine cL 1 sees_rd ?_
 rintro rfl
 let W0:List HP:=RR kT3 A2 D2 dims1::RR kT3 A4 D4 index3::V
 refine cN W0 ?_
 refine o_11 ?_
 refine c_cut (A:=(Int)×(Unit)) (fun a=>Z0g_J1 a.1=some r) (fun a=>[(5,(iv a.1))]) (fun a=>W0) ?_ ?_
 refine o_6 ?_
 obtain ⟨e1,hl1,hk1⟩:=bd hr
 refine c_loop (A:=Unit) hl1 (fun s a=>[(0,(sc A2 dims1 D2)),(1,(sc A4 index3 D4)),(5,(iv s.1)),(6,(iv s.2))]) (fun s a=>W0) () (aS R) tI ?_
 rintro ⟨k12,i13⟩ _ σ1 out1 hr he1
 dsimp only [Z0g_L1] at hr
 refine o_9 ?_
 rcases bif_ hr with ⟨_,hr⟩|⟨_,hr⟩
 refine o_5 ?_
 obtain ⟨hg15,hr⟩:=gd hr
 obtain ⟨hg18,hr⟩:=gd hr
 refine c_some 0 sees_rd (show 0<dims1.length by have:=hg15; omega) (fun g16 o17 ha=>?_)
 subst ha
 refine c_some 1 sees_rd (show 0<index3.length by have:=hg18; omega) (fun g19 o20 ha=>?_)
 subst ha
 refine cdr 12 [] mixo fun ht hn=>?_
 refine d12_ 0 [] ?_
 refine dD ?_
 refine o_7 ?_
 obtain rfl:=so hr
 exact qA () tI
 refine o_3 ?_
 obtain rfl:=so hr
 obtain rfl:=he1 _ R
 have hr:=hk1
 refine o_2 ?_
 exact qI (k12,()) hr tI
 rintro ⟨k23,_⟩ σ1 hr
 dsimp only [Z0g_J1] at hr
 refine o_7 ?_
 obtain rfl:=so hr
 exact qF () (tE 2 [])
theorem Z0w_ok  {t1:Tensor}{index4:(List Int)}{r:Int}(hr:Z0w t1 index4=some r) :
 FnOk Tryz.prog 112 [(.agg [(.slice A2 N2 D2),(.slice A3 N3 D3)].toArray),(.slice A5 N5 D5)] [rds kT3 (.slice A2 N2 D2) t1.Dims,rds kT3 (.slice A3 N3 D3) t1.Data,rds kT3 (.slice A5 N5 D5) index4] (fun (h:Unit)=>((iv r),[])):=by
 unfold Z0w at hr
 refine fn_ok Tryz.func112 R 13 R R fun C V=>?_
 refine cN (_::_::_::V) ?_
 refine cL 0 sees_rd ?_
 rintro rfl
 refine cL 1 sees_rd ?_
 rintro rfl
 refine cL 2 sees_rd ?_
 rintro rfl
 let W0:List HP:=RR kT3 A2 D2 t1.Dims::RR kT3 A3 D3 t1.Data::RR kT3 A5 D5 index4::V
 refine cN W0 ?_
 refine o_2 ?_
 refine lBx R fun b6=>?_
 refine o_2 ?_
 let W1:List HP:=bxl b6 [(sc A2 t1.Dims D2),(sc A3 t1.Data D3)] 58::W0
 refine qN W1 ?_
 refine o_2 ?_
 obtain ⟨r7,hx8,hr⟩:=bd hr
 obtain ⟨hg9,hr⟩:=gd hr
 refine c_some 2 sees_rd (show 0<t1.Data.length by have:=hg9; omega) (fun g10 o11 ha=>?_)
 subst ha
 refine cdr 9 [] mixo fun ht hn=>?_
 refine d5_ 0 [] ?_
 refine d1 5 R (lM (RR kT3 A2 D2 t1.Dims::RR kT3 A5 D5 index4::W1) (fun w s=>(((s.d 1 R).d 4 R).e 2 [1,0])) ?_)
 refine lC 2 cb114 R (Z0g_ok hx8) R ?_
 rintro _
 refine lN W1 ?_
 refine l_nil (q_draw (sL []) ?_)
 refine d3_ 6 [] ?_
 refine dD ?_
 refine o_2 ?_
 obtain rfl:=so hr
 exact qF () (tE 4 [])
theorem Z04_ok  {t1:Tensor}{index4:(List Int)}{r:Int}(hr:Z04 t1 index4=some r) :
 FnOk Tryz.prog 104 [(.agg [(.slice A2 N2 D2),(.slice A3 N3 D3)].toArray),(.slice A5 N5 D5)] [rds kT3 (.slice A2 N2 D2) t1.Dims,rds kT3 (.slice A3 N3 D3) t1.Data,rds kT3 (.slice A5 N5 D5) index4] (fun (h:Unit)=>((iv r),[])):=by
 unfold Z04 at hr
 refine fn_ok Tryz.func104 R 42 R R fun C V=>?_
 refine cN (_::_::_::V) ?_
 refine cL 0 sees_rd ?_
 rintro rfl
 refine cL 1 sees_rd ?_
 rintro rfl
 refine cL 2 sees_rd ?_
 rintro rfl
 let W0:List HP:=RR kT3 A2 D2 t1.Dims::RR kT3 A3 D3 t1.Data::RR kT3 A5 D5 index4::V
 refine cN W0 ?_
 refine o_2 ?_
 refine lBx R fun b6=>?_
 refine o_2 ?_
 let W1:List HP:=bxl b6 [(sc A2 t1.Dims D2),(sc A3 t1.Data D3)] 58::W0
 refine qN W1 ?_
 refine o_14 ?_
 refine l_build (K:=kT3) (xs:=([]:List Int)) (vs:=[]) 0 R R sl23 sz3 zc3 R R R R R R ?_ R (fun A7 D7=>?_)
 exact fun I h s=>(mO3).list [] I h s
 refine lN (OO kT3 3 A7 D7 ([]:List Int)::W1) ?_
 refine o_4 ?_
 refine c_cut (A:=((List Int))×(HH)) (fun a=>Z04_J3 t1 a.1=some r) (fun a=>[(2,(pt b6 0)),(6,(s3 a.2))]) (fun a=>ow kT3 3 (s3 a.2) a.1::W1) ?_ ?_
 refine o_6 ?_
 obtain ⟨e1,hl1,hk1⟩:=bd hr
 refine c_loop (A:=HH×HH) hl1 (fun s a=>[(1,(s3 a.1)),(2,(pt b6 0)),(5,(iv (w64 ((index4.length:Int) - (t1.Dims.length:Int))))),(6,(s3 a.2)),(7,(iv s.2))]) (fun s a=>rds kT3 (s3 a.1) index4::ow kT3 3 (s3 a.2) s.1::W1) ((A5,index4.length,D5),(A7,([]:List Int).length,D7)) (aS R) (fun w s=>(s.d 4 R)) ?_
 rintro ⟨x21,i23⟩ ⟨⟨A20,N20,D20⟩,⟨A22,N22,D22⟩⟩ σ1 out1 hr he1
 dsimp only [Z04_L1] at hr
 refine c_len 0 sees_rd (fun (hn:N20=index4.length)=>?_)
 subst hn
 refine c_len 1 sees_ow (fun (hn:N22=x21.length)=>?_)
 subst hn
 refine o_10 ?_
 rcases bif_ hr with ⟨_,hr⟩|⟨_,hr⟩
 refine o_6 ?_
 obtain ⟨hg25,hr⟩:=gd hr
 refine o_5 ?_
 refine t_some 0 sees_rd (show 0<index4.length by have:=hg25; omega) (fun g26 o27 ha=>?_)
 subst ha
 refine o_6 ?_
 refine c_cut (A:=(Int)×(Unit)) (fun a=>Z04_J2 x21 i23 a.1=some out1) (fun a=>[(1,(sc (ad g26 o27) index4 D20)),(2,(pt b6 0)),(5,(iv (w64 ((index4.length:Int) - (t1.Dims.length:Int))))),(6,(sc A22 x21 D22)),(7,(iv i23)),(8,(iv a.1))]) (fun a=>RR kT3 (ad g26 o27) D20 index4::OO kT3 3 A22 D22 x21::W1) ?_ ?_
 refine o_1 ?_
 obtain ⟨hg28,hr⟩:=gd hr
 refine o_4 ?_
 refine t_some 3 sees_rd (show 0<t1.Dims.length by have:=hg28; omega) (fun g29 o30 ha=>?_)
 subst ha
 refine o_5 ?_
 rcases bif_ hr with ⟨_,hr⟩|⟨_,hr⟩
 refine o_4 ?_
 exact qI ((0:Int),()) hr tI
 refine o_2 ?_
 exact qI ((ix index4 (w64 ((w64 ((index4.length:Int) - (t1.Dims.length:Int)))+i23))),()) hr tI
 rintro ⟨x32,_⟩ σ1 hr
 dsimp only [Z04_J2] at hr
 obtain ⟨hg34,hr⟩:=gd hr
 refine o_3 ?_
 refine l_build (K:=kT3) (xs:=([x32]:List Int)) (vs:=[(iv x32)]) 0 R R sl23 sz3 zc3 R R R R R R ?_ R (fun A33 D33=>?_)
 exact fun I h s=>(mO3).list [((),x32)] I h s
 refine lN (OO kT3 3 A33 D33 ([x32]:List Int)::RR kT3 (ad g26 o27) D20 index4::OO kT3 3 A22 D22 x21::W1) ?_
 refine lM (ow _ _ _ _::ow _ _ _ _::rds _ _ _::W1) (tE 3 [2,0,1]) ?_
 refine l_app (K:=kT3) 17592186044416 R R sl23 sz3 by3 (Zr.zk zT3 zc3) R R R R R R src_ow hg34 (fun A35 D35=>(lN (OO kT3 3 A35 D35 (x21++([x32]:List Int))::_::W1) ?_))
 refine o_9 ?_
 obtain rfl:=so hr
 exact qA (((ad g26 o27),index4.length,D20),(A35,(x21++([x32]:List Int)).length,D35)) (tE 2 [1,0])
 refine o_3 ?_
 obtain rfl:=so hr
 obtain rfl:=he1 _ R
 have hr:=hk1
 refine o_2 ?_
 exact qI (x21,(A22,x21.length,D22)) hr (tE 2 [1])
 rintro ⟨x40,⟨A41,N41,D41⟩⟩ σ1 hr
 dsimp only [Z04_J3] at hr
 refine c_len 0 sees_ow (fun (hn:N41=x40.length)=>?_)
 subst hn
 refine o_1 ?_
 obtain ⟨r42,hx43,hr⟩:=bd hr
 refine o_3 ?_
 refine lM (OO kT3 3 A41 D41 x40::RR kT3 A2 D2 t1.Dims::RR kT3 A3 D3 t1.Data::W1) (fun w s=>(((s.d 2 R).d 4 R).e 3 [2,1,0])) ?_
 refine lC 3 cb112 R (FnOk.lends (A':=[OO kT3 3 A41 D41 x40]) (A:=[RR kT3 A41 D41 x40]) (B:=[RR kT3 A2 D2 t1.Dims,RR kT3 A3 D3 t1.Data]) (FnOk.perm (Z0w_ok hx43) (Pre':=[RR kT3 A41 D41 x40,RR kT3 A2 D2 t1.Dims,RR kT3 A3 D3 t1.Data]) (fun _ _ _ s=>(s.e 3 [1,2,0]))) ⟨lend_ow,trivial⟩ (fun _=>trivial)) R ?_
 rintro _
 refine lN (_::W1) ?_
 refine o_4 ?_
 obtain rfl:=so hr
 exact qF () (tE 5 [])
theorem Zm_ok  {p1:Int}{r:Int}(hr:Zm p1=some r) :
 FnOk Tryz.prog 94 [(iv p1)] [] (fun (h:Unit)=>((iv r),[])):=by
 unfold Zm at hr
 refine fn_ok Tryz.func94 R 11 R R fun C V=>?_
 refine cN V ?_
 refine o_8 ?_
 refine lO (v_rem R R (by decide)) ?_
 refine o_4 ?_
 refine c_cut (A:=(Int)×(Unit)) (fun a=>Zm_J1 a.1=some r) (fun a=>[(3,(iv a.1))]) (fun a=>V) ?_ ?_
 refine o_6 ?_
 rcases bif_ hr with ⟨_,hr⟩|⟨_,hr⟩
 refine o_6 ?_
 exact qI ((w64 ((p1.tmod (2147483647:Int))+(2147483647:Int))),()) hr tI
 refine o_2 ?_
 exact qI ((p1.tmod (2147483647:Int)),()) hr tI
 rintro ⟨r3,_⟩ σ1 hr
 dsimp only [Zm_J1] at hr
 refine o_7 ?_
 obtain rfl:=so hr
 exact qF () tI
theorem Z13_ok  {a1:Int}{r:Int}(hr:Z13 a1=some r) :
 FnOk Tryz.prog 108 [(iv a1)] [] (fun (h:Unit)=>((iv r),[])):=by
 unfold Z13 at hr
 refine fn_ok Tryz.func108 R 11 R R fun C V=>?_
 refine cN V ?_
 refine o_6 ?_
 obtain ⟨r2,hx3,hr⟩:=bd hr
 refine o_2 ?_
 refine lC 0 cb94 R (Zm_ok hx3) R ?_
 rintro _
 refine o_10 ?_
 rcases bif_ hr with ⟨_,hr⟩|⟨_,hr⟩
 refine o_10 ?_
 obtain rfl:=so hr
 exact qF () tI
 refine o_10 ?_
 obtain rfl:=so hr
 exact qF () tI
theorem Z1c_ok  {a1:Int}{b2:Int}{r:Int}(hr:Z1c a1 b2=some r) :
 FnOk Tryz.prog 115 [(iv a1),(iv b2)] [] (fun (h:Unit)=>((iv r),[])):=by
 unfold Z1c at hr
 refine fn_ok Tryz.func115 R 11 R R fun C V=>?_
 refine cN V ?_
 refine o_6 ?_
 obtain ⟨r3,hx4,hr⟩:=bd hr
 obtain ⟨r5,hx6,hr⟩:=bd hr
 obtain ⟨r7,hx8,hr⟩:=bd hr
 refine o_2 ?_
 refine lC 0 cb94 R (Zm_ok hx4) R ?_
 rintro _
 refine lI R (lC 0 cb94 R (Zm_ok hx6) R ?_)
 rintro _
 refine o_1 ?_
 refine lC 0 cb94 R (Zm_ok hx8) R ?_
 rintro _
 refine o_4 ?_
 obtain rfl:=so hr
 exact qF () tI
theorem Z1w_ok  {a1:Int}{b2:Int}{r:Int}(hr:Z1w a1 b2=some r) :
 FnOk Tryz.prog 139 [(iv a1),(iv b2)] [] (fun (h:Unit)=>((iv r),[])):=by
 unfold Z1w at hr
 refine fn_ok Tryz.func139 R 11 R R fun C V=>?_
 refine cN V ?_
 refine o_6 ?_
 obtain ⟨r3,hx4,hr⟩:=bd hr
 obtain ⟨r5,hx6,hr⟩:=bd hr
 obtain ⟨r7,hx8,hr⟩:=bd hr
 refine o_2 ?_
 refine lC 0 cb94 R (Zm_ok hx4) R ?_
 rintro _
 refine lI R (lC 0 cb94 R (Zm_ok hx6) R ?_)
 rintro _
 refine o_1 ?_
 refine lC 0 cb94 R (Zm_ok hx8) R ?_
 rintro _
 refine o_4 ?_
 obtain rfl:=so hr
 exact qF () tI
theorem Z15_ok  {a1:Int}{b2:Int}{r:Int}(hr:Z15 a1 b2=some r) :
 FnOk Tryz.prog 111 [(iv a1),(iv b2)] [] (fun (h:Unit)=>((iv r),[])):=by
 unfold Z15 at hr
 refine fn_ok Tryz.func111 R 11 R R fun C V=>?_
 refine cN V ?_
 refine o_6 ?_
 obtain ⟨r3,hx4,hr⟩:=bd hr
 obtain ⟨r5,hx6,hr⟩:=bd hr
 obtain ⟨r7,hx8,hr⟩:=bd hr
 refine o_2 ?_
 refine lC 0 cb94 R (Zm_ok hx4) R ?_
 rintro _
 refine lI R (lC 0 cb94 R (Zm_ok hx6) R ?_)
 rintro _
 refine o_1 ?_
 refine lC 0 cb94 R (Zm_ok hx8) R ?_
 rintro _
 refine o_4 ?_
 obtain rfl:=so hr
 exact qF () tI
theorem Zo_S_ok {rf:Int→Int→Option (Int)}(hrf:∀ {a1:Int} {n2:Int} {r:Int},rf a1 n2=some r→FnOk Tryz.prog 155 [(iv a1),(iv n2)] [] (fun (h:Unit)=>((iv r),[]))){a1:Int}{n2:Int}{r:Int}(hr:Zo_S rf a1 n2=some r) :
 FnOk Tryz.prog 155 [(iv a1),(iv n2)] [] (fun (h:Unit)=>((iv r),[])):=by
 unfold Zo_S at hr
 refine fn_ok Tryz.func155 R 22 R R fun C V=>?_
 refine cN V ?_
 refine o_12 ?_
 rcases bif_ hr with ⟨_,hr⟩|⟨_,hr⟩
 refine o_8 ?_
 obtain rfl:=so hr
 exact qF () tI
 refine o_4 ?_
 obtain ⟨r4,hx5,hr⟩:=bd hr
 refine o_3 ?_
 refine lO (vz (iv (w64 (n2.tdiv (2:Int)))) (v_quo R R (by decide))) (lC 0 cb155 R (hrf hx5) R ?_)
 rintro _
 refine o_4 ?_
 obtain ⟨r6,hx7,hr⟩:=bd hr
 refine o_3 ?_
 refine lC 0 cb111 R (Z15_ok hx7) R ?_
 rintro _
 refine o_4 ?_
 refine c_cut (A:=(Int)×(Unit)) (fun a=>Zo_J1 a.1=some r) (fun a=>[(5,(iv a.1))]) (fun a=>V) ?_ ?_
 refine o_3 ?_
 refine lO (v_rem R R (by decide)) ?_
 refine o_3 ?_
 rcases bif_ hr with ⟨_,hr⟩|⟨_,hr⟩
 refine o_1 ?_
 obtain ⟨r9,hx10,hr⟩:=bd hr
 refine o_3 ?_
 refine lC 0 cb111 R (Z15_ok hx10) R ?_
 rintro _
 refine o_2 ?_
 exact qI (r9,()) hr tI
 refine o_2 ?_
 exact qI (r6,()) hr tI
 rintro ⟨x11,_⟩ σ1 hr
 dsimp only [Zo_J1] at hr
 refine o_7 ?_
 obtain rfl:=so hr
 exact qF () tI
theorem Zo_R_ok (n:Nat):∀ {a1:Int} {n2:Int} {r:Int},Zo_R n a1 n2=some r→FnOk Tryz.prog 155 [(iv a1),(iv n2)] [] (fun (h:Unit)=>((iv r),[])):=by
 induction n with
 | zero=>intros; rename_i h; cases h
 | succ n ih=>intros; rename_i h; exact Zo_S_ok ih h
theorem Zo_ok {a1:Int}{n2:Int}{r:Int}(hr:Zo a1 n2=some r):FnOk Tryz.prog 155 [(iv a1),(iv n2)] [] (fun (h:Unit)=>((iv r),[])):=Zo_R_ok recFuel hr
theorem Z1v_ok  {a1:Int}{r:Int}(hr:Z1v a1=some r) :
 FnOk Tryz.prog 141 [(iv a1)] [] (fun (h:Unit)=>((iv r),[])):=by
 unfold Z1v at hr
 refine fn_ok Tryz.func141 R 6 R R fun C V=>?_
 refine cN V ?_
 refine o_6 ?_
 obtain ⟨r2,hx3,hr⟩:=bd hr
 obtain ⟨r4,hx5,hr⟩:=bd hr
 refine o_2 ?_
 refine lC 0 cb94 R (Zm_ok hx3) R ?_
 rintro _
 refine lC 0 cb155 R (Zo_ok hx5) R ?_
 rintro _
 refine o_4 ?_
 obtain rfl:=so hr
 exact qF () tI
theorem Z3e_ok  {a1:Int}{b2:Int}{r:Int}(hr:Z3e a1 b2=some r) :
 FnOk Tryz.prog 140 [(iv a1),(iv b2)] [] (fun (h:Unit)=>((iv r),[])):=by
 unfold Z3e at hr
 refine fn_ok Tryz.func140 R 9 R R fun C V=>?_
 refine cN V ?_
 refine o_6 ?_
 obtain ⟨r3,hx4,hr⟩:=bd hr
 obtain ⟨r5,hx6,hr⟩:=bd hr
 refine o_3 ?_
 refine lC 0 cb141 R (Z1v_ok hx4) R ?_
 rintro _
 refine lC 0 cb111 R (Z15_ok hx6) R ?_
 rintro _
 refine o_4 ?_
 obtain rfl:=so hr
 exact qF () tI
theorem Z1d_ok  {op1:Int}{p2:Int}{y3:Int}{r:Int}(hr:Z1d op1 p2 y3=some r) :
 FnOk Tryz.prog 103 [(iv op1),(iv p2),(iv y3)] [] (fun (h:Unit)=>((iv r),[])):=by
 unfold Z1d at hr
 refine fn_ok Tryz.func103 R 54 R R fun C V=>?_
 refine cN V ?_
 refine o_6 ?_
 obtain ⟨r4,hx5,hr⟩:=bd hr
 obtain ⟨r6,hx7,hr⟩:=bd hr
 refine o_2 ?_
 refine lC 0 cb108 R (Z13_ok hx5) R ?_
 rintro _
 refine lI R (lC 0 cb108 R (Z13_ok hx7) R ?_)
 rintro _
 refine o_10 ?_
 refine c_cut (A:=(Bool)×(Unit)) (fun a=>Z1d_J1 a.1=some r) (fun a=>[(8,(.bool a.1))]) (fun a=>V) ?_ ?_
 refine o_12 ?_
 rcases bif_ hr with ⟨_,hr⟩|⟨_,hr⟩
 refine o_2 ?_
 obtain ⟨r9,hx10,hr⟩:=bd hr
 refine o_3 ?_
 refine lC 0 cb115 R (Z1c_ok hx10) R ?_
 rintro _
 refine o_6 ?_
 obtain rfl:=so hr
 exact qF () tI
 refine o_7 ?_
 rcases bif_ hr with ⟨_,hr⟩|⟨_,hr⟩
 refine o_2 ?_
 obtain ⟨r12,hx13,hr⟩:=bd hr
 refine o_3 ?_
 refine lC 0 cb139 R (Z1w_ok hx13) R ?_
 rintro _
 refine o_6 ?_
 obtain rfl:=so hr
 exact qF () tI
 refine o_7 ?_
 rcases bif_ hr with ⟨_,hr⟩|⟨_,hr⟩
 refine o_2 ?_
 obtain ⟨r15,hx16,hr⟩:=bd hr
 refine o_3 ?_
 refine lC 0 cb111 R (Z15_ok hx16) R ?_
 rintro _
 refine o_6 ?_
 obtain rfl:=so hr
 exact qF () tI
 refine o_7 ?_
 rcases bif_ hr with ⟨_,hr⟩|⟨_,hr⟩
 refine o_2 ?_
 obtain ⟨r18,hx19,hr⟩:=bd hr
 refine o_3 ?_
 refine lC 0 cb140 R (Z3e_ok hx19) R ?_
 rintro _
 refine o_6 ?_
 obtain rfl:=so hr
 exact qF () tI
 refine o_7 ?_
 rcases bif_ hr with ⟨_,hr⟩|⟨_,hr⟩
 refine o_7 ?_
 rcases bif_ hr with ⟨_,hr⟩|⟨_,hr⟩
 refine o_11 ?_
 obtain rfl:=so hr
 exact qF () tI
 refine o_12 ?_
 obtain rfl:=so hr
 exact qF () tI
 refine o_7 ?_
 rcases bif_ hr with ⟨_,hr⟩|⟨_,hr⟩
 refine o_7 ?_
 rcases bif_ hr with ⟨_,hr⟩|⟨_,hr⟩
 refine o_11 ?_
 obtain rfl:=so hr
 exact qF () tI
 refine o_12 ?_
 obtain rfl:=so hr
 exact qF () tI
 refine o_7 ?_
 rcases bif_ hr with ⟨_,hr⟩|⟨_,hr⟩
 refine o_6 ?_
 exact qI ((decide (r4<r6)),()) hr tI
 refine o_7 ?_
 rcases bif_ hr with ⟨_,hr⟩|⟨_,hr⟩
 refine o_8 ?_
 exact qI ((p2==y3),()) hr tI
 refine o_3 ?_
 exact qI (false,()) hr tI
 rintro ⟨yes26,_⟩ σ1 hr
 dsimp only [Z1d_J1] at hr
 refine o_6 ?_
 rcases bif_ hr with ⟨_,hr⟩|⟨_,hr⟩
 refine o_8 ?_
 obtain rfl:=so hr
 exact qF () tI
 refine o_9 ?_
 obtain rfl:=so hr
 exact qF () tI
theorem Z0t_ok  {op1:Int}{a2:Tensor}{b5:Tensor}{r:Tensor}(hr:Z0t op1 a2 b5=some r) :
 FnOk Tryz.prog 78 [(iv op1),(.agg [(.slice A3 N3 D3),(.slice A4 N4 D4)].toArray),(.agg [(.slice A6 N6 D6),(.slice A7 N7 D7)].toArray)] [rds kT3 (.slice A3 N3 D3) a2.Dims,rds kT3 (.slice A4 N4 D4) a2.Data,rds kT3 (.slice A6 N6 D6) b5.Dims,rds kT3 (.slice A7 N7 D7) b5.Data] (fun (h:HH×HH)=>((.agg [(s3 h.1),(s3 h.2)].toArray),[ow kT3 3 (s3 h.1) r.Dims,ow kT3 3 (s3 h.2) r.Data])):=by
 unfold Z0t at hr
 refine fn_ok Tryz.func78 R 73 R R fun C V=>?_
 refine cN (_::_::_::_::V) ?_
 refine cL 0 sees_rd ?_
 rintro rfl
 refine cL 1 sees_rd ?_
 rintro rfl
 refine cL 2 sees_rd ?_
 rintro rfl
 refine cL 3 sees_rd ?_
 rintro rfl
 let W0:List HP:=RR kT3 A3 D3 a2.Dims::RR kT3 A4 D4 a2.Data::RR kT3 A6 D6 b5.Dims::RR kT3 A7 D7 b5.Data::V
 refine cN W0 ?_
 refine o_2 ?_
 refine lBx R fun b8=>?_
 refine lBx R fun b9=>?_
 refine l_alloc R R zc58 (fun b10=>(l_nil ?_))
 let W1:List HP:=bxl b9 [(sc A6 b5.Dims D6),(sc A7 b5.Data D7)] 58::bxl b8 [(sc A3 a2.Dims D3),(sc A4 a2.Data D4)] 58::W0
 refine qN (_::W1) ?_
 refine o_3 ?_
 obtain ⟨r11,hx12,hr⟩:=bd hr
 obtain ⟨r13,hx14,hr⟩:=bd hr
 refine cQ [(0,(iv op1)),(4,(pt b8 0)),(5,(pt b9 0)),(6,(pt b10 0)),(26,(.bool ((((!r11)||(!r13))||(decide (op1<(1:Int))))||(decide (op1>(8:Int))))))] (bxl b10 [(.slice none 0 0),(.slice none 0 0)] 58::W1) ?_ ?_
 refine o_2 ?_
 refine lM (RR kT3 A3 D3 a2.Dims::RR kT3 A4 D4 a2.Data::bxl _ _ _::W1) (fun w s=>(((s.d 3 R).d 5 R).e 3 [1,0,2])) ?_
 refine lC 2 cb55 R (Zn_ok hx12) R ?_
 rintro _
 refine lN (_::W1) ?_
 refine o_2 ?_
 rcases bo (!r11) with hc15 | hc15
 refine o_13 ?_
 exact qj tI
 refine o_1 ?_
 refine lM (RR kT3 A6 D6 b5.Dims::RR kT3 A7 D7 b5.Data::bxl _ _ _::W1) (fun w s=>(((s.d 5 R).d 7 R).e 3 [1,0,2])) ?_
 refine l_calln 2 R (wnF hc15) cb55 R (Zn_ok (gcall_t hx14 (not_ff hc15))) R ?_
 rintro _
 refine lN (_::W1) ?_
 refine o_3 ?_
 rcases bo ((!r11)||(!r13)) with hc16 | hc16
 refine o_8 ?_
 exact qj tI
 refine o_4 ?_
 rcases bo (((!r11)||(!r13))||(decide (op1<(1:Int)))) with hc17 | hc17
 refine o_4 ?_
 exact qj tI
 refine o_4 ?_
 exact qj tI
 rintro σ1
 refine o_1 ?_
 rcases bif_ hr with ⟨_,hr⟩|⟨_,hr⟩
 refine o_3 ?_
 refine lO (vz (.agg [(.slice none 0 0),(.slice none 0 0)].toArray) (v_build pl58 zc58 R R)) (l_stores 0 R R sz58 R R R R R R (l_nil (q_next (c_ret (q_ret ?_)))))
 obtain rfl:=so hr
 exact qS ((none,0,0),(none,0,0)) (fun w s=>(((s.nilo kT3 3).nilo kT3 3).e 9 [1,0]))
 refine o_4 ?_
 obtain ⟨r19,hx20,hr⟩:=bd hr
 refine o_5 ?_
 refine lM (RR kT3 A3 D3 a2.Dims::RR kT3 A6 D6 b5.Dims::bxl _ _ _::W1) (fun w s=>(((s.d 3 R).d 6 R).e 3 [1,0,2])) ?_
 refine lC 2 cb101 R (Zv_ok hx20) R ?_
 rintro ⟨A21,N21,D21⟩
 refine lN (ow kT3 3 (.slice A21 N21 D21) r19::_::W1) ?_
 refine l_len 0 sees_ow ?_
 rintro rfl
 refine o_5 ?_
 refine cQ [(0,(iv op1)),(4,(pt b8 0)),(5,(pt b9 0)),(6,(pt b10 0)),(7,(sc A21 r19 D21)),(46,(.bool ((decide ((r19.length:Int)<(a2.Dims.length:Int)))||(decide ((r19.length:Int)<(b5.Dims.length:Int))))))] (bxl b10 [(.slice none 0 0),(.slice none 0 0)] 58::OO kT3 3 A21 D21 r19::W1) ?_ ?_
 refine o_8 ?_
 rcases bo (decide ((r19.length:Int)<(a2.Dims.length:Int))) with hc22 | hc22
 refine o_8 ?_
 exact qj (tE 2 [1,0])
 refine o_8 ?_
 exact qj (tE 2 [1,0])
 rintro σ1
 refine o_1 ?_
 rcases bif_ hr with ⟨_,hr⟩|⟨_,hr⟩
 refine o_3 ?_
 refine lO (vz (.agg [(.slice none 0 0),(.slice none 0 0)].toArray) (v_build pl58 zc58 R R)) (l_stores 0 R R sz58 R R R R R R (l_nil (q_next (c_ret (q_ret ?_)))))
 obtain rfl:=so hr
 exact qS ((none,0,0),(none,0,0)) (fun w s=>(((s.nilo kT3 3).nilo kT3 3).e 10 [1,0]))
 refine o_4 ?_
 obtain ⟨r24,hx25,hr⟩:=bd hr
 refine o_2 ?_
 refine lM (ow _ _ _ _::bxl _ _ _::W1) (tE 2 [1,0]) ?_
 refine lC 1 cb93 R (FnOk.lends (A':=[OO kT3 3 A21 D21 r19]) (A:=[RR kT3 A21 D21 r19]) (B:=[]) (Z0b_ok hx25) ⟨lend_ow,trivial⟩ (fun _=>⟨(closed_ow cT3),(closed_ow cT3),trivial⟩)) R ?_
 rintro ⟨⟨A26,N26,D26⟩,⟨A27,N27,D27⟩⟩
 refine lN (_::ow kT3 3 (.slice A26 N26 D26) r24.Dims::ow kT3 3 (.slice A27 N27 D27) r24.Data::_::W1) ?_
 refine l_len 1 sees_ow ?_
 rintro rfl
 refine l_len 2 sees_ow ?_
 rintro rfl
 refine l_alloc R R zc58 (fun b28=>(l_stores 0 R R sz58 R R R R R R (lN (bxl b28 [(sc A26 r24.Dims D26),(sc A27 r24.Data D27)] 58::_::_::_::_::W1) ?_)))
 refine o_3 ?_
 refine c_cut (A:=((List Int))×(Unit)) (fun a=>Z0t_J1 r24 a.1=some r) (fun a=>[(6,(pt b10 0)),(8,(pt b28 0))]) (fun a=>bxl b10 [(.slice none 0 0),(.slice none 0 0)] 58::bxl b28 [(sc A26 r24.Dims D26),(sc A27 r24.Data D27)] 58::OO kT3 3 A26 D26 r24.Dims::ow kT3 3 (.slice A27 r24.Data.length D27) a.1::W1) ?_ ?_
 refine o_6 ?_
 obtain ⟨e1,hl1,hk1⟩:=bd hr
 refine c_loop (A:=Unit) hl1 (fun s a=>[(0,(iv op1)),(4,(pt b8 0)),(5,(pt b9 0)),(6,(pt b10 0)),(7,(sc A21 r19 D21)),(8,(pt b28 0)),(9,(iv s.2))]) (fun s a=>bxl b10 [(.slice none 0 0),(.slice none 0 0)] 58::OO kT3 3 A21 D21 r19::bxl b28 [(sc A26 r24.Dims D26),(sc A27 r24.Data D27)] 58::OO kT3 3 A26 D26 r24.Dims::ow kT3 3 (.slice A27 r24.Data.length D27) s.1::W1) () (aS R) (tE 5 [4,1,0,2,3]) ?_
 rintro ⟨x42,i43⟩ _ σ1 out1 hr he1
 dsimp only [Z0t_L1] at hr
 refine o_10 ?_
 rcases bif_ hr with ⟨_,hr⟩|⟨_,hr⟩
 refine o_6 ?_
 obtain ⟨r45,hx46,hr⟩:=bd hr
 refine o_3 ?_
 refine lM (ow _ _ _ _::bxl _ _ _::bxl _ _ _::ow _ _ _ _::ow kT3 3 (.slice A27 r24.Data.length D27) x42::W1) (tE 5 [1,0,2,3,4]) ?_
 refine lC 1 cb102 R (FnOk.lends (A':=[OO kT3 3 A21 D21 r19]) (A:=[RR kT3 A21 D21 r19]) (B:=[]) (Zf_ok hx46) ⟨lend_ow,trivial⟩ (fun _=>⟨(closed_ow cT3),trivial⟩)) R ?_
 rintro ⟨A47,N47,D47⟩
 refine lN (_::ow kT3 3 (.slice A47 N47 D47) r45::_::_::_::_::W1) ?_
 refine l_len 1 sees_ow ?_
 rintro rfl
 refine o_3 ?_
 obtain ⟨r48,hx49,hr⟩:=bd hr
 obtain ⟨r50,hx51,hr⟩:=bd hr
 obtain ⟨r52,hx53,hr⟩:=bd hr
 obtain ⟨hg54,hr⟩:=gd hr
 refine c_some 5 sees_ow (show 0<r24.Data.length by have:=hg54; omega) (fun g55 o56 ha=>?_)
 subst ha
 refine cdr 13 [5] mixo fun ht hn=>?_
 refine d6_ 0 [5] ?_
 refine d2_ 7 [5] ?_
 refine d1 6 R (lM (ow _ _ _ _::RR kT3 A3 D3 a2.Dims::RR kT3 A4 D4 a2.Data::ow _ _ _ _::bxl _ _ _::bxl b28 [(sc A26 r24.Dims D26),(sc (ad g55 o56) r24.Data D27)] 58::ow _ _ _ _::ow kT3 3 (.slice (ad g55 o56) r24.Data.length D27) x42::W1) (fun w s=>(((s.d 8 R).d 10 R).e 8 [3,1,0,2,4,5,6,7])) ?_)
 refine lC 3 cb104 R (FnOk.lends (A':=[OO kT3 3 A47 D47 r45]) (A:=[RR kT3 A47 D47 r45]) (B:=[RR kT3 A3 D3 a2.Dims,RR kT3 A4 D4 a2.Data]) (FnOk.perm (Z04_ok hx49) (Pre':=[RR kT3 A47 D47 r45,RR kT3 A3 D3 a2.Dims,RR kT3 A4 D4 a2.Data]) (fun _ _ _ s=>(s.e 3 [1,2,0]))) ⟨lend_ow,trivial⟩ (fun _=>trivial)) R ?_
 rintro _
 refine lN (_::_::_::_::_::_::W1) ?_
 refine l_nil (q_draw (tE 6 [1,0,2,3,4]) (d1 9 R (lM (ow _ _ _ _::RR kT3 A6 D6 b5.Dims::RR kT3 A7 D7 b5.Data::ow _ _ _ _::bxl _ _ _::bxl _ _ _::ow _ _ _ _::ow _ _ _ _::W1) (fun w s=>(((s.d 10 R).d 12 R).e 8 [2,1,0,3,4,5,6,7])) ?_)))
 refine lC 3 cb104 R (FnOk.lends (A':=[OO kT3 3 A47 D47 r45]) (A:=[RR kT3 A47 D47 r45]) (B:=[RR kT3 A6 D6 b5.Dims,RR kT3 A7 D7 b5.Data]) (FnOk.perm (Z04_ok hx51) (Pre':=[RR kT3 A47 D47 r45,RR kT3 A6 D6 b5.Dims,RR kT3 A7 D7 b5.Data]) (fun _ _ _ s=>(s.e 3 [1,2,0]))) ⟨lend_ow,trivial⟩ (fun _=>trivial)) R ?_
 rintro _
 refine lN (_::_::_::_::_::_::W1) ?_
 refine l_nil (q_draw (tE 6 [1,0,2,3,4]) (d1 10 R (lC 0 cb103 R (Z1d_ok hx53) R ?_)))
 rintro _
 refine l_nil (q_draw (tE 6 [1,0,2,3,4]) (dR 11 R (vIa sl23 sz3 R R hg54) (hS:=(tE 6 [1,0,2,3,4])) (d1 12 R (lM (ow _ _ _ _::ow _ _ _ _::ow _ _ _ _::bxl _ _ _::bxl _ _ _::ow _ _ _ _::W1) (fun w s=>(s.f 6 [5,1,0,5])) ?_))))
 refine l_stx (K:=kT3) (x':=r52) 0 i43 R R sz3 R R hg54.1 hg54.2 ?_ ?_
 exact fun I h s=>(mO3).put I h () r52 s
 refine lN (ow kT3 3 (.slice (ad g55 o56) r24.Data.length D27) (x42.set i43.toNat r52)::_::_::_::_::_::W1) ?_
 refine l_nil (q_draw (tE 6 [2,1,3,4,5]) (dD ?_))
 refine o_7 ?_
 obtain rfl:=so hr
 exact qA () (tE 6 [3,2,4,5,0])
 refine o_3 ?_
 obtain rfl:=so hr
 obtain rfl:=he1 _ R
 have hr:=hk1
 refine o_2 ?_
 exact qI (x42,()) hr (tE 5 [0,2,3,4])
 rintro ⟨x59,_⟩ σ1 hr
 dsimp only [Z0t_J1] at hr
 refine o_3 ?_
 refine l_stores 0 R R sz58 R R R R R R (lN (bxl b10 [(sc A26 r24.Dims D26),(sc A27 r24.Data D27)] 58::bxl b28 [(sc A26 r24.Dims D26),(sc A27 r24.Data D27)] 58::_::ow kT3 3 (.slice A27 r24.Data.length D27) x59::W1) ?_)
 refine o_3 ?_
 obtain rfl:=so hr
 exact qS ((A26,r24.Dims.length,D26),(A27,r24.Data.length,D27)) (tE 10 [2,3])
theorem Z2n_ok  {op1:Int}{p2:Int}{r:Int}(hr:Z2n op1 p2=some r) :
 FnOk Tryz.prog 105 [(iv op1),(iv p2)] [] (fun (h:Unit)=>((iv r),[])):=by
 unfold Z2n at hr
 refine fn_ok Tryz.func105 R 20 R R fun C V=>?_
 refine cN V ?_
 refine o_18 ?_
 rcases bif_ hr with ⟨_,hr⟩|⟨_,hr⟩
 refine o_2 ?_
 obtain ⟨r4,hx5,hr⟩:=bd hr
 refine o_2 ?_
 refine lC 0 cb139 R (Z1w_ok hx5) R ?_
 rintro _
 refine o_6 ?_
 obtain rfl:=so hr
 exact qF () tI
 refine o_7 ?_
 rcases bif_ hr with ⟨_,hr⟩|⟨_,hr⟩
 refine o_2 ?_
 obtain ⟨r7,hx8,hr⟩:=bd hr
 refine o_2 ?_
 refine lC 0 cb141 R (Z1v_ok hx8) R ?_
 rintro _
 refine o_6 ?_
 obtain rfl:=so hr
 exact qF () tI
 refine o_6 ?_
 obtain ⟨r9,hx10,hr⟩:=bd hr
 refine o_2 ?_
 refine lC 0 cb108 R (Z13_ok hx10) R ?_
 rintro _
 refine o_3 ?_
 rcases bif_ hr with ⟨_,hr⟩|⟨_,hr⟩
 refine o_8 ?_
 obtain rfl:=so hr
 exact qF () tI
 refine o_10 ?_
 rcases bif_ hr with ⟨_,hr⟩|⟨_,hr⟩
 refine o_8 ?_
 obtain rfl:=so hr
 exact qF () tI
 refine o_10 ?_
 obtain rfl:=so hr
 exact qF () tI
theorem Z0s_ok  {op1:Int}{t2:Tensor}{r:Tensor}(hr:Z0s op1 t2=some r) :
 FnOk Tryz.prog 79 [(iv op1),(.agg [(.slice A3 N3 D3),(.slice A4 N4 D4)].toArray)] [rds kT3 (.slice A3 N3 D3) t2.Dims,rds kT3 (.slice A4 N4 D4) t2.Data] (fun (h:HH×HH)=>((.agg [(s3 h.1),(s3 h.2)].toArray),[ow kT3 3 (s3 h.1) r.Dims,ow kT3 3 (s3 h.2) r.Data])):=by
 unfold Z0s at hr
 refine fn_ok Tryz.func79 R 41 R R fun C V=>?_
 refine cN (_::_::V) ?_
 refine cL 0 sees_rd ?_
 rintro rfl
 refine cL 1 sees_rd ?_
 rintro rfl
 let W0:List HP:=RR kT3 A3 D3 t2.Dims::RR kT3 A4 D4 t2.Data::V
 refine cN W0 ?_
 refine o_2 ?_
 refine lBx R fun b5=>?_
 refine l_alloc R R zc58 (fun b6=>(l_nil ?_))
 let W1:List HP:=bxl b5 [(sc A3 t2.Dims D3),(sc A4 t2.Data D4)] 58::W0
 refine qN (_::W1) ?_
 refine o_3 ?_
 obtain ⟨r7,hx8,hr⟩:=bd hr
 refine cQ [(0,(iv op1)),(3,(pt b5 0)),(4,(pt b6 0)),(17,(.bool (((!r7)||(decide (op1<(1:Int))))||(decide (op1>(4:Int))))))] (bxl b6 [(.slice none 0 0),(.slice none 0 0)] 58::W1) ?_ ?_
 refine o_2 ?_
 refine lM (RR kT3 A3 D3 t2.Dims::RR kT3 A4 D4 t2.Data::bxl _ _ _::W1) (fun w s=>(((s.d 2 R).d 4 R).e 3 [1,0,2])) ?_
 refine lC 2 cb55 R (Zn_ok hx8) R ?_
 rintro _
 refine lN (_::W1) ?_
 refine o_2 ?_
 rcases bo (!r7) with hc9 | hc9
 refine o_8 ?_
 exact qj tI
 refine o_4 ?_
 rcases bo ((!r7)||(decide (op1<(1:Int)))) with hc10 | hc10
 refine o_4 ?_
 exact qj tI
 refine o_4 ?_
 exact qj tI
 rintro σ1
 refine o_1 ?_
 rcases bif_ hr with ⟨_,hr⟩|⟨_,hr⟩
 refine o_3 ?_
 refine lO (vz (.agg [(.slice none 0 0),(.slice none 0 0)].toArray) (v_build pl58 zc58 R R)) (l_stores 0 R R sz58 R R R R R R (l_nil (q_next (c_ret (q_ret ?_)))))
 obtain rfl:=so hr
 exact qS ((none,0,0),(none,0,0)) (fun w s=>(((s.nilo kT3 3).nilo kT3 3).e 6 [1,0]))
 refine o_4 ?_
 obtain ⟨r12,hx13,hr⟩:=bd hr
 refine o_3 ?_
 refine lM (RR kT3 A3 D3 t2.Dims::_::W1) (fun w s=>(s.d 2 R)) ?_
 refine lC 1 cb93 R (Z0b_ok hx13) R ?_
 rintro ⟨⟨A14,N14,D14⟩,⟨A15,N15,D15⟩⟩
 refine lN (ow kT3 3 (.slice A14 N14 D14) r12.Dims::ow kT3 3 (.slice A15 N15 D15) r12.Data::_::W1) ?_
 refine l_len 0 sees_ow ?_
 rintro rfl
 refine l_len 1 sees_ow ?_
 rintro rfl
 refine l_alloc R R zc58 (fun b16=>(l_stores 0 R R sz58 R R R R R R (lN (bxl b16 [(sc A14 r12.Dims D14),(sc A15 r12.Data D15)] 58::_::_::_::W1) ?_)))
 refine o_3 ?_
 refine c_cut (A:=((List Int))×(Unit)) (fun a=>Z0s_J1 r12 a.1=some r) (fun a=>[(4,(pt b6 0)),(5,(pt b16 0))]) (fun a=>bxl b6 [(.slice none 0 0),(.slice none 0 0)] 58::bxl b16 [(sc A14 r12.Dims D14),(sc A15 r12.Data D15)] 58::OO kT3 3 A14 D14 r12.Dims::ow kT3 3 (.slice A15 r12.Data.length D15) a.1::W1) ?_ ?_
 refine o_6 ?_
 obtain ⟨e1,hl1,hk1⟩:=bd hr
 refine c_loop (A:=Unit) hl1 (fun s a=>[(0,(iv op1)),(3,(pt b5 0)),(4,(pt b6 0)),(5,(pt b16 0)),(6,(iv s.2))]) (fun s a=>bxl b6 [(.slice none 0 0),(.slice none 0 0)] 58::bxl b16 [(sc A14 r12.Dims D14),(sc A15 r12.Data D15)] 58::OO kT3 3 A14 D14 r12.Dims::ow kT3 3 (.slice A15 r12.Data.length D15) s.1::W1) () (aS R) (tE 4 [3,0,1,2]) ?_
 rintro ⟨x26,i27⟩ _ σ1 out1 hr he1
 dsimp only [Z0s_L1] at hr
 refine o_10 ?_
 rcases bif_ hr with ⟨_,hr⟩|⟨_,hr⟩
 refine o_5 ?_
 obtain ⟨hg29,hr⟩:=gd hr
 obtain ⟨r32,hx33,hr⟩:=bd hr
 obtain ⟨hg34,hr⟩:=gd hr
 refine c_some 6 sees_rd (show 0<t2.Data.length by have:=hg29; omega) (fun g30 o31 ha=>?_)
 subst ha
 refine c_some 3 sees_ow (show 0<r12.Data.length by have:=hg34; omega) (fun g35 o36 ha=>?_)
 subst ha
 refine cdr 12 [3] mixo fun ht hn=>?_
 refine d9_ 0 [3] ?_
 refine d1 9 R (lC 0 cb105 R (Z2n_ok hx33) R ?_)
 rintro _
 refine lN (_::bxl b16 [(sc A14 r12.Dims D14),(sc (ad g35 o36) r12.Data D15)] 58::_::ow kT3 3 (.slice (ad g35 o36) r12.Data.length D15) x26::W1) ?_
 refine l_nil (q_draw (sL [3]) ?_)
 refine d1_ 10 [3] ?_
 refine d1 11 R (lM (ow _ _ _ _::bxl _ _ _::bxl _ _ _::ow _ _ _ _::W1) (tE 4 [3,0,1,2]) ?_)
 refine l_stx (K:=kT3) (x':=r32) 0 i27 R R sz3 R R hg34.1 hg34.2 ?_ ?_
 exact fun I h s=>(mO3).put I h () r32 s
 refine lN (ow kT3 3 (.slice (ad g35 o36) r12.Data.length D15) (x26.set i27.toNat r32)::_::_::_::W1) ?_
 refine l_nil (q_draw (sL [0]) (dD ?_))
 refine o_7 ?_
 obtain rfl:=so hr
 exact qA () (tE 4 [1,2,3,0])
 refine o_3 ?_
 obtain rfl:=so hr
 obtain rfl:=he1 _ R
 have hr:=hk1
 refine o_2 ?_
 exact qI (x26,()) hr tI
 rintro ⟨x39,_⟩ σ1 hr
 dsimp only [Z0s_J1] at hr
 refine o_3 ?_
 refine l_stores 0 R R sz58 R R R R R R (lN (bxl b6 [(sc A14 r12.Dims D14),(sc A15 r12.Data D15)] 58::bxl b16 [(sc A14 r12.Dims D14),(sc A15 r12.Data D15)] 58::_::ow kT3 3 (.slice A15 r12.Data.length D15) x39::W1) ?_)
 refine o_3 ?_
 obtain rfl:=so hr
 exact qS ((A14,r12.Dims.length,D14),(A15,r12.Data.length,D15)) (tE 7 [2,3])
theorem Z16_ok  {t1:Tensor}{axis4:Int}{r:Bool}(hr:Z16 t1 axis4=some r) :
 FnOk Tryz.prog 106 [(.agg [(.slice A2 N2 D2),(.slice A3 N3 D3)].toArray),(iv axis4)] [rds kT3 (.slice A2 N2 D2) t1.Dims,rds kT3 (.slice A3 N3 D3) t1.Data] (fun (h:Unit)=>((.bool r),[])):=by
 unfold Z16 at hr
 refine fn_ok Tryz.func106 R 18 R R fun C V=>?_
 refine cN (_::_::V) ?_
 refine cL 0 sees_rd ?_
 rintro rfl
 refine cL 1 sees_rd ?_
 rintro rfl
 let W0:List HP:=RR kT3 A2 D2 t1.Dims::RR kT3 A3 D3 t1.Data::V
 refine cN W0 ?_
 refine o_2 ?_
 refine lBx R fun b5=>?_
 refine o_2 ?_
 let W1:List HP:=bxl b5 [(sc A2 t1.Dims D2),(sc A3 t1.Data D3)] 58::W0
 refine qN W1 ?_
 refine o_2 ?_
 obtain ⟨r6,hx7,hr⟩:=bd hr
 refine cQ [(4,(.bool ((r6&&(decide (axis4≥(0:Int))))&&(decide (axis4<(t1.Dims.length:Int))))))] (W1) ?_ ?_
 refine o_2 ?_
 refine lM (RR kT3 A2 D2 t1.Dims::RR kT3 A3 D3 t1.Data::W1) (fun w s=>(((s.d 1 R).d 3 R).e 2 [1,0])) ?_
 refine lC 2 cb55 R (Zn_ok hx7) R ?_
 rintro _
 refine lN W1 ?_
 refine o_1 ?_
 rcases bo r6 with hc8 | hc8
 refine o_4 ?_
 rcases bo (r6&&(decide (axis4≥(0:Int)))) with hc9 | hc9
 refine o_8 ?_
 exact qj tI
 refine o_8 ?_
 exact qj tI
 refine o_12 ?_
 exact qj tI
 rintro σ1
 refine o_2 ?_
 obtain rfl:=so hr
 exact qF () (tE 3 [])
theorem Z0c_ok  {a1:(List Int)}{p3:Int}{p4:Int}{r:(List Int)}(hr:Z0c a1 p3 p4=some r) :
 FnOk Tryz.prog 122 [(.slice A2 N2 D2),(iv p3),(iv p4)] [rds kT3 (.slice A2 N2 D2) a1] (fun (h:HH)=>((s3 h),[ow kT3 3 (s3 h) r])):=by
 unfold Z0c at hr
 refine fn_ok Tryz.func122 R 15 R R fun C V=>?_
 refine cN (_::V) ?_
 refine cL 0 sees_rd ?_
 rintro rfl
 let W0:List HP:=RR kT3 A2 D2 a1::V
 refine cN W0 ?_
 refine o_6 ?_
 obtain ⟨r5,hx6,hr⟩:=bd hr
 refine o_2 ?_
 refine lM (RR kT3 A2 D2 a1::W0) (fun w s=>(s.d 0 R)) ?_
 refine lC 1 cb57 R (Zp_ok hx6) R ?_
 rintro ⟨A7,N7,D7⟩
 refine lN (ow kT3 3 (.slice A7 N7 D7) r5::W0) ?_
 refine l_len 0 sees_ow ?_
 rintro rfl
 refine o_4 ?_
 obtain ⟨hg8,hr⟩:=gd hr
 refine o_4 ?_
 refine t_some 0 sees_ow (show 0<r5.length by have:=hg8; omega) (fun g9 o10 ha=>?_)
 subst ha
 refine o_1 ?_
 refine lN (OO kT3 3 (ad g9 o10) D7 r5::W0) ?_
 refine l_stx (K:=kT3) (x':=p4) 0 p3 R R sz3 R R hg8.1 hg8.2 ?_ ?_
 exact fun I h s=>(mO3).put I h () p4 s
 refine lN (ow kT3 3 (.slice (ad g9 o10) r5.length D7) (r5.set p3.toNat p4)::W0) ?_
 refine o_9 ?_
 obtain rfl:=so hr
 exact qF ((ad g9 o10),r5.length,D7) (tE 2 [0])
theorem Z0x_ok  {t1:Tensor}{axis4:Int}{p5:(List Int)}{r:(List Int)}(hr:Z0x t1 axis4 p5=some r) :
 FnOk Tryz.prog 107 [(.agg [(.slice A2 N2 D2),(.slice A3 N3 D3)].toArray),(iv axis4),(.slice A6 N6 D6)] [rds kT3 (.slice A2 N2 D2) t1.Dims,rds kT3 (.slice A3 N3 D3) t1.Data,rds kT3 (.slice A6 N6 D6) p5] (fun (h:HH)=>((s3 h),[ow kT3 3 (s3 h) r])):=by
 unfold Z0x at hr
 refine fn_ok Tryz.func107 R 29 R R fun C V=>?_
 refine cN (_::_::_::V) ?_
 refine cL 0 sees_rd ?_
 rintro rfl
 refine cL 1 sees_rd ?_
 rintro rfl
 refine cL 2 sees_rd ?_
 rintro rfl
 let W0:List HP:=RR kT3 A2 D2 t1.Dims::RR kT3 A3 D3 t1.Data::RR kT3 A6 D6 p5::V
 refine cN W0 ?_
 refine o_2 ?_
 refine lBx R fun b7=>?_
 refine o_2 ?_
 let W1:List HP:=bxl b7 [(sc A2 t1.Dims D2),(sc A3 t1.Data D3)] 58::W0
 refine qN W1 ?_
 refine o_3 ?_
 refine l_build (K:=kT3) (xs:=([]:List Int)) (vs:=[]) 0 R R sl23 sz3 zc3 R R R R R R ?_ R (fun A8 D8=>?_)
 exact fun I h s=>(mO3).list [] I h s
 refine lN (OO kT3 3 A8 D8 ([]:List Int)::W1) ?_
 refine o_4 ?_
 refine c_cut (A:=((List Int))×(HH)) (fun a=>Z0x_J1 a.1=some r) (fun a=>[(7,(s3 a.2))]) (fun a=>ow kT3 3 (s3 a.2) a.1::W1) ?_ ?_
 refine o_6 ?_
 obtain ⟨e1,hl1,hk1⟩:=bd hr
 refine c_loop (A:=HH) hl1 (fun s a=>[(1,(iv axis4)),(2,(sc A6 p5 D6)),(3,(pt b7 0)),(7,(s3 a)),(8,(iv s.2))]) (fun s a=>ow kT3 3 (s3 a) s.1::W1) (A8,([]:List Int).length,D8) (aS R) tI ?_
 rintro ⟨x21,k23⟩ ⟨A22,N22,D22⟩ σ1 out1 hr he1
 dsimp only [Z0x_L1] at hr
 refine c_len 0 sees_ow (fun (hn:N22=x21.length)=>?_)
 subst hn
 refine o_2 ?_
 obtain ⟨hg24,hr⟩:=gd hr
 refine o_5 ?_
 refine t_some 2 sees_rd (show 0<t1.Dims.length by have:=hg24; omega) (fun g25 o26 ha=>?_)
 subst ha
 refine o_5 ?_
 rcases bif_ hr with ⟨_,hr⟩|⟨_,hr⟩
 refine o_5 ?_
 obtain ⟨r28,hx29,hr⟩:=bd hr
 obtain ⟨r31,hx32,hr⟩:=bd hr
 obtain ⟨hg34,hr⟩:=gd hr
 refine cdr 10 [0] mixo fun ht hn=>?_
 refine d5_ 0 [0] ?_
 refine d1 5 R (lM (RR kT3 A6 D6 p5::OO kT3 3 A22 D22 x21::W1) (fun w s=>(s.d 4 R)) ?_)
 refine lC 1 cb122 R (Z0c_ok hx29) R ?_
 rintro ⟨A30,N30,D30⟩
 refine lN (ow kT3 3 (.slice A30 N30 D30) r28::_::W1) ?_
 refine l_len 0 sees_ow ?_
 rintro rfl
 refine l_nil (q_draw (sL [1,0]) (d1 6 R (lM (ow _ _ _ _::RR kT3 (ad g25 o26) D2 t1.Dims::RR kT3 A3 D3 t1.Data::ow _ _ _ _::W1) (fun w s=>(((s.d 3 R).d 5 R).e 4 [2,1,0,3])) ?_)))
 refine lC 3 cb112 R (FnOk.lends (A':=[OO kT3 3 A30 D30 r28]) (A:=[RR kT3 A30 D30 r28]) (B:=[RR kT3 (ad g25 o26) D2 t1.Dims,RR kT3 A3 D3 t1.Data]) (FnOk.perm (Z0w_ok hx32) (Pre':=[RR kT3 A30 D30 r28,RR kT3 (ad g25 o26) D2 t1.Dims,RR kT3 A3 D3 t1.Data]) (fun _ _ _ s=>(s.e 3 [1,2,0]))) ⟨lend_ow,trivial⟩ (fun _=>trivial)) R ?_
 rintro _
 refine lN (_::_::W1) ?_
 refine l_nil (q_draw (sL [1,0]) (d1 7 R (l_build (K:=kT3) (xs:=([r31]:List Int)) (vs:=[(iv r31)]) 0 R R sl23 sz3 zc3 R R R R R R ?_ R (fun A33 D33=>?_))))
 exact fun I h s=>(mO3).list [((),r31)] I h s
 refine lN (OO kT3 3 A33 D33 ([r31]:List Int)::_::_::W1) ?_
 refine l_nil (q_draw (sL [2,1,0]) (d1 8 R (lM (ow _ _ _ _::ow _ _ _ _::ow _ _ _ _::W1) (tE 3 [2,0,1]) ?_)))
 refine l_app (K:=kT3) 17592186044416 R R sl23 sz3 by3 (Zr.zk zT3 zc3) R R R R R R src_ow hg34 (fun A35 D35=>(lN (OO kT3 3 A35 D35 (x21++([r31]:List Int))::_::W1) ?_))
 refine l_nil (q_draw (sL [1,0]) ?_)
 refine d1_ 9 [1,0] ?_
 refine dD ?_
 refine o_7 ?_
 obtain rfl:=so hr
 exact qA (A35,(x21++([r31]:List Int)).length,D35) (tE 2 [0])
 refine o_3 ?_
 obtain rfl:=so hr
 obtain rfl:=he1 _ R
 have hr:=hk1
 refine o_2 ?_
 exact qI (x21,(A22,x21.length,D22)) hr tI
 rintro ⟨x39,⟨A40,N40,D40⟩⟩ σ1 hr
 dsimp only [Z0x_J1] at hr
 refine c_len 0 sees_ow (fun (hn:N40=x39.length)=>?_)
 subst hn
 refine o_7 ?_
 obtain rfl:=so hr
 exact qF (A40,x39.length,D40) (tE 5 [0])
theorem Za_ok  {t1:Tensor}{axis4:Int}{r:Tensor}(hr:Za t1 axis4=some r) :
 FnOk Tryz.prog 80 [(.agg [(.slice A2 N2 D2),(.slice A3 N3 D3)].toArray),(iv axis4)] [rds kT3 (.slice A2 N2 D2) t1.Dims,rds kT3 (.slice A3 N3 D3) t1.Data] (fun (h:HH×HH)=>((.agg [(s3 h.1),(s3 h.2)].toArray),[ow kT3 3 (s3 h.1) r.Dims,ow kT3 3 (s3 h.2) r.Data])):=by
 unfold Za at hr
 refine fn_ok Tryz.func80 R 75 R R fun C V=>?_
 refine cN (_::_::V) ?_
 refine cL 0 sees_rd ?_
 rintro rfl
 refine cL 1 sees_rd ?_
 rintro rfl
 let W0:List HP:=RR kT3 A2 D2 t1.Dims::RR kT3 A3 D3 t1.Data::V
 refine cN W0 ?_
 refine o_2 ?_
 refine lBx R fun b5=>?_
 refine l_alloc R R zc58 (fun b6=>(l_nil ?_))
 let W1:List HP:=bxl b5 [(sc A2 t1.Dims D2),(sc A3 t1.Data D3)] 58::W0
 refine qN (_::W1) ?_
 refine o_3 ?_
 obtain ⟨r7,hx8,hr⟩:=bd hr
 refine o_3 ?_
 refine lM (RR kT3 A2 D2 t1.Dims::RR kT3 A3 D3 t1.Data::bxl _ _ _::W1) (fun w s=>(((s.d 2 R).d 4 R).e 3 [1,0,2])) ?_
 refine lC 2 cb106 R (Z16_ok hx8) R ?_
 rintro _
 refine lN (_::W1) ?_
 refine o_3 ?_
 rcases bif_ hr with ⟨_,hr⟩|⟨_,hr⟩
 refine o_3 ?_
 refine lO (vz (.agg [(.slice none 0 0),(.slice none 0 0)].toArray) (v_build pl58 zc58 R R)) (l_stores 0 R R sz58 R R R R R R (l_nil (q_next (c_ret (q_ret ?_)))))
 obtain rfl:=so hr
 exact qS ((none,0,0),(none,0,0)) (fun w s=>(((s.nilo kT3 3).nilo kT3 3).e 6 [1,0]))
 refine o_4 ?_
 obtain ⟨r10,hx11,hr⟩:=bd hr
 refine o_3 ?_
 refine lM (RR kT3 A2 D2 t1.Dims::_::W1) (fun w s=>(s.d 2 R)) ?_
 refine lC 1 cb93 R (Z0b_ok hx11) R ?_
 rintro ⟨⟨A12,N12,D12⟩,⟨A13,N13,D13⟩⟩
 refine lN (ow kT3 3 (.slice A12 N12 D12) r10.Dims::ow kT3 3 (.slice A13 N13 D13) r10.Data::_::W1) ?_
 refine l_len 0 sees_ow ?_
 rintro rfl
 refine l_len 1 sees_ow ?_
 rintro rfl
 refine l_alloc R R zc58 (fun b14=>(l_stores 0 R R sz58 R R R R R R (lN (bxl b14 [(sc A12 r10.Dims D12),(sc A13 r10.Data D13)] 58::_::_::_::W1) ?_)))
 refine o_3 ?_
 refine c_cut (A:=((List Int))×(Unit)) (fun a=>Za_J9 r10 a.1=some r) (fun a=>[(4,(pt b6 0)),(5,(pt b14 0))]) (fun a=>bxl b6 [(.slice none 0 0),(.slice none 0 0)] 58::bxl b14 [(sc A12 r10.Dims D12),(sc A13 r10.Data D13)] 58::OO kT3 3 A12 D12 r10.Dims::ow kT3 3 (.slice A13 r10.Data.length D13) a.1::W1) ?_ ?_
 refine o_6 ?_
 obtain ⟨e1,hl1,hk1⟩:=bd hr
 refine c_loop (A:=Unit) hl1 (fun s a=>[(1,(iv axis4)),(2,(pt b5 0)),(4,(pt b6 0)),(5,(pt b14 0)),(6,(iv s.2))]) (fun s a=>bxl b6 [(.slice none 0 0),(.slice none 0 0)] 58::bxl b14 [(sc A12 r10.Dims D12),(sc A13 r10.Data D13)] 58::OO kT3 3 A12 D12 r10.Dims::ow kT3 3 (.slice A13 r10.Data.length D13) s.1::W1) () (aS R) (tE 4 [3,0,1,2]) ?_
 rintro ⟨x72,i73⟩ _ σ1 out1 hr he1
 dsimp only [Za_L1] at hr
 refine o_10 ?_
 rcases bif_ hr with ⟨_,hr⟩|⟨_,hr⟩
 refine o_4 ?_
 refine c_cut (A:=((List Int))×(Unit)) (fun a=>Za_J8 i73 a.1=some out1) (fun a=>[(1,(iv axis4)),(2,(pt b5 0)),(4,(pt b6 0)),(5,(pt b14 0)),(6,(iv i73))]) (fun a=>bxl b6 [(.slice none 0 0),(.slice none 0 0)] 58::bxl b14 [(sc A12 r10.Dims D12),(sc A13 r10.Data D13)] 58::OO kT3 3 A12 D12 r10.Dims::ow kT3 3 (.slice A13 r10.Data.length D13) a.1::W1) ?_ ?_
 refine o_2 ?_
 obtain ⟨r75,hx76,hr⟩:=bd hr
 refine o_4 ?_
 refine lM (RR kT3 A2 D2 t1.Dims::_::_::_::ow kT3 3 (.slice A13 r10.Data.length D13) x72::W1) (fun w s=>(s.d 5 R)) ?_
 refine lC 1 cb102 R (Zf_ok hx76) R ?_
 rintro ⟨A77,N77,D77⟩
 refine lN (ow kT3 3 (.slice A77 N77 D77) r75::_::_::_::_::W1) ?_
 refine l_len 0 sees_ow ?_
 rintro rfl
 refine o_4 ?_
 obtain ⟨r78,hx79,hr⟩:=bd hr
 refine o_4 ?_
 refine lM (ow _ _ _ _::RR kT3 A2 D2 t1.Dims::RR kT3 A3 D3 t1.Data::bxl _ _ _::bxl _ _ _::ow _ _ _ _::ow _ _ _ _::W1) (fun w s=>(((s.d 6 R).d 8 R).e 7 [2,1,0,3,4,5,6])) ?_
 refine lC 3 cb107 R (FnOk.lends (A':=[OO kT3 3 A77 D77 r75]) (A:=[RR kT3 A77 D77 r75]) (B:=[RR kT3 A2 D2 t1.Dims,RR kT3 A3 D3 t1.Data]) (FnOk.perm (Z0x_ok hx79) (Pre':=[RR kT3 A77 D77 r75,RR kT3 A2 D2 t1.Dims,RR kT3 A3 D3 t1.Data]) (fun _ _ _ s=>(s.e 3 [1,2,0]))) ⟨lend_ow,trivial⟩ (fun _=>⟨(closed_ow cT3),trivial⟩)) R ?_
 rintro ⟨A80,N80,D80⟩
 refine lN (_::ow kT3 3 (.slice A80 N80 D80) r78::_::_::_::_::W1) ?_
 refine l_len 1 sees_ow ?_
 rintro rfl
 refine o_9 ?_
 refine c_cut (A:=(Bool)×(Unit)) (fun a=>Za_J7 r10 x72 i73 a.1=some out1) (fun a=>[(1,(iv axis4)),(2,(pt b5 0)),(4,(pt b6 0)),(5,(pt b14 0)),(6,(iv i73)),(9,(.bool a.1))]) (fun a=>bxl b6 [(.slice none 0 0),(.slice none 0 0)] 58::bxl b14 [(sc A12 r10.Dims D12),(sc A13 r10.Data D13)] 58::OO kT3 3 A12 D12 r10.Dims::ow kT3 3 (.slice A13 r10.Data.length D13) x72::W1) ?_ ?_
 refine o_6 ?_
 obtain ⟨e2,hl2,hk2⟩:=bd hr
 refine c_loop (A:=HH) hl2 (fun s a=>[(1,(iv axis4)),(2,(pt b5 0)),(4,(pt b6 0)),(5,(pt b14 0)),(6,(iv i73)),(7,(sc A77 r75 D77)),(8,(s3 a)),(9,(.bool s.1)),(10,(iv s.2))]) (fun s a=>bxl b6 [(.slice none 0 0),(.slice none 0 0)] 58::bxl b14 [(sc A12 r10.Dims D12),(sc A13 r10.Data D13)] 58::OO kT3 3 A12 D12 r10.Dims::ow kT3 3 (.slice A13 r10.Data.length D13) x72::OO kT3 3 A77 D77 r75::ow kT3 3 (s3 a) r78::W1) (A80,r78.length,D80) (aS R) (fun w s=>(s.f 6 [2,4,0,2])) ?_
 rintro ⟨best101,k102⟩ ⟨A100,N100,D100⟩ σ1 out2 hr he2
 dsimp only [Za_L2] at hr
 refine c_len 5 sees_ow (fun (hn:N100=r78.length)=>?_)
 subst hn
 refine o_9 ?_
 rcases bif_ hr with ⟨_,hr⟩|⟨_,hr⟩
 refine o_4 ?_
 refine c_cut (A:=(Bool)×(HH)) (fun a=>Za_J6 k102 a.1=some out2) (fun a=>[(1,(iv axis4)),(2,(pt b5 0)),(4,(pt b6 0)),(5,(pt b14 0)),(6,(iv i73)),(7,(sc A77 r75 D77)),(8,(s3 a.2)),(9,(.bool a.1)),(10,(iv k102))]) (fun a=>bxl b6 [(.slice none 0 0),(.slice none 0 0)] 58::bxl b14 [(sc A12 r10.Dims D12),(sc A13 r10.Data D13)] 58::OO kT3 3 A12 D12 r10.Dims::ow kT3 3 (.slice A13 r10.Data.length D13) x72::OO kT3 3 A77 D77 r75::ow kT3 3 (s3 a.2) r78::W1) ?_ ?_
 refine o_2 ?_
 obtain ⟨hg104,hr⟩:=gd hr
 obtain ⟨r107,hx108,hr⟩:=bd hr
 refine o_3 ?_
 refine t_some 5 sees_ow (show 0<r78.length by have:=hg104; omega) (fun g105 o106 ha=>?_)
 subst ha
 refine o_2 ?_
 refine lC 0 cb108 R (Z13_ok hx108) R ?_
 rintro _
 refine lN (_::_::_::_::_::OO kT3 3 (ad g105 o106) D100 r78::W1) ?_
 refine o_4 ?_
 obtain ⟨hg109,hr⟩:=gd hr
 obtain ⟨r112,hx113,hr⟩:=bd hr
 refine o_4 ?_
 refine t_some 8 sees_rd (show 0<t1.Data.length by have:=hg109; omega) (fun g110 o111 ha=>?_)
 subst ha
 refine o_2 ?_
 refine lC 0 cb108 R (Z13_ok hx113) R ?_
 rintro _
 refine o_4 ?_
 obtain ⟨hg114,hr⟩:=gd hr
 refine cQ [(1,(iv axis4)),(2,(pt b5 0)),(4,(pt b6 0)),(5,(pt b14 0)),(6,(iv i73)),(7,(sc A77 r75 D77)),(8,(sc (ad g105 o106) r78 D100)),(9,(.bool best101)),(10,(iv k102)),(68,(.bool ((decide (r107>r112))||((r107==r112)&&(decide (k102<(ix r75 axis4)))))))] (bxl b6 [(.slice none 0 0),(.slice none 0 0)] 58::bxl b14 [(sc A12 r10.Dims D12),(sc A13 r10.Data D13)] 58::OO kT3 3 A12 D12 r10.Dims::ow kT3 3 (.slice A13 r10.Data.length D13) x72::OO kT3 3 A77 D77 r75::OO kT3 3 (ad g105 o106) D100 r78::W1) ?_ ?_
 refine o_5 ?_
 rcases bo (decide (r107>r112)) with hc117 | hc117
 refine o_13 ?_
 exact qj tI
 refine o_4 ?_
 rcases bo (r107==r112) with hc118 | hc118
 refine o_3 ?_
 refine t_some 4 sees_ow (show 0<r75.length by have:=(hg114 hc117 hc118); omega) (fun g115 o116 ha=>?_)
 subst ha
 refine lW (wnT hc118) (vIa sl23 sz3 R R (hg114 hc117 hc118)) (lW (wnT hc118) (vLi 4 ag3 sees_ow R (hg114 hc117 hc118)) ?_)
 refine o_4 ?_
 exact qj tI
 refine o_9 ?_
 exact qj tI
 rintro σ1
 refine o_1 ?_
 rcases bif_ hr with ⟨_,hr⟩|⟨_,hr⟩
 refine o_5 ?_
 exact qI (false,((ad g105 o106),r78.length,D100)) hr tI
 refine o_3 ?_
 exact qI (best101,((ad g105 o106),r78.length,D100)) hr tI
 rintro ⟨best121,⟨A120,N120,D120⟩⟩ σ1 hr
 dsimp only [Za_J6] at hr
 refine c_len 5 sees_ow (fun (hn:N120=r78.length)=>?_)
 subst hn
 refine o_5 ?_
 obtain rfl:=so hr
 exact qA (A120,r78.length,D120) tI
 refine o_3 ?_
 obtain rfl:=so hr
 obtain rfl:=he2 _ R
 have hr:=hk2
 refine o_2 ?_
 exact qI (best101,()) hr (fun w s=>(s.f 6 [0,4]))
 rintro ⟨best125,_⟩ σ1 hr
 dsimp only [Za_J7] at hr
 refine o_5 ?_
 rcases bif_ hr with ⟨_,hr⟩|⟨_,hr⟩
 refine o_1 ?_
 obtain ⟨hg127,hr⟩:=gd hr
 refine o_4 ?_
 refine t_some 3 sees_ow (show 0<r10.Data.length by have:=hg127; omega) (fun g128 o129 ha=>?_)
 subst ha
 refine o_1 ?_
 refine lM (ow kT3 3 (.slice (ad g128 o129) r10.Data.length D13) x72::bxl _ _ _::bxl b14 [(sc A12 r10.Dims D12),(sc (ad g128 o129) r10.Data D13)] 58::ow _ _ _ _::W1) (tE 4 [3,0,1,2]) ?_
 refine l_stx (K:=kT3) (x':=(1:Int)) 0 i73 R R sz3 R R hg127.1 hg127.2 ?_ ?_
 exact fun I h s=>(mO3).put I h () (1:Int) s
 refine lN (ow kT3 3 (.slice (ad g128 o129) r10.Data.length D13) (x72.set i73.toNat (1:Int))::_::_::_::W1) ?_
 refine o_2 ?_
 exact qI ((x72.set i73.toNat (1:Int)),()) hr (tE 4 [1,2,3,0])
 refine o_3 ?_
 exact qI (x72,()) hr tI
 rintro ⟨x130,_⟩ σ1 hr
 dsimp only [Za_J8] at hr
 refine o_5 ?_
 obtain rfl:=so hr
 exact qA () tI
 refine o_3 ?_
 obtain rfl:=so hr
 obtain rfl:=he1 _ R
 have hr:=hk1
 refine o_2 ?_
 exact qI (x72,()) hr tI
 rintro ⟨x133,_⟩ σ1 hr
 dsimp only [Za_J9] at hr
 refine o_3 ?_
 refine l_stores 0 R R sz58 R R R R R R (lN (bxl b6 [(sc A12 r10.Dims D12),(sc A13 r10.Data D13)] 58::bxl b14 [(sc A12 r10.Dims D12),(sc A13 r10.Data D13)] 58::_::ow kT3 3 (.slice A13 r10.Data.length D13) x133::W1) ?_)
 refine o_3 ?_
 obtain rfl:=so hr
 exact qS ((A12,r10.Dims.length,D12),(A13,r10.Data.length,D13)) (tE 7 [2,3])
theorem Z0o_ok  {p1:Str}{r:Bool}(hr:Z0o p1=some r) :
 FnOk Tryz.prog 142 [(vstr p1)] [] (fun (h:Unit)=>((.bool r),[])):=by
 unfold Z0o at hr
 refine fn_ok Tryz.func142 R 23 R R fun C V=>?_
 refine cN V ?_
 refine o_6 ?_
 refine c_cut (A:=(Unit)×(Unit)) (fun a=>Z0o_J1 p1=some r) (fun a=>[(0,(vstr p1))]) (fun a=>V) ?_ ?_
 refine o_6 ?_
 obtain ⟨e1,hl1,hk1⟩:=bd hr
 refine c_loop (A:=Unit) hl1 (fun s a=>[(0,(vstr p1)),(3,(iv s))]) (fun s a=>V) () (aS R) tI ?_
 rintro i6 _ σ1 out1 hr he1
 dsimp only [Z0o_L1] at hr
 refine o_4 ?_
 refine lO (vp (vstr p1) R) (lO (vz (il p1) (v_slen un9 R)) ?_)
 refine o_3 ?_
 rcases bif_ hr with ⟨_,hr⟩|⟨_,hr⟩
 refine o_6 ?_
 obtain ⟨hg8,hr⟩:=gd hr
 refine cQ [(0,(vstr p1)),(3,(iv i6)),(19,(.bool ((decide ((bt p1 i6)<(97:Int)))||(decide ((bt p1 i6)>(122:Int))))))] (V) ?_ ?_
 refine c_region (lO (vp (vstr p1) R) (lI R (lO (vz (.int .u8 (bt p1 i6)) (v_sindex un9 R R hg8.1 hg8.2)) (lO (vp (.bool (decide ((bt p1 i6)<(97:Int)))) R) (lB R ?_)))))
 rcases bo (decide ((bt p1 i6)<(97:Int))) with hc9 | hc9
 refine o_6 ?_
 exact qj tI
 refine lW (wnF hc9) (vp (vstr p1) R) (lW (wnF hc9) (vI R) (lW (wnF hc9) (vz (.int .u8 (bt p1 i6)) (v_sindex un9 R R hg8.1 hg8.2)) (lW (wnF hc9) (vp (.bool (decide ((bt p1 i6)>(122:Int)))) R) ?_)))
 refine o_2 ?_
 exact qj tI
 rintro σ1
 refine o_1 ?_
 rcases bif_ hr with ⟨_,hr⟩|⟨_,hr⟩
 refine o_9 ?_
 obtain rfl:=so hr
 obtain rfl:=he1 _ R
 have hr:=hk1
 refine o_3 ?_
 obtain rfl:=so hr
 exact qF () tI
 refine o_9 ?_
 obtain rfl:=so hr
 exact qA () tI
 refine o_3 ?_
 obtain rfl:=so hr
 obtain rfl:=he1 _ R
 have hr:=hk1
 refine o_2 ?_
 exact qI ((),()) hr tI
 rintro ⟨_,_⟩ σ1 hr
 dsimp only [Z0o_J1] at hr
 refine o_2 ?_
 refine lO (vp (vstr p1) R) (lO (vz (il p1) (v_slen un9 R)) ?_)
 refine o_5 ?_
 obtain rfl:=so hr
 exact qF () tI
theorem Z0n_ok  {p1:Str}{b2:Int}{r:Bool}(hr:Z0n p1 b2=some r) :
 FnOk Tryz.prog 143 [(vstr p1),(.int .u8 b2)] [] (fun (h:Unit)=>((.bool r),[])):=by
 unfold Z0n at hr
 refine fn_ok Tryz.func143 R 17 R R fun C V=>?_
 refine cN V ?_
 refine o_6 ?_
 refine c_cut (A:=(Unit)×(Unit)) (fun a=>Z0n_J1=some r) (fun a=>[]) (fun a=>V) ?_ ?_
 refine o_6 ?_
 obtain ⟨e1,hl1,hk1⟩:=bd hr
 refine c_loop (A:=Unit) hl1 (fun s a=>[(0,(vstr p1)),(1,(.int .u8 b2)),(5,(iv s))]) (fun s a=>V) () (aS R) tI ?_
 rintro i6 _ σ1 out1 hr he1
 dsimp only [Z0n_L1] at hr
 refine o_4 ?_
 refine lO (vp (vstr p1) R) (lO (vz (il p1) (v_slen un9 R)) ?_)
 refine o_3 ?_
 rcases bif_ hr with ⟨_,hr⟩|⟨_,hr⟩
 refine o_6 ?_
 obtain ⟨hg8,hr⟩:=gd hr
 refine c_region (lO (vp (vstr p1) R) (lI R (lO (vz (.int .u8 (bt p1 i6)) (v_sindex un9 R R hg8.1 hg8.2)) (lI R (lO (vp (.bool ((bt p1 i6)==b2)) R) ?_)))))
 refine o_2 ?_
 rcases bif_ hr with ⟨_,hr⟩|⟨_,hr⟩
 refine o_9 ?_
 obtain rfl:=so hr
 obtain rfl:=he1 _ R
 have hr:=hk1
 refine o_3 ?_
 obtain rfl:=so hr
 exact qF () tI
 refine o_9 ?_
 obtain rfl:=so hr
 exact qA () tI
 refine o_3 ?_
 obtain rfl:=so hr
 obtain rfl:=he1 _ R
 have hr:=hk1
 refine o_2 ?_
 exact q_join ((),()) hr trivial tI
 rintro ⟨_,_⟩ σ1 hr
 dsimp only [Z0n_J1] at hr
 refine o_6 ?_
 obtain rfl:=so hr
 exact qF () tI
end Go.Proofs.YtmpnollfdpdipaaGreat
