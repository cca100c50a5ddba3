import Derived.Test.YtmpnollfdpdipaaGreatGkW4
set_option linter.unusedVariables false
set_option maxRecDepth 20000
namespace Go.Proofs.YtmpnollfdpdipaaGreat
open Go Go.Pg
variable {A2 A3 A4 A5 A6 A7 A8 A9 A10 A11:Option Addr}{D2 D3 D4 D5 D6 D7 D8 D9 D10 D11 N2 N3 N4 N5 N6 N7 N8 N9 N10 N11:Nat}
theorem Z01_ok  {dims1:(List Int)}{r:(List Int)}(hr:Z01 dims1=some r) :
 FnOk Tryz.prog 164 [(.slice A2 N2 D2)] [rds kT3 (.slice A2 N2 D2) dims1] (fun (h:HH)=>((s3 h),[ow kT3 3 (s3 h) r])):=by
 unfold Z01 at hr
 refine fn_ok Tryz.func164 R 32 R R fun C V=>?_
 refine cN (_::V) ?_
 refine cL 0 sees_rd ?_
 rintro rfl
 let W0:List HP:=RR kT3 A2 D2 dims1::V
 refine cN W0 ?_
 refine o_6 ?_
 obtain ⟨hg3,hr⟩:=gd hr
 refine o_3 ?_
 refine l_make (K:=kT3) (m:=(dims1.length:Int)) (z:=(0:Int)) R R sl23 sz3 by3 (Zr.zk zT3 zc3) (by decide) R R hg3.1 hg3.2.1 hg3.2.2 (fun A4 D4=>(lS R (l_nil (q_next (c_seq (c_region (lI R (l_nil (q_next (c_seq (c_cut (A:=((List Int))×(Unit)) (fun a=>Z01_J3 a.1=some r) (fun a=>[(3,(sc A4 (List.replicate (dims1.length:Int).toNat (0:Int)) D4))]) (fun a=>ow kT3 3 (.slice A4 (List.replicate (dims1.length:Int).toNat (0:Int)).length D4) a.1::W0) ?_ ?_)))))))))))
 refine o_9 ?_
 obtain ⟨e1,hl1,hk1⟩:=bd hr
 refine c_loop (A:=Unit) hl1 (fun s a=>[(0,(sc A2 dims1 D2)),(3,(sc A4 (List.replicate (dims1.length:Int).toNat (0:Int)) D4)),(4,(iv s.2.1)),(5,(iv s.2.2))]) (fun s a=>ow kT3 3 (.slice A4 (List.replicate (dims1.length:Int).toNat (0:Int)).length D4) s.1::W0) () (aS R) tI ?_
 rintro ⟨x19,n20,i21⟩ _ σ1 out1 hr he1
 dsimp only [Z01_L1] at hr
 refine o_7 ?_
 rcases bif_ hr with ⟨_,hr⟩|⟨_,hr⟩
 refine o_6 ?_
 refine c_cut (A:=((List Int))×(Unit)) (fun a=>Z01_J2 dims1 n20 i21 a.1=some out1) (fun a=>[(0,(sc A2 dims1 D2)),(3,(sc A4 (List.replicate (dims1.length:Int).toNat (0:Int)) D4)),(4,(iv n20)),(5,(iv i21))]) (fun a=>ow kT3 3 (.slice A4 (List.replicate (dims1.length:Int).toNat (0:Int)).length D4) a.1::W0) ?_ ?_
 refine o_1 ?_
 obtain ⟨hg23,hr⟩:=gd hr
 refine o_3 ?_
 refine t_some 1 sees_rd (show 0<dims1.length by have:=hg23; omega) (fun g24 o25 ha=>?_)
 subst ha
 refine o_5 ?_
 rcases bif_ hr with ⟨_,hr⟩|⟨_,hr⟩
 refine o_1 ?_
 obtain ⟨hg27,hr⟩:=gd hr
 refine o_4 ?_
 refine t_some 0 sees_ow (show 0<(List.replicate (dims1.length:Int).toNat (0:Int)).length by have:=hg27; omega) (fun g28 o29 ha=>?_)
 subst ha
 refine o_1 ?_
 refine lN (ow kT3 3 (.slice (ad g28 o29) (List.replicate (dims1.length:Int).toNat (0:Int)).length D4) x19::W0) ?_
 refine l_stx (K:=kT3) (x':=n20) 0 i21 R R sz3 R R hg27.1 hg27.2 ?_ ?_
 exact fun I h s=>(mO3).put I h () n20 s
 refine lN (ow kT3 3 (.slice (ad g28 o29) (List.replicate (dims1.length:Int).toNat (0:Int)).length D4) (x19.set i21.toNat n20)::W0) ?_
 refine o_1 ?_
 exact qI ((x19.set i21.toNat n20),()) hr tI
 refine o_2 ?_
 exact qI (x19,()) hr tI
 rintro ⟨x30,_⟩ σ1 hr
 dsimp only [Z01_J2] at hr
 obtain ⟨hg31,hr⟩:=gd hr
 refine o_4 ?_
 refine t_some 1 sees_rd (show 0<dims1.length by have:=hg31; omega) (fun g32 o33 ha=>?_)
 subst ha
 refine o_12 ?_
 obtain rfl:=so hr
 exact qA () tI
 refine o_3 ?_
 obtain rfl:=so hr
 obtain rfl:=he1 _ R
 have hr:=hk1
 refine o_2 ?_
 exact qI (x19,()) hr tI
 rintro ⟨x37,_⟩ σ1 hr
 dsimp only [Z01_J3] at hr
 refine o_7 ?_
 obtain rfl:=so hr
 exact qF (A4,(List.replicate (dims1.length:Int).toNat (0:Int)).length,D4) (tE 2 [0])
theorem Zh_ok  {f1:form}{group7:Str}{plain8:(List Int)}{r:(List Int)}(hr:Zh f1 group7 plain8=some r) :
 FnOk Tryz.prog 209 [(.agg [(.slice A2 N2 D2),(vstr f1.out_),(vstr f1.order),(.slice A3 N3 D3),(.slice A4 N4 D4),(.slice A5 N5 D5),(.slice A6 N6 D6)].toArray),(vstr group7),(.slice A9 N9 D9)] [rds kT9 (.slice A2 N2 D2) f1.groups,rds kT3 (.slice A3 N3 D3) f1.loops,rds kT3 (.slice A4 N4 D4) f1.dims,rds kT23 (.slice A5 N5 D5) f1.steps,rds kT3 (.slice A6 N6 D6) f1.store,rds kT3 (.slice A9 N9 D9) plain8] (fun (h:HH)=>((s3 h),[ow kT3 3 (s3 h) r])):=by
 unfold Zh at hr
 refine fn_ok Tryz.func209 R 45 R R fun C V=>?_
 refine cN (_::_::_::_::_::_::V) ?_
 refine cL 0 sees_rd ?_
 rintro rfl
 refine cL 1 sees_rd ?_
 rintro rfl
 refine cL 2 sees_rd ?_
 rintro rfl
 refine cL 3 sees_rd ?_
 rintro rfl
 refine cL 4 sees_rd ?_
 rintro rfl
 refine cL 5 sees_rd ?_
 rintro rfl
 let W0:List HP:=RR kT9 A2 D2 f1.groups::RR kT3 A3 D3 f1.loops::RR kT3 A4 D4 f1.dims::RR kT23 A5 D5 f1.steps::RR kT3 A6 D6 f1.store::RR kT3 A9 D9 plain8::V
 refine cN W0 ?_
 refine o_2 ?_
 refine lBx R fun b10=>?_
 refine o_2 ?_
 let W1:List HP:=bxl b10 [(sc A2 f1.groups D2),(vstr f1.out_),(vstr f1.order),(sc A3 f1.loops D3),(sc A4 f1.dims D4),(sc A5 f1.steps D5),(sc A6 f1.store D6)] 192::W0
 refine qN W1 ?_
 refine o_2 ?_
 obtain ⟨hg11,hr⟩:=gd hr
 refine o_3 ?_
 refine lO (vz (il f1.order) (v_slen un9 R)) (l_make (K:=kT3) (m:=(f1.order.length:Int)) (z:=(0:Int)) R R sl23 sz3 by3 (Zr.zk zT3 zc3) (by decide) R R hg11.1 hg11.2.1 hg11.2.2 (fun A12 D12=>(lS R (l_nil (q_next (c_seq (c_cut (A:=((List Int))×(Unit)) (fun a=>Zh_J7 a.1=some r) (fun a=>[(7,(sc A12 (List.replicate (f1.order.length:Int).toNat (0:Int)) D12))]) (fun a=>ow kT3 3 (.slice A12 (List.replicate (f1.order.length:Int).toNat (0:Int)).length D12) a.1::W1) ?_ ?_)))))))
 refine o_8 ?_
 obtain ⟨e1,hl1,hk1⟩:=bd hr
 refine c_loop (A:=Unit) hl1 (fun s a=>[(1,(vstr group7)),(2,(sc A9 plain8 D9)),(3,(pt b10 0)),(7,(sc A12 (List.replicate (f1.order.length:Int).toNat (0:Int)) D12)),(15,(il (List.replicate (f1.order.length:Int).toNat (0:Int)))),(16,(iv s.2))]) (fun s a=>ow kT3 3 (.slice A12 (List.replicate (f1.order.length:Int).toNat (0:Int)).length D12) s.1::W1) () (aS R) tI ?_
 rintro ⟨x45,x46⟩ _ σ1 out1 hr he1
 dsimp only [Zh_L1] at hr
 refine o_6 ?_
 rcases bif_ hr with ⟨_,hr⟩|⟨_,hr⟩
 refine o_4 ?_
 refine c_cut (A:=((List Int))×(Unit)) (fun a=>Zh_J6 x46 a.1=some out1) (fun a=>[(1,(vstr group7)),(2,(sc A9 plain8 D9)),(3,(pt b10 0)),(7,(sc A12 (List.replicate (f1.order.length:Int).toNat (0:Int)) D12)),(15,(il (List.replicate (f1.order.length:Int).toNat (0:Int)))),(16,(iv x46))]) (fun a=>ow kT3 3 (.slice A12 (List.replicate (f1.order.length:Int).toNat (0:Int)).length D12) a.1::W1) ?_ ?_
 refine o_13 ?_
 obtain ⟨e2,hl2,hk2⟩:=bd hr
 refine c_loop (A:=Unit) hl2 (fun s a=>[(1,(vstr group7)),(2,(sc A9 plain8 D9)),(3,(pt b10 0)),(7,(sc A12 (List.replicate (f1.order.length:Int).toNat (0:Int)) D12)),(8,(iv x46)),(9,(iv s.2)),(15,(il (List.replicate (f1.order.length:Int).toNat (0:Int)))),(16,(iv x46))]) (fun s a=>ow kT3 3 (.slice A12 (List.replicate (f1.order.length:Int).toNat (0:Int)).length D12) s.1::W1) () (aS R) tI ?_
 rintro ⟨x61,k62⟩ _ σ1 out2 hr he2
 dsimp only [Zh_L2] at hr
 refine o_4 ?_
 refine lO (vp (vstr group7) R) (lO (vz (il group7) (v_slen un9 R)) ?_)
 refine o_3 ?_
 rcases bif_ hr with ⟨_,hr⟩|⟨_,hr⟩
 refine o_4 ?_
 refine c_cut (A:=((List Int))×(Unit)) (fun a=>Zh_J5 k62 a.1=some out2) (fun a=>[(1,(vstr group7)),(2,(sc A9 plain8 D9)),(3,(pt b10 0)),(7,(sc A12 (List.replicate (f1.order.length:Int).toNat (0:Int)) D12)),(8,(iv x46)),(9,(iv k62)),(15,(il (List.replicate (f1.order.length:Int).toNat (0:Int)))),(16,(iv x46))]) (fun a=>ow kT3 3 (.slice A12 (List.replicate (f1.order.length:Int).toNat (0:Int)).length D12) a.1::W1) ?_ ?_
 refine o_2 ?_
 obtain ⟨hg64,hr⟩:=gd hr
 obtain ⟨hg65,hr⟩:=gd hr
 refine cdr 8 [] mixo fun ht hn=>?_
 refine dR 0 R (vp (vstr group7) R) (dR 1 R (vI R) (dR 2 R (vz (.int .u8 (bt group7 k62)) (v_sindex un9 R R hg64.1 hg64.2)) ?_))
 refine d3_ 3 [] ?_
 refine dR 6 R (vz (.int .u8 (bt f1.order x46)) (v_sindex un9 R R hg65.1 hg65.2)) (dR 7 R (vp (.bool ((bt group7 k62)==(bt f1.order x46))) R) (dD (q_next ?_)))
 rcases bif_ hr with ⟨_,hr⟩|⟨_,hr⟩
 refine o_1 ?_
 obtain ⟨hg67,hr⟩:=gd hr
 obtain ⟨hg70,hr⟩:=gd hr
 refine c_some 0 sees_ow (show 0<(List.replicate (f1.order.length:Int).toNat (0:Int)).length by have:=hg67; omega) (fun g68 o69 ha=>?_)
 subst ha
 refine c_some 7 sees_rd (show 0<plain8.length by have:=hg70; omega) (fun g71 o72 ha=>?_)
 subst ha
 refine cdr 11 [0] mixo fun ht hn=>?_
 refine d3_ 0 [0] ?_
 refine d4_ 4 [0] ?_
 refine d1 3 R (lO (vLi 0 ag3 sees_ow R hg67) (l_nil (q_draw (sL [0]) ?_)))
 refine d2_ 8 [0] ?_
 refine d1 10 R (lN (ow kT3 3 (.slice (ad g68 o69) (List.replicate (f1.order.length:Int).toNat (0:Int)).length D12) x61::W1) ?_)
 refine l_stx (K:=kT3) (x':=(w64 ((ix x61 x46)+(ix plain8 k62)))) 0 x46 R R sz3 R R hg67.1 hg67.2 ?_ ?_
 exact fun I h s=>(mO3).put I h () (w64 ((ix x61 x46)+(ix plain8 k62))) s
 refine lN (ow kT3 3 (.slice (ad g68 o69) (List.replicate (f1.order.length:Int).toNat (0:Int)).length D12) (x61.set x46.toNat (w64 ((ix x61 x46)+(ix plain8 k62))))::W1) ?_
 refine l_nil (q_draw (sL [0]) (dD (q_blockn ?_)))
 exact qI ((x61.set x46.toNat (w64 ((ix x61 x46)+(ix plain8 k62)))),()) hr tI
 refine o_3 ?_
 exact qI (x61,()) hr tI
 rintro ⟨x73,_⟩ σ1 hr
 dsimp only [Zh_J5] at hr
 refine o_5 ?_
 obtain rfl:=so hr
 exact qA () tI
 refine o_3 ?_
 obtain rfl:=so hr
 obtain rfl:=he2 _ R
 have hr:=hk2
 refine o_3 ?_
 exact qI (x61,()) hr tI
 rintro ⟨x76,_⟩ σ1 hr
 dsimp only [Zh_J6] at hr
 refine o_4 ?_
 obtain rfl:=so hr
 exact qA () tI
 refine o_3 ?_
 obtain rfl:=so hr
 obtain rfl:=he1 _ R
 have hr:=hk1
 refine o_2 ?_
 exact qI (x45,()) hr tI
 rintro ⟨x79,_⟩ σ1 hr
 dsimp only [Zh_J7] at hr
 refine o_7 ?_
 obtain rfl:=so hr
 exact qF (A12,(List.replicate (f1.order.length:Int).toNat (0:Int)).length,D12) (tE 8 [0])
theorem Z3_ok  {text1:Str}{shapes2:(List (List Int))}{mG:Int}{r:form×Bool}(hr:Z3 text1 shapes2=some r) :
 FnOk Tryz.prog 206 [(vstr text1),(.slice A3 N3 D3)] [rds kT23 (.slice A3 N3 D3) shapes2,gl 0 mG] (fun (h:HH×HH×HH×HH×HH)=>((.tuple [(.agg [(s3 h.1),(vstr r.1.out_),(vstr r.1.order),(s3 h.2.1),(s3 h.2.2.1),(s3 h.2.2.2.1),(s3 h.2.2.2.2)].toArray),(.bool r.2)].toArray),[rds kT9 (s3 h.1) r.1.groups,rds kT3 (s3 h.2.1) r.1.loops,ow kT3 3 (s3 h.2.2.1) r.1.dims,ow kT23 23 (s3 h.2.2.2.1) r.1.steps,ow kT3 3 (s3 h.2.2.2.2) r.1.store])):=by
 unfold Z3 at hr
 refine fn_ok Tryz.func206 R 179 R R fun C V=>?_
 refine cN (_::_::V) ?_
 refine cL 0 sees_rd ?_
 rintro rfl
 let W0:List HP:=RR kT23 A3 D3 shapes2::gl 0 mG::V
 refine cN W0 ?_
 refine o_2 ?_
 refine l_alloc R R zc192 (fun b4=>(lB R (l_nil (q_next (c_seq ?_)))))
 obtain ⟨r5,hx6,hr⟩:=bd hr
 refine c_region (lO (vp (vstr text1) R) (lM (gl 0 mG::_::W0) (fun w s=>(s.dg 2 R)) ?_))
 refine lC 1 cb207 R (Zc_ok hx6) R ?_
 rintro ⟨A7,N7,D7⟩
 refine lN (rds kT9 (.slice A7 N7 D7) r5.1::_::W0) ?_
 refine l_len 0 sees_rd ?_
 rintro rfl
 refine lO (vT R) (lS R (lO (vp (vstr r5.2.1) R) (lB R (lS R (lO (vp (vstr r5.2.1) R) ?_)))))
 refine o_5 ?_
 refine cQ [(1,(sc A3 shapes2 D3)),(4,(pt b4 0)),(6,(sc A7 r5.1 D7)),(7,(vstr r5.2.1)),(34,(.bool ((!r5.2.2)||((r5.1.length:Int) != (shapes2.length:Int)))))] (bxl b4 [(.slice none 0 0),(vstr ([]:Str)),(vstr ([]:Str)),(.slice none 0 0),(.slice none 0 0),(.slice none 0 0),(.slice none 0 0)] 192::RR kT9 A7 D7 r5.1::W0) ?_ ?_
 refine o_4 ?_
 rcases bo (!r5.2.2) with hc8 | hc8
 refine o_7 ?_
 exact qj (tE 2 [1,0])
 refine o_7 ?_
 exact qj (tE 2 [1,0])
 rintro σ1
 refine o_1 ?_
 rcases bif_ hr with ⟨_,hr⟩|⟨_,hr⟩
 refine o_3 ?_
 refine lO (vz (.agg [(.slice none 0 0),(vstr ([]:Str)),(vstr ([]:Str)),(.slice none 0 0),(.slice none 0 0),(.slice none 0 0),(.slice none 0 0)].toArray) (v_build pl192 zc192 R R)) (l_stores 0 R R sz192 R R R R R R (lB R (l_nil (q_next (c_ret (q_ret ?_))))))
 obtain rfl:=so hr
 exact q_fin (vs:=[(.agg [(.slice none 0 0),(vstr ([]:Str)),(vstr ([]:Str)),(.slice none 0 0),(.slice none 0 0),(.slice none 0 0),(.slice none 0 0)].toArray),(.bool false)]) (.inl R) ((none,0,0),(none,0,0),(none,0,0),(none,0,0),(none,0,0)) R ⟨⟨0,b4,_,_,R,R,.inl ⟨ag192,sz192,R⟩⟩,R,trivial⟩ R (fun w s=>((((((s.nilr kT9).nilr kT3).nilo kT3 3).nilo kT23 23).nilo kT3 3).e 9 [4,3,2,1,0]))
 refine o_6 ?_
 refine lO (vp (vstr r5.2.1) R) (lO (vp (vstr r5.2.1) R) (lO (vz (.agg [(sc A7 r5.1 D7),(vstr r5.2.1),(vstr r5.2.1),(.slice none 0 0),(.slice none 0 0),(.slice none 0 0),(.slice none 0 0)].toArray) (v_build pl192 zc192 R R)) (l_alloc R R zc192 (fun b10=>(l_stores 0 R R sz192 R R R R R R (lN (bxl b10 [(sc A7 r5.1 D7),(vstr r5.2.1),(vstr r5.2.1),(.slice none 0 0),(.slice none 0 0),(.slice none 0 0),(.slice none 0 0)] 192::_::_::W0) ?_))))))
 refine o_4 ?_
 refine lO (vz (.agg [(iv 0),(iv 0),(iv 0),(iv 0),(iv 0),(iv 0),(iv 0),(iv 0),(iv 0),(iv 0),(iv 0),(iv 0),(iv 0),(iv 0),(iv 0),(iv 0),(iv 0),(iv 0),(iv 0),(iv 0),(iv 0),(iv 0),(iv 0),(iv 0),(iv 0),(iv 0)].toArray) (v_zarr ar195 zc195 sz3)) (l_alloc R R zc195 (fun b11=>(l_stores 0 R R sz195 R R R R R R (l_nil (qM (ow kT3 195 (.slice (ad b11 0) 26 26) (List.replicate 26 (0:Int))::_::_::_::W0) (fun w s=>s.b2o 0 (List.replicate 26 (0:Int)) R R R R) ?_)))))
 refine o_2 ?_
 refine c_cut (A:=(Str×(List Int))×(HH×HH)) (fun a=>Z3_J7 shapes2 r5 a.1.1 a.1.2=some r) (fun a=>[(1,(s3 a.2.1)),(4,(pt b4 0)),(6,(s3 a.2.2)),(7,(vstr r5.2.1)),(9,(pt b10 0)),(10,(pt b11 0))]) (fun a=>rds kT23 (s3 a.2.1) shapes2::bxl b4 [(.slice none 0 0),(vstr ([]:Str)),(vstr ([]:Str)),(.slice none 0 0),(.slice none 0 0),(.slice none 0 0),(.slice none 0 0)] 192::rds kT9 (s3 a.2.2) r5.1::bxl b10 [(s3 a.2.2),(vstr r5.2.1),(vstr a.1.1),(.slice none 0 0),(.slice none 0 0),(.slice none 0 0),(.slice none 0 0)] 192::ow kT3 195 (.slice (ad b11 0) 26 26) a.1.2::W0) ?_ ?_
 refine o_8 ?_
 obtain ⟨e1,hl1,hk1⟩:=bd hr
 refine c_loop (A:=HH×HH) hl1 (fun s a=>[(1,(s3 a.1)),(4,(pt b4 0)),(6,(s3 a.2)),(7,(vstr r5.2.1)),(9,(pt b10 0)),(10,(pt b11 0)),(41,(s3 a.2)),(42,(il r5.1)),(43,(iv s.2.2))]) (fun s a=>rds kT23 (s3 a.1) shapes2::bxl b4 [(.slice none 0 0),(vstr ([]:Str)),(vstr ([]:Str)),(.slice none 0 0),(.slice none 0 0),(.slice none 0 0),(.slice none 0 0)] 192::rds kT9 (s3 a.2) r5.1::bxl b10 [(s3 a.2),(vstr r5.2.1),(vstr s.1),(.slice none 0 0),(.slice none 0 0),(.slice none 0 0),(.slice none 0 0)] 192::ow kT3 195 (.slice (ad b11 0) 26 26) s.2.1::W0) ((A3,shapes2.length,D3),(A7,r5.1.length,D7)) (aS R) (fun w s=>((s.d 4 R).e 5 [0,3,4,2,1])) ?_
 rintro ⟨f77,lens78,x79⟩ ⟨⟨A75,N75,D75⟩,⟨A76,N76,D76⟩⟩ σ1 out1 hr he1
 dsimp only [Z3_L1] at hr
 refine c_len 0 sees_rd (fun (hn:N75=shapes2.length)=>?_)
 subst hn
 refine c_len 2 sees_rd (fun (hn:N76=r5.1.length)=>?_)
 subst hn
 refine o_6 ?_
 rcases bif_ hr with ⟨_,hr⟩|⟨_,hr⟩
 refine o_4 ?_
 refine c_cut (A:=(Str×(List Int))×(HH×HH)) (fun a=>Z3_J6 x79 a.1.1 a.1.2=some out1) (fun a=>[(1,(s3 a.2.1)),(4,(pt b4 0)),(6,(s3 a.2.2)),(7,(vstr r5.2.1)),(9,(pt b10 0)),(10,(pt b11 0)),(41,(s3 a.2.2)),(42,(il r5.1)),(43,(iv x79))]) (fun a=>rds kT23 (s3 a.2.1) shapes2::bxl b4 [(.slice none 0 0),(vstr ([]:Str)),(vstr ([]:Str)),(.slice none 0 0),(.slice none 0 0),(.slice none 0 0),(.slice none 0 0)] 192::rds kT9 (s3 a.2.2) r5.1::bxl b10 [(s3 a.2.2),(vstr r5.2.1),(vstr a.1.1),(.slice none 0 0),(.slice none 0 0),(.slice none 0 0),(.slice none 0 0)] 192::ow kT3 195 (.slice (ad b11 0) 26 26) a.1.2::W0) ?_ ?_
 refine o_2 ?_
 obtain ⟨hg81,hr⟩:=gd hr
 refine o_2 ?_
 refine t_some 2 sees_rd (show 0<r5.1.length by have:=hg81; omega) (fun g82 o83 ha=>?_)
 subst ha
 refine o_1 ?_
 refine lO (vz (vstr (ix r5.1 x79)) (v_lde (K:=kT9) (fo:=0) (pr:=fun x=>(vstr x)) 2 x79 ag9 (dT9.leaf fun _ _=>R) sees_rd R hg81.1 hg81.2)) (lI R (lO (vp (vstr (ix r5.1 x79)) R) ?_))
 refine o_4 ?_
 obtain ⟨hg84,hr⟩:=gd hr
 refine c_region (lO (vp (vstr (ix r5.1 x79)) R) (lO (vz (il (ix r5.1 x79)) (v_slen un9 R)) (lS R (lI R (t_some 0 sees_rd (show 0<shapes2.length by have:=hg84; omega) (fun g85 o86 ha=>?_))))))
 subst ha
 refine o_1 ?_
 refine t_elem (K:=kT23) 0 x79 dT23.dec R hg84.1 hg84.2 ?_
 rintro ⟨A87,D87⟩
 refine lN (cl g85 (o86+x79.toNat*1) [(sc A87 (ix shapes2 x79) D87)]::RR kT3 A87 D87 (ix shapes2 x79)::RR kT23 (ad g85 o86) D75 shapes2::_::RR kT9 (ad g82 o83) D76 r5.1::bxl b10 [(sc (ad g82 o83) r5.1 D76),(vstr r5.2.1),(vstr f77),(.slice none 0 0),(.slice none 0 0),(.slice none 0 0),(.slice none 0 0)] 192::ow kT3 195 (.slice (ad b11 0) 26 26) lens78::W0) ?_
 refine lO (v_clf (fo:=0) 0 ag23 R R R) ?_
 refine o_4 ?_
 rcases bif_ hr with ⟨_,hr⟩|⟨_,hr⟩
 refine o_3 ?_
 refine lO (vz (.agg [(.slice none 0 0),(vstr ([]:Str)),(vstr ([]:Str)),(.slice none 0 0),(.slice none 0 0),(.slice none 0 0),(.slice none 0 0)].toArray) (v_build pl192 zc192 R R)) (l_stores 3 R R sz192 R R R R R R (lB R (l_nil (q_next (c_ret (q_ret (q_blockr (q_ret ?_))))))))
 obtain rfl:=so hr
 obtain rfl:=he1 _ R
 have hr:=hk1
 refine o_3 ?_
 obtain rfl:=so hr
 exact q_fin (vs:=[(.agg [(.slice none 0 0),(vstr ([]:Str)),(vstr ([]:Str)),(.slice none 0 0),(.slice none 0 0),(.slice none 0 0),(.slice none 0 0)].toArray),(.bool false)]) (.inl R) ((none,0,0),(none,0,0),(none,0,0),(none,0,0),(none,0,0)) R ⟨⟨3,b4,_,_,R,R,.inl ⟨ag192,sz192,R⟩⟩,R,trivial⟩ R (fun w s=>((((((s.nilr kT9).nilr kT3).nilo kT3 3).nilo kT23 23).nilo kT3 3).e 14 [4,3,2,1,0]))
 refine o_9 ?_
 obtain ⟨e2,hl2,hk2⟩:=bd hr
 refine c_loop (A:=Unit) hl2 (fun s a=>[(1,(sc (ad g85 o86) shapes2 D75)),(4,(pt b4 0)),(6,(sc (ad g82 o83) r5.1 D76)),(7,(vstr r5.2.1)),(9,(pt b10 0)),(10,(pt b11 0)),(11,(iv x79)),(12,(vstr (ix r5.1 x79))),(13,(iv s.2.2)),(41,(sc (ad g82 o83) r5.1 D76)),(42,(il r5.1)),(43,(iv x79))]) (fun s a=>RR kT23 (ad g85 o86) D75 shapes2::bxl b4 [(.slice none 0 0),(vstr ([]:Str)),(vstr ([]:Str)),(.slice none 0 0),(.slice none 0 0),(.slice none 0 0),(.slice none 0 0)] 192::RR kT9 (ad g82 o83) D76 r5.1::bxl b10 [(sc (ad g82 o83) r5.1 D76),(vstr r5.2.1),(vstr s.1),(.slice none 0 0),(.slice none 0 0),(.slice none 0 0),(.slice none 0 0)] 192::ow kT3 195 (.slice (ad b11 0) 26 26) s.2.1::W0) () (aS R) (fun w s=>(s.f 7 [2,5])) ?_
 rintro ⟨f111,lens112,k113⟩ _ σ1 out2 hr he2
 dsimp only [Z3_L2] at hr
 refine o_4 ?_
 refine lO (vp (vstr (ix r5.1 x79)) R) (lO (vz (il (ix r5.1 x79)) (v_slen un9 R)) ?_)
 refine o_3 ?_
 rcases bif_ hr with ⟨_,hr⟩|⟨_,hr⟩
 refine o_4 ?_
 refine c_cut (A:=(Str×(List Int))×(Unit)) (fun a=>Z3_J5 k113 a.1.1 a.1.2=some out2) (fun a=>[(1,(sc (ad g85 o86) shapes2 D75)),(4,(pt b4 0)),(6,(sc (ad g82 o83) r5.1 D76)),(7,(vstr r5.2.1)),(9,(pt b10 0)),(10,(pt b11 0)),(11,(iv x79)),(12,(vstr (ix r5.1 x79))),(13,(iv k113)),(41,(sc (ad g82 o83) r5.1 D76)),(42,(il r5.1)),(43,(iv x79))]) (fun a=>RR kT23 (ad g85 o86) D75 shapes2::bxl b4 [(.slice none 0 0),(vstr ([]:Str)),(vstr ([]:Str)),(.slice none 0 0),(.slice none 0 0),(.slice none 0 0),(.slice none 0 0)] 192::RR kT9 (ad g82 o83) D76 r5.1::bxl b10 [(sc (ad g82 o83) r5.1 D76),(vstr r5.2.1),(vstr a.1.1),(.slice none 0 0),(.slice none 0 0),(.slice none 0 0),(.slice none 0 0)] 192::ow kT3 195 (.slice (ad b11 0) 26 26) a.1.2::W0) ?_ ?_
 refine o_2 ?_
 obtain ⟨hg115,hr⟩:=gd hr
 obtain ⟨hg116,hr⟩:=gd hr
 refine c_region (lO (vp (vstr (ix r5.1 x79)) R) (lI R (lO (vz (.int .u8 (bt (ix r5.1 x79) k113)) (v_sindex un9 R R hg115.1 hg115.2)) (lO (vp (.int .u8 (IntKind.wrap .u8 ((bt (ix r5.1 x79) k113) - (97:Int)))) R) (lO (vz (.pointer (some ⟨b11,0+(IntKind.wrap .u8 ((bt (ix r5.1 x79) k113) - (97:Int))).toNat*1,none⟩)) (v_iarr ar195 sz3 R R hg116)) ?_)))))
 refine o_5 ?_
 obtain ⟨hg118,hr⟩:=gd hr
 refine cQ [(1,(sc (ad g85 o86) shapes2 D75)),(4,(pt b4 0)),(6,(sc (ad g82 o83) r5.1 D76)),(7,(vstr r5.2.1)),(9,(pt b10 0)),(10,(pt b11 0)),(11,(iv x79)),(12,(vstr (ix r5.1 x79))),(13,(iv k113)),(14,(.pointer (some ⟨b11,0+(IntKind.wrap .u8 ((bt (ix r5.1 x79) k113) - (97:Int))).toNat*1,none⟩))),(41,(sc (ad g82 o83) r5.1 D76)),(42,(il r5.1)),(43,(iv x79)),(84,(.bool (((ix lens112 (IntKind.wrap .u8 ((bt (ix r5.1 x79) k113) - (97:Int)))) != (0:Int))&&((ix lens112 (IntKind.wrap .u8 ((bt (ix r5.1 x79) k113) - (97:Int)))) != (ix (ix shapes2 x79) k113)))))] (RR kT23 (ad g85 o86) D75 shapes2::bxl b4 [(.slice none 0 0),(vstr ([]:Str)),(vstr ([]:Str)),(.slice none 0 0),(.slice none 0 0),(.slice none 0 0),(.slice none 0 0)] 192::RR kT9 (ad g82 o83) D76 r5.1::bxl b10 [(sc (ad g82 o83) r5.1 D76),(vstr r5.2.1),(vstr f111),(.slice none 0 0),(.slice none 0 0),(.slice none 0 0),(.slice none 0 0)] 192::ow kT3 195 (.slice (ad b11 0) 26 26) lens112::W0) ?_ ?_
 rcases bo ((ix lens112 (IntKind.wrap .u8 ((bt (ix r5.1 x79) k113) - (97:Int)))) != (0:Int)) with hc121 | hc121
 refine c_elem (K:=kT23) 0 x79 dT23.dec R hg84.1 hg84.2 ?_
 rintro ⟨A117,D117⟩
 refine cN (cl g85 (o86+x79.toNat*1) [(sc A117 (ix shapes2 x79) D117)]::RR kT3 A117 D117 (ix shapes2 x79)::_::_::_::bxl b10 [(sc (ad g82 o83) r5.1 D76),(vstr r5.2.1),(vstr f111),(.slice none 0 0),(.slice none 0 0),(.slice none 0 0),(.slice none 0 0)] 192::ow kT3 195 (.slice (ad b11 0) 26 26) lens112::W0) ?_
 refine c_some 1 sees_rd (show 0<(ix shapes2 x79).length by have:=(hg118 hc121); omega) (fun g119 o120 ha=>?_)
 subst ha
 refine cdr 17 [] mixo fun ht hn=>?_
 refine d11_ 0 [] ?_
 refine dW 11 R (wnT hc121) (v_clf (fo:=0) 0 ag23 R R R) (dW 12 R (wnT hc121) (vI R) (dW 13 R (wnT hc121) (vIa sl23 sz3 R R (hg118 hc121)) (dW 14 R (wnT hc121) (vLi 1 ag3 sees_rd R (hg118 hc121)) ?_)))
 refine d2_ 15 [] ?_
 refine dD ?_
 exact qj (fun w s=>(s.f 7 [2,5]))
 refine cdr 17 [] mixo fun ht hn=>?_
 refine d17_ 0 [] ?_
 refine dD ?_
 exact qj tI
 rintro σ1
 refine o_1 ?_
 rcases bif_ hr with ⟨_,hr⟩|⟨_,hr⟩
 refine o_3 ?_
 refine lO (vz (.agg [(.slice none 0 0),(vstr ([]:Str)),(vstr ([]:Str)),(.slice none 0 0),(.slice none 0 0),(.slice none 0 0),(.slice none 0 0)].toArray) (v_build pl192 zc192 R R)) (l_stores 1 R R sz192 R R R R R R (lN (_::_::_::_::_::W0) ?_))
 refine o_7 ?_
 obtain rfl:=so hr
 obtain rfl:=he2 _ R
 have hr:=hk2
 refine o_4 ?_
 obtain rfl:=so hr
 obtain rfl:=he1 _ R
 have hr:=hk1
 refine o_3 ?_
 obtain rfl:=so hr
 exact q_fin (vs:=[(.agg [(.slice none 0 0),(vstr ([]:Str)),(vstr ([]:Str)),(.slice none 0 0),(.slice none 0 0),(.slice none 0 0),(.slice none 0 0)].toArray),(.bool false)]) (.inl R) ((none,0,0),(none,0,0),(none,0,0),(none,0,0),(none,0,0)) R ⟨⟨1,b4,_,_,R,R,.inl ⟨ag192,sz192,R⟩⟩,R,trivial⟩ R (fun w s=>((((((s.nilr kT9).nilr kT3).nilo kT3 3).nilo kT23 23).nilo kT3 3).e 12 [4,3,2,1,0]))
 refine o_4 ?_
 obtain ⟨hg124,hr⟩:=gd hr
 refine o_5 ?_
 refine t_elem (K:=kT23) 0 x79 dT23.dec R hg84.1 hg84.2 ?_
 rintro ⟨A123,D123⟩
 refine lN (cl g85 (o86+x79.toNat*1) [(sc A123 (ix shapes2 x79) D123)]::RR kT3 A123 D123 (ix shapes2 x79)::_::_::_::_::_::W0) ?_
 refine lO (v_clf (fo:=0) 0 ag23 R R R) (lI R (t_some 1 sees_rd (show 0<(ix shapes2 x79).length by have:=hg124; omega) (fun g125 o126 ha=>?_)))
 subst ha
 refine o_3 ?_
 refine lM (ow _ _ _ _::cl g85 (o86+x79.toNat*1) [(sc (ad g125 o126) (ix shapes2 x79) D123)]::RR kT3 (ad g125 o126) D123 (ix shapes2 x79)::rds _ _ _::bxl _ _ _::rds _ _ _::bxl _ _ _::W0) (fun w s=>(s.f 7 [6,1,0,6])) ?_
 refine l_stx (K:=kT3) (x':=(ix (ix shapes2 x79) k113)) 0 (IntKind.wrap .u8 ((bt (ix r5.1 x79) k113) - (97:Int))) R R sz3 R R hg116.1 hg116.2 ?_ ?_
 exact fun I h s=>(mO3).put I h () (ix (ix shapes2 x79) k113) s
 refine lN (ow kT3 195 (.slice (ad b11 0) 26 26) (lens112.set (IntKind.wrap .u8 ((bt (ix r5.1 x79) k113) - (97:Int))).toNat (ix (ix shapes2 x79) k113))::_::_::_::_::_::_::W0) ?_
 refine o_1 ?_
 obtain ⟨l127,hl128,hr⟩:=bd hr
 replace hl128:=Option.some.inj hl128
 refine qM (ow kT3 195 (.slice (ad b11 0) 26 26) l127::_::_::_::_::_::_::W0) (fun w s=>by rw [← hl128]; exact s) ?_
 refine o_2 ?_
 obtain ⟨r129,hx130,hr⟩:=bd hr
 refine cdr 7 [] mixo fun ht hn=>?_
 refine d2_ 0 [] ?_
 refine dR 2 R (vp (vstr (ix r5.1 x79)) R) (dR 3 R (vI R) (dR 4 R (vz (.int .u8 (bt (ix r5.1 x79) k113)) (v_sindex un9 R R hg115.1 hg115.2)) (d1 5 R (lC 0 cb208 R (Z1j_ok hx130) R ?_))))
 rintro _
 refine l_nil (q_draw (sL []) (dR 6 R (vLt R R) (dD (q_next ?_))))
 rcases bif_ hr with ⟨_,hr⟩|⟨_,hr⟩
 refine o_1 ?_
 obtain ⟨hg132,hr⟩:=gd hr
 obtain ⟨hg133,hr⟩:=gd hr
 refine cdr 10 [6] mixo fun ht hn=>?_
 refine d1_ 0 [6] ?_
 refine dR 2 R (vp (vstr (ix r5.1 x79)) R) (hS:=(sL [6])) ?_
 refine d3_ 3 [6] ?_
 refine dR 6 R (vz (vstr (sub (ix r5.1 x79) k113 (w64 (k113+(1:Int))))) (v_scut k113 (w64 (k113+(1:Int))) un9 R R R hg132.1 hg132.2.1 hg132.2.2)) (hS:=(sL [6])) (d1 1 R (lO (vLd 6 ag9 R R R) (l_nil (q_draw (sL [6]) (dR 7 R (vz (vstr (f111++(sub (ix r5.1 x79) k113 (w64 (k113+(1:Int)))))) (v_scat R R hg133)) (hS:=(sL [6])) ?_)))))
 refine d1_ 8 [6] ?_
 refine d1 9 R (l_store 6 R R sz9 R R R R R (lN (_::_::_::_::_::_::bxl b10 [(sc (ad g82 o83) r5.1 D76),(vstr r5.2.1),(vstr (f111++(sub (ix r5.1 x79) k113 (w64 (k113+(1:Int)))))),(.slice none 0 0),(.slice none 0 0),(.slice none 0 0),(.slice none 0 0)] 192::W0) ?_))
 refine l_nil (q_draw (sL [6]) (dD (q_blockn ?_)))
 exact qI (((f111++(sub (ix r5.1 x79) k113 (w64 (k113+(1:Int))))),l127),()) hr (fun w s=>(s.f 7 [3,4,0,1]))
 refine o_3 ?_
 exact qI ((f111,l127),()) hr (fun w s=>(s.f 7 [3,4,0,1]))
 rintro ⟨⟨f134,lens135⟩,_⟩ σ1 hr
 dsimp only [Z3_J5] at hr
 refine o_5 ?_
 obtain rfl:=so hr
 exact qA () tI
 refine o_3 ?_
 obtain rfl:=so hr
 obtain rfl:=he2 _ R
 have hr:=hk2
 refine o_3 ?_
 exact qI ((f111,lens112),(((ad g85 o86),shapes2.length,D75),((ad g82 o83),r5.1.length,D76))) hr tI
 rintro ⟨⟨f141,lens142⟩,⟨⟨A139,N139,D139⟩,⟨A140,N140,D140⟩⟩⟩ σ1 hr
 dsimp only [Z3_J6] at hr
 refine c_len 0 sees_rd (fun (hn:N139=shapes2.length)=>?_)
 subst hn
 refine c_len 2 sees_rd (fun (hn:N140=r5.1.length)=>?_)
 subst hn
 refine o_4 ?_
 obtain rfl:=so hr
 exact qA ((A139,shapes2.length,D139),(A140,r5.1.length,D140)) tI
 refine o_3 ?_
 obtain rfl:=so hr
 obtain rfl:=he1 _ R
 have hr:=hk1
 refine o_2 ?_
 exact qI ((f77,lens78),((A75,shapes2.length,D75),(A76,r5.1.length,D76))) hr tI
 rintro ⟨⟨f150,lens151⟩,⟨⟨A148,N148,D148⟩,⟨A149,N149,D149⟩⟩⟩ σ1 hr
 dsimp only [Z3_J7] at hr
 refine c_len 0 sees_rd (fun (hn:N148=shapes2.length)=>?_)
 subst hn
 refine c_len 2 sees_rd (fun (hn:N149=r5.1.length)=>?_)
 subst hn
 refine o_6 ?_
 refine c_cut (A:=((List Int))×(HH)) (fun a=>Z3_J8 shapes2 r5 f150 a.1=some r) (fun a=>[(1,(sc A148 shapes2 D148)),(4,(pt b4 0)),(6,(sc A149 r5.1 D149)),(7,(vstr r5.2.1)),(9,(pt b10 0))]) (fun a=>RR kT23 A148 D148 shapes2::bxl b4 [(.slice none 0 0),(vstr ([]:Str)),(vstr ([]:Str)),(.slice none 0 0),(.slice none 0 0),(.slice none 0 0),(.slice none 0 0)] 192::RR kT9 A149 D149 r5.1::bxl b10 [(sc A149 r5.1 D149),(vstr r5.2.1),(vstr f150),(s3 a.2),(.slice none 0 0),(.slice none 0 0),(.slice none 0 0)] 192::ow kT3 3 (s3 a.2) a.1::W0) ?_ ?_
 refine o_6 ?_
 obtain ⟨e3,hl3,hk3⟩:=bd hr
 refine c_loop (A:=HH) hl3 (fun s a=>[(1,(sc A148 shapes2 D148)),(4,(pt b4 0)),(6,(sc A149 r5.1 D149)),(7,(vstr r5.2.1)),(9,(pt b10 0)),(10,(pt b11 0)),(15,(iv s.2.1)),(16,(iv s.2.2))]) (fun s a=>RR kT23 A148 D148 shapes2::bxl b4 [(.slice none 0 0),(vstr ([]:Str)),(vstr ([]:Str)),(.slice none 0 0),(.slice none 0 0),(.slice none 0 0),(.slice none 0 0)] 192::RR kT9 A149 D149 r5.1::bxl b10 [(sc A149 r5.1 D149),(vstr r5.2.1),(vstr f150),(s3 a),(.slice none 0 0),(.slice none 0 0),(.slice none 0 0)] 192::ow kT3 3 (s3 a) s.1::ow kT3 195 (.slice (ad b11 0) 26 26) lens151::W0) (none,0,0) (aS R) (fun w s=>((s.nilo kT3 3).e 6 [1,2,3,4,0,5])) ?_
 rintro ⟨f159,work161,i162⟩ ⟨A160,N160,D160⟩ σ1 out3 hr he3
 dsimp only [Z3_L3] at hr
 refine c_len 4 sees_ow (fun (hn:N160=f159.length)=>?_)
 subst hn
 refine o_6 ?_
 refine lO (vz (il f150) (v_slen un9 R)) ?_
 refine o_3 ?_
 rcases bif_ hr with ⟨_,hr⟩|⟨_,hr⟩
 refine o_6 ?_
 obtain ⟨hg164,hr⟩:=gd hr
 obtain ⟨hg165,hr⟩:=gd hr
 refine o_4 ?_
 refine lO (vz (.int .u8 (bt f150 i162)) (v_sindex un9 R R hg164.1 hg164.2)) (lO (vp (.int .u8 (IntKind.wrap .u8 ((bt f150 i162) - (97:Int)))) R) (lO (vz (.pointer (some ⟨b11,0+(IntKind.wrap .u8 ((bt f150 i162) - (97:Int))).toNat*1,none⟩)) (v_iarr ar195 sz3 R R hg165)) ?_))
 refine o_5 ?_
 obtain ⟨hg167,hr⟩:=gd hr
 refine o_4 ?_
 refine l_build (K:=kT3) (xs:=([(ix lens151 (IntKind.wrap .u8 ((bt f150 i162) - (97:Int))))]:List Int)) (vs:=[(iv (ix lens151 (IntKind.wrap .u8 ((bt f150 i162) - (97:Int)))))]) 0 R R sl23 sz3 zc3 R R R R R R ?_ R (fun A166 D166=>?_)
 exact fun I h s=>(mO3).list [((),(ix lens151 (IntKind.wrap .u8 ((bt f150 i162) - (97:Int)))))] I h s
 refine lN (OO kT3 3 A166 D166 ([(ix lens151 (IntKind.wrap .u8 ((bt f150 i162) - (97:Int))))]:List Int)::RR kT23 A148 D148 shapes2::_::RR kT9 A149 D149 r5.1::bxl b10 [(sc A149 r5.1 D149),(vstr r5.2.1),(vstr f150),(sc A160 f159 D160),(.slice none 0 0),(.slice none 0 0),(.slice none 0 0)] 192::OO kT3 3 A160 D160 f159::ow kT3 195 (.slice (ad b11 0) 26 26) lens151::W0) ?_
 refine lM (ow _ _ _ _::ow _ _ _ _::rds _ _ _::bxl _ _ _::rds _ _ _::bxl _ _ _::ow _ _ _ _::W0) (fun w s=>(s.f 7 [5,1,0,5,6,1])) ?_
 refine l_app (K:=kT3) 17592186044416 R R sl23 sz3 by3 (Zr.zk zT3 zc3) R R R R R R src_ow hg167 (fun A168 D168=>(lN (OO kT3 3 A168 D168 (f159++([(ix lens151 (IntKind.wrap .u8 ((bt f150 i162) - (97:Int))))]:List Int))::_::_::_::_::_::W0) ?_))
 refine o_1 ?_
 refine l_store 4 R R sz23 R R R R R (lN (_::_::_::_::bxl b10 [(sc A149 r5.1 D149),(vstr r5.2.1),(vstr f150),(sc A168 (f159++([(ix lens151 (IntKind.wrap .u8 ((bt f150 i162) - (97:Int))))]:List Int)) D168),(.slice none 0 0),(.slice none 0 0),(.slice none 0 0)] 192::_::W0) ?_)
 refine o_16 ?_
 rcases bif_ hr with ⟨_,hr⟩|⟨_,hr⟩
 refine o_3 ?_
 refine lO (vz (.agg [(.slice none 0 0),(vstr ([]:Str)),(vstr ([]:Str)),(.slice none 0 0),(.slice none 0 0),(.slice none 0 0),(.slice none 0 0)].toArray) (v_build pl192 zc192 R R)) (l_stores 2 R R sz192 R R R R R R (lB R (l_nil (q_next (c_ret (q_blockr (q_ret ?_)))))))
 obtain rfl:=so hr
 obtain rfl:=he3 _ R
 have hr:=hk3
 refine o_3 ?_
 obtain rfl:=so hr
 exact q_fin (vs:=[(.agg [(.slice none 0 0),(vstr ([]:Str)),(vstr ([]:Str)),(.slice none 0 0),(.slice none 0 0),(.slice none 0 0),(.slice none 0 0)].toArray),(.bool false)]) (.inl R) ((none,0,0),(none,0,0),(none,0,0),(none,0,0),(none,0,0)) R ⟨⟨2,b4,_,_,R,R,.inl ⟨ag192,sz192,R⟩⟩,R,trivial⟩ R (fun w s=>((((((s.nilr kT9).nilr kT3).nilo kT3 3).nilo kT23 23).nilo kT3 3).e 13 [4,3,2,1,0]))
 refine o_9 ?_
 obtain rfl:=so hr
 exact qA (A168,(f159++([(ix lens151 (IntKind.wrap .u8 ((bt f150 i162) - (97:Int))))]:List Int)).length,D168) (tE 6 [1,2,3,4,0,5])
 refine o_3 ?_
 obtain rfl:=so hr
 obtain rfl:=he3 _ R
 have hr:=hk3
 refine o_2 ?_
 exact qI (f159,(A160,f159.length,D160)) hr (fun w s=>(s.f 6 [0,5]))
 rintro ⟨f174,⟨A175,N175,D175⟩⟩ σ1 hr
 dsimp only [Z3_J8] at hr
 refine c_len 4 sees_ow (fun (hn:N175=f174.length)=>?_)
 subst hn
 refine o_1 ?_
 obtain ⟨hg176,hr⟩:=gd hr
 obtain ⟨r178,hx179,hr⟩:=bd hr
 refine o_3 ?_
 refine lO (vp (vstr r5.2.1) R) (lO (vz (il r5.2.1) (v_slen un9 R)) (l_st (fun w s=>s.shr 4 R) (l_cut (K:=kT3) (0:Int) (r5.2.1.length:Int) 0 R R sl23 sz3 R R R R hg176.1 hg176.2.1 hg176.2.2 (fun A177 D177=>(lM (RR kT3 A177 D177 (sub f174 (0:Int) (r5.2.1.length:Int))::RR kT3 A177 D177 (sub f174 (0:Int) (r5.2.1.length:Int))::RR kT3 A175 D175 f174::_::_::_::bxl b10 [(sc A149 r5.1 D149),(vstr r5.2.1),(vstr f150),(sc A175 f174 D175),(.slice none 0 0),(.slice none 0 0),(.slice none 0 0)] 192::W0) (fun w s=>(s.d 0 R)) ?_)))))
 refine lC 1 cb64 R (Zl_ok hx179) R ?_
 rintro ⟨A180,N180,D180⟩
 refine lN (ow kT3 3 (.slice A180 N180 D180) r178::_::_::_::_::_::_::W0) ?_
 refine l_len 0 sees_ow ?_
 rintro rfl
 refine o_1 ?_
 refine l_store 6 R R sz23 R R R R R (lN (_::_::_::_::_::_::bxl b10 [(sc A149 r5.1 D149),(vstr r5.2.1),(vstr f150),(sc A175 f174 D175),(sc A180 r178 D180),(.slice none 0 0),(.slice none 0 0)] 192::W0) ?_)
 refine o_4 ?_
 obtain ⟨r181,hx182,hr⟩:=bd hr
 refine o_3 ?_
 refine lC 1 cb147 R (FnOk.lends (A':=[OO kT3 3 A180 D180 r178]) (A:=[RR kT3 A180 D180 r178]) (B:=[]) (Zb_ok hx182) ⟨lend_ow,trivial⟩ (fun _=>trivial)) R ?_
 rintro _
 refine o_3 ?_
 rcases bif_ hr with ⟨_,hr⟩|⟨_,hr⟩
 refine o_3 ?_
 refine lO (vz (.agg [(.slice none 0 0),(vstr ([]:Str)),(vstr ([]:Str)),(.slice none 0 0),(.slice none 0 0),(.slice none 0 0),(.slice none 0 0)].toArray) (v_build pl192 zc192 R R)) (l_stores 4 R R sz192 R R R R R R (lB R (l_nil (q_next (c_ret (q_ret ?_))))))
 obtain rfl:=so hr
 exact q_fin (vs:=[(.agg [(.slice none 0 0),(vstr ([]:Str)),(vstr ([]:Str)),(.slice none 0 0),(.slice none 0 0),(.slice none 0 0),(.slice none 0 0)].toArray),(.bool false)]) (.inl R) ((none,0,0),(none,0,0),(none,0,0),(none,0,0),(none,0,0)) R ⟨⟨4,b4,_,_,R,R,.inl ⟨ag192,sz192,R⟩⟩,R,trivial⟩ R (fun w s=>((((((s.nilr kT9).nilr kT3).nilo kT3 3).nilo kT23 23).nilo kT3 3).e 14 [4,3,2,1,0]))
 refine o_4 ?_
 refine c_cut (A:=((List (List Int)))×(HH)) (fun a=>Z3_J9 r5 f150 f174 r178 a.1=some r) (fun a=>[(4,(pt b4 0)),(7,(vstr r5.2.1)),(9,(pt b10 0))]) (fun a=>bxl b4 [(.slice none 0 0),(vstr ([]:Str)),(vstr ([]:Str)),(.slice none 0 0),(.slice none 0 0),(.slice none 0 0),(.slice none 0 0)] 192::bxl b10 [(sc A149 r5.1 D149),(vstr r5.2.1),(vstr f150),(sc A175 f174 D175),(sc A180 r178 D180),(s3 a.2),(.slice none 0 0)] 192::RR kT9 A149 D149 r5.1::RR kT3 A175 D175 f174::OO kT3 3 A180 D180 r178::ow kT23 23 (s3 a.2) a.1::W0) ?_ ?_
 refine o_8 ?_
 obtain ⟨e4,hl4,hk4⟩:=bd hr
 refine c_loop (A:=HH) hl4 (fun s a=>[(1,(sc A148 shapes2 D148)),(4,(pt b4 0)),(7,(vstr r5.2.1)),(9,(pt b10 0)),(150,(sc A149 r5.1 D149)),(151,(il r5.1)),(152,(iv s.2))]) (fun s a=>RR kT23 A148 D148 shapes2::bxl b4 [(.slice none 0 0),(vstr ([]:Str)),(vstr ([]:Str)),(.slice none 0 0),(.slice none 0 0),(.slice none 0 0),(.slice none 0 0)] 192::bxl b10 [(sc A149 r5.1 D149),(vstr r5.2.1),(vstr f150),(sc A175 f174 D175),(sc A180 r178 D180),(s3 a),(.slice none 0 0)] 192::RR kT9 A149 D149 r5.1::RR kT3 A175 D175 f174::OO kT3 3 A180 D180 r178::ow kT23 23 (s3 a) s.1::W0) (none,0,0) (aS R) (fun w s=>((s.nilo kT23 23).e 8 [4,5,7,6,3,1,0])) ?_
 rintro ⟨f201,x203⟩ ⟨A202,N202,D202⟩ σ1 out4 hr he4
 dsimp only [Z3_L4] at hr
 refine c_len 6 sees_ow (fun (hn:N202=f201.length)=>?_)
 subst hn
 refine o_6 ?_
 rcases bif_ hr with ⟨_,hr⟩|⟨_,hr⟩
 refine o_6 ?_
 obtain ⟨hg205,hr⟩:=gd hr
 refine o_2 ?_
 refine t_some 3 sees_rd (show 0<r5.1.length by have:=hg205; omega) (fun g206 o207 ha=>?_)
 subst ha
 refine o_1 ?_
 refine lO (vz (vstr (ix r5.1 x203)) (v_lde (K:=kT9) (fo:=0) (pr:=fun x=>(vstr x)) 3 x203 ag9 (dT9.leaf fun _ _=>R) sees_rd R hg205.1 hg205.2)) (lI R (lO (vp (vstr (ix r5.1 x203)) R) ?_))
 refine o_2 ?_
 obtain ⟨hg208,hr⟩:=gd hr
 obtain ⟨r212,hx213,hr⟩:=bd hr
 obtain ⟨r215,hx216,hr⟩:=bd hr
 obtain ⟨hg219,hr⟩:=gd hr
 refine c_some 0 sees_rd (show 0<shapes2.length by have:=hg208; omega) (fun g209 o210 ha=>?_)
 subst ha
 refine c_elem (K:=kT23) 0 x203 dT23.dec R hg208.1 hg208.2 ?_
 rintro ⟨A211,D211⟩
 refine cN (cl g209 (o210+x203.toNat*1) [(sc A211 (ix shapes2 x203) D211)]::RR kT3 A211 D211 (ix shapes2 x203)::RR kT23 (ad g209 o210) D148 shapes2::_::bxl b10 [(sc (ad g206 o207) r5.1 D149),(vstr r5.2.1),(vstr f150),(sc A175 f174 D175),(sc A180 r178 D180),(sc A202 f201 D202),(.slice none 0 0)] 192::RR kT9 (ad g206 o207) D149 r5.1::_::_::OO kT23 23 A202 D202 f201::W0) ?_
 refine cdr 11 [] mixo fun ht hn=>?_
 refine d3_ 0 [] ?_
 refine dR 3 R (vp (vstr (ix r5.1 x203)) R) ?_
 refine d3_ 4 [] ?_
 refine dR 7 R (v_clf (fo:=0) 0 ag23 R R R) (d1 8 R (lM (_::_::_::_::_::_::_::_::_::_::W0) (fun w s=>(s.d 1 R)) ?_))
 refine lC 1 cb164 R (Z01_ok hx213) R ?_
 rintro ⟨A214,N214,D214⟩
 refine lN (ow kT3 3 (.slice A214 N214 D214) r212::_::_::_::_::_::_::_::_::_::W0) ?_
 refine l_len 0 sees_ow ?_
 rintro rfl
 refine l_nil (q_draw (sL [0]) (d1 9 R (lM (ow _ _ _ _::ow _ _ _ _::ow _ _ _ _::rds _ _ _::rds _ _ _::rds kT3 (.slice none 0 0) ([]:List Int)::cl _ _ _::rds _ _ _::rds _ _ _::bxl _ _ _::bxl _ _ _::rds _ _ _::rds _ _ _::W0) (fun w s=>((((s.d 6 R).d 8 R).nilr kT3).f 13 [11,2,3,1,2,1,1,1,0,1,4,7])) ?_)))
 refine lC 6 cb209 R (FnOk.lends (A':=[OO kT3 3 A180 D180 r178,OO kT23 23 A202 D202 f201,OO kT3 3 A214 D214 r212]) (A:=[RR kT3 A180 D180 r178,RR kT23 A202 D202 f201,RR kT3 A214 D214 r212]) (B:=[RR kT9 (ad g206 o207) D149 r5.1,RR kT3 A175 D175 f174,rds kT3 (.slice none 0 0) ([]:List Int)]) (FnOk.perm (Zh_ok (f1:=(⟨r5.1,r5.2.1,f150,f174,r178,f201,([]:List Int)⟩:form)) hx216) (Pre':=[RR kT3 A180 D180 r178,RR kT23 A202 D202 f201,RR kT3 A214 D214 r212,RR kT9 (ad g206 o207) D149 r5.1,RR kT3 A175 D175 f174,rds kT3 (.slice none 0 0) ([]:List Int)]) (fun _ _ _ s=>(s.e 6 [3,4,0,1,5,2]))) ⟨lend_ow,lend_ow,lend_ow,trivial⟩ (fun _=>⟨(closed_ow cT3),trivial⟩)) R ?_
 rintro ⟨A217,N217,D217⟩
 refine lN (_::_::_::ow kT3 3 (.slice A217 N217 D217) r215::_::_::_::_::_::_::_::W0) ?_
 refine l_len 3 sees_ow ?_
 rintro rfl
 refine l_nil (q_draw (fun w s=>(s.f 11 [4,7,0,2])) (d1 10 R (lM (ow _ _ _ _::ow _ _ _ _::ow _ _ _ _::ow _ _ _ _::cl _ _ _::rds _ _ _::rds _ _ _::bxl _ _ _::bxl _ _ _::rds _ _ _::rds _ _ _::W0) (fun w s=>(s.f 11 [3,1,0,3,4,7])) ?_)))
 refine l_build (K:=kT23) (xs:=([r215]:List (List Int))) (vs:=[(sc A217 r215 D217)]) 1 R R sl38 sz23 zc23 R R R R R R ?_ R (fun A218 D218=>?_)
 exact fun I h s=>(mO23).list [((sc A217 r215 D217),r215)] I h s
 refine lN (OO kT23 23 A218 D218 ([r215]:List (List Int))::_::_::_::_::_::_::_::_::_::_::W0) ?_
 refine l_nil (q_draw (fun w s=>(s.f 11 [4,7,1,2])) (d1 11 R (lM (ow _ _ _ _::ow _ _ _ _::ow _ _ _ _::ow _ _ _ _::cl _ _ _::rds _ _ _::rds _ _ _::bxl _ _ _::bxl _ _ _::rds _ _ _::rds _ _ _::W0) (fun w s=>(s.f 11 [2,1,0,2,3,8])) ?_)))
 refine l_app (K:=kT23) 5864062014805 R R sl38 sz23 by23 (Zr.zk zT23 zc23) R R R R R R src_ow hg219 (fun A220 D220=>(lN (OO kT23 23 A220 D220 (f201++([r215]:List (List Int)))::_::_::_::_::_::_::_::_::_::W0) ?_))
 refine l_nil (qE (d1 12 R (lO (vFa 5 fo192_5 R) (l_nil (qE (d1 13 R (l_store 7 R R sz38 R R R R R (lN (_::_::_::_::_::_::_::bxl b10 [(sc (ad g206 o207) r5.1 D149),(vstr r5.2.1),(vstr f150),(sc A175 f174 D175),(sc A180 r178 D180),(sc A220 (f201++([r215]:List (List Int))) D220),(.slice none 0 0)] 192::_::_::W0) ?_))))))))
 refine l_nil (qE (dD ?_))
 refine o_6 ?_
 obtain rfl:=so hr
 exact qA (A220,(f201++([r215]:List (List Int))).length,D220) (fun w s=>(s.f 10 [5,5,1,1,0,1]))
 refine o_3 ?_
 obtain rfl:=so hr
 obtain rfl:=he4 _ R
 have hr:=hk4
 refine o_2 ?_
 exact qI (f201,(A202,f201.length,D202)) hr (fun w s=>(s.f 7 [1,6]))
 rintro ⟨f224,⟨A225,N225,D225⟩⟩ σ1 hr
 dsimp only [Z3_J9] at hr
 refine c_len 5 sees_ow (fun (hn:N225=f224.length)=>?_)
 subst hn
 refine o_1 ?_
 obtain ⟨r226,hx227,hr⟩:=bd hr
 obtain ⟨r229,hx230,hr⟩:=bd hr
 refine cdr 7 [] mixo fun ht hn=>?_
 refine d1_ 0 [] ?_
 refine dR 1 R (vp (vstr r5.2.1) R) ?_
 refine d2_ 2 [] ?_
 refine d1 4 R (lM (ow _ _ _ _::bxl _ _ _::bxl b10 [(sc A149 r5.1 D149),(vstr r5.2.1),(vstr f150),(sc A175 f174 D175),(sc A180 r178 D180),(sc A225 f224 D225),(.slice none 0 0)] 192::RR kT9 A149 D149 r5.1::rds _ _ _::OO kT23 23 A225 D225 f224::W0) (tE 6 [4,0,1,2,3,5]) ?_)
 refine lC 1 cb164 R (FnOk.lends (A':=[OO kT3 3 A180 D180 r178]) (A:=[RR kT3 A180 D180 r178]) (B:=[]) (Z01_ok hx227) ⟨lend_ow,trivial⟩ (fun _=>⟨(closed_ow cT3),trivial⟩)) R ?_
 rintro ⟨A228,N228,D228⟩
 refine lN (_::ow kT3 3 (.slice A228 N228 D228) r226::_::_::_::_::_::W0) ?_
 refine l_len 1 sees_ow ?_
 rintro rfl
 refine l_nil (q_draw (tE 7 [2,3,4,5,0,6]) (d1 5 R (lM (ow _ _ _ _::ow _ _ _ _::ow _ _ _ _::rds _ _ _::rds _ _ _::rds kT3 (.slice none 0 0) ([]:List Int)::bxl _ _ _::bxl _ _ _::rds _ _ _::rds _ _ _::W0) (fun w s=>((((s.d 4 R).d 6 R).nilr kT3).e 10 [3,9,4,2,1,0,5,6,7,8])) ?_)))
 refine lC 6 cb209 R (FnOk.lends (A':=[OO kT3 3 A180 D180 r178,OO kT23 23 A225 D225 f224,OO kT3 3 A228 D228 r226]) (A:=[RR kT3 A180 D180 r178,RR kT23 A225 D225 f224,RR kT3 A228 D228 r226]) (B:=[RR kT9 A149 D149 r5.1,RR kT3 A175 D175 f174,rds kT3 (.slice none 0 0) ([]:List Int)]) (FnOk.perm (Zh_ok (f1:=(⟨r5.1,r5.2.1,f150,f174,r178,f224,([]:List Int)⟩:form)) hx230) (Pre':=[RR kT3 A180 D180 r178,RR kT23 A225 D225 f224,RR kT3 A228 D228 r226,RR kT9 A149 D149 r5.1,RR kT3 A175 D175 f174,rds kT3 (.slice none 0 0) ([]:List Int)]) (fun _ _ _ s=>(s.e 6 [3,4,0,1,5,2]))) ⟨lend_ow,lend_ow,lend_ow,trivial⟩ (fun _=>⟨(closed_ow cT3),trivial⟩)) R ?_
 rintro ⟨A231,N231,D231⟩
 refine lN (_::_::_::ow kT3 3 (.slice A231 N231 D231) r229::_::_::_::_::W0) ?_
 refine l_len 3 sees_ow ?_
 rintro rfl
 refine l_nil (q_draw (fun w s=>(s.f 8 [4,4,0,2])) (dR 6 R (vFa 6 fo192_6 R) (hS:=(fun w s=>(s.f 8 [4,4,0,2]))) (d1 7 R (l_store 5 R R sz23 R R R R R (lN (_::_::_::_::_::bxl b10 [(sc A149 r5.1 D149),(vstr r5.2.1),(vstr f150),(sc A175 f174 D175),(sc A180 r178 D180),(sc A225 f224 D225),(sc A231 r229 D231)] 192::_::_::W0) ?_)))))
 refine l_nil (qE (dD ?_))
 refine o_4 ?_
 refine l_stores 4 R R sz192 R R R R R R (lN (_::_::_::_::bxl b4 [(sc A149 r5.1 D149),(vstr r5.2.1),(vstr f150),(sc A175 f174 D175),(sc A180 r178 D180),(sc A225 f224 D225),(sc A231 r229 D231)] 192::_::_::_::W0) ?_)
 refine o_4 ?_
 obtain rfl:=so hr
 exact q_fin (vs:=[(.agg [(sc A149 r5.1 D149),(vstr r5.2.1),(vstr f150),(sc A175 f174 D175),(sc A180 r178 D180),(sc A225 f224 D225),(sc A231 r229 D231)].toArray),(.bool true)]) (.inl R) ((A149,r5.1.length,D149),(A175,f174.length,D175),(A180,r178.length,D180),(A225,f224.length,D225),(A231,r229.length,D231)) R ⟨⟨4,b4,_,_,R,R,.inl ⟨ag192,sz192,R⟩⟩,R,trivial⟩ R (tE 10 [6,7,0,1,3])
theorem Z2h_ok  {k1:formKind}{n2:Node}{args7:(List (List Int))}{mG:Int}{r:(List Int)×Bool}(hr:Z2h k1 n2 args7=some r) :
 FnOk Tryz.prog 204 [(.agg [].toArray),(.agg [(iv n2.Op),(.slice A3 N3 D3),(.slice A4 N4 D4),(.slice A5 N5 D5),(vstr n2.Form),(.slice A6 N6 D6)].toArray),(.slice A8 N8 D8)] [rds kT3 (.slice A3 N3 D3) n2.Args,rds kT3 (.slice A4 N4 D4) n2.Dims,rds kT3 (.slice A5 N5 D5) n2.Ints,rds kT3 (.slice A6 N6 D6) n2.Data,rds kT23 (.slice A8 N8 D8) args7,gl 0 mG] (fun (h:HH)=>((.tuple [(s3 h),(.bool r.2)].toArray),[ow kT3 3 (s3 h) r.1])):=by
 unfold Z2h at hr
 refine fn_ok Tryz.func204 R 20 R R fun C V=>?_
 refine cN (_::_::_::_::_::_::V) ?_
 refine cL 0 sees_rd ?_
 rintro rfl
 refine cL 1 sees_rd ?_
 rintro rfl
 refine cL 2 sees_rd ?_
 rintro rfl
 refine cL 3 sees_rd ?_
 rintro rfl
 refine cL 4 sees_rd ?_
 rintro rfl
 let W0:List HP:=RR kT3 A3 D3 n2.Args::RR kT3 A4 D4 n2.Dims::RR kT3 A5 D5 n2.Ints::RR kT3 A6 D6 n2.Data::RR kT23 A8 D8 args7::gl 0 mG::V
 refine cN W0 ?_
 refine o_2 ?_
 refine lBx R fun b9=>?_
 refine lBx R fun b10=>?_
 refine o_3 ?_
 let W1:List HP:=bxl b10 [(iv n2.Op),(sc A3 n2.Args D3),(sc A4 n2.Dims D4),(sc A5 n2.Ints D5),(vstr n2.Form),(sc A6 n2.Data D6)] 54::bxl b9 [] 142::W0
 refine qN W1 ?_
 refine o_2 ?_
 obtain ⟨r11,hx12,hr⟩:=bd hr
 refine o_4 ?_
 refine lM (RR kT23 A8 D8 args7::gl 0 mG::W1) (fun w s=>(((s.d 6 R).dg 8 R).e 2 [1,0])) ?_
 refine lC 2 cb206 R (Z3_ok hx12) R ?_
 rintro ⟨⟨A13,N13,D13⟩,⟨A14,N14,D14⟩,⟨A15,N15,D15⟩,⟨A16,N16,D16⟩,⟨A17,N17,D17⟩⟩
 refine lN (rds kT9 (.slice A13 N13 D13) r11.1.groups::rds kT3 (.slice A14 N14 D14) r11.1.loops::ow kT3 3 (.slice A15 N15 D15) r11.1.dims::ow kT23 23 (.slice A16 N16 D16) r11.1.steps::ow kT3 3 (.slice A17 N17 D17) r11.1.store::W1) ?_
 refine l_len 0 sees_rd ?_
 rintro rfl
 refine l_len 1 sees_rd ?_
 rintro rfl
 refine l_len 2 sees_ow ?_
 rintro rfl
 refine l_len 3 sees_ow ?_
 rintro rfl
 refine l_len 4 sees_ow ?_
 rintro rfl
 refine lO (vT R) (lO (vA R) (lB R (l_alloc R R zc192 (fun b18=>(l_stores 0 R R sz192 R R R R R R (lN (bxl b18 [(sc A13 r11.1.groups D13),(vstr r11.1.out_),(vstr r11.1.order),(sc A14 r11.1.loops D14),(sc A15 r11.1.dims D15),(sc A16 r11.1.steps D16),(sc A17 r11.1.store D17)] 192::_::_::_::_::_::W1) ?_))))))
 refine o_13 ?_
 obtain rfl:=so hr
 exact qT2 (A15,r11.1.dims.length,D15) (tE 14 [3])
theorem Z2b_ok  {dims1:(List Int)}{r:View}(hr:Z2b dims1=some r) :
 FnOk Tryz.prog 158 [(.slice A2 N2 D2)] [rds kT3 (.slice A2 N2 D2) dims1] (fun (h:HH×HH)=>((.agg [(s3 h.1),(s3 h.2),(iv r.Offset),(iv r.Base)].toArray),[ow kT3 3 (s3 h.1) r.Dims,ow kT3 3 (s3 h.2) r.Strides])):=by
 unfold Z2b at hr
 refine fn_ok Tryz.func158 R 14 R R fun C V=>?_
 refine cN (_::V) ?_
 refine cL 0 sees_rd ?_
 rintro rfl
 let W0:List HP:=RR kT3 A2 D2 dims1::V
 refine cN W0 ?_
 refine o_2 ?_
 refine l_alloc R R zc96 (fun b3=>(l_nil (q_next (c_seq (c_seq ?_)))))
 obtain ⟨r4,hx5,hr⟩:=bd hr
 refine o_2 ?_
 refine lM (RR kT3 A2 D2 dims1::_::W0) (fun w s=>(s.d 1 R)) ?_
 refine lC 1 cb147 R (Zb_ok hx5) R ?_
 rintro _
 refine lN (_::W0) ?_
 refine o_3 ?_
 rcases bif_ hr with ⟨_,hr⟩|⟨_,hr⟩
 refine o_3 ?_
 refine lO (vz (.agg [(.slice none 0 0),(.slice none 0 0),(iv 0),(iv 0)].toArray) (v_build pl96 zc96 R R)) (l_stores 0 R R sz96 R R R R R R (l_nil (q_next (c_ret (q_ret ?_)))))
 obtain rfl:=so hr
 exact qS ((none,0,0),(none,0,0)) (fun w s=>(((s.nilo kT3 3).nilo kT3 3).e 4 [1,0]))
 refine o_4 ?_
 obtain ⟨r7,hx8,hr⟩:=bd hr
 obtain ⟨r10,hx11,hr⟩:=bd hr
 obtain ⟨r13,hx14,hr⟩:=bd hr
 refine o_2 ?_
 refine lM (RR kT3 A2 D2 dims1::_::W0) (fun w s=>(s.d 1 R)) ?_
 refine lC 1 cb64 R (Zl_ok hx8) R ?_
 rintro ⟨A9,N9,D9⟩
 refine lN (ow kT3 3 (.slice A9 N9 D9) r7::_::W0) ?_
 refine l_len 0 sees_ow ?_
 rintro rfl
 refine lS R (lM (RR kT3 A2 D2 dims1::_::_::W0) (fun w s=>(s.d 2 R)) ?_)
 refine lC 1 cb164 R (Z01_ok hx11) R ?_
 rintro ⟨A12,N12,D12⟩
 refine lN (ow kT3 3 (.slice A12 N12 D12) r10::_::_::W0) ?_
 refine l_len 0 sees_ow ?_
 rintro rfl
 refine lS R (lM (RR kT3 A2 D2 dims1::_::_::_::W0) (fun w s=>(s.d 3 R)) ?_)
 refine lC 1 cb148 R (Zj_ok hx14) R ?_
 rintro _
 refine lN (_::_::_::W0) ?_
 refine lO (vz (.agg [(sc A9 r7 D9),(sc A12 r10 D12),(iv 0),(iv r13)].toArray) (v_build pl96 zc96 R R)) (l_stores 2 R R sz96 R R R R R R (lN (_::_::bxl b3 [(sc A9 r7 D9),(sc A12 r10 D12),(iv 0),(iv r13)] 96::W0) ?_))
 refine o_3 ?_
 obtain rfl:=so hr
 exact qS ((A9,r7.length,D9),(A12,r10.length,D12)) (tE 4 [1,0])
theorem Ze_ok  {v1:View}{r:Bool}(hr:Ze v1=some r) :
 FnOk Tryz.prog 156 [(.agg [(.slice A2 N2 D2),(.slice A3 N3 D3),(iv v1.Offset),(iv v1.Base)].toArray)] [rds kT3 (.slice A2 N2 D2) v1.Dims,rds kT3 (.slice A3 N3 D3) v1.Strides] (fun (h:Unit)=>((.bool r),[])):=by
 unfold Ze at hr
 refine fn_ok Tryz.func156 R 91 R R fun C V=>?_
 refine cN (_::_::V) ?_
 refine cL 0 sees_rd ?_
 rintro rfl
 refine cL 1 sees_rd ?_
 rintro rfl
 let W0:List HP:=RR kT3 A2 D2 v1.Dims::RR kT3 A3 D3 v1.Strides::V
 refine cN W0 ?_
 refine o_2 ?_
 refine lBx R fun b4=>?_
 refine o_2 ?_
 let W1:List HP:=bxl b4 [(sc A2 v1.Dims D2),(sc A3 v1.Strides D3),(iv v1.Offset),(iv v1.Base)] 96::W0
 refine qN W1 ?_
 refine o_3 ?_
 obtain ⟨r5,hx6,hr⟩:=bd hr
 refine cQ [(1,(pt b4 0)),(41,(.bool ((((((!r5)||((v1.Strides.length:Int) != (v1.Dims.length:Int)))||(decide (v1.Base<(1:Int))))||(decide (v1.Base>(4096:Int))))||(decide (v1.Offset<(0:Int))))||(decide (v1.Offset≥v1.Base)))))] (W1) ?_ ?_
 refine o_3 ?_
 refine lM (RR kT3 A2 D2 v1.Dims::W1) (fun w s=>(s.d 1 R)) ?_
 refine lC 1 cb147 R (Zb_ok hx6) R ?_
 rintro _
 refine lN W1 ?_
 refine o_2 ?_
 rcases bo (!r5) with hc7 | hc7
 refine o_31 ?_
 exact qj tI
 refine o_9 ?_
 rcases bo ((!r5)||((v1.Strides.length:Int) != (v1.Dims.length:Int))) with hc8 | hc8
 refine o_22 ?_
 exact qj tI
 refine o_5 ?_
 rcases bo (((!r5)||((v1.Strides.length:Int) != (v1.Dims.length:Int)))||(decide (v1.Base<(1:Int)))) with hc9 | hc9
 refine o_17 ?_
 exact qj tI
 refine o_5 ?_
 rcases bo ((((!r5)||((v1.Strides.length:Int) != (v1.Dims.length:Int)))||(decide (v1.Base<(1:Int))))||(decide (v1.Base>(4096:Int)))) with hc10 | hc10
 refine o_12 ?_
 exact qj tI
 refine o_5 ?_
 rcases bo (((((!r5)||((v1.Strides.length:Int) != (v1.Dims.length:Int)))||(decide (v1.Base<(1:Int))))||(decide (v1.Base>(4096:Int))))||(decide (v1.Offset<(0:Int)))) with hc11 | hc11
 refine o_7 ?_
 exact qj tI
 refine o_7 ?_
 exact qj tI
 rintro σ1
 refine o_1 ?_
 rcases bif_ hr with ⟨_,hr⟩|⟨_,hr⟩
 refine o_8 ?_
 obtain rfl:=so hr
 exact qF () (tE 3 [])
 refine o_4 ?_
 refine cdr 6 [] mixo fun ht hn=>?_
 refine d6_ 0 [] ?_
 refine dD (q_next (c_seq (c_cut (A:=(Int×Int)×(Unit)) (fun a=>Ze_J1 v1 a.1.1 a.1.2=some r) (fun a=>[(1,(pt b4 0)),(3,(iv a.1.1)),(4,(iv a.1.2))]) (fun a=>W1) ?_ ?_)))
 refine o_9 ?_
 obtain ⟨e1,hl1,hk1⟩:=bd hr
 refine c_loop (A:=HH) hl1 (fun s a=>[(1,(pt b4 0)),(3,(iv s.1)),(4,(iv s.2.1)),(47,(s3 a)),(48,(il v1.Strides)),(49,(iv s.2.2))]) (fun s a=>rds kT3 (s3 a) v1.Strides::W1) (A3,v1.Strides.length,D3) (aS R) (fun w s=>(s.d 2 R)) ?_
 rintro ⟨lo22,hi23,x25⟩ ⟨A24,N24,D24⟩ σ1 out1 hr he1
 dsimp only [Ze_L1] at hr
 refine c_len 0 sees_rd (fun (hn:N24=v1.Strides.length)=>?_)
 subst hn
 refine o_6 ?_
 rcases bif_ hr with ⟨_,hr⟩|⟨_,hr⟩
 refine o_6 ?_
 obtain ⟨hg27,hr⟩:=gd hr
 refine o_2 ?_
 refine t_some 0 sees_rd (show 0<v1.Strides.length by have:=hg27; omega) (fun g28 o29 ha=>?_)
 subst ha
 refine o_8 ?_
 refine cQ [(1,(pt b4 0)),(3,(iv lo22)),(4,(iv hi23)),(5,(iv x25)),(6,(iv (ix v1.Strides x25))),(47,(sc (ad g28 o29) v1.Strides D24)),(48,(il v1.Strides)),(49,(iv x25)),(59,(.bool ((decide ((ix v1.Strides x25)<(-4096:Int)))||(decide ((ix v1.Strides x25)>(4096:Int))))))] (RR kT3 (ad g28 o29) D24 v1.Strides::W1) ?_ ?_
 refine o_4 ?_
 rcases bo (decide ((ix v1.Strides x25)<(-4096:Int))) with hc30 | hc30
 refine o_4 ?_
 exact qj tI
 refine o_4 ?_
 exact qj tI
 rintro σ1
 refine o_1 ?_
 rcases bif_ hr with ⟨_,hr⟩|⟨_,hr⟩
 refine o_10 ?_
 obtain rfl:=so hr
 obtain rfl:=he1 _ R
 have hr:=hk1
 refine o_3 ?_
 obtain rfl:=so hr
 exact qF () (tE 4 [])
 refine o_4 ?_
 obtain ⟨hg32,hr⟩:=gd hr
 refine o_6 ?_
 refine t_some 2 sees_rd (show 0<v1.Dims.length by have:=hg32; omega) (fun g33 o34 ha=>?_)
 subst ha
 refine o_4 ?_
 refine lO (vz (iv (if (w64 ((ix v1.Strides x25)*(w64 ((ix v1.Dims x25) - (1:Int)))))<(0:Int) then (w64 ((ix v1.Strides x25)*(w64 ((ix v1.Dims x25) - (1:Int))))) else (0:Int))) (v_min R R)) ?_
 refine o_14 ?_
 refine lO (vz (iv (if (w64 ((ix v1.Strides x25)*(w64 ((ix v1.Dims x25) - (1:Int)))))>(0:Int) then (w64 ((ix v1.Strides x25)*(w64 ((ix v1.Dims x25) - (1:Int))))) else (0:Int))) (v_max R R)) ?_
 refine o_9 ?_
 obtain rfl:=so hr
 exact qA ((ad g28 o29),v1.Strides.length,D24) tI
 refine o_3 ?_
 obtain rfl:=so hr
 obtain rfl:=he1 _ R
 have hr:=hk1
 refine o_2 ?_
 exact qI ((lo22,hi23),()) hr (tE 1 [])
 rintro ⟨⟨lo39,hi40⟩,_⟩ σ1 hr
 dsimp only [Ze_J1] at hr
 refine c_seq (cQ [(2,(.bool ((decide (lo39≥(0:Int)))&&(decide (hi40<v1.Base)))))] (W1) ?_ ?_)
 refine o_4 ?_
 rcases bo (decide (lo39≥(0:Int))) with hc41 | hc41
 refine o_7 ?_
 exact qj tI
 refine o_7 ?_
 exact qj tI
 rintro σ1
 refine o_2 ?_
 obtain rfl:=so hr
 exact qF () (tE 3 [])
theorem Z03_ok  {p1:View}{p5:(List Int)}{p8:View}{b2:Nat}{b6:Nat}{b9:Nat}{r:Bool×View}(hr:Z03 p1 p5 p8=some r) :
 FnOk Tryz.prog 166 [(pt b2 0),(pt b6 0),(pt b9 0)] [rds kT3 (.slice A3 N3 D3) p1.Dims,rds kT3 (.slice A4 N4 D4) p1.Strides,bxl b2 [(.slice A3 N3 D3),(.slice A4 N4 D4),(iv p1.Offset),(iv p1.Base)] 96,rds kT3 (.slice A7 N7 D7) p5,bxl b6 [(.slice A7 N7 D7)] 23,rds kT3 (.slice A10 N10 D10) p8.Dims,rds kT3 (.slice A11 N11 D11) p8.Strides,bxl b9 [(.slice A10 N10 D10),(.slice A11 N11 D11),(iv p8.Offset),(iv p8.Base)] 96] (fun (h:HH×HH)=>((.bool r.1),[rds kT3 (s3 h.1) r.2.Dims,rds kT3 (s3 h.2) r.2.Strides,bxl b2 [(s3 h.1),(s3 h.2),(iv r.2.Offset),(iv r.2.Base)] 96,bxl b6 [(.slice A7 N7 D7)] 23,bxl b9 [(.slice A10 N10 D10),(.slice A11 N11 D11),(iv p8.Offset),(iv p8.Base)] 96])):=by
 unfold Z03 at hr
 refine fn_ok Tryz.func166 R 71 R R fun C V=>?_
 refine cM (bxl _ _ _::bxl _ _ _::bxl _ _ _::rds _ _ _::rds _ _ _::rds _ _ _::rds _ _ _::rds _ _ _::V) (tE 8 [2,4,7,0,1,3,5,6]) ?_
 refine cL 3 sees_rd ?_
 rintro rfl
 refine cL 4 sees_rd ?_
 rintro rfl
 refine cL 5 sees_rd ?_
 rintro rfl
 refine cL 6 sees_rd ?_
 rintro rfl
 refine cL 7 sees_rd ?_
 rintro rfl
 let W0:List HP:=RR kT3 A3 D3 p1.Dims::RR kT3 A4 D4 p1.Strides::RR kT3 A7 D7 p5::RR kT3 A10 D10 p8.Dims::RR kT3 A11 D11 p8.Strides::V
 refine cN (bxl b2 [(sc A3 p1.Dims D3),(sc A4 p1.Strides D4),(iv p1.Offset),(iv p1.Base)] 96::bxl b6 [(sc A7 p5 D7)] 23::bxl b9 [(sc A10 p8.Dims D10),(sc A11 p8.Strides D11),(iv p8.Offset),(iv p8.Base)] 96::W0) ?_
 refine o_4 ?_
 let W1:List HP:=bxl b6 [(sc A7 p5 D7)] 23::bxl b9 [(sc A10 p8.Dims D10),(sc A11 p8.Strides D11),(iv p8.Offset),(iv p8.Base)] 96::W0
 refine qN (_::W1) ?_
 refine o_3 ?_
 obtain ⟨r12,hx13,hr⟩:=bd hr
 refine cQ [(0,(pt b2 0)),(1,(pt b6 0)),(2,(pt b9 0)),(17,(.bool ((!r12)||(decide ((p5.length:Int)<(p8.Dims.length:Int))))))] (bxl b2 [(sc A3 p1.Dims D3),(sc A4 p1.Strides D4),(iv p1.Offset),(iv p1.Base)] 96::W1) ?_ ?_
 refine o_2 ?_
 refine lM (RR kT3 A7 D7 p5::_::W1) (fun w s=>(s.d 5 R)) ?_
 refine lC 1 cb147 R (Zb_ok hx13) R ?_
 rintro _
 refine lN (_::W1) ?_
 refine o_2 ?_
 rcases bo (!r12) with hc14 | hc14
 refine o_8 ?_
 exact qj tI
 refine o_8 ?_
 exact qj tI
 rintro σ1
 refine o_1 ?_
 rcases bif_ hr with ⟨_,hr⟩|⟨_,hr⟩
 refine o_8 ?_
 obtain rfl:=so hr
 exact qF ((A3,p1.Dims.length,D3),(A4,p1.Strides.length,D4)) (fun w s=>(s.f 8 [3,2,0,3]))
 refine o_4 ?_
 obtain ⟨r16,hx17,hr⟩:=bd hr
 refine o_3 ?_
 refine lM (RR kT3 A7 D7 p5::_::W1) (fun w s=>(s.d 5 R)) ?_
 refine lC 1 cb64 R (Zl_ok hx17) R ?_
 rintro ⟨A18,N18,D18⟩
 refine lN (ow kT3 3 (.slice A18 N18 D18) r16::_::W1) ?_
 refine l_len 0 sees_ow ?_
 rintro rfl
 refine o_2 ?_
 refine l_store 1 R R sz23 R R R R R (lN (_::bxl b2 [(sc A18 r16 D18),(sc A4 p1.Strides D4),(iv p1.Offset),(iv p1.Base)] 96::W1) ?_)
 refine o_3 ?_
 obtain ⟨hg19,hr⟩:=gd hr
 refine o_4 ?_
 refine l_make (K:=kT3) (m:=(p5.length:Int)) (z:=(0:Int)) R R sl23 sz3 by3 (Zr.zk zT3 zc3) (by decide) R R hg19.1 hg19.2.1 hg19.2.2 (fun A20 D20=>(lP R (lO (vFa 1 fo96_1 R) (l_store 2 R R sz23 R R R R R (lN (OO kT3 3 A20 D20 (List.replicate (p5.length:Int).toNat (0:Int))::_::bxl b2 [(sc A18 r16 D18),(sc A20 (List.replicate (p5.length:Int).toNat (0:Int)) D20),(iv p1.Offset),(iv p1.Base)] 96::W1) ?_)))))
 refine o_3 ?_
 refine c_cut (A:=((List Int))×(Unit)) (fun a=>Z03_J3 p1 r16 a.1=some r) (fun a=>[]) (fun a=>bxl b2 [(sc A18 r16 D18),(sc A20 (List.replicate (p5.length:Int).toNat (0:Int)) D20),(iv p1.Offset),(iv p1.Base)] 96::OO kT3 3 A18 D18 r16::ow kT3 3 (.slice A20 (List.replicate (p5.length:Int).toNat (0:Int)).length D20) a.1::W1) ?_ ?_
 refine o_9 ?_
 obtain ⟨e1,hl1,hk1⟩:=bd hr
 refine c_loop (A:=Unit) hl1 (fun s a=>[(0,(pt b2 0)),(1,(pt b6 0)),(2,(pt b9 0)),(31,(il p8.Dims)),(32,(iv s.2))]) (fun s a=>bxl b2 [(sc A18 r16 D18),(sc A20 (List.replicate (p5.length:Int).toNat (0:Int)) D20),(iv p1.Offset),(iv p1.Base)] 96::OO kT3 3 A18 D18 r16::ow kT3 3 (.slice A20 (List.replicate (p5.length:Int).toNat (0:Int)).length D20) s.1::W1) () (aS R) (tE 3 [2,1,0]) ?_
 rintro ⟨x39,x40⟩ _ σ1 out1 hr he1
 dsimp only [Z03_L1] at hr
 refine o_6 ?_
 rcases bif_ hr with ⟨_,hr⟩|⟨_,hr⟩
 refine o_4 ?_
 refine c_cut (A:=((List Int))×(Unit)) (fun a=>Z03_J2 x40 a.1=some out1) (fun a=>[(0,(pt b2 0)),(1,(pt b6 0)),(2,(pt b9 0)),(31,(il p8.Dims)),(32,(iv x40))]) (fun a=>bxl b2 [(sc A18 r16 D18),(sc A20 (List.replicate (p5.length:Int).toNat (0:Int)) D20),(iv p1.Offset),(iv p1.Base)] 96::OO kT3 3 A18 D18 r16::ow kT3 3 (.slice A20 (List.replicate (p5.length:Int).toNat (0:Int)).length D20) a.1::W1) ?_ ?_
 refine o_21 ?_
 obtain ⟨hg42,hr⟩:=gd hr
 obtain ⟨hg45,hr⟩:=gd hr
 refine c_some 8 sees_rd (show 0<p8.Dims.length by have:=hg42; omega) (fun g43 o44 ha=>?_)
 subst ha
 refine c_some 7 sees_rd (show 0<p5.length by have:=hg45; omega) (fun g46 o47 ha=>?_)
 subst ha
 refine cdr 10 [] mixo fun ht hn=>?_
 refine d10_ 0 [] ?_
 refine dD (q_next ?_)
 rcases bif_ hr with ⟨_,hr⟩|⟨_,hr⟩
 refine o_1 ?_
 obtain ⟨hg49,hr⟩:=gd hr
 obtain ⟨hg52,hr⟩:=gd hr
 refine c_some 9 sees_rd (show 0<p8.Strides.length by have:=hg49; omega) (fun g50 o51 ha=>?_)
 subst ha
 refine c_some 2 sees_ow (show 0<(List.replicate (p5.length:Int).toNat (0:Int)).length by have:=hg52; omega) (fun g53 o54 ha=>?_)
 subst ha
 refine cdr 12 [2] mixo fun ht hn=>?_
 refine d11_ 0 [2] ?_
 refine d1 11 R (lM (ow kT3 3 (.slice (ad g53 o54) (List.replicate (p5.length:Int).toNat (0:Int)).length D20) x39::bxl b2 [(sc A18 r16 D18),(sc (ad g53 o54) (List.replicate (p5.length:Int).toNat (0:Int)) D20),(iv p1.Offset),(iv p1.Base)] 96::ow _ _ _ _::W1) (tE 3 [2,0,1]) ?_)
 refine l_stx (K:=kT3) (x':=(ix p8.Strides x40)) 0 (w64 ((w64 ((p5.length:Int) - (p8.Dims.length:Int)))+x40)) R R sz3 R R hg52.1 hg52.2 ?_ ?_
 exact fun I h s=>(mO3).put I h () (ix p8.Strides x40) s
 refine lN (ow kT3 3 (.slice (ad g53 o54) (List.replicate (p5.length:Int).toNat (0:Int)).length D20) (x39.set (w64 ((w64 ((p5.length:Int) - (p8.Dims.length:Int)))+x40)).toNat (ix p8.Strides x40))::_::_::W1) ?_
 refine l_nil (q_draw (sL [0]) (dD ?_))
 obtain ⟨l55,hl56,hr⟩:=bd hr
 replace hl56:=Option.some.inj hl56
 refine qM (ow kT3 3 (.slice (ad g53 o54) (List.replicate (p5.length:Int).toNat (0:Int)).length D20) l55::_::_::W1) (fun w s=>by rw [← hl56]; exact s) ?_
 refine o_1 ?_
 exact qI (l55,()) hr (tE 3 [1,2,0])
 refine o_11 ?_
 rcases bif_ hr with ⟨_,hr⟩|⟨_,hr⟩
 refine o_9 ?_
 obtain rfl:=so hr
 obtain rfl:=he1 _ R
 have hr:=hk1
 refine o_3 ?_
 obtain rfl:=so hr
 exact qF ((A18,r16.length,D18),(A20,(List.replicate (p5.length:Int).toNat (0:Int)).length,D20)) (fun w s=>(((s.shr 1 R).shr 2 R).e 10 [1,0,2,3,4]))
 refine o_3 ?_
 exact qI (x39,()) hr tI
 rintro ⟨x58,_⟩ σ1 hr
 dsimp only [Z03_J2] at hr
 refine o_4 ?_
 obtain rfl:=so hr
 exact qA () tI
 refine o_3 ?_
 obtain rfl:=so hr
 obtain rfl:=he1 _ R
 have hr:=hk1
 refine o_2 ?_
 exact q_join (x39,()) hr trivial tI
 rintro ⟨p61,_⟩ σ1 hr
 dsimp only [Z03_J3] at hr
 refine o_6 ?_
 obtain rfl:=so hr
 exact qF ((A18,r16.length,D18),(A20,(List.replicate (p5.length:Int).toNat (0:Int)).length,D20)) (fun w s=>(((s.shr 1 R).shr 2 R).e 10 [1,0,2,3,4]))
theorem Z2u_ok  {v1:View}{q5:(List Int)}{q8:View}{b6:Nat}{b9:Nat}{r:View}(hr:Z2u v1 q5 q8=some r) :
 FnOk Tryz.prog 165 [(.agg [(.slice A2 N2 D2),(.slice A3 N3 D3),(iv v1.Offset),(iv v1.Base)].toArray),(.func (.func 166) [].toArray [(pt b6 0),(pt b9 0)].toArray)] [rds kT3 (.slice A2 N2 D2) v1.Dims,rds kT3 (.slice A3 N3 D3) v1.Strides,rds kT3 (.slice A7 N7 D7) q5,bxl b6 [(.slice A7 N7 D7)] 23,rds kT3 (.slice A10 N10 D10) q8.Dims,rds kT3 (.slice A11 N11 D11) q8.Strides,bxl b9 [(.slice A10 N10 D10),(.slice A11 N11 D11),(iv q8.Offset),(iv q8.Base)] 96] (fun (h:HH×HH)=>((.agg [(s3 h.1),(s3 h.2),(iv r.Offset),(iv r.Base)].toArray),[rds kT3 (s3 h.1) r.Dims,rds kT3 (s3 h.2) r.Strides,bxl b6 [(.slice A7 N7 D7)] 23,bxl b9 [(.slice A10 N10 D10),(.slice A11 N11 D11),(iv q8.Offset),(iv q8.Base)] 96])):=by
 unfold Z2u at hr
 refine fn_ok Tryz.func165 R 31 R R fun C V=>?_
 refine cM (bxl _ _ _::bxl _ _ _::rds _ _ _::rds _ _ _::rds _ _ _::rds _ _ _::rds _ _ _::V) (tE 7 [3,6,0,1,2,4,5]) ?_
 refine cL 2 sees_rd ?_
 rintro rfl
 refine cL 3 sees_rd ?_
 rintro rfl
 refine cL 4 sees_rd ?_
 rintro rfl
 refine cL 5 sees_rd ?_
 rintro rfl
 refine cL 6 sees_rd ?_
 rintro rfl
 let W0:List HP:=RR kT3 A2 D2 v1.Dims::RR kT3 A3 D3 v1.Strides::RR kT3 A7 D7 q5::RR kT3 A10 D10 q8.Dims::RR kT3 A11 D11 q8.Strides::V
 refine cN (bxl b6 [(sc A7 q5 D7)] 23::bxl b9 [(sc A10 q8.Dims D10),(sc A11 q8.Strides D11),(iv q8.Offset),(iv q8.Base)] 96::W0) ?_
 refine o_2 ?_
 refine lBx R fun b12=>?_
 refine l_alloc R R zc96 (fun b13=>(l_nil (qM (bxl _ _ _::bxl _ _ _::bxl _ _ _::bxl _ _ _::W0) (tE 4 [0,2,3,1]) ?_)))
 let W1:List HP:=bxl b12 [(sc A2 v1.Dims D2),(sc A3 v1.Strides D3),(iv v1.Offset),(iv v1.Base)] 96::W0
 refine qN (_::_::_::W1) ?_
 refine o_3 ?_
 obtain ⟨r14,hx15,hr⟩:=bd hr
 refine o_2 ?_
 refine lM (RR kT3 A2 D2 v1.Dims::RR kT3 A3 D3 v1.Strides::bxl _ _ _::bxl _ _ _::bxl _ _ _::W1) (fun w s=>(((s.d 4 R).d 6 R).e 5 [1,0,2,3,4])) ?_
 refine lC 2 cb156 R (Ze_ok hx15) R ?_
 rintro _
 refine lN (_::_::_::W1) ?_
 refine o_3 ?_
 rcases bif_ hr with ⟨_,hr⟩|⟨_,hr⟩
 refine o_3 ?_
 refine lO (vz (.agg [(.slice none 0 0),(.slice none 0 0),(iv 0),(iv 0)].toArray) (v_build pl96 zc96 R R)) (l_stores 0 R R sz96 R R R R R R (l_nil (q_next (c_ret (q_ret ?_)))))
 obtain rfl:=so hr
 exact qS ((none,0,0),(none,0,0)) (fun w s=>(((s.nilr kT3).nilr kT3).e 11 [1,0,3,4]))
 refine o_4 ?_
 obtain ⟨r17,hx18,hr⟩:=bd hr
 obtain ⟨r20,hx21,hr⟩:=bd hr
 refine c_cutq (A:=(Unit)×(Nat×HH×HH)) (fun _=>True) (fun a=>[(1,(.func (.func 166) [].toArray [(pt b6 0),(pt b9 0)].toArray)),(4,(pt b13 0)),(5,(pt a.2.1 0))]) (fun a=>bxl b6 [(sc A7 q5 D7)] 23::bxl b9 [(sc A10 q8.Dims D10),(sc A11 q8.Strides D11),(iv q8.Offset),(iv q8.Base)] 96::bxl b13 [(.slice none 0 0),(.slice none 0 0),(iv 0),(iv 0)] 96::bxl a.2.1 [(s3 a.2.2.1),(s3 a.2.2.2),(iv v1.Offset),(iv v1.Base)] 96::ow kT3 3 (s3 a.2.2.1) r17::ow kT3 3 (s3 a.2.2.2) r20::W1) ?_ ?_
 refine cdr 13 [] mixo fun ht hn=>?_
 refine d2_ 0 [] ?_
 refine d2_ 3 [] ?_
 refine d4_ 6 [] ?_
 refine d_all [2,11] (by kernel_rfl) R ⟨?_,?_,trivial⟩
 refine lM (RR kT3 A2 D2 v1.Dims::_::_::_::W1) (fun w s=>(s.d 4 R)) ?_
 refine lC 1 cb64 R (Zl_ok hx18) R ?_
 rintro ⟨A19,N19,D19⟩
 refine lN (ow kT3 3 (.slice A19 N19 D19) r17::_::_::_::W1) ?_
 refine l_len 0 sees_ow ?_
 rintro rfl
 refine l_nil (q_draw (sL [0]) (d_all [5,11] (by kernel_rfl) R ⟨?_,?_,trivial⟩))
 refine lM (RR kT3 A3 D3 v1.Strides::_::_::_::_::W1) (fun w s=>(s.d 6 R)) ?_
 refine lC 1 cb64 R (Zl_ok hx21) R ?_
 rintro ⟨A22,N22,D22⟩
 refine lN (ow kT3 3 (.slice A22 N22 D22) r20::_::_::_::_::W1) ?_
 refine l_len 0 sees_ow ?_
 rintro rfl
 refine l_nil (q_draw (sL [1,0]) (dR 10 R (vz (.agg [(sc A19 r17 D19),(sc A22 r20 D22),(iv v1.Offset),(iv v1.Base)].toArray) (v_build pl96 zc96 R R)) (hS:=(sL [1,0])) (d1 11 R (l_alloc R R zc96 (fun b23=>(l_nil (q_draw (sL [2,1,0]) (d1 12 R (l_stores 0 R R sz96 R R R R R R (lN (bxl b23 [(sc A19 r17 D19),(sc A22 r20 D22),(iv v1.Offset),(iv v1.Base)] 96::_::_::_::_::_::W1) ?_))))))))))
 refine l_nil (q_draw (sL [2,1,0]) (dD ?_))
 exact q_join ((),(b23,(A19,r17.length,D19),(A22,r20.length,D22))) trivial (aS R) (tE 6 [4,5,3,0,2,1])
 refine l_alloc R R zc96 (fun b23=>(l_nil (q_draw (sL [1,0]) (d1 5 R (lM (RR kT3 A3 D3 v1.Strides::_::_::_::_::_::W1) (fun w s=>(s.d 7 R)) ?_)))))
 refine lC 1 cb64 R (Zl_ok hx21) R ?_
 rintro ⟨A22,N22,D22⟩
 refine lN (ow kT3 3 (.slice A22 N22 D22) r20::_::_::_::_::_::W1) ?_
 refine l_len 0 sees_ow ?_
 rintro rfl
 refine l_nil (q_draw (sL [2,1,0]) (dR 10 R (vz (.agg [(sc A19 r17 D19),(sc A22 r20 D22),(iv v1.Offset),(iv v1.Base)].toArray) (v_build pl96 zc96 R R)) (hS:=(sL [2,1,0])) (d1 12 R (l_stores 1 R R sz96 R R R R R R (lN (_::bxl b23 [(sc A19 r17 D19),(sc A22 r20 D22),(iv v1.Offset),(iv v1.Base)] 96::_::_::_::_::W1) ?_)))))
 refine l_nil (q_draw (sL [2,1,0]) (dD ?_))
 exact q_join ((),(b23,(A19,r17.length,D19),(A22,r20.length,D22))) trivial (aS R) (tE 6 [4,5,3,1,2,0])
 refine l_alloc R R zc96 (fun b23=>(l_nil (q_draw (sL [0]) (d1 2 R (lM (RR kT3 A2 D2 v1.Dims::_::_::_::_::W1) (fun w s=>(s.d 5 R)) ?_)))))
 refine lC 1 cb64 R (Zl_ok hx18) R ?_
 rintro ⟨A19,N19,D19⟩
 refine lN (ow kT3 3 (.slice A19 N19 D19) r17::_::_::_::_::W1) ?_
 refine l_len 0 sees_ow ?_
 rintro rfl
 refine l_nil (q_draw (sL [1,0]) (d1 5 R (lM (RR kT3 A3 D3 v1.Strides::_::_::_::_::_::W1) (fun w s=>(s.d 7 R)) ?_)))
 refine lC 1 cb64 R (Zl_ok hx21) R ?_
 rintro ⟨A22,N22,D22⟩
 refine lN (ow kT3 3 (.slice A22 N22 D22) r20::_::_::_::_::_::W1) ?_
 refine l_len 0 sees_ow ?_
 rintro rfl
 refine l_nil (q_draw (sL [2,1,0]) (dR 10 R (vz (.agg [(sc A19 r17 D19),(sc A22 r20 D22),(iv v1.Offset),(iv v1.Base)].toArray) (v_build pl96 zc96 R R)) (hS:=(sL [2,1,0])) (d1 12 R (l_stores 2 R R sz96 R R R R R R (lN (_::_::bxl b23 [(sc A19 r17 D19),(sc A22 r20 D22),(iv v1.Offset),(iv v1.Base)] 96::_::_::_::W1) ?_)))))
 refine l_nil (q_draw (sL [2,1,0]) (dD ?_))
 exact q_join ((),(b23,(A19,r17.length,D19),(A22,r20.length,D22))) trivial (aS R) (tE 6 [4,5,3,2,1,0])
 rintro ⟨_,⟨b24,⟨A25,N25,D25⟩,⟨A26,N26,D26⟩⟩⟩ σ1 -
 refine q_len 4 sees_ow (fun (hn:N25=r17.length)=>?_)
 subst hn
 refine q_len 5 sees_ow (fun (hn:N26=r20.length)=>?_)
 subst hn
 refine o_3 ?_
 obtain ⟨r27,hx28,hr⟩:=bd hr
 obtain ⟨r31,hx32,hr⟩:=bd hr
 refine c_cutq (A:=(Unit)×(HH×HH)) (fun _=>True) (fun a=>[(4,(pt b13 0)),(5,(pt b24 0)),(28,(.bool ((!r27.1)||(!r31))))]) (fun a=>bxl b13 [(.slice none 0 0),(.slice none 0 0),(iv 0),(iv 0)] 96::bxl b24 [(s3 a.2.1),(s3 a.2.2),(iv r27.2.Offset),(iv r27.2.Base)] 96::rds kT3 (s3 a.2.1) r27.2.Dims::rds kT3 (s3 a.2.2) r27.2.Strides::bxl b6 [(sc A7 q5 D7)] 23::bxl b9 [(sc A10 q8.Dims D10),(sc A11 q8.Strides D11),(iv q8.Offset),(iv q8.Base)] 96::W1) ?_ ?_
 refine c_region (lO (vp _ R) (l_st (fun w s=>s.shr 4 R) (l_st (fun w s=>s.shr 5 R) (lM (RR kT3 A25 D25 r17::RR kT3 A26 D26 r20::bxl b24 [(sc A25 r17 D25),(sc A26 r20 D26),(iv v1.Offset),(iv v1.Base)] 96::RR kT3 A7 D7 q5::bxl _ _ _::RR kT3 A10 D10 q8.Dims::RR kT3 A11 D11 q8.Strides::bxl _ _ _::RR kT3 A26 D26 r20::RR kT3 A25 D25 r17::bxl _ _ _::W1) (fun w s=>((((((s.d 1 R).d 1 R).d 11 R).d 13 R).d 15 R).e 11 [4,3,10,2,7,1,0,8,5,6,9])) ?_))))
 refine l_callvn (fs:=[]) (cs:=[(pt b6 0),(pt b9 0)]) 8 R R cb166 R R (Z03_ok (p1:=(⟨r17,r20,v1.Offset,v1.Base⟩:View)) hx28) R ?_
 rintro ⟨⟨A29,N29,D29⟩,⟨A30,N30,D30⟩⟩
 refine lN (rds kT3 (.slice A29 N29 D29) r27.2.Dims::rds kT3 (.slice A30 N30 D30) r27.2.Strides::bxl b24 [(.slice A29 N29 D29),(.slice A30 N30 D30),(iv r27.2.Offset),(iv r27.2.Base)] 96::_::_::_::_::_::W1) ?_
 refine l_len 0 sees_rd ?_
 rintro rfl
 refine l_len 1 sees_rd ?_
 rintro rfl
 refine o_2 ?_
 rcases bo (!r27.1) with hc33 | hc33
 refine o_3 ?_
 refine lO (pOT (!r31) R hc33) (l_nil ?_)
 exact q_join ((),((A29,r27.2.Dims.length,D29),(A30,r27.2.Strides.length,D30))) trivial (aS R) (tE 8 [7,2,0,1,3,4])
 refine lW (wnF hc33) (vz (.agg [(sc A29 r27.2.Dims D29),(sc A30 r27.2.Strides D30),(iv r27.2.Offset),(iv r27.2.Base)].toArray) (v_loadw 2 ag96 sz96 R R R R)) (lM (rds _ _ _::rds _ _ _::rds _ _ _::rds _ _ _::bxl b24 [(sc A29 r27.2.Dims D29),(sc A30 r27.2.Strides D30),(iv r27.2.Offset),(iv r27.2.Base)] 96::bxl _ _ _::bxl _ _ _::rds _ _ _::rds _ _ _::bxl _ _ _::W1) (fun w s=>(((s.d 0 R).d 2 R).f 10 [1,1,0,1,2,8])) ?_)
 refine l_calln 2 R (wnF hc33) cb156 R (Ze_ok (gcall_t hx32 (not_ff hc33))) R ?_
 rintro _
 refine lN (_::_::_::_::_::_::_::_::W1) ?_
 refine o_1 ?_
 refine lO (pOF R hc33 R) (l_nil ?_)
 exact q_join ((),((A29,r27.2.Dims.length,D29),(A30,r27.2.Strides.length,D30))) trivial (aS R) (tE 8 [7,2,0,1,3,4])
 rintro ⟨_,⟨⟨A34,N34,D34⟩,⟨A35,N35,D35⟩⟩⟩ σ1 -
 refine q_len 2 sees_rd (fun (hn:N34=r27.2.Dims.length)=>?_)
 subst hn
 refine q_len 3 sees_rd (fun (hn:N35=r27.2.Strides.length)=>?_)
 subst hn
 refine o_1 ?_
 rcases bif_ hr with ⟨hb36,hr⟩|⟨hb36,hr⟩
 refine o_3 ?_
 refine lO (vz (.agg [(.slice none 0 0),(.slice none 0 0),(iv 0),(iv 0)].toArray) (v_build pl96 zc96 R R)) (l_stores 0 R R sz96 R R R R R R (lN (_::bxl b24 [(sc A34 r27.2.Dims D34),(sc A35 r27.2.Strides D35),(iv r27.2.Offset),(iv r27.2.Base)] 96::RR kT3 A34 D34 r27.2.Dims::RR kT3 A35 D35 r27.2.Strides::_::_::W1) ?_))
 refine o_4 ?_
 obtain rfl:=so hr
 exact qS ((none,0,0),(none,0,0)) (fun w s=>(((s.nilr kT3).nilr kT3).e 14 [1,0,6,7]))
 refine c_false R hb36 ?_
 refine o_5 ?_
 refine l_stores 0 R R sz96 R R R R R R (lN (bxl b13 [(sc A34 r27.2.Dims D34),(sc A35 r27.2.Strides D35),(iv r27.2.Offset),(iv r27.2.Base)] 96::_::_::_::_::_::W1) ?_)
 refine o_3 ?_
 obtain rfl:=so hr
 exact qS ((A34,r27.2.Dims.length,D34),(A35,r27.2.Strides.length,D35)) (fun w s=>(s.f 12 [2,4]))
theorem Z23_ok  {v1:View}{dims4:(List Int)}{r:View}(hr:Z23 v1 dims4=some r) :
 FnOk Tryz.prog 159 [(.agg [(.slice A2 N2 D2),(.slice A3 N3 D3),(iv v1.Offset),(iv v1.Base)].toArray),(.slice A5 N5 D5)] [rds kT3 (.slice A2 N2 D2) v1.Dims,rds kT3 (.slice A3 N3 D3) v1.Strides,rds kT3 (.slice A5 N5 D5) dims4] (fun (h:HH×HH)=>((.agg [(s3 h.1),(s3 h.2),(iv r.Offset),(iv r.Base)].toArray),[rds kT3 (s3 h.1) r.Dims,rds kT3 (s3 h.2) r.Strides])):=by
 unfold Z23 at hr
 refine fn_ok Tryz.func159 R 8 R R fun C V=>?_
 refine cN (_::_::_::V) ?_
 refine cL 0 sees_rd ?_
 rintro rfl
 refine cL 1 sees_rd ?_
 rintro rfl
 refine cL 2 sees_rd ?_
 rintro rfl
 let W0:List HP:=RR kT3 A2 D2 v1.Dims::RR kT3 A3 D3 v1.Strides::RR kT3 A5 D5 dims4::V
 refine cN W0 ?_
 refine o_2 ?_
 refine lBx R fun b6=>?_
 refine l_box (cs:=[(sc A5 dims4 D5)]) R R R (fun b7=>(l_alloc R R zc96 (fun b8=>(l_nil (q_next (c_seq ?_))))))
 obtain ⟨r9,hx10,hr⟩:=bd hr
 refine o_2 ?_
 refine lO (vp (.func (.func 166) [].toArray [(pt b7 0),(pt b6 0)].toArray) R) (lM (RR kT3 A2 D2 v1.Dims::RR kT3 A3 D3 v1.Strides::RR kT3 A5 D5 dims4::bxl _ _ _::RR kT3 A2 D2 v1.Dims::RR kT3 A3 D3 v1.Strides::bxl _ _ _::bxl _ _ _::W0) (fun w s=>((((((s.d 3 R).d 5 R).d 7 R).d 6 R).d 8 R).e 8 [4,3,2,6,1,0,7,5])) ?_)
 refine lC 7 cb165 R (Z2u_ok hx10) R ?_
 rintro ⟨⟨A11,N11,D11⟩,⟨A12,N12,D12⟩⟩
 refine lN (rds kT3 (.slice A11 N11 D11) r9.Dims::rds kT3 (.slice A12 N12 D12) r9.Strides::_::_::_::W0) ?_
 refine l_len 0 sees_rd ?_
 rintro rfl
 refine l_len 1 sees_rd ?_
 rintro rfl
 refine l_stores 4 R R sz96 R R R R R R (lN (_::_::_::_::bxl b8 [(sc A11 r9.Dims D11),(sc A12 r9.Strides D12),(iv r9.Offset),(iv r9.Base)] 96::W0) ?_)
 refine o_3 ?_
 obtain rfl:=so hr
 exact qS ((A11,r9.Dims.length,D11),(A12,r9.Strides.length,D12)) (tE 8 [0,1])
theorem Z0p_ok  {v1:View}{axis5:Int}{length6:Int}{stride7:Int}{b2:Nat}{r:View}(hr:Z0p v1 axis5 length6 stride7=some r) :
 FnOk Tryz.prog 168 [(pt b2 0),(iv axis5),(iv length6),(iv stride7)] [ow kT3 3 (.slice A3 N3 D3) v1.Dims,ow kT3 3 (.slice A4 N4 D4) v1.Strides,bxl b2 [(.slice A3 N3 D3),(.slice A4 N4 D4),(iv v1.Offset),(iv v1.Base)] 96] (fun (h:HH×HH)=>((.tuple [].toArray),[ow kT3 3 (s3 h.1) r.Dims,ow kT3 3 (s3 h.2) r.Strides,bxl b2 [(s3 h.1),(s3 h.2),(iv r.Offset),(iv r.Base)] 96])):=by
 unfold Z0p at hr
 refine fn_ok Tryz.func168 R 24 R R fun C V=>?_
 refine cN (_::_::_::V) ?_
 refine cL 0 sees_ow ?_
 rintro rfl
 refine cL 1 sees_ow ?_
 rintro rfl
 refine c_seq (c_cut (A:=(Int)×(Unit)) (fun a=>Z0p_J3 v1 axis5 length6 a.1=some r) (fun a=>[(0,(pt b2 0)),(1,(iv axis5)),(2,(iv length6)),(3,(iv a.1))]) (fun a=>bxl b2 [(sc A3 v1.Dims D3),(sc A4 v1.Strides D4),(iv v1.Offset),(iv v1.Base)] 96::OO kT3 3 A3 D3 v1.Dims::OO kT3 3 A4 D4 v1.Strides::V) ?_ ?_)
 refine o_5 ?_
 let W1:List HP:=bxl b2 [(sc A3 v1.Dims D3),(sc A4 v1.Strides D4),(iv v1.Offset),(iv v1.Base)] 96::V
 refine qN (_::_::W1) ?_
 refine o_1 ?_
 rcases bif_ hr with ⟨_,hr⟩|⟨_,hr⟩
 refine o_4 ?_
 exact qI ((0:Int),()) hr (tE 3 [2,0,1])
 refine o_2 ?_
 exact qI (stride7,()) hr (tE 3 [2,0,1])
 rintro ⟨stride9,_⟩ σ1 hr
 dsimp only [Z0p_J3] at hr
 obtain ⟨hg10,hr⟩:=gd hr
 obtain ⟨hg13,hr⟩:=gd hr
 refine c_some 1 sees_ow (show 0<v1.Dims.length by have:=hg10; omega) (fun g11 o12 ha=>?_)
 subst ha
 refine c_some 2 sees_ow (show 0<v1.Strides.length by have:=hg13; omega) (fun g14 o15 ha=>?_)
 subst ha
 refine cdr 16 [2,1] mixo fun ht hn=>?_
 refine d13_ 0 [2,1] ?_
 refine d1 13 R (lM (OO kT3 3 (ad g11 o12) D3 v1.Dims::bxl b2 [(sc (ad g11 o12) v1.Dims D3),(sc (ad g14 o15) v1.Strides D4),(iv v1.Offset),(iv v1.Base)] 96::OO kT3 3 (ad g14 o15) D4 v1.Strides::V) (tE 3 [1,0,2]) ?_)
 refine l_stx (K:=kT3) (x':=length6) 0 axis5 R R sz3 R R hg10.1 hg10.2 ?_ ?_
 exact fun I h s=>(mO3).put I h () length6 s
 refine lN (ow kT3 3 (.slice (ad g11 o12) v1.Dims.length D3) (v1.Dims.set axis5.toNat length6)::_::_::V) ?_
 refine l_nil (q_draw (sL [2,0]) ?_)
 refine d1_ 14 [2,0] ?_
 refine d1 15 R (lM (ow _ _ _ _::ow _ _ _ _::bxl _ _ _::V) (tE 3 [2,0,1]) ?_)
 refine l_stx (K:=kT3) (x':=stride9) 0 axis5 R R sz3 R R hg13.1 hg13.2 ?_ ?_
 exact fun I h s=>(mO3).put I h () stride9 s
 refine lN (ow kT3 3 (.slice (ad g14 o15) v1.Strides.length D4) (v1.Strides.set axis5.toNat stride9)::_::_::V) ?_
 refine l_nil (q_draw (sL [1,0]) (dD ?_))
 obtain rfl:=so hr
 exact qT0 (((ad g11 o12),v1.Dims.length,D3),((ad g14 o15),v1.Strides.length,D4)) (tE 3 [1,0,2])
theorem Z18_ok  {p1:View}{p5:Int}{p7:Int}{p9:Int}{p11:Int}{b2:Nat}{b6:Nat}{b8:Nat}{b10:Nat}{b12:Nat}{r:Bool×View×Int}(hr:Z18 p1 p5 p7 p9 p11=some r) :
 FnOk Tryz.prog 167 [(pt b2 0),(pt b6 0),(pt b8 0),(pt b10 0),(pt b12 0)] [ow kT3 3 (.slice A3 N3 D3) p1.Dims,ow kT3 3 (.slice A4 N4 D4) p1.Strides,bxl b2 [(.slice A3 N3 D3),(.slice A4 N4 D4),(iv p1.Offset),(iv p1.Base)] 96,bxl b6 [(iv p5)] 3,bxl b8 [(iv p7)] 3,bxl b10 [(iv p9)] 3,bxl b12 [(iv p11)] 3] (fun (h:HH×HH)=>((.bool r.1),[ow kT3 3 (s3 h.1) r.2.1.Dims,ow kT3 3 (s3 h.2) r.2.1.Strides,bxl b2 [(s3 h.1),(s3 h.2),(iv r.2.1.Offset),(iv r.2.1.Base)] 96,bxl b6 [(iv p5)] 3,bxl b8 [(iv p7)] 3,bxl b10 [(iv p9)] 3,bxl b12 [(iv r.2.2)] 3])):=by
 unfold Z18 at hr
 refine fn_ok Tryz.func167 R 86 R R fun C V=>?_
 refine cN (_::_::_::_::_::_::_::V) ?_
 refine cL 0 sees_ow ?_
 rintro rfl
 refine cL 1 sees_ow ?_
 rintro rfl
 refine o_4 ?_
 refine qM (ow _ _ _ _::ow _ _ _ _::bxl b2 [(sc A3 p1.Dims D3),(sc A4 p1.Strides D4),(iv p1.Offset),(iv p1.Base)] 96::bxl _ _ _::bxl _ _ _::bxl _ _ _::bxl _ _ _::V) (fun w s=>(s.f 7 [0,3,6,1,3,3])) ?_
 let W1:List HP:=bxl b6 [(iv p5)] 3::bxl b8 [(iv p7)] 3::bxl b10 [(iv p9)] 3::V
 refine qN (_::_::_::_::W1) ?_
 refine o_3 ?_
 obtain ⟨r13,hx14,hr⟩:=bd hr
 refine cQ [(0,(pt b2 0)),(1,(pt b6 0)),(2,(pt b8 0)),(3,(pt b10 0)),(4,(pt b12 0)),(24,(.bool (((!r13)||(decide (p7<(1:Int))))||(decide (p7>(4096:Int))))))] (bxl b2 [(sc A3 p1.Dims D3),(sc A4 p1.Strides D4),(iv p1.Offset),(iv p1.Base)] 96::OO kT3 3 A3 D3 p1.Dims::OO kT3 3 A4 D4 p1.Strides::bxl b12 [(iv p11)] 3::W1) ?_ ?_
 rcases bo (!r13) with hc15 | hc15
 refine cdr 15 [] mixo fun ht hn=>?_
 refine d5_ 0 [] ?_
 refine d1 5 R (lC 1 cb150 R (FnOk.lends (A':=[OO kT3 3 A3 D3 p1.Dims]) (A:=[RR kT3 A3 D3 p1.Dims]) (B:=[]) (Zi_ok hx14) ⟨lend_ow,trivial⟩ (fun _=>trivial)) R ?_)
 rintro _
 refine l_nil (q_draw (sL []) ?_)
 refine d9_ 6 [] ?_
 refine dD ?_
 exact qj (tE 4 [2,0,1,3])
 rcases bo ((!r13)||(decide (p7<(1:Int)))) with hc16 | hc16
 refine cdr 15 [] mixo fun ht hn=>?_
 refine d5_ 0 [] ?_
 refine d1 5 R (lC 1 cb150 R (FnOk.lends (A':=[OO kT3 3 A3 D3 p1.Dims]) (A:=[RR kT3 A3 D3 p1.Dims]) (B:=[]) (Zi_ok hx14) ⟨lend_ow,trivial⟩ (fun _=>trivial)) R ?_)
 rintro _
 refine l_nil (q_draw (sL []) ?_)
 refine d9_ 6 [] ?_
 refine dD ?_
 exact qj (tE 4 [2,0,1,3])
 refine cdr 15 [] mixo fun ht hn=>?_
 refine d5_ 0 [] ?_
 refine d1 5 R (lC 1 cb150 R (FnOk.lends (A':=[OO kT3 3 A3 D3 p1.Dims]) (A:=[RR kT3 A3 D3 p1.Dims]) (B:=[]) (Zi_ok hx14) ⟨lend_ow,trivial⟩ (fun _=>trivial)) R ?_)
 rintro _
 refine l_nil (q_draw (sL []) ?_)
 refine d9_ 6 [] ?_
 refine dD ?_
 exact qj (tE 4 [2,0,1,3])
 rintro σ1
 refine o_1 ?_
 rcases bif_ hr with ⟨_,hr⟩|⟨_,hr⟩
 refine o_8 ?_
 obtain rfl:=so hr
 exact qF ((A3,p1.Dims.length,D3),(A4,p1.Strides.length,D4)) (tE 7 [1,2,0,4,5,6,3])
 refine o_4 ?_
 obtain ⟨hg18,hr⟩:=gd hr
 refine c_some 1 sees_ow (show 0<p1.Dims.length by have:=hg18; omega) (fun g19 o20 ha=>?_)
 subst ha
 refine cdr 8 [] mixo fun ht hn=>?_
 refine d8_ 0 [] ?_
 refine dD ?_
 refine o_3 ?_
 refine cQ [(0,(pt b2 0)),(1,(pt b6 0)),(2,(pt b8 0)),(3,(pt b10 0)),(4,(pt b12 0)),(7,(iv (ix p1.Dims p5))),(46,(.bool ((((decide (p9<(0:Int)))||(decide (p9≥(ix p1.Dims p5))))||(decide (p11<(-4096:Int))))||(decide (p11>(4096:Int))))))] (bxl b2 [(sc (ad g19 o20) p1.Dims D3),(sc A4 p1.Strides D4),(iv p1.Offset),(iv p1.Base)] 96::OO kT3 3 (ad g19 o20) D3 p1.Dims::OO kT3 3 A4 D4 p1.Strides::bxl b12 [(iv p11)] 3::W1) ?_ ?_
 refine o_4 ?_
 rcases bo (decide (p9<(0:Int))) with hc21 | hc21
 refine o_13 ?_
 exact qj tI
 refine o_5 ?_
 rcases bo ((decide (p9<(0:Int)))||(decide (p9≥(ix p1.Dims p5)))) with hc22 | hc22
 refine o_8 ?_
 exact qj tI
 refine o_4 ?_
 rcases bo (((decide (p9<(0:Int)))||(decide (p9≥(ix p1.Dims p5))))||(decide (p11<(-4096:Int)))) with hc23 | hc23
 refine o_4 ?_
 exact qj tI
 refine o_4 ?_
 exact qj tI
 rintro σ1
 refine o_1 ?_
 rcases bif_ hr with ⟨_,hr⟩|⟨_,hr⟩
 refine o_8 ?_
 obtain rfl:=so hr
 exact qF (((ad g19 o20),p1.Dims.length,D3),(A4,p1.Strides.length,D4)) (tE 7 [1,2,0,4,5,6,3])
 refine o_4 ?_
 refine c_cut (A:=(Int)×(Unit)) (fun a=>Z18_J3 p1 p5 p7 p9 a.1=some r) (fun a=>[(0,(pt b2 0)),(1,(pt b6 0)),(2,(pt b8 0)),(3,(pt b10 0)),(4,(pt b12 0))]) (fun a=>bxl b2 [(sc (ad g19 o20) p1.Dims D3),(sc A4 p1.Strides D4),(iv p1.Offset),(iv p1.Base)] 96::OO kT3 3 (ad g19 o20) D3 p1.Dims::OO kT3 3 A4 D4 p1.Strides::bxl b12 [(iv a.1)] 3::W1) ?_ ?_
 refine o_6 ?_
 rcases bif_ hr with ⟨_,hr⟩|⟨_,hr⟩
 refine o_13 ?_
 refine cQ [(0,(pt b2 0)),(1,(pt b6 0)),(2,(pt b8 0)),(3,(pt b10 0)),(4,(pt b12 0)),(61,(.bool ((decide ((w64 (p9+(w64 (p11*(w64 (p7 - (1:Int)))))))<(0:Int)))||(decide ((w64 (p9+(w64 (p11*(w64 (p7 - (1:Int)))))))≥(ix p1.Dims p5))))))] (bxl b2 [(sc (ad g19 o20) p1.Dims D3),(sc A4 p1.Strides D4),(iv p1.Offset),(iv p1.Base)] 96::OO kT3 3 (ad g19 o20) D3 p1.Dims::OO kT3 3 A4 D4 p1.Strides::bxl b12 [(iv p11)] 3::W1) ?_ ?_
 refine o_4 ?_
 rcases bo (decide ((w64 (p9+(w64 (p11*(w64 (p7 - (1:Int)))))))<(0:Int))) with hc26 | hc26
 refine o_5 ?_
 exact qj tI
 refine o_5 ?_
 exact qj tI
 rintro σ1
 refine o_1 ?_
 rcases bif_ hr with ⟨_,hr⟩|⟨_,hr⟩
 refine o_8 ?_
 obtain rfl:=so hr
 exact qF (((ad g19 o20),p1.Dims.length,D3),(A4,p1.Strides.length,D4)) (tE 7 [1,2,0,4,5,6,3])
 refine o_2 ?_
 exact qI (p11,()) hr tI
 refine o_2 ?_
 refine l_store 3 R R sz3 R R R R R (lN (bxl b2 [(sc (ad g19 o20) p1.Dims D3),(sc A4 p1.Strides D4),(iv p1.Offset),(iv p1.Base)] 96::OO kT3 3 (ad g19 o20) D3 p1.Dims::_::bxl b12 [(iv 0)] 3::W1) ?_)
 refine o_1 ?_
 exact qI ((0:Int),()) hr tI
 rintro ⟨x28,_⟩ σ1 hr
 dsimp only [Z18_J3] at hr
 refine o_1 ?_
 obtain ⟨hg29,hr⟩:=gd hr
 refine c_some 2 sees_ow (show 0<p1.Strides.length by have:=hg29; omega) (fun g30 o31 ha=>?_)
 subst ha
 refine cdr 8 [] mixo fun ht hn=>?_
 refine d8_ 0 [] ?_
 refine dD (q_next (c_seq (cdr 11 [0] mixo fun ht hn=>?_)))
 refine d3_ 0 [0] ?_
 refine d3_ 4 [0] ?_
 refine d1 3 R (lO (vLd 0 ag3 R R R) (l_nil (q_draw (sL [0]) ?_)))
 refine d3_ 7 [0] ?_
 refine d1 10 R (l_store 0 R R sz3 R R R R R (lN (bxl b2 [(sc (ad g19 o20) p1.Dims D3),(sc (ad g30 o31) p1.Strides D4),(iv (w64 (p1.Offset+(w64 (p9*(ix p1.Strides p5)))))),(iv p1.Base)] 96::_::OO kT3 3 (ad g30 o31) D4 p1.Strides::bxl b12 [(iv x28)] 3::W1) ?_))
 refine l_nil (q_draw (sL [0]) (dD ?_))
 refine o_2 ?_
 obtain ⟨r32,hx33,hr⟩:=bd hr
 refine o_7 ?_
 refine lM (ow _ _ _ _::ow _ _ _ _::bxl _ _ _::bxl _ _ _::W1) (tE 4 [1,2,0,3]) ?_
 refine lC 3 cb168 R (Z0p_ok (v1:=(⟨p1.Dims,p1.Strides,(w64 (p1.Offset+(w64 (p9*(ix p1.Strides p5))))),p1.Base⟩:View)) hx33) R ?_
 rintro ⟨⟨A34,N34,D34⟩,⟨A35,N35,D35⟩⟩
 refine lN (ow kT3 3 (.slice A34 N34 D34) r32.Dims::ow kT3 3 (.slice A35 N35 D35) r32.Strides::bxl b2 [(.slice A34 N34 D34),(.slice A35 N35 D35),(iv r32.Offset),(iv r32.Base)] 96::_::W1) ?_
 refine l_len 0 sees_ow ?_
 rintro rfl
 refine l_len 1 sees_ow ?_
 rintro rfl
 refine o_8 ?_
 obtain rfl:=so hr
 exact qF ((A34,r32.Dims.length,D34),(A35,r32.Strides.length,D35)) (fun w s=>(s.f 7 [0,3,4,3,3,1]))
theorem Z2t_ok  {v1:View}{q5:Int}{q7:Int}{q9:Int}{q11:Int}{b6:Nat}{b8:Nat}{b10:Nat}{b12:Nat}{r:View×Int}(hr:Z2t v1 q5 q7 q9 q11=some r) :
 FnOk Tryz.prog 165 [(.agg [(.slice A2 N2 D2),(.slice A3 N3 D3),(iv v1.Offset),(iv v1.Base)].toArray),(.func (.func 167) [].toArray [(pt b6 0),(pt b8 0),(pt b10 0),(pt b12 0)].toArray)] [rds kT3 (.slice A2 N2 D2) v1.Dims,rds kT3 (.slice A3 N3 D3) v1.Strides,bxl b6 [(iv q5)] 3,bxl b8 [(iv q7)] 3,bxl b10 [(iv q9)] 3,bxl b12 [(iv q11)] 3] (fun (h:HH×HH)=>((.agg [(s3 h.1),(s3 h.2),(iv r.1.Offset),(iv r.1.Base)].toArray),[ow kT3 3 (s3 h.1) r.1.Dims,ow kT3 3 (s3 h.2) r.1.Strides,bxl b6 [(iv q5)] 3,bxl b8 [(iv q7)] 3,bxl b10 [(iv q9)] 3,bxl b12 [(iv r.2)] 3])):=by
 unfold Z2t at hr
 refine fn_ok Tryz.func165 R 31 R R fun C V=>?_
 refine cM (bxl _ _ _::bxl _ _ _::bxl _ _ _::bxl _ _ _::rds _ _ _::rds _ _ _::V) (fun w s=>(s.f 6 [2,4,0,2])) ?_
 refine cL 4 sees_rd ?_
 rintro rfl
 refine cL 5 sees_rd ?_
 rintro rfl
 let W0:List HP:=RR kT3 A2 D2 v1.Dims::RR kT3 A3 D3 v1.Strides::V
 refine cN (_::_::_::_::W0) ?_
 refine o_2 ?_
 refine lBx R fun b13=>?_
 refine l_alloc R R zc96 (fun b14=>(l_nil (qM (bxl _ _ _::bxl _ _ _::bxl _ _ _::bxl _ _ _::bxl _ _ _::bxl _ _ _::W0) (tE 6 [0,2,3,4,5,1]) ?_)))
 let W1:List HP:=bxl b13 [(sc A2 v1.Dims D2),(sc A3 v1.Strides D3),(iv v1.Offset),(iv v1.Base)] 96::W0
 refine qN (_::_::_::_::_::W1) ?_
 refine o_3 ?_
 obtain ⟨r15,hx16,hr⟩:=bd hr
 refine o_2 ?_
 refine lM (RR kT3 A2 D2 v1.Dims::RR kT3 A3 D3 v1.Strides::bxl _ _ _::bxl _ _ _::bxl _ _ _::bxl _ _ _::bxl _ _ _::W1) (fun w s=>(((s.d 6 R).d 8 R).f 7 [1,1,0,1,2,5])) ?_
 refine lC 2 cb156 R (Ze_ok hx16) R ?_
 rintro _
 refine lN (_::_::_::_::_::W1) ?_
 refine o_3 ?_
 rcases bif_ hr with ⟨_,hr⟩|⟨_,hr⟩
 refine o_3 ?_
 refine lO (vz (.agg [(.slice none 0 0),(.slice none 0 0),(iv 0),(iv 0)].toArray) (v_build pl96 zc96 R R)) (l_stores 0 R R sz96 R R R R R R (l_nil (q_next (c_ret (q_ret ?_)))))
 obtain rfl:=so hr
 exact qS ((none,0,0),(none,0,0)) (fun w s=>(((s.nilo kT3 3).nilo kT3 3).e 10 [1,0,3,4,5,6]))
 refine o_4 ?_
 obtain ⟨r18,hx19,hr⟩:=bd hr
 obtain ⟨r21,hx22,hr⟩:=bd hr
 refine c_cutq (A:=(Unit)×(Nat×HH×HH)) (fun _=>True) (fun a=>[(1,(.func (.func 167) [].toArray [(pt b6 0),(pt b8 0),(pt b10 0),(pt b12 0)].toArray)),(4,(pt b14 0)),(5,(pt a.2.1 0))]) (fun a=>bxl b6 [(iv q5)] 3::bxl b8 [(iv q7)] 3::bxl b10 [(iv q9)] 3::bxl b12 [(iv q11)] 3::bxl b14 [(.slice none 0 0),(.slice none 0 0),(iv 0),(iv 0)] 96::bxl a.2.1 [(s3 a.2.2.1),(s3 a.2.2.2),(iv v1.Offset),(iv v1.Base)] 96::ow kT3 3 (s3 a.2.2.1) r18::ow kT3 3 (s3 a.2.2.2) r21::W1) ?_ ?_
 refine cdr 13 [] mixo fun ht hn=>?_
 refine d2_ 0 [] ?_
 refine d2_ 3 [] ?_
 refine d4_ 6 [] ?_
 refine d_all [2,11] (by kernel_rfl) R ⟨?_,?_,trivial⟩
 refine lM (RR kT3 A2 D2 v1.Dims::_::_::_::_::_::W1) (fun w s=>(s.d 6 R)) ?_
 refine lC 1 cb64 R (Zl_ok hx19) R ?_
 rintro ⟨A20,N20,D20⟩
 refine lN (ow kT3 3 (.slice A20 N20 D20) r18::_::_::_::_::_::W1) ?_
 refine l_len 0 sees_ow ?_
 rintro rfl
 refine l_nil (q_draw (sL [0]) (d_all [5,11] (by kernel_rfl) R ⟨?_,?_,trivial⟩))
 refine lM (RR kT3 A3 D3 v1.Strides::_::_::_::_::_::_::W1) (fun w s=>(s.d 8 R)) ?_
 refine lC 1 cb64 R (Zl_ok hx22) R ?_
 rintro ⟨A23,N23,D23⟩
 refine lN (ow kT3 3 (.slice A23 N23 D23) r21::_::_::_::_::_::_::W1) ?_
 refine l_len 0 sees_ow ?_
 rintro rfl
 refine l_nil (q_draw (sL [1,0]) (dR 10 R (vz (.agg [(sc A20 r18 D20),(sc A23 r21 D23),(iv v1.Offset),(iv v1.Base)].toArray) (v_build pl96 zc96 R R)) (hS:=(sL [1,0])) (d1 11 R (l_alloc R R zc96 (fun b24=>(l_nil (q_draw (sL [2,1,0]) (d1 12 R (l_stores 0 R R sz96 R R R R R R (lN (bxl b24 [(sc A20 r18 D20),(sc A23 r21 D23),(iv v1.Offset),(iv v1.Base)] 96::_::_::_::_::_::_::_::W1) ?_))))))))))
 refine l_nil (q_draw (sL [2,1,0]) (dD ?_))
 exact q_join ((),(b24,(A20,r18.length,D20),(A23,r21.length,D23))) trivial (aS R) (tE 8 [4,5,6,7,3,0,2,1])
 refine l_alloc R R zc96 (fun b24=>(l_nil (q_draw (sL [1,0]) (d1 5 R (lM (RR kT3 A3 D3 v1.Strides::_::_::_::_::_::_::_::W1) (fun w s=>(s.d 9 R)) ?_)))))
 refine lC 1 cb64 R (Zl_ok hx22) R ?_
 rintro ⟨A23,N23,D23⟩
 refine lN (ow kT3 3 (.slice A23 N23 D23) r21::_::_::_::_::_::_::_::W1) ?_
 refine l_len 0 sees_ow ?_
 rintro rfl
 refine l_nil (q_draw (sL [2,1,0]) (dR 10 R (vz (.agg [(sc A20 r18 D20),(sc A23 r21 D23),(iv v1.Offset),(iv v1.Base)].toArray) (v_build pl96 zc96 R R)) (hS:=(sL [2,1,0])) (d1 12 R (l_stores 1 R R sz96 R R R R R R (lN (_::bxl b24 [(sc A20 r18 D20),(sc A23 r21 D23),(iv v1.Offset),(iv v1.Base)] 96::_::_::_::_::_::_::W1) ?_)))))
 refine l_nil (q_draw (sL [2,1,0]) (dD ?_))
 exact q_join ((),(b24,(A20,r18.length,D20),(A23,r21.length,D23))) trivial (aS R) (tE 8 [4,5,6,7,3,1,2,0])
 refine l_alloc R R zc96 (fun b24=>(l_nil (q_draw (sL [0]) (d1 2 R (lM (RR kT3 A2 D2 v1.Dims::_::_::_::_::_::_::W1) (fun w s=>(s.d 7 R)) ?_)))))
 refine lC 1 cb64 R (Zl_ok hx19) R ?_
 rintro ⟨A20,N20,D20⟩
 refine lN (ow kT3 3 (.slice A20 N20 D20) r18::_::_::_::_::_::_::W1) ?_
 refine l_len 0 sees_ow ?_
 rintro rfl
 refine l_nil (q_draw (sL [1,0]) (d1 5 R (lM (RR kT3 A3 D3 v1.Strides::_::_::_::_::_::_::_::W1) (fun w s=>(s.d 9 R)) ?_)))
 refine lC 1 cb64 R (Zl_ok hx22) R ?_
 rintro ⟨A23,N23,D23⟩
 refine lN (ow kT3 3 (.slice A23 N23 D23) r21::_::_::_::_::_::_::_::W1) ?_
 refine l_len 0 sees_ow ?_
 rintro rfl
 refine l_nil (q_draw (sL [2,1,0]) (dR 10 R (vz (.agg [(sc A20 r18 D20),(sc A23 r21 D23),(iv v1.Offset),(iv v1.Base)].toArray) (v_build pl96 zc96 R R)) (hS:=(sL [2,1,0])) (d1 12 R (l_stores 2 R R sz96 R R R R R R (lN (_::_::bxl b24 [(sc A20 r18 D20),(sc A23 r21 D23),(iv v1.Offset),(iv v1.Base)] 96::_::_::_::_::_::W1) ?_)))))
 refine l_nil (q_draw (sL [2,1,0]) (dD ?_))
 exact q_join ((),(b24,(A20,r18.length,D20),(A23,r21.length,D23))) trivial (aS R) (tE 8 [4,5,6,7,3,2,1,0])
 rintro ⟨_,⟨b25,⟨A26,N26,D26⟩,⟨A27,N27,D27⟩⟩⟩ σ1 -
 refine q_len 6 sees_ow (fun (hn:N26=r18.length)=>?_)
 subst hn
 refine q_len 7 sees_ow (fun (hn:N27=r21.length)=>?_)
 subst hn
 refine o_3 ?_
 obtain ⟨r28,hx29,hr⟩:=bd hr
 obtain ⟨r32,hx33,hr⟩:=bd hr
 refine c_cutq (A:=(Unit)×(HH×HH)) (fun _=>True) (fun a=>[(4,(pt b14 0)),(5,(pt b25 0)),(28,(.bool ((!r28.1)||(!r32))))]) (fun a=>bxl b14 [(.slice none 0 0),(.slice none 0 0),(iv 0),(iv 0)] 96::bxl b25 [(s3 a.2.1),(s3 a.2.2),(iv r28.2.1.Offset),(iv r28.2.1.Base)] 96::ow kT3 3 (s3 a.2.1) r28.2.1.Dims::ow kT3 3 (s3 a.2.2) r28.2.1.Strides::bxl b6 [(iv q5)] 3::bxl b8 [(iv q7)] 3::bxl b10 [(iv q9)] 3::bxl b12 [(iv r28.2.2)] 3::W1) ?_ ?_
 refine c_region (lO (vp _ R) (lM (OO kT3 3 A26 D26 r18::OO kT3 3 A27 D27 r21::bxl b25 [(sc A26 r18 D26),(sc A27 r21 D27),(iv v1.Offset),(iv v1.Base)] 96::bxl _ _ _::bxl _ _ _::bxl _ _ _::bxl _ _ _::bxl _ _ _::W1) (fun w s=>(s.f 8 [6,2,5,1,0,5])) ?_))
 refine l_callvn (fs:=[]) (cs:=[(pt b6 0),(pt b8 0),(pt b10 0),(pt b12 0)]) 7 R R cb167 R R (Z18_ok (p1:=(⟨r18,r21,v1.Offset,v1.Base⟩:View)) hx29) R ?_
 rintro ⟨⟨A30,N30,D30⟩,⟨A31,N31,D31⟩⟩
 refine lN (ow kT3 3 (.slice A30 N30 D30) r28.2.1.Dims::ow kT3 3 (.slice A31 N31 D31) r28.2.1.Strides::bxl b25 [(.slice A30 N30 D30),(.slice A31 N31 D31),(iv r28.2.1.Offset),(iv r28.2.1.Base)] 96::_::_::_::bxl b12 [(iv r28.2.2)] 3::_::W1) ?_
 refine l_len 0 sees_ow ?_
 rintro rfl
 refine l_len 1 sees_ow ?_
 rintro rfl
 refine o_2 ?_
 rcases bo (!r28.1) with hc34 | hc34
 refine o_3 ?_
 refine lO (pOT (!r32) R hc34) (l_nil ?_)
 exact q_join ((),((A30,r28.2.1.Dims.length,D30),(A31,r28.2.1.Strides.length,D31))) trivial (aS R) (tE 8 [7,2,0,1,3,4,5,6])
 refine lW (wnF hc34) (vz (.agg [(sc A30 r28.2.1.Dims D30),(sc A31 r28.2.1.Strides D31),(iv r28.2.1.Offset),(iv r28.2.1.Base)].toArray) (v_loadw 2 ag96 sz96 R R R R)) (l_calln 2 R (wnF hc34) cb156 R (FnOk.lends (A':=[OO kT3 3 A30 D30 r28.2.1.Dims,OO kT3 3 A31 D31 r28.2.1.Strides]) (A:=[RR kT3 A30 D30 r28.2.1.Dims,RR kT3 A31 D31 r28.2.1.Strides]) (B:=[]) (Ze_ok (gcall_t hx33 (not_ff hc34))) ⟨lend_ow,lend_ow,trivial⟩ (fun _=>trivial)) R ?_)
 rintro _
 refine lN (_::_::bxl b25 [(sc A30 r28.2.1.Dims D30),(sc A31 r28.2.1.Strides D31),(iv r28.2.1.Offset),(iv r28.2.1.Base)] 96::_::_::_::_::_::W1) ?_
 refine o_1 ?_
 refine lO (pOF R hc34 R) (l_nil ?_)
 exact q_join ((),((A30,r28.2.1.Dims.length,D30),(A31,r28.2.1.Strides.length,D31))) trivial (aS R) (tE 8 [7,2,0,1,3,4,5,6])
 rintro ⟨_,⟨⟨A35,N35,D35⟩,⟨A36,N36,D36⟩⟩⟩ σ1 -
 refine q_len 2 sees_ow (fun (hn:N35=r28.2.1.Dims.length)=>?_)
 subst hn
 refine q_len 3 sees_ow (fun (hn:N36=r28.2.1.Strides.length)=>?_)
 subst hn
 refine o_1 ?_
 rcases bif_ hr with ⟨hb37,hr⟩|⟨hb37,hr⟩
 refine o_3 ?_
 refine lO (vz (.agg [(.slice none 0 0),(.slice none 0 0),(iv 0),(iv 0)].toArray) (v_build pl96 zc96 R R)) (l_stores 0 R R sz96 R R R R R R (lN (_::bxl b25 [(sc A35 r28.2.1.Dims D35),(sc A36 r28.2.1.Strides D36),(iv r28.2.1.Offset),(iv r28.2.1.Base)] 96::OO kT3 3 A35 D35 r28.2.1.Dims::OO kT3 3 A36 D36 r28.2.1.Strides::_::_::_::_::W1) ?_))
 refine o_4 ?_
 obtain rfl:=so hr
 exact qS ((none,0,0),(none,0,0)) (fun w s=>(((s.nilo kT3 3).nilo kT3 3).e 13 [1,0,6,7,8,9]))
 refine c_false R hb37 ?_
 refine o_5 ?_
 refine l_stores 0 R R sz96 R R R R R R (lN (bxl b14 [(sc A35 r28.2.1.Dims D35),(sc A36 r28.2.1.Strides D36),(iv r28.2.1.Offset),(iv r28.2.1.Base)] 96::_::_::_::_::_::_::_::W1) ?_)
 refine o_3 ?_
 obtain rfl:=so hr
 exact qS ((A35,r28.2.1.Dims.length,D35),(A36,r28.2.1.Strides.length,D36)) (fun w s=>(s.f 11 [2,6]))
theorem Z22_ok  {v1:View}{axis4:Int}{p5:Int}{count6:Int}{step7:Int}{r:View}(hr:Z22 v1 axis4 p5 count6 step7=some r) :
 FnOk Tryz.prog 160 [(.agg [(.slice A2 N2 D2),(.slice A3 N3 D3),(iv v1.Offset),(iv v1.Base)].toArray),(iv axis4),(iv p5),(iv count6),(iv step7)] [rds kT3 (.slice A2 N2 D2) v1.Dims,rds kT3 (.slice A3 N3 D3) v1.Strides] (fun (h:HH×HH)=>((.agg [(s3 h.1),(s3 h.2),(iv r.Offset),(iv r.Base)].toArray),[ow kT3 3 (s3 h.1) r.Dims,ow kT3 3 (s3 h.2) r.Strides])):=by
 unfold Z22 at hr
 refine fn_ok Tryz.func160 R 14 R R fun C V=>?_
 refine cN (_::_::V) ?_
 refine cL 0 sees_rd ?_
 rintro rfl
 refine cL 1 sees_rd ?_
 rintro rfl
 let W0:List HP:=RR kT3 A2 D2 v1.Dims::RR kT3 A3 D3 v1.Strides::V
 refine cN W0 ?_
 refine o_2 ?_
 refine lBx R fun b8=>?_
 refine l_box (cs:=[(iv axis4)]) R R R (fun b9=>(l_box (cs:=[(iv p5)]) R R R (fun b10=>(l_box (cs:=[(iv count6)]) R R R (fun b11=>(l_box (cs:=[(iv step7)]) R R R (fun b12=>(l_alloc R R zc96 (fun b13=>(l_nil ?_))))))))))
 let W1:List HP:=bxl b8 [(sc A2 v1.Dims D2),(sc A3 v1.Strides D3),(iv v1.Offset),(iv v1.Base)] 96::W0
 refine qN (_::_::_::_::_::W1) ?_
 refine o_2 ?_
 obtain ⟨r14,hx15,hr⟩:=bd hr
 refine o_2 ?_
 refine lO (vp (.func (.func 167) [].toArray [(pt b9 0),(pt b11 0),(pt b10 0),(pt b12 0)].toArray) R) (lM (RR kT3 A2 D2 v1.Dims::RR kT3 A3 D3 v1.Strides::bxl _ _ _::bxl _ _ _::bxl _ _ _::bxl _ _ _::bxl _ _ _::W1) (fun w s=>(((s.d 6 R).d 8 R).e 7 [1,0,6,4,5,3,2])) ?_)
 refine lC 6 cb165 R (Z2t_ok hx15) R ?_
 rintro ⟨⟨A16,N16,D16⟩,⟨A17,N17,D17⟩⟩
 refine lN (ow kT3 3 (.slice A16 N16 D16) r14.1.Dims::ow kT3 3 (.slice A17 N17 D17) r14.1.Strides::_::_::_::bxl b12 [(iv r14.2)] 3::_::W1) ?_
 refine l_len 0 sees_ow ?_
 rintro rfl
 refine l_len 1 sees_ow ?_
 rintro rfl
 refine l_stores 6 R R sz96 R R R R R R (lN (_::_::_::_::_::_::bxl b13 [(sc A16 r14.1.Dims D16),(sc A17 r14.1.Strides D17),(iv r14.1.Offset),(iv r14.1.Base)] 96::W1) ?_)
 refine o_3 ?_
 obtain rfl:=so hr
 exact qS ((A16,r14.1.Dims.length,D16),(A17,r14.1.Strides.length,D17)) (tE 10 [0,1])
theorem Z2a_ok  {v1:View}{length5:Int}{stride6:Int}{b2:Nat}{r:View}(hr:Z2a v1 length5 stride6=some r) :
 FnOk Tryz.prog 170 [(pt b2 0),(iv length5),(iv stride6)] [ow kT3 3 (.slice A3 N3 D3) v1.Dims,ow kT3 3 (.slice A4 N4 D4) v1.Strides,bxl b2 [(.slice A3 N3 D3),(.slice A4 N4 D4),(iv v1.Offset),(iv v1.Base)] 96] (fun (h:HH×HH)=>((.tuple [].toArray),[ow kT3 3 (s3 h.1) r.Dims,ow kT3 3 (s3 h.2) r.Strides,bxl b2 [(s3 h.1),(s3 h.2),(iv r.Offset),(iv r.Base)] 96])):=by
 unfold Z2a at hr
 refine fn_ok Tryz.func170 R 34 R R fun C V=>?_
 refine cN (_::_::_::V) ?_
 refine cL 0 sees_ow ?_
 rintro rfl
 refine cL 1 sees_ow ?_
 rintro rfl
 refine o_1 ?_
 obtain ⟨hg8,hr⟩:=gd hr
 refine o_6 ?_
 refine l_build (K:=kT3) (xs:=([(0:Int)]:List Int)) (vs:=[(iv 0)]) 0 R R sl23 sz3 zc3 R R R R R R ?_ R (fun A7 D7=>?_)
 exact fun I h s=>(mO3).list [((),(0:Int))] I h s
 refine lN (OO kT3 3 A7 D7 ([(0:Int)]:List Int)::_::_::bxl b2 [(sc A3 v1.Dims D3),(sc A4 v1.Strides D4),(iv v1.Offset),(iv v1.Base)] 96::V) ?_
 refine lM (ow _ _ _ _::ow _ _ _ _::ow _ _ _ _::bxl _ _ _::V) (tE 4 [1,0,2,3]) ?_
 refine l_app (K:=kT3) 17592186044416 R R sl23 sz3 by3 (Zr.zk zT3 zc3) R R R R R R src_ow hg8 (fun A9 D9=>(lN (OO kT3 3 A9 D9 (v1.Dims++([(0:Int)]:List Int))::_::_::V) ?_))
 refine o_2 ?_
 refine l_store 2 R R sz23 R R R R R (lN (_::_::bxl b2 [(sc A9 (v1.Dims++([(0:Int)]:List Int)) D9),(sc A4 v1.Strides D4),(iv v1.Offset),(iv v1.Base)] 96::V) ?_)
 refine o_3 ?_
 obtain ⟨hg11,hr⟩:=gd hr
 refine o_6 ?_
 refine l_build (K:=kT3) (xs:=([(0:Int)]:List Int)) (vs:=[(iv 0)]) 0 R R sl23 sz3 zc3 R R R R R R ?_ R (fun A10 D10=>?_)
 exact fun I h s=>(mO3).list [((),(0:Int))] I h s
 refine lN (OO kT3 3 A10 D10 ([(0:Int)]:List Int)::_::_::_::V) ?_
 refine lM (ow _ _ _ _::ow _ _ _ _::ow _ _ _ _::bxl _ _ _::V) (tE 4 [2,0,1,3]) ?_
 refine l_app (K:=kT3) 17592186044416 R R sl23 sz3 by3 (Zr.zk zT3 zc3) R R R R R R src_ow hg11 (fun A12 D12=>(lN (OO kT3 3 A12 D12 (v1.Strides++([(0:Int)]:List Int))::_::_::V) ?_))
 refine o_2 ?_
 refine l_store 2 R R sz23 R R R R R (lN (_::_::bxl b2 [(sc A9 (v1.Dims++([(0:Int)]:List Int)) D9),(sc A12 (v1.Strides++([(0:Int)]:List Int)) D12),(iv v1.Offset),(iv v1.Base)] 96::V) ?_)
 refine o_2 ?_
 obtain ⟨r13,hx14,hr⟩:=bd hr
 refine o_10 ?_
 refine lM (ow _ _ _ _::ow _ _ _ _::bxl _ _ _::V) (tE 3 [1,0,2]) ?_
 refine lC 3 cb168 R (Z0p_ok (v1:=(⟨(v1.Dims++([(0:Int)]:List Int)),(v1.Strides++([(0:Int)]:List Int)),v1.Offset,v1.Base⟩:View)) hx14) R ?_
 rintro ⟨⟨A15,N15,D15⟩,⟨A16,N16,D16⟩⟩
 refine lN (ow kT3 3 (.slice A15 N15 D15) r13.Dims::ow kT3 3 (.slice A16 N16 D16) r13.Strides::bxl b2 [(.slice A15 N15 D15),(.slice A16 N16 D16),(iv r13.Offset),(iv r13.Base)] 96::V) ?_
 refine l_len 0 sees_ow ?_
 rintro rfl
 refine l_len 1 sees_ow ?_
 rintro rfl
 refine o_1 ?_
 obtain rfl:=so hr
 exact qT0 ((A15,r13.Dims.length,D15),(A16,r13.Strides.length,D16)) tI
theorem Z19_ok  {p1:View}{p5:Int}{p7:Int}{p9:Int}{b2:Nat}{b6:Nat}{b8:Nat}{b10:Nat}{r:Bool×View×Int}(hr:Z19 p1 p5 p7 p9=some r) :
 FnOk Tryz.prog 169 [(pt b2 0),(pt b6 0),(pt b8 0),(pt b10 0)] [ow kT3 3 (.slice A3 N3 D3) p1.Dims,ow kT3 3 (.slice A4 N4 D4) p1.Strides,bxl b2 [(.slice A3 N3 D3),(.slice A4 N4 D4),(iv p1.Offset),(iv p1.Base)] 96,bxl b6 [(iv p5)] 3,bxl b8 [(iv p7)] 3,bxl b10 [(iv p9)] 3] (fun (h:HH×HH)=>((.bool r.1),[ow kT3 3 (s3 h.1) r.2.1.Dims,ow kT3 3 (s3 h.2) r.2.1.Strides,bxl b2 [(s3 h.1),(s3 h.2),(iv r.2.1.Offset),(iv r.2.1.Base)] 96,bxl b6 [(iv p5)] 3,bxl b8 [(iv p7)] 3,bxl b10 [(iv r.2.2)] 3])):=by
 unfold Z19 at hr
 refine fn_ok Tryz.func169 R 66 R R fun C V=>?_
 refine cN (_::_::_::_::_::_::V) ?_
 refine cL 0 sees_ow ?_
 rintro rfl
 refine cL 1 sees_ow ?_
 rintro rfl
 refine o_4 ?_
 refine qM (ow _ _ _ _::ow _ _ _ _::bxl b2 [(sc A3 p1.Dims D3),(sc A4 p1.Strides D4),(iv p1.Offset),(iv p1.Base)] 96::bxl _ _ _::bxl _ _ _::bxl _ _ _::V) (tE 6 [0,1,2,5,3,4]) ?_
 let W1:List HP:=bxl b6 [(iv p5)] 3::bxl b8 [(iv p7)] 3::V
 refine qN (_::_::_::_::W1) ?_
 refine o_3 ?_
 obtain ⟨r11,hx12,hr⟩:=bd hr
 obtain ⟨hg13,hr⟩:=gd hr
 refine cQ [(0,(pt b2 0)),(1,(pt b6 0)),(2,(pt b8 0)),(3,(pt b10 0)),(33,(.bool ((((!r11)||(decide (p7<(1:Int))))||(decide (p9<(1:Int))))||(decide (p7>(ix p1.Dims p5))))))] (bxl b2 [(sc A3 p1.Dims D3),(sc A4 p1.Strides D4),(iv p1.Offset),(iv p1.Base)] 96::OO kT3 3 A3 D3 p1.Dims::OO kT3 3 A4 D4 p1.Strides::bxl b10 [(iv p9)] 3::W1) ?_ ?_
 rcases bo (!r11) with hc16 | hc16
 refine cdr 26 [] mixo fun ht hn=>?_
 refine d5_ 0 [] ?_
 refine d1 5 R (lC 1 cb150 R (FnOk.lends (A':=[OO kT3 3 A3 D3 p1.Dims]) (A:=[RR kT3 A3 D3 p1.Dims]) (B:=[]) (Zi_ok hx12) ⟨lend_ow,trivial⟩ (fun _=>trivial)) R ?_)
 rintro _
 refine l_nil (q_draw (sL []) ?_)
 refine d20_ 6 [] ?_
 refine dD ?_
 exact qj (tE 4 [2,0,1,3])
 rcases bo ((!r11)||(decide (p7<(1:Int)))) with hc17 | hc17
 refine cdr 26 [] mixo fun ht hn=>?_
 refine d5_ 0 [] ?_
 refine d1 5 R (lC 1 cb150 R (FnOk.lends (A':=[OO kT3 3 A3 D3 p1.Dims]) (A:=[RR kT3 A3 D3 p1.Dims]) (B:=[]) (Zi_ok hx12) ⟨lend_ow,trivial⟩ (fun _=>trivial)) R ?_)
 rintro _
 refine l_nil (q_draw (sL []) ?_)
 refine d20_ 6 [] ?_
 refine dD ?_
 exact qj (tE 4 [2,0,1,3])
 rcases bo (((!r11)||(decide (p7<(1:Int))))||(decide (p9<(1:Int)))) with hc18 | hc18
 refine cdr 26 [] mixo fun ht hn=>?_
 refine d5_ 0 [] ?_
 refine d1 5 R (lC 1 cb150 R (FnOk.lends (A':=[OO kT3 3 A3 D3 p1.Dims]) (A:=[RR kT3 A3 D3 p1.Dims]) (B:=[]) (Zi_ok hx12) ⟨lend_ow,trivial⟩ (fun _=>trivial)) R ?_)
 rintro _
 refine l_nil (q_draw (sL []) ?_)
 refine d20_ 6 [] ?_
 refine dD ?_
 exact qj (tE 4 [2,0,1,3])
 refine c_some 0 sees_ow (show 0<p1.Dims.length by have:=(hg13 hc18); omega) (fun g14 o15 ha=>?_)
 subst ha
 refine cdr 26 [] mixo fun ht hn=>?_
 refine d5_ 0 [] ?_
 refine d1 5 R (lC 1 cb150 R (FnOk.lends (A':=[OO kT3 3 (ad g14 o15) D3 p1.Dims]) (A:=[RR kT3 (ad g14 o15) D3 p1.Dims]) (B:=[]) (Zi_ok hx12) ⟨lend_ow,trivial⟩ (fun _=>trivial)) R ?_)
 rintro _
 refine lN (OO kT3 3 (ad g14 o15) D3 p1.Dims::_::bxl b2 [(sc (ad g14 o15) p1.Dims D3),(sc A4 p1.Strides D4),(iv p1.Offset),(iv p1.Base)] 96::_::W1) ?_
 refine l_nil (q_draw (sL []) ?_)
 refine d16_ 6 [] ?_
 refine dW 22 R (wnF hc18) (vIa sl23 sz3 R R (hg13 hc18)) (dW 23 R (wnF hc18) (vLi 0 ag3 sees_ow R (hg13 hc18)) ?_)
 refine d2_ 24 [] ?_
 refine dD ?_
 exact qj (tE 4 [2,0,1,3])
 rintro σ1
 refine o_1 ?_
 rcases bif_ hr with ⟨_,hr⟩|⟨_,hr⟩
 refine o_8 ?_
 obtain rfl:=so hr
 exact qF ((A3,p1.Dims.length,D3),(A4,p1.Strides.length,D4)) (tE 6 [1,2,0,4,5,3])
 refine o_4 ?_
 obtain ⟨hg20,hr⟩:=gd hr
 refine c_some 2 sees_ow (show 0<p1.Strides.length by have:=hg20; omega) (fun g21 o22 ha=>?_)
 subst ha
 refine cdr 8 [] mixo fun ht hn=>?_
 refine d8_ 0 [] ?_
 refine dD ?_
 refine o_2 ?_
 obtain ⟨hg23,hr⟩:=gd hr
 obtain ⟨hg26,hr⟩:=gd hr
 refine c_some 1 sees_ow (show 0<p1.Dims.length by have:=hg23; omega) (fun g24 o25 ha=>?_)
 subst ha
 refine cdr 13 [] mixo fun ht hn=>?_
 refine d10_ 0 [] ?_
 refine dR 10 R (vz (iv (w64 ((w64 ((ix p1.Dims p5) - p7)).tdiv p9))) (v_quo R R hg26)) ?_
 refine d2_ 11 [] ?_
 refine dD (q_next (c_seq (c_cut (A:=(Int)×(Unit)) (fun a=>Z19_J3 p1 p5 p7 p9 a.1=some r) (fun a=>[(0,(pt b2 0)),(1,(pt b6 0)),(2,(pt b8 0)),(3,(pt b10 0)),(6,(iv (ix p1.Strides p5))),(7,(iv (w64 ((w64 ((w64 ((ix p1.Dims p5) - p7)).tdiv p9))+(1:Int)))))]) (fun a=>bxl b2 [(sc (ad g24 o25) p1.Dims D3),(sc (ad g21 o22) p1.Strides D4),(iv p1.Offset),(iv p1.Base)] 96::OO kT3 3 (ad g24 o25) D3 p1.Dims::OO kT3 3 (ad g21 o22) D4 p1.Strides::bxl b10 [(iv a.1)] 3::W1) ?_ ?_)))
 refine o_6 ?_
 rcases bif_ hr with ⟨_,hr⟩|⟨_,hr⟩
 refine o_2 ?_
 refine l_store 3 R R sz3 R R R R R (lN (bxl b2 [(sc (ad g24 o25) p1.Dims D3),(sc (ad g21 o22) p1.Strides D4),(iv p1.Offset),(iv p1.Base)] 96::OO kT3 3 (ad g24 o25) D3 p1.Dims::OO kT3 3 (ad g21 o22) D4 p1.Strides::bxl b10 [(iv 0)] 3::W1) ?_)
 refine o_1 ?_
 exact qI ((0:Int),()) hr tI
 refine o_2 ?_
 exact qI (p9,()) hr tI
 rintro ⟨x28,_⟩ σ1 hr
 dsimp only [Z19_J3] at hr
 refine o_1 ?_
 obtain ⟨r29,hx30,hr⟩:=bd hr
 refine o_7 ?_
 refine lM (ow _ _ _ _::ow _ _ _ _::bxl _ _ _::bxl b10 [(iv x28)] 3::W1) (tE 4 [1,2,0,3]) ?_
 refine lC 3 cb168 R (Z0p_ok hx30) R ?_
 rintro ⟨⟨A31,N31,D31⟩,⟨A32,N32,D32⟩⟩
 refine lN (ow kT3 3 (.slice A31 N31 D31) r29.Dims::ow kT3 3 (.slice A32 N32 D32) r29.Strides::bxl b2 [(.slice A31 N31 D31),(.slice A32 N32 D32),(iv r29.Offset),(iv r29.Base)] 96::_::W1) ?_
 refine l_len 0 sees_ow ?_
 rintro rfl
 refine l_len 1 sees_ow ?_
 rintro rfl
 refine o_3 ?_
 obtain ⟨r33,hx34,hr⟩:=bd hr
 refine o_4 ?_
 refine lC 3 cb170 R (Z2a_ok hx34) R ?_
 rintro ⟨⟨A35,N35,D35⟩,⟨A36,N36,D36⟩⟩
 refine lN (ow kT3 3 (.slice A35 N35 D35) r33.Dims::ow kT3 3 (.slice A36 N36 D36) r33.Strides::bxl b2 [(.slice A35 N35 D35),(.slice A36 N36 D36),(iv r33.Offset),(iv r33.Base)] 96::_::W1) ?_
 refine l_len 0 sees_ow ?_
 rintro rfl
 refine l_len 1 sees_ow ?_
 rintro rfl
 refine o_8 ?_
 obtain rfl:=so hr
 exact qF ((A35,r33.Dims.length,D35),(A36,r33.Strides.length,D36)) (tE 6 [0,1,2,4,5,3])
theorem Z2v_ok  {v1:View}{q5:Int}{q7:Int}{q9:Int}{b6:Nat}{b8:Nat}{b10:Nat}{r:View×Int}(hr:Z2v v1 q5 q7 q9=some r) :
 FnOk Tryz.prog 165 [(.agg [(.slice A2 N2 D2),(.slice A3 N3 D3),(iv v1.Offset),(iv v1.Base)].toArray),(.func (.func 169) [].toArray [(pt b6 0),(pt b8 0),(pt b10 0)].toArray)] [rds kT3 (.slice A2 N2 D2) v1.Dims,rds kT3 (.slice A3 N3 D3) v1.Strides,bxl b6 [(iv q5)] 3,bxl b8 [(iv q7)] 3,bxl b10 [(iv q9)] 3] (fun (h:HH×HH)=>((.agg [(s3 h.1),(s3 h.2),(iv r.1.Offset),(iv r.1.Base)].toArray),[ow kT3 3 (s3 h.1) r.1.Dims,ow kT3 3 (s3 h.2) r.1.Strides,bxl b6 [(iv q5)] 3,bxl b8 [(iv q7)] 3,bxl b10 [(iv r.2)] 3])):=by
 unfold Z2v at hr
 refine fn_ok Tryz.func165 R 31 R R fun C V=>?_
 refine cM (bxl _ _ _::bxl _ _ _::bxl _ _ _::rds _ _ _::rds _ _ _::V) (fun w s=>(s.f 5 [2,3,0,2])) ?_
 refine cL 3 sees_rd ?_
 rintro rfl
 refine cL 4 sees_rd ?_
 rintro rfl
 let W0:List HP:=RR kT3 A2 D2 v1.Dims::RR kT3 A3 D3 v1.Strides::V
 refine cN (_::_::_::W0) ?_
 refine o_2 ?_
 refine lBx R fun b11=>?_
 refine l_alloc R R zc96 (fun b12=>(l_nil (qM (bxl _ _ _::bxl _ _ _::bxl _ _ _::bxl _ _ _::bxl _ _ _::W0) (tE 5 [0,2,3,4,1]) ?_)))
 let W1:List HP:=bxl b11 [(sc A2 v1.Dims D2),(sc A3 v1.Strides D3),(iv v1.Offset),(iv v1.Base)] 96::W0
 refine qN (_::_::_::_::W1) ?_
 refine o_3 ?_
 obtain ⟨r13,hx14,hr⟩:=bd hr
 refine o_2 ?_
 refine lM (RR kT3 A2 D2 v1.Dims::RR kT3 A3 D3 v1.Strides::bxl _ _ _::bxl _ _ _::bxl _ _ _::bxl _ _ _::W1) (fun w s=>(((s.d 5 R).d 7 R).e 6 [1,0,2,3,4,5])) ?_
 refine lC 2 cb156 R (Ze_ok hx14) R ?_
 rintro _
 refine lN (_::_::_::_::W1) ?_
 refine o_3 ?_
 rcases bif_ hr with ⟨_,hr⟩|⟨_,hr⟩
 refine o_3 ?_
 refine lO (vz (.agg [(.slice none 0 0),(.slice none 0 0),(iv 0),(iv 0)].toArray) (v_build pl96 zc96 R R)) (l_stores 0 R R sz96 R R R R R R (l_nil (q_next (c_ret (q_ret ?_)))))
 obtain rfl:=so hr
 exact qS ((none,0,0),(none,0,0)) (fun w s=>(((s.nilo kT3 3).nilo kT3 3).e 9 [1,0,3,4,5]))
 refine o_4 ?_
 obtain ⟨r16,hx17,hr⟩:=bd hr
 obtain ⟨r19,hx20,hr⟩:=bd hr
 refine c_cutq (A:=(Unit)×(Nat×HH×HH)) (fun _=>True) (fun a=>[(1,(.func (.func 169) [].toArray [(pt b6 0),(pt b8 0),(pt b10 0)].toArray)),(4,(pt b12 0)),(5,(pt a.2.1 0))]) (fun a=>bxl b6 [(iv q5)] 3::bxl b8 [(iv q7)] 3::bxl b10 [(iv q9)] 3::bxl b12 [(.slice none 0 0),(.slice none 0 0),(iv 0),(iv 0)] 96::bxl a.2.1 [(s3 a.2.2.1),(s3 a.2.2.2),(iv v1.Offset),(iv v1.Base)] 96::ow kT3 3 (s3 a.2.2.1) r16::ow kT3 3 (s3 a.2.2.2) r19::W1) ?_ ?_
 refine cdr 13 [] mixo fun ht hn=>?_
 refine d2_ 0 [] ?_
 refine d2_ 3 [] ?_
 refine d4_ 6 [] ?_
 refine d_all [2,11] (by kernel_rfl) R ⟨?_,?_,trivial⟩
 refine lM (RR kT3 A2 D2 v1.Dims::_::_::_::_::W1) (fun w s=>(s.d 5 R)) ?_
 refine lC 1 cb64 R (Zl_ok hx17) R ?_
 rintro ⟨A18,N18,D18⟩
 refine lN (ow kT3 3 (.slice A18 N18 D18) r16::_::_::_::_::W1) ?_
 refine l_len 0 sees_ow ?_
 rintro rfl
 refine l_nil (q_draw (sL [0]) (d_all [5,11] (by kernel_rfl) R ⟨?_,?_,trivial⟩))
 refine lM (RR kT3 A3 D3 v1.Strides::_::_::_::_::_::W1) (fun w s=>(s.d 7 R)) ?_
 refine lC 1 cb64 R (Zl_ok hx20) R ?_
 rintro ⟨A21,N21,D21⟩
 refine lN (ow kT3 3 (.slice A21 N21 D21) r19::_::_::_::_::_::W1) ?_
 refine l_len 0 sees_ow ?_
 rintro rfl
 refine l_nil (q_draw (sL [1,0]) (dR 10 R (vz (.agg [(sc A18 r16 D18),(sc A21 r19 D21),(iv v1.Offset),(iv v1.Base)].toArray) (v_build pl96 zc96 R R)) (hS:=(sL [1,0])) (d1 11 R (l_alloc R R zc96 (fun b22=>(l_nil (q_draw (sL [2,1,0]) (d1 12 R (l_stores 0 R R sz96 R R R R R R (lN (bxl b22 [(sc A18 r16 D18),(sc A21 r19 D21),(iv v1.Offset),(iv v1.Base)] 96::_::_::_::_::_::_::W1) ?_))))))))))
 refine l_nil (q_draw (sL [2,1,0]) (dD ?_))
 exact q_join ((),(b22,(A18,r16.length,D18),(A21,r19.length,D21))) trivial (aS R) (tE 7 [4,5,6,3,0,2,1])
 refine l_alloc R R zc96 (fun b22=>(l_nil (q_draw (sL [1,0]) (d1 5 R (lM (RR kT3 A3 D3 v1.Strides::_::_::_::_::_::_::W1) (fun w s=>(s.d 8 R)) ?_)))))
 refine lC 1 cb64 R (Zl_ok hx20) R ?_
 rintro ⟨A21,N21,D21⟩
 refine lN (ow kT3 3 (.slice A21 N21 D21) r19::_::_::_::_::_::_::W1) ?_
 refine l_len 0 sees_ow ?_
 rintro rfl
 refine l_nil (q_draw (sL [2,1,0]) (dR 10 R (vz (.agg [(sc A18 r16 D18),(sc A21 r19 D21),(iv v1.Offset),(iv v1.Base)].toArray) (v_build pl96 zc96 R R)) (hS:=(sL [2,1,0])) (d1 12 R (l_stores 1 R R sz96 R R R R R R (lN (_::bxl b22 [(sc A18 r16 D18),(sc A21 r19 D21),(iv v1.Offset),(iv v1.Base)] 96::_::_::_::_::_::W1) ?_)))))
 refine l_nil (q_draw (sL [2,1,0]) (dD ?_))
 exact q_join ((),(b22,(A18,r16.length,D18),(A21,r19.length,D21))) trivial (aS R) (tE 7 [4,5,6,3,1,2,0])
 refine l_alloc R R zc96 (fun b22=>(l_nil (q_draw (sL [0]) (d1 2 R (lM (RR kT3 A2 D2 v1.Dims::_::_::_::_::_::W1) (fun w s=>(s.d 6 R)) ?_)))))
 refine lC 1 cb64 R (Zl_ok hx17) R ?_
 rintro ⟨A18,N18,D18⟩
 refine lN (ow kT3 3 (.slice A18 N18 D18) r16::_::_::_::_::_::W1) ?_
 refine l_len 0 sees_ow ?_
 rintro rfl
 refine l_nil (q_draw (sL [1,0]) (d1 5 R (lM (RR kT3 A3 D3 v1.Strides::_::_::_::_::_::_::W1) (fun w s=>(s.d 8 R)) ?_)))
 refine lC 1 cb64 R (Zl_ok hx20) R ?_
 rintro ⟨A21,N21,D21⟩
 refine lN (ow kT3 3 (.slice A21 N21 D21) r19::_::_::_::_::_::_::W1) ?_
 refine l_len 0 sees_ow ?_
 rintro rfl
 refine l_nil (q_draw (sL [2,1,0]) (dR 10 R (vz (.agg [(sc A18 r16 D18),(sc A21 r19 D21),(iv v1.Offset),(iv v1.Base)].toArray) (v_build pl96 zc96 R R)) (hS:=(sL [2,1,0])) (d1 12 R (l_stores 2 R R sz96 R R R R R R (lN (_::_::bxl b22 [(sc A18 r16 D18),(sc A21 r19 D21),(iv v1.Offset),(iv v1.Base)] 96::_::_::_::_::W1) ?_)))))
 refine l_nil (q_draw (sL [2,1,0]) (dD ?_))
 exact q_join ((),(b22,(A18,r16.length,D18),(A21,r19.length,D21))) trivial (aS R) (tE 7 [4,5,6,3,2,1,0])
 rintro ⟨_,⟨b23,⟨A24,N24,D24⟩,⟨A25,N25,D25⟩⟩⟩ σ1 -
 refine q_len 5 sees_ow (fun (hn:N24=r16.length)=>?_)
 subst hn
 refine q_len 6 sees_ow (fun (hn:N25=r19.length)=>?_)
 subst hn
 refine o_3 ?_
 obtain ⟨r26,hx27,hr⟩:=bd hr
 obtain ⟨r30,hx31,hr⟩:=bd hr
 refine c_cutq (A:=(Unit)×(HH×HH)) (fun _=>True) (fun a=>[(4,(pt b12 0)),(5,(pt b23 0)),(28,(.bool ((!r26.1)||(!r30))))]) (fun a=>bxl b12 [(.slice none 0 0),(.slice none 0 0),(iv 0),(iv 0)] 96::bxl b23 [(s3 a.2.1),(s3 a.2.2),(iv r26.2.1.Offset),(iv r26.2.1.Base)] 96::ow kT3 3 (s3 a.2.1) r26.2.1.Dims::ow kT3 3 (s3 a.2.2) r26.2.1.Strides::bxl b6 [(iv q5)] 3::bxl b8 [(iv q7)] 3::bxl b10 [(iv r26.2.2)] 3::W1) ?_ ?_
 refine c_region (lO (vp _ R) (lM (OO kT3 3 A24 D24 r16::OO kT3 3 A25 D25 r19::bxl b23 [(sc A24 r16 D24),(sc A25 r19 D25),(iv v1.Offset),(iv v1.Base)] 96::bxl _ _ _::bxl _ _ _::bxl _ _ _::bxl _ _ _::W1) (fun w s=>(s.f 7 [5,2,4,1,0,4])) ?_))
 refine l_callvn (fs:=[]) (cs:=[(pt b6 0),(pt b8 0),(pt b10 0)]) 6 R R cb169 R R (Z19_ok (p1:=(⟨r16,r19,v1.Offset,v1.Base⟩:View)) hx27) R ?_
 rintro ⟨⟨A28,N28,D28⟩,⟨A29,N29,D29⟩⟩
 refine lN (ow kT3 3 (.slice A28 N28 D28) r26.2.1.Dims::ow kT3 3 (.slice A29 N29 D29) r26.2.1.Strides::bxl b23 [(.slice A28 N28 D28),(.slice A29 N29 D29),(iv r26.2.1.Offset),(iv r26.2.1.Base)] 96::_::_::bxl b10 [(iv r26.2.2)] 3::_::W1) ?_
 refine l_len 0 sees_ow ?_
 rintro rfl
 refine l_len 1 sees_ow ?_
 rintro rfl
 refine o_2 ?_
 rcases bo (!r26.1) with hc32 | hc32
 refine o_3 ?_
 refine lO (pOT (!r30) R hc32) (l_nil ?_)
 exact q_join ((),((A28,r26.2.1.Dims.length,D28),(A29,r26.2.1.Strides.length,D29))) trivial (aS R) (tE 7 [6,2,0,1,3,4,5])
 refine lW (wnF hc32) (vz (.agg [(sc A28 r26.2.1.Dims D28),(sc A29 r26.2.1.Strides D29),(iv r26.2.1.Offset),(iv r26.2.1.Base)].toArray) (v_loadw 2 ag96 sz96 R R R R)) (l_calln 2 R (wnF hc32) cb156 R (FnOk.lends (A':=[OO kT3 3 A28 D28 r26.2.1.Dims,OO kT3 3 A29 D29 r26.2.1.Strides]) (A:=[RR kT3 A28 D28 r26.2.1.Dims,RR kT3 A29 D29 r26.2.1.Strides]) (B:=[]) (Ze_ok (gcall_t hx31 (not_ff hc32))) ⟨lend_ow,lend_ow,trivial⟩ (fun _=>trivial)) R ?_)
 rintro _
 refine lN (_::_::bxl b23 [(sc A28 r26.2.1.Dims D28),(sc A29 r26.2.1.Strides D29),(iv r26.2.1.Offset),(iv r26.2.1.Base)] 96::_::_::_::_::W1) ?_
 refine o_1 ?_
 refine lO (pOF R hc32 R) (l_nil ?_)
 exact q_join ((),((A28,r26.2.1.Dims.length,D28),(A29,r26.2.1.Strides.length,D29))) trivial (aS R) (tE 7 [6,2,0,1,3,4,5])
 rintro ⟨_,⟨⟨A33,N33,D33⟩,⟨A34,N34,D34⟩⟩⟩ σ1 -
 refine q_len 2 sees_ow (fun (hn:N33=r26.2.1.Dims.length)=>?_)
 subst hn
 refine q_len 3 sees_ow (fun (hn:N34=r26.2.1.Strides.length)=>?_)
 subst hn
 refine o_1 ?_
 rcases bif_ hr with ⟨hb35,hr⟩|⟨hb35,hr⟩
 refine o_3 ?_
 refine lO (vz (.agg [(.slice none 0 0),(.slice none 0 0),(iv 0),(iv 0)].toArray) (v_build pl96 zc96 R R)) (l_stores 0 R R sz96 R R R R R R (lN (_::bxl b23 [(sc A33 r26.2.1.Dims D33),(sc A34 r26.2.1.Strides D34),(iv r26.2.1.Offset),(iv r26.2.1.Base)] 96::OO kT3 3 A33 D33 r26.2.1.Dims::OO kT3 3 A34 D34 r26.2.1.Strides::_::_::_::W1) ?_))
 refine o_4 ?_
 obtain rfl:=so hr
 exact qS ((none,0,0),(none,0,0)) (fun w s=>(((s.nilo kT3 3).nilo kT3 3).e 12 [1,0,6,7,8]))
 refine c_false R hb35 ?_
 refine o_5 ?_
 refine l_stores 0 R R sz96 R R R R R R (lN (bxl b12 [(sc A33 r26.2.1.Dims D33),(sc A34 r26.2.1.Strides D34),(iv r26.2.1.Offset),(iv r26.2.1.Base)] 96::_::_::_::_::_::_::W1) ?_)
 refine o_3 ?_
 obtain rfl:=so hr
 exact qS ((A33,r26.2.1.Dims.length,D33),(A34,r26.2.1.Strides.length,D34)) (fun w s=>(s.f 10 [2,5]))
end Go.Proofs.YtmpnollfdpdipaaGreat
