import Derived.Test.YtmpnollfdpdipaaGreatGkF
import Derived.Test.YtmpnollfdpdipaaGreatGkW5
import Derived.Test.YtmpnollfdpdipaaGreatGkW6
set_option linter.unusedVariables false
set_option maxRecDepth 20000
namespace Go.Proofs.YtmpnollfdpdipaaGreat
open Go Go.Pg
variable {A2 A3 A4 A5 A7 A9 A10 A11 A12 A14:Option Addr}{D2 D3 D4 D5 D7 D9 D10 D11 D12 D14 N2 N3 N4 N5 N7 N9 N10 N11 N12 N14:Nat}
theorem Z1l_ok  {k1:shiftKind}{q2:Int}{q4:Int}{n8:Node}{args13:(List (List Int))}{b3:Nat}{b5:Nat}{b7:Nat}{r:(List Int)×Bool}(hr:Z1l k1 q2 q4 n8 args13=some r) :
 FnOk Tryz.prog 220 [(.agg [(vstr k1.use),(.func (.func 149) [].toArray [(pt b3 0),(pt b5 0),(pt b7 0)].toArray)].toArray),(.agg [(iv n8.Op),(.slice A9 N9 D9),(.slice A10 N10 D10),(.slice A11 N11 D11),(vstr n8.Form),(.slice A12 N12 D12)].toArray),(.slice A14 N14 D14)] [bxl b3 [(iv q2)] 3,bxl b5 [(iv q4)] 3,bxl b7 [(.func (.func 127) [].toArray [].toArray)] 150,rds kT3 (.slice A9 N9 D9) n8.Args,rds kT3 (.slice A10 N10 D10) n8.Dims,rds kT3 (.slice A11 N11 D11) n8.Ints,rds kT3 (.slice A12 N12 D12) n8.Data,rds kT23 (.slice A14 N14 D14) args13] (fun (h:HH)=>((.tuple [(s3 h),(.bool r.2)].toArray),[ow kT3 3 (s3 h) r.1,bxl b3 [(iv q2)] 3,bxl b5 [(iv q4)] 3,bxl b7 [(.func (.func 127) [].toArray [].toArray)] 150])):=by
 unfold Z1l at hr
 refine fn_ok Tryz.func220 R 27 R R fun C V=>?_
 refine cL 3 sees_rd ?_
 rintro rfl
 refine cL 4 sees_rd ?_
 rintro rfl
 refine cL 5 sees_rd ?_
 rintro rfl
 refine cL 6 sees_rd ?_
 rintro rfl
 refine cL 7 sees_rd ?_
 rintro rfl
 let W0:=RR kT3 A9 D9 n8.Args::RR kT3 A10 D10 n8.Dims::RR kT3 A11 D11 n8.Ints::RR kT3 A12 D12 n8.Data::RR kT23 A14 D14 args13::V
 refine o_2 ?_
 refine lBx R fun b15=>?_
 refine lBx R fun b16=>?_
 refine o_3 ?_
 refine qM _ (fun w s=>(s.f 5 [2,3,0,2])) ?_
 let W1:=bxl b16 [(iv n8.Op),(sc A9 n8.Args D9),(sc A10 n8.Dims D10),(sc A11 n8.Ints D11),(vstr n8.Form),(sc A12 n8.Data D12)] 54::bxl b15 [(vstr k1.use),(.func (.func 149) [].toArray [(pt b3 0),(pt b5 0),(pt b7 0)].toArray)] 145::W0
 refine o_9 ?_
 split at hr
 refine o_9 ?_
 cases hr
 exact qT2 (none,0,0) (fun w s=>((s.nilo kT3 3).f 11 [0,4]))
 refine o_4 ?_
 obtain ⟨hg18,hr⟩:=gd hr
 obtain ⟨r22,hx23,hr⟩:=bd hr
 refine c_some 9 sees_rd (show 0<args13.length by have:=hg18; omega) (fun g19 o20 ha=>?_)
 subst ha
 refine c_elem (K:=kT23) 9 (0:Int) dT23.dec R hg18.1 hg18.2 ?_
 rintro ⟨A21,D21⟩
 refine cdr 14 [] mixo fun ht hn=>?_
 refine d5_ 0 [] ?_
 refine dR 5 R (v_clf (fo:=0) 0 ag23 R R R) (d1 6 R (lM _ (fun w s=>((((((s.d 7 R).d 9 R).d 11 R).d 13 R).d 5 R).e 10 [4,3,2,1,0,7,8,9,5,6])) ?_))
 refine l_callvn (fs:=[]) (cs:=[(pt b3 0),(pt b5 0),(pt b7 0)]) 8 R R cb149 R R (Z2l_ok hx23) R ?_
 rintro ⟨⟨A24,N24,D24⟩,⟨A25,N25,D25⟩⟩
 refine l_len 0 sees_ow ?_
 rintro rfl
 refine l_len 1 sees_ow ?_
 rintro rfl
 refine l_nil (q_draw (fun w s=>(s.f 7 [5,2,2,3])) (dR 7 R (vT R) (hS:=(fun w s=>(s.f 7 [5,2,2,3]))) (dR 8 R (vS R) (hS:=(fun w s=>(s.f 7 [5,2,2,3]))) (dR 9 R (vS R) (hS:=(fun w s=>(s.f 7 [5,2,2,3]))) (dR 10 R (vB R) (hS:=(fun w s=>(s.f 7 [5,2,2,3]))) (dR 11 R (vS R) (hS:=(fun w s=>(s.f 7 [5,2,2,3]))) (dR 12 R (vS R) (hS:=(fun w s=>(s.f 7 [5,2,2,3]))) (dR 13 R (vB R) (hS:=(fun w s=>(s.f 7 [5,2,2,3]))) (dD ?_)))))))))
 refine o_10 ?_
 cases hr
 exact qT2 (A24,r22.1.length,D24) (tE 14 [0,2,3,4])
theorem Z0d_ok  {dims1:(List Int)}{axis3:Int}{index4:(List Int)}{r:(List Int)×(List pair)×Bool}(hr:Z0d dims1 axis3 index4=some r) :
 FnOk Tryz.prog 130 [(.slice A2 N2 D2),(iv axis3),(.slice A5 N5 D5)] [rds kT3 (.slice A2 N2 D2) dims1,rds kT3 (.slice A5 N5 D5) index4] (fun (h:HH×HH)=>((.tuple [(s3 h.1),(s3 h.2),(.bool r.2.2)].toArray),[ow kT3 3 (s3 h.1) r.1,ow kT161 161 (s3 h.2) r.2.1])):=by
 unfold Z0d at hr
 refine fn_ok Tryz.func130 R 67 R R fun C V=>?_
 refine cL 0 sees_rd ?_
 rintro rfl
 refine cL 1 sees_rd ?_
 rintro rfl
 let W0:=RR kT3 A2 D2 dims1::RR kT3 A5 D5 index4::V
 refine cN W0 ?_
 refine o_9 ?_
 obtain ⟨r6,hx7,hr⟩:=bd hr
 refine cQ [(0,(sc A2 dims1 D2)),(1,(iv axis3)),(2,(sc A5 index4 D5)),(26,(.bool (((!r6)||((index4.length:Int)==0))||(decide ((index4.length:Int)>4096)))))] (W0) ?_ ?_
 refine o_3 ?_
 refine lM _ (fun w s=>(s.d 0 R)) ?_
 refine lC 1 cb150 R (Zj_ok hx7) R ?_
 rintro _
 refine lN W0 ?_
 refine o_2 ?_
 rcases bo (!r6) with hc8 | hc8
 refine o_10 ?_
 exact qj tI
 refine o_5 ?_
 rcases bo ((!r6)||((index4.length:Int)==0)) with hc9 | hc9
 refine o_5 ?_
 exact qj tI
 refine o_5 ?_
 exact qj tI
 rintro σ1
 refine o_1 ?_
 split at hr
 refine o_10 ?_
 cases hr
 exact qT3 ((none,0,0),(none,0,0)) (fun w s=>(((s.nilo kT3 3).nilo kT161 161).e 4 [1,0]))
 refine o_5 ?_
 refine l_build (K:=kT161) (xs:=([]:List pair)) (vs:=[]) 0 R R sl147 sz161 zc161 R R R R R R ?_ R (fun A11 D11=>?_)
 exact fun I h s=>(mO161).list [] I h s
 refine o_4 ?_
 refine c_cut (A:=((List pair))×(HH×HH)) (fun a=>Z0d_J1 dims1 axis3 index4 a.1=some r) (fun a=>[(0,(sc A2 dims1 D2)),(1,(iv axis3)),(2,(s3 a.2.1)),(9,(s3 a.2.2))]) (fun a=>rds kT3 (s3 a.2.1) index4::ow kT161 161 (s3 a.2.2) a.1::W0) ?_ ?_
 refine o_8 ?_
 obtain ⟨e1,hl1,hk1⟩:=bd hr
 refine c_loop (A:=HH×HH) hl1 (fun s a=>[(0,(sc A2 dims1 D2)),(1,(iv axis3)),(2,(s3 a.1)),(9,(s3 a.2)),(28,(s3 a.1)),(29,(il index4)),(30,(iv s.2))]) (fun s a=>rds kT3 (s3 a.1) index4::ow kT161 161 (s3 a.2) s.1::W0) ((A5,index4.length,D5),(A11,([]:List pair).length,D11)) (aS R) (fun w s=>(s.d 2 R)) ?_
 rintro ⟨list25,x27⟩ ⟨⟨A24,N24,D24⟩,⟨A26,N26,D26⟩⟩ σ1 out1 hr he1
 dsimp only [Z0d_L1] at hr
 refine c_len 0 sees_rd (fun (hn:N24=index4.length)=>?_)
 subst hn
 refine c_len 1 sees_ow (fun (hn:N26=list25.length)=>?_)
 subst hn
 refine o_6 ?_
 split at hr
 refine o_6 ?_
 obtain ⟨hg29,hr⟩:=gd hr
 refine o_2 ?_
 refine t_some 0 sees_rd (show 0<index4.length by have:=hg29; omega) (fun g30 o31 ha=>?_)
 subst ha
 refine o_8 ?_
 obtain ⟨hg32,hr⟩:=gd hr
 refine cQ [(0,(sc A2 dims1 D2)),(1,(iv axis3)),(2,(sc (ad g30 o31) index4 D24)),(9,(sc A26 list25 D26)),(10,(iv x27)),(11,(iv (ix index4 x27))),(28,(sc (ad g30 o31) index4 D24)),(29,(il index4)),(30,(iv x27)),(44,(.bool ((decide ((ix index4 x27)<0))||(decide ((ix index4 x27)≥(ix dims1 axis3))))))] (RR kT3 (ad g30 o31) D24 index4::OO kT161 161 A26 D26 list25::W0) ?_ ?_
 refine o_4 ?_
 rcases bo (decide ((ix index4 x27)<0)) with hc35 | hc35
 refine o_8 ?_
 exact qj tI
 refine o_3 ?_
 refine t_some 2 sees_rd (show 0<dims1.length by have:=(hg32 hc35); omega) (fun g33 o34 ha=>?_)
 subst ha
 refine lW (wnF hc35) (vIa sl23 sz3 R R (hg32 hc35)) (lW (wnF hc35) (vLi 2 ag3 sees_rd R (hg32 hc35)) ?_)
 refine o_3 ?_
 exact qj tI
 rintro σ1
 refine o_1 ?_
 split at hr
 refine o_12 ?_
 cases hr
 obtain rfl:=he1 _ R
 have hr:=hk1
 refine o_3 ?_
 cases hr
 exact qT3 ((none,0,0),(none,0,0)) (fun w s=>(((s.nilo kT3 3).nilo kT161 161).e 6 [1,0]))
 refine o_3 ?_
 obtain ⟨hg38,hr⟩:=gd hr
 refine o_4 ?_
 refine lO (vz (.agg [(iv (ix index4 x27)),(iv x27)].toArray) (v_build pl161 zc161 R R)) (l_build (K:=kT161) (xs:=([(⟨(ix index4 x27),x27⟩:pair)]:List pair)) (vs:=[(.agg [(iv (ix index4 x27)),(iv x27)].toArray)]) 0 R R sl147 sz161 zc161 R R R R R R ?_ R (fun A37 D37=>?_))
 exact fun I h s=>(mO161).list [(((),()),(⟨(ix index4 x27),x27⟩:pair))] I h s
 refine lM _ (tE 3 [2,0,1]) ?_
 refine l_app (K:=kT161) 8796093022208 R R sl147 sz161 by161 (Zr.zk zT161 zc161) R R R R R R src_ow hg38 (fun A39 D39=>(lN (OO kT161 161 A39 D39 (list25++([(⟨(ix index4 x27),x27⟩:pair)]:List pair))::_::W0) ?_))
 refine o_8 ?_
 cases hr
 exact qA (((ad g30 o31),index4.length,D24),(A39,(list25++([(⟨(ix index4 x27),x27⟩:pair)]:List pair)).length,D39)) (tE 2 [1,0])
 refine o_3 ?_
 cases hr
 obtain rfl:=he1 _ R
 have hr:=hk1
 refine o_2 ?_
 exact qI (list25,((A24,index4.length,D24),(A26,list25.length,D26))) hr tI
 rintro ⟨list45,⟨⟨A44,N44,D44⟩,⟨A46,N46,D46⟩⟩⟩ σ1 hr
 dsimp only [Z0d_J1] at hr
 refine c_len 0 sees_rd (fun (hn:N44=index4.length)=>?_)
 subst hn
 refine c_len 1 sees_ow (fun (hn:N46=list45.length)=>?_)
 subst hn
 refine o_1 ?_
 obtain ⟨r47,hx48,hr⟩:=bd hr
 refine o_5 ?_
 refine lM _ (fun w s=>(s.d 2 R)) ?_
 refine lC 1 cb151 R (Z1i_ok hx48) R ?_
 rintro ⟨A49,N49,D49⟩
 refine l_len 0 sees_ow ?_
 rintro rfl
 refine o_5 ?_
 obtain ⟨r50,hx51,hr⟩:=bd hr
 refine o_2 ?_
 refine lC 1 cb147 R (FnOk.lends (A':=[OO kT3 3 A49 D49 r47]) (A:=[RR kT3 A49 D49 r47]) (B:=[]) (Zb_ok hx51) ⟨lend_ow,trivial⟩ (fun _=>trivial)) R ?_
 rintro _
 refine o_3 ?_
 split at hr
 refine o_10 ?_
 cases hr
 exact qT3 ((none,0,0),(none,0,0)) (fun w s=>(((s.nilo kT3 3).nilo kT161 161).e 7 [1,0]))
 refine o_4 ?_
 obtain ⟨r53,hx54,hr⟩:=bd hr
 refine o_7 ?_
 refine lM _ (fun w s=>((s.d 3 R).e 4 [3,0,1,2])) ?_
 refine lC 2 cb152 R (FnOk.lends (A':=[OO kT161 161 A46 D46 list45]) (A:=[RR kT161 A46 D46 list45]) (B:=[RR kT3 A2 D2 dims1]) (FnOk.perm (Z7_ok hx54) (Pre':=[RR kT161 A46 D46 list45,RR kT3 A2 D2 dims1]) (fun _ _ _ s=>(s.e 2 [1,0]))) ⟨lend_ow,trivial⟩ (fun _=>⟨(closed_ow cT161),trivial⟩)) R ?_
 rintro ⟨A55,N55,D55⟩
 refine l_len 1 sees_ow ?_
 rintro rfl
 refine o_6 ?_
 cases hr
 exact qT3 ((A49,r47.length,D49),(A55,r53.length,D55)) (tE 6 [2,1])
theorem Z1w_ok  {p1:(List Int)}{dims3:(List Int)}{r:(List Int)×(List pair)×Bool}(hr:Z1w p1 dims3=some r) :
 FnOk Tryz.prog 129 [(.slice A2 N2 D2),(.slice A4 N4 D4)] [rds kT3 (.slice A2 N2 D2) p1,rds kT3 (.slice A4 N4 D4) dims3] (fun (h:HH×HH)=>((.tuple [(s3 h.1),(s3 h.2),(.bool r.2.2)].toArray),[ow kT3 3 (s3 h.1) r.1,ow kT161 161 (s3 h.2) r.2.1])):=by
 unfold Z1w at hr
 refine fn_ok Tryz.func129 R 17 R R fun C V=>?_
 refine cL 0 sees_rd ?_
 rintro rfl
 refine cL 1 sees_rd ?_
 rintro rfl
 let W0:=RR kT3 A2 D2 p1::RR kT3 A4 D4 dims3::V
 refine cN W0 ?_
 refine o_8 ?_
 obtain ⟨hg5,hr⟩:=gd hr
 obtain ⟨hg8,hr⟩:=gd hr
 obtain ⟨r10,hx11,hr⟩:=bd hr
 refine c_some 0 sees_rd (show 0<p1.length by have:=hg5; omega) (fun g6 o7 ha=>?_)
 subst ha
 refine cdr 13 [] mixo fun ht hn=>?_
 refine d5_ 0 [] ?_
 refine d1 5 R (l_cut (K:=kT3) (1:Int) (p1.length:Int) 0 R R sl23 sz3 R R R R hg8.1 hg8.2.1 hg8.2.2 (fun A9 D9=>(l_nil (q_draw (sL [0]) (d1 6 R (lM _ (fun w s=>(((s.d 2 R).d 1 R).e 3 [1,0,2])) ?_))))))
 refine lC 2 cb130 R (Z0d_ok hx11) R ?_
 rintro ⟨⟨A12,N12,D12⟩,⟨A13,N13,D13⟩⟩
 refine l_len 0 sees_ow ?_
 rintro rfl
 refine l_len 1 sees_ow ?_
 rintro rfl
 refine l_nil (q_draw (sL [2,1,0]) ?_)
 refine d6_ 7 [2,1,0] ?_
 refine dD ?_
 refine o_2 ?_
 cases hr
 exact qT3 ((A12,r10.1.length,D12),(A13,r10.2.1.length,D13)) (tE 5 [0,1])
theorem Z2m_ok  {n1:Node}{dims6:(List Int)}{p8:Int}{p10:Int}{b9:Nat}{b11:Nat}{b13:Nat}{r:(List Int)×(List pair)×Bool}(hr:Z2m n1 dims6 p8 p10=some r) :
 FnOk Tryz.prog 149 [(.agg [(iv n1.Op),(.slice A2 N2 D2),(.slice A3 N3 D3),(.slice A4 N4 D4),(vstr n1.Form),(.slice A5 N5 D5)].toArray),(.slice A7 N7 D7),(pt b9 0),(pt b11 0),(pt b13 0)] [rds kT3 (.slice A2 N2 D2) n1.Args,rds kT3 (.slice A3 N3 D3) n1.Dims,rds kT3 (.slice A4 N4 D4) n1.Ints,rds kT3 (.slice A5 N5 D5) n1.Data,rds kT3 (.slice A7 N7 D7) dims6,bxl b9 [(iv p8)] 3,bxl b11 [(iv p10)] 3,bxl b13 [(.func (.func 129) [].toArray [].toArray)] 150] (fun (h:HH×HH)=>((.tuple [(s3 h.1),(s3 h.2),(.bool r.2.2)].toArray),[ow kT3 3 (s3 h.1) r.1,ow kT161 161 (s3 h.2) r.2.1,bxl b9 [(iv p8)] 3,bxl b11 [(iv p10)] 3,bxl b13 [(.func (.func 129) [].toArray [].toArray)] 150])):=by
 unfold Z2m at hr
 refine fn_ok Tryz.func149 R 30 R R fun C V=>?_
 refine cM _ (fun w s=>(s.f 8 [5,3,0,5])) ?_
 refine cL 3 sees_rd ?_
 rintro rfl
 refine cL 4 sees_rd ?_
 rintro rfl
 refine cL 5 sees_rd ?_
 rintro rfl
 refine cL 6 sees_rd ?_
 rintro rfl
 refine cL 7 sees_rd ?_
 rintro rfl
 let W0:=RR kT3 A2 D2 n1.Args::RR kT3 A3 D3 n1.Dims::RR kT3 A4 D4 n1.Ints::RR kT3 A5 D5 n1.Data::RR kT3 A7 D7 dims6::V
 refine o_2 ?_
 refine lBx R fun b14=>?_
 refine o_4 ?_
 let W1:=bxl b14 [(iv n1.Op),(sc A2 n1.Args D2),(sc A3 n1.Dims D3),(sc A4 n1.Ints D4),(vstr n1.Form),(sc A5 n1.Data D5)] 54::bxl b9 [(iv p8)] 3::bxl b11 [(iv p10)] 3::bxl b13 [(.func (.func 129) [].toArray [].toArray)] 150::W0
 refine qN W1 ?_
 refine o_3 ?_
 refine cQ [(1,(sc A7 dims6 D7)),(4,(pt b13 0)),(5,(pt b14 0)),(21,(.bool ((decide ((n1.Ints.length:Int)<p8))||(decide ((n1.Ints.length:Int)>p10)))))] (W1) ?_ ?_
 refine o_7 ?_
 rcases bo (decide ((n1.Ints.length:Int)<p8)) with hc15 | hc15
 refine o_7 ?_
 exact qj tI
 refine o_7 ?_
 exact qj tI
 rintro σ1
 refine o_1 ?_
 split at hr
 refine o_10 ?_
 cases hr
 exact qT3 ((none,0,0),(none,0,0)) (fun w s=>(((s.nilo kT3 3).nilo kT161 161).e 11 [1,0,3,4,5]))
 refine o_4 ?_
 obtain ⟨r17,hx18,hr⟩:=bd hr
 refine o_5 ?_
 refine lM _ (fun w s=>(((s.d 6 R).d 9 R).e 2 [1,0])) ?_
 refine l_callvn (fs:=[]) (cs:=[]) 2 R R cb129 R R (Z1w_ok hx18) R ?_
 rintro ⟨⟨A19,N19,D19⟩,⟨A20,N20,D20⟩⟩
 refine l_len 0 sees_ow ?_
 rintro rfl
 refine l_len 1 sees_ow ?_
 rintro rfl
 refine o_9 ?_
 cases hr
 exact qT3 ((A19,r17.1.length,D19),(A20,r17.2.1.length,D20)) (fun w s=>(s.f 11 [0,2,3,3]))
theorem Z1m_ok  {k1:shiftKind}{q2:Int}{q4:Int}{n8:Node}{args13:(List (List Int))}{b3:Nat}{b5:Nat}{b7:Nat}{r:(List Int)×Bool}(hr:Z1m k1 q2 q4 n8 args13=some r) :
 FnOk Tryz.prog 220 [(.agg [(vstr k1.use),(.func (.func 149) [].toArray [(pt b3 0),(pt b5 0),(pt b7 0)].toArray)].toArray),(.agg [(iv n8.Op),(.slice A9 N9 D9),(.slice A10 N10 D10),(.slice A11 N11 D11),(vstr n8.Form),(.slice A12 N12 D12)].toArray),(.slice A14 N14 D14)] [bxl b3 [(iv q2)] 3,bxl b5 [(iv q4)] 3,bxl b7 [(.func (.func 129) [].toArray [].toArray)] 150,rds kT3 (.slice A9 N9 D9) n8.Args,rds kT3 (.slice A10 N10 D10) n8.Dims,rds kT3 (.slice A11 N11 D11) n8.Ints,rds kT3 (.slice A12 N12 D12) n8.Data,rds kT23 (.slice A14 N14 D14) args13] (fun (h:HH)=>((.tuple [(s3 h),(.bool r.2)].toArray),[ow kT3 3 (s3 h) r.1,bxl b3 [(iv q2)] 3,bxl b5 [(iv q4)] 3,bxl b7 [(.func (.func 129) [].toArray [].toArray)] 150])):=by
 unfold Z1m at hr
 refine fn_ok Tryz.func220 R 27 R R fun C V=>?_
 refine cL 3 sees_rd ?_
 rintro rfl
 refine cL 4 sees_rd ?_
 rintro rfl
 refine cL 5 sees_rd ?_
 rintro rfl
 refine cL 6 sees_rd ?_
 rintro rfl
 refine cL 7 sees_rd ?_
 rintro rfl
 let W0:=RR kT3 A9 D9 n8.Args::RR kT3 A10 D10 n8.Dims::RR kT3 A11 D11 n8.Ints::RR kT3 A12 D12 n8.Data::RR kT23 A14 D14 args13::V
 refine o_2 ?_
 refine lBx R fun b15=>?_
 refine lBx R fun b16=>?_
 refine o_3 ?_
 refine qM _ (fun w s=>(s.f 5 [2,3,0,2])) ?_
 let W1:=bxl b16 [(iv n8.Op),(sc A9 n8.Args D9),(sc A10 n8.Dims D10),(sc A11 n8.Ints D11),(vstr n8.Form),(sc A12 n8.Data D12)] 54::bxl b15 [(vstr k1.use),(.func (.func 149) [].toArray [(pt b3 0),(pt b5 0),(pt b7 0)].toArray)] 145::W0
 refine o_9 ?_
 split at hr
 refine o_9 ?_
 cases hr
 exact qT2 (none,0,0) (fun w s=>((s.nilo kT3 3).f 11 [0,4]))
 refine o_4 ?_
 obtain ⟨hg18,hr⟩:=gd hr
 obtain ⟨r22,hx23,hr⟩:=bd hr
 refine c_some 9 sees_rd (show 0<args13.length by have:=hg18; omega) (fun g19 o20 ha=>?_)
 subst ha
 refine c_elem (K:=kT23) 9 (0:Int) dT23.dec R hg18.1 hg18.2 ?_
 rintro ⟨A21,D21⟩
 refine cdr 14 [] mixo fun ht hn=>?_
 refine d5_ 0 [] ?_
 refine dR 5 R (v_clf (fo:=0) 0 ag23 R R R) (d1 6 R (lM _ (fun w s=>((((((s.d 7 R).d 9 R).d 11 R).d 13 R).d 5 R).e 10 [4,3,2,1,0,7,8,9,5,6])) ?_))
 refine l_callvn (fs:=[]) (cs:=[(pt b3 0),(pt b5 0),(pt b7 0)]) 8 R R cb149 R R (Z2m_ok hx23) R ?_
 rintro ⟨⟨A24,N24,D24⟩,⟨A25,N25,D25⟩⟩
 refine l_len 0 sees_ow ?_
 rintro rfl
 refine l_len 1 sees_ow ?_
 rintro rfl
 refine l_nil (q_draw (fun w s=>(s.f 7 [5,2,2,3])) (dR 7 R (vT R) (hS:=(fun w s=>(s.f 7 [5,2,2,3]))) (dR 8 R (vS R) (hS:=(fun w s=>(s.f 7 [5,2,2,3]))) (dR 9 R (vS R) (hS:=(fun w s=>(s.f 7 [5,2,2,3]))) (dR 10 R (vB R) (hS:=(fun w s=>(s.f 7 [5,2,2,3]))) (dR 11 R (vS R) (hS:=(fun w s=>(s.f 7 [5,2,2,3]))) (dR 12 R (vS R) (hS:=(fun w s=>(s.f 7 [5,2,2,3]))) (dR 13 R (vB R) (hS:=(fun w s=>(s.f 7 [5,2,2,3]))) (dD ?_)))))))))
 refine o_10 ?_
 cases hr
 exact qT2 (A24,r22.1.length,D24) (tE 14 [0,2,3,4])
theorem Z0e_ok  {dims1:(List Int)}{axis3:Int}{index4:(List Int)}{n6:Int}{r:(List Int)×(List pair)×Bool}(hr:Z0e dims1 axis3 index4 n6=some r) :
 FnOk Tryz.prog 132 [(.slice A2 N2 D2),(iv axis3),(.slice A5 N5 D5),(iv n6)] [rds kT3 (.slice A2 N2 D2) dims1,rds kT3 (.slice A5 N5 D5) index4] (fun (h:HH×HH)=>((.tuple [(s3 h.1),(s3 h.2),(.bool r.2.2)].toArray),[ow kT3 3 (s3 h.1) r.1,ow kT161 161 (s3 h.2) r.2.1])):=by
 unfold Z0e at hr
 refine fn_ok Tryz.func132 R 67 R R fun C V=>?_
 refine cL 0 sees_rd ?_
 rintro rfl
 refine cL 1 sees_rd ?_
 rintro rfl
 let W0:=RR kT3 A2 D2 dims1::RR kT3 A5 D5 index4::V
 refine cN W0 ?_
 refine o_9 ?_
 obtain ⟨r7,hx8,hr⟩:=bd hr
 obtain ⟨hg9,hr⟩:=gd hr
 refine cQ [(0,(sc A2 dims1 D2)),(1,(iv axis3)),(2,(sc A5 index4 D5)),(3,(iv n6)),(31,(.bool (((!r7)||((index4.length:Int) != (ix dims1 axis3)))||(decide (n6<1)))))] (W0) ?_ ?_
 refine o_3 ?_
 refine lM _ (fun w s=>(s.d 0 R)) ?_
 refine lC 1 cb150 R (Zj_ok hx8) R ?_
 rintro _
 refine lN W0 ?_
 refine o_2 ?_
 rcases bo (!r7) with hc12 | hc12
 refine o_13 ?_
 exact qj tI
 refine o_4 ?_
 refine t_some 0 sees_rd (show 0<dims1.length by have:=(hg9 hc12); omega) (fun g10 o11 ha=>?_)
 subst ha
 refine lW (wnF hc12) (vIa sl23 sz3 R R (hg9 hc12)) (lW (wnF hc12) (vLi 0 ag3 sees_rd R (hg9 hc12)) ?_)
 refine o_3 ?_
 rcases bo ((!r7)||((index4.length:Int) != (ix dims1 axis3))) with hc13 | hc13
 refine o_4 ?_
 exact qj tI
 refine o_4 ?_
 exact qj tI
 rintro σ1
 refine o_1 ?_
 split at hr
 refine o_10 ?_
 cases hr
 exact qT3 ((none,0,0),(none,0,0)) (fun w s=>(((s.nilo kT3 3).nilo kT161 161).e 4 [1,0]))
 refine o_5 ?_
 refine l_build (K:=kT161) (xs:=([]:List pair)) (vs:=[]) 0 R R sl147 sz161 zc161 R R R R R R ?_ R (fun A15 D15=>?_)
 exact fun I h s=>(mO161).list [] I h s
 refine o_4 ?_
 refine c_cut (A:=((List pair))×(HH)) (fun a=>Z0e_J1 dims1 axis3 n6 a.1=some r) (fun a=>[(0,(sc A2 dims1 D2)),(1,(iv axis3)),(3,(iv n6)),(11,(s3 a.2))]) (fun a=>ow kT161 161 (s3 a.2) a.1::W0) ?_ ?_
 refine o_8 ?_
 obtain ⟨e1,hl1,hk1⟩:=bd hr
 refine c_loop (A:=HH×HH) hl1 (fun s a=>[(0,(sc A2 dims1 D2)),(1,(iv axis3)),(3,(iv n6)),(11,(s3 a.1)),(33,(s3 a.2)),(34,(il index4)),(35,(iv s.2))]) (fun s a=>ow kT161 161 (s3 a.1) s.1::rds kT3 (s3 a.2) index4::W0) ((A15,([]:List pair).length,D15),(A5,index4.length,D5)) (aS R) (fun w s=>((s.d 2 R).e 2 [1,0])) ?_
 rintro ⟨list25,x28⟩ ⟨⟨A26,N26,D26⟩,⟨A27,N27,D27⟩⟩ σ1 out1 hr he1
 dsimp only [Z0e_L1] at hr
 refine c_len 0 sees_ow (fun (hn:N26=list25.length)=>?_)
 subst hn
 refine c_len 1 sees_rd (fun (hn:N27=index4.length)=>?_)
 subst hn
 refine o_6 ?_
 split at hr
 refine o_6 ?_
 obtain ⟨hg30,hr⟩:=gd hr
 refine o_2 ?_
 refine t_some 1 sees_rd (show 0<index4.length by have:=hg30; omega) (fun g31 o32 ha=>?_)
 subst ha
 refine o_8 ?_
 refine cQ [(0,(sc A2 dims1 D2)),(1,(iv axis3)),(3,(iv n6)),(11,(sc A26 list25 D26)),(12,(iv x28)),(13,(iv (ix index4 x28))),(33,(sc (ad g31 o32) index4 D27)),(34,(il index4)),(35,(iv x28)),(46,(.bool ((decide ((ix index4 x28)<0))||(decide ((ix index4 x28)≥n6)))))] (OO kT161 161 A26 D26 list25::RR kT3 (ad g31 o32) D27 index4::W0) ?_ ?_
 refine o_4 ?_
 rcases bo (decide ((ix index4 x28)<0)) with hc33 | hc33
 refine o_5 ?_
 exact qj tI
 refine o_5 ?_
 exact qj tI
 rintro σ1
 refine o_1 ?_
 split at hr
 refine o_12 ?_
 cases hr
 obtain rfl:=he1 _ R
 have hr:=hk1
 refine o_3 ?_
 cases hr
 exact qT3 ((none,0,0),(none,0,0)) (fun w s=>(((s.nilo kT3 3).nilo kT161 161).e 6 [1,0]))
 refine o_3 ?_
 obtain ⟨hg36,hr⟩:=gd hr
 refine o_4 ?_
 refine lO (vz (.agg [(iv x28),(iv (ix index4 x28))].toArray) (v_build pl161 zc161 R R)) (l_build (K:=kT161) (xs:=([(⟨x28,(ix index4 x28)⟩:pair)]:List pair)) (vs:=[(.agg [(iv x28),(iv (ix index4 x28))].toArray)]) 0 R R sl147 sz161 zc161 R R R R R R ?_ R (fun A35 D35=>?_))
 exact fun I h s=>(mO161).list [(((),()),(⟨x28,(ix index4 x28)⟩:pair))] I h s
 refine lM _ (tE 3 [1,0,2]) ?_
 refine l_app (K:=kT161) 8796093022208 R R sl147 sz161 by161 (Zr.zk zT161 zc161) R R R R R R src_ow hg36 (fun A37 D37=>(lN (OO kT161 161 A37 D37 (list25++([(⟨x28,(ix index4 x28)⟩:pair)]:List pair))::_::W0) ?_))
 refine o_8 ?_
 cases hr
 exact qA ((A37,(list25++([(⟨x28,(ix index4 x28)⟩:pair)]:List pair)).length,D37),((ad g31 o32),index4.length,D27)) tI
 refine o_3 ?_
 cases hr
 obtain rfl:=he1 _ R
 have hr:=hk1
 refine o_2 ?_
 exact qI (list25,(A26,list25.length,D26)) hr (tE 2 [0])
 rintro ⟨list42,⟨A43,N43,D43⟩⟩ σ1 hr
 dsimp only [Z0e_J1] at hr
 refine c_len 0 sees_ow (fun (hn:N43=list42.length)=>?_)
 subst hn
 refine o_1 ?_
 obtain ⟨r44,hx45,hr⟩:=bd hr
 refine o_4 ?_
 refine lM _ (fun w s=>(s.d 1 R)) ?_
 refine lC 1 cb151 R (Z1i_ok hx45) R ?_
 rintro ⟨A46,N46,D46⟩
 refine l_len 0 sees_ow ?_
 rintro rfl
 refine o_5 ?_
 obtain ⟨r47,hx48,hr⟩:=bd hr
 refine o_2 ?_
 refine lC 1 cb147 R (FnOk.lends (A':=[OO kT3 3 A46 D46 r44]) (A:=[RR kT3 A46 D46 r44]) (B:=[]) (Zb_ok hx48) ⟨lend_ow,trivial⟩ (fun _=>trivial)) R ?_
 rintro _
 refine o_3 ?_
 split at hr
 refine o_10 ?_
 cases hr
 exact qT3 ((none,0,0),(none,0,0)) (fun w s=>(((s.nilo kT3 3).nilo kT161 161).e 6 [1,0]))
 refine o_4 ?_
 obtain ⟨r50,hx51,hr⟩:=bd hr
 refine o_6 ?_
 refine lM _ (fun w s=>((s.d 2 R).e 3 [2,0,1])) ?_
 refine lC 2 cb152 R (FnOk.lends (A':=[OO kT161 161 A43 D43 list42]) (A:=[RR kT161 A43 D43 list42]) (B:=[RR kT3 A2 D2 dims1]) (FnOk.perm (Z7_ok hx51) (Pre':=[RR kT161 A43 D43 list42,RR kT3 A2 D2 dims1]) (fun _ _ _ s=>(s.e 2 [1,0]))) ⟨lend_ow,trivial⟩ (fun _=>⟨(closed_ow cT161),trivial⟩)) R ?_
 rintro ⟨A52,N52,D52⟩
 refine l_len 1 sees_ow ?_
 rintro rfl
 refine o_6 ?_
 cases hr
 exact qT3 ((A46,r44.length,D46),(A52,r50.length,D52)) (tE 5 [2,1])
theorem Z1x_ok  {p1:(List Int)}{dims3:(List Int)}{r:(List Int)×(List pair)×Bool}(hr:Z1x p1 dims3=some r) :
 FnOk Tryz.prog 131 [(.slice A2 N2 D2),(.slice A4 N4 D4)] [rds kT3 (.slice A2 N2 D2) p1,rds kT3 (.slice A4 N4 D4) dims3] (fun (h:HH×HH)=>((.tuple [(s3 h.1),(s3 h.2),(.bool r.2.2)].toArray),[ow kT3 3 (s3 h.1) r.1,ow kT161 161 (s3 h.2) r.2.1])):=by
 unfold Z1x at hr
 refine fn_ok Tryz.func131 R 20 R R fun C V=>?_
 refine cL 0 sees_rd ?_
 rintro rfl
 refine cL 1 sees_rd ?_
 rintro rfl
 let W0:=RR kT3 A2 D2 p1::RR kT3 A4 D4 dims3::V
 refine cN W0 ?_
 refine o_8 ?_
 obtain ⟨hg5,hr⟩:=gd hr
 obtain ⟨hg8,hr⟩:=gd hr
 obtain ⟨_,hr⟩:=gd hr
 obtain ⟨r11,hx12,hr⟩:=bd hr
 refine c_some 0 sees_rd (show 0<p1.length by have:=hg5; omega) (fun g6 o7 ha=>?_)
 subst ha
 refine cdr 16 [] mixo fun ht hn=>?_
 refine d5_ 0 [] ?_
 refine d3_ 6 [] ?_
 refine d1 5 R (l_cut (K:=kT3) (2:Int) (p1.length:Int) 0 R R sl23 sz3 R R R R hg8.1 hg8.2.1 hg8.2.2 (fun A9 D9=>(l_nil (q_draw (sL [0]) (d1 9 R (lM _ (fun w s=>(((s.d 2 R).d 1 R).e 3 [1,0,2])) ?_))))))
 refine lC 2 cb132 R (Z0e_ok hx12) R ?_
 rintro ⟨⟨A13,N13,D13⟩,⟨A14,N14,D14⟩⟩
 refine l_len 0 sees_ow ?_
 rintro rfl
 refine l_len 1 sees_ow ?_
 rintro rfl
 refine l_nil (q_draw (sL [2,1,0]) ?_)
 refine d6_ 10 [2,1,0] ?_
 refine dD ?_
 refine o_2 ?_
 cases hr
 exact qT3 ((A13,r11.1.length,D13),(A14,r11.2.1.length,D14)) (tE 5 [0,1])
theorem Z2n_ok  {n1:Node}{dims6:(List Int)}{p8:Int}{p10:Int}{b9:Nat}{b11:Nat}{b13:Nat}{r:(List Int)×(List pair)×Bool}(hr:Z2n n1 dims6 p8 p10=some r) :
 FnOk Tryz.prog 149 [(.agg [(iv n1.Op),(.slice A2 N2 D2),(.slice A3 N3 D3),(.slice A4 N4 D4),(vstr n1.Form),(.slice A5 N5 D5)].toArray),(.slice A7 N7 D7),(pt b9 0),(pt b11 0),(pt b13 0)] [rds kT3 (.slice A2 N2 D2) n1.Args,rds kT3 (.slice A3 N3 D3) n1.Dims,rds kT3 (.slice A4 N4 D4) n1.Ints,rds kT3 (.slice A5 N5 D5) n1.Data,rds kT3 (.slice A7 N7 D7) dims6,bxl b9 [(iv p8)] 3,bxl b11 [(iv p10)] 3,bxl b13 [(.func (.func 131) [].toArray [].toArray)] 150] (fun (h:HH×HH)=>((.tuple [(s3 h.1),(s3 h.2),(.bool r.2.2)].toArray),[ow kT3 3 (s3 h.1) r.1,ow kT161 161 (s3 h.2) r.2.1,bxl b9 [(iv p8)] 3,bxl b11 [(iv p10)] 3,bxl b13 [(.func (.func 131) [].toArray [].toArray)] 150])):=by
 unfold Z2n at hr
 refine fn_ok Tryz.func149 R 30 R R fun C V=>?_
 refine cM _ (fun w s=>(s.f 8 [5,3,0,5])) ?_
 refine cL 3 sees_rd ?_
 rintro rfl
 refine cL 4 sees_rd ?_
 rintro rfl
 refine cL 5 sees_rd ?_
 rintro rfl
 refine cL 6 sees_rd ?_
 rintro rfl
 refine cL 7 sees_rd ?_
 rintro rfl
 let W0:=RR kT3 A2 D2 n1.Args::RR kT3 A3 D3 n1.Dims::RR kT3 A4 D4 n1.Ints::RR kT3 A5 D5 n1.Data::RR kT3 A7 D7 dims6::V
 refine o_2 ?_
 refine lBx R fun b14=>?_
 refine o_4 ?_
 let W1:=bxl b14 [(iv n1.Op),(sc A2 n1.Args D2),(sc A3 n1.Dims D3),(sc A4 n1.Ints D4),(vstr n1.Form),(sc A5 n1.Data D5)] 54::bxl b9 [(iv p8)] 3::bxl b11 [(iv p10)] 3::bxl b13 [(.func (.func 131) [].toArray [].toArray)] 150::W0
 refine qN W1 ?_
 refine o_3 ?_
 refine cQ [(1,(sc A7 dims6 D7)),(4,(pt b13 0)),(5,(pt b14 0)),(21,(.bool ((decide ((n1.Ints.length:Int)<p8))||(decide ((n1.Ints.length:Int)>p10)))))] (W1) ?_ ?_
 refine o_7 ?_
 rcases bo (decide ((n1.Ints.length:Int)<p8)) with hc15 | hc15
 refine o_7 ?_
 exact qj tI
 refine o_7 ?_
 exact qj tI
 rintro σ1
 refine o_1 ?_
 split at hr
 refine o_10 ?_
 cases hr
 exact qT3 ((none,0,0),(none,0,0)) (fun w s=>(((s.nilo kT3 3).nilo kT161 161).e 11 [1,0,3,4,5]))
 refine o_4 ?_
 obtain ⟨r17,hx18,hr⟩:=bd hr
 refine o_5 ?_
 refine lM _ (fun w s=>(((s.d 6 R).d 9 R).e 2 [1,0])) ?_
 refine l_callvn (fs:=[]) (cs:=[]) 2 R R cb131 R R (Z1x_ok hx18) R ?_
 rintro ⟨⟨A19,N19,D19⟩,⟨A20,N20,D20⟩⟩
 refine l_len 0 sees_ow ?_
 rintro rfl
 refine l_len 1 sees_ow ?_
 rintro rfl
 refine o_9 ?_
 cases hr
 exact qT3 ((A19,r17.1.length,D19),(A20,r17.2.1.length,D20)) (fun w s=>(s.f 11 [0,2,3,3]))
theorem Z1n_ok  {k1:shiftKind}{q2:Int}{q4:Int}{n8:Node}{args13:(List (List Int))}{b3:Nat}{b5:Nat}{b7:Nat}{r:(List Int)×Bool}(hr:Z1n k1 q2 q4 n8 args13=some r) :
 FnOk Tryz.prog 220 [(.agg [(vstr k1.use),(.func (.func 149) [].toArray [(pt b3 0),(pt b5 0),(pt b7 0)].toArray)].toArray),(.agg [(iv n8.Op),(.slice A9 N9 D9),(.slice A10 N10 D10),(.slice A11 N11 D11),(vstr n8.Form),(.slice A12 N12 D12)].toArray),(.slice A14 N14 D14)] [bxl b3 [(iv q2)] 3,bxl b5 [(iv q4)] 3,bxl b7 [(.func (.func 131) [].toArray [].toArray)] 150,rds kT3 (.slice A9 N9 D9) n8.Args,rds kT3 (.slice A10 N10 D10) n8.Dims,rds kT3 (.slice A11 N11 D11) n8.Ints,rds kT3 (.slice A12 N12 D12) n8.Data,rds kT23 (.slice A14 N14 D14) args13] (fun (h:HH)=>((.tuple [(s3 h),(.bool r.2)].toArray),[ow kT3 3 (s3 h) r.1,bxl b3 [(iv q2)] 3,bxl b5 [(iv q4)] 3,bxl b7 [(.func (.func 131) [].toArray [].toArray)] 150])):=by
 unfold Z1n at hr
 refine fn_ok Tryz.func220 R 27 R R fun C V=>?_
 refine cL 3 sees_rd ?_
 rintro rfl
 refine cL 4 sees_rd ?_
 rintro rfl
 refine cL 5 sees_rd ?_
 rintro rfl
 refine cL 6 sees_rd ?_
 rintro rfl
 refine cL 7 sees_rd ?_
 rintro rfl
 let W0:=RR kT3 A9 D9 n8.Args::RR kT3 A10 D10 n8.Dims::RR kT3 A11 D11 n8.Ints::RR kT3 A12 D12 n8.Data::RR kT23 A14 D14 args13::V
 refine o_2 ?_
 refine lBx R fun b15=>?_
 refine lBx R fun b16=>?_
 refine o_3 ?_
 refine qM _ (fun w s=>(s.f 5 [2,3,0,2])) ?_
 let W1:=bxl b16 [(iv n8.Op),(sc A9 n8.Args D9),(sc A10 n8.Dims D10),(sc A11 n8.Ints D11),(vstr n8.Form),(sc A12 n8.Data D12)] 54::bxl b15 [(vstr k1.use),(.func (.func 149) [].toArray [(pt b3 0),(pt b5 0),(pt b7 0)].toArray)] 145::W0
 refine o_9 ?_
 split at hr
 refine o_9 ?_
 cases hr
 exact qT2 (none,0,0) (fun w s=>((s.nilo kT3 3).f 11 [0,4]))
 refine o_4 ?_
 obtain ⟨hg18,hr⟩:=gd hr
 obtain ⟨r22,hx23,hr⟩:=bd hr
 refine c_some 9 sees_rd (show 0<args13.length by have:=hg18; omega) (fun g19 o20 ha=>?_)
 subst ha
 refine c_elem (K:=kT23) 9 (0:Int) dT23.dec R hg18.1 hg18.2 ?_
 rintro ⟨A21,D21⟩
 refine cdr 14 [] mixo fun ht hn=>?_
 refine d5_ 0 [] ?_
 refine dR 5 R (v_clf (fo:=0) 0 ag23 R R R) (d1 6 R (lM _ (fun w s=>((((((s.d 7 R).d 9 R).d 11 R).d 13 R).d 5 R).e 10 [4,3,2,1,0,7,8,9,5,6])) ?_))
 refine l_callvn (fs:=[]) (cs:=[(pt b3 0),(pt b5 0),(pt b7 0)]) 8 R R cb149 R R (Z2n_ok hx23) R ?_
 rintro ⟨⟨A24,N24,D24⟩,⟨A25,N25,D25⟩⟩
 refine l_len 0 sees_ow ?_
 rintro rfl
 refine l_len 1 sees_ow ?_
 rintro rfl
 refine l_nil (q_draw (fun w s=>(s.f 7 [5,2,2,3])) (dR 7 R (vT R) (hS:=(fun w s=>(s.f 7 [5,2,2,3]))) (dR 8 R (vS R) (hS:=(fun w s=>(s.f 7 [5,2,2,3]))) (dR 9 R (vS R) (hS:=(fun w s=>(s.f 7 [5,2,2,3]))) (dR 10 R (vB R) (hS:=(fun w s=>(s.f 7 [5,2,2,3]))) (dR 11 R (vS R) (hS:=(fun w s=>(s.f 7 [5,2,2,3]))) (dR 12 R (vS R) (hS:=(fun w s=>(s.f 7 [5,2,2,3]))) (dR 13 R (vB R) (hS:=(fun w s=>(s.f 7 [5,2,2,3]))) (dD ?_)))))))))
 refine o_10 ?_
 cases hr
 exact qT2 (A24,r22.1.length,D24) (tE 14 [0,2,3,4])
theorem Z4_ok  {dims1:(List Int)}{axis3:Int}{step4:Int}{n5:Int}{r:(List Int)×(List pair)×Bool}(hr:Z4 dims1 axis3 step4 n5=some r) :
 FnOk Tryz.prog 134 [(.slice A2 N2 D2),(iv axis3),(iv step4),(iv n5)] [rds kT3 (.slice A2 N2 D2) dims1] (fun (h:HH×HH)=>((.tuple [(s3 h.1),(s3 h.2),(.bool r.2.2)].toArray),[rds kT3 (s3 h.1) r.1,ow kT161 161 (s3 h.2) r.2.1])):=by
 unfold Z4 at hr
 refine fn_ok Tryz.func134 R 151 R R fun C V=>?_
 refine cL 0 sees_rd ?_
 rintro rfl
 let W0:=RR kT3 A2 D2 dims1::V
 refine cN W0 ?_
 refine o_17 ?_
 obtain ⟨r6,hx7,hr⟩:=bd hr
 obtain ⟨hg8,hr⟩:=gd hr
 obtain ⟨hg11,hr⟩:=gd hr
 obtain ⟨hg12,hr⟩:=gd hr
 obtain ⟨hg13,hr⟩:=gd hr
 refine cQ [(0,(sc A2 dims1 D2)),(1,(iv axis3)),(2,(iv step4)),(3,(iv n5)),(11,(iv (w64 ((dims1.length:Int) - 1)))),(68,(.bool (((((((!r6)||(axis3==(w64 ((dims1.length:Int) - 1))))||(decide (step4<1)))||(decide (n5<1)))||(decide (n5>4096)))||(decide ((ix dims1 (w64 ((dims1.length:Int) - 1)))>n5)))||((ix dims1 axis3) != (w64 ((w64 ((w64 (n5 - (ix dims1 (w64 ((dims1.length:Int) - 1))))).tdiv step4))+1))))))] (W0) ?_ ?_
 rcases bo (!r6) with hc14 | hc14
 refine cdr 45 [] mixo fun ht hn=>?_
 refine d2_ 0 [] ?_
 refine d1 2 R (lM _ (fun w s=>(s.d 0 R)) ?_)
 refine lC 1 cb150 R (Zj_ok hx7) R ?_
 rintro _
 refine lN W0 ?_
 refine l_nil (q_draw (sL []) ?_)
 refine d5_ 3 [] ?_
 refine dR 8 R (pOT (axis3==(w64 ((dims1.length:Int) - 1))) R hc14) ?_
 refine d3_ 9 [] ?_
 refine dR 12 R (pOT (decide (step4<1)) R (oT hc14)) ?_
 refine d3_ 13 [] ?_
 refine dR 16 R (pOT (decide (n5<1)) R (oT (oT hc14))) ?_
 refine d3_ 17 [] ?_
 refine dR 20 R (pOT (decide (n5>4096)) R (oT (oT (oT hc14)))) ?_
 refine d7_ 21 [] ?_
 refine dR 28 R (pOT (decide ((ix dims1 (w64 ((dims1.length:Int) - 1)))>n5)) R (oT (oT (oT (oT hc14))))) ?_
 refine d4_ 29 [] ?_
 refine d11_ 33 [] ?_
 refine dR 44 R (pOT ((ix dims1 axis3) != (w64 ((w64 ((w64 (n5 - (ix dims1 (w64 ((dims1.length:Int) - 1))))).tdiv step4))+1))) R (oT (oT (oT (oT (oT hc14)))))) (dD ?_)
 exact qj tI
 rcases bo ((!r6)||(axis3==(w64 ((dims1.length:Int) - 1)))) with hc15 | hc15
 refine cdr 45 [] mixo fun ht hn=>?_
 refine d2_ 0 [] ?_
 refine d1 2 R (lM _ (fun w s=>(s.d 0 R)) ?_)
 refine lC 1 cb150 R (Zj_ok hx7) R ?_
 rintro _
 refine lN W0 ?_
 refine l_nil (q_draw (sL []) ?_)
 refine d5_ 3 [] ?_
 refine dR 8 R (pOF R hc14 R) ?_
 refine d3_ 9 [] ?_
 refine dR 12 R (pOT (decide (step4<1)) R hc15) ?_
 refine d3_ 13 [] ?_
 refine dR 16 R (pOT (decide (n5<1)) R (oT hc15)) ?_
 refine d3_ 17 [] ?_
 refine dR 20 R (pOT (decide (n5>4096)) R (oT (oT hc15))) ?_
 refine d7_ 21 [] ?_
 refine dR 28 R (pOT (decide ((ix dims1 (w64 ((dims1.length:Int) - 1)))>n5)) R (oT (oT (oT hc15)))) ?_
 refine d8_ 29 [] ?_
 refine d7_ 37 [] ?_
 refine dR 44 R (pOT ((ix dims1 axis3) != (w64 ((w64 ((w64 (n5 - (ix dims1 (w64 ((dims1.length:Int) - 1))))).tdiv step4))+1))) R (oT (oT (oT (oT hc15))))) (dD ?_)
 exact qj tI
 rcases bo (((!r6)||(axis3==(w64 ((dims1.length:Int) - 1))))||(decide (step4<1))) with hc16 | hc16
 refine cdr 45 [] mixo fun ht hn=>?_
 refine d2_ 0 [] ?_
 refine d1 2 R (lM _ (fun w s=>(s.d 0 R)) ?_)
 refine lC 1 cb150 R (Zj_ok hx7) R ?_
 rintro _
 refine lN W0 ?_
 refine l_nil (q_draw (sL []) ?_)
 refine d5_ 3 [] ?_
 refine dR 8 R (pOF R hc14 R) ?_
 refine d3_ 9 [] ?_
 refine dR 12 R (pOF R hc15 R) ?_
 refine d3_ 13 [] ?_
 refine dR 16 R (pOT (decide (n5<1)) R hc16) ?_
 refine d3_ 17 [] ?_
 refine dR 20 R (pOT (decide (n5>4096)) R (oT hc16)) ?_
 refine d7_ 21 [] ?_
 refine dR 28 R (pOT (decide ((ix dims1 (w64 ((dims1.length:Int) - 1)))>n5)) R (oT (oT hc16))) ?_
 refine d11_ 29 [] ?_
 refine d4_ 40 [] ?_
 refine dR 44 R (pOT ((ix dims1 axis3) != (w64 ((w64 ((w64 (n5 - (ix dims1 (w64 ((dims1.length:Int) - 1))))).tdiv step4))+1))) R (oT (oT (oT hc16)))) (dD ?_)
 exact qj tI
 rcases bo ((((!r6)||(axis3==(w64 ((dims1.length:Int) - 1))))||(decide (step4<1)))||(decide (n5<1))) with hc17 | hc17
 refine cdr 45 [] mixo fun ht hn=>?_
 refine d2_ 0 [] ?_
 refine d1 2 R (lM _ (fun w s=>(s.d 0 R)) ?_)
 refine lC 1 cb150 R (Zj_ok hx7) R ?_
 rintro _
 refine lN W0 ?_
 refine l_nil (q_draw (sL []) ?_)
 refine d5_ 3 [] ?_
 refine dR 8 R (pOF R hc14 R) ?_
 refine d3_ 9 [] ?_
 refine dR 12 R (pOF R hc15 R) ?_
 refine d3_ 13 [] ?_
 refine dR 16 R (pOF R hc16 R) ?_
 refine d3_ 17 [] ?_
 refine dR 20 R (pOT (decide (n5>4096)) R hc17) ?_
 refine d7_ 21 [] ?_
 refine dR 28 R (pOT (decide ((ix dims1 (w64 ((dims1.length:Int) - 1)))>n5)) R (oT hc17)) ?_
 refine d14_ 29 [] ?_
 refine d1_ 43 [] ?_
 refine dR 44 R (pOT ((ix dims1 axis3) != (w64 ((w64 ((w64 (n5 - (ix dims1 (w64 ((dims1.length:Int) - 1))))).tdiv step4))+1))) R (oT (oT hc17))) (dD ?_)
 exact qj tI
 rcases bo (((((!r6)||(axis3==(w64 ((dims1.length:Int) - 1))))||(decide (step4<1)))||(decide (n5<1)))||(decide (n5>4096))) with hc18 | hc18
 refine cdr 45 [] mixo fun ht hn=>?_
 refine d2_ 0 [] ?_
 refine d1 2 R (lM _ (fun w s=>(s.d 0 R)) ?_)
 refine lC 1 cb150 R (Zj_ok hx7) R ?_
 rintro _
 refine lN W0 ?_
 refine l_nil (q_draw (sL []) ?_)
 refine d5_ 3 [] ?_
 refine dR 8 R (pOF R hc14 R) ?_
 refine d3_ 9 [] ?_
 refine dR 12 R (pOF R hc15 R) ?_
 refine d3_ 13 [] ?_
 refine dR 16 R (pOF R hc16 R) ?_
 refine d3_ 17 [] ?_
 refine dR 20 R (pOF R hc17 R) ?_
 refine d7_ 21 [] ?_
 refine dR 28 R (pOT (decide ((ix dims1 (w64 ((dims1.length:Int) - 1)))>n5)) R hc18) ?_
 refine d15_ 29 [] ?_
 refine dR 44 R (pOT ((ix dims1 axis3) != (w64 ((w64 ((w64 (n5 - (ix dims1 (w64 ((dims1.length:Int) - 1))))).tdiv step4))+1))) R (oT hc18)) (dD ?_)
 exact qj tI
 rcases bo ((((((!r6)||(axis3==(w64 ((dims1.length:Int) - 1))))||(decide (step4<1)))||(decide (n5<1)))||(decide (n5>4096)))||(decide ((ix dims1 (w64 ((dims1.length:Int) - 1)))>n5))) with hc19 | hc19
 refine c_some 0 sees_rd (show 0<dims1.length by have:=(hg8 hc18); omega) (fun g9 o10 ha=>?_)
 subst ha
 refine cdr 45 [] mixo fun ht hn=>?_
 refine d2_ 0 [] ?_
 refine d1 2 R (lM _ (fun w s=>(s.d 0 R)) ?_)
 refine lC 1 cb150 R (Zj_ok hx7) R ?_
 rintro _
 refine lN W0 ?_
 refine l_nil (q_draw (sL []) ?_)
 refine d5_ 3 [] ?_
 refine dR 8 R (pOF R hc14 R) ?_
 refine d3_ 9 [] ?_
 refine dR 12 R (pOF R hc15 R) ?_
 refine d3_ 13 [] ?_
 refine dR 16 R (pOF R hc16 R) ?_
 refine d3_ 17 [] ?_
 refine dR 20 R (pOF R hc17 R) ?_
 refine d3_ 21 [] ?_
 refine dW 24 R (wnF hc18) (vIa sl23 sz3 R R (hg8 hc18)) (dW 25 R (wnF hc18) (vLi 0 ag3 sees_rd R (hg8 hc18)) ?_)
 refine d2_ 26 [] ?_
 refine dR 28 R (pOF R hc18 R) ?_
 refine d15_ 29 [] ?_
 refine dR 44 R (pOT ((ix dims1 axis3) != (w64 ((w64 ((w64 (n5 - (ix dims1 (w64 ((dims1.length:Int) - 1))))).tdiv step4))+1))) R hc19) (dD ?_)
 exact qj tI
 refine c_some 0 sees_rd (show 0<dims1.length by have:=(hg8 hc18); omega) (fun g9 o10 ha=>?_)
 subst ha
 refine cdr 45 [] mixo fun ht hn=>?_
 refine d2_ 0 [] ?_
 refine d1 2 R (lM _ (fun w s=>(s.d 0 R)) ?_)
 refine lC 1 cb150 R (Zj_ok hx7) R ?_
 rintro _
 refine lN W0 ?_
 refine l_nil (q_draw (sL []) ?_)
 refine d5_ 3 [] ?_
 refine dR 8 R (pOF R hc14 R) ?_
 refine d3_ 9 [] ?_
 refine dR 12 R (pOF R hc15 R) ?_
 refine d3_ 13 [] ?_
 refine dR 16 R (pOF R hc16 R) ?_
 refine d3_ 17 [] ?_
 refine dR 20 R (pOF R hc17 R) ?_
 refine d3_ 21 [] ?_
 refine dW 24 R (wnF hc18) (vIa sl23 sz3 R R (hg8 hc18)) (dW 25 R (wnF hc18) (vLi 0 ag3 sees_rd R (hg8 hc18)) ?_)
 refine d2_ 26 [] ?_
 refine dR 28 R (pOF R hc18 R) ?_
 refine d3_ 29 [] ?_
 refine dW 32 R (wnF hc19) (vIa sl23 sz3 R R (hg11 hc19)) (dW 33 R (wnF hc19) (vLi 0 ag3 sees_rd R (hg11 hc19)) ?_)
 refine d3_ 34 [] ?_
 refine dW 37 R (wnF hc19) (vIa sl23 sz3 R R (hg12 hc19)) (dW 38 R (wnF hc19) (vLi 0 ag3 sees_rd R (hg12 hc19)) ?_)
 refine d2_ 39 [] ?_
 refine dW 41 R (wnF hc19) (vz (iv (w64 ((w64 (n5 - (ix dims1 (w64 ((dims1.length:Int) - 1))))).tdiv step4))) (v_quo R R (hg13 hc19))) ?_
 refine d2_ 42 [] ?_
 refine dR 44 R (pOF R hc19 R) (dD ?_)
 exact qj tI
 rintro σ1
 refine o_1 ?_
 split at hr
 refine o_10 ?_
 cases hr
 exact qT3 ((none,0,0),(none,0,0)) (fun w s=>(((s.nilr kT3).nilo kT161 161).e 3 [1,0]))
 refine o_4 ?_
 obtain ⟨r21,hx22,hr⟩:=bd hr
 obtain ⟨hg24,hr⟩:=gd hr
 refine o_4 ?_
 refine lM _ (fun w s=>(s.d 0 R)) ?_
 refine lC 1 cb151 R (Z1i_ok hx22) R ?_
 rintro ⟨A23,N23,D23⟩
 refine l_len 0 sees_ow ?_
 rintro rfl
 refine lI R (l_st (fun w s=>s.shr 0 R) (l_cut (K:=kT3) (0:Int) (w64 ((dims1.length:Int) - 1)) 0 R R sl23 sz3 R R R R hg24.1 hg24.2.1 hg24.2.2 (fun A25 D25=>(lS R (l_nil (q_next (c_seq (c_seq ?_))))))))
 obtain ⟨r26,hx27,hr⟩:=bd hr
 refine o_2 ?_
 refine lM _ (fun w s=>(s.d 0 R)) ?_
 refine lC 1 cb147 R (Zb_ok hx27) R ?_
 rintro _
 refine o_3 ?_
 split at hr
 refine o_10 ?_
 cases hr
 exact qT3 ((none,0,0),(none,0,0)) (fun w s=>(((s.nilr kT3).nilo kT161 161).e 5 [1,0]))
 refine o_4 ?_
 refine c_cut (A:=(Int)×(Unit)) (fun a=>Z4_J1 dims1 axis3 n5 r21 a.1=some r) (fun a=>[(0,(sc A2 dims1 D2)),(1,(iv axis3)),(2,(iv a.1)),(3,(iv n5)),(11,(iv (w64 ((dims1.length:Int) - 1)))),(12,(sc A25 (sub r21 (0:Int) (w64 ((dims1.length:Int) - 1))) D25))]) (fun a=>RR kT3 A25 D25 (sub r21 (0:Int) (w64 ((dims1.length:Int) - 1)))::W0) ?_ ?_
 refine o_1 ?_
 obtain ⟨hg29,hr⟩:=gd hr
 refine o_3 ?_
 refine t_some 2 sees_rd (show 0<dims1.length by have:=hg29; omega) (fun g30 o31 ha=>?_)
 subst ha
 refine o_5 ?_
 split at hr
 refine o_4 ?_
 exact qI ((0:Int),()) hr (tE 2 [0])
 refine o_2 ?_
 exact qI (step4,()) hr (tE 2 [0])
 rintro ⟨step33,_⟩ σ1 hr
 dsimp only [Z4_J1] at hr
 refine o_1 ?_
 obtain ⟨hg34,hr⟩:=gd hr
 obtain ⟨r36,hx37,hr⟩:=bd hr
 refine o_3 ?_
 refine l_cut (K:=kT3) (0:Int) (w64 ((dims1.length:Int) - 1)) 1 R R sl23 sz3 R R R R hg34.1 hg34.2.1 hg34.2.2 (fun A35 D35=>(lI R (lM _ (fun w s=>(s.d 0 R)) ?_)))
 refine lC 1 cb153 R (Z1z_ok hx37) R ?_
 rintro _
 refine lO (vT R) ?_
 refine o_10 ?_
 refine l_build (K:=kT161) (xs:=([]:List pair)) (vs:=[]) 0 R R sl147 sz161 zc161 R R R R R R ?_ R (fun A38 D38=>?_)
 exact fun I h s=>(mO161).list [] I h s
 refine o_4 ?_
 refine c_cut (A:=((List pair))×(HH)) (fun a=>Z4_J16 dims1 r21 a.1=some r) (fun a=>[(12,(sc A25 (sub r21 (0:Int) (w64 ((dims1.length:Int) - 1))) D25)),(16,(s3 a.2))]) (fun a=>RR kT3 A25 D25 (sub r21 (0:Int) (w64 ((dims1.length:Int) - 1)))::ow kT161 161 (s3 a.2) a.1::W0) ?_ ?_
 refine o_6 ?_
 obtain ⟨e1,hl1,hk1⟩:=bd hr
 refine c_loop (A:=HH) hl1 (fun s a=>[(0,(sc A2 dims1 D2)),(2,(iv step33)),(3,(iv n5)),(11,(iv (w64 ((dims1.length:Int) - 1)))),(12,(sc A25 (sub r21 (0:Int) (w64 ((dims1.length:Int) - 1))) D25)),(13,(iv r36.1)),(14,(iv r36.2.1)),(15,(iv r36.2.2)),(16,(s3 a)),(17,(iv s.2))]) (fun s a=>RR kT3 A25 D25 (sub r21 (0:Int) (w64 ((dims1.length:Int) - 1)))::ow kT161 161 (s3 a) s.1::W0) (A38,([]:List pair).length,D38) (aS R) (tE 3 [2,0]) ?_
 rintro ⟨pairs158,i160⟩ ⟨A159,N159,D159⟩ σ1 out1 hr he1
 dsimp only [Z4_L1] at hr
 refine c_len 1 sees_ow (fun (hn:N159=pairs158.length)=>?_)
 subst hn
 refine o_8 ?_
 split at hr
 refine o_4 ?_
 refine c_cut (A:=((List pair))×(HH)) (fun a=>Z4_J15 i160 a.1=some out1) (fun a=>[(0,(sc A2 dims1 D2)),(2,(iv step33)),(3,(iv n5)),(11,(iv (w64 ((dims1.length:Int) - 1)))),(12,(sc A25 (sub r21 (0:Int) (w64 ((dims1.length:Int) - 1))) D25)),(13,(iv r36.1)),(14,(iv r36.2.1)),(15,(iv r36.2.2)),(16,(s3 a.2)),(17,(iv i160))]) (fun a=>RR kT3 A25 D25 (sub r21 (0:Int) (w64 ((dims1.length:Int) - 1)))::ow kT161 161 (s3 a.2) a.1::W0) ?_ ?_
 refine o_7 ?_
 obtain ⟨e2,hl2,hk2⟩:=bd hr
 refine c_loop (A:=HH) hl2 (fun s a=>[(0,(sc A2 dims1 D2)),(2,(iv step33)),(3,(iv n5)),(11,(iv (w64 ((dims1.length:Int) - 1)))),(12,(sc A25 (sub r21 (0:Int) (w64 ((dims1.length:Int) - 1))) D25)),(13,(iv r36.1)),(14,(iv r36.2.1)),(15,(iv r36.2.2)),(16,(s3 a)),(17,(iv i160)),(18,(iv s.2))]) (fun s a=>RR kT3 A25 D25 (sub r21 (0:Int) (w64 ((dims1.length:Int) - 1)))::ow kT161 161 (s3 a) s.1::W0) (A159,pairs158.length,D159) (aS R) tI ?_
 rintro ⟨pairs217,k219⟩ ⟨A218,N218,D218⟩ σ1 out2 hr he2
 dsimp only [Z4_L2] at hr
 refine c_len 1 sees_ow (fun (hn:N218=pairs217.length)=>?_)
 subst hn
 refine o_8 ?_
 split at hr
 refine o_4 ?_
 refine c_cut (A:=((List pair))×(HH)) (fun a=>Z4_J14 k219 a.1=some out2) (fun a=>[(0,(sc A2 dims1 D2)),(2,(iv step33)),(3,(iv n5)),(11,(iv (w64 ((dims1.length:Int) - 1)))),(12,(sc A25 (sub r21 (0:Int) (w64 ((dims1.length:Int) - 1))) D25)),(13,(iv r36.1)),(14,(iv r36.2.1)),(15,(iv r36.2.2)),(16,(s3 a.2)),(17,(iv i160)),(18,(iv k219))]) (fun a=>RR kT3 A25 D25 (sub r21 (0:Int) (w64 ((dims1.length:Int) - 1)))::ow kT161 161 (s3 a.2) a.1::W0) ?_ ?_
 refine o_7 ?_
 obtain ⟨e3,hl3,hk3⟩:=bd hr
 refine c_loop (A:=HH) hl3 (fun s a=>[(0,(sc A2 dims1 D2)),(2,(iv step33)),(3,(iv n5)),(11,(iv (w64 ((dims1.length:Int) - 1)))),(12,(sc A25 (sub r21 (0:Int) (w64 ((dims1.length:Int) - 1))) D25)),(13,(iv r36.1)),(14,(iv r36.2.1)),(15,(iv r36.2.2)),(16,(s3 a)),(17,(iv i160)),(18,(iv k219)),(19,(iv s.2))]) (fun s a=>RR kT3 A25 D25 (sub r21 (0:Int) (w64 ((dims1.length:Int) - 1)))::ow kT161 161 (s3 a) s.1::W0) (A218,pairs217.length,D218) (aS R) tI ?_
 rintro ⟨pairs244,j246⟩ ⟨A245,N245,D245⟩ σ1 out3 hr he3
 dsimp only [Z4_L3] at hr
 refine c_len 1 sees_ow (fun (hn:N245=pairs244.length)=>?_)
 subst hn
 refine o_8 ?_
 split at hr
 refine o_4 ?_
 refine c_cut (A:=((List pair))×(HH)) (fun a=>Z4_J13 j246 a.1=some out3) (fun a=>[(0,(sc A2 dims1 D2)),(2,(iv step33)),(3,(iv n5)),(11,(iv (w64 ((dims1.length:Int) - 1)))),(12,(sc A25 (sub r21 (0:Int) (w64 ((dims1.length:Int) - 1))) D25)),(13,(iv r36.1)),(14,(iv r36.2.1)),(15,(iv r36.2.2)),(16,(s3 a.2)),(17,(iv i160)),(18,(iv k219)),(19,(iv j246))]) (fun a=>RR kT3 A25 D25 (sub r21 (0:Int) (w64 ((dims1.length:Int) - 1)))::ow kT161 161 (s3 a.2) a.1::W0) ?_ ?_
 refine o_7 ?_
 obtain ⟨e4,hl4,hk4⟩:=bd hr
 refine c_loop (A:=HH) hl4 (fun s a=>[(0,(sc A2 dims1 D2)),(2,(iv step33)),(3,(iv n5)),(11,(iv (w64 ((dims1.length:Int) - 1)))),(12,(sc A25 (sub r21 (0:Int) (w64 ((dims1.length:Int) - 1))) D25)),(13,(iv r36.1)),(14,(iv r36.2.1)),(15,(iv r36.2.2)),(16,(s3 a)),(17,(iv i160)),(18,(iv k219)),(19,(iv j246)),(20,(iv s.2))]) (fun s a=>RR kT3 A25 D25 (sub r21 (0:Int) (w64 ((dims1.length:Int) - 1)))::ow kT161 161 (s3 a) s.1::W0) (A245,pairs244.length,D245) (aS R) tI ?_
 rintro ⟨pairs255,x257⟩ ⟨A256,N256,D256⟩ σ1 out4 hr he4
 dsimp only [Z4_L4] at hr
 refine c_len 1 sees_ow (fun (hn:N256=pairs255.length)=>?_)
 subst hn
 refine o_2 ?_
 obtain ⟨hg258,hr⟩:=gd hr
 refine o_4 ?_
 refine t_some 2 sees_rd (show 0<dims1.length by have:=hg258; omega) (fun g259 o260 ha=>?_)
 subst ha
 refine o_5 ?_
 split at hr
 refine o_5 ?_
 obtain ⟨hg263,hr⟩:=gd hr
 refine o_31 ?_
 refine lO (vz (.agg [(iv (w64 ((w64 ((w64 ((w64 ((w64 ((w64 (i160*r36.2.1))+k219))*r36.2.2))+j246))*(ix dims1 (w64 ((dims1.length:Int) - 1)))))+x257))),(iv (w64 ((w64 ((w64 ((w64 ((w64 (i160*n5))+(w64 (k219*step33))))+x257))*r36.2.2))+j246)))].toArray) (v_build pl161 zc161 R R)) ?_
 refine l_build (K:=kT161) (xs:=([(⟨(w64 ((w64 ((w64 ((w64 ((w64 ((w64 (i160*r36.2.1))+k219))*r36.2.2))+j246))*(ix dims1 (w64 ((dims1.length:Int) - 1)))))+x257)),(w64 ((w64 ((w64 ((w64 ((w64 (i160*n5))+(w64 (k219*step33))))+x257))*r36.2.2))+j246))⟩:pair)]:List pair)) (vs:=[(.agg [(iv (w64 ((w64 ((w64 ((w64 ((w64 ((w64 (i160*r36.2.1))+k219))*r36.2.2))+j246))*(ix dims1 (w64 ((dims1.length:Int) - 1)))))+x257))),(iv (w64 ((w64 ((w64 ((w64 ((w64 (i160*n5))+(w64 (k219*step33))))+x257))*r36.2.2))+j246)))].toArray)]) 0 R R sl147 sz161 zc161 R R R R R R ?_ R (fun A262 D262=>?_)
 exact fun I h s=>(mO161).list [(((),()),(⟨(w64 ((w64 ((w64 ((w64 ((w64 ((w64 (i160*r36.2.1))+k219))*r36.2.2))+j246))*(ix dims1 (w64 ((dims1.length:Int) - 1)))))+x257)),(w64 ((w64 ((w64 ((w64 ((w64 (i160*n5))+(w64 (k219*step33))))+x257))*r36.2.2))+j246))⟩:pair))] I h s
 refine lM _ (tE 3 [2,0,1]) ?_
 refine l_app (K:=kT161) 8796093022208 R R sl147 sz161 by161 (Zr.zk zT161 zc161) R R R R R R src_ow hg263 (fun A264 D264=>(lN (OO kT161 161 A264 D264 (pairs255++([(⟨(w64 ((w64 ((w64 ((w64 ((w64 ((w64 (i160*r36.2.1))+k219))*r36.2.2))+j246))*(ix dims1 (w64 ((dims1.length:Int) - 1)))))+x257)),(w64 ((w64 ((w64 ((w64 ((w64 (i160*n5))+(w64 (k219*step33))))+x257))*r36.2.2))+j246))⟩:pair)]:List pair))::_::W0) ?_))
 refine o_9 ?_
 cases hr
 exact qA (A264,(pairs255++([(⟨(w64 ((w64 ((w64 ((w64 ((w64 ((w64 (i160*r36.2.1))+k219))*r36.2.2))+j246))*(ix dims1 (w64 ((dims1.length:Int) - 1)))))+x257)),(w64 ((w64 ((w64 ((w64 ((w64 (i160*n5))+(w64 (k219*step33))))+x257))*r36.2.2))+j246))⟩:pair)]:List pair)).length,D264) (tE 2 [1,0])
 refine o_3 ?_
 cases hr
 obtain rfl:=he4 _ R
 have hr:=hk4
 refine o_3 ?_
 exact qI (pairs255,(A256,pairs255.length,D256)) hr tI
 rintro ⟨pairs268,⟨A269,N269,D269⟩⟩ σ1 hr
 dsimp only [Z4_J13] at hr
 refine c_len 1 sees_ow (fun (hn:N269=pairs268.length)=>?_)
 subst hn
 refine o_5 ?_
 cases hr
 exact qA (A269,pairs268.length,D269) tI
 refine o_3 ?_
 cases hr
 obtain rfl:=he3 _ R
 have hr:=hk3
 refine o_3 ?_
 exact qI (pairs244,(A245,pairs244.length,D245)) hr tI
 rintro ⟨pairs273,⟨A274,N274,D274⟩⟩ σ1 hr
 dsimp only [Z4_J14] at hr
 refine c_len 1 sees_ow (fun (hn:N274=pairs273.length)=>?_)
 subst hn
 refine o_5 ?_
 cases hr
 exact qA (A274,pairs273.length,D274) tI
 refine o_3 ?_
 cases hr
 obtain rfl:=he2 _ R
 have hr:=hk2
 refine o_3 ?_
 exact qI (pairs217,(A218,pairs217.length,D218)) hr tI
 rintro ⟨pairs278,⟨A279,N279,D279⟩⟩ σ1 hr
 dsimp only [Z4_J15] at hr
 refine c_len 1 sees_ow (fun (hn:N279=pairs278.length)=>?_)
 subst hn
 refine o_5 ?_
 cases hr
 exact qA (A279,pairs278.length,D279) tI
 refine o_3 ?_
 cases hr
 obtain rfl:=he1 _ R
 have hr:=hk1
 refine o_2 ?_
 exact qI (pairs158,(A159,pairs158.length,D159)) hr tI
 rintro ⟨pairs283,⟨A284,N284,D284⟩⟩ σ1 hr
 dsimp only [Z4_J16] at hr
 refine c_len 1 sees_ow (fun (hn:N284=pairs283.length)=>?_)
 subst hn
 refine o_10 ?_
 cases hr
 exact qT3 ((A25,(sub r21 (0:Int) (w64 ((dims1.length:Int) - 1))).length,D25),(A284,pairs283.length,D284)) (tE 3 [0,1])
theorem Z1y_ok  {p1:(List Int)}{dims3:(List Int)}{r:(List Int)×(List pair)×Bool}(hr:Z1y p1 dims3=some r) :
 FnOk Tryz.prog 133 [(.slice A2 N2 D2),(.slice A4 N4 D4)] [rds kT3 (.slice A2 N2 D2) p1,rds kT3 (.slice A4 N4 D4) dims3] (fun (h:HH×HH)=>((.tuple [(s3 h.1),(s3 h.2),(.bool r.2.2)].toArray),[rds kT3 (s3 h.1) r.1,ow kT161 161 (s3 h.2) r.2.1])):=by
 unfold Z1y at hr
 refine fn_ok Tryz.func133 R 21 R R fun C V=>?_
 refine cL 0 sees_rd ?_
 rintro rfl
 refine cL 1 sees_rd ?_
 rintro rfl
 let W0:=RR kT3 A2 D2 p1::RR kT3 A4 D4 dims3::V
 refine cN W0 ?_
 refine o_8 ?_
 obtain ⟨hg5,hr⟩:=gd hr
 obtain ⟨_,hr⟩:=gd hr
 obtain ⟨_,hr⟩:=gd hr
 obtain ⟨r10,hx11,hr⟩:=bd hr
 refine c_some 0 sees_rd (show 0<p1.length by have:=hg5; omega) (fun g6 o7 ha=>?_)
 subst ha
 refine cdr 17 [] mixo fun ht hn=>?_
 refine d10_ 0 [] ?_
 refine d1 10 R (lM _ (fun w s=>(s.d 1 R)) ?_)
 refine lC 1 cb134 R (Z4_ok hx11) R ?_
 rintro ⟨⟨A12,N12,D12⟩,⟨A13,N13,D13⟩⟩
 refine l_len 0 sees_rd ?_
 rintro rfl
 refine l_len 1 sees_ow ?_
 rintro rfl
 refine l_nil (q_draw (sL [1,0]) ?_)
 refine d6_ 11 [1,0] ?_
 refine dD ?_
 refine o_2 ?_
 cases hr
 exact qT3 ((A12,r10.1.length,D12),(A13,r10.2.1.length,D13)) (tE 4 [0,1])
theorem Z2o_ok  {n1:Node}{dims6:(List Int)}{p8:Int}{p10:Int}{b9:Nat}{b11:Nat}{b13:Nat}{r:(List Int)×(List pair)×Bool}(hr:Z2o n1 dims6 p8 p10=some r) :
 FnOk Tryz.prog 149 [(.agg [(iv n1.Op),(.slice A2 N2 D2),(.slice A3 N3 D3),(.slice A4 N4 D4),(vstr n1.Form),(.slice A5 N5 D5)].toArray),(.slice A7 N7 D7),(pt b9 0),(pt b11 0),(pt b13 0)] [rds kT3 (.slice A2 N2 D2) n1.Args,rds kT3 (.slice A3 N3 D3) n1.Dims,rds kT3 (.slice A4 N4 D4) n1.Ints,rds kT3 (.slice A5 N5 D5) n1.Data,rds kT3 (.slice A7 N7 D7) dims6,bxl b9 [(iv p8)] 3,bxl b11 [(iv p10)] 3,bxl b13 [(.func (.func 133) [].toArray [].toArray)] 150] (fun (h:HH×HH)=>((.tuple [(s3 h.1),(s3 h.2),(.bool r.2.2)].toArray),[rds kT3 (s3 h.1) r.1,ow kT161 161 (s3 h.2) r.2.1,bxl b9 [(iv p8)] 3,bxl b11 [(iv p10)] 3,bxl b13 [(.func (.func 133) [].toArray [].toArray)] 150])):=by
 unfold Z2o at hr
 refine fn_ok Tryz.func149 R 30 R R fun C V=>?_
 refine cM _ (fun w s=>(s.f 8 [5,3,0,5])) ?_
 refine cL 3 sees_rd ?_
 rintro rfl
 refine cL 4 sees_rd ?_
 rintro rfl
 refine cL 5 sees_rd ?_
 rintro rfl
 refine cL 6 sees_rd ?_
 rintro rfl
 refine cL 7 sees_rd ?_
 rintro rfl
 let W0:=RR kT3 A2 D2 n1.Args::RR kT3 A3 D3 n1.Dims::RR kT3 A4 D4 n1.Ints::RR kT3 A5 D5 n1.Data::RR kT3 A7 D7 dims6::V
 refine o_2 ?_
 refine lBx R fun b14=>?_
 refine o_4 ?_
 let W1:=bxl b14 [(iv n1.Op),(sc A2 n1.Args D2),(sc A3 n1.Dims D3),(sc A4 n1.Ints D4),(vstr n1.Form),(sc A5 n1.Data D5)] 54::bxl b9 [(iv p8)] 3::bxl b11 [(iv p10)] 3::bxl b13 [(.func (.func 133) [].toArray [].toArray)] 150::W0
 refine qN W1 ?_
 refine o_3 ?_
 refine cQ [(1,(sc A7 dims6 D7)),(4,(pt b13 0)),(5,(pt b14 0)),(21,(.bool ((decide ((n1.Ints.length:Int)<p8))||(decide ((n1.Ints.length:Int)>p10)))))] (W1) ?_ ?_
 refine o_7 ?_
 rcases bo (decide ((n1.Ints.length:Int)<p8)) with hc15 | hc15
 refine o_7 ?_
 exact qj tI
 refine o_7 ?_
 exact qj tI
 rintro σ1
 refine o_1 ?_
 split at hr
 refine o_10 ?_
 cases hr
 exact qT3 ((none,0,0),(none,0,0)) (fun w s=>(((s.nilr kT3).nilo kT161 161).e 11 [1,0,3,4,5]))
 refine o_4 ?_
 obtain ⟨r17,hx18,hr⟩:=bd hr
 refine o_5 ?_
 refine lM _ (fun w s=>(((s.d 6 R).d 9 R).e 2 [1,0])) ?_
 refine l_callvn (fs:=[]) (cs:=[]) 2 R R cb133 R R (Z1y_ok hx18) R ?_
 rintro ⟨⟨A19,N19,D19⟩,⟨A20,N20,D20⟩⟩
 refine l_len 0 sees_rd ?_
 rintro rfl
 refine l_len 1 sees_ow ?_
 rintro rfl
 refine o_9 ?_
 cases hr
 exact qT3 ((A19,r17.1.length,D19),(A20,r17.2.1.length,D20)) (fun w s=>(s.f 11 [0,2,3,3]))
theorem Z1o_ok  {k1:shiftKind}{q2:Int}{q4:Int}{n8:Node}{args13:(List (List Int))}{b3:Nat}{b5:Nat}{b7:Nat}{r:(List Int)×Bool}(hr:Z1o k1 q2 q4 n8 args13=some r) :
 FnOk Tryz.prog 220 [(.agg [(vstr k1.use),(.func (.func 149) [].toArray [(pt b3 0),(pt b5 0),(pt b7 0)].toArray)].toArray),(.agg [(iv n8.Op),(.slice A9 N9 D9),(.slice A10 N10 D10),(.slice A11 N11 D11),(vstr n8.Form),(.slice A12 N12 D12)].toArray),(.slice A14 N14 D14)] [bxl b3 [(iv q2)] 3,bxl b5 [(iv q4)] 3,bxl b7 [(.func (.func 133) [].toArray [].toArray)] 150,rds kT3 (.slice A9 N9 D9) n8.Args,rds kT3 (.slice A10 N10 D10) n8.Dims,rds kT3 (.slice A11 N11 D11) n8.Ints,rds kT3 (.slice A12 N12 D12) n8.Data,rds kT23 (.slice A14 N14 D14) args13] (fun (h:HH)=>((.tuple [(s3 h),(.bool r.2)].toArray),[rds kT3 (s3 h) r.1,bxl b3 [(iv q2)] 3,bxl b5 [(iv q4)] 3,bxl b7 [(.func (.func 133) [].toArray [].toArray)] 150])):=by
 unfold Z1o at hr
 refine fn_ok Tryz.func220 R 27 R R fun C V=>?_
 refine cL 3 sees_rd ?_
 rintro rfl
 refine cL 4 sees_rd ?_
 rintro rfl
 refine cL 5 sees_rd ?_
 rintro rfl
 refine cL 6 sees_rd ?_
 rintro rfl
 refine cL 7 sees_rd ?_
 rintro rfl
 let W0:=RR kT3 A9 D9 n8.Args::RR kT3 A10 D10 n8.Dims::RR kT3 A11 D11 n8.Ints::RR kT3 A12 D12 n8.Data::RR kT23 A14 D14 args13::V
 refine o_2 ?_
 refine lBx R fun b15=>?_
 refine lBx R fun b16=>?_
 refine o_3 ?_
 refine qM _ (fun w s=>(s.f 5 [2,3,0,2])) ?_
 let W1:=bxl b16 [(iv n8.Op),(sc A9 n8.Args D9),(sc A10 n8.Dims D10),(sc A11 n8.Ints D11),(vstr n8.Form),(sc A12 n8.Data D12)] 54::bxl b15 [(vstr k1.use),(.func (.func 149) [].toArray [(pt b3 0),(pt b5 0),(pt b7 0)].toArray)] 145::W0
 refine o_9 ?_
 split at hr
 refine o_9 ?_
 cases hr
 exact qT2 (none,0,0) (fun w s=>((s.nilr kT3).f 11 [0,4]))
 refine o_4 ?_
 obtain ⟨hg18,hr⟩:=gd hr
 obtain ⟨r22,hx23,hr⟩:=bd hr
 refine c_some 9 sees_rd (show 0<args13.length by have:=hg18; omega) (fun g19 o20 ha=>?_)
 subst ha
 refine c_elem (K:=kT23) 9 (0:Int) dT23.dec R hg18.1 hg18.2 ?_
 rintro ⟨A21,D21⟩
 refine cdr 14 [] mixo fun ht hn=>?_
 refine d5_ 0 [] ?_
 refine dR 5 R (v_clf (fo:=0) 0 ag23 R R R) (d1 6 R (lM _ (fun w s=>((((((s.d 7 R).d 9 R).d 11 R).d 13 R).d 5 R).e 10 [4,3,2,1,0,7,8,9,5,6])) ?_))
 refine l_callvn (fs:=[]) (cs:=[(pt b3 0),(pt b5 0),(pt b7 0)]) 8 R R cb149 R R (Z2o_ok hx23) R ?_
 rintro ⟨⟨A24,N24,D24⟩,⟨A25,N25,D25⟩⟩
 refine l_len 0 sees_rd ?_
 rintro rfl
 refine l_len 1 sees_ow ?_
 rintro rfl
 refine l_nil (q_draw (fun w s=>(s.f 7 [5,2,2,3])) (dR 7 R (vT R) (hS:=(fun w s=>(s.f 7 [5,2,2,3]))) (dR 8 R (vS R) (hS:=(fun w s=>(s.f 7 [5,2,2,3]))) (dR 9 R (vS R) (hS:=(fun w s=>(s.f 7 [5,2,2,3]))) (dR 10 R (vB R) (hS:=(fun w s=>(s.f 7 [5,2,2,3]))) (dR 11 R (vS R) (hS:=(fun w s=>(s.f 7 [5,2,2,3]))) (dR 12 R (vS R) (hS:=(fun w s=>(s.f 7 [5,2,2,3]))) (dR 13 R (vB R) (hS:=(fun w s=>(s.f 7 [5,2,2,3]))) (dD ?_)))))))))
 refine o_10 ?_
 cases hr
 exact qT2 (A24,r22.1.length,D24) (tE 14 [0,2,3,4])
theorem kindOfR_shape_ok  {r:kindOfR}{x0:Node}{x1:(List (List Int))}{h0 h1 h2:Nat}{A1 A2 A3 A4 A5:Option Addr}{N1 D1 N2 D2 N3 D3 N4 D4 N5 D5:Nat}{mG:Int}{q:(List Int)×Bool}(hr:kindOfR_shape r x0 x1=some q) :
 InvOk Tryz.prog (kindOfRV r (h0,h1,h2)) "loop.example/g00033/impl.shape" [(.agg [(iv x0.Op),(.slice A1 N1 D1),(.slice A2 N2 D2),(.slice A3 N3 D3),(vstr x0.Form),(.slice A4 N4 D4)].toArray),(.slice A5 N5 D5)] [kindOfRE r (h0,h1,h2),rds kT3 (.slice A1 N1 D1) x0.Args,rds kT3 (.slice A2 N2 D2) x0.Dims,rds kT3 (.slice A3 N3 D3) x0.Ints,rds kT3 (.slice A4 N4 D4) x0.Data,rds kT23 (.slice A5 N5 D5) x1,gl 0 mG] (fun (h:HH)=>((.tuple [(s3 h),(.bool q.2)].toArray),[rds kT3 (s3 h) q.1,kindOfRE r (h0,h1,h2)])):=by
 unfold kindOfR_shape at hr
 rcases bif_ hr with ⟨e0,hr⟩|⟨e0,hr⟩
 ·cases hr
 rcases bif_ hr with ⟨e1,hr⟩|⟨e1,hr⟩
 ·obtain ⟨t,b0,i0,i1,s0⟩:=r
  obtain rfl:=Nat.eq_of_beq_eq_true e1
  exact InvOk.mk (me136_shape _) (((Z1h_ok hr).perm (Pre':=[pk [],rds kT3 (.slice A1 N1 D1) x0.Args,rds kT3 (.slice A2 N2 D2) x0.Dims,rds kT3 (.slice A3 N3 D3) x0.Ints,rds kT3 (.slice A4 N4 D4) x0.Data,rds kT23 (.slice A5 N5 D5) x1,gl 0 mG]) (fun _ _ _ s=>(St.unpack (A:=[]) s).e 6 [0,1,2,3,4])).post id (fun _=>rfl) (fun _ _ _ _ s=>(St.pack (A:=[]) (s)).e 2 [1,0]))
 rcases bif_ hr with ⟨e2,hr⟩|⟨e2,hr⟩
 ·obtain ⟨t,b0,i0,i1,s0⟩:=r
  obtain rfl:=Nat.eq_of_beq_eq_true e2
  exact InvOk.mk (me138_shape _) (((Z20_ok hr).perm (Pre':=[pk [],rds kT3 (.slice A1 N1 D1) x0.Args,rds kT3 (.slice A2 N2 D2) x0.Dims,rds kT3 (.slice A3 N3 D3) x0.Ints,rds kT3 (.slice A4 N4 D4) x0.Data,rds kT23 (.slice A5 N5 D5) x1,gl 0 mG]) (fun _ _ _ s=>(St.unpack (A:=[]) s).e 6 [0,1,2,3,4])).post id (fun _=>rfl) (fun _ _ _ _ s=>(St.pack (A:=[]) (s)).e 2 [1,0]))
 rcases bif_ hr with ⟨e3,hr⟩|⟨e3,hr⟩
 ·obtain ⟨t,b0,i0,i1,s0⟩:=r
  obtain rfl:=Nat.eq_of_beq_eq_true e3
  exact InvOk.mk (me139_shape _) (((Z2r_ok hr).perm (Pre':=[pk [],rds kT3 (.slice A1 N1 D1) x0.Args,rds kT3 (.slice A2 N2 D2) x0.Dims,rds kT3 (.slice A3 N3 D3) x0.Ints,rds kT3 (.slice A4 N4 D4) x0.Data,rds kT23 (.slice A5 N5 D5) x1,gl 0 mG]) (fun _ _ _ s=>(St.unpack (A:=[]) s).e 6 [0,1,2,3,4])).post id (fun _=>rfl) (fun _ _ _ _ s=>(St.pack (A:=[]) (s)).e 2 [1,0]))
 rcases bif_ hr with ⟨e4,hr⟩|⟨e4,hr⟩
 ·obtain ⟨t,b0,i0,i1,s0⟩:=r
  obtain rfl:=Nat.eq_of_beq_eq_true e4
  exact InvOk.mk (me141_shape _) (((Z1t_ok (k1:=⟨⟩) hr).perm (Pre':=[pk [],rds kT3 (.slice A1 N1 D1) x0.Args,rds kT3 (.slice A2 N2 D2) x0.Dims,rds kT3 (.slice A3 N3 D3) x0.Ints,rds kT3 (.slice A4 N4 D4) x0.Data,rds kT23 (.slice A5 N5 D5) x1,gl 0 mG]) (fun _ _ _ s=>(St.unpack (A:=[]) s).e 6 [0,1,2,3,4])).post id (fun _=>rfl) (fun _ _ _ _ s=>(St.pack (A:=[]) (s)).e 2 [1,0]))
 rcases bif_ hr with ⟨e5,hr⟩|⟨e5,hr⟩
 ·obtain ⟨t,b0,i0,i1,s0⟩:=r
  obtain rfl:=Nat.eq_of_beq_eq_true e5
  exact InvOk.mk (me142_shape _) (((Z2q_ok (k1:=⟨⟩) hr).perm (Pre':=[pk [],rds kT3 (.slice A1 N1 D1) x0.Args,rds kT3 (.slice A2 N2 D2) x0.Dims,rds kT3 (.slice A3 N3 D3) x0.Ints,rds kT3 (.slice A4 N4 D4) x0.Data,rds kT23 (.slice A5 N5 D5) x1,gl 0 mG]) (fun _ _ _ s=>St.unpack (A:=[]) s)).post id (fun _=>rfl) (fun _ _ _ _ s=>(St.pack (A:=[]) ((s).shr 0 R)).e 2 [1,0]))
 rcases bif_ hr with ⟨e6,hr⟩|⟨e6,hr⟩
 ·obtain ⟨t,b0,i0,i1,s0⟩:=r
  obtain rfl:=Nat.eq_of_beq_eq_true e6
  exact InvOk.mk (me145_shape _) (((Z1p_ok hr).perm (Pre':=[pk [],rds kT3 (.slice A1 N1 D1) x0.Args,rds kT3 (.slice A2 N2 D2) x0.Dims,rds kT3 (.slice A3 N3 D3) x0.Ints,rds kT3 (.slice A4 N4 D4) x0.Data,rds kT23 (.slice A5 N5 D5) x1,gl 0 mG]) (fun _ _ _ s=>(St.unpack (A:=[]) s).e 6 [0,1,2,3,4])).post id (fun _=>rfl) (fun _ _ _ _ s=>(St.pack (A:=[]) (s)).e 2 [1,0]))
 rcases bif_ hr with ⟨e7,hr⟩|⟨e7,hr⟩
 ·obtain ⟨t,b0,i0,i1,s0⟩:=r
  obtain rfl:=Nat.eq_of_beq_eq_true e7
  exact InvOk.mk (me145_shape _) (((Z21_ok hr).perm (Pre':=[pk [],rds kT3 (.slice A1 N1 D1) x0.Args,rds kT3 (.slice A2 N2 D2) x0.Dims,rds kT3 (.slice A3 N3 D3) x0.Ints,rds kT3 (.slice A4 N4 D4) x0.Data,rds kT23 (.slice A5 N5 D5) x1,gl 0 mG]) (fun _ _ _ s=>(St.unpack (A:=[]) s).e 6 [0,1,2,3,4])).post id (fun _=>rfl) (fun _ _ _ _ s=>(St.pack (A:=[]) (s)).e 2 [1,0]))
 rcases bif_ hr with ⟨e8,hr⟩|⟨e8,hr⟩
 ·obtain ⟨t,b0,i0,i1,s0⟩:=r
  obtain rfl:=Nat.eq_of_beq_eq_true e8
  exact InvOk.mk (me145_shape _) (((Z1l_ok hr).perm (Pre':=[pk [bxl h0 [(iv i0)] 3,bxl h1 [(iv i1)] 3,bxl h2 [(.func (.func 127) [].toArray [].toArray)] 150],rds kT3 (.slice A1 N1 D1) x0.Args,rds kT3 (.slice A2 N2 D2) x0.Dims,rds kT3 (.slice A3 N3 D3) x0.Ints,rds kT3 (.slice A4 N4 D4) x0.Data,rds kT23 (.slice A5 N5 D5) x1,gl 0 mG]) (fun _ _ _ s=>(St.unpack (A:=[bxl h0 [(iv i0)] 3,bxl h1 [(iv i1)] 3,bxl h2 [(.func (.func 127) [].toArray [].toArray)] 150]) s).e 9 [0,1,2,3,4,5,6,7])).post id (fun _=>rfl) (fun _ _ _ _ s=>(St.pack (A:=[bxl h0 [(iv i0)] 3,bxl h1 [(iv i1)] 3,bxl h2 [(.func (.func 127) [].toArray [].toArray)] 150]) (((s).shr 0 R).e 4 [1,2,3,0])).e 2 [1,0]))
 rcases bif_ hr with ⟨e9,hr⟩|⟨e9,hr⟩
 ·obtain ⟨t,b0,i0,i1,s0⟩:=r
  obtain rfl:=Nat.eq_of_beq_eq_true e9
  exact InvOk.mk (me145_shape _) (((Z1m_ok hr).perm (Pre':=[pk [bxl h0 [(iv i0)] 3,bxl h1 [(iv i1)] 3,bxl h2 [(.func (.func 129) [].toArray [].toArray)] 150],rds kT3 (.slice A1 N1 D1) x0.Args,rds kT3 (.slice A2 N2 D2) x0.Dims,rds kT3 (.slice A3 N3 D3) x0.Ints,rds kT3 (.slice A4 N4 D4) x0.Data,rds kT23 (.slice A5 N5 D5) x1,gl 0 mG]) (fun _ _ _ s=>(St.unpack (A:=[bxl h0 [(iv i0)] 3,bxl h1 [(iv i1)] 3,bxl h2 [(.func (.func 129) [].toArray [].toArray)] 150]) s).e 9 [0,1,2,3,4,5,6,7])).post id (fun _=>rfl) (fun _ _ _ _ s=>(St.pack (A:=[bxl h0 [(iv i0)] 3,bxl h1 [(iv i1)] 3,bxl h2 [(.func (.func 129) [].toArray [].toArray)] 150]) (((s).shr 0 R).e 4 [1,2,3,0])).e 2 [1,0]))
 rcases bif_ hr with ⟨e10,hr⟩|⟨e10,hr⟩
 ·obtain ⟨t,b0,i0,i1,s0⟩:=r
  obtain rfl:=Nat.eq_of_beq_eq_true e10
  exact InvOk.mk (me145_shape _) (((Z1n_ok hr).perm (Pre':=[pk [bxl h0 [(iv i0)] 3,bxl h1 [(iv i1)] 3,bxl h2 [(.func (.func 131) [].toArray [].toArray)] 150],rds kT3 (.slice A1 N1 D1) x0.Args,rds kT3 (.slice A2 N2 D2) x0.Dims,rds kT3 (.slice A3 N3 D3) x0.Ints,rds kT3 (.slice A4 N4 D4) x0.Data,rds kT23 (.slice A5 N5 D5) x1,gl 0 mG]) (fun _ _ _ s=>(St.unpack (A:=[bxl h0 [(iv i0)] 3,bxl h1 [(iv i1)] 3,bxl h2 [(.func (.func 131) [].toArray [].toArray)] 150]) s).e 9 [0,1,2,3,4,5,6,7])).post id (fun _=>rfl) (fun _ _ _ _ s=>(St.pack (A:=[bxl h0 [(iv i0)] 3,bxl h1 [(iv i1)] 3,bxl h2 [(.func (.func 131) [].toArray [].toArray)] 150]) (((s).shr 0 R).e 4 [1,2,3,0])).e 2 [1,0]))
 have hV:kindOfRV r (h0,h1,h2)=(.iface 145 (.agg [(vstr r.s0),(.func (.func 149) [].toArray [(pt h0 0),(pt h1 0),(pt h2 0)].toArray)].toArray)):=by simp only [kindOfRV,e0,e1,e2,e3,e4,e5,e6,e7,e8,e9,e10,cond_false]
 have hE:kindOfRE r (h0,h1,h2)=pk [bxl h0 [(iv r.i0)] 3,bxl h1 [(iv r.i1)] 3,bxl h2 [(.func (.func 133) [].toArray [].toArray)] 150]:=by simp only [kindOfRE,e0,e1,e2,e3,e4,e5,e6,e7,e8,e9,e10,cond_false]
 rw [hV,hE]
 exact InvOk.mk (me145_shape _) (((Z1o_ok hr).perm (Pre':=[pk [bxl h0 [(iv r.i0)] 3,bxl h1 [(iv r.i1)] 3,bxl h2 [(.func (.func 133) [].toArray [].toArray)] 150],rds kT3 (.slice A1 N1 D1) x0.Args,rds kT3 (.slice A2 N2 D2) x0.Dims,rds kT3 (.slice A3 N3 D3) x0.Ints,rds kT3 (.slice A4 N4 D4) x0.Data,rds kT23 (.slice A5 N5 D5) x1,gl 0 mG]) (fun _ _ _ s=>(St.unpack (A:=[bxl h0 [(iv r.i0)] 3,bxl h1 [(iv r.i1)] 3,bxl h2 [(.func (.func 133) [].toArray [].toArray)] 150]) s).e 9 [0,1,2,3,4,5,6,7])).post id (fun _=>rfl) (fun _ _ _ _ s=>(St.pack (A:=[bxl h0 [(iv r.i0)] 3,bxl h1 [(iv r.i1)] 3,bxl h2 [(.func (.func 133) [].toArray [].toArray)] 150]) ((s).e 4 [1,2,3,0])).e 2 [1,0]))
theorem Zd_ok  {n1:Node}{shapes6:(List (List Int))}{mG:Int}{r:(List Int)×Bool}(hr:Zd n1 shapes6=some r) :
 FnOk Tryz.prog 59 [(.agg [(iv n1.Op),(.slice A2 N2 D2),(.slice A3 N3 D3),(.slice A4 N4 D4),(vstr n1.Form),(.slice A5 N5 D5)].toArray),(.slice A7 N7 D7)] [rds kT3 (.slice A2 N2 D2) n1.Args,rds kT3 (.slice A3 N3 D3) n1.Dims,rds kT3 (.slice A4 N4 D4) n1.Ints,rds kT3 (.slice A5 N5 D5) n1.Data,ow (kT23).share 23 (.slice A7 N7 D7) shapes6,gl 0 mG] (fun (h:HH)=>((.tuple [(s3 h),(.bool r.2)].toArray),[rds kT3 (s3 h) r.1,ow (kT23).share 23 (.slice A7 N7 D7) shapes6])):=by
 unfold Zd at hr
 refine fn_ok Tryz.func59 R 58 R R fun C V=>?_
 refine cM _ (tE 6 [4,0,1,2,3,5]) ?_
 refine cL 0 sees_sh ?_
 rintro rfl
 refine cL 1 sees_rd ?_
 rintro rfl
 refine cL 2 sees_rd ?_
 rintro rfl
 refine cL 3 sees_rd ?_
 rintro rfl
 refine cL 4 sees_rd ?_
 rintro rfl
 let W0:=RR kT3 A2 D2 n1.Args::RR kT3 A3 D3 n1.Dims::RR kT3 A4 D4 n1.Ints::RR kT3 A5 D5 n1.Data::gl 0 mG::V
 refine o_2 ?_
 refine lBx R fun b8=>?_
 refine o_3 ?_
 refine qM _ (tE 2 [1,0]) ?_
 let W1:=bxl b8 [(iv n1.Op),(sc A2 n1.Args D2),(sc A3 n1.Dims D3),(sc A4 n1.Ints D4),(vstr n1.Form),(sc A5 n1.Data D5)] 54::W0
 refine o_2 ?_
 obtain ⟨r9,hx10,hr⟩:=bd hr
 refine o_3 ?_
 refine lC 0 cb96 R (Zw_ok hx10) R ?_
 rintro ⟨b11,b12,b13⟩
 refine lO (vp _ R) ?_
 refine o_4 ?_
 obtain ⟨r14,hx15,hr⟩:=bd hr
 obtain ⟨r16,hx17,hr⟩:=bd hr
 refine cQ [(1,(sc A7 shapes6 D7)),(2,(pt b8 0)),(6,(kindOfRV r9 (b11,b12,b13))),(27,(.bool (((Nat.beq r9.t 0)||(!r16))||(decide ((n1.Args.length:Int)>6)))))] (OO (kT23).share 23 A7 D7 shapes6::kindOfRE r9 (b11,b12,b13)::W1) ?_ ?_
 rcases bo (Nat.beq r9.t 0) with hc18 | hc18
 refine cdr 15 [] mixo fun ht hn=>?_
 refine dR 0 R (vp _ R) (dR 1 R (vz (.bool (Nat.beq r9.t 0)) (kindOfRN R)) ?_)
 refine d13_ 2 [] ?_
 refine dD ?_
 exact qj (tE 2 [1,0])
 rcases bo ((Nat.beq r9.t 0)||(!r16)) with hc19 | hc19
 refine cdr 15 [] mixo fun ht hn=>?_
 refine dR 0 R (vp _ R) (dR 1 R (vz (.bool (Nat.beq r9.t 0)) (kindOfRN R)) ?_)
 refine d2_ 2 [] ?_
 refine dW 4 R (wnF hc18) (vp _ R) (d1 5 R (l_inv 1 (wnF hc18) R R (kindOfR_uses_ok (gcall_t hx15 (not_ff hc18))) R ?_))
 rintro _
 refine l_nil (q_draw (sL []) (d1 6 R (lM _ (fun w s=>((((((s.d 3 R).d 5 R).d 7 R).d 9 R).dg 11 R).e 7 [4,3,2,1,0,5,6])) ?_)))
 refine l_calln 5 R (wnF hc18) cb97 R (Z1s_ok (gcall_t hx17 (not_ff hc18))) R ?_
 rintro _
 refine l_nil (q_draw (sL []) ?_)
 refine d8_ 7 [] ?_
 refine dD ?_
 exact qj (tE 2 [1,0])
 refine cdr 15 [] mixo fun ht hn=>?_
 refine dR 0 R (vp _ R) (dR 1 R (vz (.bool (Nat.beq r9.t 0)) (kindOfRN R)) ?_)
 refine d2_ 2 [] ?_
 refine dW 4 R (wnF hc18) (vp _ R) (d1 5 R (l_inv 1 (wnF hc18) R R (kindOfR_uses_ok (gcall_t hx15 (not_ff hc18))) R ?_))
 rintro _
 refine l_nil (q_draw (sL []) (d1 6 R (lM _ (fun w s=>((((((s.d 3 R).d 5 R).d 7 R).d 9 R).dg 11 R).e 7 [4,3,2,1,0,5,6])) ?_)))
 refine l_calln 5 R (wnF hc18) cb97 R (Z1s_ok (gcall_t hx17 (not_ff hc18))) R ?_
 rintro _
 refine l_nil (q_draw (sL []) ?_)
 refine d8_ 7 [] ?_
 refine dD ?_
 exact qj (tE 2 [1,0])
 rintro σ1
 refine o_1 ?_
 split at hr
 refine o_9 ?_
 cases hr
 exact qT2 (none,0,0) (fun w s=>((s.nilr kT3).e 9 [0,1]))
 refine o_5 ?_
 refine l_build (K:=kT23) (xs:=([]:List (List Int))) (vs:=[]) 0 R R sl38 sz23 zc23 R R R R R R ?_ R (fun A21 D21=>?_)
 exact fun I h s=>(mO23).list [] I h s
 refine o_4 ?_
 refine c_cut (A:=((List (List Int)))×(HH)) (fun a=>Zd_J1 n1 r9 a.1=some r) (fun a=>[(2,(pt b8 0)),(6,(kindOfRV r9 (b11,b12,b13))),(7,(s3 a.2))]) (fun a=>kindOfRE r9 (b11,b12,b13)::ow (kT23).share 23 (s3 a.2) a.1::OO (kT23).share 23 A7 D7 shapes6::W1) ?_ ?_
 refine o_9 ?_
 obtain ⟨e1,hl1,hk1⟩:=bd hr
 refine c_loop (A:=HH×HH) hl1 (fun s a=>[(1,(sc A7 shapes6 D7)),(2,(pt b8 0)),(6,(kindOfRV r9 (b11,b12,b13))),(7,(s3 a.1)),(30,(s3 a.2)),(31,(il n1.Args)),(32,(iv s.2))]) (fun s a=>OO (kT23).share 23 A7 D7 shapes6::kindOfRE r9 (b11,b12,b13)::ow (kT23).share 23 (s3 a.1) s.1::rds kT3 (s3 a.2) n1.Args::W1) ((A21,([]:List (List Int)).length,D21),(A2,n1.Args.length,D2)) (aS R) (fun w s=>(((s.wk 0 R).d 4 R).e 4 [2,3,1,0])) ?_
 rintro ⟨args35,x38⟩ ⟨⟨A36,N36,D36⟩,⟨A37,N37,D37⟩⟩ σ1 out1 hr he1
 dsimp only [Zd_L1] at hr
 refine c_len 2 sees_sh (fun (hn:N36=args35.length)=>?_)
 subst hn
 refine c_len 3 sees_rd (fun (hn:N37=n1.Args.length)=>?_)
 subst hn
 refine o_6 ?_
 split at hr
 refine o_6 ?_
 obtain ⟨hg40,hr⟩:=gd hr
 refine c_region (t_some 3 sees_rd (show 0<n1.Args.length by have:=hg40; omega) (fun g41 o42 ha=>?_))
 subst ha
 refine o_7 ?_
 refine cQ [(1,(sc A7 shapes6 D7)),(2,(pt b8 0)),(6,(kindOfRV r9 (b11,b12,b13))),(7,(sc A36 args35 D36)),(9,(iv (ix n1.Args x38))),(30,(sc (ad g41 o42) n1.Args D37)),(31,(il n1.Args)),(32,(iv x38)),(43,(.bool ((decide ((ix n1.Args x38)<0))||(decide ((ix n1.Args x38)≥(shapes6.length:Int))))))] (OO (kT23).share 23 A7 D7 shapes6::kindOfRE r9 (b11,b12,b13)::OO (kT23).share 23 A36 D36 args35::RR kT3 (ad g41 o42) D37 n1.Args::W1) ?_ ?_
 refine o_4 ?_
 rcases bo (decide ((ix n1.Args x38)<0)) with hc43 | hc43
 refine o_6 ?_
 exact qj tI
 refine o_6 ?_
 exact qj tI
 rintro σ1
 refine o_1 ?_
 split at hr
 refine o_11 ?_
 cases hr
 obtain rfl:=he1 _ R
 have hr:=hk1
 refine o_3 ?_
 cases hr
 exact qT2 (none,0,0) (fun w s=>((s.nilr kT3).e 11 [0,1]))
 refine o_3 ?_
 obtain ⟨hg45,hr⟩:=gd hr
 obtain ⟨hg50,hr⟩:=gd hr
 refine o_4 ?_
 refine t_some 0 sees_sh (show 0<shapes6.length by have:=hg45; omega) (fun g46 o47 ha=>?_)
 subst ha
 refine o_1 ?_
 refine l_ldof (K:=(kT23).share) (fo:=0) 0 (ix n1.Args x38) R R ag23 dT23.own (fun _ _=>R) R R hg45.1 hg45.2 ?_
 rintro ⟨A48,D48⟩
 refine lM _ (fun w s=>(s.d 0 R)) ?_
 refine l_build (K:=(kT23).share) (xs:=([(ix shapes6 (ix n1.Args x38))]:List (List Int))) (vs:=[(sc A48 (ix shapes6 (ix n1.Args x38)) D48)]) 1 R R sl38 sz23 zc23 R R R R R R ?_ R (fun A49 D49=>?_)
 exact fun I h s=>(mS23).list [((sc A48 (ix shapes6 (ix n1.Args x38)) D48),(ix shapes6 (ix n1.Args x38)))] I h s
 refine lM _ (tE 6 [4,0,1,2,3,5]) ?_
 refine l_app (K:=(kT23).share) 5864062014805 R R sl38 sz23 by23 (Zr.zk (Zr.share zT23) zc23) R R R R R R src_ow hg50 (fun A51 D51=>(lN (OO (kT23).share 23 A51 D51 (args35++([(ix shapes6 (ix n1.Args x38))]:List (List Int)))::_::_::_::_::W1) ?_))
 refine o_8 ?_
 cases hr
 exact qA ((A51,(args35++([(ix shapes6 (ix n1.Args x38))]:List (List Int))).length,D51),((ad g41 o42),n1.Args.length,D37)) (tE 5 [2,3,0,4])
 refine o_3 ?_
 cases hr
 obtain rfl:=he1 _ R
 have hr:=hk1
 refine o_2 ?_
 exact qI (args35,(A36,args35.length,D36)) hr (tE 4 [1,2,0])
 rintro ⟨args56,⟨A57,N57,D57⟩⟩ σ1 hr
 dsimp only [Zd_J1] at hr
 refine c_len 1 sees_sh (fun (hn:N57=args56.length)=>?_)
 subst hn
 refine o_1 ?_
 obtain ⟨r58,hx59,hr⟩:=bd hr
 refine c_region (lO (vp _ R) ?_)
 refine o_2 ?_
 refine l_st (fun w s=>s.shs 1 R) (lM _ (fun w s=>(((((((s.d 4 R).d 6 R).d 8 R).d 10 R).d 4 R).dg 13 R).e 9 [7,5,4,3,2,1,0,6,8])) ?_)
 refine l_inv 7 R R R (kindOfR_shape_ok hx59) R ?_
 rintro ⟨A60,N60,D60⟩
 refine l_len 0 sees_rd ?_
 rintro rfl
 refine o_7 ?_
 cases hr
 exact qT2 (A60,r58.1.length,D60) (tE 10 [0,3])
theorem Zh_ok  {g1:Graph}{mG:Int}{r:(List (List Int))×Bool}(hr:Zh g1=some r) :
 FnOk Tryz.prog 36 [(.agg [(.slice A2 N2 D2),(.slice A3 N3 D3)].toArray)] [rds kT54 (.slice A2 N2 D2) g1.Nodes,rds kT3 (.slice A3 N3 D3) g1.Outs,gl 0 mG] (fun (h:HH)=>((.tuple [(s3 h),(.bool r.2)].toArray),[ow (kT23).share 23 (s3 h) r.1])):=by
 unfold Zh at hr
 refine fn_ok Tryz.func36 R 60 R R fun C V=>?_
 refine cL 0 sees_rd ?_
 rintro rfl
 refine cL 1 sees_rd ?_
 rintro rfl
 let W0:=RR kT54 A2 D2 g1.Nodes::RR kT3 A3 D3 g1.Outs::gl 0 mG::V
 refine cN W0 ?_
 refine o_2 ?_
 refine lBx R fun b4=>?_
 refine o_3 ?_
 let W1:=bxl b4 [(sc A2 g1.Nodes D2),(sc A3 g1.Outs D3)] 30::W0
 refine qN W1 ?_
 refine o_3 ?_
 refine cQ [(1,(pt b4 0)),(20,(.bool ((decide ((g1.Nodes.length:Int)>200))||(decide ((g1.Outs.length:Int)>40)))))] (W1) ?_ ?_
 refine o_6 ?_
 rcases bo (decide ((g1.Nodes.length:Int)>200)) with hc5 | hc5
 refine o_6 ?_
 exact qj tI
 refine o_6 ?_
 exact qj tI
 rintro σ1
 refine o_1 ?_
 split at hr
 refine o_9 ?_
 cases hr
 exact qT2 (none,0,0) (fun w s=>((s.nilo (kT23).share 23).e 5 [0]))
 refine o_5 ?_
 refine l_build (K:=kT23) (xs:=([]:List (List Int))) (vs:=[]) 0 R R sl38 sz23 zc23 R R R R R R ?_ R (fun A7 D7=>?_)
 exact fun I h s=>(mO23).list [] I h s
 refine o_4 ?_
 refine c_cut (A:=((List (List Int)))×(HH)) (fun a=>Zh_J1 g1 a.1=some r) (fun a=>[(1,(pt b4 0)),(4,(s3 a.2))]) (fun a=>ow (kT23).share 23 (s3 a.2) a.1::W1) ?_ ?_
 refine o_9 ?_
 obtain ⟨e1,hl1,hk1⟩:=bd hr
 refine c_loop (A:=HH) hl1 (fun s a=>[(1,(pt b4 0)),(4,(s3 a)),(23,(sc A2 g1.Nodes D2)),(24,(il g1.Nodes)),(25,(iv s.2))]) (fun s a=>ow (kT23).share 23 (s3 a) s.1::W1) (A7,([]:List (List Int)).length,D7) (aS R) (fun w s=>(s.wk 0 R)) ?_
 rintro ⟨x24,x26⟩ ⟨A25,N25,D25⟩ σ1 out1 hr he1
 dsimp only [Zh_L1] at hr
 refine c_len 0 sees_sh (fun (hn:N25=x24.length)=>?_)
 subst hn
 refine o_6 ?_
 split at hr
 refine o_6 ?_
 obtain ⟨hg28,hr⟩:=gd hr
 refine c_region (t_some 2 sees_rd (show 0<g1.Nodes.length by have:=hg28; omega) (fun g29 o30 ha=>?_))
 subst ha
 refine o_1 ?_
 refine t_elem (K:=kT54) 2 x26 dT54.dec R hg28.1 hg28.2 ?_
 rintro ⟨-,⟨A31,D31⟩,⟨A32,D32⟩,⟨A33,D33⟩,-,⟨A34,D34⟩⟩
 refine lO (vz (.agg [(iv (ix g1.Nodes x26).Op),(sc A31 ((ix g1.Nodes x26).Args) D31),(sc A32 ((ix g1.Nodes x26).Dims) D32),(sc A33 ((ix g1.Nodes x26).Ints) D33),(vstr (ix g1.Nodes x26).Form),(sc A34 ((ix g1.Nodes x26).Data) D34)].toArray) (v_clfs (fo:=0) 0 ag54 sz54 R R R R)) (l_alloc R R zc54 (fun b35=>(l_stores 0 R R sz54 R R R R R R (lN (bxl b35 [(iv (ix g1.Nodes x26).Op),(sc A31 ((ix g1.Nodes x26).Args) D31),(sc A32 ((ix g1.Nodes x26).Dims) D32),(sc A33 ((ix g1.Nodes x26).Ints) D33),(vstr (ix g1.Nodes x26).Form),(sc A34 ((ix g1.Nodes x26).Data) D34)] 54::_::_::_::_::_::_::W1) ?_))))
 refine o_3 ?_
 obtain ⟨r36,hx37,hr⟩:=bd hr
 refine o_3 ?_
 refine lM _ (fun w s=>((((((s.d 2 R).d 4 R).d 6 R).d 8 R).dg 14 R).e 12 [4,3,2,1,11,0,5,6,7,8,9,10])) ?_
 refine lC 6 cb59 R (Zd_ok hx37) R ?_
 rintro ⟨A38,N38,D38⟩
 refine l_len 0 sees_rd ?_
 rintro rfl
 refine lO (vT R) ?_
 refine o_13 ?_
 split at hr
 refine o_11 ?_
 cases hr
 obtain rfl:=he1 _ R
 have hr:=hk1
 refine o_3 ?_
 cases hr
 exact qT2 (none,0,0) (fun w s=>((s.nilo (kT23).share 23).e 13 [0]))
 refine o_3 ?_
 obtain ⟨hg41,hr⟩:=gd hr
 refine o_3 ?_
 refine lM _ (fun w s=>(s.d 0 R)) ?_
 refine l_build (K:=(kT23).share) (xs:=([r36.1]:List (List Int))) (vs:=[(sc A38 r36.1 D38)]) 1 R R sl38 sz23 zc23 R R R R R R ?_ R (fun A40 D40=>?_)
 exact fun I h s=>(mS23).list [((sc A38 r36.1 D38),r36.1)] I h s
 refine lM _ (fun w s=>(s.f 9 [2,1,0,2,3,6])) ?_
 refine l_app (K:=(kT23).share) 5864062014805 R R sl38 sz23 by23 (Zr.zk (Zr.share zT23) zc23) R R R R R R src_ow hg41 (fun A42 D42=>(lN (OO (kT23).share 23 A42 D42 (x24++([r36.1]:List (List Int)))::_::_::_::_::_::_::_::W1) ?_))
 refine o_8 ?_
 cases hr
 exact qA (A42,(x24++([r36.1]:List (List Int))).length,D42) (tE 8 [0])
 refine o_3 ?_
 cases hr
 obtain rfl:=he1 _ R
 have hr:=hk1
 refine o_2 ?_
 exact qI (x24,(A25,x24.length,D25)) hr tI
 rintro ⟨x46,⟨A47,N47,D47⟩⟩ σ1 hr
 dsimp only [Zh_J1] at hr
 refine c_len 0 sees_sh (fun (hn:N47=x46.length)=>?_)
 subst hn
 refine c_seq (c_cut (A:=(Unit)×(Unit)) (fun a=>Zh_J2 x46=some r) (fun a=>[(4,(sc A47 x46 D47))]) (fun a=>OO (kT23).share 23 A47 D47 x46::W1) ?_ ?_)
 refine o_9 ?_
 obtain ⟨e2,hl2,hk2⟩:=bd hr
 refine c_loop (A:=HH) hl2 (fun s a=>[(1,(pt b4 0)),(4,(sc A47 x46 D47)),(43,(s3 a)),(44,(il g1.Outs)),(45,(iv s))]) (fun s a=>OO (kT23).share 23 A47 D47 x46::rds kT3 (s3 a) g1.Outs::W1) (A3,g1.Outs.length,D3) (aS R) (fun w s=>((s.d 3 R).e 2 [1,0])) ?_
 rintro x55 ⟨A54,N54,D54⟩ σ1 out2 hr he2
 dsimp only [Zh_L2] at hr
 refine c_len 1 sees_rd (fun (hn:N54=g1.Outs.length)=>?_)
 subst hn
 refine o_6 ?_
 split at hr
 refine o_6 ?_
 obtain ⟨hg57,hr⟩:=gd hr
 refine c_region (t_some 1 sees_rd (show 0<g1.Outs.length by have:=hg57; omega) (fun g58 o59 ha=>?_))
 subst ha
 refine o_6 ?_
 refine cQ [(1,(pt b4 0)),(4,(sc A47 x46 D47)),(43,(sc (ad g58 o59) g1.Outs D54)),(44,(il g1.Outs)),(45,(iv x55)),(57,(.bool ((decide ((ix g1.Outs x55)<0))||(decide ((ix g1.Outs x55)≥(g1.Nodes.length:Int))))))] (OO (kT23).share 23 A47 D47 x46::RR kT3 (ad g58 o59) D54 g1.Outs::W1) ?_ ?_
 refine o_4 ?_
 rcases bo (decide ((ix g1.Outs x55)<0)) with hc60 | hc60
 refine o_7 ?_
 exact qj tI
 refine o_7 ?_
 exact qj tI
 rintro σ1
 refine o_1 ?_
 split at hr
 refine o_10 ?_
 cases hr
 obtain rfl:=he2 _ R
 have hr:=hk2
 refine o_3 ?_
 cases hr
 exact qT2 (none,0,0) (fun w s=>((s.nilo (kT23).share 23).e 7 [0]))
 refine o_8 ?_
 cases hr
 exact qA ((ad g58 o59),g1.Outs.length,D54) tI
 refine o_3 ?_
 cases hr
 obtain rfl:=he2 _ R
 have hr:=hk2
 refine o_2 ?_
 exact qI ((),()) hr (tE 2 [0])
 rintro ⟨_,_⟩ σ1 hr
 dsimp only [Zh_J2] at hr
 refine o_8 ?_
 cases hr
 exact qT2 (A47,x46.length,D47) (tE 5 [0])
theorem Z2h_ok  {g1:Graph}{mG:Int}{r:Bool}(hr:Z2h g1=some r) :
 FnOk Tryz.prog 12 [(.agg [(.slice A2 N2 D2),(.slice A3 N3 D3)].toArray)] [rds kT54 (.slice A2 N2 D2) g1.Nodes,rds kT3 (.slice A3 N3 D3) g1.Outs,gl 0 mG] (fun (h:Unit)=>((.bool r),[])):=by
 unfold Z2h at hr
 refine fn_ok Tryz.func12 R 11 R R fun C V=>?_
 refine cL 0 sees_rd ?_
 rintro rfl
 refine cL 1 sees_rd ?_
 rintro rfl
 let W0:=RR kT54 A2 D2 g1.Nodes::RR kT3 A3 D3 g1.Outs::gl 0 mG::V
 refine cN W0 ?_
 refine o_2 ?_
 refine lBx R fun b4=>?_
 refine o_2 ?_
 let W1:=bxl b4 [(sc A2 g1.Nodes D2),(sc A3 g1.Outs D3)] 30::W0
 refine qN W1 ?_
 refine o_2 ?_
 obtain ⟨r5,hx6,hr⟩:=bd hr
 refine o_2 ?_
 refine lM _ (fun w s=>((((s.d 1 R).d 3 R).dg 5 R).e 3 [2,1,0])) ?_
 refine lC 3 cb36 R (Zh_ok hx6) R ?_
 rintro ⟨A7,N7,D7⟩
 refine l_len 0 sees_sh ?_
 rintro rfl
 refine lO (vT R) ?_
 refine o_13 ?_
 cases hr
 exact qF () (tE 5 [])
theorem Z06_ok  {g1:Graph}{r:(List Int)}(hr:Z06 g1=some r) :
 FnOk Tryz.prog 38 [(.agg [(.slice A2 N2 D2),(.slice A3 N3 D3)].toArray)] [rds kT54 (.slice A2 N2 D2) g1.Nodes,rds kT3 (.slice A3 N3 D3) g1.Outs] (fun (h:HH)=>((.slice h.1 h.2.1 h.2.2),[ow kT3 3 (.slice h.1 h.2.1 h.2.2) r])):=by
 unfold Z06 at hr
 refine fn_ok Tryz.func38 R 24 R R fun C V=>?_
 refine cN (_::_::V) ?_
 refine cL 0 sees_rd ?_
 rintro rfl
 refine cL 1 sees_rd ?_
 rintro rfl
 let W0:List HP:=RR kT54 A2 D2 g1.Nodes::RR kT3 A3 D3 g1.Outs::V
 refine cN W0 ?_
 refine c_seq (c_region (lBx R (fun b4=>(lS R (l_nil ?_)))))
 let W1:List HP:=bxl b4 [(sc A2 g1.Nodes D2),(sc A3 g1.Outs D3)] 30::W0
 refine qN W1 ?_
 refine q_next (c_seq (c_region (l_build (K:=kT3) (xs:=([]:List Int)) (vs:=[]) 0 R R sl23 sz3 zc3 R R R R R R ?_ R (fun A5 D5=>?_))))
 exact fun I h s=>(mO3).list [] I h s
 refine lN (OO kT3 3 A5 D5 ([]:List Int)::W1) ?_
 refine lS R (l_nil (q_next (c_seq (c_cut (A:=((List Int))×(HH)) (fun a=>Z06_J3 a.1=some r) (fun a=>[(3,(.slice a.2.1 a.2.2.1 a.2.2.2))]) (fun a=>ow kT3 3 (.slice a.2.1 a.2.2.1 a.2.2.2) a.1::W1) ?_ ?_))))
 refine c_seq (c_region (lO (vFa 0 fo30_0 R) (lO (vLd 1 ag28 R R R) (lO (v_len sl28 R) (lI R (l_nil (q_next (c_block ?_))))))))
 obtain ⟨e1,hl1,hk1⟩:=bd hr
 refine c_loop (A:=HH) hl1 (fun s a=>[(3,(.slice a.1 a.2.1 a.2.2)),(8,(sc A2 g1.Nodes D2)),(9,(il g1.Nodes)),(10,(iv s.2))]) (fun s a=>ow kT3 3 (.slice a.1 a.2.1 a.2.2) s.1::W1) (A5,([]:List Int).length,D5) (aS R) (fun w s=>s) ?_
 rintro ⟨x21,x23⟩ ⟨A22,N22,D22⟩ σ1 out1 hr he1
 replace hr:Z06_L1 g1 x21 x23=some out1:=hr
 unfold Z06_L1 at hr
 refine c_len 0 sees_ow (fun (hn:N22=x21.length)=>?_)
 subst hn
 refine c_seq (c_region (lO (vLt R R) (l_nil (q_next (c_seq ?_)))))
 rcases bif_ hr with ⟨hb24,hr⟩|⟨hb24,hr⟩
 refine c_true R hb24 (c_skip (q_next (c_seq (c_cut (A:=((List Int))×(HH)) (fun a=>Z06_J2 x23 a.1=some out1) (fun a=>[(3,(.slice a.2.1 a.2.2.1 a.2.2.2)),(8,(sc A2 g1.Nodes D2)),(9,(il g1.Nodes)),(10,(iv x23))]) (fun a=>ow kT3 3 (.slice a.2.1 a.2.2.1 a.2.2.2) a.1::W1) ?_ ?_))))
 refine c_block (c_seq ?_)
 obtain ⟨hg25,hr⟩:=gd hr
 refine c_region (lI R (t_some 2 sees_rd (show 0<g1.Nodes.length by have:=hg25; omega) (fun g26 o27 ha=>?_)))
 subst ha
 refine lO (vIa sl28 sz54 R R hg25) (t_elem (K:=kT54) 2 x23 dT54.dec R hg25.1 hg25.2 ?_)
 rintro ⟨-,⟨A28,D28⟩,⟨A29,D29⟩,⟨A30,D30⟩,-,⟨A31,D31⟩⟩
 refine lN (cl g26 (o27+x23.toNat*6) [(iv (ix g1.Nodes x23).Op),(sc A28 ((ix g1.Nodes x23).Args) D28),(sc A29 ((ix g1.Nodes x23).Dims) D29),(sc A30 ((ix g1.Nodes x23).Ints) D30),(vstr (ix g1.Nodes x23).Form),(sc A31 ((ix g1.Nodes x23).Data) D31)]::RR kT3 A28 D28 ((ix g1.Nodes x23).Args)::RR kT3 A29 D29 ((ix g1.Nodes x23).Dims)::RR kT3 A30 D30 ((ix g1.Nodes x23).Ints)::RR kT3 A31 D31 ((ix g1.Nodes x23).Data)::OO kT3 3 A22 D22 x21::W1) ?_
 refine lO (vz (.agg [(iv (ix g1.Nodes x23).Op),(sc A28 ((ix g1.Nodes x23).Args) D28),(sc A29 ((ix g1.Nodes x23).Dims) D29),(sc A30 ((ix g1.Nodes x23).Ints) D30),(vstr (ix g1.Nodes x23).Form),(sc A31 ((ix g1.Nodes x23).Data) D31)].toArray) (v_clfs (fo:=0) 0 ag54 sz54 R R R R)) (l_alloc R R zc54 (fun b32=>(lI R (l_stores 0 R R sz54 R R R R R R (lN (bxl b32 [(iv (ix g1.Nodes x23).Op),(sc A28 ((ix g1.Nodes x23).Args) D28),(sc A29 ((ix g1.Nodes x23).Dims) D29),(sc A30 ((ix g1.Nodes x23).Ints) D30),(vstr (ix g1.Nodes x23).Form),(sc A31 ((ix g1.Nodes x23).Data) D31)] 54::_::_::_::_::_::_::W1) ?_)))))
 refine l_nil (q_next (c_seq (c_region (lO (vFa 0 fo54_0 R) (lO (vLd 0 ag3 R R R) (lO (vEq R R) (l_nil (q_next ?_))))))))
 rcases bif_ hr with ⟨hb33,hr⟩|⟨hb33,hr⟩
 refine c_true R hb33 ?_
 obtain ⟨hg35,hr⟩:=gd hr
 refine c_region (lS R (lI R (l_build (K:=kT3) (xs:=([x23]:List Int)) (vs:=[(iv x23)]) 0 R R sl23 sz3 zc3 R R R R R R ?_ R (fun A34 D34=>?_))))
 exact fun I h s=>(mO3).list [((),x23)] I h s
 refine lN (OO kT3 3 A34 D34 ([x23]:List Int)::_::_::_::_::_::_::_::W1) ?_
 refine lM (ow _ _ _ _::ow _ _ _ _::bxl _ _ _::cl _ _ _::rds _ _ _::rds _ _ _::rds _ _ _::rds _ _ _::W1) (fun w s=>(s.f 8 [7,1,0,7])) ?_
 refine l_app (K:=kT3) 17592186044416 R R sl23 sz3 by3 (Zr.zk zT3 zc3) R R R R R R src_ow hg35 (fun A36 D36=>(lN (OO kT3 3 A36 D36 (x21++([x23]:List Int))::_::_::_::_::_::_::W1) ?_))
 refine lS R (l_nil (q_blockn ?_))
 exact qI ((x21++([x23]:List Int)),(A36,(x21++([x23]:List Int)).length,D36)) hr (fun w s=>(s.e 7 [0]))
 refine c_false R hb33 (c_skip (q_blockn ?_))
 exact qI (x21,(A22,x21.length,D22)) hr (fun w s=>(s.e 7 [6]))
 rintro ⟨x37,⟨A38,N38,D38⟩⟩ σ1 hr
 replace hr:Z06_J2 x23 x37=some out1:=hr
 unfold Z06_J2 at hr
 refine c_len 0 sees_ow (fun (hn:N38=x37.length)=>?_)
 subst hn
 refine c_region (lO (vAd R R) (lI R (l_nil ?_)))
 obtain rfl:=so hr
 exact qA (A38,x37.length,D38) (fun w s=>s)
 refine c_false R hb24 (c_exit (q_exit ?_))
 obtain rfl:=so hr
 obtain rfl:=he1 _ R
 have hr:=hk1
 refine q_exit (q_block ?_)
 exact qI (x21,(A22,x21.length,D22)) hr (fun w s=>s)
 rintro ⟨x42,⟨A43,N43,D43⟩⟩ σ1 hr
 replace hr:Z06_J3 x42=some r:=hr
 unfold Z06_J3 at hr
 refine c_len 0 sees_ow (fun (hn:N43=x42.length)=>?_)
 subst hn
 refine c_seq (c_region (lS R (lS R (l_nil (q_next (c_ret ?_))))))
 obtain rfl:=so hr
 exact qF (A43,x42.length,D43) (fun w s=>(s.e 4 [0]))
theorem Z1u_ok  {g1:Graph}{mG:Int}{r:(List Int)}(hr:Z1u g1=some r) :
 FnOk Tryz.prog 15 [(.agg [(.slice A2 N2 D2),(.slice A3 N3 D3)].toArray)] [rds kT54 (.slice A2 N2 D2) g1.Nodes,rds kT3 (.slice A3 N3 D3) g1.Outs,gl 0 mG] (fun (h:HH)=>((.slice h.1 h.2.1 h.2.2),[ow kT3 3 (.slice h.1 h.2.1 h.2.2) r])):=by
 unfold Z1u at hr
 refine fn_ok Tryz.func15 R 8 R R fun C V=>?_
 refine cN (_::_::_::V) ?_
 refine cL 0 sees_rd ?_
 rintro rfl
 refine cL 1 sees_rd ?_
 rintro rfl
 let W0:List HP:=RR kT54 A2 D2 g1.Nodes::RR kT3 A3 D3 g1.Outs::gl 0 mG::V
 refine cN W0 ?_
 refine c_seq (c_region (lBx R (fun b4=>(lS R (l_nil ?_)))))
 let W1:List HP:=bxl b4 [(sc A2 g1.Nodes D2),(sc A3 g1.Outs D3)] 30::W0
 refine qN W1 ?_
 refine q_next (c_seq (c_seq ?_))
 obtain ⟨r5,hx6,hr⟩:=bd hr
 refine c_region (lO (vz (.agg [(sc A2 g1.Nodes D2),(sc A3 g1.Outs D3)].toArray) (v_loadw 0 ag30 sz30 R R R R)) (lM (RR kT54 A2 D2 g1.Nodes::RR kT3 A3 D3 g1.Outs::gl 0 mG::W1) (fun w s=>((((s.d 1 R).d 3 R).dg 5 R).e 3 [2,1,0])) ?_))
 refine lC 3 cb12 R (Z2h_ok hx6) R ?_
 rintro _
 refine lN W1 ?_
 refine lO (vNo R) (l_nil (q_next ?_))
 rcases bif_ hr with ⟨hb7,hr⟩|⟨hb7,hr⟩
 refine c_true R hb7 (c_seq (c_region (lS R (l_nil (q_next (c_ret (q_ret ?_)))))))
 obtain rfl:=so hr
 exact qF (none,0,0) (fun w s=>((s.nilo kT3 3).e 5 [0]))
 refine c_false R hb7 (c_skip (q_next (c_seq ?_)))
 obtain ⟨r8,hx9,hr⟩:=bd hr
 refine c_region (lO (vz (.agg [(sc A2 g1.Nodes D2),(sc A3 g1.Outs D3)].toArray) (v_loadw 0 ag30 sz30 R R R R)) (lM (RR kT54 A2 D2 g1.Nodes::RR kT3 A3 D3 g1.Outs::W1) (fun w s=>(((s.d 1 R).d 3 R).e 2 [1,0])) ?_))
 refine lC 2 cb38 R (Z06_ok hx9) R ?_
 rintro ⟨A10,N10,D10⟩
 refine lN (ow kT3 3 (.slice A10 N10 D10) r8::W1) ?_
 refine l_len 0 sees_ow ?_
 rintro rfl
 refine lS R (l_nil (q_next (c_ret ?_)))
 obtain rfl:=so hr
 exact qF (A10,r8.length,D10) (fun w s=>(s.e 5 [0]))
end Go.Proofs.YtmpnollfdpdipaaGreat
