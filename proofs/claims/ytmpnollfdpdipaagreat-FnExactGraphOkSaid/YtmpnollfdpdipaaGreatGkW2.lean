import Derived.Test.YtmpnollfdpdipaaGreatGkW1
set_option linter.unusedVariables false
set_option maxRecDepth 20000
namespace Go.Proofs.YtmpnollfdpdipaaGreat
open Go Go.Pg
variable {A2 A3 A4 A5 A6:Option Addr}{D2 D3 D4 D5 D6 N2 N3 N4 N5 N6:Nat}
theorem Z0_ok  {form1:Str}{r:(List Str)×Str×Bool}(hr:Z0 form1=some r) :
 FnOk Tryz.prog 109 [(vstr form1)] [] (fun (h:HH)=>((.tuple [(s3 h),(vstr r.2.1),(.bool r.2.2)].toArray),[ow kT9 9 (s3 h) r.1])):=by
 unfold Z0 at hr
 refine fn_ok Tryz.func109 R 124 R R fun C V=>?_
 refine cN V ?_
 refine o_3 ?_
 refine lO (vp (vstr ([]:Str)) R) ?_
 refine o_5 ?_
 refine l_build (K:=kT9) (xs:=([]:List Str)) (vs:=[]) 0 R R sl122 sz9 zc9 R R R R R R ?_ R (fun A2 D2=>?_)
 exact fun I h s=>(mO9).list [] I h s
 refine lN (OO kT9 9 A2 D2 ([]:List Str)::V) ?_
 refine o_9 ?_
 refine c_cut (A:=(Int)×(Unit)) (fun a=>Z0_J1 form1 a.1=some r) (fun a=>[(0,(vstr form1)),(5,(sc A2 ([]:List Str) D2)),(6,(iv a.1))]) (fun a=>OO kT9 9 A2 D2 ([]:List Str)::V) ?_ ?_
 refine o_1 ?_
 obtain ⟨e1,hl1,hk1⟩:=bd hr
 refine c_loop (A:=Unit) hl1 (fun s a=>[(0,(vstr form1)),(5,(sc A2 ([]:List Str) D2)),(6,(iv s))]) (fun s a=>OO kT9 9 A2 D2 ([]:List Str)::V) () (aS R) tI ?_
 rintro x6 _ σ1 out1 hr he1
 dsimp only [Z0_L1] at hr
 refine o_2 ?_
 obtain ⟨hg7,hr⟩:=gd hr
 refine cQ [(0,(vstr form1)),(5,(sc A2 ([]:List Str) D2)),(6,(iv x6)),(28,(.bool ((decide ((w64 (x6+(1:Int)))<(form1.length:Int)))&&(!((sub form1 x6 (w64 (x6+(2:Int))))==str0)))))] (OO kT9 9 A2 D2 ([]:List Str)::V) ?_ ?_
 refine o_3 ?_
 refine lO (vp (vstr form1) R) (lO (vz (il form1) (v_slen un9 R)) ?_)
 refine o_2 ?_
 rcases bo (decide ((w64 (x6+(1:Int)))<(form1.length:Int))) with hc8 | hc8
 refine lW (wnT hc8) (vp (vstr form1) R) ?_
 refine o_3 ?_
 refine lW (wnT hc8) (vz (vstr (sub form1 x6 (w64 (x6+(2:Int))))) (v_scut x6 (w64 (x6+(2:Int))) un9 R R R (hg7 hc8).1 (hg7 hc8).2.1 (hg7 hc8).2.2)) (lW (wnT hc8) (vz (.bool (!((sub form1 x6 (w64 (x6+(2:Int))))==str0))) (v_scmp R R R)) ?_)
 refine o_2 ?_
 exact qj tI
 refine o_8 ?_
 exact qj tI
 rintro σ1
 refine o_1 ?_
 rcases bif_ hr with ⟨_,hr⟩|⟨_,hr⟩
 refine o_10 ?_
 obtain rfl:=so hr
 exact qA () tI
 refine o_3 ?_
 obtain rfl:=so hr
 obtain rfl:=he1 _ R
 have hr:=hk1
 refine o_2 ?_
 exact qI (x6,()) hr tI
 rintro ⟨x11,_⟩ σ1 hr
 dsimp only [Z0_J1] at hr
 refine o_5 ?_
 refine lO (vp (vstr form1) R) (lO (vz (il form1) (v_slen un9 R)) ?_)
 refine o_3 ?_
 rcases bif_ hr with ⟨_,hr⟩|⟨_,hr⟩
 refine o_5 ?_
 refine lO (vp (vstr ([]:Str)) R) ?_
 refine o_5 ?_
 obtain rfl:=so hr
 exact qT3 (A2,([]:List Str).length,D2) tI
 refine o_5 ?_
 refine l_build (K:=kT9) (xs:=([]:List Str)) (vs:=[]) 0 R R sl122 sz9 zc9 R R R R R R ?_ R (fun A13 D13=>?_)
 exact fun I h s=>(mO9).list [] I h s
 refine lN (OO kT9 9 A13 D13 ([]:List Str)::_::V) ?_
 refine o_9 ?_
 refine c_cut (A:=((List Str))×(HH)) (fun a=>Z0_J4 form1 x11 a.1=some r) (fun a=>[(0,(vstr form1)),(5,(sc A2 ([]:List Str) D2)),(6,(iv x11)),(7,(s3 a.2))]) (fun a=>OO kT9 9 A2 D2 ([]:List Str)::ow kT9 9 (s3 a.2) a.1::V) ?_ ?_
 refine o_6 ?_
 obtain ⟨e2,hl2,hk2⟩:=bd hr
 refine c_loop (A:=HH) hl2 (fun s a=>[(0,(vstr form1)),(5,(sc A2 ([]:List Str) D2)),(6,(iv x11)),(7,(s3 a)),(8,(iv s.2.1)),(9,(iv s.2.2))]) (fun s a=>OO kT9 9 A2 D2 ([]:List Str)::ow kT9 9 (s3 a) s.1::V) (A13,([]:List Str).length,D13) (aS R) (tE 2 [1,0]) ?_
 rintro ⟨groups25,x27,i28⟩ ⟨A26,N26,D26⟩ σ1 out2 hr he2
 dsimp only [Z0_L2] at hr
 refine c_len 1 sees_ow (fun (hn:N26=groups25.length)=>?_)
 subst hn
 refine o_8 ?_
 rcases bif_ hr with ⟨_,hr⟩|⟨_,hr⟩
 refine o_4 ?_
 refine c_cut (A:=((List Str)×Int)×(HH)) (fun a=>Z0_J3 i28 a.1.1 a.1.2=some out2) (fun a=>[(0,(vstr form1)),(5,(sc A2 ([]:List Str) D2)),(6,(iv x11)),(7,(s3 a.2)),(8,(iv a.1.2)),(9,(iv i28))]) (fun a=>OO kT9 9 A2 D2 ([]:List Str)::ow kT9 9 (s3 a.2) a.1.1::V) ?_ ?_
 refine o_2 ?_
 obtain ⟨hg30,hr⟩:=gd hr
 refine cQ [(0,(vstr form1)),(5,(sc A2 ([]:List Str) D2)),(6,(iv x11)),(7,(sc A26 groups25 D26)),(8,(iv x27)),(9,(iv i28)),(51,(.bool ((i28==x11)||((bt form1 i28)==(44:Int)))))] (OO kT9 9 A2 D2 ([]:List Str)::OO kT9 9 A26 D26 groups25::V) ?_ ?_
 refine o_5 ?_
 rcases bo (i28==x11) with hc31 | hc31
 refine o_6 ?_
 exact qj tI
 refine lW (wnF hc31) (vp (vstr form1) R) (lW (wnF hc31) (vI R) (lW (wnF hc31) (vz (.int .u8 (bt form1 i28)) (v_sindex un9 R R (hg30 hc31).1 (hg30 hc31).2)) (lW (wnF hc31) (vp (.bool ((bt form1 i28)==(44:Int))) R) ?_)))
 refine o_2 ?_
 exact qj tI
 rintro σ1
 refine o_1 ?_
 rcases bif_ hr with ⟨_,hr⟩|⟨_,hr⟩
 refine o_2 ?_
 obtain ⟨hg33,hr⟩:=gd hr
 obtain ⟨hg35,hr⟩:=gd hr
 refine o_2 ?_
 refine lO (vp (vstr form1) R) (lI R (lI R (lO (vz (vstr (sub form1 x27 i28)) (v_scut x27 i28 un9 R R R hg33.1 hg33.2.1 hg33.2.2)) (l_build (K:=kT9) (xs:=([(sub form1 x27 i28)]:List Str)) (vs:=[(vstr (sub form1 x27 i28))]) 0 R R sl122 sz9 zc9 R R R R R R ?_ R (fun A34 D34=>?_)))))
 exact fun I h s=>(mO9).list [((),(sub form1 x27 i28))] I h s
 refine lN (OO kT9 9 A34 D34 ([(sub form1 x27 i28)]:List Str)::_::OO kT9 9 A26 D26 groups25::V) ?_
 refine lM (ow _ _ _ _::ow _ _ _ _::ow _ _ _ _::V) (tE 3 [2,0,1]) ?_
 refine l_app (K:=kT9) 8796093022208 R R sl122 sz9 by9 (Zr.zk zT9 zc9) R R R R R R src_ow hg35 (fun A36 D36=>(lN (OO kT9 9 A36 D36 (groups25++([(sub form1 x27 i28)]:List Str))::_::V) ?_))
 refine o_9 ?_
 exact qI (((groups25++([(sub form1 x27 i28)]:List Str)),(w64 (i28+(1:Int)))),(A36,(groups25++([(sub form1 x27 i28)]:List Str)).length,D36)) hr (tE 2 [1,0])
 refine o_3 ?_
 exact qI ((groups25,x27),(A26,groups25.length,D26)) hr tI
 rintro ⟨⟨groups37,x39⟩,⟨A38,N38,D38⟩⟩ σ1 hr
 dsimp only [Z0_J3] at hr
 refine c_len 1 sees_ow (fun (hn:N38=groups37.length)=>?_)
 subst hn
 refine o_5 ?_
 obtain rfl:=so hr
 exact qA (A38,groups37.length,D38) tI
 refine o_3 ?_
 obtain rfl:=so hr
 obtain rfl:=he2 _ R
 have hr:=hk2
 refine o_2 ?_
 exact qI (groups25,(A26,groups25.length,D26)) hr tI
 rintro ⟨groups44,⟨A45,N45,D45⟩⟩ σ1 hr
 dsimp only [Z0_J4] at hr
 refine c_len 1 sees_ow (fun (hn:N45=groups44.length)=>?_)
 subst hn
 refine o_1 ?_
 obtain ⟨hg46,hr⟩:=gd hr
 refine c_region (lO (vp (vstr form1) R) (lI R (lO (vAd R R) (lO (vz (vstr (sub form1 (w64 (x11+(2:Int))) (form1.length:Int))) (v_scut (w64 (x11+(2:Int))) (form1.length:Int) un9 R R R hg46.1 hg46.2.1 hg46.2.2)) (lO (vp (vstr (sub form1 (w64 (x11+(2:Int))) (form1.length:Int))) R) ?_)))))
 refine o_4 ?_
 obtain ⟨r47,hx48,hr⟩:=bd hr
 refine cQ [(5,(sc A2 ([]:List Str) D2)),(7,(sc A45 groups44 D45)),(10,(vstr (sub form1 (w64 (x11+(2:Int))) (form1.length:Int)))),(72,(.bool ((decide ((groups44.length:Int)>(6:Int)))||(!r47))))] (OO kT9 9 A2 D2 ([]:List Str)::OO kT9 9 A45 D45 groups44::V) ?_ ?_
 refine o_5 ?_
 rcases bo (decide ((groups44.length:Int)>(6:Int))) with hc49 | hc49
 refine o_5 ?_
 exact qj tI
 refine lW (wnF hc49) (vp (vstr (sub form1 (w64 (x11+(2:Int))) (form1.length:Int))) R) (l_calln 0 R (wnF hc49) cb142 R (Z0o_ok (gcall_t hx48 (not_ff hc49))) R ?_)
 rintro _
 refine lN (_::OO kT9 9 A45 D45 groups44::V) ?_
 refine o_3 ?_
 exact qj tI
 rintro σ1
 refine o_1 ?_
 rcases bif_ hr with ⟨_,hr⟩|⟨_,hr⟩
 refine o_5 ?_
 refine lO (vp (vstr ([]:Str)) R) ?_
 refine o_5 ?_
 obtain rfl:=so hr
 exact qT3 (A2,([]:List Str).length,D2) (tE 2 [0])
 refine o_4 ?_
 refine c_cut (A:=(Unit)×(Unit)) (fun a=>Z0_J5 form1 x11 groups44=some r) (fun a=>[(5,(sc A2 ([]:List Str) D2)),(7,(sc A45 groups44 D45)),(10,(vstr (sub form1 (w64 (x11+(2:Int))) (form1.length:Int))))]) (fun a=>OO kT9 9 A2 D2 ([]:List Str)::OO kT9 9 A45 D45 groups44::V) ?_ ?_
 refine o_6 ?_
 obtain ⟨e3,hl3,hk3⟩:=bd hr
 refine c_loop (A:=Unit) hl3 (fun s a=>[(5,(sc A2 ([]:List Str) D2)),(7,(sc A45 groups44 D45)),(10,(vstr (sub form1 (w64 (x11+(2:Int))) (form1.length:Int)))),(11,(iv s))]) (fun s a=>OO kT9 9 A2 D2 ([]:List Str)::OO kT9 9 A45 D45 groups44::V) () (aS R) tI ?_
 rintro i58 _ σ1 out3 hr he3
 dsimp only [Z0_L3] at hr
 refine o_9 ?_
 rcases bif_ hr with ⟨_,hr⟩|⟨_,hr⟩
 refine o_6 ?_
 obtain ⟨hg60,hr⟩:=gd hr
 obtain ⟨r63,hx64,hr⟩:=bd hr
 refine o_3 ?_
 refine t_some 1 sees_ow (show 0<groups44.length by have:=hg60; omega) (fun g61 o62 ha=>?_)
 subst ha
 refine o_1 ?_
 refine lO (vz (vstr (ix groups44 i58)) (v_lde (K:=kT9) (fo:=0) (pr:=fun x=>(vstr x)) 1 i58 ag9 (dT9.leaf fun _ _=>R) sees_ow R hg60.1 hg60.2)) (lC 0 cb142 R (Z0o_ok hx64) R ?_)
 rintro _
 refine lN (_::OO kT9 9 (ad g61 o62) D45 groups44::V) ?_
 refine o_3 ?_
 rcases bif_ hr with ⟨_,hr⟩|⟨_,hr⟩
 refine o_5 ?_
 refine lO (vp (vstr ([]:Str)) R) ?_
 refine o_6 ?_
 obtain rfl:=so hr
 obtain rfl:=he3 _ R
 have hr:=hk3
 refine o_3 ?_
 obtain rfl:=so hr
 exact qT3 (A2,([]:List Str).length,D2) (tE 2 [0])
 refine o_9 ?_
 obtain rfl:=so hr
 exact qA () tI
 refine o_3 ?_
 obtain rfl:=so hr
 obtain rfl:=he3 _ R
 have hr:=hk3
 refine o_2 ?_
 exact qI ((),()) hr tI
 rintro ⟨_,_⟩ σ1 hr
 dsimp only [Z0_J5] at hr
 refine c_seq (c_cut (A:=(Unit)×(Unit)) (fun a=>Z0_J8 form1 x11 groups44=some r) (fun a=>[(7,(sc A45 groups44 D45)),(10,(vstr (sub form1 (w64 (x11+(2:Int))) (form1.length:Int))))]) (fun a=>OO kT9 9 A45 D45 groups44::V) ?_ ?_)
 refine o_6 ?_
 obtain ⟨e4,hl4,hk4⟩:=bd hr
 refine c_loop (A:=Unit) hl4 (fun s a=>[(5,(sc A2 ([]:List Str) D2)),(7,(sc A45 groups44 D45)),(10,(vstr (sub form1 (w64 (x11+(2:Int))) (form1.length:Int)))),(12,(iv s))]) (fun s a=>OO kT9 9 A2 D2 ([]:List Str)::OO kT9 9 A45 D45 groups44::V) () (aS R) tI ?_
 rintro i94 _ σ1 out4 hr he4
 dsimp only [Z0_L4] at hr
 refine o_4 ?_
 refine lO (vp (vstr (sub form1 (w64 (x11+(2:Int))) (form1.length:Int))) R) (lO (vz (il (sub form1 (w64 (x11+(2:Int))) (form1.length:Int))) (v_slen un9 R)) ?_)
 refine o_3 ?_
 rcases bif_ hr with ⟨_,hr⟩|⟨_,hr⟩
 refine o_11 ?_
 refine c_cut (A:=(Bool)×(Unit)) (fun a=>Z0_J7 form1 x11 i94 a.1=some out4) (fun a=>[(5,(sc A2 ([]:List Str) D2)),(7,(sc A45 groups44 D45)),(10,(vstr (sub form1 (w64 (x11+(2:Int))) (form1.length:Int)))),(12,(iv i94)),(13,(.bool a.1))]) (fun a=>OO kT9 9 A2 D2 ([]:List Str)::OO kT9 9 A45 D45 groups44::V) ?_ ?_
 refine o_6 ?_
 obtain ⟨e5,hl5,hk5⟩:=bd hr
 refine c_loop (A:=Unit) hl5 (fun s a=>[(5,(sc A2 ([]:List Str) D2)),(7,(sc A45 groups44 D45)),(10,(vstr (sub form1 (w64 (x11+(2:Int))) (form1.length:Int)))),(12,(iv i94)),(13,(.bool s.1)),(14,(iv s.2))]) (fun s a=>OO kT9 9 A2 D2 ([]:List Str)::OO kT9 9 A45 D45 groups44::V) () (aS R) tI ?_
 rintro ⟨x103,k104⟩ _ σ1 out5 hr he5
 dsimp only [Z0_L5] at hr
 refine o_9 ?_
 rcases bif_ hr with ⟨_,hr⟩|⟨_,hr⟩
 refine o_5 ?_
 obtain ⟨hg106,hr⟩:=gd hr
 obtain ⟨hg109,hr⟩:=gd hr
 obtain ⟨r110,hx111,hr⟩:=bd hr
 refine cQ [(5,(sc A2 ([]:List Str) D2)),(7,(sc A45 groups44 D45)),(10,(vstr (sub form1 (w64 (x11+(2:Int))) (form1.length:Int)))),(12,(iv i94)),(13,(.bool (x103||r110))),(14,(iv k104))] (OO kT9 9 A2 D2 ([]:List Str)::OO kT9 9 A45 D45 groups44::V) ?_ ?_
 rcases bo x103 with hc112 | hc112
 refine cdr 12 [] mixo fun ht hn=>?_
 refine d12_ 0 [] ?_
 refine dD ?_
 exact qj tI
 refine c_some 1 sees_ow (show 0<groups44.length by have:=(hg106 hc112); omega) (fun g107 o108 ha=>?_)
 subst ha
 refine cdr 12 [] mixo fun ht hn=>?_
 refine d4_ 0 [] ?_
 refine dW 4 R (wnF hc112) (vIa sl122 sz9 R R (hg106 hc112)) (dW 5 R (wnF hc112) (vz (vstr (ix groups44 k104)) (v_lde (K:=kT9) (fo:=0) (pr:=fun x=>(vstr x)) 1 k104 ag9 (dT9.leaf fun _ _=>R) sees_ow R (hg106 hc112).1 (hg106 hc112).2)) (dW 6 R (wnF hc112) (vp (vstr (sub form1 (w64 (x11+(2:Int))) (form1.length:Int))) R) (dW 7 R (wnF hc112) (vI R) (dW 8 R (wnF hc112) (vz (.int .u8 (bt (sub form1 (w64 (x11+(2:Int))) (form1.length:Int)) i94)) (v_sindex un9 R R (hg109 hc112).1 (hg109 hc112).2)) (d1 9 R (l_calln 0 R (wnF hc112) cb143 R (Z0n_ok (gcall_t hx111 (not_ff hc112))) R ?_))))))
 rintro _
 refine lN (_::OO kT9 9 (ad g107 o108) D45 groups44::V) ?_
 refine l_nil (q_draw (sL []) ?_)
 refine d2_ 10 [] ?_
 refine dD ?_
 exact qj tI
 rintro σ1
 refine o_7 ?_
 obtain rfl:=so hr
 exact qA () tI
 refine o_3 ?_
 obtain rfl:=so hr
 obtain rfl:=he5 _ R
 have hr:=hk5
 refine o_2 ?_
 exact qI (x103,()) hr tI
 rintro ⟨x115,_⟩ σ1 hr
 dsimp only [Z0_J7] at hr
 refine o_1 ?_
 obtain ⟨hg116,hr⟩:=gd hr
 obtain ⟨hg117,hr⟩:=gd hr
 obtain ⟨r118,hx119,hr⟩:=bd hr
 refine cQ [(5,(sc A2 ([]:List Str) D2)),(7,(sc A45 groups44 D45)),(10,(vstr (sub form1 (w64 (x11+(2:Int))) (form1.length:Int)))),(12,(iv i94)),(120,(.bool ((!x115)||r118)))] (OO kT9 9 A2 D2 ([]:List Str)::OO kT9 9 A45 D45 groups44::V) ?_ ?_
 rcases bo (!x115) with hc120 | hc120
 refine cdr 11 [] mixo fun ht hn=>?_
 refine d11_ 0 [] ?_
 refine dD ?_
 exact qj tI
 refine cdr 11 [] mixo fun ht hn=>?_
 refine d3_ 0 [] ?_
 refine dW 3 R (wnF hc120) (vp (vstr (sub form1 (w64 (x11+(2:Int))) (form1.length:Int))) R) (dW 4 R (wnF hc120) (vI R) (dW 5 R (wnF hc120) (vz (vstr (sub (sub form1 (w64 (x11+(2:Int))) (form1.length:Int)) (0:Int) i94)) (v_scut (0:Int) i94 un9 R R R (hg116 hc120).1 (hg116 hc120).2.1 (hg116 hc120).2.2)) (dW 6 R (wnF hc120) (vp (vstr (sub form1 (w64 (x11+(2:Int))) (form1.length:Int))) R) (dW 7 R (wnF hc120) (vI R) (dW 8 R (wnF hc120) (vz (.int .u8 (bt (sub form1 (w64 (x11+(2:Int))) (form1.length:Int)) i94)) (v_sindex un9 R R (hg117 hc120).1 (hg117 hc120).2)) (d1 9 R (l_calln 0 R (wnF hc120) cb143 R (Z0n_ok (gcall_t hx119 (not_ff hc120))) R ?_)))))))
 rintro _
 refine lN (_::OO kT9 9 A45 D45 groups44::V) ?_
 refine l_nil (q_draw (sL []) (dR 10 R (pOF R hc120 R) (dD ?_)))
 exact qj tI
 rintro σ1
 refine o_1 ?_
 rcases bif_ hr with ⟨_,hr⟩|⟨_,hr⟩
 refine o_5 ?_
 refine lO (vp (vstr ([]:Str)) R) ?_
 refine o_6 ?_
 obtain rfl:=so hr
 obtain rfl:=he4 _ R
 have hr:=hk4
 refine o_3 ?_
 obtain rfl:=so hr
 exact qT3 (A2,([]:List Str).length,D2) (tE 2 [0])
 refine o_9 ?_
 obtain rfl:=so hr
 exact qA () tI
 refine o_3 ?_
 obtain rfl:=so hr
 obtain rfl:=he4 _ R
 have hr:=hk4
 refine o_2 ?_
 exact qI ((),()) hr (tE 2 [1])
 rintro ⟨_,_⟩ σ1 hr
 dsimp only [Z0_J8] at hr
 refine o_3 ?_
 refine lO (vp (vstr (sub form1 (w64 (x11+(2:Int))) (form1.length:Int))) R) (lS R (lO (vp (vstr (sub form1 (w64 (x11+(2:Int))) (form1.length:Int))) R) ?_))
 refine o_4 ?_
 obtain rfl:=so hr
 exact qT3 (A45,groups44.length,D45) tI
theorem Z2_ok  {groups1:(List Str)}{p3:Str}{dims4:(List (List Int))}{r:Str×(List Int)×Bool}(hr:Z2 groups1 p3 dims4=some r) :
 FnOk Tryz.prog 110 [(.slice A2 N2 D2),(vstr p3),(.slice A5 N5 D5)] [rds kT9 (.slice A2 N2 D2) groups1,rds kT23 (.slice A5 N5 D5) dims4] (fun (h:HH)=>((.tuple [(vstr r.1),(s3 h),(.bool r.2.2)].toArray),[ow kT3 3 (s3 h) r.2.1])):=by
 unfold Z2 at hr
 refine fn_ok Tryz.func110 R 129 R R fun C V=>?_
 refine cN (_::_::V) ?_
 refine cL 0 sees_rd ?_
 rintro rfl
 refine cL 1 sees_rd ?_
 rintro rfl
 let W0:List HP:=RR kT9 A2 D2 groups1::RR kT23 A5 D5 dims4::V
 refine cN W0 ?_
 refine o_2 ?_
 refine lO (vp (vstr ([]:Str)) R) ?_
 refine o_6 ?_
 refine lO (vp (vstr p3) R) (lO (vp (vstr p3) R) ?_)
 refine o_3 ?_
 obtain ⟨hg6,hr⟩:=gd hr
 refine c_region (lO (vp (vstr p3) R) (lO (vz (il p3) (v_slen un9 R)) (l_make (K:=kT3) (m:=(p3.length:Int)) (z:=(0:Int)) R R sl23 sz3 by3 (Zr.zk zT3 zc3) (by decide) R R hg6.1 hg6.2.1 hg6.2.2 (fun A7 D7=>(lS R (l_nil (q_next (c_seq (c_cut (A:=(Str×(List Int))×(HH)) (fun a=>Z2_J11 a.1.1 a.1.2=some r) (fun a=>[(9,(vstr a.1.1)),(10,(s3 a.2))]) (fun a=>ow kT3 3 (s3 a.2) a.1.2::W0) ?_ ?_)))))))))
 refine o_6 ?_
 obtain ⟨e1,hl1,hk1⟩:=bd hr
 refine c_loop (A:=HH×HH×HH) hl1 (fun s a=>[(0,(s3 a.1)),(2,(s3 a.2.1)),(9,(vstr s.1)),(10,(s3 a.2.2)),(11,(iv s.2.2))]) (fun s a=>rds kT9 (s3 a.1) groups1::rds kT23 (s3 a.2.1) dims4::ow kT3 3 (s3 a.2.2) s.2.1::W0) ((A2,groups1.length,D2),(A5,dims4.length,D5),(A7,(List.replicate (p3.length:Int).toNat (0:Int)).length,D7)) (aS R) (fun w s=>(((s.d 1 R).d 3 R).e 3 [1,0,2])) ?_
 rintro ⟨letters106,lengths107,k109⟩ ⟨⟨A104,N104,D104⟩,⟨A105,N105,D105⟩,⟨A108,N108,D108⟩⟩ σ1 out1 hr he1
 dsimp only [Z2_L1] at hr
 refine c_len 0 sees_rd (fun (hn:N104=groups1.length)=>?_)
 subst hn
 refine c_len 1 sees_rd (fun (hn:N105=dims4.length)=>?_)
 subst hn
 refine c_len 2 sees_ow (fun (hn:N108=lengths107.length)=>?_)
 subst hn
 refine o_9 ?_
 rcases bif_ hr with ⟨_,hr⟩|⟨_,hr⟩
 refine o_4 ?_
 refine c_cut (A:=(Str×(List Int))×(HH×HH×HH)) (fun a=>Z2_J10 k109 a.1.1 a.1.2=some out1) (fun a=>[(0,(s3 a.2.1)),(2,(s3 a.2.2.1)),(9,(vstr a.1.1)),(10,(s3 a.2.2.2)),(11,(iv k109))]) (fun a=>rds kT9 (s3 a.2.1) groups1::rds kT23 (s3 a.2.2.1) dims4::ow kT3 3 (s3 a.2.2.2) a.1.2::W0) ?_ ?_
 refine o_3 ?_
 obtain ⟨hg111,hr⟩:=gd hr
 obtain ⟨hg115,hr⟩:=gd hr
 refine c_some 1 sees_rd (show 0<dims4.length by have:=hg111; omega) (fun g112 o113 ha=>?_)
 subst ha
 refine c_elem (K:=kT23) 1 k109 dT23.dec R hg111.1 hg111.2 ?_
 rintro ⟨A114,D114⟩
 refine cN (cl g112 (o113+k109.toNat*1) [(sc A114 (ix dims4 k109) D114)]::RR kT3 A114 D114 (ix dims4 k109)::RR kT9 A104 D104 groups1::RR kT23 (ad g112 o113) D105 dims4::OO kT3 3 A108 D108 lengths107::W0) ?_
 refine c_some 2 sees_rd (show 0<groups1.length by have:=hg115; omega) (fun g116 o117 ha=>?_)
 subst ha
 refine cdr 11 [] mixo fun ht hn=>?_
 refine d3_ 0 [] ?_
 refine dR 3 R (v_clf (fo:=0) 0 ag23 R R R) ?_
 refine d4_ 4 [] ?_
 refine dR 8 R (vz (vstr (ix groups1 k109)) (v_lde (K:=kT9) (fo:=0) (pr:=fun x=>(vstr x)) 2 k109 ag9 (dT9.leaf fun _ _=>R) sees_rd R hg115.1 hg115.2)) (dR 9 R (vz (il (ix groups1 k109)) (v_slen un9 R)) (dR 10 R (vNe R R) (dD (q_next ?_))))
 rcases bif_ hr with ⟨_,hr⟩|⟨_,hr⟩
 refine o_4 ?_
 refine lO (vp (vstr ([]:Str)) R) ?_
 refine o_8 ?_
 obtain rfl:=so hr
 obtain rfl:=he1 _ R
 have hr:=hk1
 refine o_3 ?_
 obtain rfl:=so hr
 exact qT3 (A108,lengths107.length,D108) (tE 7 [4])
 refine o_9 ?_
 obtain ⟨e2,hl2,hk2⟩:=bd hr
 refine c_loop (A:=HH) hl2 (fun s a=>[(0,(sc (ad g116 o117) groups1 D104)),(2,(sc (ad g112 o113) dims4 D105)),(9,(vstr s.1)),(10,(s3 a)),(11,(iv k109)),(12,(iv s.2.2))]) (fun s a=>RR kT9 (ad g116 o117) D104 groups1::RR kT23 (ad g112 o113) D105 dims4::ow kT3 3 (s3 a) s.2.1::W0) (A108,lengths107.length,D108) (aS R) (fun w s=>(s.f 5 [2,3])) ?_
 rintro ⟨letters155,lengths156,i158⟩ ⟨A157,N157,D157⟩ σ1 out2 hr he2
 dsimp only [Z2_L2] at hr
 refine c_len 2 sees_ow (fun (hn:N157=lengths156.length)=>?_)
 subst hn
 refine o_7 ?_
 refine lO (vz (vstr (ix groups1 k109)) (v_lde (K:=kT9) (fo:=0) (pr:=fun x=>(vstr x)) 0 k109 ag9 (dT9.leaf fun _ _=>R) sees_rd R hg115.1 hg115.2)) (lO (vz (il (ix groups1 k109)) (v_slen un9 R)) ?_)
 refine o_3 ?_
 rcases bif_ hr with ⟨_,hr⟩|⟨_,hr⟩
 refine o_11 ?_
 refine c_cut (A:=(Int)×(Unit)) (fun a=>Z2_J8 groups1 dims4 k109 letters155 lengths156 i158 a.1=some out2) (fun a=>[(0,(sc (ad g116 o117) groups1 D104)),(2,(sc (ad g112 o113) dims4 D105)),(9,(vstr letters155)),(10,(sc A157 lengths156 D157)),(11,(iv k109)),(12,(iv i158)),(13,(iv a.1))]) (fun a=>RR kT9 (ad g116 o117) D104 groups1::RR kT23 (ad g112 o113) D105 dims4::OO kT3 3 A157 D157 lengths156::W0) ?_ ?_
 refine o_1 ?_
 obtain ⟨e3,hl3,hk3⟩:=bd hr
 refine c_loop (A:=Unit) hl3 (fun s a=>[(0,(sc (ad g116 o117) groups1 D104)),(2,(sc (ad g112 o113) dims4 D105)),(9,(vstr letters155)),(10,(sc A157 lengths156 D157)),(11,(iv k109)),(12,(iv i158)),(13,(iv s))]) (fun s a=>RR kT9 (ad g116 o117) D104 groups1::RR kT23 (ad g112 o113) D105 dims4::OO kT3 3 A157 D157 lengths156::W0) () (aS R) tI ?_
 rintro x164 _ σ1 out3 hr he3
 dsimp only [Z2_L3] at hr
 refine o_2 ?_
 obtain ⟨hg165,hr⟩:=gd hr
 obtain ⟨hg166,hr⟩:=gd hr
 refine cQ [(0,(sc (ad g116 o117) groups1 D104)),(2,(sc (ad g112 o113) dims4 D105)),(9,(vstr letters155)),(10,(sc A157 lengths156 D157)),(11,(iv k109)),(12,(iv i158)),(13,(iv x164)),(62,(.bool ((decide (x164<(letters155.length:Int)))&&((bt letters155 x164) != (bt (ix groups1 k109) i158)))))] (RR kT9 (ad g116 o117) D104 groups1::RR kT23 (ad g112 o113) D105 dims4::OO kT3 3 A157 D157 lengths156::W0) ?_ ?_
 rcases bo (decide (x164<(letters155.length:Int))) with hc167 | hc167
 refine cdr 16 [] mixo fun ht hn=>?_
 refine dR 0 R (vI R) (dR 1 R (vp (vstr letters155) R) (dR 2 R (vz (il letters155) (v_slen un9 R)) ?_))
 refine d2_ 3 [] ?_
 refine dW 5 R (wnT hc167) (vp (vstr letters155) R) (dW 6 R (wnT hc167) (vI R) (dW 7 R (wnT hc167) (vz (.int .u8 (bt letters155 x164)) (v_sindex un9 R R (hg165 hc167).1 (hg165 hc167).2)) ?_))
 refine d3_ 8 [] ?_
 refine dW 11 R (wnT hc167) (vz (vstr (ix groups1 k109)) (v_lde (K:=kT9) (fo:=0) (pr:=fun x=>(vstr x)) 0 k109 ag9 (dT9.leaf fun _ _=>R) sees_rd R hg115.1 hg115.2)) (dW 12 R (wnT hc167) (vI R) (dW 13 R (wnT hc167) (vz (.int .u8 (bt (ix groups1 k109) i158)) (v_sindex un9 R R (hg166 hc167).1 (hg166 hc167).2)) (dW 14 R (wnT hc167) (vp (.bool ((bt letters155 x164) != (bt (ix groups1 k109) i158))) R) (dR 15 R (pAT R hc167 R) (dD ?_)))))
 exact qj tI
 refine cdr 16 [] mixo fun ht hn=>?_
 refine dR 0 R (vI R) (dR 1 R (vp (vstr letters155) R) (dR 2 R (vz (il letters155) (v_slen un9 R)) ?_))
 refine d13_ 3 [] ?_
 refine dD ?_
 exact qj tI
 rintro σ1
 refine o_1 ?_
 rcases bif_ hr with ⟨_,hr⟩|⟨_,hr⟩
 refine o_10 ?_
 obtain rfl:=so hr
 exact qA () tI
 refine o_3 ?_
 obtain rfl:=so hr
 obtain rfl:=he3 _ R
 have hr:=hk3
 refine o_2 ?_
 exact qI (x164,()) hr tI
 rintro ⟨x170,_⟩ σ1 hr
 dsimp only [Z2_J8] at hr
 refine c_seq (c_cut (A:=(Str×(List Int))×(HH)) (fun a=>Z2_J9 dims4 k109 i158 x170 a.1.1 a.1.2=some out2) (fun a=>[(0,(sc (ad g116 o117) groups1 D104)),(2,(sc (ad g112 o113) dims4 D105)),(9,(vstr a.1.1)),(10,(s3 a.2)),(11,(iv k109)),(12,(iv i158)),(13,(iv x170))]) (fun a=>RR kT9 (ad g116 o117) D104 groups1::RR kT23 (ad g112 o113) D105 dims4::ow kT3 3 (s3 a.2) a.1.2::W0) ?_ ?_)
 refine o_3 ?_
 refine lO (vp (vstr letters155) R) (lO (vz (il letters155) (v_slen un9 R)) ?_)
 refine o_3 ?_
 rcases bif_ hr with ⟨_,hr⟩|⟨_,hr⟩
 refine o_2 ?_
 obtain ⟨hg172,hr⟩:=gd hr
 obtain ⟨hg173,hr⟩:=gd hr
 refine c_region (lO (vp (vstr letters155) R) ?_)
 refine o_3 ?_
 refine lO (vz (vstr (ix groups1 k109)) (v_lde (K:=kT9) (fo:=0) (pr:=fun x=>(vstr x)) 0 k109 ag9 (dT9.leaf fun _ _=>R) sees_rd R hg115.1 hg115.2)) ?_
 refine o_3 ?_
 refine lO (vz (vstr (sub (ix groups1 k109) i158 (w64 (i158+(1:Int))))) (v_scut i158 (w64 (i158+(1:Int))) un9 R R R hg172.1 hg172.2.1 hg172.2.2)) (lO (vz (vstr (letters155++(sub (ix groups1 k109) i158 (w64 (i158+(1:Int)))))) (v_scat R R hg173)) (lO (vp (vstr (letters155++(sub (ix groups1 k109) i158 (w64 (i158+(1:Int)))))) R) ?_))
 refine o_2 ?_
 obtain ⟨hg175,hr⟩:=gd hr
 refine o_2 ?_
 refine l_build (K:=kT3) (xs:=([(0:Int)]:List Int)) (vs:=[(iv 0)]) 0 R R sl23 sz3 zc3 R R R R R R ?_ R (fun A174 D174=>?_)
 exact fun I h s=>(mO3).list [((),(0:Int))] I h s
 refine lN (OO kT3 3 A174 D174 ([(0:Int)]:List Int)::RR kT9 (ad g116 o117) D104 groups1::_::OO kT3 3 A157 D157 lengths156::W0) ?_
 refine lM (ow _ _ _ _::ow _ _ _ _::rds _ _ _::rds _ _ _::W0) (tE 4 [3,0,1,2]) ?_
 refine l_app (K:=kT3) 17592186044416 R R sl23 sz3 by3 (Zr.zk zT3 zc3) R R R R R R src_ow hg175 (fun A176 D176=>(lN (OO kT3 3 A176 D176 (lengths156++([(0:Int)]:List Int))::_::_::W0) ?_))
 refine o_2 ?_
 exact qI (((letters155++(sub (ix groups1 k109) i158 (w64 (i158+(1:Int))))),(lengths156++([(0:Int)]:List Int))),(A176,(lengths156++([(0:Int)]:List Int)).length,D176)) hr (tE 3 [1,2,0])
 refine o_2 ?_
 exact qI ((letters155,lengths156),(A157,lengths156.length,D157)) hr tI
 rintro ⟨⟨letters177,lengths178⟩,⟨A179,N179,D179⟩⟩ σ1 hr
 dsimp only [Z2_J9] at hr
 refine c_len 2 sees_ow (fun (hn:N179=lengths178.length)=>?_)
 subst hn
 refine o_2 ?_
 obtain ⟨hg180,hr⟩:=gd hr
 obtain ⟨hg184,hr⟩:=gd hr
 refine cQ [(0,(sc (ad g116 o117) groups1 D104)),(2,(sc (ad g112 o113) dims4 D105)),(9,(vstr letters177)),(10,(sc A179 lengths178 D179)),(11,(iv k109)),(12,(iv i158)),(13,(iv x170)),(100,(.bool (((ix lengths178 x170) != (0:Int))&&((ix lengths178 x170) != (ix (ix dims4 k109) i158)))))] (RR kT9 (ad g116 o117) D104 groups1::RR kT23 (ad g112 o113) D105 dims4::OO kT3 3 A179 D179 lengths178::W0) ?_ ?_
 rcases bo ((ix lengths178 x170) != (0:Int)) with hc187 | hc187
 refine c_some 2 sees_ow (show 0<lengths178.length by have:=hg180; omega) (fun g181 o182 ha=>?_)
 subst ha
 refine c_elem (K:=kT23) 1 k109 dT23.dec R hg111.1 hg111.2 ?_
 rintro ⟨A183,D183⟩
 refine cN (cl g112 (o113+k109.toNat*1) [(sc A183 (ix dims4 k109) D183)]::RR kT3 A183 D183 (ix dims4 k109)::_::_::OO kT3 3 (ad g181 o182) D179 lengths178::W0) ?_
 refine c_some 1 sees_rd (show 0<(ix dims4 k109).length by have:=(hg184 hc187); omega) (fun g185 o186 ha=>?_)
 subst ha
 refine cdr 19 [] mixo fun ht hn=>?_
 refine d13_ 0 [] ?_
 refine dW 13 R (wnT hc187) (v_clf (fo:=0) 0 ag23 R R R) (dW 14 R (wnT hc187) (vI R) (dW 15 R (wnT hc187) (vIa sl23 sz3 R R (hg184 hc187)) (dW 16 R (wnT hc187) (vLi 1 ag3 sees_rd R (hg184 hc187)) ?_)))
 refine d2_ 17 [] ?_
 refine dD ?_
 exact qj (fun w s=>(s.f 5 [2,3]))
 refine c_some 2 sees_ow (show 0<lengths178.length by have:=hg180; omega) (fun g181 o182 ha=>?_)
 subst ha
 refine cdr 19 [] mixo fun ht hn=>?_
 refine d19_ 0 [] ?_
 refine dD ?_
 exact qj tI
 rintro σ1
 refine o_1 ?_
 rcases bif_ hr with ⟨_,hr⟩|⟨_,hr⟩
 refine o_4 ?_
 refine lO (vp (vstr ([]:Str)) R) ?_
 refine o_8 ?_
 obtain rfl:=so hr
 obtain rfl:=he2 _ R
 have hr:=hk2
 refine o_4 ?_
 obtain rfl:=so hr
 obtain rfl:=he1 _ R
 have hr:=hk1
 refine o_3 ?_
 obtain rfl:=so hr
 exact qT3 (A179,lengths178.length,D179) (tE 5 [2])
 refine o_3 ?_
 obtain ⟨hg190,hr⟩:=gd hr
 refine o_6 ?_
 refine t_elem (K:=kT23) 1 k109 dT23.dec R hg111.1 hg111.2 ?_
 rintro ⟨A189,D189⟩
 refine lN (cl g112 (o113+k109.toNat*1) [(sc A189 (ix dims4 k109) D189)]::RR kT3 A189 D189 (ix dims4 k109)::_::_::OO kT3 3 A179 D179 lengths178::W0) ?_
 refine lO (v_clf (fo:=0) 0 ag23 R R R) (lI R (t_some 1 sees_rd (show 0<(ix dims4 k109).length by have:=hg190; omega) (fun g191 o192 ha=>?_)))
 subst ha
 refine o_2 ?_
 refine t_some 4 sees_ow (show 0<lengths178.length by have:=hg180; omega) (fun g193 o194 ha=>?_)
 subst ha
 refine o_1 ?_
 refine lM (OO kT3 3 (ad g193 o194) D179 lengths178::cl g112 (o113+k109.toNat*1) [(sc (ad g191 o192) (ix dims4 k109) D189)]::RR kT3 (ad g191 o192) D189 (ix dims4 k109)::rds _ _ _::rds _ _ _::W0) (fun w s=>(s.f 5 [4,1,0,4])) ?_
 refine l_stx (K:=kT3) (x':=(ix (ix dims4 k109) i158)) 0 x170 R R sz3 R R hg180.1 hg180.2 ?_ ?_
 exact fun I h s=>(mO3).put I h () (ix (ix dims4 k109) i158) s
 refine lN (ow kT3 3 (.slice (ad g193 o194) lengths178.length D179) (lengths178.set x170.toNat (ix (ix dims4 k109) i158))::_::_::_::_::W0) ?_
 refine o_8 ?_
 obtain rfl:=so hr
 exact qA ((ad g193 o194),lengths178.length,D179) (tE 5 [3,4,0])
 refine o_3 ?_
 obtain rfl:=so hr
 obtain rfl:=he2 _ R
 have hr:=hk2
 refine o_3 ?_
 exact qI ((letters155,lengths156),(((ad g116 o117),groups1.length,D104),((ad g112 o113),dims4.length,D105),(A157,lengths156.length,D157))) hr tI
 rintro ⟨⟨letters201,lengths202⟩,⟨⟨A199,N199,D199⟩,⟨A200,N200,D200⟩,⟨A203,N203,D203⟩⟩⟩ σ1 hr
 dsimp only [Z2_J10] at hr
 refine c_len 0 sees_rd (fun (hn:N199=groups1.length)=>?_)
 subst hn
 refine c_len 1 sees_rd (fun (hn:N200=dims4.length)=>?_)
 subst hn
 refine c_len 2 sees_ow (fun (hn:N203=lengths202.length)=>?_)
 subst hn
 refine o_5 ?_
 obtain rfl:=so hr
 exact qA ((A199,groups1.length,D199),(A200,dims4.length,D200),(A203,lengths202.length,D203)) tI
 refine o_3 ?_
 obtain rfl:=so hr
 obtain rfl:=he1 _ R
 have hr:=hk1
 refine o_2 ?_
 exact qI ((letters106,lengths107),(A108,lengths107.length,D108)) hr (tE 3 [2])
 rintro ⟨⟨letters210,lengths211⟩,⟨A212,N212,D212⟩⟩ σ1 hr
 dsimp only [Z2_J11] at hr
 refine c_len 0 sees_ow (fun (hn:N212=lengths211.length)=>?_)
 subst hn
 refine o_6 ?_
 refine c_cut (A:=(Unit)×(Unit)) (fun a=>Z2_J12 letters210 lengths211=some r) (fun a=>[(9,(vstr letters210)),(10,(sc A212 lengths211 D212))]) (fun a=>OO kT3 3 A212 D212 lengths211::W0) ?_ ?_
 refine o_6 ?_
 obtain ⟨e4,hl4,hk4⟩:=bd hr
 refine c_loop (A:=Unit) hl4 (fun s a=>[(9,(vstr letters210)),(10,(sc A212 lengths211 D212)),(14,(iv s.1)),(15,(iv s.2))]) (fun s a=>OO kT3 3 A212 D212 lengths211::W0) () (aS R) tI ?_
 rintro ⟨work218,i219⟩ _ σ1 out4 hr he4
 dsimp only [Z2_L4] at hr
 refine o_9 ?_
 rcases bif_ hr with ⟨_,hr⟩|⟨_,hr⟩
 refine o_6 ?_
 obtain ⟨hg221,hr⟩:=gd hr
 refine o_4 ?_
 refine t_some 0 sees_ow (show 0<lengths211.length by have:=hg221; omega) (fun g222 o223 ha=>?_)
 subst ha
 refine o_12 ?_
 rcases bif_ hr with ⟨_,hr⟩|⟨_,hr⟩
 refine o_4 ?_
 refine lO (vp (vstr ([]:Str)) R) ?_
 refine o_7 ?_
 obtain rfl:=so hr
 obtain rfl:=he4 _ R
 have hr:=hk4
 refine o_3 ?_
 obtain rfl:=so hr
 exact qT3 ((ad g222 o223),lengths211.length,D212) (tE 3 [0])
 refine o_9 ?_
 obtain rfl:=so hr
 exact qA () tI
 refine o_3 ?_
 obtain rfl:=so hr
 obtain rfl:=he4 _ R
 have hr:=hk4
 refine o_2 ?_
 exact qI ((),()) hr tI
 rintro ⟨_,_⟩ σ1 hr
 dsimp only [Z2_J12] at hr
 refine o_2 ?_
 refine lO (vp (vstr letters210) R) (lS R (lO (vp (vstr letters210) R) ?_))
 refine o_5 ?_
 obtain rfl:=so hr
 exact qT3 (A212,lengths211.length,D212) (tE 3 [0])
theorem Zq_ok  {group1:Str}{letters2:Str}{values3:(List Int)}{r:(List Int)}(hr:Zq group1 letters2 values3=some r) :
 FnOk Tryz.prog 113 [(vstr group1),(vstr letters2),(.slice A4 N4 D4)] [rds kT3 (.slice A4 N4 D4) values3] (fun (h:HH)=>((s3 h),[ow kT3 3 (s3 h) r])):=by
 unfold Zq at hr
 refine fn_ok Tryz.func113 R 38 R R fun C V=>?_
 refine cN (_::V) ?_
 refine cL 0 sees_rd ?_
 rintro rfl
 let W0:List HP:=RR kT3 A4 D4 values3::V
 refine cN W0 ?_
 refine o_7 ?_
 refine l_build (K:=kT3) (xs:=([]:List Int)) (vs:=[]) 0 R R sl23 sz3 zc3 R R R R R R ?_ R (fun A5 D5=>?_)
 exact fun I h s=>(mO3).list [] I h s
 refine lN (OO kT3 3 A5 D5 ([]:List Int)::W0) ?_
 refine o_4 ?_
 refine c_cut (A:=((List Int))×(HH)) (fun a=>Zq_J7 a.1=some r) (fun a=>[(7,(s3 a.2))]) (fun a=>ow kT3 3 (s3 a.2) a.1::W0) ?_ ?_
 refine o_6 ?_
 obtain ⟨e1,hl1,hk1⟩:=bd hr
 refine c_loop (A:=HH) hl1 (fun s a=>[(0,(vstr group1)),(1,(vstr letters2)),(2,(sc A4 values3 D4)),(7,(s3 a)),(8,(iv s.2))]) (fun s a=>ow kT3 3 (s3 a) s.1::W0) (A5,([]:List Int).length,D5) (aS R) tI ?_
 rintro ⟨x39,i41⟩ ⟨A40,N40,D40⟩ σ1 out1 hr he1
 dsimp only [Zq_L1] at hr
 refine c_len 0 sees_ow (fun (hn:N40=x39.length)=>?_)
 subst hn
 refine o_4 ?_
 refine lO (vp (vstr group1) R) (lO (vz (il group1) (v_slen un9 R)) ?_)
 refine o_3 ?_
 rcases bif_ hr with ⟨_,hr⟩|⟨_,hr⟩
 refine o_4 ?_
 refine c_cut (A:=((List Int))×(HH)) (fun a=>Zq_J6 i41 a.1=some out1) (fun a=>[(0,(vstr group1)),(1,(vstr letters2)),(2,(sc A4 values3 D4)),(7,(s3 a.2)),(8,(iv i41))]) (fun a=>ow kT3 3 (s3 a.2) a.1::W0) ?_ ?_
 refine o_7 ?_
 obtain ⟨e2,hl2,hk2⟩:=bd hr
 refine c_loop (A:=HH) hl2 (fun s a=>[(0,(vstr group1)),(1,(vstr letters2)),(2,(sc A4 values3 D4)),(7,(s3 a)),(8,(iv i41)),(9,(iv s.2))]) (fun s a=>ow kT3 3 (s3 a) s.1::W0) (A40,x39.length,D40) (aS R) tI ?_
 rintro ⟨x55,k57⟩ ⟨A56,N56,D56⟩ σ1 out2 hr he2
 dsimp only [Zq_L2] at hr
 refine c_len 0 sees_ow (fun (hn:N56=x55.length)=>?_)
 subst hn
 refine o_4 ?_
 refine lO (vp (vstr letters2) R) (lO (vz (il letters2) (v_slen un9 R)) ?_)
 refine o_3 ?_
 rcases bif_ hr with ⟨_,hr⟩|⟨_,hr⟩
 refine o_4 ?_
 refine c_cut (A:=((List Int))×(HH)) (fun a=>Zq_J5 k57 a.1=some out2) (fun a=>[(0,(vstr group1)),(1,(vstr letters2)),(2,(sc A4 values3 D4)),(7,(s3 a.2)),(8,(iv i41)),(9,(iv k57))]) (fun a=>ow kT3 3 (s3 a.2) a.1::W0) ?_ ?_
 refine o_2 ?_
 obtain ⟨hg59,hr⟩:=gd hr
 obtain ⟨hg60,hr⟩:=gd hr
 refine cdr 7 [] mixo fun ht hn=>?_
 refine dR 0 R (vp (vstr letters2) R) (dR 1 R (vI R) (dR 2 R (vz (.int .u8 (bt letters2 k57)) (v_sindex un9 R R hg59.1 hg59.2)) (dR 3 R (vp (vstr group1) R) (dR 4 R (vI R) (dR 5 R (vz (.int .u8 (bt group1 i41)) (v_sindex un9 R R hg60.1 hg60.2)) (dR 6 R (vp (.bool ((bt letters2 k57)==(bt group1 i41))) R) (dD (q_next ?_))))))))
 rcases bif_ hr with ⟨_,hr⟩|⟨_,hr⟩
 refine o_1 ?_
 obtain ⟨hg62,hr⟩:=gd hr
 obtain ⟨hg66,hr⟩:=gd hr
 refine o_4 ?_
 refine t_some 1 sees_rd (show 0<values3.length by have:=hg62; omega) (fun g63 o64 ha=>?_)
 subst ha
 refine o_2 ?_
 refine l_build (K:=kT3) (xs:=([(ix values3 k57)]:List Int)) (vs:=[(iv (ix values3 k57))]) 0 R R sl23 sz3 zc3 R R R R R R ?_ R (fun A65 D65=>?_)
 exact fun I h s=>(mO3).list [((),(ix values3 k57))] I h s
 refine lN (OO kT3 3 A65 D65 ([(ix values3 k57)]:List Int)::OO kT3 3 A56 D56 x55::W0) ?_
 refine lM (ow _ _ _ _::ow _ _ _ _::W0) (tE 2 [1,0]) ?_
 refine l_app (K:=kT3) 17592186044416 R R sl23 sz3 by3 (Zr.zk zT3 zc3) R R R R R R src_ow hg66 (fun A67 D67=>(lN (OO kT3 3 A67 D67 (x55++([(ix values3 k57)]:List Int))::W0) ?_))
 refine o_3 ?_
 exact qI ((x55++([(ix values3 k57)]:List Int)),(A67,(x55++([(ix values3 k57)]:List Int)).length,D67)) hr tI
 refine o_3 ?_
 exact qI (x55,(A56,x55.length,D56)) hr tI
 rintro ⟨x68,⟨A69,N69,D69⟩⟩ σ1 hr
 dsimp only [Zq_J5] at hr
 refine c_len 0 sees_ow (fun (hn:N69=x68.length)=>?_)
 subst hn
 refine o_5 ?_
 obtain rfl:=so hr
 exact qA (A69,x68.length,D69) tI
 refine o_3 ?_
 obtain rfl:=so hr
 obtain rfl:=he2 _ R
 have hr:=hk2
 refine o_3 ?_
 exact qI (x55,(A56,x55.length,D56)) hr tI
 rintro ⟨x73,⟨A74,N74,D74⟩⟩ σ1 hr
 dsimp only [Zq_J6] at hr
 refine c_len 0 sees_ow (fun (hn:N74=x73.length)=>?_)
 subst hn
 refine o_5 ?_
 obtain rfl:=so hr
 exact qA (A74,x73.length,D74) tI
 refine o_3 ?_
 obtain rfl:=so hr
 obtain rfl:=he1 _ R
 have hr:=hk1
 refine o_2 ?_
 exact qI (x39,(A40,x39.length,D40)) hr tI
 rintro ⟨x78,⟨A79,N79,D79⟩⟩ σ1 hr
 dsimp only [Zq_J7] at hr
 refine c_len 0 sees_ow (fun (hn:N79=x78.length)=>?_)
 subst hn
 refine o_7 ?_
 obtain rfl:=so hr
 exact qF (A79,x78.length,D79) (tE 2 [0])
theorem Z5_ok  {form1:Str}{ts2:(List Tensor)}{r:Tensor}(hr:Z5 form1 ts2=some r) :
 FnOk Tryz.prog 81 [(vstr form1),(.slice A3 N3 D3)] [rds kT58 (.slice A3 N3 D3) ts2] (fun (h:HH×HH)=>((.agg [(s3 h.1),(s3 h.2)].toArray),[ow kT3 3 (s3 h.1) r.Dims,ow kT3 3 (s3 h.2) r.Data])):=by
 unfold Z5 at hr
 refine fn_ok Tryz.func81 R 142 R R fun C V=>?_
 refine cN (_::V) ?_
 refine cL 0 sees_rd ?_
 rintro rfl
 let W0:List HP:=RR kT58 A3 D3 ts2::V
 refine cN W0 ?_
 refine o_2 ?_
 refine l_alloc R R zc58 (fun b4=>(l_nil (q_next (c_seq ?_))))
 obtain ⟨r5,hx6,hr⟩:=bd hr
 refine c_region (lO (vp (vstr form1) R) (lC 0 cb109 R (Z0_ok hx6) R ?_))
 rintro ⟨A7,N7,D7⟩
 refine lN (ow kT9 9 (.slice A7 N7 D7) r5.1::_::W0) ?_
 refine l_len 0 sees_ow ?_
 rintro rfl
 refine lO (vT R) (lS R (lO (vp (vstr r5.2.1) R) (lB R (lS R (lO (vp (vstr r5.2.1) R) ?_)))))
 refine o_5 ?_
 refine cQ [(1,(sc A3 ts2 D3)),(4,(pt b4 0)),(5,(sc A7 r5.1 D7)),(6,(vstr r5.2.1)),(35,(.bool ((!r5.2.2)||((r5.1.length:Int) != (ts2.length:Int)))))] (bxl b4 [(.slice none 0 0),(.slice none 0 0)] 58::OO kT9 9 A7 D7 r5.1::W0) ?_ ?_
 refine o_4 ?_
 rcases bo (!r5.2.2) with hc8 | hc8
 refine o_7 ?_
 exact qj (tE 2 [1,0])
 refine o_7 ?_
 exact qj (tE 2 [1,0])
 rintro σ1
 refine o_1 ?_
 rcases bif_ hr with ⟨_,hr⟩|⟨_,hr⟩
 refine o_3 ?_
 refine lO (vz (.agg [(.slice none 0 0),(.slice none 0 0)].toArray) (v_build pl58 zc58 R R)) (l_stores 0 R R sz58 R R R R R R (l_nil (q_next (c_ret (q_ret ?_)))))
 obtain rfl:=so hr
 exact qS ((none,0,0),(none,0,0)) (fun w s=>(((s.nilo kT3 3).nilo kT3 3).e 5 [1,0]))
 refine o_5 ?_
 refine l_build (K:=kT23) (xs:=([]:List (List Int))) (vs:=[]) 0 R R sl38 sz23 zc23 R R R R R R ?_ R (fun A10 D10=>?_)
 exact fun I h s=>(mO23).list [] I h s
 refine lN (OO kT23 23 A10 D10 ([]:List (List Int))::_::_::W0) ?_
 refine o_4 ?_
 refine c_cut (A:=((List (List Int)))×(HH)) (fun a=>Z5_J1 ts2 r5 a.1=some r) (fun a=>[(1,(sc A3 ts2 D3)),(4,(pt b4 0)),(5,(sc A7 r5.1 D7)),(6,(vstr r5.2.1)),(8,(s3 a.2))]) (fun a=>bxl b4 [(.slice none 0 0),(.slice none 0 0)] 58::OO kT9 9 A7 D7 r5.1::ow (kT23).share 23 (s3 a.2) a.1::W0) ?_ ?_
 refine o_6 ?_
 obtain ⟨e1,hl1,hk1⟩:=bd hr
 refine c_loop (A:=HH) hl1 (fun s a=>[(1,(sc A3 ts2 D3)),(4,(pt b4 0)),(5,(sc A7 r5.1 D7)),(6,(vstr r5.2.1)),(8,(s3 a)),(9,(iv s.2))]) (fun s a=>bxl b4 [(.slice none 0 0),(.slice none 0 0)] 58::OO kT9 9 A7 D7 r5.1::ow (kT23).share 23 (s3 a) s.1::W0) (A10,([]:List (List Int)).length,D10) (aS R) (fun w s=>((s.wk 0 R).e 3 [1,2,0])) ?_
 rintro ⟨dims23,i25⟩ ⟨A24,N24,D24⟩ σ1 out1 hr he1
 dsimp only [Z5_L1] at hr
 refine c_len 2 sees_sh (fun (hn:N24=dims23.length)=>?_)
 subst hn
 refine o_9 ?_
 rcases bif_ hr with ⟨_,hr⟩|⟨_,hr⟩
 refine o_7 ?_
 obtain ⟨hg27,hr⟩:=gd hr
 obtain ⟨r32,hx33,hr⟩:=bd hr
 refine o_3 ?_
 refine t_some 3 sees_rd (show 0<ts2.length by have:=hg27; omega) (fun g28 o29 ha=>?_)
 subst ha
 refine o_1 ?_
 refine t_elem (K:=kT58) 3 i25 dT58.dec R hg27.1 hg27.2 ?_
 rintro ⟨⟨A30,D30⟩,⟨A31,D31⟩⟩
 refine lN (cl g28 (o29+i25.toNat*2) [(sc A30 ((ix ts2 i25).Dims) D30),(sc A31 ((ix ts2 i25).Data) D31)]::RR kT3 A30 D30 ((ix ts2 i25).Dims)::RR kT3 A31 D31 ((ix ts2 i25).Data)::_::_::OO (kT23).share 23 A24 D24 dims23::W0) ?_
 refine lO (vz (.agg [(sc A30 ((ix ts2 i25).Dims) D30),(sc A31 ((ix ts2 i25).Data) D31)].toArray) (v_clfs (fo:=0) 0 ag58 sz58 R R R R)) (lM (rds _ _ _::rds _ _ _::cl _ _ _::rds _ _ _::rds _ _ _::bxl _ _ _::ow _ _ _ _::ow _ _ _ _::W0) (fun w s=>(((s.d 1 R).d 3 R).f 8 [1,1,0,1,2,6])) ?_)
 refine lC 2 cb55 R (Zn_ok hx33) R ?_
 rintro _
 refine lN (_::_::_::_::_::_::W0) ?_
 refine o_3 ?_
 rcases bif_ hr with ⟨_,hr⟩|⟨_,hr⟩
 refine o_3 ?_
 refine lO (vz (.agg [(.slice none 0 0),(.slice none 0 0)].toArray) (v_build pl58 zc58 R R)) (l_stores 3 R R sz58 R R R R R R (l_nil (q_next (c_ret (q_ret (q_blockr (q_ret ?_)))))))
 obtain rfl:=so hr
 obtain rfl:=he1 _ R
 have hr:=hk1
 refine o_3 ?_
 obtain rfl:=so hr
 exact qS ((none,0,0),(none,0,0)) (fun w s=>(((s.nilo kT3 3).nilo kT3 3).e 9 [1,0]))
 refine o_3 ?_
 obtain ⟨hg36,hr⟩:=gd hr
 refine o_5 ?_
 refine lO (vz (.pointer (some ⟨g28,o29+i25.toNat*2,none⟩)) (v_fa fo58_0 R R)) (lO (v_clf (fo:=0) 0 ag23 R R R) (lM (_::_::_::_::_::_::_::W0) (fun w s=>(s.d 1 R)) ?_))
 refine l_build (K:=(kT23).share) (xs:=([(ix ts2 i25).Dims]:List (List Int))) (vs:=[(sc A30 ((ix ts2 i25).Dims) D30)]) 1 R R sl38 sz23 zc23 R R R R R R ?_ R (fun A35 D35=>?_)
 exact fun I h s=>(mS23).list [((sc A30 ((ix ts2 i25).Dims) D30),(ix ts2 i25).Dims)] I h s
 refine lN (OO (kT23).share 23 A35 D35 ([(ix ts2 i25).Dims]:List (List Int))::_::_::_::_::_::_::W0) ?_
 refine lM (ow _ _ _ _::ow _ _ _ _::cl _ _ _::rds _ _ _::rds _ _ _::bxl _ _ _::ow _ _ _ _::W0) (fun w s=>(s.f 7 [6,1,0,6])) ?_
 refine l_app (K:=(kT23).share) 5864062014805 R R sl38 sz23 by23 (Zr.zk (Zr.share zT23) zc23) R R R R R R src_ow hg36 (fun A37 D37=>(lN (OO (kT23).share 23 A37 D37 (dims23++([(ix ts2 i25).Dims]:List (List Int)))::_::_::_::_::_::W0) ?_))
 refine o_9 ?_
 obtain rfl:=so hr
 exact qA (A37,(dims23++([(ix ts2 i25).Dims]:List (List Int))).length,D37) (tE 6 [4,5,0])
 refine o_3 ?_
 obtain rfl:=so hr
 obtain rfl:=he1 _ R
 have hr:=hk1
 refine o_2 ?_
 exact qI (dims23,(A24,dims23.length,D24)) hr tI
 rintro ⟨dims41,⟨A42,N42,D42⟩⟩ σ1 hr
 dsimp only [Z5_J1] at hr
 refine c_len 2 sees_sh (fun (hn:N42=dims41.length)=>?_)
 subst hn
 refine o_1 ?_
 obtain ⟨r43,hx44,hr⟩:=bd hr
 refine o_2 ?_
 refine lO (vp (vstr r5.2.1) R) (lS R (lM (ow _ _ _ _::OO (kT23).share 23 A42 D42 dims41::bxl _ _ _::W0) (tE 3 [1,2,0]) ?_))
 refine lC 2 cb110 R (FnOk.lends (A':=[OO kT9 9 A7 D7 r5.1,OO (kT23).share 23 A42 D42 dims41]) (A:=[RR kT9 A7 D7 r5.1,RR kT23 A42 D42 dims41]) (B:=[]) (Z2_ok hx44) ⟨lend_ow,lend_sh,trivial⟩ (fun _=>⟨(closed_ow cT3),trivial⟩)) R ?_
 rintro ⟨A45,N45,D45⟩
 refine lN (_::_::ow kT3 3 (.slice A45 N45 D45) r43.2.1::_::W0) ?_
 refine l_len 2 sees_ow ?_
 rintro rfl
 refine lO (vT R) (lO (vp (vstr r43.1) R) (lS R (lB R (lO (vp (vstr r43.1) R) ?_))))
 refine o_6 ?_
 obtain ⟨hg46,hr⟩:=gd hr
 obtain ⟨r48,hx49,hr⟩:=bd hr
 refine cQ [(1,(sc A3 ts2 D3)),(4,(pt b4 0)),(5,(sc A7 r5.1 D7)),(6,(vstr r5.2.1)),(10,(vstr r43.1)),(11,(sc A45 r43.2.1 D45)),(76,(.bool ((!r43.2.2)||(!r48))))] (bxl b4 [(.slice none 0 0),(.slice none 0 0)] 58::OO kT9 9 A7 D7 r5.1::RR kT3 A45 D45 r43.2.1::W0) ?_ ?_
 refine o_4 ?_
 rcases bo (!r43.2.2) with hc50 | hc50
 refine o_8 ?_
 exact qj (fun w s=>((s.shr 2 R).e 4 [3,1,0]))
 refine o_1 ?_
 refine lW (wnF hc50) (vp (vstr r5.2.1) R) (lW (wnF hc50) (vz (il r5.2.1) (v_slen un9 R)) (l_st (fun w s=>s.shr 2 R) (l_cut (K:=kT3) (0:Int) (r5.2.1.length:Int) 0 R (wnF hc50) sl23 sz3 R R R R (hg46 hc50).1 (hg46 hc50).2.1 (hg46 hc50).2.2 (fun A47 D47=>(lM (RR kT3 A47 D47 (sub r43.2.1 (0:Int) (r5.2.1.length:Int))::RR kT3 A47 D47 (sub r43.2.1 (0:Int) (r5.2.1.length:Int))::RR kT3 A45 D45 r43.2.1::_::_::_::W0) (fun w s=>(s.d 0 R)) ?_)))))
 refine l_calln 1 R (wnF hc50) cb92 R (Zk_ok (gcall_t hx49 (not_ff hc50))) R ?_
 rintro _
 refine lN (_::_::_::_::_::W0) ?_
 refine o_3 ?_
 exact qj (tE 5 [4,2,1])
 rintro σ1
 refine o_1 ?_
 rcases bif_ hr with ⟨_,hr⟩|⟨_,hr⟩
 refine o_3 ?_
 refine lO (vz (.agg [(.slice none 0 0),(.slice none 0 0)].toArray) (v_build pl58 zc58 R R)) (l_stores 0 R R sz58 R R R R R R (lN (_::_::_::W0) ?_))
 refine o_4 ?_
 obtain rfl:=so hr
 exact qS ((none,0,0),(none,0,0)) (fun w s=>(((s.nilo kT3 3).nilo kT3 3).e 6 [1,0]))
 refine o_4 ?_
 obtain ⟨hg52,hr⟩:=gd hr
 obtain ⟨r54,hx55,hr⟩:=bd hr
 refine o_2 ?_
 refine lO (vp (vstr r5.2.1) R) (lO (vz (il r5.2.1) (v_slen un9 R)) (l_cut (K:=kT3) (0:Int) (r5.2.1.length:Int) 2 R R sl23 sz3 R R R R hg52.1 hg52.2.1 hg52.2.2 (fun A53 D53=>(lM (RR kT3 A53 D53 (sub r43.2.1 (0:Int) (r5.2.1.length:Int))::RR kT3 A53 D53 (sub r43.2.1 (0:Int) (r5.2.1.length:Int))::_::_::_::W0) (fun w s=>(s.d 0 R)) ?_))))
 refine lC 1 cb93 R (Z0b_ok hx55) R ?_
 rintro ⟨⟨A56,N56,D56⟩,⟨A57,N57,D57⟩⟩
 refine lN (ow kT3 3 (.slice A56 N56 D56) r54.Dims::ow kT3 3 (.slice A57 N57 D57) r54.Data::_::_::_::_::W0) ?_
 refine l_len 0 sees_ow ?_
 rintro rfl
 refine l_len 1 sees_ow ?_
 rintro rfl
 refine l_alloc R R zc58 (fun b58=>(l_stores 0 R R sz58 R R R R R R (lN (bxl b58 [(sc A56 r54.Dims D56),(sc A57 r54.Data D57)] 58::_::_::_::_::_::_::W0) ?_)))
 refine o_8 ?_
 refine c_cut (A:=(Int)×(Unit)) (fun a=>Z5_J2 ts2 r5 r43 r54 a.1=some r) (fun a=>[(1,(sc A3 ts2 D3)),(4,(pt b4 0)),(5,(sc A7 r5.1 D7)),(6,(vstr r5.2.1)),(10,(vstr r43.1)),(11,(sc A45 r43.2.1 D45)),(13,(pt b58 0)),(14,(iv a.1))]) (fun a=>bxl b4 [(.slice none 0 0),(.slice none 0 0)] 58::OO kT9 9 A7 D7 r5.1::RR kT3 A45 D45 r43.2.1::bxl b58 [(sc A56 r54.Dims D56),(sc A57 r54.Data D57)] 58::OO kT3 3 A56 D56 r54.Dims::OO kT3 3 A57 D57 r54.Data::W0) ?_ ?_
 refine o_6 ?_
 obtain ⟨e2,hl2,hk2⟩:=bd hr
 refine c_loop (A:=Unit) hl2 (fun s a=>[(1,(sc A3 ts2 D3)),(4,(pt b4 0)),(5,(sc A7 r5.1 D7)),(6,(vstr r5.2.1)),(10,(vstr r43.1)),(11,(sc A45 r43.2.1 D45)),(13,(pt b58 0)),(14,(iv s.1)),(15,(iv s.2))]) (fun s a=>bxl b4 [(.slice none 0 0),(.slice none 0 0)] 58::OO kT9 9 A7 D7 r5.1::RR kT3 A45 D45 r43.2.1::bxl b58 [(sc A56 r54.Dims D56),(sc A57 r54.Data D57)] 58::OO kT3 3 A56 D56 r54.Dims::OO kT3 3 A57 D57 r54.Data::W0) () (aS R) (fun w s=>(s.f 7 [4,3,0,3])) ?_
 rintro ⟨work63,i64⟩ _ σ1 out2 hr he2
 dsimp only [Z5_L2] at hr
 refine o_9 ?_
 rcases bif_ hr with ⟨_,hr⟩|⟨_,hr⟩
 refine o_5 ?_
 obtain ⟨hg66,hr⟩:=gd hr
 refine o_4 ?_
 refine t_some 2 sees_rd (show 0<r43.2.1.length by have:=hg66; omega) (fun g67 o68 ha=>?_)
 subst ha
 refine o_12 ?_
 obtain rfl:=so hr
 exact qA () tI
 refine o_3 ?_
 obtain rfl:=so hr
 obtain rfl:=he2 _ R
 have hr:=hk2
 refine o_2 ?_
 exact qI (work63,()) hr tI
 rintro ⟨work71,_⟩ σ1 hr
 dsimp only [Z5_J2] at hr
 refine c_seq (c_cut (A:=((List Int))×(Unit)) (fun a=>Z5_J5 r54 a.1=some r) (fun a=>[(4,(pt b4 0)),(13,(pt b58 0))]) (fun a=>bxl b4 [(.slice none 0 0),(.slice none 0 0)] 58::bxl b58 [(sc A56 r54.Dims D56),(sc A57 r54.Data D57)] 58::OO kT3 3 A56 D56 r54.Dims::ow kT3 3 (.slice A57 r54.Data.length D57) a.1::W0) ?_ ?_)
 refine o_6 ?_
 obtain ⟨e3,hl3,hk3⟩:=bd hr
 refine c_loop (A:=Unit) hl3 (fun s a=>[(1,(sc A3 ts2 D3)),(4,(pt b4 0)),(5,(sc A7 r5.1 D7)),(6,(vstr r5.2.1)),(10,(vstr r43.1)),(11,(sc A45 r43.2.1 D45)),(13,(pt b58 0)),(14,(iv work71)),(16,(iv s.2))]) (fun s a=>bxl b4 [(.slice none 0 0),(.slice none 0 0)] 58::OO kT9 9 A7 D7 r5.1::RR kT3 A45 D45 r43.2.1::bxl b58 [(sc A56 r54.Dims D56),(sc A57 r54.Data D57)] 58::OO kT3 3 A56 D56 r54.Dims::ow kT3 3 (.slice A57 r54.Data.length D57) s.1::W0) () (aS R) tI ?_
 rintro ⟨sum122,n123⟩ _ σ1 out3 hr he3
 dsimp only [Z5_L3] at hr
 refine o_8 ?_
 rcases bif_ hr with ⟨_,hr⟩|⟨_,hr⟩
 refine o_6 ?_
 obtain ⟨r125,hx126,hr⟩:=bd hr
 refine o_3 ?_
 refine lM (_::_::_::_::_::_::ow kT3 3 (.slice A57 r54.Data.length D57) sum122::W0) (fun w s=>(s.d 2 R)) ?_
 refine lC 1 cb102 R (Zf_ok hx126) R ?_
 rintro ⟨A127,N127,D127⟩
 refine lN (ow kT3 3 (.slice A127 N127 D127) r125::_::_::_::_::_::_::W0) ?_
 refine l_len 0 sees_ow ?_
 rintro rfl
 refine o_9 ?_
 refine c_cut (A:=(Int)×(Unit)) (fun a=>Z5_J4 r5 r54 sum122 n123 r125 a.1=some out3) (fun a=>[(1,(sc A3 ts2 D3)),(4,(pt b4 0)),(5,(sc A7 r5.1 D7)),(6,(vstr r5.2.1)),(10,(vstr r43.1)),(11,(sc A45 r43.2.1 D45)),(13,(pt b58 0)),(14,(iv work71)),(16,(iv n123)),(17,(sc A127 r125 D127)),(18,(iv a.1))]) (fun a=>bxl b4 [(.slice none 0 0),(.slice none 0 0)] 58::OO kT9 9 A7 D7 r5.1::RR kT3 A45 D45 r43.2.1::bxl b58 [(sc A56 r54.Dims D56),(sc A57 r54.Data D57)] 58::OO kT3 3 A56 D56 r54.Dims::ow kT3 3 (.slice A57 r54.Data.length D57) sum122::OO kT3 3 A127 D127 r125::W0) ?_ ?_
 refine o_6 ?_
 obtain ⟨e4,hl4,hk4⟩:=bd hr
 refine c_loop (A:=Unit) hl4 (fun s a=>[(1,(sc A3 ts2 D3)),(4,(pt b4 0)),(5,(sc A7 r5.1 D7)),(6,(vstr r5.2.1)),(10,(vstr r43.1)),(11,(sc A45 r43.2.1 D45)),(13,(pt b58 0)),(14,(iv work71)),(16,(iv n123)),(17,(sc A127 r125 D127)),(18,(iv s.1)),(19,(iv s.2))]) (fun s a=>bxl b4 [(.slice none 0 0),(.slice none 0 0)] 58::OO kT9 9 A7 D7 r5.1::RR kT3 A45 D45 r43.2.1::bxl b58 [(sc A56 r54.Dims D56),(sc A57 r54.Data D57)] 58::OO kT3 3 A56 D56 r54.Dims::ow kT3 3 (.slice A57 r54.Data.length D57) sum122::OO kT3 3 A127 D127 r125::W0) () (aS R) (fun w s=>(s.f 7 [1,6,0,1])) ?_
 rintro ⟨x144,k145⟩ _ σ1 out4 hr he4
 dsimp only [Z5_L4] at hr
 refine o_9 ?_
 rcases bif_ hr with ⟨_,hr⟩|⟨_,hr⟩
 refine o_5 ?_
 obtain ⟨hg147,hr⟩:=gd hr
 obtain ⟨hg152,hr⟩:=gd hr
 obtain ⟨r155,hx156,hr⟩:=bd hr
 obtain ⟨r158,hx159,hr⟩:=bd hr
 obtain ⟨r160,hx161,hr⟩:=bd hr
 refine c_some 7 sees_rd (show 0<ts2.length by have:=hg147; omega) (fun g148 o149 ha=>?_)
 subst ha
 refine c_elem (K:=kT58) 7 k145 dT58.dec R hg147.1 hg147.2 ?_
 rintro ⟨⟨A150,D150⟩,⟨A151,D151⟩⟩
 refine cN (cl g148 (o149+k145.toNat*2) [(sc A150 ((ix ts2 k145).Dims) D150),(sc A151 ((ix ts2 k145).Data) D151)]::RR kT3 A150 D150 ((ix ts2 k145).Dims)::RR kT3 A151 D151 ((ix ts2 k145).Data)::_::_::_::_::_::_::_::W0) ?_
 refine c_some 4 sees_ow (show 0<r5.1.length by have:=hg152; omega) (fun g153 o154 ha=>?_)
 subst ha
 refine cdr 15 [] mixo fun ht hn=>?_
 refine d4_ 0 [] ?_
 refine dR 4 R (vz (.agg [(sc A150 ((ix ts2 k145).Dims) D150),(sc A151 ((ix ts2 k145).Data) D151)].toArray) (v_clfs (fo:=0) 0 ag58 sz58 R R R R)) ?_
 refine d3_ 5 [] ?_
 refine dR 8 R (vz (vstr (ix r5.1 k145)) (v_lde (K:=kT9) (fo:=0) (pr:=fun x=>(vstr x)) 4 k145 ag9 (dT9.leaf fun _ _=>R) sees_ow R hg152.1 hg152.2)) (dR 9 R (vp (vstr r43.1) R) (dR 10 R (vS R) (d1 11 R (lM (ow _ _ _ _::cl _ _ _::rds _ _ _::rds _ _ _::bxl _ _ _::OO kT9 9 (ad g153 o154) D7 r5.1::rds _ _ _::bxl _ _ _::ow _ _ _ _::ow _ _ _ _::W0) (fun w s=>(s.f 10 [9,1,0,9])) ?_))))
 refine lC 1 cb113 R (FnOk.lends (A':=[OO kT3 3 A127 D127 r125]) (A:=[RR kT3 A127 D127 r125]) (B:=[]) (Zq_ok hx156) ⟨lend_ow,trivial⟩ (fun _=>⟨(closed_ow cT3),trivial⟩)) R ?_
 rintro ⟨A157,N157,D157⟩
 refine lN (_::ow kT3 3 (.slice A157 N157 D157) r155::_::_::_::_::_::_::_::_::_::W0) ?_
 refine l_len 1 sees_ow ?_
 rintro rfl
 refine l_nil (q_draw (fun w s=>(s.f 11 [2,9,0,1])) (d1 12 R (lM (ow _ _ _ _::rds _ _ _::rds _ _ _::ow _ _ _ _::cl _ _ _::rds _ _ _::rds _ _ _::bxl _ _ _::ow _ _ _ _::rds _ _ _::bxl _ _ _::ow _ _ _ _::ow _ _ _ _::W0) (fun w s=>(((s.d 3 R).d 5 R).f 13 [3,1,1,1,0,1,2,1,4,9])) ?_)))
 refine lC 3 cb112 R (FnOk.lends (A':=[OO kT3 3 A157 D157 r155]) (A:=[RR kT3 A157 D157 r155]) (B:=[RR kT3 A150 D150 ((ix ts2 k145).Dims),RR kT3 A151 D151 ((ix ts2 k145).Data)]) (FnOk.perm (Z0w_ok hx159) (Pre':=[RR kT3 A157 D157 r155,RR kT3 A150 D150 ((ix ts2 k145).Dims),RR kT3 A151 D151 ((ix ts2 k145).Data)]) (fun _ _ _ s=>(s.e 3 [1,2,0]))) ⟨lend_ow,trivial⟩ (fun _=>trivial)) R ?_
 rintro _
 refine lN (_::_::_::_::_::_::_::_::_::_::_::W0) ?_
 refine l_nil (q_draw (fun w s=>(s.f 11 [2,9,1,1])) (d1 13 R (lC 0 cb111 R (Z15_ok hx161) R ?_)))
 rintro _
 refine l_nil (q_draw (fun w s=>(s.f 11 [2,9,1,1])) (dR 14 R (vI R) (hS:=(fun w s=>(s.f 11 [2,9,1,1]))) (dD ?_)))
 refine o_7 ?_
 obtain rfl:=so hr
 exact qA () (fun w s=>(s.f 11 [5,6,1,1]))
 refine o_3 ?_
 obtain rfl:=so hr
 obtain rfl:=he4 _ R
 have hr:=hk4
 refine o_2 ?_
 exact qI (x144,()) hr tI
 rintro ⟨x164,_⟩ σ1 hr
 dsimp only [Z5_J4] at hr
 refine o_1 ?_
 obtain ⟨hg165,hr⟩:=gd hr
 obtain ⟨r167,hx168,hr⟩:=bd hr
 refine cdr 8 [6] mixo fun ht hn=>?_
 refine d3_ 0 [6] ?_
 refine dR 3 R (vp (vstr r5.2.1) R) (hS:=(sL [6])) (dR 4 R (vz (il r5.2.1) (v_slen un9 R)) (hS:=(sL [6])) (d1 5 R (l_st (fun w s=>s.shr 6 R) (l_cut (K:=kT3) (0:Int) (r5.2.1.length:Int) 0 R R sl23 sz3 R R R R hg165.1 hg165.2.1 hg165.2.2 (fun A166 D166=>(l_nil (q_draw (sL [1,0]) (d1 6 R (lM (ow _ _ _ _::RR kT3 A166 D166 (sub r125 (0:Int) (r5.2.1.length:Int))::RR kT3 A166 D166 (sub r125 (0:Int) (r5.2.1.length:Int))::RR kT3 A127 D127 r125::bxl _ _ _::OO kT9 9 A7 D7 r5.1::rds _ _ _::bxl _ _ _::ow _ _ _ _::W0) (fun w s=>((s.d 0 R).f 9 [7,1,0,7,8,1])) ?_)))))))))
 refine lC 2 cb114 R (FnOk.lends (A':=[OO kT3 3 A56 D56 r54.Dims]) (A:=[RR kT3 A56 D56 r54.Dims]) (B:=[RR kT3 A166 D166 (sub r125 (0:Int) (r5.2.1.length:Int))]) (Z0g_ok hx168) ⟨lend_ow,trivial⟩ (fun _=>trivial)) R ?_
 rintro _
 refine lN (_::_::_::_::_::_::_::_::W0) ?_
 refine l_nil (q_draw (tE 8 [3,4,5,6,0,7]) (dR 7 R (vI R) (hS:=(tE 8 [3,4,5,6,0,7])) (dD (q_next ?_))))
 obtain ⟨hg169,hr⟩:=gd hr
 obtain ⟨r172,hx173,hr⟩:=bd hr
 refine c_some 7 sees_ow (show 0<r54.Data.length by have:=hg169; omega) (fun g170 o171 ha=>?_)
 subst ha
 refine cdr 12 [7] mixo fun ht hn=>?_
 refine d7_ 0 [7] ?_
 refine d1_ 8 [7] ?_
 refine d1 7 R (lO (vLi 7 ag3 sees_ow R hg169) (l_nil (q_draw (sL [7]) (d1 9 R (lC 0 cb115 R (Z1c_ok hx173) R ?_)))))
 rintro _
 refine lN (_::_::_::_::_::_::bxl b58 [(sc A56 r54.Dims D56),(sc (ad g170 o171) r54.Data D57)] 58::ow kT3 3 (.slice (ad g170 o171) r54.Data.length D57) sum122::W0) ?_
 refine l_nil (q_draw (sL [7]) ?_)
 refine d1_ 10 [7] ?_
 refine d1 11 R (lM (ow _ _ _ _::ow _ _ _ _::rds _ _ _::rds _ _ _::bxl _ _ _::ow _ _ _ _::rds _ _ _::bxl _ _ _::W0) (fun w s=>(s.f 8 [7,1,0,7])) ?_)
 refine l_stx (K:=kT3) (x':=r172) 0 r167 R R sz3 R R hg169.1 hg169.2 ?_ ?_
 exact fun I h s=>(mO3).put I h () r172 s
 refine lN (ow kT3 3 (.slice (ad g170 o171) r54.Data.length D57) (sum122.set r167.toNat r172)::_::_::_::_::_::_::_::W0) ?_
 refine l_nil (q_draw (sL [0]) (dD ?_))
 refine o_7 ?_
 obtain rfl:=so hr
 exact qA () (tE 8 [4,5,6,7,1,0])
 refine o_3 ?_
 obtain rfl:=so hr
 obtain rfl:=he3 _ R
 have hr:=hk3
 refine o_2 ?_
 exact qI (sum122,()) hr (tE 6 [0,3,4,5])
 rintro ⟨sum176,_⟩ σ1 hr
 dsimp only [Z5_J5] at hr
 refine o_3 ?_
 refine l_stores 0 R R sz58 R R R R R R (lN (bxl b4 [(sc A56 r54.Dims D56),(sc A57 r54.Data D57)] 58::bxl b58 [(sc A56 r54.Dims D56),(sc A57 r54.Data D57)] 58::_::ow kT3 3 (.slice A57 r54.Data.length D57) sum176::W0) ?_)
 refine o_3 ?_
 obtain rfl:=so hr
 exact qS ((A56,r54.Dims.length,D56),(A57,r54.Data.length,D57)) (tE 5 [2,3])
theorem Z0a_ok  {v1:View}{r:View}(hr:Z0a v1=some r) :
 FnOk Tryz.prog 118 [(.agg [(.slice A2 N2 D2),(.slice A3 N3 D3),(iv v1.Offset),(iv v1.Base)].toArray)] [rds kT3 (.slice A2 N2 D2) v1.Dims,ow kT3 3 (.slice A3 N3 D3) v1.Strides] (fun (h:HH×HH)=>((.agg [(s3 h.1),(s3 h.2),(iv r.Offset),(iv r.Base)].toArray),[rds kT3 (s3 h.1) r.Dims,ow kT3 3 (s3 h.2) r.Strides])):=by
 unfold Z0a at hr
 refine fn_ok Tryz.func118 R 22 R R fun C V=>?_
 refine cM (ow _ _ _ _::rds _ _ _::V) (tE 2 [1,0]) ?_
 refine cL 0 sees_ow ?_
 rintro rfl
 refine cL 1 sees_rd ?_
 rintro rfl
 let W0:List HP:=RR kT3 A2 D2 v1.Dims::V
 refine cN (_::W0) ?_
 refine o_2 ?_
 refine lBx R fun b4=>?_
 refine l_alloc R R zc96 (fun b5=>(l_nil (qM (bxl _ _ _::ow _ _ _ _::bxl _ _ _::W0) (tE 3 [0,2,1]) ?_)))
 let W1:List HP:=bxl b4 [(sc A2 v1.Dims D2),(sc A3 v1.Strides D3),(iv v1.Offset),(iv v1.Base)] 96::W0
 refine qN (_::_::W1) ?_
 refine o_2 ?_
 refine c_cut (A:=((List Int))×(Unit)) (fun a=>Z0a_J3 v1 a.1=some r) (fun a=>[(1,(pt b4 0)),(2,(pt b5 0))]) (fun a=>bxl b5 [(.slice none 0 0),(.slice none 0 0),(iv 0),(iv 0)] 96::ow kT3 3 (.slice A3 v1.Strides.length D3) a.1::W1) ?_ ?_
 refine o_6 ?_
 obtain ⟨e1,hl1,hk1⟩:=bd hr
 refine c_loop (A:=Unit) hl1 (fun s a=>[(1,(pt b4 0)),(2,(pt b5 0)),(3,(iv s.1))]) (fun s a=>bxl b5 [(.slice none 0 0),(.slice none 0 0),(iv 0),(iv 0)] 96::ow kT3 3 (.slice A3 v1.Strides.length D3) s.2::W1) () (aS R) tI ?_
 rintro ⟨i15,p16⟩ _ σ1 out1 hr he1
 dsimp only [Z0a_L1] at hr
 refine o_10 ?_
 rcases bif_ hr with ⟨_,hr⟩|⟨_,hr⟩
 refine o_4 ?_
 refine c_cut (A:=((List Int))×(Unit)) (fun a=>Z0a_J2 i15 a.1=some out1) (fun a=>[(1,(pt b4 0)),(2,(pt b5 0)),(3,(iv i15))]) (fun a=>bxl b5 [(.slice none 0 0),(.slice none 0 0),(iv 0),(iv 0)] 96::ow kT3 3 (.slice A3 v1.Strides.length D3) a.1::W1) ?_ ?_
 refine o_2 ?_
 obtain ⟨hg18,hr⟩:=gd hr
 refine o_4 ?_
 refine t_some 3 sees_rd (show 0<v1.Dims.length by have:=hg18; omega) (fun g19 o20 ha=>?_)
 subst ha
 refine o_5 ?_
 rcases bif_ hr with ⟨_,hr⟩|⟨_,hr⟩
 refine o_1 ?_
 obtain ⟨hg22,hr⟩:=gd hr
 refine o_4 ?_
 refine t_some 1 sees_ow (show 0<v1.Strides.length by have:=hg22; omega) (fun g23 o24 ha=>?_)
 subst ha
 refine o_1 ?_
 refine lM (ow kT3 3 (.slice (ad g23 o24) v1.Strides.length D3) p16::bxl _ _ _::W1) (tE 2 [1,0]) ?_
 refine l_stx (K:=kT3) (x':=(0:Int)) 0 i15 R R sz3 R R hg22.1 hg22.2 ?_ ?_
 exact fun I h s=>(mO3).put I h () (0:Int) s
 refine lN (ow kT3 3 (.slice (ad g23 o24) v1.Strides.length D3) (p16.set i15.toNat (0:Int))::_::W1) ?_
 refine o_2 ?_
 exact qI ((p16.set i15.toNat (0:Int)),()) hr (tE 2 [1,0])
 refine o_3 ?_
 exact qI (p16,()) hr tI
 rintro ⟨p25,_⟩ σ1 hr
 dsimp only [Z0a_J2] at hr
 refine o_5 ?_
 obtain rfl:=so hr
 exact qA () tI
 refine o_3 ?_
 obtain rfl:=so hr
 obtain rfl:=he1 _ R
 have hr:=hk1
 refine o_2 ?_
 exact qI (p16,()) hr tI
 rintro ⟨p28,_⟩ σ1 hr
 dsimp only [Z0a_J3] at hr
 refine o_3 ?_
 refine l_stores 0 R R sz96 R R R R R R (lN (bxl b5 [(sc A2 v1.Dims D2),(sc A3 v1.Strides D3),(iv v1.Offset),(iv v1.Base)] 96::ow kT3 3 (.slice A3 v1.Strides.length D3) p28::W1) ?_)
 refine o_3 ?_
 obtain rfl:=so hr
 exact qS ((A2,v1.Dims.length,D2),(A3,v1.Strides.length,D3)) (tE 4 [3,1])
theorem Zw_ok  {dims1:(List Int)}{r:View}(hr:Zw dims1=some r) :
 FnOk Tryz.prog 84 [(.slice A2 N2 D2)] [rds kT3 (.slice A2 N2 D2) dims1] (fun (h:HH×HH)=>((.agg [(s3 h.1),(s3 h.2),(iv r.Offset),(iv r.Base)].toArray),[rds kT3 (s3 h.1) r.Dims,ow kT3 3 (s3 h.2) r.Strides])):=by
 unfold Zw at hr
 refine fn_ok Tryz.func84 R 32 R R fun C V=>?_
 refine cN (_::V) ?_
 refine cL 0 sees_rd ?_
 rintro rfl
 let W0:List HP:=RR kT3 A2 D2 dims1::V
 refine cN W0 ?_
 refine o_2 ?_
 refine l_alloc R R zc96 (fun b3=>(l_nil (q_next (c_seq (c_seq ?_)))))
 obtain ⟨r4,hx5,hr⟩:=bd hr
 refine o_2 ?_
 refine lM (RR kT3 A2 D2 dims1::_::W0) (fun w s=>(s.d 1 R)) ?_
 refine lC 1 cb92 R (Zk_ok hx5) R ?_
 rintro _
 refine lN (_::W0) ?_
 refine o_3 ?_
 rcases bif_ hr with ⟨_,hr⟩|⟨_,hr⟩
 refine o_3 ?_
 refine lO (vz (.agg [(.slice none 0 0),(.slice none 0 0),(iv 0),(iv 0)].toArray) (v_build pl96 zc96 R R)) (l_stores 0 R R sz96 R R R R R R (l_nil (q_next (c_ret (q_ret ?_)))))
 obtain rfl:=so hr
 exact qS ((none,0,0),(none,0,0)) (fun w s=>(((s.nilr kT3).nilo kT3 3).e 4 [1,0]))
 refine o_4 ?_
 obtain ⟨r7,hx8,hr⟩:=bd hr
 obtain ⟨r10,hx11,hr⟩:=bd hr
 refine o_2 ?_
 refine lM (RR kT3 A2 D2 dims1::_::W0) (fun w s=>(s.d 1 R)) ?_
 refine lC 1 cb57 R (Zp_ok hx8) R ?_
 rintro ⟨A9,N9,D9⟩
 refine lN (ow kT3 3 (.slice A9 N9 D9) r7::_::W0) ?_
 refine l_len 0 sees_ow ?_
 rintro rfl
 refine lS R (lM (RR kT3 A2 D2 dims1::_::_::W0) (fun w s=>(s.d 2 R)) ?_)
 refine lC 1 cb95 R (Zs_ok hx11) R ?_
 rintro _
 refine lN (_::_::W0) ?_
 refine lO (vz (.agg [(sc A9 r7 D9),(.slice none 0 0),(iv 0),(iv r10)].toArray) (v_build pl96 zc96 R R)) (l_alloc R R zc96 (fun b12=>(l_stores 0 R R sz96 R R R R R R (lN (bxl b12 [(sc A9 r7 D9),(.slice none 0 0),(iv 0),(iv r10)] 96::_::_::W0) ?_))))
 refine o_3 ?_
 refine c_cut (A:=((List Int))×(HH)) (fun a=>Zw_J1 r7 r10 a.1=some r) (fun a=>[(2,(pt b3 0)),(3,(pt b12 0))]) (fun a=>bxl b3 [(.slice none 0 0),(.slice none 0 0),(iv 0),(iv 0)] 96::bxl b12 [(sc A9 r7 D9),(s3 a.2),(iv 0),(iv r10)] 96::OO kT3 3 A9 D9 r7::ow kT3 3 (s3 a.2) a.1::W0) ?_ ?_
 refine o_6 ?_
 obtain ⟨e1,hl1,hk1⟩:=bd hr
 refine c_loop (A:=HH) hl1 (fun s a=>[(0,(sc A2 dims1 D2)),(2,(pt b3 0)),(3,(pt b12 0)),(4,(iv s.2))]) (fun s a=>bxl b3 [(.slice none 0 0),(.slice none 0 0),(iv 0),(iv 0)] 96::bxl b12 [(sc A9 r7 D9),(s3 a),(iv 0),(iv r10)] 96::OO kT3 3 A9 D9 r7::ow kT3 3 (s3 a) s.1::W0) (none,0,0) (aS R) (fun w s=>((s.nilo kT3 3).e 4 [3,1,2,0])) ?_
 rintro ⟨v21,i23⟩ ⟨A22,N22,D22⟩ σ1 out1 hr he1
 dsimp only [Zw_L1] at hr
 refine c_len 3 sees_ow (fun (hn:N22=v21.length)=>?_)
 subst hn
 refine o_9 ?_
 rcases bif_ hr with ⟨_,hr⟩|⟨_,hr⟩
 refine o_5 ?_
 obtain ⟨hg25,hr⟩:=gd hr
 obtain ⟨r27,hx28,hr⟩:=bd hr
 obtain ⟨hg30,hr⟩:=gd hr
 refine cdr 8 [] mixo fun ht hn=>?_
 refine d5_ 0 [] ?_
 refine d1 5 R (l_cut (K:=kT3) (w64 (i23+(1:Int))) (dims1.length:Int) 4 R R sl23 sz3 R R R R hg25.1 hg25.2.1 hg25.2.2 (fun A26 D26=>(l_nil (q_draw (sL [0]) (d1 6 R (lM (RR kT3 A26 D26 (sub dims1 (w64 (i23+(1:Int))) (dims1.length:Int))::RR kT3 A26 D26 (sub dims1 (w64 (i23+(1:Int))) (dims1.length:Int))::_::bxl b12 [(sc A9 r7 D9),(sc A22 v21 D22),(iv 0),(iv r10)] 96::_::OO kT3 3 A22 D22 v21::W0) (fun w s=>(s.d 0 R)) ?_))))))
 refine lC 1 cb95 R (Zs_ok hx28) R ?_
 rintro _
 refine lN (_::_::_::_::_::W0) ?_
 refine l_nil (q_draw (sL [0]) (d1 7 R (l_build (K:=kT3) (xs:=([r27]:List Int)) (vs:=[(iv r27)]) 0 R R sl23 sz3 zc3 R R R R R R ?_ R (fun A29 D29=>?_))))
 exact fun I h s=>(mO3).list [((),r27)] I h s
 refine lN (OO kT3 3 A29 D29 ([r27]:List Int)::_::_::_::_::_::W0) ?_
 refine l_nil (q_draw (sL [1,0]) (d1 8 R (lM (ow _ _ _ _::ow _ _ _ _::rds _ _ _::bxl _ _ _::bxl _ _ _::ow _ _ _ _::W0) (fun w s=>(s.f 6 [5,1,0,5])) ?_)))
 refine l_app (K:=kT3) 17592186044416 R R sl23 sz3 by3 (Zr.zk zT3 zc3) R R R R R R src_ow hg30 (fun A31 D31=>(lN (OO kT3 3 A31 D31 (v21++([r27]:List Int))::_::_::_::_::W0) ?_))
 refine l_nil (qE (d1 9 R (lO (vFa 1 fo96_1 R) (l_nil (qE (d1 10 R (l_store 3 R R sz23 R R R R R (lN (_::_::_::bxl b12 [(sc A9 r7 D9),(sc A31 (v21++([r27]:List Int)) D31),(iv 0),(iv r10)] 96::_::W0) ?_))))))))
 refine l_nil (qE (dD ?_))
 refine o_7 ?_
 obtain rfl:=so hr
 exact qA (A31,(v21++([r27]:List Int)).length,D31) (tE 5 [2,3,4,0])
 refine o_3 ?_
 obtain rfl:=so hr
 obtain rfl:=he1 _ R
 have hr:=hk1
 refine o_2 ?_
 exact qI (v21,(A22,v21.length,D22)) hr tI
 rintro ⟨v35,⟨A36,N36,D36⟩⟩ σ1 hr
 dsimp only [Zw_J1] at hr
 refine c_len 3 sees_ow (fun (hn:N36=v35.length)=>?_)
 subst hn
 refine o_1 ?_
 obtain ⟨r37,hx38,hr⟩:=bd hr
 refine o_2 ?_
 refine l_st (fun w s=>s.shr 2 R) (lM (RR kT3 A9 D9 r7::OO kT3 3 A36 D36 v35::RR kT3 A9 D9 r7::bxl _ _ _::bxl b12 [(sc A9 r7 D9),(sc A36 v35 D36),(iv 0),(iv r10)] 96::W0) (fun w s=>((s.d 0 R).e 5 [0,4,1,2,3])) ?_)
 refine lC 2 cb118 R (Z0a_ok (v1:=(⟨r7,v35,(0:Int),r10⟩:View)) hx38) R ?_
 rintro ⟨⟨A39,N39,D39⟩,⟨A40,N40,D40⟩⟩
 refine lN (rds kT3 (.slice A39 N39 D39) r37.Dims::ow kT3 3 (.slice A40 N40 D40) r37.Strides::_::_::_::W0) ?_
 refine l_len 0 sees_rd ?_
 rintro rfl
 refine l_len 1 sees_ow ?_
 rintro rfl
 refine l_stores 3 R R sz96 R R R R R R (lN (_::_::_::bxl b3 [(sc A39 r37.Dims D39),(sc A40 r37.Strides D40),(iv r37.Offset),(iv r37.Base)] 96::_::W0) ?_)
 refine o_3 ?_
 obtain rfl:=so hr
 exact qS ((A39,r37.Dims.length,D39),(A40,r37.Strides.length,D40)) (tE 6 [0,1])
theorem Z0v_ok  {v1:View}{index4:(List Int)}{r:Int}(hr:Z0v v1 index4=some r) :
 FnOk Tryz.prog 144 [(.agg [(.slice A2 N2 D2),(.slice A3 N3 D3),(iv v1.Offset),(iv v1.Base)].toArray),(.slice A5 N5 D5)] [rds kT3 (.slice A2 N2 D2) v1.Dims,rds kT3 (.slice A3 N3 D3) v1.Strides,rds kT3 (.slice A5 N5 D5) index4] (fun (h:Unit)=>((iv r),[])):=by
 unfold Z0v at hr
 refine fn_ok Tryz.func144 R 28 R R fun C V=>?_
 refine cN (_::_::_::V) ?_
 refine cL 0 sees_rd ?_
 rintro rfl
 refine cL 1 sees_rd ?_
 rintro rfl
 refine cL 2 sees_rd ?_
 rintro rfl
 let W0:List HP:=RR kT3 A2 D2 v1.Dims::RR kT3 A3 D3 v1.Strides::RR kT3 A5 D5 index4::V
 refine cN W0 ?_
 refine o_2 ?_
 refine lBx R fun b6=>?_
 refine o_2 ?_
 let W1:List HP:=bxl b6 [(sc A2 v1.Dims D2),(sc A3 v1.Strides D3),(iv v1.Offset),(iv v1.Base)] 96::W0
 refine qN W1 ?_
 refine o_9 ?_
 refine c_cut (A:=(Int)×(Unit)) (fun a=>Z0v_J1 a.1=some r) (fun a=>[(5,(iv a.1))]) (fun a=>W1) ?_ ?_
 refine o_6 ?_
 obtain ⟨e1,hl1,hk1⟩:=bd hr
 refine c_loop (A:=Unit) hl1 (fun s a=>[(1,(sc A5 index4 D5)),(2,(pt b6 0)),(5,(iv s.1)),(6,(iv s.2))]) (fun s a=>W1) () (aS R) tI ?_
 rintro ⟨p14,i15⟩ _ σ1 out1 hr he1
 dsimp only [Z0v_L1] at hr
 refine o_9 ?_
 rcases bif_ hr with ⟨_,hr⟩|⟨_,hr⟩
 refine o_5 ?_
 obtain ⟨hg17,hr⟩:=gd hr
 obtain ⟨hg20,hr⟩:=gd hr
 refine c_some 3 sees_rd (show 0<index4.length by have:=hg17; omega) (fun g18 o19 ha=>?_)
 subst ha
 refine c_some 2 sees_rd (show 0<v1.Strides.length by have:=hg20; omega) (fun g21 o22 ha=>?_)
 subst ha
 refine cdr 13 [] mixo fun ht hn=>?_
 refine d13_ 0 [] ?_
 refine dD ?_
 refine o_7 ?_
 obtain rfl:=so hr
 exact qA () tI
 refine o_3 ?_
 obtain rfl:=so hr
 obtain rfl:=he1 _ R
 have hr:=hk1
 refine o_2 ?_
 exact qI (p14,()) hr tI
 rintro ⟨p25,_⟩ σ1 hr
 dsimp only [Z0v_J1] at hr
 refine o_7 ?_
 obtain rfl:=so hr
 exact qF () (tE 4 [])
theorem Z09_ok  {v1:View}{r:(List Int)}(hr:Z09 v1=some r) :
 FnOk Tryz.prog 117 [(.agg [(.slice A2 N2 D2),(.slice A3 N3 D3),(iv v1.Offset),(iv v1.Base)].toArray)] [rds kT3 (.slice A2 N2 D2) v1.Dims,rds kT3 (.slice A3 N3 D3) v1.Strides] (fun (h:HH)=>((s3 h),[ow kT3 3 (s3 h) r])):=by
 unfold Z09 at hr
 refine fn_ok Tryz.func117 R 25 R R fun C V=>?_
 refine cN (_::_::V) ?_
 refine cL 0 sees_rd ?_
 rintro rfl
 refine cL 1 sees_rd ?_
 rintro rfl
 let W0:List HP:=RR kT3 A2 D2 v1.Dims::RR kT3 A3 D3 v1.Strides::V
 refine cN W0 ?_
 refine o_2 ?_
 refine lBx R fun b4=>?_
 refine o_2 ?_
 let W1:List HP:=bxl b4 [(sc A2 v1.Dims D2),(sc A3 v1.Strides D3),(iv v1.Offset),(iv v1.Base)] 96::W0
 refine qN W1 ?_
 refine o_3 ?_
 refine l_build (K:=kT3) (xs:=([]:List Int)) (vs:=[]) 0 R R sl23 sz3 zc3 R R R R R R ?_ R (fun A5 D5=>?_)
 exact fun I h s=>(mO3).list [] I h s
 refine lN (OO kT3 3 A5 D5 ([]:List Int)::W1) ?_
 refine o_4 ?_
 obtain ⟨r6,hx7,hr⟩:=bd hr
 refine o_3 ?_
 refine lM (RR kT3 A2 D2 v1.Dims::_::W1) (fun w s=>(s.d 2 R)) ?_
 refine lC 1 cb95 R (Zs_ok hx7) R ?_
 rintro _
 refine lN (_::W1) ?_
 refine o_4 ?_
 refine c_cut (A:=((List Int))×(HH)) (fun a=>Z09_J1 a.1=some r) (fun a=>[(3,(s3 a.2))]) (fun a=>ow kT3 3 (s3 a.2) a.1::W1) ?_ ?_
 refine o_6 ?_
 obtain ⟨e1,hl1,hk1⟩:=bd hr
 refine c_loop (A:=HH) hl1 (fun s a=>[(1,(pt b4 0)),(3,(s3 a)),(4,(iv r6)),(5,(iv s.2))]) (fun s a=>ow kT3 3 (s3 a) s.1::W1) (A5,([]:List Int).length,D5) (aS R) tI ?_
 rintro ⟨x17,k19⟩ ⟨A18,N18,D18⟩ σ1 out1 hr he1
 dsimp only [Z09_L1] at hr
 refine c_len 0 sees_ow (fun (hn:N18=x17.length)=>?_)
 subst hn
 refine o_8 ?_
 rcases bif_ hr with ⟨_,hr⟩|⟨_,hr⟩
 refine o_5 ?_
 obtain ⟨r21,hx22,hr⟩:=bd hr
 obtain ⟨r24,hx25,hr⟩:=bd hr
 obtain ⟨hg27,hr⟩:=gd hr
 refine cdr 10 [0] mixo fun ht hn=>?_
 refine d5_ 0 [0] ?_
 refine d1 5 R (lM (RR kT3 A2 D2 v1.Dims::OO kT3 3 A18 D18 x17::W1) (fun w s=>(s.d 2 R)) ?_)
 refine lC 1 cb102 R (Zf_ok hx22) R ?_
 rintro ⟨A23,N23,D23⟩
 refine lN (ow kT3 3 (.slice A23 N23 D23) r21::_::W1) ?_
 refine l_len 0 sees_ow ?_
 rintro rfl
 refine l_nil (q_draw (sL [1,0]) (d1 6 R (lM (ow _ _ _ _::RR kT3 A2 D2 v1.Dims::RR kT3 A3 D3 v1.Strides::ow _ _ _ _::W1) (fun w s=>(((s.d 3 R).d 5 R).e 4 [2,1,0,3])) ?_)))
 refine lC 3 cb144 R (FnOk.lends (A':=[OO kT3 3 A23 D23 r21]) (A:=[RR kT3 A23 D23 r21]) (B:=[RR kT3 A2 D2 v1.Dims,RR kT3 A3 D3 v1.Strides]) (FnOk.perm (Z0v_ok hx25) (Pre':=[RR kT3 A23 D23 r21,RR kT3 A2 D2 v1.Dims,RR kT3 A3 D3 v1.Strides]) (fun _ _ _ s=>(s.e 3 [1,2,0]))) ⟨lend_ow,trivial⟩ (fun _=>trivial)) R ?_
 rintro _
 refine lN (_::_::W1) ?_
 refine l_nil (q_draw (sL [1,0]) (d1 7 R (l_build (K:=kT3) (xs:=([r24]:List Int)) (vs:=[(iv r24)]) 0 R R sl23 sz3 zc3 R R R R R R ?_ R (fun A26 D26=>?_))))
 exact fun I h s=>(mO3).list [((),r24)] I h s
 refine lN (OO kT3 3 A26 D26 ([r24]:List Int)::_::_::W1) ?_
 refine l_nil (q_draw (sL [2,1,0]) (d1 8 R (lM (ow _ _ _ _::ow _ _ _ _::ow _ _ _ _::W1) (tE 3 [2,0,1]) ?_)))
 refine l_app (K:=kT3) 17592186044416 R R sl23 sz3 by3 (Zr.zk zT3 zc3) R R R R R R src_ow hg27 (fun A28 D28=>(lN (OO kT3 3 A28 D28 (x17++([r24]:List Int))::_::W1) ?_))
 refine l_nil (q_draw (sL [1,0]) ?_)
 refine d1_ 9 [1,0] ?_
 refine dD ?_
 refine o_7 ?_
 obtain rfl:=so hr
 exact qA (A28,(x17++([r24]:List Int)).length,D28) (tE 2 [0])
 refine o_3 ?_
 obtain rfl:=so hr
 obtain rfl:=he1 _ R
 have hr:=hk1
 refine o_2 ?_
 exact qI (x17,(A18,x17.length,D18)) hr tI
 rintro ⟨x32,⟨A33,N33,D33⟩⟩ σ1 hr
 dsimp only [Z09_J1] at hr
 refine c_len 0 sees_ow (fun (hn:N33=x32.length)=>?_)
 subst hn
 refine o_7 ?_
 obtain rfl:=so hr
 exact qF (A33,x32.length,D33) (tE 4 [0])
theorem Z7_ok  {v1:View}{r:Bool}(hr:Z7 v1=some r) :
 FnOk Tryz.prog 116 [(.agg [(.slice A2 N2 D2),(.slice A3 N3 D3),(iv v1.Offset),(iv v1.Base)].toArray)] [rds kT3 (.slice A2 N2 D2) v1.Dims,rds kT3 (.slice A3 N3 D3) v1.Strides] (fun (h:Unit)=>((.bool r),[])):=by
 unfold Z7 at hr
 refine fn_ok Tryz.func116 R 84 R R fun C V=>?_
 refine cN (_::_::V) ?_
 refine cL 0 sees_rd ?_
 rintro rfl
 refine cL 1 sees_rd ?_
 rintro rfl
 let W0:List HP:=RR kT3 A2 D2 v1.Dims::RR kT3 A3 D3 v1.Strides::V
 refine cN W0 ?_
 refine o_2 ?_
 refine lBx R fun b4=>?_
 refine o_2 ?_
 let W1:List HP:=bxl b4 [(sc A2 v1.Dims D2),(sc A3 v1.Strides D3),(iv v1.Offset),(iv v1.Base)] 96::W0
 refine qN W1 ?_
 refine o_3 ?_
 obtain ⟨r5,hx6,hr⟩:=bd hr
 refine cQ [(1,(pt b4 0)),(40,(.bool ((((((!r5)||((v1.Strides.length:Int) != (v1.Dims.length:Int)))||(decide (v1.Base<(1:Int))))||(decide (v1.Base>(4096:Int))))||(decide (v1.Offset<(0:Int))))||(decide (v1.Offset≥v1.Base)))))] (W1) ?_ ?_
 refine o_3 ?_
 refine lM (RR kT3 A2 D2 v1.Dims::W1) (fun w s=>(s.d 1 R)) ?_
 refine lC 1 cb92 R (Zk_ok hx6) R ?_
 rintro _
 refine lN W1 ?_
 refine o_2 ?_
 rcases bo (!r5) with hc7 | hc7
 refine o_31 ?_
 exact qj tI
 refine o_9 ?_
 rcases bo ((!r5)||((v1.Strides.length:Int) != (v1.Dims.length:Int))) with hc8 | hc8
 refine o_22 ?_
 exact qj tI
 refine o_5 ?_
 rcases bo (((!r5)||((v1.Strides.length:Int) != (v1.Dims.length:Int)))||(decide (v1.Base<(1:Int)))) with hc9 | hc9
 refine o_17 ?_
 exact qj tI
 refine o_5 ?_
 rcases bo ((((!r5)||((v1.Strides.length:Int) != (v1.Dims.length:Int)))||(decide (v1.Base<(1:Int))))||(decide (v1.Base>(4096:Int)))) with hc10 | hc10
 refine o_12 ?_
 exact qj tI
 refine o_5 ?_
 rcases bo (((((!r5)||((v1.Strides.length:Int) != (v1.Dims.length:Int)))||(decide (v1.Base<(1:Int))))||(decide (v1.Base>(4096:Int))))||(decide (v1.Offset<(0:Int)))) with hc11 | hc11
 refine o_7 ?_
 exact qj tI
 refine o_7 ?_
 exact qj tI
 rintro σ1
 refine o_1 ?_
 rcases bif_ hr with ⟨_,hr⟩|⟨_,hr⟩
 refine o_8 ?_
 obtain rfl:=so hr
 exact qF () (tE 3 [])
 refine o_4 ?_
 refine c_cut (A:=(Unit)×(Unit)) (fun a=>Z7_J1 v1=some r) (fun a=>[(1,(pt b4 0))]) (fun a=>W1) ?_ ?_
 refine o_6 ?_
 obtain ⟨e1,hl1,hk1⟩:=bd hr
 refine c_loop (A:=Unit) hl1 (fun s a=>[(1,(pt b4 0)),(3,(iv s))]) (fun s a=>W1) () (aS R) tI ?_
 rintro i19 _ σ1 out1 hr he1
 dsimp only [Z7_L1] at hr
 refine o_10 ?_
 rcases bif_ hr with ⟨_,hr⟩|⟨_,hr⟩
 refine o_6 ?_
 obtain ⟨hg21,hr⟩:=gd hr
 refine cQ [(1,(pt b4 0)),(3,(iv i19)),(61,(.bool ((decide ((ix v1.Strides i19)<(-4096:Int)))||(decide ((ix v1.Strides i19)>(4096:Int))))))] (W1) ?_ ?_
 refine o_4 ?_
 refine t_some 2 sees_rd (show 0<v1.Strides.length by have:=hg21; omega) (fun g22 o23 ha=>?_)
 subst ha
 refine o_4 ?_
 rcases bo (decide ((ix v1.Strides i19)<(-4096:Int))) with hc24 | hc24
 refine o_8 ?_
 exact qj tI
 refine o_8 ?_
 exact qj tI
 rintro σ1
 refine o_1 ?_
 rcases bif_ hr with ⟨_,hr⟩|⟨_,hr⟩
 refine o_9 ?_
 obtain rfl:=so hr
 obtain rfl:=he1 _ R
 have hr:=hk1
 refine o_3 ?_
 obtain rfl:=so hr
 exact qF () (tE 3 [])
 refine o_9 ?_
 obtain rfl:=so hr
 exact qA () tI
 refine o_3 ?_
 obtain rfl:=so hr
 obtain rfl:=he1 _ R
 have hr:=hk1
 refine o_2 ?_
 exact qI ((),()) hr tI
 rintro ⟨_,_⟩ σ1 hr
 dsimp only [Z7_J1] at hr
 refine o_1 ?_
 obtain ⟨r27,hx28,hr⟩:=bd hr
 refine o_2 ?_
 refine lM (RR kT3 A2 D2 v1.Dims::RR kT3 A3 D3 v1.Strides::W1) (fun w s=>(((s.d 1 R).d 3 R).e 2 [1,0])) ?_
 refine lC 2 cb117 R (Z09_ok hx28) R ?_
 rintro ⟨A29,N29,D29⟩
 refine lN (ow kT3 3 (.slice A29 N29 D29) r27::W1) ?_
 refine l_len 0 sees_ow ?_
 rintro rfl
 refine o_4 ?_
 refine c_cut (A:=(Unit)×(Unit)) (fun a=>Z7_J2=some r) (fun a=>[]) (fun a=>W1) ?_ ?_
 refine o_6 ?_
 obtain ⟨e2,hl2,hk2⟩:=bd hr
 refine c_loop (A:=Unit) hl2 (fun s a=>[(1,(pt b4 0)),(4,(sc A29 r27 D29)),(5,(iv s))]) (fun s a=>OO kT3 3 A29 D29 r27::W1) () (aS R) tI ?_
 rintro i36 _ σ1 out2 hr he2
 dsimp only [Z7_L2] at hr
 refine o_9 ?_
 rcases bif_ hr with ⟨_,hr⟩|⟨_,hr⟩
 refine o_6 ?_
 obtain ⟨hg38,hr⟩:=gd hr
 refine cQ [(1,(pt b4 0)),(4,(sc A29 r27 D29)),(5,(iv i36)),(83,(.bool ((decide ((ix r27 i36)<(0:Int)))||(decide ((ix r27 i36)≥v1.Base)))))] (OO kT3 3 A29 D29 r27::W1) ?_ ?_
 rcases bo (decide ((ix r27 i36)<(0:Int))) with hc41 | hc41
 refine c_some 0 sees_ow (show 0<r27.length by have:=hg38; omega) (fun g39 o40 ha=>?_)
 subst ha
 refine cdr 14 [] mixo fun ht hn=>?_
 refine d14_ 0 [] ?_
 refine dD ?_
 exact qj tI
 refine c_some 0 sees_ow (show 0<r27.length by have:=hg38; omega) (fun g39 o40 ha=>?_)
 subst ha
 refine cdr 14 [] mixo fun ht hn=>?_
 refine d14_ 0 [] ?_
 refine dD ?_
 exact qj tI
 rintro σ1
 refine o_1 ?_
 rcases bif_ hr with ⟨_,hr⟩|⟨_,hr⟩
 refine o_9 ?_
 obtain rfl:=so hr
 obtain rfl:=he2 _ R
 have hr:=hk2
 refine o_3 ?_
 obtain rfl:=so hr
 exact qF () (tE 4 [])
 refine o_9 ?_
 obtain rfl:=so hr
 exact qA () tI
 refine o_3 ?_
 obtain rfl:=so hr
 obtain rfl:=he2 _ R
 have hr:=hk2
 refine o_2 ?_
 exact q_join ((),()) hr trivial (tE 1 [])
 rintro ⟨_,_⟩ σ1 hr
 dsimp only [Z7_J2] at hr
 refine o_6 ?_
 obtain rfl:=so hr
 exact qF () (tE 3 [])
theorem Zz_ok  {v1:View}{dims4:(List Int)}{r:View}(hr:Zz v1 dims4=some r) :
 FnOk Tryz.prog 83 [(.agg [(.slice A2 N2 D2),(.slice A3 N3 D3),(iv v1.Offset),(iv v1.Base)].toArray),(.slice A5 N5 D5)] [rds kT3 (.slice A2 N2 D2) v1.Dims,rds kT3 (.slice A3 N3 D3) v1.Strides,rds kT3 (.slice A5 N5 D5) dims4] (fun (h:HH×HH)=>((.agg [(s3 h.1),(s3 h.2),(iv r.Offset),(iv r.Base)].toArray),[ow kT3 3 (s3 h.1) r.Dims,ow kT3 3 (s3 h.2) r.Strides])):=by
 unfold Zz at hr
 refine fn_ok Tryz.func83 R 77 R R fun C V=>?_
 refine cN (_::_::_::V) ?_
 refine cL 0 sees_rd ?_
 rintro rfl
 refine cL 1 sees_rd ?_
 rintro rfl
 refine cL 2 sees_rd ?_
 rintro rfl
 let W0:List HP:=RR kT3 A2 D2 v1.Dims::RR kT3 A3 D3 v1.Strides::RR kT3 A5 D5 dims4::V
 refine cN W0 ?_
 refine o_2 ?_
 refine lBx R fun b6=>?_
 refine l_alloc R R zc96 (fun b7=>(l_nil ?_))
 let W1:List HP:=bxl b6 [(sc A2 v1.Dims D2),(sc A3 v1.Strides D3),(iv v1.Offset),(iv v1.Base)] 96::W0
 refine qN (_::W1) ?_
 refine o_14 ?_
 obtain ⟨r8,hx9,hr⟩:=bd hr
 obtain ⟨r10,hx11,hr⟩:=bd hr
 refine cQ [(1,(sc A5 dims4 D5)),(2,(pt b6 0)),(4,(pt b7 0)),(5,(iv (w64 ((dims4.length:Int) - (v1.Dims.length:Int))))),(25,(.bool (((!r8)||(!r10))||(decide ((w64 ((dims4.length:Int) - (v1.Dims.length:Int)))<(0:Int))))))] (bxl b7 [(.slice none 0 0),(.slice none 0 0),(iv 0),(iv 0)] 96::W1) ?_ ?_
 refine o_2 ?_
 refine lM (RR kT3 A2 D2 v1.Dims::RR kT3 A3 D3 v1.Strides::bxl _ _ _::W1) (fun w s=>(((s.d 2 R).d 4 R).e 3 [1,0,2])) ?_
 refine lC 2 cb116 R (Z7_ok hx9) R ?_
 rintro _
 refine lN (_::W1) ?_
 refine o_2 ?_
 rcases bo (!r8) with hc12 | hc12
 refine o_9 ?_
 exact qj tI
 refine o_1 ?_
 refine lM (RR kT3 A5 D5 dims4::_::W1) (fun w s=>(s.d 4 R)) ?_
 refine l_calln 1 R (wnF hc12) cb92 R (Zk_ok (gcall_t hx11 (not_ff hc12))) R ?_
 rintro _
 refine lN (_::W1) ?_
 refine o_3 ?_
 rcases bo ((!r8)||(!r10)) with hc13 | hc13
 refine o_4 ?_
 exact qj tI
 refine o_4 ?_
 exact qj tI
 rintro σ1
 refine o_1 ?_
 rcases bif_ hr with ⟨_,hr⟩|⟨_,hr⟩
 refine o_3 ?_
 refine lO (vz (.agg [(.slice none 0 0),(.slice none 0 0),(iv 0),(iv 0)].toArray) (v_build pl96 zc96 R R)) (l_stores 0 R R sz96 R R R R R R (l_nil (q_next (c_ret (q_ret ?_)))))
 obtain rfl:=so hr
 exact qS ((none,0,0),(none,0,0)) (fun w s=>(((s.nilo kT3 3).nilo kT3 3).e 7 [1,0]))
 refine o_4 ?_
 obtain ⟨r15,hx16,hr⟩:=bd hr
 obtain ⟨hg18,hr⟩:=gd hr
 refine c_cutq (A:=(Unit)×(Nat×HH×HH)) (fun _=>True) (fun a=>[(1,(sc A5 dims4 D5)),(2,(pt b6 0)),(4,(pt b7 0)),(5,(iv (w64 ((dims4.length:Int) - (v1.Dims.length:Int))))),(6,(pt a.2.1 0))]) (fun a=>bxl b7 [(.slice none 0 0),(.slice none 0 0),(iv 0),(iv 0)] 96::bxl a.2.1 [(s3 a.2.2.1),(s3 a.2.2.2),(iv v1.Offset),(iv v1.Base)] 96::ow kT3 3 (s3 a.2.2.1) r15::ow kT3 3 (s3 a.2.2.2) (List.replicate (dims4.length:Int).toNat (0:Int))::W1) ?_ ?_
 refine cdr 12 [] mixo fun ht hn=>?_
 refine dR 0 R (vS R) ?_
 refine d2_ 2 [] ?_
 refine d4_ 5 [] ?_
 refine d_all [1,4,10] (by kernel_rfl) R ⟨?_,?_,?_,trivial⟩
 refine lM (RR kT3 A5 D5 dims4::_::W1) (fun w s=>(s.d 4 R)) ?_
 refine lC 1 cb57 R (Zp_ok hx16) R ?_
 rintro ⟨A17,N17,D17⟩
 refine lN (ow kT3 3 (.slice A17 N17 D17) r15::_::W1) ?_
 refine l_len 0 sees_ow ?_
 rintro rfl
 refine l_nil (q_draw (sL [0]) (d_all [4,10] (by kernel_rfl) R ⟨?_,?_,trivial⟩))
 refine l_make (K:=kT3) (m:=(dims4.length:Int)) (z:=(0:Int)) R R sl23 sz3 by3 (Zr.zk zT3 zc3) (by decide) R R hg18.1 hg18.2.1 hg18.2.2 (fun A19 D19=>(l_nil (q_draw (sL [1,0]) (dR 9 R (vz (.agg [(sc A17 r15 D17),(sc A19 (List.replicate (dims4.length:Int).toNat (0:Int)) D19),(iv v1.Offset),(iv v1.Base)].toArray) (v_build pl96 zc96 R R)) (hS:=(sL [1,0])) (d1 10 R (l_alloc R R zc96 (fun b20=>(l_nil (q_draw (sL [2,1,0]) (d1 11 R (l_stores 0 R R sz96 R R R R R R (lN (bxl b20 [(sc A17 r15 D17),(sc A19 (List.replicate (dims4.length:Int).toNat (0:Int)) D19),(iv v1.Offset),(iv v1.Base)] 96::OO kT3 3 A19 D19 (List.replicate (dims4.length:Int).toNat (0:Int))::_::_::W1) ?_))))))))))))
 refine l_nil (q_draw (sL [2,1,0]) (dD ?_))
 exact q_join ((),(b20,(A17,r15.length,D17),(A19,(List.replicate (dims4.length:Int).toNat (0:Int)).length,D19))) trivial (aS R) (tE 4 [3,0,2,1])
 refine l_alloc R R zc96 (fun b20=>(l_nil (q_draw (sL [1,0]) (d1 4 R (l_make (K:=kT3) (m:=(dims4.length:Int)) (z:=(0:Int)) R R sl23 sz3 by3 (Zr.zk zT3 zc3) (by decide) R R hg18.1 hg18.2.1 hg18.2.2 (fun A19 D19=>(l_nil (q_draw (sL [2,1,0]) (dR 9 R (vz (.agg [(sc A17 r15 D17),(sc A19 (List.replicate (dims4.length:Int).toNat (0:Int)) D19),(iv v1.Offset),(iv v1.Base)].toArray) (v_build pl96 zc96 R R)) (hS:=(sL [2,1,0])) (d1 11 R (l_stores 1 R R sz96 R R R R R R (lN (_::_::_::_::W1) ?_))))))))))))
 refine l_nil (q_draw (sL [2,1,0]) (dD ?_))
 exact q_join ((),(b20,(A17,r15.length,D17),(A19,(List.replicate (dims4.length:Int).toNat (0:Int)).length,D19))) trivial (aS R) (tE 4 [3,1,2,0])
 refine l_make (K:=kT3) (m:=(dims4.length:Int)) (z:=(0:Int)) R R sl23 sz3 by3 (Zr.zk zT3 zc3) (by decide) R R hg18.1 hg18.2.1 hg18.2.2 (fun A19 D19=>(l_nil (q_draw (sL [0]) (d_all [1,10] (by kernel_rfl) R ⟨?_,?_,trivial⟩))))
 refine lM (RR kT3 A5 D5 dims4::_::_::W1) (fun w s=>(s.d 5 R)) ?_
 refine lC 1 cb57 R (Zp_ok hx16) R ?_
 rintro ⟨A17,N17,D17⟩
 refine lN (ow kT3 3 (.slice A17 N17 D17) r15::_::_::W1) ?_
 refine l_len 0 sees_ow ?_
 rintro rfl
 refine l_nil (q_draw (sL [1,0]) (dR 9 R (vz (.agg [(sc A17 r15 D17),(sc A19 (List.replicate (dims4.length:Int).toNat (0:Int)) D19),(iv v1.Offset),(iv v1.Base)].toArray) (v_build pl96 zc96 R R)) (hS:=(sL [1,0])) (d1 10 R (l_alloc R R zc96 (fun b20=>(l_nil (q_draw (sL [2,1,0]) (d1 11 R (l_stores 0 R R sz96 R R R R R R (lN (bxl b20 [(sc A17 r15 D17),(sc A19 (List.replicate (dims4.length:Int).toNat (0:Int)) D19),(iv v1.Offset),(iv v1.Base)] 96::_::_::_::W1) ?_))))))))))
 refine l_nil (q_draw (sL [2,1,0]) (dD ?_))
 exact q_join ((),(b20,(A17,r15.length,D17),(A19,(List.replicate (dims4.length:Int).toNat (0:Int)).length,D19))) trivial (aS R) (tE 4 [3,0,1,2])
 refine l_alloc R R zc96 (fun b20=>(l_nil (q_draw (sL [1,0]) (d1 1 R (lM (RR kT3 A5 D5 dims4::_::_::_::W1) (fun w s=>(s.d 6 R)) ?_)))))
 refine lC 1 cb57 R (Zp_ok hx16) R ?_
 rintro ⟨A17,N17,D17⟩
 refine lN (ow kT3 3 (.slice A17 N17 D17) r15::_::_::_::W1) ?_
 refine l_len 0 sees_ow ?_
 rintro rfl
 refine l_nil (q_draw (sL [2,1,0]) (dR 9 R (vz (.agg [(sc A17 r15 D17),(sc A19 (List.replicate (dims4.length:Int).toNat (0:Int)) D19),(iv v1.Offset),(iv v1.Base)].toArray) (v_build pl96 zc96 R R)) (hS:=(sL [2,1,0])) (d1 11 R (l_stores 1 R R sz96 R R R R R R (lN (_::bxl b20 [(sc A17 r15 D17),(sc A19 (List.replicate (dims4.length:Int).toNat (0:Int)) D19),(iv v1.Offset),(iv v1.Base)] 96::_::_::W1) ?_)))))
 refine l_nil (q_draw (sL [2,1,0]) (dD ?_))
 exact q_join ((),(b20,(A17,r15.length,D17),(A19,(List.replicate (dims4.length:Int).toNat (0:Int)).length,D19))) trivial (aS R) (tE 4 [3,1,0,2])
 refine l_alloc R R zc96 (fun b20=>(l_nil (q_draw (sL [0]) (d_all [1,4] (by kernel_rfl) R ⟨?_,?_,trivial⟩))))
 refine lM (RR kT3 A5 D5 dims4::_::_::W1) (fun w s=>(s.d 5 R)) ?_
 refine lC 1 cb57 R (Zp_ok hx16) R ?_
 rintro ⟨A17,N17,D17⟩
 refine lN (ow kT3 3 (.slice A17 N17 D17) r15::_::_::W1) ?_
 refine l_len 0 sees_ow ?_
 rintro rfl
 refine l_nil (q_draw (sL [1,0]) (d1 4 R (l_make (K:=kT3) (m:=(dims4.length:Int)) (z:=(0:Int)) R R sl23 sz3 by3 (Zr.zk zT3 zc3) (by decide) R R hg18.1 hg18.2.1 hg18.2.2 (fun A19 D19=>(l_nil (q_draw (sL [2,1,0]) (dR 9 R (vz (.agg [(sc A17 r15 D17),(sc A19 (List.replicate (dims4.length:Int).toNat (0:Int)) D19),(iv v1.Offset),(iv v1.Base)].toArray) (v_build pl96 zc96 R R)) (hS:=(sL [2,1,0])) (d1 11 R (l_stores 2 R R sz96 R R R R R R (lN (OO kT3 3 A19 D19 (List.replicate (dims4.length:Int).toNat (0:Int))::_::bxl b20 [(sc A17 r15 D17),(sc A19 (List.replicate (dims4.length:Int).toNat (0:Int)) D19),(iv v1.Offset),(iv v1.Base)] 96::_::W1) ?_))))))))))
 refine l_nil (q_draw (sL [2,1,0]) (dD ?_))
 exact q_join ((),(b20,(A17,r15.length,D17),(A19,(List.replicate (dims4.length:Int).toNat (0:Int)).length,D19))) trivial (aS R) (tE 4 [3,2,1,0])
 refine l_make (K:=kT3) (m:=(dims4.length:Int)) (z:=(0:Int)) R R sl23 sz3 by3 (Zr.zk zT3 zc3) (by decide) R R hg18.1 hg18.2.1 hg18.2.2 (fun A19 D19=>(l_nil (q_draw (sL [1,0]) (d1 1 R (lM (RR kT3 A5 D5 dims4::_::bxl b20 [(.slice none 0 0),(.slice none 0 0),(iv 0),(iv 0)] 96::_::W1) (fun w s=>(s.d 6 R)) ?_)))))
 refine lC 1 cb57 R (Zp_ok hx16) R ?_
 rintro ⟨A17,N17,D17⟩
 refine lN (ow kT3 3 (.slice A17 N17 D17) r15::_::_::_::W1) ?_
 refine l_len 0 sees_ow ?_
 rintro rfl
 refine l_nil (q_draw (sL [2,1,0]) (dR 9 R (vz (.agg [(sc A17 r15 D17),(sc A19 (List.replicate (dims4.length:Int).toNat (0:Int)) D19),(iv v1.Offset),(iv v1.Base)].toArray) (v_build pl96 zc96 R R)) (hS:=(sL [2,1,0])) (d1 11 R (l_stores 2 R R sz96 R R R R R R (lN (_::_::bxl b20 [(sc A17 r15 D17),(sc A19 (List.replicate (dims4.length:Int).toNat (0:Int)) D19),(iv v1.Offset),(iv v1.Base)] 96::_::W1) ?_)))))
 refine l_nil (q_draw (sL [2,1,0]) (dD ?_))
 exact q_join ((),(b20,(A17,r15.length,D17),(A19,(List.replicate (dims4.length:Int).toNat (0:Int)).length,D19))) trivial (aS R) (tE 4 [3,2,0,1])
 rintro ⟨_,⟨b21,⟨A22,N22,D22⟩,⟨A23,N23,D23⟩⟩⟩ σ1 -
 refine q_len 2 sees_ow (fun (hn:N22=r15.length)=>?_)
 subst hn
 refine q_len 3 sees_ow (fun (hn:N23=(List.replicate (dims4.length:Int).toNat (0:Int)).length)=>?_)
 subst hn
 refine o_2 ?_
 refine c_cut (A:=((List Int))×(Unit)) (fun a=>Zz_J3 v1 r15 a.1=some r) (fun a=>[(4,(pt b7 0)),(6,(pt b21 0))]) (fun a=>bxl b7 [(.slice none 0 0),(.slice none 0 0),(iv 0),(iv 0)] 96::bxl b21 [(sc A22 r15 D22),(sc A23 (List.replicate (dims4.length:Int).toNat (0:Int)) D23),(iv v1.Offset),(iv v1.Base)] 96::OO kT3 3 A22 D22 r15::ow kT3 3 (.slice A23 (List.replicate (dims4.length:Int).toNat (0:Int)).length D23) a.1::W1) ?_ ?_
 refine o_6 ?_
 obtain ⟨e1,hl1,hk1⟩:=bd hr
 refine c_loop (A:=Unit) hl1 (fun s a=>[(1,(sc A5 dims4 D5)),(2,(pt b6 0)),(4,(pt b7 0)),(5,(iv (w64 ((dims4.length:Int) - (v1.Dims.length:Int))))),(6,(pt b21 0)),(7,(iv s.2))]) (fun s a=>bxl b7 [(.slice none 0 0),(.slice none 0 0),(iv 0),(iv 0)] 96::bxl b21 [(sc A22 r15 D22),(sc A23 (List.replicate (dims4.length:Int).toNat (0:Int)) D23),(iv v1.Offset),(iv v1.Base)] 96::OO kT3 3 A22 D22 r15::ow kT3 3 (.slice A23 (List.replicate (dims4.length:Int).toNat (0:Int)).length D23) s.1::W1) () (aS R) tI ?_
 rintro ⟨x42,i43⟩ _ σ1 out1 hr he1
 dsimp only [Zz_L1] at hr
 refine o_10 ?_
 rcases bif_ hr with ⟨hb44,hr⟩|⟨hb44,hr⟩
 refine o_4 ?_
 refine c_cut (A:=((List Int))×(Unit)) (fun a=>Zz_J2 i43 a.1=some out1) (fun a=>[(1,(sc A5 dims4 D5)),(2,(pt b6 0)),(4,(pt b7 0)),(5,(iv (w64 ((dims4.length:Int) - (v1.Dims.length:Int))))),(6,(pt b21 0)),(7,(iv i43))]) (fun a=>bxl b7 [(.slice none 0 0),(.slice none 0 0),(iv 0),(iv 0)] 96::bxl b21 [(sc A22 r15 D22),(sc A23 (List.replicate (dims4.length:Int).toNat (0:Int)) D23),(iv v1.Offset),(iv v1.Base)] 96::OO kT3 3 A22 D22 r15::ow kT3 3 (.slice A23 (List.replicate (dims4.length:Int).toNat (0:Int)).length D23) a.1::W1) ?_ ?_
 refine o_3 ?_
 obtain ⟨hg45,hr⟩:=gd hr
 obtain ⟨hg48,hr⟩:=gd hr
 refine c_some 5 sees_rd (show 0<v1.Dims.length by have:=hg45; omega) (fun g46 o47 ha=>?_)
 subst ha
 refine c_some 7 sees_rd (show 0<dims4.length by have:=hg48; omega) (fun g49 o50 ha=>?_)
 subst ha
 refine cdr 13 [] mixo fun ht hn=>?_
 refine d13_ 0 [] ?_
 refine dD (q_next ?_)
 rcases bif_ hr with ⟨hb51,hr⟩|⟨hb51,hr⟩
 refine o_1 ?_
 obtain ⟨hg52,hr⟩:=gd hr
 obtain ⟨hg55,hr⟩:=gd hr
 refine c_some 6 sees_rd (show 0<v1.Strides.length by have:=hg52; omega) (fun g53 o54 ha=>?_)
 subst ha
 refine c_some 3 sees_ow (show 0<(List.replicate (dims4.length:Int).toNat (0:Int)).length by have:=hg55; omega) (fun g56 o57 ha=>?_)
 subst ha
 refine cdr 12 [3] mixo fun ht hn=>?_
 refine d11_ 0 [3] ?_
 refine d1 11 R (lM (ow kT3 3 (.slice (ad g56 o57) (List.replicate (dims4.length:Int).toNat (0:Int)).length D23) x42::bxl _ _ _::bxl b21 [(sc A22 r15 D22),(sc (ad g56 o57) (List.replicate (dims4.length:Int).toNat (0:Int)) D23),(iv v1.Offset),(iv v1.Base)] 96::OO kT3 3 A22 D22 r15::W1) (tE 4 [3,0,1,2]) ?_)
 refine l_stx (K:=kT3) (x':=(ix v1.Strides i43)) 0 (w64 ((w64 ((dims4.length:Int) - (v1.Dims.length:Int)))+i43)) R R sz3 R R hg55.1 hg55.2 ?_ ?_
 exact fun I h s=>(mO3).put I h () (ix v1.Strides i43) s
 refine lN (ow kT3 3 (.slice (ad g56 o57) (List.replicate (dims4.length:Int).toNat (0:Int)).length D23) (x42.set (w64 ((w64 ((dims4.length:Int) - (v1.Dims.length:Int)))+i43)).toNat (ix v1.Strides i43))::_::_::_::W1) ?_
 refine l_nil (q_draw (sL [0]) (dD ?_))
 obtain ⟨l58,hl59,hr⟩:=bd hr
 replace hl59:=Option.some.inj hl59
 refine qM (ow kT3 3 (.slice (ad g56 o57) (List.replicate (dims4.length:Int).toNat (0:Int)).length D23) l58::_::_::_::W1) (fun w s=>by rw [← hl59]; exact s) ?_
 refine o_2 ?_
 exact qI (l58,()) hr (tE 4 [1,2,3,0])
 refine c_false R hb51 ?_
 refine o_11 ?_
 rcases bif_ hr with ⟨hb60,hr⟩|⟨hb60,hr⟩
 refine o_3 ?_
 refine lO (vz (.agg [(.slice none 0 0),(.slice none 0 0),(iv 0),(iv 0)].toArray) (v_build pl96 zc96 R R)) (l_stores 0 R R sz96 R R R R R R (lN (_::bxl b21 [(sc A22 r15 D22),(sc A23 (List.replicate (dims4.length:Int).toNat (0:Int)) D23),(iv v1.Offset),(iv v1.Base)] 96::_::ow kT3 3 (.slice A23 (List.replicate (dims4.length:Int).toNat (0:Int)).length D23) x42::W1) ?_))
 refine o_6 ?_
 obtain rfl:=so hr
 obtain rfl:=he1 _ R
 have hr:=hk1
 refine o_3 ?_
 obtain rfl:=so hr
 exact qS ((none,0,0),(none,0,0)) (fun w s=>(((s.nilo kT3 3).nilo kT3 3).e 10 [1,0]))
 refine c_false R hb60 ?_
 refine o_3 ?_
 exact qI (x42,()) hr tI
 rintro ⟨x61,_⟩ σ1 hr
 dsimp only [Zz_J2] at hr
 refine o_5 ?_
 obtain rfl:=so hr
 exact qA () tI
 refine c_false R hb44 ?_
 refine o_2 ?_
 obtain rfl:=so hr
 obtain rfl:=he1 _ R
 have hr:=hk1
 refine o_2 ?_
 exact qI (x42,()) hr tI
 rintro ⟨x64,_⟩ σ1 hr
 dsimp only [Zz_J3] at hr
 refine o_3 ?_
 refine l_stores 0 R R sz96 R R R R R R (lN (bxl b7 [(sc A22 r15 D22),(sc A23 (List.replicate (dims4.length:Int).toNat (0:Int)) D23),(iv v1.Offset),(iv v1.Base)] 96::_::_::ow kT3 3 (.slice A23 (List.replicate (dims4.length:Int).toNat (0:Int)).length D23) x64::W1) ?_)
 refine o_3 ?_
 obtain rfl:=so hr
 exact qS ((A22,r15.length,D22),(A23,(List.replicate (dims4.length:Int).toNat (0:Int)).length,D23)) (tE 8 [2,3])
theorem Zy_ok  {t1:Tensor}{v4:View}{r:Tensor}(hr:Zy t1 v4=some r) :
 FnOk Tryz.prog 82 [(.agg [(.slice A2 N2 D2),(.slice A3 N3 D3)].toArray),(.agg [(.slice A5 N5 D5),(.slice A6 N6 D6),(iv v4.Offset),(iv v4.Base)].toArray)] [rds kT3 (.slice A2 N2 D2) t1.Dims,rds kT3 (.slice A3 N3 D3) t1.Data,rds kT3 (.slice A5 N5 D5) v4.Dims,rds kT3 (.slice A6 N6 D6) v4.Strides] (fun (h:HH×HH)=>((.agg [(s3 h.1),(s3 h.2)].toArray),[ow kT3 3 (s3 h.1) r.Dims,ow kT3 3 (s3 h.2) r.Data])):=by
 unfold Zy at hr
 refine fn_ok Tryz.func82 R 51 R R fun C V=>?_
 refine cN (_::_::_::_::V) ?_
 refine cL 0 sees_rd ?_
 rintro rfl
 refine cL 1 sees_rd ?_
 rintro rfl
 refine cL 2 sees_rd ?_
 rintro rfl
 refine cL 3 sees_rd ?_
 rintro rfl
 let W0:List HP:=RR kT3 A2 D2 t1.Dims::RR kT3 A3 D3 t1.Data::RR kT3 A5 D5 v4.Dims::RR kT3 A6 D6 v4.Strides::V
 refine cN W0 ?_
 refine o_2 ?_
 refine lBx R fun b7=>?_
 refine lBx R fun b8=>?_
 refine l_alloc R R zc58 (fun b9=>(l_nil ?_))
 let W1:List HP:=bxl b8 [(sc A5 v4.Dims D5),(sc A6 v4.Strides D6),(iv v4.Offset),(iv v4.Base)] 96::bxl b7 [(sc A2 t1.Dims D2),(sc A3 t1.Data D3)] 58::W0
 refine qN (_::W1) ?_
 refine o_3 ?_
 obtain ⟨r10,hx11,hr⟩:=bd hr
 obtain ⟨r12,hx13,hr⟩:=bd hr
 refine cQ [(2,(pt b7 0)),(3,(pt b8 0)),(4,(pt b9 0)),(23,(.bool (((!r10)||(!r12))||(v4.Base != (t1.Data.length:Int)))))] (bxl b9 [(.slice none 0 0),(.slice none 0 0)] 58::W1) ?_ ?_
 refine o_2 ?_
 refine lM (RR kT3 A2 D2 t1.Dims::RR kT3 A3 D3 t1.Data::bxl _ _ _::W1) (fun w s=>(((s.d 3 R).d 5 R).e 3 [1,0,2])) ?_
 refine lC 2 cb55 R (Zn_ok hx11) R ?_
 rintro _
 refine lN (_::W1) ?_
 refine o_2 ?_
 rcases bo (!r10) with hc14 | hc14
 refine o_13 ?_
 exact qj tI
 refine o_1 ?_
 refine lM (RR kT3 A5 D5 v4.Dims::RR kT3 A6 D6 v4.Strides::bxl _ _ _::W1) (fun w s=>(((s.d 5 R).d 7 R).e 3 [1,0,2])) ?_
 refine l_calln 2 R (wnF hc14) cb116 R (Z7_ok (gcall_t hx13 (not_ff hc14))) R ?_
 rintro _
 refine lN (_::W1) ?_
 refine o_3 ?_
 rcases bo ((!r10)||(!r12)) with hc15 | hc15
 refine o_8 ?_
 exact qj tI
 refine o_8 ?_
 exact qj tI
 rintro σ1
 refine o_1 ?_
 rcases bif_ hr with ⟨_,hr⟩|⟨_,hr⟩
 refine o_3 ?_
 refine lO (vz (.agg [(.slice none 0 0),(.slice none 0 0)].toArray) (v_build pl58 zc58 R R)) (l_stores 0 R R sz58 R R R R R R (l_nil (q_next (c_ret (q_ret ?_)))))
 obtain rfl:=so hr
 exact qS ((none,0,0),(none,0,0)) (fun w s=>(((s.nilo kT3 3).nilo kT3 3).e 9 [1,0]))
 refine o_4 ?_
 obtain ⟨r17,hx18,hr⟩:=bd hr
 refine o_3 ?_
 refine lM (RR kT3 A5 D5 v4.Dims::_::W1) (fun w s=>(s.d 5 R)) ?_
 refine lC 1 cb57 R (Zp_ok hx18) R ?_
 rintro ⟨A19,N19,D19⟩
 refine lN (ow kT3 3 (.slice A19 N19 D19) r17::_::W1) ?_
 refine l_len 0 sees_ow ?_
 rintro rfl
 refine lO (vz (.agg [(sc A19 r17 D19),(.slice none 0 0)].toArray) (v_build pl58 zc58 R R)) (l_alloc R R zc58 (fun b20=>(l_stores 0 R R sz58 R R R R R R (lN (bxl b20 [(sc A19 r17 D19),(.slice none 0 0)] 58::_::_::W1) ?_))))
 refine o_3 ?_
 obtain ⟨r21,hx22,hr⟩:=bd hr
 refine o_2 ?_
 refine lM (RR kT3 A5 D5 v4.Dims::RR kT3 A6 D6 v4.Strides::bxl _ _ _::ow _ _ _ _::bxl _ _ _::W1) (fun w s=>(((s.d 7 R).d 9 R).e 5 [1,0,2,3,4])) ?_
 refine lC 2 cb117 R (Z09_ok hx22) R ?_
 rintro ⟨A23,N23,D23⟩
 refine lN (ow kT3 3 (.slice A23 N23 D23) r21::_::_::_::W1) ?_
 refine l_len 0 sees_ow ?_
 rintro rfl
 refine o_4 ?_
 refine c_cut (A:=((List Int))×(HH)) (fun a=>Zy_J1 r17 a.1=some r) (fun a=>[(4,(pt b9 0)),(5,(pt b20 0))]) (fun a=>bxl b9 [(.slice none 0 0),(.slice none 0 0)] 58::bxl b20 [(sc A19 r17 D19),(s3 a.2)] 58::OO kT3 3 A19 D19 r17::ow kT3 3 (s3 a.2) a.1::W1) ?_ ?_
 refine o_6 ?_
 obtain ⟨e1,hl1,hk1⟩:=bd hr
 refine c_loop (A:=HH) hl1 (fun s a=>[(2,(pt b7 0)),(4,(pt b9 0)),(5,(pt b20 0)),(6,(sc A23 r21 D23)),(7,(iv s.2))]) (fun s a=>bxl b9 [(.slice none 0 0),(.slice none 0 0)] 58::bxl b20 [(sc A19 r17 D19),(s3 a)] 58::OO kT3 3 A19 D19 r17::ow kT3 3 (s3 a) s.1::OO kT3 3 A23 D23 r21::W1) (none,0,0) (aS R) (fun w s=>((s.nilo kT3 3).e 5 [4,2,3,0,1])) ?_
 rintro ⟨x35,i37⟩ ⟨A36,N36,D36⟩ σ1 out1 hr he1
 dsimp only [Zy_L1] at hr
 refine c_len 3 sees_ow (fun (hn:N36=x35.length)=>?_)
 subst hn
 refine o_9 ?_
 rcases bif_ hr with ⟨hb38,hr⟩|⟨hb38,hr⟩
 refine o_5 ?_
 obtain ⟨hg39,hr⟩:=gd hr
 obtain ⟨hg42,hr⟩:=gd hr
 obtain ⟨hg46,hr⟩:=gd hr
 refine c_cutq (A:=(Unit)×(HH)) (fun _=>True) (fun a=>[(2,(pt b7 0)),(4,(pt b9 0)),(5,(pt b20 0)),(6,(sc A23 r21 D23)),(7,(iv i37))]) (fun a=>bxl b9 [(.slice none 0 0),(.slice none 0 0)] 58::bxl b20 [(sc A19 r17 D19),(s3 a.2)] 58::OO kT3 3 A19 D19 r17::ow kT3 3 (s3 a.2) (x35++([(ix t1.Data (ix r21 i37))]:List Int))::OO kT3 3 A23 D23 r21::W1) ?_ ?_
 refine c_some 4 sees_ow (show 0<r21.length by have:=hg39; omega) (fun g40 o41 ha=>?_)
 subst ha
 refine c_some 8 sees_rd (show 0<t1.Data.length by have:=hg42; omega) (fun g43 o44 ha=>?_)
 subst ha
 refine cdr 14 [3,1] mixo fun ht hn=>?_
 refine d1_ 0 [3,1] ?_
 refine d8_ 2 [3,1] ?_
 refine d_all [1,10] (by kernel_rfl) R ⟨?_,?_,trivial⟩
 refine lO (vLd 1 ag23 R R R) (l_nil (q_draw (sL [3,1]) (d1 10 R (l_build (K:=kT3) (xs:=([(ix t1.Data (ix r21 i37))]:List Int)) (vs:=[(iv (ix t1.Data (ix r21 i37)))]) 0 R R sl23 sz3 zc3 R R R R R R ?_ R (fun A45 D45=>?_)))))
 exact fun I h s=>(mO3).list [((),(ix t1.Data (ix r21 i37)))] I h s
 refine lN (OO kT3 3 A45 D45 ([(ix t1.Data (ix r21 i37))]:List Int)::_::bxl b20 [(sc A19 r17 D19),(sc A36 x35 D36)] 58::_::OO kT3 3 A36 D36 x35::OO kT3 3 (ad g40 o41) D23 r21::W1) ?_
 refine l_nil (q_draw (sL [4,2,0]) (d1 11 R (lM (ow _ _ _ _::ow _ _ _ _::bxl _ _ _::bxl _ _ _::ow _ _ _ _::ow _ _ _ _::W1) (tE 6 [4,0,1,2,3,5]) ?_)))
 refine l_app (K:=kT3) 17592186044416 R R sl23 sz3 by3 (Zr.zk zT3 zc3) R R R R R R src_ow hg46 (fun A47 D47=>(lN (OO kT3 3 A47 D47 (x35++([(ix t1.Data (ix r21 i37))]:List Int))::_::_::_::_::W1) ?_))
 refine l_nil (q_draw (sL [2,0]) ?_)
 refine d1_ 12 [2,0] ?_
 refine d1 13 R (l_store 2 R R sz23 R R R R R (lN (_::_::bxl b20 [(sc A19 r17 D19),(sc A47 (x35++([(ix t1.Data (ix r21 i37))]:List Int)) D47)] 58::_::_::W1) ?_))
 refine l_nil (q_draw (sL [2,0]) (dD ?_))
 exact q_join ((),(A47,(x35++([(ix t1.Data (ix r21 i37))]:List Int)).length,D47)) trivial (aS R) (tE 5 [1,2,3,0,4])
 refine l_build (K:=kT3) (xs:=([(ix t1.Data (ix r21 i37))]:List Int)) (vs:=[(iv (ix t1.Data (ix r21 i37)))]) 0 R R sl23 sz3 zc3 R R R R R R ?_ R (fun A45 D45=>?_)
 exact fun I h s=>(mO3).list [((),(ix t1.Data (ix r21 i37)))] I h s
 refine lN (OO kT3 3 A45 D45 ([(ix t1.Data (ix r21 i37))]:List Int)::_::bxl b20 [(sc A19 r17 D19),(sc A36 x35 D36)] 58::_::OO kT3 3 A36 D36 x35::_::W1) ?_
 refine l_nil (q_draw (sL [4,2,0]) (d1 1 R (lO (vLd 2 ag23 R R R) (l_nil (q_draw (sL [4,2,0]) (d1 11 R (lM (ow _ _ _ _::ow _ _ _ _::bxl _ _ _::bxl _ _ _::ow _ _ _ _::ow _ _ _ _::W1) (tE 6 [4,0,1,2,3,5]) ?_)))))))
 refine l_app (K:=kT3) 17592186044416 R R sl23 sz3 by3 (Zr.zk zT3 zc3) R R R R R R src_ow hg46 (fun A47 D47=>(lN (OO kT3 3 A47 D47 (x35++([(ix t1.Data (ix r21 i37))]:List Int))::_::_::_::_::W1) ?_))
 refine l_nil (q_draw (sL [2,0]) ?_)
 refine d1_ 12 [2,0] ?_
 refine d1 13 R (l_store 2 R R sz23 R R R R R (lN (_::_::bxl b20 [(sc A19 r17 D19),(sc A47 (x35++([(ix t1.Data (ix r21 i37))]:List Int)) D47)] 58::_::_::W1) ?_))
 refine l_nil (q_draw (sL [2,0]) (dD ?_))
 exact q_join ((),(A47,(x35++([(ix t1.Data (ix r21 i37))]:List Int)).length,D47)) trivial (aS R) (tE 5 [1,2,3,0,4])
 rintro ⟨_,⟨A48,N48,D48⟩⟩ σ1 -
 refine q_len 3 sees_ow (fun (hn:N48=(x35++([(ix t1.Data (ix r21 i37))]:List Int)).length)=>?_)
 subst hn
 refine o_7 ?_
 obtain rfl:=so hr
 exact qA (A48,(x35++([(ix t1.Data (ix r21 i37))]:List Int)).length,D48) tI
 refine c_false R hb38 ?_
 refine o_2 ?_
 obtain rfl:=so hr
 obtain rfl:=he1 _ R
 have hr:=hk1
 refine o_2 ?_
 exact qI (x35,(A36,x35.length,D36)) hr (fun w s=>(s.f 5 [0,4]))
 rintro ⟨x52,⟨A53,N53,D53⟩⟩ σ1 hr
 dsimp only [Zy_J1] at hr
 refine c_len 3 sees_ow (fun (hn:N53=x52.length)=>?_)
 subst hn
 refine o_3 ?_
 refine l_stores 0 R R sz58 R R R R R R (lN (bxl b9 [(sc A19 r17 D19),(sc A53 x52 D53)] 58::bxl b20 [(sc A19 r17 D19),(sc A53 x52 D53)] 58::_::OO kT3 3 A53 D53 x52::W1) ?_)
 refine o_3 ?_
 obtain rfl:=so hr
 exact qS ((A19,r17.length,D19),(A53,x52.length,D53)) (tE 10 [2,3])
theorem Z05_ok  {v1:View}{dims4:(List Int)}{r:View}(hr:Z05 v1 dims4=some r) :
 FnOk Tryz.prog 85 [(.agg [(.slice A2 N2 D2),(.slice A3 N3 D3),(iv v1.Offset),(iv v1.Base)].toArray),(.slice A5 N5 D5)] [rds kT3 (.slice A2 N2 D2) v1.Dims,rds kT3 (.slice A3 N3 D3) v1.Strides,rds kT3 (.slice A5 N5 D5) dims4] (fun (h:HH×HH)=>((.agg [(s3 h.1),(s3 h.2),(iv r.Offset),(iv r.Base)].toArray),[ow kT3 3 (s3 h.1) r.Dims,ow kT3 3 (s3 h.2) r.Strides])):=by
 unfold Z05 at hr
 refine fn_ok Tryz.func85 R 77 R R fun C V=>?_
 refine cN (_::_::_::V) ?_
 refine cL 0 sees_rd ?_
 rintro rfl
 refine cL 1 sees_rd ?_
 rintro rfl
 refine cL 2 sees_rd ?_
 rintro rfl
 let W0:List HP:=RR kT3 A2 D2 v1.Dims::RR kT3 A3 D3 v1.Strides::RR kT3 A5 D5 dims4::V
 refine cN W0 ?_
 refine o_2 ?_
 refine lBx R fun b6=>?_
 refine l_alloc R R zc96 (fun b7=>(l_nil ?_))
 let W1:List HP:=bxl b6 [(sc A2 v1.Dims D2),(sc A3 v1.Strides D3),(iv v1.Offset),(iv v1.Base)] 96::W0
 refine qN (_::W1) ?_
 refine o_3 ?_
 obtain ⟨r8,hx9,hr⟩:=bd hr
 obtain ⟨r10,hx11,hr⟩:=bd hr
 obtain ⟨r12,hx13,hr⟩:=bd hr
 obtain ⟨r14,hx15,hr⟩:=bd hr
 refine cQ [(1,(sc A5 dims4 D5)),(2,(pt b6 0)),(4,(pt b7 0)),(24,(.bool (((!r8)||(!r10))||(r12 != r14))))] (bxl b7 [(.slice none 0 0),(.slice none 0 0),(iv 0),(iv 0)] 96::W1) ?_ ?_
 rcases bo (!r8) with hc16 | hc16
 refine cdr 16 [] mixo fun ht hn=>?_
 refine d1_ 0 [] ?_
 refine d1 1 R (lM (RR kT3 A2 D2 v1.Dims::RR kT3 A3 D3 v1.Strides::bxl _ _ _::W1) (fun w s=>(((s.d 2 R).d 4 R).e 3 [1,0,2])) ?_)
 refine lC 2 cb116 R (Z7_ok hx9) R ?_
 rintro _
 refine lN (_::W1) ?_
 refine l_nil (q_draw (sL []) ?_)
 refine d14_ 2 [] ?_
 refine dD ?_
 exact qj tI
 rcases bo ((!r8)||(!r10)) with hc17 | hc17
 refine cdr 16 [] mixo fun ht hn=>?_
 refine d1_ 0 [] ?_
 refine d1 1 R (lM (RR kT3 A2 D2 v1.Dims::RR kT3 A3 D3 v1.Strides::bxl _ _ _::W1) (fun w s=>(((s.d 2 R).d 4 R).e 3 [1,0,2])) ?_)
 refine lC 2 cb116 R (Z7_ok hx9) R ?_
 rintro _
 refine lN (_::W1) ?_
 refine l_nil (q_draw (sL []) ?_)
 refine d3_ 2 [] ?_
 refine d1 5 R (lM (RR kT3 A5 D5 dims4::_::W1) (fun w s=>(s.d 4 R)) ?_)
 refine l_calln 1 R (wnF hc16) cb92 R (Zk_ok (gcall_t hx11 (not_ff hc16))) R ?_
 rintro _
 refine lN (_::W1) ?_
 refine l_nil (q_draw (sL []) ?_)
 refine d10_ 6 [] ?_
 refine dD ?_
 exact qj tI
 refine cdr 16 [] mixo fun ht hn=>?_
 refine d1_ 0 [] ?_
 refine d1 1 R (lM (RR kT3 A2 D2 v1.Dims::RR kT3 A3 D3 v1.Strides::bxl _ _ _::W1) (fun w s=>(((s.d 2 R).d 4 R).e 3 [1,0,2])) ?_)
 refine lC 2 cb116 R (Z7_ok hx9) R ?_
 rintro _
 refine lN (_::W1) ?_
 refine l_nil (q_draw (sL []) ?_)
 refine d3_ 2 [] ?_
 refine d1 5 R (lM (RR kT3 A5 D5 dims4::_::W1) (fun w s=>(s.d 4 R)) ?_)
 refine l_calln 1 R (wnF hc16) cb92 R (Zk_ok (gcall_t hx11 (not_ff hc16))) R ?_
 rintro _
 refine lN (_::W1) ?_
 refine l_nil (q_draw (sL []) ?_)
 refine d4_ 6 [] ?_
 refine d2_ 11 [] ?_
 refine d1 10 R (lM (RR kT3 A5 D5 dims4::_::W1) (fun w s=>(s.d 4 R)) ?_)
 refine l_calln 1 R (wnF hc17) cb95 R (Zs_ok (gcall_t hx13 (not_ff hc17))) R ?_
 rintro _
 refine lN (_::W1) ?_
 refine l_nil (q_draw (sL []) (d1 13 R (lM (RR kT3 A2 D2 v1.Dims::_::W1) (fun w s=>(s.d 2 R)) ?_)))
 refine l_calln 1 R (wnF hc17) cb95 R (Zs_ok (gcall_t hx15 (not_ff hc17))) R ?_
 rintro _
 refine lN (_::W1) ?_
 refine l_nil (q_draw (sL []) ?_)
 refine d2_ 14 [] ?_
 refine dD ?_
 exact qj tI
 rintro σ1
 refine o_1 ?_
 rcases bif_ hr with ⟨_,hr⟩|⟨_,hr⟩
 refine o_3 ?_
 refine lO (vz (.agg [(.slice none 0 0),(.slice none 0 0),(iv 0),(iv 0)].toArray) (v_build pl96 zc96 R R)) (l_stores 0 R R sz96 R R R R R R (l_nil (q_next (c_ret (q_ret ?_)))))
 obtain rfl:=so hr
 exact qS ((none,0,0),(none,0,0)) (fun w s=>(((s.nilo kT3 3).nilo kT3 3).e 7 [1,0]))
 refine o_4 ?_
 obtain ⟨r19,hx20,hr⟩:=bd hr
 refine o_2 ?_
 refine lM (RR kT3 A2 D2 v1.Dims::RR kT3 A3 D3 v1.Strides::bxl _ _ _::W1) (fun w s=>(((s.d 2 R).d 4 R).e 3 [1,0,2])) ?_
 refine lC 2 cb117 R (Z09_ok hx20) R ?_
 rintro ⟨A21,N21,D21⟩
 refine lN (ow kT3 3 (.slice A21 N21 D21) r19::_::W1) ?_
 refine l_len 0 sees_ow ?_
 rintro rfl
 refine o_4 ?_
 obtain ⟨r22,hx23,hr⟩:=bd hr
 obtain ⟨hg25,hr⟩:=gd hr
 refine c_cutq (A:=(Unit)×(Nat×HH)) (fun _=>True) (fun a=>[(1,(sc A5 dims4 D5)),(4,(pt b7 0)),(5,(sc A21 r19 D21)),(6,(pt a.2.1 0))]) (fun a=>bxl b7 [(.slice none 0 0),(.slice none 0 0),(iv 0),(iv 0)] 96::OO kT3 3 A21 D21 r19::bxl a.2.1 [(s3 a.2.2),(.slice none 0 0),(iv (ix r19 (0:Int))),(iv v1.Base)] 96::ow kT3 3 (s3 a.2.2) r22::W1) ?_ ?_
 refine c_some 0 sees_ow (show 0<r19.length by have:=hg25; omega) (fun g26 o27 ha=>?_)
 subst ha
 refine cdr 10 [] mixo fun ht hn=>?_
 refine dR 0 R (vS R) ?_
 refine d5_ 2 [] ?_
 refine d_all [1,8] (by kernel_rfl) R ⟨?_,?_,trivial⟩
 refine lM (RR kT3 A5 D5 dims4::OO kT3 3 (ad g26 o27) D21 r19::_::W1) (fun w s=>(s.d 5 R)) ?_
 refine lC 1 cb57 R (Zp_ok hx23) R ?_
 rintro ⟨A24,N24,D24⟩
 refine lN (ow kT3 3 (.slice A24 N24 D24) r22::_::_::W1) ?_
 refine l_len 0 sees_ow ?_
 rintro rfl
 refine l_nil (q_draw (sL [0]) (dR 7 R (vz (.agg [(sc A24 r22 D24),(.slice none 0 0),(iv (ix r19 (0:Int))),(iv v1.Base)].toArray) (v_build pl96 zc96 R R)) (hS:=(sL [0])) (d1 8 R (l_alloc R R zc96 (fun b28=>(l_nil (q_draw (sL [1,0]) (d1 9 R (l_stores 0 R R sz96 R R R R R R (lN (bxl b28 [(sc A24 r22 D24),(.slice none 0 0),(iv (ix r19 (0:Int))),(iv v1.Base)] 96::_::_::_::W1) ?_))))))))))
 refine l_nil (q_draw (sL [1,0]) (dD ?_))
 exact q_join ((),(b28,(A24,r22.length,D24))) trivial (aS R) (tE 4 [3,2,0,1])
 refine l_alloc R R zc96 (fun b28=>(l_nil (q_draw (sL [0]) (d1 1 R (lM (RR kT3 A5 D5 dims4::_::_::_::W1) (fun w s=>(s.d 6 R)) ?_)))))
 refine lC 1 cb57 R (Zp_ok hx23) R ?_
 rintro ⟨A24,N24,D24⟩
 refine lN (ow kT3 3 (.slice A24 N24 D24) r22::_::_::_::W1) ?_
 refine l_len 0 sees_ow ?_
 rintro rfl
 refine l_nil (q_draw (sL [1,0]) (dR 7 R (vz (.agg [(sc A24 r22 D24),(.slice none 0 0),(iv (ix r19 (0:Int))),(iv v1.Base)].toArray) (v_build pl96 zc96 R R)) (hS:=(sL [1,0])) (d1 9 R (l_stores 1 R R sz96 R R R R R R (lN (_::bxl b28 [(sc A24 r22 D24),(.slice none 0 0),(iv (ix r19 (0:Int))),(iv v1.Base)] 96::_::_::W1) ?_)))))
 refine l_nil (q_draw (sL [1,0]) (dD ?_))
 exact q_join ((),(b28,(A24,r22.length,D24))) trivial (aS R) (tE 4 [3,2,1,0])
 rintro ⟨_,⟨b29,⟨A30,N30,D30⟩⟩⟩ σ1 -
 refine q_len 3 sees_ow (fun (hn:N30=r22.length)=>?_)
 subst hn
 refine o_2 ?_
 refine c_cut (A:=((List Int))×(HH)) (fun a=>Z05_J3 v1 r19 r22 a.1=some r) (fun a=>[(4,(pt b7 0)),(5,(sc A21 r19 D21)),(6,(pt b29 0))]) (fun a=>bxl b7 [(.slice none 0 0),(.slice none 0 0),(iv 0),(iv 0)] 96::OO kT3 3 A21 D21 r19::bxl b29 [(sc A30 r22 D30),(s3 a.2),(iv (ix r19 (0:Int))),(iv v1.Base)] 96::OO kT3 3 A30 D30 r22::ow kT3 3 (s3 a.2) a.1::W1) ?_ ?_
 refine o_6 ?_
 obtain ⟨e1,hl1,hk1⟩:=bd hr
 refine c_loop (A:=HH) hl1 (fun s a=>[(1,(sc A5 dims4 D5)),(4,(pt b7 0)),(5,(sc A21 r19 D21)),(6,(pt b29 0)),(7,(iv s.2))]) (fun s a=>bxl b7 [(.slice none 0 0),(.slice none 0 0),(iv 0),(iv 0)] 96::OO kT3 3 A21 D21 r19::bxl b29 [(sc A30 r22 D30),(s3 a),(iv (ix r19 (0:Int))),(iv v1.Base)] 96::OO kT3 3 A30 D30 r22::ow kT3 3 (s3 a) s.1::W1) (none,0,0) (aS R) (fun w s=>((s.nilo kT3 3).f 5 [1,4,0,1])) ?_
 rintro ⟨x47,i49⟩ ⟨A48,N48,D48⟩ σ1 out1 hr he1
 dsimp only [Z05_L1] at hr
 refine c_len 4 sees_ow (fun (hn:N48=x47.length)=>?_)
 subst hn
 refine o_9 ?_
 rcases bif_ hr with ⟨hb50,hr⟩|⟨hb50,hr⟩
 refine o_11 ?_
 refine c_cut (A:=(Int)×(Unit)) (fun a=>Z05_J2 x47 i49 a.1=some out1) (fun a=>[(1,(sc A5 dims4 D5)),(4,(pt b7 0)),(5,(sc A21 r19 D21)),(6,(pt b29 0)),(7,(iv i49)),(8,(iv a.1))]) (fun a=>bxl b7 [(.slice none 0 0),(.slice none 0 0),(iv 0),(iv 0)] 96::OO kT3 3 A21 D21 r19::bxl b29 [(sc A30 r22 D30),(sc A48 x47 D48),(iv (ix r19 (0:Int))),(iv v1.Base)] 96::OO kT3 3 A30 D30 r22::OO kT3 3 A48 D48 x47::W1) ?_ ?_
 refine o_1 ?_
 obtain ⟨hg51,hr⟩:=gd hr
 refine o_3 ?_
 refine t_some 8 sees_rd (show 0<dims4.length by have:=hg51; omega) (fun g52 o53 ha=>?_)
 subst ha
 refine o_5 ?_
 rcases bif_ hr with ⟨hb54,hr⟩|⟨hb54,hr⟩
 refine o_1 ?_
 obtain ⟨hg55,hr⟩:=gd hr
 obtain ⟨r57,hx58,hr⟩:=bd hr
 obtain ⟨hg59,hr⟩:=gd hr
 refine c_some 1 sees_ow (show 0<r19.length by have:=hg59; omega) (fun g60 o61 ha=>?_)
 subst ha
 refine cdr 13 [] mixo fun ht hn=>?_
 refine d4_ 0 [] ?_
 refine d3_ 8 [] ?_
 refine d1 4 R (l_cut (K:=kT3) (w64 (i49+(1:Int))) (dims4.length:Int) 8 R R sl23 sz3 R R R R hg55.1 hg55.2.1 hg55.2.2 (fun A56 D56=>(l_nil (q_draw (sL [0]) (d1 5 R (lM (RR kT3 A56 D56 (sub dims4 (w64 (i49+(1:Int))) (dims4.length:Int))::RR kT3 A56 D56 (sub dims4 (w64 (i49+(1:Int))) (dims4.length:Int))::_::OO kT3 3 (ad g60 o61) D21 r19::bxl b29 [(sc A30 r22 D30),(sc A48 x47 D48),(iv (ix r19 (0:Int))),(iv v1.Base)] 96::OO kT3 3 A30 D30 r22::OO kT3 3 A48 D48 x47::W1) (fun w s=>(s.d 0 R)) ?_))))))
 refine lC 1 cb95 R (Zs_ok hx58) R ?_
 rintro _
 refine lN (_::_::_::_::_::_::W1) ?_
 refine l_nil (q_draw (sL [0]) ?_)
 refine d2_ 6 [0] ?_
 refine d2_ 11 [0] ?_
 refine dD ?_
 exact qI ((w64 ((ix r19 r57) - (ix r19 (0:Int)))),()) hr (fun w s=>(s.f 6 [1,5]))
 refine c_false R hb54 (c_skip ?_)
 exact qI ((0:Int),()) hr tI
 rintro ⟨x62,_⟩ σ1 hr
 dsimp only [Z05_J2] at hr
 obtain ⟨hg64,hr⟩:=gd hr
 refine o_4 ?_
 refine l_build (K:=kT3) (xs:=([x62]:List Int)) (vs:=[(iv x62)]) 0 R R sl23 sz3 zc3 R R R R R R ?_ R (fun A63 D63=>?_)
 exact fun I h s=>(mO3).list [((),x62)] I h s
 refine lN (OO kT3 3 A63 D63 ([x62]:List Int)::_::OO kT3 3 A21 D21 r19::_::_::_::W1) ?_
 refine lM (ow _ _ _ _::ow _ _ _ _::bxl _ _ _::ow _ _ _ _::bxl _ _ _::ow _ _ _ _::W1) (fun w s=>(s.f 6 [5,1,0,5])) ?_
 refine l_app (K:=kT3) 17592186044416 R R sl23 sz3 by3 (Zr.zk zT3 zc3) R R R R R R src_ow hg64 (fun A65 D65=>(lN (OO kT3 3 A65 D65 (x47++([x62]:List Int))::_::_::_::_::W1) ?_))
 refine o_1 ?_
 refine l_store 3 R R sz23 R R R R R (lN (_::_::_::bxl b29 [(sc A30 r22 D30),(sc A65 (x47++([x62]:List Int)) D65),(iv (ix r19 (0:Int))),(iv v1.Base)] 96::_::W1) ?_)
 refine o_8 ?_
 obtain rfl:=so hr
 exact qA (A65,(x47++([x62]:List Int)).length,D65) (fun w s=>(s.f 5 [1,4,0,1]))
 refine c_false R hb50 ?_
 refine o_2 ?_
 obtain rfl:=so hr
 obtain rfl:=he1 _ R
 have hr:=hk1
 refine o_2 ?_
 exact qI (x47,(A48,x47.length,D48)) hr tI
 rintro ⟨x69,⟨A70,N70,D70⟩⟩ σ1 hr
 dsimp only [Z05_J3] at hr
 refine c_len 4 sees_ow (fun (hn:N70=x69.length)=>?_)
 subst hn
 refine o_2 ?_
 obtain ⟨r71,hx72,hr⟩:=bd hr
 obtain ⟨r73,hx74,hr⟩:=bd hr
 obtain ⟨r76,hx77,hr⟩:=bd hr
 refine cQ [(4,(pt b7 0)),(6,(pt b29 0)),(74,(.bool ((!r71)||(!r76))))] (bxl b7 [(.slice none 0 0),(.slice none 0 0),(iv 0),(iv 0)] 96::bxl b29 [(sc A30 r22 D30),(sc A70 x69 D70),(iv (ix r19 (0:Int))),(iv v1.Base)] 96::OO kT3 3 A30 D30 r22::OO kT3 3 A70 D70 x69::W1) ?_ ?_
 refine o_2 ?_
 refine lM (ow _ _ _ _::OO kT3 3 A70 D70 x69::bxl _ _ _::ow _ _ _ _::bxl b29 [(sc A30 r22 D30),(sc A70 x69 D70),(iv (ix r19 (0:Int))),(iv v1.Base)] 96::W1) (fun w s=>(s.f 5 [3,2,0,3])) ?_
 refine lC 2 cb116 R (FnOk.lends (A':=[OO kT3 3 A30 D30 r22,OO kT3 3 A70 D70 x69]) (A:=[RR kT3 A30 D30 r22,RR kT3 A70 D70 x69]) (B:=[]) (Z7_ok (v1:=(⟨r22,x69,(ix r19 (0:Int)),v1.Base⟩:View)) hx72) ⟨lend_ow,lend_ow,trivial⟩ (fun _=>trivial)) R ?_
 rintro _
 refine o_2 ?_
 rcases bo (!r71) with hc78 | hc78
 refine o_7 ?_
 exact qj (tE 5 [2,4,0,1])
 refine lW (wnF hc78) (vz (.agg [(sc A30 r22 D30),(sc A70 x69 D70),(iv (ix r19 (0:Int))),(iv v1.Base)].toArray) (v_loadw 4 ag96 sz96 R R R R)) (l_calln 2 R (wnF hc78) cb117 R (FnOk.lends (A':=[OO kT3 3 A30 D30 r22,OO kT3 3 A70 D70 x69]) (A:=[RR kT3 A30 D30 r22,RR kT3 A70 D70 x69]) (B:=[]) (Z09_ok (v1:=(⟨r22,x69,(ix r19 (0:Int)),v1.Base⟩:View)) (gcall_t hx74 (not_ff hc78))) ⟨lend_ow,lend_ow,trivial⟩ (fun _=>⟨(closed_ow cT3),trivial⟩)) R ?_)
 rintro ⟨A75,N75,D75⟩
 refine lN (_::_::ow kT3 3 (.slice A75 N75 D75) r73::_::_::_::W1) ?_
 refine l_len 2 sees_ow ?_
 rintro rfl
 refine o_1 ?_
 refine lM (ow _ _ _ _::ow _ _ _ _::ow _ _ _ _::ow _ _ _ _::bxl _ _ _::bxl _ _ _::W1) (tE 6 [2,4,0,1,3,5]) ?_
 refine l_calln 2 R (wnF hc78) cb56 R (FnOk.lends (A':=[OO kT3 3 A75 D75 r73,OO kT3 3 A21 D21 r19]) (A:=[RR kT3 A75 D75 r73,RR kT3 A21 D21 r19]) (B:=[]) (Zx_ok (gcall_t hx77 (not_ff hc78))) ⟨lend_ow,lend_ow,trivial⟩ (fun _=>trivial)) R ?_
 rintro _
 refine o_3 ?_
 exact qj (tE 6 [4,5,2,3])
 rintro σ1
 refine o_1 ?_
 rcases bif_ hr with ⟨hb79,hr⟩|⟨hb79,hr⟩
 refine o_3 ?_
 refine lO (vz (.agg [(.slice none 0 0),(.slice none 0 0),(iv 0),(iv 0)].toArray) (v_build pl96 zc96 R R)) (l_stores 0 R R sz96 R R R R R R (lN (_::_::_::_::W1) ?_))
 refine o_4 ?_
 obtain rfl:=so hr
 exact qS ((none,0,0),(none,0,0)) (fun w s=>(((s.nilo kT3 3).nilo kT3 3).e 10 [1,0]))
 refine c_false R hb79 ?_
 refine o_5 ?_
 refine l_stores 0 R R sz96 R R R R R R (lN (bxl b7 [(sc A30 r22 D30),(sc A70 x69 D70),(iv (ix r19 (0:Int))),(iv v1.Base)] 96::_::_::_::W1) ?_)
 refine o_3 ?_
 obtain rfl:=so hr
 exact qS ((A30,r22.length,D30),(A70,x69.length,D70)) (tE 8 [2,3])
theorem Z1x_ok  {v1:View}{axis4:Int}{r:Bool}(hr:Z1x v1 axis4=some r) :
 FnOk Tryz.prog 119 [(.agg [(.slice A2 N2 D2),(.slice A3 N3 D3),(iv v1.Offset),(iv v1.Base)].toArray),(iv axis4)] [rds kT3 (.slice A2 N2 D2) v1.Dims,rds kT3 (.slice A3 N3 D3) v1.Strides] (fun (h:Unit)=>((.bool r),[])):=by
 unfold Z1x at hr
 refine fn_ok Tryz.func119 R 18 R R fun C V=>?_
 refine cN (_::_::V) ?_
 refine cL 0 sees_rd ?_
 rintro rfl
 refine cL 1 sees_rd ?_
 rintro rfl
 let W0:List HP:=RR kT3 A2 D2 v1.Dims::RR kT3 A3 D3 v1.Strides::V
 refine cN W0 ?_
 refine o_2 ?_
 refine lBx R fun b5=>?_
 refine o_2 ?_
 let W1:List HP:=bxl b5 [(sc A2 v1.Dims D2),(sc A3 v1.Strides D3),(iv v1.Offset),(iv v1.Base)] 96::W0
 refine qN W1 ?_
 refine o_2 ?_
 obtain ⟨r6,hx7,hr⟩:=bd hr
 refine cQ [(4,(.bool ((r6&&(decide (axis4≥(0:Int))))&&(decide (axis4<(v1.Dims.length:Int))))))] (W1) ?_ ?_
 refine o_2 ?_
 refine lM (RR kT3 A2 D2 v1.Dims::RR kT3 A3 D3 v1.Strides::W1) (fun w s=>(((s.d 1 R).d 3 R).e 2 [1,0])) ?_
 refine lC 2 cb116 R (Z7_ok hx7) R ?_
 rintro _
 refine lN W1 ?_
 refine o_1 ?_
 rcases bo r6 with hc8 | hc8
 refine o_4 ?_
 rcases bo (r6&&(decide (axis4≥(0:Int)))) with hc9 | hc9
 refine o_8 ?_
 exact qj tI
 refine o_8 ?_
 exact qj tI
 refine o_12 ?_
 exact qj tI
 rintro σ1
 refine o_2 ?_
 obtain rfl:=so hr
 exact qF () (tE 3 [])
theorem Z1z_ok  {v1:View}{r:View}(hr:Z1z v1=some r) :
 FnOk Tryz.prog 120 [(.agg [(.slice A2 N2 D2),(.slice A3 N3 D3),(iv v1.Offset),(iv v1.Base)].toArray)] [rds kT3 (.slice A2 N2 D2) v1.Dims,rds kT3 (.slice A3 N3 D3) v1.Strides] (fun (h:HH×HH)=>((.agg [(s3 h.1),(s3 h.2),(iv r.Offset),(iv r.Base)].toArray),[ow kT3 3 (s3 h.1) r.Dims,ow kT3 3 (s3 h.2) r.Strides])):=by
 unfold Z1z at hr
 refine fn_ok Tryz.func120 R 14 R R fun C V=>?_
 refine cN (_::_::V) ?_
 refine cL 0 sees_rd ?_
 rintro rfl
 refine cL 1 sees_rd ?_
 rintro rfl
 let W0:List HP:=RR kT3 A2 D2 v1.Dims::RR kT3 A3 D3 v1.Strides::V
 refine cN W0 ?_
 refine o_2 ?_
 refine lBx R fun b4=>?_
 refine l_alloc R R zc96 (fun b5=>(l_nil ?_))
 let W1:List HP:=bxl b4 [(sc A2 v1.Dims D2),(sc A3 v1.Strides D3),(iv v1.Offset),(iv v1.Base)] 96::W0
 refine qN (_::W1) ?_
 refine o_2 ?_
 obtain ⟨r6,hx7,hr⟩:=bd hr
 obtain ⟨r9,hx10,hr⟩:=bd hr
 refine cdr 12 [0] mixo fun ht hn=>?_
 refine d2_ 0 [0] ?_
 refine d2_ 3 [0] ?_
 refine d4_ 6 [0] ?_
 refine d1 2 R (lM (RR kT3 A2 D2 v1.Dims::_::W1) (fun w s=>(s.d 2 R)) ?_)
 refine lC 1 cb57 R (Zp_ok hx7) R ?_
 rintro ⟨A8,N8,D8⟩
 refine lN (ow kT3 3 (.slice A8 N8 D8) r6::_::W1) ?_
 refine l_len 0 sees_ow ?_
 rintro rfl
 refine l_nil (q_draw (sL [1,0]) (d1 5 R (lM (RR kT3 A3 D3 v1.Strides::_::_::W1) (fun w s=>(s.d 4 R)) ?_)))
 refine lC 1 cb57 R (Zp_ok hx10) R ?_
 rintro ⟨A11,N11,D11⟩
 refine lN (ow kT3 3 (.slice A11 N11 D11) r9::_::_::W1) ?_
 refine l_len 0 sees_ow ?_
 rintro rfl
 refine l_nil (q_draw (sL [2,1,0]) (dR 10 R (vz (.agg [(sc A8 r6 D8),(sc A11 r9 D11),(iv v1.Offset),(iv v1.Base)].toArray) (v_build pl96 zc96 R R)) (hS:=(sL [2,1,0])) (d1 11 R (l_stores 2 R R sz96 R R R R R R (lN (_::_::bxl b5 [(sc A8 r6 D8),(sc A11 r9 D11),(iv v1.Offset),(iv v1.Base)] 96::W1) ?_)))))
 refine l_nil (q_draw (sL [2,1,0]) (dD ?_))
 refine o_2 ?_
 obtain rfl:=so hr
 exact qS ((A8,r6.length,D8),(A11,r9.length,D11)) (tE 6 [1,0])
end Go.Proofs.YtmpnollfdpdipaaGreat
