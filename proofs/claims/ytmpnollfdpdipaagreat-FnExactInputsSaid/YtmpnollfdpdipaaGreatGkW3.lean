import Derived.Test.YtmpnollfdpdipaaGreatGkF
import Derived.Test.YtmpnollfdpdipaaGreatGkW2
set_option linter.unusedVariables false
set_option maxRecDepth 20000
namespace Go.Proofs.YtmpnollfdpdipaaGreat
open Go Go.Pg
variable {A2 A3 A5 A6:Option Addr}{D2 D3 D5 D6 N2 N3 N5 N6:Nat}
theorem Z5_ok  {form1:Str}{ts2:(List Tensor)}{r:Tensor}(hr:Z5 form1 ts2=some r) :
 FnOk Tryz.prog 81 [(vstr form1),(.slice A3 N3 D3)] [rds kT58 (.slice A3 N3 D3) ts2] (fun (h:HH×HH)=>((.agg [(s3 h.1),(s3 h.2)].toArray),[ow kT3 3 (s3 h.1) r.Dims,ow kT3 3 (s3 h.2) r.Data])):=by
 unfold Z5 at hr
 refine fn_ok Tryz.func81 R 142 R R fun C V=>?_
 refine cL 0 sees_rd ?_
 rintro rfl
 let W0:=RR kT58 A3 D3 ts2::V
 refine cN W0 ?_
 refine o_2 ?_
 refine l_alloc R R zc58 (fun b4=>(l_nil (q_next (c_seq ?_))))
 obtain ⟨r5,hx6,hr⟩:=bd hr
 refine c_region (lO (vp (vstr form1) R) (lC 0 cb109 R (Z0_ok hx6) R ?_))
 rintro ⟨A7,N7,D7⟩
 refine l_len 0 sees_ow ?_
 rintro rfl
 refine lO (vT R) (lS R (lO (vp (vstr r5.2.1) R) (lB R (lS R (lO (vp (vstr r5.2.1) R) ?_)))))
 refine o_5 ?_
 refine cQ [(1,(sc A3 ts2 D3)),(4,(pt b4 0)),(5,(sc A7 r5.1 D7)),(6,(vstr r5.2.1)),(35,(.bool ((!r5.2.2)||((r5.1.length:Int) != (ts2.length:Int)))))] (bxl b4 [(.slice none 0 0),(.slice none 0 0)] 58::OO kT9 9 A7 D7 r5.1::W0) ?_ ?_
 refine o_4 ?_
 rcases bo (!r5.2.2) with hc8 | hc8
 refine o_7 ?_
 exact qj (tE 2 [1,0])
 refine o_7 ?_
 exact qj (tE 2 [1,0])
 rintro σ1
 refine o_1 ?_
 split at hr
 refine o_3 ?_
 refine lO (vz (.agg [(.slice none 0 0),(.slice none 0 0)].toArray) (v_build pl58 zc58 R R)) (l_stores 0 R R sz58 R R R R R R (l_nil (q_next (c_ret (q_ret ?_)))))
 cases hr
 exact qS ((none,0,0),(none,0,0)) (fun w s=>(((s.nilo kT3 3).nilo kT3 3).e 5 [1,0]))
 refine o_5 ?_
 refine l_build (K:=kT23) (xs:=([]:List (List Int))) (vs:=[]) 0 R R sl38 sz23 zc23 R R R R R R ?_ R (fun A10 D10=>?_)
 exact fun I h s=>(mO23).list [] I h s
 refine o_4 ?_
 refine c_cut (A:=((List (List Int)))×(HH)) (fun a=>Z5_J1 ts2 r5 a.1=some r) (fun a=>[(1,(sc A3 ts2 D3)),(4,(pt b4 0)),(5,(sc A7 r5.1 D7)),(6,(vstr r5.2.1)),(8,(s3 a.2))]) (fun a=>bxl b4 [(.slice none 0 0),(.slice none 0 0)] 58::OO kT9 9 A7 D7 r5.1::ow (kT23).share 23 (s3 a.2) a.1::W0) ?_ ?_
 refine o_6 ?_
 obtain ⟨e1,hl1,hk1⟩:=bd hr
 refine c_loop (A:=HH) hl1 (fun s a=>[(1,(sc A3 ts2 D3)),(4,(pt b4 0)),(5,(sc A7 r5.1 D7)),(6,(vstr r5.2.1)),(8,(s3 a)),(9,(iv s.2))]) (fun s a=>bxl b4 [(.slice none 0 0),(.slice none 0 0)] 58::OO kT9 9 A7 D7 r5.1::ow (kT23).share 23 (s3 a) s.1::W0) (A10,([]:List (List Int)).length,D10) (aS R) (fun w s=>((s.wk 0 R).e 3 [1,2,0])) ?_
 rintro ⟨dims23,i25⟩ ⟨A24,N24,D24⟩ σ1 out1 hr he1
 dsimp only [Z5_L1] at hr
 refine c_len 2 sees_sh (fun (hn:N24=dims23.length)=>?_)
 subst hn
 refine o_9 ?_
 split at hr
 refine o_7 ?_
 obtain ⟨hg27,hr⟩:=gd hr
 obtain ⟨r32,hx33,hr⟩:=bd hr
 refine o_3 ?_
 refine t_some 3 sees_rd (show 0<ts2.length by have:=hg27; omega) (fun g28 o29 ha=>?_)
 subst ha
 refine o_1 ?_
 refine t_elem (K:=kT58) 3 i25 dT58.dec R hg27.1 hg27.2 ?_
 rintro ⟨⟨A30,D30⟩,⟨A31,D31⟩⟩
 refine lO (vz (.agg [(sc A30 ((ix ts2 i25).Dims) D30),(sc A31 ((ix ts2 i25).Data) D31)].toArray) (v_clfs (fo:=0) 0 ag58 sz58 R R R R)) (lM _ (fun w s=>(((s.d 1 R).d 3 R).f 8 [1,1,0,1,2,6])) ?_)
 refine lC 2 cb55 R (Zo_ok hx33) R ?_
 rintro _
 refine o_3 ?_
 split at hr
 refine o_3 ?_
 refine lO (vz (.agg [(.slice none 0 0),(.slice none 0 0)].toArray) (v_build pl58 zc58 R R)) (l_stores 3 R R sz58 R R R R R R (l_nil (q_next (c_ret (q_ret (q_blockr (q_ret ?_)))))))
 cases hr
 obtain rfl:=he1 _ R
 have hr:=hk1
 refine o_3 ?_
 cases hr
 exact qS ((none,0,0),(none,0,0)) (fun w s=>(((s.nilo kT3 3).nilo kT3 3).e 9 [1,0]))
 refine o_3 ?_
 obtain ⟨hg36,hr⟩:=gd hr
 refine o_5 ?_
 refine lO (vz (.pointer (some ⟨g28,o29+i25.toNat*2,none⟩)) (v_fa fo58_0 R R)) (lO (v_clf (fo:=0) 0 ag23 R R R) (lM _ (fun w s=>(s.d 1 R)) ?_))
 refine l_build (K:=(kT23).share) (xs:=([(ix ts2 i25).Dims]:List (List Int))) (vs:=[(sc A30 ((ix ts2 i25).Dims) D30)]) 1 R R sl38 sz23 zc23 R R R R R R ?_ R (fun A35 D35=>?_)
 exact fun I h s=>(mS23).list [((sc A30 ((ix ts2 i25).Dims) D30),(ix ts2 i25).Dims)] I h s
 refine lM _ (fun w s=>(s.f 7 [6,1,0,6])) ?_
 refine l_app (K:=(kT23).share) 5864062014805 R R sl38 sz23 by23 (Zr.zk (Zr.share zT23) zc23) R R R R R R src_ow hg36 (fun A37 D37=>(lN (OO (kT23).share 23 A37 D37 (dims23++([(ix ts2 i25).Dims]:List (List Int)))::_::_::_::_::_::W0) ?_))
 refine o_9 ?_
 cases hr
 exact qA (A37,(dims23++([(ix ts2 i25).Dims]:List (List Int))).length,D37) (tE 6 [4,5,0])
 refine o_3 ?_
 cases hr
 obtain rfl:=he1 _ R
 have hr:=hk1
 refine o_2 ?_
 exact qI (dims23,(A24,dims23.length,D24)) hr tI
 rintro ⟨dims41,⟨A42,N42,D42⟩⟩ σ1 hr
 dsimp only [Z5_J1] at hr
 refine c_len 2 sees_sh (fun (hn:N42=dims41.length)=>?_)
 subst hn
 refine o_1 ?_
 obtain ⟨r43,hx44,hr⟩:=bd hr
 refine o_2 ?_
 refine lO (vp (vstr r5.2.1) R) (lS R (lM _ (tE 3 [1,2,0]) ?_))
 refine lC 2 cb110 R (FnOk.lends (A':=[OO kT9 9 A7 D7 r5.1,OO (kT23).share 23 A42 D42 dims41]) (A:=[RR kT9 A7 D7 r5.1,RR kT23 A42 D42 dims41]) (B:=[]) (Z2_ok hx44) ⟨lend_ow,lend_sh,trivial⟩ (fun _=>⟨(closed_ow cT3),trivial⟩)) R ?_
 rintro ⟨A45,N45,D45⟩
 refine l_len 2 sees_ow ?_
 rintro rfl
 refine lO (vT R) (lO (vp (vstr r43.1) R) (lS R (lB R (lO (vp (vstr r43.1) R) ?_))))
 refine o_6 ?_
 obtain ⟨hg46,hr⟩:=gd hr
 obtain ⟨r48,hx49,hr⟩:=bd hr
 refine cQ [(1,(sc A3 ts2 D3)),(4,(pt b4 0)),(5,(sc A7 r5.1 D7)),(6,(vstr r5.2.1)),(10,(vstr r43.1)),(11,(sc A45 r43.2.1 D45)),(76,(.bool ((!r43.2.2)||(!r48))))] (bxl b4 [(.slice none 0 0),(.slice none 0 0)] 58::OO kT9 9 A7 D7 r5.1::RR kT3 A45 D45 r43.2.1::W0) ?_ ?_
 refine o_4 ?_
 rcases bo (!r43.2.2) with hc50 | hc50
 refine o_8 ?_
 exact qj (fun w s=>((s.shr 2 R).e 4 [3,1,0]))
 refine o_1 ?_
 refine lW (wnF hc50) (vp (vstr r5.2.1) R) (lW (wnF hc50) (vz (il r5.2.1) (v_slen un9 R)) (l_st (fun w s=>s.shr 2 R) (l_cut (K:=kT3) (0:Int) (r5.2.1.length:Int) 0 R (wnF hc50) sl23 sz3 R R R R (hg46 hc50).1 (hg46 hc50).2.1 (hg46 hc50).2.2 (fun A47 D47=>(lM _ (fun w s=>(s.d 0 R)) ?_)))))
 refine l_calln 1 R (wnF hc50) cb92 R (Zl_ok (gcall_t hx49 (not_ff hc50))) R ?_
 rintro _
 refine o_3 ?_
 exact qj (tE 5 [4,2,1])
 rintro σ1
 refine o_1 ?_
 split at hr
 refine o_3 ?_
 refine lO (vz (.agg [(.slice none 0 0),(.slice none 0 0)].toArray) (v_build pl58 zc58 R R)) (l_stores 0 R R sz58 R R R R R R (lN (_::_::_::W0) ?_))
 refine o_4 ?_
 cases hr
 exact qS ((none,0,0),(none,0,0)) (fun w s=>(((s.nilo kT3 3).nilo kT3 3).e 6 [1,0]))
 refine o_4 ?_
 obtain ⟨hg52,hr⟩:=gd hr
 obtain ⟨r54,hx55,hr⟩:=bd hr
 refine o_2 ?_
 refine lO (vp (vstr r5.2.1) R) (lO (vz (il r5.2.1) (v_slen un9 R)) (l_cut (K:=kT3) (0:Int) (r5.2.1.length:Int) 2 R R sl23 sz3 R R R R hg52.1 hg52.2.1 hg52.2.2 (fun A53 D53=>(lM _ (fun w s=>(s.d 0 R)) ?_))))
 refine lC 1 cb93 R (Z0g_ok hx55) R ?_
 rintro ⟨⟨A56,N56,D56⟩,⟨A57,N57,D57⟩⟩
 refine l_len 0 sees_ow ?_
 rintro rfl
 refine l_len 1 sees_ow ?_
 rintro rfl
 refine l_alloc R R zc58 (fun b58=>(l_stores 0 R R sz58 R R R R R R (lN (bxl b58 [(sc A56 r54.Dims D56),(sc A57 r54.Data D57)] 58::_::_::_::_::_::_::W0) ?_)))
 refine o_8 ?_
 refine c_cut (A:=(Int)×(Unit)) (fun a=>Z5_J2 ts2 r5 r43 r54 a.1=some r) (fun a=>[(1,(sc A3 ts2 D3)),(4,(pt b4 0)),(5,(sc A7 r5.1 D7)),(6,(vstr r5.2.1)),(10,(vstr r43.1)),(11,(sc A45 r43.2.1 D45)),(13,(pt b58 0)),(14,(iv a.1))]) (fun a=>bxl b4 [(.slice none 0 0),(.slice none 0 0)] 58::OO kT9 9 A7 D7 r5.1::RR kT3 A45 D45 r43.2.1::bxl b58 [(sc A56 r54.Dims D56),(sc A57 r54.Data D57)] 58::OO kT3 3 A56 D56 r54.Dims::OO kT3 3 A57 D57 r54.Data::W0) ?_ ?_
 refine o_6 ?_
 obtain ⟨e2,hl2,hk2⟩:=bd hr
 refine c_loop (A:=Unit) hl2 (fun s a=>[(1,(sc A3 ts2 D3)),(4,(pt b4 0)),(5,(sc A7 r5.1 D7)),(6,(vstr r5.2.1)),(10,(vstr r43.1)),(11,(sc A45 r43.2.1 D45)),(13,(pt b58 0)),(14,(iv s.1)),(15,(iv s.2))]) (fun s a=>bxl b4 [(.slice none 0 0),(.slice none 0 0)] 58::OO kT9 9 A7 D7 r5.1::RR kT3 A45 D45 r43.2.1::bxl b58 [(sc A56 r54.Dims D56),(sc A57 r54.Data D57)] 58::OO kT3 3 A56 D56 r54.Dims::OO kT3 3 A57 D57 r54.Data::W0) () (aS R) (fun w s=>(s.f 7 [4,3,0,3])) ?_
 rintro ⟨work63,i64⟩ _ σ1 out2 hr he2
 dsimp only [Z5_L2] at hr
 refine o_9 ?_
 split at hr
 refine o_5 ?_
 obtain ⟨hg66,hr⟩:=gd hr
 refine o_4 ?_
 refine t_some 2 sees_rd (show 0<r43.2.1.length by have:=hg66; omega) (fun g67 o68 ha=>?_)
 subst ha
 refine o_12 ?_
 cases hr
 exact qA () tI
 refine o_3 ?_
 cases hr
 obtain rfl:=he2 _ R
 have hr:=hk2
 refine o_2 ?_
 exact qI (work63,()) hr tI
 rintro ⟨work71,_⟩ σ1 hr
 dsimp only [Z5_J2] at hr
 refine c_seq (c_cut (A:=((List Int))×(Unit)) (fun a=>Z5_J5 r54 a.1=some r) (fun a=>[(4,(pt b4 0)),(13,(pt b58 0))]) (fun a=>bxl b4 [(.slice none 0 0),(.slice none 0 0)] 58::bxl b58 [(sc A56 r54.Dims D56),(sc A57 r54.Data D57)] 58::OO kT3 3 A56 D56 r54.Dims::ow kT3 3 (.slice A57 r54.Data.length D57) a.1::W0) ?_ ?_)
 refine o_6 ?_
 obtain ⟨e3,hl3,hk3⟩:=bd hr
 refine c_loop (A:=Unit) hl3 (fun s a=>[(1,(sc A3 ts2 D3)),(4,(pt b4 0)),(5,(sc A7 r5.1 D7)),(6,(vstr r5.2.1)),(10,(vstr r43.1)),(11,(sc A45 r43.2.1 D45)),(13,(pt b58 0)),(14,(iv work71)),(16,(iv s.2))]) (fun s a=>bxl b4 [(.slice none 0 0),(.slice none 0 0)] 58::OO kT9 9 A7 D7 r5.1::RR kT3 A45 D45 r43.2.1::bxl b58 [(sc A56 r54.Dims D56),(sc A57 r54.Data D57)] 58::OO kT3 3 A56 D56 r54.Dims::ow kT3 3 (.slice A57 r54.Data.length D57) s.1::W0) () (aS R) tI ?_
 rintro ⟨sum122,n123⟩ _ σ1 out3 hr he3
 dsimp only [Z5_L3] at hr
 refine o_8 ?_
 split at hr
 refine o_6 ?_
 obtain ⟨r125,hx126,hr⟩:=bd hr
 refine o_3 ?_
 refine lM _ (fun w s=>(s.d 2 R)) ?_
 refine lC 1 cb102 R (Zg_ok hx126) R ?_
 rintro ⟨A127,N127,D127⟩
 refine l_len 0 sees_ow ?_
 rintro rfl
 refine o_9 ?_
 refine c_cut (A:=(Int)×(Unit)) (fun a=>Z5_J4 r5 r54 sum122 n123 r125 a.1=some out3) (fun a=>[(1,(sc A3 ts2 D3)),(4,(pt b4 0)),(5,(sc A7 r5.1 D7)),(6,(vstr r5.2.1)),(10,(vstr r43.1)),(11,(sc A45 r43.2.1 D45)),(13,(pt b58 0)),(14,(iv work71)),(16,(iv n123)),(17,(sc A127 r125 D127)),(18,(iv a.1))]) (fun a=>bxl b4 [(.slice none 0 0),(.slice none 0 0)] 58::OO kT9 9 A7 D7 r5.1::RR kT3 A45 D45 r43.2.1::bxl b58 [(sc A56 r54.Dims D56),(sc A57 r54.Data D57)] 58::OO kT3 3 A56 D56 r54.Dims::ow kT3 3 (.slice A57 r54.Data.length D57) sum122::OO kT3 3 A127 D127 r125::W0) ?_ ?_
 refine o_6 ?_
 obtain ⟨e4,hl4,hk4⟩:=bd hr
 refine c_loop (A:=Unit) hl4 (fun s a=>[(1,(sc A3 ts2 D3)),(4,(pt b4 0)),(5,(sc A7 r5.1 D7)),(6,(vstr r5.2.1)),(10,(vstr r43.1)),(11,(sc A45 r43.2.1 D45)),(13,(pt b58 0)),(14,(iv work71)),(16,(iv n123)),(17,(sc A127 r125 D127)),(18,(iv s.1)),(19,(iv s.2))]) (fun s a=>bxl b4 [(.slice none 0 0),(.slice none 0 0)] 58::OO kT9 9 A7 D7 r5.1::RR kT3 A45 D45 r43.2.1::bxl b58 [(sc A56 r54.Dims D56),(sc A57 r54.Data D57)] 58::OO kT3 3 A56 D56 r54.Dims::ow kT3 3 (.slice A57 r54.Data.length D57) sum122::OO kT3 3 A127 D127 r125::W0) () (aS R) (fun w s=>(s.f 7 [1,6,0,1])) ?_
 rintro ⟨x144,k145⟩ _ σ1 out4 hr he4
 dsimp only [Z5_L4] at hr
 refine o_9 ?_
 split at hr
 refine o_5 ?_
 obtain ⟨hg147,hr⟩:=gd hr
 obtain ⟨hg152,hr⟩:=gd hr
 obtain ⟨r155,hx156,hr⟩:=bd hr
 obtain ⟨r158,hx159,hr⟩:=bd hr
 obtain ⟨r160,hx161,hr⟩:=bd hr
 refine c_some 7 sees_rd (show 0<ts2.length by have:=hg147; omega) (fun g148 o149 ha=>?_)
 subst ha
 refine c_elem (K:=kT58) 7 k145 dT58.dec R hg147.1 hg147.2 ?_
 rintro ⟨⟨A150,D150⟩,⟨A151,D151⟩⟩
 refine c_some 4 sees_ow (show 0<r5.1.length by have:=hg152; omega) (fun g153 o154 ha=>?_)
 subst ha
 refine cdr 15 [] mixo fun ht hn=>?_
 refine d4_ 0 [] ?_
 refine dR 4 R (vz (.agg [(sc A150 ((ix ts2 k145).Dims) D150),(sc A151 ((ix ts2 k145).Data) D151)].toArray) (v_clfs (fo:=0) 0 ag58 sz58 R R R R)) ?_
 refine d3_ 5 [] ?_
 refine dR 8 R (vz (vstr (ix r5.1 k145)) (v_lde (K:=kT9) (fo:=0) (pr:=fun x=>(vstr x)) 4 k145 ag9 (dT9.leaf fun _ _=>R) sees_ow R hg152.1 hg152.2)) (dR 9 R (vp (vstr r43.1) R) (dR 10 R (vS R) (d1 11 R (lM _ (fun w s=>(s.f 10 [9,1,0,9])) ?_))))
 refine lC 1 cb113 R (FnOk.lends (A':=[OO kT3 3 A127 D127 r125]) (A:=[RR kT3 A127 D127 r125]) (B:=[]) (Ze_ok hx156) ⟨lend_ow,trivial⟩ (fun _=>⟨(closed_ow cT3),trivial⟩)) R ?_
 rintro ⟨A157,N157,D157⟩
 refine l_len 1 sees_ow ?_
 rintro rfl
 refine l_nil (q_draw (fun w s=>(s.f 11 [2,9,0,1])) (d1 12 R (lM _ (fun w s=>(((s.d 3 R).d 5 R).f 13 [3,1,1,1,0,1,2,1,4,9])) ?_)))
 refine lC 3 cb112 R (FnOk.lends (A':=[OO kT3 3 A157 D157 r155]) (A:=[RR kT3 A157 D157 r155]) (B:=[RR kT3 A150 D150 ((ix ts2 k145).Dims),RR kT3 A151 D151 ((ix ts2 k145).Data)]) (FnOk.perm (Z13_ok hx159) (Pre':=[RR kT3 A157 D157 r155,RR kT3 A150 D150 ((ix ts2 k145).Dims),RR kT3 A151 D151 ((ix ts2 k145).Data)]) (fun _ _ _ s=>(s.e 3 [1,2,0]))) ⟨lend_ow,trivial⟩ (fun _=>trivial)) R ?_
 rintro _
 refine l_nil (q_draw (fun w s=>(s.f 11 [2,9,1,1])) (d1 13 R (lC 0 cb111 R (Z1c_ok hx161) R ?_)))
 rintro _
 refine l_nil (q_draw (fun w s=>(s.f 11 [2,9,1,1])) (dR 14 R (vI R) (hS:=(fun w s=>(s.f 11 [2,9,1,1]))) (dD ?_)))
 refine o_7 ?_
 cases hr
 exact qA () (fun w s=>(s.f 11 [5,6,1,1]))
 refine o_3 ?_
 cases hr
 obtain rfl:=he4 _ R
 have hr:=hk4
 refine o_2 ?_
 exact qI (x144,()) hr tI
 rintro ⟨x164,_⟩ σ1 hr
 dsimp only [Z5_J4] at hr
 refine o_1 ?_
 obtain ⟨hg165,hr⟩:=gd hr
 obtain ⟨r167,hx168,hr⟩:=bd hr
 refine cdr 8 [6] mixo fun ht hn=>?_
 refine d3_ 0 [6] ?_
 refine dR 3 R (vp (vstr r5.2.1) R) (hS:=(sL [6])) (dR 4 R (vz (il r5.2.1) (v_slen un9 R)) (hS:=(sL [6])) (d1 5 R (l_st (fun w s=>s.shr 6 R) (l_cut (K:=kT3) (0:Int) (r5.2.1.length:Int) 0 R R sl23 sz3 R R R R hg165.1 hg165.2.1 hg165.2.2 (fun A166 D166=>(l_nil (q_draw (sL [1,0]) (d1 6 R (lM _ (fun w s=>((s.d 0 R).f 9 [7,1,0,7,8,1])) ?_)))))))))
 refine lC 2 cb114 R (FnOk.lends (A':=[OO kT3 3 A56 D56 r54.Dims]) (A:=[RR kT3 A56 D56 r54.Dims]) (B:=[RR kT3 A166 D166 (sub r125 (0:Int) (r5.2.1.length:Int))]) (Z0l_ok hx168) ⟨lend_ow,trivial⟩ (fun _=>trivial)) R ?_
 rintro _
 refine l_nil (q_draw (tE 8 [3,4,5,6,0,7]) (dR 7 R (vI R) (hS:=(tE 8 [3,4,5,6,0,7])) (dD (q_next ?_))))
 obtain ⟨hg169,hr⟩:=gd hr
 obtain ⟨r172,hx173,hr⟩:=bd hr
 refine c_some 7 sees_ow (show 0<r54.Data.length by have:=hg169; omega) (fun g170 o171 ha=>?_)
 subst ha
 refine cdr 12 [7] mixo fun ht hn=>?_
 refine d7_ 0 [7] ?_
 refine d1_ 8 [7] ?_
 refine d1 7 R (lO (vLi 7 ag3 sees_ow R hg169) (l_nil (q_draw (sL [7]) (d1 9 R (lC 0 cb115 R (Z1j_ok hx173) R ?_)))))
 rintro _
 refine l_nil (q_draw (sL [7]) ?_)
 refine d1_ 10 [7] ?_
 refine d1 11 R (lM _ (fun w s=>(s.f 8 [7,1,0,7])) ?_)
 refine l_stx (K:=kT3) (x':=r172) 0 r167 R R sz3 R R hg169.1 hg169.2 ?_ ?_
 exact fun I h s=>(mO3).put I h () r172 s
 refine l_nil (q_draw (sL [0]) (dD ?_))
 refine o_7 ?_
 cases hr
 exact qA () (tE 8 [4,5,6,7,1,0])
 refine o_3 ?_
 cases hr
 obtain rfl:=he3 _ R
 have hr:=hk3
 refine o_2 ?_
 exact qI (sum122,()) hr (tE 6 [0,3,4,5])
 rintro ⟨sum176,_⟩ σ1 hr
 dsimp only [Z5_J5] at hr
 refine o_3 ?_
 refine l_stores 0 R R sz58 R R R R R R (lN (bxl b4 [(sc A56 r54.Dims D56),(sc A57 r54.Data D57)] 58::bxl b58 [(sc A56 r54.Dims D56),(sc A57 r54.Data D57)] 58::_::ow kT3 3 (.slice A57 r54.Data.length D57) sum176::W0) ?_)
 refine o_3 ?_
 cases hr
 exact qS ((A56,r54.Dims.length,D56),(A57,r54.Data.length,D57)) (tE 5 [2,3])
theorem Z0f_ok  {v1:View}{r:View}(hr:Z0f v1=some r) :
 FnOk Tryz.prog 118 [(.agg [(.slice A2 N2 D2),(.slice A3 N3 D3),(iv v1.Offset),(iv v1.Base)].toArray)] [rds kT3 (.slice A2 N2 D2) v1.Dims,ow kT3 3 (.slice A3 N3 D3) v1.Strides] (fun (h:HH×HH)=>((.agg [(s3 h.1),(s3 h.2),(iv r.Offset),(iv r.Base)].toArray),[rds kT3 (s3 h.1) r.Dims,ow kT3 3 (s3 h.2) r.Strides])):=by
 unfold Z0f at hr
 refine fn_ok Tryz.func118 R 22 R R fun C V=>?_
 refine cM _ (tE 2 [1,0]) ?_
 refine cL 0 sees_ow ?_
 rintro rfl
 refine cL 1 sees_rd ?_
 rintro rfl
 let W0:=RR kT3 A2 D2 v1.Dims::V
 refine o_2 ?_
 refine lBx R fun b4=>?_
 refine l_alloc R R zc96 (fun b5=>(l_nil (qM _ (tE 3 [0,2,1]) ?_)))
 let W1:=bxl b4 [(sc A2 v1.Dims D2),(sc A3 v1.Strides D3),(iv v1.Offset),(iv v1.Base)] 96::W0
 refine o_2 ?_
 refine c_cut (A:=((List Int))×(Unit)) (fun a=>Z0f_J3 v1 a.1=some r) (fun a=>[(1,(pt b4 0)),(2,(pt b5 0))]) (fun a=>bxl b5 [(.slice none 0 0),(.slice none 0 0),(iv 0),(iv 0)] 96::ow kT3 3 (.slice A3 v1.Strides.length D3) a.1::W1) ?_ ?_
 refine o_6 ?_
 obtain ⟨e1,hl1,hk1⟩:=bd hr
 refine c_loop (A:=Unit) hl1 (fun s a=>[(1,(pt b4 0)),(2,(pt b5 0)),(3,(iv s.1))]) (fun s a=>bxl b5 [(.slice none 0 0),(.slice none 0 0),(iv 0),(iv 0)] 96::ow kT3 3 (.slice A3 v1.Strides.length D3) s.2::W1) () (aS R) tI ?_
 rintro ⟨i15,p16⟩ _ σ1 out1 hr he1
 dsimp only [Z0f_L1] at hr
 refine o_10 ?_
 split at hr
 refine o_4 ?_
 refine c_cut (A:=((List Int))×(Unit)) (fun a=>Z0f_J2 i15 a.1=some out1) (fun a=>[(1,(pt b4 0)),(2,(pt b5 0)),(3,(iv i15))]) (fun a=>bxl b5 [(.slice none 0 0),(.slice none 0 0),(iv 0),(iv 0)] 96::ow kT3 3 (.slice A3 v1.Strides.length D3) a.1::W1) ?_ ?_
 refine o_2 ?_
 obtain ⟨hg18,hr⟩:=gd hr
 refine o_4 ?_
 refine t_some 3 sees_rd (show 0<v1.Dims.length by have:=hg18; omega) (fun g19 o20 ha=>?_)
 subst ha
 refine o_5 ?_
 split at hr
 refine o_1 ?_
 obtain ⟨hg22,hr⟩:=gd hr
 refine o_4 ?_
 refine t_some 1 sees_ow (show 0<v1.Strides.length by have:=hg22; omega) (fun g23 o24 ha=>?_)
 subst ha
 refine o_1 ?_
 refine lM _ (tE 2 [1,0]) ?_
 refine l_stx (K:=kT3) (x':=(0:Int)) 0 i15 R R sz3 R R hg22.1 hg22.2 ?_ ?_
 exact fun I h s=>(mO3).put I h () (0:Int) s
 refine o_2 ?_
 exact qI ((p16.set i15.toNat (0:Int)),()) hr (tE 2 [1,0])
 refine o_3 ?_
 exact qI (p16,()) hr tI
 rintro ⟨p25,_⟩ σ1 hr
 dsimp only [Z0f_J2] at hr
 refine o_5 ?_
 cases hr
 exact qA () tI
 refine o_3 ?_
 cases hr
 obtain rfl:=he1 _ R
 have hr:=hk1
 refine o_2 ?_
 exact qI (p16,()) hr tI
 rintro ⟨p28,_⟩ σ1 hr
 dsimp only [Z0f_J3] at hr
 refine o_3 ?_
 refine l_stores 0 R R sz96 R R R R R R (lN (bxl b5 [(sc A2 v1.Dims D2),(sc A3 v1.Strides D3),(iv v1.Offset),(iv v1.Base)] 96::ow kT3 3 (.slice A3 v1.Strides.length D3) p28::W1) ?_)
 refine o_3 ?_
 cases hr
 exact qS ((A2,v1.Dims.length,D2),(A3,v1.Strides.length,D3)) (tE 4 [3,1])
theorem Zv_ok  {dims1:(List Int)}{r:View}(hr:Zv dims1=some r) :
 FnOk Tryz.prog 84 [(.slice A2 N2 D2)] [rds kT3 (.slice A2 N2 D2) dims1] (fun (h:HH×HH)=>((.agg [(.slice h.1.1 h.1.2.1 h.1.2.2),(.slice h.2.1 h.2.2.1 h.2.2.2),(iv r.Offset),(iv r.Base)].toArray),[rds kT3 (.slice h.1.1 h.1.2.1 h.1.2.2) r.Dims,ow kT3 3 (.slice h.2.1 h.2.2.1 h.2.2.2) r.Strides])):=by
 unfold Zv at hr
 refine fn_ok Tryz.func84 R 32 R R fun C V=>?_
 refine cN (_::V) ?_
 refine cL 0 sees_rd ?_
 rintro rfl
 let W0:List HP:=RR kT3 A2 D2 dims1::V
 refine cN W0 ?_
 refine c_seq (c_region (l_alloc R R zc96 (fun b3=>(l_nil (q_next (c_seq (c_seq ?_)))))))
 obtain ⟨r4,hx5,hr⟩:=bd hr
 refine c_region (lS R (lM (RR kT3 A2 D2 dims1::_::W0) (fun w s=>(s.d 1 R)) ?_))
 refine lC 1 cb92 R (Zl_ok hx5) R ?_
 rintro _
 refine lN (_::W0) ?_
 refine lO (vNo R) (l_nil (q_next ?_))
 rcases bif_ hr with ⟨hb6,hr⟩|⟨hb6,hr⟩
 refine c_true R hb6 (c_seq (c_region (lO (vz (.agg [(.slice none 0 0),(.slice none 0 0),(iv 0),(iv 0)].toArray) (v_build pl96 zc96 R R)) (l_stores 0 R R sz96 R R R R R R (l_nil (q_next (c_ret (q_ret ?_))))))))
 obtain rfl:=so hr
 exact q_fin (vs:=[(.agg [(.slice none 0 0),(.slice none 0 0),(iv 0),(iv 0)].toArray)]) (.inl R) ((none,0,0),(none,0,0)) R ⟨⟨0,b3,_,_,R,R,.inl ⟨ag96,sz96,R⟩⟩,trivial⟩ R (fun w s=>(((s.nilr kT3).nilo kT3 3).e 4 [1,0]))
 refine c_false R hb6 (c_skip (q_next (c_seq ?_)))
 obtain ⟨r7,hx8,hr⟩:=bd hr
 obtain ⟨r10,hx11,hr⟩:=bd hr
 refine c_region (lS R (lM (RR kT3 A2 D2 dims1::_::W0) (fun w s=>(s.d 1 R)) ?_))
 refine lC 1 cb57 R (Zq_ok hx8) R ?_
 rintro ⟨A9,N9,D9⟩
 refine lN (ow kT3 3 (.slice A9 N9 D9) r7::_::W0) ?_
 refine l_len 0 sees_ow ?_
 rintro rfl
 refine lS R (lM (RR kT3 A2 D2 dims1::_::_::W0) (fun w s=>(s.d 2 R)) ?_)
 refine lC 1 cb95 R (Zt_ok hx11) R ?_
 rintro _
 refine lN (_::_::W0) ?_
 refine lO (vz (.agg [(sc A9 r7 D9),(.slice none 0 0),(iv 0),(iv r10)].toArray) (v_build pl96 zc96 R R)) (l_alloc R R zc96 (fun b12=>(l_stores 0 R R sz96 R R R R R R (lN (bxl b12 [(sc A9 r7 D9),(.slice none 0 0),(iv 0),(iv r10)] 96::_::_::W0) ?_))))
 refine l_nil (q_next (c_seq (c_cut (A:=((List Int))×(HH)) (fun a=>Zv_J1 r7 r10 a.1=some r) (fun a=>[(2,(pt b3 0)),(3,(pt b12 0))]) (fun a=>bxl b3 [(.slice none 0 0),(.slice none 0 0),(iv 0),(iv 0)] 96::bxl b12 [(sc A9 r7 D9),(.slice a.2.1 a.2.2.1 a.2.2.2),(iv 0),(iv r10)] 96::OO kT3 3 A9 D9 r7::ow kT3 3 (.slice a.2.1 a.2.2.1 a.2.2.2) a.1::W0) ?_ ?_)))
 refine c_seq (c_region (lI R (l_nil (q_next (c_block ?_)))))
 obtain ⟨e1,hl1,hk1⟩:=bd hr
 refine c_loop (A:=HH) hl1 (fun s a=>[(0,(sc A2 dims1 D2)),(2,(pt b3 0)),(3,(pt b12 0)),(4,(iv s.2))]) (fun s a=>bxl b3 [(.slice none 0 0),(.slice none 0 0),(iv 0),(iv 0)] 96::bxl b12 [(sc A9 r7 D9),(.slice a.1 a.2.1 a.2.2),(iv 0),(iv r10)] 96::OO kT3 3 A9 D9 r7::ow kT3 3 (.slice a.1 a.2.1 a.2.2) s.1::W0) (none,0,0) (aS R) (fun w s=>((s.nilo kT3 3).e 4 [3,1,2,0])) ?_
 rintro ⟨v21,i23⟩ ⟨A22,N22,D22⟩ σ1 out1 hr he1
 replace hr:Zv_L1 dims1 v21 i23=some out1:=hr
 unfold Zv_L1 at hr
 refine c_len 3 sees_ow (fun (hn:N22=v21.length)=>?_)
 subst hn
 refine c_seq (c_seq (c_region (lI R (lS R (lO (v_len sl23 R) (lO (vLt R R) (l_nil (q_next ?_))))))))
 rcases bif_ hr with ⟨hb24,hr⟩|⟨hb24,hr⟩
 refine c_true R hb24 (c_skip (q_next (c_seq (c_block ?_))))
 obtain ⟨hg25,hr⟩:=gd hr
 obtain ⟨r27,hx28,hr⟩:=bd hr
 obtain ⟨hg30,hr⟩:=gd hr
 refine cdr 8 [] mixo (fun ht hn=>(dR 0 R (vFa 1 fo96_1 R) (dR 1 R (vLd 1 ag23 R R R) (dR 2 R (vS R) (dR 3 R (vI R) (dR 4 R (vAd R R) (d1 5 R (l_cut (K:=kT3) (w64 (i23+(1:Int))) (dims1.length:Int) 4 R R sl23 sz3 R R R R hg25.1 hg25.2.1 hg25.2.2 (fun A26 D26=>(l_nil (q_draw (sL [0]) (d1 6 R (lM (RR kT3 A26 D26 (sub dims1 (w64 (i23+(1:Int))) (dims1.length:Int))::RR kT3 A26 D26 (sub dims1 (w64 (i23+(1:Int))) (dims1.length:Int))::_::bxl b12 [(sc A9 r7 D9),(sc A22 v21 D22),(iv 0),(iv r10)] 96::_::OO kT3 3 A22 D22 v21::W0) (fun w s=>(s.d 0 R)) ?_)))))))))))))
 refine lC 1 cb95 R (Zt_ok hx28) R ?_
 rintro _
 refine lN (_::_::_::_::_::W0) ?_
 refine l_nil (q_draw (sL [0]) (d1 7 R (l_build (K:=kT3) (xs:=([r27]:List Int)) (vs:=[(iv r27)]) 0 R R sl23 sz3 zc3 R R R R R R ?_ R (fun A29 D29=>?_))))
 exact fun I h s=>(mO3).list [((),r27)] I h s
 refine lN (OO kT3 3 A29 D29 ([r27]:List Int)::_::_::_::_::_::W0) ?_
 refine l_nil (q_draw (sL [1,0]) (d1 8 R (lM (ow _ _ _ _::ow _ _ _ _::rds _ _ _::bxl _ _ _::bxl _ _ _::ow _ _ _ _::W0) (fun w s=>(s.f 6 [5,1,0,5])) ?_)))
 refine l_app (K:=kT3) 17592186044416 R R sl23 sz3 by3 (Zr.zk zT3 zc3) R R R R R R src_ow hg30 (fun A31 D31=>(lN (OO kT3 3 A31 D31 (v21++([r27]:List Int))::_::_::_::_::W0) ?_))
 refine l_nil (qE (d1 9 R (lO (vFa 1 fo96_1 R) (l_nil (qE (d1 10 R (l_store 3 R R sz23 R R R R R (lN (_::_::_::bxl b12 [(sc A9 r7 D9),(sc A31 (v21++([r27]:List Int)) D31),(iv 0),(iv r10)] 96::_::W0) ?_))))))))
 refine l_nil (qE (dD (q_blockn (q_next (c_region (lI R (lO (vAd R R) (lI R (l_nil ?_)))))))))
 obtain rfl:=so hr
 exact qA (A31,(v21++([r27]:List Int)).length,D31) (fun w s=>(s.e 5 [2,3,4,0]))
 refine c_false R hb24 (c_exit (q_exit ?_))
 obtain rfl:=so hr
 obtain rfl:=he1 _ R
 have hr:=hk1
 refine q_exit (q_block ?_)
 exact qI (v21,(A22,v21.length,D22)) hr (fun w s=>s)
 rintro ⟨v35,⟨A36,N36,D36⟩⟩ σ1 hr
 replace hr:Zv_J1 r7 r10 v35=some r:=hr
 unfold Zv_J1 at hr
 refine c_len 3 sees_ow (fun (hn:N36=v35.length)=>?_)
 subst hn
 refine c_seq ?_
 obtain ⟨r37,hx38,hr⟩:=bd hr
 refine c_region (lO (vz (.agg [(sc A9 r7 D9),(sc A36 v35 D36),(iv 0),(iv r10)].toArray) (v_loadw 1 ag96 sz96 R R R R)) (l_st (fun w s=>s.shr 2 R) (lM (RR kT3 A9 D9 r7::OO kT3 3 A36 D36 v35::RR kT3 A9 D9 r7::bxl _ _ _::bxl b12 [(sc A9 r7 D9),(sc A36 v35 D36),(iv 0),(iv r10)] 96::W0) (fun w s=>((s.d 0 R).e 5 [0,4,1,2,3])) ?_)))
 refine lC 2 cb118 R (Z0f_ok (v1:=(⟨r7,v35,(0:Int),r10⟩:View)) hx38) R ?_
 rintro ⟨⟨A39,N39,D39⟩,⟨A40,N40,D40⟩⟩
 refine lN (rds kT3 (.slice A39 N39 D39) r37.Dims::ow kT3 3 (.slice A40 N40 D40) r37.Strides::_::_::_::W0) ?_
 refine l_len 0 sees_rd ?_
 rintro rfl
 refine l_len 1 sees_ow ?_
 rintro rfl
 refine l_stores 3 R R sz96 R R R R R R (lN (_::_::_::bxl b3 [(sc A39 r37.Dims D39),(sc A40 r37.Strides D40),(iv r37.Offset),(iv r37.Base)] 96::_::W0) ?_)
 refine l_nil (q_next (c_ret ?_))
 obtain rfl:=so hr
 exact q_fin (vs:=[(.agg [(sc A39 r37.Dims D39),(sc A40 r37.Strides D40),(iv r37.Offset),(iv r37.Base)].toArray)]) (.inl R) ((A39,r37.Dims.length,D39),(A40,r37.Strides.length,D40)) R ⟨⟨3,b3,_,_,R,R,.inl ⟨ag96,sz96,R⟩⟩,trivial⟩ R (fun w s=>(s.e 6 [0,1]))
theorem Z12_ok  {v1:View}{index4:(List Int)}{r:Int}(hr:Z12 v1 index4=some r) :
 FnOk Tryz.prog 144 [(.agg [(.slice A2 N2 D2),(.slice A3 N3 D3),(iv v1.Offset),(iv v1.Base)].toArray),(.slice A5 N5 D5)] [rds kT3 (.slice A2 N2 D2) v1.Dims,rds kT3 (.slice A3 N3 D3) v1.Strides,rds kT3 (.slice A5 N5 D5) index4] (fun (h:Unit)=>((iv r),[])):=by
 unfold Z12 at hr
 refine fn_ok Tryz.func144 R 28 R R fun C V=>?_
 refine cL 0 sees_rd ?_
 rintro rfl
 refine cL 1 sees_rd ?_
 rintro rfl
 refine cL 2 sees_rd ?_
 rintro rfl
 let W0:=RR kT3 A2 D2 v1.Dims::RR kT3 A3 D3 v1.Strides::RR kT3 A5 D5 index4::V
 refine cN W0 ?_
 refine o_2 ?_
 refine lBx R fun b6=>?_
 refine o_2 ?_
 let W1:=bxl b6 [(sc A2 v1.Dims D2),(sc A3 v1.Strides D3),(iv v1.Offset),(iv v1.Base)] 96::W0
 refine qN W1 ?_
 refine o_9 ?_
 refine c_cut (A:=(Int)×(Unit)) (fun a=>Z12_J1 a.1=some r) (fun a=>[(5,(iv a.1))]) (fun a=>W1) ?_ ?_
 refine o_6 ?_
 obtain ⟨e1,hl1,hk1⟩:=bd hr
 refine c_loop (A:=Unit) hl1 (fun s a=>[(1,(sc A5 index4 D5)),(2,(pt b6 0)),(5,(iv s.1)),(6,(iv s.2))]) (fun s a=>W1) () (aS R) tI ?_
 rintro ⟨p14,i15⟩ _ σ1 out1 hr he1
 dsimp only [Z12_L1] at hr
 refine o_9 ?_
 split at hr
 refine o_5 ?_
 obtain ⟨hg17,hr⟩:=gd hr
 obtain ⟨hg20,hr⟩:=gd hr
 refine c_some 3 sees_rd (show 0<index4.length by have:=hg17; omega) (fun g18 o19 ha=>?_)
 subst ha
 refine c_some 2 sees_rd (show 0<v1.Strides.length by have:=hg20; omega) (fun g21 o22 ha=>?_)
 subst ha
 refine cdr 13 [] mixo fun ht hn=>?_
 refine d13_ 0 [] ?_
 refine dD ?_
 refine o_7 ?_
 cases hr
 exact qA () tI
 refine o_3 ?_
 cases hr
 obtain rfl:=he1 _ R
 have hr:=hk1
 refine o_2 ?_
 exact qI (p14,()) hr tI
 rintro ⟨p25,_⟩ σ1 hr
 dsimp only [Z12_J1] at hr
 refine o_7 ?_
 cases hr
 exact qF () (tE 4 [])
theorem Z0a_ok  {v1:View}{r:(List Int)}(hr:Z0a v1=some r) :
 FnOk Tryz.prog 117 [(.agg [(.slice A2 N2 D2),(.slice A3 N3 D3),(iv v1.Offset),(iv v1.Base)].toArray)] [rds kT3 (.slice A2 N2 D2) v1.Dims,rds kT3 (.slice A3 N3 D3) v1.Strides] (fun (h:HH)=>((.slice h.1 h.2.1 h.2.2),[ow kT3 3 (.slice h.1 h.2.1 h.2.2) r])):=by
 unfold Z0a at hr
 refine fn_ok Tryz.func117 R 25 R R fun C V=>?_
 refine cN (_::_::V) ?_
 refine cL 0 sees_rd ?_
 rintro rfl
 refine cL 1 sees_rd ?_
 rintro rfl
 let W0:List HP:=RR kT3 A2 D2 v1.Dims::RR kT3 A3 D3 v1.Strides::V
 refine cN W0 ?_
 refine c_seq (c_region (lBx R (fun b4=>(lS R (l_nil ?_)))))
 let W1:List HP:=bxl b4 [(sc A2 v1.Dims D2),(sc A3 v1.Strides D3),(iv v1.Offset),(iv v1.Base)] 96::W0
 refine qN W1 ?_
 refine q_next (c_seq (c_region (l_build (K:=kT3) (xs:=([]:List Int)) (vs:=[]) 0 R R sl23 sz3 zc3 R R R R R R ?_ R (fun A5 D5=>?_))))
 exact fun I h s=>(mO3).list [] I h s
 refine lN (OO kT3 3 A5 D5 ([]:List Int)::W1) ?_
 refine lS R (l_nil (q_next (c_seq ?_)))
 obtain ⟨r6,hx7,hr⟩:=bd hr
 refine c_region (lO (vFa 0 fo96_0 R) (lO (vLd 1 ag23 R R R) (lM (RR kT3 A2 D2 v1.Dims::_::W1) (fun w s=>(s.d 2 R)) ?_)))
 refine lC 1 cb95 R (Zt_ok hx7) R ?_
 rintro _
 refine lN (_::W1) ?_
 refine lI R (l_nil (q_next (c_seq (c_cut (A:=((List Int))×(HH)) (fun a=>Z0a_J1 a.1=some r) (fun a=>[(3,(.slice a.2.1 a.2.2.1 a.2.2.2))]) (fun a=>ow kT3 3 (.slice a.2.1 a.2.2.1 a.2.2.2) a.1::W1) ?_ ?_))))
 refine c_seq (c_region (lI R (l_nil (q_next (c_block ?_)))))
 obtain ⟨e1,hl1,hk1⟩:=bd hr
 refine c_loop (A:=HH) hl1 (fun s a=>[(1,(pt b4 0)),(3,(.slice a.1 a.2.1 a.2.2)),(4,(iv r6)),(5,(iv s.2))]) (fun s a=>ow kT3 3 (.slice a.1 a.2.1 a.2.2) s.1::W1) (A5,([]:List Int).length,D5) (aS R) (fun w s=>s) ?_
 rintro ⟨x17,k19⟩ ⟨A18,N18,D18⟩ σ1 out1 hr he1
 replace hr:Z0a_L1 v1 r6 x17 k19=some out1:=hr
 unfold Z0a_L1 at hr
 refine c_len 0 sees_ow (fun (hn:N18=x17.length)=>?_)
 subst hn
 refine c_seq (c_seq (c_region (lI R (lI R (lO (vLt R R) (l_nil (q_next ?_)))))))
 rcases bif_ hr with ⟨hb20,hr⟩|⟨hb20,hr⟩
 refine c_true R hb20 (c_skip (q_next (c_seq (c_block ?_))))
 obtain ⟨r21,hx22,hr⟩:=bd hr
 obtain ⟨r24,hx25,hr⟩:=bd hr
 obtain ⟨hg27,hr⟩:=gd hr
 refine cdr 10 [0] mixo (fun ht hn=>(dR 0 R (vS R) (hS:=(sL [0])) (dR 1 R (vz (.agg [(sc A2 v1.Dims D2),(sc A3 v1.Strides D3),(iv v1.Offset),(iv v1.Base)].toArray) (v_loadw 0 ag96 sz96 R R R R)) (hS:=(sL [0])) (dR 2 R (vFa 0 fo96_0 R) (hS:=(sL [0])) (dR 3 R (vLd 0 ag23 R R R) (hS:=(sL [0])) (dR 4 R (vI R) (hS:=(sL [0])) (d1 5 R (lM (RR kT3 A2 D2 v1.Dims::OO kT3 3 A18 D18 x17::W1) (fun w s=>(s.d 2 R)) ?_))))))))
 refine lC 1 cb102 R (Zg_ok hx22) R ?_
 rintro ⟨A23,N23,D23⟩
 refine lN (ow kT3 3 (.slice A23 N23 D23) r21::_::W1) ?_
 refine l_len 0 sees_ow ?_
 rintro rfl
 refine l_nil (q_draw (sL [1,0]) (d1 6 R (lM (ow _ _ _ _::RR kT3 A2 D2 v1.Dims::RR kT3 A3 D3 v1.Strides::ow _ _ _ _::W1) (fun w s=>(((s.d 3 R).d 5 R).e 4 [2,1,0,3])) ?_)))
 refine lC 3 cb144 R (FnOk.lends (A':=[OO kT3 3 A23 D23 r21]) (A:=[RR kT3 A23 D23 r21]) (B:=[RR kT3 A2 D2 v1.Dims,RR kT3 A3 D3 v1.Strides]) (FnOk.perm (Z12_ok hx25) (Pre':=[RR kT3 A23 D23 r21,RR kT3 A2 D2 v1.Dims,RR kT3 A3 D3 v1.Strides]) (fun _ _ _ s=>(s.e 3 [1,2,0]))) ⟨lend_ow,trivial⟩ (fun _=>trivial)) R ?_
 rintro _
 refine lN (_::_::W1) ?_
 refine l_nil (q_draw (sL [1,0]) (d1 7 R (l_build (K:=kT3) (xs:=([r24]:List Int)) (vs:=[(iv r24)]) 0 R R sl23 sz3 zc3 R R R R R R ?_ R (fun A26 D26=>?_))))
 exact fun I h s=>(mO3).list [((),r24)] I h s
 refine lN (OO kT3 3 A26 D26 ([r24]:List Int)::_::_::W1) ?_
 refine l_nil (q_draw (sL [2,1,0]) (d1 8 R (lM (ow _ _ _ _::ow _ _ _ _::ow _ _ _ _::W1) (fun w s=>(s.e 3 [2,0,1])) ?_)))
 refine l_app (K:=kT3) 17592186044416 R R sl23 sz3 by3 (Zr.zk zT3 zc3) R R R R R R src_ow hg27 (fun A28 D28=>(lN (OO kT3 3 A28 D28 (x17++([r24]:List Int))::_::W1) ?_))
 refine l_nil (q_draw (sL [1,0]) (dR 9 R (vS R) (hS:=(sL [1,0])) (dD (q_blockn (q_next (c_region (lI R (lO (vAd R R) (lI R (l_nil ?_))))))))))
 obtain rfl:=so hr
 exact qA (A28,(x17++([r24]:List Int)).length,D28) (fun w s=>(s.e 2 [0]))
 refine c_false R hb20 (c_exit (q_exit ?_))
 obtain rfl:=so hr
 obtain rfl:=he1 _ R
 have hr:=hk1
 refine q_exit (q_block ?_)
 exact qI (x17,(A18,x17.length,D18)) hr (fun w s=>s)
 rintro ⟨x32,⟨A33,N33,D33⟩⟩ σ1 hr
 replace hr:Z0a_J1 x32=some r:=hr
 unfold Z0a_J1 at hr
 refine c_len 0 sees_ow (fun (hn:N33=x32.length)=>?_)
 subst hn
 refine c_seq (c_region (lS R (lS R (l_nil (q_next (c_ret ?_))))))
 obtain rfl:=so hr
 exact qF (A33,x32.length,D33) (fun w s=>(s.e 4 [0]))
theorem Z8_ok  {v1:View}{r:Bool}(hr:Z8 v1=some r) :
 FnOk Tryz.prog 116 [(.agg [(.slice A2 N2 D2),(.slice A3 N3 D3),(iv v1.Offset),(iv v1.Base)].toArray)] [rds kT3 (.slice A2 N2 D2) v1.Dims,rds kT3 (.slice A3 N3 D3) v1.Strides] (fun (h:Unit)=>((.bool r),[])):=by
 unfold Z8 at hr
 refine fn_ok Tryz.func116 R 84 R R fun C V=>?_
 refine cL 0 sees_rd ?_
 rintro rfl
 refine cL 1 sees_rd ?_
 rintro rfl
 let W0:=RR kT3 A2 D2 v1.Dims::RR kT3 A3 D3 v1.Strides::V
 refine cN W0 ?_
 refine o_2 ?_
 refine lBx R fun b4=>?_
 refine o_2 ?_
 let W1:=bxl b4 [(sc A2 v1.Dims D2),(sc A3 v1.Strides D3),(iv v1.Offset),(iv v1.Base)] 96::W0
 refine qN W1 ?_
 refine o_3 ?_
 obtain ⟨r5,hx6,hr⟩:=bd hr
 refine cQ [(1,(pt b4 0)),(40,(.bool ((((((!r5)||((v1.Strides.length:Int) != (v1.Dims.length:Int)))||(decide (v1.Base<1)))||(decide (v1.Base>4096)))||(decide (v1.Offset<0)))||(decide (v1.Offset≥v1.Base)))))] (W1) ?_ ?_
 refine o_3 ?_
 refine lM _ (fun w s=>(s.d 1 R)) ?_
 refine lC 1 cb92 R (Zl_ok hx6) R ?_
 rintro _
 refine lN W1 ?_
 refine o_2 ?_
 rcases bo (!r5) with hc7 | hc7
 refine o_31 ?_
 exact qj tI
 refine o_9 ?_
 rcases bo ((!r5)||((v1.Strides.length:Int) != (v1.Dims.length:Int))) with hc8 | hc8
 refine o_22 ?_
 exact qj tI
 refine o_5 ?_
 rcases bo (((!r5)||((v1.Strides.length:Int) != (v1.Dims.length:Int)))||(decide (v1.Base<1))) with hc9 | hc9
 refine o_17 ?_
 exact qj tI
 refine o_5 ?_
 rcases bo ((((!r5)||((v1.Strides.length:Int) != (v1.Dims.length:Int)))||(decide (v1.Base<1)))||(decide (v1.Base>4096))) with hc10 | hc10
 refine o_12 ?_
 exact qj tI
 refine o_5 ?_
 rcases bo (((((!r5)||((v1.Strides.length:Int) != (v1.Dims.length:Int)))||(decide (v1.Base<1)))||(decide (v1.Base>4096)))||(decide (v1.Offset<0))) with hc11 | hc11
 refine o_7 ?_
 exact qj tI
 refine o_7 ?_
 exact qj tI
 rintro σ1
 refine o_1 ?_
 split at hr
 refine o_8 ?_
 cases hr
 exact qF () (tE 3 [])
 refine o_4 ?_
 refine c_cut (A:=(Unit)×(Unit)) (fun a=>Z8_J1 v1=some r) (fun a=>[(1,(pt b4 0))]) (fun a=>W1) ?_ ?_
 refine o_6 ?_
 obtain ⟨e1,hl1,hk1⟩:=bd hr
 refine c_loop (A:=Unit) hl1 (fun s a=>[(1,(pt b4 0)),(3,(iv s))]) (fun s a=>W1) () (aS R) tI ?_
 rintro i19 _ σ1 out1 hr he1
 dsimp only [Z8_L1] at hr
 refine o_10 ?_
 split at hr
 refine o_6 ?_
 obtain ⟨hg21,hr⟩:=gd hr
 refine cQ [(1,(pt b4 0)),(3,(iv i19)),(61,(.bool ((decide ((ix v1.Strides i19)<(-4096:Int)))||(decide ((ix v1.Strides i19)>4096)))))] (W1) ?_ ?_
 refine o_4 ?_
 refine t_some 2 sees_rd (show 0<v1.Strides.length by have:=hg21; omega) (fun g22 o23 ha=>?_)
 subst ha
 refine o_4 ?_
 rcases bo (decide ((ix v1.Strides i19)<(-4096:Int))) with hc24 | hc24
 refine o_8 ?_
 exact qj tI
 refine o_8 ?_
 exact qj tI
 rintro σ1
 refine o_1 ?_
 split at hr
 refine o_9 ?_
 cases hr
 obtain rfl:=he1 _ R
 have hr:=hk1
 refine o_3 ?_
 cases hr
 exact qF () (tE 3 [])
 refine o_9 ?_
 cases hr
 exact qA () tI
 refine o_3 ?_
 cases hr
 obtain rfl:=he1 _ R
 have hr:=hk1
 refine o_2 ?_
 exact qI ((),()) hr tI
 rintro ⟨_,_⟩ σ1 hr
 dsimp only [Z8_J1] at hr
 refine o_1 ?_
 obtain ⟨r27,hx28,hr⟩:=bd hr
 refine o_2 ?_
 refine lM _ (fun w s=>(((s.d 1 R).d 3 R).e 2 [1,0])) ?_
 refine lC 2 cb117 R (Z0a_ok hx28) R ?_
 rintro ⟨A29,N29,D29⟩
 refine l_len 0 sees_ow ?_
 rintro rfl
 refine o_4 ?_
 refine c_cut (A:=(Unit)×(Unit)) (fun a=>Z8_J2=some r) (fun a=>[]) (fun a=>W1) ?_ ?_
 refine o_6 ?_
 obtain ⟨e2,hl2,hk2⟩:=bd hr
 refine c_loop (A:=Unit) hl2 (fun s a=>[(1,(pt b4 0)),(4,(sc A29 r27 D29)),(5,(iv s))]) (fun s a=>OO kT3 3 A29 D29 r27::W1) () (aS R) tI ?_
 rintro i36 _ σ1 out2 hr he2
 dsimp only [Z8_L2] at hr
 refine o_9 ?_
 split at hr
 refine o_6 ?_
 obtain ⟨hg38,hr⟩:=gd hr
 refine cQ [(1,(pt b4 0)),(4,(sc A29 r27 D29)),(5,(iv i36)),(83,(.bool ((decide ((ix r27 i36)<0))||(decide ((ix r27 i36)≥v1.Base)))))] (OO kT3 3 A29 D29 r27::W1) ?_ ?_
 rcases bo (decide ((ix r27 i36)<0)) with hc41 | hc41
 refine c_some 0 sees_ow (show 0<r27.length by have:=hg38; omega) (fun g39 o40 ha=>?_)
 subst ha
 refine cdr 14 [] mixo fun ht hn=>?_
 refine d14_ 0 [] ?_
 refine dD ?_
 exact qj tI
 refine c_some 0 sees_ow (show 0<r27.length by have:=hg38; omega) (fun g39 o40 ha=>?_)
 subst ha
 refine cdr 14 [] mixo fun ht hn=>?_
 refine d14_ 0 [] ?_
 refine dD ?_
 exact qj tI
 rintro σ1
 refine o_1 ?_
 split at hr
 refine o_9 ?_
 cases hr
 obtain rfl:=he2 _ R
 have hr:=hk2
 refine o_3 ?_
 cases hr
 exact qF () (tE 4 [])
 refine o_9 ?_
 cases hr
 exact qA () tI
 refine o_3 ?_
 cases hr
 obtain rfl:=he2 _ R
 have hr:=hk2
 refine o_2 ?_
 exact q_join ((),()) hr trivial (tE 1 [])
 rintro ⟨_,_⟩ σ1 hr
 dsimp only [Z8_J2] at hr
 refine o_6 ?_
 cases hr
 exact qF () (tE 3 [])
theorem Z02_ok  {v1:View}{dims4:(List Int)}{r:View}(hr:Z02 v1 dims4=some r) :
 FnOk Tryz.prog 83 [(.agg [(.slice A2 N2 D2),(.slice A3 N3 D3),(iv v1.Offset),(iv v1.Base)].toArray),(.slice A5 N5 D5)] [rds kT3 (.slice A2 N2 D2) v1.Dims,rds kT3 (.slice A3 N3 D3) v1.Strides,rds kT3 (.slice A5 N5 D5) dims4] (fun (h:HH×HH)=>((.agg [(s3 h.1),(s3 h.2),(iv r.Offset),(iv r.Base)].toArray),[ow kT3 3 (s3 h.1) r.Dims,ow kT3 3 (s3 h.2) r.Strides])):=by
 unfold Z02 at hr
 refine fn_ok Tryz.func83 R 77 R R fun C V=>?_
 refine cL 0 sees_rd ?_
 rintro rfl
 refine cL 1 sees_rd ?_
 rintro rfl
 refine cL 2 sees_rd ?_
 rintro rfl
 let W0:=RR kT3 A2 D2 v1.Dims::RR kT3 A3 D3 v1.Strides::RR kT3 A5 D5 dims4::V
 refine cN W0 ?_
 refine o_2 ?_
 refine lBx R fun b6=>?_
 refine l_alloc R R zc96 (fun b7=>(l_nil ?_))
 let W1:=bxl b6 [(sc A2 v1.Dims D2),(sc A3 v1.Strides D3),(iv v1.Offset),(iv v1.Base)] 96::W0
 refine o_14 ?_
 obtain ⟨r8,hx9,hr⟩:=bd hr
 obtain ⟨r10,hx11,hr⟩:=bd hr
 refine cQ [(1,(sc A5 dims4 D5)),(2,(pt b6 0)),(4,(pt b7 0)),(5,(iv (w64 ((dims4.length:Int) - (v1.Dims.length:Int))))),(25,(.bool (((!r8)||(!r10))||(decide ((w64 ((dims4.length:Int) - (v1.Dims.length:Int)))<0)))))] (bxl b7 [(.slice none 0 0),(.slice none 0 0),(iv 0),(iv 0)] 96::W1) ?_ ?_
 refine o_2 ?_
 refine lM (RR kT3 A2 D2 v1.Dims::RR kT3 A3 D3 v1.Strides::bxl _ _ _::W1) (fun w s=>(((s.d 2 R).d 4 R).e 3 [1,0,2])) ?_
 refine lC 2 cb116 R (Z8_ok hx9) R ?_
 rintro _
 refine o_2 ?_
 rcases bo (!r8) with hc12 | hc12
 refine o_9 ?_
 exact qj tI
 refine o_1 ?_
 refine lM (RR kT3 A5 D5 dims4::_::W1) (fun w s=>(s.d 4 R)) ?_
 refine l_calln 1 R (wnF hc12) cb92 R (Zl_ok (gcall_t hx11 (not_ff hc12))) R ?_
 rintro _
 refine o_3 ?_
 rcases bo ((!r8)||(!r10)) with hc13 | hc13
 refine o_4 ?_
 exact qj tI
 refine o_4 ?_
 exact qj tI
 rintro σ1
 refine o_1 ?_
 split at hr
 refine o_3 ?_
 refine lO (vz (.agg [(.slice none 0 0),(.slice none 0 0),(iv 0),(iv 0)].toArray) (v_build pl96 zc96 R R)) (l_stores 0 R R sz96 R R R R R R (l_nil (q_next (c_ret (q_ret ?_)))))
 cases hr
 exact qS ((none,0,0),(none,0,0)) (fun w s=>(((s.nilo kT3 3).nilo kT3 3).e 7 [1,0]))
 refine o_4 ?_
 obtain ⟨r15,hx16,hr⟩:=bd hr
 obtain ⟨hg18,hr⟩:=gd hr
 refine c_cutq (A:=(Unit)×(Nat×HH×HH)) (fun _=>True) (fun a=>[(1,(sc A5 dims4 D5)),(2,(pt b6 0)),(4,(pt b7 0)),(5,(iv (w64 ((dims4.length:Int) - (v1.Dims.length:Int))))),(6,(pt a.2.1 0))]) (fun a=>bxl b7 [(.slice none 0 0),(.slice none 0 0),(iv 0),(iv 0)] 96::bxl a.2.1 [(s3 a.2.2.1),(s3 a.2.2.2),(iv v1.Offset),(iv v1.Base)] 96::ow kT3 3 (s3 a.2.2.1) r15::ow kT3 3 (s3 a.2.2.2) (List.replicate (dims4.length:Int).toNat (0:Int))::W1) ?_ ?_
 refine cdr 12 [] mixo fun ht hn=>?_
 refine dR 0 R (vS R) ?_
 refine d2_ 2 [] ?_
 refine d4_ 5 [] ?_
 refine d_all [1,4,10] (by kernel_rfl) R ⟨?_,?_,?_,trivial⟩
 refine lM (RR kT3 A5 D5 dims4::_::W1) (fun w s=>(s.d 4 R)) ?_
 refine lC 1 cb57 R (Zq_ok hx16) R ?_
 rintro ⟨A17,N17,D17⟩
 refine l_len 0 sees_ow ?_
 rintro rfl
 refine l_nil (q_draw (sL [0]) (d_all [4,10] (by kernel_rfl) R ⟨?_,?_,trivial⟩))
 refine l_make (K:=kT3) (m:=(dims4.length:Int)) (z:=(0:Int)) R R sl23 sz3 by3 (Zr.zk zT3 zc3) (by decide) R R hg18.1 hg18.2.1 hg18.2.2 (fun A19 D19=>(l_nil (q_draw (sL [1,0]) (dR 9 R (vz (.agg [(sc A17 r15 D17),(sc A19 (List.replicate (dims4.length:Int).toNat (0:Int)) D19),(iv v1.Offset),(iv v1.Base)].toArray) (v_build pl96 zc96 R R)) (hS:=(sL [1,0])) (d1 10 R (l_alloc R R zc96 (fun b20=>(l_nil (q_draw (sL [2,1,0]) (d1 11 R (l_stores 0 R R sz96 R R R R R R (lN (bxl b20 [(sc A17 r15 D17),(sc A19 (List.replicate (dims4.length:Int).toNat (0:Int)) D19),(iv v1.Offset),(iv v1.Base)] 96::OO kT3 3 A19 D19 (List.replicate (dims4.length:Int).toNat (0:Int))::_::_::W1) ?_))))))))))))
 refine l_nil (q_draw (sL [2,1,0]) (dD ?_))
 exact q_join ((),(b20,(A17,r15.length,D17),(A19,(List.replicate (dims4.length:Int).toNat (0:Int)).length,D19))) trivial (aS R) (tE 4 [3,0,2,1])
 refine l_alloc R R zc96 (fun b20=>(l_nil (q_draw (sL [1,0]) (d1 4 R (l_make (K:=kT3) (m:=(dims4.length:Int)) (z:=(0:Int)) R R sl23 sz3 by3 (Zr.zk zT3 zc3) (by decide) R R hg18.1 hg18.2.1 hg18.2.2 (fun A19 D19=>(l_nil (q_draw (sL [2,1,0]) (dR 9 R (vz (.agg [(sc A17 r15 D17),(sc A19 (List.replicate (dims4.length:Int).toNat (0:Int)) D19),(iv v1.Offset),(iv v1.Base)].toArray) (v_build pl96 zc96 R R)) (hS:=(sL [2,1,0])) (d1 11 R (l_stores 1 R R sz96 R R R R R R (lN (_::_::_::_::W1) ?_))))))))))))
 refine l_nil (q_draw (sL [2,1,0]) (dD ?_))
 exact q_join ((),(b20,(A17,r15.length,D17),(A19,(List.replicate (dims4.length:Int).toNat (0:Int)).length,D19))) trivial (aS R) (tE 4 [3,1,2,0])
 refine l_make (K:=kT3) (m:=(dims4.length:Int)) (z:=(0:Int)) R R sl23 sz3 by3 (Zr.zk zT3 zc3) (by decide) R R hg18.1 hg18.2.1 hg18.2.2 (fun A19 D19=>(l_nil (q_draw (sL [0]) (d_all [1,10] (by kernel_rfl) R ⟨?_,?_,trivial⟩))))
 refine lM (RR kT3 A5 D5 dims4::_::_::W1) (fun w s=>(s.d 5 R)) ?_
 refine lC 1 cb57 R (Zq_ok hx16) R ?_
 rintro ⟨A17,N17,D17⟩
 refine l_len 0 sees_ow ?_
 rintro rfl
 refine l_nil (q_draw (sL [1,0]) (dR 9 R (vz (.agg [(sc A17 r15 D17),(sc A19 (List.replicate (dims4.length:Int).toNat (0:Int)) D19),(iv v1.Offset),(iv v1.Base)].toArray) (v_build pl96 zc96 R R)) (hS:=(sL [1,0])) (d1 10 R (l_alloc R R zc96 (fun b20=>(l_nil (q_draw (sL [2,1,0]) (d1 11 R (l_stores 0 R R sz96 R R R R R R (lN (bxl b20 [(sc A17 r15 D17),(sc A19 (List.replicate (dims4.length:Int).toNat (0:Int)) D19),(iv v1.Offset),(iv v1.Base)] 96::_::_::_::W1) ?_))))))))))
 refine l_nil (q_draw (sL [2,1,0]) (dD ?_))
 exact q_join ((),(b20,(A17,r15.length,D17),(A19,(List.replicate (dims4.length:Int).toNat (0:Int)).length,D19))) trivial (aS R) (tE 4 [3,0,1,2])
 refine l_alloc R R zc96 (fun b20=>(l_nil (q_draw (sL [1,0]) (d1 1 R (lM (RR kT3 A5 D5 dims4::_::_::_::W1) (fun w s=>(s.d 6 R)) ?_)))))
 refine lC 1 cb57 R (Zq_ok hx16) R ?_
 rintro ⟨A17,N17,D17⟩
 refine l_len 0 sees_ow ?_
 rintro rfl
 refine l_nil (q_draw (sL [2,1,0]) (dR 9 R (vz (.agg [(sc A17 r15 D17),(sc A19 (List.replicate (dims4.length:Int).toNat (0:Int)) D19),(iv v1.Offset),(iv v1.Base)].toArray) (v_build pl96 zc96 R R)) (hS:=(sL [2,1,0])) (d1 11 R (l_stores 1 R R sz96 R R R R R R (lN (_::bxl b20 [(sc A17 r15 D17),(sc A19 (List.replicate (dims4.length:Int).toNat (0:Int)) D19),(iv v1.Offset),(iv v1.Base)] 96::_::_::W1) ?_)))))
 refine l_nil (q_draw (sL [2,1,0]) (dD ?_))
 exact q_join ((),(b20,(A17,r15.length,D17),(A19,(List.replicate (dims4.length:Int).toNat (0:Int)).length,D19))) trivial (aS R) (tE 4 [3,1,0,2])
 refine l_alloc R R zc96 (fun b20=>(l_nil (q_draw (sL [0]) (d_all [1,4] (by kernel_rfl) R ⟨?_,?_,trivial⟩))))
 refine lM (RR kT3 A5 D5 dims4::_::_::W1) (fun w s=>(s.d 5 R)) ?_
 refine lC 1 cb57 R (Zq_ok hx16) R ?_
 rintro ⟨A17,N17,D17⟩
 refine l_len 0 sees_ow ?_
 rintro rfl
 refine l_nil (q_draw (sL [1,0]) (d1 4 R (l_make (K:=kT3) (m:=(dims4.length:Int)) (z:=(0:Int)) R R sl23 sz3 by3 (Zr.zk zT3 zc3) (by decide) R R hg18.1 hg18.2.1 hg18.2.2 (fun A19 D19=>(l_nil (q_draw (sL [2,1,0]) (dR 9 R (vz (.agg [(sc A17 r15 D17),(sc A19 (List.replicate (dims4.length:Int).toNat (0:Int)) D19),(iv v1.Offset),(iv v1.Base)].toArray) (v_build pl96 zc96 R R)) (hS:=(sL [2,1,0])) (d1 11 R (l_stores 2 R R sz96 R R R R R R (lN (OO kT3 3 A19 D19 (List.replicate (dims4.length:Int).toNat (0:Int))::_::bxl b20 [(sc A17 r15 D17),(sc A19 (List.replicate (dims4.length:Int).toNat (0:Int)) D19),(iv v1.Offset),(iv v1.Base)] 96::_::W1) ?_))))))))))
 refine l_nil (q_draw (sL [2,1,0]) (dD ?_))
 exact q_join ((),(b20,(A17,r15.length,D17),(A19,(List.replicate (dims4.length:Int).toNat (0:Int)).length,D19))) trivial (aS R) (tE 4 [3,2,1,0])
 refine l_make (K:=kT3) (m:=(dims4.length:Int)) (z:=(0:Int)) R R sl23 sz3 by3 (Zr.zk zT3 zc3) (by decide) R R hg18.1 hg18.2.1 hg18.2.2 (fun A19 D19=>(l_nil (q_draw (sL [1,0]) (d1 1 R (lM (RR kT3 A5 D5 dims4::_::bxl b20 [(.slice none 0 0),(.slice none 0 0),(iv 0),(iv 0)] 96::_::W1) (fun w s=>(s.d 6 R)) ?_)))))
 refine lC 1 cb57 R (Zq_ok hx16) R ?_
 rintro ⟨A17,N17,D17⟩
 refine l_len 0 sees_ow ?_
 rintro rfl
 refine l_nil (q_draw (sL [2,1,0]) (dR 9 R (vz (.agg [(sc A17 r15 D17),(sc A19 (List.replicate (dims4.length:Int).toNat (0:Int)) D19),(iv v1.Offset),(iv v1.Base)].toArray) (v_build pl96 zc96 R R)) (hS:=(sL [2,1,0])) (d1 11 R (l_stores 2 R R sz96 R R R R R R (lN (_::_::bxl b20 [(sc A17 r15 D17),(sc A19 (List.replicate (dims4.length:Int).toNat (0:Int)) D19),(iv v1.Offset),(iv v1.Base)] 96::_::W1) ?_)))))
 refine l_nil (q_draw (sL [2,1,0]) (dD ?_))
 exact q_join ((),(b20,(A17,r15.length,D17),(A19,(List.replicate (dims4.length:Int).toNat (0:Int)).length,D19))) trivial (aS R) (tE 4 [3,2,0,1])
 rintro ⟨_,⟨b21,⟨A22,N22,D22⟩,⟨A23,N23,D23⟩⟩⟩ σ1 -
 refine q_len 2 sees_ow (fun (hn:N22=r15.length)=>?_)
 subst hn
 refine q_len 3 sees_ow (fun (hn:N23=(List.replicate (dims4.length:Int).toNat (0:Int)).length)=>?_)
 subst hn
 refine o_2 ?_
 refine c_cut (A:=((List Int))×(Unit)) (fun a=>Z02_J3 v1 r15 a.1=some r) (fun a=>[(4,(pt b7 0)),(6,(pt b21 0))]) (fun a=>bxl b7 [(.slice none 0 0),(.slice none 0 0),(iv 0),(iv 0)] 96::bxl b21 [(sc A22 r15 D22),(sc A23 (List.replicate (dims4.length:Int).toNat (0:Int)) D23),(iv v1.Offset),(iv v1.Base)] 96::OO kT3 3 A22 D22 r15::ow kT3 3 (.slice A23 (List.replicate (dims4.length:Int).toNat (0:Int)).length D23) a.1::W1) ?_ ?_
 refine o_6 ?_
 obtain ⟨e1,hl1,hk1⟩:=bd hr
 refine c_loop (A:=Unit) hl1 (fun s a=>[(1,(sc A5 dims4 D5)),(2,(pt b6 0)),(4,(pt b7 0)),(5,(iv (w64 ((dims4.length:Int) - (v1.Dims.length:Int))))),(6,(pt b21 0)),(7,(iv s.2))]) (fun s a=>bxl b7 [(.slice none 0 0),(.slice none 0 0),(iv 0),(iv 0)] 96::bxl b21 [(sc A22 r15 D22),(sc A23 (List.replicate (dims4.length:Int).toNat (0:Int)) D23),(iv v1.Offset),(iv v1.Base)] 96::OO kT3 3 A22 D22 r15::ow kT3 3 (.slice A23 (List.replicate (dims4.length:Int).toNat (0:Int)).length D23) s.1::W1) () (aS R) tI ?_
 rintro ⟨x42,i43⟩ _ σ1 out1 hr he1
 dsimp only [Z02_L1] at hr
 refine o_10 ?_
 rcases bif_ hr with ⟨hb44,hr⟩|⟨hb44,hr⟩
 refine o_4 ?_
 refine c_cut (A:=((List Int))×(Unit)) (fun a=>Z02_J2 i43 a.1=some out1) (fun a=>[(1,(sc A5 dims4 D5)),(2,(pt b6 0)),(4,(pt b7 0)),(5,(iv (w64 ((dims4.length:Int) - (v1.Dims.length:Int))))),(6,(pt b21 0)),(7,(iv i43))]) (fun a=>bxl b7 [(.slice none 0 0),(.slice none 0 0),(iv 0),(iv 0)] 96::bxl b21 [(sc A22 r15 D22),(sc A23 (List.replicate (dims4.length:Int).toNat (0:Int)) D23),(iv v1.Offset),(iv v1.Base)] 96::OO kT3 3 A22 D22 r15::ow kT3 3 (.slice A23 (List.replicate (dims4.length:Int).toNat (0:Int)).length D23) a.1::W1) ?_ ?_
 refine o_3 ?_
 obtain ⟨hg45,hr⟩:=gd hr
 obtain ⟨hg48,hr⟩:=gd hr
 refine c_some 5 sees_rd (show 0<v1.Dims.length by have:=hg45; omega) (fun g46 o47 ha=>?_)
 subst ha
 refine c_some 7 sees_rd (show 0<dims4.length by have:=hg48; omega) (fun g49 o50 ha=>?_)
 subst ha
 refine cdr 13 [] mixo fun ht hn=>?_
 refine d13_ 0 [] ?_
 refine dD (q_next ?_)
 rcases bif_ hr with ⟨hb51,hr⟩|⟨hb51,hr⟩
 refine o_1 ?_
 obtain ⟨hg52,hr⟩:=gd hr
 obtain ⟨hg55,hr⟩:=gd hr
 refine c_some 6 sees_rd (show 0<v1.Strides.length by have:=hg52; omega) (fun g53 o54 ha=>?_)
 subst ha
 refine c_some 3 sees_ow (show 0<(List.replicate (dims4.length:Int).toNat (0:Int)).length by have:=hg55; omega) (fun g56 o57 ha=>?_)
 subst ha
 refine cdr 12 [3] mixo fun ht hn=>?_
 refine d11_ 0 [3] ?_
 refine d1 11 R (lM (ow kT3 3 (.slice (ad g56 o57) (List.replicate (dims4.length:Int).toNat (0:Int)).length D23) x42::bxl _ _ _::bxl b21 [(sc A22 r15 D22),(sc (ad g56 o57) (List.replicate (dims4.length:Int).toNat (0:Int)) D23),(iv v1.Offset),(iv v1.Base)] 96::OO kT3 3 A22 D22 r15::W1) (tE 4 [3,0,1,2]) ?_)
 refine l_stx (K:=kT3) (x':=(ix v1.Strides i43)) 0 (w64 ((w64 ((dims4.length:Int) - (v1.Dims.length:Int)))+i43)) R R sz3 R R hg55.1 hg55.2 ?_ ?_
 exact fun I h s=>(mO3).put I h () (ix v1.Strides i43) s
 refine l_nil (q_draw (sL [0]) (dD ?_))
 obtain ⟨l58,hl59,hr⟩:=bd hr
 replace hl59:=Option.some.inj hl59
 refine qM (ow kT3 3 (.slice (ad g56 o57) (List.replicate (dims4.length:Int).toNat (0:Int)).length D23) l58::_::_::_::W1) (fun w s=>by rw [← hl59]; exact s) ?_
 refine o_2 ?_
 exact qI (l58,()) hr (tE 4 [1,2,3,0])
 refine c_false R hb51 ?_
 refine o_11 ?_
 rcases bif_ hr with ⟨hb60,hr⟩|⟨hb60,hr⟩
 refine o_3 ?_
 refine lO (vz (.agg [(.slice none 0 0),(.slice none 0 0),(iv 0),(iv 0)].toArray) (v_build pl96 zc96 R R)) (l_stores 0 R R sz96 R R R R R R (lN (_::bxl b21 [(sc A22 r15 D22),(sc A23 (List.replicate (dims4.length:Int).toNat (0:Int)) D23),(iv v1.Offset),(iv v1.Base)] 96::_::ow kT3 3 (.slice A23 (List.replicate (dims4.length:Int).toNat (0:Int)).length D23) x42::W1) ?_))
 refine o_6 ?_
 cases hr
 obtain rfl:=he1 _ R
 have hr:=hk1
 refine o_3 ?_
 cases hr
 exact qS ((none,0,0),(none,0,0)) (fun w s=>(((s.nilo kT3 3).nilo kT3 3).e 10 [1,0]))
 refine c_false R hb60 ?_
 refine o_3 ?_
 exact qI (x42,()) hr tI
 rintro ⟨x61,_⟩ σ1 hr
 dsimp only [Z02_J2] at hr
 refine o_5 ?_
 cases hr
 exact qA () tI
 refine c_false R hb44 ?_
 refine o_2 ?_
 cases hr
 obtain rfl:=he1 _ R
 have hr:=hk1
 refine o_2 ?_
 exact qI (x42,()) hr tI
 rintro ⟨x64,_⟩ σ1 hr
 dsimp only [Z02_J3] at hr
 refine o_3 ?_
 refine l_stores 0 R R sz96 R R R R R R (lN (bxl b7 [(sc A22 r15 D22),(sc A23 (List.replicate (dims4.length:Int).toNat (0:Int)) D23),(iv v1.Offset),(iv v1.Base)] 96::_::_::ow kT3 3 (.slice A23 (List.replicate (dims4.length:Int).toNat (0:Int)).length D23) x64::W1) ?_)
 refine o_3 ?_
 cases hr
 exact qS ((A22,r15.length,D22),(A23,(List.replicate (dims4.length:Int).toNat (0:Int)).length,D23)) (tE 8 [2,3])
theorem Z00_ok  {t1:Tensor}{v4:View}{r:Tensor}(hr:Z00 t1 v4=some r) :
 FnOk Tryz.prog 82 [(.agg [(.slice A2 N2 D2),(.slice A3 N3 D3)].toArray),(.agg [(.slice A5 N5 D5),(.slice A6 N6 D6),(iv v4.Offset),(iv v4.Base)].toArray)] [rds kT3 (.slice A2 N2 D2) t1.Dims,rds kT3 (.slice A3 N3 D3) t1.Data,rds kT3 (.slice A5 N5 D5) v4.Dims,rds kT3 (.slice A6 N6 D6) v4.Strides] (fun (h:HH×HH)=>((.agg [(s3 h.1),(s3 h.2)].toArray),[ow kT3 3 (s3 h.1) r.Dims,ow kT3 3 (s3 h.2) r.Data])):=by
 unfold Z00 at hr
 refine fn_ok Tryz.func82 R 51 R R fun C V=>?_
 refine cL 0 sees_rd ?_
 rintro rfl
 refine cL 1 sees_rd ?_
 rintro rfl
 refine cL 2 sees_rd ?_
 rintro rfl
 refine cL 3 sees_rd ?_
 rintro rfl
 let W0:=RR kT3 A2 D2 t1.Dims::RR kT3 A3 D3 t1.Data::RR kT3 A5 D5 v4.Dims::RR kT3 A6 D6 v4.Strides::V
 refine cN W0 ?_
 refine o_2 ?_
 refine lBx R fun b7=>?_
 refine lBx R fun b8=>?_
 refine l_alloc R R zc58 (fun b9=>(l_nil ?_))
 let W1:=bxl b8 [(sc A5 v4.Dims D5),(sc A6 v4.Strides D6),(iv v4.Offset),(iv v4.Base)] 96::bxl b7 [(sc A2 t1.Dims D2),(sc A3 t1.Data D3)] 58::W0
 refine o_3 ?_
 obtain ⟨r10,hx11,hr⟩:=bd hr
 obtain ⟨r12,hx13,hr⟩:=bd hr
 refine cQ [(2,(pt b7 0)),(3,(pt b8 0)),(4,(pt b9 0)),(23,(.bool (((!r10)||(!r12))||(v4.Base != (t1.Data.length:Int)))))] (bxl b9 [(.slice none 0 0),(.slice none 0 0)] 58::W1) ?_ ?_
 refine o_2 ?_
 refine lM _ (fun w s=>(((s.d 3 R).d 5 R).e 3 [1,0,2])) ?_
 refine lC 2 cb55 R (Zo_ok hx11) R ?_
 rintro _
 refine o_2 ?_
 rcases bo (!r10) with hc14 | hc14
 refine o_13 ?_
 exact qj tI
 refine o_1 ?_
 refine lM _ (fun w s=>(((s.d 5 R).d 7 R).e 3 [1,0,2])) ?_
 refine l_calln 2 R (wnF hc14) cb116 R (Z8_ok (gcall_t hx13 (not_ff hc14))) R ?_
 rintro _
 refine o_3 ?_
 rcases bo ((!r10)||(!r12)) with hc15 | hc15
 refine o_8 ?_
 exact qj tI
 refine o_8 ?_
 exact qj tI
 rintro σ1
 refine o_1 ?_
 split at hr
 refine o_3 ?_
 refine lO (vz (.agg [(.slice none 0 0),(.slice none 0 0)].toArray) (v_build pl58 zc58 R R)) (l_stores 0 R R sz58 R R R R R R (l_nil (q_next (c_ret (q_ret ?_)))))
 cases hr
 exact qS ((none,0,0),(none,0,0)) (fun w s=>(((s.nilo kT3 3).nilo kT3 3).e 9 [1,0]))
 refine o_4 ?_
 obtain ⟨r17,hx18,hr⟩:=bd hr
 refine o_3 ?_
 refine lM _ (fun w s=>(s.d 5 R)) ?_
 refine lC 1 cb57 R (Zq_ok hx18) R ?_
 rintro ⟨A19,N19,D19⟩
 refine l_len 0 sees_ow ?_
 rintro rfl
 refine lO (vz (.agg [(sc A19 r17 D19),(.slice none 0 0)].toArray) (v_build pl58 zc58 R R)) (l_alloc R R zc58 (fun b20=>(l_stores 0 R R sz58 R R R R R R (lN (bxl b20 [(sc A19 r17 D19),(.slice none 0 0)] 58::_::_::W1) ?_))))
 refine o_3 ?_
 obtain ⟨r21,hx22,hr⟩:=bd hr
 refine o_2 ?_
 refine lM _ (fun w s=>(((s.d 7 R).d 9 R).e 5 [1,0,2,3,4])) ?_
 refine lC 2 cb117 R (Z0a_ok hx22) R ?_
 rintro ⟨A23,N23,D23⟩
 refine l_len 0 sees_ow ?_
 rintro rfl
 refine o_4 ?_
 refine c_cut (A:=((List Int))×(HH)) (fun a=>Z00_J1 r17 a.1=some r) (fun a=>[(4,(pt b9 0)),(5,(pt b20 0))]) (fun a=>bxl b9 [(.slice none 0 0),(.slice none 0 0)] 58::bxl b20 [(sc A19 r17 D19),(s3 a.2)] 58::OO kT3 3 A19 D19 r17::ow kT3 3 (s3 a.2) a.1::W1) ?_ ?_
 refine o_6 ?_
 obtain ⟨e1,hl1,hk1⟩:=bd hr
 refine c_loop (A:=HH) hl1 (fun s a=>[(2,(pt b7 0)),(4,(pt b9 0)),(5,(pt b20 0)),(6,(sc A23 r21 D23)),(7,(iv s.2))]) (fun s a=>bxl b9 [(.slice none 0 0),(.slice none 0 0)] 58::bxl b20 [(sc A19 r17 D19),(s3 a)] 58::OO kT3 3 A19 D19 r17::ow kT3 3 (s3 a) s.1::OO kT3 3 A23 D23 r21::W1) (none,0,0) (aS R) (fun w s=>((s.nilo kT3 3).e 5 [4,2,3,0,1])) ?_
 rintro ⟨x35,i37⟩ ⟨A36,N36,D36⟩ σ1 out1 hr he1
 dsimp only [Z00_L1] at hr
 refine c_len 3 sees_ow (fun (hn:N36=x35.length)=>?_)
 subst hn
 refine o_9 ?_
 rcases bif_ hr with ⟨hb38,hr⟩|⟨hb38,hr⟩
 refine o_5 ?_
 obtain ⟨hg39,hr⟩:=gd hr
 obtain ⟨hg42,hr⟩:=gd hr
 obtain ⟨hg46,hr⟩:=gd hr
 refine c_cutq (A:=(Unit)×(HH)) (fun _=>True) (fun a=>[(2,(pt b7 0)),(4,(pt b9 0)),(5,(pt b20 0)),(6,(sc A23 r21 D23)),(7,(iv i37))]) (fun a=>bxl b9 [(.slice none 0 0),(.slice none 0 0)] 58::bxl b20 [(sc A19 r17 D19),(s3 a.2)] 58::OO kT3 3 A19 D19 r17::ow kT3 3 (s3 a.2) (x35++([(ix t1.Data (ix r21 i37))]:List Int))::OO kT3 3 A23 D23 r21::W1) ?_ ?_
 refine c_some 4 sees_ow (show 0<r21.length by have:=hg39; omega) (fun g40 o41 ha=>?_)
 subst ha
 refine c_some 8 sees_rd (show 0<t1.Data.length by have:=hg42; omega) (fun g43 o44 ha=>?_)
 subst ha
 refine cdr 14 [3,1] mixo fun ht hn=>?_
 refine d1_ 0 [3,1] ?_
 refine d8_ 2 [3,1] ?_
 refine d_all [1,10] (by kernel_rfl) R ⟨?_,?_,trivial⟩
 refine lO (vLd 1 ag23 R R R) (l_nil (q_draw (sL [3,1]) (d1 10 R (l_build (K:=kT3) (xs:=([(ix t1.Data (ix r21 i37))]:List Int)) (vs:=[(iv (ix t1.Data (ix r21 i37)))]) 0 R R sl23 sz3 zc3 R R R R R R ?_ R (fun A45 D45=>?_)))))
 exact fun I h s=>(mO3).list [((),(ix t1.Data (ix r21 i37)))] I h s
 refine l_nil (q_draw (sL [4,2,0]) (d1 11 R (lM _ (tE 6 [4,0,1,2,3,5]) ?_)))
 refine l_app (K:=kT3) 17592186044416 R R sl23 sz3 by3 (Zr.zk zT3 zc3) R R R R R R src_ow hg46 (fun A47 D47=>(lN (OO kT3 3 A47 D47 (x35++([(ix t1.Data (ix r21 i37))]:List Int))::_::_::_::_::W1) ?_))
 refine l_nil (q_draw (sL [2,0]) ?_)
 refine d1_ 12 [2,0] ?_
 refine d1 13 R (l_store 2 R R sz23 R R R R R (lN (_::_::bxl b20 [(sc A19 r17 D19),(sc A47 (x35++([(ix t1.Data (ix r21 i37))]:List Int)) D47)] 58::_::_::W1) ?_))
 refine l_nil (q_draw (sL [2,0]) (dD ?_))
 exact q_join ((),(A47,(x35++([(ix t1.Data (ix r21 i37))]:List Int)).length,D47)) trivial (aS R) (tE 5 [1,2,3,0,4])
 refine l_build (K:=kT3) (xs:=([(ix t1.Data (ix r21 i37))]:List Int)) (vs:=[(iv (ix t1.Data (ix r21 i37)))]) 0 R R sl23 sz3 zc3 R R R R R R ?_ R (fun A45 D45=>?_)
 exact fun I h s=>(mO3).list [((),(ix t1.Data (ix r21 i37)))] I h s
 refine l_nil (q_draw (sL [4,2,0]) (d1 1 R (lO (vLd 2 ag23 R R R) (l_nil (q_draw (sL [4,2,0]) (d1 11 R (lM _ (tE 6 [4,0,1,2,3,5]) ?_)))))))
 refine l_app (K:=kT3) 17592186044416 R R sl23 sz3 by3 (Zr.zk zT3 zc3) R R R R R R src_ow hg46 (fun A47 D47=>(lN (OO kT3 3 A47 D47 (x35++([(ix t1.Data (ix r21 i37))]:List Int))::_::_::_::_::W1) ?_))
 refine l_nil (q_draw (sL [2,0]) ?_)
 refine d1_ 12 [2,0] ?_
 refine d1 13 R (l_store 2 R R sz23 R R R R R (lN (_::_::bxl b20 [(sc A19 r17 D19),(sc A47 (x35++([(ix t1.Data (ix r21 i37))]:List Int)) D47)] 58::_::_::W1) ?_))
 refine l_nil (q_draw (sL [2,0]) (dD ?_))
 exact q_join ((),(A47,(x35++([(ix t1.Data (ix r21 i37))]:List Int)).length,D47)) trivial (aS R) (tE 5 [1,2,3,0,4])
 rintro ⟨_,⟨A48,N48,D48⟩⟩ σ1 -
 refine q_len 3 sees_ow (fun (hn:N48=(x35++([(ix t1.Data (ix r21 i37))]:List Int)).length)=>?_)
 subst hn
 refine o_7 ?_
 cases hr
 exact qA (A48,(x35++([(ix t1.Data (ix r21 i37))]:List Int)).length,D48) tI
 refine c_false R hb38 ?_
 refine o_2 ?_
 cases hr
 obtain rfl:=he1 _ R
 have hr:=hk1
 refine o_2 ?_
 exact qI (x35,(A36,x35.length,D36)) hr (fun w s=>(s.f 5 [0,4]))
 rintro ⟨x52,⟨A53,N53,D53⟩⟩ σ1 hr
 dsimp only [Z00_J1] at hr
 refine c_len 3 sees_ow (fun (hn:N53=x52.length)=>?_)
 subst hn
 refine o_3 ?_
 refine l_stores 0 R R sz58 R R R R R R (lN (bxl b9 [(sc A19 r17 D19),(sc A53 x52 D53)] 58::bxl b20 [(sc A19 r17 D19),(sc A53 x52 D53)] 58::_::OO kT3 3 A53 D53 x52::W1) ?_)
 refine o_3 ?_
 cases hr
 exact qS ((A19,r17.length,D19),(A53,x52.length,D53)) (tE 10 [2,3])
theorem Z09_ok  {v1:View}{dims4:(List Int)}{r:View}(hr:Z09 v1 dims4=some r) :
 FnOk Tryz.prog 85 [(.agg [(.slice A2 N2 D2),(.slice A3 N3 D3),(iv v1.Offset),(iv v1.Base)].toArray),(.slice A5 N5 D5)] [rds kT3 (.slice A2 N2 D2) v1.Dims,rds kT3 (.slice A3 N3 D3) v1.Strides,rds kT3 (.slice A5 N5 D5) dims4] (fun (h:HH×HH)=>((.agg [(s3 h.1),(s3 h.2),(iv r.Offset),(iv r.Base)].toArray),[ow kT3 3 (s3 h.1) r.Dims,ow kT3 3 (s3 h.2) r.Strides])):=by
 unfold Z09 at hr
 refine fn_ok Tryz.func85 R 77 R R fun C V=>?_
 refine cL 0 sees_rd ?_
 rintro rfl
 refine cL 1 sees_rd ?_
 rintro rfl
 refine cL 2 sees_rd ?_
 rintro rfl
 let W0:=RR kT3 A2 D2 v1.Dims::RR kT3 A3 D3 v1.Strides::RR kT3 A5 D5 dims4::V
 refine cN W0 ?_
 refine o_2 ?_
 refine lBx R fun b6=>?_
 refine l_alloc R R zc96 (fun b7=>(l_nil ?_))
 let W1:=bxl b6 [(sc A2 v1.Dims D2),(sc A3 v1.Strides D3),(iv v1.Offset),(iv v1.Base)] 96::W0
 refine o_3 ?_
 obtain ⟨r8,hx9,hr⟩:=bd hr
 obtain ⟨r10,hx11,hr⟩:=bd hr
 obtain ⟨r12,hx13,hr⟩:=bd hr
 obtain ⟨r14,hx15,hr⟩:=bd hr
 refine cQ [(1,(sc A5 dims4 D5)),(2,(pt b6 0)),(4,(pt b7 0)),(24,(.bool (((!r8)||(!r10))||(r12 != r14))))] (bxl b7 [(.slice none 0 0),(.slice none 0 0),(iv 0),(iv 0)] 96::W1) ?_ ?_
 rcases bo (!r8) with hc16 | hc16
 refine cdr 16 [] mixo fun ht hn=>?_
 refine d1_ 0 [] ?_
 refine d1 1 R (lM _ (fun w s=>(((s.d 2 R).d 4 R).e 3 [1,0,2])) ?_)
 refine lC 2 cb116 R (Z8_ok hx9) R ?_
 rintro _
 refine l_nil (q_draw (sL []) ?_)
 refine d14_ 2 [] ?_
 refine dD ?_
 exact qj tI
 rcases bo ((!r8)||(!r10)) with hc17 | hc17
 refine cdr 16 [] mixo fun ht hn=>?_
 refine d1_ 0 [] ?_
 refine d1 1 R (lM _ (fun w s=>(((s.d 2 R).d 4 R).e 3 [1,0,2])) ?_)
 refine lC 2 cb116 R (Z8_ok hx9) R ?_
 rintro _
 refine l_nil (q_draw (sL []) ?_)
 refine d3_ 2 [] ?_
 refine d1 5 R (lM _ (fun w s=>(s.d 4 R)) ?_)
 refine l_calln 1 R (wnF hc16) cb92 R (Zl_ok (gcall_t hx11 (not_ff hc16))) R ?_
 rintro _
 refine l_nil (q_draw (sL []) ?_)
 refine d10_ 6 [] ?_
 refine dD ?_
 exact qj tI
 refine cdr 16 [] mixo fun ht hn=>?_
 refine d1_ 0 [] ?_
 refine d1 1 R (lM _ (fun w s=>(((s.d 2 R).d 4 R).e 3 [1,0,2])) ?_)
 refine lC 2 cb116 R (Z8_ok hx9) R ?_
 rintro _
 refine l_nil (q_draw (sL []) ?_)
 refine d3_ 2 [] ?_
 refine d1 5 R (lM _ (fun w s=>(s.d 4 R)) ?_)
 refine l_calln 1 R (wnF hc16) cb92 R (Zl_ok (gcall_t hx11 (not_ff hc16))) R ?_
 rintro _
 refine l_nil (q_draw (sL []) ?_)
 refine d4_ 6 [] ?_
 refine d2_ 11 [] ?_
 refine d1 10 R (lM _ (fun w s=>(s.d 4 R)) ?_)
 refine l_calln 1 R (wnF hc17) cb95 R (Zt_ok (gcall_t hx13 (not_ff hc17))) R ?_
 rintro _
 refine l_nil (q_draw (sL []) (d1 13 R (lM _ (fun w s=>(s.d 2 R)) ?_)))
 refine l_calln 1 R (wnF hc17) cb95 R (Zt_ok (gcall_t hx15 (not_ff hc17))) R ?_
 rintro _
 refine l_nil (q_draw (sL []) ?_)
 refine d2_ 14 [] ?_
 refine dD ?_
 exact qj tI
 rintro σ1
 refine o_1 ?_
 split at hr
 refine o_3 ?_
 refine lO (vz (.agg [(.slice none 0 0),(.slice none 0 0),(iv 0),(iv 0)].toArray) (v_build pl96 zc96 R R)) (l_stores 0 R R sz96 R R R R R R (l_nil (q_next (c_ret (q_ret ?_)))))
 cases hr
 exact qS ((none,0,0),(none,0,0)) (fun w s=>(((s.nilo kT3 3).nilo kT3 3).e 7 [1,0]))
 refine o_4 ?_
 obtain ⟨r19,hx20,hr⟩:=bd hr
 refine o_2 ?_
 refine lM _ (fun w s=>(((s.d 2 R).d 4 R).e 3 [1,0,2])) ?_
 refine lC 2 cb117 R (Z0a_ok hx20) R ?_
 rintro ⟨A21,N21,D21⟩
 refine l_len 0 sees_ow ?_
 rintro rfl
 refine o_4 ?_
 obtain ⟨r22,hx23,hr⟩:=bd hr
 obtain ⟨hg25,hr⟩:=gd hr
 refine c_cutq (A:=(Unit)×(Nat×HH)) (fun _=>True) (fun a=>[(1,(sc A5 dims4 D5)),(4,(pt b7 0)),(5,(sc A21 r19 D21)),(6,(pt a.2.1 0))]) (fun a=>bxl b7 [(.slice none 0 0),(.slice none 0 0),(iv 0),(iv 0)] 96::OO kT3 3 A21 D21 r19::bxl a.2.1 [(s3 a.2.2),(.slice none 0 0),(iv (ix r19 0)),(iv v1.Base)] 96::ow kT3 3 (s3 a.2.2) r22::W1) ?_ ?_
 refine c_some 0 sees_ow (show 0<r19.length by have:=hg25; omega) (fun g26 o27 ha=>?_)
 subst ha
 refine cdr 10 [] mixo fun ht hn=>?_
 refine dR 0 R (vS R) ?_
 refine d5_ 2 [] ?_
 refine d_all [1,8] (by kernel_rfl) R ⟨?_,?_,trivial⟩
 refine lM _ (fun w s=>(s.d 5 R)) ?_
 refine lC 1 cb57 R (Zq_ok hx23) R ?_
 rintro ⟨A24,N24,D24⟩
 refine l_len 0 sees_ow ?_
 rintro rfl
 refine l_nil (q_draw (sL [0]) (dR 7 R (vz (.agg [(sc A24 r22 D24),(.slice none 0 0),(iv (ix r19 0)),(iv v1.Base)].toArray) (v_build pl96 zc96 R R)) (hS:=(sL [0])) (d1 8 R (l_alloc R R zc96 (fun b28=>(l_nil (q_draw (sL [1,0]) (d1 9 R (l_stores 0 R R sz96 R R R R R R (lN (bxl b28 [(sc A24 r22 D24),(.slice none 0 0),(iv (ix r19 0)),(iv v1.Base)] 96::_::_::_::W1) ?_))))))))))
 refine l_nil (q_draw (sL [1,0]) (dD ?_))
 exact q_join ((),(b28,(A24,r22.length,D24))) trivial (aS R) (tE 4 [3,2,0,1])
 refine l_alloc R R zc96 (fun b28=>(l_nil (q_draw (sL [0]) (d1 1 R (lM _ (fun w s=>(s.d 6 R)) ?_)))))
 refine lC 1 cb57 R (Zq_ok hx23) R ?_
 rintro ⟨A24,N24,D24⟩
 refine l_len 0 sees_ow ?_
 rintro rfl
 refine l_nil (q_draw (sL [1,0]) (dR 7 R (vz (.agg [(sc A24 r22 D24),(.slice none 0 0),(iv (ix r19 0)),(iv v1.Base)].toArray) (v_build pl96 zc96 R R)) (hS:=(sL [1,0])) (d1 9 R (l_stores 1 R R sz96 R R R R R R (lN (_::bxl b28 [(sc A24 r22 D24),(.slice none 0 0),(iv (ix r19 0)),(iv v1.Base)] 96::_::_::W1) ?_)))))
 refine l_nil (q_draw (sL [1,0]) (dD ?_))
 exact q_join ((),(b28,(A24,r22.length,D24))) trivial (aS R) (tE 4 [3,2,1,0])
 rintro ⟨_,⟨b29,⟨A30,N30,D30⟩⟩⟩ σ1 -
 refine q_len 3 sees_ow (fun (hn:N30=r22.length)=>?_)
 subst hn
 refine o_2 ?_
 refine c_cut (A:=((List Int))×(HH)) (fun a=>Z09_J3 v1 r19 r22 a.1=some r) (fun a=>[(4,(pt b7 0)),(5,(sc A21 r19 D21)),(6,(pt b29 0))]) (fun a=>bxl b7 [(.slice none 0 0),(.slice none 0 0),(iv 0),(iv 0)] 96::OO kT3 3 A21 D21 r19::bxl b29 [(sc A30 r22 D30),(s3 a.2),(iv (ix r19 0)),(iv v1.Base)] 96::OO kT3 3 A30 D30 r22::ow kT3 3 (s3 a.2) a.1::W1) ?_ ?_
 refine o_6 ?_
 obtain ⟨e1,hl1,hk1⟩:=bd hr
 refine c_loop (A:=HH) hl1 (fun s a=>[(1,(sc A5 dims4 D5)),(4,(pt b7 0)),(5,(sc A21 r19 D21)),(6,(pt b29 0)),(7,(iv s.2))]) (fun s a=>bxl b7 [(.slice none 0 0),(.slice none 0 0),(iv 0),(iv 0)] 96::OO kT3 3 A21 D21 r19::bxl b29 [(sc A30 r22 D30),(s3 a),(iv (ix r19 0)),(iv v1.Base)] 96::OO kT3 3 A30 D30 r22::ow kT3 3 (s3 a) s.1::W1) (none,0,0) (aS R) (fun w s=>((s.nilo kT3 3).f 5 [1,4,0,1])) ?_
 rintro ⟨x47,i49⟩ ⟨A48,N48,D48⟩ σ1 out1 hr he1
 dsimp only [Z09_L1] at hr
 refine c_len 4 sees_ow (fun (hn:N48=x47.length)=>?_)
 subst hn
 refine o_9 ?_
 rcases bif_ hr with ⟨hb50,hr⟩|⟨hb50,hr⟩
 refine o_11 ?_
 refine c_cut (A:=(Int)×(Unit)) (fun a=>Z09_J2 x47 i49 a.1=some out1) (fun a=>[(1,(sc A5 dims4 D5)),(4,(pt b7 0)),(5,(sc A21 r19 D21)),(6,(pt b29 0)),(7,(iv i49)),(8,(iv a.1))]) (fun a=>bxl b7 [(.slice none 0 0),(.slice none 0 0),(iv 0),(iv 0)] 96::OO kT3 3 A21 D21 r19::bxl b29 [(sc A30 r22 D30),(sc A48 x47 D48),(iv (ix r19 0)),(iv v1.Base)] 96::OO kT3 3 A30 D30 r22::OO kT3 3 A48 D48 x47::W1) ?_ ?_
 refine o_1 ?_
 obtain ⟨hg51,hr⟩:=gd hr
 refine o_3 ?_
 refine t_some 8 sees_rd (show 0<dims4.length by have:=hg51; omega) (fun g52 o53 ha=>?_)
 subst ha
 refine o_5 ?_
 rcases bif_ hr with ⟨hb54,hr⟩|⟨hb54,hr⟩
 refine o_1 ?_
 obtain ⟨hg55,hr⟩:=gd hr
 obtain ⟨r57,hx58,hr⟩:=bd hr
 obtain ⟨hg59,hr⟩:=gd hr
 refine c_some 1 sees_ow (show 0<r19.length by have:=hg59; omega) (fun g60 o61 ha=>?_)
 subst ha
 refine cdr 13 [] mixo fun ht hn=>?_
 refine d4_ 0 [] ?_
 refine d3_ 8 [] ?_
 refine d1 4 R (l_cut (K:=kT3) (w64 (i49+1)) (dims4.length:Int) 8 R R sl23 sz3 R R R R hg55.1 hg55.2.1 hg55.2.2 (fun A56 D56=>(l_nil (q_draw (sL [0]) (d1 5 R (lM _ (fun w s=>(s.d 0 R)) ?_))))))
 refine lC 1 cb95 R (Zt_ok hx58) R ?_
 rintro _
 refine l_nil (q_draw (sL [0]) ?_)
 refine d2_ 6 [0] ?_
 refine d2_ 11 [0] ?_
 refine dD ?_
 exact qI ((w64 ((ix r19 r57) - (ix r19 0))),()) hr (fun w s=>(s.f 6 [1,5]))
 refine c_false R hb54 (c_skip ?_)
 exact qI ((0:Int),()) hr tI
 rintro ⟨x62,_⟩ σ1 hr
 dsimp only [Z09_J2] at hr
 obtain ⟨hg64,hr⟩:=gd hr
 refine o_4 ?_
 refine l_build (K:=kT3) (xs:=([x62]:List Int)) (vs:=[(iv x62)]) 0 R R sl23 sz3 zc3 R R R R R R ?_ R (fun A63 D63=>?_)
 exact fun I h s=>(mO3).list [((),x62)] I h s
 refine lM _ (fun w s=>(s.f 6 [5,1,0,5])) ?_
 refine l_app (K:=kT3) 17592186044416 R R sl23 sz3 by3 (Zr.zk zT3 zc3) R R R R R R src_ow hg64 (fun A65 D65=>(lN (OO kT3 3 A65 D65 (x47++([x62]:List Int))::_::_::_::_::W1) ?_))
 refine o_1 ?_
 refine l_store 3 R R sz23 R R R R R (lN (_::_::_::bxl b29 [(sc A30 r22 D30),(sc A65 (x47++([x62]:List Int)) D65),(iv (ix r19 0)),(iv v1.Base)] 96::_::W1) ?_)
 refine o_8 ?_
 cases hr
 exact qA (A65,(x47++([x62]:List Int)).length,D65) (fun w s=>(s.f 5 [1,4,0,1]))
 refine c_false R hb50 ?_
 refine o_2 ?_
 cases hr
 obtain rfl:=he1 _ R
 have hr:=hk1
 refine o_2 ?_
 exact qI (x47,(A48,x47.length,D48)) hr tI
 rintro ⟨x69,⟨A70,N70,D70⟩⟩ σ1 hr
 dsimp only [Z09_J3] at hr
 refine c_len 4 sees_ow (fun (hn:N70=x69.length)=>?_)
 subst hn
 refine o_2 ?_
 obtain ⟨r71,hx72,hr⟩:=bd hr
 obtain ⟨r73,hx74,hr⟩:=bd hr
 obtain ⟨r76,hx77,hr⟩:=bd hr
 refine cQ [(4,(pt b7 0)),(6,(pt b29 0)),(74,(.bool ((!r71)||(!r76))))] (bxl b7 [(.slice none 0 0),(.slice none 0 0),(iv 0),(iv 0)] 96::bxl b29 [(sc A30 r22 D30),(sc A70 x69 D70),(iv (ix r19 0)),(iv v1.Base)] 96::OO kT3 3 A30 D30 r22::OO kT3 3 A70 D70 x69::W1) ?_ ?_
 refine o_2 ?_
 refine lM _ (fun w s=>(s.f 5 [3,2,0,3])) ?_
 refine lC 2 cb116 R (FnOk.lends (A':=[OO kT3 3 A30 D30 r22,OO kT3 3 A70 D70 x69]) (A:=[RR kT3 A30 D30 r22,RR kT3 A70 D70 x69]) (B:=[]) (Z8_ok (v1:=(⟨r22,x69,(ix r19 0),v1.Base⟩:View)) hx72) ⟨lend_ow,lend_ow,trivial⟩ (fun _=>trivial)) R ?_
 rintro _
 refine o_2 ?_
 rcases bo (!r71) with hc78 | hc78
 refine o_7 ?_
 exact qj (tE 5 [2,4,0,1])
 refine lW (wnF hc78) (vz (.agg [(sc A30 r22 D30),(sc A70 x69 D70),(iv (ix r19 0)),(iv v1.Base)].toArray) (v_loadw 4 ag96 sz96 R R R R)) (l_calln 2 R (wnF hc78) cb117 R (FnOk.lends (A':=[OO kT3 3 A30 D30 r22,OO kT3 3 A70 D70 x69]) (A:=[RR kT3 A30 D30 r22,RR kT3 A70 D70 x69]) (B:=[]) (Z0a_ok (v1:=(⟨r22,x69,(ix r19 0),v1.Base⟩:View)) (gcall_t hx74 (not_ff hc78))) ⟨lend_ow,lend_ow,trivial⟩ (fun _=>⟨(closed_ow cT3),trivial⟩)) R ?_)
 rintro ⟨A75,N75,D75⟩
 refine l_len 2 sees_ow ?_
 rintro rfl
 refine o_1 ?_
 refine lM _ (tE 6 [2,4,0,1,3,5]) ?_
 refine l_calln 2 R (wnF hc78) cb56 R (FnOk.lends (A':=[OO kT3 3 A75 D75 r73,OO kT3 3 A21 D21 r19]) (A:=[RR kT3 A75 D75 r73,RR kT3 A21 D21 r19]) (B:=[]) (Zz_ok (gcall_t hx77 (not_ff hc78))) ⟨lend_ow,lend_ow,trivial⟩ (fun _=>trivial)) R ?_
 rintro _
 refine o_3 ?_
 exact qj (tE 6 [4,5,2,3])
 rintro σ1
 refine o_1 ?_
 rcases bif_ hr with ⟨hb79,hr⟩|⟨hb79,hr⟩
 refine o_3 ?_
 refine lO (vz (.agg [(.slice none 0 0),(.slice none 0 0),(iv 0),(iv 0)].toArray) (v_build pl96 zc96 R R)) (l_stores 0 R R sz96 R R R R R R (lN (_::_::_::_::W1) ?_))
 refine o_4 ?_
 cases hr
 exact qS ((none,0,0),(none,0,0)) (fun w s=>(((s.nilo kT3 3).nilo kT3 3).e 10 [1,0]))
 refine c_false R hb79 ?_
 refine o_5 ?_
 refine l_stores 0 R R sz96 R R R R R R (lN (bxl b7 [(sc A30 r22 D30),(sc A70 x69 D70),(iv (ix r19 0)),(iv v1.Base)] 96::_::_::_::W1) ?_)
 refine o_3 ?_
 cases hr
 exact qS ((A30,r22.length,D30),(A70,x69.length,D70)) (tE 8 [2,3])
theorem Z25_ok  {v1:View}{axis4:Int}{r:Bool}(hr:Z25 v1 axis4=some r) :
 FnOk Tryz.prog 119 [(.agg [(.slice A2 N2 D2),(.slice A3 N3 D3),(iv v1.Offset),(iv v1.Base)].toArray),(iv axis4)] [rds kT3 (.slice A2 N2 D2) v1.Dims,rds kT3 (.slice A3 N3 D3) v1.Strides] (fun (h:Unit)=>((.bool r),[])):=by
 unfold Z25 at hr
 refine fn_ok Tryz.func119 R 18 R R fun C V=>?_
 refine cL 0 sees_rd ?_
 rintro rfl
 refine cL 1 sees_rd ?_
 rintro rfl
 let W0:=RR kT3 A2 D2 v1.Dims::RR kT3 A3 D3 v1.Strides::V
 refine cN W0 ?_
 refine o_2 ?_
 refine lBx R fun b5=>?_
 refine o_2 ?_
 let W1:=bxl b5 [(sc A2 v1.Dims D2),(sc A3 v1.Strides D3),(iv v1.Offset),(iv v1.Base)] 96::W0
 refine qN W1 ?_
 refine o_2 ?_
 obtain ⟨r6,hx7,hr⟩:=bd hr
 refine cQ [(4,(.bool ((r6&&(decide (axis4≥0)))&&(decide (axis4<(v1.Dims.length:Int))))))] (W1) ?_ ?_
 refine o_2 ?_
 refine lM _ (fun w s=>(((s.d 1 R).d 3 R).e 2 [1,0])) ?_
 refine lC 2 cb116 R (Z8_ok hx7) R ?_
 rintro _
 refine lN W1 ?_
 refine o_1 ?_
 rcases bo r6 with hc8 | hc8
 refine o_4 ?_
 rcases bo (r6&&(decide (axis4≥0))) with hc9 | hc9
 refine o_8 ?_
 exact qj tI
 refine o_8 ?_
 exact qj tI
 refine o_12 ?_
 exact qj tI
 rintro σ1
 refine o_2 ?_
 cases hr
 exact qF () (tE 3 [])
theorem Z27_ok  {v1:View}{r:View}(hr:Z27 v1=some r) :
 FnOk Tryz.prog 120 [(.agg [(.slice A2 N2 D2),(.slice A3 N3 D3),(iv v1.Offset),(iv v1.Base)].toArray)] [rds kT3 (.slice A2 N2 D2) v1.Dims,rds kT3 (.slice A3 N3 D3) v1.Strides] (fun (h:HH×HH)=>((.agg [(s3 h.1),(s3 h.2),(iv r.Offset),(iv r.Base)].toArray),[ow kT3 3 (s3 h.1) r.Dims,ow kT3 3 (s3 h.2) r.Strides])):=by
 unfold Z27 at hr
 refine fn_ok Tryz.func120 R 14 R R fun C V=>?_
 refine cL 0 sees_rd ?_
 rintro rfl
 refine cL 1 sees_rd ?_
 rintro rfl
 let W0:=RR kT3 A2 D2 v1.Dims::RR kT3 A3 D3 v1.Strides::V
 refine cN W0 ?_
 refine o_2 ?_
 refine lBx R fun b4=>?_
 refine l_alloc R R zc96 (fun b5=>(l_nil ?_))
 let W1:=bxl b4 [(sc A2 v1.Dims D2),(sc A3 v1.Strides D3),(iv v1.Offset),(iv v1.Base)] 96::W0
 refine o_2 ?_
 obtain ⟨r6,hx7,hr⟩:=bd hr
 obtain ⟨r9,hx10,hr⟩:=bd hr
 refine cdr 12 [0] mixo fun ht hn=>?_
 refine d2_ 0 [0] ?_
 refine d2_ 3 [0] ?_
 refine d4_ 6 [0] ?_
 refine d1 2 R (lM _ (fun w s=>(s.d 2 R)) ?_)
 refine lC 1 cb57 R (Zq_ok hx7) R ?_
 rintro ⟨A8,N8,D8⟩
 refine l_len 0 sees_ow ?_
 rintro rfl
 refine l_nil (q_draw (sL [1,0]) (d1 5 R (lM _ (fun w s=>(s.d 4 R)) ?_)))
 refine lC 1 cb57 R (Zq_ok hx10) R ?_
 rintro ⟨A11,N11,D11⟩
 refine l_len 0 sees_ow ?_
 rintro rfl
 refine l_nil (q_draw (sL [2,1,0]) (dR 10 R (vz (.agg [(sc A8 r6 D8),(sc A11 r9 D11),(iv v1.Offset),(iv v1.Base)].toArray) (v_build pl96 zc96 R R)) (hS:=(sL [2,1,0])) (d1 11 R (l_stores 2 R R sz96 R R R R R R (lN (_::_::bxl b5 [(sc A8 r6 D8),(sc A11 r9 D11),(iv v1.Offset),(iv v1.Base)] 96::W1) ?_)))))
 refine l_nil (q_draw (sL [2,1,0]) (dD ?_))
 refine o_2 ?_
 cases hr
 exact qS ((A8,r6.length,D8),(A11,r9.length,D11)) (tE 6 [1,0])
theorem Z28_ok  {v1:View}{r:View}(hr:Z28 v1=some r) :
 FnOk Tryz.prog 121 [(.agg [(.slice A2 N2 D2),(.slice A3 N3 D3),(iv v1.Offset),(iv v1.Base)].toArray)] [rds kT3 (.slice A2 N2 D2) v1.Dims,rds kT3 (.slice A3 N3 D3) v1.Strides] (fun (h:HH×HH)=>((.agg [(s3 h.1),(s3 h.2),(iv r.Offset),(iv r.Base)].toArray),[rds kT3 (s3 h.1) r.Dims,rds kT3 (s3 h.2) r.Strides])):=by
 unfold Z28 at hr
 refine fn_ok Tryz.func121 R 8 R R fun C V=>?_
 refine cL 0 sees_rd ?_
 rintro rfl
 refine cL 1 sees_rd ?_
 rintro rfl
 let W0:=RR kT3 A2 D2 v1.Dims::RR kT3 A3 D3 v1.Strides::V
 refine cN W0 ?_
 refine o_2 ?_
 refine lBx R fun b4=>?_
 refine l_alloc R R zc96 (fun b5=>(l_nil ?_))
 let W1:=bxl b4 [(sc A2 v1.Dims D2),(sc A3 v1.Strides D3),(iv v1.Offset),(iv v1.Base)] 96::W0
 refine o_3 ?_
 obtain ⟨r6,hx7,hr⟩:=bd hr
 refine o_2 ?_
 refine lM _ (fun w s=>(((s.d 2 R).d 4 R).e 3 [1,0,2])) ?_
 refine lC 2 cb116 R (Z8_ok hx7) R ?_
 rintro _
 refine o_3 ?_
 split at hr
 refine o_3 ?_
 refine lO (vz (.agg [(.slice none 0 0),(.slice none 0 0),(iv 0),(iv 0)].toArray) (v_build pl96 zc96 R R)) (l_stores 0 R R sz96 R R R R R R (l_nil (q_next (c_ret (q_ret ?_)))))
 cases hr
 exact qS ((none,0,0),(none,0,0)) (fun w s=>(((s.nilr kT3).nilr kT3).e 6 [1,0]))
 refine o_6 ?_
 refine l_stores 0 R R sz96 R R R R R R (lN (bxl b5 [(sc A2 v1.Dims D2),(sc A3 v1.Strides D3),(iv v1.Offset),(iv v1.Base)] 96::W1) ?_)
 refine o_3 ?_
 cases hr
 exact qS ((A2,v1.Dims.length,D2),(A3,v1.Strides.length,D3)) (tE 4 [2,3])
theorem Z17_ok  {v1:View}{axis4:Int}{p5:Int}{count6:Int}{step7:Int}{r:View}(hr:Z17 v1 axis4 p5 count6 step7=some r) :
 FnOk Tryz.prog 86 [(.agg [(.slice A2 N2 D2),(.slice A3 N3 D3),(iv v1.Offset),(iv v1.Base)].toArray),(iv axis4),(iv p5),(iv count6),(iv step7)] [rds kT3 (.slice A2 N2 D2) v1.Dims,rds kT3 (.slice A3 N3 D3) v1.Strides] (fun (h:HH×HH)=>((.agg [(.slice h.1.1 h.1.2.1 h.1.2.2),(.slice h.2.1 h.2.2.1 h.2.2.2),(iv r.Offset),(iv r.Base)].toArray),[rds kT3 (.slice h.1.1 h.1.2.1 h.1.2.2) r.Dims,rds kT3 (.slice h.2.1 h.2.2.1 h.2.2.2) r.Strides])):=by
 unfold Z17 at hr
 refine fn_ok Tryz.func86 R 102 R R fun C V=>?_
 refine cN (_::_::V) ?_
 refine cL 0 sees_rd ?_
 rintro rfl
 refine cL 1 sees_rd ?_
 rintro rfl
 let W0:List HP:=RR kT3 A2 D2 v1.Dims::RR kT3 A3 D3 v1.Strides::V
 refine cN W0 ?_
 refine c_seq (c_region (lBx R (fun b8=>(l_alloc R R zc96 (fun b9=>(l_nil ?_))))))
 let W1:List HP:=bxl b8 [(sc A2 v1.Dims D2),(sc A3 v1.Strides D3),(iv v1.Offset),(iv v1.Base)] 96::W0
 refine qN (_::W1) ?_
 refine q_next (c_seq (c_seq ?_))
 obtain ⟨r10,hx11,hr⟩:=bd hr
 obtain ⟨hg12,hr⟩:=gd hr
 refine cQ [(1,(iv axis4)),(2,(iv p5)),(3,(iv count6)),(4,(iv step7)),(5,(pt b8 0)),(10,(pt b9 0)),(45,(.bool (((((((!r10)||(decide (count6<(1:Int))))||(decide (count6>(4096:Int))))||(decide (step7<(-4096:Int))))||(decide (step7>(4096:Int))))||(decide (p5<(0:Int))))||(decide (p5≥(ix v1.Dims axis4))))))] (bxl b9 [(.slice none 0 0),(.slice none 0 0),(iv 0),(iv 0)] 96::W1) ?_ ?_
 refine c_region (lO (vz (.agg [(sc A2 v1.Dims D2),(sc A3 v1.Strides D3),(iv v1.Offset),(iv v1.Base)].toArray) (v_loadw 1 ag96 sz96 R R R R)) (lI R (lM (RR kT3 A2 D2 v1.Dims::RR kT3 A3 D3 v1.Strides::bxl _ _ _::W1) (fun w s=>(((s.d 2 R).d 4 R).e 3 [1,0,2])) ?_)))
 refine lC 2 cb119 R (Z25_ok hx11) R ?_
 rintro _
 refine lN (_::W1) ?_
 refine lO (vNo R) (lB R ?_)
 rcases bo (!r10) with hc15 | hc15
 refine lf (wfT hc15) (lf (wfT hc15) (lO (pOT (decide (count6<(1:Int))) R hc15) (lB R (lf (wfT (oT hc15)) (lf (wfT (oT hc15)) (lO (pOT (decide (count6>(4096:Int))) R (oT hc15)) (lB R (lf (wfT (oT (oT hc15))) (lf (wfT (oT (oT hc15))) (lO (pOT (decide (step7<(-4096:Int))) R (oT (oT hc15))) (lB R (lf (wfT (oT (oT (oT hc15)))) (lf (wfT (oT (oT (oT hc15)))) (lO (pOT (decide (step7>(4096:Int))) R (oT (oT (oT hc15)))) (lB R (lf (wfT (oT (oT (oT (oT hc15))))) (lf (wfT (oT (oT (oT (oT hc15))))) (lO (pOT (decide (p5<(0:Int))) R (oT (oT (oT (oT hc15))))) (lB R (lf (wfT (oT (oT (oT (oT (oT hc15)))))) (lf (wfT (oT (oT (oT (oT (oT hc15)))))) (lf (wfT (oT (oT (oT (oT (oT hc15)))))) (lf (wfT (oT (oT (oT (oT (oT hc15)))))) (lf (wfT (oT (oT (oT (oT (oT hc15)))))) (lf (wfT (oT (oT (oT (oT (oT hc15)))))) (lf (wfT (oT (oT (oT (oT (oT hc15)))))) (lO (pOT (decide (p5≥(ix v1.Dims axis4))) R (oT (oT (oT (oT (oT hc15)))))) (l_nil ?_))))))))))))))))))))))))))))
 exact qJ (fun w s=>s)
 refine lW (wnF hc15) (vI R) (lW (wnF hc15) (vLt R R) (lO (pOF R hc15 R) (lB R ?_)))
 rcases bo ((!r10)||(decide (count6<(1:Int)))) with hc16 | hc16
 refine lf (wfT hc16) (lf (wfT hc16) (lO (pOT (decide (count6>(4096:Int))) R hc16) (lB R (lf (wfT (oT hc16)) (lf (wfT (oT hc16)) (lO (pOT (decide (step7<(-4096:Int))) R (oT hc16)) (lB R (lf (wfT (oT (oT hc16))) (lf (wfT (oT (oT hc16))) (lO (pOT (decide (step7>(4096:Int))) R (oT (oT hc16))) (lB R (lf (wfT (oT (oT (oT hc16)))) (lf (wfT (oT (oT (oT hc16)))) (lO (pOT (decide (p5<(0:Int))) R (oT (oT (oT hc16)))) (lB R (lf (wfT (oT (oT (oT (oT hc16))))) (lf (wfT (oT (oT (oT (oT hc16))))) (lf (wfT (oT (oT (oT (oT hc16))))) (lf (wfT (oT (oT (oT (oT hc16))))) (lf (wfT (oT (oT (oT (oT hc16))))) (lf (wfT (oT (oT (oT (oT hc16))))) (lf (wfT (oT (oT (oT (oT hc16))))) (lO (pOT (decide (p5≥(ix v1.Dims axis4))) R (oT (oT (oT (oT hc16))))) (l_nil ?_))))))))))))))))))))))))
 exact qJ (fun w s=>s)
 refine lW (wnF hc16) (vI R) (lW (wnF hc16) (vGt R R) (lO (pOF R hc16 R) (lB R ?_)))
 rcases bo (((!r10)||(decide (count6<(1:Int))))||(decide (count6>(4096:Int)))) with hc17 | hc17
 refine lf (wfT hc17) (lf (wfT hc17) (lO (pOT (decide (step7<(-4096:Int))) R hc17) (lB R (lf (wfT (oT hc17)) (lf (wfT (oT hc17)) (lO (pOT (decide (step7>(4096:Int))) R (oT hc17)) (lB R (lf (wfT (oT (oT hc17))) (lf (wfT (oT (oT hc17))) (lO (pOT (decide (p5<(0:Int))) R (oT (oT hc17))) (lB R (lf (wfT (oT (oT (oT hc17)))) (lf (wfT (oT (oT (oT hc17)))) (lf (wfT (oT (oT (oT hc17)))) (lf (wfT (oT (oT (oT hc17)))) (lf (wfT (oT (oT (oT hc17)))) (lf (wfT (oT (oT (oT hc17)))) (lf (wfT (oT (oT (oT hc17)))) (lO (pOT (decide (p5≥(ix v1.Dims axis4))) R (oT (oT (oT hc17)))) (l_nil ?_))))))))))))))))))))
 exact qJ (fun w s=>s)
 refine lW (wnF hc17) (vI R) (lW (wnF hc17) (vLt R R) (lO (pOF R hc17 R) (lB R ?_)))
 rcases bo ((((!r10)||(decide (count6<(1:Int))))||(decide (count6>(4096:Int))))||(decide (step7<(-4096:Int)))) with hc18 | hc18
 refine lf (wfT hc18) (lf (wfT hc18) (lO (pOT (decide (step7>(4096:Int))) R hc18) (lB R (lf (wfT (oT hc18)) (lf (wfT (oT hc18)) (lO (pOT (decide (p5<(0:Int))) R (oT hc18)) (lB R (lf (wfT (oT (oT hc18))) (lf (wfT (oT (oT hc18))) (lf (wfT (oT (oT hc18))) (lf (wfT (oT (oT hc18))) (lf (wfT (oT (oT hc18))) (lf (wfT (oT (oT hc18))) (lf (wfT (oT (oT hc18))) (lO (pOT (decide (p5≥(ix v1.Dims axis4))) R (oT (oT hc18))) (l_nil ?_))))))))))))))))
 exact qJ (fun w s=>s)
 refine lW (wnF hc18) (vI R) (lW (wnF hc18) (vGt R R) (lO (pOF R hc18 R) (lB R ?_)))
 rcases bo (((((!r10)||(decide (count6<(1:Int))))||(decide (count6>(4096:Int))))||(decide (step7<(-4096:Int))))||(decide (step7>(4096:Int)))) with hc19 | hc19
 refine lf (wfT hc19) (lf (wfT hc19) (lO (pOT (decide (p5<(0:Int))) R hc19) (lB R (lf (wfT (oT hc19)) (lf (wfT (oT hc19)) (lf (wfT (oT hc19)) (lf (wfT (oT hc19)) (lf (wfT (oT hc19)) (lf (wfT (oT hc19)) (lf (wfT (oT hc19)) (lO (pOT (decide (p5≥(ix v1.Dims axis4))) R (oT hc19)) (l_nil ?_))))))))))))
 exact qJ (fun w s=>s)
 refine lW (wnF hc19) (vI R) (lW (wnF hc19) (vLt R R) (lO (pOF R hc19 R) (lB R ?_)))
 rcases bo ((((((!r10)||(decide (count6<(1:Int))))||(decide (count6>(4096:Int))))||(decide (step7<(-4096:Int))))||(decide (step7>(4096:Int))))||(decide (p5<(0:Int)))) with hc20 | hc20
 refine lf (wfT hc20) (lf (wfT hc20) (lf (wfT hc20) (lf (wfT hc20) (lf (wfT hc20) (lf (wfT hc20) (lf (wfT hc20) (lO (pOT (decide (p5≥(ix v1.Dims axis4))) R hc20) (l_nil ?_))))))))
 exact qJ (fun w s=>s)
 refine lW (wnF hc20) (vI R) (lW (wnF hc20) (vFa 0 fo96_0 R) (lW (wnF hc20) (vLd 1 ag23 R R R) (lW (wnF hc20) (vI R) (t_some 2 sees_rd (show 0<v1.Dims.length by have:=(hg12 hc20); omega) (fun g13 o14 ha=>?_)))))
 subst ha
 refine lW (wnF hc20) (vIa sl23 sz3 R R (hg12 hc20)) (lW (wnF hc20) (vLi 2 ag3 sees_rd R (hg12 hc20)) (lW (wnF hc20) (vGe R R) (lO (pOF R hc20 R) (l_nil ?_))))
 exact qJ (fun w s=>s)
 rintro σ1
 refine q_next ?_
 rcases bif_ hr with ⟨hb21,hr⟩|⟨hb21,hr⟩
 refine c_true R hb21 (c_seq (c_region (lO (vz (.agg [(.slice none 0 0),(.slice none 0 0),(iv 0),(iv 0)].toArray) (v_build pl96 zc96 R R)) (l_stores 0 R R sz96 R R R R R R (l_nil (q_next (c_ret (q_ret ?_))))))))
 obtain rfl:=so hr
 exact q_fin (vs:=[(.agg [(.slice none 0 0),(.slice none 0 0),(iv 0),(iv 0)].toArray)]) (.inl R) ((none,0,0),(none,0,0)) R ⟨⟨0,b9,_,_,R,R,.inl ⟨ag96,sz96,R⟩⟩,trivial⟩ R (fun w s=>(((s.nilr kT3).nilr kT3).e 6 [1,0]))
 refine c_false R hb21 (c_skip (q_next (c_seq (c_region (lI R (lI R (lO (vSb R R) (lI R (lO (vMu R R) (lO (vAd R R) (lI R (l_nil (q_next (c_seq (c_seq ?_)))))))))))))))
 obtain ⟨hg22,hr⟩:=gd hr
 refine cQ [(1,(iv axis4)),(2,(iv p5)),(3,(iv count6)),(4,(iv step7)),(5,(pt b8 0)),(10,(pt b9 0)),(63,(.bool ((decide ((w64 (p5+(w64 ((w64 (count6 - (1:Int)))*step7))))<(0:Int)))||(decide ((w64 (p5+(w64 ((w64 (count6 - (1:Int)))*step7))))≥(ix v1.Dims axis4))))))] (bxl b9 [(.slice none 0 0),(.slice none 0 0),(iv 0),(iv 0)] 96::W1) ?_ ?_
 refine c_region (lI R (lO (vLt R R) (lB R ?_)))
 rcases bo (decide ((w64 (p5+(w64 ((w64 (count6 - (1:Int)))*step7))))<(0:Int))) with hc25 | hc25
 refine lf (wfT hc25) (lf (wfT hc25) (lf (wfT hc25) (lf (wfT hc25) (lf (wfT hc25) (lf (wfT hc25) (lf (wfT hc25) (lO (pOT (decide ((w64 (p5+(w64 ((w64 (count6 - (1:Int)))*step7))))≥(ix v1.Dims axis4))) R hc25) (l_nil ?_))))))))
 exact qJ (fun w s=>s)
 refine lW (wnF hc25) (vI R) (lW (wnF hc25) (vFa 0 fo96_0 R) (lW (wnF hc25) (vLd 1 ag23 R R R) (lW (wnF hc25) (vI R) (t_some 2 sees_rd (show 0<v1.Dims.length by have:=(hg22 hc25); omega) (fun g23 o24 ha=>?_)))))
 subst ha
 refine lW (wnF hc25) (vIa sl23 sz3 R R (hg22 hc25)) (lW (wnF hc25) (vLi 2 ag3 sees_rd R (hg22 hc25)) (lW (wnF hc25) (vGe R R) (lO (pOF R hc25 R) (l_nil ?_))))
 exact qJ (fun w s=>s)
 rintro σ1
 refine q_next ?_
 rcases bif_ hr with ⟨hb26,hr⟩|⟨hb26,hr⟩
 refine c_true R hb26 (c_seq (c_region (lO (vz (.agg [(.slice none 0 0),(.slice none 0 0),(iv 0),(iv 0)].toArray) (v_build pl96 zc96 R R)) (l_stores 0 R R sz96 R R R R R R (l_nil (q_next (c_ret (q_ret ?_))))))))
 obtain rfl:=so hr
 exact q_fin (vs:=[(.agg [(.slice none 0 0),(.slice none 0 0),(iv 0),(iv 0)].toArray)]) (.inl R) ((none,0,0),(none,0,0)) R ⟨⟨0,b9,_,_,R,R,.inl ⟨ag96,sz96,R⟩⟩,trivial⟩ R (fun w s=>(((s.nilr kT3).nilr kT3).e 6 [1,0]))
 refine c_false R hb26 (c_skip (q_next (c_seq ?_)))
 obtain ⟨r27,hx28,hr⟩:=bd hr
 refine c_region (lO (vz (.agg [(sc A2 v1.Dims D2),(sc A3 v1.Strides D3),(iv v1.Offset),(iv v1.Base)].toArray) (v_loadw 1 ag96 sz96 R R R R)) (lM (RR kT3 A2 D2 v1.Dims::RR kT3 A3 D3 v1.Strides::bxl _ _ _::W1) (fun w s=>(((s.d 2 R).d 4 R).e 3 [1,0,2])) ?_))
 refine lC 2 cb120 R (Z27_ok hx28) R ?_
 rintro ⟨⟨A29,N29,D29⟩,⟨A30,N30,D30⟩⟩
 refine lN (ow kT3 3 (.slice A29 N29 D29) r27.Dims::ow kT3 3 (.slice A30 N30 D30) r27.Strides::_::W1) ?_
 refine l_len 0 sees_ow ?_
 rintro rfl
 refine l_len 1 sees_ow ?_
 rintro rfl
 refine l_alloc R R zc96 (fun b31=>(l_stores 0 R R sz96 R R R R R R (lN (bxl b31 [(sc A29 r27.Dims D29),(sc A30 r27.Strides D30),(iv r27.Offset),(iv r27.Base)] 96::_::_::_::W1) ?_)))
 refine l_nil (q_next (c_seq ?_))
 obtain ⟨hg32,hr⟩:=gd hr
 refine cQ [(1,(iv axis4)),(3,(iv count6)),(4,(iv step7)),(10,(pt b9 0)),(12,(pt b31 0))] (bxl b9 [(.slice none 0 0),(.slice none 0 0),(iv 0),(iv 0)] 96::bxl b31 [(sc A29 r27.Dims D29),(sc A30 r27.Strides D30),(iv (w64 (r27.Offset+(w64 (p5*(ix r27.Strides axis4)))))),(iv r27.Base)] 96::OO kT3 3 A29 D29 r27.Dims::OO kT3 3 A30 D30 r27.Strides::W1) ?_ ?_
 refine c_some 2 sees_ow (show 0<r27.Strides.length by have:=hg32; omega) (fun g33 o34 ha=>?_)
 subst ha
 refine cdr 12 [0] mixo (fun ht hn=>(dR 0 R (vFa 2 fo96_2 R) (hS:=(sL [0])) (dR 2 R (vI R) (hS:=(sL [0])) (dR 3 R (vFa 1 fo96_1 R) (hS:=(sL [0])) (dR 5 R (vI R) (hS:=(sL [0])) (d_all [1,4] (by kernel_rfl) R ⟨?_,?_,trivial⟩))))))
 refine lO (vLd 0 ag3 R R R) (l_nil (q_draw (sL [0]) (d1 4 R (lO (vLd 0 ag23 R R R) (l_nil (q_draw (sL [0]) (dR 6 R (vIa sl23 sz3 R R hg32) (hS:=(sL [0])) (dR 7 R (vLi 1 ag3 sees_ow R hg32) (hS:=(sL [0])) (dR 8 R (vMu R R) (hS:=(sL [0])) (dR 9 R (vAd R R) (hS:=(sL [0])) (dR 10 R (vFa 2 fo96_2 R) (hS:=(sL [0])) (d1 11 R (l_store 0 R R sz3 R R R R R (lN (bxl b31 [(sc A29 r27.Dims D29),(sc (ad g33 o34) r27.Strides D30),(iv (w64 (r27.Offset+(w64 (p5*(ix r27.Strides axis4)))))),(iv r27.Base)] 96::_::OO kT3 3 (ad g33 o34) D30 r27.Strides::_::W1) ?_))))))))))))))
 refine l_nil (q_draw (sL [0]) (dD ?_))
 exact qJ (fun w s=>(s.e 4 [3,0,1,2]))
 refine lO (vLd 0 ag23 R R R) (l_nil (q_draw (sL [0]) (dR 6 R (vIa sl23 sz3 R R hg32) (hS:=(sL [0])) (dR 7 R (vLi 1 ag3 sees_ow R hg32) (hS:=(sL [0])) (dR 8 R (vMu R R) (hS:=(sL [0])) (d1 1 R (lO (vLd 0 ag3 R R R) (l_nil (q_draw (sL [0]) (dR 9 R (vAd R R) (hS:=(sL [0])) (dR 10 R (vFa 2 fo96_2 R) (hS:=(sL [0])) (d1 11 R (l_store 0 R R sz3 R R R R R (l_nil (q_draw (sL [0]) (dD ?_))))))))))))))))
 exact qJ (fun w s=>(s.e 4 [3,0,1,2]))
 rintro σ1
 refine q_next (c_seq ?_)
 obtain ⟨hg35,hr⟩:=gd hr
 refine c_region (lO (vFa 0 fo96_0 R) (lO (vLd 1 ag23 R R R) (lI R (lI R (t_some 2 sees_ow (show 0<r27.Dims.length by have:=hg35; omega) (fun g36 o37 ha=>?_))))))
 subst ha
 refine lO (vIa sl23 sz3 R R hg35) (lM (OO kT3 3 (ad g36 o37) D29 r27.Dims::bxl _ _ _::bxl b31 [(sc (ad g36 o37) r27.Dims D29),(sc A30 r27.Strides D30),(iv (w64 (r27.Offset+(w64 (p5*(ix r27.Strides axis4)))))),(iv r27.Base)] 96::OO kT3 3 A30 D30 r27.Strides::W1) (fun w s=>(s.e 4 [2,0,1,3])) ?_)
 refine l_stx (K:=kT3) (x':=count6) 0 axis4 R R sz3 R R hg35.1 hg35.2 ?_ ?_
 exact fun I h s=>(mO3).put I h () count6 s
 refine lN (ow kT3 3 (.slice (ad g36 o37) r27.Dims.length D29) (r27.Dims.set axis4.toNat count6)::_::_::_::W1) ?_
 refine l_nil (q_next (c_seq (c_some 3 sees_ow (show 0<r27.Strides.length by have:=hg32; omega) (fun g38 o39 ha=>?_))))
 subst ha
 refine cdr 12 [3] mixo (fun ht hn=>(dR 0 R (vFa 1 fo96_1 R) (hS:=(sL [3])) (dR 1 R (vLd 2 ag23 R R R) (hS:=(sL [3])) (dR 2 R (vI R) (hS:=(sL [3])) (dR 3 R (vFa 1 fo96_1 R) (hS:=(sL [3])) (dR 4 R (vLd 2 ag23 R R R) (hS:=(sL [3])) (dR 5 R (vI R) (hS:=(sL [3])) (dR 6 R (vIa sl23 sz3 R R hg32) (hS:=(sL [3])) (dR 8 R (vI R) (hS:=(sL [3])) (d1 7 R (lO (vLi 3 ag3 sees_ow R hg32) (l_nil (q_draw (sL [3]) (dR 9 R (vMu R R) (hS:=(sL [3])) (dR 10 R (vIa sl23 sz3 R R hg32) (hS:=(sL [3])) (d1 11 R (lM (OO kT3 3 (ad g38 o39) D30 r27.Strides::ow _ _ _ _::bxl _ _ _::bxl b31 [(sc (ad g36 o37) r27.Dims D29),(sc (ad g38 o39) r27.Strides D30),(iv (w64 (r27.Offset+(w64 (p5*(ix r27.Strides axis4)))))),(iv r27.Base)] 96::W1) (fun w s=>(s.e 4 [3,0,1,2])) ?_)))))))))))))))))
 refine l_stx (K:=kT3) (x':=(w64 ((ix r27.Strides axis4)*step7))) 0 axis4 R R sz3 R R hg32.1 hg32.2 ?_ ?_
 exact fun I h s=>(mO3).put I h () (w64 ((ix r27.Strides axis4)*step7)) s
 refine lN (ow kT3 3 (.slice (ad g38 o39) r27.Strides.length D30) (r27.Strides.set axis4.toNat (w64 ((ix r27.Strides axis4)*step7)))::_::_::_::W1) ?_
 refine l_nil (q_draw (sL [0]) (dD ?_))
 obtain ⟨l40,hl41,hr⟩:=bd hr
 replace hl41:=Option.some.inj hl41
 refine qM (ow kT3 3 (.slice (ad g38 o39) r27.Strides.length D30) l40::_::_::_::W1) (fun w s=>by rw [← hl41]; exact s) ?_
 refine q_next (c_seq (c_cut (A:=((List Int))×(Unit)) (fun a=>Z17_J1 axis4 p5 count6 r27 a.1=some r) (fun a=>[(10,(pt b9 0)),(12,(pt b31 0))]) (fun a=>bxl b9 [(.slice none 0 0),(.slice none 0 0),(iv 0),(iv 0)] 96::bxl b31 [(sc (ad g36 o37) r27.Dims D29),(sc (ad g38 o39) r27.Strides D30),(iv (w64 (r27.Offset+(w64 (p5*(ix r27.Strides axis4)))))),(iv r27.Base)] 96::ow kT3 3 (.slice (ad g36 o37) r27.Dims.length D29) (r27.Dims.set axis4.toNat count6)::ow kT3 3 (.slice (ad g38 o39) r27.Strides.length D30) a.1::W1) ?_ ?_))
 refine c_seq (c_region (lI R (lO (vEq R R) (l_nil (q_next ?_)))))
 rcases bif_ hr with ⟨hb42,hr⟩|⟨hb42,hr⟩
 refine c_true R hb42 (c_region (lO (vFa 1 fo96_1 R) (lO (vLd 3 ag23 R R R) (lI R (lO (vIa sl23 sz3 R R hg32) (l_stx (K:=kT3) (x':=(0:Int)) 0 axis4 R R sz3 R R hg32.1 hg32.2 ?_ ?_))))))
 exact fun I h s=>(mO3).put I h () (0:Int) s
 refine lN (ow kT3 3 (.slice (ad g38 o39) r27.Strides.length D30) (l40.set axis4.toNat (0:Int))::_::_::_::W1) ?_
 refine l_nil ?_
 exact qI ((l40.set axis4.toNat (0:Int)),()) hr (fun w s=>(s.e 4 [2,3,1,0]))
 refine c_false R hb42 (c_skip ?_)
 exact qI (l40,()) hr (fun w s=>(s.e 4 [2,3,1,0]))
 rintro ⟨x43,_⟩ σ1 hr
 replace hr:Z17_J1 axis4 p5 count6 r27 x43=some r:=hr
 unfold Z17_J1 at hr
 refine c_seq ?_
 obtain ⟨r44,hx45,hr⟩:=bd hr
 refine c_region (lO (vz (.agg [(sc (ad g36 o37) r27.Dims D29),(sc (ad g38 o39) r27.Strides D30),(iv (w64 (r27.Offset+(w64 (p5*(ix r27.Strides axis4)))))),(iv r27.Base)].toArray) (v_loadw 1 ag96 sz96 R R R R)) (l_st (fun w s=>s.shr 2 R) (l_st (fun w s=>s.shr 3 R) (lM (rds kT3 (.slice (ad g36 o37) r27.Dims.length D29) (r27.Dims.set axis4.toNat count6)::rds kT3 (.slice (ad g38 o39) r27.Strides.length D30) x43::rds kT3 (.slice (ad g38 o39) r27.Strides.length D30) x43::rds kT3 (.slice (ad g36 o37) r27.Dims.length D29) (r27.Dims.set axis4.toNat count6)::bxl _ _ _::bxl _ _ _::W1) (fun w s=>(((s.d 1 R).d 1 R).e 6 [1,0,2,3,4,5])) ?_))))
 refine lC 2 cb121 R (Z28_ok (v1:=(⟨(r27.Dims.set axis4.toNat count6),x43,(w64 (r27.Offset+(w64 (p5*(ix r27.Strides axis4))))),r27.Base⟩:View)) hx45) R ?_
 rintro ⟨⟨A46,N46,D46⟩,⟨A47,N47,D47⟩⟩
 refine lN (rds kT3 (.slice A46 N46 D46) r44.Dims::rds kT3 (.slice A47 N47 D47) r44.Strides::_::_::_::_::W1) ?_
 refine l_len 0 sees_rd ?_
 rintro rfl
 refine l_len 1 sees_rd ?_
 rintro rfl
 refine l_stores 4 R R sz96 R R R R R R (lN (_::_::_::_::bxl b9 [(sc A46 r44.Dims D46),(sc A47 r44.Strides D47),(iv r44.Offset),(iv r44.Base)] 96::_::W1) ?_)
 refine l_nil (q_next (c_ret ?_))
 obtain rfl:=so hr
 exact q_fin (vs:=[(.agg [(sc A46 r44.Dims D46),(sc A47 r44.Strides D47),(iv r44.Offset),(iv r44.Base)].toArray)]) (.inl R) ((A46,r44.Dims.length,D46),(A47,r44.Strides.length,D47)) R ⟨⟨4,b9,_,_,R,R,.inl ⟨ag96,sz96,R⟩⟩,trivial⟩ R (fun w s=>(s.e 9 [0,1]))
theorem Z1r_ok  {t1:Tensor}{index4:(List Int)}{p6:Int}{r:(List Int)}(hr:Z1r t1 index4 p6=some r) :
 FnOk Tryz.prog 123 [(.agg [(.slice A2 N2 D2),(.slice A3 N3 D3)].toArray),(.slice A5 N5 D5),(iv p6)] [rds kT3 (.slice A2 N2 D2) t1.Dims,ow kT3 3 (.slice A3 N3 D3) t1.Data,rds kT3 (.slice A5 N5 D5) index4] (fun (h:Unit)=>((.tuple [].toArray),[ow kT3 3 (.slice A3 N3 D3) r])):=by
 unfold Z1r at hr
 refine fn_ok Tryz.func123 R 14 R R fun C V=>?_
 refine cM _ (tE 3 [1,0,2]) ?_
 refine cL 0 sees_ow ?_
 rintro rfl
 refine cL 1 sees_rd ?_
 rintro rfl
 refine cL 2 sees_rd ?_
 rintro rfl
 let W0:=RR kT3 A2 D2 t1.Dims::RR kT3 A5 D5 index4::V
 refine o_2 ?_
 refine lBx R fun b7=>?_
 refine l_nil (qM _ (tE 2 [1,0]) ?_)
 let W1:=bxl b7 [(sc A2 t1.Dims D2),(sc A3 t1.Data D3)] 58::W0
 refine o_1 ?_
 obtain ⟨r8,hx9,hr⟩:=bd hr
 obtain ⟨hg10,hr⟩:=gd hr
 refine c_some 0 sees_ow (show 0<t1.Data.length by have:=hg10; omega) (fun g11 o12 ha=>?_)
 subst ha
 refine cdr 9 [0] mixo fun ht hn=>?_
 refine d5_ 0 [0] ?_
 refine d1_ 6 [0] ?_
 refine d1 5 R (lM _ (fun w s=>(((s.d 2 R).d 4 R).e 3 [1,0,2])) ?_)
 refine lC 2 cb114 R (Z0l_ok hx9) R ?_
 rintro _
 refine l_nil (q_draw (sL [0]) ?_)
 refine d1_ 7 [0] ?_
 refine d1 8 R (l_stx (K:=kT3) (x':=p6) 0 r8 R R sz3 R R hg10.1 hg10.2 ?_ ?_)
 exact fun I h s=>(mO3).put I h () p6 s
 refine l_nil (q_draw (sL [0]) (dD ?_))
 cases hr
 exact qT0 () (tE 4 [0])
theorem Z0r_ok  {t1:Tensor}{axis4:Int}{before5:Int}{after6:Int}{gap7:Int}{r:Tensor}(hr:Z0r t1 axis4 before5 after6 gap7=some r) :
 FnOk Tryz.prog 87 [(.agg [(.slice A2 N2 D2),(.slice A3 N3 D3)].toArray),(iv axis4),(iv before5),(iv after6),(iv gap7)] [rds kT3 (.slice A2 N2 D2) t1.Dims,rds kT3 (.slice A3 N3 D3) t1.Data] (fun (h:HH×HH)=>((.agg [(s3 h.1),(s3 h.2)].toArray),[ow kT3 3 (s3 h.1) r.Dims,ow kT3 3 (s3 h.2) r.Data])):=by
 unfold Z0r at hr
 refine fn_ok Tryz.func87 R 101 R R fun C V=>?_
 refine cL 0 sees_rd ?_
 rintro rfl
 refine cL 1 sees_rd ?_
 rintro rfl
 let W0:=RR kT3 A2 D2 t1.Dims::RR kT3 A3 D3 t1.Data::V
 refine cN W0 ?_
 refine o_2 ?_
 refine lBx R fun b8=>?_
 refine l_alloc R R zc58 (fun b9=>(l_nil ?_))
 let W1:=bxl b8 [(sc A2 t1.Dims D2),(sc A3 t1.Data D3)] 58::W0
 refine o_3 ?_
 obtain ⟨r10,hx11,hr⟩:=bd hr
 refine cQ [(1,(iv axis4)),(2,(iv before5)),(3,(iv after6)),(4,(iv gap7)),(5,(pt b8 0)),(10,(pt b9 0)),(43,(.bool (((((((!r10)||(decide (before5<0)))||(decide (before5>4096)))||(decide (after6<0)))||(decide (after6>4096)))||(decide (gap7<0)))||(decide (gap7>4096)))))] (bxl b9 [(.slice none 0 0),(.slice none 0 0)] 58::W1) ?_ ?_
 refine o_3 ?_
 refine lM _ (fun w s=>(((s.d 2 R).d 4 R).e 3 [1,0,2])) ?_
 refine lC 2 cb106 R (Z1d_ok hx11) R ?_
 rintro _
 refine o_2 ?_
 rcases bo (!r10) with hc12 | hc12
 refine o_24 ?_
 exact qj tI
 refine o_4 ?_
 rcases bo ((!r10)||(decide (before5<0))) with hc13 | hc13
 refine o_20 ?_
 exact qj tI
 refine o_4 ?_
 rcases bo (((!r10)||(decide (before5<0)))||(decide (before5>4096))) with hc14 | hc14
 refine o_16 ?_
 exact qj tI
 refine o_4 ?_
 rcases bo ((((!r10)||(decide (before5<0)))||(decide (before5>4096)))||(decide (after6<0))) with hc15 | hc15
 refine o_12 ?_
 exact qj tI
 refine o_4 ?_
 rcases bo (((((!r10)||(decide (before5<0)))||(decide (before5>4096)))||(decide (after6<0)))||(decide (after6>4096))) with hc16 | hc16
 refine o_8 ?_
 exact qj tI
 refine o_4 ?_
 rcases bo ((((((!r10)||(decide (before5<0)))||(decide (before5>4096)))||(decide (after6<0)))||(decide (after6>4096)))||(decide (gap7<0))) with hc17 | hc17
 refine o_4 ?_
 exact qj tI
 refine o_4 ?_
 exact qj tI
 rintro σ1
 refine o_1 ?_
 split at hr
 refine o_3 ?_
 refine lO (vz (.agg [(.slice none 0 0),(.slice none 0 0)].toArray) (v_build pl58 zc58 R R)) (l_stores 0 R R sz58 R R R R R R (l_nil (q_next (c_ret (q_ret ?_)))))
 cases hr
 exact qS ((none,0,0),(none,0,0)) (fun w s=>(((s.nilo kT3 3).nilo kT3 3).e 6 [1,0]))
 refine o_4 ?_
 obtain ⟨hg19,hr⟩:=gd hr
 refine o_4 ?_
 refine t_some 2 sees_rd (show 0<t1.Dims.length by have:=hg19; omega) (fun g20 o21 ha=>?_)
 subst ha
 refine o_6 ?_
 obtain ⟨r22,hx23,hr⟩:=bd hr
 refine o_14 ?_
 refine lM _ (fun w s=>(s.d 2 R)) ?_
 refine lC 1 cb122 R (Z0h_ok hx23) R ?_
 rintro ⟨A24,N24,D24⟩
 refine l_len 0 sees_ow ?_
 rintro rfl
 refine o_5 ?_
 obtain ⟨r25,hx26,hr⟩:=bd hr
 refine o_2 ?_
 refine lC 1 cb92 R (FnOk.lends (A':=[OO kT3 3 A24 D24 r22]) (A:=[RR kT3 A24 D24 r22]) (B:=[]) (Zl_ok hx26) ⟨lend_ow,trivial⟩ (fun _=>trivial)) R ?_
 rintro _
 refine o_3 ?_
 split at hr
 refine o_3 ?_
 refine lO (vz (.agg [(.slice none 0 0),(.slice none 0 0)].toArray) (v_build pl58 zc58 R R)) (l_stores 1 R R sz58 R R R R R R (l_nil (q_next (c_ret (q_ret ?_)))))
 cases hr
 exact qS ((none,0,0),(none,0,0)) (fun w s=>(((s.nilo kT3 3).nilo kT3 3).e 7 [1,0]))
 refine o_4 ?_
 obtain ⟨r28,hx29,hr⟩:=bd hr
 refine o_2 ?_
 refine lC 1 cb93 R (FnOk.lends (A':=[OO kT3 3 A24 D24 r22]) (A:=[RR kT3 A24 D24 r22]) (B:=[]) (Z0g_ok hx29) ⟨lend_ow,trivial⟩ (fun _=>⟨(closed_ow cT3),(closed_ow cT3),trivial⟩)) R ?_
 rintro ⟨⟨A30,N30,D30⟩,⟨A31,N31,D31⟩⟩
 refine l_len 1 sees_ow ?_
 rintro rfl
 refine l_len 2 sees_ow ?_
 rintro rfl
 refine l_alloc R R zc58 (fun b32=>(l_stores 0 R R sz58 R R R R R R (lN (bxl b32 [(sc A30 r28.Dims D30),(sc A31 r28.Data D31)] 58::_::_::_::_::W1) ?_)))
 refine o_3 ?_
 refine c_cut (A:=((List Int))×(Unit)) (fun a=>Z0r_J1 r28 a.1=some r) (fun a=>[(10,(pt b9 0)),(13,(pt b32 0))]) (fun a=>bxl b9 [(.slice none 0 0),(.slice none 0 0)] 58::bxl b32 [(sc A30 r28.Dims D30),(sc A31 r28.Data D31)] 58::OO kT3 3 A30 D30 r28.Dims::ow kT3 3 (.slice A31 r28.Data.length D31) a.1::W1) ?_ ?_
 refine o_6 ?_
 obtain ⟨e1,hl1,hk1⟩:=bd hr
 refine c_loop (A:=Unit) hl1 (fun s a=>[(1,(iv axis4)),(2,(iv before5)),(4,(iv gap7)),(5,(pt b8 0)),(10,(pt b9 0)),(13,(pt b32 0)),(14,(iv s.2))]) (fun s a=>bxl b9 [(.slice none 0 0),(.slice none 0 0)] 58::bxl b32 [(sc A30 r28.Dims D30),(sc A31 r28.Data D31)] 58::OO kT3 3 A30 D30 r28.Dims::ow kT3 3 (.slice A31 r28.Data.length D31) s.1::W1) () (aS R) (tE 5 [4,0,2,3]) ?_
 rintro ⟨x48,i49⟩ _ σ1 out1 hr he1
 dsimp only [Z0r_L1] at hr
 refine o_10 ?_
 split at hr
 refine o_6 ?_
 obtain ⟨r51,hx52,hr⟩:=bd hr
 refine o_4 ?_
 refine lM _ (fun w s=>(s.d 5 R)) ?_
 refine lC 1 cb102 R (Zg_ok hx52) R ?_
 rintro ⟨A53,N53,D53⟩
 refine l_len 0 sees_ow ?_
 rintro rfl
 refine o_3 ?_
 obtain ⟨hg54,hr⟩:=gd hr
 obtain ⟨r57,hx58,hr⟩:=bd hr
 obtain ⟨hg60,hr⟩:=gd hr
 obtain ⟨r63,hx64,hr⟩:=bd hr
 refine c_some 0 sees_ow (show 0<r51.length by have:=hg54; omega) (fun g55 o56 ha=>?_)
 subst ha
 refine c_some 7 sees_rd (show 0<t1.Data.length by have:=hg60; omega) (fun g61 o62 ha=>?_)
 subst ha
 refine cdr 19 [4] mixo fun ht hn=>?_
 refine d12_ 0 [4] ?_
 refine d5_ 13 [4] ?_
 refine d1 12 R (lC 1 cb122 R (FnOk.lends (A':=[OO kT3 3 (ad g55 o56) D53 r51]) (A:=[RR kT3 (ad g55 o56) D53 r51]) (B:=[]) (Z0h_ok hx58) ⟨lend_ow,trivial⟩ (fun _=>⟨(closed_ow cT3),trivial⟩)) R ?_)
 rintro ⟨A59,N59,D59⟩
 refine l_len 1 sees_ow ?_
 rintro rfl
 refine l_nil (q_draw (sL [5,1]) (d1 18 R (lM _ (tE 6 [4,1,5,0,2,3]) ?_)))
 refine lC 3 cb123 R (FnOk.lends (A':=[OO kT3 3 A30 D30 r28.Dims,OO kT3 3 A59 D59 r57]) (A:=[RR kT3 A30 D30 r28.Dims,RR kT3 A59 D59 r57]) (B:=[ow kT3 3 (.slice A31 r28.Data.length D31) x48]) (FnOk.perm (Z1r_ok (t1:=(⟨r28.Dims,x48⟩:Tensor)) hx64) (Pre':=[RR kT3 A30 D30 r28.Dims,RR kT3 A59 D59 r57,ow kT3 3 (.slice A31 r28.Data.length D31) x48]) (fun _ _ _ s=>(s.e 3 [0,2,1]))) ⟨lend_ow,lend_ow,trivial⟩ (fun _=>⟨(closed_ow cT3),trivial⟩)) R ?_
 rintro _
 refine l_nil (q_draw (tE 6 [3,4,5,0]) (dD ?_))
 refine o_7 ?_
 cases hr
 exact qA () (tE 6 [4,5,0,2])
 refine o_3 ?_
 cases hr
 obtain rfl:=he1 _ R
 have hr:=hk1
 refine o_2 ?_
 exact qI (x48,()) hr tI
 rintro ⟨x67,_⟩ σ1 hr
 dsimp only [Z0r_J1] at hr
 refine o_3 ?_
 refine l_stores 0 R R sz58 R R R R R R (lN (bxl b9 [(sc A30 r28.Dims D30),(sc A31 r28.Data D31)] 58::_::_::ow kT3 3 (.slice A31 r28.Data.length D31) x67::W1) ?_)
 refine o_3 ?_
 cases hr
 exact qS ((A30,r28.Dims.length,D30),(A31,r28.Data.length,D31)) (tE 7 [2,3])
theorem Z0q_ok  {t1:Tensor}{axis4:Int}{index5:(List Int)}{r:Tensor}(hr:Z0q t1 axis4 index5=some r) :
 FnOk Tryz.prog 88 [(.agg [(.slice A2 N2 D2),(.slice A3 N3 D3)].toArray),(iv axis4),(.slice A6 N6 D6)] [rds kT3 (.slice A2 N2 D2) t1.Dims,rds kT3 (.slice A3 N3 D3) t1.Data,rds kT3 (.slice A6 N6 D6) index5] (fun (h:HH×HH)=>((.agg [(s3 h.1),(s3 h.2)].toArray),[ow kT3 3 (s3 h.1) r.Dims,ow kT3 3 (s3 h.2) r.Data])):=by
 unfold Z0q at hr
 refine fn_ok Tryz.func88 R 70 R R fun C V=>?_
 refine cL 0 sees_rd ?_
 rintro rfl
 refine cL 1 sees_rd ?_
 rintro rfl
 refine cL 2 sees_rd ?_
 rintro rfl
 let W0:=RR kT3 A2 D2 t1.Dims::RR kT3 A3 D3 t1.Data::RR kT3 A6 D6 index5::V
 refine cN W0 ?_
 refine o_2 ?_
 refine lBx R fun b7=>?_
 refine l_alloc R R zc58 (fun b8=>(l_nil ?_))
 let W1:=bxl b7 [(sc A2 t1.Dims D2),(sc A3 t1.Data D3)] 58::W0
 refine o_3 ?_
 obtain ⟨r9,hx10,hr⟩:=bd hr
 obtain ⟨hg11,hr⟩:=gd hr
 obtain ⟨r14,hx15,hr⟩:=bd hr
 refine cQ [(1,(iv axis4)),(2,(sc A6 index5 D6)),(3,(pt b7 0)),(6,(pt b8 0)),(29,(.bool (((!r9)||((index5.length:Int)==0))||(!r14))))] (bxl b8 [(.slice none 0 0),(.slice none 0 0)] 58::W1) ?_ ?_
 refine o_3 ?_
 refine lM _ (fun w s=>(((s.d 2 R).d 4 R).e 3 [1,0,2])) ?_
 refine lC 2 cb106 R (Z1d_ok hx10) R ?_
 rintro _
 refine o_2 ?_
 rcases bo (!r9) with hc16 | hc16
 refine o_15 ?_
 exact qj tI
 refine o_5 ?_
 rcases bo ((!r9)||((index5.length:Int)==0)) with hc17 | hc17
 refine o_10 ?_
 exact qj tI
 refine o_4 ?_
 refine t_some 2 sees_rd (show 0<t1.Dims.length by have:=(hg11 hc17); omega) (fun g12 o13 ha=>?_)
 subst ha
 refine lW (wnF hc17) (vIa sl23 sz3 R R (hg11 hc17)) (lW (wnF hc17) (vLi 2 ag3 sees_rd R (hg11 hc17)) (lM _ (fun w s=>(s.d 4 R)) ?_))
 refine l_calln 1 R (wnF hc17) cb52 R (Z0i_ok (gcall_t hx15 (not_ff hc17))) R ?_
 rintro _
 refine o_3 ?_
 exact qj tI
 rintro σ1
 refine o_1 ?_
 split at hr
 refine o_3 ?_
 refine lO (vz (.agg [(.slice none 0 0),(.slice none 0 0)].toArray) (v_build pl58 zc58 R R)) (l_stores 0 R R sz58 R R R R R R (l_nil (q_next (c_ret (q_ret ?_)))))
 cases hr
 exact qS ((none,0,0),(none,0,0)) (fun w s=>(((s.nilo kT3 3).nilo kT3 3).e 7 [1,0]))
 refine o_4 ?_
 obtain ⟨r19,hx20,hr⟩:=bd hr
 refine o_6 ?_
 refine lM _ (fun w s=>(s.d 2 R)) ?_
 refine lC 1 cb122 R (Z0h_ok hx20) R ?_
 rintro ⟨A21,N21,D21⟩
 refine l_len 0 sees_ow ?_
 rintro rfl
 refine o_5 ?_
 obtain ⟨r22,hx23,hr⟩:=bd hr
 refine o_2 ?_
 refine lC 1 cb92 R (FnOk.lends (A':=[OO kT3 3 A21 D21 r19]) (A:=[RR kT3 A21 D21 r19]) (B:=[]) (Zl_ok hx23) ⟨lend_ow,trivial⟩ (fun _=>trivial)) R ?_
 rintro _
 refine o_3 ?_
 split at hr
 refine o_3 ?_
 refine lO (vz (.agg [(.slice none 0 0),(.slice none 0 0)].toArray) (v_build pl58 zc58 R R)) (l_stores 1 R R sz58 R R R R R R (l_nil (q_next (c_ret (q_ret ?_)))))
 cases hr
 exact qS ((none,0,0),(none,0,0)) (fun w s=>(((s.nilo kT3 3).nilo kT3 3).e 8 [1,0]))
 refine o_4 ?_
 obtain ⟨r25,hx26,hr⟩:=bd hr
 refine o_2 ?_
 refine lC 1 cb93 R (FnOk.lends (A':=[OO kT3 3 A21 D21 r19]) (A:=[RR kT3 A21 D21 r19]) (B:=[]) (Z0g_ok hx26) ⟨lend_ow,trivial⟩ (fun _=>⟨(closed_ow cT3),(closed_ow cT3),trivial⟩)) R ?_
 rintro ⟨⟨A27,N27,D27⟩,⟨A28,N28,D28⟩⟩
 refine l_len 1 sees_ow ?_
 rintro rfl
 refine l_len 2 sees_ow ?_
 rintro rfl
 refine l_alloc R R zc58 (fun b29=>(l_stores 0 R R sz58 R R R R R R (lN (bxl b29 [(sc A27 r25.Dims D27),(sc A28 r25.Data D28)] 58::_::_::_::_::W1) ?_)))
 refine o_3 ?_
 refine c_cut (A:=((List Int))×(Unit)) (fun a=>Z0q_J1 r25 a.1=some r) (fun a=>[(6,(pt b8 0)),(8,(pt b29 0))]) (fun a=>bxl b8 [(.slice none 0 0),(.slice none 0 0)] 58::bxl b29 [(sc A27 r25.Dims D27),(sc A28 r25.Data D28)] 58::OO kT3 3 A27 D27 r25.Dims::ow kT3 3 (.slice A28 r25.Data.length D28) a.1::W1) ?_ ?_
 refine o_6 ?_
 obtain ⟨e1,hl1,hk1⟩:=bd hr
 refine c_loop (A:=Unit) hl1 (fun s a=>[(1,(iv axis4)),(2,(sc A6 index5 D6)),(3,(pt b7 0)),(6,(pt b8 0)),(7,(sc A21 r19 D21)),(8,(pt b29 0)),(9,(iv s.2))]) (fun s a=>bxl b8 [(.slice none 0 0),(.slice none 0 0)] 58::OO kT3 3 A21 D21 r19::bxl b29 [(sc A27 r25.Dims D27),(sc A28 r25.Data D28)] 58::OO kT3 3 A27 D27 r25.Dims::ow kT3 3 (.slice A28 r25.Data.length D28) s.1::W1) () (aS R) (tE 5 [4,1,0,2,3]) ?_
 rintro ⟨x48,i49⟩ _ σ1 out1 hr he1
 dsimp only [Z0q_L1] at hr
 refine o_10 ?_
 split at hr
 refine o_6 ?_
 obtain ⟨r51,hx52,hr⟩:=bd hr
 refine o_3 ?_
 refine lM _ (tE 5 [1,0,2,3,4]) ?_
 refine lC 1 cb102 R (FnOk.lends (A':=[OO kT3 3 A21 D21 r19]) (A:=[RR kT3 A21 D21 r19]) (B:=[]) (Zg_ok hx52) ⟨lend_ow,trivial⟩ (fun _=>⟨(closed_ow cT3),trivial⟩)) R ?_
 rintro ⟨A53,N53,D53⟩
 refine l_len 1 sees_ow ?_
 rintro rfl
 refine o_3 ?_
 obtain ⟨hg54,hr⟩:=gd hr
 obtain ⟨hg57,hr⟩:=gd hr
 obtain ⟨r60,hx61,hr⟩:=bd hr
 obtain ⟨r63,hx64,hr⟩:=bd hr
 obtain ⟨hg65,hr⟩:=gd hr
 refine c_some 1 sees_ow (show 0<r51.length by have:=hg54; omega) (fun g55 o56 ha=>?_)
 subst ha
 refine c_some 9 sees_rd (show 0<index5.length by have:=hg57; omega) (fun g58 o59 ha=>?_)
 subst ha
 refine c_some 5 sees_ow (show 0<r25.Data.length by have:=hg65; omega) (fun g66 o67 ha=>?_)
 subst ha
 refine cdr 17 [5] mixo fun ht hn=>?_
 refine d13_ 0 [5] ?_
 refine d1 13 R (lM _ (tE 6 [1,0,2,3,4,5]) ?_)
 refine lC 1 cb122 R (FnOk.lends (A':=[OO kT3 3 (ad g55 o56) D53 r51]) (A:=[RR kT3 (ad g55 o56) D53 r51]) (B:=[]) (Z0h_ok hx61) ⟨lend_ow,trivial⟩ (fun _=>⟨(closed_ow cT3),trivial⟩)) R ?_
 rintro ⟨A62,N62,D62⟩
 refine l_len 1 sees_ow ?_
 rintro rfl
 refine l_nil (q_draw (tE 7 [2,0,3,4,5]) (d1 14 R (lM _ (fun w s=>(((s.d 8 R).d 10 R).e 9 [3,1,0,2,4,5,6,7,8])) ?_)))
 refine lC 3 cb112 R (FnOk.lends (A':=[OO kT3 3 A62 D62 r60]) (A:=[RR kT3 A62 D62 r60]) (B:=[RR kT3 A2 D2 t1.Dims,RR kT3 A3 D3 t1.Data]) (FnOk.perm (Z13_ok hx64) (Pre':=[RR kT3 A62 D62 r60,RR kT3 A2 D2 t1.Dims,RR kT3 A3 D3 t1.Data]) (fun _ _ _ s=>(s.e 3 [1,2,0]))) ⟨lend_ow,trivial⟩ (fun _=>trivial)) R ?_
 rintro _
 refine l_nil (q_draw (tE 7 [2,1,3,4,5]) (dR 15 R (vIa sl23 sz3 R R hg65) (hS:=(tE 7 [2,1,3,4,5])) (d1 16 R (lM _ (fun w s=>(s.f 7 [6,1,0,6])) ?_))))
 refine l_stx (K:=kT3) (x':=r63) 0 i49 R R sz3 R R hg65.1 hg65.2 ?_ ?_
 exact fun I h s=>(mO3).put I h () r63 s
 refine l_nil (q_draw (tE 7 [3,2,4,5,6]) (dD ?_))
 refine o_7 ?_
 cases hr
 exact qA () (tE 7 [4,3,5,6,0])
 refine o_3 ?_
 cases hr
 obtain rfl:=he1 _ R
 have hr:=hk1
 refine o_2 ?_
 exact qI (x48,()) hr (tE 5 [0,2,3,4])
 rintro ⟨x70,_⟩ σ1 hr
 dsimp only [Z0q_J1] at hr
 refine o_3 ?_
 refine l_stores 0 R R sz58 R R R R R R (lN (bxl b8 [(sc A27 r25.Dims D27),(sc A28 r25.Data D28)] 58::bxl b29 [(sc A27 r25.Dims D27),(sc A28 r25.Data D28)] 58::_::ow kT3 3 (.slice A28 r25.Data.length D28) x70::W1) ?_)
 refine o_3 ?_
 cases hr
 exact qS ((A27,r25.Dims.length,D27),(A28,r25.Data.length,D28)) (tE 8 [2,3])
theorem Z0s_ok  {t1:Tensor}{axis4:Int}{index5:(List Int)}{n7:Int}{r:Tensor}(hr:Z0s t1 axis4 index5 n7=some r) :
 FnOk Tryz.prog 89 [(.agg [(.slice A2 N2 D2),(.slice A3 N3 D3)].toArray),(iv axis4),(.slice A6 N6 D6),(iv n7)] [rds kT3 (.slice A2 N2 D2) t1.Dims,rds kT3 (.slice A3 N3 D3) t1.Data,rds kT3 (.slice A6 N6 D6) index5] (fun (h:HH×HH)=>((.agg [(s3 h.1),(s3 h.2)].toArray),[ow kT3 3 (s3 h.1) r.Dims,ow kT3 3 (s3 h.2) r.Data])):=by
 unfold Z0s at hr
 refine fn_ok Tryz.func89 R 80 R R fun C V=>?_
 refine cL 0 sees_rd ?_
 rintro rfl
 refine cL 1 sees_rd ?_
 rintro rfl
 refine cL 2 sees_rd ?_
 rintro rfl
 let W0:=RR kT3 A2 D2 t1.Dims::RR kT3 A3 D3 t1.Data::RR kT3 A6 D6 index5::V
 refine cN W0 ?_
 refine o_2 ?_
 refine lBx R fun b8=>?_
 refine l_alloc R R zc58 (fun b9=>(l_nil ?_))
 let W1:=bxl b8 [(sc A2 t1.Dims D2),(sc A3 t1.Data D3)] 58::W0
 refine o_3 ?_
 obtain ⟨r10,hx11,hr⟩:=bd hr
 obtain ⟨hg12,hr⟩:=gd hr
 obtain ⟨r15,hx16,hr⟩:=bd hr
 refine cQ [(1,(iv axis4)),(2,(sc A6 index5 D6)),(3,(iv n7)),(4,(pt b8 0)),(8,(pt b9 0)),(33,(.bool (((!r10)||((index5.length:Int) != (ix t1.Dims axis4)))||(!r15))))] (bxl b9 [(.slice none 0 0),(.slice none 0 0)] 58::W1) ?_ ?_
 refine o_3 ?_
 refine lM _ (fun w s=>(((s.d 2 R).d 4 R).e 3 [1,0,2])) ?_
 refine lC 2 cb106 R (Z1d_ok hx11) R ?_
 rintro _
 refine o_2 ?_
 rcases bo (!r10) with hc17 | hc17
 refine o_16 ?_
 exact qj tI
 refine o_5 ?_
 refine t_some 2 sees_rd (show 0<t1.Dims.length by have:=(hg12 hc17); omega) (fun g13 o14 ha=>?_)
 subst ha
 refine lW (wnF hc17) (vIa sl23 sz3 R R (hg12 hc17)) (lW (wnF hc17) (vLi 2 ag3 sees_rd R (hg12 hc17)) ?_)
 refine o_3 ?_
 rcases bo ((!r10)||((index5.length:Int) != (ix t1.Dims axis4))) with hc18 | hc18
 refine o_6 ?_
 exact qj tI
 refine o_2 ?_
 refine lM _ (fun w s=>(s.d 4 R)) ?_
 refine l_calln 1 R (wnF hc18) cb52 R (Z0i_ok (gcall_t hx16 (not_ff hc18))) R ?_
 rintro _
 refine o_3 ?_
 exact qj tI
 rintro σ1
 refine o_1 ?_
 split at hr
 refine o_3 ?_
 refine lO (vz (.agg [(.slice none 0 0),(.slice none 0 0)].toArray) (v_build pl58 zc58 R R)) (l_stores 0 R R sz58 R R R R R R (l_nil (q_next (c_ret (q_ret ?_)))))
 cases hr
 exact qS ((none,0,0),(none,0,0)) (fun w s=>(((s.nilo kT3 3).nilo kT3 3).e 7 [1,0]))
 refine o_4 ?_
 obtain ⟨r20,hx21,hr⟩:=bd hr
 refine o_5 ?_
 refine lM _ (fun w s=>(s.d 2 R)) ?_
 refine lC 1 cb122 R (Z0h_ok hx21) R ?_
 rintro ⟨A22,N22,D22⟩
 refine l_len 0 sees_ow ?_
 rintro rfl
 refine o_5 ?_
 obtain ⟨r23,hx24,hr⟩:=bd hr
 refine o_2 ?_
 refine lC 1 cb92 R (FnOk.lends (A':=[OO kT3 3 A22 D22 r20]) (A:=[RR kT3 A22 D22 r20]) (B:=[]) (Zl_ok hx24) ⟨lend_ow,trivial⟩ (fun _=>trivial)) R ?_
 rintro _
 refine o_3 ?_
 split at hr
 refine o_3 ?_
 refine lO (vz (.agg [(.slice none 0 0),(.slice none 0 0)].toArray) (v_build pl58 zc58 R R)) (l_stores 1 R R sz58 R R R R R R (l_nil (q_next (c_ret (q_ret ?_)))))
 cases hr
 exact qS ((none,0,0),(none,0,0)) (fun w s=>(((s.nilo kT3 3).nilo kT3 3).e 8 [1,0]))
 refine o_4 ?_
 obtain ⟨r26,hx27,hr⟩:=bd hr
 refine o_2 ?_
 refine lC 1 cb93 R (FnOk.lends (A':=[OO kT3 3 A22 D22 r20]) (A:=[RR kT3 A22 D22 r20]) (B:=[]) (Z0g_ok hx27) ⟨lend_ow,trivial⟩ (fun _=>⟨(closed_ow cT3),(closed_ow cT3),trivial⟩)) R ?_
 rintro ⟨⟨A28,N28,D28⟩,⟨A29,N29,D29⟩⟩
 refine l_len 1 sees_ow ?_
 rintro rfl
 refine l_len 2 sees_ow ?_
 rintro rfl
 refine l_alloc R R zc58 (fun b30=>(l_stores 0 R R sz58 R R R R R R (lN (bxl b30 [(sc A28 r26.Dims D28),(sc A29 r26.Data D29)] 58::_::_::_::_::W1) ?_)))
 refine o_3 ?_
 refine c_cut (A:=((List Int))×(Unit)) (fun a=>Z0s_J1 r26 a.1=some r) (fun a=>[(8,(pt b9 0)),(10,(pt b30 0))]) (fun a=>bxl b9 [(.slice none 0 0),(.slice none 0 0)] 58::bxl b30 [(sc A28 r26.Dims D28),(sc A29 r26.Data D29)] 58::OO kT3 3 A28 D28 r26.Dims::ow kT3 3 (.slice A29 r26.Data.length D29) a.1::W1) ?_ ?_
 refine o_6 ?_
 obtain ⟨e1,hl1,hk1⟩:=bd hr
 refine c_loop (A:=Unit) hl1 (fun s a=>[(1,(iv axis4)),(2,(sc A6 index5 D6)),(4,(pt b8 0)),(8,(pt b9 0)),(10,(pt b30 0)),(11,(iv s.2))]) (fun s a=>bxl b9 [(.slice none 0 0),(.slice none 0 0)] 58::bxl b30 [(sc A28 r26.Dims D28),(sc A29 r26.Data D29)] 58::OO kT3 3 A28 D28 r26.Dims::ow kT3 3 (.slice A29 r26.Data.length D29) s.1::W1) () (aS R) (tE 5 [4,0,2,3]) ?_
 rintro ⟨x53,i54⟩ _ σ1 out1 hr he1
 dsimp only [Z0s_L1] at hr
 refine o_10 ?_
 split at hr
 refine o_6 ?_
 obtain ⟨r56,hx57,hr⟩:=bd hr
 refine o_4 ?_
 refine lM _ (fun w s=>(s.d 5 R)) ?_
 refine lC 1 cb102 R (Zg_ok hx57) R ?_
 rintro ⟨A58,N58,D58⟩
 refine l_len 0 sees_ow ?_
 rintro rfl
 refine o_4 ?_
 obtain ⟨hg59,hr⟩:=gd hr
 obtain ⟨hg62,hr⟩:=gd hr
 obtain ⟨r65,hx66,hr⟩:=bd hr
 refine o_6 ?_
 refine t_some 0 sees_ow (show 0<r56.length by have:=hg59; omega) (fun g60 o61 ha=>?_)
 subst ha
 refine o_2 ?_
 refine t_some 8 sees_rd (show 0<index5.length by have:=hg62; omega) (fun g63 o64 ha=>?_)
 subst ha
 refine o_2 ?_
 refine lC 1 cb122 R (FnOk.lends (A':=[OO kT3 3 (ad g60 o61) D58 r56]) (A:=[RR kT3 (ad g60 o61) D58 r56]) (B:=[]) (Z0h_ok hx66) ⟨lend_ow,trivial⟩ (fun _=>⟨(closed_ow cT3),trivial⟩)) R ?_
 rintro ⟨A67,N67,D67⟩
 refine l_len 1 sees_ow ?_
 rintro rfl
 refine o_3 ?_
 obtain ⟨r68,hx69,hr⟩:=bd hr
 obtain ⟨hg70,hr⟩:=gd hr
 obtain ⟨r73,hx74,hr⟩:=bd hr
 obtain ⟨r75,hx76,hr⟩:=bd hr
 refine c_some 8 sees_rd (show 0<t1.Data.length by have:=hg70; omega) (fun g71 o72 ha=>?_)
 subst ha
 refine cdr 12 [5] mixo fun ht hn=>?_
 refine d4_ 0 [5] ?_
 refine d5_ 5 [5] ?_
 refine d1 4 R (lM _ (tE 6 [4,5,1,0,2,3]) ?_)
 refine lC 3 cb112 R (FnOk.lends (A':=[OO kT3 3 A28 D28 r26.Dims,ow kT3 3 (.slice A29 r26.Data.length D29) x53,OO kT3 3 A67 D67 r65]) (A:=[RR kT3 A28 D28 r26.Dims,rds kT3 (.slice A29 r26.Data.length D29) x53,RR kT3 A67 D67 r65]) (B:=[]) (Z13_ok (t1:=(⟨r26.Dims,x53⟩:Tensor)) hx69) ⟨lend_ow,lend_ow,lend_ow,trivial⟩ (fun _=>trivial)) R ?_
 rintro _
 refine l_nil (q_draw (tE 6 [3,2,4,5,0]) (d1 10 R (lC 0 cb115 R (Z1j_ok hx74) R ?_)))
 rintro _
 refine l_nil (q_draw (tE 6 [3,2,4,5,0]) (d1 11 R (lM _ (tE 6 [0,2,1,3,4,5]) ?_)))
 refine lC 3 cb123 R (FnOk.lends (A':=[OO kT3 3 A28 D28 r26.Dims,OO kT3 3 A67 D67 r65]) (A:=[RR kT3 A28 D28 r26.Dims,RR kT3 A67 D67 r65]) (B:=[ow kT3 3 (.slice A29 r26.Data.length D29) x53]) (FnOk.perm (Z1r_ok (t1:=(⟨r26.Dims,x53⟩:Tensor)) hx76) (Pre':=[RR kT3 A28 D28 r26.Dims,RR kT3 A67 D67 r65,ow kT3 3 (.slice A29 r26.Data.length D29) x53]) (fun _ _ _ s=>(s.e 3 [0,2,1]))) ⟨lend_ow,lend_ow,trivial⟩ (fun _=>⟨(closed_ow cT3),trivial⟩)) R ?_
 rintro _
 refine l_nil (q_draw (tE 6 [3,1,4,5,0]) (dD ?_))
 refine o_7 ?_
 cases hr
 exact qA () (tE 6 [4,5,0,2])
 refine o_3 ?_
 cases hr
 obtain rfl:=he1 _ R
 have hr:=hk1
 refine o_2 ?_
 exact qI (x53,()) hr tI
 rintro ⟨x79,_⟩ σ1 hr
 dsimp only [Z0s_J1] at hr
 refine o_3 ?_
 refine l_stores 0 R R sz58 R R R R R R (lN (bxl b9 [(sc A28 r26.Dims D28),(sc A29 r26.Data D29)] 58::_::_::ow kT3 3 (.slice A29 r26.Data.length D29) x79::W1) ?_)
 refine o_3 ?_
 cases hr
 exact qS ((A28,r26.Dims.length,D28),(A29,r26.Data.length,D29)) (tE 8 [2,3])
end Go.Proofs.YtmpnollfdpdipaaGreat
