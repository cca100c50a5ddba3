import Derived.Test.YtmpnollfdpdipaaGreatGkF
set_option linter.unusedVariables false
set_option maxRecDepth 20000
namespace Go.Proofs.YtmpnollfdpdipaaGreat
open Go Go.Pg
variable {A2 A3 A4 A5 A6 A7:Option Addr}{D2 D3 D4 D5 D6 D7 N2 N3 N4 N5 N6 N7:Nat}
theorem Z2w_ok  {op1:Int}{r:Int×Int}(hr:Z2w op1=some r) :
 FnOk Tryz.prog 75 [(iv op1)] [] (fun (h:Unit)=>((.tuple [(iv r.1),(iv r.2)].toArray),[])):=by
 unfold Z2w at hr
 refine fn_ok Tryz.func75 R 13 R R fun C V=>?_
 refine cN V ?_
 refine o_15 ?_
 split at hr
 refine o_10 ?_
 cases hr
 exact qT2 () tI
 refine o_8 ?_
 split at hr
 refine o_10 ?_
 cases hr
 exact qT2 () tI
 refine o_8 ?_
 split at hr
 refine o_10 ?_
 cases hr
 exact qT2 () tI
 refine o_11 ?_
 cases hr
 exact qT2 () tI
theorem Z35_ok  {op1:Int}{r:Bool}(hr:Z35 op1=some r) :
 FnOk Tryz.prog 76 [(iv op1)] [] (fun (h:Unit)=>((.bool r),[])):=by
 unfold Z35 at hr
 refine fn_ok Tryz.func76 R 17 R R fun C V=>?_
 refine cN V ?_
 refine o_6 ?_
 refine cQ [(2,(.bool ((((op1==1)||(op1==2))||(op1==12))||(op1==13))))] (V) ?_ ?_
 refine o_4 ?_
 rcases bo (op1==1) with hc2 | hc2
 refine o_13 ?_
 exact qj tI
 refine o_4 ?_
 rcases bo ((op1==1)||(op1==2)) with hc3 | hc3
 refine o_9 ?_
 exact qj tI
 refine o_4 ?_
 rcases bo (((op1==1)||(op1==2))||(op1==12)) with hc4 | hc4
 refine o_5 ?_
 exact qj tI
 refine o_5 ?_
 exact qj tI
 rintro σ1
 refine o_2 ?_
 cases hr
 exact qF () tI
theorem Z18_ok  {op1:Int}{r:Int}(hr:Z18 op1=some r) :
 FnOk Tryz.prog 77 [(iv op1)] [] (fun (h:Unit)=>((iv r),[])):=by
 unfold Z18 at hr
 refine fn_ok Tryz.func77 R 16 R R fun C V=>?_
 refine cN V ?_
 refine o_18 ?_
 split at hr
 refine o_9 ?_
 cases hr
 exact qF () tI
 refine o_2 ?_
 refine c_cut (A:=(Bool)×(Unit)) (fun a=>Z18_J1 op1 a.1=some r) (fun a=>[(3,(iv op1)),(6,(.bool a.1))]) (fun a=>V) ?_ ?_
 refine o_6 ?_
 split at hr
 refine o_2 ?_
 exact qI ((op1==14),()) hr tI
 refine o_5 ?_
 exact qI ((op1==15),()) hr tI
 rintro ⟨x4,_⟩ σ1 hr
 dsimp only [Z18_J1] at hr
 split at hr
 refine o_9 ?_
 cases hr
 exact qF () tI
 refine o_7 ?_
 split at hr
 refine o_9 ?_
 cases hr
 exact qF () tI
 refine o_7 ?_
 split at hr
 refine o_9 ?_
 cases hr
 exact qF () tI
 refine o_2 ?_
 refine c_cut (A:=(Bool)×(Unit)) (fun a=>Z18_J2 a.1=some r) (fun a=>[(13,(.bool a.1))]) (fun a=>V) ?_ ?_
 refine o_6 ?_
 split at hr
 refine o_2 ?_
 exact qI ((op1==18),()) hr tI
 refine o_5 ?_
 exact qI ((op1==19),()) hr tI
 rintro ⟨x9,_⟩ σ1 hr
 dsimp only [Z18_J2] at hr
 split at hr
 refine o_9 ?_
 cases hr
 exact qF () tI
 refine o_10 ?_
 cases hr
 exact qF () tI
theorem Z14_ok  {n1:Node}{r:Bool}(hr:Z14 n1=some r) :
 FnOk Tryz.prog 51 [(.agg [(iv n1.Op),(.slice A2 N2 D2),(.slice A3 N3 D3),(.slice A4 N4 D4),(vstr n1.Form),(.slice A5 N5 D5)].toArray)] [rds kT3 (.slice A2 N2 D2) n1.Args,rds kT3 (.slice A3 N3 D3) n1.Dims,rds kT3 (.slice A4 N4 D4) n1.Ints,rds kT3 (.slice A5 N5 D5) n1.Data] (fun (h:Unit)=>((.bool r),[])):=by
 unfold Z14 at hr
 refine fn_ok Tryz.func51 R 92 R R fun C V=>?_
 refine cL 0 sees_rd ?_
 rintro rfl
 refine cL 1 sees_rd ?_
 rintro rfl
 refine cL 2 sees_rd ?_
 rintro rfl
 refine cL 3 sees_rd ?_
 rintro rfl
 let W0:=RR kT3 A2 D2 n1.Args::RR kT3 A3 D3 n1.Dims::RR kT3 A4 D4 n1.Ints::RR kT3 A5 D5 n1.Data::V
 refine cN W0 ?_
 refine o_2 ?_
 refine lBx R fun b6=>?_
 refine o_2 ?_
 let W1:=bxl b6 [(iv n1.Op),(sc A2 n1.Args D2),(sc A3 n1.Dims D3),(sc A4 n1.Ints D4),(vstr n1.Form),(sc A5 n1.Data D5)] 54::W0
 refine qN W1 ?_
 refine o_3 ?_
 refine cQ [(1,(pt b6 0)),(13,(.bool ((decide (n1.Op<1))||(decide (n1.Op>19)))))] (W1) ?_ ?_
 refine o_5 ?_
 rcases bo (decide (n1.Op<1)) with hc7 | hc7
 refine o_3 ?_
 refine lO (pOT (decide (n1.Op>19)) R hc7) (l_nil ?_)
 exact qj tI
 refine o_3 ?_
 refine lO (pOF R hc7 R) (l_nil ?_)
 exact qj tI
 rintro σ1
 refine o_1 ?_
 split at hr
 refine o_8 ?_
 cases hr
 exact qF () (tE 5 [])
 refine o_4 ?_
 obtain ⟨r9,hx10,hr⟩:=bd hr
 refine o_3 ?_
 refine lC 0 cb75 R (Z2w_ok hx10) R ?_
 rintro _
 refine lO (vT R) ?_
 refine o_8 ?_
 refine cQ [(1,(pt b6 0)),(31,(.bool ((decide ((n1.Args.length:Int)<r9.1))||(decide ((n1.Args.length:Int)>r9.2)))))] (W1) ?_ ?_
 refine o_7 ?_
 rcases bo (decide ((n1.Args.length:Int)<r9.1)) with hc11 | hc11
 refine o_5 ?_
 refine lO (pOT (decide ((n1.Args.length:Int)>r9.2)) R hc11) (l_nil ?_)
 exact qj tI
 refine o_5 ?_
 refine lO (pOF R hc11 R) (l_nil ?_)
 exact qj tI
 rintro σ1
 refine o_1 ?_
 split at hr
 refine o_8 ?_
 cases hr
 exact qF () (tE 5 [])
 refine o_5 ?_
 obtain ⟨r13,hx14,hr⟩:=bd hr
 refine cQ [(1,(pt b6 0)),(62,(.bool ((((!r13)&&(decide ((n1.Dims.length:Int)>0)))||((n1.Op != 11)&&(!(n1.Form==([]:Str)))))||((n1.Op != 2)&&(decide ((n1.Data.length:Int)>0))))))] (W1) ?_ ?_
 refine o_3 ?_
 refine lC 0 cb76 R (Z35_ok hx14) R ?_
 rintro _
 refine o_2 ?_
 rcases bo (!r13) with hc15 | hc15
 refine o_4 ?_
 refine lO (pAT R hc15 R) (lB R ?_)
 rcases bo ((!r13)&&(decide ((n1.Dims.length:Int)>0))) with hc16 | hc16
 refine o_8 ?_
 refine lO (pOT ((n1.Op != 11)&&(!(n1.Form==([]:Str)))) R hc16) ?_
 refine o_10 ?_
 refine lO (pOT ((n1.Op != 2)&&(decide ((n1.Data.length:Int)>0))) R (oT hc16)) (l_nil ?_)
 exact qj tI
 refine o_4 ?_
 rcases bo (n1.Op != 11) with hc17 | hc17
 refine o_2 ?_
 refine lW (wnT hc17) (vz (.bool (!(n1.Form==([]:Str)))) (v_scmp R R R)) (lW (wnF hc16) (pAT R hc17 R) (lO (pOF R hc16 R) (lB R ?_)))
 rcases bo (((!r13)&&(decide ((n1.Dims.length:Int)>0)))||((n1.Op != 11)&&(!(n1.Form==([]:Str))))) with hc18 | hc18
 refine o_9 ?_
 refine lO (pOT ((n1.Op != 2)&&(decide ((n1.Data.length:Int)>0))) R hc18) (l_nil ?_)
 exact qj tI
 refine o_4 ?_
 rcases bo (n1.Op != 2) with hc19 | hc19
 refine o_4 ?_
 refine lW (wnF hc18) (pAT R hc19 R) (lO (pOF R hc18 R) (l_nil ?_))
 exact qj tI
 refine o_4 ?_
 refine lW (wnF hc18) (pAF (decide ((n1.Data.length:Int)>0)) R hc19) (lO (pOF R hc18 R) (l_nil ?_))
 exact qj tI
 refine o_3 ?_
 refine lW (wnF hc16) (pAF (!(n1.Form==([]:Str))) R hc17) (lO (pOF R hc16 R) (lB R ?_))
 rcases bo (((!r13)&&(decide ((n1.Dims.length:Int)>0)))||((n1.Op != 11)&&(!(n1.Form==([]:Str))))) with hc20 | hc20
 refine o_9 ?_
 refine lO (pOT ((n1.Op != 2)&&(decide ((n1.Data.length:Int)>0))) R hc20) (l_nil ?_)
 exact qj tI
 refine o_4 ?_
 rcases bo (n1.Op != 2) with hc21 | hc21
 refine o_4 ?_
 refine lW (wnF hc20) (pAT R hc21 R) (lO (pOF R hc20 R) (l_nil ?_))
 exact qj tI
 refine o_4 ?_
 refine lW (wnF hc20) (pAF (decide ((n1.Data.length:Int)>0)) R hc21) (lO (pOF R hc20 R) (l_nil ?_))
 exact qj tI
 refine o_4 ?_
 refine lO (pAF (decide ((n1.Dims.length:Int)>0)) R hc15) ?_
 refine o_5 ?_
 rcases bo (n1.Op != 11) with hc22 | hc22
 refine o_2 ?_
 refine lW (wnT hc22) (vz (.bool (!(n1.Form==([]:Str)))) (v_scmp R R R)) (lW (wnF (aF hc15)) (pAT R hc22 R) (lO (pOF R (aF hc15) R) (lB R ?_)))
 rcases bo (((!r13)&&(decide ((n1.Dims.length:Int)>0)))||((n1.Op != 11)&&(!(n1.Form==([]:Str))))) with hc23 | hc23
 refine o_9 ?_
 refine lO (pOT ((n1.Op != 2)&&(decide ((n1.Data.length:Int)>0))) R hc23) (l_nil ?_)
 exact qj tI
 refine o_4 ?_
 rcases bo (n1.Op != 2) with hc24 | hc24
 refine o_4 ?_
 refine lW (wnF hc23) (pAT R hc24 R) (lO (pOF R hc23 R) (l_nil ?_))
 exact qj tI
 refine o_4 ?_
 refine lW (wnF hc23) (pAF (decide ((n1.Data.length:Int)>0)) R hc24) (lO (pOF R hc23 R) (l_nil ?_))
 exact qj tI
 refine o_3 ?_
 refine lW (wnF (aF hc15)) (pAF (!(n1.Form==([]:Str))) R hc22) (lO (pOF R (aF hc15) R) (lB R ?_))
 rcases bo (((!r13)&&(decide ((n1.Dims.length:Int)>0)))||((n1.Op != 11)&&(!(n1.Form==([]:Str))))) with hc25 | hc25
 refine o_9 ?_
 refine lO (pOT ((n1.Op != 2)&&(decide ((n1.Data.length:Int)>0))) R hc25) (l_nil ?_)
 exact qj tI
 refine o_4 ?_
 rcases bo (n1.Op != 2) with hc26 | hc26
 refine o_4 ?_
 refine lW (wnF hc25) (pAT R hc26 R) (lO (pOF R hc25 R) (l_nil ?_))
 exact qj tI
 refine o_4 ?_
 refine lW (wnF hc25) (pAF (decide ((n1.Data.length:Int)>0)) R hc26) (lO (pOF R hc25 R) (l_nil ?_))
 exact qj tI
 rintro σ1
 refine o_1 ?_
 split at hr
 refine o_8 ?_
 cases hr
 exact qF () (tE 5 [])
 refine o_4 ?_
 obtain ⟨r28,hx29,hr⟩:=bd hr
 refine o_3 ?_
 refine lC 0 cb77 R (Z18_ok hx29) R ?_
 rintro _
 refine o_5 ?_
 refine cQ [(1,(pt b6 0)),(5,(iv r28)),(73,(.bool ((n1.Op==16)||(n1.Op==17))))] (W1) ?_ ?_
 refine o_5 ?_
 rcases bo (n1.Op==16) with hc30 | hc30
 refine o_3 ?_
 refine lO (pOT (n1.Op==17) R hc30) (l_nil ?_)
 exact qj tI
 refine o_3 ?_
 refine lO (pOF R hc30 R) (l_nil ?_)
 exact qj tI
 rintro σ1
 refine o_1 ?_
 split at hr
 refine o_2 ?_
 refine cQ [(2,(.bool ((decide ((n1.Ints.length:Int)≥r28))&&(decide ((n1.Ints.length:Int)≤(w64 (r28+4096)))))))] (W1) ?_ ?_
 refine o_7 ?_
 rcases bo (decide ((n1.Ints.length:Int)≥r28)) with hc32 | hc32
 refine o_6 ?_
 refine lO (pAT R hc32 R) ?_
 refine o_2 ?_
 exact qj tI
 refine o_6 ?_
 refine lO (pAF (decide ((n1.Ints.length:Int)≤(w64 (r28+4096)))) R hc32) ?_
 refine o_2 ?_
 exact qj tI
 rintro σ1
 refine o_3 ?_
 cases hr
 exact qF () (tE 5 [])
 refine o_14 ?_
 cases hr
 exact qF () (tE 5 [])
theorem Z0i_ok  {index1:(List Int)}{n3:Int}{r:Bool}(hr:Z0i index1 n3=some r) :
 FnOk Tryz.prog 52 [(.slice A2 N2 D2),(iv n3)] [rds kT3 (.slice A2 N2 D2) index1] (fun (h:Unit)=>((.bool r),[])):=by
 unfold Z0i at hr
 refine fn_ok Tryz.func52 R 25 R R fun C V=>?_
 refine cL 0 sees_rd ?_
 rintro rfl
 let W0:=RR kT3 A2 D2 index1::V
 refine cN W0 ?_
 refine o_6 ?_
 refine c_cut (A:=(Unit)×(Unit)) (fun a=>Z0i_J1=some r) (fun a=>[]) (fun a=>W0) ?_ ?_
 refine o_6 ?_
 obtain ⟨e1,hl1,hk1⟩:=bd hr
 refine c_loop (A:=Unit) hl1 (fun s a=>[(0,(sc A2 index1 D2)),(1,(iv n3)),(5,(iv s))]) (fun s a=>W0) () (aS R) tI ?_
 rintro i10 _ σ1 out1 hr he1
 dsimp only [Z0i_L1] at hr
 refine o_9 ?_
 split at hr
 refine o_6 ?_
 obtain ⟨hg12,hr⟩:=gd hr
 refine cQ [(0,(sc A2 index1 D2)),(1,(iv n3)),(5,(iv i10)),(24,(.bool ((decide ((ix index1 i10)<0))||(decide ((ix index1 i10)≥n3)))))] (W0) ?_ ?_
 refine o_3 ?_
 refine t_some 0 sees_rd (show 0<index1.length by have:=hg12; omega) (fun g13 o14 ha=>?_)
 subst ha
 refine o_4 ?_
 rcases bo (decide ((ix index1 i10)<0)) with hc15 | hc15
 refine o_8 ?_
 exact qj tI
 refine o_8 ?_
 exact qj tI
 rintro σ1
 refine o_1 ?_
 split at hr
 refine o_9 ?_
 cases hr
 obtain rfl:=he1 _ R
 have hr:=hk1
 refine o_3 ?_
 cases hr
 exact qF () (tE 1 [])
 refine o_9 ?_
 cases hr
 exact qA () tI
 refine o_3 ?_
 cases hr
 obtain rfl:=he1 _ R
 have hr:=hk1
 refine o_2 ?_
 exact q_join ((),()) hr trivial tI
 rintro ⟨_,_⟩ σ1 hr
 dsimp only [Z0i_J1] at hr
 refine o_6 ?_
 cases hr
 exact qF () (tE 1 [])
theorem Zt_ok  {dims1:(List Int)}{r:Int}(hr:Zt dims1=some r) :
 FnOk Tryz.prog 95 [(.slice A2 N2 D2)] [rds kT3 (.slice A2 N2 D2) dims1] (fun (h:Unit)=>((iv r),[])):=by
 unfold Zt at hr
 refine fn_ok Tryz.func95 R 32 R R fun C V=>?_
 refine cL 0 sees_rd ?_
 rintro rfl
 let W0:=RR kT3 A2 D2 dims1::V
 refine cN W0 ?_
 refine o_11 ?_
 refine c_cut (A:=(Int)×(Unit)) (fun a=>Zt_J1 a.1=some r) (fun a=>[(3,(iv a.1))]) (fun a=>W0) ?_ ?_
 refine o_6 ?_
 obtain ⟨e1,hl1,hk1⟩:=bd hr
 refine c_loop (A:=Unit) hl1 (fun s a=>[(0,(sc A2 dims1 D2)),(3,(iv s.1)),(4,(iv s.2))]) (fun s a=>W0) () (aS R) tI ?_
 rintro ⟨n12,i13⟩ _ σ1 out1 hr he1
 dsimp only [Zt_L1] at hr
 refine o_9 ?_
 split at hr
 refine o_7 ?_
 obtain ⟨hg15,hr⟩:=gd hr
 refine cQ [(0,(sc A2 dims1 D2)),(3,(iv n12)),(4,(iv i13)),(22,(.bool ((decide ((ix dims1 i13)<1))||(decide ((ix dims1 i13)>4096)))))] (W0) ?_ ?_
 refine o_3 ?_
 refine t_some 0 sees_rd (show 0<dims1.length by have:=hg15; omega) (fun g16 o17 ha=>?_)
 subst ha
 refine o_4 ?_
 rcases bo (decide ((ix dims1 i13)<1)) with hc18 | hc18
 refine o_7 ?_
 exact qj tI
 refine o_7 ?_
 exact qj tI
 rintro σ1
 refine o_1 ?_
 split at hr
 refine o_10 ?_
 cases hr
 obtain rfl:=he1 _ R
 have hr:=hk1
 refine o_3 ?_
 cases hr
 exact qF () (tE 1 [])
 refine o_8 ?_
 refine t_some 0 sees_rd (show 0<dims1.length by have:=hg15; omega) (fun g20 o21 ha=>?_)
 subst ha
 refine o_12 ?_
 split at hr
 refine o_9 ?_
 cases hr
 obtain rfl:=he1 _ R
 have hr:=hk1
 refine o_3 ?_
 cases hr
 exact qF () (tE 1 [])
 refine o_9 ?_
 cases hr
 exact qA () tI
 refine o_3 ?_
 cases hr
 obtain rfl:=he1 _ R
 have hr:=hk1
 refine o_2 ?_
 exact qI (n12,()) hr tI
 rintro ⟨n25,_⟩ σ1 hr
 dsimp only [Zt_J1] at hr
 refine o_7 ?_
 cases hr
 exact qF () (tE 1 [])
theorem Zl_ok  {dims1:(List Int)}{r:Bool}(hr:Zl dims1=some r) :
 FnOk Tryz.prog 92 [(.slice A2 N2 D2)] [rds kT3 (.slice A2 N2 D2) dims1] (fun (h:Unit)=>((.bool r),[])):=by
 unfold Zl at hr
 refine fn_ok Tryz.func92 R 11 R R fun C V=>?_
 refine cL 0 sees_rd ?_
 rintro rfl
 let W0:=RR kT3 A2 D2 dims1::V
 refine cN W0 ?_
 refine o_6 ?_
 obtain ⟨r3,hx4,hr⟩:=bd hr
 refine cQ [(2,(.bool ((decide ((dims1.length:Int)≤6))&&(decide (r3>0)))))] (W0) ?_ ?_
 refine o_5 ?_
 rcases bo (decide ((dims1.length:Int)≤6)) with hc5 | hc5
 refine o_1 ?_
 refine lM _ (fun w s=>(s.d 0 R)) ?_
 refine l_calln 1 R (wnT hc5) cb95 R (Zt_ok (gcall_t hx4 hc5)) R ?_
 rintro _
 refine lN W0 ?_
 refine o_4 ?_
 exact qj tI
 refine o_6 ?_
 exact qj tI
 rintro σ1
 refine o_2 ?_
 cases hr
 exact qF () (tE 1 [])
theorem Zo_ok  {t1:Tensor}{r:Bool}(hr:Zo t1=some r) :
 FnOk Tryz.prog 55 [(.agg [(.slice A2 N2 D2),(.slice A3 N3 D3)].toArray)] [rds kT3 (.slice A2 N2 D2) t1.Dims,rds kT3 (.slice A3 N3 D3) t1.Data] (fun (h:Unit)=>((.bool r),[])):=by
 unfold Zo at hr
 refine fn_ok Tryz.func55 R 38 R R fun C V=>?_
 refine cL 0 sees_rd ?_
 rintro rfl
 refine cL 1 sees_rd ?_
 rintro rfl
 let W0:=RR kT3 A2 D2 t1.Dims::RR kT3 A3 D3 t1.Data::V
 refine cN W0 ?_
 refine o_2 ?_
 refine lBx R fun b4=>?_
 refine o_2 ?_
 let W1:=bxl b4 [(sc A2 t1.Dims D2),(sc A3 t1.Data D3)] 58::W0
 refine qN W1 ?_
 refine o_3 ?_
 obtain ⟨r5,hx6,hr⟩:=bd hr
 obtain ⟨r7,hx8,hr⟩:=bd hr
 refine cQ [(1,(pt b4 0)),(16,(.bool ((!r5)||((t1.Data.length:Int) != r7))))] (W1) ?_ ?_
 rcases bo (!r5) with hc9 | hc9
 refine cdr 13 [] mixo fun ht hn=>?_
 refine d2_ 0 [] ?_
 refine d1 2 R (lM _ (fun w s=>(s.d 1 R)) ?_)
 refine lC 1 cb92 R (Zl_ok hx6) R ?_
 rintro _
 refine lN W1 ?_
 refine l_nil (q_draw (sL []) ?_)
 refine d10_ 3 [] ?_
 refine dD ?_
 exact qj tI
 refine cdr 13 [] mixo fun ht hn=>?_
 refine d2_ 0 [] ?_
 refine d1 2 R (lM _ (fun w s=>(s.d 1 R)) ?_)
 refine lC 1 cb92 R (Zl_ok hx6) R ?_
 rintro _
 refine lN W1 ?_
 refine l_nil (q_draw (sL []) ?_)
 refine d7_ 3 [] ?_
 refine d1 10 R (lM _ (fun w s=>(s.d 1 R)) ?_)
 refine l_calln 1 R (wnF hc9) cb95 R (Zt_ok (gcall_t hx8 (not_ff hc9))) R ?_
 rintro _
 refine lN W1 ?_
 refine l_nil (q_draw (sL []) ?_)
 refine d2_ 11 [] ?_
 refine dD ?_
 exact qj tI
 rintro σ1
 refine o_1 ?_
 split at hr
 refine o_8 ?_
 cases hr
 exact qF () (tE 3 [])
 refine o_4 ?_
 refine c_cut (A:=(Unit)×(Unit)) (fun a=>Zo_J1=some r) (fun a=>[]) (fun a=>W1) ?_ ?_
 refine o_6 ?_
 obtain ⟨e1,hl1,hk1⟩:=bd hr
 refine c_loop (A:=Unit) hl1 (fun s a=>[(1,(pt b4 0)),(3,(iv s))]) (fun s a=>W1) () (aS R) tI ?_
 rintro i17 _ σ1 out1 hr he1
 dsimp only [Zo_L1] at hr
 refine o_10 ?_
 split at hr
 refine o_6 ?_
 obtain ⟨hg19,hr⟩:=gd hr
 refine cQ [(1,(pt b4 0)),(3,(iv i17)),(37,(.bool ((decide ((ix t1.Data i17)<0))||(decide ((ix t1.Data i17)≥2147483647)))))] (W1) ?_ ?_
 refine o_4 ?_
 refine t_some 2 sees_rd (show 0<t1.Data.length by have:=hg19; omega) (fun g20 o21 ha=>?_)
 subst ha
 refine o_4 ?_
 rcases bo (decide ((ix t1.Data i17)<0)) with hc22 | hc22
 refine o_8 ?_
 exact qj tI
 refine o_8 ?_
 exact qj tI
 rintro σ1
 refine o_1 ?_
 split at hr
 refine o_9 ?_
 cases hr
 obtain rfl:=he1 _ R
 have hr:=hk1
 refine o_3 ?_
 cases hr
 exact qF () (tE 3 [])
 refine o_9 ?_
 cases hr
 exact qA () tI
 refine o_3 ?_
 cases hr
 obtain rfl:=he1 _ R
 have hr:=hk1
 refine o_2 ?_
 exact q_join ((),()) hr trivial tI
 rintro ⟨_,_⟩ σ1 hr
 dsimp only [Zo_J1] at hr
 refine o_6 ?_
 cases hr
 exact qF () (tE 3 [])
theorem Zq_ok  {a1:(List Int)}{r:(List Int)}(hr:Zq a1=some r) :
 FnOk Tryz.prog 57 [(.slice A2 N2 D2)] [rds kT3 (.slice A2 N2 D2) a1] (fun (h:HH)=>((s3 h),[ow kT3 3 (s3 h) r])):=by
 unfold Zq at hr
 refine fn_ok Tryz.func57 R 6 R R fun C V=>?_
 refine cL 0 sees_rd ?_
 rintro rfl
 let W0:=RR kT3 A2 D2 a1::V
 refine cN W0 ?_
 refine o_6 ?_
 obtain ⟨hg4,hr⟩:=gd hr
 refine c_region (l_build (K:=kT3) (xs:=([]:List Int)) (vs:=[]) 0 R R sl23 sz3 zc3 R R R R R R ?_ R (fun A3 D3=>?_))
 exact fun I h s=>(mO3).list [] I h s
 refine lS R (lM _ (fun w s=>((s.dup 1 R).mv 1)) ?_)
 refine l_app (K:=kT3) 17592186044416 R R sl23 sz3 by3 (Zr.zk zT3 zc3) R R R R R R (src_rd (Kind.scal_flat _ _)) hg4 (fun A5 D5=>(lN (OO kT3 3 A5 D5 (([]:List Int)++a1)::W0) ?_))
 refine o_4 ?_
 cases hr
 exact qF (A5,(([]:List Int)++a1).length,D5) (tE 2 [0])
theorem Zz_ok  {a1:(List Int)}{b3:(List Int)}{r:Bool}(hr:Zz a1 b3=some r) :
 FnOk Tryz.prog 56 [(.slice A2 N2 D2),(.slice A4 N4 D4)] [rds kT3 (.slice A2 N2 D2) a1,rds kT3 (.slice A4 N4 D4) b3] (fun (h:Unit)=>((.bool r),[])):=by
 unfold Zz at hr
 refine fn_ok Tryz.func56 R 26 R R fun C V=>?_
 refine cL 0 sees_rd ?_
 rintro rfl
 refine cL 1 sees_rd ?_
 rintro rfl
 let W0:=RR kT3 A2 D2 a1::RR kT3 A4 D4 b3::V
 refine cN W0 ?_
 refine o_15 ?_
 split at hr
 refine o_8 ?_
 cases hr
 exact qF () (tE 2 [])
 refine o_4 ?_
 refine c_cut (A:=(Unit)×(Unit)) (fun a=>Zz_J1=some r) (fun a=>[]) (fun a=>W0) ?_ ?_
 refine o_6 ?_
 obtain ⟨e1,hl1,hk1⟩:=bd hr
 refine c_loop (A:=Unit) hl1 (fun s a=>[(0,(sc A2 a1 D2)),(1,(sc A4 b3 D4)),(5,(iv s))]) (fun s a=>W0) () (aS R) tI ?_
 rintro i14 _ σ1 out1 hr he1
 dsimp only [Zz_L1] at hr
 refine o_9 ?_
 split at hr
 refine o_6 ?_
 obtain ⟨hg16,hr⟩:=gd hr
 obtain ⟨hg19,hr⟩:=gd hr
 refine c_some 0 sees_rd (show 0<a1.length by have:=hg16; omega) (fun g17 o18 ha=>?_)
 subst ha
 refine c_some 1 sees_rd (show 0<b3.length by have:=hg19; omega) (fun g20 o21 ha=>?_)
 subst ha
 refine cdr 9 [] mixo fun ht hn=>?_
 refine d9_ 0 [] ?_
 refine dD (q_next ?_)
 split at hr
 refine o_9 ?_
 cases hr
 obtain rfl:=he1 _ R
 have hr:=hk1
 refine o_3 ?_
 cases hr
 exact qF () (tE 2 [])
 refine o_9 ?_
 cases hr
 exact qA () tI
 refine o_3 ?_
 cases hr
 obtain rfl:=he1 _ R
 have hr:=hk1
 refine o_2 ?_
 exact q_join ((),()) hr trivial tI
 rintro ⟨_,_⟩ σ1 hr
 dsimp only [Zz_J1] at hr
 refine o_6 ?_
 cases hr
 exact qF () (tE 2 [])
theorem Z26_ok  {dims1:(List Int)}{k3:Int}{r:Int}(hr:Z26 dims1 k3=some r) :
 FnOk Tryz.prog 138 [(.slice A2 N2 D2),(iv k3)] [rds kT3 (.slice A2 N2 D2) dims1] (fun (h:Unit)=>((iv r),[])):=by
 unfold Z26 at hr
 refine fn_ok Tryz.func138 R 17 R R fun C V=>?_
 refine cL 0 sees_rd ?_
 rintro rfl
 let W0:=RR kT3 A2 D2 dims1::V
 refine cN W0 ?_
 refine o_14 ?_
 split at hr
 refine o_8 ?_
 cases hr
 exact qF () (tE 1 [])
 refine o_4 ?_
 obtain ⟨hg5,hr⟩:=gd hr
 refine o_7 ?_
 refine t_some 0 sees_rd (show 0<dims1.length by have:=hg5; omega) (fun g6 o7 ha=>?_)
 subst ha
 refine o_6 ?_
 cases hr
 exact qF () (tE 1 [])
theorem Zy_ok  {a1:(List Int)}{b3:(List Int)}{r:(List Int)}(hr:Zy a1 b3=some r) :
 FnOk Tryz.prog 101 [(.slice A2 N2 D2),(.slice A4 N4 D4)] [rds kT3 (.slice A2 N2 D2) a1,rds kT3 (.slice A4 N4 D4) b3] (fun (h:HH)=>((s3 h),[ow kT3 3 (s3 h) r])):=by
 unfold Zy at hr
 refine fn_ok Tryz.func101 R 68 R R fun C V=>?_
 refine cL 0 sees_rd ?_
 rintro rfl
 refine cL 1 sees_rd ?_
 rintro rfl
 let W0:=RR kT3 A2 D2 a1::RR kT3 A4 D4 b3::V
 refine cN W0 ?_
 refine o_7 ?_
 obtain ⟨r5,hx6,hr⟩:=bd hr
 obtain ⟨r7,hx8,hr⟩:=bd hr
 refine cQ [(0,(sc A2 a1 D2)),(1,(sc A4 b3 D4)),(17,(.bool ((!r5)||(!r7))))] (W0) ?_ ?_
 refine o_2 ?_
 refine lM _ (fun w s=>(s.d 0 R)) ?_
 refine lC 1 cb92 R (Zl_ok hx6) R ?_
 rintro _
 refine lN W0 ?_
 refine o_2 ?_
 rcases bo (!r5) with hc9 | hc9
 refine o_5 ?_
 exact qj tI
 refine o_1 ?_
 refine lM _ (fun w s=>(s.d 1 R)) ?_
 refine l_calln 1 R (wnF hc9) cb92 R (Zl_ok (gcall_t hx8 (not_ff hc9))) R ?_
 rintro _
 refine lN W0 ?_
 refine o_3 ?_
 exact qj tI
 rintro σ1
 refine o_1 ?_
 split at hr
 refine o_3 ?_
 refine l_build (K:=kT3) (xs:=([]:List Int)) (vs:=[]) 0 R R sl23 sz3 zc3 R R R R R R ?_ R (fun A11 D11=>?_)
 exact fun I h s=>(mO3).list [] I h s
 refine o_5 ?_
 cases hr
 exact qF (A11,([]:List Int).length,D11) (tE 3 [0])
 refine o_11 ?_
 refine c_cut (A:=(Int)×(Unit)) (fun a=>Zy_J1 a1 b3 a.1=some r) (fun a=>[(0,(sc A2 a1 D2)),(1,(sc A4 b3 D4)),(5,(iv a.1))]) (fun a=>W0) ?_ ?_
 refine o_8 ?_
 split at hr
 refine o_6 ?_
 exact qI ((b3.length:Int),()) hr tI
 refine o_2 ?_
 exact qI ((a1.length:Int),()) hr tI
 rintro ⟨n13,_⟩ σ1 hr
 dsimp only [Zy_J1] at hr
 refine o_1 ?_
 obtain ⟨hg14,hr⟩:=gd hr
 refine o_2 ?_
 refine l_make (K:=kT3) (m:=n13) (z:=(0:Int)) R R sl23 sz3 by3 (Zr.zk zT3 zc3) (by decide) R R hg14.1 hg14.2.1 hg14.2.2 (fun A15 D15=>(lS R (l_nil (q_next (c_seq (c_cut (A:=((List Int))×(Unit)) (fun a=>Zy_J4 a.1=some r) (fun a=>[(6,(sc A15 (List.replicate n13.toNat (0:Int)) D15))]) (fun a=>ow kT3 3 (.slice A15 (List.replicate n13.toNat (0:Int)).length D15) a.1::W0) ?_ ?_))))))
 refine o_6 ?_
 obtain ⟨e1,hl1,hk1⟩:=bd hr
 refine c_loop (A:=Unit) hl1 (fun s a=>[(0,(sc A2 a1 D2)),(1,(sc A4 b3 D4)),(5,(iv n13)),(6,(sc A15 (List.replicate n13.toNat (0:Int)) D15)),(7,(iv s.2))]) (fun s a=>ow kT3 3 (.slice A15 (List.replicate n13.toNat (0:Int)).length D15) s.1::W0) () (aS R) tI ?_
 rintro ⟨x32,k33⟩ _ σ1 out1 hr he1
 dsimp only [Zy_L1] at hr
 refine o_8 ?_
 split at hr
 refine o_6 ?_
 obtain ⟨r35,hx36,hr⟩:=bd hr
 refine o_3 ?_
 refine lM _ (fun w s=>(s.d 1 R)) ?_
 refine lC 1 cb138 R (Z26_ok hx36) R ?_
 rintro _
 refine o_4 ?_
 obtain ⟨r37,hx38,hr⟩:=bd hr
 refine o_3 ?_
 refine lM _ (fun w s=>(s.d 2 R)) ?_
 refine lC 1 cb138 R (Z26_ok hx38) R ?_
 rintro _
 refine o_5 ?_
 refine cQ [(0,(sc A2 a1 D2)),(1,(sc A4 b3 D4)),(5,(iv n13)),(6,(sc A15 (List.replicate n13.toNat (0:Int)) D15)),(7,(iv k33)),(8,(iv r35)),(9,(iv r37)),(50,(.bool (((r35 != r37)&&(r35 != 1))&&(r37 != 1))))] (ow kT3 3 (.slice A15 (List.replicate n13.toNat (0:Int)).length D15) x32::W0) ?_ ?_
 refine o_5 ?_
 rcases bo (r35 != r37) with hc39 | hc39
 refine o_4 ?_
 rcases bo ((r35 != r37)&&(r35 != 1)) with hc40 | hc40
 refine o_4 ?_
 exact qj tI
 refine o_4 ?_
 exact qj tI
 refine o_8 ?_
 exact qj tI
 rintro σ1
 refine o_1 ?_
 split at hr
 refine o_3 ?_
 refine l_build (K:=kT3) (xs:=([]:List Int)) (vs:=[]) 0 R R sl23 sz3 zc3 R R R R R R ?_ R (fun A42 D42=>?_)
 exact fun I h s=>(mO3).list [] I h s
 refine o_7 ?_
 cases hr
 obtain rfl:=he1 _ R
 have hr:=hk1
 refine o_3 ?_
 cases hr
 exact qF (A42,([]:List Int).length,D42) (tE 4 [0])
 refine o_4 ?_
 refine c_cut (A:=(Int)×(Unit)) (fun a=>Zy_J3 n13 x32 k33 a.1=some out1) (fun a=>[(0,(sc A2 a1 D2)),(1,(sc A4 b3 D4)),(5,(iv n13)),(6,(sc A15 (List.replicate n13.toNat (0:Int)) D15)),(7,(iv k33)),(8,(iv a.1))]) (fun a=>ow kT3 3 (.slice A15 (List.replicate n13.toNat (0:Int)).length D15) x32::W0) ?_ ?_
 refine o_7 ?_
 split at hr
 refine o_5 ?_
 exact qI (r37,()) hr tI
 refine o_2 ?_
 exact qI (r35,()) hr tI
 rintro ⟨x44,_⟩ σ1 hr
 dsimp only [Zy_J3] at hr
 obtain ⟨hg45,hr⟩:=gd hr
 refine o_7 ?_
 refine t_some 0 sees_ow (show 0<(List.replicate n13.toNat (0:Int)).length by have:=hg45; omega) (fun g46 o47 ha=>?_)
 subst ha
 refine o_1 ?_
 refine l_stx (K:=kT3) (x':=x44) 0 (w64 ((w64 (n13 - 1)) - k33)) R R sz3 R R hg45.1 hg45.2 ?_ ?_
 exact fun I h s=>(mO3).put I h () x44 s
 refine o_8 ?_
 cases hr
 exact qA () tI
 refine o_3 ?_
 cases hr
 obtain rfl:=he1 _ R
 have hr:=hk1
 refine o_2 ?_
 exact qI (x32,()) hr tI
 rintro ⟨x50,_⟩ σ1 hr
 dsimp only [Zy_J4] at hr
 refine o_2 ?_
 obtain ⟨r51,hx52,hr⟩:=bd hr
 refine o_2 ?_
 refine lC 1 cb92 R (FnOk.lends (A':=[ow kT3 3 (.slice A15 (List.replicate n13.toNat (0:Int)).length D15) x50]) (A:=[rds kT3 (.slice A15 (List.replicate n13.toNat (0:Int)).length D15) x50]) (B:=[]) (Zl_ok hx52) ⟨lend_ow,trivial⟩ (fun _=>trivial)) R ?_
 rintro _
 refine o_3 ?_
 split at hr
 refine o_3 ?_
 refine l_build (K:=kT3) (xs:=([]:List Int)) (vs:=[]) 0 R R sl23 sz3 zc3 R R R R R R ?_ R (fun A54 D54=>?_)
 exact fun I h s=>(mO3).list [] I h s
 refine o_5 ?_
 cases hr
 exact qF (A54,([]:List Int).length,D54) (tE 4 [0])
 refine o_10 ?_
 cases hr
 exact qF (A15,(List.replicate n13.toNat (0:Int)).length,D15) (tE 3 [0])
theorem Z0g_ok  {dims1:(List Int)}{r:Tensor}(hr:Z0g dims1=some r) :
 FnOk Tryz.prog 93 [(.slice A2 N2 D2)] [rds kT3 (.slice A2 N2 D2) dims1] (fun (h:HH×HH)=>((.agg [(s3 h.1),(s3 h.2)].toArray),[ow kT3 3 (s3 h.1) r.Dims,ow kT3 3 (s3 h.2) r.Data])):=by
 unfold Z0g at hr
 refine fn_ok Tryz.func93 R 9 R R fun C V=>?_
 refine cL 0 sees_rd ?_
 rintro rfl
 let W0:=RR kT3 A2 D2 dims1::V
 refine cN W0 ?_
 refine o_2 ?_
 refine l_alloc R R zc58 (fun b3=>(l_nil (q_next (c_seq ?_))))
 obtain ⟨r4,hx5,hr⟩:=bd hr
 obtain ⟨r7,hx8,hr⟩:=bd hr
 obtain ⟨hg9,hr⟩:=gd hr
 refine o_2 ?_
 refine lM _ (fun w s=>(s.d 1 R)) ?_
 refine lC 1 cb57 R (Zq_ok hx5) R ?_
 rintro ⟨A6,N6,D6⟩
 refine l_len 0 sees_ow ?_
 rintro rfl
 refine lS R (lM _ (fun w s=>(s.d 2 R)) ?_)
 refine lC 1 cb95 R (Zt_ok hx8) R ?_
 rintro _
 refine l_make (K:=kT3) (m:=r7) (z:=(0:Int)) R R sl23 sz3 by3 (Zr.zk zT3 zc3) (by decide) R R hg9.1 hg9.2.1 hg9.2.2 (fun A10 D10=>(lO (vz (.agg [(sc A6 r4 D6),(sc A10 (List.replicate r7.toNat (0:Int)) D10)].toArray) (v_build pl58 zc58 R R)) (l_stores 2 R R sz58 R R R R R R (lN (OO kT3 3 A10 D10 (List.replicate r7.toNat (0:Int))::_::bxl b3 [(sc A6 r4 D6),(sc A10 (List.replicate r7.toNat (0:Int)) D10)] 58::W0) ?_))))
 refine o_3 ?_
 cases hr
 exact qS ((A6,r4.length,D6),(A10,(List.replicate r7.toNat (0:Int)).length,D10)) (tE 4 [1,0])
theorem Zg_ok  {dims1:(List Int)}{k3:Int}{r:(List Int)}(hr:Zg dims1 k3=some r) :
 FnOk Tryz.prog 102 [(.slice A2 N2 D2),(iv k3)] [rds kT3 (.slice A2 N2 D2) dims1] (fun (h:HH)=>((s3 h),[ow kT3 3 (s3 h) r])):=by
 unfold Zg at hr
 refine fn_ok Tryz.func102 R 33 R R fun C V=>?_
 refine cL 0 sees_rd ?_
 rintro rfl
 let W0:=RR kT3 A2 D2 dims1::V
 refine cN W0 ?_
 refine o_6 ?_
 obtain ⟨hg4,hr⟩:=gd hr
 refine o_3 ?_
 refine l_make (K:=kT3) (m:=(dims1.length:Int)) (z:=(0:Int)) R R sl23 sz3 by3 (Zr.zk zT3 zc3) (by decide) R R hg4.1 hg4.2.1 hg4.2.2 (fun A5 D5=>(lS R (l_nil (q_next (c_seq (c_cut (A:=((List Int))×(Unit)) (fun a=>Zg_J1 a.1=some r) (fun a=>[(5,(sc A5 (List.replicate (dims1.length:Int).toNat (0:Int)) D5))]) (fun a=>ow kT3 3 (.slice A5 (List.replicate (dims1.length:Int).toNat (0:Int)).length D5) a.1::W0) ?_ ?_))))))
 refine o_9 ?_
 obtain ⟨e1,hl1,hk1⟩:=bd hr
 refine c_loop (A:=Unit) hl1 (fun s a=>[(0,(sc A2 dims1 D2)),(1,(iv s.1)),(5,(sc A5 (List.replicate (dims1.length:Int).toNat (0:Int)) D5)),(6,(iv s.2.2))]) (fun s a=>ow kT3 3 (.slice A5 (List.replicate (dims1.length:Int).toNat (0:Int)).length D5) s.2.1::W0) () (aS R) tI ?_
 rintro ⟨k16,x17,i18⟩ _ σ1 out1 hr he1
 dsimp only [Zg_L1] at hr
 refine o_7 ?_
 split at hr
 refine o_6 ?_
 obtain ⟨hg20,hr⟩:=gd hr
 obtain ⟨hg23,hr⟩:=gd hr
 obtain ⟨hg24,hr⟩:=gd hr
 refine o_6 ?_
 refine t_some 1 sees_rd (show 0<dims1.length by have:=hg20; omega) (fun g21 o22 ha=>?_)
 subst ha
 refine o_2 ?_
 refine lO (v_rem R R hg23) (t_some 0 sees_ow (show 0<(List.replicate (dims1.length:Int).toNat (0:Int)).length by have:=hg24; omega) (fun g25 o26 ha=>?_))
 subst ha
 refine o_1 ?_
 refine l_stx (K:=kT3) (x':=(k16.tmod (ix dims1 i18))) 0 i18 R R sz3 R R hg24.1 hg24.2 ?_ ?_
 exact fun I h s=>(mO3).put I h () (k16.tmod (ix dims1 i18)) s
 refine o_8 ?_
 refine lO (vz (iv (w64 (k16.tdiv (ix dims1 i18)))) (v_quo R R hg23)) ?_
 refine o_9 ?_
 cases hr
 exact qA () tI
 refine o_3 ?_
 cases hr
 obtain rfl:=he1 _ R
 have hr:=hk1
 refine o_2 ?_
 exact qI (x17,()) hr tI
 rintro ⟨x30,_⟩ σ1 hr
 dsimp only [Zg_J1] at hr
 refine o_7 ?_
 cases hr
 exact qF (A5,(List.replicate (dims1.length:Int).toNat (0:Int)).length,D5) (tE 2 [0])
theorem Z0l_ok  {dims1:(List Int)}{index3:(List Int)}{r:Int}(hr:Z0l dims1 index3=some r) :
 FnOk Tryz.prog 114 [(.slice A2 N2 D2),(.slice A4 N4 D4)] [rds kT3 (.slice A2 N2 D2) dims1,rds kT3 (.slice A4 N4 D4) index3] (fun (h:Unit)=>((iv r),[])):=by
 unfold Z0l at hr
 refine fn_ok Tryz.func114 R 25 R R fun C V=>?_
 refine cL 0 sees_rd ?_
 rintro rfl
 refine cL 1 sees_rd ?_
 rintro rfl
 let W0:=RR kT3 A2 D2 dims1::RR kT3 A4 D4 index3::V
 refine cN W0 ?_
 refine o_11 ?_
 refine c_cut (A:=(Int)×(Unit)) (fun a=>Z0l_J1 a.1=some r) (fun a=>[(5,(iv a.1))]) (fun a=>W0) ?_ ?_
 refine o_6 ?_
 obtain ⟨e1,hl1,hk1⟩:=bd hr
 refine c_loop (A:=Unit) hl1 (fun s a=>[(0,(sc A2 dims1 D2)),(1,(sc A4 index3 D4)),(5,(iv s.1)),(6,(iv s.2))]) (fun s a=>W0) () (aS R) tI ?_
 rintro ⟨k12,i13⟩ _ σ1 out1 hr he1
 dsimp only [Z0l_L1] at hr
 refine o_9 ?_
 split at hr
 refine o_5 ?_
 obtain ⟨hg15,hr⟩:=gd hr
 obtain ⟨hg18,hr⟩:=gd hr
 refine c_some 0 sees_rd (show 0<dims1.length by have:=hg15; omega) (fun g16 o17 ha=>?_)
 subst ha
 refine c_some 1 sees_rd (show 0<index3.length by have:=hg18; omega) (fun g19 o20 ha=>?_)
 subst ha
 refine cdr 12 [] mixo fun ht hn=>?_
 refine d12_ 0 [] ?_
 refine dD ?_
 refine o_7 ?_
 cases hr
 exact qA () tI
 refine o_3 ?_
 cases hr
 obtain rfl:=he1 _ R
 have hr:=hk1
 refine o_2 ?_
 exact qI (k12,()) hr tI
 rintro ⟨k23,_⟩ σ1 hr
 dsimp only [Z0l_J1] at hr
 refine o_7 ?_
 cases hr
 exact qF () (tE 2 [])
theorem Z13_ok  {t1:Tensor}{index4:(List Int)}{r:Int}(hr:Z13 t1 index4=some r) :
 FnOk Tryz.prog 112 [(.agg [(.slice A2 N2 D2),(.slice A3 N3 D3)].toArray),(.slice A5 N5 D5)] [rds kT3 (.slice A2 N2 D2) t1.Dims,rds kT3 (.slice A3 N3 D3) t1.Data,rds kT3 (.slice A5 N5 D5) index4] (fun (h:Unit)=>((iv r),[])):=by
 unfold Z13 at hr
 refine fn_ok Tryz.func112 R 13 R R fun C V=>?_
 refine cL 0 sees_rd ?_
 rintro rfl
 refine cL 1 sees_rd ?_
 rintro rfl
 refine cL 2 sees_rd ?_
 rintro rfl
 let W0:=RR kT3 A2 D2 t1.Dims::RR kT3 A3 D3 t1.Data::RR kT3 A5 D5 index4::V
 refine cN W0 ?_
 refine o_2 ?_
 refine lBx R fun b6=>?_
 refine o_2 ?_
 let W1:=bxl b6 [(sc A2 t1.Dims D2),(sc A3 t1.Data D3)] 58::W0
 refine qN W1 ?_
 refine o_2 ?_
 obtain ⟨r7,hx8,hr⟩:=bd hr
 obtain ⟨hg9,hr⟩:=gd hr
 refine c_some 2 sees_rd (show 0<t1.Data.length by have:=hg9; omega) (fun g10 o11 ha=>?_)
 subst ha
 refine cdr 9 [] mixo fun ht hn=>?_
 refine d5_ 0 [] ?_
 refine d1 5 R (lM _ (fun w s=>(((s.d 1 R).d 4 R).e 2 [1,0])) ?_)
 refine lC 2 cb114 R (Z0l_ok hx8) R ?_
 rintro _
 refine lN W1 ?_
 refine l_nil (q_draw (sL []) ?_)
 refine d3_ 6 [] ?_
 refine dD ?_
 refine o_2 ?_
 cases hr
 exact qF () (tE 4 [])
theorem Z08_ok  {t1:Tensor}{index4:(List Int)}{r:Int}(hr:Z08 t1 index4=some r) :
 FnOk Tryz.prog 104 [(.agg [(.slice A2 N2 D2),(.slice A3 N3 D3)].toArray),(.slice A5 N5 D5)] [rds kT3 (.slice A2 N2 D2) t1.Dims,rds kT3 (.slice A3 N3 D3) t1.Data,rds kT3 (.slice A5 N5 D5) index4] (fun (h:Unit)=>((iv r),[])):=by
 unfold Z08 at hr
 refine fn_ok Tryz.func104 R 42 R R fun C V=>?_
 refine cL 0 sees_rd ?_
 rintro rfl
 refine cL 1 sees_rd ?_
 rintro rfl
 refine cL 2 sees_rd ?_
 rintro rfl
 let W0:=RR kT3 A2 D2 t1.Dims::RR kT3 A3 D3 t1.Data::RR kT3 A5 D5 index4::V
 refine cN W0 ?_
 refine o_2 ?_
 refine lBx R fun b6=>?_
 refine o_2 ?_
 let W1:=bxl b6 [(sc A2 t1.Dims D2),(sc A3 t1.Data D3)] 58::W0
 refine qN W1 ?_
 refine o_14 ?_
 refine l_build (K:=kT3) (xs:=([]:List Int)) (vs:=[]) 0 R R sl23 sz3 zc3 R R R R R R ?_ R (fun A7 D7=>?_)
 exact fun I h s=>(mO3).list [] I h s
 refine o_4 ?_
 refine c_cut (A:=((List Int))×(HH)) (fun a=>Z08_J3 t1 a.1=some r) (fun a=>[(2,(pt b6 0)),(6,(s3 a.2))]) (fun a=>ow kT3 3 (s3 a.2) a.1::W1) ?_ ?_
 refine o_6 ?_
 obtain ⟨e1,hl1,hk1⟩:=bd hr
 refine c_loop (A:=HH×HH) hl1 (fun s a=>[(1,(s3 a.1)),(2,(pt b6 0)),(5,(iv (w64 ((index4.length:Int) - (t1.Dims.length:Int))))),(6,(s3 a.2)),(7,(iv s.2))]) (fun s a=>rds kT3 (s3 a.1) index4::ow kT3 3 (s3 a.2) s.1::W1) ((A5,index4.length,D5),(A7,([]:List Int).length,D7)) (aS R) (fun w s=>(s.d 4 R)) ?_
 rintro ⟨x21,i23⟩ ⟨⟨A20,N20,D20⟩,⟨A22,N22,D22⟩⟩ σ1 out1 hr he1
 dsimp only [Z08_L1] at hr
 refine c_len 0 sees_rd (fun (hn:N20=index4.length)=>?_)
 subst hn
 refine c_len 1 sees_ow (fun (hn:N22=x21.length)=>?_)
 subst hn
 refine o_10 ?_
 split at hr
 refine o_6 ?_
 obtain ⟨hg25,hr⟩:=gd hr
 refine o_5 ?_
 refine t_some 0 sees_rd (show 0<index4.length by have:=hg25; omega) (fun g26 o27 ha=>?_)
 subst ha
 refine o_6 ?_
 refine c_cut (A:=(Int)×(Unit)) (fun a=>Z08_J2 x21 i23 a.1=some out1) (fun a=>[(1,(sc (ad g26 o27) index4 D20)),(2,(pt b6 0)),(5,(iv (w64 ((index4.length:Int) - (t1.Dims.length:Int))))),(6,(sc A22 x21 D22)),(7,(iv i23)),(8,(iv a.1))]) (fun a=>RR kT3 (ad g26 o27) D20 index4::OO kT3 3 A22 D22 x21::W1) ?_ ?_
 refine o_1 ?_
 obtain ⟨hg28,hr⟩:=gd hr
 refine o_4 ?_
 refine t_some 3 sees_rd (show 0<t1.Dims.length by have:=hg28; omega) (fun g29 o30 ha=>?_)
 subst ha
 refine o_5 ?_
 split at hr
 refine o_4 ?_
 exact qI ((0:Int),()) hr tI
 refine o_2 ?_
 exact qI ((ix index4 (w64 ((w64 ((index4.length:Int) - (t1.Dims.length:Int)))+i23))),()) hr tI
 rintro ⟨x32,_⟩ σ1 hr
 dsimp only [Z08_J2] at hr
 obtain ⟨hg34,hr⟩:=gd hr
 refine o_3 ?_
 refine l_build (K:=kT3) (xs:=([x32]:List Int)) (vs:=[(iv x32)]) 0 R R sl23 sz3 zc3 R R R R R R ?_ R (fun A33 D33=>?_)
 exact fun I h s=>(mO3).list [((),x32)] I h s
 refine lM _ (tE 3 [2,0,1]) ?_
 refine l_app (K:=kT3) 17592186044416 R R sl23 sz3 by3 (Zr.zk zT3 zc3) R R R R R R src_ow hg34 (fun A35 D35=>(lN (OO kT3 3 A35 D35 (x21++([x32]:List Int))::_::W1) ?_))
 refine o_9 ?_
 cases hr
 exact qA (((ad g26 o27),index4.length,D20),(A35,(x21++([x32]:List Int)).length,D35)) (tE 2 [1,0])
 refine o_3 ?_
 cases hr
 obtain rfl:=he1 _ R
 have hr:=hk1
 refine o_2 ?_
 exact qI (x21,(A22,x21.length,D22)) hr (tE 2 [1])
 rintro ⟨x40,⟨A41,N41,D41⟩⟩ σ1 hr
 dsimp only [Z08_J3] at hr
 refine c_len 0 sees_ow (fun (hn:N41=x40.length)=>?_)
 subst hn
 refine o_1 ?_
 obtain ⟨r42,hx43,hr⟩:=bd hr
 refine o_3 ?_
 refine lM _ (fun w s=>(((s.d 2 R).d 4 R).e 3 [2,1,0])) ?_
 refine lC 3 cb112 R (FnOk.lends (A':=[OO kT3 3 A41 D41 x40]) (A:=[RR kT3 A41 D41 x40]) (B:=[RR kT3 A2 D2 t1.Dims,RR kT3 A3 D3 t1.Data]) (FnOk.perm (Z13_ok hx43) (Pre':=[RR kT3 A41 D41 x40,RR kT3 A2 D2 t1.Dims,RR kT3 A3 D3 t1.Data]) (fun _ _ _ s=>(s.e 3 [1,2,0]))) ⟨lend_ow,trivial⟩ (fun _=>trivial)) R ?_
 rintro _
 refine o_4 ?_
 cases hr
 exact qF () (tE 5 [])
theorem Zn_ok  {p1:Int}{r:Int}(hr:Zn p1=some r) :
 FnOk Tryz.prog 94 [(iv p1)] [] (fun (h:Unit)=>((iv r),[])):=by
 unfold Zn at hr
 refine fn_ok Tryz.func94 R 11 R R fun C V=>?_
 refine cN V ?_
 refine o_8 ?_
 refine lO (v_rem R R (by decide)) ?_
 refine o_4 ?_
 refine c_cut (A:=(Int)×(Unit)) (fun a=>Zn_J1 a.1=some r) (fun a=>[(3,(iv a.1))]) (fun a=>V) ?_ ?_
 refine o_6 ?_
 split at hr
 refine o_6 ?_
 exact qI ((w64 ((p1.tmod (2147483647:Int))+2147483647)),()) hr tI
 refine o_2 ?_
 exact qI ((p1.tmod (2147483647:Int)),()) hr tI
 rintro ⟨r3,_⟩ σ1 hr
 dsimp only [Zn_J1] at hr
 refine o_7 ?_
 cases hr
 exact qF () tI
theorem Z1b_ok  {a1:Int}{r:Int}(hr:Z1b a1=some r) :
 FnOk Tryz.prog 108 [(iv a1)] [] (fun (h:Unit)=>((iv r),[])):=by
 unfold Z1b at hr
 refine fn_ok Tryz.func108 R 11 R R fun C V=>?_
 refine cN V ?_
 refine o_6 ?_
 obtain ⟨r2,hx3,hr⟩:=bd hr
 refine o_2 ?_
 refine lC 0 cb94 R (Zn_ok hx3) R ?_
 rintro _
 refine o_10 ?_
 split at hr
 refine o_10 ?_
 cases hr
 exact qF () tI
 refine o_10 ?_
 cases hr
 exact qF () tI
theorem Z1j_ok  {a1:Int}{b2:Int}{r:Int}(hr:Z1j a1 b2=some r) :
 FnOk Tryz.prog 115 [(iv a1),(iv b2)] [] (fun (h:Unit)=>((iv r),[])):=by
 unfold Z1j at hr
 refine fn_ok Tryz.func115 R 11 R R fun C V=>?_
 refine cN V ?_
 refine o_6 ?_
 obtain ⟨r3,hx4,hr⟩:=bd hr
 obtain ⟨r5,hx6,hr⟩:=bd hr
 obtain ⟨r7,hx8,hr⟩:=bd hr
 refine o_2 ?_
 refine lC 0 cb94 R (Zn_ok hx4) R ?_
 rintro _
 refine lI R (lC 0 cb94 R (Zn_ok hx6) R ?_)
 rintro _
 refine o_1 ?_
 refine lC 0 cb94 R (Zn_ok hx8) R ?_
 rintro _
 refine o_4 ?_
 cases hr
 exact qF () tI
theorem Z24_ok  {a1:Int}{b2:Int}{r:Int}(hr:Z24 a1 b2=some r) :
 FnOk Tryz.prog 139 [(iv a1),(iv b2)] [] (fun (h:Unit)=>((iv r),[])):=by
 unfold Z24 at hr
 refine fn_ok Tryz.func139 R 11 R R fun C V=>?_
 refine cN V ?_
 refine o_6 ?_
 obtain ⟨r3,hx4,hr⟩:=bd hr
 obtain ⟨r5,hx6,hr⟩:=bd hr
 obtain ⟨r7,hx8,hr⟩:=bd hr
 refine o_2 ?_
 refine lC 0 cb94 R (Zn_ok hx4) R ?_
 rintro _
 refine lI R (lC 0 cb94 R (Zn_ok hx6) R ?_)
 rintro _
 refine o_1 ?_
 refine lC 0 cb94 R (Zn_ok hx8) R ?_
 rintro _
 refine o_4 ?_
 cases hr
 exact qF () tI
theorem Z1c_ok  {a1:Int}{b2:Int}{r:Int}(hr:Z1c a1 b2=some r) :
 FnOk Tryz.prog 111 [(iv a1),(iv b2)] [] (fun (h:Unit)=>((iv r),[])):=by
 unfold Z1c at hr
 refine fn_ok Tryz.func111 R 11 R R fun C V=>?_
 refine cN V ?_
 refine o_6 ?_
 obtain ⟨r3,hx4,hr⟩:=bd hr
 obtain ⟨r5,hx6,hr⟩:=bd hr
 obtain ⟨r7,hx8,hr⟩:=bd hr
 refine o_2 ?_
 refine lC 0 cb94 R (Zn_ok hx4) R ?_
 rintro _
 refine lI R (lC 0 cb94 R (Zn_ok hx6) R ?_)
 rintro _
 refine o_1 ?_
 refine lC 0 cb94 R (Zn_ok hx8) R ?_
 rintro _
 refine o_4 ?_
 cases hr
 exact qF () tI
theorem Zp_S_ok {rf:Int→Int→Option (Int)}(hrf:∀ {a1:Int} {n2:Int} {r:Int},rf a1 n2=some r→FnOk Tryz.prog 155 [(iv a1),(iv n2)] [] (fun (h:Unit)=>((iv r),[]))){a1:Int}{n2:Int}{r:Int}(hr:Zp_S rf a1 n2=some r) :
 FnOk Tryz.prog 155 [(iv a1),(iv n2)] [] (fun (h:Unit)=>((iv r),[])):=by
 unfold Zp_S at hr
 refine fn_ok Tryz.func155 R 22 R R fun C V=>?_
 refine cN V ?_
 refine o_12 ?_
 split at hr
 refine o_8 ?_
 cases hr
 exact qF () tI
 refine o_4 ?_
 obtain ⟨r4,hx5,hr⟩:=bd hr
 refine o_3 ?_
 refine lO (vz (iv (w64 (n2.tdiv (2:Int)))) (v_quo R R (by decide))) (lC 0 cb155 R (hrf hx5) R ?_)
 rintro _
 refine o_4 ?_
 obtain ⟨r6,hx7,hr⟩:=bd hr
 refine o_3 ?_
 refine lC 0 cb111 R (Z1c_ok hx7) R ?_
 rintro _
 refine o_4 ?_
 refine c_cut (A:=(Int)×(Unit)) (fun a=>Zp_J1 a.1=some r) (fun a=>[(5,(iv a.1))]) (fun a=>V) ?_ ?_
 refine o_3 ?_
 refine lO (v_rem R R (by decide)) ?_
 refine o_3 ?_
 split at hr
 refine o_1 ?_
 obtain ⟨r9,hx10,hr⟩:=bd hr
 refine o_3 ?_
 refine lC 0 cb111 R (Z1c_ok hx10) R ?_
 rintro _
 refine o_2 ?_
 exact qI (r9,()) hr tI
 refine o_2 ?_
 exact qI (r6,()) hr tI
 rintro ⟨x11,_⟩ σ1 hr
 dsimp only [Zp_J1] at hr
 refine o_7 ?_
 cases hr
 exact qF () tI
theorem Zp_R_ok (n:Nat):∀ {a1:Int} {n2:Int} {r:Int},Zp_R n a1 n2=some r→FnOk Tryz.prog 155 [(iv a1),(iv n2)] [] (fun (h:Unit)=>((iv r),[])):=by
 induction n with
 | zero=>intros; rename_i h; cases h
 | succ n ih=>intros; rename_i h; exact Zp_S_ok ih h
theorem Zp_ok {a1:Int}{n2:Int}{r:Int}(hr:Zp a1 n2=some r):FnOk Tryz.prog 155 [(iv a1),(iv n2)] [] (fun (h:Unit)=>((iv r),[])):=Zp_R_ok recFuel hr
theorem Z23_ok  {a1:Int}{r:Int}(hr:Z23 a1=some r) :
 FnOk Tryz.prog 141 [(iv a1)] [] (fun (h:Unit)=>((iv r),[])):=by
 unfold Z23 at hr
 refine fn_ok Tryz.func141 R 6 R R fun C V=>?_
 refine cN V ?_
 refine o_6 ?_
 obtain ⟨r2,hx3,hr⟩:=bd hr
 obtain ⟨r4,hx5,hr⟩:=bd hr
 refine o_2 ?_
 refine lC 0 cb94 R (Zn_ok hx3) R ?_
 rintro _
 refine lC 0 cb155 R (Zp_ok hx5) R ?_
 rintro _
 refine o_4 ?_
 cases hr
 exact qF () tI
theorem Z3m_ok  {a1:Int}{b2:Int}{r:Int}(hr:Z3m a1 b2=some r) :
 FnOk Tryz.prog 140 [(iv a1),(iv b2)] [] (fun (h:Unit)=>((iv r),[])):=by
 unfold Z3m at hr
 refine fn_ok Tryz.func140 R 9 R R fun C V=>?_
 refine cN V ?_
 refine o_6 ?_
 obtain ⟨r3,hx4,hr⟩:=bd hr
 obtain ⟨r5,hx6,hr⟩:=bd hr
 refine o_3 ?_
 refine lC 0 cb141 R (Z23_ok hx4) R ?_
 rintro _
 refine lC 0 cb111 R (Z1c_ok hx6) R ?_
 rintro _
 refine o_4 ?_
 cases hr
 exact qF () tI
theorem Z1k_ok  {op1:Int}{p2:Int}{y3:Int}{r:Int}(hr:Z1k op1 p2 y3=some r) :
 FnOk Tryz.prog 103 [(iv op1),(iv p2),(iv y3)] [] (fun (h:Unit)=>((iv r),[])):=by
 unfold Z1k at hr
 refine fn_ok Tryz.func103 R 54 R R fun C V=>?_
 refine cN V ?_
 refine o_6 ?_
 obtain ⟨r4,hx5,hr⟩:=bd hr
 obtain ⟨r6,hx7,hr⟩:=bd hr
 refine o_2 ?_
 refine lC 0 cb108 R (Z1b_ok hx5) R ?_
 rintro _
 refine lI R (lC 0 cb108 R (Z1b_ok hx7) R ?_)
 rintro _
 refine o_10 ?_
 refine c_cut (A:=(Bool)×(Unit)) (fun a=>Z1k_J1 a.1=some r) (fun a=>[(8,(.bool a.1))]) (fun a=>V) ?_ ?_
 refine o_12 ?_
 split at hr
 refine o_2 ?_
 obtain ⟨r9,hx10,hr⟩:=bd hr
 refine o_3 ?_
 refine lC 0 cb115 R (Z1j_ok hx10) R ?_
 rintro _
 refine o_6 ?_
 cases hr
 exact qF () tI
 refine o_7 ?_
 split at hr
 refine o_2 ?_
 obtain ⟨r12,hx13,hr⟩:=bd hr
 refine o_3 ?_
 refine lC 0 cb139 R (Z24_ok hx13) R ?_
 rintro _
 refine o_6 ?_
 cases hr
 exact qF () tI
 refine o_7 ?_
 split at hr
 refine o_2 ?_
 obtain ⟨r15,hx16,hr⟩:=bd hr
 refine o_3 ?_
 refine lC 0 cb111 R (Z1c_ok hx16) R ?_
 rintro _
 refine o_6 ?_
 cases hr
 exact qF () tI
 refine o_7 ?_
 split at hr
 refine o_2 ?_
 obtain ⟨r18,hx19,hr⟩:=bd hr
 refine o_3 ?_
 refine lC 0 cb140 R (Z3m_ok hx19) R ?_
 rintro _
 refine o_6 ?_
 cases hr
 exact qF () tI
 refine o_7 ?_
 split at hr
 refine o_7 ?_
 split at hr
 refine o_11 ?_
 cases hr
 exact qF () tI
 refine o_12 ?_
 cases hr
 exact qF () tI
 refine o_7 ?_
 split at hr
 refine o_7 ?_
 split at hr
 refine o_11 ?_
 cases hr
 exact qF () tI
 refine o_12 ?_
 cases hr
 exact qF () tI
 refine o_7 ?_
 split at hr
 refine o_6 ?_
 exact qI ((decide (r4<r6)),()) hr tI
 refine o_7 ?_
 split at hr
 refine o_8 ?_
 exact qI ((p2==y3),()) hr tI
 refine o_3 ?_
 exact qI (false,()) hr tI
 rintro ⟨yes26,_⟩ σ1 hr
 dsimp only [Z1k_J1] at hr
 refine o_6 ?_
 split at hr
 refine o_8 ?_
 cases hr
 exact qF () tI
 refine o_9 ?_
 cases hr
 exact qF () tI
theorem Z10_ok  {op1:Int}{a2:Tensor}{b5:Tensor}{r:Tensor}(hr:Z10 op1 a2 b5=some r) :
 FnOk Tryz.prog 78 [(iv op1),(.agg [(.slice A3 N3 D3),(.slice A4 N4 D4)].toArray),(.agg [(.slice A6 N6 D6),(.slice A7 N7 D7)].toArray)] [rds kT3 (.slice A3 N3 D3) a2.Dims,rds kT3 (.slice A4 N4 D4) a2.Data,rds kT3 (.slice A6 N6 D6) b5.Dims,rds kT3 (.slice A7 N7 D7) b5.Data] (fun (h:HH×HH)=>((.agg [(s3 h.1),(s3 h.2)].toArray),[ow kT3 3 (s3 h.1) r.Dims,ow kT3 3 (s3 h.2) r.Data])):=by
 unfold Z10 at hr
 refine fn_ok Tryz.func78 R 73 R R fun C V=>?_
 refine cL 0 sees_rd ?_
 rintro rfl
 refine cL 1 sees_rd ?_
 rintro rfl
 refine cL 2 sees_rd ?_
 rintro rfl
 refine cL 3 sees_rd ?_
 rintro rfl
 let W0:=RR kT3 A3 D3 a2.Dims::RR kT3 A4 D4 a2.Data::RR kT3 A6 D6 b5.Dims::RR kT3 A7 D7 b5.Data::V
 refine cN W0 ?_
 refine o_2 ?_
 refine lBx R fun b8=>?_
 refine lBx R fun b9=>?_
 refine l_alloc R R zc58 (fun b10=>(l_nil ?_))
 let W1:=bxl b9 [(sc A6 b5.Dims D6),(sc A7 b5.Data D7)] 58::bxl b8 [(sc A3 a2.Dims D3),(sc A4 a2.Data D4)] 58::W0
 refine o_3 ?_
 obtain ⟨r11,hx12,hr⟩:=bd hr
 obtain ⟨r13,hx14,hr⟩:=bd hr
 refine cQ [(0,(iv op1)),(4,(pt b8 0)),(5,(pt b9 0)),(6,(pt b10 0)),(26,(.bool ((((!r11)||(!r13))||(decide (op1<1)))||(decide (op1>8)))))] (bxl b10 [(.slice none 0 0),(.slice none 0 0)] 58::W1) ?_ ?_
 refine o_2 ?_
 refine lM _ (fun w s=>(((s.d 3 R).d 5 R).e 3 [1,0,2])) ?_
 refine lC 2 cb55 R (Zo_ok hx12) R ?_
 rintro _
 refine o_2 ?_
 rcases bo (!r11) with hc15 | hc15
 refine o_13 ?_
 exact qj tI
 refine o_1 ?_
 refine lM _ (fun w s=>(((s.d 5 R).d 7 R).e 3 [1,0,2])) ?_
 refine l_calln 2 R (wnF hc15) cb55 R (Zo_ok (gcall_t hx14 (not_ff hc15))) R ?_
 rintro _
 refine o_3 ?_
 rcases bo ((!r11)||(!r13)) with hc16 | hc16
 refine o_8 ?_
 exact qj tI
 refine o_4 ?_
 rcases bo (((!r11)||(!r13))||(decide (op1<1))) with hc17 | hc17
 refine o_4 ?_
 exact qj tI
 refine o_4 ?_
 exact qj tI
 rintro σ1
 refine o_1 ?_
 split at hr
 refine o_3 ?_
 refine lO (vz (.agg [(.slice none 0 0),(.slice none 0 0)].toArray) (v_build pl58 zc58 R R)) (l_stores 0 R R sz58 R R R R R R (l_nil (q_next (c_ret (q_ret ?_)))))
 cases hr
 exact qS ((none,0,0),(none,0,0)) (fun w s=>(((s.nilo kT3 3).nilo kT3 3).e 9 [1,0]))
 refine o_4 ?_
 obtain ⟨r19,hx20,hr⟩:=bd hr
 refine o_5 ?_
 refine lM _ (fun w s=>(((s.d 3 R).d 6 R).e 3 [1,0,2])) ?_
 refine lC 2 cb101 R (Zy_ok hx20) R ?_
 rintro ⟨A21,N21,D21⟩
 refine l_len 0 sees_ow ?_
 rintro rfl
 refine o_5 ?_
 refine cQ [(0,(iv op1)),(4,(pt b8 0)),(5,(pt b9 0)),(6,(pt b10 0)),(7,(sc A21 r19 D21)),(46,(.bool ((decide ((r19.length:Int)<(a2.Dims.length:Int)))||(decide ((r19.length:Int)<(b5.Dims.length:Int))))))] (bxl b10 [(.slice none 0 0),(.slice none 0 0)] 58::OO kT3 3 A21 D21 r19::W1) ?_ ?_
 refine o_8 ?_
 rcases bo (decide ((r19.length:Int)<(a2.Dims.length:Int))) with hc22 | hc22
 refine o_8 ?_
 exact qj (tE 2 [1,0])
 refine o_8 ?_
 exact qj (tE 2 [1,0])
 rintro σ1
 refine o_1 ?_
 split at hr
 refine o_3 ?_
 refine lO (vz (.agg [(.slice none 0 0),(.slice none 0 0)].toArray) (v_build pl58 zc58 R R)) (l_stores 0 R R sz58 R R R R R R (l_nil (q_next (c_ret (q_ret ?_)))))
 cases hr
 exact qS ((none,0,0),(none,0,0)) (fun w s=>(((s.nilo kT3 3).nilo kT3 3).e 10 [1,0]))
 refine o_4 ?_
 obtain ⟨r24,hx25,hr⟩:=bd hr
 refine o_2 ?_
 refine lM _ (tE 2 [1,0]) ?_
 refine lC 1 cb93 R (FnOk.lends (A':=[OO kT3 3 A21 D21 r19]) (A:=[RR kT3 A21 D21 r19]) (B:=[]) (Z0g_ok hx25) ⟨lend_ow,trivial⟩ (fun _=>⟨(closed_ow cT3),(closed_ow cT3),trivial⟩)) R ?_
 rintro ⟨⟨A26,N26,D26⟩,⟨A27,N27,D27⟩⟩
 refine l_len 1 sees_ow ?_
 rintro rfl
 refine l_len 2 sees_ow ?_
 rintro rfl
 refine l_alloc R R zc58 (fun b28=>(l_stores 0 R R sz58 R R R R R R (lN (bxl b28 [(sc A26 r24.Dims D26),(sc A27 r24.Data D27)] 58::_::_::_::_::W1) ?_)))
 refine o_3 ?_
 refine c_cut (A:=((List Int))×(Unit)) (fun a=>Z10_J1 r24 a.1=some r) (fun a=>[(6,(pt b10 0)),(8,(pt b28 0))]) (fun a=>bxl b10 [(.slice none 0 0),(.slice none 0 0)] 58::bxl b28 [(sc A26 r24.Dims D26),(sc A27 r24.Data D27)] 58::OO kT3 3 A26 D26 r24.Dims::ow kT3 3 (.slice A27 r24.Data.length D27) a.1::W1) ?_ ?_
 refine o_6 ?_
 obtain ⟨e1,hl1,hk1⟩:=bd hr
 refine c_loop (A:=Unit) hl1 (fun s a=>[(0,(iv op1)),(4,(pt b8 0)),(5,(pt b9 0)),(6,(pt b10 0)),(7,(sc A21 r19 D21)),(8,(pt b28 0)),(9,(iv s.2))]) (fun s a=>bxl b10 [(.slice none 0 0),(.slice none 0 0)] 58::OO kT3 3 A21 D21 r19::bxl b28 [(sc A26 r24.Dims D26),(sc A27 r24.Data D27)] 58::OO kT3 3 A26 D26 r24.Dims::ow kT3 3 (.slice A27 r24.Data.length D27) s.1::W1) () (aS R) (tE 5 [4,1,0,2,3]) ?_
 rintro ⟨x42,i43⟩ _ σ1 out1 hr he1
 dsimp only [Z10_L1] at hr
 refine o_10 ?_
 split at hr
 refine o_6 ?_
 obtain ⟨r45,hx46,hr⟩:=bd hr
 refine o_3 ?_
 refine lM _ (tE 5 [1,0,2,3,4]) ?_
 refine lC 1 cb102 R (FnOk.lends (A':=[OO kT3 3 A21 D21 r19]) (A:=[RR kT3 A21 D21 r19]) (B:=[]) (Zg_ok hx46) ⟨lend_ow,trivial⟩ (fun _=>⟨(closed_ow cT3),trivial⟩)) R ?_
 rintro ⟨A47,N47,D47⟩
 refine l_len 1 sees_ow ?_
 rintro rfl
 refine o_3 ?_
 obtain ⟨r48,hx49,hr⟩:=bd hr
 obtain ⟨r50,hx51,hr⟩:=bd hr
 obtain ⟨r52,hx53,hr⟩:=bd hr
 obtain ⟨hg54,hr⟩:=gd hr
 refine c_some 5 sees_ow (show 0<r24.Data.length by have:=hg54; omega) (fun g55 o56 ha=>?_)
 subst ha
 refine cdr 13 [5] mixo fun ht hn=>?_
 refine d6_ 0 [5] ?_
 refine d2_ 7 [5] ?_
 refine d1 6 R (lM _ (fun w s=>(((s.d 8 R).d 10 R).e 8 [3,1,0,2,4,5,6,7])) ?_)
 refine lC 3 cb104 R (FnOk.lends (A':=[OO kT3 3 A47 D47 r45]) (A:=[RR kT3 A47 D47 r45]) (B:=[RR kT3 A3 D3 a2.Dims,RR kT3 A4 D4 a2.Data]) (FnOk.perm (Z08_ok hx49) (Pre':=[RR kT3 A47 D47 r45,RR kT3 A3 D3 a2.Dims,RR kT3 A4 D4 a2.Data]) (fun _ _ _ s=>(s.e 3 [1,2,0]))) ⟨lend_ow,trivial⟩ (fun _=>trivial)) R ?_
 rintro _
 refine l_nil (q_draw (tE 6 [1,0,2,3,4]) (d1 9 R (lM _ (fun w s=>(((s.d 10 R).d 12 R).e 8 [2,1,0,3,4,5,6,7])) ?_)))
 refine lC 3 cb104 R (FnOk.lends (A':=[OO kT3 3 A47 D47 r45]) (A:=[RR kT3 A47 D47 r45]) (B:=[RR kT3 A6 D6 b5.Dims,RR kT3 A7 D7 b5.Data]) (FnOk.perm (Z08_ok hx51) (Pre':=[RR kT3 A47 D47 r45,RR kT3 A6 D6 b5.Dims,RR kT3 A7 D7 b5.Data]) (fun _ _ _ s=>(s.e 3 [1,2,0]))) ⟨lend_ow,trivial⟩ (fun _=>trivial)) R ?_
 rintro _
 refine l_nil (q_draw (tE 6 [1,0,2,3,4]) (d1 10 R (lC 0 cb103 R (Z1k_ok hx53) R ?_)))
 rintro _
 refine l_nil (q_draw (tE 6 [1,0,2,3,4]) (dR 11 R (vIa sl23 sz3 R R hg54) (hS:=(tE 6 [1,0,2,3,4])) (d1 12 R (lM _ (fun w s=>(s.f 6 [5,1,0,5])) ?_))))
 refine l_stx (K:=kT3) (x':=r52) 0 i43 R R sz3 R R hg54.1 hg54.2 ?_ ?_
 exact fun I h s=>(mO3).put I h () r52 s
 refine l_nil (q_draw (tE 6 [2,1,3,4,5]) (dD ?_))
 refine o_7 ?_
 cases hr
 exact qA () (tE 6 [3,2,4,5,0])
 refine o_3 ?_
 cases hr
 obtain rfl:=he1 _ R
 have hr:=hk1
 refine o_2 ?_
 exact qI (x42,()) hr (tE 5 [0,2,3,4])
 rintro ⟨x59,_⟩ σ1 hr
 dsimp only [Z10_J1] at hr
 refine o_3 ?_
 refine l_stores 0 R R sz58 R R R R R R (lN (bxl b10 [(sc A26 r24.Dims D26),(sc A27 r24.Data D27)] 58::bxl b28 [(sc A26 r24.Dims D26),(sc A27 r24.Data D27)] 58::_::ow kT3 3 (.slice A27 r24.Data.length D27) x59::W1) ?_)
 refine o_3 ?_
 cases hr
 exact qS ((A26,r24.Dims.length,D26),(A27,r24.Data.length,D27)) (tE 10 [2,3])
theorem Z2v_ok  {op1:Int}{p2:Int}{r:Int}(hr:Z2v op1 p2=some r) :
 FnOk Tryz.prog 105 [(iv op1),(iv p2)] [] (fun (h:Unit)=>((iv r),[])):=by
 unfold Z2v at hr
 refine fn_ok Tryz.func105 R 20 R R fun C V=>?_
 refine cN V ?_
 refine o_18 ?_
 split at hr
 refine o_2 ?_
 obtain ⟨r4,hx5,hr⟩:=bd hr
 refine o_2 ?_
 refine lC 0 cb139 R (Z24_ok hx5) R ?_
 rintro _
 refine o_6 ?_
 cases hr
 exact qF () tI
 refine o_7 ?_
 split at hr
 refine o_2 ?_
 obtain ⟨r7,hx8,hr⟩:=bd hr
 refine o_2 ?_
 refine lC 0 cb141 R (Z23_ok hx8) R ?_
 rintro _
 refine o_6 ?_
 cases hr
 exact qF () tI
 refine o_6 ?_
 obtain ⟨r9,hx10,hr⟩:=bd hr
 refine o_2 ?_
 refine lC 0 cb108 R (Z1b_ok hx10) R ?_
 rintro _
 refine o_3 ?_
 split at hr
 refine o_8 ?_
 cases hr
 exact qF () tI
 refine o_10 ?_
 split at hr
 refine o_8 ?_
 cases hr
 exact qF () tI
 refine o_10 ?_
 cases hr
 exact qF () tI
theorem Z0z_ok  {op1:Int}{t2:Tensor}{r:Tensor}(hr:Z0z op1 t2=some r) :
 FnOk Tryz.prog 79 [(iv op1),(.agg [(.slice A3 N3 D3),(.slice A4 N4 D4)].toArray)] [rds kT3 (.slice A3 N3 D3) t2.Dims,rds kT3 (.slice A4 N4 D4) t2.Data] (fun (h:HH×HH)=>((.agg [(s3 h.1),(s3 h.2)].toArray),[ow kT3 3 (s3 h.1) r.Dims,ow kT3 3 (s3 h.2) r.Data])):=by
 unfold Z0z at hr
 refine fn_ok Tryz.func79 R 41 R R fun C V=>?_
 refine cL 0 sees_rd ?_
 rintro rfl
 refine cL 1 sees_rd ?_
 rintro rfl
 let W0:=RR kT3 A3 D3 t2.Dims::RR kT3 A4 D4 t2.Data::V
 refine cN W0 ?_
 refine o_2 ?_
 refine lBx R fun b5=>?_
 refine l_alloc R R zc58 (fun b6=>(l_nil ?_))
 let W1:=bxl b5 [(sc A3 t2.Dims D3),(sc A4 t2.Data D4)] 58::W0
 refine o_3 ?_
 obtain ⟨r7,hx8,hr⟩:=bd hr
 refine cQ [(0,(iv op1)),(3,(pt b5 0)),(4,(pt b6 0)),(17,(.bool (((!r7)||(decide (op1<1)))||(decide (op1>4)))))] (bxl b6 [(.slice none 0 0),(.slice none 0 0)] 58::W1) ?_ ?_
 refine o_2 ?_
 refine lM _ (fun w s=>(((s.d 2 R).d 4 R).e 3 [1,0,2])) ?_
 refine lC 2 cb55 R (Zo_ok hx8) R ?_
 rintro _
 refine o_2 ?_
 rcases bo (!r7) with hc9 | hc9
 refine o_8 ?_
 exact qj tI
 refine o_4 ?_
 rcases bo ((!r7)||(decide (op1<1))) with hc10 | hc10
 refine o_4 ?_
 exact qj tI
 refine o_4 ?_
 exact qj tI
 rintro σ1
 refine o_1 ?_
 split at hr
 refine o_3 ?_
 refine lO (vz (.agg [(.slice none 0 0),(.slice none 0 0)].toArray) (v_build pl58 zc58 R R)) (l_stores 0 R R sz58 R R R R R R (l_nil (q_next (c_ret (q_ret ?_)))))
 cases hr
 exact qS ((none,0,0),(none,0,0)) (fun w s=>(((s.nilo kT3 3).nilo kT3 3).e 6 [1,0]))
 refine o_4 ?_
 obtain ⟨r12,hx13,hr⟩:=bd hr
 refine o_3 ?_
 refine lM _ (fun w s=>(s.d 2 R)) ?_
 refine lC 1 cb93 R (Z0g_ok hx13) R ?_
 rintro ⟨⟨A14,N14,D14⟩,⟨A15,N15,D15⟩⟩
 refine l_len 0 sees_ow ?_
 rintro rfl
 refine l_len 1 sees_ow ?_
 rintro rfl
 refine l_alloc R R zc58 (fun b16=>(l_stores 0 R R sz58 R R R R R R (lN (bxl b16 [(sc A14 r12.Dims D14),(sc A15 r12.Data D15)] 58::_::_::_::W1) ?_)))
 refine o_3 ?_
 refine c_cut (A:=((List Int))×(Unit)) (fun a=>Z0z_J1 r12 a.1=some r) (fun a=>[(4,(pt b6 0)),(5,(pt b16 0))]) (fun a=>bxl b6 [(.slice none 0 0),(.slice none 0 0)] 58::bxl b16 [(sc A14 r12.Dims D14),(sc A15 r12.Data D15)] 58::OO kT3 3 A14 D14 r12.Dims::ow kT3 3 (.slice A15 r12.Data.length D15) a.1::W1) ?_ ?_
 refine o_6 ?_
 obtain ⟨e1,hl1,hk1⟩:=bd hr
 refine c_loop (A:=Unit) hl1 (fun s a=>[(0,(iv op1)),(3,(pt b5 0)),(4,(pt b6 0)),(5,(pt b16 0)),(6,(iv s.2))]) (fun s a=>bxl b6 [(.slice none 0 0),(.slice none 0 0)] 58::bxl b16 [(sc A14 r12.Dims D14),(sc A15 r12.Data D15)] 58::OO kT3 3 A14 D14 r12.Dims::ow kT3 3 (.slice A15 r12.Data.length D15) s.1::W1) () (aS R) (tE 4 [3,0,1,2]) ?_
 rintro ⟨x26,i27⟩ _ σ1 out1 hr he1
 dsimp only [Z0z_L1] at hr
 refine o_10 ?_
 split at hr
 refine o_5 ?_
 obtain ⟨hg29,hr⟩:=gd hr
 obtain ⟨r32,hx33,hr⟩:=bd hr
 obtain ⟨hg34,hr⟩:=gd hr
 refine c_some 6 sees_rd (show 0<t2.Data.length by have:=hg29; omega) (fun g30 o31 ha=>?_)
 subst ha
 refine c_some 3 sees_ow (show 0<r12.Data.length by have:=hg34; omega) (fun g35 o36 ha=>?_)
 subst ha
 refine cdr 12 [3] mixo fun ht hn=>?_
 refine d9_ 0 [3] ?_
 refine d1 9 R (lC 0 cb105 R (Z2v_ok hx33) R ?_)
 rintro _
 refine l_nil (q_draw (sL [3]) ?_)
 refine d1_ 10 [3] ?_
 refine d1 11 R (lM _ (tE 4 [3,0,1,2]) ?_)
 refine l_stx (K:=kT3) (x':=r32) 0 i27 R R sz3 R R hg34.1 hg34.2 ?_ ?_
 exact fun I h s=>(mO3).put I h () r32 s
 refine l_nil (q_draw (sL [0]) (dD ?_))
 refine o_7 ?_
 cases hr
 exact qA () (tE 4 [1,2,3,0])
 refine o_3 ?_
 cases hr
 obtain rfl:=he1 _ R
 have hr:=hk1
 refine o_2 ?_
 exact qI (x26,()) hr tI
 rintro ⟨x39,_⟩ σ1 hr
 dsimp only [Z0z_J1] at hr
 refine o_3 ?_
 refine l_stores 0 R R sz58 R R R R R R (lN (bxl b6 [(sc A14 r12.Dims D14),(sc A15 r12.Data D15)] 58::bxl b16 [(sc A14 r12.Dims D14),(sc A15 r12.Data D15)] 58::_::ow kT3 3 (.slice A15 r12.Data.length D15) x39::W1) ?_)
 refine o_3 ?_
 cases hr
 exact qS ((A14,r12.Dims.length,D14),(A15,r12.Data.length,D15)) (tE 7 [2,3])
theorem Z1d_ok  {t1:Tensor}{axis4:Int}{r:Bool}(hr:Z1d t1 axis4=some r) :
 FnOk Tryz.prog 106 [(.agg [(.slice A2 N2 D2),(.slice A3 N3 D3)].toArray),(iv axis4)] [rds kT3 (.slice A2 N2 D2) t1.Dims,rds kT3 (.slice A3 N3 D3) t1.Data] (fun (h:Unit)=>((.bool r),[])):=by
 unfold Z1d at hr
 refine fn_ok Tryz.func106 R 18 R R fun C V=>?_
 refine cL 0 sees_rd ?_
 rintro rfl
 refine cL 1 sees_rd ?_
 rintro rfl
 let W0:=RR kT3 A2 D2 t1.Dims::RR kT3 A3 D3 t1.Data::V
 refine cN W0 ?_
 refine o_2 ?_
 refine lBx R fun b5=>?_
 refine o_2 ?_
 let W1:=bxl b5 [(sc A2 t1.Dims D2),(sc A3 t1.Data D3)] 58::W0
 refine qN W1 ?_
 refine o_2 ?_
 obtain ⟨r6,hx7,hr⟩:=bd hr
 refine cQ [(4,(.bool ((r6&&(decide (axis4≥0)))&&(decide (axis4<(t1.Dims.length:Int))))))] (W1) ?_ ?_
 refine o_2 ?_
 refine lM _ (fun w s=>(((s.d 1 R).d 3 R).e 2 [1,0])) ?_
 refine lC 2 cb55 R (Zo_ok hx7) R ?_
 rintro _
 refine lN W1 ?_
 refine o_1 ?_
 rcases bo r6 with hc8 | hc8
 refine o_4 ?_
 rcases bo (r6&&(decide (axis4≥0))) with hc9 | hc9
 refine o_8 ?_
 exact qj tI
 refine o_8 ?_
 exact qj tI
 refine o_12 ?_
 exact qj tI
 rintro σ1
 refine o_2 ?_
 cases hr
 exact qF () (tE 3 [])
theorem Z0h_ok  {a1:(List Int)}{p3:Int}{p4:Int}{r:(List Int)}(hr:Z0h a1 p3 p4=some r) :
 FnOk Tryz.prog 122 [(.slice A2 N2 D2),(iv p3),(iv p4)] [rds kT3 (.slice A2 N2 D2) a1] (fun (h:HH)=>((s3 h),[ow kT3 3 (s3 h) r])):=by
 unfold Z0h at hr
 refine fn_ok Tryz.func122 R 15 R R fun C V=>?_
 refine cL 0 sees_rd ?_
 rintro rfl
 let W0:=RR kT3 A2 D2 a1::V
 refine cN W0 ?_
 refine o_6 ?_
 obtain ⟨r5,hx6,hr⟩:=bd hr
 refine o_2 ?_
 refine lM _ (fun w s=>(s.d 0 R)) ?_
 refine lC 1 cb57 R (Zq_ok hx6) R ?_
 rintro ⟨A7,N7,D7⟩
 refine l_len 0 sees_ow ?_
 rintro rfl
 refine o_4 ?_
 obtain ⟨hg8,hr⟩:=gd hr
 refine o_4 ?_
 refine t_some 0 sees_ow (show 0<r5.length by have:=hg8; omega) (fun g9 o10 ha=>?_)
 subst ha
 refine o_1 ?_
 refine l_stx (K:=kT3) (x':=p4) 0 p3 R R sz3 R R hg8.1 hg8.2 ?_ ?_
 exact fun I h s=>(mO3).put I h () p4 s
 refine o_9 ?_
 cases hr
 exact qF ((ad g9 o10),r5.length,D7) (tE 2 [0])
theorem Z0v_ok  {t1:Tensor}{axis4:Int}{p5:(List Int)}{r:(List Int)}(hr:Z0v t1 axis4 p5=some r) :
 FnOk Tryz.prog 107 [(.agg [(.slice A2 N2 D2),(.slice A3 N3 D3)].toArray),(iv axis4),(.slice A6 N6 D6)] [rds kT3 (.slice A2 N2 D2) t1.Dims,rds kT3 (.slice A3 N3 D3) t1.Data,rds kT3 (.slice A6 N6 D6) p5] (fun (h:HH)=>((.slice h.1 h.2.1 h.2.2),[ow kT3 3 (.slice h.1 h.2.1 h.2.2) r])):=by
 unfold Z0v at hr
 refine fn_ok Tryz.func107 R 29 R R fun C V=>?_
 refine cN (_::_::_::V) ?_
 refine cL 0 sees_rd ?_
 rintro rfl
 refine cL 1 sees_rd ?_
 rintro rfl
 refine cL 2 sees_rd ?_
 rintro rfl
 let W0:List HP:=RR kT3 A2 D2 t1.Dims::RR kT3 A3 D3 t1.Data::RR kT3 A6 D6 p5::V
 refine cN W0 ?_
 refine c_seq (c_region (lBx R (fun b7=>(lS R (l_nil ?_)))))
 let W1:List HP:=bxl b7 [(sc A2 t1.Dims D2),(sc A3 t1.Data D3)] 58::W0
 refine qN W1 ?_
 refine q_next (c_seq (c_region (l_build (K:=kT3) (xs:=([]:List Int)) (vs:=[]) 0 R R sl23 sz3 zc3 R R R R R R ?_ R (fun A8 D8=>?_))))
 exact fun I h s=>(mO3).list [] I h s
 refine lN (OO kT3 3 A8 D8 ([]:List Int)::W1) ?_
 refine lS R (l_nil (q_next (c_seq (c_cut (A:=((List Int))×(HH)) (fun a=>Z0v_J1 a.1=some r) (fun a=>[(7,(.slice a.2.1 a.2.2.1 a.2.2.2))]) (fun a=>ow kT3 3 (.slice a.2.1 a.2.2.1 a.2.2.2) a.1::W1) ?_ ?_))))
 refine c_seq (c_region (lI R (l_nil (q_next (c_block ?_)))))
 obtain ⟨e1,hl1,hk1⟩:=bd hr
 refine c_loop (A:=HH) hl1 (fun s a=>[(1,(iv axis4)),(2,(sc A6 p5 D6)),(3,(pt b7 0)),(7,(.slice a.1 a.2.1 a.2.2)),(8,(iv s.2))]) (fun s a=>ow kT3 3 (.slice a.1 a.2.1 a.2.2) s.1::W1) (A8,([]:List Int).length,D8) (aS R) (fun w s=>s) ?_
 rintro ⟨x21,k23⟩ ⟨A22,N22,D22⟩ σ1 out1 hr he1
 replace hr:Z0v_L1 t1 axis4 p5 x21 k23=some out1:=hr
 unfold Z0v_L1 at hr
 refine c_len 0 sees_ow (fun (hn:N22=x21.length)=>?_)
 subst hn
 refine c_seq (c_seq ?_)
 obtain ⟨hg24,hr⟩:=gd hr
 refine c_region (lI R (lO (vFa 0 fo58_0 R) (lO (vLd 1 ag23 R R R) (lI R (t_some 2 sees_rd (show 0<t1.Dims.length by have:=hg24; omega) (fun g25 o26 ha=>?_))))))
 subst ha
 refine lO (vIa sl23 sz3 R R hg24) (lO (vLi 2 ag3 sees_rd R hg24) (lO (vLt R R) (l_nil (q_next ?_))))
 rcases bif_ hr with ⟨hb27,hr⟩|⟨hb27,hr⟩
 refine c_true R hb27 (c_skip (q_next (c_seq (c_block ?_))))
 obtain ⟨r28,hx29,hr⟩:=bd hr
 obtain ⟨r31,hx32,hr⟩:=bd hr
 obtain ⟨hg34,hr⟩:=gd hr
 refine cdr 10 [0] mixo (fun ht hn=>(dR 0 R (vS R) (hS:=(sL [0])) (dR 1 R (vz (.agg [(sc (ad g25 o26) t1.Dims D2),(sc A3 t1.Data D3)].toArray) (v_loadw 0 ag58 sz58 R R R R)) (hS:=(sL [0])) (dR 2 R (vS R) (hS:=(sL [0])) (dR 3 R (vI R) (hS:=(sL [0])) (dR 4 R (vI R) (hS:=(sL [0])) (d1 5 R (lM (RR kT3 A6 D6 p5::OO kT3 3 A22 D22 x21::W1) (fun w s=>(s.d 4 R)) ?_))))))))
 refine lC 1 cb122 R (Z0h_ok hx29) R ?_
 rintro ⟨A30,N30,D30⟩
 refine lN (ow kT3 3 (.slice A30 N30 D30) r28::_::W1) ?_
 refine l_len 0 sees_ow ?_
 rintro rfl
 refine l_nil (q_draw (sL [1,0]) (d1 6 R (lM (ow _ _ _ _::RR kT3 (ad g25 o26) D2 t1.Dims::RR kT3 A3 D3 t1.Data::ow _ _ _ _::W1) (fun w s=>(((s.d 3 R).d 5 R).e 4 [2,1,0,3])) ?_)))
 refine lC 3 cb112 R (FnOk.lends (A':=[OO kT3 3 A30 D30 r28]) (A:=[RR kT3 A30 D30 r28]) (B:=[RR kT3 (ad g25 o26) D2 t1.Dims,RR kT3 A3 D3 t1.Data]) (FnOk.perm (Z13_ok hx32) (Pre':=[RR kT3 A30 D30 r28,RR kT3 (ad g25 o26) D2 t1.Dims,RR kT3 A3 D3 t1.Data]) (fun _ _ _ s=>(s.e 3 [1,2,0]))) ⟨lend_ow,trivial⟩ (fun _=>trivial)) R ?_
 rintro _
 refine lN (_::_::W1) ?_
 refine l_nil (q_draw (sL [1,0]) (d1 7 R (l_build (K:=kT3) (xs:=([r31]:List Int)) (vs:=[(iv r31)]) 0 R R sl23 sz3 zc3 R R R R R R ?_ R (fun A33 D33=>?_))))
 exact fun I h s=>(mO3).list [((),r31)] I h s
 refine lN (OO kT3 3 A33 D33 ([r31]:List Int)::_::_::W1) ?_
 refine l_nil (q_draw (sL [2,1,0]) (d1 8 R (lM (ow _ _ _ _::ow _ _ _ _::ow _ _ _ _::W1) (fun w s=>(s.e 3 [2,0,1])) ?_)))
 refine l_app (K:=kT3) 17592186044416 R R sl23 sz3 by3 (Zr.zk zT3 zc3) R R R R R R src_ow hg34 (fun A35 D35=>(lN (OO kT3 3 A35 D35 (x21++([r31]:List Int))::_::W1) ?_))
 refine l_nil (q_draw (sL [1,0]) (dR 9 R (vS R) (hS:=(sL [1,0])) (dD (q_blockn (q_next (c_region (lI R (lO (vAd R R) (lI R (l_nil ?_))))))))))
 obtain rfl:=so hr
 exact qA (A35,(x21++([r31]:List Int)).length,D35) (fun w s=>(s.e 2 [0]))
 refine c_false R hb27 (c_exit (q_exit ?_))
 obtain rfl:=so hr
 obtain rfl:=he1 _ R
 have hr:=hk1
 refine q_exit (q_block ?_)
 exact qI (x21,(A22,x21.length,D22)) hr (fun w s=>s)
 rintro ⟨x39,⟨A40,N40,D40⟩⟩ σ1 hr
 replace hr:Z0v_J1 x39=some r:=hr
 unfold Z0v_J1 at hr
 refine c_len 0 sees_ow (fun (hn:N40=x39.length)=>?_)
 subst hn
 refine c_seq (c_region (lS R (lS R (l_nil (q_next (c_ret ?_))))))
 obtain rfl:=so hr
 exact qF (A40,x39.length,D40) (fun w s=>(s.e 5 [0]))
theorem Za_ok  {t1:Tensor}{axis4:Int}{r:Tensor}(hr:Za t1 axis4=some r) :
 FnOk Tryz.prog 80 [(.agg [(.slice A2 N2 D2),(.slice A3 N3 D3)].toArray),(iv axis4)] [rds kT3 (.slice A2 N2 D2) t1.Dims,rds kT3 (.slice A3 N3 D3) t1.Data] (fun (h:HH×HH)=>((.agg [(s3 h.1),(s3 h.2)].toArray),[ow kT3 3 (s3 h.1) r.Dims,ow kT3 3 (s3 h.2) r.Data])):=by
 unfold Za at hr
 refine fn_ok Tryz.func80 R 75 R R fun C V=>?_
 refine cL 0 sees_rd ?_
 rintro rfl
 refine cL 1 sees_rd ?_
 rintro rfl
 let W0:=RR kT3 A2 D2 t1.Dims::RR kT3 A3 D3 t1.Data::V
 refine cN W0 ?_
 refine o_2 ?_
 refine lBx R fun b5=>?_
 refine l_alloc R R zc58 (fun b6=>(l_nil ?_))
 let W1:=bxl b5 [(sc A2 t1.Dims D2),(sc A3 t1.Data D3)] 58::W0
 refine o_3 ?_
 obtain ⟨r7,hx8,hr⟩:=bd hr
 refine o_3 ?_
 refine lM _ (fun w s=>(((s.d 2 R).d 4 R).e 3 [1,0,2])) ?_
 refine lC 2 cb106 R (Z1d_ok hx8) R ?_
 rintro _
 refine o_3 ?_
 split at hr
 refine o_3 ?_
 refine lO (vz (.agg [(.slice none 0 0),(.slice none 0 0)].toArray) (v_build pl58 zc58 R R)) (l_stores 0 R R sz58 R R R R R R (l_nil (q_next (c_ret (q_ret ?_)))))
 cases hr
 exact qS ((none,0,0),(none,0,0)) (fun w s=>(((s.nilo kT3 3).nilo kT3 3).e 6 [1,0]))
 refine o_4 ?_
 obtain ⟨r10,hx11,hr⟩:=bd hr
 refine o_3 ?_
 refine lM _ (fun w s=>(s.d 2 R)) ?_
 refine lC 1 cb93 R (Z0g_ok hx11) R ?_
 rintro ⟨⟨A12,N12,D12⟩,⟨A13,N13,D13⟩⟩
 refine l_len 0 sees_ow ?_
 rintro rfl
 refine l_len 1 sees_ow ?_
 rintro rfl
 refine l_alloc R R zc58 (fun b14=>(l_stores 0 R R sz58 R R R R R R (lN (bxl b14 [(sc A12 r10.Dims D12),(sc A13 r10.Data D13)] 58::_::_::_::W1) ?_)))
 refine o_3 ?_
 refine c_cut (A:=((List Int))×(Unit)) (fun a=>Za_J9 r10 a.1=some r) (fun a=>[(4,(pt b6 0)),(5,(pt b14 0))]) (fun a=>bxl b6 [(.slice none 0 0),(.slice none 0 0)] 58::bxl b14 [(sc A12 r10.Dims D12),(sc A13 r10.Data D13)] 58::OO kT3 3 A12 D12 r10.Dims::ow kT3 3 (.slice A13 r10.Data.length D13) a.1::W1) ?_ ?_
 refine o_6 ?_
 obtain ⟨e1,hl1,hk1⟩:=bd hr
 refine c_loop (A:=Unit) hl1 (fun s a=>[(1,(iv axis4)),(2,(pt b5 0)),(4,(pt b6 0)),(5,(pt b14 0)),(6,(iv s.2))]) (fun s a=>bxl b6 [(.slice none 0 0),(.slice none 0 0)] 58::bxl b14 [(sc A12 r10.Dims D12),(sc A13 r10.Data D13)] 58::OO kT3 3 A12 D12 r10.Dims::ow kT3 3 (.slice A13 r10.Data.length D13) s.1::W1) () (aS R) (tE 4 [3,0,1,2]) ?_
 rintro ⟨x72,i73⟩ _ σ1 out1 hr he1
 dsimp only [Za_L1] at hr
 refine o_10 ?_
 split at hr
 refine o_4 ?_
 refine c_cut (A:=((List Int))×(Unit)) (fun a=>Za_J8 i73 a.1=some out1) (fun a=>[(1,(iv axis4)),(2,(pt b5 0)),(4,(pt b6 0)),(5,(pt b14 0)),(6,(iv i73))]) (fun a=>bxl b6 [(.slice none 0 0),(.slice none 0 0)] 58::bxl b14 [(sc A12 r10.Dims D12),(sc A13 r10.Data D13)] 58::OO kT3 3 A12 D12 r10.Dims::ow kT3 3 (.slice A13 r10.Data.length D13) a.1::W1) ?_ ?_
 refine o_2 ?_
 obtain ⟨r75,hx76,hr⟩:=bd hr
 refine o_4 ?_
 refine lM _ (fun w s=>(s.d 5 R)) ?_
 refine lC 1 cb102 R (Zg_ok hx76) R ?_
 rintro ⟨A77,N77,D77⟩
 refine l_len 0 sees_ow ?_
 rintro rfl
 refine o_4 ?_
 obtain ⟨r78,hx79,hr⟩:=bd hr
 refine o_4 ?_
 refine lM _ (fun w s=>(((s.d 6 R).d 8 R).e 7 [2,1,0,3,4,5,6])) ?_
 refine lC 3 cb107 R (FnOk.lends (A':=[OO kT3 3 A77 D77 r75]) (A:=[RR kT3 A77 D77 r75]) (B:=[RR kT3 A2 D2 t1.Dims,RR kT3 A3 D3 t1.Data]) (FnOk.perm (Z0v_ok hx79) (Pre':=[RR kT3 A77 D77 r75,RR kT3 A2 D2 t1.Dims,RR kT3 A3 D3 t1.Data]) (fun _ _ _ s=>(s.e 3 [1,2,0]))) ⟨lend_ow,trivial⟩ (fun _=>⟨(closed_ow cT3),trivial⟩)) R ?_
 rintro ⟨A80,N80,D80⟩
 refine l_len 1 sees_ow ?_
 rintro rfl
 refine o_9 ?_
 refine c_cut (A:=(Bool)×(Unit)) (fun a=>Za_J7 r10 x72 i73 a.1=some out1) (fun a=>[(1,(iv axis4)),(2,(pt b5 0)),(4,(pt b6 0)),(5,(pt b14 0)),(6,(iv i73)),(9,(.bool a.1))]) (fun a=>bxl b6 [(.slice none 0 0),(.slice none 0 0)] 58::bxl b14 [(sc A12 r10.Dims D12),(sc A13 r10.Data D13)] 58::OO kT3 3 A12 D12 r10.Dims::ow kT3 3 (.slice A13 r10.Data.length D13) x72::W1) ?_ ?_
 refine o_6 ?_
 obtain ⟨e2,hl2,hk2⟩:=bd hr
 refine c_loop (A:=HH) hl2 (fun s a=>[(1,(iv axis4)),(2,(pt b5 0)),(4,(pt b6 0)),(5,(pt b14 0)),(6,(iv i73)),(7,(sc A77 r75 D77)),(8,(s3 a)),(9,(.bool s.1)),(10,(iv s.2))]) (fun s a=>bxl b6 [(.slice none 0 0),(.slice none 0 0)] 58::bxl b14 [(sc A12 r10.Dims D12),(sc A13 r10.Data D13)] 58::OO kT3 3 A12 D12 r10.Dims::ow kT3 3 (.slice A13 r10.Data.length D13) x72::OO kT3 3 A77 D77 r75::ow kT3 3 (s3 a) r78::W1) (A80,r78.length,D80) (aS R) (fun w s=>(s.f 6 [2,4,0,2])) ?_
 rintro ⟨best101,k102⟩ ⟨A100,N100,D100⟩ σ1 out2 hr he2
 dsimp only [Za_L2] at hr
 refine c_len 5 sees_ow (fun (hn:N100=r78.length)=>?_)
 subst hn
 refine o_9 ?_
 split at hr
 refine o_4 ?_
 refine c_cut (A:=(Bool)×(HH)) (fun a=>Za_J6 k102 a.1=some out2) (fun a=>[(1,(iv axis4)),(2,(pt b5 0)),(4,(pt b6 0)),(5,(pt b14 0)),(6,(iv i73)),(7,(sc A77 r75 D77)),(8,(s3 a.2)),(9,(.bool a.1)),(10,(iv k102))]) (fun a=>bxl b6 [(.slice none 0 0),(.slice none 0 0)] 58::bxl b14 [(sc A12 r10.Dims D12),(sc A13 r10.Data D13)] 58::OO kT3 3 A12 D12 r10.Dims::ow kT3 3 (.slice A13 r10.Data.length D13) x72::OO kT3 3 A77 D77 r75::ow kT3 3 (s3 a.2) r78::W1) ?_ ?_
 refine o_2 ?_
 obtain ⟨hg104,hr⟩:=gd hr
 obtain ⟨r107,hx108,hr⟩:=bd hr
 refine o_3 ?_
 refine t_some 5 sees_ow (show 0<r78.length by have:=hg104; omega) (fun g105 o106 ha=>?_)
 subst ha
 refine o_2 ?_
 refine lC 0 cb108 R (Z1b_ok hx108) R ?_
 rintro _
 refine o_4 ?_
 obtain ⟨hg109,hr⟩:=gd hr
 obtain ⟨r112,hx113,hr⟩:=bd hr
 refine o_4 ?_
 refine t_some 8 sees_rd (show 0<t1.Data.length by have:=hg109; omega) (fun g110 o111 ha=>?_)
 subst ha
 refine o_2 ?_
 refine lC 0 cb108 R (Z1b_ok hx113) R ?_
 rintro _
 refine o_4 ?_
 obtain ⟨hg114,hr⟩:=gd hr
 refine cQ [(1,(iv axis4)),(2,(pt b5 0)),(4,(pt b6 0)),(5,(pt b14 0)),(6,(iv i73)),(7,(sc A77 r75 D77)),(8,(sc (ad g105 o106) r78 D100)),(9,(.bool best101)),(10,(iv k102)),(68,(.bool ((decide (r107>r112))||((r107==r112)&&(decide (k102<(ix r75 axis4)))))))] (bxl b6 [(.slice none 0 0),(.slice none 0 0)] 58::bxl b14 [(sc A12 r10.Dims D12),(sc A13 r10.Data D13)] 58::OO kT3 3 A12 D12 r10.Dims::ow kT3 3 (.slice A13 r10.Data.length D13) x72::OO kT3 3 A77 D77 r75::OO kT3 3 (ad g105 o106) D100 r78::W1) ?_ ?_
 refine o_5 ?_
 rcases bo (decide (r107>r112)) with hc117 | hc117
 refine o_13 ?_
 exact qj tI
 refine o_4 ?_
 rcases bo (r107==r112) with hc118 | hc118
 refine o_3 ?_
 refine t_some 4 sees_ow (show 0<r75.length by have:=(hg114 hc117 hc118); omega) (fun g115 o116 ha=>?_)
 subst ha
 refine lW (wnT hc118) (vIa sl23 sz3 R R (hg114 hc117 hc118)) (lW (wnT hc118) (vLi 4 ag3 sees_ow R (hg114 hc117 hc118)) ?_)
 refine o_4 ?_
 exact qj tI
 refine o_9 ?_
 exact qj tI
 rintro σ1
 refine o_1 ?_
 split at hr
 refine o_5 ?_
 exact qI (false,((ad g105 o106),r78.length,D100)) hr tI
 refine o_3 ?_
 exact qI (best101,((ad g105 o106),r78.length,D100)) hr tI
 rintro ⟨best121,⟨A120,N120,D120⟩⟩ σ1 hr
 dsimp only [Za_J6] at hr
 refine c_len 5 sees_ow (fun (hn:N120=r78.length)=>?_)
 subst hn
 refine o_5 ?_
 cases hr
 exact qA (A120,r78.length,D120) tI
 refine o_3 ?_
 cases hr
 obtain rfl:=he2 _ R
 have hr:=hk2
 refine o_2 ?_
 exact qI (best101,()) hr (fun w s=>(s.f 6 [0,4]))
 rintro ⟨best125,_⟩ σ1 hr
 dsimp only [Za_J7] at hr
 refine o_5 ?_
 split at hr
 refine o_1 ?_
 obtain ⟨hg127,hr⟩:=gd hr
 refine o_4 ?_
 refine t_some 3 sees_ow (show 0<r10.Data.length by have:=hg127; omega) (fun g128 o129 ha=>?_)
 subst ha
 refine o_1 ?_
 refine lM _ (tE 4 [3,0,1,2]) ?_
 refine l_stx (K:=kT3) (x':=(1:Int)) 0 i73 R R sz3 R R hg127.1 hg127.2 ?_ ?_
 exact fun I h s=>(mO3).put I h () (1:Int) s
 refine o_2 ?_
 exact qI ((x72.set i73.toNat (1:Int)),()) hr (tE 4 [1,2,3,0])
 refine o_3 ?_
 exact qI (x72,()) hr tI
 rintro ⟨x130,_⟩ σ1 hr
 dsimp only [Za_J8] at hr
 refine o_5 ?_
 cases hr
 exact qA () tI
 refine o_3 ?_
 cases hr
 obtain rfl:=he1 _ R
 have hr:=hk1
 refine o_2 ?_
 exact qI (x72,()) hr tI
 rintro ⟨x133,_⟩ σ1 hr
 dsimp only [Za_J9] at hr
 refine o_3 ?_
 refine l_stores 0 R R sz58 R R R R R R (lN (bxl b6 [(sc A12 r10.Dims D12),(sc A13 r10.Data D13)] 58::bxl b14 [(sc A12 r10.Dims D12),(sc A13 r10.Data D13)] 58::_::ow kT3 3 (.slice A13 r10.Data.length D13) x133::W1) ?_)
 refine o_3 ?_
 cases hr
 exact qS ((A12,r10.Dims.length,D12),(A13,r10.Data.length,D13)) (tE 7 [2,3])
theorem Z0u_ok  {p1:Str}{r:Bool}(hr:Z0u p1=some r) :
 FnOk Tryz.prog 142 [(vstr p1)] [] (fun (h:Unit)=>((.bool r),[])):=by
 unfold Z0u at hr
 refine fn_ok Tryz.func142 R 23 R R fun C V=>?_
 refine cN V ?_
 refine o_6 ?_
 refine c_cut (A:=(Unit)×(Unit)) (fun a=>Z0u_J1 p1=some r) (fun a=>[(0,(vstr p1))]) (fun a=>V) ?_ ?_
 refine o_6 ?_
 obtain ⟨e1,hl1,hk1⟩:=bd hr
 refine c_loop (A:=Unit) hl1 (fun s a=>[(0,(vstr p1)),(3,(iv s))]) (fun s a=>V) () (aS R) tI ?_
 rintro i6 _ σ1 out1 hr he1
 dsimp only [Z0u_L1] at hr
 refine o_4 ?_
 refine lO (vp (vstr p1) R) (lO (vz (il p1) (v_slen un9 R)) ?_)
 refine o_3 ?_
 split at hr
 refine o_6 ?_
 obtain ⟨hg8,hr⟩:=gd hr
 refine cQ [(0,(vstr p1)),(3,(iv i6)),(19,(.bool ((decide ((bt p1 i6)<97))||(decide ((bt p1 i6)>122)))))] (V) ?_ ?_
 refine c_region (lO (vp (vstr p1) R) (lI R (lO (vz (.int .u8 (bt p1 i6)) (v_sindex un9 R R hg8.1 hg8.2)) (lO (vp (.bool (decide ((bt p1 i6)<97))) R) (lB R ?_)))))
 rcases bo (decide ((bt p1 i6)<97)) with hc9 | hc9
 refine o_6 ?_
 exact qj tI
 refine lW (wnF hc9) (vp (vstr p1) R) (lW (wnF hc9) (vI R) (lW (wnF hc9) (vz (.int .u8 (bt p1 i6)) (v_sindex un9 R R hg8.1 hg8.2)) (lW (wnF hc9) (vp (.bool (decide ((bt p1 i6)>122))) R) ?_)))
 refine o_2 ?_
 exact qj tI
 rintro σ1
 refine o_1 ?_
 split at hr
 refine o_9 ?_
 cases hr
 obtain rfl:=he1 _ R
 have hr:=hk1
 refine o_3 ?_
 cases hr
 exact qF () tI
 refine o_9 ?_
 cases hr
 exact qA () tI
 refine o_3 ?_
 cases hr
 obtain rfl:=he1 _ R
 have hr:=hk1
 refine o_2 ?_
 exact qI ((),()) hr tI
 rintro ⟨_,_⟩ σ1 hr
 dsimp only [Z0u_J1] at hr
 refine o_2 ?_
 refine lO (vp (vstr p1) R) (lO (vz (il p1) (v_slen un9 R)) ?_)
 refine o_5 ?_
 cases hr
 exact qF () tI
theorem Z0t_ok  {p1:Str}{b2:Int}{r:Bool}(hr:Z0t p1 b2=some r) :
 FnOk Tryz.prog 143 [(vstr p1),(.int .u8 b2)] [] (fun (h:Unit)=>((.bool r),[])):=by
 unfold Z0t at hr
 refine fn_ok Tryz.func143 R 17 R R fun C V=>?_
 refine cN V ?_
 refine o_6 ?_
 refine c_cut (A:=(Unit)×(Unit)) (fun a=>Z0t_J1=some r) (fun a=>[]) (fun a=>V) ?_ ?_
 refine o_6 ?_
 obtain ⟨e1,hl1,hk1⟩:=bd hr
 refine c_loop (A:=Unit) hl1 (fun s a=>[(0,(vstr p1)),(1,(.int .u8 b2)),(5,(iv s))]) (fun s a=>V) () (aS R) tI ?_
 rintro i6 _ σ1 out1 hr he1
 dsimp only [Z0t_L1] at hr
 refine o_4 ?_
 refine lO (vp (vstr p1) R) (lO (vz (il p1) (v_slen un9 R)) ?_)
 refine o_3 ?_
 split at hr
 refine o_6 ?_
 obtain ⟨hg8,hr⟩:=gd hr
 refine c_region (lO (vp (vstr p1) R) (lI R (lO (vz (.int .u8 (bt p1 i6)) (v_sindex un9 R R hg8.1 hg8.2)) (lI R (lO (vp (.bool ((bt p1 i6)==b2)) R) ?_)))))
 refine o_2 ?_
 split at hr
 refine o_9 ?_
 cases hr
 obtain rfl:=he1 _ R
 have hr:=hk1
 refine o_3 ?_
 cases hr
 exact qF () tI
 refine o_9 ?_
 cases hr
 exact qA () tI
 refine o_3 ?_
 cases hr
 obtain rfl:=he1 _ R
 have hr:=hk1
 refine o_2 ?_
 exact q_join ((),()) hr trivial tI
 rintro ⟨_,_⟩ σ1 hr
 dsimp only [Z0t_J1] at hr
 refine o_6 ?_
 cases hr
 exact qF () tI
theorem Z0_ok  {form1:Str}{r:(List Str)×Str×Bool}(hr:Z0 form1=some r) :
 FnOk Tryz.prog 109 [(vstr form1)] [] (fun (h:HH)=>((.tuple [(s3 h),(vstr r.2.1),(.bool r.2.2)].toArray),[ow kT9 9 (s3 h) r.1])):=by
 unfold Z0 at hr
 refine fn_ok Tryz.func109 R 124 R R fun C V=>?_
 refine cN V ?_
 refine o_3 ?_
 refine lO (vp (vstr ([]:Str)) R) ?_
 refine o_5 ?_
 refine l_build (K:=kT9) (xs:=([]:List Str)) (vs:=[]) 0 R R sl122 sz9 zc9 R R R R R R ?_ R (fun A2 D2=>?_)
 exact fun I h s=>(mO9).list [] I h s
 refine o_9 ?_
 refine c_cut (A:=(Int)×(Unit)) (fun a=>Z0_J1 form1 a.1=some r) (fun a=>[(0,(vstr form1)),(5,(sc A2 ([]:List Str) D2)),(6,(iv a.1))]) (fun a=>OO kT9 9 A2 D2 ([]:List Str)::V) ?_ ?_
 refine o_1 ?_
 obtain ⟨e1,hl1,hk1⟩:=bd hr
 refine c_loop (A:=Unit) hl1 (fun s a=>[(0,(vstr form1)),(5,(sc A2 ([]:List Str) D2)),(6,(iv s))]) (fun s a=>OO kT9 9 A2 D2 ([]:List Str)::V) () (aS R) tI ?_
 rintro x6 _ σ1 out1 hr he1
 dsimp only [Z0_L1] at hr
 refine o_2 ?_
 obtain ⟨hg7,hr⟩:=gd hr
 refine cQ [(0,(vstr form1)),(5,(sc A2 ([]:List Str) D2)),(6,(iv x6)),(28,(.bool ((decide ((w64 (x6+1))<(form1.length:Int)))&&(!((sub form1 x6 (w64 (x6+2)))==str0)))))] (OO kT9 9 A2 D2 ([]:List Str)::V) ?_ ?_
 refine o_3 ?_
 refine lO (vp (vstr form1) R) (lO (vz (il form1) (v_slen un9 R)) ?_)
 refine o_2 ?_
 rcases bo (decide ((w64 (x6+1))<(form1.length:Int))) with hc8 | hc8
 refine lW (wnT hc8) (vp (vstr form1) R) ?_
 refine o_3 ?_
 refine lW (wnT hc8) (vz (vstr (sub form1 x6 (w64 (x6+2)))) (v_scut x6 (w64 (x6+2)) un9 R R R (hg7 hc8).1 (hg7 hc8).2.1 (hg7 hc8).2.2)) (lW (wnT hc8) (vz (.bool (!((sub form1 x6 (w64 (x6+2)))==str0))) (v_scmp R R R)) ?_)
 refine o_2 ?_
 exact qj tI
 refine o_8 ?_
 exact qj tI
 rintro σ1
 refine o_1 ?_
 split at hr
 refine o_10 ?_
 cases hr
 exact qA () tI
 refine o_3 ?_
 cases hr
 obtain rfl:=he1 _ R
 have hr:=hk1
 refine o_2 ?_
 exact qI (x6,()) hr tI
 rintro ⟨x11,_⟩ σ1 hr
 dsimp only [Z0_J1] at hr
 refine o_5 ?_
 refine lO (vp (vstr form1) R) (lO (vz (il form1) (v_slen un9 R)) ?_)
 refine o_3 ?_
 split at hr
 refine o_5 ?_
 refine lO (vp (vstr ([]:Str)) R) ?_
 refine o_5 ?_
 cases hr
 exact qT3 (A2,([]:List Str).length,D2) tI
 refine o_5 ?_
 refine l_build (K:=kT9) (xs:=([]:List Str)) (vs:=[]) 0 R R sl122 sz9 zc9 R R R R R R ?_ R (fun A13 D13=>?_)
 exact fun I h s=>(mO9).list [] I h s
 refine o_9 ?_
 refine c_cut (A:=((List Str))×(HH)) (fun a=>Z0_J4 form1 x11 a.1=some r) (fun a=>[(0,(vstr form1)),(5,(sc A2 ([]:List Str) D2)),(6,(iv x11)),(7,(s3 a.2))]) (fun a=>OO kT9 9 A2 D2 ([]:List Str)::ow kT9 9 (s3 a.2) a.1::V) ?_ ?_
 refine o_6 ?_
 obtain ⟨e2,hl2,hk2⟩:=bd hr
 refine c_loop (A:=HH) hl2 (fun s a=>[(0,(vstr form1)),(5,(sc A2 ([]:List Str) D2)),(6,(iv x11)),(7,(s3 a)),(8,(iv s.2.1)),(9,(iv s.2.2))]) (fun s a=>OO kT9 9 A2 D2 ([]:List Str)::ow kT9 9 (s3 a) s.1::V) (A13,([]:List Str).length,D13) (aS R) (tE 2 [1,0]) ?_
 rintro ⟨groups25,x27,i28⟩ ⟨A26,N26,D26⟩ σ1 out2 hr he2
 dsimp only [Z0_L2] at hr
 refine c_len 1 sees_ow (fun (hn:N26=groups25.length)=>?_)
 subst hn
 refine o_8 ?_
 split at hr
 refine o_4 ?_
 refine c_cut (A:=((List Str)×Int)×(HH)) (fun a=>Z0_J3 i28 a.1.1 a.1.2=some out2) (fun a=>[(0,(vstr form1)),(5,(sc A2 ([]:List Str) D2)),(6,(iv x11)),(7,(s3 a.2)),(8,(iv a.1.2)),(9,(iv i28))]) (fun a=>OO kT9 9 A2 D2 ([]:List Str)::ow kT9 9 (s3 a.2) a.1.1::V) ?_ ?_
 refine o_2 ?_
 obtain ⟨hg30,hr⟩:=gd hr
 refine cQ [(0,(vstr form1)),(5,(sc A2 ([]:List Str) D2)),(6,(iv x11)),(7,(sc A26 groups25 D26)),(8,(iv x27)),(9,(iv i28)),(51,(.bool ((i28==x11)||((bt form1 i28)==44))))] (OO kT9 9 A2 D2 ([]:List Str)::OO kT9 9 A26 D26 groups25::V) ?_ ?_
 refine o_5 ?_
 rcases bo (i28==x11) with hc31 | hc31
 refine o_6 ?_
 exact qj tI
 refine lW (wnF hc31) (vp (vstr form1) R) (lW (wnF hc31) (vI R) (lW (wnF hc31) (vz (.int .u8 (bt form1 i28)) (v_sindex un9 R R (hg30 hc31).1 (hg30 hc31).2)) (lW (wnF hc31) (vp (.bool ((bt form1 i28)==44)) R) ?_)))
 refine o_2 ?_
 exact qj tI
 rintro σ1
 refine o_1 ?_
 split at hr
 refine o_2 ?_
 obtain ⟨hg33,hr⟩:=gd hr
 obtain ⟨hg35,hr⟩:=gd hr
 refine o_2 ?_
 refine lO (vp (vstr form1) R) (lI R (lI R (lO (vz (vstr (sub form1 x27 i28)) (v_scut x27 i28 un9 R R R hg33.1 hg33.2.1 hg33.2.2)) (l_build (K:=kT9) (xs:=([(sub form1 x27 i28)]:List Str)) (vs:=[(vstr (sub form1 x27 i28))]) 0 R R sl122 sz9 zc9 R R R R R R ?_ R (fun A34 D34=>?_)))))
 exact fun I h s=>(mO9).list [((),(sub form1 x27 i28))] I h s
 refine lM _ (tE 3 [2,0,1]) ?_
 refine l_app (K:=kT9) 8796093022208 R R sl122 sz9 by9 (Zr.zk zT9 zc9) R R R R R R src_ow hg35 (fun A36 D36=>(lN (OO kT9 9 A36 D36 (groups25++([(sub form1 x27 i28)]:List Str))::_::V) ?_))
 refine o_9 ?_
 exact qI (((groups25++([(sub form1 x27 i28)]:List Str)),(w64 (i28+1))),(A36,(groups25++([(sub form1 x27 i28)]:List Str)).length,D36)) hr (tE 2 [1,0])
 refine o_3 ?_
 exact qI ((groups25,x27),(A26,groups25.length,D26)) hr tI
 rintro ⟨⟨groups37,x39⟩,⟨A38,N38,D38⟩⟩ σ1 hr
 dsimp only [Z0_J3] at hr
 refine c_len 1 sees_ow (fun (hn:N38=groups37.length)=>?_)
 subst hn
 refine o_5 ?_
 cases hr
 exact qA (A38,groups37.length,D38) tI
 refine o_3 ?_
 cases hr
 obtain rfl:=he2 _ R
 have hr:=hk2
 refine o_2 ?_
 exact qI (groups25,(A26,groups25.length,D26)) hr tI
 rintro ⟨groups44,⟨A45,N45,D45⟩⟩ σ1 hr
 dsimp only [Z0_J4] at hr
 refine c_len 1 sees_ow (fun (hn:N45=groups44.length)=>?_)
 subst hn
 refine o_1 ?_
 obtain ⟨hg46,hr⟩:=gd hr
 refine c_region (lO (vp (vstr form1) R) (lI R (lO (vAd R R) (lO (vz (vstr (sub form1 (w64 (x11+2)) (form1.length:Int))) (v_scut (w64 (x11+2)) (form1.length:Int) un9 R R R hg46.1 hg46.2.1 hg46.2.2)) (lO (vp (vstr (sub form1 (w64 (x11+2)) (form1.length:Int))) R) ?_)))))
 refine o_4 ?_
 obtain ⟨r47,hx48,hr⟩:=bd hr
 refine cQ [(5,(sc A2 ([]:List Str) D2)),(7,(sc A45 groups44 D45)),(10,(vstr (sub form1 (w64 (x11+2)) (form1.length:Int)))),(72,(.bool ((decide ((groups44.length:Int)>6))||(!r47))))] (OO kT9 9 A2 D2 ([]:List Str)::OO kT9 9 A45 D45 groups44::V) ?_ ?_
 refine o_5 ?_
 rcases bo (decide ((groups44.length:Int)>6)) with hc49 | hc49
 refine o_5 ?_
 exact qj tI
 refine lW (wnF hc49) (vp (vstr (sub form1 (w64 (x11+2)) (form1.length:Int))) R) (l_calln 0 R (wnF hc49) cb142 R (Z0u_ok (gcall_t hx48 (not_ff hc49))) R ?_)
 rintro _
 refine o_3 ?_
 exact qj tI
 rintro σ1
 refine o_1 ?_
 split at hr
 refine o_5 ?_
 refine lO (vp (vstr ([]:Str)) R) ?_
 refine o_5 ?_
 cases hr
 exact qT3 (A2,([]:List Str).length,D2) (tE 2 [0])
 refine o_4 ?_
 refine c_cut (A:=(Unit)×(Unit)) (fun a=>Z0_J5 form1 x11 groups44=some r) (fun a=>[(5,(sc A2 ([]:List Str) D2)),(7,(sc A45 groups44 D45)),(10,(vstr (sub form1 (w64 (x11+2)) (form1.length:Int))))]) (fun a=>OO kT9 9 A2 D2 ([]:List Str)::OO kT9 9 A45 D45 groups44::V) ?_ ?_
 refine o_6 ?_
 obtain ⟨e3,hl3,hk3⟩:=bd hr
 refine c_loop (A:=Unit) hl3 (fun s a=>[(5,(sc A2 ([]:List Str) D2)),(7,(sc A45 groups44 D45)),(10,(vstr (sub form1 (w64 (x11+2)) (form1.length:Int)))),(11,(iv s))]) (fun s a=>OO kT9 9 A2 D2 ([]:List Str)::OO kT9 9 A45 D45 groups44::V) () (aS R) tI ?_
 rintro i58 _ σ1 out3 hr he3
 dsimp only [Z0_L3] at hr
 refine o_9 ?_
 split at hr
 refine o_6 ?_
 obtain ⟨hg60,hr⟩:=gd hr
 obtain ⟨r63,hx64,hr⟩:=bd hr
 refine o_3 ?_
 refine t_some 1 sees_ow (show 0<groups44.length by have:=hg60; omega) (fun g61 o62 ha=>?_)
 subst ha
 refine o_1 ?_
 refine lO (vz (vstr (ix groups44 i58)) (v_lde (K:=kT9) (fo:=0) (pr:=fun x=>(vstr x)) 1 i58 ag9 (dT9.leaf fun _ _=>R) sees_ow R hg60.1 hg60.2)) (lC 0 cb142 R (Z0u_ok hx64) R ?_)
 rintro _
 refine o_3 ?_
 split at hr
 refine o_5 ?_
 refine lO (vp (vstr ([]:Str)) R) ?_
 refine o_6 ?_
 cases hr
 obtain rfl:=he3 _ R
 have hr:=hk3
 refine o_3 ?_
 cases hr
 exact qT3 (A2,([]:List Str).length,D2) (tE 2 [0])
 refine o_9 ?_
 cases hr
 exact qA () tI
 refine o_3 ?_
 cases hr
 obtain rfl:=he3 _ R
 have hr:=hk3
 refine o_2 ?_
 exact qI ((),()) hr tI
 rintro ⟨_,_⟩ σ1 hr
 dsimp only [Z0_J5] at hr
 refine c_seq (c_cut (A:=(Unit)×(Unit)) (fun a=>Z0_J8 form1 x11 groups44=some r) (fun a=>[(7,(sc A45 groups44 D45)),(10,(vstr (sub form1 (w64 (x11+2)) (form1.length:Int))))]) (fun a=>OO kT9 9 A45 D45 groups44::V) ?_ ?_)
 refine o_6 ?_
 obtain ⟨e4,hl4,hk4⟩:=bd hr
 refine c_loop (A:=Unit) hl4 (fun s a=>[(5,(sc A2 ([]:List Str) D2)),(7,(sc A45 groups44 D45)),(10,(vstr (sub form1 (w64 (x11+2)) (form1.length:Int)))),(12,(iv s))]) (fun s a=>OO kT9 9 A2 D2 ([]:List Str)::OO kT9 9 A45 D45 groups44::V) () (aS R) tI ?_
 rintro i94 _ σ1 out4 hr he4
 dsimp only [Z0_L4] at hr
 refine o_4 ?_
 refine lO (vp (vstr (sub form1 (w64 (x11+2)) (form1.length:Int))) R) (lO (vz (il (sub form1 (w64 (x11+2)) (form1.length:Int))) (v_slen un9 R)) ?_)
 refine o_3 ?_
 split at hr
 refine o_11 ?_
 refine c_cut (A:=(Bool)×(Unit)) (fun a=>Z0_J7 form1 x11 i94 a.1=some out4) (fun a=>[(5,(sc A2 ([]:List Str) D2)),(7,(sc A45 groups44 D45)),(10,(vstr (sub form1 (w64 (x11+2)) (form1.length:Int)))),(12,(iv i94)),(13,(.bool a.1))]) (fun a=>OO kT9 9 A2 D2 ([]:List Str)::OO kT9 9 A45 D45 groups44::V) ?_ ?_
 refine o_6 ?_
 obtain ⟨e5,hl5,hk5⟩:=bd hr
 refine c_loop (A:=Unit) hl5 (fun s a=>[(5,(sc A2 ([]:List Str) D2)),(7,(sc A45 groups44 D45)),(10,(vstr (sub form1 (w64 (x11+2)) (form1.length:Int)))),(12,(iv i94)),(13,(.bool s.1)),(14,(iv s.2))]) (fun s a=>OO kT9 9 A2 D2 ([]:List Str)::OO kT9 9 A45 D45 groups44::V) () (aS R) tI ?_
 rintro ⟨x103,k104⟩ _ σ1 out5 hr he5
 dsimp only [Z0_L5] at hr
 refine o_9 ?_
 split at hr
 refine o_5 ?_
 obtain ⟨hg106,hr⟩:=gd hr
 obtain ⟨hg109,hr⟩:=gd hr
 obtain ⟨r110,hx111,hr⟩:=bd hr
 refine cQ [(5,(sc A2 ([]:List Str) D2)),(7,(sc A45 groups44 D45)),(10,(vstr (sub form1 (w64 (x11+2)) (form1.length:Int)))),(12,(iv i94)),(13,(.bool (x103||r110))),(14,(iv k104))] (OO kT9 9 A2 D2 ([]:List Str)::OO kT9 9 A45 D45 groups44::V) ?_ ?_
 rcases bo x103 with hc112 | hc112
 refine cdr 12 [] mixo fun ht hn=>?_
 refine d12_ 0 [] ?_
 refine dD ?_
 exact qj tI
 refine c_some 1 sees_ow (show 0<groups44.length by have:=(hg106 hc112); omega) (fun g107 o108 ha=>?_)
 subst ha
 refine cdr 12 [] mixo fun ht hn=>?_
 refine d4_ 0 [] ?_
 refine dW 4 R (wnF hc112) (vIa sl122 sz9 R R (hg106 hc112)) (dW 5 R (wnF hc112) (vz (vstr (ix groups44 k104)) (v_lde (K:=kT9) (fo:=0) (pr:=fun x=>(vstr x)) 1 k104 ag9 (dT9.leaf fun _ _=>R) sees_ow R (hg106 hc112).1 (hg106 hc112).2)) (dW 6 R (wnF hc112) (vp (vstr (sub form1 (w64 (x11+2)) (form1.length:Int))) R) (dW 7 R (wnF hc112) (vI R) (dW 8 R (wnF hc112) (vz (.int .u8 (bt (sub form1 (w64 (x11+2)) (form1.length:Int)) i94)) (v_sindex un9 R R (hg109 hc112).1 (hg109 hc112).2)) (d1 9 R (l_calln 0 R (wnF hc112) cb143 R (Z0t_ok (gcall_t hx111 (not_ff hc112))) R ?_))))))
 rintro _
 refine l_nil (q_draw (sL []) ?_)
 refine d2_ 10 [] ?_
 refine dD ?_
 exact qj tI
 rintro σ1
 refine o_7 ?_
 cases hr
 exact qA () tI
 refine o_3 ?_
 cases hr
 obtain rfl:=he5 _ R
 have hr:=hk5
 refine o_2 ?_
 exact qI (x103,()) hr tI
 rintro ⟨x115,_⟩ σ1 hr
 dsimp only [Z0_J7] at hr
 refine o_1 ?_
 obtain ⟨hg116,hr⟩:=gd hr
 obtain ⟨hg117,hr⟩:=gd hr
 obtain ⟨r118,hx119,hr⟩:=bd hr
 refine cQ [(5,(sc A2 ([]:List Str) D2)),(7,(sc A45 groups44 D45)),(10,(vstr (sub form1 (w64 (x11+2)) (form1.length:Int)))),(12,(iv i94)),(120,(.bool ((!x115)||r118)))] (OO kT9 9 A2 D2 ([]:List Str)::OO kT9 9 A45 D45 groups44::V) ?_ ?_
 rcases bo (!x115) with hc120 | hc120
 refine cdr 11 [] mixo fun ht hn=>?_
 refine d11_ 0 [] ?_
 refine dD ?_
 exact qj tI
 refine cdr 11 [] mixo fun ht hn=>?_
 refine d3_ 0 [] ?_
 refine dW 3 R (wnF hc120) (vp (vstr (sub form1 (w64 (x11+2)) (form1.length:Int))) R) (dW 4 R (wnF hc120) (vI R) (dW 5 R (wnF hc120) (vz (vstr (sub (sub form1 (w64 (x11+2)) (form1.length:Int)) (0:Int) i94)) (v_scut (0:Int) i94 un9 R R R (hg116 hc120).1 (hg116 hc120).2.1 (hg116 hc120).2.2)) (dW 6 R (wnF hc120) (vp (vstr (sub form1 (w64 (x11+2)) (form1.length:Int))) R) (dW 7 R (wnF hc120) (vI R) (dW 8 R (wnF hc120) (vz (.int .u8 (bt (sub form1 (w64 (x11+2)) (form1.length:Int)) i94)) (v_sindex un9 R R (hg117 hc120).1 (hg117 hc120).2)) (d1 9 R (l_calln 0 R (wnF hc120) cb143 R (Z0t_ok (gcall_t hx119 (not_ff hc120))) R ?_)))))))
 rintro _
 refine l_nil (q_draw (sL []) (dR 10 R (pOF R hc120 R) (dD ?_)))
 exact qj tI
 rintro σ1
 refine o_1 ?_
 split at hr
 refine o_5 ?_
 refine lO (vp (vstr ([]:Str)) R) ?_
 refine o_6 ?_
 cases hr
 obtain rfl:=he4 _ R
 have hr:=hk4
 refine o_3 ?_
 cases hr
 exact qT3 (A2,([]:List Str).length,D2) (tE 2 [0])
 refine o_9 ?_
 cases hr
 exact qA () tI
 refine o_3 ?_
 cases hr
 obtain rfl:=he4 _ R
 have hr:=hk4
 refine o_2 ?_
 exact qI ((),()) hr (tE 2 [1])
 rintro ⟨_,_⟩ σ1 hr
 dsimp only [Z0_J8] at hr
 refine o_3 ?_
 refine lO (vp (vstr (sub form1 (w64 (x11+2)) (form1.length:Int))) R) (lS R (lO (vp (vstr (sub form1 (w64 (x11+2)) (form1.length:Int))) R) ?_))
 refine o_4 ?_
 cases hr
 exact qT3 (A45,groups44.length,D45) tI
theorem Z2_ok  {groups1:(List Str)}{p3:Str}{dims4:(List (List Int))}{r:Str×(List Int)×Bool}(hr:Z2 groups1 p3 dims4=some r) :
 FnOk Tryz.prog 110 [(.slice A2 N2 D2),(vstr p3),(.slice A5 N5 D5)] [rds kT9 (.slice A2 N2 D2) groups1,rds kT23 (.slice A5 N5 D5) dims4] (fun (h:HH)=>((.tuple [(vstr r.1),(s3 h),(.bool r.2.2)].toArray),[ow kT3 3 (s3 h) r.2.1])):=by
 unfold Z2 at hr
 refine fn_ok Tryz.func110 R 129 R R fun C V=>?_
 refine cL 0 sees_rd ?_
 rintro rfl
 refine cL 1 sees_rd ?_
 rintro rfl
 let W0:=RR kT9 A2 D2 groups1::RR kT23 A5 D5 dims4::V
 refine cN W0 ?_
 refine o_2 ?_
 refine lO (vp (vstr ([]:Str)) R) ?_
 refine o_6 ?_
 refine lO (vp (vstr p3) R) (lO (vp (vstr p3) R) ?_)
 refine o_3 ?_
 obtain ⟨hg6,hr⟩:=gd hr
 refine c_region (lO (vp (vstr p3) R) (lO (vz (il p3) (v_slen un9 R)) (l_make (K:=kT3) (m:=(p3.length:Int)) (z:=(0:Int)) R R sl23 sz3 by3 (Zr.zk zT3 zc3) (by decide) R R hg6.1 hg6.2.1 hg6.2.2 (fun A7 D7=>(lS R (l_nil (q_next (c_seq (c_cut (A:=(Str×(List Int))×(HH)) (fun a=>Z2_J11 a.1.1 a.1.2=some r) (fun a=>[(9,(vstr a.1.1)),(10,(s3 a.2))]) (fun a=>ow kT3 3 (s3 a.2) a.1.2::W0) ?_ ?_)))))))))
 refine o_6 ?_
 obtain ⟨e1,hl1,hk1⟩:=bd hr
 refine c_loop (A:=HH×HH×HH) hl1 (fun s a=>[(0,(s3 a.1)),(2,(s3 a.2.1)),(9,(vstr s.1)),(10,(s3 a.2.2)),(11,(iv s.2.2))]) (fun s a=>rds kT9 (s3 a.1) groups1::rds kT23 (s3 a.2.1) dims4::ow kT3 3 (s3 a.2.2) s.2.1::W0) ((A2,groups1.length,D2),(A5,dims4.length,D5),(A7,(List.replicate (p3.length:Int).toNat (0:Int)).length,D7)) (aS R) (fun w s=>(((s.d 1 R).d 3 R).e 3 [1,0,2])) ?_
 rintro ⟨letters106,lengths107,k109⟩ ⟨⟨A104,N104,D104⟩,⟨A105,N105,D105⟩,⟨A108,N108,D108⟩⟩ σ1 out1 hr he1
 dsimp only [Z2_L1] at hr
 refine c_len 0 sees_rd (fun (hn:N104=groups1.length)=>?_)
 subst hn
 refine c_len 1 sees_rd (fun (hn:N105=dims4.length)=>?_)
 subst hn
 refine c_len 2 sees_ow (fun (hn:N108=lengths107.length)=>?_)
 subst hn
 refine o_9 ?_
 split at hr
 refine o_4 ?_
 refine c_cut (A:=(Str×(List Int))×(HH×HH×HH)) (fun a=>Z2_J10 k109 a.1.1 a.1.2=some out1) (fun a=>[(0,(s3 a.2.1)),(2,(s3 a.2.2.1)),(9,(vstr a.1.1)),(10,(s3 a.2.2.2)),(11,(iv k109))]) (fun a=>rds kT9 (s3 a.2.1) groups1::rds kT23 (s3 a.2.2.1) dims4::ow kT3 3 (s3 a.2.2.2) a.1.2::W0) ?_ ?_
 refine o_3 ?_
 obtain ⟨hg111,hr⟩:=gd hr
 obtain ⟨hg115,hr⟩:=gd hr
 refine c_some 1 sees_rd (show 0<dims4.length by have:=hg111; omega) (fun g112 o113 ha=>?_)
 subst ha
 refine c_elem (K:=kT23) 1 k109 dT23.dec R hg111.1 hg111.2 ?_
 rintro ⟨A114,D114⟩
 refine c_some 2 sees_rd (show 0<groups1.length by have:=hg115; omega) (fun g116 o117 ha=>?_)
 subst ha
 refine cdr 11 [] mixo fun ht hn=>?_
 refine d3_ 0 [] ?_
 refine dR 3 R (v_clf (fo:=0) 0 ag23 R R R) ?_
 refine d4_ 4 [] ?_
 refine dR 8 R (vz (vstr (ix groups1 k109)) (v_lde (K:=kT9) (fo:=0) (pr:=fun x=>(vstr x)) 2 k109 ag9 (dT9.leaf fun _ _=>R) sees_rd R hg115.1 hg115.2)) (dR 9 R (vz (il (ix groups1 k109)) (v_slen un9 R)) (dR 10 R (vNe R R) (dD (q_next ?_))))
 split at hr
 refine o_4 ?_
 refine lO (vp (vstr ([]:Str)) R) ?_
 refine o_8 ?_
 cases hr
 obtain rfl:=he1 _ R
 have hr:=hk1
 refine o_3 ?_
 cases hr
 exact qT3 (A108,lengths107.length,D108) (tE 7 [4])
 refine o_9 ?_
 obtain ⟨e2,hl2,hk2⟩:=bd hr
 refine c_loop (A:=HH) hl2 (fun s a=>[(0,(sc (ad g116 o117) groups1 D104)),(2,(sc (ad g112 o113) dims4 D105)),(9,(vstr s.1)),(10,(s3 a)),(11,(iv k109)),(12,(iv s.2.2))]) (fun s a=>RR kT9 (ad g116 o117) D104 groups1::RR kT23 (ad g112 o113) D105 dims4::ow kT3 3 (s3 a) s.2.1::W0) (A108,lengths107.length,D108) (aS R) (fun w s=>(s.f 5 [2,3])) ?_
 rintro ⟨letters155,lengths156,i158⟩ ⟨A157,N157,D157⟩ σ1 out2 hr he2
 dsimp only [Z2_L2] at hr
 refine c_len 2 sees_ow (fun (hn:N157=lengths156.length)=>?_)
 subst hn
 refine o_7 ?_
 refine lO (vz (vstr (ix groups1 k109)) (v_lde (K:=kT9) (fo:=0) (pr:=fun x=>(vstr x)) 0 k109 ag9 (dT9.leaf fun _ _=>R) sees_rd R hg115.1 hg115.2)) (lO (vz (il (ix groups1 k109)) (v_slen un9 R)) ?_)
 refine o_3 ?_
 split at hr
 refine o_11 ?_
 refine c_cut (A:=(Int)×(Unit)) (fun a=>Z2_J8 groups1 dims4 k109 letters155 lengths156 i158 a.1=some out2) (fun a=>[(0,(sc (ad g116 o117) groups1 D104)),(2,(sc (ad g112 o113) dims4 D105)),(9,(vstr letters155)),(10,(sc A157 lengths156 D157)),(11,(iv k109)),(12,(iv i158)),(13,(iv a.1))]) (fun a=>RR kT9 (ad g116 o117) D104 groups1::RR kT23 (ad g112 o113) D105 dims4::OO kT3 3 A157 D157 lengths156::W0) ?_ ?_
 refine o_1 ?_
 obtain ⟨e3,hl3,hk3⟩:=bd hr
 refine c_loop (A:=Unit) hl3 (fun s a=>[(0,(sc (ad g116 o117) groups1 D104)),(2,(sc (ad g112 o113) dims4 D105)),(9,(vstr letters155)),(10,(sc A157 lengths156 D157)),(11,(iv k109)),(12,(iv i158)),(13,(iv s))]) (fun s a=>RR kT9 (ad g116 o117) D104 groups1::RR kT23 (ad g112 o113) D105 dims4::OO kT3 3 A157 D157 lengths156::W0) () (aS R) tI ?_
 rintro x164 _ σ1 out3 hr he3
 dsimp only [Z2_L3] at hr
 refine o_2 ?_
 obtain ⟨hg165,hr⟩:=gd hr
 obtain ⟨hg166,hr⟩:=gd hr
 refine cQ [(0,(sc (ad g116 o117) groups1 D104)),(2,(sc (ad g112 o113) dims4 D105)),(9,(vstr letters155)),(10,(sc A157 lengths156 D157)),(11,(iv k109)),(12,(iv i158)),(13,(iv x164)),(62,(.bool ((decide (x164<(letters155.length:Int)))&&((bt letters155 x164) != (bt (ix groups1 k109) i158)))))] (RR kT9 (ad g116 o117) D104 groups1::RR kT23 (ad g112 o113) D105 dims4::OO kT3 3 A157 D157 lengths156::W0) ?_ ?_
 rcases bo (decide (x164<(letters155.length:Int))) with hc167 | hc167
 refine cdr 16 [] mixo fun ht hn=>?_
 refine dR 0 R (vI R) (dR 1 R (vp (vstr letters155) R) (dR 2 R (vz (il letters155) (v_slen un9 R)) ?_))
 refine d2_ 3 [] ?_
 refine dW 5 R (wnT hc167) (vp (vstr letters155) R) (dW 6 R (wnT hc167) (vI R) (dW 7 R (wnT hc167) (vz (.int .u8 (bt letters155 x164)) (v_sindex un9 R R (hg165 hc167).1 (hg165 hc167).2)) ?_))
 refine d3_ 8 [] ?_
 refine dW 11 R (wnT hc167) (vz (vstr (ix groups1 k109)) (v_lde (K:=kT9) (fo:=0) (pr:=fun x=>(vstr x)) 0 k109 ag9 (dT9.leaf fun _ _=>R) sees_rd R hg115.1 hg115.2)) (dW 12 R (wnT hc167) (vI R) (dW 13 R (wnT hc167) (vz (.int .u8 (bt (ix groups1 k109) i158)) (v_sindex un9 R R (hg166 hc167).1 (hg166 hc167).2)) (dW 14 R (wnT hc167) (vp (.bool ((bt letters155 x164) != (bt (ix groups1 k109) i158))) R) (dR 15 R (pAT R hc167 R) (dD ?_)))))
 exact qj tI
 refine cdr 16 [] mixo fun ht hn=>?_
 refine dR 0 R (vI R) (dR 1 R (vp (vstr letters155) R) (dR 2 R (vz (il letters155) (v_slen un9 R)) ?_))
 refine d13_ 3 [] ?_
 refine dD ?_
 exact qj tI
 rintro σ1
 refine o_1 ?_
 split at hr
 refine o_10 ?_
 cases hr
 exact qA () tI
 refine o_3 ?_
 cases hr
 obtain rfl:=he3 _ R
 have hr:=hk3
 refine o_2 ?_
 exact qI (x164,()) hr tI
 rintro ⟨x170,_⟩ σ1 hr
 dsimp only [Z2_J8] at hr
 refine c_seq (c_cut (A:=(Str×(List Int))×(HH)) (fun a=>Z2_J9 dims4 k109 i158 x170 a.1.1 a.1.2=some out2) (fun a=>[(0,(sc (ad g116 o117) groups1 D104)),(2,(sc (ad g112 o113) dims4 D105)),(9,(vstr a.1.1)),(10,(s3 a.2)),(11,(iv k109)),(12,(iv i158)),(13,(iv x170))]) (fun a=>RR kT9 (ad g116 o117) D104 groups1::RR kT23 (ad g112 o113) D105 dims4::ow kT3 3 (s3 a.2) a.1.2::W0) ?_ ?_)
 refine o_3 ?_
 refine lO (vp (vstr letters155) R) (lO (vz (il letters155) (v_slen un9 R)) ?_)
 refine o_3 ?_
 split at hr
 refine o_2 ?_
 obtain ⟨hg172,hr⟩:=gd hr
 obtain ⟨hg173,hr⟩:=gd hr
 refine c_region (lO (vp (vstr letters155) R) ?_)
 refine o_3 ?_
 refine lO (vz (vstr (ix groups1 k109)) (v_lde (K:=kT9) (fo:=0) (pr:=fun x=>(vstr x)) 0 k109 ag9 (dT9.leaf fun _ _=>R) sees_rd R hg115.1 hg115.2)) ?_
 refine o_3 ?_
 refine lO (vz (vstr (sub (ix groups1 k109) i158 (w64 (i158+1)))) (v_scut i158 (w64 (i158+1)) un9 R R R hg172.1 hg172.2.1 hg172.2.2)) (lO (vz (vstr (letters155++(sub (ix groups1 k109) i158 (w64 (i158+1))))) (v_scat R R hg173)) (lO (vp (vstr (letters155++(sub (ix groups1 k109) i158 (w64 (i158+1))))) R) ?_))
 refine o_2 ?_
 obtain ⟨hg175,hr⟩:=gd hr
 refine o_2 ?_
 refine l_build (K:=kT3) (xs:=([(0:Int)]:List Int)) (vs:=[(iv 0)]) 0 R R sl23 sz3 zc3 R R R R R R ?_ R (fun A174 D174=>?_)
 exact fun I h s=>(mO3).list [((),(0:Int))] I h s
 refine lM _ (tE 4 [3,0,1,2]) ?_
 refine l_app (K:=kT3) 17592186044416 R R sl23 sz3 by3 (Zr.zk zT3 zc3) R R R R R R src_ow hg175 (fun A176 D176=>(lN (OO kT3 3 A176 D176 (lengths156++([(0:Int)]:List Int))::_::_::W0) ?_))
 refine o_2 ?_
 exact qI (((letters155++(sub (ix groups1 k109) i158 (w64 (i158+1)))),(lengths156++([(0:Int)]:List Int))),(A176,(lengths156++([(0:Int)]:List Int)).length,D176)) hr (tE 3 [1,2,0])
 refine o_2 ?_
 exact qI ((letters155,lengths156),(A157,lengths156.length,D157)) hr tI
 rintro ⟨⟨letters177,lengths178⟩,⟨A179,N179,D179⟩⟩ σ1 hr
 dsimp only [Z2_J9] at hr
 refine c_len 2 sees_ow (fun (hn:N179=lengths178.length)=>?_)
 subst hn
 refine o_2 ?_
 obtain ⟨hg180,hr⟩:=gd hr
 obtain ⟨hg184,hr⟩:=gd hr
 refine cQ [(0,(sc (ad g116 o117) groups1 D104)),(2,(sc (ad g112 o113) dims4 D105)),(9,(vstr letters177)),(10,(sc A179 lengths178 D179)),(11,(iv k109)),(12,(iv i158)),(13,(iv x170)),(100,(.bool (((ix lengths178 x170) != 0)&&((ix lengths178 x170) != (ix (ix dims4 k109) i158)))))] (RR kT9 (ad g116 o117) D104 groups1::RR kT23 (ad g112 o113) D105 dims4::OO kT3 3 A179 D179 lengths178::W0) ?_ ?_
 rcases bo ((ix lengths178 x170) != 0) with hc187 | hc187
 refine c_some 2 sees_ow (show 0<lengths178.length by have:=hg180; omega) (fun g181 o182 ha=>?_)
 subst ha
 refine c_elem (K:=kT23) 1 k109 dT23.dec R hg111.1 hg111.2 ?_
 rintro ⟨A183,D183⟩
 refine c_some 1 sees_rd (show 0<(ix dims4 k109).length by have:=(hg184 hc187); omega) (fun g185 o186 ha=>?_)
 subst ha
 refine cdr 19 [] mixo fun ht hn=>?_
 refine d13_ 0 [] ?_
 refine dW 13 R (wnT hc187) (v_clf (fo:=0) 0 ag23 R R R) (dW 14 R (wnT hc187) (vI R) (dW 15 R (wnT hc187) (vIa sl23 sz3 R R (hg184 hc187)) (dW 16 R (wnT hc187) (vLi 1 ag3 sees_rd R (hg184 hc187)) ?_)))
 refine d2_ 17 [] ?_
 refine dD ?_
 exact qj (fun w s=>(s.f 5 [2,3]))
 refine c_some 2 sees_ow (show 0<lengths178.length by have:=hg180; omega) (fun g181 o182 ha=>?_)
 subst ha
 refine cdr 19 [] mixo fun ht hn=>?_
 refine d19_ 0 [] ?_
 refine dD ?_
 exact qj tI
 rintro σ1
 refine o_1 ?_
 split at hr
 refine o_4 ?_
 refine lO (vp (vstr ([]:Str)) R) ?_
 refine o_8 ?_
 cases hr
 obtain rfl:=he2 _ R
 have hr:=hk2
 refine o_4 ?_
 cases hr
 obtain rfl:=he1 _ R
 have hr:=hk1
 refine o_3 ?_
 cases hr
 exact qT3 (A179,lengths178.length,D179) (tE 5 [2])
 refine o_3 ?_
 obtain ⟨hg190,hr⟩:=gd hr
 refine o_6 ?_
 refine t_elem (K:=kT23) 1 k109 dT23.dec R hg111.1 hg111.2 ?_
 rintro ⟨A189,D189⟩
 refine lO (v_clf (fo:=0) 0 ag23 R R R) (lI R (t_some 1 sees_rd (show 0<(ix dims4 k109).length by have:=hg190; omega) (fun g191 o192 ha=>?_)))
 subst ha
 refine o_2 ?_
 refine t_some 4 sees_ow (show 0<lengths178.length by have:=hg180; omega) (fun g193 o194 ha=>?_)
 subst ha
 refine o_1 ?_
 refine lM _ (fun w s=>(s.f 5 [4,1,0,4])) ?_
 refine l_stx (K:=kT3) (x':=(ix (ix dims4 k109) i158)) 0 x170 R R sz3 R R hg180.1 hg180.2 ?_ ?_
 exact fun I h s=>(mO3).put I h () (ix (ix dims4 k109) i158) s
 refine o_8 ?_
 cases hr
 exact qA ((ad g193 o194),lengths178.length,D179) (tE 5 [3,4,0])
 refine o_3 ?_
 cases hr
 obtain rfl:=he2 _ R
 have hr:=hk2
 refine o_3 ?_
 exact qI ((letters155,lengths156),(((ad g116 o117),groups1.length,D104),((ad g112 o113),dims4.length,D105),(A157,lengths156.length,D157))) hr tI
 rintro ⟨⟨letters201,lengths202⟩,⟨⟨A199,N199,D199⟩,⟨A200,N200,D200⟩,⟨A203,N203,D203⟩⟩⟩ σ1 hr
 dsimp only [Z2_J10] at hr
 refine c_len 0 sees_rd (fun (hn:N199=groups1.length)=>?_)
 subst hn
 refine c_len 1 sees_rd (fun (hn:N200=dims4.length)=>?_)
 subst hn
 refine c_len 2 sees_ow (fun (hn:N203=lengths202.length)=>?_)
 subst hn
 refine o_5 ?_
 cases hr
 exact qA ((A199,groups1.length,D199),(A200,dims4.length,D200),(A203,lengths202.length,D203)) tI
 refine o_3 ?_
 cases hr
 obtain rfl:=he1 _ R
 have hr:=hk1
 refine o_2 ?_
 exact qI ((letters106,lengths107),(A108,lengths107.length,D108)) hr (tE 3 [2])
 rintro ⟨⟨letters210,lengths211⟩,⟨A212,N212,D212⟩⟩ σ1 hr
 dsimp only [Z2_J11] at hr
 refine c_len 0 sees_ow (fun (hn:N212=lengths211.length)=>?_)
 subst hn
 refine o_6 ?_
 refine c_cut (A:=(Unit)×(Unit)) (fun a=>Z2_J12 letters210 lengths211=some r) (fun a=>[(9,(vstr letters210)),(10,(sc A212 lengths211 D212))]) (fun a=>OO kT3 3 A212 D212 lengths211::W0) ?_ ?_
 refine o_6 ?_
 obtain ⟨e4,hl4,hk4⟩:=bd hr
 refine c_loop (A:=Unit) hl4 (fun s a=>[(9,(vstr letters210)),(10,(sc A212 lengths211 D212)),(14,(iv s.1)),(15,(iv s.2))]) (fun s a=>OO kT3 3 A212 D212 lengths211::W0) () (aS R) tI ?_
 rintro ⟨work218,i219⟩ _ σ1 out4 hr he4
 dsimp only [Z2_L4] at hr
 refine o_9 ?_
 split at hr
 refine o_6 ?_
 obtain ⟨hg221,hr⟩:=gd hr
 refine o_4 ?_
 refine t_some 0 sees_ow (show 0<lengths211.length by have:=hg221; omega) (fun g222 o223 ha=>?_)
 subst ha
 refine o_12 ?_
 split at hr
 refine o_4 ?_
 refine lO (vp (vstr ([]:Str)) R) ?_
 refine o_7 ?_
 cases hr
 obtain rfl:=he4 _ R
 have hr:=hk4
 refine o_3 ?_
 cases hr
 exact qT3 ((ad g222 o223),lengths211.length,D212) (tE 3 [0])
 refine o_9 ?_
 cases hr
 exact qA () tI
 refine o_3 ?_
 cases hr
 obtain rfl:=he4 _ R
 have hr:=hk4
 refine o_2 ?_
 exact qI ((),()) hr tI
 rintro ⟨_,_⟩ σ1 hr
 dsimp only [Z2_J12] at hr
 refine o_2 ?_
 refine lO (vp (vstr letters210) R) (lS R (lO (vp (vstr letters210) R) ?_))
 refine o_5 ?_
 cases hr
 exact qT3 (A212,lengths211.length,D212) (tE 3 [0])
theorem Ze_ok  {group1:Str}{letters2:Str}{values3:(List Int)}{r:(List Int)}(hr:Ze group1 letters2 values3=some r) :
 FnOk Tryz.prog 113 [(vstr group1),(vstr letters2),(.slice A4 N4 D4)] [rds kT3 (.slice A4 N4 D4) values3] (fun (h:HH)=>((.slice h.1 h.2.1 h.2.2),[ow kT3 3 (.slice h.1 h.2.1 h.2.2) r])):=by
 unfold Ze at hr
 refine fn_ok Tryz.func113 R 38 R R fun C V=>?_
 refine cN (_::V) ?_
 refine cL 0 sees_rd ?_
 rintro rfl
 let W0:List HP:=RR kT3 A4 D4 values3::V
 refine cN W0 ?_
 refine c_seq (c_region (lS R (l_nil (q_next (c_seq (c_region (l_build (K:=kT3) (xs:=([]:List Int)) (vs:=[]) 0 R R sl23 sz3 zc3 R R R R R R ?_ R (fun A5 D5=>?_))))))))
 exact fun I h s=>(mO3).list [] I h s
 refine lN (OO kT3 3 A5 D5 ([]:List Int)::W0) ?_
 refine lS R (l_nil (q_next (c_seq (c_cut (A:=((List Int))×(HH)) (fun a=>Ze_J7 a.1=some r) (fun a=>[(7,(.slice a.2.1 a.2.2.1 a.2.2.2))]) (fun a=>ow kT3 3 (.slice a.2.1 a.2.2.1 a.2.2.2) a.1::W0) ?_ ?_))))
 refine c_seq (c_region (lI R (l_nil (q_next (c_block ?_)))))
 obtain ⟨e1,hl1,hk1⟩:=bd hr
 refine c_loop (A:=HH) hl1 (fun s a=>[(0,(vstr group1)),(1,(vstr letters2)),(2,(sc A4 values3 D4)),(7,(.slice a.1 a.2.1 a.2.2)),(8,(iv s.2))]) (fun s a=>ow kT3 3 (.slice a.1 a.2.1 a.2.2) s.1::W0) (A5,([]:List Int).length,D5) (aS R) (fun w s=>s) ?_
 rintro ⟨x39,i41⟩ ⟨A40,N40,D40⟩ σ1 out1 hr he1
 replace hr:Ze_L1 group1 letters2 values3 x39 i41=some out1:=hr
 unfold Ze_L1 at hr
 refine c_len 0 sees_ow (fun (hn:N40=x39.length)=>?_)
 subst hn
 refine c_seq (c_seq (c_region (lI R (lO (vp (vstr group1) R) (lO (vz (il group1) (v_slen un9 R)) (lO (vLt R R) (l_nil (q_next ?_))))))))
 rcases bif_ hr with ⟨hb42,hr⟩|⟨hb42,hr⟩
 refine c_true R hb42 (c_skip (q_next (c_seq (c_cut (A:=((List Int))×(HH)) (fun a=>Ze_J6 i41 a.1=some out1) (fun a=>[(0,(vstr group1)),(1,(vstr letters2)),(2,(sc A4 values3 D4)),(7,(.slice a.2.1 a.2.2.1 a.2.2.2)),(8,(iv i41))]) (fun a=>ow kT3 3 (.slice a.2.1 a.2.2.1 a.2.2.2) a.1::W0) ?_ ?_))))
 refine c_block (c_seq (c_region (lI R (l_nil (q_next (c_block ?_))))))
 obtain ⟨e2,hl2,hk2⟩:=bd hr
 refine c_loop (A:=HH) hl2 (fun s a=>[(0,(vstr group1)),(1,(vstr letters2)),(2,(sc A4 values3 D4)),(7,(.slice a.1 a.2.1 a.2.2)),(8,(iv i41)),(9,(iv s.2))]) (fun s a=>ow kT3 3 (.slice a.1 a.2.1 a.2.2) s.1::W0) (A40,x39.length,D40) (aS R) (fun w s=>s) ?_
 rintro ⟨x55,k57⟩ ⟨A56,N56,D56⟩ σ1 out2 hr he2
 replace hr:Ze_L2 group1 letters2 values3 i41 x55 k57=some out2:=hr
 unfold Ze_L2 at hr
 refine c_len 0 sees_ow (fun (hn:N56=x55.length)=>?_)
 subst hn
 refine c_seq (c_seq (c_region (lI R (lO (vp (vstr letters2) R) (lO (vz (il letters2) (v_slen un9 R)) (lO (vLt R R) (l_nil (q_next ?_))))))))
 rcases bif_ hr with ⟨hb58,hr⟩|⟨hb58,hr⟩
 refine c_true R hb58 (c_skip (q_next (c_seq (c_cut (A:=((List Int))×(HH)) (fun a=>Ze_J5 k57 a.1=some out2) (fun a=>[(0,(vstr group1)),(1,(vstr letters2)),(2,(sc A4 values3 D4)),(7,(.slice a.2.1 a.2.2.1 a.2.2.2)),(8,(iv i41)),(9,(iv k57))]) (fun a=>ow kT3 3 (.slice a.2.1 a.2.2.1 a.2.2.2) a.1::W0) ?_ ?_))))
 refine c_block (c_seq ?_)
 obtain ⟨hg59,hr⟩:=gd hr
 obtain ⟨hg60,hr⟩:=gd hr
 refine cdr 7 [] mixo (fun ht hn=>(dR 0 R (vp (vstr letters2) R) (dR 1 R (vI R) (dR 2 R (vz (.int .u8 (bt letters2 k57)) (v_sindex un9 R R hg59.1 hg59.2)) (dR 3 R (vp (vstr group1) R) (dR 4 R (vI R) (dR 5 R (vz (.int .u8 (bt group1 i41)) (v_sindex un9 R R hg60.1 hg60.2)) (dR 6 R (vp (.bool ((bt letters2 k57)==(bt group1 i41))) R) (dD (q_next ?_))))))))))
 rcases bif_ hr with ⟨hb61,hr⟩|⟨hb61,hr⟩
 refine c_true R hb61 ?_
 obtain ⟨hg62,hr⟩:=gd hr
 obtain ⟨hg66,hr⟩:=gd hr
 refine c_region (lS R (lS R (lI R (t_some 1 sees_rd (show 0<values3.length by have:=hg62; omega) (fun g63 o64 ha=>?_)))))
 subst ha
 refine lO (vIa sl23 sz3 R R hg62) (lO (vLi 1 ag3 sees_rd R hg62) (l_build (K:=kT3) (xs:=([(ix values3 k57)]:List Int)) (vs:=[(iv (ix values3 k57))]) 0 R R sl23 sz3 zc3 R R R R R R ?_ R (fun A65 D65=>?_)))
 exact fun I h s=>(mO3).list [((),(ix values3 k57))] I h s
 refine lN (OO kT3 3 A65 D65 ([(ix values3 k57)]:List Int)::OO kT3 3 A56 D56 x55::W0) ?_
 refine lM (ow _ _ _ _::ow _ _ _ _::W0) (fun w s=>(s.e 2 [1,0])) ?_
 refine l_app (K:=kT3) 17592186044416 R R sl23 sz3 by3 (Zr.zk zT3 zc3) R R R R R R src_ow hg66 (fun A67 D67=>(lN (OO kT3 3 A67 D67 (x55++([(ix values3 k57)]:List Int))::W0) ?_))
 refine lS R (l_nil (q_blockn ?_))
 exact qI ((x55++([(ix values3 k57)]:List Int)),(A67,(x55++([(ix values3 k57)]:List Int)).length,D67)) hr (fun w s=>s)
 refine c_false R hb61 (c_skip (q_blockn ?_))
 exact qI (x55,(A56,x55.length,D56)) hr (fun w s=>s)
 rintro ⟨x68,⟨A69,N69,D69⟩⟩ σ1 hr
 replace hr:Ze_J5 k57 x68=some out2:=hr
 unfold Ze_J5 at hr
 refine c_len 0 sees_ow (fun (hn:N69=x68.length)=>?_)
 subst hn
 refine c_region (lI R (lO (vAd R R) (lI R (l_nil ?_))))
 obtain rfl:=so hr
 exact qA (A69,x68.length,D69) (fun w s=>s)
 refine c_false R hb58 (c_exit (q_exit ?_))
 obtain rfl:=so hr
 obtain rfl:=he2 _ R
 have hr:=hk2
 refine q_exit (q_block (q_blockn ?_))
 exact qI (x55,(A56,x55.length,D56)) hr (fun w s=>s)
 rintro ⟨x73,⟨A74,N74,D74⟩⟩ σ1 hr
 replace hr:Ze_J6 i41 x73=some out1:=hr
 unfold Ze_J6 at hr
 refine c_len 0 sees_ow (fun (hn:N74=x73.length)=>?_)
 subst hn
 refine c_region (lI R (lO (vAd R R) (lI R (l_nil ?_))))
 obtain rfl:=so hr
 exact qA (A74,x73.length,D74) (fun w s=>s)
 refine c_false R hb42 (c_exit (q_exit ?_))
 obtain rfl:=so hr
 obtain rfl:=he1 _ R
 have hr:=hk1
 refine q_exit (q_block ?_)
 exact qI (x39,(A40,x39.length,D40)) hr (fun w s=>s)
 rintro ⟨x78,⟨A79,N79,D79⟩⟩ σ1 hr
 replace hr:Ze_J7 x78=some r:=hr
 unfold Ze_J7 at hr
 refine c_len 0 sees_ow (fun (hn:N79=x78.length)=>?_)
 subst hn
 refine c_seq (c_region (lS R (lS R (l_nil (q_next (c_ret ?_))))))
 obtain rfl:=so hr
 exact qF (A79,x78.length,D79) (fun w s=>(s.e 2 [0]))
end Go.Proofs.YtmpnollfdpdipaaGreat
