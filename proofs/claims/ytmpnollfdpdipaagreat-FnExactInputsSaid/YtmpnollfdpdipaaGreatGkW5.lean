import Derived.Test.YtmpnollfdpdipaaGreatGkF
import Derived.Test.YtmpnollfdpdipaaGreatGkW1
set_option linter.unusedVariables false
set_option maxRecDepth 20000
namespace Go.Proofs.YtmpnollfdpdipaaGreat
open Go Go.Pg
variable {A2 A3 A4 A5 A6 A8 A9:Option Addr}{D2 D3 D4 D5 D6 D8 D9 N2 N3 N4 N5 N6 N8 N9:Nat}
theorem Z37_ok  {least1:Int}{most2:Int}{r:Int×Int}(hr:Z37 least1 most2=some r) :
 FnOk Tryz.prog 126 [(iv least1),(iv most2),(.func (.func 127) [].toArray [].toArray)] [] (fun (h:Nat×Nat×Nat)=>((.func (.func 149) [].toArray [(pt h.1 0),(pt h.2.1 0),(pt h.2.2 0)].toArray),[bxl h.1 [(iv r.1)] 3,bxl h.2.1 [(iv r.2)] 3,bxl h.2.2 [(.func (.func 127) [].toArray [].toArray)] 150])):=by
 unfold Z37 at hr
 refine fn_ok Tryz.func126 R 8 R R fun C V=>?_
 refine cN V ?_
 refine o_2 ?_
 refine l_box (cs:=[(iv least1)]) R R R (fun b4=>(l_box (cs:=[(iv most2)]) R R R (fun b5=>(l_box (cs:=[(.func (.func 127) [].toArray [].toArray)]) R R R (fun b6=>(lO (vp _ R) (l_nil ?_)))))))
 let W1:=bxl b6 [(.func (.func 127) [].toArray [].toArray)] 150::bxl b5 [(iv most2)] 3::bxl b4 [(iv least1)] 3::V
 refine qN W1 ?_
 refine o_3 ?_
 refine lO (vp (.func (.func 149) [].toArray [(pt b4 0),(pt b5 0),(pt b6 0)].toArray) R) (lO (vp _ R) ?_)
 refine o_3 ?_
 cases hr
 exact qF (b4,b5,b6) (tE 3 [2,1,0])
theorem Z38_ok  {least1:Int}{most2:Int}{r:Int×Int}(hr:Z38 least1 most2=some r) :
 FnOk Tryz.prog 126 [(iv least1),(iv most2),(.func (.func 129) [].toArray [].toArray)] [] (fun (h:Nat×Nat×Nat)=>((.func (.func 149) [].toArray [(pt h.1 0),(pt h.2.1 0),(pt h.2.2 0)].toArray),[bxl h.1 [(iv r.1)] 3,bxl h.2.1 [(iv r.2)] 3,bxl h.2.2 [(.func (.func 129) [].toArray [].toArray)] 150])):=by
 unfold Z38 at hr
 refine fn_ok Tryz.func126 R 8 R R fun C V=>?_
 refine cN V ?_
 refine o_2 ?_
 refine l_box (cs:=[(iv least1)]) R R R (fun b4=>(l_box (cs:=[(iv most2)]) R R R (fun b5=>(l_box (cs:=[(.func (.func 129) [].toArray [].toArray)]) R R R (fun b6=>(lO (vp _ R) (l_nil ?_)))))))
 let W1:=bxl b6 [(.func (.func 129) [].toArray [].toArray)] 150::bxl b5 [(iv most2)] 3::bxl b4 [(iv least1)] 3::V
 refine qN W1 ?_
 refine o_3 ?_
 refine lO (vp (.func (.func 149) [].toArray [(pt b4 0),(pt b5 0),(pt b6 0)].toArray) R) (lO (vp _ R) ?_)
 refine o_3 ?_
 cases hr
 exact qF (b4,b5,b6) (tE 3 [2,1,0])
theorem Z39_ok  {least1:Int}{most2:Int}{r:Int×Int}(hr:Z39 least1 most2=some r) :
 FnOk Tryz.prog 126 [(iv least1),(iv most2),(.func (.func 131) [].toArray [].toArray)] [] (fun (h:Nat×Nat×Nat)=>((.func (.func 149) [].toArray [(pt h.1 0),(pt h.2.1 0),(pt h.2.2 0)].toArray),[bxl h.1 [(iv r.1)] 3,bxl h.2.1 [(iv r.2)] 3,bxl h.2.2 [(.func (.func 131) [].toArray [].toArray)] 150])):=by
 unfold Z39 at hr
 refine fn_ok Tryz.func126 R 8 R R fun C V=>?_
 refine cN V ?_
 refine o_2 ?_
 refine l_box (cs:=[(iv least1)]) R R R (fun b4=>(l_box (cs:=[(iv most2)]) R R R (fun b5=>(l_box (cs:=[(.func (.func 131) [].toArray [].toArray)]) R R R (fun b6=>(lO (vp _ R) (l_nil ?_)))))))
 let W1:=bxl b6 [(.func (.func 131) [].toArray [].toArray)] 150::bxl b5 [(iv most2)] 3::bxl b4 [(iv least1)] 3::V
 refine qN W1 ?_
 refine o_3 ?_
 refine lO (vp (.func (.func 149) [].toArray [(pt b4 0),(pt b5 0),(pt b6 0)].toArray) R) (lO (vp _ R) ?_)
 refine o_3 ?_
 cases hr
 exact qF (b4,b5,b6) (tE 3 [2,1,0])
theorem Z3a_ok  {least1:Int}{most2:Int}{r:Int×Int}(hr:Z3a least1 most2=some r) :
 FnOk Tryz.prog 126 [(iv least1),(iv most2),(.func (.func 133) [].toArray [].toArray)] [] (fun (h:Nat×Nat×Nat)=>((.func (.func 149) [].toArray [(pt h.1 0),(pt h.2.1 0),(pt h.2.2 0)].toArray),[bxl h.1 [(iv r.1)] 3,bxl h.2.1 [(iv r.2)] 3,bxl h.2.2 [(.func (.func 133) [].toArray [].toArray)] 150])):=by
 unfold Z3a at hr
 refine fn_ok Tryz.func126 R 8 R R fun C V=>?_
 refine cN V ?_
 refine o_2 ?_
 refine l_box (cs:=[(iv least1)]) R R R (fun b4=>(l_box (cs:=[(iv most2)]) R R R (fun b5=>(l_box (cs:=[(.func (.func 133) [].toArray [].toArray)]) R R R (fun b6=>(lO (vp _ R) (l_nil ?_)))))))
 let W1:=bxl b6 [(.func (.func 133) [].toArray [].toArray)] 150::bxl b5 [(iv most2)] 3::bxl b4 [(iv least1)] 3::V
 refine qN W1 ?_
 refine o_3 ?_
 refine lO (vp (.func (.func 149) [].toArray [(pt b4 0),(pt b5 0),(pt b6 0)].toArray) R) (lO (vp _ R) ?_)
 refine o_3 ?_
 cases hr
 exact qF (b4,b5,b6) (tE 3 [2,1,0])
theorem Zw_ok  {op1:Int}{r:kindOfR}(hr:Zw op1=some r) :
 FnOk Tryz.prog 96 [(iv op1)] [] (fun (h:Nat×Nat×Nat)=>((kindOfRV r (h.1,h.2.1,h.2.2)),[kindOfRE r (h.1,h.2.1,h.2.2)])):=by
 unfold Zw at hr
 refine fn_ok Tryz.func96 R 72 R R fun C V=>?_
 refine cN V ?_
 refine o_2 ?_
 refine lO (vp _ R) ?_
 refine o_15 ?_
 split at hr
 refine o_3 ?_
 refine lO (vz (.agg [(.bool false)].toArray) (v_build pl136 zc136 R R)) (lO (vz (.iface 136 (.agg [(.bool false)].toArray)) (v_mki cc136 R)) (lO (vp _ R) ?_))
 refine o_5 ?_
 cases hr
 exact qF (0,0,0) (fun w s=>St.pack (A:=[]) s)
 refine o_7 ?_
 split at hr
 refine o_3 ?_
 refine lO (vz (.agg [(.bool true)].toArray) (v_build pl136 zc136 R R)) (lO (vz (.iface 136 (.agg [(.bool true)].toArray)) (v_mki cc136 R)) (lO (vp _ R) ?_))
 refine o_5 ?_
 cases hr
 exact qF (0,0,0) (fun w s=>St.pack (A:=[]) s)
 refine o_2 ?_
 refine c_cut (A:=(Bool)×(Unit)) (fun a=>Zw_J1 op1 a.1=some r) (fun a=>[(0,(iv op1)),(3,(iv op1)),(12,(.bool a.1))]) (fun a=>V) ?_ ?_
 refine o_6 ?_
 split at hr
 refine o_2 ?_
 exact qI ((op1==3),()) hr tI
 refine o_7 ?_
 split at hr
 refine o_2 ?_
 exact qI ((op1==4),()) hr tI
 refine o_5 ?_
 exact qI ((op1==5),()) hr tI
 rintro ⟨x6,_⟩ σ1 hr
 dsimp only [Zw_J1] at hr
 split at hr
 refine o_6 ?_
 refine lO (vz (.agg [(iv (w64 ((w64 (op1 - 3))+1)))].toArray) (v_build pl138 zc138 R R)) (lO (vz (.iface 138 (.agg [(iv (w64 ((w64 (op1 - 3))+1)))].toArray)) (v_mki cc138 R)) (lO (vp _ R) ?_))
 refine o_5 ?_
 cases hr
 exact qF (0,0,0) (fun w s=>St.pack (A:=[]) s)
 refine o_2 ?_
 refine c_cut (A:=(Bool)×(Unit)) (fun a=>Zw_J2 op1 a.1=some r) (fun a=>[(0,(iv op1)),(3,(iv op1)),(21,(.bool a.1))]) (fun a=>V) ?_ ?_
 refine o_6 ?_
 split at hr
 refine o_2 ?_
 exact qI ((op1==6),()) hr tI
 refine o_7 ?_
 split at hr
 refine o_2 ?_
 exact qI ((op1==7),()) hr tI
 refine o_7 ?_
 split at hr
 refine o_2 ?_
 exact qI ((op1==8),()) hr tI
 refine o_5 ?_
 exact qI ((op1==9),()) hr tI
 rintro ⟨x11,_⟩ σ1 hr
 dsimp only [Zw_J2] at hr
 split at hr
 refine o_6 ?_
 refine lO (vz (.agg [(iv (w64 ((w64 (op1 - 6))+1)))].toArray) (v_build pl139 zc139 R R)) (lO (vz (.iface 139 (.agg [(iv (w64 ((w64 (op1 - 6))+1)))].toArray)) (v_mki cc139 R)) (lO (vp _ R) ?_))
 refine o_5 ?_
 cases hr
 exact qF (0,0,0) (fun w s=>St.pack (A:=[]) s)
 refine o_7 ?_
 split at hr
 refine o_3 ?_
 refine lO (vz (.agg [].toArray) (v_build pl141 zc141 R R)) (lO (vz (.iface 141 (.agg [].toArray)) (v_mki cc141 R)) (lO (vp _ R) ?_))
 refine o_5 ?_
 cases hr
 exact qF (0,0,0) (fun w s=>St.pack (A:=[]) s)
 refine o_7 ?_
 split at hr
 refine o_3 ?_
 refine lO (vz (.agg [].toArray) (v_build pl142 zc142 R R)) (lO (vz (.iface 142 (.agg [].toArray)) (v_mki cc142 R)) (lO (vp _ R) ?_))
 refine o_5 ?_
 cases hr
 exact qF (0,0,0) (fun w s=>St.pack (A:=[]) s)
 refine o_7 ?_
 split at hr
 refine o_3 ?_
 refine lO (vz (.agg [(vstr str1),(.func (.func 124) [].toArray [].toArray)].toArray) (v_build pl145 zc145 R R)) (lO (vz (.iface 145 (.agg [(vstr str1),(.func (.func 124) [].toArray [].toArray)].toArray)) (v_mki cc145 R)) (lO (vp _ R) ?_))
 refine o_5 ?_
 cases hr
 exact qF (0,0,0) (fun w s=>St.pack (A:=[]) s)
 refine o_7 ?_
 split at hr
 refine o_3 ?_
 refine lO (vz (.agg [(vstr str1),(.func (.func 125) [].toArray [].toArray)].toArray) (v_build pl145 zc145 R R)) (lO (vz (.iface 145 (.agg [(vstr str1),(.func (.func 125) [].toArray [].toArray)].toArray)) (v_mki cc145 R)) (lO (vp _ R) ?_))
 refine o_5 ?_
 cases hr
 exact qF (0,0,0) (fun w s=>St.pack (A:=[]) s)
 refine o_2 ?_
 refine c_cut (A:=(Bool)×(Unit)) (fun a=>Zw_J3 op1 a.1=some r) (fun a=>[(3,(iv op1)),(47,(.bool a.1))]) (fun a=>V) ?_ ?_
 refine o_6 ?_
 split at hr
 refine o_2 ?_
 exact qI ((op1==14),()) hr tI
 refine o_5 ?_
 exact qI ((op1==18),()) hr tI
 rintro ⟨x18,_⟩ σ1 hr
 dsimp only [Zw_J3] at hr
 split at hr
 refine o_3 ?_
 refine lO (vz (.agg [(vstr str2),(.func (.func 124) [].toArray [].toArray)].toArray) (v_build pl145 zc145 R R)) (lO (vz (.iface 145 (.agg [(vstr str2),(.func (.func 124) [].toArray [].toArray)].toArray)) (v_mki cc145 R)) (lO (vp _ R) ?_))
 refine o_5 ?_
 cases hr
 exact qF (0,0,0) (fun w s=>St.pack (A:=[]) s)
 refine o_7 ?_
 split at hr
 refine o_2 ?_
 obtain ⟨r21,hx22,hr⟩:=bd hr
 refine c_region (lC 0 cb126 R (Z37_ok hx22) R ?_)
 rintro ⟨b23,b24,b25⟩
 refine lO (vz (.agg [(vstr str2),(.func (.func 149) [].toArray [(pt b23 0),(pt b24 0),(pt b25 0)].toArray)].toArray) (v_build pl145 zc145 R R)) (lO (vz (.iface 145 (.agg [(vstr str2),(.func (.func 149) [].toArray [(pt b23 0),(pt b24 0),(pt b25 0)].toArray)].toArray)) (v_mki cc145 R)) (lO (vp _ R) ?_))
 refine o_5 ?_
 cases hr
 exact qF (b23,b24,b25) (fun w s=>St.pack (A:=[bxl b23 [(iv r21.1)] 3,bxl b24 [(iv r21.2)] 3,bxl b25 [(.func (.func 127) [].toArray [].toArray)] 150]) s)
 refine o_7 ?_
 split at hr
 refine o_2 ?_
 obtain ⟨r27,hx28,hr⟩:=bd hr
 refine c_region (lC 0 cb126 R (Z38_ok hx28) R ?_)
 rintro ⟨b29,b30,b31⟩
 refine lO (vz (.agg [(vstr str2),(.func (.func 149) [].toArray [(pt b29 0),(pt b30 0),(pt b31 0)].toArray)].toArray) (v_build pl145 zc145 R R)) (lO (vz (.iface 145 (.agg [(vstr str2),(.func (.func 149) [].toArray [(pt b29 0),(pt b30 0),(pt b31 0)].toArray)].toArray)) (v_mki cc145 R)) (lO (vp _ R) ?_))
 refine o_5 ?_
 cases hr
 exact qF (b29,b30,b31) (fun w s=>St.pack (A:=[bxl b29 [(iv r27.1)] 3,bxl b30 [(iv r27.2)] 3,bxl b31 [(.func (.func 129) [].toArray [].toArray)] 150]) s)
 refine o_7 ?_
 split at hr
 refine o_2 ?_
 obtain ⟨r33,hx34,hr⟩:=bd hr
 refine c_region (lC 0 cb126 R (Z39_ok hx34) R ?_)
 rintro ⟨b35,b36,b37⟩
 refine lO (vz (.agg [(vstr str2),(.func (.func 149) [].toArray [(pt b35 0),(pt b36 0),(pt b37 0)].toArray)].toArray) (v_build pl145 zc145 R R)) (lO (vz (.iface 145 (.agg [(vstr str2),(.func (.func 149) [].toArray [(pt b35 0),(pt b36 0),(pt b37 0)].toArray)].toArray)) (v_mki cc145 R)) (lO (vp _ R) ?_))
 refine o_5 ?_
 cases hr
 exact qF (b35,b36,b37) (fun w s=>St.pack (A:=[bxl b35 [(iv r33.1)] 3,bxl b36 [(iv r33.2)] 3,bxl b37 [(.func (.func 131) [].toArray [].toArray)] 150]) s)
 refine o_7 ?_
 split at hr
 refine o_2 ?_
 obtain ⟨r39,hx40,hr⟩:=bd hr
 refine c_region (lC 0 cb126 R (Z3a_ok hx40) R ?_)
 rintro ⟨b41,b42,b43⟩
 refine lO (vz (.agg [(vstr str2),(.func (.func 149) [].toArray [(pt b41 0),(pt b42 0),(pt b43 0)].toArray)].toArray) (v_build pl145 zc145 R R)) (lO (vz (.iface 145 (.agg [(vstr str2),(.func (.func 149) [].toArray [(pt b41 0),(pt b42 0),(pt b43 0)].toArray)].toArray)) (v_mki cc145 R)) (lO (vp _ R) ?_))
 refine o_5 ?_
 cases hr
 exact qF (b41,b42,b43) (fun w s=>St.pack (A:=[bxl b41 [(iv r39.1)] 3,bxl b42 [(iv r39.2)] 3,bxl b43 [(.func (.func 133) [].toArray [].toArray)] 150]) s)
 refine o_6 ?_
 refine lO (vp _ R) ?_
 refine o_3 ?_
 cases hr
 exact qF (0,0,0) (fun w s=>St.pack (A:=[]) s)
theorem Z3c_ok  {k1:leafKind}{r:Str}(hr:Z3c k1=some r) :
 FnOk Tryz.prog 193 [(.agg [(.bool k1.data)].toArray)] [] (fun (h:Unit)=>((vstr r),[])):=by
 unfold Z3c at hr
 refine fn_ok Tryz.func193 R 5 R R fun C V=>?_
 refine cN V ?_
 refine o_2 ?_
 refine lBx R fun b2=>?_
 refine lO (vp (vstr ([]:Str)) R) (l_nil ?_)
 let W1:=bxl b2 [(.bool k1.data)] 136::V
 refine qN W1 ?_
 refine o_8 ?_
 split at hr
 refine o_3 ?_
 refine lO (vp (vstr str3) R) ?_
 refine o_4 ?_
 cases hr
 exact qF () (tE 1 [])
 refine o_5 ?_
 refine lO (vp (vstr str1) R) ?_
 refine o_3 ?_
 cases hr
 exact qF () (tE 1 [])
theorem Z3d_ok  {k1:pairKind}{r:Str}(hr:Z3d k1=some r) :
 FnOk Tryz.prog 198 [(.agg [(iv k1.op)].toArray)] [] (fun (h:Unit)=>((vstr r),[])):=by
 unfold Z3d at hr
 refine fn_ok Tryz.func198 R 3 R R fun C V=>?_
 refine cN V ?_
 refine o_2 ?_
 refine lBx R fun b2=>?_
 refine lO (vp (vstr ([]:Str)) R) (l_nil ?_)
 let W1:=bxl b2 [(iv k1.op)] 138::V
 refine qN W1 ?_
 refine o_3 ?_
 refine lO (vp (vstr ([]:Str)) R) ?_
 refine o_3 ?_
 cases hr
 exact qF () (tE 1 [])
theorem Z3k_ok  {k1:soloKind}{r:Str}(hr:Z3k k1=some r) :
 FnOk Tryz.prog 201 [(.agg [(iv k1.op)].toArray)] [] (fun (h:Unit)=>((vstr r),[])):=by
 unfold Z3k at hr
 refine fn_ok Tryz.func201 R 3 R R fun C V=>?_
 refine cN V ?_
 refine o_2 ?_
 refine lBx R fun b2=>?_
 refine lO (vp (vstr ([]:Str)) R) (l_nil ?_)
 let W1:=bxl b2 [(iv k1.op)] 139::V
 refine qN W1 ?_
 refine o_3 ?_
 refine lO (vp (vstr ([]:Str)) R) ?_
 refine o_3 ?_
 cases hr
 exact qF () (tE 1 [])
theorem Z3l_ok  {k1:topKind}{r:Str}(hr:Z3l k1=some r) :
 FnOk Tryz.prog 203 [(.agg [].toArray)] [] (fun (h:Unit)=>((vstr r),[])):=by
 unfold Z3l at hr
 refine fn_ok Tryz.func203 R 3 R R fun C V=>?_
 refine cN V ?_
 refine o_2 ?_
 refine lBx R fun b2=>?_
 refine lO (vp (vstr ([]:Str)) R) (l_nil ?_)
 let W1:=bxl b2 [] 141::V
 refine qN W1 ?_
 refine o_3 ?_
 refine lO (vp (vstr str2) R) ?_
 refine o_3 ?_
 cases hr
 exact qF () (tE 1 [])
theorem Z3b_ok  {k1:formKind}{r:Str}(hr:Z3b k1=some r) :
 FnOk Tryz.prog 205 [(.agg [].toArray)] [] (fun (h:Unit)=>((vstr r),[])):=by
 unfold Z3b at hr
 refine fn_ok Tryz.func205 R 3 R R fun C V=>?_
 refine cN V ?_
 refine o_2 ?_
 refine lBx R fun b2=>?_
 refine lO (vp (vstr ([]:Str)) R) (l_nil ?_)
 let W1:=bxl b2 [] 142::V
 refine qN W1 ?_
 refine o_3 ?_
 refine lO (vp (vstr str4) R) ?_
 refine o_3 ?_
 cases hr
 exact qF () (tE 1 [])
theorem Z3i_ok  {k1:shiftKind}{r:Str}(hr:Z3i k1=some r) :
 FnOk Tryz.prog 221 [(.agg [(vstr k1.use),(.func (.func 124) [].toArray [].toArray)].toArray)] [] (fun (h:Unit)=>((vstr r),[])):=by
 unfold Z3i at hr
 refine fn_ok Tryz.func221 R 5 R R fun C V=>?_
 refine cN V ?_
 refine o_2 ?_
 refine lBx R fun b2=>?_
 refine lO (vp (vstr ([]:Str)) R) (l_nil ?_)
 let W1:=bxl b2 [(vstr k1.use),(.func (.func 124) [].toArray [].toArray)] 145::V
 refine qN W1 ?_
 refine o_5 ?_
 refine lO (vp (vstr k1.use) R) ?_
 refine o_3 ?_
 cases hr
 exact qF () (tE 1 [])
theorem Z3j_ok  {k1:shiftKind}{r:Str}(hr:Z3j k1=some r) :
 FnOk Tryz.prog 221 [(.agg [(vstr k1.use),(.func (.func 125) [].toArray [].toArray)].toArray)] [] (fun (h:Unit)=>((vstr r),[])):=by
 unfold Z3j at hr
 refine fn_ok Tryz.func221 R 5 R R fun C V=>?_
 refine cN V ?_
 refine o_2 ?_
 refine lBx R fun b2=>?_
 refine lO (vp (vstr ([]:Str)) R) (l_nil ?_)
 let W1:=bxl b2 [(vstr k1.use),(.func (.func 125) [].toArray [].toArray)] 145::V
 refine qN W1 ?_
 refine o_5 ?_
 refine lO (vp (vstr k1.use) R) ?_
 refine o_3 ?_
 cases hr
 exact qF () (tE 1 [])
theorem Z3e_ok  {k1:shiftKind}{q2:Int}{q4:Int}{b3:Nat}{b5:Nat}{b7:Nat}{r:Str}(hr:Z3e k1 q2 q4=some r) :
 FnOk Tryz.prog 221 [(.agg [(vstr k1.use),(.func (.func 149) [].toArray [(pt b3 0),(pt b5 0),(pt b7 0)].toArray)].toArray)] [bxl b3 [(iv q2)] 3,bxl b5 [(iv q4)] 3,bxl b7 [(.func (.func 127) [].toArray [].toArray)] 150] (fun (h:Unit)=>((vstr r),[bxl b3 [(iv q2)] 3,bxl b5 [(iv q4)] 3,bxl b7 [(.func (.func 127) [].toArray [].toArray)] 150])):=by
 unfold Z3e at hr
 refine fn_ok Tryz.func221 R 5 R R fun C V=>?_
 refine o_2 ?_
 refine lBx R fun b8=>?_
 refine lO (vp (vstr ([]:Str)) R) (l_nil ?_)
 let W1:=bxl b8 [(vstr k1.use),(.func (.func 149) [].toArray [(pt b3 0),(pt b5 0),(pt b7 0)].toArray)] 145::bxl b3 [(iv q2)] 3::bxl b5 [(iv q4)] 3::bxl b7 [(.func (.func 127) [].toArray [].toArray)] 150::V
 refine qN W1 ?_
 refine o_5 ?_
 refine lO (vp (vstr k1.use) R) ?_
 refine o_3 ?_
 cases hr
 exact qF () (fun w s=>(s.f 4 [1,3]))
theorem Z3f_ok  {k1:shiftKind}{q2:Int}{q4:Int}{b3:Nat}{b5:Nat}{b7:Nat}{r:Str}(hr:Z3f k1 q2 q4=some r) :
 FnOk Tryz.prog 221 [(.agg [(vstr k1.use),(.func (.func 149) [].toArray [(pt b3 0),(pt b5 0),(pt b7 0)].toArray)].toArray)] [bxl b3 [(iv q2)] 3,bxl b5 [(iv q4)] 3,bxl b7 [(.func (.func 129) [].toArray [].toArray)] 150] (fun (h:Unit)=>((vstr r),[bxl b3 [(iv q2)] 3,bxl b5 [(iv q4)] 3,bxl b7 [(.func (.func 129) [].toArray [].toArray)] 150])):=by
 unfold Z3f at hr
 refine fn_ok Tryz.func221 R 5 R R fun C V=>?_
 refine o_2 ?_
 refine lBx R fun b8=>?_
 refine lO (vp (vstr ([]:Str)) R) (l_nil ?_)
 let W1:=bxl b8 [(vstr k1.use),(.func (.func 149) [].toArray [(pt b3 0),(pt b5 0),(pt b7 0)].toArray)] 145::bxl b3 [(iv q2)] 3::bxl b5 [(iv q4)] 3::bxl b7 [(.func (.func 129) [].toArray [].toArray)] 150::V
 refine qN W1 ?_
 refine o_5 ?_
 refine lO (vp (vstr k1.use) R) ?_
 refine o_3 ?_
 cases hr
 exact qF () (fun w s=>(s.f 4 [1,3]))
theorem Z3g_ok  {k1:shiftKind}{q2:Int}{q4:Int}{b3:Nat}{b5:Nat}{b7:Nat}{r:Str}(hr:Z3g k1 q2 q4=some r) :
 FnOk Tryz.prog 221 [(.agg [(vstr k1.use),(.func (.func 149) [].toArray [(pt b3 0),(pt b5 0),(pt b7 0)].toArray)].toArray)] [bxl b3 [(iv q2)] 3,bxl b5 [(iv q4)] 3,bxl b7 [(.func (.func 131) [].toArray [].toArray)] 150] (fun (h:Unit)=>((vstr r),[bxl b3 [(iv q2)] 3,bxl b5 [(iv q4)] 3,bxl b7 [(.func (.func 131) [].toArray [].toArray)] 150])):=by
 unfold Z3g at hr
 refine fn_ok Tryz.func221 R 5 R R fun C V=>?_
 refine o_2 ?_
 refine lBx R fun b8=>?_
 refine lO (vp (vstr ([]:Str)) R) (l_nil ?_)
 let W1:=bxl b8 [(vstr k1.use),(.func (.func 149) [].toArray [(pt b3 0),(pt b5 0),(pt b7 0)].toArray)] 145::bxl b3 [(iv q2)] 3::bxl b5 [(iv q4)] 3::bxl b7 [(.func (.func 131) [].toArray [].toArray)] 150::V
 refine qN W1 ?_
 refine o_5 ?_
 refine lO (vp (vstr k1.use) R) ?_
 refine o_3 ?_
 cases hr
 exact qF () (fun w s=>(s.f 4 [1,3]))
theorem Z3h_ok  {k1:shiftKind}{q2:Int}{q4:Int}{b3:Nat}{b5:Nat}{b7:Nat}{r:Str}(hr:Z3h k1 q2 q4=some r) :
 FnOk Tryz.prog 221 [(.agg [(vstr k1.use),(.func (.func 149) [].toArray [(pt b3 0),(pt b5 0),(pt b7 0)].toArray)].toArray)] [bxl b3 [(iv q2)] 3,bxl b5 [(iv q4)] 3,bxl b7 [(.func (.func 133) [].toArray [].toArray)] 150] (fun (h:Unit)=>((vstr r),[bxl b3 [(iv q2)] 3,bxl b5 [(iv q4)] 3,bxl b7 [(.func (.func 133) [].toArray [].toArray)] 150])):=by
 unfold Z3h at hr
 refine fn_ok Tryz.func221 R 5 R R fun C V=>?_
 refine o_2 ?_
 refine lBx R fun b8=>?_
 refine lO (vp (vstr ([]:Str)) R) (l_nil ?_)
 let W1:=bxl b8 [(vstr k1.use),(.func (.func 149) [].toArray [(pt b3 0),(pt b5 0),(pt b7 0)].toArray)] 145::bxl b3 [(iv q2)] 3::bxl b5 [(iv q4)] 3::bxl b7 [(.func (.func 133) [].toArray [].toArray)] 150::V
 refine qN W1 ?_
 refine o_5 ?_
 refine lO (vp (vstr k1.use) R) ?_
 refine o_3 ?_
 cases hr
 exact qF () (fun w s=>(s.f 4 [1,3]))
theorem kindOfR_uses_ok  {r:kindOfR}{h0 h1 h2:Nat}{q:Str}(hr:kindOfR_uses r=some q) :
 InvOk Tryz.prog (kindOfRV r (h0,h1,h2)) "loop.example/g00033/impl.uses" [] [kindOfRE r (h0,h1,h2)] (fun (h:Unit)=>((vstr q),[kindOfRE r (h0,h1,h2)])):=by
 unfold kindOfR_uses at hr
 rcases bif_ hr with ⟨e0,hr⟩|⟨e0,hr⟩
 ·cases hr
 rcases bif_ hr with ⟨e1,hr⟩|⟨e1,hr⟩
 ·obtain ⟨t,b0,i0,i1,s0⟩:=r
  obtain rfl:=Nat.eq_of_beq_eq_true e1
  exact InvOk.mk (me136_uses _) (((Z3c_ok hr).perm (Pre':=[pk []]) (fun _ _ _ s=>St.unpack (A:=[]) s)).post id (fun _=>rfl) (fun _ _ _ _ s=>St.pack (A:=[]) (s)))
 rcases bif_ hr with ⟨e2,hr⟩|⟨e2,hr⟩
 ·obtain ⟨t,b0,i0,i1,s0⟩:=r
  obtain rfl:=Nat.eq_of_beq_eq_true e2
  exact InvOk.mk (me138_uses _) (((Z3d_ok hr).perm (Pre':=[pk []]) (fun _ _ _ s=>St.unpack (A:=[]) s)).post id (fun _=>rfl) (fun _ _ _ _ s=>St.pack (A:=[]) (s)))
 rcases bif_ hr with ⟨e3,hr⟩|⟨e3,hr⟩
 ·obtain ⟨t,b0,i0,i1,s0⟩:=r
  obtain rfl:=Nat.eq_of_beq_eq_true e3
  exact InvOk.mk (me139_uses _) (((Z3k_ok hr).perm (Pre':=[pk []]) (fun _ _ _ s=>St.unpack (A:=[]) s)).post id (fun _=>rfl) (fun _ _ _ _ s=>St.pack (A:=[]) (s)))
 rcases bif_ hr with ⟨e4,hr⟩|⟨e4,hr⟩
 ·obtain ⟨t,b0,i0,i1,s0⟩:=r
  obtain rfl:=Nat.eq_of_beq_eq_true e4
  exact InvOk.mk (me141_uses _) (((Z3l_ok (k1:=⟨⟩) hr).perm (Pre':=[pk []]) (fun _ _ _ s=>St.unpack (A:=[]) s)).post id (fun _=>rfl) (fun _ _ _ _ s=>St.pack (A:=[]) (s)))
 rcases bif_ hr with ⟨e5,hr⟩|⟨e5,hr⟩
 ·obtain ⟨t,b0,i0,i1,s0⟩:=r
  obtain rfl:=Nat.eq_of_beq_eq_true e5
  exact InvOk.mk (me142_uses _) (((Z3b_ok (k1:=⟨⟩) hr).perm (Pre':=[pk []]) (fun _ _ _ s=>St.unpack (A:=[]) s)).post id (fun _=>rfl) (fun _ _ _ _ s=>St.pack (A:=[]) (s)))
 rcases bif_ hr with ⟨e6,hr⟩|⟨e6,hr⟩
 ·obtain ⟨t,b0,i0,i1,s0⟩:=r
  obtain rfl:=Nat.eq_of_beq_eq_true e6
  exact InvOk.mk (me145_uses _) (((Z3i_ok hr).perm (Pre':=[pk []]) (fun _ _ _ s=>St.unpack (A:=[]) s)).post id (fun _=>rfl) (fun _ _ _ _ s=>St.pack (A:=[]) (s)))
 rcases bif_ hr with ⟨e7,hr⟩|⟨e7,hr⟩
 ·obtain ⟨t,b0,i0,i1,s0⟩:=r
  obtain rfl:=Nat.eq_of_beq_eq_true e7
  exact InvOk.mk (me145_uses _) (((Z3j_ok hr).perm (Pre':=[pk []]) (fun _ _ _ s=>St.unpack (A:=[]) s)).post id (fun _=>rfl) (fun _ _ _ _ s=>St.pack (A:=[]) (s)))
 rcases bif_ hr with ⟨e8,hr⟩|⟨e8,hr⟩
 ·obtain ⟨t,b0,i0,i1,s0⟩:=r
  obtain rfl:=Nat.eq_of_beq_eq_true e8
  exact InvOk.mk (me145_uses _) (((Z3e_ok hr).perm (Pre':=[pk [bxl h0 [(iv i0)] 3,bxl h1 [(iv i1)] 3,bxl h2 [(.func (.func 127) [].toArray [].toArray)] 150]]) (fun _ _ _ s=>St.unpack (A:=[bxl h0 [(iv i0)] 3,bxl h1 [(iv i1)] 3,bxl h2 [(.func (.func 127) [].toArray [].toArray)] 150]) s)).post id (fun _=>rfl) (fun _ _ _ _ s=>St.pack (A:=[bxl h0 [(iv i0)] 3,bxl h1 [(iv i1)] 3,bxl h2 [(.func (.func 127) [].toArray [].toArray)] 150]) (s)))
 rcases bif_ hr with ⟨e9,hr⟩|⟨e9,hr⟩
 ·obtain ⟨t,b0,i0,i1,s0⟩:=r
  obtain rfl:=Nat.eq_of_beq_eq_true e9
  exact InvOk.mk (me145_uses _) (((Z3f_ok hr).perm (Pre':=[pk [bxl h0 [(iv i0)] 3,bxl h1 [(iv i1)] 3,bxl h2 [(.func (.func 129) [].toArray [].toArray)] 150]]) (fun _ _ _ s=>St.unpack (A:=[bxl h0 [(iv i0)] 3,bxl h1 [(iv i1)] 3,bxl h2 [(.func (.func 129) [].toArray [].toArray)] 150]) s)).post id (fun _=>rfl) (fun _ _ _ _ s=>St.pack (A:=[bxl h0 [(iv i0)] 3,bxl h1 [(iv i1)] 3,bxl h2 [(.func (.func 129) [].toArray [].toArray)] 150]) (s)))
 rcases bif_ hr with ⟨e10,hr⟩|⟨e10,hr⟩
 ·obtain ⟨t,b0,i0,i1,s0⟩:=r
  obtain rfl:=Nat.eq_of_beq_eq_true e10
  exact InvOk.mk (me145_uses _) (((Z3g_ok hr).perm (Pre':=[pk [bxl h0 [(iv i0)] 3,bxl h1 [(iv i1)] 3,bxl h2 [(.func (.func 131) [].toArray [].toArray)] 150]]) (fun _ _ _ s=>St.unpack (A:=[bxl h0 [(iv i0)] 3,bxl h1 [(iv i1)] 3,bxl h2 [(.func (.func 131) [].toArray [].toArray)] 150]) s)).post id (fun _=>rfl) (fun _ _ _ _ s=>St.pack (A:=[bxl h0 [(iv i0)] 3,bxl h1 [(iv i1)] 3,bxl h2 [(.func (.func 131) [].toArray [].toArray)] 150]) (s)))
 have hV:kindOfRV r (h0,h1,h2)=(.iface 145 (.agg [(vstr r.s0),(.func (.func 149) [].toArray [(pt h0 0),(pt h1 0),(pt h2 0)].toArray)].toArray)):=by simp only [kindOfRV,e0,e1,e2,e3,e4,e5,e6,e7,e8,e9,e10,cond_false]
 have hE:kindOfRE r (h0,h1,h2)=pk [bxl h0 [(iv r.i0)] 3,bxl h1 [(iv r.i1)] 3,bxl h2 [(.func (.func 133) [].toArray [].toArray)] 150]:=by simp only [kindOfRE,e0,e1,e2,e3,e4,e5,e6,e7,e8,e9,e10,cond_false]
 rw [hV,hE]
 exact InvOk.mk (me145_uses _) (((Z3h_ok hr).perm (Pre':=[pk [bxl h0 [(iv r.i0)] 3,bxl h1 [(iv r.i1)] 3,bxl h2 [(.func (.func 133) [].toArray [].toArray)] 150]]) (fun _ _ _ s=>St.unpack (A:=[bxl h0 [(iv r.i0)] 3,bxl h1 [(iv r.i1)] 3,bxl h2 [(.func (.func 133) [].toArray [].toArray)] 150]) s)).post id (fun _=>rfl) (fun _ _ _ _ s=>St.pack (A:=[bxl h0 [(iv r.i0)] 3,bxl h1 [(iv r.i1)] 3,bxl h2 [(.func (.func 133) [].toArray [].toArray)] 150]) (s)))
theorem Z6_ok  {c1:Str}{p2:Str}{mG:Int}{b3:Nat}{r:Bool}(hr:Z6 c1 p2=some r) :
 FnOk Tryz.prog 135 [(vstr c1),(pt b3 0)] [bxl b3 [(vstr p2)] 9,gl 0 mG] (fun (h:Unit)=>((.bool r),[bxl b3 [(vstr p2)] 9])):=by
 unfold Z6 at hr
 refine fn_ok Tryz.func135 R 7 R R fun C V=>?_
 let W0:=gl 0 mG::V
 refine o_4 ?_
 let W1:=bxl b3 [(vstr p2)] 9::W0
 refine qN W1 ?_
 refine o_2 ?_
 obtain ⟨r4,hx5,hr⟩:=bd hr
 refine o_2 ?_
 refine lO (vp (vstr c1) R) (lM _ (fun w s=>(s.dg 1 R)) ?_)
 refine lC 1 cb136 R (Z3n_ok hx5) R ?_
 rintro _
 refine lN W1 ?_
 refine o_4 ?_
 cases hr
 exact qF () (tE 2 [0])
theorem Z1s_ok  {n1:Node}{uses6:Str}{mG:Int}{r:Bool}(hr:Z1s n1 uses6=some r) :
 FnOk Tryz.prog 97 [(.agg [(iv n1.Op),(.slice A2 N2 D2),(.slice A3 N3 D3),(.slice A4 N4 D4),(vstr n1.Form),(.slice A5 N5 D5)].toArray),(vstr uses6)] [rds kT3 (.slice A2 N2 D2) n1.Args,rds kT3 (.slice A3 N3 D3) n1.Dims,rds kT3 (.slice A4 N4 D4) n1.Ints,rds kT3 (.slice A5 N5 D5) n1.Data,gl 0 mG] (fun (h:Unit)=>((.bool r),[])):=by
 unfold Z1s at hr
 refine fn_ok Tryz.func97 R 44 R R fun C V=>?_
 refine cL 0 sees_rd ?_
 rintro rfl
 refine cL 1 sees_rd ?_
 rintro rfl
 refine cL 2 sees_rd ?_
 rintro rfl
 refine cL 3 sees_rd ?_
 rintro rfl
 let W0:=RR kT3 A2 D2 n1.Args::RR kT3 A3 D3 n1.Dims::RR kT3 A4 D4 n1.Ints::RR kT3 A5 D5 n1.Data::gl 0 mG::V
 refine cN W0 ?_
 refine o_2 ?_
 refine lBx R fun b7=>?_
 refine l_box (cs:=[(vstr uses6)]) R R R (fun b8=>(lB R (l_nil ?_)))
 let W1:=bxl b7 [(iv n1.Op),(sc A2 n1.Args D2),(sc A3 n1.Dims D3),(sc A4 n1.Ints D4),(vstr n1.Form),(sc A5 n1.Data D5)] 54::W0
 refine o_3 ?_
 refine lO (vp (.func (.func 135) [].toArray [(pt b8 0)].toArray) R) (lO (vp _ R) ?_)
 refine o_3 ?_
 obtain ⟨r9,hx10,hr⟩:=bd hr
 obtain ⟨r11,hx12,hr⟩:=bd hr
 obtain ⟨r13,hx14,hr⟩:=bd hr
 obtain ⟨r15,hx16,hr⟩:=bd hr
 refine cQ [(4,(.bool ((((r9||((n1.Dims.length:Int)==0))&&(r11||((n1.Ints.length:Int)==0)))&&(r13||(n1.Form==([]:Str))))&&(r15||((n1.Data.length:Int)==0)))))] (W1) ?_ ?_
 refine c_region (lO (vp _ R) (lM _ (fun w s=>((s.dg 6 R).e 2 [1,0])) ?_))
 refine l_callvn (fs:=[]) (cs:=[(pt b8 0)]) 2 R R cb135 R R (Z6_ok hx10) R ?_
 rintro _
 refine o_1 ?_
 rcases bo r9 with hc17 | hc17
 refine o_4 ?_
 refine lO (pOT ((n1.Dims.length:Int)==0) R hc17) (lB R (lW (wnT (oT hc17)) (vp _ R) (lM _ (fun w s=>((s.dg 6 R).e 2 [1,0])) ?_)))
 refine l_callvn (fs:=[]) (cs:=[(pt b8 0)]) 2 R (wnT (oT hc17)) cb135 R R (Z6_ok (gcall_t hx12 (oT hc17))) R ?_
 rintro _
 refine o_1 ?_
 rcases bo r11 with hc18 | hc18
 refine o_4 ?_
 refine lW (wnT (oT hc17)) (pOT ((n1.Ints.length:Int)==0) R hc18) (lO (pAT R (oT hc17) R) (lB R ?_))
 rcases bo ((r9||((n1.Dims.length:Int)==0))&&(r11||((n1.Ints.length:Int)==0))) with hc19 | hc19
 refine lW (wnT hc19) (vp _ R) (lM _ (fun w s=>((s.dg 6 R).e 2 [1,0])) ?_)
 refine l_callvn (fs:=[]) (cs:=[(pt b8 0)]) 2 R (wnT hc19) cb135 R R (Z6_ok (gcall_t hx14 hc19)) R ?_
 rintro _
 refine o_1 ?_
 rcases bo r13 with hc20 | hc20
 refine o_3 ?_
 refine lW (wnT hc19) (pOT (n1.Form==([]:Str)) R hc20) (lO (pAT R hc19 R) (lB R ?_))
 rcases bo (((r9||((n1.Dims.length:Int)==0))&&(r11||((n1.Ints.length:Int)==0)))&&(r13||(n1.Form==([]:Str)))) with hc21 | hc21
 refine lW (wnT hc21) (vp _ R) (lM _ (fun w s=>((s.dg 6 R).e 2 [1,0])) ?_)
 refine l_callvn (fs:=[]) (cs:=[(pt b8 0)]) 2 R (wnT hc21) cb135 R R (Z6_ok (gcall_t hx16 hc21)) R ?_
 rintro _
 refine o_1 ?_
 rcases bo r15 with hc22 | hc22
 refine o_4 ?_
 refine lW (wnT hc21) (pOT ((n1.Data.length:Int)==0) R hc22) (lO (pAT R hc21 R) ?_)
 refine o_2 ?_
 exact qj (tE 1 [])
 refine o_4 ?_
 refine lW (wnT hc21) (pOF R hc22 R) (lO (pAT R hc21 R) ?_)
 refine o_2 ?_
 exact qj (tE 1 [])
 refine o_8 ?_
 refine lO (pAF (r15||((n1.Data.length:Int)==0)) R hc21) ?_
 refine o_2 ?_
 exact qj (tE 1 [])
 refine o_2 ?_
 refine lW (wnF hc20) (vz (.bool (n1.Form==([]:Str))) (v_scmp R R R)) (lW (wnT hc19) (pOF R hc20 R) (lO (pAT R hc19 R) (lB R ?_)))
 rcases bo (((r9||((n1.Dims.length:Int)==0))&&(r11||((n1.Ints.length:Int)==0)))&&(r13||(n1.Form==([]:Str)))) with hc23 | hc23
 refine lW (wnT hc23) (vp _ R) (lM _ (fun w s=>((s.dg 6 R).e 2 [1,0])) ?_)
 refine l_callvn (fs:=[]) (cs:=[(pt b8 0)]) 2 R (wnT hc23) cb135 R R (Z6_ok (gcall_t hx16 hc23)) R ?_
 rintro _
 refine o_1 ?_
 rcases bo r15 with hc24 | hc24
 refine o_4 ?_
 refine lW (wnT hc23) (pOT ((n1.Data.length:Int)==0) R hc24) (lO (pAT R hc23 R) ?_)
 refine o_2 ?_
 exact qj (tE 1 [])
 refine o_4 ?_
 refine lW (wnT hc23) (pOF R hc24 R) (lO (pAT R hc23 R) ?_)
 refine o_2 ?_
 exact qj (tE 1 [])
 refine o_8 ?_
 refine lO (pAF (r15||((n1.Data.length:Int)==0)) R hc23) ?_
 refine o_2 ?_
 exact qj (tE 1 [])
 refine o_7 ?_
 refine lO (pAF (r13||(n1.Form==([]:Str))) R hc19) ?_
 refine o_9 ?_
 refine lO (pAF (r15||((n1.Data.length:Int)==0)) R (aF hc19)) ?_
 refine o_2 ?_
 exact qj (tE 1 [])
 refine o_4 ?_
 refine lW (wnT (oT hc17)) (pOF R hc18 R) (lO (pAT R (oT hc17) R) (lB R ?_))
 rcases bo ((r9||((n1.Dims.length:Int)==0))&&(r11||((n1.Ints.length:Int)==0))) with hc25 | hc25
 refine lW (wnT hc25) (vp _ R) (lM _ (fun w s=>((s.dg 6 R).e 2 [1,0])) ?_)
 refine l_callvn (fs:=[]) (cs:=[(pt b8 0)]) 2 R (wnT hc25) cb135 R R (Z6_ok (gcall_t hx14 hc25)) R ?_
 rintro _
 refine o_1 ?_
 rcases bo r13 with hc26 | hc26
 refine o_3 ?_
 refine lW (wnT hc25) (pOT (n1.Form==([]:Str)) R hc26) (lO (pAT R hc25 R) (lB R ?_))
 rcases bo (((r9||((n1.Dims.length:Int)==0))&&(r11||((n1.Ints.length:Int)==0)))&&(r13||(n1.Form==([]:Str)))) with hc27 | hc27
 refine lW (wnT hc27) (vp _ R) (lM _ (fun w s=>((s.dg 6 R).e 2 [1,0])) ?_)
 refine l_callvn (fs:=[]) (cs:=[(pt b8 0)]) 2 R (wnT hc27) cb135 R R (Z6_ok (gcall_t hx16 hc27)) R ?_
 rintro _
 refine o_1 ?_
 rcases bo r15 with hc28 | hc28
 refine o_4 ?_
 refine lW (wnT hc27) (pOT ((n1.Data.length:Int)==0) R hc28) (lO (pAT R hc27 R) ?_)
 refine o_2 ?_
 exact qj (tE 1 [])
 refine o_4 ?_
 refine lW (wnT hc27) (pOF R hc28 R) (lO (pAT R hc27 R) ?_)
 refine o_2 ?_
 exact qj (tE 1 [])
 refine o_8 ?_
 refine lO (pAF (r15||((n1.Data.length:Int)==0)) R hc27) ?_
 refine o_2 ?_
 exact qj (tE 1 [])
 refine o_2 ?_
 refine lW (wnF hc26) (vz (.bool (n1.Form==([]:Str))) (v_scmp R R R)) (lW (wnT hc25) (pOF R hc26 R) (lO (pAT R hc25 R) (lB R ?_)))
 rcases bo (((r9||((n1.Dims.length:Int)==0))&&(r11||((n1.Ints.length:Int)==0)))&&(r13||(n1.Form==([]:Str)))) with hc29 | hc29
 refine lW (wnT hc29) (vp _ R) (lM _ (fun w s=>((s.dg 6 R).e 2 [1,0])) ?_)
 refine l_callvn (fs:=[]) (cs:=[(pt b8 0)]) 2 R (wnT hc29) cb135 R R (Z6_ok (gcall_t hx16 hc29)) R ?_
 rintro _
 refine o_1 ?_
 rcases bo r15 with hc30 | hc30
 refine o_4 ?_
 refine lW (wnT hc29) (pOT ((n1.Data.length:Int)==0) R hc30) (lO (pAT R hc29 R) ?_)
 refine o_2 ?_
 exact qj (tE 1 [])
 refine o_4 ?_
 refine lW (wnT hc29) (pOF R hc30 R) (lO (pAT R hc29 R) ?_)
 refine o_2 ?_
 exact qj (tE 1 [])
 refine o_8 ?_
 refine lO (pAF (r15||((n1.Data.length:Int)==0)) R hc29) ?_
 refine o_2 ?_
 exact qj (tE 1 [])
 refine o_7 ?_
 refine lO (pAF (r13||(n1.Form==([]:Str))) R hc25) ?_
 refine o_9 ?_
 refine lO (pAF (r15||((n1.Data.length:Int)==0)) R (aF hc25)) ?_
 refine o_2 ?_
 exact qj (tE 1 [])
 refine o_4 ?_
 refine lO (pOF R hc17 R) (lB R ?_)
 rcases bo (r9||((n1.Dims.length:Int)==0)) with hc31 | hc31
 refine lW (wnT hc31) (vp _ R) (lM _ (fun w s=>((s.dg 6 R).e 2 [1,0])) ?_)
 refine l_callvn (fs:=[]) (cs:=[(pt b8 0)]) 2 R (wnT hc31) cb135 R R (Z6_ok (gcall_t hx12 hc31)) R ?_
 rintro _
 refine o_1 ?_
 rcases bo r11 with hc32 | hc32
 refine o_4 ?_
 refine lW (wnT hc31) (pOT ((n1.Ints.length:Int)==0) R hc32) (lO (pAT R hc31 R) (lB R ?_))
 rcases bo ((r9||((n1.Dims.length:Int)==0))&&(r11||((n1.Ints.length:Int)==0))) with hc33 | hc33
 refine lW (wnT hc33) (vp _ R) (lM _ (fun w s=>((s.dg 6 R).e 2 [1,0])) ?_)
 refine l_callvn (fs:=[]) (cs:=[(pt b8 0)]) 2 R (wnT hc33) cb135 R R (Z6_ok (gcall_t hx14 hc33)) R ?_
 rintro _
 refine o_1 ?_
 rcases bo r13 with hc34 | hc34
 refine o_3 ?_
 refine lW (wnT hc33) (pOT (n1.Form==([]:Str)) R hc34) (lO (pAT R hc33 R) (lB R ?_))
 rcases bo (((r9||((n1.Dims.length:Int)==0))&&(r11||((n1.Ints.length:Int)==0)))&&(r13||(n1.Form==([]:Str)))) with hc35 | hc35
 refine lW (wnT hc35) (vp _ R) (lM _ (fun w s=>((s.dg 6 R).e 2 [1,0])) ?_)
 refine l_callvn (fs:=[]) (cs:=[(pt b8 0)]) 2 R (wnT hc35) cb135 R R (Z6_ok (gcall_t hx16 hc35)) R ?_
 rintro _
 refine o_1 ?_
 rcases bo r15 with hc36 | hc36
 refine o_4 ?_
 refine lW (wnT hc35) (pOT ((n1.Data.length:Int)==0) R hc36) (lO (pAT R hc35 R) ?_)
 refine o_2 ?_
 exact qj (tE 1 [])
 refine o_4 ?_
 refine lW (wnT hc35) (pOF R hc36 R) (lO (pAT R hc35 R) ?_)
 refine o_2 ?_
 exact qj (tE 1 [])
 refine o_8 ?_
 refine lO (pAF (r15||((n1.Data.length:Int)==0)) R hc35) ?_
 refine o_2 ?_
 exact qj (tE 1 [])
 refine o_2 ?_
 refine lW (wnF hc34) (vz (.bool (n1.Form==([]:Str))) (v_scmp R R R)) (lW (wnT hc33) (pOF R hc34 R) (lO (pAT R hc33 R) (lB R ?_)))
 rcases bo (((r9||((n1.Dims.length:Int)==0))&&(r11||((n1.Ints.length:Int)==0)))&&(r13||(n1.Form==([]:Str)))) with hc37 | hc37
 refine lW (wnT hc37) (vp _ R) (lM _ (fun w s=>((s.dg 6 R).e 2 [1,0])) ?_)
 refine l_callvn (fs:=[]) (cs:=[(pt b8 0)]) 2 R (wnT hc37) cb135 R R (Z6_ok (gcall_t hx16 hc37)) R ?_
 rintro _
 refine o_1 ?_
 rcases bo r15 with hc38 | hc38
 refine o_4 ?_
 refine lW (wnT hc37) (pOT ((n1.Data.length:Int)==0) R hc38) (lO (pAT R hc37 R) ?_)
 refine o_2 ?_
 exact qj (tE 1 [])
 refine o_4 ?_
 refine lW (wnT hc37) (pOF R hc38 R) (lO (pAT R hc37 R) ?_)
 refine o_2 ?_
 exact qj (tE 1 [])
 refine o_8 ?_
 refine lO (pAF (r15||((n1.Data.length:Int)==0)) R hc37) ?_
 refine o_2 ?_
 exact qj (tE 1 [])
 refine o_7 ?_
 refine lO (pAF (r13||(n1.Form==([]:Str))) R hc33) ?_
 refine o_9 ?_
 refine lO (pAF (r15||((n1.Data.length:Int)==0)) R (aF hc33)) ?_
 refine o_2 ?_
 exact qj (tE 1 [])
 refine o_4 ?_
 refine lW (wnT hc31) (pOF R hc32 R) (lO (pAT R hc31 R) (lB R ?_))
 rcases bo ((r9||((n1.Dims.length:Int)==0))&&(r11||((n1.Ints.length:Int)==0))) with hc39 | hc39
 refine lW (wnT hc39) (vp _ R) (lM _ (fun w s=>((s.dg 6 R).e 2 [1,0])) ?_)
 refine l_callvn (fs:=[]) (cs:=[(pt b8 0)]) 2 R (wnT hc39) cb135 R R (Z6_ok (gcall_t hx14 hc39)) R ?_
 rintro _
 refine o_1 ?_
 rcases bo r13 with hc40 | hc40
 refine o_3 ?_
 refine lW (wnT hc39) (pOT (n1.Form==([]:Str)) R hc40) (lO (pAT R hc39 R) (lB R ?_))
 rcases bo (((r9||((n1.Dims.length:Int)==0))&&(r11||((n1.Ints.length:Int)==0)))&&(r13||(n1.Form==([]:Str)))) with hc41 | hc41
 refine lW (wnT hc41) (vp _ R) (lM _ (fun w s=>((s.dg 6 R).e 2 [1,0])) ?_)
 refine l_callvn (fs:=[]) (cs:=[(pt b8 0)]) 2 R (wnT hc41) cb135 R R (Z6_ok (gcall_t hx16 hc41)) R ?_
 rintro _
 refine o_1 ?_
 rcases bo r15 with hc42 | hc42
 refine o_4 ?_
 refine lW (wnT hc41) (pOT ((n1.Data.length:Int)==0) R hc42) (lO (pAT R hc41 R) ?_)
 refine o_2 ?_
 exact qj (tE 1 [])
 refine o_4 ?_
 refine lW (wnT hc41) (pOF R hc42 R) (lO (pAT R hc41 R) ?_)
 refine o_2 ?_
 exact qj (tE 1 [])
 refine o_8 ?_
 refine lO (pAF (r15||((n1.Data.length:Int)==0)) R hc41) ?_
 refine o_2 ?_
 exact qj (tE 1 [])
 refine o_2 ?_
 refine lW (wnF hc40) (vz (.bool (n1.Form==([]:Str))) (v_scmp R R R)) (lW (wnT hc39) (pOF R hc40 R) (lO (pAT R hc39 R) (lB R ?_)))
 rcases bo (((r9||((n1.Dims.length:Int)==0))&&(r11||((n1.Ints.length:Int)==0)))&&(r13||(n1.Form==([]:Str)))) with hc43 | hc43
 refine lW (wnT hc43) (vp _ R) (lM _ (fun w s=>((s.dg 6 R).e 2 [1,0])) ?_)
 refine l_callvn (fs:=[]) (cs:=[(pt b8 0)]) 2 R (wnT hc43) cb135 R R (Z6_ok (gcall_t hx16 hc43)) R ?_
 rintro _
 refine o_1 ?_
 rcases bo r15 with hc44 | hc44
 refine o_4 ?_
 refine lW (wnT hc43) (pOT ((n1.Data.length:Int)==0) R hc44) (lO (pAT R hc43 R) ?_)
 refine o_2 ?_
 exact qj (tE 1 [])
 refine o_4 ?_
 refine lW (wnT hc43) (pOF R hc44 R) (lO (pAT R hc43 R) ?_)
 refine o_2 ?_
 exact qj (tE 1 [])
 refine o_8 ?_
 refine lO (pAF (r15||((n1.Data.length:Int)==0)) R hc43) ?_
 refine o_2 ?_
 exact qj (tE 1 [])
 refine o_7 ?_
 refine lO (pAF (r13||(n1.Form==([]:Str))) R hc39) ?_
 refine o_9 ?_
 refine lO (pAF (r15||((n1.Data.length:Int)==0)) R (aF hc39)) ?_
 refine o_2 ?_
 exact qj (tE 1 [])
 refine o_8 ?_
 refine lO (pAF (r11||((n1.Ints.length:Int)==0)) R hc31) ?_
 refine o_8 ?_
 refine lO (pAF (r13||(n1.Form==([]:Str))) R (aF hc31)) ?_
 refine o_9 ?_
 refine lO (pAF (r15||((n1.Data.length:Int)==0)) R (aF (aF hc31))) ?_
 refine o_2 ?_
 exact qj (tE 1 [])
 rintro σ1
 refine o_2 ?_
 cases hr
 exact qF () (tE 6 [])
theorem Zb_ok  {dims1:(List Int)}{r:Bool}(hr:Zb dims1=some r) :
 FnOk Tryz.prog 147 [(.slice A2 N2 D2)] [rds kT3 (.slice A2 N2 D2) dims1] (fun (h:Unit)=>((.bool r),[])):=by
 unfold Zb at hr
 refine fn_ok Tryz.func147 R 27 R R fun C V=>?_
 refine cL 0 sees_rd ?_
 rintro rfl
 let W0:=RR kT3 A2 D2 dims1::V
 refine cN W0 ?_
 refine o_11 ?_
 refine c_cut (A:=(Unit)×(HH)) (fun a=>Zb_J1 dims1=some r) (fun a=>[(0,(s3 a.2))]) (fun a=>rds kT3 (s3 a.2) dims1::W0) ?_ ?_
 refine o_8 ?_
 obtain ⟨e1,hl1,hk1⟩:=bd hr
 refine c_loop (A:=HH) hl1 (fun s a=>[(0,(s3 a)),(3,(iv s.1)),(6,(s3 a)),(7,(il dims1)),(8,(iv s.2))]) (fun s a=>rds kT3 (s3 a) dims1::W0) (A2,dims1.length,D2) (aS R) (fun w s=>(s.d 0 R)) ?_
 rintro ⟨n11,x12⟩ ⟨A10,N10,D10⟩ σ1 out1 hr he1
 dsimp only [Zb_L1] at hr
 refine c_len 0 sees_rd (fun (hn:N10=dims1.length)=>?_)
 subst hn
 refine o_6 ?_
 split at hr
 refine o_6 ?_
 obtain ⟨hg14,hr⟩:=gd hr
 refine c_region (t_some 0 sees_rd (show 0<dims1.length by have:=hg14; omega) (fun g15 o16 ha=>?_))
 subst ha
 refine o_7 ?_
 refine cQ [(0,(sc (ad g15 o16) dims1 D10)),(3,(iv n11)),(5,(iv (ix dims1 x12))),(6,(sc (ad g15 o16) dims1 D10)),(7,(il dims1)),(8,(iv x12)),(17,(.bool ((decide ((ix dims1 x12)<1))||(decide ((ix dims1 x12)>4096)))))] (RR kT3 (ad g15 o16) D10 dims1::W0) ?_ ?_
 refine o_4 ?_
 rcases bo (decide ((ix dims1 x12)<1)) with hc17 | hc17
 refine o_4 ?_
 exact qj tI
 refine o_4 ?_
 exact qj tI
 rintro σ1
 refine o_1 ?_
 split at hr
 refine o_10 ?_
 cases hr
 obtain rfl:=he1 _ R
 have hr:=hk1
 refine o_3 ?_
 cases hr
 exact qF () (tE 2 [])
 refine o_17 ?_
 split at hr
 refine o_9 ?_
 cases hr
 obtain rfl:=he1 _ R
 have hr:=hk1
 refine o_3 ?_
 cases hr
 exact qF () (tE 2 [])
 refine o_8 ?_
 cases hr
 exact qA ((ad g15 o16),dims1.length,D10) tI
 refine o_3 ?_
 cases hr
 obtain rfl:=he1 _ R
 have hr:=hk1
 refine o_2 ?_
 exact qI ((),(A10,dims1.length,D10)) hr tI
 rintro ⟨_,⟨A23,N23,D23⟩⟩ σ1 hr
 dsimp only [Zb_J1] at hr
 refine c_len 0 sees_rd (fun (hn:N23=dims1.length)=>?_)
 subst hn
 refine o_9 ?_
 cases hr
 exact qF () (tE 2 [])
theorem Zk_ok  {dims1:(List Int)}{r:Int}(hr:Zk dims1=some r) :
 FnOk Tryz.prog 148 [(.slice A2 N2 D2)] [rds kT3 (.slice A2 N2 D2) dims1] (fun (h:Unit)=>((iv r),[])):=by
 unfold Zk at hr
 refine fn_ok Tryz.func148 R 17 R R fun C V=>?_
 refine cL 0 sees_rd ?_
 rintro rfl
 let W0:=RR kT3 A2 D2 dims1::V
 refine cN W0 ?_
 refine o_11 ?_
 refine c_cut (A:=(Int)×(Unit)) (fun a=>Zk_J1 a.1=some r) (fun a=>[(3,(iv a.1))]) (fun a=>W0) ?_ ?_
 refine o_8 ?_
 obtain ⟨e1,hl1,hk1⟩:=bd hr
 refine c_loop (A:=Unit) hl1 (fun s a=>[(3,(iv s.1)),(6,(sc A2 dims1 D2)),(7,(il dims1)),(8,(iv s.2))]) (fun s a=>W0) () (aS R) tI ?_
 rintro ⟨n7,x8⟩ _ σ1 out1 hr he1
 dsimp only [Zk_L1] at hr
 refine o_6 ?_
 split at hr
 refine o_6 ?_
 obtain ⟨hg10,hr⟩:=gd hr
 refine c_region (t_some 0 sees_rd (show 0<dims1.length by have:=hg10; omega) (fun g11 o12 ha=>?_))
 subst ha
 refine o_17 ?_
 cases hr
 exact qA () tI
 refine o_3 ?_
 cases hr
 obtain rfl:=he1 _ R
 have hr:=hk1
 refine o_2 ?_
 exact qI (n7,()) hr tI
 rintro ⟨n15,_⟩ σ1 hr
 dsimp only [Zk_J1] at hr
 refine o_7 ?_
 cases hr
 exact qF () (tE 1 [])
theorem Z2z_ok  {p1:Int}{r:Bool}(hr:Z2z p1=some r) :
 FnOk Tryz.prog 196 [(iv p1)] [] (fun (h:Unit)=>((.bool r),[])):=by
 unfold Z2z at hr
 refine fn_ok Tryz.func196 R 9 R R fun C V=>?_
 refine cN V ?_
 refine o_6 ?_
 refine cQ [(2,(.bool ((decide (p1≥0))&&(decide (p1<2147483647)))))] (V) ?_ ?_
 refine o_4 ?_
 rcases bo (decide (p1≥0)) with hc2 | hc2
 refine o_5 ?_
 exact qj tI
 refine o_5 ?_
 exact qj tI
 rintro σ1
 refine o_2 ?_
 cases hr
 exact qF () tI
theorem Z11_ok  {xs1:(List Int)}{r:Bool}(hr:Z11 xs1=some r) :
 FnOk Tryz.prog 195 [(.slice A2 N2 D2)] [rds kT3 (.slice A2 N2 D2) xs1] (fun (h:Unit)=>((.bool r),[])):=by
 unfold Z11 at hr
 refine fn_ok Tryz.func195 R 15 R R fun C V=>?_
 refine cL 0 sees_rd ?_
 rintro rfl
 let W0:=RR kT3 A2 D2 xs1::V
 refine cN W0 ?_
 refine o_6 ?_
 refine c_cut (A:=(Unit)×(Unit)) (fun a=>Z11_J1=some r) (fun a=>[]) (fun a=>W0) ?_ ?_
 refine o_8 ?_
 obtain ⟨e1,hl1,hk1⟩:=bd hr
 refine c_loop (A:=Unit) hl1 (fun s a=>[(5,(sc A2 xs1 D2)),(6,(il xs1)),(7,(iv s))]) (fun s a=>W0) () (aS R) tI ?_
 rintro x10 _ σ1 out1 hr he1
 dsimp only [Z11_L1] at hr
 refine o_6 ?_
 split at hr
 refine o_6 ?_
 obtain ⟨hg12,hr⟩:=gd hr
 refine c_region (t_some 0 sees_rd (show 0<xs1.length by have:=hg12; omega) (fun g13 o14 ha=>?_))
 subst ha
 refine o_6 ?_
 obtain ⟨r15,hx16,hr⟩:=bd hr
 refine o_2 ?_
 refine lC 0 cb196 R (Z2z_ok hx16) R ?_
 rintro _
 refine o_3 ?_
 split at hr
 refine o_9 ?_
 cases hr
 obtain rfl:=he1 _ R
 have hr:=hk1
 refine o_3 ?_
 cases hr
 exact qF () (tE 1 [])
 refine o_8 ?_
 cases hr
 exact qA () tI
 refine o_3 ?_
 cases hr
 obtain rfl:=he1 _ R
 have hr:=hk1
 refine o_2 ?_
 exact q_join ((),()) hr trivial tI
 rintro ⟨_,_⟩ σ1 hr
 dsimp only [Z11_J1] at hr
 refine o_6 ?_
 cases hr
 exact qF () (tE 1 [])
theorem Z2i_ok  {t1:Tensor}{r:Bool}(hr:Z2i t1=some r) :
 FnOk Tryz.prog 194 [(.agg [(.slice A2 N2 D2),(.slice A3 N3 D3)].toArray)] [rds kT3 (.slice A2 N2 D2) t1.Dims,rds kT3 (.slice A3 N3 D3) t1.Data] (fun (h:Unit)=>((.bool r),[])):=by
 unfold Z2i at hr
 refine fn_ok Tryz.func194 R 20 R R fun C V=>?_
 refine cL 0 sees_rd ?_
 rintro rfl
 refine cL 1 sees_rd ?_
 rintro rfl
 let W0:=RR kT3 A2 D2 t1.Dims::RR kT3 A3 D3 t1.Data::V
 refine cN W0 ?_
 refine o_2 ?_
 refine lBx R fun b4=>?_
 refine o_2 ?_
 let W1:=bxl b4 [(sc A2 t1.Dims D2),(sc A3 t1.Data D3)] 58::W0
 refine qN W1 ?_
 refine o_2 ?_
 obtain ⟨r5,hx6,hr⟩:=bd hr
 obtain ⟨r7,hx8,hr⟩:=bd hr
 obtain ⟨r9,hx10,hr⟩:=bd hr
 refine cQ [(2,(.bool ((r5&&((t1.Data.length:Int)==r7))&&r9)))] (W1) ?_ ?_
 rcases bo r5 with hc11 | hc11
 rcases bo (r5&&((t1.Data.length:Int)==r7)) with hc12 | hc12
 refine cdr 18 [] mixo fun ht hn=>?_
 refine d2_ 0 [] ?_
 refine d1 2 R (lM _ (fun w s=>(s.d 1 R)) ?_)
 refine lC 1 cb147 R (Zb_ok hx6) R ?_
 rintro _
 refine lN W1 ?_
 refine l_nil (q_draw (sL []) ?_)
 refine d6_ 3 [] ?_
 refine d1 9 R (lM _ (fun w s=>(s.d 1 R)) ?_)
 refine l_calln 1 R (wnT hc11) cb148 R (Zk_ok (gcall_t hx8 hc11)) R ?_
 rintro _
 refine lN W1 ?_
 refine l_nil (q_draw (sL []) ?_)
 refine d5_ 10 [] ?_
 refine d1 15 R (lM _ (fun w s=>(s.d 2 R)) ?_)
 refine l_calln 1 R (wnT hc12) cb195 R (Z11_ok (gcall_t hx10 hc12)) R ?_
 rintro _
 refine lN W1 ?_
 refine l_nil (q_draw (sL []) ?_)
 refine d2_ 16 [] ?_
 refine dD ?_
 exact qj tI
 refine cdr 18 [] mixo fun ht hn=>?_
 refine d2_ 0 [] ?_
 refine d1 2 R (lM _ (fun w s=>(s.d 1 R)) ?_)
 refine lC 1 cb147 R (Zb_ok hx6) R ?_
 rintro _
 refine lN W1 ?_
 refine l_nil (q_draw (sL []) ?_)
 refine d6_ 3 [] ?_
 refine d1 9 R (lM _ (fun w s=>(s.d 1 R)) ?_)
 refine l_calln 1 R (wnT hc11) cb148 R (Zk_ok (gcall_t hx8 hc11)) R ?_
 rintro _
 refine lN W1 ?_
 refine l_nil (q_draw (sL []) ?_)
 refine d8_ 10 [] ?_
 refine dD ?_
 exact qj tI
 refine cdr 18 [] mixo fun ht hn=>?_
 refine d2_ 0 [] ?_
 refine d1 2 R (lM _ (fun w s=>(s.d 1 R)) ?_)
 refine lC 1 cb147 R (Zb_ok hx6) R ?_
 rintro _
 refine lN W1 ?_
 refine l_nil (q_draw (sL []) ?_)
 refine d15_ 3 [] ?_
 refine dD ?_
 exact qj tI
 rintro σ1
 refine o_2 ?_
 cases hr
 exact qF () (tE 3 [])
theorem Z1h_ok  {k1:leafKind}{n2:Node}{args7:(List (List Int))}{r:(List Int)×Bool}(hr:Z1h k1 n2 args7=some r) :
 FnOk Tryz.prog 192 [(.agg [(.bool k1.data)].toArray),(.agg [(iv n2.Op),(.slice A3 N3 D3),(.slice A4 N4 D4),(.slice A5 N5 D5),(vstr n2.Form),(.slice A6 N6 D6)].toArray),(.slice A8 N8 D8)] [rds kT3 (.slice A3 N3 D3) n2.Args,rds kT3 (.slice A4 N4 D4) n2.Dims,rds kT3 (.slice A5 N5 D5) n2.Ints,rds kT3 (.slice A6 N6 D6) n2.Data,rds kT23 (.slice A8 N8 D8) args7] (fun (h:HH)=>((.tuple [(s3 h),(.bool r.2)].toArray),[rds kT3 (s3 h) r.1])):=by
 unfold Z1h at hr
 refine fn_ok Tryz.func192 R 32 R R fun C V=>?_
 refine cL 0 sees_rd ?_
 rintro rfl
 refine cL 1 sees_rd ?_
 rintro rfl
 refine cL 2 sees_rd ?_
 rintro rfl
 refine cL 3 sees_rd ?_
 rintro rfl
 refine cL 4 sees_rd ?_
 rintro rfl
 let W0:=RR kT3 A3 D3 n2.Args::RR kT3 A4 D4 n2.Dims::RR kT3 A5 D5 n2.Ints::RR kT3 A6 D6 n2.Data::RR kT23 A8 D8 args7::V
 refine cN W0 ?_
 refine o_2 ?_
 refine lBx R fun b9=>?_
 refine lBx R fun b10=>?_
 refine o_3 ?_
 let W1:=bxl b10 [(iv n2.Op),(sc A3 n2.Args D3),(sc A4 n2.Dims D4),(sc A5 n2.Ints D5),(vstr n2.Form),(sc A6 n2.Data D6)] 54::bxl b9 [(.bool k1.data)] 136::W0
 refine qN W1 ?_
 refine o_3 ?_
 obtain ⟨r11,hx12,hr⟩:=bd hr
 obtain ⟨r13,hx14,hr⟩:=bd hr
 refine cQ [(4,(pt b10 0)),(29,(.bool ((((args7.length:Int) != 0)||(!r11))||(k1.data&&(!r13)))))] (W1) ?_ ?_
 refine o_5 ?_
 rcases bo ((args7.length:Int) != 0) with hc15 | hc15
 refine o_19 ?_
 exact qj tI
 refine o_2 ?_
 refine lM _ (fun w s=>(s.d 3 R)) ?_
 refine l_calln 1 R (wnF hc15) cb147 R (Zb_ok (gcall_t hx12 (not_ff hc15))) R ?_
 rintro _
 refine lN W1 ?_
 refine o_3 ?_
 rcases bo (((args7.length:Int) != 0)||(!r11)) with hc16 | hc16
 refine o_13 ?_
 exact qj tI
 refine o_3 ?_
 rcases bo k1.data with hc17 | hc17
 refine o_4 ?_
 refine lW (wnT hc17) (vz (.agg [(sc A4 n2.Dims D4),(sc A6 n2.Data D6)].toArray) (v_build pl58 zc58 R R)) (lM _ (fun w s=>(((s.d 3 R).d 6 R).e 2 [1,0])) ?_)
 refine l_calln 2 R (wnT hc17) cb194 R (Z2i_ok (t1:=(⟨n2.Dims,n2.Data⟩:Tensor)) (gcall_t hx14 (and_tt (not_ff hc16) hc17))) R ?_
 rintro _
 refine lN W1 ?_
 refine o_4 ?_
 exact qj tI
 refine o_10 ?_
 exact qj tI
 rintro σ1
 refine o_1 ?_
 split at hr
 refine o_9 ?_
 cases hr
 exact qT2 (none,0,0) (fun w s=>((s.nilr kT3).e 8 [0]))
 refine o_12 ?_
 cases hr
 exact qT2 (A4,n2.Dims.length,D4) (tE 7 [3])
theorem Z20_ok  {k1:pairKind}{n2:Node}{args7:(List (List Int))}{r:(List Int)×Bool}(hr:Z20 k1 n2 args7=some r) :
 FnOk Tryz.prog 197 [(.agg [(iv k1.op)].toArray),(.agg [(iv n2.Op),(.slice A3 N3 D3),(.slice A4 N4 D4),(.slice A5 N5 D5),(vstr n2.Form),(.slice A6 N6 D6)].toArray),(.slice A8 N8 D8)] [rds kT3 (.slice A3 N3 D3) n2.Args,rds kT3 (.slice A4 N4 D4) n2.Dims,rds kT3 (.slice A5 N5 D5) n2.Ints,rds kT3 (.slice A6 N6 D6) n2.Data,rds kT23 (.slice A8 N8 D8) args7] (fun (h:HH)=>((.tuple [(s3 h),(.bool r.2)].toArray),[rds kT3 (s3 h) r.1])):=by
 unfold Z20 at hr
 refine fn_ok Tryz.func197 R 24 R R fun C V=>?_
 refine cL 0 sees_rd ?_
 rintro rfl
 refine cL 1 sees_rd ?_
 rintro rfl
 refine cL 2 sees_rd ?_
 rintro rfl
 refine cL 3 sees_rd ?_
 rintro rfl
 refine cL 4 sees_rd ?_
 rintro rfl
 let W0:=RR kT3 A3 D3 n2.Args::RR kT3 A4 D4 n2.Dims::RR kT3 A5 D5 n2.Ints::RR kT3 A6 D6 n2.Data::RR kT23 A8 D8 args7::V
 refine cN W0 ?_
 refine o_2 ?_
 refine lBx R fun b9=>?_
 refine lBx R fun b10=>?_
 refine o_3 ?_
 let W1:=bxl b10 [(iv n2.Op),(sc A3 n2.Args D3),(sc A4 n2.Dims D4),(sc A5 n2.Ints D5),(vstr n2.Form),(sc A6 n2.Data D6)] 54::bxl b9 [(iv k1.op)] 138::W0
 refine qN W1 ?_
 refine o_3 ?_
 obtain ⟨hg11,hr⟩:=gd hr
 obtain ⟨hg15,hr⟩:=gd hr
 obtain ⟨r17,hx18,hr⟩:=bd hr
 refine cQ [(2,(sc A8 args7 D8)),(20,(.bool (((args7.length:Int) != 2)||(!r17))))] (W1) ?_ ?_
 rcases bo ((args7.length:Int) != 2) with hc19 | hc19
 refine cdr 13 [] mixo fun ht hn=>?_
 refine d13_ 0 [] ?_
 refine dD ?_
 exact qj tI
 refine c_some 6 sees_rd (show 0<args7.length by have:=(hg11 hc19); omega) (fun g12 o13 ha=>?_)
 subst ha
 refine c_elem (K:=kT23) 6 (0:Int) dT23.dec R (hg11 hc19).1 (hg11 hc19).2 ?_
 rintro ⟨A14,D14⟩
 refine c_elem (K:=kT23) 8 (1:Int) dT23.dec R (hg15 hc19).1 (hg15 hc19).2 ?_
 rintro ⟨A16,D16⟩
 refine cdr 13 [] mixo fun ht hn=>?_
 refine d5_ 0 [] ?_
 refine dW 5 R (wnF hc19) (vIa sl38 sz23 R R (hg11 hc19)) (dW 6 R (wnF hc19) (v_clf (fo:=0) 2 ag23 R R R) (dW 7 R (wnF hc19) (vS R) (dW 8 R (wnF hc19) (vIa sl38 sz23 R R (hg15 hc19)) (dW 9 R (wnF hc19) (v_clf (fo:=0) 0 ag23 R R R) (d1 10 R (lM _ (fun w s=>(((s.d 3 R).d 2 R).e 6 [1,0,2,3,4,5])) ?_))))))
 refine l_calln 2 R (wnF hc19) cb199 R (Z0y_ok (gcall_t hx18 (not_ff hc19))) R ?_
 rintro _
 refine l_nil (q_draw (sL []) ?_)
 refine d2_ 11 [] ?_
 refine dD ?_
 exact qj (tE 4 [])
 rintro σ1
 refine o_1 ?_
 split at hr
 refine o_9 ?_
 cases hr
 exact qT2 (none,0,0) (fun w s=>((s.nilr kT3).e 8 [0]))
 refine o_4 ?_
 obtain ⟨hg21,hr⟩:=gd hr
 refine o_2 ?_
 refine t_some 6 sees_rd (show 0<args7.length by have:=hg21; omega) (fun g22 o23 ha=>?_)
 subst ha
 refine o_1 ?_
 refine t_elem (K:=kT23) 6 (0:Int) dT23.dec R hg21.1 hg21.2 ?_
 rintro ⟨A24,D24⟩
 refine lO (v_clf (fo:=0) 0 ag23 R R R) ?_
 refine o_5 ?_
 cases hr
 exact qT2 (A24,(ix args7 0).length,D24) (tE 9 [1])
theorem Z2r_ok  {k1:soloKind}{n2:Node}{args7:(List (List Int))}{r:(List Int)×Bool}(hr:Z2r k1 n2 args7=some r) :
 FnOk Tryz.prog 200 [(.agg [(iv k1.op)].toArray),(.agg [(iv n2.Op),(.slice A3 N3 D3),(.slice A4 N4 D4),(.slice A5 N5 D5),(vstr n2.Form),(.slice A6 N6 D6)].toArray),(.slice A8 N8 D8)] [rds kT3 (.slice A3 N3 D3) n2.Args,rds kT3 (.slice A4 N4 D4) n2.Dims,rds kT3 (.slice A5 N5 D5) n2.Ints,rds kT3 (.slice A6 N6 D6) n2.Data,rds kT23 (.slice A8 N8 D8) args7] (fun (h:HH)=>((.tuple [(s3 h),(.bool r.2)].toArray),[rds kT3 (s3 h) r.1])):=by
 unfold Z2r at hr
 refine fn_ok Tryz.func200 R 14 R R fun C V=>?_
 refine cL 0 sees_rd ?_
 rintro rfl
 refine cL 1 sees_rd ?_
 rintro rfl
 refine cL 2 sees_rd ?_
 rintro rfl
 refine cL 3 sees_rd ?_
 rintro rfl
 refine cL 4 sees_rd ?_
 rintro rfl
 let W0:=RR kT3 A3 D3 n2.Args::RR kT3 A4 D4 n2.Dims::RR kT3 A5 D5 n2.Ints::RR kT3 A6 D6 n2.Data::RR kT23 A8 D8 args7::V
 refine cN W0 ?_
 refine o_2 ?_
 refine lBx R fun b9=>?_
 refine lBx R fun b10=>?_
 refine o_3 ?_
 let W1:=bxl b10 [(iv n2.Op),(sc A3 n2.Args D3),(sc A4 n2.Dims D4),(sc A5 n2.Ints D5),(vstr n2.Form),(sc A6 n2.Data D6)] 54::bxl b9 [(iv k1.op)] 139::W0
 refine qN W1 ?_
 refine o_9 ?_
 split at hr
 refine o_9 ?_
 cases hr
 exact qT2 (none,0,0) (fun w s=>((s.nilr kT3).e 8 [0]))
 refine o_4 ?_
 obtain ⟨hg12,hr⟩:=gd hr
 refine o_2 ?_
 refine t_some 6 sees_rd (show 0<args7.length by have:=hg12; omega) (fun g13 o14 ha=>?_)
 subst ha
 refine o_1 ?_
 refine t_elem (K:=kT23) 6 (0:Int) dT23.dec R hg12.1 hg12.2 ?_
 rintro ⟨A15,D15⟩
 refine lO (v_clf (fo:=0) 0 ag23 R R R) ?_
 refine o_5 ?_
 cases hr
 exact qT2 (A15,(ix args7 0).length,D15) (tE 9 [1])
theorem Zj_ok  {dims1:(List Int)}{axis3:Int}{r:Bool}(hr:Zj dims1 axis3=some r) :
 FnOk Tryz.prog 150 [(.slice A2 N2 D2),(iv axis3)] [rds kT3 (.slice A2 N2 D2) dims1] (fun (h:Unit)=>((.bool r),[])):=by
 unfold Zj at hr
 refine fn_ok Tryz.func150 R 13 R R fun C V=>?_
 refine cL 0 sees_rd ?_
 rintro rfl
 let W0:=RR kT3 A2 D2 dims1::V
 refine cN W0 ?_
 refine o_6 ?_
 refine cQ [(4,(.bool ((decide (axis3≥0))&&(decide (axis3<(dims1.length:Int))))))] (W0) ?_ ?_
 refine o_4 ?_
 rcases bo (decide (axis3≥0)) with hc4 | hc4
 refine o_7 ?_
 exact qj tI
 refine o_7 ?_
 exact qj tI
 rintro σ1
 refine o_2 ?_
 cases hr
 exact qF () (tE 1 [])
theorem Z1t_ok  {k1:topKind}{n2:Node}{args7:(List (List Int))}{r:(List Int)×Bool}(hr:Z1t k1 n2 args7=some r) :
 FnOk Tryz.prog 202 [(.agg [].toArray),(.agg [(iv n2.Op),(.slice A3 N3 D3),(.slice A4 N4 D4),(.slice A5 N5 D5),(vstr n2.Form),(.slice A6 N6 D6)].toArray),(.slice A8 N8 D8)] [rds kT3 (.slice A3 N3 D3) n2.Args,rds kT3 (.slice A4 N4 D4) n2.Dims,rds kT3 (.slice A5 N5 D5) n2.Ints,rds kT3 (.slice A6 N6 D6) n2.Data,rds kT23 (.slice A8 N8 D8) args7] (fun (h:HH)=>((.tuple [(s3 h),(.bool r.2)].toArray),[rds kT3 (s3 h) r.1])):=by
 unfold Z1t at hr
 refine fn_ok Tryz.func202 R 31 R R fun C V=>?_
 refine cL 0 sees_rd ?_
 rintro rfl
 refine cL 1 sees_rd ?_
 rintro rfl
 refine cL 2 sees_rd ?_
 rintro rfl
 refine cL 3 sees_rd ?_
 rintro rfl
 refine cL 4 sees_rd ?_
 rintro rfl
 let W0:=RR kT3 A3 D3 n2.Args::RR kT3 A4 D4 n2.Dims::RR kT3 A5 D5 n2.Ints::RR kT3 A6 D6 n2.Data::RR kT23 A8 D8 args7::V
 refine cN W0 ?_
 refine o_2 ?_
 refine lBx R fun b9=>?_
 refine lBx R fun b10=>?_
 refine o_3 ?_
 let W1:=bxl b10 [(iv n2.Op),(sc A3 n2.Args D3),(sc A4 n2.Dims D4),(sc A5 n2.Ints D5),(vstr n2.Form),(sc A6 n2.Data D6)] 54::bxl b9 [] 141::W0
 refine qN W1 ?_
 refine o_3 ?_
 obtain ⟨hg11,hr⟩:=gd hr
 obtain ⟨hg15,hr⟩:=gd hr
 obtain ⟨r18,hx19,hr⟩:=bd hr
 refine cQ [(2,(sc A8 args7 D8)),(27,(.bool ((((args7.length:Int) != 1)||((n2.Ints.length:Int) != 1))||(!r18))))] (W1) ?_ ?_
 rcases bo ((args7.length:Int) != 1) with hc20 | hc20
 refine cdr 20 [] mixo fun ht hn=>?_
 refine d20_ 0 [] ?_
 refine dD ?_
 exact qj tI
 rcases bo (((args7.length:Int) != 1)||((n2.Ints.length:Int) != 1)) with hc21 | hc21
 refine cdr 20 [] mixo fun ht hn=>?_
 refine d20_ 0 [] ?_
 refine dD ?_
 exact qj tI
 refine c_some 6 sees_rd (show 0<args7.length by have:=(hg11 hc21); omega) (fun g12 o13 ha=>?_)
 subst ha
 refine c_elem (K:=kT23) 6 (0:Int) dT23.dec R (hg11 hc21).1 (hg11 hc21).2 ?_
 rintro ⟨A14,D14⟩
 refine c_some 6 sees_rd (show 0<n2.Ints.length by have:=(hg15 hc21); omega) (fun g16 o17 ha=>?_)
 subst ha
 refine cdr 20 [] mixo fun ht hn=>?_
 refine d11_ 0 [] ?_
 refine dW 11 R (wnF hc21) (vIa sl38 sz23 R R (hg11 hc21)) (dW 12 R (wnF hc21) (v_clf (fo:=0) 0 ag23 R R R) ?_)
 refine d2_ 13 [] ?_
 refine dW 15 R (wnF hc21) (vIa sl23 sz3 R R (hg15 hc21)) (dW 16 R (wnF hc21) (vLi 6 ag3 sees_rd R (hg15 hc21)) (d1 17 R (lM _ (fun w s=>(s.d 1 R)) ?_)))
 refine l_calln 1 R (wnF hc21) cb150 R (Zj_ok (gcall_t hx19 (not_ff hc21))) R ?_
 rintro _
 refine l_nil (q_draw (sL []) ?_)
 refine d2_ 18 [] ?_
 refine dD ?_
 exact qj (tE 2 [])
 rintro σ1
 refine o_1 ?_
 split at hr
 refine o_9 ?_
 cases hr
 exact qT2 (none,0,0) (fun w s=>((s.nilr kT3).e 8 [0]))
 refine o_4 ?_
 obtain ⟨hg23,hr⟩:=gd hr
 refine o_2 ?_
 refine t_some 6 sees_rd (show 0<args7.length by have:=hg23; omega) (fun g24 o25 ha=>?_)
 subst ha
 refine o_1 ?_
 refine t_elem (K:=kT23) 6 (0:Int) dT23.dec R hg23.1 hg23.2 ?_
 rintro ⟨A26,D26⟩
 refine lO (v_clf (fo:=0) 0 ag23 R R R) ?_
 refine o_5 ?_
 cases hr
 exact qT2 (A26,(ix args7 0).length,D26) (tE 9 [1])
theorem Zc_ok  {form1:Str}{mG:Int}{r:(List Str)×Str×Bool}(hr:Zc form1=some r) :
 FnOk Tryz.prog 207 [(vstr form1)] [gl 0 mG] (fun (h:HH)=>((.tuple [(s3 h),(vstr r.2.1),(.bool r.2.2)].toArray),[rds kT9 (s3 h) r.1])):=by
 unfold Zc at hr
 refine fn_ok Tryz.func207 R 93 R R fun C V=>?_
 let W0:=gl 0 mG::V
 refine cN W0 ?_
 refine o_3 ?_
 refine lO (vp (vstr ([]:Str)) R) ?_
 refine o_4 ?_
 obtain ⟨r2,hx3,hr⟩:=bd hr
 refine c_region (lO (vp (vstr form1) R) (lM _ (fun w s=>(s.dg 0 R)) ?_))
 refine lC 1 cb210 R (Z2x_ok hx3) R ?_
 rintro _
 refine lN W0 ?_
 refine lO (vT R) (lO (vp (vstr r2.1) R) (lO (vp (vstr r2.2.1) R) (lB R (lO (vp (vstr r2.1) R) (lO (vp (vstr r2.2.1) R) ?_)))))
 refine o_5 ?_
 refine cQ [(5,(vstr r2.1)),(6,(vstr r2.2.1)),(25,(.bool ((!r2.2.2)||(decide ((r2.2.1.length:Int)>6)))))] (W0) ?_ ?_
 refine o_4 ?_
 rcases bo (!r2.2.2) with hc4 | hc4
 refine o_5 ?_
 exact qj tI
 refine lW (wnF hc4) (vp (vstr r2.2.1) R) (lW (wnF hc4) (vz (il r2.2.1) (v_slen un9 R)) ?_)
 refine o_3 ?_
 exact qj tI
 rintro σ1
 refine o_1 ?_
 split at hr
 refine o_4 ?_
 refine lO (vp (vstr ([]:Str)) R) ?_
 refine o_5 ?_
 cases hr
 exact qT3 (none,0,0) (fun w s=>((s.nilr kT9).e 2 [0]))
 refine o_4 ?_
 obtain ⟨r6,hx7,hr⟩:=bd hr
 refine c_region (lO (vp (vstr r2.1) R) (lM _ (fun w s=>(s.dg 0 R)) ?_))
 refine lC 1 cb211 R (Z2y_ok hx7) R ?_
 rintro ⟨A8,N8,D8⟩
 refine l_len 0 sees_rd ?_
 rintro rfl
 refine o_11 ?_
 split at hr
 refine o_4 ?_
 refine lO (vp (vstr ([]:Str)) R) ?_
 refine o_5 ?_
 cases hr
 exact qT3 (none,0,0) (fun w s=>((s.nilr kT9).e 3 [0]))
 refine o_4 ?_
 refine c_cut (A:=(Unit)×(HH)) (fun a=>Zc_J3 r2 r6=some r) (fun a=>[(5,(vstr r2.1)),(6,(vstr r2.2.1)),(8,(s3 a.2))]) (fun a=>rds kT9 (s3 a.2) r6::W0) ?_ ?_
 refine o_8 ?_
 obtain ⟨e1,hl1,hk1⟩:=bd hr
 refine c_loop (A:=HH) hl1 (fun s a=>[(5,(vstr r2.1)),(6,(vstr r2.2.1)),(8,(s3 a)),(31,(s3 a)),(32,(il r6)),(33,(iv s))]) (fun s a=>rds kT9 (s3 a) r6::W0) (A8,r6.length,D8) (aS R) tI ?_
 rintro x27 ⟨A26,N26,D26⟩ σ1 out1 hr he1
 dsimp only [Zc_L1] at hr
 refine c_len 0 sees_rd (fun (hn:N26=r6.length)=>?_)
 subst hn
 refine o_6 ?_
 split at hr
 refine o_4 ?_
 refine c_cut (A:=(Unit)×(HH)) (fun a=>Zc_J2 x27=some out1) (fun a=>[(5,(vstr r2.1)),(6,(vstr r2.2.1)),(8,(s3 a.2)),(31,(s3 a.2)),(32,(il r6)),(33,(iv x27))]) (fun a=>rds kT9 (s3 a.2) r6::W0) ?_ ?_
 refine o_2 ?_
 obtain ⟨hg29,hr⟩:=gd hr
 refine c_region (t_some 0 sees_rd (show 0<r6.length by have:=hg29; omega) (fun g30 o31 ha=>?_))
 subst ha
 refine o_1 ?_
 refine lO (vz (vstr (ix r6 x27)) (v_lde (K:=kT9) (fo:=0) (pr:=fun x=>(vstr x)) 0 x27 ag9 (dT9.leaf fun _ _=>R) sees_rd R hg29.1 hg29.2)) (lO (vp (vstr (ix r6 x27)) R) ?_)
 refine o_5 ?_
 refine lO (vp (vstr (ix r6 x27)) R) (lO (vz (il (ix r6 x27)) (v_slen un9 R)) ?_)
 refine o_3 ?_
 split at hr
 refine o_4 ?_
 refine lO (vp (vstr ([]:Str)) R) ?_
 refine o_7 ?_
 cases hr
 obtain rfl:=he1 _ R
 have hr:=hk1
 refine o_3 ?_
 cases hr
 exact qT3 (none,0,0) (fun w s=>((s.nilr kT9).e 3 [0]))
 refine o_9 ?_
 obtain ⟨e2,hl2,hk2⟩:=bd hr
 refine c_loop (A:=Unit) hl2 (fun s a=>[(5,(vstr r2.1)),(6,(vstr r2.2.1)),(8,(sc (ad g30 o31) r6 D26)),(10,(vstr (ix r6 x27))),(11,(iv s)),(31,(sc (ad g30 o31) r6 D26)),(32,(il r6)),(33,(iv x27))]) (fun s a=>RR kT9 (ad g30 o31) D26 r6::W0) () (aS R) tI ?_
 rintro i37 _ σ1 out2 hr he2
 dsimp only [Zc_L2] at hr
 refine o_4 ?_
 refine lO (vp (vstr (ix r6 x27)) R) (lO (vz (il (ix r6 x27)) (v_slen un9 R)) ?_)
 refine o_3 ?_
 split at hr
 refine o_6 ?_
 obtain ⟨hg39,hr⟩:=gd hr
 refine cQ [(5,(vstr r2.1)),(6,(vstr r2.2.1)),(8,(sc (ad g30 o31) r6 D26)),(10,(vstr (ix r6 x27))),(11,(iv i37)),(31,(sc (ad g30 o31) r6 D26)),(32,(il r6)),(33,(iv x27)),(55,(.bool ((decide ((bt (ix r6 x27) i37)<97))||(decide ((bt (ix r6 x27) i37)>122)))))] (RR kT9 (ad g30 o31) D26 r6::W0) ?_ ?_
 refine c_region (lO (vp (vstr (ix r6 x27)) R) (lI R (lO (vz (.int .u8 (bt (ix r6 x27) i37)) (v_sindex un9 R R hg39.1 hg39.2)) (lO (vp (.bool (decide ((bt (ix r6 x27) i37)<97))) R) (lB R ?_)))))
 rcases bo (decide ((bt (ix r6 x27) i37)<97)) with hc40 | hc40
 refine o_6 ?_
 exact qj tI
 refine lW (wnF hc40) (vp (vstr (ix r6 x27)) R) (lW (wnF hc40) (vI R) (lW (wnF hc40) (vz (.int .u8 (bt (ix r6 x27) i37)) (v_sindex un9 R R hg39.1 hg39.2)) (lW (wnF hc40) (vp (.bool (decide ((bt (ix r6 x27) i37)>122))) R) ?_)))
 refine o_2 ?_
 exact qj tI
 rintro σ1
 refine o_1 ?_
 split at hr
 refine o_4 ?_
 refine lO (vp (vstr ([]:Str)) R) ?_
 refine o_6 ?_
 cases hr
 obtain rfl:=he2 _ R
 have hr:=hk2
 refine o_4 ?_
 cases hr
 obtain rfl:=he1 _ R
 have hr:=hk1
 refine o_3 ?_
 cases hr
 exact qT3 (none,0,0) (fun w s=>((s.nilr kT9).e 3 [0]))
 refine o_9 ?_
 cases hr
 exact qA () tI
 refine o_3 ?_
 cases hr
 obtain rfl:=he2 _ R
 have hr:=hk2
 refine o_3 ?_
 exact qI ((),((ad g30 o31),r6.length,D26)) hr tI
 rintro ⟨_,⟨A43,N43,D43⟩⟩ σ1 hr
 dsimp only [Zc_J2] at hr
 refine c_len 0 sees_rd (fun (hn:N43=r6.length)=>?_)
 subst hn
 refine o_4 ?_
 cases hr
 exact qA (A43,r6.length,D43) tI
 refine o_3 ?_
 cases hr
 obtain rfl:=he1 _ R
 have hr:=hk1
 refine o_2 ?_
 exact qI ((),(A26,r6.length,D26)) hr tI
 rintro ⟨_,⟨A46,N46,D46⟩⟩ σ1 hr
 dsimp only [Zc_J3] at hr
 refine c_len 0 sees_rd (fun (hn:N46=r6.length)=>?_)
 subst hn
 refine c_seq (c_cut (A:=(Unit)×(Unit)) (fun a=>Zc_J4 r2 r6=some r) (fun a=>[(6,(vstr r2.2.1)),(8,(sc A46 r6 D46))]) (fun a=>RR kT9 A46 D46 r6::W0) ?_ ?_)
 refine o_6 ?_
 obtain ⟨e3,hl3,hk3⟩:=bd hr
 refine c_loop (A:=Unit) hl3 (fun s a=>[(5,(vstr r2.1)),(6,(vstr r2.2.1)),(8,(sc A46 r6 D46)),(12,(iv s))]) (fun s a=>RR kT9 A46 D46 r6::W0) () (aS R) tI ?_
 rintro i58 _ σ1 out3 hr he3
 dsimp only [Zc_L3] at hr
 refine o_4 ?_
 refine lO (vp (vstr r2.2.1) R) (lO (vz (il r2.2.1) (v_slen un9 R)) ?_)
 refine o_3 ?_
 split at hr
 refine o_6 ?_
 obtain ⟨hg60,hr⟩:=gd hr
 obtain ⟨hg61,hr⟩:=gd hr
 obtain ⟨r62,hx63,hr⟩:=bd hr
 obtain ⟨r64,hx65,hr⟩:=bd hr
 refine cQ [(5,(vstr r2.1)),(6,(vstr r2.2.1)),(8,(sc A46 r6 D46)),(12,(iv i58)),(90,(.bool ((((decide ((bt r2.2.1 i58)<97))||(decide ((bt r2.2.1 i58)>122)))||(decide (r62≥0)))||(decide (r64<0)))))] (RR kT9 A46 D46 r6::W0) ?_ ?_
 rcases bo (decide ((bt r2.2.1 i58)<97)) with hc66 | hc66
 refine cdr 28 [] mixo fun ht hn=>?_
 refine dR 0 R (vp (vstr r2.2.1) R) (dR 1 R (vI R) (dR 2 R (vz (.int .u8 (bt r2.2.1 i58)) (v_sindex un9 R R hg60.1 hg60.2)) (dR 3 R (vp (.bool (decide ((bt r2.2.1 i58)<97))) R) ?_)))
 refine d24_ 4 [] ?_
 refine dD ?_
 exact qj tI
 rcases bo ((decide ((bt r2.2.1 i58)<97))||(decide ((bt r2.2.1 i58)>122))) with hc67 | hc67
 refine cdr 28 [] mixo fun ht hn=>?_
 refine dR 0 R (vp (vstr r2.2.1) R) (dR 1 R (vI R) (dR 2 R (vz (.int .u8 (bt r2.2.1 i58)) (v_sindex un9 R R hg60.1 hg60.2)) (dR 3 R (vp (.bool (decide ((bt r2.2.1 i58)<97))) R) (dR 4 R (vB R) (dW 5 R (wnF hc66) (vp (vstr r2.2.1) R) (dW 6 R (wnF hc66) (vI R) (dW 7 R (wnF hc66) (vz (.int .u8 (bt r2.2.1 i58)) (v_sindex un9 R R hg60.1 hg60.2)) (dW 8 R (wnF hc66) (vp (.bool (decide ((bt r2.2.1 i58)>122))) R) ?_))))))))
 refine d19_ 9 [] ?_
 refine dD ?_
 exact qj tI
 rcases bo (((decide ((bt r2.2.1 i58)<97))||(decide ((bt r2.2.1 i58)>122)))||(decide (r62≥0))) with hc68 | hc68
 refine cdr 28 [] mixo fun ht hn=>?_
 refine dR 0 R (vp (vstr r2.2.1) R) (dR 1 R (vI R) (dR 2 R (vz (.int .u8 (bt r2.2.1 i58)) (v_sindex un9 R R hg60.1 hg60.2)) (dR 3 R (vp (.bool (decide ((bt r2.2.1 i58)<97))) R) (dR 4 R (vB R) (dW 5 R (wnF hc66) (vp (vstr r2.2.1) R) (dW 6 R (wnF hc66) (vI R) (dW 7 R (wnF hc66) (vz (.int .u8 (bt r2.2.1 i58)) (v_sindex un9 R R hg60.1 hg60.2)) (dW 8 R (wnF hc66) (vp (.bool (decide ((bt r2.2.1 i58)>122))) R) ?_))))))))
 refine d2_ 9 [] ?_
 refine dW 11 R (wnF hc67) (vp (vstr r2.2.1) R) (dW 12 R (wnF hc67) (vI R) (dW 13 R (wnF hc67) (vz (vstr (sub r2.2.1 (0:Int) i58)) (v_scut (0:Int) i58 un9 R R R (hg61 hc67).1 (hg61 hc67).2.1 (hg61 hc67).2.2)) (dW 14 R (wnF hc67) (vp (vstr r2.2.1) R) (dW 15 R (wnF hc67) (vI R) (dW 16 R (wnF hc67) (vz (.int .u8 (bt r2.2.1 i58)) (v_sindex un9 R R hg60.1 hg60.2)) (d1 17 R (l_calln 0 R (wnF hc67) cb208 R (Z1q_ok (gcall_t hx63 (not_ff hc67))) R ?_)))))))
 rintro _
 refine l_nil (q_draw (sL []) ?_)
 refine d10_ 18 [] ?_
 refine dD ?_
 exact qj tI
 refine cdr 28 [] mixo fun ht hn=>?_
 refine dR 0 R (vp (vstr r2.2.1) R) (dR 1 R (vI R) (dR 2 R (vz (.int .u8 (bt r2.2.1 i58)) (v_sindex un9 R R hg60.1 hg60.2)) (dR 3 R (vp (.bool (decide ((bt r2.2.1 i58)<97))) R) (dR 4 R (vB R) (dW 5 R (wnF hc66) (vp (vstr r2.2.1) R) (dW 6 R (wnF hc66) (vI R) (dW 7 R (wnF hc66) (vz (.int .u8 (bt r2.2.1 i58)) (v_sindex un9 R R hg60.1 hg60.2)) (dW 8 R (wnF hc66) (vp (.bool (decide ((bt r2.2.1 i58)>122))) R) ?_))))))))
 refine d2_ 9 [] ?_
 refine dW 11 R (wnF hc67) (vp (vstr r2.2.1) R) (dW 12 R (wnF hc67) (vI R) (dW 13 R (wnF hc67) (vz (vstr (sub r2.2.1 (0:Int) i58)) (v_scut (0:Int) i58 un9 R R R (hg61 hc67).1 (hg61 hc67).2.1 (hg61 hc67).2.2)) (dW 14 R (wnF hc67) (vp (vstr r2.2.1) R) (dW 15 R (wnF hc67) (vI R) (dW 16 R (wnF hc67) (vz (.int .u8 (bt r2.2.1 i58)) (v_sindex un9 R R hg60.1 hg60.2)) (d1 17 R (l_calln 0 R (wnF hc67) cb208 R (Z1q_ok (gcall_t hx63 (not_ff hc67))) R ?_)))))))
 rintro _
 refine l_nil (q_draw (sL []) ?_)
 refine d3_ 18 [] ?_
 refine dW 21 R (wnF hc68) (vp (vstr r2.1) R) (dW 22 R (wnF hc68) (vp (vstr r2.2.1) R) (dW 23 R (wnF hc68) (vI R) (dW 24 R (wnF hc68) (vz (.int .u8 (bt r2.2.1 i58)) (v_sindex un9 R R hg60.1 hg60.2)) (d1 25 R (l_calln 0 R (wnF hc68) cb208 R (Z1q_ok (gcall_t hx65 (not_ff hc68))) R ?_)))))
 rintro _
 refine l_nil (q_draw (sL []) ?_)
 refine d2_ 26 [] ?_
 refine dD ?_
 exact qj tI
 rintro σ1
 refine o_1 ?_
 split at hr
 refine o_4 ?_
 refine lO (vp (vstr ([]:Str)) R) ?_
 refine o_6 ?_
 cases hr
 obtain rfl:=he3 _ R
 have hr:=hk3
 refine o_3 ?_
 cases hr
 exact qT3 (none,0,0) (fun w s=>((s.nilr kT9).e 3 [0]))
 refine o_9 ?_
 cases hr
 exact qA () tI
 refine o_3 ?_
 cases hr
 obtain rfl:=he3 _ R
 have hr:=hk3
 refine o_2 ?_
 exact qI ((),()) hr tI
 rintro ⟨_,_⟩ σ1 hr
 dsimp only [Zc_J4] at hr
 refine o_3 ?_
 refine lO (vp (vstr r2.2.1) R) (lS R (lO (vp (vstr r2.2.1) R) ?_))
 refine o_4 ?_
 cases hr
 exact qT3 (A46,r6.length,D46) (tE 2 [0])
theorem Z04_ok  {dims1:(List Int)}{r:(List Int)}(hr:Z04 dims1=some r) :
 FnOk Tryz.prog 164 [(.slice A2 N2 D2)] [rds kT3 (.slice A2 N2 D2) dims1] (fun (h:HH)=>((s3 h),[ow kT3 3 (s3 h) r])):=by
 unfold Z04 at hr
 refine fn_ok Tryz.func164 R 32 R R fun C V=>?_
 refine cL 0 sees_rd ?_
 rintro rfl
 let W0:=RR kT3 A2 D2 dims1::V
 refine cN W0 ?_
 refine o_6 ?_
 obtain ⟨hg3,hr⟩:=gd hr
 refine o_3 ?_
 refine l_make (K:=kT3) (m:=(dims1.length:Int)) (z:=(0:Int)) R R sl23 sz3 by3 (Zr.zk zT3 zc3) (by decide) R R hg3.1 hg3.2.1 hg3.2.2 (fun A4 D4=>(lS R (l_nil (q_next (c_seq (c_region (lI R (l_nil (q_next (c_seq (c_cut (A:=((List Int))×(Unit)) (fun a=>Z04_J3 a.1=some r) (fun a=>[(3,(sc A4 (List.replicate (dims1.length:Int).toNat (0:Int)) D4))]) (fun a=>ow kT3 3 (.slice A4 (List.replicate (dims1.length:Int).toNat (0:Int)).length D4) a.1::W0) ?_ ?_)))))))))))
 refine o_9 ?_
 obtain ⟨e1,hl1,hk1⟩:=bd hr
 refine c_loop (A:=Unit) hl1 (fun s a=>[(0,(sc A2 dims1 D2)),(3,(sc A4 (List.replicate (dims1.length:Int).toNat (0:Int)) D4)),(4,(iv s.2.1)),(5,(iv s.2.2))]) (fun s a=>ow kT3 3 (.slice A4 (List.replicate (dims1.length:Int).toNat (0:Int)).length D4) s.1::W0) () (aS R) tI ?_
 rintro ⟨x19,n20,i21⟩ _ σ1 out1 hr he1
 dsimp only [Z04_L1] at hr
 refine o_7 ?_
 split at hr
 refine o_6 ?_
 refine c_cut (A:=((List Int))×(Unit)) (fun a=>Z04_J2 dims1 n20 i21 a.1=some out1) (fun a=>[(0,(sc A2 dims1 D2)),(3,(sc A4 (List.replicate (dims1.length:Int).toNat (0:Int)) D4)),(4,(iv n20)),(5,(iv i21))]) (fun a=>ow kT3 3 (.slice A4 (List.replicate (dims1.length:Int).toNat (0:Int)).length D4) a.1::W0) ?_ ?_
 refine o_1 ?_
 obtain ⟨hg23,hr⟩:=gd hr
 refine o_3 ?_
 refine t_some 1 sees_rd (show 0<dims1.length by have:=hg23; omega) (fun g24 o25 ha=>?_)
 subst ha
 refine o_5 ?_
 split at hr
 refine o_1 ?_
 obtain ⟨hg27,hr⟩:=gd hr
 refine o_4 ?_
 refine t_some 0 sees_ow (show 0<(List.replicate (dims1.length:Int).toNat (0:Int)).length by have:=hg27; omega) (fun g28 o29 ha=>?_)
 subst ha
 refine o_1 ?_
 refine l_stx (K:=kT3) (x':=n20) 0 i21 R R sz3 R R hg27.1 hg27.2 ?_ ?_
 exact fun I h s=>(mO3).put I h () n20 s
 refine o_1 ?_
 exact qI ((x19.set i21.toNat n20),()) hr tI
 refine o_2 ?_
 exact qI (x19,()) hr tI
 rintro ⟨x30,_⟩ σ1 hr
 dsimp only [Z04_J2] at hr
 obtain ⟨hg31,hr⟩:=gd hr
 refine o_4 ?_
 refine t_some 1 sees_rd (show 0<dims1.length by have:=hg31; omega) (fun g32 o33 ha=>?_)
 subst ha
 refine o_12 ?_
 cases hr
 exact qA () tI
 refine o_3 ?_
 cases hr
 obtain rfl:=he1 _ R
 have hr:=hk1
 refine o_2 ?_
 exact qI (x19,()) hr tI
 rintro ⟨x37,_⟩ σ1 hr
 dsimp only [Z04_J3] at hr
 refine o_7 ?_
 cases hr
 exact qF (A4,(List.replicate (dims1.length:Int).toNat (0:Int)).length,D4) (tE 2 [0])
theorem Zi_ok  {f1:form}{group7:Str}{plain8:(List Int)}{r:(List Int)}(hr:Zi f1 group7 plain8=some r) :
 FnOk Tryz.prog 209 [(.agg [(.slice A2 N2 D2),(vstr f1.out_),(vstr f1.order),(.slice A3 N3 D3),(.slice A4 N4 D4),(.slice A5 N5 D5),(.slice A6 N6 D6)].toArray),(vstr group7),(.slice A9 N9 D9)] [rds kT9 (.slice A2 N2 D2) f1.groups,rds kT3 (.slice A3 N3 D3) f1.loops,rds kT3 (.slice A4 N4 D4) f1.dims,rds kT23 (.slice A5 N5 D5) f1.steps,rds kT3 (.slice A6 N6 D6) f1.store,rds kT3 (.slice A9 N9 D9) plain8] (fun (h:HH)=>((s3 h),[ow kT3 3 (s3 h) r])):=by
 unfold Zi at hr
 refine fn_ok Tryz.func209 R 45 R R fun C V=>?_
 refine cL 0 sees_rd ?_
 rintro rfl
 refine cL 1 sees_rd ?_
 rintro rfl
 refine cL 2 sees_rd ?_
 rintro rfl
 refine cL 3 sees_rd ?_
 rintro rfl
 refine cL 4 sees_rd ?_
 rintro rfl
 refine cL 5 sees_rd ?_
 rintro rfl
 let W0:=RR kT9 A2 D2 f1.groups::RR kT3 A3 D3 f1.loops::RR kT3 A4 D4 f1.dims::RR kT23 A5 D5 f1.steps::RR kT3 A6 D6 f1.store::RR kT3 A9 D9 plain8::V
 refine cN W0 ?_
 refine o_2 ?_
 refine lBx R fun b10=>?_
 refine o_2 ?_
 let W1:=bxl b10 [(sc A2 f1.groups D2),(vstr f1.out_),(vstr f1.order),(sc A3 f1.loops D3),(sc A4 f1.dims D4),(sc A5 f1.steps D5),(sc A6 f1.store D6)] 192::W0
 refine qN W1 ?_
 refine o_2 ?_
 obtain ⟨hg11,hr⟩:=gd hr
 refine o_3 ?_
 refine lO (vz (il f1.order) (v_slen un9 R)) (l_make (K:=kT3) (m:=(f1.order.length:Int)) (z:=(0:Int)) R R sl23 sz3 by3 (Zr.zk zT3 zc3) (by decide) R R hg11.1 hg11.2.1 hg11.2.2 (fun A12 D12=>(lS R (l_nil (q_next (c_seq (c_cut (A:=((List Int))×(Unit)) (fun a=>Zi_J7 a.1=some r) (fun a=>[(7,(sc A12 (List.replicate (f1.order.length:Int).toNat (0:Int)) D12))]) (fun a=>ow kT3 3 (.slice A12 (List.replicate (f1.order.length:Int).toNat (0:Int)).length D12) a.1::W1) ?_ ?_)))))))
 refine o_8 ?_
 obtain ⟨e1,hl1,hk1⟩:=bd hr
 refine c_loop (A:=Unit) hl1 (fun s a=>[(1,(vstr group7)),(2,(sc A9 plain8 D9)),(3,(pt b10 0)),(7,(sc A12 (List.replicate (f1.order.length:Int).toNat (0:Int)) D12)),(15,(il (List.replicate (f1.order.length:Int).toNat (0:Int)))),(16,(iv s.2))]) (fun s a=>ow kT3 3 (.slice A12 (List.replicate (f1.order.length:Int).toNat (0:Int)).length D12) s.1::W1) () (aS R) tI ?_
 rintro ⟨x45,x46⟩ _ σ1 out1 hr he1
 dsimp only [Zi_L1] at hr
 refine o_6 ?_
 split at hr
 refine o_4 ?_
 refine c_cut (A:=((List Int))×(Unit)) (fun a=>Zi_J6 x46 a.1=some out1) (fun a=>[(1,(vstr group7)),(2,(sc A9 plain8 D9)),(3,(pt b10 0)),(7,(sc A12 (List.replicate (f1.order.length:Int).toNat (0:Int)) D12)),(15,(il (List.replicate (f1.order.length:Int).toNat (0:Int)))),(16,(iv x46))]) (fun a=>ow kT3 3 (.slice A12 (List.replicate (f1.order.length:Int).toNat (0:Int)).length D12) a.1::W1) ?_ ?_
 refine o_13 ?_
 obtain ⟨e2,hl2,hk2⟩:=bd hr
 refine c_loop (A:=Unit) hl2 (fun s a=>[(1,(vstr group7)),(2,(sc A9 plain8 D9)),(3,(pt b10 0)),(7,(sc A12 (List.replicate (f1.order.length:Int).toNat (0:Int)) D12)),(8,(iv x46)),(9,(iv s.2)),(15,(il (List.replicate (f1.order.length:Int).toNat (0:Int)))),(16,(iv x46))]) (fun s a=>ow kT3 3 (.slice A12 (List.replicate (f1.order.length:Int).toNat (0:Int)).length D12) s.1::W1) () (aS R) tI ?_
 rintro ⟨x61,k62⟩ _ σ1 out2 hr he2
 dsimp only [Zi_L2] at hr
 refine o_4 ?_
 refine lO (vp (vstr group7) R) (lO (vz (il group7) (v_slen un9 R)) ?_)
 refine o_3 ?_
 split at hr
 refine o_4 ?_
 refine c_cut (A:=((List Int))×(Unit)) (fun a=>Zi_J5 k62 a.1=some out2) (fun a=>[(1,(vstr group7)),(2,(sc A9 plain8 D9)),(3,(pt b10 0)),(7,(sc A12 (List.replicate (f1.order.length:Int).toNat (0:Int)) D12)),(8,(iv x46)),(9,(iv k62)),(15,(il (List.replicate (f1.order.length:Int).toNat (0:Int)))),(16,(iv x46))]) (fun a=>ow kT3 3 (.slice A12 (List.replicate (f1.order.length:Int).toNat (0:Int)).length D12) a.1::W1) ?_ ?_
 refine o_2 ?_
 obtain ⟨hg64,hr⟩:=gd hr
 obtain ⟨hg65,hr⟩:=gd hr
 refine cdr 8 [] mixo fun ht hn=>?_
 refine dR 0 R (vp (vstr group7) R) (dR 1 R (vI R) (dR 2 R (vz (.int .u8 (bt group7 k62)) (v_sindex un9 R R hg64.1 hg64.2)) ?_))
 refine d3_ 3 [] ?_
 refine dR 6 R (vz (.int .u8 (bt f1.order x46)) (v_sindex un9 R R hg65.1 hg65.2)) (dR 7 R (vp (.bool ((bt group7 k62)==(bt f1.order x46))) R) (dD (q_next ?_)))
 split at hr
 refine o_1 ?_
 obtain ⟨hg67,hr⟩:=gd hr
 obtain ⟨hg70,hr⟩:=gd hr
 refine c_some 0 sees_ow (show 0<(List.replicate (f1.order.length:Int).toNat (0:Int)).length by have:=hg67; omega) (fun g68 o69 ha=>?_)
 subst ha
 refine c_some 7 sees_rd (show 0<plain8.length by have:=hg70; omega) (fun g71 o72 ha=>?_)
 subst ha
 refine cdr 11 [0] mixo fun ht hn=>?_
 refine d3_ 0 [0] ?_
 refine d4_ 4 [0] ?_
 refine d1 3 R (lO (vLi 0 ag3 sees_ow R hg67) (l_nil (q_draw (sL [0]) ?_)))
 refine d2_ 8 [0] ?_
 refine d1 10 R (lN (ow kT3 3 (.slice (ad g68 o69) (List.replicate (f1.order.length:Int).toNat (0:Int)).length D12) x61::W1) ?_)
 refine l_stx (K:=kT3) (x':=(w64 ((ix x61 x46)+(ix plain8 k62)))) 0 x46 R R sz3 R R hg67.1 hg67.2 ?_ ?_
 exact fun I h s=>(mO3).put I h () (w64 ((ix x61 x46)+(ix plain8 k62))) s
 refine l_nil (q_draw (sL [0]) (dD (q_blockn ?_)))
 exact qI ((x61.set x46.toNat (w64 ((ix x61 x46)+(ix plain8 k62)))),()) hr tI
 refine o_3 ?_
 exact qI (x61,()) hr tI
 rintro ⟨x73,_⟩ σ1 hr
 dsimp only [Zi_J5] at hr
 refine o_5 ?_
 cases hr
 exact qA () tI
 refine o_3 ?_
 cases hr
 obtain rfl:=he2 _ R
 have hr:=hk2
 refine o_3 ?_
 exact qI (x61,()) hr tI
 rintro ⟨x76,_⟩ σ1 hr
 dsimp only [Zi_J6] at hr
 refine o_4 ?_
 cases hr
 exact qA () tI
 refine o_3 ?_
 cases hr
 obtain rfl:=he1 _ R
 have hr:=hk1
 refine o_2 ?_
 exact qI (x45,()) hr tI
 rintro ⟨x79,_⟩ σ1 hr
 dsimp only [Zi_J7] at hr
 refine o_7 ?_
 cases hr
 exact qF (A12,(List.replicate (f1.order.length:Int).toNat (0:Int)).length,D12) (tE 8 [0])
theorem Z3_ok  {text1:Str}{shapes2:(List (List Int))}{mG:Int}{r:form×Bool}(hr:Z3 text1 shapes2=some r) :
 FnOk Tryz.prog 206 [(vstr text1),(.slice A3 N3 D3)] [rds kT23 (.slice A3 N3 D3) shapes2,gl 0 mG] (fun (h:HH×HH×HH×HH×HH)=>((.tuple [(.agg [(s3 h.1),(vstr r.1.out_),(vstr r.1.order),(s3 h.2.1),(s3 h.2.2.1),(s3 h.2.2.2.1),(s3 h.2.2.2.2)].toArray),(.bool r.2)].toArray),[rds kT9 (s3 h.1) r.1.groups,rds kT3 (s3 h.2.1) r.1.loops,ow kT3 3 (s3 h.2.2.1) r.1.dims,ow kT23 23 (s3 h.2.2.2.1) r.1.steps,ow kT3 3 (s3 h.2.2.2.2) r.1.store])):=by
 unfold Z3 at hr
 refine fn_ok Tryz.func206 R 179 R R fun C V=>?_
 refine cL 0 sees_rd ?_
 rintro rfl
 let W0:=RR kT23 A3 D3 shapes2::gl 0 mG::V
 refine cN W0 ?_
 refine o_2 ?_
 refine l_alloc R R zc192 (fun b4=>(lB R (l_nil (q_next (c_seq ?_)))))
 obtain ⟨r5,hx6,hr⟩:=bd hr
 refine c_region (lO (vp (vstr text1) R) (lM (gl 0 mG::_::W0) (fun w s=>(s.dg 2 R)) ?_))
 refine lC 1 cb207 R (Zc_ok hx6) R ?_
 rintro ⟨A7,N7,D7⟩
 refine l_len 0 sees_rd ?_
 rintro rfl
 refine lO (vT R) (lS R (lO (vp (vstr r5.2.1) R) (lB R (lS R (lO (vp (vstr r5.2.1) R) ?_)))))
 refine o_5 ?_
 refine cQ [(1,(sc A3 shapes2 D3)),(4,(pt b4 0)),(6,(sc A7 r5.1 D7)),(7,(vstr r5.2.1)),(34,(.bool ((!r5.2.2)||((r5.1.length:Int) != (shapes2.length:Int)))))] (bxl b4 [(.slice none 0 0),(vstr ([]:Str)),(vstr ([]:Str)),(.slice none 0 0),(.slice none 0 0),(.slice none 0 0),(.slice none 0 0)] 192::RR kT9 A7 D7 r5.1::W0) ?_ ?_
 refine o_4 ?_
 rcases bo (!r5.2.2) with hc8 | hc8
 refine o_7 ?_
 exact qj (tE 2 [1,0])
 refine o_7 ?_
 exact qj (tE 2 [1,0])
 rintro σ1
 refine o_1 ?_
 split at hr
 refine o_3 ?_
 refine lO (vz (.agg [(.slice none 0 0),(vstr ([]:Str)),(vstr ([]:Str)),(.slice none 0 0),(.slice none 0 0),(.slice none 0 0),(.slice none 0 0)].toArray) (v_build pl192 zc192 R R)) (l_stores 0 R R sz192 R R R R R R (lB R (l_nil (q_next (c_ret (q_ret ?_))))))
 cases hr
 exact q_fin (vs:=[(.agg [(.slice none 0 0),(vstr ([]:Str)),(vstr ([]:Str)),(.slice none 0 0),(.slice none 0 0),(.slice none 0 0),(.slice none 0 0)].toArray),(.bool false)]) (.inl R) ((none,0,0),(none,0,0),(none,0,0),(none,0,0),(none,0,0)) R ⟨⟨0,b4,_,_,R,R,.inl ⟨ag192,sz192,R⟩⟩,R,trivial⟩ R (fun w s=>((((((s.nilr kT9).nilr kT3).nilo kT3 3).nilo kT23 23).nilo kT3 3).e 9 [4,3,2,1,0]))
 refine o_6 ?_
 refine lO (vp (vstr r5.2.1) R) (lO (vp (vstr r5.2.1) R) (lO (vz (.agg [(sc A7 r5.1 D7),(vstr r5.2.1),(vstr r5.2.1),(.slice none 0 0),(.slice none 0 0),(.slice none 0 0),(.slice none 0 0)].toArray) (v_build pl192 zc192 R R)) (l_alloc R R zc192 (fun b10=>(l_stores 0 R R sz192 R R R R R R (lN (bxl b10 [(sc A7 r5.1 D7),(vstr r5.2.1),(vstr r5.2.1),(.slice none 0 0),(.slice none 0 0),(.slice none 0 0),(.slice none 0 0)] 192::_::_::W0) ?_))))))
 refine o_4 ?_
 refine lO (vz (.agg [(iv 0),(iv 0),(iv 0),(iv 0),(iv 0),(iv 0),(iv 0),(iv 0),(iv 0),(iv 0),(iv 0),(iv 0),(iv 0),(iv 0),(iv 0),(iv 0),(iv 0),(iv 0),(iv 0),(iv 0),(iv 0),(iv 0),(iv 0),(iv 0),(iv 0),(iv 0)].toArray) (v_zarr ar195 zc195 sz3)) (l_alloc R R zc195 (fun b11=>(l_stores 0 R R sz195 R R R R R R (l_nil (qM (ow kT3 195 (.slice (ad b11 0) 26 26) (List.replicate 26 (0:Int))::_::_::_::W0) (fun w s=>s.b2o 0 (List.replicate 26 (0:Int)) R R R R) ?_)))))
 refine o_2 ?_
 refine c_cut (A:=(Str×(List Int))×(HH×HH)) (fun a=>Z3_J7 shapes2 r5 a.1.1 a.1.2=some r) (fun a=>[(1,(s3 a.2.1)),(4,(pt b4 0)),(6,(s3 a.2.2)),(7,(vstr r5.2.1)),(9,(pt b10 0)),(10,(pt b11 0))]) (fun a=>rds kT23 (s3 a.2.1) shapes2::bxl b4 [(.slice none 0 0),(vstr ([]:Str)),(vstr ([]:Str)),(.slice none 0 0),(.slice none 0 0),(.slice none 0 0),(.slice none 0 0)] 192::rds kT9 (s3 a.2.2) r5.1::bxl b10 [(s3 a.2.2),(vstr r5.2.1),(vstr a.1.1),(.slice none 0 0),(.slice none 0 0),(.slice none 0 0),(.slice none 0 0)] 192::ow kT3 195 (.slice (ad b11 0) 26 26) a.1.2::W0) ?_ ?_
 refine o_8 ?_
 obtain ⟨e1,hl1,hk1⟩:=bd hr
 refine c_loop (A:=HH×HH) hl1 (fun s a=>[(1,(s3 a.1)),(4,(pt b4 0)),(6,(s3 a.2)),(7,(vstr r5.2.1)),(9,(pt b10 0)),(10,(pt b11 0)),(41,(s3 a.2)),(42,(il r5.1)),(43,(iv s.2.2))]) (fun s a=>rds kT23 (s3 a.1) shapes2::bxl b4 [(.slice none 0 0),(vstr ([]:Str)),(vstr ([]:Str)),(.slice none 0 0),(.slice none 0 0),(.slice none 0 0),(.slice none 0 0)] 192::rds kT9 (s3 a.2) r5.1::bxl b10 [(s3 a.2),(vstr r5.2.1),(vstr s.1),(.slice none 0 0),(.slice none 0 0),(.slice none 0 0),(.slice none 0 0)] 192::ow kT3 195 (.slice (ad b11 0) 26 26) s.2.1::W0) ((A3,shapes2.length,D3),(A7,r5.1.length,D7)) (aS R) (fun w s=>((s.d 4 R).e 5 [0,3,4,2,1])) ?_
 rintro ⟨f77,lens78,x79⟩ ⟨⟨A75,N75,D75⟩,⟨A76,N76,D76⟩⟩ σ1 out1 hr he1
 dsimp only [Z3_L1] at hr
 refine c_len 0 sees_rd (fun (hn:N75=shapes2.length)=>?_)
 subst hn
 refine c_len 2 sees_rd (fun (hn:N76=r5.1.length)=>?_)
 subst hn
 refine o_6 ?_
 split at hr
 refine o_4 ?_
 refine c_cut (A:=(Str×(List Int))×(HH×HH)) (fun a=>Z3_J6 x79 a.1.1 a.1.2=some out1) (fun a=>[(1,(s3 a.2.1)),(4,(pt b4 0)),(6,(s3 a.2.2)),(7,(vstr r5.2.1)),(9,(pt b10 0)),(10,(pt b11 0)),(41,(s3 a.2.2)),(42,(il r5.1)),(43,(iv x79))]) (fun a=>rds kT23 (s3 a.2.1) shapes2::bxl b4 [(.slice none 0 0),(vstr ([]:Str)),(vstr ([]:Str)),(.slice none 0 0),(.slice none 0 0),(.slice none 0 0),(.slice none 0 0)] 192::rds kT9 (s3 a.2.2) r5.1::bxl b10 [(s3 a.2.2),(vstr r5.2.1),(vstr a.1.1),(.slice none 0 0),(.slice none 0 0),(.slice none 0 0),(.slice none 0 0)] 192::ow kT3 195 (.slice (ad b11 0) 26 26) a.1.2::W0) ?_ ?_
 refine o_2 ?_
 obtain ⟨hg81,hr⟩:=gd hr
 refine o_2 ?_
 refine t_some 2 sees_rd (show 0<r5.1.length by have:=hg81; omega) (fun g82 o83 ha=>?_)
 subst ha
 refine o_1 ?_
 refine lO (vz (vstr (ix r5.1 x79)) (v_lde (K:=kT9) (fo:=0) (pr:=fun x=>(vstr x)) 2 x79 ag9 (dT9.leaf fun _ _=>R) sees_rd R hg81.1 hg81.2)) (lI R (lO (vp (vstr (ix r5.1 x79)) R) ?_))
 refine o_4 ?_
 obtain ⟨hg84,hr⟩:=gd hr
 refine c_region (lO (vp (vstr (ix r5.1 x79)) R) (lO (vz (il (ix r5.1 x79)) (v_slen un9 R)) (lS R (lI R (t_some 0 sees_rd (show 0<shapes2.length by have:=hg84; omega) (fun g85 o86 ha=>?_))))))
 subst ha
 refine o_1 ?_
 refine t_elem (K:=kT23) 0 x79 dT23.dec R hg84.1 hg84.2 ?_
 rintro ⟨A87,D87⟩
 refine lO (v_clf (fo:=0) 0 ag23 R R R) ?_
 refine o_4 ?_
 split at hr
 refine o_3 ?_
 refine lO (vz (.agg [(.slice none 0 0),(vstr ([]:Str)),(vstr ([]:Str)),(.slice none 0 0),(.slice none 0 0),(.slice none 0 0),(.slice none 0 0)].toArray) (v_build pl192 zc192 R R)) (l_stores 3 R R sz192 R R R R R R (lB R (l_nil (q_next (c_ret (q_ret (q_blockr (q_ret ?_))))))))
 cases hr
 obtain rfl:=he1 _ R
 have hr:=hk1
 refine o_3 ?_
 cases hr
 exact q_fin (vs:=[(.agg [(.slice none 0 0),(vstr ([]:Str)),(vstr ([]:Str)),(.slice none 0 0),(.slice none 0 0),(.slice none 0 0),(.slice none 0 0)].toArray),(.bool false)]) (.inl R) ((none,0,0),(none,0,0),(none,0,0),(none,0,0),(none,0,0)) R ⟨⟨3,b4,_,_,R,R,.inl ⟨ag192,sz192,R⟩⟩,R,trivial⟩ R (fun w s=>((((((s.nilr kT9).nilr kT3).nilo kT3 3).nilo kT23 23).nilo kT3 3).e 14 [4,3,2,1,0]))
 refine o_9 ?_
 obtain ⟨e2,hl2,hk2⟩:=bd hr
 refine c_loop (A:=Unit) hl2 (fun s a=>[(1,(sc (ad g85 o86) shapes2 D75)),(4,(pt b4 0)),(6,(sc (ad g82 o83) r5.1 D76)),(7,(vstr r5.2.1)),(9,(pt b10 0)),(10,(pt b11 0)),(11,(iv x79)),(12,(vstr (ix r5.1 x79))),(13,(iv s.2.2)),(41,(sc (ad g82 o83) r5.1 D76)),(42,(il r5.1)),(43,(iv x79))]) (fun s a=>RR kT23 (ad g85 o86) D75 shapes2::bxl b4 [(.slice none 0 0),(vstr ([]:Str)),(vstr ([]:Str)),(.slice none 0 0),(.slice none 0 0),(.slice none 0 0),(.slice none 0 0)] 192::RR kT9 (ad g82 o83) D76 r5.1::bxl b10 [(sc (ad g82 o83) r5.1 D76),(vstr r5.2.1),(vstr s.1),(.slice none 0 0),(.slice none 0 0),(.slice none 0 0),(.slice none 0 0)] 192::ow kT3 195 (.slice (ad b11 0) 26 26) s.2.1::W0) () (aS R) (fun w s=>(s.f 7 [2,5])) ?_
 rintro ⟨f111,lens112,k113⟩ _ σ1 out2 hr he2
 dsimp only [Z3_L2] at hr
 refine o_4 ?_
 refine lO (vp (vstr (ix r5.1 x79)) R) (lO (vz (il (ix r5.1 x79)) (v_slen un9 R)) ?_)
 refine o_3 ?_
 split at hr
 refine o_4 ?_
 refine c_cut (A:=(Str×(List Int))×(Unit)) (fun a=>Z3_J5 k113 a.1.1 a.1.2=some out2) (fun a=>[(1,(sc (ad g85 o86) shapes2 D75)),(4,(pt b4 0)),(6,(sc (ad g82 o83) r5.1 D76)),(7,(vstr r5.2.1)),(9,(pt b10 0)),(10,(pt b11 0)),(11,(iv x79)),(12,(vstr (ix r5.1 x79))),(13,(iv k113)),(41,(sc (ad g82 o83) r5.1 D76)),(42,(il r5.1)),(43,(iv x79))]) (fun a=>RR kT23 (ad g85 o86) D75 shapes2::bxl b4 [(.slice none 0 0),(vstr ([]:Str)),(vstr ([]:Str)),(.slice none 0 0),(.slice none 0 0),(.slice none 0 0),(.slice none 0 0)] 192::RR kT9 (ad g82 o83) D76 r5.1::bxl b10 [(sc (ad g82 o83) r5.1 D76),(vstr r5.2.1),(vstr a.1.1),(.slice none 0 0),(.slice none 0 0),(.slice none 0 0),(.slice none 0 0)] 192::ow kT3 195 (.slice (ad b11 0) 26 26) a.1.2::W0) ?_ ?_
 refine o_2 ?_
 obtain ⟨hg115,hr⟩:=gd hr
 obtain ⟨hg116,hr⟩:=gd hr
 refine c_region (lO (vp (vstr (ix r5.1 x79)) R) (lI R (lO (vz (.int .u8 (bt (ix r5.1 x79) k113)) (v_sindex un9 R R hg115.1 hg115.2)) (lO (vp (.int .u8 (IntKind.wrap .u8 ((bt (ix r5.1 x79) k113) - 97))) R) (lO (vz (.pointer (some ⟨b11,0+(IntKind.wrap .u8 ((bt (ix r5.1 x79) k113) - 97)).toNat*1,none⟩)) (v_iarr ar195 sz3 R R hg116)) ?_)))))
 refine o_5 ?_
 obtain ⟨hg118,hr⟩:=gd hr
 refine cQ [(1,(sc (ad g85 o86) shapes2 D75)),(4,(pt b4 0)),(6,(sc (ad g82 o83) r5.1 D76)),(7,(vstr r5.2.1)),(9,(pt b10 0)),(10,(pt b11 0)),(11,(iv x79)),(12,(vstr (ix r5.1 x79))),(13,(iv k113)),(14,(.pointer (some ⟨b11,0+(IntKind.wrap .u8 ((bt (ix r5.1 x79) k113) - 97)).toNat*1,none⟩))),(41,(sc (ad g82 o83) r5.1 D76)),(42,(il r5.1)),(43,(iv x79)),(84,(.bool (((ix lens112 (IntKind.wrap .u8 ((bt (ix r5.1 x79) k113) - 97))) != 0)&&((ix lens112 (IntKind.wrap .u8 ((bt (ix r5.1 x79) k113) - 97))) != (ix (ix shapes2 x79) k113)))))] (RR kT23 (ad g85 o86) D75 shapes2::bxl b4 [(.slice none 0 0),(vstr ([]:Str)),(vstr ([]:Str)),(.slice none 0 0),(.slice none 0 0),(.slice none 0 0),(.slice none 0 0)] 192::RR kT9 (ad g82 o83) D76 r5.1::bxl b10 [(sc (ad g82 o83) r5.1 D76),(vstr r5.2.1),(vstr f111),(.slice none 0 0),(.slice none 0 0),(.slice none 0 0),(.slice none 0 0)] 192::ow kT3 195 (.slice (ad b11 0) 26 26) lens112::W0) ?_ ?_
 rcases bo ((ix lens112 (IntKind.wrap .u8 ((bt (ix r5.1 x79) k113) - 97))) != 0) with hc121 | hc121
 refine c_elem (K:=kT23) 0 x79 dT23.dec R hg84.1 hg84.2 ?_
 rintro ⟨A117,D117⟩
 refine c_some 1 sees_rd (show 0<(ix shapes2 x79).length by have:=(hg118 hc121); omega) (fun g119 o120 ha=>?_)
 subst ha
 refine cdr 17 [] mixo fun ht hn=>?_
 refine d11_ 0 [] ?_
 refine dW 11 R (wnT hc121) (v_clf (fo:=0) 0 ag23 R R R) (dW 12 R (wnT hc121) (vI R) (dW 13 R (wnT hc121) (vIa sl23 sz3 R R (hg118 hc121)) (dW 14 R (wnT hc121) (vLi 1 ag3 sees_rd R (hg118 hc121)) ?_)))
 refine d2_ 15 [] ?_
 refine dD ?_
 exact qj (fun w s=>(s.f 7 [2,5]))
 refine cdr 17 [] mixo fun ht hn=>?_
 refine d17_ 0 [] ?_
 refine dD ?_
 exact qj tI
 rintro σ1
 refine o_1 ?_
 split at hr
 refine o_3 ?_
 refine lO (vz (.agg [(.slice none 0 0),(vstr ([]:Str)),(vstr ([]:Str)),(.slice none 0 0),(.slice none 0 0),(.slice none 0 0),(.slice none 0 0)].toArray) (v_build pl192 zc192 R R)) (l_stores 1 R R sz192 R R R R R R (lN (_::_::_::_::_::W0) ?_))
 refine o_7 ?_
 cases hr
 obtain rfl:=he2 _ R
 have hr:=hk2
 refine o_4 ?_
 cases hr
 obtain rfl:=he1 _ R
 have hr:=hk1
 refine o_3 ?_
 cases hr
 exact q_fin (vs:=[(.agg [(.slice none 0 0),(vstr ([]:Str)),(vstr ([]:Str)),(.slice none 0 0),(.slice none 0 0),(.slice none 0 0),(.slice none 0 0)].toArray),(.bool false)]) (.inl R) ((none,0,0),(none,0,0),(none,0,0),(none,0,0),(none,0,0)) R ⟨⟨1,b4,_,_,R,R,.inl ⟨ag192,sz192,R⟩⟩,R,trivial⟩ R (fun w s=>((((((s.nilr kT9).nilr kT3).nilo kT3 3).nilo kT23 23).nilo kT3 3).e 12 [4,3,2,1,0]))
 refine o_4 ?_
 obtain ⟨hg124,hr⟩:=gd hr
 refine o_5 ?_
 refine t_elem (K:=kT23) 0 x79 dT23.dec R hg84.1 hg84.2 ?_
 rintro ⟨A123,D123⟩
 refine lO (v_clf (fo:=0) 0 ag23 R R R) (lI R (t_some 1 sees_rd (show 0<(ix shapes2 x79).length by have:=hg124; omega) (fun g125 o126 ha=>?_)))
 subst ha
 refine o_3 ?_
 refine lM (ow _ _ _ _::cl g85 (o86+x79.toNat*1) [(sc (ad g125 o126) (ix shapes2 x79) D123)]::RR kT3 (ad g125 o126) D123 (ix shapes2 x79)::rds _ _ _::bxl _ _ _::rds _ _ _::bxl _ _ _::W0) (fun w s=>(s.f 7 [6,1,0,6])) ?_
 refine l_stx (K:=kT3) (x':=(ix (ix shapes2 x79) k113)) 0 (IntKind.wrap .u8 ((bt (ix r5.1 x79) k113) - 97)) R R sz3 R R hg116.1 hg116.2 ?_ ?_
 exact fun I h s=>(mO3).put I h () (ix (ix shapes2 x79) k113) s
 refine o_1 ?_
 obtain ⟨l127,hl128,hr⟩:=bd hr
 replace hl128:=Option.some.inj hl128
 refine qM (ow kT3 195 (.slice (ad b11 0) 26 26) l127::_::_::_::_::_::_::W0) (fun w s=>by rw [← hl128]; exact s) ?_
 refine o_2 ?_
 obtain ⟨r129,hx130,hr⟩:=bd hr
 refine cdr 7 [] mixo fun ht hn=>?_
 refine d2_ 0 [] ?_
 refine dR 2 R (vp (vstr (ix r5.1 x79)) R) (dR 3 R (vI R) (dR 4 R (vz (.int .u8 (bt (ix r5.1 x79) k113)) (v_sindex un9 R R hg115.1 hg115.2)) (d1 5 R (lC 0 cb208 R (Z1q_ok hx130) R ?_))))
 rintro _
 refine l_nil (q_draw (sL []) (dR 6 R (vLt R R) (dD (q_next ?_))))
 split at hr
 refine o_1 ?_
 obtain ⟨hg132,hr⟩:=gd hr
 obtain ⟨hg133,hr⟩:=gd hr
 refine cdr 10 [6] mixo fun ht hn=>?_
 refine d1_ 0 [6] ?_
 refine dR 2 R (vp (vstr (ix r5.1 x79)) R) (hS:=(sL [6])) ?_
 refine d3_ 3 [6] ?_
 refine dR 6 R (vz (vstr (sub (ix r5.1 x79) k113 (w64 (k113+1)))) (v_scut k113 (w64 (k113+1)) un9 R R R hg132.1 hg132.2.1 hg132.2.2)) (hS:=(sL [6])) (d1 1 R (lO (vLd 6 ag9 R R R) (l_nil (q_draw (sL [6]) (dR 7 R (vz (vstr (f111++(sub (ix r5.1 x79) k113 (w64 (k113+1))))) (v_scat R R hg133)) (hS:=(sL [6])) ?_)))))
 refine d1_ 8 [6] ?_
 refine d1 9 R (l_store 6 R R sz9 R R R R R (lN (_::_::_::_::_::_::bxl b10 [(sc (ad g82 o83) r5.1 D76),(vstr r5.2.1),(vstr (f111++(sub (ix r5.1 x79) k113 (w64 (k113+1))))),(.slice none 0 0),(.slice none 0 0),(.slice none 0 0),(.slice none 0 0)] 192::W0) ?_))
 refine l_nil (q_draw (sL [6]) (dD (q_blockn ?_)))
 exact qI (((f111++(sub (ix r5.1 x79) k113 (w64 (k113+1)))),l127),()) hr (fun w s=>(s.f 7 [3,4,0,1]))
 refine o_3 ?_
 exact qI ((f111,l127),()) hr (fun w s=>(s.f 7 [3,4,0,1]))
 rintro ⟨⟨f134,lens135⟩,_⟩ σ1 hr
 dsimp only [Z3_J5] at hr
 refine o_5 ?_
 cases hr
 exact qA () tI
 refine o_3 ?_
 cases hr
 obtain rfl:=he2 _ R
 have hr:=hk2
 refine o_3 ?_
 exact qI ((f111,lens112),(((ad g85 o86),shapes2.length,D75),((ad g82 o83),r5.1.length,D76))) hr tI
 rintro ⟨⟨f141,lens142⟩,⟨⟨A139,N139,D139⟩,⟨A140,N140,D140⟩⟩⟩ σ1 hr
 dsimp only [Z3_J6] at hr
 refine c_len 0 sees_rd (fun (hn:N139=shapes2.length)=>?_)
 subst hn
 refine c_len 2 sees_rd (fun (hn:N140=r5.1.length)=>?_)
 subst hn
 refine o_4 ?_
 cases hr
 exact qA ((A139,shapes2.length,D139),(A140,r5.1.length,D140)) tI
 refine o_3 ?_
 cases hr
 obtain rfl:=he1 _ R
 have hr:=hk1
 refine o_2 ?_
 exact qI ((f77,lens78),((A75,shapes2.length,D75),(A76,r5.1.length,D76))) hr tI
 rintro ⟨⟨f150,lens151⟩,⟨⟨A148,N148,D148⟩,⟨A149,N149,D149⟩⟩⟩ σ1 hr
 dsimp only [Z3_J7] at hr
 refine c_len 0 sees_rd (fun (hn:N148=shapes2.length)=>?_)
 subst hn
 refine c_len 2 sees_rd (fun (hn:N149=r5.1.length)=>?_)
 subst hn
 refine o_6 ?_
 refine c_cut (A:=((List Int))×(HH)) (fun a=>Z3_J8 shapes2 r5 f150 a.1=some r) (fun a=>[(1,(sc A148 shapes2 D148)),(4,(pt b4 0)),(6,(sc A149 r5.1 D149)),(7,(vstr r5.2.1)),(9,(pt b10 0))]) (fun a=>RR kT23 A148 D148 shapes2::bxl b4 [(.slice none 0 0),(vstr ([]:Str)),(vstr ([]:Str)),(.slice none 0 0),(.slice none 0 0),(.slice none 0 0),(.slice none 0 0)] 192::RR kT9 A149 D149 r5.1::bxl b10 [(sc A149 r5.1 D149),(vstr r5.2.1),(vstr f150),(s3 a.2),(.slice none 0 0),(.slice none 0 0),(.slice none 0 0)] 192::ow kT3 3 (s3 a.2) a.1::W0) ?_ ?_
 refine o_6 ?_
 obtain ⟨e3,hl3,hk3⟩:=bd hr
 refine c_loop (A:=HH) hl3 (fun s a=>[(1,(sc A148 shapes2 D148)),(4,(pt b4 0)),(6,(sc A149 r5.1 D149)),(7,(vstr r5.2.1)),(9,(pt b10 0)),(10,(pt b11 0)),(15,(iv s.2.1)),(16,(iv s.2.2))]) (fun s a=>RR kT23 A148 D148 shapes2::bxl b4 [(.slice none 0 0),(vstr ([]:Str)),(vstr ([]:Str)),(.slice none 0 0),(.slice none 0 0),(.slice none 0 0),(.slice none 0 0)] 192::RR kT9 A149 D149 r5.1::bxl b10 [(sc A149 r5.1 D149),(vstr r5.2.1),(vstr f150),(s3 a),(.slice none 0 0),(.slice none 0 0),(.slice none 0 0)] 192::ow kT3 3 (s3 a) s.1::ow kT3 195 (.slice (ad b11 0) 26 26) lens151::W0) (none,0,0) (aS R) (fun w s=>((s.nilo kT3 3).e 6 [1,2,3,4,0,5])) ?_
 rintro ⟨f159,work161,i162⟩ ⟨A160,N160,D160⟩ σ1 out3 hr he3
 dsimp only [Z3_L3] at hr
 refine c_len 4 sees_ow (fun (hn:N160=f159.length)=>?_)
 subst hn
 refine o_6 ?_
 refine lO (vz (il f150) (v_slen un9 R)) ?_
 refine o_3 ?_
 split at hr
 refine o_6 ?_
 obtain ⟨hg164,hr⟩:=gd hr
 obtain ⟨hg165,hr⟩:=gd hr
 refine o_4 ?_
 refine lO (vz (.int .u8 (bt f150 i162)) (v_sindex un9 R R hg164.1 hg164.2)) (lO (vp (.int .u8 (IntKind.wrap .u8 ((bt f150 i162) - 97))) R) (lO (vz (.pointer (some ⟨b11,0+(IntKind.wrap .u8 ((bt f150 i162) - 97)).toNat*1,none⟩)) (v_iarr ar195 sz3 R R hg165)) ?_))
 refine o_5 ?_
 obtain ⟨hg167,hr⟩:=gd hr
 refine o_4 ?_
 refine l_build (K:=kT3) (xs:=([(ix lens151 (IntKind.wrap .u8 ((bt f150 i162) - 97)))]:List Int)) (vs:=[(iv (ix lens151 (IntKind.wrap .u8 ((bt f150 i162) - 97))))]) 0 R R sl23 sz3 zc3 R R R R R R ?_ R (fun A166 D166=>?_)
 exact fun I h s=>(mO3).list [((),(ix lens151 (IntKind.wrap .u8 ((bt f150 i162) - 97))))] I h s
 refine lM (ow _ _ _ _::ow _ _ _ _::rds _ _ _::bxl _ _ _::rds _ _ _::bxl _ _ _::ow _ _ _ _::W0) (fun w s=>(s.f 7 [5,1,0,5,6,1])) ?_
 refine l_app (K:=kT3) 17592186044416 R R sl23 sz3 by3 (Zr.zk zT3 zc3) R R R R R R src_ow hg167 (fun A168 D168=>(lN (OO kT3 3 A168 D168 (f159++([(ix lens151 (IntKind.wrap .u8 ((bt f150 i162) - 97)))]:List Int))::_::_::_::_::_::W0) ?_))
 refine o_1 ?_
 refine l_store 4 R R sz23 R R R R R (lN (_::_::_::_::bxl b10 [(sc A149 r5.1 D149),(vstr r5.2.1),(vstr f150),(sc A168 (f159++([(ix lens151 (IntKind.wrap .u8 ((bt f150 i162) - 97)))]:List Int)) D168),(.slice none 0 0),(.slice none 0 0),(.slice none 0 0)] 192::_::W0) ?_)
 refine o_16 ?_
 split at hr
 refine o_3 ?_
 refine lO (vz (.agg [(.slice none 0 0),(vstr ([]:Str)),(vstr ([]:Str)),(.slice none 0 0),(.slice none 0 0),(.slice none 0 0),(.slice none 0 0)].toArray) (v_build pl192 zc192 R R)) (l_stores 2 R R sz192 R R R R R R (lB R (l_nil (q_next (c_ret (q_blockr (q_ret ?_)))))))
 cases hr
 obtain rfl:=he3 _ R
 have hr:=hk3
 refine o_3 ?_
 cases hr
 exact q_fin (vs:=[(.agg [(.slice none 0 0),(vstr ([]:Str)),(vstr ([]:Str)),(.slice none 0 0),(.slice none 0 0),(.slice none 0 0),(.slice none 0 0)].toArray),(.bool false)]) (.inl R) ((none,0,0),(none,0,0),(none,0,0),(none,0,0),(none,0,0)) R ⟨⟨2,b4,_,_,R,R,.inl ⟨ag192,sz192,R⟩⟩,R,trivial⟩ R (fun w s=>((((((s.nilr kT9).nilr kT3).nilo kT3 3).nilo kT23 23).nilo kT3 3).e 13 [4,3,2,1,0]))
 refine o_9 ?_
 cases hr
 exact qA (A168,(f159++([(ix lens151 (IntKind.wrap .u8 ((bt f150 i162) - 97)))]:List Int)).length,D168) (tE 6 [1,2,3,4,0,5])
 refine o_3 ?_
 cases hr
 obtain rfl:=he3 _ R
 have hr:=hk3
 refine o_2 ?_
 exact qI (f159,(A160,f159.length,D160)) hr (fun w s=>(s.f 6 [0,5]))
 rintro ⟨f174,⟨A175,N175,D175⟩⟩ σ1 hr
 dsimp only [Z3_J8] at hr
 refine c_len 4 sees_ow (fun (hn:N175=f174.length)=>?_)
 subst hn
 refine o_1 ?_
 obtain ⟨hg176,hr⟩:=gd hr
 obtain ⟨r178,hx179,hr⟩:=bd hr
 refine o_3 ?_
 refine lO (vp (vstr r5.2.1) R) (lO (vz (il r5.2.1) (v_slen un9 R)) (l_st (fun w s=>s.shr 4 R) (l_cut (K:=kT3) (0:Int) (r5.2.1.length:Int) 0 R R sl23 sz3 R R R R hg176.1 hg176.2.1 hg176.2.2 (fun A177 D177=>(lM (RR kT3 A177 D177 (sub f174 (0:Int) (r5.2.1.length:Int))::RR kT3 A177 D177 (sub f174 (0:Int) (r5.2.1.length:Int))::RR kT3 A175 D175 f174::_::_::_::bxl b10 [(sc A149 r5.1 D149),(vstr r5.2.1),(vstr f150),(sc A175 f174 D175),(.slice none 0 0),(.slice none 0 0),(.slice none 0 0)] 192::W0) (fun w s=>(s.d 0 R)) ?_)))))
 refine lC 1 cb64 R (Zm_ok hx179) R ?_
 rintro ⟨A180,N180,D180⟩
 refine l_len 0 sees_ow ?_
 rintro rfl
 refine o_1 ?_
 refine l_store 6 R R sz23 R R R R R (lN (_::_::_::_::_::_::bxl b10 [(sc A149 r5.1 D149),(vstr r5.2.1),(vstr f150),(sc A175 f174 D175),(sc A180 r178 D180),(.slice none 0 0),(.slice none 0 0)] 192::W0) ?_)
 refine o_4 ?_
 obtain ⟨r181,hx182,hr⟩:=bd hr
 refine o_3 ?_
 refine lC 1 cb147 R (FnOk.lends (A':=[OO kT3 3 A180 D180 r178]) (A:=[RR kT3 A180 D180 r178]) (B:=[]) (Zb_ok hx182) ⟨lend_ow,trivial⟩ (fun _=>trivial)) R ?_
 rintro _
 refine o_3 ?_
 split at hr
 refine o_3 ?_
 refine lO (vz (.agg [(.slice none 0 0),(vstr ([]:Str)),(vstr ([]:Str)),(.slice none 0 0),(.slice none 0 0),(.slice none 0 0),(.slice none 0 0)].toArray) (v_build pl192 zc192 R R)) (l_stores 4 R R sz192 R R R R R R (lB R (l_nil (q_next (c_ret (q_ret ?_))))))
 cases hr
 exact q_fin (vs:=[(.agg [(.slice none 0 0),(vstr ([]:Str)),(vstr ([]:Str)),(.slice none 0 0),(.slice none 0 0),(.slice none 0 0),(.slice none 0 0)].toArray),(.bool false)]) (.inl R) ((none,0,0),(none,0,0),(none,0,0),(none,0,0),(none,0,0)) R ⟨⟨4,b4,_,_,R,R,.inl ⟨ag192,sz192,R⟩⟩,R,trivial⟩ R (fun w s=>((((((s.nilr kT9).nilr kT3).nilo kT3 3).nilo kT23 23).nilo kT3 3).e 14 [4,3,2,1,0]))
 refine o_4 ?_
 refine c_cut (A:=((List (List Int)))×(HH)) (fun a=>Z3_J9 r5 f150 f174 r178 a.1=some r) (fun a=>[(4,(pt b4 0)),(7,(vstr r5.2.1)),(9,(pt b10 0))]) (fun a=>bxl b4 [(.slice none 0 0),(vstr ([]:Str)),(vstr ([]:Str)),(.slice none 0 0),(.slice none 0 0),(.slice none 0 0),(.slice none 0 0)] 192::bxl b10 [(sc A149 r5.1 D149),(vstr r5.2.1),(vstr f150),(sc A175 f174 D175),(sc A180 r178 D180),(s3 a.2),(.slice none 0 0)] 192::RR kT9 A149 D149 r5.1::RR kT3 A175 D175 f174::OO kT3 3 A180 D180 r178::ow kT23 23 (s3 a.2) a.1::W0) ?_ ?_
 refine o_8 ?_
 obtain ⟨e4,hl4,hk4⟩:=bd hr
 refine c_loop (A:=HH) hl4 (fun s a=>[(1,(sc A148 shapes2 D148)),(4,(pt b4 0)),(7,(vstr r5.2.1)),(9,(pt b10 0)),(150,(sc A149 r5.1 D149)),(151,(il r5.1)),(152,(iv s.2))]) (fun s a=>RR kT23 A148 D148 shapes2::bxl b4 [(.slice none 0 0),(vstr ([]:Str)),(vstr ([]:Str)),(.slice none 0 0),(.slice none 0 0),(.slice none 0 0),(.slice none 0 0)] 192::bxl b10 [(sc A149 r5.1 D149),(vstr r5.2.1),(vstr f150),(sc A175 f174 D175),(sc A180 r178 D180),(s3 a),(.slice none 0 0)] 192::RR kT9 A149 D149 r5.1::RR kT3 A175 D175 f174::OO kT3 3 A180 D180 r178::ow kT23 23 (s3 a) s.1::W0) (none,0,0) (aS R) (fun w s=>((s.nilo kT23 23).e 8 [4,5,7,6,3,1,0])) ?_
 rintro ⟨f201,x203⟩ ⟨A202,N202,D202⟩ σ1 out4 hr he4
 dsimp only [Z3_L4] at hr
 refine c_len 6 sees_ow (fun (hn:N202=f201.length)=>?_)
 subst hn
 refine o_6 ?_
 split at hr
 refine o_6 ?_
 obtain ⟨hg205,hr⟩:=gd hr
 refine o_2 ?_
 refine t_some 3 sees_rd (show 0<r5.1.length by have:=hg205; omega) (fun g206 o207 ha=>?_)
 subst ha
 refine o_1 ?_
 refine lO (vz (vstr (ix r5.1 x203)) (v_lde (K:=kT9) (fo:=0) (pr:=fun x=>(vstr x)) 3 x203 ag9 (dT9.leaf fun _ _=>R) sees_rd R hg205.1 hg205.2)) (lI R (lO (vp (vstr (ix r5.1 x203)) R) ?_))
 refine o_2 ?_
 obtain ⟨hg208,hr⟩:=gd hr
 obtain ⟨r212,hx213,hr⟩:=bd hr
 obtain ⟨r215,hx216,hr⟩:=bd hr
 obtain ⟨hg219,hr⟩:=gd hr
 refine c_some 0 sees_rd (show 0<shapes2.length by have:=hg208; omega) (fun g209 o210 ha=>?_)
 subst ha
 refine c_elem (K:=kT23) 0 x203 dT23.dec R hg208.1 hg208.2 ?_
 rintro ⟨A211,D211⟩
 refine cdr 11 [] mixo fun ht hn=>?_
 refine d3_ 0 [] ?_
 refine dR 3 R (vp (vstr (ix r5.1 x203)) R) ?_
 refine d3_ 4 [] ?_
 refine dR 7 R (v_clf (fo:=0) 0 ag23 R R R) (d1 8 R (lM (_::_::_::_::_::_::_::_::_::_::W0) (fun w s=>(s.d 1 R)) ?_))
 refine lC 1 cb164 R (Z04_ok hx213) R ?_
 rintro ⟨A214,N214,D214⟩
 refine l_len 0 sees_ow ?_
 rintro rfl
 refine l_nil (q_draw (sL [0]) (d1 9 R (lM (ow _ _ _ _::ow _ _ _ _::ow _ _ _ _::rds _ _ _::rds _ _ _::rds kT3 (.slice none 0 0) ([]:List Int)::cl _ _ _::rds _ _ _::rds _ _ _::bxl _ _ _::bxl _ _ _::rds _ _ _::rds _ _ _::W0) (fun w s=>((((s.d 6 R).d 8 R).nilr kT3).f 13 [11,2,3,1,2,1,1,1,0,1,4,7])) ?_)))
 refine lC 6 cb209 R (FnOk.lends (A':=[OO kT3 3 A180 D180 r178,OO kT23 23 A202 D202 f201,OO kT3 3 A214 D214 r212]) (A:=[RR kT3 A180 D180 r178,RR kT23 A202 D202 f201,RR kT3 A214 D214 r212]) (B:=[RR kT9 (ad g206 o207) D149 r5.1,RR kT3 A175 D175 f174,rds kT3 (.slice none 0 0) ([]:List Int)]) (FnOk.perm (Zi_ok (f1:=(⟨r5.1,r5.2.1,f150,f174,r178,f201,([]:List Int)⟩:form)) hx216) (Pre':=[RR kT3 A180 D180 r178,RR kT23 A202 D202 f201,RR kT3 A214 D214 r212,RR kT9 (ad g206 o207) D149 r5.1,RR kT3 A175 D175 f174,rds kT3 (.slice none 0 0) ([]:List Int)]) (fun _ _ _ s=>(s.e 6 [3,4,0,1,5,2]))) ⟨lend_ow,lend_ow,lend_ow,trivial⟩ (fun _=>⟨(closed_ow cT3),trivial⟩)) R ?_
 rintro ⟨A217,N217,D217⟩
 refine l_len 3 sees_ow ?_
 rintro rfl
 refine l_nil (q_draw (fun w s=>(s.f 11 [4,7,0,2])) (d1 10 R (lM (ow _ _ _ _::ow _ _ _ _::ow _ _ _ _::ow _ _ _ _::cl _ _ _::rds _ _ _::rds _ _ _::bxl _ _ _::bxl _ _ _::rds _ _ _::rds _ _ _::W0) (fun w s=>(s.f 11 [3,1,0,3,4,7])) ?_)))
 refine l_build (K:=kT23) (xs:=([r215]:List (List Int))) (vs:=[(sc A217 r215 D217)]) 1 R R sl38 sz23 zc23 R R R R R R ?_ R (fun A218 D218=>?_)
 exact fun I h s=>(mO23).list [((sc A217 r215 D217),r215)] I h s
 refine l_nil (q_draw (fun w s=>(s.f 11 [4,7,1,2])) (d1 11 R (lM (ow _ _ _ _::ow _ _ _ _::ow _ _ _ _::ow _ _ _ _::cl _ _ _::rds _ _ _::rds _ _ _::bxl _ _ _::bxl _ _ _::rds _ _ _::rds _ _ _::W0) (fun w s=>(s.f 11 [2,1,0,2,3,8])) ?_)))
 refine l_app (K:=kT23) 5864062014805 R R sl38 sz23 by23 (Zr.zk zT23 zc23) R R R R R R src_ow hg219 (fun A220 D220=>(lN (OO kT23 23 A220 D220 (f201++([r215]:List (List Int)))::_::_::_::_::_::_::_::_::_::W0) ?_))
 refine l_nil (qE (d1 12 R (lO (vFa 5 fo192_5 R) (l_nil (qE (d1 13 R (l_store 7 R R sz38 R R R R R (lN (_::_::_::_::_::_::_::bxl b10 [(sc (ad g206 o207) r5.1 D149),(vstr r5.2.1),(vstr f150),(sc A175 f174 D175),(sc A180 r178 D180),(sc A220 (f201++([r215]:List (List Int))) D220),(.slice none 0 0)] 192::_::_::W0) ?_))))))))
 refine l_nil (qE (dD ?_))
 refine o_6 ?_
 cases hr
 exact qA (A220,(f201++([r215]:List (List Int))).length,D220) (fun w s=>(s.f 10 [5,5,1,1,0,1]))
 refine o_3 ?_
 cases hr
 obtain rfl:=he4 _ R
 have hr:=hk4
 refine o_2 ?_
 exact qI (f201,(A202,f201.length,D202)) hr (fun w s=>(s.f 7 [1,6]))
 rintro ⟨f224,⟨A225,N225,D225⟩⟩ σ1 hr
 dsimp only [Z3_J9] at hr
 refine c_len 5 sees_ow (fun (hn:N225=f224.length)=>?_)
 subst hn
 refine o_1 ?_
 obtain ⟨r226,hx227,hr⟩:=bd hr
 obtain ⟨r229,hx230,hr⟩:=bd hr
 refine cdr 7 [] mixo fun ht hn=>?_
 refine d1_ 0 [] ?_
 refine dR 1 R (vp (vstr r5.2.1) R) ?_
 refine d2_ 2 [] ?_
 refine d1 4 R (lM (ow _ _ _ _::bxl _ _ _::bxl b10 [(sc A149 r5.1 D149),(vstr r5.2.1),(vstr f150),(sc A175 f174 D175),(sc A180 r178 D180),(sc A225 f224 D225),(.slice none 0 0)] 192::RR kT9 A149 D149 r5.1::rds _ _ _::OO kT23 23 A225 D225 f224::W0) (tE 6 [4,0,1,2,3,5]) ?_)
 refine lC 1 cb164 R (FnOk.lends (A':=[OO kT3 3 A180 D180 r178]) (A:=[RR kT3 A180 D180 r178]) (B:=[]) (Z04_ok hx227) ⟨lend_ow,trivial⟩ (fun _=>⟨(closed_ow cT3),trivial⟩)) R ?_
 rintro ⟨A228,N228,D228⟩
 refine l_len 1 sees_ow ?_
 rintro rfl
 refine l_nil (q_draw (tE 7 [2,3,4,5,0,6]) (d1 5 R (lM (ow _ _ _ _::ow _ _ _ _::ow _ _ _ _::rds _ _ _::rds _ _ _::rds kT3 (.slice none 0 0) ([]:List Int)::bxl _ _ _::bxl _ _ _::rds _ _ _::rds _ _ _::W0) (fun w s=>((((s.d 4 R).d 6 R).nilr kT3).e 10 [3,9,4,2,1,0,5,6,7,8])) ?_)))
 refine lC 6 cb209 R (FnOk.lends (A':=[OO kT3 3 A180 D180 r178,OO kT23 23 A225 D225 f224,OO kT3 3 A228 D228 r226]) (A:=[RR kT3 A180 D180 r178,RR kT23 A225 D225 f224,RR kT3 A228 D228 r226]) (B:=[RR kT9 A149 D149 r5.1,RR kT3 A175 D175 f174,rds kT3 (.slice none 0 0) ([]:List Int)]) (FnOk.perm (Zi_ok (f1:=(⟨r5.1,r5.2.1,f150,f174,r178,f224,([]:List Int)⟩:form)) hx230) (Pre':=[RR kT3 A180 D180 r178,RR kT23 A225 D225 f224,RR kT3 A228 D228 r226,RR kT9 A149 D149 r5.1,RR kT3 A175 D175 f174,rds kT3 (.slice none 0 0) ([]:List Int)]) (fun _ _ _ s=>(s.e 6 [3,4,0,1,5,2]))) ⟨lend_ow,lend_ow,lend_ow,trivial⟩ (fun _=>⟨(closed_ow cT3),trivial⟩)) R ?_
 rintro ⟨A231,N231,D231⟩
 refine l_len 3 sees_ow ?_
 rintro rfl
 refine l_nil (q_draw (fun w s=>(s.f 8 [4,4,0,2])) (dR 6 R (vFa 6 fo192_6 R) (hS:=(fun w s=>(s.f 8 [4,4,0,2]))) (d1 7 R (l_store 5 R R sz23 R R R R R (lN (_::_::_::_::_::bxl b10 [(sc A149 r5.1 D149),(vstr r5.2.1),(vstr f150),(sc A175 f174 D175),(sc A180 r178 D180),(sc A225 f224 D225),(sc A231 r229 D231)] 192::_::_::W0) ?_)))))
 refine l_nil (qE (dD ?_))
 refine o_4 ?_
 refine l_stores 4 R R sz192 R R R R R R (lN (_::_::_::_::bxl b4 [(sc A149 r5.1 D149),(vstr r5.2.1),(vstr f150),(sc A175 f174 D175),(sc A180 r178 D180),(sc A225 f224 D225),(sc A231 r229 D231)] 192::_::_::_::W0) ?_)
 refine o_4 ?_
 cases hr
 exact q_fin (vs:=[(.agg [(sc A149 r5.1 D149),(vstr r5.2.1),(vstr f150),(sc A175 f174 D175),(sc A180 r178 D180),(sc A225 f224 D225),(sc A231 r229 D231)].toArray),(.bool true)]) (.inl R) ((A149,r5.1.length,D149),(A175,f174.length,D175),(A180,r178.length,D180),(A225,f224.length,D225),(A231,r229.length,D231)) R ⟨⟨4,b4,_,_,R,R,.inl ⟨ag192,sz192,R⟩⟩,R,trivial⟩ R (tE 10 [6,7,0,1,3])
theorem Z2q_ok  {k1:formKind}{n2:Node}{args7:(List (List Int))}{mG:Int}{r:(List Int)×Bool}(hr:Z2q k1 n2 args7=some r) :
 FnOk Tryz.prog 204 [(.agg [].toArray),(.agg [(iv n2.Op),(.slice A3 N3 D3),(.slice A4 N4 D4),(.slice A5 N5 D5),(vstr n2.Form),(.slice A6 N6 D6)].toArray),(.slice A8 N8 D8)] [rds kT3 (.slice A3 N3 D3) n2.Args,rds kT3 (.slice A4 N4 D4) n2.Dims,rds kT3 (.slice A5 N5 D5) n2.Ints,rds kT3 (.slice A6 N6 D6) n2.Data,rds kT23 (.slice A8 N8 D8) args7,gl 0 mG] (fun (h:HH)=>((.tuple [(s3 h),(.bool r.2)].toArray),[ow kT3 3 (s3 h) r.1])):=by
 unfold Z2q at hr
 refine fn_ok Tryz.func204 R 20 R R fun C V=>?_
 refine cL 0 sees_rd ?_
 rintro rfl
 refine cL 1 sees_rd ?_
 rintro rfl
 refine cL 2 sees_rd ?_
 rintro rfl
 refine cL 3 sees_rd ?_
 rintro rfl
 refine cL 4 sees_rd ?_
 rintro rfl
 let W0:=RR kT3 A3 D3 n2.Args::RR kT3 A4 D4 n2.Dims::RR kT3 A5 D5 n2.Ints::RR kT3 A6 D6 n2.Data::RR kT23 A8 D8 args7::gl 0 mG::V
 refine cN W0 ?_
 refine o_2 ?_
 refine lBx R fun b9=>?_
 refine lBx R fun b10=>?_
 refine o_3 ?_
 let W1:=bxl b10 [(iv n2.Op),(sc A3 n2.Args D3),(sc A4 n2.Dims D4),(sc A5 n2.Ints D5),(vstr n2.Form),(sc A6 n2.Data D6)] 54::bxl b9 [] 142::W0
 refine qN W1 ?_
 refine o_2 ?_
 obtain ⟨r11,hx12,hr⟩:=bd hr
 refine o_4 ?_
 refine lM _ (fun w s=>(((s.d 6 R).dg 8 R).e 2 [1,0])) ?_
 refine lC 2 cb206 R (Z3_ok hx12) R ?_
 rintro ⟨⟨A13,N13,D13⟩,⟨A14,N14,D14⟩,⟨A15,N15,D15⟩,⟨A16,N16,D16⟩,⟨A17,N17,D17⟩⟩
 refine l_len 0 sees_rd ?_
 rintro rfl
 refine l_len 1 sees_rd ?_
 rintro rfl
 refine l_len 2 sees_ow ?_
 rintro rfl
 refine l_len 3 sees_ow ?_
 rintro rfl
 refine l_len 4 sees_ow ?_
 rintro rfl
 refine lO (vT R) (lO (vA R) (lB R (l_alloc R R zc192 (fun b18=>(l_stores 0 R R sz192 R R R R R R (lN (bxl b18 [(sc A13 r11.1.groups D13),(vstr r11.1.out_),(vstr r11.1.order),(sc A14 r11.1.loops D14),(sc A15 r11.1.dims D15),(sc A16 r11.1.steps D16),(sc A17 r11.1.store D17)] 192::_::_::_::_::_::W1) ?_))))))
 refine o_13 ?_
 cases hr
 exact qT2 (A15,r11.1.dims.length,D15) (tE 14 [3])
theorem Z2k_ok  {dims1:(List Int)}{r:View}(hr:Z2k dims1=some r) :
 FnOk Tryz.prog 158 [(.slice A2 N2 D2)] [rds kT3 (.slice A2 N2 D2) dims1] (fun (h:HH×HH)=>((.agg [(s3 h.1),(s3 h.2),(iv r.Offset),(iv r.Base)].toArray),[ow kT3 3 (s3 h.1) r.Dims,ow kT3 3 (s3 h.2) r.Strides])):=by
 unfold Z2k at hr
 refine fn_ok Tryz.func158 R 14 R R fun C V=>?_
 refine cL 0 sees_rd ?_
 rintro rfl
 let W0:=RR kT3 A2 D2 dims1::V
 refine cN W0 ?_
 refine o_2 ?_
 refine l_alloc R R zc96 (fun b3=>(l_nil (q_next (c_seq (c_seq ?_)))))
 obtain ⟨r4,hx5,hr⟩:=bd hr
 refine o_2 ?_
 refine lM _ (fun w s=>(s.d 1 R)) ?_
 refine lC 1 cb147 R (Zb_ok hx5) R ?_
 rintro _
 refine o_3 ?_
 split at hr
 refine o_3 ?_
 refine lO (vz (.agg [(.slice none 0 0),(.slice none 0 0),(iv 0),(iv 0)].toArray) (v_build pl96 zc96 R R)) (l_stores 0 R R sz96 R R R R R R (l_nil (q_next (c_ret (q_ret ?_)))))
 cases hr
 exact qS ((none,0,0),(none,0,0)) (fun w s=>(((s.nilo kT3 3).nilo kT3 3).e 4 [1,0]))
 refine o_4 ?_
 obtain ⟨r7,hx8,hr⟩:=bd hr
 obtain ⟨r10,hx11,hr⟩:=bd hr
 obtain ⟨r13,hx14,hr⟩:=bd hr
 refine o_2 ?_
 refine lM _ (fun w s=>(s.d 1 R)) ?_
 refine lC 1 cb64 R (Zm_ok hx8) R ?_
 rintro ⟨A9,N9,D9⟩
 refine l_len 0 sees_ow ?_
 rintro rfl
 refine lS R (lM _ (fun w s=>(s.d 2 R)) ?_)
 refine lC 1 cb164 R (Z04_ok hx11) R ?_
 rintro ⟨A12,N12,D12⟩
 refine l_len 0 sees_ow ?_
 rintro rfl
 refine lS R (lM _ (fun w s=>(s.d 3 R)) ?_)
 refine lC 1 cb148 R (Zk_ok hx14) R ?_
 rintro _
 refine lO (vz (.agg [(sc A9 r7 D9),(sc A12 r10 D12),(iv 0),(iv r13)].toArray) (v_build pl96 zc96 R R)) (l_stores 2 R R sz96 R R R R R R (lN (_::_::bxl b3 [(sc A9 r7 D9),(sc A12 r10 D12),(iv 0),(iv r13)] 96::W0) ?_))
 refine o_3 ?_
 cases hr
 exact qS ((A9,r7.length,D9),(A12,r10.length,D12)) (tE 4 [1,0])
theorem Zf_ok  {v1:View}{r:Bool}(hr:Zf v1=some r) :
 FnOk Tryz.prog 156 [(.agg [(.slice A2 N2 D2),(.slice A3 N3 D3),(iv v1.Offset),(iv v1.Base)].toArray)] [rds kT3 (.slice A2 N2 D2) v1.Dims,rds kT3 (.slice A3 N3 D3) v1.Strides] (fun (h:Unit)=>((.bool r),[])):=by
 unfold Zf at hr
 refine fn_ok Tryz.func156 R 91 R R fun C V=>?_
 refine cL 0 sees_rd ?_
 rintro rfl
 refine cL 1 sees_rd ?_
 rintro rfl
 let W0:=RR kT3 A2 D2 v1.Dims::RR kT3 A3 D3 v1.Strides::V
 refine cN W0 ?_
 refine o_2 ?_
 refine lBx R fun b4=>?_
 refine o_2 ?_
 let W1:=bxl b4 [(sc A2 v1.Dims D2),(sc A3 v1.Strides D3),(iv v1.Offset),(iv v1.Base)] 96::W0
 refine qN W1 ?_
 refine o_3 ?_
 obtain ⟨r5,hx6,hr⟩:=bd hr
 refine cQ [(1,(pt b4 0)),(41,(.bool ((((((!r5)||((v1.Strides.length:Int) != (v1.Dims.length:Int)))||(decide (v1.Base<1)))||(decide (v1.Base>4096)))||(decide (v1.Offset<0)))||(decide (v1.Offset≥v1.Base)))))] (W1) ?_ ?_
 refine o_3 ?_
 refine lM _ (fun w s=>(s.d 1 R)) ?_
 refine lC 1 cb147 R (Zb_ok hx6) R ?_
 rintro _
 refine lN W1 ?_
 refine o_2 ?_
 rcases bo (!r5) with hc7 | hc7
 refine o_31 ?_
 exact qj tI
 refine o_9 ?_
 rcases bo ((!r5)||((v1.Strides.length:Int) != (v1.Dims.length:Int))) with hc8 | hc8
 refine o_22 ?_
 exact qj tI
 refine o_5 ?_
 rcases bo (((!r5)||((v1.Strides.length:Int) != (v1.Dims.length:Int)))||(decide (v1.Base<1))) with hc9 | hc9
 refine o_17 ?_
 exact qj tI
 refine o_5 ?_
 rcases bo ((((!r5)||((v1.Strides.length:Int) != (v1.Dims.length:Int)))||(decide (v1.Base<1)))||(decide (v1.Base>4096))) with hc10 | hc10
 refine o_12 ?_
 exact qj tI
 refine o_5 ?_
 rcases bo (((((!r5)||((v1.Strides.length:Int) != (v1.Dims.length:Int)))||(decide (v1.Base<1)))||(decide (v1.Base>4096)))||(decide (v1.Offset<0))) with hc11 | hc11
 refine o_7 ?_
 exact qj tI
 refine o_7 ?_
 exact qj tI
 rintro σ1
 refine o_1 ?_
 split at hr
 refine o_8 ?_
 cases hr
 exact qF () (tE 3 [])
 refine o_4 ?_
 refine cdr 6 [] mixo fun ht hn=>?_
 refine d6_ 0 [] ?_
 refine dD (q_next (c_seq (c_cut (A:=(Int×Int)×(Unit)) (fun a=>Zf_J1 v1 a.1.1 a.1.2=some r) (fun a=>[(1,(pt b4 0)),(3,(iv a.1.1)),(4,(iv a.1.2))]) (fun a=>W1) ?_ ?_)))
 refine o_9 ?_
 obtain ⟨e1,hl1,hk1⟩:=bd hr
 refine c_loop (A:=HH) hl1 (fun s a=>[(1,(pt b4 0)),(3,(iv s.1)),(4,(iv s.2.1)),(47,(s3 a)),(48,(il v1.Strides)),(49,(iv s.2.2))]) (fun s a=>rds kT3 (s3 a) v1.Strides::W1) (A3,v1.Strides.length,D3) (aS R) (fun w s=>(s.d 2 R)) ?_
 rintro ⟨lo22,hi23,x25⟩ ⟨A24,N24,D24⟩ σ1 out1 hr he1
 dsimp only [Zf_L1] at hr
 refine c_len 0 sees_rd (fun (hn:N24=v1.Strides.length)=>?_)
 subst hn
 refine o_6 ?_
 split at hr
 refine o_6 ?_
 obtain ⟨hg27,hr⟩:=gd hr
 refine o_2 ?_
 refine t_some 0 sees_rd (show 0<v1.Strides.length by have:=hg27; omega) (fun g28 o29 ha=>?_)
 subst ha
 refine o_8 ?_
 refine cQ [(1,(pt b4 0)),(3,(iv lo22)),(4,(iv hi23)),(5,(iv x25)),(6,(iv (ix v1.Strides x25))),(47,(sc (ad g28 o29) v1.Strides D24)),(48,(il v1.Strides)),(49,(iv x25)),(59,(.bool ((decide ((ix v1.Strides x25)<(-4096:Int)))||(decide ((ix v1.Strides x25)>4096)))))] (RR kT3 (ad g28 o29) D24 v1.Strides::W1) ?_ ?_
 refine o_4 ?_
 rcases bo (decide ((ix v1.Strides x25)<(-4096:Int))) with hc30 | hc30
 refine o_4 ?_
 exact qj tI
 refine o_4 ?_
 exact qj tI
 rintro σ1
 refine o_1 ?_
 split at hr
 refine o_10 ?_
 cases hr
 obtain rfl:=he1 _ R
 have hr:=hk1
 refine o_3 ?_
 cases hr
 exact qF () (tE 4 [])
 refine o_4 ?_
 obtain ⟨hg32,hr⟩:=gd hr
 refine o_6 ?_
 refine t_some 2 sees_rd (show 0<v1.Dims.length by have:=hg32; omega) (fun g33 o34 ha=>?_)
 subst ha
 refine o_4 ?_
 refine lO (vz (iv (if (w64 ((ix v1.Strides x25)*(w64 ((ix v1.Dims x25) - 1))))<0 then (w64 ((ix v1.Strides x25)*(w64 ((ix v1.Dims x25) - 1)))) else (0:Int))) (v_min R R)) ?_
 refine o_14 ?_
 refine lO (vz (iv (if (w64 ((ix v1.Strides x25)*(w64 ((ix v1.Dims x25) - 1))))>0 then (w64 ((ix v1.Strides x25)*(w64 ((ix v1.Dims x25) - 1)))) else (0:Int))) (v_max R R)) ?_
 refine o_9 ?_
 cases hr
 exact qA ((ad g28 o29),v1.Strides.length,D24) tI
 refine o_3 ?_
 cases hr
 obtain rfl:=he1 _ R
 have hr:=hk1
 refine o_2 ?_
 exact qI ((lo22,hi23),()) hr (tE 1 [])
 rintro ⟨⟨lo39,hi40⟩,_⟩ σ1 hr
 dsimp only [Zf_J1] at hr
 refine c_seq (cQ [(2,(.bool ((decide (lo39≥0))&&(decide (hi40<v1.Base)))))] (W1) ?_ ?_)
 refine o_4 ?_
 rcases bo (decide (lo39≥0)) with hc41 | hc41
 refine o_7 ?_
 exact qj tI
 refine o_7 ?_
 exact qj tI
 rintro σ1
 refine o_2 ?_
 cases hr
 exact qF () (tE 3 [])
end Go.Proofs.YtmpnollfdpdipaaGreat
