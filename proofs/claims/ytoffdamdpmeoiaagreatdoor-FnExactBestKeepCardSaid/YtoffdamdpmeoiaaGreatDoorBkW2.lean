import Derived.Test.YtoffdamdpmeoiaaGreatDoorBkF
set_option linter.unusedVariables false
set_option maxRecDepth 20000
namespace Go.Proofs.YtoffdamdpmeoiaaGreatDoor
open Go Go.Pg
variable {A2 A3 A4 A5 A6 A7:Option Addr}{D2 D3 D4 D5 D6 D7 N2 N3 N4 N5 N6 N7:Nat}
theorem Z3a_ok  {b:Int}{r:Int×Int}(a:Z3a b=some r) :
 FnOk Tryz.prog 84 [(iv b)] [] (fun (h:Unit)=>((.tuple [(iv r.1),(iv r.2)].toArray),[])):=by
 unfold Z3a at a
 refine aR Tryz.func84 R 13 R R fun C V=>?_
 refine cN V ?_
 refine nP ?_
 split at a
 refine dJ ?_
 cases a
 exact kb () tI
 refine dN ?_
 split at a
 refine dJ ?_
 cases a
 exact kb () tI
 refine dN ?_
 split at a
 refine dJ ?_
 cases a
 exact kb () tI
 refine hG ?_
 cases a
 exact kb () tI
theorem Z3k_ok  {a:Int}{r:Bool}(j:Z3k a=some r) :
 FnOk Tryz.prog 85 [(iv a)] [] (fun (h:Unit)=>((.bool r),[])):=by
 unfold Z3k at j
 refine aR Tryz.func85 R 17 R R fun C V=>?_
 refine cN V ?_
 refine cB ?_
 refine cQ [(2,(.bool ((((a==1)||(a==2))||(a==12))||(a==13))))] (V) ?_ ?_
 refine bL ?_
 rcases bo (a==1) with b | b
 refine lq ?_
 exact qj tI
 refine bL ?_
 rcases bo ((a==1)||(a==2)) with e | e
 refine dG ?_
 exact qj tI
 refine bL ?_
 rcases bo (((a==1)||(a==2))||(a==12)) with i | i
 refine cV ?_
 exact qj tI
 refine cV ?_
 exact qj tI
 rintro σ1
 refine aZ ?_
 cases j
 exact qF () tI
theorem Z1k_ok  {e:Int}{r:Int}(b:Z1k e=some r) :
 FnOk Tryz.prog 86 [(iv e)] [] (fun (h:Unit)=>((iv r),[])):=by
 unfold Z1k at b
 refine aR Tryz.func86 R 16 R R fun C V=>?_
 refine cN V ?_
 refine yh ?_
 split at b
 refine dG ?_
 cases b
 exact qF () tI
 refine aZ ?_
 refine bB (A:=(Bool)×(Unit)) (fun a=>Z1k_J1 e a.1=some r) (fun a=>[(3,(iv e)),(6,(.bool a.1))]) (fun a=>V) ?_ ?_
 refine cB ?_
 split at b
 refine aZ ?_
 exact qI ((e==14),()) b tI
 refine cV ?_
 exact qI ((e==15),()) b tI
 rintro ⟨i,_⟩ σ1 b
 dsimp only [Z1k_J1] at b
 split at b
 refine dG ?_
 cases b
 exact qF () tI
 refine eD ?_
 split at b
 refine dG ?_
 cases b
 exact qF () tI
 refine eD ?_
 split at b
 refine dG ?_
 cases b
 exact qF () tI
 refine aZ ?_
 refine bB (A:=(Bool)×(Unit)) (fun a=>Z1k_J2 a.1=some r) (fun a=>[(13,(.bool a.1))]) (fun a=>V) ?_ ?_
 refine cB ?_
 split at b
 refine aZ ?_
 exact qI ((e==18),()) b tI
 refine cV ?_
 exact qI ((e==19),()) b tI
 rintro ⟨j,_⟩ σ1 b
 dsimp only [Z1k_J2] at b
 split at b
 refine dG ?_
 cases b
 exact qF () tI
 refine dJ ?_
 cases b
 exact qF () tI
theorem Z1f_ok  {a:Node}{r:Bool}(s:Z1f a=some r) :
 FnOk Tryz.prog 64 [(.agg [(iv a.Op),(.slice A2 N2 D2),(.slice A3 N3 D3),(.slice A4 N4 D4),(aG a.Form),(.slice A5 N5 D5)].toArray)] [aO kT3 (.slice A2 N2 D2) a.Args,aO kT3 (.slice A3 N3 D3) a.Dims,aO kT3 (.slice A4 N4 D4) a.Ints,aO kT3 (.slice A5 N5 D5) a.Data] (fun (h:Unit)=>((.bool r),[])):=by
 unfold Z1f at s
 refine aR Tryz.func64 R 92 R R fun C V=>?_
 refine cL 0 aA ?_
 rintro rfl
 refine cL 1 aA ?_
 rintro rfl
 refine cL 2 aA ?_
 rintro rfl
 refine cL 3 aA ?_
 rintro rfl
 let W0:=RR kT3 A2 D2 a.Args::RR kT3 A3 D3 a.Dims::RR kT3 A4 D4 a.Ints::RR kT3 A5 D5 a.Data::V
 refine cN W0 ?_
 refine aZ ?_
 refine eT R fun Y=>?_
 refine aZ ?_
 let U:=aK Y [(iv a.Op),(sc A2 a.Args D2),(sc A3 a.Dims D3),(sc A4 a.Ints D4),(aG a.Form),(sc A5 a.Data D5)] 42::W0
 refine qN U ?_
 refine aV ?_
 refine cQ [(1,(pt Y 0)),(13,(.bool ((decide (a.Op<1))||(decide (a.Op>19)))))] (U) ?_ ?_
 refine cV ?_
 rcases bo (decide (a.Op<1)) with T | T
 refine aV ?_
 refine lO (fB (decide (a.Op>19)) R T) (aB ?_)
 exact qj tI
 refine aV ?_
 refine lO (fG R T R) (aB ?_)
 exact qj tI
 rintro σ1
 refine cP ?_
 split at s
 refine dN ?_
 cases s
 exact qF () (tE 5 [])
 refine bL ?_
 obtain ⟨r9,Z,s⟩:=bd s
 refine aV ?_
 refine lC 0 CN R (Z3a_ok Z) R ?_
 rintro _
 refine lO (vT R) ?_
 refine dN ?_
 refine cQ [(1,(pt Y 0)),(31,(.bool ((decide ((a.Args.length:Int)<r9.1))||(decide ((a.Args.length:Int)>r9.2)))))] (U) ?_ ?_
 refine eD ?_
 rcases bo (decide ((a.Args.length:Int)<r9.1)) with E | E
 refine cV ?_
 refine lO (fB (decide ((a.Args.length:Int)>r9.2)) R E) (aB ?_)
 exact qj tI
 refine cV ?_
 refine lO (fG R E R) (aB ?_)
 exact qj tI
 rintro σ1
 refine cP ?_
 split at s
 refine dN ?_
 cases s
 exact qF () (tE 5 [])
 refine cV ?_
 obtain ⟨u,a0,s⟩:=bd s
 refine cQ [(1,(pt Y 0)),(62,(.bool ((((!u)&&(decide ((a.Dims.length:Int)>0)))||((a.Op != 11)&&(!(a.Form==([]:aN)))))||((a.Op != 2)&&(decide ((a.Data.length:Int)>0))))))] (U) ?_ ?_
 refine aV ?_
 refine lC 0 CO R (Z3k_ok a0) R ?_
 rintro _
 refine aZ ?_
 rcases bo (!u) with b | b
 refine bL ?_
 refine lO (iJ R b R) (lB R ?_)
 rcases bo ((!u)&&(decide ((a.Dims.length:Int)>0))) with e | e
 refine dN ?_
 refine lO (fB ((a.Op != 11)&&(!(a.Form==([]:aN)))) R e) ?_
 refine dJ ?_
 refine lO (fB ((a.Op != 2)&&(decide ((a.Data.length:Int)>0))) R (oT e)) (aB ?_)
 exact qj tI
 refine bL ?_
 rcases bo (a.Op != 11) with B | B
 refine aZ ?_
 refine lW (dO B) (vz (.bool (!(a.Form==([]:aN)))) (jU R R R)) (lW (bW e) (iJ R B R) (lO (fG R e R) (lB R ?_)))
 rcases bo (((!u)&&(decide ((a.Dims.length:Int)>0)))||((a.Op != 11)&&(!(a.Form==([]:aN))))) with i | i
 refine dG ?_
 refine lO (fB ((a.Op != 2)&&(decide ((a.Data.length:Int)>0))) R i) (aB ?_)
 exact qj tI
 refine bL ?_
 rcases bo (a.Op != 2) with F | F
 refine bL ?_
 refine lW (bW i) (iJ R F R) (lO (fG R i R) (aB ?_))
 exact qj tI
 refine bL ?_
 refine lW (bW i) (ki (decide ((a.Data.length:Int)>0)) R F) (lO (fG R i R) (aB ?_))
 exact qj tI
 refine aV ?_
 refine lW (bW e) (ki (!(a.Form==([]:aN))) R B) (lO (fG R e R) (lB R ?_))
 rcases bo (((!u)&&(decide ((a.Dims.length:Int)>0)))||((a.Op != 11)&&(!(a.Form==([]:aN))))) with j | j
 refine dG ?_
 refine lO (fB ((a.Op != 2)&&(decide ((a.Data.length:Int)>0))) R j) (aB ?_)
 exact qj tI
 refine bL ?_
 rcases bo (a.Op != 2) with G | G
 refine bL ?_
 refine lW (bW j) (iJ R G R) (lO (fG R j R) (aB ?_))
 exact qj tI
 refine bL ?_
 refine lW (bW j) (ki (decide ((a.Data.length:Int)>0)) R G) (lO (fG R j R) (aB ?_))
 exact qj tI
 refine bL ?_
 refine lO (ki (decide ((a.Dims.length:Int)>0)) R b) ?_
 refine cV ?_
 rcases bo (a.Op != 11) with D | D
 refine aZ ?_
 refine lW (dO D) (vz (.bool (!(a.Form==([]:aN)))) (jU R R R)) (lW (bW (aF b)) (iJ R D R) (lO (fG R (aF b) R) (lB R ?_)))
 rcases bo (((!u)&&(decide ((a.Dims.length:Int)>0)))||((a.Op != 11)&&(!(a.Form==([]:aN))))) with l | l
 refine dG ?_
 refine lO (fB ((a.Op != 2)&&(decide ((a.Data.length:Int)>0))) R l) (aB ?_)
 exact qj tI
 refine bL ?_
 rcases bo (a.Op != 2) with I | I
 refine bL ?_
 refine lW (bW l) (iJ R I R) (lO (fG R l R) (aB ?_))
 exact qj tI
 refine bL ?_
 refine lW (bW l) (ki (decide ((a.Data.length:Int)>0)) R I) (lO (fG R l R) (aB ?_))
 exact qj tI
 refine aV ?_
 refine lW (bW (aF b)) (ki (!(a.Form==([]:aN))) R D) (lO (fG R (aF b) R) (lB R ?_))
 rcases bo (((!u)&&(decide ((a.Dims.length:Int)>0)))||((a.Op != 11)&&(!(a.Form==([]:aN))))) with q | q
 refine dG ?_
 refine lO (fB ((a.Op != 2)&&(decide ((a.Data.length:Int)>0))) R q) (aB ?_)
 exact qj tI
 refine bL ?_
 rcases bo (a.Op != 2) with J | J
 refine bL ?_
 refine lW (bW q) (iJ R J R) (lO (fG R q R) (aB ?_))
 exact qj tI
 refine bL ?_
 refine lW (bW q) (ki (decide ((a.Data.length:Int)>0)) R J) (lO (fG R q R) (aB ?_))
 exact qj tI
 rintro σ1
 refine cP ?_
 split at s
 refine dN ?_
 cases s
 exact qF () (tE 5 [])
 refine bL ?_
 obtain ⟨O,a1,s⟩:=bd s
 refine aV ?_
 refine lC 0 CP R (Z1k_ok a1) R ?_
 rintro _
 refine cV ?_
 refine cQ [(1,(pt Y 0)),(5,(iv O)),(73,(.bool ((a.Op==16)||(a.Op==17))))] (U) ?_ ?_
 refine cV ?_
 rcases bo (a.Op==16) with L | L
 refine aV ?_
 refine lO (fB (a.Op==17) R L) (aB ?_)
 exact qj tI
 refine aV ?_
 refine lO (fG R L R) (aB ?_)
 exact qj tI
 rintro σ1
 refine cP ?_
 split at s
 refine aZ ?_
 refine cQ [(2,(.bool ((decide ((a.Ints.length:Int)≥O))&&(decide ((a.Ints.length:Int)≤(aI (O+4096)))))))] (U) ?_ ?_
 refine eD ?_
 rcases bo (decide ((a.Ints.length:Int)≥O)) with M | M
 refine cB ?_
 refine lO (iJ R M R) ?_
 refine aZ ?_
 exact qj tI
 refine cB ?_
 refine lO (ki (decide ((a.Ints.length:Int)≤(aI (O+4096)))) R M) ?_
 refine aZ ?_
 exact qj tI
 rintro σ1
 refine aV ?_
 cases s
 exact qF () (tE 5 [])
 refine pB ?_
 cases s
 exact qF () (tE 5 [])
theorem Z0s_ok  {b:(List Int)}{B:Int}{r:Bool}(e:Z0s b B=some r) :
 FnOk Tryz.prog 65 [(.slice A2 N2 D2),(iv B)] [aO kT3 (.slice A2 N2 D2) b] (fun (h:Unit)=>((.bool r),[])):=by
 unfold Z0s at e
 refine aR Tryz.func65 R 25 R R fun C V=>?_
 refine cL 0 aA ?_
 rintro rfl
 let D:=RR kT3 A2 D2 b::V
 refine cN D ?_
 refine cB ?_
 refine bB (A:=(Unit)×(Unit)) (fun a=>Z0s_J1=some r) (fun a=>[]) (fun a=>D) ?_ ?_
 refine cB ?_
 obtain ⟨J,E,u⟩:=bd e
 refine bD (A:=Unit) E (fun s a=>[(0,(sc A2 b D2)),(1,(iv B)),(5,(iv s))]) (fun s a=>D) () (aS R) tI ?_
 rintro i _ σ1 F e l
 dsimp only [Z0s_L1] at e
 refine dG ?_
 split at e
 refine cB ?_
 obtain ⟨q,e⟩:=gd e
 refine cQ [(0,(sc A2 b D2)),(1,(iv B)),(5,(iv i)),(24,(.bool ((decide ((ix b i)<0))||(decide ((ix b i)≥B)))))] (D) ?_ ?_
 refine aV ?_
 refine bE 0 aA (show 0<b.length by have:=q; omega) (fun G o14 I=>?_)
 subst I
 refine bL ?_
 rcases bo (decide ((ix b i)<0)) with j | j
 refine dN ?_
 exact qj tI
 refine dN ?_
 exact qj tI
 rintro σ1
 refine cP ?_
 split at e
 refine dG ?_
 cases e
 obtain rfl:=l _ R
 have e:=u
 refine aV ?_
 cases e
 exact qF () (tE 1 [])
 refine dG ?_
 cases e
 exact qA () tI
 refine aV ?_
 cases e
 obtain rfl:=l _ R
 have e:=u
 refine aZ ?_
 exact dC ((),()) e trivial tI
 rintro ⟨_,_⟩ σ1 e
 dsimp only [Z0s_J1] at e
 refine cB ?_
 cases e
 exact qF () (tE 1 [])
theorem Zs_ok  {b:(List Int)}{r:Int}(e:Zs b=some r) :
 FnOk Tryz.prog 40 [(.slice A2 N2 D2)] [aO kT3 (.slice A2 N2 D2) b] (fun (h:Unit)=>((iv r),[])):=by
 unfold Zs at e
 refine aR Tryz.func40 R 32 R R fun C V=>?_
 refine cL 0 aA ?_
 rintro rfl
 let D:=RR kT3 A2 D2 b::V
 refine cN D ?_
 refine hG ?_
 refine bB (A:=(Int)×(Unit)) (fun a=>Zs_J1 a.1=some r) (fun a=>[(3,(iv a.1))]) (fun a=>D) ?_ ?_
 refine cB ?_
 obtain ⟨M,F,q⟩:=bd e
 refine bD (A:=Unit) F (fun s a=>[(0,(sc A2 b D2)),(3,(iv s.1)),(4,(iv s.2))]) (fun s a=>D) () (aS R) tI ?_
 rintro ⟨B,i⟩ _ σ1 G e l
 dsimp only [Zs_L1] at e
 refine dG ?_
 split at e
 refine eD ?_
 obtain ⟨j,e⟩:=gd e
 refine cQ [(0,(sc A2 b D2)),(3,(iv B)),(4,(iv i)),(22,(.bool ((decide ((ix b i)<1))||(decide ((ix b i)>4096)))))] (D) ?_ ?_
 refine aV ?_
 refine bE 0 aA (show 0<b.length by have:=j; omega) (fun I o17 E=>?_)
 subst E
 refine bL ?_
 rcases bo (decide ((ix b i)<1)) with u | u
 refine eD ?_
 exact qj tI
 refine eD ?_
 exact qj tI
 rintro σ1
 refine cP ?_
 split at e
 refine dJ ?_
 cases e
 obtain rfl:=l _ R
 have e:=q
 refine aV ?_
 cases e
 exact qF () (tE 1 [])
 refine dN ?_
 refine bE 0 aA (show 0<b.length by have:=j; omega) (fun J o21 E=>?_)
 subst E
 refine jl ?_
 split at e
 refine dG ?_
 cases e
 obtain rfl:=l _ R
 have e:=q
 refine aV ?_
 cases e
 exact qF () (tE 1 [])
 refine dG ?_
 cases e
 exact qA () tI
 refine aV ?_
 cases e
 obtain rfl:=l _ R
 have e:=q
 refine aZ ?_
 exact qI (B,()) e tI
 rintro ⟨L,_⟩ σ1 e
 dsimp only [Zs_J1] at e
 refine eD ?_
 cases e
 exact qF () (tE 1 [])
theorem Zq_ok  {a:(List Int)}{r:Bool}(e:Zq a=some r) :
 FnOk Tryz.prog 101 [(.slice A2 N2 D2)] [aO kT3 (.slice A2 N2 D2) a] (fun (h:Unit)=>((.bool r),[])):=by
 unfold Zq at e
 refine aR Tryz.func101 R 11 R R fun C V=>?_
 refine cL 0 aA ?_
 rintro rfl
 let i:=RR kT3 A2 D2 a::V
 refine cN i ?_
 refine cB ?_
 obtain ⟨l,j,e⟩:=bd e
 refine cQ [(2,(.bool ((decide ((a.length:Int)≤6))&&(decide (l>0)))))] (i) ?_ ?_
 refine cV ?_
 rcases bo (decide ((a.length:Int)≤6)) with b | b
 refine cP ?_
 refine lM _ (fun w s=>(s.d 0 R)) ?_
 refine b' 1 R (dO b) nS R (Zs_ok (bM j b)) R ?_
 rintro _
 refine lN i ?_
 refine bL ?_
 exact qj tI
 refine cB ?_
 exact qj tI
 rintro σ1
 refine aZ ?_
 cases e
 exact qF () (tE 1 [])
theorem Zv_ok  {t1:Tensor}{r:Bool}(b:Zv t1=some r) :
 FnOk Tryz.prog 68 [(.agg [(.slice A2 N2 D2),(.slice A3 N3 D3)].toArray)] [aO kT3 (.slice A2 N2 D2) t1.Dims,aO kT3 (.slice A3 N3 D3) t1.Data] (fun (h:Unit)=>((.bool r),[])):=by
 unfold Zv at b
 refine aR Tryz.func68 R 38 R R fun C V=>?_
 refine cL 0 aA ?_
 rintro rfl
 refine cL 1 aA ?_
 rintro rfl
 let I:=RR kT3 A2 D2 t1.Dims::RR kT3 A3 D3 t1.Data::V
 refine cN I ?_
 refine aZ ?_
 refine eT R fun E=>?_
 refine aZ ?_
 let i:=aK E [(sc A2 t1.Dims D2),(sc A3 t1.Data D3)] 77::I
 refine qN i ?_
 refine aV ?_
 obtain ⟨L,D,b⟩:=bd b
 obtain ⟨Y,G,b⟩:=bd b
 refine cQ [(1,(pt E 0)),(16,(.bool ((!L)||((t1.Data.length:Int) != Y))))] (i) ?_ ?_
 rcases bo (!L) with j | j
 refine dP 13 [] bS fun U T=>?_
 refine iM 0 [] ?_
 refine d1 2 R (lM _ (fun w s=>(s.d 1 R)) ?_)
 refine lC 1 iT R (Zq_ok D) R ?_
 rintro _
 refine lN i ?_
 refine aB (aJ (sL []) ?_)
 refine pD 3 [] ?_
 refine dD ?_
 exact qj tI
 refine dP 13 [] bS fun U T=>?_
 refine iM 0 [] ?_
 refine d1 2 R (lM _ (fun w s=>(s.d 1 R)) ?_)
 refine lC 1 iT R (Zq_ok D) R ?_
 rintro _
 refine lN i ?_
 refine aB (aJ (sL []) ?_)
 refine tl 3 [] ?_
 refine d1 10 R (lM _ (fun w s=>(s.d 1 R)) ?_)
 refine b' 1 R (bW j) nS R (Zs_ok (bM G (cZ j))) R ?_
 rintro _
 refine lN i ?_
 refine aB (aJ (sL []) ?_)
 refine iM 11 [] ?_
 refine dD ?_
 exact qj tI
 rintro σ1
 refine cP ?_
 split at b
 refine dN ?_
 cases b
 exact qF () (tE 3 [])
 refine bL ?_
 refine bB (A:=(Unit)×(Unit)) (fun a=>Zv_J1=some r) (fun a=>[]) (fun a=>i) ?_ ?_
 refine cB ?_
 obtain ⟨Z,F,B⟩:=bd b
 refine bD (A:=Unit) F (fun s a=>[(1,(pt E 0)),(3,(iv s))]) (fun s a=>i) () (aS R) tI ?_
 rintro e _ σ1 J b q
 dsimp only [Zv_L1] at b
 refine dJ ?_
 split at b
 refine cB ?_
 obtain ⟨u,b⟩:=gd b
 refine cQ [(1,(pt E 0)),(3,(iv e)),(37,(.bool ((decide ((ix t1.Data e)<0))||(decide ((ix t1.Data e)≥2147483647)))))] (i) ?_ ?_
 refine bL ?_
 refine bE 2 aA (show 0<t1.Data.length by have:=u; omega) (fun M o21 O=>?_)
 subst O
 refine bL ?_
 rcases bo (decide ((ix t1.Data e)<0)) with l | l
 refine dN ?_
 exact qj tI
 refine dN ?_
 exact qj tI
 rintro σ1
 refine cP ?_
 split at b
 refine dG ?_
 cases b
 obtain rfl:=q _ R
 have b:=B
 refine aV ?_
 cases b
 exact qF () (tE 3 [])
 refine dG ?_
 cases b
 exact qA () tI
 refine aV ?_
 cases b
 obtain rfl:=q _ R
 have b:=B
 refine aZ ?_
 exact dC ((),()) b trivial tI
 rintro ⟨_,_⟩ σ1 b
 dsimp only [Zv_J1] at b
 refine cB ?_
 cases b
 exact qF () (tE 3 [])
theorem Zx_ok  {a:(List Int)}{r:(List Int)}(b:Zx a=some r) :
 FnOk Tryz.prog 70 [(.slice A2 N2 D2)] [aO kT3 (.slice A2 N2 D2) a] (fun (h:HH)=>((s3 h),[ow kT3 3 (s3 h) r])):=by
 unfold Zx at b
 refine aR Tryz.func70 R 6 R R fun C V=>?_
 refine cL 0 aA ?_
 rintro rfl
 let i:=RR kT3 A2 D2 a::V
 refine cN i ?_
 refine cB ?_
 obtain ⟨e,b⟩:=gd b
 refine aC (bO (K:=kT3) (xs:=([]:List Int)) (vs:=[]) 0 R R bH cO gN R R R R R R ?_ R (fun A3 D3=>?_))
 exact fun I h s=>(gM).list [] I h s
 refine lS R (lM _ (fun w s=>((s.dup 1 R).mv 1)) ?_)
 refine eU (K:=kT3) 17592186044416 R R bH cO kE (Zr.zk zT3 gN) R R R R R R (tB (Kind.scal_flat _ _)) e (fun A5 D5=>(lN (OO kT3 3 A5 D5 (([]:List Int)++a)::i) ?_))
 refine bL ?_
 cases b
 exact qF (A5,(([]:List Int)++a).length,D5) (tE 2 [0])
theorem Z06_ok  {e:(List Int)}{i:(List Int)}{r:Bool}(b:Z06 e i=some r) :
 FnOk Tryz.prog 69 [(.slice A2 N2 D2),(.slice A4 N4 D4)] [aO kT3 (.slice A2 N2 D2) e,aO kT3 (.slice A4 N4 D4) i] (fun (h:Unit)=>((.bool r),[])):=by
 unfold Z06 at b
 refine aR Tryz.func69 R 26 R R fun C V=>?_
 refine cL 0 aA ?_
 rintro rfl
 refine cL 1 aA ?_
 rintro rfl
 let B:=RR kT3 A2 D2 e::RR kT3 A4 D4 i::V
 refine cN B ?_
 refine nP ?_
 split at b
 refine dN ?_
 cases b
 exact qF () (tE 2 [])
 refine bL ?_
 refine bB (A:=(Unit)×(Unit)) (fun a=>Z06_J1=some r) (fun a=>[]) (fun a=>B) ?_ ?_
 refine cB ?_
 obtain ⟨L,E,u⟩:=bd b
 refine bD (A:=Unit) E (fun s a=>[(0,(sc A2 e D2)),(1,(sc A4 i D4)),(5,(iv s))]) (fun s a=>B) () (aS R) tI ?_
 rintro J _ σ1 F b j
 dsimp only [Z06_L1] at b
 refine dG ?_
 split at b
 refine cB ?_
 obtain ⟨l,b⟩:=gd b
 obtain ⟨q,b⟩:=gd b
 refine bC 0 aA (show 0<e.length by have:=l; omega) (fun G o18 D=>?_)
 subst D
 refine bC 1 aA (show 0<i.length by have:=q; omega) (fun I o21 D=>?_)
 subst D
 refine dP 9 [] bS fun O M=>?_
 refine xg 0 [] ?_
 refine dD (aE ?_)
 split at b
 refine dG ?_
 cases b
 obtain rfl:=j _ R
 have b:=u
 refine aV ?_
 cases b
 exact qF () (tE 2 [])
 refine dG ?_
 cases b
 exact qA () tI
 refine aV ?_
 cases b
 obtain rfl:=j _ R
 have b:=u
 refine aZ ?_
 exact dC ((),()) b trivial tI
 rintro ⟨_,_⟩ σ1 b
 dsimp only [Z06_J1] at b
 refine cB ?_
 cases b
 exact qF () (tE 2 [])
theorem Z2j_ok  {a:(List Int)}{k3:Int}{r:Int}(b:Z2j a k3=some r) :
 FnOk Tryz.prog 154 [(.slice A2 N2 D2),(iv k3)] [aO kT3 (.slice A2 N2 D2) a] (fun (h:Unit)=>((iv r),[])):=by
 unfold Z2j at b
 refine aR Tryz.func154 R 17 R R fun C V=>?_
 refine cL 0 aA ?_
 rintro rfl
 let i:=RR kT3 A2 D2 a::V
 refine cN i ?_
 refine pB ?_
 split at b
 refine dN ?_
 cases b
 exact qF () (tE 1 [])
 refine bL ?_
 obtain ⟨e,b⟩:=gd b
 refine eD ?_
 refine bE 0 aA (show 0<a.length by have:=e; omega) (fun l o7 j=>?_)
 subst j
 refine cB ?_
 cases b
 exact qF () (tE 1 [])
theorem Z05_ok  {E:(List Int)}{F:(List Int)}{r:(List Int)}(b:Z05 E F=some r) :
 FnOk Tryz.prog 120 [(.slice A2 N2 D2),(.slice A4 N4 D4)] [aO kT3 (.slice A2 N2 D2) E,aO kT3 (.slice A4 N4 D4) F] (fun (h:HH)=>((s3 h),[ow kT3 3 (s3 h) r])):=by
 unfold Z05 at b
 refine aR Tryz.func120 R 68 R R fun C V=>?_
 refine cL 0 aA ?_
 rintro rfl
 refine cL 1 aA ?_
 rintro rfl
 let G:=RR kT3 A2 D2 E::RR kT3 A4 D4 F::V
 refine cN G ?_
 refine eD ?_
 obtain ⟨r5,ab,b⟩:=bd b
 obtain ⟨r7,ac,b⟩:=bd b
 refine cQ [(0,(sc A2 E D2)),(1,(sc A4 F D4)),(17,(.bool ((!r5)||(!r7))))] (G) ?_ ?_
 refine aZ ?_
 refine lM _ (fun w s=>(s.d 0 R)) ?_
 refine lC 1 iT R (Zq_ok ab) R ?_
 rintro _
 refine lN G ?_
 refine aZ ?_
 rcases bo (!r5) with M | M
 refine cV ?_
 exact qj tI
 refine cP ?_
 refine lM _ (fun w s=>(s.d 1 R)) ?_
 refine b' 1 R (bW M) iT R (Zq_ok (bM ac (cZ M))) R ?_
 rintro _
 refine lN G ?_
 refine aV ?_
 exact qj tI
 rintro σ1
 refine cP ?_
 split at b
 refine aV ?_
 refine bO (K:=kT3) (xs:=([]:List Int)) (vs:=[]) 0 R R bH cO gN R R R R R R ?_ R (fun A11 D11=>?_)
 exact fun I h s=>(gM).list [] I h s
 refine cV ?_
 cases b
 exact qF (A11,([]:List Int).length,D11) (tE 3 [0])
 refine hG ?_
 refine bB (A:=(Int)×(Unit)) (fun a=>Z05_J1 E F a.1=some r) (fun a=>[(0,(sc A2 E D2)),(1,(sc A4 F D4)),(5,(iv a.1))]) (fun a=>G) ?_ ?_
 refine dN ?_
 split at b
 refine cB ?_
 exact qI ((F.length:Int),()) b tI
 refine aZ ?_
 exact qI ((E.length:Int),()) b tI
 rintro ⟨e,_⟩ σ1 b
 dsimp only [Z05_J1] at b
 refine cP ?_
 obtain ⟨u,b⟩:=gd b
 refine aZ ?_
 refine fW (K:=kT3) (m:=e) (z:=(0:Int)) R R bH cO kE (Zr.zk zT3 gN) (by decide) R R u.1 u.2.1 u.2.2 (fun i j=>(lS R (aB (aE (aH (bB (A:=((List Int))×(Unit)) (fun a=>Z05_J4 a.1=some r) (fun a=>[(6,(sc i (List.replicate e.toNat (0:Int)) j))]) (fun a=>ow kT3 3 (.slice i (List.replicate e.toNat (0:Int)).length j) a.1::G) ?_ ?_))))))
 refine cB ?_
 obtain ⟨e1,aa,Y⟩:=bd b
 refine bD (A:=Unit) aa (fun s a=>[(0,(sc A2 E D2)),(1,(sc A4 F D4)),(5,(iv e)),(6,(sc i (List.replicate e.toNat (0:Int)) j)),(7,(iv s.2))]) (fun s a=>ow kT3 3 (.slice i (List.replicate e.toNat (0:Int)).length j) s.1::G) () (aS R) tI ?_
 rintro ⟨L,J⟩ _ σ1 a3 b U
 dsimp only [Z05_L1] at b
 refine dN ?_
 split at b
 refine cB ?_
 obtain ⟨l,Z,b⟩:=bd b
 refine aV ?_
 refine lM _ (fun w s=>(s.d 1 R)) ?_
 refine lC 1 xh R (Z2j_ok Z) R ?_
 rintro _
 refine bL ?_
 obtain ⟨q,a0,b⟩:=bd b
 refine aV ?_
 refine lM _ (fun w s=>(s.d 2 R)) ?_
 refine lC 1 xh R (Z2j_ok a0) R ?_
 rintro _
 refine cV ?_
 refine cQ [(0,(sc A2 E D2)),(1,(sc A4 F D4)),(5,(iv e)),(6,(sc i (List.replicate e.toNat (0:Int)) j)),(7,(iv J)),(8,(iv l)),(9,(iv q)),(50,(.bool (((l != q)&&(l != 1))&&(q != 1))))] (ow kT3 3 (.slice i (List.replicate e.toNat (0:Int)).length j) L::G) ?_ ?_
 refine cV ?_
 rcases bo (l != q) with O | O
 refine bL ?_
 rcases bo ((l != q)&&(l != 1)) with T | T
 refine bL ?_
 exact qj tI
 refine bL ?_
 exact qj tI
 refine dN ?_
 exact qj tI
 rintro σ1
 refine cP ?_
 split at b
 refine aV ?_
 refine bO (K:=kT3) (xs:=([]:List Int)) (vs:=[]) 0 R R bH cO gN R R R R R R ?_ R (fun a6 a8=>?_)
 exact fun I h s=>(gM).list [] I h s
 refine eD ?_
 cases b
 obtain rfl:=U _ R
 have b:=Y
 refine aV ?_
 cases b
 exact qF (a6,([]:List Int).length,a8) (tE 4 [0])
 refine bL ?_
 refine bB (A:=(Int)×(Unit)) (fun a=>Z05_J3 e L J a.1=some a3) (fun a=>[(0,(sc A2 E D2)),(1,(sc A4 F D4)),(5,(iv e)),(6,(sc i (List.replicate e.toNat (0:Int)) j)),(7,(iv J)),(8,(iv a.1))]) (fun a=>ow kT3 3 (.slice i (List.replicate e.toNat (0:Int)).length j) L::G) ?_ ?_
 refine eD ?_
 split at b
 refine cV ?_
 exact qI (q,()) b tI
 refine aZ ?_
 exact qI (l,()) b tI
 rintro ⟨a4,_⟩ σ1 b
 dsimp only [Z05_J3] at b
 obtain ⟨D,b⟩:=gd b
 refine eD ?_
 refine bE 0 aD (show 0<(List.replicate e.toNat (0:Int)).length by have:=D; omega) (fun ae o47 ha=>?_)
 subst ha
 refine cP ?_
 refine eO (K:=kT3) (x':=a4) 0 (aI ((aI (e - 1)) - J)) R R cO R R D.1 D.2 ?_ ?_
 exact fun I h s=>(gM).put I h () a4 s
 refine dN ?_
 cases b
 exact qA () tI
 refine aV ?_
 cases b
 obtain rfl:=U _ R
 have b:=Y
 refine aZ ?_
 exact qI (L,()) b tI
 rintro ⟨a5,_⟩ σ1 b
 dsimp only [Z05_J4] at b
 refine aZ ?_
 obtain ⟨ag,a2,b⟩:=bd b
 refine aZ ?_
 refine lC 1 iT R (FnOk.lends (A':=[ow kT3 3 (.slice i (List.replicate e.toNat (0:Int)).length j) a5]) (A:=[aO kT3 (.slice i (List.replicate e.toNat (0:Int)).length j) a5]) (B:=[]) (Zq_ok a2) ⟨aU,trivial⟩ (fun _=>trivial)) R ?_
 rintro _
 refine aV ?_
 split at b
 refine aV ?_
 refine bO (K:=kT3) (xs:=([]:List Int)) (vs:=[]) 0 R R bH cO gN R R R R R R ?_ R (fun a7 a9=>?_)
 exact fun I h s=>(gM).list [] I h s
 refine cV ?_
 cases b
 exact qF (a7,([]:List Int).length,a9) (tE 4 [0])
 refine dJ ?_
 cases b
 exact qF (i,(List.replicate e.toNat (0:Int)).length,j) (tE 3 [0])
theorem Z0q_ok  {a:(List Int)}{r:Tensor}(b:Z0q a=some r) :
 FnOk Tryz.prog 102 [(.slice A2 N2 D2)] [aO kT3 (.slice A2 N2 D2) a] (fun (h:HH×HH)=>((.agg [(s3 h.1),(s3 h.2)].toArray),[ow kT3 3 (s3 h.1) r.Dims,ow kT3 3 (s3 h.2) r.Data])):=by
 unfold Z0q at b
 refine aR Tryz.func102 R 9 R R fun C V=>?_
 refine cL 0 aA ?_
 rintro rfl
 let u:=RR kT3 A2 D2 a::V
 refine cN u ?_
 refine aZ ?_
 refine bG R R eG (fun B=>(aB (aE (aH ?_))))
 obtain ⟨q,j,b⟩:=bd b
 obtain ⟨i,l,b⟩:=bd b
 obtain ⟨e,b⟩:=gd b
 refine aZ ?_
 refine lM _ (fun w s=>(s.d 1 R)) ?_
 refine lC 1 kt R (Zx_ok j) R ?_
 rintro ⟨A6,N6,D6⟩
 refine aM 0 aD ?_
 rintro rfl
 refine lS R (lM _ (fun w s=>(s.d 2 R)) ?_)
 refine lC 1 nS R (Zs_ok l) R ?_
 rintro _
 refine fW (K:=kT3) (m:=i) (z:=(0:Int)) R R bH cO kE (Zr.zk zT3 gN) (by decide) R R e.1 e.2.1 e.2.2 (fun A10 D10=>(lO (vz (.agg [(sc A6 q D6),(sc A10 (List.replicate i.toNat (0:Int)) D10)].toArray) (bA hJ eG R R)) (aL 2 R R bX R R R R R R (lN (OO kT3 3 A10 D10 (List.replicate i.toNat (0:Int))::_::aK B [(sc A6 q D6),(sc A10 (List.replicate i.toNat (0:Int)) D10)] 77::u) ?_))))
 refine aV ?_
 cases b
 exact qS ((A6,q.length,D6),(A10,(List.replicate i.toNat (0:Int)).length,D10)) (tE 4 [1,0])
theorem Zm_ok  {b:(List Int)}{k3:Int}{r:(List Int)}(e:Zm b k3=some r) :
 FnOk Tryz.prog 121 [(.slice A2 N2 D2),(iv k3)] [aO kT3 (.slice A2 N2 D2) b] (fun (h:HH)=>((s3 h),[ow kT3 3 (s3 h) r])):=by
 unfold Zm at e
 refine aR Tryz.func121 R 33 R R fun C V=>?_
 refine cL 0 aA ?_
 rintro rfl
 let D:=RR kT3 A2 D2 b::V
 refine cN D ?_
 refine cB ?_
 obtain ⟨q,e⟩:=gd e
 refine aV ?_
 refine fW (K:=kT3) (m:=(b.length:Int)) (z:=(0:Int)) R R bH cO kE (Zr.zk zT3 gN) (by decide) R R q.1 q.2.1 q.2.2 (fun A5 D5=>(lS R (aB (aE (aH (bB (A:=((List Int))×(Unit)) (fun a=>Zm_J1 a.1=some r) (fun a=>[(5,(sc A5 (List.replicate (b.length:Int).toNat (0:Int)) D5))]) (fun a=>ow kT3 3 (.slice A5 (List.replicate (b.length:Int).toNat (0:Int)).length D5) a.1::D) ?_ ?_))))))
 refine dG ?_
 obtain ⟨Y,J,G⟩:=bd e
 refine bD (A:=Unit) J (fun s a=>[(0,(sc A2 b D2)),(1,(iv s.1)),(5,(sc A5 (List.replicate (b.length:Int).toNat (0:Int)) D5)),(6,(iv s.2.2))]) (fun s a=>ow kT3 3 (.slice A5 (List.replicate (b.length:Int).toNat (0:Int)).length D5) s.2.1::D) () (aS R) tI ?_
 rintro ⟨u,L,j⟩ _ σ1 M e F
 dsimp only [Zm_L1] at e
 refine eD ?_
 split at e
 refine cB ?_
 obtain ⟨B,e⟩:=gd e
 obtain ⟨l,e⟩:=gd e
 obtain ⟨i,e⟩:=gd e
 refine cB ?_
 refine bE 1 aA (show 0<b.length by have:=B; omega) (fun O o22 E=>?_)
 subst E
 refine aZ ?_
 refine lO (rF R R l) (bE 0 aD (show 0<(List.replicate (b.length:Int).toNat (0:Int)).length by have:=i; omega) (fun T o26 E=>?_))
 subst E
 refine cP ?_
 refine eO (K:=kT3) (x':=(u.tmod (ix b j))) 0 j R R cO R R i.1 i.2 ?_ ?_
 exact fun I h s=>(gM).put I h () (u.tmod (ix b j)) s
 refine dN ?_
 refine lO (vz (iv (aI (u.tdiv (ix b j)))) (na R R l)) ?_
 refine dG ?_
 cases e
 exact qA () tI
 refine aV ?_
 cases e
 obtain rfl:=F _ R
 have e:=G
 refine aZ ?_
 exact qI (L,()) e tI
 rintro ⟨U,_⟩ σ1 e
 dsimp only [Zm_J1] at e
 refine eD ?_
 cases e
 exact qF (A5,(List.replicate (b.length:Int).toNat (0:Int)).length,D5) (tE 2 [0])
theorem Z0t_ok  {e:(List Int)}{b:(List Int)}{r:Int}(i:Z0t e b=some r) :
 FnOk Tryz.prog 133 [(.slice A2 N2 D2),(.slice A4 N4 D4)] [aO kT3 (.slice A2 N2 D2) e,aO kT3 (.slice A4 N4 D4) b] (fun (h:Unit)=>((iv r),[])):=by
 unfold Z0t at i
 refine aR Tryz.func133 R 25 R R fun C V=>?_
 refine cL 0 aA ?_
 rintro rfl
 refine cL 1 aA ?_
 rintro rfl
 let q:=RR kT3 A2 D2 e::RR kT3 A4 D4 b::V
 refine cN q ?_
 refine hG ?_
 refine bB (A:=(Int)×(Unit)) (fun a=>Z0t_J1 a.1=some r) (fun a=>[(5,(iv a.1))]) (fun a=>q) ?_ ?_
 refine cB ?_
 obtain ⟨O,E,D⟩:=bd i
 refine bD (A:=Unit) E (fun s a=>[(0,(sc A2 e D2)),(1,(sc A4 b D4)),(5,(iv s.1)),(6,(iv s.2))]) (fun s a=>q) () (aS R) tI ?_
 rintro ⟨F,L⟩ _ σ1 G i B
 dsimp only [Z0t_L1] at i
 refine dG ?_
 split at i
 refine cV ?_
 obtain ⟨j,i⟩:=gd i
 obtain ⟨l,i⟩:=gd i
 refine bC 0 aA (show 0<e.length by have:=j; omega) (fun I o17 u=>?_)
 subst u
 refine bC 1 aA (show 0<b.length by have:=l; omega) (fun J o20 u=>?_)
 subst u
 refine dP 12 [] bS fun U T=>?_
 refine yk 0 [] ?_
 refine dD ?_
 refine eD ?_
 cases i
 exact qA () tI
 refine aV ?_
 cases i
 obtain rfl:=B _ R
 have i:=D
 refine aZ ?_
 exact qI (F,()) i tI
 rintro ⟨M,_⟩ σ1 i
 dsimp only [Z0t_J1] at i
 refine eD ?_
 cases i
 exact qF () (tE 2 [])
theorem Z1e_ok  {t1:Tensor}{a:(List Int)}{r:Int}(b:Z1e t1 a=some r) :
 FnOk Tryz.prog 131 [(.agg [(.slice A2 N2 D2),(.slice A3 N3 D3)].toArray),(.slice A5 N5 D5)] [aO kT3 (.slice A2 N2 D2) t1.Dims,aO kT3 (.slice A3 N3 D3) t1.Data,aO kT3 (.slice A5 N5 D5) a] (fun (h:Unit)=>((iv r),[])):=by
 unfold Z1e at b
 refine aR Tryz.func131 R 13 R R fun C V=>?_
 refine cL 0 aA ?_
 rintro rfl
 refine cL 1 aA ?_
 rintro rfl
 refine cL 2 aA ?_
 rintro rfl
 let l:=RR kT3 A2 D2 t1.Dims::RR kT3 A3 D3 t1.Data::RR kT3 A5 D5 a::V
 refine cN l ?_
 refine aZ ?_
 refine eT R fun u=>?_
 refine aZ ?_
 let q:=aK u [(sc A2 t1.Dims D2),(sc A3 t1.Data D3)] 77::l
 refine qN q ?_
 refine aZ ?_
 obtain ⟨G,j,b⟩:=bd b
 obtain ⟨i,b⟩:=gd b
 refine bC 2 aA (show 0<t1.Data.length by have:=i; omega) (fun B o11 D=>?_)
 subst D
 refine dP 9 [] bS fun F E=>?_
 refine kX 0 [] ?_
 refine d1 5 R (lM _ (fun w s=>(((s.d 1 R).d 4 R).e 2 [1,0])) ?_)
 refine lC 2 u5 R (Z0t_ok j) R ?_
 rintro _
 refine lN q ?_
 refine aB (aJ (sL []) ?_)
 refine j6 6 [] ?_
 refine dD ?_
 refine aZ ?_
 cases b
 exact qF () (tE 4 [])
theorem Z0f_ok  {t1:Tensor}{b:(List Int)}{r:Int}(i:Z0f t1 b=some r) :
 FnOk Tryz.prog 123 [(.agg [(.slice A2 N2 D2),(.slice A3 N3 D3)].toArray),(.slice A5 N5 D5)] [aO kT3 (.slice A2 N2 D2) t1.Dims,aO kT3 (.slice A3 N3 D3) t1.Data,aO kT3 (.slice A5 N5 D5) b] (fun (h:Unit)=>((iv r),[])):=by
 unfold Z0f at i
 refine aR Tryz.func123 R 42 R R fun C V=>?_
 refine cL 0 aA ?_
 rintro rfl
 refine cL 1 aA ?_
 rintro rfl
 refine cL 2 aA ?_
 rintro rfl
 let W0:=RR kT3 A2 D2 t1.Dims::RR kT3 A3 D3 t1.Data::RR kT3 A5 D5 b::V
 refine cN W0 ?_
 refine aZ ?_
 refine eT R fun b6=>?_
 refine aZ ?_
 let T:=aK b6 [(sc A2 t1.Dims D2),(sc A3 t1.Data D3)] 77::W0
 refine qN T ?_
 refine pB ?_
 refine bO (K:=kT3) (xs:=([]:List Int)) (vs:=[]) 0 R R bH cO gN R R R R R R ?_ R (fun A7 D7=>?_)
 exact fun I h s=>(gM).list [] I h s
 refine bL ?_
 refine bB (A:=((List Int))×(HH)) (fun a=>Z0f_J3 t1 a.1=some r) (fun a=>[(2,(pt b6 0)),(6,(s3 a.2))]) (fun a=>ow kT3 3 (s3 a.2) a.1::T) ?_ ?_
 refine cB ?_
 obtain ⟨e1,a7,a6⟩:=bd i
 refine bD (A:=HH×HH) a7 (fun s a=>[(1,(s3 a.1)),(2,(pt b6 0)),(5,(iv (aI ((b.length:Int) - (t1.Dims.length:Int))))),(6,(s3 a.2)),(7,(iv s.2))]) (fun s a=>aO kT3 (s3 a.1) b::ow kT3 3 (s3 a.2) s.1::T) ((A5,b.length,D5),(A7,([]:List Int).length,D7)) (aS R) (fun w s=>(s.d 4 R)) ?_
 rintro ⟨j,L⟩ ⟨⟨a8,a2,E⟩,⟨u,a3,F⟩⟩ σ1 a1 i a5
 dsimp only [Z0f_L1] at i
 refine bK 0 aA (fun (hn:a2=b.length)=>?_)
 subst hn
 refine bK 1 aD (fun (hn:a3=j.length)=>?_)
 subst hn
 refine dJ ?_
 split at i
 refine cB ?_
 obtain ⟨U,i⟩:=gd i
 refine cV ?_
 refine bE 0 aA (show 0<b.length by have:=U; omega) (fun J o27 ha=>?_)
 subst ha
 refine cB ?_
 refine bB (A:=(Int)×(Unit)) (fun a=>Z0f_J2 j L a.1=some a1) (fun a=>[(1,(sc (ad J o27) b E)),(2,(pt b6 0)),(5,(iv (aI ((b.length:Int) - (t1.Dims.length:Int))))),(6,(sc u j F)),(7,(iv L)),(8,(iv a.1))]) (fun a=>RR kT3 (ad J o27) E b::OO kT3 3 u F j::T) ?_ ?_
 refine cP ?_
 obtain ⟨Y,i⟩:=gd i
 refine bL ?_
 refine bE 3 aA (show 0<t1.Dims.length by have:=Y; omega) (fun ab o30 ha=>?_)
 subst ha
 refine cV ?_
 split at i
 refine bL ?_
 exact qI ((0:Int),()) i tI
 refine aZ ?_
 exact qI ((ix b (aI ((aI ((b.length:Int) - (t1.Dims.length:Int)))+L))),()) i tI
 rintro ⟨l,_⟩ σ1 i
 dsimp only [Z0f_J2] at i
 obtain ⟨Z,i⟩:=gd i
 refine aV ?_
 refine bO (K:=kT3) (xs:=([l]:List Int)) (vs:=[(iv l)]) 0 R R bH cO gN R R R R R R ?_ R (fun a9 aa=>?_)
 exact fun I h s=>(gM).list [((),l)] I h s
 refine lM _ (tE 3 [2,0,1]) ?_
 refine eU (K:=kT3) 17592186044416 R R bH cO kE (Zr.zk zT3 gN) R R R R R R eB Z (fun M O=>(lN (OO kT3 3 M O (j++([l]:List Int))::_::T) ?_))
 refine dG ?_
 cases i
 exact qA (((ad J o27),b.length,E),(M,(j++([l]:List Int)).length,O)) (tE 2 [1,0])
 refine aV ?_
 cases i
 obtain rfl:=a5 _ R
 have i:=a6
 refine aZ ?_
 exact qI (j,(u,j.length,F)) i (tE 2 [1])
 rintro ⟨q,⟨D,a4,G⟩⟩ σ1 i
 dsimp only [Z0f_J3] at i
 refine bK 0 aD (fun (hn:a4=q.length)=>?_)
 subst hn
 refine cP ?_
 obtain ⟨ac,a0,i⟩:=bd i
 refine aV ?_
 refine lM _ (fun w s=>(((s.d 2 R).d 4 R).e 3 [2,1,0])) ?_
 refine lC 3 o0 R (FnOk.lends (A':=[OO kT3 3 D G q]) (A:=[RR kT3 D G q]) (B:=[RR kT3 A2 D2 t1.Dims,RR kT3 A3 D3 t1.Data]) (FnOk.perm (Z1e_ok a0) (Pre':=[RR kT3 D G q,RR kT3 A2 D2 t1.Dims,RR kT3 A3 D3 t1.Data]) (fun _ _ _ s=>(s.e 3 [1,2,0]))) ⟨aU,trivial⟩ (fun _=>trivial)) R ?_
 rintro _
 refine bL ?_
 cases i
 exact qF () (tE 5 [])
theorem Zu_ok  {p1:Int}{r:Int}(b:Zu p1=some r) :
 FnOk Tryz.prog 103 [(iv p1)] [] (fun (h:Unit)=>((iv r),[])):=by
 unfold Zu at b
 refine aR Tryz.func103 R 11 R R fun C V=>?_
 refine cN V ?_
 refine dN ?_
 refine lO (rF R R (by decide)) ?_
 refine bL ?_
 refine bB (A:=(Int)×(Unit)) (fun a=>Zu_J1 a.1=some r) (fun a=>[(3,(iv a.1))]) (fun a=>V) ?_ ?_
 refine cB ?_
 split at b
 refine cB ?_
 exact qI ((aI ((p1.tmod (2147483647:Int))+2147483647)),()) b tI
 refine aZ ?_
 exact qI ((p1.tmod (2147483647:Int)),()) b tI
 rintro ⟨e,_⟩ σ1 b
 dsimp only [Zu_J1] at b
 refine eD ?_
 cases b
 exact qF () tI
theorem Z1n_ok  {e:Int}{r:Int}(a:Z1n e=some r) :
 FnOk Tryz.prog 127 [(iv e)] [] (fun (h:Unit)=>((iv r),[])):=by
 unfold Z1n at a
 refine aR Tryz.func127 R 11 R R fun C V=>?_
 refine cN V ?_
 refine cB ?_
 obtain ⟨i,b,a⟩:=bd a
 refine aZ ?_
 refine lC 0 kc R (Zu_ok b) R ?_
 rintro _
 refine dJ ?_
 split at a
 refine dJ ?_
 cases a
 exact qF () tI
 refine dJ ?_
 cases a
 exact qF () tI
theorem Z1v_ok  {j:Int}{l:Int}{r:Int}(a:Z1v j l=some r) :
 FnOk Tryz.prog 134 [(iv j),(iv l)] [] (fun (h:Unit)=>((iv r),[])):=by
 unfold Z1v at a
 refine aR Tryz.func134 R 11 R R fun C V=>?_
 refine cN V ?_
 refine cB ?_
 obtain ⟨q,b,a⟩:=bd a
 obtain ⟨s,e,a⟩:=bd a
 obtain ⟨u,i,a⟩:=bd a
 refine aZ ?_
 refine lC 0 kc R (Zu_ok b) R ?_
 rintro _
 refine lI R (lC 0 kc R (Zu_ok e) R ?_)
 rintro _
 refine cP ?_
 refine lC 0 kc R (Zu_ok i) R ?_
 rintro _
 refine bL ?_
 cases a
 exact qF () tI
theorem Z2h_ok  {j:Int}{l:Int}{r:Int}(a:Z2h j l=some r) :
 FnOk Tryz.prog 153 [(iv j),(iv l)] [] (fun (h:Unit)=>((iv r),[])):=by
 unfold Z2h at a
 refine aR Tryz.func153 R 11 R R fun C V=>?_
 refine cN V ?_
 refine cB ?_
 obtain ⟨q,b,a⟩:=bd a
 obtain ⟨s,e,a⟩:=bd a
 obtain ⟨u,i,a⟩:=bd a
 refine aZ ?_
 refine lC 0 kc R (Zu_ok b) R ?_
 rintro _
 refine lI R (lC 0 kc R (Zu_ok e) R ?_)
 rintro _
 refine cP ?_
 refine lC 0 kc R (Zu_ok i) R ?_
 rintro _
 refine bL ?_
 cases a
 exact qF () tI
theorem Z1o_ok  {j:Int}{l:Int}{r:Int}(a:Z1o j l=some r) :
 FnOk Tryz.prog 130 [(iv j),(iv l)] [] (fun (h:Unit)=>((iv r),[])):=by
 unfold Z1o at a
 refine aR Tryz.func130 R 11 R R fun C V=>?_
 refine cN V ?_
 refine cB ?_
 obtain ⟨q,b,a⟩:=bd a
 obtain ⟨s,e,a⟩:=bd a
 obtain ⟨u,i,a⟩:=bd a
 refine aZ ?_
 refine lC 0 kc R (Zu_ok b) R ?_
 rintro _
 refine lI R (lC 0 kc R (Zu_ok e) R ?_)
 rintro _
 refine cP ?_
 refine lC 0 kc R (Zu_ok i) R ?_
 rintro _
 refine bL ?_
 cases a
 exact qF () tI
theorem Zw_S_ok {u:Int→Int→Option (Int)}(l:∀ {i:Int} {e:Int} {r:Int},u i e=some r→FnOk Tryz.prog 166 [(iv i),(iv e)] [] (fun (h:Unit)=>((iv r),[]))){i:Int}{e:Int}{r:Int}(b:Zw_S u i e=some r) :
 FnOk Tryz.prog 166 [(iv i),(iv e)] [] (fun (h:Unit)=>((iv r),[])):=by
 unfold Zw_S at b
 refine aR Tryz.func166 R 22 R R fun C V=>?_
 refine cN V ?_
 refine jl ?_
 split at b
 refine dN ?_
 cases b
 exact qF () tI
 refine bL ?_
 obtain ⟨F,q,b⟩:=bd b
 refine aV ?_
 refine lO (vz (iv (aI (e.tdiv (2:Int)))) (na R R (by decide))) (lC 0 xj R (l q) R ?_)
 rintro _
 refine bL ?_
 obtain ⟨B,s,b⟩:=bd b
 refine aV ?_
 refine lC 0 pI R (Z1o_ok s) R ?_
 rintro _
 refine bL ?_
 refine bB (A:=(Int)×(Unit)) (fun a=>Zw_J1 a.1=some r) (fun a=>[(5,(iv a.1))]) (fun a=>V) ?_ ?_
 refine aV ?_
 refine lO (rF R R (by decide)) ?_
 refine aV ?_
 split at b
 refine cP ?_
 obtain ⟨D,j,b⟩:=bd b
 refine aV ?_
 refine lC 0 pI R (Z1o_ok j) R ?_
 rintro _
 refine aZ ?_
 exact qI (D,()) b tI
 refine aZ ?_
 exact qI (B,()) b tI
 rintro ⟨E,_⟩ σ1 b
 dsimp only [Zw_J1] at b
 refine eD ?_
 cases b
 exact qF () tI
theorem Zw_R_ok (n:Nat):∀ {a:Int} {b:Int} {r:Int},Zw_R n a b=some r→FnOk Tryz.prog 166 [(iv a),(iv b)] [] (fun (h:Unit)=>((iv r),[])):=by
 induction n with
 | zero=>intros; rename_i h; cases h
 | succ n ih=>intros; rename_i h; exact Zw_S_ok ih h
theorem Zw_ok {a:Int}{b:Int}{r:Int}(e:Zw a b=some r):FnOk Tryz.prog 166 [(iv a),(iv b)] [] (fun (h:Unit)=>((iv r),[])):=Zw_R_ok oA e
theorem Z2g_ok  {i:Int}{r:Int}(a:Z2g i=some r) :
 FnOk Tryz.prog 155 [(iv i)] [] (fun (h:Unit)=>((iv r),[])):=by
 unfold Z2g at a
 refine aR Tryz.func155 R 6 R R fun C V=>?_
 refine cN V ?_
 refine cB ?_
 obtain ⟨j,b,a⟩:=bd a
 obtain ⟨l,e,a⟩:=bd a
 refine aZ ?_
 refine lC 0 kc R (Zu_ok b) R ?_
 rintro _
 refine lC 0 xj R (Zw_ok e) R ?_
 rintro _
 refine bL ?_
 cases a
 exact qF () tI
theorem Z41_ok  {i:Int}{j:Int}{r:Int}(a:Z41 i j=some r) :
 FnOk Tryz.prog 152 [(iv i),(iv j)] [] (fun (h:Unit)=>((iv r),[])):=by
 unfold Z41 at a
 refine aR Tryz.func152 R 9 R R fun C V=>?_
 refine cN V ?_
 refine cB ?_
 obtain ⟨l,b,a⟩:=bd a
 obtain ⟨q,e,a⟩:=bd a
 refine aV ?_
 refine lC 0 xk R (Z2g_ok b) R ?_
 rintro _
 refine lC 0 pI R (Z1o_ok e) R ?_
 rintro _
 refine bL ?_
 cases a
 exact qF () tI
theorem Z1w_ok  {q:Int}{B:Int}{D:Int}{r:Int}(b:Z1w q B D=some r) :
 FnOk Tryz.prog 122 [(iv q),(iv B),(iv D)] [] (fun (h:Unit)=>((iv r),[])):=by
 unfold Z1w at b
 refine aR Tryz.func122 R 54 R R fun C V=>?_
 refine cN V ?_
 refine cB ?_
 obtain ⟨J,s,b⟩:=bd b
 obtain ⟨L,u,b⟩:=bd b
 refine aZ ?_
 refine lC 0 pH R (Z1n_ok s) R ?_
 rintro _
 refine lI R (lC 0 pH R (Z1n_ok u) R ?_)
 rintro _
 refine dJ ?_
 refine bB (A:=(Bool)×(Unit)) (fun a=>Z1w_J1 a.1=some r) (fun a=>[(8,(.bool a.1))]) (fun a=>V) ?_ ?_
 refine jl ?_
 split at b
 refine aZ ?_
 obtain ⟨M,e,b⟩:=bd b
 refine aV ?_
 refine lC 0 rM R (Z1v_ok e) R ?_
 rintro _
 refine cB ?_
 cases b
 exact qF () tI
 refine eD ?_
 split at b
 refine aZ ?_
 obtain ⟨F,i,b⟩:=bd b
 refine aV ?_
 refine lC 0 xi R (Z2h_ok i) R ?_
 rintro _
 refine cB ?_
 cases b
 exact qF () tI
 refine eD ?_
 split at b
 refine aZ ?_
 obtain ⟨G,j,b⟩:=bd b
 refine aV ?_
 refine lC 0 pI R (Z1o_ok j) R ?_
 rintro _
 refine cB ?_
 cases b
 exact qF () tI
 refine eD ?_
 split at b
 refine aZ ?_
 obtain ⟨I,l,b⟩:=bd b
 refine aV ?_
 refine lC 0 Ay R (Z41_ok l) R ?_
 rintro _
 refine cB ?_
 cases b
 exact qF () tI
 refine eD ?_
 split at b
 refine eD ?_
 split at b
 refine hG ?_
 cases b
 exact qF () tI
 refine jl ?_
 cases b
 exact qF () tI
 refine eD ?_
 split at b
 refine eD ?_
 split at b
 refine hG ?_
 cases b
 exact qF () tI
 refine jl ?_
 cases b
 exact qF () tI
 refine eD ?_
 split at b
 refine cB ?_
 exact qI ((decide (J<L)),()) b tI
 refine eD ?_
 split at b
 refine dN ?_
 exact qI ((B==D),()) b tI
 refine aV ?_
 exact qI (false,()) b tI
 rintro ⟨E,_⟩ σ1 b
 dsimp only [Z1w_J1] at b
 refine cB ?_
 split at b
 refine dN ?_
 cases b
 exact qF () tI
 refine dG ?_
 cases b
 exact qF () tI
theorem Z1a_ok  {J:Int}{T:Tensor}{Z:Tensor}{r:Tensor}(i:Z1a J T Z=some r) :
 FnOk Tryz.prog 87 [(iv J),(.agg [(.slice A3 N3 D3),(.slice A4 N4 D4)].toArray),(.agg [(.slice A6 N6 D6),(.slice A7 N7 D7)].toArray)] [aO kT3 (.slice A3 N3 D3) T.Dims,aO kT3 (.slice A4 N4 D4) T.Data,aO kT3 (.slice A6 N6 D6) Z.Dims,aO kT3 (.slice A7 N7 D7) Z.Data] (fun (h:HH×HH)=>((.agg [(s3 h.1),(s3 h.2)].toArray),[ow kT3 3 (s3 h.1) r.Dims,ow kT3 3 (s3 h.2) r.Data])):=by
 unfold Z1a at i
 refine aR Tryz.func87 R 73 R R fun C V=>?_
 refine cL 0 aA ?_
 rintro rfl
 refine cL 1 aA ?_
 rintro rfl
 refine cL 2 aA ?_
 rintro rfl
 refine cL 3 aA ?_
 rintro rfl
 let W0:=RR kT3 A3 D3 T.Dims::RR kT3 A4 D4 T.Data::RR kT3 A6 D6 Z.Dims::RR kT3 A7 D7 Z.Data::V
 refine cN W0 ?_
 refine aZ ?_
 refine eT R fun b8=>?_
 refine eT R fun b9=>?_
 refine bG R R eG (fun u=>(aB ?_))
 let W1:=aK b9 [(sc A6 Z.Dims D6),(sc A7 Z.Data D7)] 77::aK b8 [(sc A3 T.Dims D3),(sc A4 T.Data D4)] 77::W0
 refine aV ?_
 obtain ⟨a1,a7,i⟩:=bd i
 obtain ⟨a3,a8,i⟩:=bd i
 refine cQ [(0,(iv J)),(4,(pt b8 0)),(5,(pt b9 0)),(6,(pt u 0)),(26,(.bool ((((!a1)||(!a3))||(decide (J<1)))||(decide (J>8)))))] (aK u [(.slice none 0 0),(.slice none 0 0)] 77::W1) ?_ ?_
 refine aZ ?_
 refine lM _ (fun w s=>(((s.d 3 R).d 5 R).e 3 [1,0,2])) ?_
 refine lC 2 oH R (Zv_ok a7) R ?_
 rintro _
 refine aZ ?_
 rcases bo (!a1) with a0 | a0
 refine lq ?_
 exact qj tI
 refine cP ?_
 refine lM _ (fun w s=>(((s.d 5 R).d 7 R).e 3 [1,0,2])) ?_
 refine b' 2 R (bW a0) oH R (Zv_ok (bM a8 (cZ a0))) R ?_
 rintro _
 refine aV ?_
 rcases bo ((!a1)||(!a3)) with a4 | a4
 refine dN ?_
 exact qj tI
 refine bL ?_
 rcases bo (((!a1)||(!a3))||(decide (J<1))) with a5 | a5
 refine bL ?_
 exact qj tI
 refine bL ?_
 exact qj tI
 rintro σ1
 refine cP ?_
 split at i
 refine aV ?_
 refine lO (vz (.agg [(.slice none 0 0),(.slice none 0 0)].toArray) (bA hJ eG R R)) (aL 0 R R bX R R R R R R (aB (aE (bY (bZ ?_)))))
 cases i
 exact qS ((none,0,0),(none,0,0)) (fun w s=>(((s.nilo kT3 3).nilo kT3 3).e 9 [1,0]))
 refine bL ?_
 obtain ⟨j,a9,i⟩:=bd i
 refine cV ?_
 refine lM _ (fun w s=>(((s.d 3 R).d 6 R).e 3 [1,0,2])) ?_
 refine lC 2 Ax R (Z05_ok a9) R ?_
 rintro ⟨D,aq,F⟩
 refine aM 0 aD ?_
 rintro rfl
 refine cV ?_
 refine cQ [(0,(iv J)),(4,(pt b8 0)),(5,(pt b9 0)),(6,(pt u 0)),(7,(sc D j F)),(46,(.bool ((decide ((j.length:Int)<(T.Dims.length:Int)))||(decide ((j.length:Int)<(Z.Dims.length:Int))))))] (aK u [(.slice none 0 0),(.slice none 0 0)] 77::OO kT3 3 D F j::W1) ?_ ?_
 refine dN ?_
 rcases bo (decide ((j.length:Int)<(T.Dims.length:Int))) with a6 | a6
 refine dN ?_
 exact qj (tE 2 [1,0])
 refine dN ?_
 exact qj (tE 2 [1,0])
 rintro σ1
 refine cP ?_
 split at i
 refine aV ?_
 refine lO (vz (.agg [(.slice none 0 0),(.slice none 0 0)].toArray) (bA hJ eG R R)) (aL 0 R R bX R R R R R R (aB (aE (bY (bZ ?_)))))
 cases i
 exact qS ((none,0,0),(none,0,0)) (fun w s=>(((s.nilo kT3 3).nilo kT3 3).e 10 [1,0]))
 refine bL ?_
 obtain ⟨b,aa,i⟩:=bd i
 refine aZ ?_
 refine lM _ (tE 2 [1,0]) ?_
 refine lC 1 lr R (FnOk.lends (A':=[OO kT3 3 D F j]) (A:=[RR kT3 D F j]) (B:=[]) (Z0q_ok aa) ⟨aU,trivial⟩ (fun _=>⟨(bN jw),(bN jw),trivial⟩)) R ?_
 rintro ⟨⟨E,ar,G⟩,⟨l,au,q⟩⟩
 refine aM 1 aD ?_
 rintro rfl
 refine aM 2 aD ?_
 rintro rfl
 refine bG R R eG (fun U=>(aL 0 R R bX R R R R R R (lN (aK U [(sc E b.Dims G),(sc l b.Data q)] 77::_::_::_::_::W1) ?_)))
 refine aV ?_
 refine bB (A:=((List Int))×(Unit)) (fun a=>Z1a_J1 b a.1=some r) (fun a=>[(6,(pt u 0)),(8,(pt U 0))]) (fun a=>aK u [(.slice none 0 0),(.slice none 0 0)] 77::aK U [(sc E b.Dims G),(sc l b.Data q)] 77::OO kT3 3 E G b.Dims::ow kT3 3 (.slice l b.Data.length q) a.1::W1) ?_ ?_
 refine cB ?_
 obtain ⟨e1,al,ak⟩:=bd i
 refine bD (A:=Unit) al (fun s a=>[(0,(iv J)),(4,(pt b8 0)),(5,(pt b9 0)),(6,(pt u 0)),(7,(sc D j F)),(8,(pt U 0)),(9,(iv s.2))]) (fun s a=>aK u [(.slice none 0 0),(.slice none 0 0)] 77::OO kT3 3 D F j::aK U [(sc E b.Dims G),(sc l b.Data q)] 77::OO kT3 3 E G b.Dims::ow kT3 3 (.slice l b.Data.length q) s.1::W1) () (aS R) (tE 5 [4,1,0,2,3]) ?_
 rintro ⟨an,am⟩ _ σ1 ap i aj
 dsimp only [Z1a_L1] at i
 refine dJ ?_
 split at i
 refine cB ?_
 obtain ⟨Y,ab,i⟩:=bd i
 refine aV ?_
 refine lM _ (tE 5 [1,0,2,3,4]) ?_
 refine lC 1 ms R (FnOk.lends (A':=[OO kT3 3 D F j]) (A:=[RR kT3 D F j]) (B:=[]) (Zm_ok ab) ⟨aU,trivial⟩ (fun _=>⟨(bN jw),trivial⟩)) R ?_
 rintro ⟨M,av,O⟩
 refine aM 1 aD ?_
 rintro rfl
 refine aV ?_
 obtain ⟨ax,ac,i⟩:=bd i
 obtain ⟨ay,ae,i⟩:=bd i
 obtain ⟨ai,ag,i⟩:=bd i
 obtain ⟨L,i⟩:=gd i
 refine bC 5 aD (show 0<b.Data.length by have:=L; omega) (fun aw o56 ha=>?_)
 subst ha
 refine dP 13 [5] bS fun ht hn=>?_
 refine tW 0 [5] ?_
 refine iM 7 [5] ?_
 refine d1 6 R (lM _ (fun w s=>(((s.d 8 R).d 10 R).e 8 [3,1,0,2,4,5,6,7])) ?_)
 refine lC 3 xl R (FnOk.lends (A':=[OO kT3 3 M O Y]) (A:=[RR kT3 M O Y]) (B:=[RR kT3 A3 D3 T.Dims,RR kT3 A4 D4 T.Data]) (FnOk.perm (Z0f_ok ac) (Pre':=[RR kT3 M O Y,RR kT3 A3 D3 T.Dims,RR kT3 A4 D4 T.Data]) (fun _ _ _ s=>(s.e 3 [1,2,0]))) ⟨aU,trivial⟩ (fun _=>trivial)) R ?_
 rintro _
 refine aB (aJ (tE 6 [1,0,2,3,4]) (d1 9 R (lM _ (fun w s=>(((s.d 10 R).d 12 R).e 8 [2,1,0,3,4,5,6,7])) ?_)))
 refine lC 3 xl R (FnOk.lends (A':=[OO kT3 3 M O Y]) (A:=[RR kT3 M O Y]) (B:=[RR kT3 A6 D6 Z.Dims,RR kT3 A7 D7 Z.Data]) (FnOk.perm (Z0f_ok ae) (Pre':=[RR kT3 M O Y,RR kT3 A6 D6 Z.Dims,RR kT3 A7 D7 Z.Data]) (fun _ _ _ s=>(s.e 3 [1,2,0]))) ⟨aU,trivial⟩ (fun _=>trivial)) R ?_
 rintro _
 refine aB (aJ (tE 6 [1,0,2,3,4]) (d1 10 R (lC 0 Az R (Z1w_ok ag) R ?_)))
 rintro _
 refine aB (aJ (tE 6 [1,0,2,3,4]) (dR 11 R (dV bH cO R R L) (hS:=(tE 6 [1,0,2,3,4])) (d1 12 R (lM _ (fun w s=>(s.f 6 [5,1,0,5])) ?_))))
 refine eO (K:=kT3) (x':=ai) 0 am R R cO R R L.1 L.2 ?_ ?_
 exact fun I h s=>(gM).put I h () ai s
 refine aB (aJ (tE 6 [2,1,3,4,5]) (dD ?_))
 refine eD ?_
 cases i
 exact qA () (tE 6 [3,2,4,5,0])
 refine aV ?_
 cases i
 obtain rfl:=aj _ R
 have i:=ak
 refine aZ ?_
 exact qI (an,()) i (tE 5 [0,2,3,4])
 rintro ⟨ao,_⟩ σ1 i
 dsimp only [Z1a_J1] at i
 refine aV ?_
 refine aL 0 R R bX R R R R R R (lN (aK u [(sc E b.Dims G),(sc l b.Data q)] 77::aK U [(sc E b.Dims G),(sc l b.Data q)] 77::_::ow kT3 3 (.slice l b.Data.length q) ao::W1) ?_)
 refine aV ?_
 cases i
 exact qS ((E,b.Dims.length,G),(l,b.Data.length,q)) (tE 10 [2,3])
theorem Z39_ok  {e:Int}{l:Int}{r:Int}(a:Z39 e l=some r) :
 FnOk Tryz.prog 124 [(iv e),(iv l)] [] (fun (h:Unit)=>((iv r),[])):=by
 unfold Z39 at a
 refine aR Tryz.func124 R 20 R R fun C V=>?_
 refine cN V ?_
 refine yh ?_
 split at a
 refine aZ ?_
 obtain ⟨q,i,a⟩:=bd a
 refine aZ ?_
 refine lC 0 xi R (Z2h_ok i) R ?_
 rintro _
 refine cB ?_
 cases a
 exact qF () tI
 refine eD ?_
 split at a
 refine aZ ?_
 obtain ⟨s,j,a⟩:=bd a
 refine aZ ?_
 refine lC 0 xk R (Z2g_ok j) R ?_
 rintro _
 refine cB ?_
 cases a
 exact qF () tI
 refine cB ?_
 obtain ⟨u,b,a⟩:=bd a
 refine aZ ?_
 refine lC 0 pH R (Z1n_ok b) R ?_
 rintro _
 refine aV ?_
 split at a
 refine dN ?_
 cases a
 exact qF () tI
 refine dJ ?_
 split at a
 refine dN ?_
 cases a
 exact qF () tI
 refine dJ ?_
 cases a
 exact qF () tI
theorem Z19_ok  {q:Int}{D:Tensor}{r:Tensor}(i:Z19 q D=some r) :
 FnOk Tryz.prog 88 [(iv q),(.agg [(.slice A3 N3 D3),(.slice A4 N4 D4)].toArray)] [aO kT3 (.slice A3 N3 D3) D.Dims,aO kT3 (.slice A4 N4 D4) D.Data] (fun (h:HH×HH)=>((.agg [(s3 h.1),(s3 h.2)].toArray),[ow kT3 3 (s3 h.1) r.Dims,ow kT3 3 (s3 h.2) r.Data])):=by
 unfold Z19 at i
 refine aR Tryz.func88 R 41 R R fun C V=>?_
 refine cL 0 aA ?_
 rintro rfl
 refine cL 1 aA ?_
 rintro rfl
 let W0:=RR kT3 A3 D3 D.Dims::RR kT3 A4 D4 D.Data::V
 refine cN W0 ?_
 refine aZ ?_
 refine eT R fun T=>?_
 refine bG R R eG (fun E=>(aB ?_))
 let F:=aK T [(sc A3 D.Dims D3),(sc A4 D.Data D4)] 77::W0
 refine aV ?_
 obtain ⟨r7,a2,i⟩:=bd i
 refine cQ [(0,(iv q)),(3,(pt T 0)),(4,(pt E 0)),(17,(.bool (((!r7)||(decide (q<1)))||(decide (q>4)))))] (aK E [(.slice none 0 0),(.slice none 0 0)] 77::F) ?_ ?_
 refine aZ ?_
 refine lM _ (fun w s=>(((s.d 2 R).d 4 R).e 3 [1,0,2])) ?_
 refine lC 2 oH R (Zv_ok a2) R ?_
 rintro _
 refine aZ ?_
 rcases bo (!r7) with Y | Y
 refine dN ?_
 exact qj tI
 refine bL ?_
 rcases bo ((!r7)||(decide (q<1))) with G | G
 refine bL ?_
 exact qj tI
 refine bL ?_
 exact qj tI
 rintro σ1
 refine cP ?_
 split at i
 refine aV ?_
 refine lO (vz (.agg [(.slice none 0 0),(.slice none 0 0)].toArray) (bA hJ eG R R)) (aL 0 R R bX R R R R R R (aB (aE (bY (bZ ?_)))))
 cases i
 exact qS ((none,0,0),(none,0,0)) (fun w s=>(((s.nilo kT3 3).nilo kT3 3).e 6 [1,0]))
 refine bL ?_
 obtain ⟨b,L,i⟩:=bd i
 refine aV ?_
 refine lM _ (fun w s=>(s.d 2 R)) ?_
 refine lC 1 lr R (Z0q_ok L) R ?_
 rintro ⟨⟨A14,N14,D14⟩,⟨j,a6,l⟩⟩
 refine aM 0 aD ?_
 rintro rfl
 refine aM 1 aD ?_
 rintro rfl
 refine bG R R eG (fun u=>(aL 0 R R bX R R R R R R (lN (aK u [(sc A14 b.Dims D14),(sc j b.Data l)] 77::_::_::_::F) ?_)))
 refine aV ?_
 refine bB (A:=((List Int))×(Unit)) (fun a=>Z19_J1 b a.1=some r) (fun a=>[(4,(pt E 0)),(5,(pt u 0))]) (fun a=>aK E [(.slice none 0 0),(.slice none 0 0)] 77::aK u [(sc A14 b.Dims D14),(sc j b.Data l)] 77::OO kT3 3 A14 D14 b.Dims::ow kT3 3 (.slice j b.Data.length l) a.1::F) ?_ ?_
 refine cB ?_
 obtain ⟨e1,a1,a0⟩:=bd i
 refine bD (A:=Unit) a1 (fun s a=>[(0,(iv q)),(3,(pt T 0)),(4,(pt E 0)),(5,(pt u 0)),(6,(iv s.2))]) (fun s a=>aK E [(.slice none 0 0),(.slice none 0 0)] 77::aK u [(sc A14 b.Dims D14),(sc j b.Data l)] 77::OO kT3 3 A14 D14 b.Dims::ow kT3 3 (.slice j b.Data.length l) s.1::F) () (aS R) (tE 4 [3,0,1,2]) ?_
 rintro ⟨a3,i27⟩ _ σ1 a5 i Z
 dsimp only [Z19_L1] at i
 refine dJ ?_
 split at i
 refine cV ?_
 obtain ⟨J,i⟩:=gd i
 obtain ⟨O,M,i⟩:=bd i
 obtain ⟨B,i⟩:=gd i
 refine bC 6 aA (show 0<D.Data.length by have:=J; omega) (fun a7 o31 U=>?_)
 subst U
 refine bC 3 aD (show 0<b.Data.length by have:=B; omega) (fun a8 o36 U=>?_)
 subst U
 refine dP 12 [3] bS fun ht hn=>?_
 refine xg 0 [3] ?_
 refine d1 9 R (lC 0 AB R (Z39_ok M) R ?_)
 rintro _
 refine aB (aJ (sL [3]) ?_)
 refine pC 10 [3] ?_
 refine d1 11 R (lM _ (tE 4 [3,0,1,2]) ?_)
 refine eO (K:=kT3) (x':=O) 0 i27 R R cO R R B.1 B.2 ?_ ?_
 exact fun I h s=>(gM).put I h () O s
 refine aB (aJ (sL [0]) (dD ?_))
 refine eD ?_
 cases i
 exact qA () (tE 4 [1,2,3,0])
 refine aV ?_
 cases i
 obtain rfl:=Z _ R
 have i:=a0
 refine aZ ?_
 exact qI (a3,()) i tI
 rintro ⟨a4,_⟩ σ1 i
 dsimp only [Z19_J1] at i
 refine aV ?_
 refine aL 0 R R bX R R R R R R (lN (aK E [(sc A14 b.Dims D14),(sc j b.Data l)] 77::aK u [(sc A14 b.Dims D14),(sc j b.Data l)] 77::_::ow kT3 3 (.slice j b.Data.length l) a4::F) ?_)
 refine aV ?_
 cases i
 exact qS ((A14,b.Dims.length,D14),(j,b.Data.length,l)) (tE 7 [2,3])
theorem Z1p_ok  {t1:Tensor}{a:Int}{r:Bool}(b:Z1p t1 a=some r) :
 FnOk Tryz.prog 125 [(.agg [(.slice A2 N2 D2),(.slice A3 N3 D3)].toArray),(iv a)] [aO kT3 (.slice A2 N2 D2) t1.Dims,aO kT3 (.slice A3 N3 D3) t1.Data] (fun (h:Unit)=>((.bool r),[])):=by
 unfold Z1p at b
 refine aR Tryz.func125 R 18 R R fun C V=>?_
 refine cL 0 aA ?_
 rintro rfl
 refine cL 1 aA ?_
 rintro rfl
 let B:=RR kT3 A2 D2 t1.Dims::RR kT3 A3 D3 t1.Data::V
 refine cN B ?_
 refine aZ ?_
 refine eT R fun D=>?_
 refine aZ ?_
 let i:=aK D [(sc A2 t1.Dims D2),(sc A3 t1.Data D3)] 77::B
 refine qN i ?_
 refine aZ ?_
 obtain ⟨u,q,b⟩:=bd b
 refine cQ [(4,(.bool ((u&&(decide (a≥0)))&&(decide (a<(t1.Dims.length:Int))))))] (i) ?_ ?_
 refine aZ ?_
 refine lM _ (fun w s=>(((s.d 1 R).d 3 R).e 2 [1,0])) ?_
 refine lC 2 oH R (Zv_ok q) R ?_
 rintro _
 refine lN i ?_
 refine cP ?_
 rcases bo u with j | j
 refine bL ?_
 rcases bo (u&&(decide (a≥0))) with l | l
 refine dN ?_
 exact qj tI
 refine dN ?_
 exact qj tI
 refine jl ?_
 exact qj tI
 rintro σ1
 refine aZ ?_
 cases b
 exact qF () (tE 3 [])
theorem Z0r_ok  {i:(List Int)}{l:Int}{e:Int}{r:(List Int)}(b:Z0r i l e=some r) :
 FnOk Tryz.prog 141 [(.slice A2 N2 D2),(iv l),(iv e)] [aO kT3 (.slice A2 N2 D2) i] (fun (h:HH)=>((s3 h),[ow kT3 3 (s3 h) r])):=by
 unfold Z0r at b
 refine aR Tryz.func141 R 15 R R fun C V=>?_
 refine cL 0 aA ?_
 rintro rfl
 let u:=RR kT3 A2 D2 i::V
 refine cN u ?_
 refine cB ?_
 obtain ⟨q,j,b⟩:=bd b
 refine aZ ?_
 refine lM _ (fun w s=>(s.d 0 R)) ?_
 refine lC 1 kt R (Zx_ok j) R ?_
 rintro ⟨A7,N7,D7⟩
 refine aM 0 aD ?_
 rintro rfl
 refine bL ?_
 obtain ⟨a,b⟩:=gd b
 refine bL ?_
 refine bE 0 aD (show 0<q.length by have:=a; omega) (fun B o10 D=>?_)
 subst D
 refine cP ?_
 refine eO (K:=kT3) (x':=e) 0 l R R cO R R a.1 a.2 ?_ ?_
 exact fun I h s=>(gM).put I h () e s
 refine dG ?_
 cases b
 exact qF ((ad B o10),q.length,D7) (tE 2 [0])
theorem Z15_ok  {t1:Tensor}{i:Int}{M:(List Int)}{r:(List Int)}(b:Z15 t1 i M=some r) :
 FnOk Tryz.prog 126 [(.agg [(.slice A2 N2 D2),(.slice A3 N3 D3)].toArray),(iv i),(.slice A6 N6 D6)] [aO kT3 (.slice A2 N2 D2) t1.Dims,aO kT3 (.slice A3 N3 D3) t1.Data,aO kT3 (.slice A6 N6 D6) M] (fun (h:HH)=>((.slice h.1 h.2.1 h.2.2),[ow kT3 3 (.slice h.1 h.2.1 h.2.2) r])):=by
 unfold Z15 at b
 refine aR Tryz.func126 R 29 R R fun C V=>?_
 refine cN (_::_::_::V) ?_
 refine cL 0 aA ?_
 rintro rfl
 refine cL 1 aA ?_
 rintro rfl
 refine cL 2 aA ?_
 rintro rfl
 let W0:List HP:=RR kT3 A2 D2 t1.Dims::RR kT3 A3 D3 t1.Data::RR kT3 A6 D6 M::V
 refine cN W0 ?_
 refine aH (aC (eT R (fun b7=>(lS R (aB ?_)))))
 let q:List HP:=aK b7 [(sc A2 t1.Dims D2),(sc A3 t1.Data D3)] 77::W0
 refine qN q ?_
 refine aE (aH (aC (bO (K:=kT3) (xs:=([]:List Int)) (vs:=[]) 0 R R bH cO gN R R R R R R ?_ R (fun A8 D8=>?_))))
 exact fun I h s=>(gM).list [] I h s
 refine lN (OO kT3 3 A8 D8 ([]:List Int)::q) ?_
 refine lS R (aB (aE (aH (bB (A:=((List Int))×(HH)) (fun a=>Z15_J1 a.1=some r) (fun a=>[(7,(.slice a.2.1 a.2.2.1 a.2.2.2))]) (fun a=>ow kT3 3 (.slice a.2.1 a.2.2.1 a.2.2.2) a.1::q) ?_ ?_))))
 refine aH (aC (lI R (aB (aE (bV ?_)))))
 obtain ⟨e1,ac,ab⟩:=bd b
 refine bD (A:=HH) ac (fun s a=>[(1,(iv i)),(2,(sc A6 M D6)),(3,(pt b7 0)),(7,(.slice a.1 a.2.1 a.2.2)),(8,(iv s.2))]) (fun s a=>ow kT3 3 (.slice a.1 a.2.1 a.2.2) s.1::q) (A8,([]:List Int).length,D8) (aS R) (fun w s=>s) ?_
 rintro ⟨j,ae⟩ ⟨O,a7,U⟩ σ1 a2 b aa
 replace b:Z15_L1 t1 i M j ae=some a2:=b
 unfold Z15_L1 at b
 refine bK 0 aD (fun (hn:a7=j.length)=>?_)
 subst hn
 refine aH (aH ?_)
 obtain ⟨D,b⟩:=gd b
 refine aC (lI R (lO (eW 0 j7 R) (lO (eS 1 cH R R R) (lI R (bE 2 aA (show 0<t1.Dims.length by have:=D; omega) (fun G o26 ha=>?_))))))
 subst ha
 refine lO (dV bH cO R R D) (lO (fQ 2 fC aA R D) (lO (jG R R) (aB (aE ?_))))
 rcases cF b with ⟨u,b⟩|⟨u,b⟩
 refine bJ R u (bQ (aE (aH (bV ?_))))
 obtain ⟨J,a0,b⟩:=bd b
 obtain ⟨l,a1,b⟩:=bd b
 obtain ⟨Z,b⟩:=gd b
 refine dP 10 [0] bS (fun ht hn=>(dR 0 R (vS R) (hS:=(sL [0])) (dR 1 R (vz (.agg [(sc (ad G o26) t1.Dims D2),(sc A3 t1.Data D3)].toArray) (dA 0 fX bX R R R R)) (hS:=(sL [0])) (dR 2 R (vS R) (hS:=(sL [0])) (dR 3 R (vI R) (hS:=(sL [0])) (dR 4 R (vI R) (hS:=(sL [0])) (d1 5 R (lM (RR kT3 A6 D6 M::OO kT3 3 O U j::q) (fun w s=>(s.d 4 R)) ?_))))))))
 refine lC 1 lu R (Z0r_ok a0) R ?_
 rintro ⟨E,a8,F⟩
 refine lN (ow kT3 3 (.slice E a8 F) J::_::q) ?_
 refine aM 0 aD ?_
 rintro rfl
 refine aB (aJ (sL [1,0]) (d1 6 R (lM (ow _ _ _ _::RR kT3 (ad G o26) D2 t1.Dims::RR kT3 A3 D3 t1.Data::ow _ _ _ _::q) (fun w s=>(((s.d 3 R).d 5 R).e 4 [2,1,0,3])) ?_)))
 refine lC 3 o0 R (FnOk.lends (A':=[OO kT3 3 E F J]) (A:=[RR kT3 E F J]) (B:=[RR kT3 (ad G o26) D2 t1.Dims,RR kT3 A3 D3 t1.Data]) (FnOk.perm (Z1e_ok a1) (Pre':=[RR kT3 E F J,RR kT3 (ad G o26) D2 t1.Dims,RR kT3 A3 D3 t1.Data]) (fun _ _ _ s=>(s.e 3 [1,2,0]))) ⟨aU,trivial⟩ (fun _=>trivial)) R ?_
 rintro _
 refine lN (_::_::q) ?_
 refine aB (aJ (sL [1,0]) (d1 7 R (bO (K:=kT3) (xs:=([l]:List Int)) (vs:=[(iv l)]) 0 R R bH cO gN R R R R R R ?_ R (fun a3 a5=>?_))))
 exact fun I h s=>(gM).list [((),l)] I h s
 refine lN (OO kT3 3 a3 a5 ([l]:List Int)::_::_::q) ?_
 refine aB (aJ (sL [2,1,0]) (d1 8 R (lM (ow _ _ _ _::ow _ _ _ _::ow _ _ _ _::q) (fun w s=>(s.e 3 [2,0,1])) ?_)))
 refine eU (K:=kT3) 17592186044416 R R bH cO kE (Zr.zk zT3 gN) R R R R R R eB Z (fun T Y=>(lN (OO kT3 3 T Y (j++([l]:List Int))::_::q) ?_))
 refine aB (aJ (sL [1,0]) (dR 9 R (vS R) (hS:=(sL [1,0])) (dD (cD (aE (aC (lI R (lO (iE R R) (lI R (aB ?_))))))))))
 obtain rfl:=so b
 exact qA (T,(j++([l]:List Int)).length,Y) (fun w s=>(s.e 2 [0]))
 refine aY R u (eA (cE ?_))
 obtain rfl:=so b
 obtain rfl:=aa _ R
 have b:=ab
 refine cE (dH ?_)
 exact qI (j,(O,j.length,U)) b (fun w s=>s)
 rintro ⟨L,⟨a4,a9,a6⟩⟩ σ1 b
 replace b:Z15_J1 L=some r:=b
 unfold Z15_J1 at b
 refine bK 0 aD (fun (hn:a9=L.length)=>?_)
 subst hn
 refine aH (aC (lS R (lS R (aB (aE (bY ?_))))))
 obtain rfl:=so b
 exact qF (a4,L.length,a6) (fun w s=>(s.e 5 [0]))
theorem Zd_ok  {t1:Tensor}{q:Int}{r:Tensor}(i:Zd t1 q=some r) :
 FnOk Tryz.prog 89 [(.agg [(.slice A2 N2 D2),(.slice A3 N3 D3)].toArray),(iv q)] [aO kT3 (.slice A2 N2 D2) t1.Dims,aO kT3 (.slice A3 N3 D3) t1.Data] (fun (h:HH×HH)=>((.agg [(s3 h.1),(s3 h.2)].toArray),[ow kT3 3 (s3 h.1) r.Dims,ow kT3 3 (s3 h.2) r.Data])):=by
 unfold Zd at i
 refine aR Tryz.func89 R 75 R R fun C V=>?_
 refine cL 0 aA ?_
 rintro rfl
 refine cL 1 aA ?_
 rintro rfl
 let W0:=RR kT3 A2 D2 t1.Dims::RR kT3 A3 D3 t1.Data::V
 refine cN W0 ?_
 refine aZ ?_
 refine eT R fun b5=>?_
 refine bG R R eG (fun U=>(aB ?_))
 let W1:=aK b5 [(sc A2 t1.Dims D2),(sc A3 t1.Data D3)] 77::W0
 refine aV ?_
 obtain ⟨r7,ay,i⟩:=bd i
 refine aV ?_
 refine lM _ (fun w s=>(((s.d 2 R).d 4 R).e 3 [1,0,2])) ?_
 refine lC 2 pJ R (Z1p_ok ay) R ?_
 rintro _
 refine aV ?_
 split at i
 refine aV ?_
 refine lO (vz (.agg [(.slice none 0 0),(.slice none 0 0)].toArray) (bA hJ eG R R)) (aL 0 R R bX R R R R R R (aB (aE (bY (bZ ?_)))))
 cases i
 exact qS ((none,0,0),(none,0,0)) (fun w s=>(((s.nilo kT3 3).nilo kT3 3).e 6 [1,0]))
 refine bL ?_
 obtain ⟨b,aj,i⟩:=bd i
 refine aV ?_
 refine lM _ (fun w s=>(s.d 2 R)) ?_
 refine lC 1 lr R (Z0q_ok aj) R ?_
 rintro ⟨⟨A12,N12,D12⟩,⟨j,b4,l⟩⟩
 refine aM 0 aD ?_
 rintro rfl
 refine aM 1 aD ?_
 rintro rfl
 refine bG R R eG (fun u=>(aL 0 R R bX R R R R R R (lN (aK u [(sc A12 b.Dims D12),(sc j b.Data l)] 77::_::_::_::W1) ?_)))
 refine aV ?_
 refine bB (A:=((List Int))×(Unit)) (fun a=>Zd_J9 b a.1=some r) (fun a=>[(4,(pt U 0)),(5,(pt u 0))]) (fun a=>aK U [(.slice none 0 0),(.slice none 0 0)] 77::aK u [(sc A12 b.Dims D12),(sc j b.Data l)] 77::OO kT3 3 A12 D12 b.Dims::ow kT3 3 (.slice j b.Data.length l) a.1::W1) ?_ ?_
 refine cB ?_
 obtain ⟨e1,aw,au⟩:=bd i
 refine bD (A:=Unit) aw (fun s a=>[(1,(iv q)),(2,(pt b5 0)),(4,(pt U 0)),(5,(pt u 0)),(6,(iv s.2))]) (fun s a=>aK U [(.slice none 0 0),(.slice none 0 0)] 77::aK u [(sc A12 b.Dims D12),(sc j b.Data l)] 77::OO kT3 3 A12 D12 b.Dims::ow kT3 3 (.slice j b.Data.length l) s.1::W1) () (aS R) (tE 4 [3,0,1,2]) ?_
 rintro ⟨T,O⟩ _ σ1 a5 i aq
 dsimp only [Zd_L1] at i
 refine dJ ?_
 split at i
 refine bL ?_
 refine bB (A:=((List Int))×(Unit)) (fun a=>Zd_J8 O a.1=some a5) (fun a=>[(1,(iv q)),(2,(pt b5 0)),(4,(pt U 0)),(5,(pt u 0)),(6,(iv O))]) (fun a=>aK U [(.slice none 0 0),(.slice none 0 0)] 77::aK u [(sc A12 b.Dims D12),(sc j b.Data l)] 77::OO kT3 3 A12 D12 b.Dims::ow kT3 3 (.slice j b.Data.length l) a.1::W1) ?_ ?_
 refine aZ ?_
 obtain ⟨F,ak,i⟩:=bd i
 refine bL ?_
 refine lM _ (fun w s=>(s.d 5 R)) ?_
 refine lC 1 ms R (Zm_ok ak) R ?_
 rintro ⟨J,b7,L⟩
 refine aM 0 aD ?_
 rintro rfl
 refine bL ?_
 obtain ⟨G,al,i⟩:=bd i
 refine bL ?_
 refine lM _ (fun w s=>(((s.d 6 R).d 8 R).e 7 [2,1,0,3,4,5,6])) ?_
 refine lC 3 AC R (FnOk.lends (A':=[OO kT3 3 J L F]) (A:=[RR kT3 J L F]) (B:=[RR kT3 A2 D2 t1.Dims,RR kT3 A3 D3 t1.Data]) (FnOk.perm (Z15_ok al) (Pre':=[RR kT3 J L F,RR kT3 A2 D2 t1.Dims,RR kT3 A3 D3 t1.Data]) (fun _ _ _ s=>(s.e 3 [1,2,0]))) ⟨aU,trivial⟩ (fun _=>⟨(bN jw),trivial⟩)) R ?_
 rintro ⟨ao,b8,ap⟩
 refine aM 1 aD ?_
 rintro rfl
 refine dG ?_
 refine bB (A:=(Bool)×(Unit)) (fun a=>Zd_J7 b T O a.1=some a5) (fun a=>[(1,(iv q)),(2,(pt b5 0)),(4,(pt U 0)),(5,(pt u 0)),(6,(iv O)),(9,(.bool a.1))]) (fun a=>aK U [(.slice none 0 0),(.slice none 0 0)] 77::aK u [(sc A12 b.Dims D12),(sc j b.Data l)] 77::OO kT3 3 A12 D12 b.Dims::ow kT3 3 (.slice j b.Data.length l) T::W1) ?_ ?_
 refine cB ?_
 obtain ⟨e2,ax,av⟩:=bd i
 refine bD (A:=HH) ax (fun s a=>[(1,(iv q)),(2,(pt b5 0)),(4,(pt U 0)),(5,(pt u 0)),(6,(iv O)),(7,(sc J F L)),(8,(s3 a)),(9,(.bool s.1)),(10,(iv s.2))]) (fun s a=>aK U [(.slice none 0 0),(.slice none 0 0)] 77::aK u [(sc A12 b.Dims D12),(sc j b.Data l)] 77::OO kT3 3 A12 D12 b.Dims::ow kT3 3 (.slice j b.Data.length l) T::OO kT3 3 J L F::ow kT3 3 (s3 a) G::W1) (ao,G.length,ap) (aS R) (fun w s=>(s.f 6 [2,4,0,2])) ?_
 rintro ⟨E,a2⟩ ⟨az,ac,a0⟩ σ1 am i ar
 dsimp only [Zd_L2] at i
 refine bK 5 aD (fun (hn:ac=G.length)=>?_)
 subst hn
 refine dG ?_
 split at i
 refine bL ?_
 refine bB (A:=(Bool)×(HH)) (fun a=>Zd_J6 a2 a.1=some am) (fun a=>[(1,(iv q)),(2,(pt b5 0)),(4,(pt U 0)),(5,(pt u 0)),(6,(iv O)),(7,(sc J F L)),(8,(s3 a.2)),(9,(.bool a.1)),(10,(iv a2))]) (fun a=>aK U [(.slice none 0 0),(.slice none 0 0)] 77::aK u [(sc A12 b.Dims D12),(sc j b.Data l)] 77::OO kT3 3 A12 D12 b.Dims::ow kT3 3 (.slice j b.Data.length l) T::OO kT3 3 J L F::ow kT3 3 (s3 a.2) G::W1) ?_ ?_
 refine aZ ?_
 obtain ⟨a6,i⟩:=gd i
 obtain ⟨a3,a8,i⟩:=bd i
 refine aV ?_
 refine bE 5 aD (show 0<G.length by have:=a6; omega) (fun a1 o106 ha=>?_)
 subst ha
 refine aZ ?_
 refine lC 0 pH R (Z1n_ok a8) R ?_
 rintro _
 refine bL ?_
 obtain ⟨a7,i⟩:=gd i
 obtain ⟨a4,a9,i⟩:=bd i
 refine bL ?_
 refine bE 8 aA (show 0<t1.Data.length by have:=a7; omega) (fun b0 o111 ha=>?_)
 subst ha
 refine aZ ?_
 refine lC 0 pH R (Z1n_ok a9) R ?_
 rintro _
 refine bL ?_
 obtain ⟨Y,i⟩:=gd i
 refine cQ [(1,(iv q)),(2,(pt b5 0)),(4,(pt U 0)),(5,(pt u 0)),(6,(iv O)),(7,(sc J F L)),(8,(sc (ad a1 o106) G a0)),(9,(.bool E)),(10,(iv a2)),(68,(.bool ((decide (a3>a4))||((a3==a4)&&(decide (a2<(ix F q)))))))] (aK U [(.slice none 0 0),(.slice none 0 0)] 77::aK u [(sc A12 b.Dims D12),(sc j b.Data l)] 77::OO kT3 3 A12 D12 b.Dims::ow kT3 3 (.slice j b.Data.length l) T::OO kT3 3 J L F::OO kT3 3 (ad a1 o106) a0 G::W1) ?_ ?_
 refine cV ?_
 rcases bo (decide (a3>a4)) with M | M
 refine lq ?_
 exact qj tI
 refine bL ?_
 rcases bo (a3==a4) with D | D
 refine aV ?_
 refine bE 4 aD (show 0<F.length by have:=(Y M D); omega) (fun b1 o116 ha=>?_)
 subst ha
 refine lW (dO D) (dV bH cO R R (Y M D)) (lW (dO D) (fQ 4 fC aD R (Y M D)) ?_)
 refine bL ?_
 exact qj tI
 refine dG ?_
 exact qj tI
 rintro σ1
 refine cP ?_
 split at i
 refine cV ?_
 exact qI (false,((ad a1 o106),G.length,a0)) i tI
 refine aV ?_
 exact qI (E,((ad a1 o106),G.length,a0)) i tI
 rintro ⟨ag,⟨aa,ae,ab⟩⟩ σ1 i
 dsimp only [Zd_J6] at i
 refine bK 5 aD (fun (hn:ae=G.length)=>?_)
 subst hn
 refine cV ?_
 cases i
 exact qA (aa,G.length,ab) tI
 refine aV ?_
 cases i
 obtain rfl:=ar _ R
 have i:=av
 refine aZ ?_
 exact qI (E,()) i (fun w s=>(s.f 6 [0,4]))
 rintro ⟨ai,_⟩ σ1 i
 dsimp only [Zd_J7] at i
 refine cV ?_
 split at i
 refine cP ?_
 obtain ⟨Z,i⟩:=gd i
 refine bL ?_
 refine bE 3 aD (show 0<b.Data.length by have:=Z; omega) (fun b2 o129 ha=>?_)
 subst ha
 refine cP ?_
 refine lM _ (tE 4 [3,0,1,2]) ?_
 refine eO (K:=kT3) (x':=(1:Int)) 0 O R R cO R R Z.1 Z.2 ?_ ?_
 exact fun I h s=>(gM).put I h () (1:Int) s
 refine aZ ?_
 exact qI ((T.set O.toNat (1:Int)),()) i (tE 4 [1,2,3,0])
 refine aV ?_
 exact qI (T,()) i tI
 rintro ⟨b3,_⟩ σ1 i
 dsimp only [Zd_J8] at i
 refine cV ?_
 cases i
 exact qA () tI
 refine aV ?_
 cases i
 obtain rfl:=aq _ R
 have i:=au
 refine aZ ?_
 exact qI (T,()) i tI
 rintro ⟨an,_⟩ σ1 i
 dsimp only [Zd_J9] at i
 refine aV ?_
 refine aL 0 R R bX R R R R R R (lN (aK U [(sc A12 b.Dims D12),(sc j b.Data l)] 77::aK u [(sc A12 b.Dims D12),(sc j b.Data l)] 77::_::ow kT3 3 (.slice j b.Data.length l) an::W1) ?_)
 refine aV ?_
 cases i
 exact qS ((A12,b.Dims.length,D12),(j,b.Data.length,l)) (tE 7 [2,3])
theorem Z14_ok  {p1:aN}{r:Bool}(b:Z14 p1=some r) :
 FnOk Tryz.prog 156 [(aG p1)] [] (fun (h:Unit)=>((.bool r),[])):=by
 unfold Z14 at b
 refine aR Tryz.func156 R 23 R R fun C V=>?_
 refine cN V ?_
 refine cB ?_
 refine bB (A:=(Unit)×(Unit)) (fun a=>Z14_J1 p1=some r) (fun a=>[(0,(aG p1))]) (fun a=>V) ?_ ?_
 refine cB ?_
 obtain ⟨D,u,q⟩:=bd b
 refine bD (A:=Unit) u (fun s a=>[(0,(aG p1)),(3,(iv s))]) (fun s a=>V) () (aS R) tI ?_
 rintro j _ σ1 B b l
 dsimp only [Z14_L1] at b
 refine bL ?_
 refine lO (vp (aG p1) R) (lO (vz (il p1) (eC f' R)) ?_)
 refine aV ?_
 split at b
 refine cB ?_
 obtain ⟨i,b⟩:=gd b
 refine cQ [(0,(aG p1)),(3,(iv j)),(19,(.bool ((decide ((bt p1 j)<97))||(decide ((bt p1 j)>122)))))] (V) ?_ ?_
 refine aC (lO (vp (aG p1) R) (lI R (lO (vz (.int .u8 (bt p1 j)) (dB f' R R i.1 i.2)) (lO (vp (.bool (decide ((bt p1 j)<97))) R) (lB R ?_)))))
 rcases bo (decide ((bt p1 j)<97)) with e | e
 refine cB ?_
 exact qj tI
 refine lW (bW e) (vp (aG p1) R) (lW (bW e) (vI R) (lW (bW e) (vz (.int .u8 (bt p1 j)) (dB f' R R i.1 i.2)) (lW (bW e) (vp (.bool (decide ((bt p1 j)>122))) R) ?_)))
 refine aZ ?_
 exact qj tI
 rintro σ1
 refine cP ?_
 split at b
 refine dG ?_
 cases b
 obtain rfl:=l _ R
 have b:=q
 refine aV ?_
 cases b
 exact qF () tI
 refine dG ?_
 cases b
 exact qA () tI
 refine aV ?_
 cases b
 obtain rfl:=l _ R
 have b:=q
 refine aZ ?_
 exact qI ((),()) b tI
 rintro ⟨_,_⟩ σ1 b
 dsimp only [Z14_J1] at b
 refine aZ ?_
 refine lO (vp (aG p1) R) (lO (vz (il p1) (eC f' R)) ?_)
 refine cV ?_
 cases b
 exact qF () tI
theorem Z13_ok  {p1:aN}{l:Int}{r:Bool}(b:Z13 p1 l=some r) :
 FnOk Tryz.prog 119 [(aG p1),(.int .u8 l)] [] (fun (h:Unit)=>((.bool r),[])):=by
 unfold Z13 at b
 refine aR Tryz.func119 R 17 R R fun C V=>?_
 refine cN V ?_
 refine cB ?_
 refine bB (A:=(Unit)×(Unit)) (fun a=>Z13_J1=some r) (fun a=>[]) (fun a=>V) ?_ ?_
 refine cB ?_
 obtain ⟨D,q,j⟩:=bd b
 refine bD (A:=Unit) q (fun s a=>[(0,(aG p1)),(1,(.int .u8 l)),(5,(iv s))]) (fun s a=>V) () (aS R) tI ?_
 rintro u _ σ1 B b e
 dsimp only [Z13_L1] at b
 refine bL ?_
 refine lO (vp (aG p1) R) (lO (vz (il p1) (eC f' R)) ?_)
 refine aV ?_
 split at b
 refine cB ?_
 obtain ⟨i,b⟩:=gd b
 refine aC (lO (vp (aG p1) R) (lI R (lO (vz (.int .u8 (bt p1 u)) (dB f' R R i.1 i.2)) (lI R (lO (vp (.bool ((bt p1 u)==l)) R) ?_)))))
 refine aZ ?_
 split at b
 refine dG ?_
 cases b
 obtain rfl:=e _ R
 have b:=j
 refine aV ?_
 cases b
 exact qF () tI
 refine dG ?_
 cases b
 exact qA () tI
 refine aV ?_
 cases b
 obtain rfl:=e _ R
 have b:=j
 refine aZ ?_
 exact dC ((),()) b trivial tI
 rintro ⟨_,_⟩ σ1 b
 dsimp only [Z13_J1] at b
 refine cB ?_
 cases b
 exact qF () tI
theorem Z1_ok  {b:aN}{r:(List aN)×aN×Bool}(i:Z1 b=some r) :
 FnOk Tryz.prog 128 [(aG b)] [] (fun (h:HH)=>((.tuple [(s3 h),(aG r.2.1),(.bool r.2.2)].toArray),[ow dX 9 (s3 h) r.1])):=by
 unfold Z1 at i
 refine aR Tryz.func128 R 124 R R fun C V=>?_
 refine cN V ?_
 refine aV ?_
 refine lO (vp (aG ([]:aN)) R) ?_
 refine cV ?_
 refine bO (K:=dX) (xs:=([]:List aN)) (vs:=[]) 0 R R j8 pG AD R R R R R R ?_ R (fun A2 D2=>?_)
 exact fun I h s=>(zV).list [] I h s
 refine dG ?_
 refine bB (A:=(Int)×(Unit)) (fun a=>Z1_J1 b a.1=some r) (fun a=>[(0,(aG b)),(5,(sc A2 ([]:List aN) D2)),(6,(iv a.1))]) (fun a=>OO dX 9 A2 D2 ([]:List aN)::V) ?_ ?_
 refine cP ?_
 obtain ⟨e1,b9,b6⟩:=bd i
 refine bD (A:=Unit) b9 (fun s a=>[(0,(aG b)),(5,(sc A2 ([]:List aN) D2)),(6,(iv s))]) (fun s a=>OO dX 9 A2 D2 ([]:List aN)::V) () (aS R) tI ?_
 rintro Y _ σ1 bh i b3
 dsimp only [Z1_L1] at i
 refine aZ ?_
 obtain ⟨aa,i⟩:=gd i
 refine cQ [(0,(aG b)),(5,(sc A2 ([]:List aN) D2)),(6,(iv Y)),(28,(.bool ((decide ((aI (Y+1))<(b.length:Int)))&&(!((sub b Y (aI (Y+2)))==str0)))))] (OO dX 9 A2 D2 ([]:List aN)::V) ?_ ?_
 refine aV ?_
 refine lO (vp (aG b) R) (lO (vz (il b) (eC f' R)) ?_)
 refine aZ ?_
 rcases bo (decide ((aI (Y+1))<(b.length:Int))) with O | O
 refine lW (dO O) (vp (aG b) R) ?_
 refine aV ?_
 refine lW (dO O) (vz (aG (sub b Y (aI (Y+2)))) (iL Y (aI (Y+2)) f' R R R (aa O).1 (aa O).2.1 (aa O).2.2)) (lW (dO O) (vz (.bool (!((sub b Y (aI (Y+2)))==str0))) (jU R R R)) ?_)
 refine aZ ?_
 exact qj tI
 refine dN ?_
 exact qj tI
 rintro σ1
 refine cP ?_
 split at i
 refine dJ ?_
 cases i
 exact qA () tI
 refine aV ?_
 cases i
 obtain rfl:=b3 _ R
 have i:=b6
 refine aZ ?_
 exact qI (Y,()) i tI
 rintro ⟨l,_⟩ σ1 i
 dsimp only [Z1_J1] at i
 refine cV ?_
 refine lO (vp (aG b) R) (lO (vz (il b) (eC f' R)) ?_)
 refine aV ?_
 split at i
 refine cV ?_
 refine lO (vp (aG ([]:aN)) R) ?_
 refine cV ?_
 cases i
 exact iS (A2,([]:List aN).length,D2) tI
 refine cV ?_
 refine bO (K:=dX) (xs:=([]:List aN)) (vs:=[]) 0 R R j8 pG AD R R R R R R ?_ R (fun aw ay=>?_)
 exact fun I h s=>(zV).list [] I h s
 refine dG ?_
 refine bB (A:=((List aN))×(HH)) (fun a=>Z1_J4 b l a.1=some r) (fun a=>[(0,(aG b)),(5,(sc A2 ([]:List aN) D2)),(6,(iv l)),(7,(s3 a.2))]) (fun a=>OO dX 9 A2 D2 ([]:List aN)::ow dX 9 (s3 a.2) a.1::V) ?_ ?_
 refine cB ?_
 obtain ⟨e2,ba,b7⟩:=bd i
 refine bD (A:=HH) ba (fun s a=>[(0,(aG b)),(5,(sc A2 ([]:List aN) D2)),(6,(iv l)),(7,(s3 a)),(8,(iv s.2.1)),(9,(iv s.2.2))]) (fun s a=>OO dX 9 A2 D2 ([]:List aN)::ow dX 9 (s3 a) s.1::V) (aw,([]:List aN).length,ay) (aS R) (tE 2 [1,0]) ?_
 rintro ⟨j,G,E⟩ ⟨a6,b0,a7⟩ σ1 aq i b4
 dsimp only [Z1_L2] at i
 refine bK 1 aD (fun (hn:b0=j.length)=>?_)
 subst hn
 refine dN ?_
 split at i
 refine bL ?_
 refine bB (A:=((List aN)×Int)×(HH)) (fun a=>Z1_J3 E a.1.1 a.1.2=some aq) (fun a=>[(0,(aG b)),(5,(sc A2 ([]:List aN) D2)),(6,(iv l)),(7,(s3 a.2)),(8,(iv a.1.2)),(9,(iv E))]) (fun a=>OO dX 9 A2 D2 ([]:List aN)::ow dX 9 (s3 a.2) a.1.1::V) ?_ ?_
 refine aZ ?_
 obtain ⟨a8,i⟩:=gd i
 refine cQ [(0,(aG b)),(5,(sc A2 ([]:List aN) D2)),(6,(iv l)),(7,(sc a6 j a7)),(8,(iv G)),(9,(iv E)),(51,(.bool ((E==l)||((bt b E)==44))))] (OO dX 9 A2 D2 ([]:List aN)::OO dX 9 a6 a7 j::V) ?_ ?_
 refine cV ?_
 rcases bo (E==l) with F | F
 refine cB ?_
 exact qj tI
 refine lW (bW F) (vp (aG b) R) (lW (bW F) (vI R) (lW (bW F) (vz (.int .u8 (bt b E)) (dB f' R R (a8 F).1 (a8 F).2)) (lW (bW F) (vp (.bool ((bt b E)==44)) R) ?_)))
 refine aZ ?_
 exact qj tI
 rintro σ1
 refine cP ?_
 split at i
 refine aZ ?_
 obtain ⟨a1,i⟩:=gd i
 obtain ⟨ak,i⟩:=gd i
 refine aZ ?_
 refine lO (vp (aG b) R) (lI R (lI R (lO (vz (aG (sub b G E)) (iL G E f' R R R a1.1 a1.2.1 a1.2.2)) (bO (K:=dX) (xs:=([(sub b G E)]:List aN)) (vs:=[(aG (sub b G E))]) 0 R R j8 pG AD R R R R R R ?_ R (fun bk bl=>?_)))))
 exact fun I h s=>(zV).list [((),(sub b G E))] I h s
 refine lM _ (tE 3 [2,0,1]) ?_
 refine eU (K:=dX) 8796093022208 R R j8 pG E3 (Zr.zk zT9 AD) R R R R R R eB ak (fun ae ag=>(lN (OO dX 9 ae ag (j++([(sub b G E)]:List aN))::_::V) ?_))
 refine dG ?_
 exact qI (((j++([(sub b G E)]:List aN)),(aI (E+1))),(ae,(j++([(sub b G E)]:List aN)).length,ag)) i (tE 2 [1,0])
 refine aV ?_
 exact qI ((j,G),(a6,j.length,a7)) i tI
 rintro ⟨⟨J,bp⟩,⟨ax,b1,az⟩⟩ σ1 i
 dsimp only [Z1_J3] at i
 refine bK 1 aD (fun (hn:b1=J.length)=>?_)
 subst hn
 refine cV ?_
 cases i
 exact qA (ax,J.length,az) tI
 refine aV ?_
 cases i
 obtain rfl:=b4 _ R
 have i:=b7
 refine aZ ?_
 exact qI (j,(a6,j.length,a7)) i tI
 rintro ⟨e,⟨B,b2,D⟩⟩ σ1 i
 dsimp only [Z1_J4] at i
 refine bK 1 aD (fun (hn:b2=e.length)=>?_)
 subst hn
 refine cP ?_
 obtain ⟨a2,i⟩:=gd i
 refine aC (lO (vp (aG b) R) (lI R (lO (iE R R) (lO (vz (aG (sub b (aI (l+2)) (b.length:Int))) (iL (aI (l+2)) (b.length:Int) f' R R R a2.1 a2.2.1 a2.2.2)) (lO (vp (aG (sub b (aI (l+2)) (b.length:Int))) R) ?_)))))
 refine bL ?_
 obtain ⟨bf,an,i⟩:=bd i
 refine cQ [(5,(sc A2 ([]:List aN) D2)),(7,(sc B e D)),(10,(aG (sub b (aI (l+2)) (b.length:Int)))),(72,(.bool ((decide ((e.length:Int)>6))||(!bf))))] (OO dX 9 A2 D2 ([]:List aN)::OO dX 9 B D e::V) ?_ ?_
 refine cV ?_
 rcases bo (decide ((e.length:Int)>6)) with U | U
 refine cV ?_
 exact qj tI
 refine lW (bW U) (vp (aG (sub b (aI (l+2)) (b.length:Int))) R) (b' 0 R (bW U) xm R (Z14_ok (bM an (cZ U))) R ?_)
 rintro _
 refine aV ?_
 exact qj tI
 rintro σ1
 refine cP ?_
 split at i
 refine cV ?_
 refine lO (vp (aG ([]:aN)) R) ?_
 refine cV ?_
 cases i
 exact iS (A2,([]:List aN).length,D2) (tE 2 [0])
 refine bL ?_
 refine bB (A:=(Unit)×(Unit)) (fun a=>Z1_J5 b l e=some r) (fun a=>[(5,(sc A2 ([]:List aN) D2)),(7,(sc B e D)),(10,(aG (sub b (aI (l+2)) (b.length:Int))))]) (fun a=>OO dX 9 A2 D2 ([]:List aN)::OO dX 9 B D e::V) ?_ ?_
 refine cB ?_
 obtain ⟨e3,bb,al⟩:=bd i
 refine bD (A:=Unit) bb (fun s a=>[(5,(sc A2 ([]:List aN) D2)),(7,(sc B e D)),(10,(aG (sub b (aI (l+2)) (b.length:Int)))),(11,(iv s))]) (fun s a=>OO dX 9 A2 D2 ([]:List aN)::OO dX 9 B D e::V) () (aS R) tI ?_
 rintro ap _ σ1 bi i ai
 dsimp only [Z1_L3] at i
 refine dG ?_
 split at i
 refine cB ?_
 obtain ⟨a3,i⟩:=gd i
 obtain ⟨bn,ao,i⟩:=bd i
 refine aV ?_
 refine bE 1 aD (show 0<e.length by have:=a3; omega) (fun bm o62 ha=>?_)
 subst ha
 refine cP ?_
 refine lO (vz (aG (ix e ap)) (kn (K:=dX) (fo:=0) (pr:=fun x=>(aG x)) 1 ap qh (dT9.leaf fun _ _=>R) aD R a3.1 a3.2)) (lC 0 xm R (Z14_ok ao) R ?_)
 rintro _
 refine aV ?_
 split at i
 refine cV ?_
 refine lO (vp (aG ([]:aN)) R) ?_
 refine cB ?_
 cases i
 obtain rfl:=ai _ R
 have i:=al
 refine aV ?_
 cases i
 exact iS (A2,([]:List aN).length,D2) (tE 2 [0])
 refine dG ?_
 cases i
 exact qA () tI
 refine aV ?_
 cases i
 obtain rfl:=ai _ R
 have i:=al
 refine aZ ?_
 exact qI ((),()) i tI
 rintro ⟨_,_⟩ σ1 i
 dsimp only [Z1_J5] at i
 refine aH (bB (A:=(Unit)×(Unit)) (fun a=>Z1_J8 b l e=some r) (fun a=>[(7,(sc B e D)),(10,(aG (sub b (aI (l+2)) (b.length:Int))))]) (fun a=>OO dX 9 B D e::V) ?_ ?_)
 refine cB ?_
 obtain ⟨e4,bc,am⟩:=bd i
 refine bD (A:=Unit) bc (fun s a=>[(5,(sc A2 ([]:List aN) D2)),(7,(sc B e D)),(10,(aG (sub b (aI (l+2)) (b.length:Int)))),(12,(iv s))]) (fun s a=>OO dX 9 A2 D2 ([]:List aN)::OO dX 9 B D e::V) () (aS R) tI ?_
 rintro M _ σ1 ar i aj
 dsimp only [Z1_L4] at i
 refine bL ?_
 refine lO (vp (aG (sub b (aI (l+2)) (b.length:Int))) R) (lO (vz (il (sub b (aI (l+2)) (b.length:Int))) (eC f' R)) ?_)
 refine aV ?_
 split at i
 refine hG ?_
 refine bB (A:=(Bool)×(Unit)) (fun a=>Z1_J7 b l M a.1=some ar) (fun a=>[(5,(sc A2 ([]:List aN) D2)),(7,(sc B e D)),(10,(aG (sub b (aI (l+2)) (b.length:Int)))),(12,(iv M)),(13,(.bool a.1))]) (fun a=>OO dX 9 A2 D2 ([]:List aN)::OO dX 9 B D e::V) ?_ ?_
 refine cB ?_
 obtain ⟨e5,be,b8⟩:=bd i
 refine bD (A:=Unit) be (fun s a=>[(5,(sc A2 ([]:List aN) D2)),(7,(sc B e D)),(10,(aG (sub b (aI (l+2)) (b.length:Int)))),(12,(iv M)),(13,(.bool s.1)),(14,(iv s.2))]) (fun s a=>OO dX 9 A2 D2 ([]:List aN)::OO dX 9 B D e::V) () (aS R) tI ?_
 rintro ⟨a5,a4⟩ _ σ1 bj i b5
 dsimp only [Z1_L5] at i
 refine dG ?_
 split at i
 refine cV ?_
 obtain ⟨L,i⟩:=gd i
 obtain ⟨Z,i⟩:=gd i
 obtain ⟨au,ab,i⟩:=bd i
 refine cQ [(5,(sc A2 ([]:List aN) D2)),(7,(sc B e D)),(10,(aG (sub b (aI (l+2)) (b.length:Int)))),(12,(iv M)),(13,(.bool (a5||au))),(14,(iv a4))] (OO dX 9 A2 D2 ([]:List aN)::OO dX 9 B D e::V) ?_ ?_
 rcases bo a5 with u | u
 refine dP 12 [] bS fun ht hn=>?_
 refine yk 0 [] ?_
 refine dD ?_
 exact qj tI
 refine bC 1 aD (show 0<e.length by have:=(L u); omega) (fun bg o108 ha=>?_)
 subst ha
 refine dP 12 [] bS fun ht hn=>?_
 refine qg 0 [] ?_
 refine dW 4 R (bW u) (dV j8 pG R R (L u)) (dW 5 R (bW u) (vz (aG (ix e a4)) (kn (K:=dX) (fo:=0) (pr:=fun x=>(aG x)) 1 a4 qh (dT9.leaf fun _ _=>R) aD R (L u).1 (L u).2)) (dW 6 R (bW u) (vp (aG (sub b (aI (l+2)) (b.length:Int))) R) (dW 7 R (bW u) (vI R) (dW 8 R (bW u) (vz (.int .u8 (bt (sub b (aI (l+2)) (b.length:Int)) M)) (dB f' R R (Z u).1 (Z u).2)) (d1 9 R (b' 0 R (bW u) xn R (Z13_ok (bM ab (cZ u))) R ?_))))))
 rintro _
 refine aB (aJ (sL []) ?_)
 refine iM 10 [] ?_
 refine dD ?_
 exact qj tI
 rintro σ1
 refine eD ?_
 cases i
 exact qA () tI
 refine aV ?_
 cases i
 obtain rfl:=b5 _ R
 have i:=b8
 refine aZ ?_
 exact qI (a5,()) i tI
 rintro ⟨a9,_⟩ σ1 i
 dsimp only [Z1_J7] at i
 refine cP ?_
 obtain ⟨T,i⟩:=gd i
 obtain ⟨a0,i⟩:=gd i
 obtain ⟨av,ac,i⟩:=bd i
 refine cQ [(5,(sc A2 ([]:List aN) D2)),(7,(sc B e D)),(10,(aG (sub b (aI (l+2)) (b.length:Int)))),(12,(iv M)),(120,(.bool ((!a9)||av)))] (OO dX 9 A2 D2 ([]:List aN)::OO dX 9 B D e::V) ?_ ?_
 rcases bo (!a9) with q | q
 refine dP 11 [] bS fun ht hn=>?_
 refine tX 0 [] ?_
 refine dD ?_
 exact qj tI
 refine dP 11 [] bS fun ht hn=>?_
 refine j6 0 [] ?_
 refine dW 3 R (bW q) (vp (aG (sub b (aI (l+2)) (b.length:Int))) R) (dW 4 R (bW q) (vI R) (dW 5 R (bW q) (vz (aG (sub (sub b (aI (l+2)) (b.length:Int)) (0:Int) M)) (iL (0:Int) M f' R R R (T q).1 (T q).2.1 (T q).2.2)) (dW 6 R (bW q) (vp (aG (sub b (aI (l+2)) (b.length:Int))) R) (dW 7 R (bW q) (vI R) (dW 8 R (bW q) (vz (.int .u8 (bt (sub b (aI (l+2)) (b.length:Int)) M)) (dB f' R R (a0 q).1 (a0 q).2)) (d1 9 R (b' 0 R (bW q) xn R (Z13_ok (bM ac (cZ q))) R ?_)))))))
 rintro _
 refine aB (aJ (sL []) (dR 10 R (fG R q R) (dD ?_)))
 exact qj tI
 rintro σ1
 refine cP ?_
 split at i
 refine cV ?_
 refine lO (vp (aG ([]:aN)) R) ?_
 refine cB ?_
 cases i
 obtain rfl:=aj _ R
 have i:=am
 refine aV ?_
 cases i
 exact iS (A2,([]:List aN).length,D2) (tE 2 [0])
 refine dG ?_
 cases i
 exact qA () tI
 refine aV ?_
 cases i
 obtain rfl:=aj _ R
 have i:=am
 refine aZ ?_
 exact qI ((),()) i (tE 2 [1])
 rintro ⟨_,_⟩ σ1 i
 dsimp only [Z1_J8] at i
 refine aV ?_
 refine lO (vp (aG (sub b (aI (l+2)) (b.length:Int))) R) (lS R (lO (vp (aG (sub b (aI (l+2)) (b.length:Int))) R) ?_))
 refine bL ?_
 cases i
 exact iS (B,e.length,D) tI
theorem Z3_ok  {b:(List aN)}{p3:aN}{l:(List (List Int))}{r:aN×(List Int)×Bool}(D:Z3 b p3 l=some r) :
 FnOk Tryz.prog 129 [(.slice A2 N2 D2),(aG p3),(.slice A5 N5 D5)] [aO dX (.slice A2 N2 D2) b,aO bF (.slice A5 N5 D5) l] (fun (h:HH)=>((.tuple [(aG r.1),(s3 h),(.bool r.2.2)].toArray),[ow kT3 3 (s3 h) r.2.1])):=by
 unfold Z3 at D
 refine aR Tryz.func129 R 129 R R fun C V=>?_
 refine cL 0 aA ?_
 rintro rfl
 refine cL 1 aA ?_
 rintro rfl
 let W0:=RR dX A2 D2 b::RR bF A5 D5 l::V
 refine cN W0 ?_
 refine aZ ?_
 refine lO (vp (aG ([]:aN)) R) ?_
 refine cB ?_
 refine lO (vp (aG p3) R) (lO (vp (aG p3) R) ?_)
 refine aV ?_
 obtain ⟨aw,D⟩:=gd D
 refine aC (lO (vp (aG p3) R) (lO (vz (il p3) (eC f' R)) (fW (K:=kT3) (m:=(p3.length:Int)) (z:=(0:Int)) R R bH cO kE (Zr.zk zT3 gN) (by decide) R R aw.1 aw.2.1 aw.2.2 (fun A7 D7=>(lS R (aB (aE (aH (bB (A:=(aN×(List Int))×(HH)) (fun a=>Z3_J11 a.1.1 a.1.2=some r) (fun a=>[(9,(aG a.1.1)),(10,(s3 a.2))]) (fun a=>ow kT3 3 (s3 a.2) a.1.2::W0) ?_ ?_)))))))))
 refine cB ?_
 obtain ⟨e1,bq,ax⟩:=bd D
 refine bD (A:=HH×HH×HH) bq (fun s a=>[(0,(s3 a.1)),(2,(s3 a.2.1)),(9,(aG s.1)),(10,(s3 a.2.2)),(11,(iv s.2.2))]) (fun s a=>aO dX (s3 a.1) b::aO bF (s3 a.2.1) l::ow kT3 3 (s3 a.2.2) s.2.1::W0) ((A2,b.length,D2),(A5,l.length,D5),(A7,(List.replicate (p3.length:Int).toNat (0:Int)).length,D7)) (aS R) (fun w s=>(((s.d 1 R).d 3 R).e 3 [1,0,2])) ?_
 rintro ⟨a8,G,q⟩ ⟨⟨bv,b4,L⟩,⟨bw,b5,M⟩,⟨ae,b6,ai⟩⟩ σ1 bl D ap
 dsimp only [Z3_L1] at D
 refine bK 0 aA (fun (hn:b4=b.length)=>?_)
 subst hn
 refine bK 1 aA (fun (hn:b5=l.length)=>?_)
 subst hn
 refine bK 2 aD (fun (hn:b6=G.length)=>?_)
 subst hn
 refine dG ?_
 split at D
 refine bL ?_
 refine bB (A:=(aN×(List Int))×(HH×HH×HH)) (fun a=>Z3_J10 q a.1.1 a.1.2=some bl) (fun a=>[(0,(s3 a.2.1)),(2,(s3 a.2.2.1)),(9,(aG a.1.1)),(10,(s3 a.2.2.2)),(11,(iv q))]) (fun a=>aO dX (s3 a.2.1) b::aO bF (s3 a.2.2.1) l::ow kT3 3 (s3 a.2.2.2) a.1.2::W0) ?_ ?_
 refine aV ?_
 obtain ⟨Z,D⟩:=gd D
 obtain ⟨U,D⟩:=gd D
 refine bC 1 aA (show 0<l.length by have:=Z; omega) (fun O o113 ha=>?_)
 subst ha
 refine dU (K:=bF) 1 q dT23.dec R Z.1 Z.2 ?_
 rintro ⟨bz,c3⟩
 refine bC 2 aA (show 0<b.length by have:=U; omega) (fun T o117 ha=>?_)
 subst ha
 refine dP 11 [] bS fun ht hn=>?_
 refine j6 0 [] ?_
 refine dR 3 R (eZ (fo:=0) 0 cH R R R) ?_
 refine qg 4 [] ?_
 refine dR 8 R (vz (aG (ix b q)) (kn (K:=dX) (fo:=0) (pr:=fun x=>(aG x)) 2 q qh (dT9.leaf fun _ _=>R) aA R U.1 U.2)) (dR 9 R (vz (il (ix b q)) (eC f' R)) (dR 10 R (vt R R) (dD (aE ?_))))
 split at D
 refine bL ?_
 refine lO (vp (aG ([]:aN)) R) ?_
 refine dN ?_
 cases D
 obtain rfl:=ap _ R
 have D:=ax
 refine aV ?_
 cases D
 exact iS (ae,G.length,ai) (tE 7 [4])
 refine dG ?_
 obtain ⟨e2,br,bj⟩:=bd D
 refine bD (A:=HH) br (fun s a=>[(0,(sc (ad T o117) b L)),(2,(sc (ad O o113) l M)),(9,(aG s.1)),(10,(s3 a)),(11,(iv q)),(12,(iv s.2.2))]) (fun s a=>RR dX (ad T o117) L b::RR bF (ad O o113) M l::ow kT3 3 (s3 a) s.2.1::W0) (ae,G.length,ai) (aS R) (fun w s=>(s.f 5 [2,3])) ?_
 rintro ⟨i,j,E⟩ ⟨a0,b7,a1⟩ σ1 ao D bh
 dsimp only [Z3_L2] at D
 refine bK 2 aD (fun (hn:b7=j.length)=>?_)
 subst hn
 refine eD ?_
 refine lO (vz (aG (ix b q)) (kn (K:=dX) (fo:=0) (pr:=fun x=>(aG x)) 0 q qh (dT9.leaf fun _ _=>R) aA R U.1 U.2)) (lO (vz (il (ix b q)) (eC f' R)) ?_)
 refine aV ?_
 split at D
 refine hG ?_
 refine bB (A:=(Int)×(Unit)) (fun a=>Z3_J8 b l q i j E a.1=some ao) (fun a=>[(0,(sc (ad T o117) b L)),(2,(sc (ad O o113) l M)),(9,(aG i)),(10,(sc a0 j a1)),(11,(iv q)),(12,(iv E)),(13,(iv a.1))]) (fun a=>RR dX (ad T o117) L b::RR bF (ad O o113) M l::OO kT3 3 a0 a1 j::W0) ?_ ?_
 refine cP ?_
 obtain ⟨e3,bs,bp⟩:=bd D
 refine bD (A:=Unit) bs (fun s a=>[(0,(sc (ad T o117) b L)),(2,(sc (ad O o113) l M)),(9,(aG i)),(10,(sc a0 j a1)),(11,(iv q)),(12,(iv E)),(13,(iv s))]) (fun s a=>RR dX (ad T o117) L b::RR bF (ad O o113) M l::OO kT3 3 a0 a1 j::W0) () (aS R) tI ?_
 rintro a4 _ σ1 ca D bn
 dsimp only [Z3_L3] at D
 refine aZ ?_
 obtain ⟨aj,D⟩:=gd D
 obtain ⟨ak,D⟩:=gd D
 refine cQ [(0,(sc (ad T o117) b L)),(2,(sc (ad O o113) l M)),(9,(aG i)),(10,(sc a0 j a1)),(11,(iv q)),(12,(iv E)),(13,(iv a4)),(62,(.bool ((decide (a4<(i.length:Int)))&&((bt i a4) != (bt (ix b q) E)))))] (RR dX (ad T o117) L b::RR bF (ad O o113) M l::OO kT3 3 a0 a1 j::W0) ?_ ?_
 rcases bo (decide (a4<(i.length:Int))) with F | F
 refine dP 16 [] bS fun ht hn=>?_
 refine dR 0 R (vI R) (dR 1 R (vp (aG i) R) (dR 2 R (vz (il i) (eC f' R)) ?_))
 refine iM 3 [] ?_
 refine dW 5 R (dO F) (vp (aG i) R) (dW 6 R (dO F) (vI R) (dW 7 R (dO F) (vz (.int .u8 (bt i a4)) (dB f' R R (aj F).1 (aj F).2)) ?_))
 refine j6 8 [] ?_
 refine dW 11 R (dO F) (vz (aG (ix b q)) (kn (K:=dX) (fo:=0) (pr:=fun x=>(aG x)) 0 q qh (dT9.leaf fun _ _=>R) aA R U.1 U.2)) (dW 12 R (dO F) (vI R) (dW 13 R (dO F) (vz (.int .u8 (bt (ix b q) E)) (dB f' R R (ak F).1 (ak F).2)) (dW 14 R (dO F) (vp (.bool ((bt i a4) != (bt (ix b q) E))) R) (dR 15 R (iJ R F R) (dD ?_)))))
 exact qj tI
 refine dP 16 [] bS fun ht hn=>?_
 refine dR 0 R (vI R) (dR 1 R (vp (aG i) R) (dR 2 R (vz (il i) (eC f' R)) ?_))
 refine nQ 3 [] ?_
 refine dD ?_
 exact qj tI
 rintro σ1
 refine cP ?_
 split at D
 refine dJ ?_
 cases D
 exact qA () tI
 refine aV ?_
 cases D
 obtain rfl:=bn _ R
 have D:=bp
 refine aZ ?_
 exact qI (a4,()) D tI
 rintro ⟨a5,_⟩ σ1 D
 dsimp only [Z3_J8] at D
 refine aH (bB (A:=(aN×(List Int))×(HH)) (fun a=>Z3_J9 l q E a5 a.1.1 a.1.2=some ao) (fun a=>[(0,(sc (ad T o117) b L)),(2,(sc (ad O o113) l M)),(9,(aG a.1.1)),(10,(s3 a.2)),(11,(iv q)),(12,(iv E)),(13,(iv a5))]) (fun a=>RR dX (ad T o117) L b::RR bF (ad O o113) M l::ow kT3 3 (s3 a.2) a.1.2::W0) ?_ ?_)
 refine aV ?_
 refine lO (vp (aG i) R) (lO (vz (il i) (eC f' R)) ?_)
 refine aV ?_
 split at D
 refine aZ ?_
 obtain ⟨aa,D⟩:=gd D
 obtain ⟨aq,D⟩:=gd D
 refine aC (lO (vp (aG i) R) ?_)
 refine aV ?_
 refine lO (vz (aG (ix b q)) (kn (K:=dX) (fo:=0) (pr:=fun x=>(aG x)) 0 q qh (dT9.leaf fun _ _=>R) aA R U.1 U.2)) ?_
 refine aV ?_
 refine lO (vz (aG (sub (ix b q) E (aI (E+1)))) (iL E (aI (E+1)) f' R R R aa.1 aa.2.1 aa.2.2)) (lO (vz (aG (i++(sub (ix b q) E (aI (E+1))))) (om R R aq)) (lO (vp (aG (i++(sub (ix b q) E (aI (E+1))))) R) ?_))
 refine aZ ?_
 obtain ⟨ar,D⟩:=gd D
 refine aZ ?_
 refine bO (K:=kT3) (xs:=([(0:Int)]:List Int)) (vs:=[(iv 0)]) 0 R R bH cO gN R R R R R R ?_ R (fun c0 c4=>?_)
 exact fun I h s=>(gM).list [((),(0:Int))] I h s
 refine lM _ (tE 4 [3,0,1,2]) ?_
 refine eU (K:=kT3) 17592186044416 R R bH cO kE (Zr.zk zT3 gN) R R R R R R eB ar (fun al am=>(lN (OO kT3 3 al am (j++([(0:Int)]:List Int))::_::_::W0) ?_))
 refine aZ ?_
 exact qI (((i++(sub (ix b q) E (aI (E+1)))),(j++([(0:Int)]:List Int))),(al,(j++([(0:Int)]:List Int)).length,am)) D (tE 3 [1,2,0])
 refine aZ ?_
 exact qI ((i,j),(a0,j.length,a1)) D tI
 rintro ⟨⟨a9,u⟩,⟨ag,b8,ac⟩⟩ σ1 D
 dsimp only [Z3_J9] at D
 refine bK 2 aD (fun (hn:b8=u.length)=>?_)
 subst hn
 refine aZ ?_
 obtain ⟨a3,D⟩:=gd D
 obtain ⟨ab,D⟩:=gd D
 refine cQ [(0,(sc (ad T o117) b L)),(2,(sc (ad O o113) l M)),(9,(aG a9)),(10,(sc ag u ac)),(11,(iv q)),(12,(iv E)),(13,(iv a5)),(100,(.bool (((ix u a5) != 0)&&((ix u a5) != (ix (ix l q) E)))))] (RR dX (ad T o117) L b::RR bF (ad O o113) M l::OO kT3 3 ag ac u::W0) ?_ ?_
 rcases bo ((ix u a5) != 0) with Y | Y
 refine bC 2 aD (show 0<u.length by have:=a3; omega) (fun be o182 ha=>?_)
 subst ha
 refine dU (K:=bF) 1 q dT23.dec R Z.1 Z.2 ?_
 rintro ⟨c1,c5⟩
 refine bC 1 aA (show 0<(ix l q).length by have:=(ab Y); omega) (fun c7 o186 ha=>?_)
 subst ha
 refine dP 19 [] bS fun ht hn=>?_
 refine nQ 0 [] ?_
 refine dW 13 R (dO Y) (eZ (fo:=0) 0 cH R R R) (dW 14 R (dO Y) (vI R) (dW 15 R (dO Y) (dV bH cO R R (ab Y)) (dW 16 R (dO Y) (fQ 1 fC aA R (ab Y)) ?_)))
 refine iM 17 [] ?_
 refine dD ?_
 exact qj (fun w s=>(s.f 5 [2,3]))
 refine bC 2 aD (show 0<u.length by have:=a3; omega) (fun be o182 ha=>?_)
 subst ha
 refine dP 19 [] bS fun ht hn=>?_
 refine Ap 0 [] ?_
 refine dD ?_
 exact qj tI
 rintro σ1
 refine cP ?_
 split at D
 refine bL ?_
 refine lO (vp (aG ([]:aN)) R) ?_
 refine dN ?_
 cases D
 obtain rfl:=bh _ R
 have D:=bj
 refine bL ?_
 cases D
 obtain rfl:=ap _ R
 have D:=ax
 refine aV ?_
 cases D
 exact iS (ag,u.length,ac) (tE 5 [2])
 refine aV ?_
 obtain ⟨au,D⟩:=gd D
 refine cB ?_
 refine fV (K:=bF) 1 q dT23.dec R Z.1 Z.2 ?_
 rintro ⟨c2,c6⟩
 refine lO (eZ (fo:=0) 0 cH R R R) (lI R (bE 1 aA (show 0<(ix l q).length by have:=au; omega) (fun c8 o192 ha=>?_)))
 subst ha
 refine aZ ?_
 refine bE 4 aD (show 0<u.length by have:=a3; omega) (fun bf o194 ha=>?_)
 subst ha
 refine cP ?_
 refine lM _ (fun w s=>(s.f 5 [4,1,0,4])) ?_
 refine eO (K:=kT3) (x':=(ix (ix l q) E)) 0 a5 R R cO R R a3.1 a3.2 ?_ ?_
 exact fun I h s=>(gM).put I h () (ix (ix l q) E) s
 refine dN ?_
 cases D
 exact qA ((ad bf o194),u.length,ac) (tE 5 [3,4,0])
 refine aV ?_
 cases D
 obtain rfl:=bh _ R
 have D:=bj
 refine aV ?_
 exact qI ((i,j),(((ad T o117),b.length,L),((ad O o113),l.length,M),(a0,j.length,a1))) D tI
 rintro ⟨⟨an,a2⟩,⟨⟨ay,b9,b1⟩,⟨az,ba,b2⟩,⟨b0,bb,b3⟩⟩⟩ σ1 D
 dsimp only [Z3_J10] at D
 refine bK 0 aA (fun (hn:b9=b.length)=>?_)
 subst hn
 refine bK 1 aA (fun (hn:ba=l.length)=>?_)
 subst hn
 refine bK 2 aD (fun (hn:bb=a2.length)=>?_)
 subst hn
 refine cV ?_
 cases D
 exact qA ((ay,b.length,b1),(az,l.length,b2),(b0,a2.length,b3)) tI
 refine aV ?_
 cases D
 obtain rfl:=ap _ R
 have D:=ax
 refine aZ ?_
 exact qI ((a8,G),(ae,G.length,ai)) D (tE 3 [2])
 rintro ⟨⟨J,B⟩,⟨a7,bc,a6⟩⟩ σ1 D
 dsimp only [Z3_J11] at D
 refine bK 0 aD (fun (hn:bc=B.length)=>?_)
 subst hn
 refine cB ?_
 refine bB (A:=(Unit)×(Unit)) (fun a=>Z3_J12 J B=some r) (fun a=>[(9,(aG J)),(10,(sc a7 B a6))]) (fun a=>OO kT3 3 a7 a6 B::W0) ?_ ?_
 refine cB ?_
 obtain ⟨e4,bu,bk⟩:=bd D
 refine bD (A:=Unit) bu (fun s a=>[(9,(aG J)),(10,(sc a7 B a6)),(14,(iv s.1)),(15,(iv s.2))]) (fun s a=>OO kT3 3 a7 a6 B::W0) () (aS R) tI ?_
 rintro ⟨bm,c9⟩ _ σ1 cb D bi
 dsimp only [Z3_L4] at D
 refine dG ?_
 split at D
 refine cB ?_
 obtain ⟨av,D⟩:=gd D
 refine bL ?_
 refine bE 0 aD (show 0<B.length by have:=av; omega) (fun bg o223 ha=>?_)
 subst ha
 refine jl ?_
 split at D
 refine bL ?_
 refine lO (vp (aG ([]:aN)) R) ?_
 refine eD ?_
 cases D
 obtain rfl:=bi _ R
 have D:=bk
 refine aV ?_
 cases D
 exact iS ((ad bg o223),B.length,a6) (tE 3 [0])
 refine dG ?_
 cases D
 exact qA () tI
 refine aV ?_
 cases D
 obtain rfl:=bi _ R
 have D:=bk
 refine aZ ?_
 exact qI ((),()) D tI
 rintro ⟨_,_⟩ σ1 D
 dsimp only [Z3_J12] at D
 refine aZ ?_
 refine lO (vp (aG J) R) (lS R (lO (vp (aG J) R) ?_))
 refine cV ?_
 cases D
 exact iS (a7,B.length,a6) (tE 3 [0])
theorem Zi_ok  {j:aN}{i:aN}{b:(List Int)}{r:(List Int)}(l:Zi j i b=some r) :
 FnOk Tryz.prog 132 [(aG j),(aG i),(.slice A4 N4 D4)] [aO kT3 (.slice A4 N4 D4) b] (fun (h:HH)=>((.slice h.1 h.2.1 h.2.2),[ow kT3 3 (.slice h.1 h.2.1 h.2.2) r])):=by
 unfold Zi at l
 refine aR Tryz.func132 R 38 R R fun C V=>?_
 refine cN (_::V) ?_
 refine cL 0 aA ?_
 rintro rfl
 let O:List HP:=RR kT3 A4 D4 b::V
 refine cN O ?_
 refine aH (aC (lS R (aB (aE (aH (aC (bO (K:=kT3) (xs:=([]:List Int)) (vs:=[]) 0 R R bH cO gN R R R R R R ?_ R (fun A5 D5=>?_))))))))
 exact fun I h s=>(gM).list [] I h s
 refine lN (OO kT3 3 A5 D5 ([]:List Int)::O) ?_
 refine lS R (aB (aE (aH (bB (A:=((List Int))×(HH)) (fun a=>Zi_J7 a.1=some r) (fun a=>[(7,(.slice a.2.1 a.2.2.1 a.2.2.2))]) (fun a=>ow kT3 3 (.slice a.2.1 a.2.2.1 a.2.2.2) a.1::O) ?_ ?_))))
 refine aH (aC (lI R (aB (aE (bV ?_)))))
 obtain ⟨e1,av,ar⟩:=bd l
 refine bD (A:=HH) av (fun s a=>[(0,(aG j)),(1,(aG i)),(2,(sc A4 b D4)),(7,(.slice a.1 a.2.1 a.2.2)),(8,(iv s.2))]) (fun s a=>ow kT3 3 (.slice a.1 a.2.1 a.2.2) s.1::O) (A5,([]:List Int).length,D5) (aS R) (fun w s=>s) ?_
 rintro ⟨M,B⟩ ⟨a4,ak,a6⟩ σ1 J l ap
 replace l:Zi_L1 j i b M B=some J:=l
 unfold Zi_L1 at l
 refine bK 0 aD (fun (T:ak=M.length)=>?_)
 subst T
 refine aH (aH (aC (lI R (lO (vp (aG j) R) (lO (vz (il j) (eC f' R)) (lO (jG R R) (aB (aE ?_))))))))
 rcases cF l with ⟨D,l⟩|⟨D,l⟩
 refine bJ R D (bQ (aE (aH (bB (A:=((List Int))×(HH)) (fun a=>Zi_J6 B a.1=some J) (fun a=>[(0,(aG j)),(1,(aG i)),(2,(sc A4 b D4)),(7,(.slice a.2.1 a.2.2.1 a.2.2.2)),(8,(iv B))]) (fun a=>ow kT3 3 (.slice a.2.1 a.2.2.1 a.2.2.2) a.1::O) ?_ ?_))))
 refine bV (aH (aC (lI R (aB (aE (bV ?_))))))
 obtain ⟨e2,aw,au⟩:=bd l
 refine bD (A:=HH) aw (fun s a=>[(0,(aG j)),(1,(aG i)),(2,(sc A4 b D4)),(7,(.slice a.1 a.2.1 a.2.2)),(8,(iv B)),(9,(iv s.2))]) (fun s a=>ow kT3 3 (.slice a.1 a.2.1 a.2.2) s.1::O) (a4,M.length,a6) (aS R) (fun w s=>s) ?_
 rintro ⟨u,q⟩ ⟨Z,al,a0⟩ σ1 L l aq
 replace l:Zi_L2 j i b B u q=some L:=l
 unfold Zi_L2 at l
 refine bK 0 aD (fun (T:al=u.length)=>?_)
 subst T
 refine aH (aH (aC (lI R (lO (vp (aG i) R) (lO (vz (il i) (eC f' R)) (lO (jG R R) (aB (aE ?_))))))))
 rcases cF l with ⟨E,l⟩|⟨E,l⟩
 refine bJ R E (bQ (aE (aH (bB (A:=((List Int))×(HH)) (fun a=>Zi_J5 q a.1=some L) (fun a=>[(0,(aG j)),(1,(aG i)),(2,(sc A4 b D4)),(7,(.slice a.2.1 a.2.2.1 a.2.2.2)),(8,(iv B)),(9,(iv q))]) (fun a=>ow kT3 3 (.slice a.2.1 a.2.2.1 a.2.2.2) a.1::O) ?_ ?_))))
 refine bV (aH ?_)
 obtain ⟨U,l⟩:=gd l
 obtain ⟨Y,l⟩:=gd l
 refine dP 7 [] bS (fun ht T=>(dR 0 R (vp (aG i) R) (dR 1 R (vI R) (dR 2 R (vz (.int .u8 (bt i q)) (dB f' R R U.1 U.2)) (dR 3 R (vp (aG j) R) (dR 4 R (vI R) (dR 5 R (vz (.int .u8 (bt j B)) (dB f' R R Y.1 Y.2)) (dR 6 R (vp (.bool ((bt i q)==(bt j B))) R) (dD (aE ?_))))))))))
 rcases cF l with ⟨F,l⟩|⟨F,l⟩
 refine bJ R F ?_
 obtain ⟨G,l⟩:=gd l
 obtain ⟨a8,l⟩:=gd l
 refine aC (lS R (lS R (lI R (bE 1 aA (show 0<b.length by have:=G; omega) (fun ax o64 ha=>?_)))))
 subst ha
 refine lO (dV bH cO R R G) (lO (fQ 1 fC aA R G) (bO (K:=kT3) (xs:=([(ix b q)]:List Int)) (vs:=[(iv (ix b q))]) 0 R R bH cO gN R R R R R R ?_ R (fun a9 ae=>?_)))
 exact fun I h s=>(gM).list [((),(ix b q))] I h s
 refine lN (OO kT3 3 a9 ae ([(ix b q)]:List Int)::OO kT3 3 Z a0 u::O) ?_
 refine lM (ow _ _ _ _::ow _ _ _ _::O) (fun w s=>(s.e 2 [1,0])) ?_
 refine eU (K:=kT3) 17592186044416 R R bH cO kE (Zr.zk zT3 gN) R R R R R R eB a8 (fun a5 a7=>(lN (OO kT3 3 a5 a7 (u++([(ix b q)]:List Int))::O) ?_))
 refine lS R (aB (cD ?_))
 exact qI ((u++([(ix b q)]:List Int)),(a5,(u++([(ix b q)]:List Int)).length,a7)) l (fun w s=>s)
 refine aY R F (bQ (cD ?_))
 exact qI (u,(Z,u.length,a0)) l (fun w s=>s)
 rintro ⟨a1,⟨aa,am,ag⟩⟩ σ1 l
 replace l:Zi_J5 q a1=some L:=l
 unfold Zi_J5 at l
 refine bK 0 aD (fun (T:am=a1.length)=>?_)
 subst T
 refine aC (lI R (lO (iE R R) (lI R (aB ?_))))
 obtain rfl:=so l
 exact qA (aa,a1.length,ag) (fun w s=>s)
 refine aY R E (eA (cE ?_))
 obtain rfl:=so l
 obtain rfl:=aq _ R
 have l:=au
 refine cE (dH (cD ?_))
 exact qI (u,(Z,u.length,a0)) l (fun w s=>s)
 rintro ⟨a2,⟨ab,an,ai⟩⟩ σ1 l
 replace l:Zi_J6 B a2=some J:=l
 unfold Zi_J6 at l
 refine bK 0 aD (fun (T:an=a2.length)=>?_)
 subst T
 refine aC (lI R (lO (iE R R) (lI R (aB ?_))))
 obtain rfl:=so l
 exact qA (ab,a2.length,ai) (fun w s=>s)
 refine aY R D (eA (cE ?_))
 obtain rfl:=so l
 obtain rfl:=ap _ R
 have l:=ar
 refine cE (dH ?_)
 exact qI (M,(a4,M.length,a6)) l (fun w s=>s)
 rintro ⟨a3,⟨ac,ao,aj⟩⟩ σ1 l
 replace l:Zi_J7 a3=some r:=l
 unfold Zi_J7 at l
 refine bK 0 aD (fun (T:ao=a3.length)=>?_)
 subst T
 refine aH (aC (lS R (lS R (aB (aE (bY ?_))))))
 obtain rfl:=so l
 exact qF (ac,a3.length,aj) (fun w s=>(s.e 2 [0]))
end Go.Proofs.YtoffdamdpmeoiaaGreatDoor
