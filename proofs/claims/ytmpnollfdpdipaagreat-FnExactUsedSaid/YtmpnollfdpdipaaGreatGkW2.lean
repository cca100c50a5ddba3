import Derived.Test.YtmpnollfdpdipaaGreatGkF
set_option linter.unusedVariables false
set_option maxRecDepth 20000
namespace Go.Proofs.YtmpnollfdpdipaaGreat
open Go Go.Pg
variable {A2 A3 A4 A5 A6 A7:Option Addr}{D2 D3 D4 D5 D6 D7 N2 N3 N4 N5 N6 N7:Nat}
theorem Z2y_ok  {b:Int}{r:Int×Int}(a:Z2y b=some r) :
 FnOk Tryz.prog 75 [(iv b)] [] (fun (h:Unit)=>((.tuple [(iv r.1),(iv r.2)].toArray),[])):=by
 unfold Z2y at a
 refine aQ Tryz.func75 R 13 R R fun C V=>?_
 refine cN V ?_
 refine oy ?_
 split at a
 refine cU ?_
 cases a
 exact jO () tI
 refine cZ ?_
 split at a
 refine cU ?_
 cases a
 exact jO () tI
 refine cZ ?_
 split at a
 refine cU ?_
 cases a
 exact jO () tI
 refine iB ?_
 cases a
 exact jO () tI
theorem Z37_ok  {a:Int}{r:Bool}(i:Z37 a=some r) :
 FnOk Tryz.prog 76 [(iv a)] [] (fun (h:Unit)=>((.bool r),[])):=by
 unfold Z37 at i
 refine aQ Tryz.func76 R 17 R R fun C V=>?_
 refine cN V ?_
 refine bV ?_
 refine cQ [(2,(.bool ((((a==1)||(a==2))||(a==12))||(a==13))))] (V) ?_ ?_
 refine bG ?_
 rcases bo (a==1) with e | e
 refine lb ?_
 exact qj tI
 refine bG ?_
 rcases bo ((a==1)||(a==2)) with g | g
 refine cX ?_
 exact qj tI
 refine bG ?_
 rcases bo (((a==1)||(a==2))||(a==12)) with b | b
 refine cA ?_
 exact qj tI
 refine cA ?_
 exact qj tI
 rintro σ1
 refine aV ?_
 cases i
 exact qF () tI
theorem Z1b_ok  {e:Int}{r:Int}(b:Z1b e=some r) :
 FnOk Tryz.prog 77 [(iv e)] [] (fun (h:Unit)=>((iv r),[])):=by
 unfold Z1b at b
 refine aQ Tryz.func77 R 16 R R fun C V=>?_
 refine cN V ?_
 refine yw ?_
 split at b
 refine cX ?_
 cases b
 exact qF () tI
 refine aV ?_
 refine bB (A:=(Bool)×(Unit)) (fun a=>Z1b_J1 e a.1=some r) (fun a=>[(3,(iv e)),(6,(.bool a.1))]) (fun a=>V) ?_ ?_
 refine bV ?_
 split at b
 refine aV ?_
 exact qI ((e==14),()) b tI
 refine cA ?_
 exact qI ((e==15),()) b tI
 rintro ⟨g,_⟩ σ1 b
 dsimp only [Z1b_J1] at b
 split at b
 refine cX ?_
 cases b
 exact qF () tI
 refine dN ?_
 split at b
 refine cX ?_
 cases b
 exact qF () tI
 refine dN ?_
 split at b
 refine cX ?_
 cases b
 exact qF () tI
 refine aV ?_
 refine bB (A:=(Bool)×(Unit)) (fun a=>Z1b_J2 a.1=some r) (fun a=>[(13,(.bool a.1))]) (fun a=>V) ?_ ?_
 refine bV ?_
 split at b
 refine aV ?_
 exact qI ((e==18),()) b tI
 refine cA ?_
 exact qI ((e==19),()) b tI
 rintro ⟨i,_⟩ σ1 b
 dsimp only [Z1b_J2] at b
 split at b
 refine cX ?_
 cases b
 exact qF () tI
 refine cU ?_
 cases b
 exact qF () tI
theorem Z17_ok  {a:Node}{r:Bool}(m:Z17 a=some r) :
 FnOk Tryz.prog 51 [(.agg [(iv a.Op),(.slice A2 N2 D2),(.slice A3 N3 D3),(.slice A4 N4 D4),(aD a.Form),(.slice A5 N5 D5)].toArray)] [aO kT3 (.slice A2 N2 D2) a.Args,aO kT3 (.slice A3 N3 D3) a.Dims,aO kT3 (.slice A4 N4 D4) a.Ints,aO kT3 (.slice A5 N5 D5) a.Data] (fun (h:Unit)=>((.bool r),[])):=by
 unfold Z17 at m
 refine aQ Tryz.func51 R 92 R R fun C V=>?_
 refine cL 0 aA ?_
 rintro rfl
 refine cL 1 aA ?_
 rintro rfl
 refine cL 2 aA ?_
 rintro rfl
 refine cL 3 aA ?_
 rintro rfl
 let W0:=RR kT3 A2 D2 a.Args::RR kT3 A3 D3 a.Dims::RR kT3 A4 D4 a.Ints::RR kT3 A5 D5 a.Data::V
 refine cN W0 ?_
 refine aV ?_
 refine eB R fun Z=>?_
 refine aV ?_
 let O:=aJ Z [(iv a.Op),(sc A2 a.Args D2),(sc A3 a.Dims D3),(sc A4 a.Ints D4),(aD a.Form),(sc A5 a.Data D5)] 54::W0
 refine qN O ?_
 refine aP ?_
 refine cQ [(1,(pt Z 0)),(13,(.bool ((decide (a.Op<1))||(decide (a.Op>19)))))] (O) ?_ ?_
 refine cA ?_
 rcases bo (decide (a.Op<1)) with M | M
 refine aP ?_
 refine lO (fA (decide (a.Op>19)) R M) (aC ?_)
 exact qj tI
 refine aP ?_
 refine lO (fT R M R) (aC ?_)
 exact qj tI
 rintro σ1
 refine bT ?_
 split at m
 refine cZ ?_
 cases m
 exact qF () (tE 5 [])
 refine bG ?_
 obtain ⟨r9,Y,m⟩:=bd m
 refine aP ?_
 refine lC 0 AW R (Z2y_ok Y) R ?_
 rintro _
 refine lO (vT R) ?_
 refine cZ ?_
 refine cQ [(1,(pt Z 0)),(31,(.bool ((decide ((a.Args.length:Int)<r9.1))||(decide ((a.Args.length:Int)>r9.2)))))] (O) ?_ ?_
 refine dN ?_
 rcases bo (decide ((a.Args.length:Int)<r9.1)) with B | B
 refine cA ?_
 refine lO (fA (decide ((a.Args.length:Int)>r9.2)) R B) (aC ?_)
 exact qj tI
 refine cA ?_
 refine lO (fT R B R) (aC ?_)
 exact qj tI
 rintro σ1
 refine bT ?_
 split at m
 refine cZ ?_
 cases m
 exact qF () (tE 5 [])
 refine cA ?_
 obtain ⟨q,T,m⟩:=bd m
 refine cQ [(1,(pt Z 0)),(62,(.bool ((((!q)&&(decide ((a.Dims.length:Int)>0)))||((a.Op != 11)&&(!(a.Form==([]:aN)))))||((a.Op != 2)&&(decide ((a.Data.length:Int)>0))))))] (O) ?_ ?_
 refine aP ?_
 refine lC 0 AX R (Z37_ok T) R ?_
 rintro _
 refine aV ?_
 rcases bo (!q) with e | e
 refine bG ?_
 refine lO (j5 R e R) (lB R ?_)
 rcases bo ((!q)&&(decide ((a.Dims.length:Int)>0))) with b | b
 refine cZ ?_
 refine lO (fA ((a.Op != 11)&&(!(a.Form==([]:aN)))) R b) ?_
 refine cU ?_
 refine lO (fA ((a.Op != 2)&&(decide ((a.Data.length:Int)>0))) R (oT b)) (aC ?_)
 exact qj tI
 refine bG ?_
 rcases bo (a.Op != 11) with s | s
 refine aV ?_
 refine lW (eE s) (vz (.bool (!(a.Form==([]:aN)))) (jr R R R)) (lW (b' b) (j5 R s R) (lO (fT R b R) (lB R ?_)))
 rcases bo (((!q)&&(decide ((a.Dims.length:Int)>0)))||((a.Op != 11)&&(!(a.Form==([]:aN))))) with j | j
 refine cX ?_
 refine lO (fA ((a.Op != 2)&&(decide ((a.Data.length:Int)>0))) R j) (aC ?_)
 exact qj tI
 refine bG ?_
 rcases bo (a.Op != 2) with D | D
 refine bG ?_
 refine lW (b' j) (j5 R D R) (lO (fT R j R) (aC ?_))
 exact qj tI
 refine bG ?_
 refine lW (b' j) (kq (decide ((a.Data.length:Int)>0)) R D) (lO (fT R j R) (aC ?_))
 exact qj tI
 refine aP ?_
 refine lW (b' b) (kq (!(a.Form==([]:aN))) R s) (lO (fT R b R) (lB R ?_))
 rcases bo (((!q)&&(decide ((a.Dims.length:Int)>0)))||((a.Op != 11)&&(!(a.Form==([]:aN))))) with l | l
 refine cX ?_
 refine lO (fA ((a.Op != 2)&&(decide ((a.Data.length:Int)>0))) R l) (aC ?_)
 exact qj tI
 refine bG ?_
 rcases bo (a.Op != 2) with G | G
 refine bG ?_
 refine lW (b' l) (j5 R G R) (lO (fT R l R) (aC ?_))
 exact qj tI
 refine bG ?_
 refine lW (b' l) (kq (decide ((a.Data.length:Int)>0)) R G) (lO (fT R l R) (aC ?_))
 exact qj tI
 refine bG ?_
 refine lO (kq (decide ((a.Dims.length:Int)>0)) R e) ?_
 refine cA ?_
 rcases bo (a.Op != 11) with u | u
 refine aV ?_
 refine lW (eE u) (vz (.bool (!(a.Form==([]:aN)))) (jr R R R)) (lW (b' (aF e)) (j5 R u R) (lO (fT R (aF e) R) (lB R ?_)))
 rcases bo (((!q)&&(decide ((a.Dims.length:Int)>0)))||((a.Op != 11)&&(!(a.Form==([]:aN))))) with g | g
 refine cX ?_
 refine lO (fA ((a.Op != 2)&&(decide ((a.Data.length:Int)>0))) R g) (aC ?_)
 exact qj tI
 refine bG ?_
 rcases bo (a.Op != 2) with L | L
 refine bG ?_
 refine lW (b' g) (j5 R L R) (lO (fT R g R) (aC ?_))
 exact qj tI
 refine bG ?_
 refine lW (b' g) (kq (decide ((a.Data.length:Int)>0)) R L) (lO (fT R g R) (aC ?_))
 exact qj tI
 refine aP ?_
 refine lW (b' (aF e)) (kq (!(a.Form==([]:aN))) R u) (lO (fT R (aF e) R) (lB R ?_))
 rcases bo (((!q)&&(decide ((a.Dims.length:Int)>0)))||((a.Op != 11)&&(!(a.Form==([]:aN))))) with i | i
 refine cX ?_
 refine lO (fA ((a.Op != 2)&&(decide ((a.Data.length:Int)>0))) R i) (aC ?_)
 exact qj tI
 refine bG ?_
 rcases bo (a.Op != 2) with I | I
 refine bG ?_
 refine lW (b' i) (j5 R I R) (lO (fT R i R) (aC ?_))
 exact qj tI
 refine bG ?_
 refine lW (b' i) (kq (decide ((a.Data.length:Int)>0)) R I) (lO (fT R i R) (aC ?_))
 exact qj tI
 rintro σ1
 refine bT ?_
 split at m
 refine cZ ?_
 cases m
 exact qF () (tE 5 [])
 refine bG ?_
 obtain ⟨J,U,m⟩:=bd m
 refine aP ?_
 refine lC 0 AY R (Z1b_ok U) R ?_
 rintro _
 refine cA ?_
 refine cQ [(1,(pt Z 0)),(5,(iv J)),(73,(.bool ((a.Op==16)||(a.Op==17))))] (O) ?_ ?_
 refine cA ?_
 rcases bo (a.Op==16) with F | F
 refine aP ?_
 refine lO (fA (a.Op==17) R F) (aC ?_)
 exact qj tI
 refine aP ?_
 refine lO (fT R F R) (aC ?_)
 exact qj tI
 rintro σ1
 refine bT ?_
 split at m
 refine aV ?_
 refine cQ [(2,(.bool ((decide ((a.Ints.length:Int)≥J))&&(decide ((a.Ints.length:Int)≤(aH (J+4096)))))))] (O) ?_ ?_
 refine dN ?_
 rcases bo (decide ((a.Ints.length:Int)≥J)) with E | E
 refine bV ?_
 refine lO (j5 R E R) ?_
 refine aV ?_
 exact qj tI
 refine bV ?_
 refine lO (kq (decide ((a.Ints.length:Int)≤(aH (J+4096)))) R E) ?_
 refine aV ?_
 exact qj tI
 rintro σ1
 refine aP ?_
 cases m
 exact qF () (tE 5 [])
 refine ov ?_
 cases m
 exact qF () (tE 5 [])
theorem Z0k_ok  {b:(List Int)}{l:Int}{r:Bool}(e:Z0k b l=some r) :
 FnOk Tryz.prog 52 [(.slice A2 N2 D2),(iv l)] [aO kT3 (.slice A2 N2 D2) b] (fun (h:Unit)=>((.bool r),[])):=by
 unfold Z0k at e
 refine aQ Tryz.func52 R 25 R R fun C V=>?_
 refine cL 0 aA ?_
 rintro rfl
 let u:=RR kT3 A2 D2 b::V
 refine cN u ?_
 refine bV ?_
 refine bB (A:=(Unit)×(Unit)) (fun a=>Z0k_J1=some r) (fun a=>[]) (fun a=>u) ?_ ?_
 refine bV ?_
 obtain ⟨G,B,j⟩:=bd e
 refine bD (A:=Unit) B (fun s a=>[(0,(sc A2 b D2)),(1,(iv l)),(5,(iv s))]) (fun s a=>u) () (aS R) tI ?_
 rintro g _ σ1 D e m
 dsimp only [Z0k_L1] at e
 refine cX ?_
 split at e
 refine bV ?_
 obtain ⟨i,e⟩:=gd e
 refine cQ [(0,(sc A2 b D2)),(1,(iv l)),(5,(iv g)),(24,(.bool ((decide ((ix b g)<0))||(decide ((ix b g)≥l)))))] (u) ?_ ?_
 refine aP ?_
 refine bC 0 aA (show 0<b.length by have:=i; omega) (fun F o14 E=>?_)
 subst E
 refine bG ?_
 rcases bo (decide ((ix b g)<0)) with q | q
 refine cZ ?_
 exact qj tI
 refine cZ ?_
 exact qj tI
 rintro σ1
 refine bT ?_
 split at e
 refine cX ?_
 cases e
 obtain rfl:=m _ R
 have e:=j
 refine aP ?_
 cases e
 exact qF () (tE 1 [])
 refine cX ?_
 cases e
 exact qA () tI
 refine aP ?_
 cases e
 obtain rfl:=m _ R
 have e:=j
 refine aV ?_
 exact cR ((),()) e trivial tI
 rintro ⟨_,_⟩ σ1 e
 dsimp only [Z0k_J1] at e
 refine bV ?_
 cases e
 exact qF () (tE 1 [])
theorem Zv_ok  {b:(List Int)}{r:Int}(e:Zv b=some r) :
 FnOk Tryz.prog 95 [(.slice A2 N2 D2)] [aO kT3 (.slice A2 N2 D2) b] (fun (h:Unit)=>((iv r),[])):=by
 unfold Zv at e
 refine aQ Tryz.func95 R 32 R R fun C V=>?_
 refine cL 0 aA ?_
 rintro rfl
 let u:=RR kT3 A2 D2 b::V
 refine cN u ?_
 refine iB ?_
 refine bB (A:=(Int)×(Unit)) (fun a=>Zv_J1 a.1=some r) (fun a=>[(3,(iv a.1))]) (fun a=>u) ?_ ?_
 refine bV ?_
 obtain ⟨J,D,j⟩:=bd e
 refine bD (A:=Unit) D (fun s a=>[(0,(sc A2 b D2)),(3,(iv s.1)),(4,(iv s.2))]) (fun s a=>u) () (aS R) tI ?_
 rintro ⟨m,g⟩ _ σ1 E e l
 dsimp only [Zv_L1] at e
 refine cX ?_
 split at e
 refine dN ?_
 obtain ⟨i,e⟩:=gd e
 refine cQ [(0,(sc A2 b D2)),(3,(iv m)),(4,(iv g)),(22,(.bool ((decide ((ix b g)<1))||(decide ((ix b g)>4096)))))] (u) ?_ ?_
 refine aP ?_
 refine bC 0 aA (show 0<b.length by have:=i; omega) (fun F o17 B=>?_)
 subst B
 refine bG ?_
 rcases bo (decide ((ix b g)<1)) with q | q
 refine dN ?_
 exact qj tI
 refine dN ?_
 exact qj tI
 rintro σ1
 refine bT ?_
 split at e
 refine cU ?_
 cases e
 obtain rfl:=l _ R
 have e:=j
 refine aP ?_
 cases e
 exact qF () (tE 1 [])
 refine cZ ?_
 refine bC 0 aA (show 0<b.length by have:=i; omega) (fun G o21 B=>?_)
 subst B
 refine iK ?_
 split at e
 refine cX ?_
 cases e
 obtain rfl:=l _ R
 have e:=j
 refine aP ?_
 cases e
 exact qF () (tE 1 [])
 refine cX ?_
 cases e
 exact qA () tI
 refine aP ?_
 cases e
 obtain rfl:=l _ R
 have e:=j
 refine aV ?_
 exact qI (m,()) e tI
 rintro ⟨I,_⟩ σ1 e
 dsimp only [Zv_J1] at e
 refine dN ?_
 cases e
 exact qF () (tE 1 [])
theorem Zm_ok  {a:(List Int)}{r:Bool}(e:Zm a=some r) :
 FnOk Tryz.prog 92 [(.slice A2 N2 D2)] [aO kT3 (.slice A2 N2 D2) a] (fun (h:Unit)=>((.bool r),[])):=by
 unfold Zm at e
 refine aQ Tryz.func92 R 11 R R fun C V=>?_
 refine cL 0 aA ?_
 rintro rfl
 let i:=RR kT3 A2 D2 a::V
 refine cN i ?_
 refine bV ?_
 obtain ⟨j,g,e⟩:=bd e
 refine cQ [(2,(.bool ((decide ((a.length:Int)≤6))&&(decide (j>0)))))] (i) ?_ ?_
 refine cA ?_
 rcases bo (decide ((a.length:Int)≤6)) with b | b
 refine bT ?_
 refine lM _ (fun w s=>(s.d 0 R)) ?_
 refine bY 1 R (eE b) nE R (Zv_ok (bN g b)) R ?_
 rintro _
 refine lN i ?_
 refine bG ?_
 exact qj tI
 refine bV ?_
 exact qj tI
 rintro σ1
 refine aV ?_
 cases e
 exact qF () (tE 1 [])
theorem Zp_ok  {t1:Tensor}{r:Bool}(b:Zp t1=some r) :
 FnOk Tryz.prog 55 [(.agg [(.slice A2 N2 D2),(.slice A3 N3 D3)].toArray)] [aO kT3 (.slice A2 N2 D2) t1.Dims,aO kT3 (.slice A3 N3 D3) t1.Data] (fun (h:Unit)=>((.bool r),[])):=by
 unfold Zp at b
 refine aQ Tryz.func55 R 38 R R fun C V=>?_
 refine cL 0 aA ?_
 rintro rfl
 refine cL 1 aA ?_
 rintro rfl
 let F:=RR kT3 A2 D2 t1.Dims::RR kT3 A3 D3 t1.Data::V
 refine cN F ?_
 refine aV ?_
 refine eB R fun B=>?_
 refine aV ?_
 let g:=aJ B [(sc A2 t1.Dims D2),(sc A3 t1.Data D3)] 58::F
 refine qN g ?_
 refine aP ?_
 obtain ⟨I,j,b⟩:=bd b
 obtain ⟨O,E,b⟩:=bd b
 refine cQ [(1,(pt B 0)),(16,(.bool ((!I)||((t1.Data.length:Int) != O))))] (g) ?_ ?_
 rcases bo (!I) with i | i
 refine dG 13 [] bP fun L T=>?_
 refine gT 0 [] ?_
 refine d1 2 R (lM _ (fun w s=>(s.d 1 R)) ?_)
 refine lC 1 kj R (Zm_ok j) R ?_
 rintro _
 refine lN g ?_
 refine aC (aG (sL []) ?_)
 refine ra 3 [] ?_
 refine dD ?_
 exact qj tI
 refine dG 13 [] bP fun L T=>?_
 refine gT 0 [] ?_
 refine d1 2 R (lM _ (fun w s=>(s.d 1 R)) ?_)
 refine lC 1 kj R (Zm_ok j) R ?_
 rintro _
 refine lN g ?_
 refine aC (aG (sL []) ?_)
 refine su 3 [] ?_
 refine d1 10 R (lM _ (fun w s=>(s.d 1 R)) ?_)
 refine bY 1 R (b' i) nE R (Zv_ok (bN E (cS i))) R ?_
 rintro _
 refine lN g ?_
 refine aC (aG (sL []) ?_)
 refine gT 11 [] ?_
 refine dD ?_
 exact qj tI
 rintro σ1
 refine bT ?_
 split at b
 refine cZ ?_
 cases b
 exact qF () (tE 3 [])
 refine bG ?_
 refine bB (A:=(Unit)×(Unit)) (fun a=>Zp_J1=some r) (fun a=>[]) (fun a=>g) ?_ ?_
 refine bV ?_
 obtain ⟨U,D,l⟩:=bd b
 refine bD (A:=Unit) D (fun s a=>[(1,(pt B 0)),(3,(iv s))]) (fun s a=>g) () (aS R) tI ?_
 rintro e _ σ1 G b q
 dsimp only [Zp_L1] at b
 refine cU ?_
 split at b
 refine bV ?_
 obtain ⟨u,b⟩:=gd b
 refine cQ [(1,(pt B 0)),(3,(iv e)),(37,(.bool ((decide ((ix t1.Data e)<0))||(decide ((ix t1.Data e)≥2147483647)))))] (g) ?_ ?_
 refine bG ?_
 refine bC 2 aA (show 0<t1.Data.length by have:=u; omega) (fun M o21 J=>?_)
 subst J
 refine bG ?_
 rcases bo (decide ((ix t1.Data e)<0)) with m | m
 refine cZ ?_
 exact qj tI
 refine cZ ?_
 exact qj tI
 rintro σ1
 refine bT ?_
 split at b
 refine cX ?_
 cases b
 obtain rfl:=q _ R
 have b:=l
 refine aP ?_
 cases b
 exact qF () (tE 3 [])
 refine cX ?_
 cases b
 exact qA () tI
 refine aP ?_
 cases b
 obtain rfl:=q _ R
 have b:=l
 refine aV ?_
 exact cR ((),()) b trivial tI
 rintro ⟨_,_⟩ σ1 b
 dsimp only [Zp_J1] at b
 refine bV ?_
 cases b
 exact qF () (tE 3 [])
theorem Zs_ok  {a:(List Int)}{r:(List Int)}(b:Zs a=some r) :
 FnOk Tryz.prog 57 [(.slice A2 N2 D2)] [aO kT3 (.slice A2 N2 D2) a] (fun (h:HH)=>((s3 h),[ow kT3 3 (s3 h) r])):=by
 unfold Zs at b
 refine aQ Tryz.func57 R 6 R R fun C V=>?_
 refine cL 0 aA ?_
 rintro rfl
 let g:=RR kT3 A2 D2 a::V
 refine cN g ?_
 refine bV ?_
 obtain ⟨e,b⟩:=gd b
 refine aE (bM (K:=kT3) (xs:=([]:List Int)) (vs:=[]) 0 R R bK cC gF R R R R R R ?_ R (fun A3 D3=>?_))
 exact fun I h s=>(gD).list [] I h s
 refine lS R (lM _ (fun w s=>((s.dup 1 R).mv 1)) ?_)
 refine eD (K:=kT3) 17592186044416 R R bK cC kl (Zr.zk zT3 gF) R R R R R R (rX (Kind.scal_flat _ _)) e (fun A5 D5=>(lN (OO kT3 3 A5 D5 (([]:List Int)++a)::g) ?_))
 refine bG ?_
 cases b
 exact qF (A5,(([]:List Int)++a).length,D5) (tE 2 [0])
theorem Z01_ok  {e:(List Int)}{i:(List Int)}{r:Bool}(b:Z01 e i=some r) :
 FnOk Tryz.prog 56 [(.slice A2 N2 D2),(.slice A4 N4 D4)] [aO kT3 (.slice A2 N2 D2) e,aO kT3 (.slice A4 N4 D4) i] (fun (h:Unit)=>((.bool r),[])):=by
 unfold Z01 at b
 refine aQ Tryz.func56 R 26 R R fun C V=>?_
 refine cL 0 aA ?_
 rintro rfl
 refine cL 1 aA ?_
 rintro rfl
 let u:=RR kT3 A2 D2 e::RR kT3 A4 D4 i::V
 refine cN u ?_
 refine oy ?_
 split at b
 refine cZ ?_
 cases b
 exact qF () (tE 2 [])
 refine bG ?_
 refine bB (A:=(Unit)×(Unit)) (fun a=>Z01_J1=some r) (fun a=>[]) (fun a=>u) ?_ ?_
 refine bV ?_
 obtain ⟨L,B,g⟩:=bd b
 refine bD (A:=Unit) B (fun s a=>[(0,(sc A2 e D2)),(1,(sc A4 i D4)),(5,(iv s))]) (fun s a=>u) () (aS R) tI ?_
 rintro F _ σ1 D b l
 dsimp only [Z01_L1] at b
 refine cX ?_
 split at b
 refine bV ?_
 obtain ⟨j,b⟩:=gd b
 obtain ⟨m,b⟩:=gd b
 refine aZ 0 aA (show 0<e.length by have:=j; omega) (fun G o18 q=>?_)
 subst q
 refine aZ 1 aA (show 0<i.length by have:=m; omega) (fun E o21 q=>?_)
 subst q
 refine dG 9 [] bP fun I J=>?_
 refine vD 0 [] ?_
 refine dD (aI ?_)
 split at b
 refine cX ?_
 cases b
 obtain rfl:=l _ R
 have b:=g
 refine aP ?_
 cases b
 exact qF () (tE 2 [])
 refine cX ?_
 cases b
 exact qA () tI
 refine aP ?_
 cases b
 obtain rfl:=l _ R
 have b:=g
 refine aV ?_
 exact cR ((),()) b trivial tI
 rintro ⟨_,_⟩ σ1 b
 dsimp only [Z01_J1] at b
 refine bV ?_
 cases b
 exact qF () (tE 2 [])
theorem Z28_ok  {a:(List Int)}{g:Int}{r:Int}(b:Z28 a g=some r) :
 FnOk Tryz.prog 138 [(.slice A2 N2 D2),(iv g)] [aO kT3 (.slice A2 N2 D2) a] (fun (h:Unit)=>((iv r),[])):=by
 unfold Z28 at b
 refine aQ Tryz.func138 R 17 R R fun C V=>?_
 refine cL 0 aA ?_
 rintro rfl
 let j:=RR kT3 A2 D2 a::V
 refine cN j ?_
 refine ov ?_
 split at b
 refine cZ ?_
 cases b
 exact qF () (tE 1 [])
 refine bG ?_
 obtain ⟨e,b⟩:=gd b
 refine dN ?_
 refine bC 0 aA (show 0<a.length by have:=e; omega) (fun l o7 i=>?_)
 subst i
 refine bV ?_
 cases b
 exact qF () (tE 1 [])
theorem Z00_ok  {D:(List Int)}{E:(List Int)}{r:(List Int)}(b:Z00 D E=some r) :
 FnOk Tryz.prog 101 [(.slice A2 N2 D2),(.slice A4 N4 D4)] [aO kT3 (.slice A2 N2 D2) D,aO kT3 (.slice A4 N4 D4) E] (fun (h:HH)=>((s3 h),[ow kT3 3 (s3 h) r])):=by
 unfold Z00 at b
 refine aQ Tryz.func101 R 68 R R fun C V=>?_
 refine cL 0 aA ?_
 rintro rfl
 refine cL 1 aA ?_
 rintro rfl
 let F:=RR kT3 A2 D2 D::RR kT3 A4 D4 E::V
 refine cN F ?_
 refine dN ?_
 obtain ⟨r5,a9,b⟩:=bd b
 obtain ⟨r7,a8,b⟩:=bd b
 refine cQ [(0,(sc A2 D D2)),(1,(sc A4 E D4)),(17,(.bool ((!r5)||(!r7))))] (F) ?_ ?_
 refine aV ?_
 refine lM _ (fun w s=>(s.d 0 R)) ?_
 refine lC 1 kj R (Zm_ok a9) R ?_
 rintro _
 refine lN F ?_
 refine aV ?_
 rcases bo (!r5) with L | L
 refine cA ?_
 exact qj tI
 refine bT ?_
 refine lM _ (fun w s=>(s.d 1 R)) ?_
 refine bY 1 R (b' L) kj R (Zm_ok (bN a8 (cS L))) R ?_
 rintro _
 refine lN F ?_
 refine aP ?_
 exact qj tI
 rintro σ1
 refine bT ?_
 split at b
 refine aP ?_
 refine bM (K:=kT3) (xs:=([]:List Int)) (vs:=[]) 0 R R bK cC gF R R R R R R ?_ R (fun A11 D11=>?_)
 exact fun I h s=>(gD).list [] I h s
 refine cA ?_
 cases b
 exact qF (A11,([]:List Int).length,D11) (tE 3 [0])
 refine iB ?_
 refine bB (A:=(Int)×(Unit)) (fun a=>Z00_J1 D E a.1=some r) (fun a=>[(0,(sc A2 D D2)),(1,(sc A4 E D4)),(5,(iv a.1))]) (fun a=>F) ?_ ?_
 refine cZ ?_
 split at b
 refine bV ?_
 exact qI ((E.length:Int),()) b tI
 refine aV ?_
 exact qI ((D.length:Int),()) b tI
 rintro ⟨e,_⟩ σ1 b
 dsimp only [Z00_J1] at b
 refine bT ?_
 obtain ⟨q,b⟩:=gd b
 refine aV ?_
 refine fD (K:=kT3) (m:=e) (z:=(0:Int)) R R bK cC kl (Zr.zk zT3 gF) (by decide) R R q.1 q.2.1 q.2.2 (fun g i=>(lS R (aC (aI (aM (bB (A:=((List Int))×(Unit)) (fun a=>Z00_J4 a.1=some r) (fun a=>[(6,(sc g (List.replicate e.toNat (0:Int)) i))]) (fun a=>ow kT3 3 (.slice g (List.replicate e.toNat (0:Int)).length i) a.1::F) ?_ ?_))))))
 refine bV ?_
 obtain ⟨e1,a6,T⟩:=bd b
 refine bD (A:=Unit) a6 (fun s a=>[(0,(sc A2 D D2)),(1,(sc A4 E D4)),(5,(iv e)),(6,(sc g (List.replicate e.toNat (0:Int)) i)),(7,(iv s.2))]) (fun s a=>ow kT3 3 (.slice g (List.replicate e.toNat (0:Int)).length i) s.1::F) () (aS R) tI ?_
 rintro ⟨J,G⟩ _ σ1 O b a3
 dsimp only [Z00_L1] at b
 refine cZ ?_
 split at b
 refine bV ?_
 obtain ⟨j,Y,b⟩:=bd b
 refine aP ?_
 refine lM _ (fun w s=>(s.d 1 R)) ?_
 refine lC 1 vE R (Z28_ok Y) R ?_
 rintro _
 refine bG ?_
 obtain ⟨l,a0,b⟩:=bd b
 refine aP ?_
 refine lM _ (fun w s=>(s.d 2 R)) ?_
 refine lC 1 vE R (Z28_ok a0) R ?_
 rintro _
 refine cA ?_
 refine cQ [(0,(sc A2 D D2)),(1,(sc A4 E D4)),(5,(iv e)),(6,(sc g (List.replicate e.toNat (0:Int)) i)),(7,(iv G)),(8,(iv j)),(9,(iv l)),(50,(.bool (((j != l)&&(j != 1))&&(l != 1))))] (ow kT3 3 (.slice g (List.replicate e.toNat (0:Int)).length i) J::F) ?_ ?_
 refine cA ?_
 rcases bo (j != l) with U | U
 refine bG ?_
 rcases bo ((j != l)&&(j != 1)) with Z | Z
 refine bG ?_
 exact qj tI
 refine bG ?_
 exact qj tI
 refine cZ ?_
 exact qj tI
 rintro σ1
 refine bT ?_
 split at b
 refine aP ?_
 refine bM (K:=kT3) (xs:=([]:List Int)) (vs:=[]) 0 R R bK cC gF R R R R R R ?_ R (fun a5 a7=>?_)
 exact fun I h s=>(gD).list [] I h s
 refine dN ?_
 cases b
 obtain rfl:=a3 _ R
 have b:=T
 refine aP ?_
 cases b
 exact qF (a5,([]:List Int).length,a7) (tE 4 [0])
 refine bG ?_
 refine bB (A:=(Int)×(Unit)) (fun a=>Z00_J3 e J G a.1=some O) (fun a=>[(0,(sc A2 D D2)),(1,(sc A4 E D4)),(5,(iv e)),(6,(sc g (List.replicate e.toNat (0:Int)) i)),(7,(iv G)),(8,(iv a.1))]) (fun a=>ow kT3 3 (.slice g (List.replicate e.toNat (0:Int)).length i) J::F) ?_ ?_
 refine dN ?_
 split at b
 refine cA ?_
 exact qI (l,()) b tI
 refine aV ?_
 exact qI (j,()) b tI
 rintro ⟨a2,_⟩ σ1 b
 dsimp only [Z00_J3] at b
 obtain ⟨u,b⟩:=gd b
 refine dN ?_
 refine bC 0 aB (show 0<(List.replicate e.toNat (0:Int)).length by have:=u; omega) (fun ac o47 ha=>?_)
 subst ha
 refine bT ?_
 refine dV (K:=kT3) (x':=a2) 0 (aH ((aH (e - 1)) - G)) R R cC R R u.1 u.2 ?_ ?_
 exact fun I h s=>(gD).put I h () a2 s
 refine cZ ?_
 cases b
 exact qA () tI
 refine aP ?_
 cases b
 obtain rfl:=a3 _ R
 have b:=T
 refine aV ?_
 exact qI (J,()) b tI
 rintro ⟨a4,_⟩ σ1 b
 dsimp only [Z00_J4] at b
 refine aV ?_
 obtain ⟨ae,M,b⟩:=bd b
 refine aV ?_
 refine lC 1 kj R (FnOk.lends (A':=[ow kT3 3 (.slice g (List.replicate e.toNat (0:Int)).length i) a4]) (A:=[aO kT3 (.slice g (List.replicate e.toNat (0:Int)).length i) a4]) (B:=[]) (Zm_ok M) ⟨aU,trivial⟩ (fun _=>trivial)) R ?_
 rintro _
 refine aP ?_
 split at b
 refine aP ?_
 refine bM (K:=kT3) (xs:=([]:List Int)) (vs:=[]) 0 R R bK cC gF R R R R R R ?_ R (fun aa ab=>?_)
 exact fun I h s=>(gD).list [] I h s
 refine cA ?_
 cases b
 exact qF (aa,([]:List Int).length,ab) (tE 4 [0])
 refine cU ?_
 cases b
 exact qF (g,(List.replicate e.toNat (0:Int)).length,i) (tE 3 [0])
theorem Z0i_ok  {a:(List Int)}{r:Tensor}(b:Z0i a=some r) :
 FnOk Tryz.prog 93 [(.slice A2 N2 D2)] [aO kT3 (.slice A2 N2 D2) a] (fun (h:HH×HH)=>((.agg [(s3 h.1),(s3 h.2)].toArray),[ow kT3 3 (s3 h.1) r.Dims,ow kT3 3 (s3 h.2) r.Data])):=by
 unfold Z0i at b
 refine aQ Tryz.func93 R 9 R R fun C V=>?_
 refine cL 0 aA ?_
 rintro rfl
 let q:=RR kT3 A2 D2 a::V
 refine cN q ?_
 refine aV ?_
 refine bF R R dT (fun u=>(aC (aI (aM ?_))))
 obtain ⟨i,j,b⟩:=bd b
 obtain ⟨g,l,b⟩:=bd b
 obtain ⟨e,b⟩:=gd b
 refine aV ?_
 refine lM _ (fun w s=>(s.d 1 R)) ?_
 refine lC 1 jW R (Zs_ok j) R ?_
 rintro ⟨A6,N6,D6⟩
 refine aL 0 aB ?_
 rintro rfl
 refine lS R (lM _ (fun w s=>(s.d 2 R)) ?_)
 refine lC 1 nE R (Zv_ok l) R ?_
 rintro _
 refine fD (K:=kT3) (m:=g) (z:=(0:Int)) R R bK cC kl (Zr.zk zT3 gF) (by decide) R R e.1 e.2.1 e.2.2 (fun A10 D10=>(lO (vz (.agg [(sc A6 i D6),(sc A10 (List.replicate g.toNat (0:Int)) D10)].toArray) (aW gO dT R R)) (aK 2 R R bS R R R R R R (lN (OO kT3 3 A10 D10 (List.replicate g.toNat (0:Int))::_::aJ u [(sc A6 i D6),(sc A10 (List.replicate g.toNat (0:Int)) D10)] 58::q) ?_))))
 refine aP ?_
 cases b
 exact qS ((A6,i.length,D6),(A10,(List.replicate g.toNat (0:Int)).length,D10)) (tE 4 [1,0])
theorem Zh_ok  {b:(List Int)}{L:Int}{r:(List Int)}(e:Zh b L=some r) :
 FnOk Tryz.prog 102 [(.slice A2 N2 D2),(iv L)] [aO kT3 (.slice A2 N2 D2) b] (fun (h:HH)=>((s3 h),[ow kT3 3 (s3 h) r])):=by
 unfold Zh at e
 refine aQ Tryz.func102 R 33 R R fun C V=>?_
 refine cL 0 aA ?_
 rintro rfl
 let D:=RR kT3 A2 D2 b::V
 refine cN D ?_
 refine bV ?_
 obtain ⟨l,e⟩:=gd e
 refine aP ?_
 refine fD (K:=kT3) (m:=(b.length:Int)) (z:=(0:Int)) R R bK cC kl (Zr.zk zT3 gF) (by decide) R R l.1 l.2.1 l.2.2 (fun A5 D5=>(lS R (aC (aI (aM (bB (A:=((List Int))×(Unit)) (fun a=>Zh_J1 a.1=some r) (fun a=>[(5,(sc A5 (List.replicate (b.length:Int).toNat (0:Int)) D5))]) (fun a=>ow kT3 3 (.slice A5 (List.replicate (b.length:Int).toNat (0:Int)).length D5) a.1::D) ?_ ?_))))))
 refine cX ?_
 obtain ⟨Y,E,F⟩:=bd e
 refine bD (A:=Unit) E (fun s a=>[(0,(sc A2 b D2)),(1,(iv s.1)),(5,(sc A5 (List.replicate (b.length:Int).toNat (0:Int)) D5)),(6,(iv s.2.2))]) (fun s a=>ow kT3 3 (.slice A5 (List.replicate (b.length:Int).toNat (0:Int)).length D5) s.2.1::D) () (aS R) tI ?_
 rintro ⟨q,J,i⟩ _ σ1 M e G
 dsimp only [Zh_L1] at e
 refine dN ?_
 split at e
 refine bV ?_
 obtain ⟨u,e⟩:=gd e
 obtain ⟨j,e⟩:=gd e
 obtain ⟨g,e⟩:=gd e
 refine bV ?_
 refine bC 1 aA (show 0<b.length by have:=u; omega) (fun O o22 B=>?_)
 subst B
 refine aV ?_
 refine lO (qc R R j) (bC 0 aB (show 0<(List.replicate (b.length:Int).toNat (0:Int)).length by have:=g; omega) (fun U o26 B=>?_))
 subst B
 refine bT ?_
 refine dV (K:=kT3) (x':=(q.tmod (ix b i))) 0 i R R cC R R g.1 g.2 ?_ ?_
 exact fun I h s=>(gD).put I h () (q.tmod (ix b i)) s
 refine cZ ?_
 refine lO (vz (iv (aH (q.tdiv (ix b i)))) (mo R R j)) ?_
 refine cX ?_
 cases e
 exact qA () tI
 refine aP ?_
 cases e
 obtain rfl:=G _ R
 have e:=F
 refine aV ?_
 exact qI (J,()) e tI
 rintro ⟨T,_⟩ σ1 e
 dsimp only [Zh_J1] at e
 refine dN ?_
 cases e
 exact qF (A5,(List.replicate (b.length:Int).toNat (0:Int)).length,D5) (tE 2 [0])
theorem Z0n_ok  {e:(List Int)}{b:(List Int)}{r:Int}(g:Z0n e b=some r) :
 FnOk Tryz.prog 114 [(.slice A2 N2 D2),(.slice A4 N4 D4)] [aO kT3 (.slice A2 N2 D2) e,aO kT3 (.slice A4 N4 D4) b] (fun (h:Unit)=>((iv r),[])):=by
 unfold Z0n at g
 refine aQ Tryz.func114 R 25 R R fun C V=>?_
 refine cL 0 aA ?_
 rintro rfl
 refine cL 1 aA ?_
 rintro rfl
 let m:=RR kT3 A2 D2 e::RR kT3 A4 D4 b::V
 refine cN m ?_
 refine iB ?_
 refine bB (A:=(Int)×(Unit)) (fun a=>Z0n_J1 a.1=some r) (fun a=>[(5,(iv a.1))]) (fun a=>m) ?_ ?_
 refine bV ?_
 obtain ⟨O,q,B⟩:=bd g
 refine bD (A:=Unit) q (fun s a=>[(0,(sc A2 e D2)),(1,(sc A4 b D4)),(5,(iv s.1)),(6,(iv s.2))]) (fun s a=>m) () (aS R) tI ?_
 rintro ⟨u,J⟩ _ σ1 E g D
 dsimp only [Z0n_L1] at g
 refine cX ?_
 split at g
 refine cA ?_
 obtain ⟨j,g⟩:=gd g
 obtain ⟨i,g⟩:=gd g
 refine aZ 0 aA (show 0<e.length by have:=j; omega) (fun F o17 l=>?_)
 subst l
 refine aZ 1 aA (show 0<b.length by have:=i; omega) (fun I o20 l=>?_)
 subst l
 refine dG 12 [] bP fun L M=>?_
 refine uu 0 [] ?_
 refine dD ?_
 refine dN ?_
 cases g
 exact qA () tI
 refine aP ?_
 cases g
 obtain rfl:=D _ R
 have g:=B
 refine aV ?_
 exact qI (u,()) g tI
 rintro ⟨G,_⟩ σ1 g
 dsimp only [Z0n_J1] at g
 refine dN ?_
 cases g
 exact qF () (tE 2 [])
theorem Z16_ok  {t1:Tensor}{a:(List Int)}{r:Int}(b:Z16 t1 a=some r) :
 FnOk Tryz.prog 112 [(.agg [(.slice A2 N2 D2),(.slice A3 N3 D3)].toArray),(.slice A5 N5 D5)] [aO kT3 (.slice A2 N2 D2) t1.Dims,aO kT3 (.slice A3 N3 D3) t1.Data,aO kT3 (.slice A5 N5 D5) a] (fun (h:Unit)=>((iv r),[])):=by
 unfold Z16 at b
 refine aQ Tryz.func112 R 13 R R fun C V=>?_
 refine cL 0 aA ?_
 rintro rfl
 refine cL 1 aA ?_
 rintro rfl
 refine cL 2 aA ?_
 rintro rfl
 let j:=RR kT3 A2 D2 t1.Dims::RR kT3 A3 D3 t1.Data::RR kT3 A5 D5 a::V
 refine cN j ?_
 refine aV ?_
 refine eB R fun q=>?_
 refine aV ?_
 let l:=aJ q [(sc A2 t1.Dims D2),(sc A3 t1.Data D3)] 58::j
 refine qN l ?_
 refine aV ?_
 obtain ⟨D,i,b⟩:=bd b
 obtain ⟨g,b⟩:=gd b
 refine aZ 2 aA (show 0<t1.Data.length by have:=g; omega) (fun u o11 m=>?_)
 subst m
 refine dG 9 [] bP fun B E=>?_
 refine kr 0 [] ?_
 refine d1 5 R (lM _ (fun w s=>(((s.d 1 R).d 4 R).e 2 [1,0])) ?_)
 refine lC 2 sG R (Z0n_ok i) R ?_
 rintro _
 refine lN l ?_
 refine aC (aG (sL []) ?_)
 refine iw 6 [] ?_
 refine dD ?_
 refine aV ?_
 cases b
 exact qF () (tE 4 [])
theorem Z09_ok  {t1:Tensor}{b:(List Int)}{r:Int}(g:Z09 t1 b=some r) :
 FnOk Tryz.prog 104 [(.agg [(.slice A2 N2 D2),(.slice A3 N3 D3)].toArray),(.slice A5 N5 D5)] [aO kT3 (.slice A2 N2 D2) t1.Dims,aO kT3 (.slice A3 N3 D3) t1.Data,aO kT3 (.slice A5 N5 D5) b] (fun (h:Unit)=>((iv r),[])):=by
 unfold Z09 at g
 refine aQ Tryz.func104 R 42 R R fun C V=>?_
 refine cL 0 aA ?_
 rintro rfl
 refine cL 1 aA ?_
 rintro rfl
 refine cL 2 aA ?_
 rintro rfl
 let W0:=RR kT3 A2 D2 t1.Dims::RR kT3 A3 D3 t1.Data::RR kT3 A5 D5 b::V
 refine cN W0 ?_
 refine aV ?_
 refine eB R fun b6=>?_
 refine aV ?_
 let O:=aJ b6 [(sc A2 t1.Dims D2),(sc A3 t1.Data D3)] 58::W0
 refine qN O ?_
 refine ov ?_
 refine bM (K:=kT3) (xs:=([]:List Int)) (vs:=[]) 0 R R bK cC gF R R R R R R ?_ R (fun A7 D7=>?_)
 exact fun I h s=>(gD).list [] I h s
 refine bG ?_
 refine bB (A:=((List Int))×(HH)) (fun a=>Z09_J3 t1 a.1=some r) (fun a=>[(2,(pt b6 0)),(6,(s3 a.2))]) (fun a=>ow kT3 3 (s3 a.2) a.1::O) ?_ ?_
 refine bV ?_
 obtain ⟨e1,a2,a3⟩:=bd g
 refine bD (A:=HH×HH) a2 (fun s a=>[(1,(s3 a.1)),(2,(pt b6 0)),(5,(iv (aH ((b.length:Int) - (t1.Dims.length:Int))))),(6,(s3 a.2)),(7,(iv s.2))]) (fun s a=>aO kT3 (s3 a.1) b::ow kT3 3 (s3 a.2) s.1::O) ((A5,b.length,D5),(A7,([]:List Int).length,D7)) (aS R) (fun w s=>(s.d 4 R)) ?_
 rintro ⟨i,m⟩ ⟨⟨aa,a4,E⟩,⟨G,a5,q⟩⟩ σ1 L g a6
 dsimp only [Z09_L1] at g
 refine bH 0 aA (fun (U:a4=b.length)=>?_)
 subst U
 refine bH 1 aB (fun (U:a5=i.length)=>?_)
 subst U
 refine cU ?_
 split at g
 refine bV ?_
 obtain ⟨a0,g⟩:=gd g
 refine cA ?_
 refine bC 0 aA (show 0<b.length by have:=a0; omega) (fun u o27 ha=>?_)
 subst ha
 refine bV ?_
 refine bB (A:=(Int)×(Unit)) (fun a=>Z09_J2 i m a.1=some L) (fun a=>[(1,(sc (ad u o27) b E)),(2,(pt b6 0)),(5,(iv (aH ((b.length:Int) - (t1.Dims.length:Int))))),(6,(sc G i q)),(7,(iv m)),(8,(iv a.1))]) (fun a=>RR kT3 (ad u o27) E b::OO kT3 3 G q i::O) ?_ ?_
 refine bT ?_
 obtain ⟨M,g⟩:=gd g
 refine bG ?_
 refine bC 3 aA (show 0<t1.Dims.length by have:=M; omega) (fun ab o30 ha=>?_)
 subst ha
 refine cA ?_
 split at g
 refine bG ?_
 exact qI ((0:Int),()) g tI
 refine aV ?_
 exact qI ((ix b (aH ((aH ((b.length:Int) - (t1.Dims.length:Int)))+m))),()) g tI
 rintro ⟨j,_⟩ σ1 g
 dsimp only [Z09_J2] at g
 obtain ⟨T,g⟩:=gd g
 refine aP ?_
 refine bM (K:=kT3) (xs:=([j]:List Int)) (vs:=[(iv j)]) 0 R R bK cC gF R R R R R R ?_ R (fun a8 a9=>?_)
 exact fun I h s=>(gD).list [((),j)] I h s
 refine lM _ (tE 3 [2,0,1]) ?_
 refine eD (K:=kT3) 17592186044416 R R bK cC kl (Zr.zk zT3 gF) R R R R R R dP T (fun J Z=>(lN (OO kT3 3 J Z (i++([j]:List Int))::_::O) ?_))
 refine cX ?_
 cases g
 exact qA (((ad u o27),b.length,E),(J,(i++([j]:List Int)).length,Z)) (tE 2 [1,0])
 refine aP ?_
 cases g
 obtain rfl:=a6 _ R
 have g:=a3
 refine aV ?_
 exact qI (i,(G,i.length,q)) g (tE 2 [1])
 rintro ⟨l,⟨D,a1,F⟩⟩ σ1 g
 dsimp only [Z09_J3] at g
 refine bH 0 aB (fun (U:a1=l.length)=>?_)
 subst U
 refine bT ?_
 obtain ⟨a7,Y,g⟩:=bd g
 refine aP ?_
 refine lM _ (fun w s=>(((s.d 2 R).d 4 R).e 3 [2,1,0])) ?_
 refine lC 3 nb R (FnOk.lends (A':=[OO kT3 3 D F l]) (A:=[RR kT3 D F l]) (B:=[RR kT3 A2 D2 t1.Dims,RR kT3 A3 D3 t1.Data]) (FnOk.perm (Z16_ok Y) (Pre':=[RR kT3 D F l,RR kT3 A2 D2 t1.Dims,RR kT3 A3 D3 t1.Data]) (fun _ _ _ s=>(s.e 3 [1,2,0]))) ⟨aU,trivial⟩ (fun _=>trivial)) R ?_
 rintro _
 refine bG ?_
 cases g
 exact qF () (tE 5 [])
theorem Zo_ok  {p1:Int}{r:Int}(b:Zo p1=some r) :
 FnOk Tryz.prog 94 [(iv p1)] [] (fun (h:Unit)=>((iv r),[])):=by
 unfold Zo at b
 refine aQ Tryz.func94 R 11 R R fun C V=>?_
 refine cN V ?_
 refine cZ ?_
 refine lO (qc R R (by decide)) ?_
 refine bG ?_
 refine bB (A:=(Int)×(Unit)) (fun a=>Zo_J1 a.1=some r) (fun a=>[(3,(iv a.1))]) (fun a=>V) ?_ ?_
 refine bV ?_
 split at b
 refine bV ?_
 exact qI ((aH ((p1.tmod (2147483647:Int))+2147483647)),()) b tI
 refine aV ?_
 exact qI ((p1.tmod (2147483647:Int)),()) b tI
 rintro ⟨e,_⟩ σ1 b
 dsimp only [Zo_J1] at b
 refine dN ?_
 cases b
 exact qF () tI
theorem Z1e_ok  {e:Int}{r:Int}(a:Z1e e=some r) :
 FnOk Tryz.prog 108 [(iv e)] [] (fun (h:Unit)=>((iv r),[])):=by
 unfold Z1e at a
 refine aQ Tryz.func108 R 11 R R fun C V=>?_
 refine cN V ?_
 refine bV ?_
 obtain ⟨g,b,a⟩:=bd a
 refine aV ?_
 refine lC 0 lQ R (Zo_ok b) R ?_
 rintro _
 refine cU ?_
 split at a
 refine cU ?_
 cases a
 exact qF () tI
 refine cU ?_
 cases a
 exact qF () tI
theorem Z1m_ok  {j:Int}{i:Int}{r:Int}(a:Z1m j i=some r) :
 FnOk Tryz.prog 115 [(iv j),(iv i)] [] (fun (h:Unit)=>((iv r),[])):=by
 unfold Z1m at a
 refine aQ Tryz.func115 R 11 R R fun C V=>?_
 refine cN V ?_
 refine bV ?_
 obtain ⟨l,b,a⟩:=bd a
 obtain ⟨m,g,a⟩:=bd a
 obtain ⟨q,e,a⟩:=bd a
 refine aV ?_
 refine lC 0 lQ R (Zo_ok b) R ?_
 rintro _
 refine lI R (lC 0 lQ R (Zo_ok g) R ?_)
 rintro _
 refine bT ?_
 refine lC 0 lQ R (Zo_ok e) R ?_
 rintro _
 refine bG ?_
 cases a
 exact qF () tI
theorem Z26_ok  {j:Int}{i:Int}{r:Int}(a:Z26 j i=some r) :
 FnOk Tryz.prog 139 [(iv j),(iv i)] [] (fun (h:Unit)=>((iv r),[])):=by
 unfold Z26 at a
 refine aQ Tryz.func139 R 11 R R fun C V=>?_
 refine cN V ?_
 refine bV ?_
 obtain ⟨l,b,a⟩:=bd a
 obtain ⟨m,g,a⟩:=bd a
 obtain ⟨q,e,a⟩:=bd a
 refine aV ?_
 refine lC 0 lQ R (Zo_ok b) R ?_
 rintro _
 refine lI R (lC 0 lQ R (Zo_ok g) R ?_)
 rintro _
 refine bT ?_
 refine lC 0 lQ R (Zo_ok e) R ?_
 rintro _
 refine bG ?_
 cases a
 exact qF () tI
theorem Z1f_ok  {j:Int}{i:Int}{r:Int}(a:Z1f j i=some r) :
 FnOk Tryz.prog 111 [(iv j),(iv i)] [] (fun (h:Unit)=>((iv r),[])):=by
 unfold Z1f at a
 refine aQ Tryz.func111 R 11 R R fun C V=>?_
 refine cN V ?_
 refine bV ?_
 obtain ⟨l,b,a⟩:=bd a
 obtain ⟨m,g,a⟩:=bd a
 obtain ⟨q,e,a⟩:=bd a
 refine aV ?_
 refine lC 0 lQ R (Zo_ok b) R ?_
 rintro _
 refine lI R (lC 0 lQ R (Zo_ok g) R ?_)
 rintro _
 refine bT ?_
 refine lC 0 lQ R (Zo_ok e) R ?_
 rintro _
 refine bG ?_
 cases a
 exact qF () tI
theorem Zq_S_ok {q:Int→Int→Option (Int)}(l:∀ {g:Int} {e:Int} {r:Int},q g e=some r→FnOk Tryz.prog 155 [(iv g),(iv e)] [] (fun (h:Unit)=>((iv r),[]))){g:Int}{e:Int}{r:Int}(b:Zq_S q g e=some r) :
 FnOk Tryz.prog 155 [(iv g),(iv e)] [] (fun (h:Unit)=>((iv r),[])):=by
 unfold Zq_S at b
 refine aQ Tryz.func155 R 22 R R fun C V=>?_
 refine cN V ?_
 refine iK ?_
 split at b
 refine cZ ?_
 cases b
 exact qF () tI
 refine bG ?_
 obtain ⟨D,m,b⟩:=bd b
 refine aP ?_
 refine lO (vz (iv (aH (e.tdiv (2:Int)))) (mo R R (by decide))) (lC 0 vG R (l m) R ?_)
 rintro _
 refine bG ?_
 obtain ⟨B,j,b⟩:=bd b
 refine aP ?_
 refine lC 0 oE R (Z1f_ok j) R ?_
 rintro _
 refine bG ?_
 refine bB (A:=(Int)×(Unit)) (fun a=>Zq_J1 a.1=some r) (fun a=>[(5,(iv a.1))]) (fun a=>V) ?_ ?_
 refine aP ?_
 refine lO (qc R R (by decide)) ?_
 refine aP ?_
 split at b
 refine bT ?_
 obtain ⟨s,i,b⟩:=bd b
 refine aP ?_
 refine lC 0 oE R (Z1f_ok i) R ?_
 rintro _
 refine aV ?_
 exact qI (s,()) b tI
 refine aV ?_
 exact qI (B,()) b tI
 rintro ⟨u,_⟩ σ1 b
 dsimp only [Zq_J1] at b
 refine dN ?_
 cases b
 exact qF () tI
theorem Zq_R_ok (n:Nat):∀ {b:Int} {a:Int} {r:Int},Zq_R n b a=some r→FnOk Tryz.prog 155 [(iv b),(iv a)] [] (fun (h:Unit)=>((iv r),[])):=by
 induction n with
 | zero=>intros; rename_i h; cases h
 | succ n ih=>intros; rename_i h; exact Zq_S_ok ih h
theorem Zq_ok {a:Int}{b:Int}{r:Int}(e:Zq a b=some r):FnOk Tryz.prog 155 [(iv a),(iv b)] [] (fun (h:Unit)=>((iv r),[])):=Zq_R_ok jv e
theorem Z25_ok  {g:Int}{r:Int}(a:Z25 g=some r) :
 FnOk Tryz.prog 141 [(iv g)] [] (fun (h:Unit)=>((iv r),[])):=by
 unfold Z25 at a
 refine aQ Tryz.func141 R 6 R R fun C V=>?_
 refine cN V ?_
 refine bV ?_
 obtain ⟨i,b,a⟩:=bd a
 obtain ⟨j,e,a⟩:=bd a
 refine aV ?_
 refine lC 0 lQ R (Zo_ok b) R ?_
 rintro _
 refine lC 0 vG R (Zq_ok e) R ?_
 rintro _
 refine bG ?_
 cases a
 exact qF () tI
theorem Z3o_ok  {i:Int}{g:Int}{r:Int}(a:Z3o i g=some r) :
 FnOk Tryz.prog 140 [(iv i),(iv g)] [] (fun (h:Unit)=>((iv r),[])):=by
 unfold Z3o at a
 refine aQ Tryz.func140 R 9 R R fun C V=>?_
 refine cN V ?_
 refine bV ?_
 obtain ⟨j,b,a⟩:=bd a
 obtain ⟨l,e,a⟩:=bd a
 refine aP ?_
 refine lC 0 vH R (Z25_ok b) R ?_
 rintro _
 refine lC 0 oE R (Z1f_ok e) R ?_
 rintro _
 refine bG ?_
 cases a
 exact qF () tI
theorem Z1n_ok  {j:Int}{m:Int}{u:Int}{r:Int}(b:Z1n j m u=some r) :
 FnOk Tryz.prog 103 [(iv j),(iv m),(iv u)] [] (fun (h:Unit)=>((iv r),[])):=by
 unfold Z1n at b
 refine aQ Tryz.func103 R 54 R R fun C V=>?_
 refine cN V ?_
 refine bV ?_
 obtain ⟨E,B,b⟩:=bd b
 obtain ⟨D,s,b⟩:=bd b
 refine aV ?_
 refine lC 0 oD R (Z1e_ok B) R ?_
 rintro _
 refine lI R (lC 0 oD R (Z1e_ok s) R ?_)
 rintro _
 refine cU ?_
 refine bB (A:=(Bool)×(Unit)) (fun a=>Z1n_J1 a.1=some r) (fun a=>[(8,(.bool a.1))]) (fun a=>V) ?_ ?_
 refine iK ?_
 split at b
 refine aV ?_
 obtain ⟨J,e,b⟩:=bd b
 refine aP ?_
 refine lC 0 qk R (Z1m_ok e) R ?_
 rintro _
 refine bV ?_
 cases b
 exact qF () tI
 refine dN ?_
 split at b
 refine aV ?_
 obtain ⟨I,l,b⟩:=bd b
 refine aP ?_
 refine lC 0 vF R (Z26_ok l) R ?_
 rintro _
 refine bV ?_
 cases b
 exact qF () tI
 refine dN ?_
 split at b
 refine aV ?_
 obtain ⟨F,g,b⟩:=bd b
 refine aP ?_
 refine lC 0 oE R (Z1f_ok g) R ?_
 rintro _
 refine bV ?_
 cases b
 exact qF () tI
 refine dN ?_
 split at b
 refine aV ?_
 obtain ⟨G,i,b⟩:=bd b
 refine aP ?_
 refine lC 0 yH R (Z3o_ok i) R ?_
 rintro _
 refine bV ?_
 cases b
 exact qF () tI
 refine dN ?_
 split at b
 refine dN ?_
 split at b
 refine iB ?_
 cases b
 exact qF () tI
 refine iK ?_
 cases b
 exact qF () tI
 refine dN ?_
 split at b
 refine dN ?_
 split at b
 refine iB ?_
 cases b
 exact qF () tI
 refine iK ?_
 cases b
 exact qF () tI
 refine dN ?_
 split at b
 refine bV ?_
 exact qI ((decide (E<D)),()) b tI
 refine dN ?_
 split at b
 refine cZ ?_
 exact qI ((m==u),()) b tI
 refine aP ?_
 exact qI (false,()) b tI
 rintro ⟨q,_⟩ σ1 b
 dsimp only [Z1n_J1] at b
 refine bV ?_
 split at b
 refine cZ ?_
 cases b
 exact qF () tI
 refine cX ?_
 cases b
 exact qF () tI
theorem Z13_ok  {E:Int}{O:Tensor}{U:Tensor}{r:Tensor}(g:Z13 E O U=some r) :
 FnOk Tryz.prog 78 [(iv E),(.agg [(.slice A3 N3 D3),(.slice A4 N4 D4)].toArray),(.agg [(.slice A6 N6 D6),(.slice A7 N7 D7)].toArray)] [aO kT3 (.slice A3 N3 D3) O.Dims,aO kT3 (.slice A4 N4 D4) O.Data,aO kT3 (.slice A6 N6 D6) U.Dims,aO kT3 (.slice A7 N7 D7) U.Data] (fun (h:HH×HH)=>((.agg [(s3 h.1),(s3 h.2)].toArray),[ow kT3 3 (s3 h.1) r.Dims,ow kT3 3 (s3 h.2) r.Data])):=by
 unfold Z13 at g
 refine aQ Tryz.func78 R 73 R R fun C V=>?_
 refine cL 0 aA ?_
 rintro rfl
 refine cL 1 aA ?_
 rintro rfl
 refine cL 2 aA ?_
 rintro rfl
 refine cL 3 aA ?_
 rintro rfl
 let W0:=RR kT3 A3 D3 O.Dims::RR kT3 A4 D4 O.Data::RR kT3 A6 D6 U.Dims::RR kT3 A7 D7 U.Data::V
 refine cN W0 ?_
 refine aV ?_
 refine eB R fun b8=>?_
 refine eB R fun b9=>?_
 refine bF R R dT (fun j=>(aC ?_))
 let W1:=aJ b9 [(sc A6 U.Dims D6),(sc A7 U.Data D7)] 58::aJ b8 [(sc A3 O.Dims D3),(sc A4 O.Data D4)] 58::W0
 refine aP ?_
 obtain ⟨Z,ab,g⟩:=bd g
 obtain ⟨a0,a3,g⟩:=bd g
 refine cQ [(0,(iv E)),(4,(pt b8 0)),(5,(pt b9 0)),(6,(pt j 0)),(26,(.bool ((((!Z)||(!a0))||(decide (E<1)))||(decide (E>8)))))] (aJ j [(.slice none 0 0),(.slice none 0 0)] 58::W1) ?_ ?_
 refine aV ?_
 refine lM _ (fun w s=>(((s.d 3 R).d 5 R).e 3 [1,0,2])) ?_
 refine lC 2 nG R (Zp_ok ab) R ?_
 rintro _
 refine aV ?_
 rcases bo (!Z) with Y | Y
 refine lb ?_
 exact qj tI
 refine bT ?_
 refine lM _ (fun w s=>(((s.d 5 R).d 7 R).e 3 [1,0,2])) ?_
 refine bY 2 R (b' Y) nG R (Zp_ok (bN a3 (cS Y))) R ?_
 rintro _
 refine aP ?_
 rcases bo ((!Z)||(!a0)) with a9 | a9
 refine cZ ?_
 exact qj tI
 refine bG ?_
 rcases bo (((!Z)||(!a0))||(decide (E<1))) with aa | aa
 refine bG ?_
 exact qj tI
 refine bG ?_
 exact qj tI
 rintro σ1
 refine bT ?_
 split at g
 refine aP ?_
 refine lO (vz (.agg [(.slice none 0 0),(.slice none 0 0)].toArray) (aW gO dT R R)) (aK 0 R R bS R R R R R R (aC (aI (bW (cE ?_)))))
 cases g
 exact qS ((none,0,0),(none,0,0)) (fun w s=>(((s.nilo kT3 3).nilo kT3 3).e 9 [1,0]))
 refine bG ?_
 obtain ⟨i,a7,g⟩:=bd g
 refine cA ?_
 refine lM _ (fun w s=>(((s.d 3 R).d 6 R).e 3 [1,0,2])) ?_
 refine lC 2 yG R (Z00_ok a7) R ?_
 rintro ⟨F,av,u⟩
 refine aL 0 aB ?_
 rintro rfl
 refine cA ?_
 refine cQ [(0,(iv E)),(4,(pt b8 0)),(5,(pt b9 0)),(6,(pt j 0)),(7,(sc F i u)),(46,(.bool ((decide ((i.length:Int)<(O.Dims.length:Int)))||(decide ((i.length:Int)<(U.Dims.length:Int))))))] (aJ j [(.slice none 0 0),(.slice none 0 0)] 58::OO kT3 3 F u i::W1) ?_ ?_
 refine cZ ?_
 rcases bo (decide ((i.length:Int)<(O.Dims.length:Int))) with a5 | a5
 refine cZ ?_
 exact qj (tE 2 [1,0])
 refine cZ ?_
 exact qj (tE 2 [1,0])
 rintro σ1
 refine bT ?_
 split at g
 refine aP ?_
 refine lO (vz (.agg [(.slice none 0 0),(.slice none 0 0)].toArray) (aW gO dT R R)) (aK 0 R R bS R R R R R R (aC (aI (bW (cE ?_)))))
 cases g
 exact qS ((none,0,0),(none,0,0)) (fun w s=>(((s.nilo kT3 3).nilo kT3 3).e 10 [1,0]))
 refine bG ?_
 obtain ⟨b,a1,g⟩:=bd g
 refine aV ?_
 refine lM _ (tE 2 [1,0]) ?_
 refine lC 1 nH R (FnOk.lends (A':=[OO kT3 3 F u i]) (A:=[RR kT3 F u i]) (B:=[]) (Z0i_ok a1) ⟨aU,trivial⟩ (fun _=>⟨(bI iW),(bI iW),trivial⟩)) R ?_
 rintro ⟨⟨q,an,D⟩,⟨l,ap,m⟩⟩
 refine aL 1 aB ?_
 rintro rfl
 refine aL 2 aB ?_
 rintro rfl
 refine bF R R dT (fun L=>(aK 0 R R bS R R R R R R (lN (aJ L [(sc q b.Dims D),(sc l b.Data m)] 58::_::_::_::_::W1) ?_)))
 refine aP ?_
 refine bB (A:=((List Int))×(Unit)) (fun a=>Z13_J1 b a.1=some r) (fun a=>[(6,(pt j 0)),(8,(pt L 0))]) (fun a=>aJ j [(.slice none 0 0),(.slice none 0 0)] 58::aJ L [(sc q b.Dims D),(sc l b.Data m)] 58::OO kT3 3 q D b.Dims::ow kT3 3 (.slice l b.Data.length m) a.1::W1) ?_ ?_
 refine bV ?_
 obtain ⟨e1,ah,ai⟩:=bd g
 refine bD (A:=Unit) ah (fun s a=>[(0,(iv E)),(4,(pt b8 0)),(5,(pt b9 0)),(6,(pt j 0)),(7,(sc F i u)),(8,(pt L 0)),(9,(iv s.2))]) (fun s a=>aJ j [(.slice none 0 0),(.slice none 0 0)] 58::OO kT3 3 F u i::aJ L [(sc q b.Dims D),(sc l b.Data m)] 58::OO kT3 3 q D b.Dims::ow kT3 3 (.slice l b.Data.length m) s.1::W1) () (aS R) (tE 5 [4,1,0,2,3]) ?_
 rintro ⟨ak,aj⟩ _ σ1 am g al
 dsimp only [Z13_L1] at g
 refine cU ?_
 split at g
 refine bV ?_
 obtain ⟨T,a4,g⟩:=bd g
 refine aP ?_
 refine lM _ (tE 5 [1,0,2,3,4]) ?_
 refine lC 1 lA R (FnOk.lends (A':=[OO kT3 3 F u i]) (A:=[RR kT3 F u i]) (B:=[]) (Zh_ok a4) ⟨aU,trivial⟩ (fun _=>⟨(bI iW),trivial⟩)) R ?_
 rintro ⟨J,ar,M⟩
 refine aL 1 aB ?_
 rintro rfl
 refine aP ?_
 obtain ⟨au,a6,g⟩:=bd g
 obtain ⟨aq,ac,g⟩:=bd g
 obtain ⟨ae,a8,g⟩:=bd g
 obtain ⟨G,g⟩:=gd g
 refine aZ 5 aB (show 0<b.Data.length by have:=G; omega) (fun ao o56 ha=>?_)
 subst ha
 refine dG 13 [5] bP fun ht hn=>?_
 refine sr 0 [5] ?_
 refine gT 7 [5] ?_
 refine d1 6 R (lM _ (fun w s=>(((s.d 8 R).d 10 R).e 8 [3,1,0,2,4,5,6,7])) ?_)
 refine lC 3 vJ R (FnOk.lends (A':=[OO kT3 3 J M T]) (A:=[RR kT3 J M T]) (B:=[RR kT3 A3 D3 O.Dims,RR kT3 A4 D4 O.Data]) (FnOk.perm (Z09_ok a6) (Pre':=[RR kT3 J M T,RR kT3 A3 D3 O.Dims,RR kT3 A4 D4 O.Data]) (fun _ _ _ s=>(s.e 3 [1,2,0]))) ⟨aU,trivial⟩ (fun _=>trivial)) R ?_
 rintro _
 refine aC (aG (tE 6 [1,0,2,3,4]) (d1 9 R (lM _ (fun w s=>(((s.d 10 R).d 12 R).e 8 [2,1,0,3,4,5,6,7])) ?_)))
 refine lC 3 vJ R (FnOk.lends (A':=[OO kT3 3 J M T]) (A:=[RR kT3 J M T]) (B:=[RR kT3 A6 D6 U.Dims,RR kT3 A7 D7 U.Data]) (FnOk.perm (Z09_ok ac) (Pre':=[RR kT3 J M T,RR kT3 A6 D6 U.Dims,RR kT3 A7 D7 U.Data]) (fun _ _ _ s=>(s.e 3 [1,2,0]))) ⟨aU,trivial⟩ (fun _=>trivial)) R ?_
 rintro _
 refine aC (aG (tE 6 [1,0,2,3,4]) (d1 10 R (lC 0 yI R (Z1n_ok a8) R ?_)))
 rintro _
 refine aC (aG (tE 6 [1,0,2,3,4]) (dR 11 R (eI bK cC R R G) (hS:=(tE 6 [1,0,2,3,4])) (d1 12 R (lM _ (fun w s=>(s.f 6 [5,1,0,5])) ?_))))
 refine dV (K:=kT3) (x':=ae) 0 aj R R cC R R G.1 G.2 ?_ ?_
 exact fun I h s=>(gD).put I h () ae s
 refine aC (aG (tE 6 [2,1,3,4,5]) (dD ?_))
 refine dN ?_
 cases g
 exact qA () (tE 6 [3,2,4,5,0])
 refine aP ?_
 cases g
 obtain rfl:=al _ R
 have g:=ai
 refine aV ?_
 exact qI (ak,()) g (tE 5 [0,2,3,4])
 rintro ⟨ag,_⟩ σ1 g
 dsimp only [Z13_J1] at g
 refine aP ?_
 refine aK 0 R R bS R R R R R R (lN (aJ j [(sc q b.Dims D),(sc l b.Data m)] 58::aJ L [(sc q b.Dims D),(sc l b.Data m)] 58::_::ow kT3 3 (.slice l b.Data.length m) ag::W1) ?_)
 refine aP ?_
 cases g
 exact qS ((q,b.Dims.length,D),(l,b.Data.length,m)) (tE 10 [2,3])
theorem Z2x_ok  {b:Int}{j:Int}{r:Int}(a:Z2x b j=some r) :
 FnOk Tryz.prog 105 [(iv b),(iv j)] [] (fun (h:Unit)=>((iv r),[])):=by
 unfold Z2x at a
 refine aQ Tryz.func105 R 20 R R fun C V=>?_
 refine cN V ?_
 refine yw ?_
 split at a
 refine aV ?_
 obtain ⟨m,i,a⟩:=bd a
 refine aV ?_
 refine lC 0 vF R (Z26_ok i) R ?_
 rintro _
 refine bV ?_
 cases a
 exact qF () tI
 refine dN ?_
 split at a
 refine aV ?_
 obtain ⟨q,g,a⟩:=bd a
 refine aV ?_
 refine lC 0 vH R (Z25_ok g) R ?_
 rintro _
 refine bV ?_
 cases a
 exact qF () tI
 refine bV ?_
 obtain ⟨l,e,a⟩:=bd a
 refine aV ?_
 refine lC 0 oD R (Z1e_ok e) R ?_
 rintro _
 refine aP ?_
 split at a
 refine cZ ?_
 cases a
 exact qF () tI
 refine cU ?_
 split at a
 refine cZ ?_
 cases a
 exact qF () tI
 refine cU ?_
 cases a
 exact qF () tI
theorem Z12_ok  {l:Int}{u:Tensor}{r:Tensor}(g:Z12 l u=some r) :
 FnOk Tryz.prog 79 [(iv l),(.agg [(.slice A3 N3 D3),(.slice A4 N4 D4)].toArray)] [aO kT3 (.slice A3 N3 D3) u.Dims,aO kT3 (.slice A4 N4 D4) u.Data] (fun (h:HH×HH)=>((.agg [(s3 h.1),(s3 h.2)].toArray),[ow kT3 3 (s3 h.1) r.Dims,ow kT3 3 (s3 h.2) r.Data])):=by
 unfold Z12 at g
 refine aQ Tryz.func79 R 41 R R fun C V=>?_
 refine cL 0 aA ?_
 rintro rfl
 refine cL 1 aA ?_
 rintro rfl
 let W0:=RR kT3 A3 D3 u.Dims::RR kT3 A4 D4 u.Data::V
 refine cN W0 ?_
 refine aV ?_
 refine eB R fun b5=>?_
 refine bF R R dT (fun B=>(aC ?_))
 let E:=aJ b5 [(sc A3 u.Dims D3),(sc A4 u.Data D4)] 58::W0
 refine aP ?_
 obtain ⟨r7,Y,g⟩:=bd g
 refine cQ [(0,(iv l)),(3,(pt b5 0)),(4,(pt B 0)),(17,(.bool (((!r7)||(decide (l<1)))||(decide (l>4)))))] (aJ B [(.slice none 0 0),(.slice none 0 0)] 58::E) ?_ ?_
 refine aV ?_
 refine lM _ (fun w s=>(((s.d 2 R).d 4 R).e 3 [1,0,2])) ?_
 refine lC 2 nG R (Zp_ok Y) R ?_
 rintro _
 refine aV ?_
 rcases bo (!r7) with a1 | a1
 refine cZ ?_
 exact qj tI
 refine bG ?_
 rcases bo ((!r7)||(decide (l<1))) with G | G
 refine bG ?_
 exact qj tI
 refine bG ?_
 exact qj tI
 rintro σ1
 refine bT ?_
 split at g
 refine aP ?_
 refine lO (vz (.agg [(.slice none 0 0),(.slice none 0 0)].toArray) (aW gO dT R R)) (aK 0 R R bS R R R R R R (aC (aI (bW (cE ?_)))))
 cases g
 exact qS ((none,0,0),(none,0,0)) (fun w s=>(((s.nilo kT3 3).nilo kT3 3).e 6 [1,0]))
 refine bG ?_
 obtain ⟨b,J,g⟩:=bd g
 refine aP ?_
 refine lM _ (fun w s=>(s.d 2 R)) ?_
 refine lC 1 nH R (Z0i_ok J) R ?_
 rintro ⟨⟨A14,N14,D14⟩,⟨i,a4,j⟩⟩
 refine aL 0 aB ?_
 rintro rfl
 refine aL 1 aB ?_
 rintro rfl
 refine bF R R dT (fun m=>(aK 0 R R bS R R R R R R (lN (aJ m [(sc A14 b.Dims D14),(sc i b.Data j)] 58::_::_::_::E) ?_)))
 refine aP ?_
 refine bB (A:=((List Int))×(Unit)) (fun a=>Z12_J1 b a.1=some r) (fun a=>[(4,(pt B 0)),(5,(pt m 0))]) (fun a=>aJ B [(.slice none 0 0),(.slice none 0 0)] 58::aJ m [(sc A14 b.Dims D14),(sc i b.Data j)] 58::OO kT3 3 A14 D14 b.Dims::ow kT3 3 (.slice i b.Data.length j) a.1::E) ?_ ?_
 refine bV ?_
 obtain ⟨e1,T,U⟩:=bd g
 refine bD (A:=Unit) T (fun s a=>[(0,(iv l)),(3,(pt b5 0)),(4,(pt B 0)),(5,(pt m 0)),(6,(iv s.2))]) (fun s a=>aJ B [(.slice none 0 0),(.slice none 0 0)] 58::aJ m [(sc A14 b.Dims D14),(sc i b.Data j)] 58::OO kT3 3 A14 D14 b.Dims::ow kT3 3 (.slice i b.Data.length j) s.1::E) () (aS R) (tE 4 [3,0,1,2]) ?_
 rintro ⟨a0,O⟩ _ σ1 a3 g a2
 dsimp only [Z12_L1] at g
 refine cU ?_
 split at g
 refine cA ?_
 obtain ⟨F,g⟩:=gd g
 obtain ⟨L,D,g⟩:=bd g
 obtain ⟨q,g⟩:=gd g
 refine aZ 6 aA (show 0<u.Data.length by have:=F; omega) (fun a5 o31 M=>?_)
 subst M
 refine aZ 3 aB (show 0<b.Data.length by have:=q; omega) (fun a6 o36 M=>?_)
 subst M
 refine dG 12 [3] bP fun ht hn=>?_
 refine vD 0 [3] ?_
 refine d1 9 R (lC 0 yJ R (Z2x_ok D) R ?_)
 rintro _
 refine aC (aG (sL [3]) ?_)
 refine oz 10 [3] ?_
 refine d1 11 R (lM _ (tE 4 [3,0,1,2]) ?_)
 refine dV (K:=kT3) (x':=L) 0 O R R cC R R q.1 q.2 ?_ ?_
 exact fun I h s=>(gD).put I h () L s
 refine aC (aG (sL [0]) (dD ?_))
 refine dN ?_
 cases g
 exact qA () (tE 4 [1,2,3,0])
 refine aP ?_
 cases g
 obtain rfl:=a2 _ R
 have g:=U
 refine aV ?_
 exact qI (a0,()) g tI
 rintro ⟨Z,_⟩ σ1 g
 dsimp only [Z12_J1] at g
 refine aP ?_
 refine aK 0 R R bS R R R R R R (lN (aJ B [(sc A14 b.Dims D14),(sc i b.Data j)] 58::aJ m [(sc A14 b.Dims D14),(sc i b.Data j)] 58::_::ow kT3 3 (.slice i b.Data.length j) Z::E) ?_)
 refine aP ?_
 cases g
 exact qS ((A14,b.Dims.length,D14),(i,b.Data.length,j)) (tE 7 [2,3])
theorem Z1g_ok  {t1:Tensor}{a:Int}{r:Bool}(b:Z1g t1 a=some r) :
 FnOk Tryz.prog 106 [(.agg [(.slice A2 N2 D2),(.slice A3 N3 D3)].toArray),(iv a)] [aO kT3 (.slice A2 N2 D2) t1.Dims,aO kT3 (.slice A3 N3 D3) t1.Data] (fun (h:Unit)=>((.bool r),[])):=by
 unfold Z1g at b
 refine aQ Tryz.func106 R 18 R R fun C V=>?_
 refine cL 0 aA ?_
 rintro rfl
 refine cL 1 aA ?_
 rintro rfl
 let q:=RR kT3 A2 D2 t1.Dims::RR kT3 A3 D3 t1.Data::V
 refine cN q ?_
 refine aV ?_
 refine eB R fun u=>?_
 refine aV ?_
 let l:=aJ u [(sc A2 t1.Dims D2),(sc A3 t1.Data D3)] 58::q
 refine qN l ?_
 refine aV ?_
 obtain ⟨m,j,b⟩:=bd b
 refine cQ [(4,(.bool ((m&&(decide (a≥0)))&&(decide (a<(t1.Dims.length:Int))))))] (l) ?_ ?_
 refine aV ?_
 refine lM _ (fun w s=>(((s.d 1 R).d 3 R).e 2 [1,0])) ?_
 refine lC 2 nG R (Zp_ok j) R ?_
 rintro _
 refine lN l ?_
 refine bT ?_
 rcases bo m with g | g
 refine bG ?_
 rcases bo (m&&(decide (a≥0))) with i | i
 refine cZ ?_
 exact qj tI
 refine cZ ?_
 exact qj tI
 refine iK ?_
 exact qj tI
 rintro σ1
 refine aV ?_
 cases b
 exact qF () (tE 3 [])
theorem Z0j_ok  {g:(List Int)}{i:Int}{e:Int}{r:(List Int)}(b:Z0j g i e=some r) :
 FnOk Tryz.prog 122 [(.slice A2 N2 D2),(iv i),(iv e)] [aO kT3 (.slice A2 N2 D2) g] (fun (h:HH)=>((s3 h),[ow kT3 3 (s3 h) r])):=by
 unfold Z0j at b
 refine aQ Tryz.func122 R 15 R R fun C V=>?_
 refine cL 0 aA ?_
 rintro rfl
 let u:=RR kT3 A2 D2 g::V
 refine cN u ?_
 refine bV ?_
 obtain ⟨l,j,b⟩:=bd b
 refine aV ?_
 refine lM _ (fun w s=>(s.d 0 R)) ?_
 refine lC 1 jW R (Zs_ok j) R ?_
 rintro ⟨A7,N7,D7⟩
 refine aL 0 aB ?_
 rintro rfl
 refine bG ?_
 obtain ⟨a,b⟩:=gd b
 refine bG ?_
 refine bC 0 aB (show 0<l.length by have:=a; omega) (fun m o10 q=>?_)
 subst q
 refine bT ?_
 refine dV (K:=kT3) (x':=e) 0 i R R cC R R a.1 a.2 ?_ ?_
 exact fun I h s=>(gD).put I h () e s
 refine cX ?_
 cases b
 exact qF ((ad m o10),l.length,D7) (tE 2 [0])
theorem Z0x_ok  {t1:Tensor}{g:Int}{J:(List Int)}{r:(List Int)}(b:Z0x t1 g J=some r) :
 FnOk Tryz.prog 107 [(.agg [(.slice A2 N2 D2),(.slice A3 N3 D3)].toArray),(iv g),(.slice A6 N6 D6)] [aO kT3 (.slice A2 N2 D2) t1.Dims,aO kT3 (.slice A3 N3 D3) t1.Data,aO kT3 (.slice A6 N6 D6) J] (fun (h:HH)=>((.slice h.1 h.2.1 h.2.2),[ow kT3 3 (.slice h.1 h.2.1 h.2.2) r])):=by
 unfold Z0x at b
 refine aQ Tryz.func107 R 29 R R fun C V=>?_
 refine cN (_::_::_::V) ?_
 refine cL 0 aA ?_
 rintro rfl
 refine cL 1 aA ?_
 rintro rfl
 refine cL 2 aA ?_
 rintro rfl
 let W0:List HP:=RR kT3 A2 D2 t1.Dims::RR kT3 A3 D3 t1.Data::RR kT3 A6 D6 J::V
 refine cN W0 ?_
 refine aM (aE (eB R (fun b7=>(lS R (aC ?_)))))
 let m:List HP:=aJ b7 [(sc A2 t1.Dims D2),(sc A3 t1.Data D3)] 58::W0
 refine qN m ?_
 refine aI (aM (aE (bM (K:=kT3) (xs:=([]:List Int)) (vs:=[]) 0 R R bK cC gF R R R R R R ?_ R (fun A8 D8=>?_))))
 exact fun I h s=>(gD).list [] I h s
 refine lN (OO kT3 3 A8 D8 ([]:List Int)::m) ?_
 refine lS R (aC (aI (aM (bB (A:=((List Int))×(HH)) (fun a=>Z0x_J1 a.1=some r) (fun a=>[(7,(.slice a.2.1 a.2.2.1 a.2.2.2))]) (fun a=>ow kT3 3 (.slice a.2.1 a.2.2.1 a.2.2.2) a.1::m) ?_ ?_))))
 refine aM (aE (lI R (aC (aI (dC ?_)))))
 obtain ⟨e1,a1,a2⟩:=bd b
 refine bD (A:=HH) a1 (fun s a=>[(1,(iv g)),(2,(sc A6 J D6)),(3,(pt b7 0)),(7,(.slice a.1 a.2.1 a.2.2)),(8,(iv s.2))]) (fun s a=>ow kT3 3 (.slice a.1 a.2.1 a.2.2) s.1::m) (A8,([]:List Int).length,D8) (aS R) (fun w s=>s) ?_
 rintro ⟨i,a6⟩ ⟨a0,a9,L⟩ σ1 T b a3
 replace b:Z0x_L1 t1 g J i a6=some T:=b
 unfold Z0x_L1 at b
 refine bH 0 aB (fun (hn:a9=i.length)=>?_)
 subst hn
 refine aM (aM ?_)
 obtain ⟨q,b⟩:=gd b
 refine aE (lI R (lO (fS 0 iX R) (lO (gB 1 cO R R R) (lI R (bC 2 aA (show 0<t1.Dims.length by have:=q; omega) (fun E o26 ha=>?_))))))
 subst ha
 refine lO (eI bK cC R R q) (lO (gP 2 fP aA R q) (lO (mW R R) (aC (aI ?_))))
 rcases cG b with ⟨l,b⟩|⟨l,b⟩
 refine bZ R l (cP (aI (aM (dC ?_))))
 obtain ⟨F,M,b⟩:=bd b
 obtain ⟨j,Z,b⟩:=bd b
 obtain ⟨U,b⟩:=gd b
 refine dG 10 [0] bP (fun ht hn=>(dR 0 R (vS R) (hS:=(sL [0])) (dR 1 R (vz (.agg [(sc (ad E o26) t1.Dims D2),(sc A3 t1.Data D3)].toArray) (dJ 0 fG bS R R R R)) (hS:=(sL [0])) (dR 2 R (vS R) (hS:=(sL [0])) (dR 3 R (vI R) (hS:=(sL [0])) (dR 4 R (vI R) (hS:=(sL [0])) (d1 5 R (lM (RR kT3 A6 D6 J::OO kT3 3 a0 L i::m) (fun w s=>(s.d 4 R)) ?_))))))))
 refine lC 1 kM R (Z0j_ok M) R ?_
 rintro ⟨u,aa,D⟩
 refine lN (ow kT3 3 (.slice u aa D) F::_::m) ?_
 refine aL 0 aB ?_
 rintro rfl
 refine aC (aG (sL [1,0]) (d1 6 R (lM (ow _ _ _ _::RR kT3 (ad E o26) D2 t1.Dims::RR kT3 A3 D3 t1.Data::ow _ _ _ _::m) (fun w s=>(((s.d 3 R).d 5 R).e 4 [2,1,0,3])) ?_)))
 refine lC 3 nb R (FnOk.lends (A':=[OO kT3 3 u D F]) (A:=[RR kT3 u D F]) (B:=[RR kT3 (ad E o26) D2 t1.Dims,RR kT3 A3 D3 t1.Data]) (FnOk.perm (Z16_ok Z) (Pre':=[RR kT3 u D F,RR kT3 (ad E o26) D2 t1.Dims,RR kT3 A3 D3 t1.Data]) (fun _ _ _ s=>(s.e 3 [1,2,0]))) ⟨aU,trivial⟩ (fun _=>trivial)) R ?_
 rintro _
 refine lN (_::_::m) ?_
 refine aC (aG (sL [1,0]) (d1 7 R (bM (K:=kT3) (xs:=([j]:List Int)) (vs:=[(iv j)]) 0 R R bK cC gF R R R R R R ?_ R (fun a4 a8=>?_))))
 exact fun I h s=>(gD).list [((),j)] I h s
 refine lN (OO kT3 3 a4 a8 ([j]:List Int)::_::_::m) ?_
 refine aC (aG (sL [2,1,0]) (d1 8 R (lM (ow _ _ _ _::ow _ _ _ _::ow _ _ _ _::m) (fun w s=>(s.e 3 [2,0,1])) ?_)))
 refine eD (K:=kT3) 17592186044416 R R bK cC kl (Zr.zk zT3 gF) R R R R R R dP U (fun O Y=>(lN (OO kT3 3 O Y (i++([j]:List Int))::_::m) ?_))
 refine aC (aG (sL [1,0]) (dR 9 R (vS R) (hS:=(sL [1,0])) (dD (dO (aI (aE (lI R (lO (kK R R) (lI R (aC ?_))))))))))
 obtain rfl:=so b
 exact qA (O,(i++([j]:List Int)).length,Y) (fun w s=>(s.e 2 [0]))
 refine bJ R l (gR (dZ ?_))
 obtain rfl:=so b
 obtain rfl:=a3 _ R
 have b:=a2
 refine dZ (fM ?_)
 exact qI (i,(a0,i.length,L)) b (fun w s=>s)
 rintro ⟨G,⟨a5,ab,a7⟩⟩ σ1 b
 replace b:Z0x_J1 G=some r:=b
 unfold Z0x_J1 at b
 refine bH 0 aB (fun (hn:ab=G.length)=>?_)
 subst hn
 refine aM (aE (lS R (lS R (aC (aI (bW ?_))))))
 obtain rfl:=so b
 exact qF (a5,G.length,a7) (fun w s=>(s.e 5 [0]))
theorem Za_ok  {t1:Tensor}{j:Int}{r:Tensor}(g:Za t1 j=some r) :
 FnOk Tryz.prog 80 [(.agg [(.slice A2 N2 D2),(.slice A3 N3 D3)].toArray),(iv j)] [aO kT3 (.slice A2 N2 D2) t1.Dims,aO kT3 (.slice A3 N3 D3) t1.Data] (fun (h:HH×HH)=>((.agg [(s3 h.1),(s3 h.2)].toArray),[ow kT3 3 (s3 h.1) r.Dims,ow kT3 3 (s3 h.2) r.Data])):=by
 unfold Za at g
 refine aQ Tryz.func80 R 75 R R fun C V=>?_
 refine cL 0 aA ?_
 rintro rfl
 refine cL 1 aA ?_
 rintro rfl
 let W0:=RR kT3 A2 D2 t1.Dims::RR kT3 A3 D3 t1.Data::V
 refine cN W0 ?_
 refine aV ?_
 refine eB R fun b5=>?_
 refine bF R R dT (fun U=>(aC ?_))
 let W1:=aJ b5 [(sc A2 t1.Dims D2),(sc A3 t1.Data D3)] 58::W0
 refine aP ?_
 obtain ⟨r7,ar,g⟩:=bd g
 refine aP ?_
 refine lM _ (fun w s=>(((s.d 2 R).d 4 R).e 3 [1,0,2])) ?_
 refine lC 2 oG R (Z1g_ok ar) R ?_
 rintro _
 refine aP ?_
 split at g
 refine aP ?_
 refine lO (vz (.agg [(.slice none 0 0),(.slice none 0 0)].toArray) (aW gO dT R R)) (aK 0 R R bS R R R R R R (aC (aI (bW (cE ?_)))))
 cases g
 exact qS ((none,0,0),(none,0,0)) (fun w s=>(((s.nilo kT3 3).nilo kT3 3).e 6 [1,0]))
 refine bG ?_
 obtain ⟨b,ac,g⟩:=bd g
 refine aP ?_
 refine lM _ (fun w s=>(s.d 2 R)) ?_
 refine lC 1 nH R (Z0i_ok ac) R ?_
 rintro ⟨⟨A12,N12,D12⟩,⟨l,b3,i⟩⟩
 refine aL 0 aB ?_
 rintro rfl
 refine aL 1 aB ?_
 rintro rfl
 refine bF R R dT (fun m=>(aK 0 R R bS R R R R R R (lN (aJ m [(sc A12 b.Dims D12),(sc l b.Data i)] 58::_::_::_::W1) ?_)))
 refine aP ?_
 refine bB (A:=((List Int))×(Unit)) (fun a=>Za_J9 b a.1=some r) (fun a=>[(4,(pt U 0)),(5,(pt m 0))]) (fun a=>aJ U [(.slice none 0 0),(.slice none 0 0)] 58::aJ m [(sc A12 b.Dims D12),(sc l b.Data i)] 58::OO kT3 3 A12 D12 b.Dims::ow kT3 3 (.slice l b.Data.length i) a.1::W1) ?_ ?_
 refine bV ?_
 obtain ⟨e1,al,an⟩:=bd g
 refine bD (A:=Unit) al (fun s a=>[(1,(iv j)),(2,(pt b5 0)),(4,(pt U 0)),(5,(pt m 0)),(6,(iv s.2))]) (fun s a=>aJ U [(.slice none 0 0),(.slice none 0 0)] 58::aJ m [(sc A12 b.Dims D12),(sc l b.Data i)] 58::OO kT3 3 A12 D12 b.Dims::ow kT3 3 (.slice l b.Data.length i) s.1::W1) () (aS R) (tE 4 [3,0,1,2]) ?_
 rintro ⟨M,J⟩ _ σ1 a3 g aq
 dsimp only [Za_L1] at g
 refine cU ?_
 split at g
 refine bG ?_
 refine bB (A:=((List Int))×(Unit)) (fun a=>Za_J8 J a.1=some a3) (fun a=>[(1,(iv j)),(2,(pt b5 0)),(4,(pt U 0)),(5,(pt m 0)),(6,(iv J))]) (fun a=>aJ U [(.slice none 0 0),(.slice none 0 0)] 58::aJ m [(sc A12 b.Dims D12),(sc l b.Data i)] 58::OO kT3 3 A12 D12 b.Dims::ow kT3 3 (.slice l b.Data.length i) a.1::W1) ?_ ?_
 refine aV ?_
 obtain ⟨E,ah,g⟩:=bd g
 refine bG ?_
 refine lM _ (fun w s=>(s.d 5 R)) ?_
 refine lC 1 lA R (Zh_ok ah) R ?_
 rintro ⟨L,b2,F⟩
 refine aL 0 aB ?_
 rintro rfl
 refine bG ?_
 obtain ⟨D,aj,g⟩:=bd g
 refine bG ?_
 refine lM _ (fun w s=>(((s.d 6 R).d 8 R).e 7 [2,1,0,3,4,5,6])) ?_
 refine lC 3 yK R (FnOk.lends (A':=[OO kT3 3 L F E]) (A:=[RR kT3 L F E]) (B:=[RR kT3 A2 D2 t1.Dims,RR kT3 A3 D3 t1.Data]) (FnOk.perm (Z0x_ok aj) (Pre':=[RR kT3 L F E,RR kT3 A2 D2 t1.Dims,RR kT3 A3 D3 t1.Data]) (fun _ _ _ s=>(s.e 3 [1,2,0]))) ⟨aU,trivial⟩ (fun _=>⟨(bI iW),trivial⟩)) R ?_
 rintro ⟨am,b1,ao⟩
 refine aL 1 aB ?_
 rintro rfl
 refine cX ?_
 refine bB (A:=(Bool)×(Unit)) (fun a=>Za_J7 b M J a.1=some a3) (fun a=>[(1,(iv j)),(2,(pt b5 0)),(4,(pt U 0)),(5,(pt m 0)),(6,(iv J)),(9,(.bool a.1))]) (fun a=>aJ U [(.slice none 0 0),(.slice none 0 0)] 58::aJ m [(sc A12 b.Dims D12),(sc l b.Data i)] 58::OO kT3 3 A12 D12 b.Dims::ow kT3 3 (.slice l b.Data.length i) M::W1) ?_ ?_
 refine bV ?_
 obtain ⟨e2,au,av⟩:=bd g
 refine bD (A:=HH) au (fun s a=>[(1,(iv j)),(2,(pt b5 0)),(4,(pt U 0)),(5,(pt m 0)),(6,(iv J)),(7,(sc L E F)),(8,(s3 a)),(9,(.bool s.1)),(10,(iv s.2))]) (fun s a=>aJ U [(.slice none 0 0),(.slice none 0 0)] 58::aJ m [(sc A12 b.Dims D12),(sc l b.Data i)] 58::OO kT3 3 A12 D12 b.Dims::ow kT3 3 (.slice l b.Data.length i) M::OO kT3 3 L F E::ow kT3 3 (s3 a) D::W1) (am,D.length,ao) (aS R) (fun w s=>(s.f 6 [2,4,0,2])) ?_
 rintro ⟨u,a2⟩ ⟨b0,a9,Y⟩ σ1 aa g ap
 dsimp only [Za_L2] at g
 refine bH 5 aB (fun (hn:a9=D.length)=>?_)
 subst hn
 refine cX ?_
 split at g
 refine bG ?_
 refine bB (A:=(Bool)×(HH)) (fun a=>Za_J6 a2 a.1=some aa) (fun a=>[(1,(iv j)),(2,(pt b5 0)),(4,(pt U 0)),(5,(pt m 0)),(6,(iv J)),(7,(sc L E F)),(8,(s3 a.2)),(9,(.bool a.1)),(10,(iv a2))]) (fun a=>aJ U [(.slice none 0 0),(.slice none 0 0)] 58::aJ m [(sc A12 b.Dims D12),(sc l b.Data i)] 58::OO kT3 3 A12 D12 b.Dims::ow kT3 3 (.slice l b.Data.length i) M::OO kT3 3 L F E::ow kT3 3 (s3 a.2) D::W1) ?_ ?_
 refine aV ?_
 obtain ⟨a5,g⟩:=gd g
 obtain ⟨a0,a7,g⟩:=bd g
 refine aP ?_
 refine bC 5 aB (show 0<D.length by have:=a5; omega) (fun Z o106 ha=>?_)
 subst ha
 refine aV ?_
 refine lC 0 oD R (Z1e_ok a7) R ?_
 rintro _
 refine bG ?_
 obtain ⟨a6,g⟩:=gd g
 obtain ⟨a1,a4,g⟩:=bd g
 refine bG ?_
 refine bC 8 aA (show 0<t1.Data.length by have:=a6; omega) (fun ay o111 ha=>?_)
 subst ha
 refine aV ?_
 refine lC 0 oD R (Z1e_ok a4) R ?_
 rintro _
 refine bG ?_
 obtain ⟨O,g⟩:=gd g
 refine cQ [(1,(iv j)),(2,(pt b5 0)),(4,(pt U 0)),(5,(pt m 0)),(6,(iv J)),(7,(sc L E F)),(8,(sc (ad Z o106) D Y)),(9,(.bool u)),(10,(iv a2)),(68,(.bool ((decide (a0>a1))||((a0==a1)&&(decide (a2<(ix E j)))))))] (aJ U [(.slice none 0 0),(.slice none 0 0)] 58::aJ m [(sc A12 b.Dims D12),(sc l b.Data i)] 58::OO kT3 3 A12 D12 b.Dims::ow kT3 3 (.slice l b.Data.length i) M::OO kT3 3 L F E::OO kT3 3 (ad Z o106) Y D::W1) ?_ ?_
 refine cA ?_
 rcases bo (decide (a0>a1)) with G | G
 refine lb ?_
 exact qj tI
 refine bG ?_
 rcases bo (a0==a1) with q | q
 refine aP ?_
 refine bC 4 aB (show 0<E.length by have:=(O G q); omega) (fun aw o116 ha=>?_)
 subst ha
 refine lW (eE q) (eI bK cC R R (O G q)) (lW (eE q) (gP 4 fP aB R (O G q)) ?_)
 refine bG ?_
 exact qj tI
 refine cX ?_
 exact qj tI
 rintro σ1
 refine bT ?_
 split at g
 refine cA ?_
 exact qI (false,((ad Z o106),D.length,Y)) g tI
 refine aP ?_
 exact qI (u,((ad Z o106),D.length,Y)) g tI
 rintro ⟨ab,⟨ae,a8,ak⟩⟩ σ1 g
 dsimp only [Za_J6] at g
 refine bH 5 aB (fun (hn:a8=D.length)=>?_)
 subst hn
 refine cA ?_
 cases g
 exact qA (ae,D.length,ak) tI
 refine aP ?_
 cases g
 obtain rfl:=ap _ R
 have g:=av
 refine aV ?_
 exact qI (u,()) g (fun w s=>(s.f 6 [0,4]))
 rintro ⟨ai,_⟩ σ1 g
 dsimp only [Za_J7] at g
 refine cA ?_
 split at g
 refine bT ?_
 obtain ⟨T,g⟩:=gd g
 refine bG ?_
 refine bC 3 aB (show 0<b.Data.length by have:=T; omega) (fun az o129 ha=>?_)
 subst ha
 refine bT ?_
 refine lM _ (tE 4 [3,0,1,2]) ?_
 refine dV (K:=kT3) (x':=(1:Int)) 0 J R R cC R R T.1 T.2 ?_ ?_
 exact fun I h s=>(gD).put I h () (1:Int) s
 refine aV ?_
 exact qI ((M.set J.toNat (1:Int)),()) g (tE 4 [1,2,3,0])
 refine aP ?_
 exact qI (M,()) g tI
 rintro ⟨ax,_⟩ σ1 g
 dsimp only [Za_J8] at g
 refine cA ?_
 cases g
 exact qA () tI
 refine aP ?_
 cases g
 obtain rfl:=aq _ R
 have g:=an
 refine aV ?_
 exact qI (M,()) g tI
 rintro ⟨ag,_⟩ σ1 g
 dsimp only [Za_J9] at g
 refine aP ?_
 refine aK 0 R R bS R R R R R R (lN (aJ U [(sc A12 b.Dims D12),(sc l b.Data i)] 58::aJ m [(sc A12 b.Dims D12),(sc l b.Data i)] 58::_::ow kT3 3 (.slice l b.Data.length i) ag::W1) ?_)
 refine aP ?_
 cases g
 exact qS ((A12,b.Dims.length,D12),(l,b.Data.length,i)) (tE 7 [2,3])
theorem Z0w_ok  {p1:aN}{r:Bool}(b:Z0w p1=some r) :
 FnOk Tryz.prog 142 [(aD p1)] [] (fun (h:Unit)=>((.bool r),[])):=by
 unfold Z0w at b
 refine aQ Tryz.func142 R 23 R R fun C V=>?_
 refine cN V ?_
 refine bV ?_
 refine bB (A:=(Unit)×(Unit)) (fun a=>Z0w_J1 p1=some r) (fun a=>[(0,(aD p1))]) (fun a=>V) ?_ ?_
 refine bV ?_
 obtain ⟨u,m,j⟩:=bd b
 refine bD (A:=Unit) m (fun s a=>[(0,(aD p1)),(3,(iv s))]) (fun s a=>V) () (aS R) tI ?_
 rintro i _ σ1 q b l
 dsimp only [Z0w_L1] at b
 refine bG ?_
 refine lO (vp (aD p1) R) (lO (vz (il p1) (dM fJ R)) ?_)
 refine aP ?_
 split at b
 refine bV ?_
 obtain ⟨g,b⟩:=gd b
 refine cQ [(0,(aD p1)),(3,(iv i)),(19,(.bool ((decide ((bt p1 i)<97))||(decide ((bt p1 i)>122)))))] (V) ?_ ?_
 refine aE (lO (vp (aD p1) R) (lI R (lO (vz (.int .u8 (bt p1 i)) (cI fJ R R g.1 g.2)) (lO (vp (.bool (decide ((bt p1 i)<97))) R) (lB R ?_)))))
 rcases bo (decide ((bt p1 i)<97)) with e | e
 refine bV ?_
 exact qj tI
 refine lW (b' e) (vp (aD p1) R) (lW (b' e) (vI R) (lW (b' e) (vz (.int .u8 (bt p1 i)) (cI fJ R R g.1 g.2)) (lW (b' e) (vp (.bool (decide ((bt p1 i)>122))) R) ?_)))
 refine aV ?_
 exact qj tI
 rintro σ1
 refine bT ?_
 split at b
 refine cX ?_
 cases b
 obtain rfl:=l _ R
 have b:=j
 refine aP ?_
 cases b
 exact qF () tI
 refine cX ?_
 cases b
 exact qA () tI
 refine aP ?_
 cases b
 obtain rfl:=l _ R
 have b:=j
 refine aV ?_
 exact qI ((),()) b tI
 rintro ⟨_,_⟩ σ1 b
 dsimp only [Z0w_J1] at b
 refine aV ?_
 refine lO (vp (aD p1) R) (lO (vz (il p1) (dM fJ R)) ?_)
 refine cA ?_
 cases b
 exact qF () tI
theorem Z0v_ok  {p1:aN}{j:Int}{r:Bool}(b:Z0v p1 j=some r) :
 FnOk Tryz.prog 143 [(aD p1),(.int .u8 j)] [] (fun (h:Unit)=>((.bool r),[])):=by
 unfold Z0v at b
 refine aQ Tryz.func143 R 17 R R fun C V=>?_
 refine cN V ?_
 refine bV ?_
 refine bB (A:=(Unit)×(Unit)) (fun a=>Z0v_J1=some r) (fun a=>[]) (fun a=>V) ?_ ?_
 refine bV ?_
 obtain ⟨u,l,g⟩:=bd b
 refine bD (A:=Unit) l (fun s a=>[(0,(aD p1)),(1,(.int .u8 j)),(5,(iv s))]) (fun s a=>V) () (aS R) tI ?_
 rintro m _ σ1 q b i
 dsimp only [Z0v_L1] at b
 refine bG ?_
 refine lO (vp (aD p1) R) (lO (vz (il p1) (dM fJ R)) ?_)
 refine aP ?_
 split at b
 refine bV ?_
 obtain ⟨e,b⟩:=gd b
 refine aE (lO (vp (aD p1) R) (lI R (lO (vz (.int .u8 (bt p1 m)) (cI fJ R R e.1 e.2)) (lI R (lO (vp (.bool ((bt p1 m)==j)) R) ?_)))))
 refine aV ?_
 split at b
 refine cX ?_
 cases b
 obtain rfl:=i _ R
 have b:=g
 refine aP ?_
 cases b
 exact qF () tI
 refine cX ?_
 cases b
 exact qA () tI
 refine aP ?_
 cases b
 obtain rfl:=i _ R
 have b:=g
 refine aV ?_
 exact cR ((),()) b trivial tI
 rintro ⟨_,_⟩ σ1 b
 dsimp only [Z0v_J1] at b
 refine bV ?_
 cases b
 exact qF () tI
theorem Z0_ok  {b:aN}{r:(List aN)×aN×Bool}(g:Z0 b=some r) :
 FnOk Tryz.prog 109 [(aD b)] [] (fun (h:HH)=>((.tuple [(s3 h),(aD r.2.1),(.bool r.2.2)].toArray),[ow dQ 9 (s3 h) r.1])):=by
 unfold Z0 at g
 refine aQ Tryz.func109 R 124 R R fun C V=>?_
 refine cN V ?_
 refine aP ?_
 refine lO (vp (aD ([]:aN)) R) ?_
 refine cA ?_
 refine bM (K:=dQ) (xs:=([]:List aN)) (vs:=[]) 0 R R lD rh yL R R R R R R ?_ R (fun A2 D2=>?_)
 exact fun I h s=>(y7).list [] I h s
 refine cX ?_
 refine bB (A:=(Int)×(Unit)) (fun a=>Z0_J1 b a.1=some r) (fun a=>[(0,(aD b)),(5,(sc A2 ([]:List aN) D2)),(6,(iv a.1))]) (fun a=>OO dQ 9 A2 D2 ([]:List aN)::V) ?_ ?_
 refine bT ?_
 obtain ⟨e1,av,ax⟩:=bd g
 refine bD (A:=Unit) av (fun s a=>[(0,(aD b)),(5,(sc A2 ([]:List aN) D2)),(6,(iv s))]) (fun s a=>OO dQ 9 A2 D2 ([]:List aN)::V) () (aS R) tI ?_
 rintro T _ σ1 bf g b4
 dsimp only [Z0_L1] at g
 refine aV ?_
 obtain ⟨aa,g⟩:=gd g
 refine cQ [(0,(aD b)),(5,(sc A2 ([]:List aN) D2)),(6,(iv T)),(28,(.bool ((decide ((aH (T+1))<(b.length:Int)))&&(!((sub b T (aH (T+2)))==str0)))))] (OO dQ 9 A2 D2 ([]:List aN)::V) ?_ ?_
 refine aP ?_
 refine lO (vp (aD b) R) (lO (vz (il b) (dM fJ R)) ?_)
 refine aV ?_
 rcases bo (decide ((aH (T+1))<(b.length:Int))) with M | M
 refine lW (eE M) (vp (aD b) R) ?_
 refine aP ?_
 refine lW (eE M) (vz (aD (sub b T (aH (T+2)))) (hO T (aH (T+2)) fJ R R R (aa M).1 (aa M).2.1 (aa M).2.2)) (lW (eE M) (vz (.bool (!((sub b T (aH (T+2)))==str0))) (jr R R R)) ?_)
 refine aV ?_
 exact qj tI
 refine cZ ?_
 exact qj tI
 rintro σ1
 refine bT ?_
 split at g
 refine cU ?_
 cases g
 exact qA () tI
 refine aP ?_
 cases g
 obtain rfl:=b4 _ R
 have g:=ax
 refine aV ?_
 exact qI (T,()) g tI
 rintro ⟨j,_⟩ σ1 g
 dsimp only [Z0_J1] at g
 refine cA ?_
 refine lO (vp (aD b) R) (lO (vz (il b) (dM fJ R)) ?_)
 refine aP ?_
 split at g
 refine cA ?_
 refine lO (vp (aD ([]:aN)) R) ?_
 refine cA ?_
 cases g
 exact iu (A2,([]:List aN).length,D2) tI
 refine cA ?_
 refine bM (K:=dQ) (xs:=([]:List aN)) (vs:=[]) 0 R R lD rh yL R R R R R R ?_ R (fun b9 aw=>?_)
 exact fun I h s=>(y7).list [] I h s
 refine cX ?_
 refine bB (A:=((List aN))×(HH)) (fun a=>Z0_J4 b j a.1=some r) (fun a=>[(0,(aD b)),(5,(sc A2 ([]:List aN) D2)),(6,(iv j)),(7,(s3 a.2))]) (fun a=>OO dQ 9 A2 D2 ([]:List aN)::ow dQ 9 (s3 a.2) a.1::V) ?_ ?_
 refine bV ?_
 obtain ⟨e2,b8,ba⟩:=bd g
 refine bD (A:=HH) b8 (fun s a=>[(0,(aD b)),(5,(sc A2 ([]:List aN) D2)),(6,(iv j)),(7,(s3 a)),(8,(iv s.2.1)),(9,(iv s.2.2))]) (fun s a=>OO dQ 9 A2 D2 ([]:List aN)::ow dQ 9 (s3 a) s.1::V) (b9,([]:List aN).length,aw) (aS R) (tE 2 [1,0]) ?_
 rintro ⟨i,E,B⟩ ⟨a5,b5,a4⟩ σ1 ag g b2
 dsimp only [Z0_L2] at g
 refine bH 1 aB (fun (hn:b5=i.length)=>?_)
 subst hn
 refine cZ ?_
 split at g
 refine bG ?_
 refine bB (A:=((List aN)×Int)×(HH)) (fun a=>Z0_J3 B a.1.1 a.1.2=some ag) (fun a=>[(0,(aD b)),(5,(sc A2 ([]:List aN) D2)),(6,(iv j)),(7,(s3 a.2)),(8,(iv a.1.2)),(9,(iv B))]) (fun a=>OO dQ 9 A2 D2 ([]:List aN)::ow dQ 9 (s3 a.2) a.1.1::V) ?_ ?_
 refine aV ?_
 obtain ⟨a6,g⟩:=gd g
 refine cQ [(0,(aD b)),(5,(sc A2 ([]:List aN) D2)),(6,(iv j)),(7,(sc a5 i a4)),(8,(iv E)),(9,(iv B)),(51,(.bool ((B==j)||((bt b B)==44))))] (OO dQ 9 A2 D2 ([]:List aN)::OO dQ 9 a5 a4 i::V) ?_ ?_
 refine cA ?_
 rcases bo (B==j) with D | D
 refine bV ?_
 exact qj tI
 refine lW (b' D) (vp (aD b) R) (lW (b' D) (vI R) (lW (b' D) (vz (.int .u8 (bt b B)) (cI fJ R R (a6 D).1 (a6 D).2)) (lW (b' D) (vp (.bool ((bt b B)==44)) R) ?_)))
 refine aV ?_
 exact qj tI
 rintro σ1
 refine bT ?_
 split at g
 refine aV ?_
 obtain ⟨Z,g⟩:=gd g
 obtain ⟨aj,g⟩:=gd g
 refine aV ?_
 refine lO (vp (aD b) R) (lI R (lI R (lO (vz (aD (sub b E B)) (hO E B fJ R R R Z.1 Z.2.1 Z.2.2)) (bM (K:=dQ) (xs:=([(sub b E B)]:List aN)) (vs:=[(aD (sub b E B))]) 0 R R lD rh yL R R R R R R ?_ R (fun bh bl=>?_)))))
 exact fun I h s=>(y7).list [((),(sub b E B))] I h s
 refine lM _ (tE 3 [2,0,1]) ?_
 refine eD (K:=dQ) 8796093022208 R R lD rh BT (Zr.zk zT9 yL) R R R R R R dP aj (fun ai ae=>(lN (OO dQ 9 ai ae (i++([(sub b E B)]:List aN))::_::V) ?_))
 refine cX ?_
 exact qI (((i++([(sub b E B)]:List aN)),(aH (B+1))),(ai,(i++([(sub b E B)]:List aN)).length,ae)) g (tE 2 [1,0])
 refine aP ?_
 exact qI ((i,E),(a5,i.length,a4)) g tI
 rintro ⟨⟨F,bi⟩,⟨b7,b6,au⟩⟩ σ1 g
 dsimp only [Z0_J3] at g
 refine bH 1 aB (fun (hn:b6=F.length)=>?_)
 subst hn
 refine cA ?_
 cases g
 exact qA (b7,F.length,au) tI
 refine aP ?_
 cases g
 obtain rfl:=b2 _ R
 have g:=ba
 refine aV ?_
 exact qI (i,(a5,i.length,a4)) g tI
 rintro ⟨e,⟨q,ar,u⟩⟩ σ1 g
 dsimp only [Z0_J4] at g
 refine bH 1 aB (fun (hn:ar=e.length)=>?_)
 subst hn
 refine bT ?_
 obtain ⟨U,g⟩:=gd g
 refine aE (lO (vp (aD b) R) (lI R (lO (kK R R) (lO (vz (aD (sub b (aH (j+2)) (b.length:Int))) (hO (aH (j+2)) (b.length:Int) fJ R R R U.1 U.2.1 U.2.2)) (lO (vp (aD (sub b (aH (j+2)) (b.length:Int))) R) ?_)))))
 refine bG ?_
 obtain ⟨b1,ao,g⟩:=bd g
 refine cQ [(5,(sc A2 ([]:List aN) D2)),(7,(sc q e u)),(10,(aD (sub b (aH (j+2)) (b.length:Int)))),(72,(.bool ((decide ((e.length:Int)>6))||(!b1))))] (OO dQ 9 A2 D2 ([]:List aN)::OO dQ 9 q u e::V) ?_ ?_
 refine cA ?_
 rcases bo (decide ((e.length:Int)>6)) with O | O
 refine cA ?_
 exact qj tI
 refine lW (b' O) (vp (aD (sub b (aH (j+2)) (b.length:Int))) R) (bY 0 R (b' O) vK R (Z0w_ok (bN ao (cS O))) R ?_)
 rintro _
 refine aP ?_
 exact qj tI
 rintro σ1
 refine bT ?_
 split at g
 refine cA ?_
 refine lO (vp (aD ([]:aN)) R) ?_
 refine cA ?_
 cases g
 exact iu (A2,([]:List aN).length,D2) (tE 2 [0])
 refine bG ?_
 refine bB (A:=(Unit)×(Unit)) (fun a=>Z0_J5 b j e=some r) (fun a=>[(5,(sc A2 ([]:List aN) D2)),(7,(sc q e u)),(10,(aD (sub b (aH (j+2)) (b.length:Int))))]) (fun a=>OO dQ 9 A2 D2 ([]:List aN)::OO dQ 9 q u e::V) ?_ ?_
 refine bV ?_
 obtain ⟨e3,ay,aq⟩:=bd g
 refine bD (A:=Unit) ay (fun s a=>[(5,(sc A2 ([]:List aN) D2)),(7,(sc q e u)),(10,(aD (sub b (aH (j+2)) (b.length:Int)))),(11,(iv s))]) (fun s a=>OO dQ 9 A2 D2 ([]:List aN)::OO dQ 9 q u e::V) () (aS R) tI ?_
 rintro ac _ σ1 bc g an
 dsimp only [Z0_L3] at g
 refine cX ?_
 split at g
 refine bV ?_
 obtain ⟨Y,g⟩:=gd g
 obtain ⟨bj,ah,g⟩:=bd g
 refine aP ?_
 refine bC 1 aB (show 0<e.length by have:=Y; omega) (fun bk o62 ha=>?_)
 subst ha
 refine bT ?_
 refine lO (vz (aD (ix e ac)) (hW (K:=dQ) (fo:=0) (pr:=fun x=>(aD x)) 1 ac re (dT9.leaf fun _ _=>R) aB R Y.1 Y.2)) (lC 0 vK R (Z0w_ok ah) R ?_)
 rintro _
 refine aP ?_
 split at g
 refine cA ?_
 refine lO (vp (aD ([]:aN)) R) ?_
 refine bV ?_
 cases g
 obtain rfl:=an _ R
 have g:=aq
 refine aP ?_
 cases g
 exact iu (A2,([]:List aN).length,D2) (tE 2 [0])
 refine cX ?_
 cases g
 exact qA () tI
 refine aP ?_
 cases g
 obtain rfl:=an _ R
 have g:=aq
 refine aV ?_
 exact qI ((),()) g tI
 rintro ⟨_,_⟩ σ1 g
 dsimp only [Z0_J5] at g
 refine aM (bB (A:=(Unit)×(Unit)) (fun a=>Z0_J8 b j e=some r) (fun a=>[(7,(sc q e u)),(10,(aD (sub b (aH (j+2)) (b.length:Int))))]) (fun a=>OO dQ 9 q u e::V) ?_ ?_)
 refine bV ?_
 obtain ⟨e4,b3,ap⟩:=bd g
 refine bD (A:=Unit) b3 (fun s a=>[(5,(sc A2 ([]:List aN) D2)),(7,(sc q e u)),(10,(aD (sub b (aH (j+2)) (b.length:Int)))),(12,(iv s))]) (fun s a=>OO dQ 9 A2 D2 ([]:List aN)::OO dQ 9 q u e::V) () (aS R) tI ?_
 rintro J _ σ1 al g ak
 dsimp only [Z0_L4] at g
 refine bG ?_
 refine lO (vp (aD (sub b (aH (j+2)) (b.length:Int))) R) (lO (vz (il (sub b (aH (j+2)) (b.length:Int))) (dM fJ R)) ?_)
 refine aP ?_
 split at g
 refine iB ?_
 refine bB (A:=(Bool)×(Unit)) (fun a=>Z0_J7 b j J a.1=some al) (fun a=>[(5,(sc A2 ([]:List aN) D2)),(7,(sc q e u)),(10,(aD (sub b (aH (j+2)) (b.length:Int)))),(12,(iv J)),(13,(.bool a.1))]) (fun a=>OO dQ 9 A2 D2 ([]:List aN)::OO dQ 9 q u e::V) ?_ ?_
 refine bV ?_
 obtain ⟨e5,bb,b0⟩:=bd g
 refine bD (A:=Unit) bb (fun s a=>[(5,(sc A2 ([]:List aN) D2)),(7,(sc q e u)),(10,(aD (sub b (aH (j+2)) (b.length:Int)))),(12,(iv J)),(13,(.bool s.1)),(14,(iv s.2))]) (fun s a=>OO dQ 9 A2 D2 ([]:List aN)::OO dQ 9 q u e::V) () (aS R) tI ?_
 rintro ⟨a2,a3⟩ _ σ1 bg g az
 dsimp only [Z0_L5] at g
 refine cX ?_
 split at g
 refine cA ?_
 obtain ⟨G,g⟩:=gd g
 obtain ⟨a1,g⟩:=gd g
 obtain ⟨ab,a8,g⟩:=bd g
 refine cQ [(5,(sc A2 ([]:List aN) D2)),(7,(sc q e u)),(10,(aD (sub b (aH (j+2)) (b.length:Int)))),(12,(iv J)),(13,(.bool (a2||ab))),(14,(iv a3))] (OO dQ 9 A2 D2 ([]:List aN)::OO dQ 9 q u e::V) ?_ ?_
 rcases bo a2 with m | m
 refine dG 12 [] bP fun ht hn=>?_
 refine uu 0 [] ?_
 refine dD ?_
 exact qj tI
 refine aZ 1 aB (show 0<e.length by have:=(G m); omega) (fun be o108 ha=>?_)
 subst ha
 refine dG 12 [] bP fun ht hn=>?_
 refine oA 0 [] ?_
 refine dW 4 R (b' m) (eI lD rh R R (G m)) (dW 5 R (b' m) (vz (aD (ix e a3)) (hW (K:=dQ) (fo:=0) (pr:=fun x=>(aD x)) 1 a3 re (dT9.leaf fun _ _=>R) aB R (G m).1 (G m).2)) (dW 6 R (b' m) (vp (aD (sub b (aH (j+2)) (b.length:Int))) R) (dW 7 R (b' m) (vI R) (dW 8 R (b' m) (vz (.int .u8 (bt (sub b (aH (j+2)) (b.length:Int)) J)) (cI fJ R R (a1 m).1 (a1 m).2)) (d1 9 R (bY 0 R (b' m) vL R (Z0v_ok (bN a8 (cS m))) R ?_))))))
 rintro _
 refine aC (aG (sL []) ?_)
 refine gT 10 [] ?_
 refine dD ?_
 exact qj tI
 rintro σ1
 refine dN ?_
 cases g
 exact qA () tI
 refine aP ?_
 cases g
 obtain rfl:=az _ R
 have g:=b0
 refine aV ?_
 exact qI (a2,()) g tI
 rintro ⟨a7,_⟩ σ1 g
 dsimp only [Z0_J7] at g
 refine bT ?_
 obtain ⟨L,g⟩:=gd g
 obtain ⟨a0,g⟩:=gd g
 obtain ⟨am,a9,g⟩:=bd g
 refine cQ [(5,(sc A2 ([]:List aN) D2)),(7,(sc q e u)),(10,(aD (sub b (aH (j+2)) (b.length:Int)))),(12,(iv J)),(120,(.bool ((!a7)||am)))] (OO dQ 9 A2 D2 ([]:List aN)::OO dQ 9 q u e::V) ?_ ?_
 rcases bo (!a7) with l | l
 refine dG 11 [] bP fun ht hn=>?_
 refine pj 0 [] ?_
 refine dD ?_
 exact qj tI
 refine dG 11 [] bP fun ht hn=>?_
 refine iw 0 [] ?_
 refine dW 3 R (b' l) (vp (aD (sub b (aH (j+2)) (b.length:Int))) R) (dW 4 R (b' l) (vI R) (dW 5 R (b' l) (vz (aD (sub (sub b (aH (j+2)) (b.length:Int)) (0:Int) J)) (hO (0:Int) J fJ R R R (L l).1 (L l).2.1 (L l).2.2)) (dW 6 R (b' l) (vp (aD (sub b (aH (j+2)) (b.length:Int))) R) (dW 7 R (b' l) (vI R) (dW 8 R (b' l) (vz (.int .u8 (bt (sub b (aH (j+2)) (b.length:Int)) J)) (cI fJ R R (a0 l).1 (a0 l).2)) (d1 9 R (bY 0 R (b' l) vL R (Z0v_ok (bN a9 (cS l))) R ?_)))))))
 rintro _
 refine aC (aG (sL []) (dR 10 R (fT R l R) (dD ?_)))
 exact qj tI
 rintro σ1
 refine bT ?_
 split at g
 refine cA ?_
 refine lO (vp (aD ([]:aN)) R) ?_
 refine bV ?_
 cases g
 obtain rfl:=ak _ R
 have g:=ap
 refine aP ?_
 cases g
 exact iu (A2,([]:List aN).length,D2) (tE 2 [0])
 refine cX ?_
 cases g
 exact qA () tI
 refine aP ?_
 cases g
 obtain rfl:=ak _ R
 have g:=ap
 refine aV ?_
 exact qI ((),()) g (tE 2 [1])
 rintro ⟨_,_⟩ σ1 g
 dsimp only [Z0_J8] at g
 refine aP ?_
 refine lO (vp (aD (sub b (aH (j+2)) (b.length:Int))) R) (lS R (lO (vp (aD (sub b (aH (j+2)) (b.length:Int))) R) ?_))
 refine bG ?_
 cases g
 exact iu (q,e.length,u) tI
theorem Z2_ok  {b:(List aN)}{p3:aN}{j:(List (List Int))}{r:aN×(List Int)×Bool}(B:Z2 b p3 j=some r) :
 FnOk Tryz.prog 110 [(.slice A2 N2 D2),(aD p3),(.slice A5 N5 D5)] [aO dQ (.slice A2 N2 D2) b,aO bL (.slice A5 N5 D5) j] (fun (h:HH)=>((.tuple [(aD r.1),(s3 h),(.bool r.2.2)].toArray),[ow kT3 3 (s3 h) r.2.1])):=by
 unfold Z2 at B
 refine aQ Tryz.func110 R 129 R R fun C V=>?_
 refine cL 0 aA ?_
 rintro rfl
 refine cL 1 aA ?_
 rintro rfl
 let W0:=RR dQ A2 D2 b::RR bL A5 D5 j::V
 refine cN W0 ?_
 refine aV ?_
 refine lO (vp (aD ([]:aN)) R) ?_
 refine bV ?_
 refine lO (vp (aD p3) R) (lO (vp (aD p3) R) ?_)
 refine aP ?_
 obtain ⟨ar,B⟩:=gd B
 refine aE (lO (vp (aD p3) R) (lO (vz (il p3) (dM fJ R)) (fD (K:=kT3) (m:=(p3.length:Int)) (z:=(0:Int)) R R bK cC kl (Zr.zk zT3 gF) (by decide) R R ar.1 ar.2.1 ar.2.2 (fun A7 D7=>(lS R (aC (aI (aM (bB (A:=(aN×(List Int))×(HH)) (fun a=>Z2_J11 a.1.1 a.1.2=some r) (fun a=>[(9,(aD a.1.1)),(10,(s3 a.2))]) (fun a=>ow kT3 3 (s3 a.2) a.1.2::W0) ?_ ?_)))))))))
 refine bV ?_
 obtain ⟨e1,bl,ao⟩:=bd B
 refine bD (A:=HH×HH×HH) bl (fun s a=>[(0,(s3 a.1)),(2,(s3 a.2.1)),(9,(aD s.1)),(10,(s3 a.2.2)),(11,(iv s.2.2))]) (fun s a=>aO dQ (s3 a.1) b::aO bL (s3 a.2.1) j::ow kT3 3 (s3 a.2.2) s.2.1::W0) ((A2,b.length,D2),(A5,j.length,D5),(A7,(List.replicate (p3.length:Int).toNat (0:Int)).length,D7)) (aS R) (fun w s=>(((s.d 1 R).d 3 R).e 3 [1,0,2])) ?_
 rintro ⟨a7,F,l⟩ ⟨⟨c4,bk,L⟩,⟨bu,bi,M⟩,⟨ae,bh,ai⟩⟩ σ1 ba B ap
 dsimp only [Z2_L1] at B
 refine bH 0 aA (fun (hn:bk=b.length)=>?_)
 subst hn
 refine bH 1 aA (fun (hn:bi=j.length)=>?_)
 subst hn
 refine bH 2 aB (fun (hn:bh=F.length)=>?_)
 subst hn
 refine cX ?_
 split at B
 refine bG ?_
 refine bB (A:=(aN×(List Int))×(HH×HH×HH)) (fun a=>Z2_J10 l a.1.1 a.1.2=some ba) (fun a=>[(0,(s3 a.2.1)),(2,(s3 a.2.2.1)),(9,(aD a.1.1)),(10,(s3 a.2.2.2)),(11,(iv l))]) (fun a=>aO dQ (s3 a.2.1) b::aO bL (s3 a.2.2.1) j::ow kT3 3 (s3 a.2.2.2) a.1.2::W0) ?_ ?_
 refine aP ?_
 obtain ⟨Y,B⟩:=gd B
 obtain ⟨T,B⟩:=gd B
 refine aZ 1 aA (show 0<j.length by have:=Y; omega) (fun J o113 ha=>?_)
 subst ha
 refine dL (K:=bL) 1 l dT23.dec R Y.1 Y.2 ?_
 rintro ⟨c3,bv⟩
 refine aZ 2 aA (show 0<b.length by have:=T; omega) (fun O o117 ha=>?_)
 subst ha
 refine dG 11 [] bP fun ht hn=>?_
 refine iw 0 [] ?_
 refine dR 3 R (eH (fo:=0) 0 cO R R R) ?_
 refine oA 4 [] ?_
 refine dR 8 R (vz (aD (ix b l)) (hW (K:=dQ) (fo:=0) (pr:=fun x=>(aD x)) 2 l re (dT9.leaf fun _ _=>R) aA R T.1 T.2)) (dR 9 R (vz (il (ix b l)) (dM fJ R)) (dR 10 R (BJ R R) (dD (aI ?_))))
 split at B
 refine bG ?_
 refine lO (vp (aD ([]:aN)) R) ?_
 refine cZ ?_
 cases B
 obtain rfl:=ap _ R
 have B:=ao
 refine aP ?_
 cases B
 exact iu (ae,F.length,ai) (tE 7 [4])
 refine cX ?_
 obtain ⟨e2,bq,bg⟩:=bd B
 refine bD (A:=HH) bq (fun s a=>[(0,(sc (ad O o117) b L)),(2,(sc (ad J o113) j M)),(9,(aD s.1)),(10,(s3 a)),(11,(iv l)),(12,(iv s.2.2))]) (fun s a=>RR dQ (ad O o117) L b::RR bL (ad J o113) M j::ow kT3 3 (s3 a) s.2.1::W0) (ae,F.length,ai) (aS R) (fun w s=>(s.f 5 [2,3])) ?_
 rintro ⟨g,i,D⟩ ⟨Z,ax,a1⟩ σ1 am B b4
 dsimp only [Z2_L2] at B
 refine bH 2 aB (fun (hn:ax=i.length)=>?_)
 subst hn
 refine dN ?_
 refine lO (vz (aD (ix b l)) (hW (K:=dQ) (fo:=0) (pr:=fun x=>(aD x)) 0 l re (dT9.leaf fun _ _=>R) aA R T.1 T.2)) (lO (vz (il (ix b l)) (dM fJ R)) ?_)
 refine aP ?_
 split at B
 refine iB ?_
 refine bB (A:=(Int)×(Unit)) (fun a=>Z2_J8 b j l g i D a.1=some am) (fun a=>[(0,(sc (ad O o117) b L)),(2,(sc (ad J o113) j M)),(9,(aD g)),(10,(sc Z i a1)),(11,(iv l)),(12,(iv D)),(13,(iv a.1))]) (fun a=>RR dQ (ad O o117) L b::RR bL (ad J o113) M j::OO kT3 3 Z a1 i::W0) ?_ ?_
 refine bT ?_
 obtain ⟨e3,bm,br⟩:=bd B
 refine bD (A:=Unit) bm (fun s a=>[(0,(sc (ad O o117) b L)),(2,(sc (ad J o113) j M)),(9,(aD g)),(10,(sc Z i a1)),(11,(iv l)),(12,(iv D)),(13,(iv s))]) (fun s a=>RR dQ (ad O o117) L b::RR bL (ad J o113) M j::OO kT3 3 Z a1 i::W0) () (aS R) tI ?_
 rintro a3 _ σ1 bw B bp
 dsimp only [Z2_L3] at B
 refine aV ?_
 obtain ⟨ah,B⟩:=gd B
 obtain ⟨ag,B⟩:=gd B
 refine cQ [(0,(sc (ad O o117) b L)),(2,(sc (ad J o113) j M)),(9,(aD g)),(10,(sc Z i a1)),(11,(iv l)),(12,(iv D)),(13,(iv a3)),(62,(.bool ((decide (a3<(g.length:Int)))&&((bt g a3) != (bt (ix b l) D)))))] (RR dQ (ad O o117) L b::RR bL (ad J o113) M j::OO kT3 3 Z a1 i::W0) ?_ ?_
 rcases bo (decide (a3<(g.length:Int))) with E | E
 refine dG 16 [] bP fun ht hn=>?_
 refine dR 0 R (vI R) (dR 1 R (vp (aD g) R) (dR 2 R (vz (il g) (dM fJ R)) ?_))
 refine gT 3 [] ?_
 refine dW 5 R (eE E) (vp (aD g) R) (dW 6 R (eE E) (vI R) (dW 7 R (eE E) (vz (.int .u8 (bt g a3)) (cI fJ R R (ah E).1 (ah E).2)) ?_))
 refine iw 8 [] ?_
 refine dW 11 R (eE E) (vz (aD (ix b l)) (hW (K:=dQ) (fo:=0) (pr:=fun x=>(aD x)) 0 l re (dT9.leaf fun _ _=>R) aA R T.1 T.2)) (dW 12 R (eE E) (vI R) (dW 13 R (eE E) (vz (.int .u8 (bt (ix b l) D)) (cI fJ R R (ag E).1 (ag E).2)) (dW 14 R (eE E) (vp (.bool ((bt g a3) != (bt (ix b l) D))) R) (dR 15 R (j5 R E R) (dD ?_)))))
 exact qj tI
 refine dG 16 [] bP fun ht hn=>?_
 refine dR 0 R (vI R) (dR 1 R (vp (aD g) R) (dR 2 R (vz (il g) (dM fJ R)) ?_))
 refine mu 3 [] ?_
 refine dD ?_
 exact qj tI
 rintro σ1
 refine bT ?_
 split at B
 refine cU ?_
 cases B
 exact qA () tI
 refine aP ?_
 cases B
 obtain rfl:=bp _ R
 have B:=br
 refine aV ?_
 exact qI (a3,()) B tI
 rintro ⟨a4,_⟩ σ1 B
 dsimp only [Z2_J8] at B
 refine aM (bB (A:=(aN×(List Int))×(HH)) (fun a=>Z2_J9 j l D a4 a.1.1 a.1.2=some am) (fun a=>[(0,(sc (ad O o117) b L)),(2,(sc (ad J o113) j M)),(9,(aD a.1.1)),(10,(s3 a.2)),(11,(iv l)),(12,(iv D)),(13,(iv a4))]) (fun a=>RR dQ (ad O o117) L b::RR bL (ad J o113) M j::ow kT3 3 (s3 a.2) a.1.2::W0) ?_ ?_)
 refine aP ?_
 refine lO (vp (aD g) R) (lO (vz (il g) (dM fJ R)) ?_)
 refine aP ?_
 split at B
 refine aV ?_
 obtain ⟨aa,B⟩:=gd B
 obtain ⟨aq,B⟩:=gd B
 refine aE (lO (vp (aD g) R) ?_)
 refine aP ?_
 refine lO (vz (aD (ix b l)) (hW (K:=dQ) (fo:=0) (pr:=fun x=>(aD x)) 0 l re (dT9.leaf fun _ _=>R) aA R T.1 T.2)) ?_
 refine aP ?_
 refine lO (vz (aD (sub (ix b l) D (aH (D+1)))) (hO D (aH (D+1)) fJ R R R aa.1 aa.2.1 aa.2.2)) (lO (vz (aD (g++(sub (ix b l) D (aH (D+1))))) (nu R R aq)) (lO (vp (aD (g++(sub (ix b l) D (aH (D+1))))) R) ?_))
 refine aV ?_
 obtain ⟨av,B⟩:=gd B
 refine aV ?_
 refine bM (K:=kT3) (xs:=([(0:Int)]:List Int)) (vs:=[(iv 0)]) 0 R R bK cC gF R R R R R R ?_ R (fun c6 c2=>?_)
 exact fun I h s=>(gD).list [((),(0:Int))] I h s
 refine lM _ (tE 4 [3,0,1,2]) ?_
 refine eD (K:=kT3) 17592186044416 R R bK cC kl (Zr.zk zT3 gF) R R R R R R dP av (fun aj ak=>(lN (OO kT3 3 aj ak (i++([(0:Int)]:List Int))::_::_::W0) ?_))
 refine aV ?_
 exact qI (((g++(sub (ix b l) D (aH (D+1)))),(i++([(0:Int)]:List Int))),(aj,(i++([(0:Int)]:List Int)).length,ak)) B (tE 3 [1,2,0])
 refine aV ?_
 exact qI ((g,i),(Z,i.length,a1)) B tI
 rintro ⟨⟨a6,q⟩,⟨ac,b3,ab⟩⟩ σ1 B
 dsimp only [Z2_J9] at B
 refine bH 2 aB (fun (hn:b3=q.length)=>?_)
 subst hn
 refine aV ?_
 obtain ⟨a2,B⟩:=gd B
 obtain ⟨a9,B⟩:=gd B
 refine cQ [(0,(sc (ad O o117) b L)),(2,(sc (ad J o113) j M)),(9,(aD a6)),(10,(sc ac q ab)),(11,(iv l)),(12,(iv D)),(13,(iv a4)),(100,(.bool (((ix q a4) != 0)&&((ix q a4) != (ix (ix j l) D)))))] (RR dQ (ad O o117) L b::RR bL (ad J o113) M j::OO kT3 3 ac ab q::W0) ?_ ?_
 rcases bo ((ix q a4) != 0) with U | U
 refine aZ 2 aB (show 0<q.length by have:=a2; omega) (fun bf o182 ha=>?_)
 subst ha
 refine dL (K:=bL) 1 l dT23.dec R Y.1 Y.2 ?_
 rintro ⟨bs,c8⟩
 refine aZ 1 aA (show 0<(ix j l).length by have:=(a9 U); omega) (fun c5 o186 ha=>?_)
 subst ha
 refine dG 19 [] bP fun ht hn=>?_
 refine mu 0 [] ?_
 refine dW 13 R (eE U) (eH (fo:=0) 0 cO R R R) (dW 14 R (eE U) (vI R) (dW 15 R (eE U) (eI bK cC R R (a9 U)) (dW 16 R (eE U) (gP 1 fP aA R (a9 U)) ?_)))
 refine gT 17 [] ?_
 refine dD ?_
 exact qj (fun w s=>(s.f 5 [2,3]))
 refine aZ 2 aB (show 0<q.length by have:=a2; omega) (fun bf o182 ha=>?_)
 subst ha
 refine dG 19 [] bP fun ht hn=>?_
 refine yz 0 [] ?_
 refine dD ?_
 exact qj tI
 rintro σ1
 refine bT ?_
 split at B
 refine bG ?_
 refine lO (vp (aD ([]:aN)) R) ?_
 refine cZ ?_
 cases B
 obtain rfl:=b4 _ R
 have B:=bg
 refine bG ?_
 cases B
 obtain rfl:=ap _ R
 have B:=ao
 refine aP ?_
 cases B
 exact iu (ac,q.length,ab) (tE 5 [2])
 refine aP ?_
 obtain ⟨an,B⟩:=gd B
 refine bV ?_
 refine gS (K:=bL) 1 l dT23.dec R Y.1 Y.2 ?_
 rintro ⟨c7,c1⟩
 refine lO (eH (fo:=0) 0 cO R R R) (lI R (bC 1 aA (show 0<(ix j l).length by have:=an; omega) (fun c9 o192 ha=>?_)))
 subst ha
 refine aV ?_
 refine bC 4 aB (show 0<q.length by have:=a2; omega) (fun b7 o194 ha=>?_)
 subst ha
 refine bT ?_
 refine lM _ (fun w s=>(s.f 5 [4,1,0,4])) ?_
 refine dV (K:=kT3) (x':=(ix (ix j l) D)) 0 a4 R R cC R R a2.1 a2.2 ?_ ?_
 exact fun I h s=>(gD).put I h () (ix (ix j l) D) s
 refine cZ ?_
 cases B
 exact qA ((ad b7 o194),q.length,ab) (tE 5 [3,4,0])
 refine aP ?_
 cases B
 obtain rfl:=b4 _ R
 have B:=bg
 refine aP ?_
 exact qI ((g,i),(((ad O o117),b.length,L),((ad J o113),j.length,M),(Z,i.length,a1))) B tI
 rintro ⟨⟨al,a0⟩,⟨⟨bb,aw,b6⟩,⟨b1,b0,b5⟩,⟨az,b8,bj⟩⟩⟩ σ1 B
 dsimp only [Z2_J10] at B
 refine bH 0 aA (fun (hn:aw=b.length)=>?_)
 subst hn
 refine bH 1 aA (fun (hn:b0=j.length)=>?_)
 subst hn
 refine bH 2 aB (fun (hn:b8=a0.length)=>?_)
 subst hn
 refine cA ?_
 cases B
 exact qA ((bb,b.length,b6),(b1,j.length,b5),(az,a0.length,bj)) tI
 refine aP ?_
 cases B
 obtain rfl:=ap _ R
 have B:=ao
 refine aV ?_
 exact qI ((a7,F),(ae,F.length,ai)) B (tE 3 [2])
 rintro ⟨⟨G,u⟩,⟨a8,be,a5⟩⟩ σ1 B
 dsimp only [Z2_J11] at B
 refine bH 0 aB (fun (hn:be=u.length)=>?_)
 subst hn
 refine bV ?_
 refine bB (A:=(Unit)×(Unit)) (fun a=>Z2_J12 G u=some r) (fun a=>[(9,(aD G)),(10,(sc a8 u a5))]) (fun a=>OO kT3 3 a8 a5 u::W0) ?_ ?_
 refine bV ?_
 obtain ⟨e4,bn,bc⟩:=bd B
 refine bD (A:=Unit) bn (fun s a=>[(9,(aD G)),(10,(sc a8 u a5)),(14,(iv s.1)),(15,(iv s.2))]) (fun s a=>OO kT3 3 a8 a5 u::W0) () (aS R) tI ?_
 rintro ⟨b9,c0⟩ _ σ1 bz B b2
 dsimp only [Z2_L4] at B
 refine cX ?_
 split at B
 refine bV ?_
 obtain ⟨au,B⟩:=gd B
 refine bG ?_
 refine bC 0 aB (show 0<u.length by have:=au; omega) (fun ay o223 ha=>?_)
 subst ha
 refine iK ?_
 split at B
 refine bG ?_
 refine lO (vp (aD ([]:aN)) R) ?_
 refine dN ?_
 cases B
 obtain rfl:=b2 _ R
 have B:=bc
 refine aP ?_
 cases B
 exact iu ((ad ay o223),u.length,a5) (tE 3 [0])
 refine cX ?_
 cases B
 exact qA () tI
 refine aP ?_
 cases B
 obtain rfl:=b2 _ R
 have B:=bc
 refine aV ?_
 exact qI ((),()) B tI
 rintro ⟨_,_⟩ σ1 B
 dsimp only [Z2_J12] at B
 refine aV ?_
 refine lO (vp (aD G) R) (lS R (lO (vp (aD G) R) ?_))
 refine cA ?_
 cases B
 exact iu (a8,u.length,a5) (tE 3 [0])
theorem Zf_ok  {i:aN}{g:aN}{b:(List Int)}{r:(List Int)}(j:Zf i g b=some r) :
 FnOk Tryz.prog 113 [(aD i),(aD g),(.slice A4 N4 D4)] [aO kT3 (.slice A4 N4 D4) b] (fun (h:HH)=>((.slice h.1 h.2.1 h.2.2),[ow kT3 3 (.slice h.1 h.2.1 h.2.2) r])):=by
 unfold Zf at j
 refine aQ Tryz.func113 R 38 R R fun C V=>?_
 refine cN (_::V) ?_
 refine cL 0 aA ?_
 rintro rfl
 let M:List HP:=RR kT3 A4 D4 b::V
 refine cN M ?_
 refine aM (aE (lS R (aC (aI (aM (aE (bM (K:=kT3) (xs:=([]:List Int)) (vs:=[]) 0 R R bK cC gF R R R R R R ?_ R (fun A5 D5=>?_))))))))
 exact fun I h s=>(gD).list [] I h s
 refine lN (OO kT3 3 A5 D5 ([]:List Int)::M) ?_
 refine lS R (aC (aI (aM (bB (A:=((List Int))×(HH)) (fun a=>Zf_J7 a.1=some r) (fun a=>[(7,(.slice a.2.1 a.2.2.1 a.2.2.2))]) (fun a=>ow kT3 3 (.slice a.2.1 a.2.2.1 a.2.2.2) a.1::M) ?_ ?_))))
 refine aM (aE (lI R (aC (aI (dC ?_)))))
 obtain ⟨e1,a9,ab⟩:=bd j
 refine bD (A:=HH) a9 (fun s a=>[(0,(aD i)),(1,(aD g)),(2,(sc A4 b D4)),(7,(.slice a.1 a.2.1 a.2.2)),(8,(iv s.2))]) (fun s a=>ow kT3 3 (.slice a.1 a.2.1 a.2.2) s.1::M) (A5,([]:List Int).length,D5) (aS R) (fun w s=>s) ?_
 rintro ⟨G,q⟩ ⟨a3,aj,a4⟩ σ1 B j ac
 replace j:Zf_L1 i g b G q=some B:=j
 unfold Zf_L1 at j
 refine bH 0 aB (fun (L:aj=G.length)=>?_)
 subst L
 refine aM (aM (aE (lI R (lO (vp (aD i) R) (lO (vz (il i) (dM fJ R)) (lO (mW R R) (aC (aI ?_))))))))
 rcases cG j with ⟨u,j⟩|⟨u,j⟩
 refine bZ R u (cP (aI (aM (bB (A:=((List Int))×(HH)) (fun a=>Zf_J6 q a.1=some B) (fun a=>[(0,(aD i)),(1,(aD g)),(2,(sc A4 b D4)),(7,(.slice a.2.1 a.2.2.1 a.2.2.2)),(8,(iv q))]) (fun a=>ow kT3 3 (.slice a.2.1 a.2.2.1 a.2.2.2) a.1::M) ?_ ?_))))
 refine dC (aM (aE (lI R (aC (aI (dC ?_))))))
 obtain ⟨e2,ag,ak⟩:=bd j
 refine bD (A:=HH) ag (fun s a=>[(0,(aD i)),(1,(aD g)),(2,(sc A4 b D4)),(7,(.slice a.1 a.2.1 a.2.2)),(8,(iv q)),(9,(iv s.2))]) (fun s a=>ow kT3 3 (.slice a.1 a.2.1 a.2.2) s.1::M) (a3,G.length,a4) (aS R) (fun w s=>s) ?_
 rintro ⟨m,l⟩ ⟨Y,ah,a1⟩ σ1 D j al
 replace j:Zf_L2 i g b q m l=some D:=j
 unfold Zf_L2 at j
 refine bH 0 aB (fun (L:ah=m.length)=>?_)
 subst L
 refine aM (aM (aE (lI R (lO (vp (aD g) R) (lO (vz (il g) (dM fJ R)) (lO (mW R R) (aC (aI ?_))))))))
 rcases cG j with ⟨E,j⟩|⟨E,j⟩
 refine bZ R E (cP (aI (aM (bB (A:=((List Int))×(HH)) (fun a=>Zf_J5 l a.1=some D) (fun a=>[(0,(aD i)),(1,(aD g)),(2,(sc A4 b D4)),(7,(.slice a.2.1 a.2.2.1 a.2.2.2)),(8,(iv q)),(9,(iv l))]) (fun a=>ow kT3 3 (.slice a.2.1 a.2.2.1 a.2.2.2) a.1::M) ?_ ?_))))
 refine dC (aM ?_)
 obtain ⟨O,j⟩:=gd j
 obtain ⟨T,j⟩:=gd j
 refine dG 7 [] bP (fun ht L=>(dR 0 R (vp (aD g) R) (dR 1 R (vI R) (dR 2 R (vz (.int .u8 (bt g l)) (cI fJ R R O.1 O.2)) (dR 3 R (vp (aD i) R) (dR 4 R (vI R) (dR 5 R (vz (.int .u8 (bt i q)) (cI fJ R R T.1 T.2)) (dR 6 R (vp (.bool ((bt g l)==(bt i q))) R) (dD (aI ?_))))))))))
 rcases cG j with ⟨F,j⟩|⟨F,j⟩
 refine bZ R F ?_
 obtain ⟨J,j⟩:=gd j
 obtain ⟨a5,j⟩:=gd j
 refine aE (lS R (lS R (lI R (bC 1 aA (show 0<b.length by have:=J; omega) (fun au o64 ha=>?_)))))
 subst ha
 refine lO (eI bK cC R R J) (lO (gP 1 fP aA R J) (bM (K:=kT3) (xs:=([(ix b l)]:List Int)) (vs:=[(iv (ix b l))]) 0 R R bK cC gF R R R R R R ?_ R (fun ai a8=>?_)))
 exact fun I h s=>(gD).list [((),(ix b l))] I h s
 refine lN (OO kT3 3 ai a8 ([(ix b l)]:List Int)::OO kT3 3 Y a1 m::M) ?_
 refine lM (ow _ _ _ _::ow _ _ _ _::M) (fun w s=>(s.e 2 [1,0])) ?_
 refine eD (K:=kT3) 17592186044416 R R bK cC kl (Zr.zk zT3 gF) R R R R R R dP a5 (fun a6 a2=>(lN (OO kT3 3 a6 a2 (m++([(ix b l)]:List Int))::M) ?_))
 refine lS R (aC (dO ?_))
 exact qI ((m++([(ix b l)]:List Int)),(a6,(m++([(ix b l)]:List Int)).length,a2)) j (fun w s=>s)
 refine bJ R F (cP (dO ?_))
 exact qI (m,(Y,m.length,a1)) j (fun w s=>s)
 rintro ⟨Z,⟨aq,a7,aa⟩⟩ σ1 j
 replace j:Zf_J5 l Z=some D:=j
 unfold Zf_J5 at j
 refine bH 0 aB (fun (L:a7=Z.length)=>?_)
 subst L
 refine aE (lI R (lO (kK R R) (lI R (aC ?_))))
 obtain rfl:=so j
 exact qA (aq,Z.length,aa) (fun w s=>s)
 refine bJ R E (gR (dZ ?_))
 obtain rfl:=so j
 obtain rfl:=al _ R
 have j:=ak
 refine dZ (fM (dO ?_))
 exact qI (m,(Y,m.length,a1)) j (fun w s=>s)
 rintro ⟨U,⟨an,ap,ae⟩⟩ σ1 j
 replace j:Zf_J6 q U=some B:=j
 unfold Zf_J6 at j
 refine bH 0 aB (fun (L:ap=U.length)=>?_)
 subst L
 refine aE (lI R (lO (kK R R) (lI R (aC ?_))))
 obtain rfl:=so j
 exact qA (an,U.length,ae) (fun w s=>s)
 refine bJ R u (gR (dZ ?_))
 obtain rfl:=so j
 obtain rfl:=ac _ R
 have j:=ab
 refine dZ (fM ?_)
 exact qI (G,(a3,G.length,a4)) j (fun w s=>s)
 rintro ⟨a0,⟨am,ar,ao⟩⟩ σ1 j
 replace j:Zf_J7 a0=some r:=j
 unfold Zf_J7 at j
 refine bH 0 aB (fun (L:ar=a0.length)=>?_)
 subst L
 refine aM (aE (lS R (lS R (aC (aI (bW ?_))))))
 obtain rfl:=so j
 exact qF (am,a0.length,ao) (fun w s=>(s.e 2 [0]))
end Go.Proofs.YtmpnollfdpdipaaGreat
