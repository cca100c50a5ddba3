import Derived.Test.YtmpnollfdpdipaaGreatGkF
set_option linter.unusedVariables false
set_option maxRecDepth 20000
namespace Go.Proofs.YtmpnollfdpdipaaGreat
open Go Go.Pg
variable {A2 A3 A4 A5 A6 A7:Option Addr}{D2 D3 D4 D5 D6 D7 N2 N3 N4 N5 N6 N7:Nat}
theorem Z2z_ok  {b:Int}{r:Int×Int}(a:Z2z b=some r) :
 FnOk Tryz.prog 75 [(iv b)] [] (fun (h:Unit)=>((.tuple [(iv r.1),(iv r.2)].toArray),[])):=by
 unfold Z2z at a
 refine aQ Tryz.func75 R 13 R R fun C V=>?_
 refine cN V ?_
 refine nU ?_
 split at a
 refine cW ?_
 cases a
 exact jl () tI
 refine cU ?_
 split at a
 refine cW ?_
 cases a
 exact jl () tI
 refine cU ?_
 split at a
 refine cW ?_
 cases a
 exact jl () tI
 refine hW ?_
 cases a
 exact jl () tI
theorem Z3b_ok  {a:Int}{r:Bool}(i:Z3b a=some r) :
 FnOk Tryz.prog 76 [(iv a)] [] (fun (h:Unit)=>((.bool r),[])):=by
 unfold Z3b at i
 refine aQ Tryz.func76 R 17 R R fun C V=>?_
 refine cN V ?_
 refine bT ?_
 refine cQ [(2,(.bool ((((a==1)||(a==2))||(a==12))||(a==13))))] (V) ?_ ?_
 refine bF ?_
 rcases bo (a==1) with b | b
 refine ka ?_
 exact qj tI
 refine bF ?_
 rcases bo ((a==1)||(a==2)) with e | e
 refine cO ?_
 exact qj tI
 refine bF ?_
 rcases bo (((a==1)||(a==2))||(a==12)) with g | g
 refine cB ?_
 exact qj tI
 refine cB ?_
 exact qj tI
 rintro σ1
 refine aR ?_
 cases i
 exact qF () tI
theorem Z18_ok  {e:Int}{r:Int}(b:Z18 e=some r) :
 FnOk Tryz.prog 77 [(iv e)] [] (fun (h:Unit)=>((iv r),[])):=by
 unfold Z18 at b
 refine aQ Tryz.func77 R 16 R R fun C V=>?_
 refine cN V ?_
 refine xP ?_
 split at b
 refine cO ?_
 cases b
 exact qF () tI
 refine aR ?_
 refine bA (A:=(Bool)×(Unit)) (fun a=>Z18_J1 e a.1=some r) (fun a=>[(3,(iv e)),(6,(.bool a.1))]) (fun a=>V) ?_ ?_
 refine bT ?_
 split at b
 refine aR ?_
 exact qI ((e==14),()) b tI
 refine cB ?_
 exact qI ((e==15),()) b tI
 rintro ⟨g,_⟩ σ1 b
 dsimp only [Z18_J1] at b
 split at b
 refine cO ?_
 cases b
 exact qF () tI
 refine dJ ?_
 split at b
 refine cO ?_
 cases b
 exact qF () tI
 refine dJ ?_
 split at b
 refine cO ?_
 cases b
 exact qF () tI
 refine aR ?_
 refine bA (A:=(Bool)×(Unit)) (fun a=>Z18_J2 a.1=some r) (fun a=>[(13,(.bool a.1))]) (fun a=>V) ?_ ?_
 refine bT ?_
 split at b
 refine aR ?_
 exact qI ((e==18),()) b tI
 refine cB ?_
 exact qI ((e==19),()) b tI
 rintro ⟨i,_⟩ σ1 b
 dsimp only [Z18_J2] at b
 split at b
 refine cO ?_
 cases b
 exact qF () tI
 refine cW ?_
 cases b
 exact qF () tI
theorem Z15_ok  {a:Node}{r:Bool}(m:Z15 a=some r) :
 FnOk Tryz.prog 51 [(.agg [(iv a.Op),(.slice A2 N2 D2),(.slice A3 N3 D3),(.slice A4 N4 D4),(aD a.Form),(.slice A5 N5 D5)].toArray)] [aN kT3 (.slice A2 N2 D2) a.Args,aN kT3 (.slice A3 N3 D3) a.Dims,aN kT3 (.slice A4 N4 D4) a.Ints,aN kT3 (.slice A5 N5 D5) a.Data] (fun (h:Unit)=>((.bool r),[])):=by
 unfold Z15 at m
 refine aQ Tryz.func51 R 92 R R fun C V=>?_
 refine cL 0 aA ?_
 rintro rfl
 refine cL 1 aA ?_
 rintro rfl
 refine cL 2 aA ?_
 rintro rfl
 refine cL 3 aA ?_
 rintro rfl
 let W0:=RR kT3 A2 D2 a.Args::RR kT3 A3 D3 a.Dims::RR kT3 A4 D4 a.Ints::RR kT3 A5 D5 a.Data::V
 refine cN W0 ?_
 refine aR ?_
 refine eA R fun T=>?_
 refine aR ?_
 let O:=aI T [(iv a.Op),(sc A2 a.Args D2),(sc A3 a.Dims D3),(sc A4 a.Ints D4),(aD a.Form),(sc A5 a.Data D5)] 54::W0
 refine qN O ?_
 refine aP ?_
 refine cQ [(1,(pt T 0)),(13,(.bool ((decide (a.Op<1))||(decide (a.Op>19)))))] (O) ?_ ?_
 refine cB ?_
 rcases bo (decide (a.Op<1)) with M | M
 refine aP ?_
 refine lO (eW (decide (a.Op>19)) R M) (aC ?_)
 exact qj tI
 refine aP ?_
 refine lO (fK R M R) (aC ?_)
 exact qj tI
 rintro σ1
 refine bU ?_
 split at m
 refine cU ?_
 cases m
 exact qF () (tE 5 [])
 refine bF ?_
 obtain ⟨r9,U,m⟩:=bd m
 refine aP ?_
 refine lC 0 As R (Z2z_ok U) R ?_
 rintro _
 refine lO (vT R) ?_
 refine cU ?_
 refine cQ [(1,(pt T 0)),(31,(.bool ((decide ((a.Args.length:Int)<r9.1))||(decide ((a.Args.length:Int)>r9.2)))))] (O) ?_ ?_
 refine dJ ?_
 rcases bo (decide ((a.Args.length:Int)<r9.1)) with B | B
 refine cB ?_
 refine lO (eW (decide ((a.Args.length:Int)>r9.2)) R B) (aC ?_)
 exact qj tI
 refine cB ?_
 refine lO (fK R B R) (aC ?_)
 exact qj tI
 rintro σ1
 refine bU ?_
 split at m
 refine cU ?_
 cases m
 exact qF () (tE 5 [])
 refine cB ?_
 obtain ⟨q,Y,m⟩:=bd m
 refine cQ [(1,(pt T 0)),(62,(.bool ((((!q)&&(decide ((a.Dims.length:Int)>0)))||((a.Op != 11)&&(!(a.Form==([]:aM)))))||((a.Op != 2)&&(decide ((a.Data.length:Int)>0))))))] (O) ?_ ?_
 refine aP ?_
 refine lC 0 At R (Z3b_ok Y) R ?_
 rintro _
 refine aR ?_
 rcases bo (!q) with b | b
 refine bF ?_
 refine lO (iy R b R) (lB R ?_)
 rcases bo ((!q)&&(decide ((a.Dims.length:Int)>0))) with e | e
 refine cU ?_
 refine lO (eW ((a.Op != 11)&&(!(a.Form==([]:aM)))) R e) ?_
 refine cW ?_
 refine lO (eW ((a.Op != 2)&&(decide ((a.Data.length:Int)>0))) R (oT e)) (aC ?_)
 exact qj tI
 refine bF ?_
 rcases bo (a.Op != 11) with s | s
 refine aR ?_
 refine lW (dI s) (vz (.bool (!(a.Form==([]:aM)))) (j7 R R R)) (lW (bZ e) (iy R s R) (lO (fK R e R) (lB R ?_)))
 rcases bo (((!q)&&(decide ((a.Dims.length:Int)>0)))||((a.Op != 11)&&(!(a.Form==([]:aM))))) with g | g
 refine cO ?_
 refine lO (eW ((a.Op != 2)&&(decide ((a.Data.length:Int)>0))) R g) (aC ?_)
 exact qj tI
 refine bF ?_
 rcases bo (a.Op != 2) with D | D
 refine bF ?_
 refine lW (bZ g) (iy R D R) (lO (fK R g R) (aC ?_))
 exact qj tI
 refine bF ?_
 refine lW (bZ g) (jP (decide ((a.Data.length:Int)>0)) R D) (lO (fK R g R) (aC ?_))
 exact qj tI
 refine aP ?_
 refine lW (bZ e) (jP (!(a.Form==([]:aM))) R s) (lO (fK R e R) (lB R ?_))
 rcases bo (((!q)&&(decide ((a.Dims.length:Int)>0)))||((a.Op != 11)&&(!(a.Form==([]:aM))))) with i | i
 refine cO ?_
 refine lO (eW ((a.Op != 2)&&(decide ((a.Data.length:Int)>0))) R i) (aC ?_)
 exact qj tI
 refine bF ?_
 rcases bo (a.Op != 2) with E | E
 refine bF ?_
 refine lW (bZ i) (iy R E R) (lO (fK R i R) (aC ?_))
 exact qj tI
 refine bF ?_
 refine lW (bZ i) (jP (decide ((a.Data.length:Int)>0)) R E) (lO (fK R i R) (aC ?_))
 exact qj tI
 refine bF ?_
 refine lO (jP (decide ((a.Dims.length:Int)>0)) R b) ?_
 refine cB ?_
 rcases bo (a.Op != 11) with u | u
 refine aR ?_
 refine lW (dI u) (vz (.bool (!(a.Form==([]:aM)))) (j7 R R R)) (lW (bZ (aF b)) (iy R u R) (lO (fK R (aF b) R) (lB R ?_)))
 rcases bo (((!q)&&(decide ((a.Dims.length:Int)>0)))||((a.Op != 11)&&(!(a.Form==([]:aM))))) with j | j
 refine cO ?_
 refine lO (eW ((a.Op != 2)&&(decide ((a.Data.length:Int)>0))) R j) (aC ?_)
 exact qj tI
 refine bF ?_
 rcases bo (a.Op != 2) with F | F
 refine bF ?_
 refine lW (bZ j) (iy R F R) (lO (fK R j R) (aC ?_))
 exact qj tI
 refine bF ?_
 refine lW (bZ j) (jP (decide ((a.Data.length:Int)>0)) R F) (lO (fK R j R) (aC ?_))
 exact qj tI
 refine aP ?_
 refine lW (bZ (aF b)) (jP (!(a.Form==([]:aM))) R u) (lO (fK R (aF b) R) (lB R ?_))
 rcases bo (((!q)&&(decide ((a.Dims.length:Int)>0)))||((a.Op != 11)&&(!(a.Form==([]:aM))))) with l | l
 refine cO ?_
 refine lO (eW ((a.Op != 2)&&(decide ((a.Data.length:Int)>0))) R l) (aC ?_)
 exact qj tI
 refine bF ?_
 rcases bo (a.Op != 2) with G | G
 refine bF ?_
 refine lW (bZ l) (iy R G R) (lO (fK R l R) (aC ?_))
 exact qj tI
 refine bF ?_
 refine lW (bZ l) (jP (decide ((a.Data.length:Int)>0)) R G) (lO (fK R l R) (aC ?_))
 exact qj tI
 rintro σ1
 refine bU ?_
 split at m
 refine cU ?_
 cases m
 exact qF () (tE 5 [])
 refine bF ?_
 obtain ⟨L,Z,m⟩:=bd m
 refine aP ?_
 refine lC 0 Au R (Z18_ok Z) R ?_
 rintro _
 refine cB ?_
 refine cQ [(1,(pt T 0)),(5,(iv L)),(73,(.bool ((a.Op==16)||(a.Op==17))))] (O) ?_ ?_
 refine cB ?_
 rcases bo (a.Op==16) with I | I
 refine aP ?_
 refine lO (eW (a.Op==17) R I) (aC ?_)
 exact qj tI
 refine aP ?_
 refine lO (fK R I R) (aC ?_)
 exact qj tI
 rintro σ1
 refine bU ?_
 split at m
 refine aR ?_
 refine cQ [(2,(.bool ((decide ((a.Ints.length:Int)≥L))&&(decide ((a.Ints.length:Int)≤(aG (L+4096)))))))] (O) ?_ ?_
 refine dJ ?_
 rcases bo (decide ((a.Ints.length:Int)≥L)) with J | J
 refine bT ?_
 refine lO (iy R J R) ?_
 refine aR ?_
 exact qj tI
 refine bT ?_
 refine lO (jP (decide ((a.Ints.length:Int)≤(aG (L+4096)))) R J) ?_
 refine aR ?_
 exact qj tI
 rintro σ1
 refine aP ?_
 cases m
 exact qF () (tE 5 [])
 refine nd ?_
 cases m
 exact qF () (tE 5 [])
theorem Z0i_ok  {b:(List Int)}{q:Int}{r:Bool}(e:Z0i b q=some r) :
 FnOk Tryz.prog 52 [(.slice A2 N2 D2),(iv q)] [aN kT3 (.slice A2 N2 D2) b] (fun (h:Unit)=>((.bool r),[])):=by
 unfold Z0i at e
 refine aQ Tryz.func52 R 25 R R fun C V=>?_
 refine cL 0 aA ?_
 rintro rfl
 let u:=RR kT3 A2 D2 b::V
 refine cN u ?_
 refine bT ?_
 refine bA (A:=(Unit)×(Unit)) (fun a=>Z0i_J1=some r) (fun a=>[]) (fun a=>u) ?_ ?_
 refine bT ?_
 obtain ⟨G,B,m⟩:=bd e
 refine bC (A:=Unit) B (fun s a=>[(0,(sc A2 b D2)),(1,(iv q)),(5,(iv s))]) (fun s a=>u) () (aS R) tI ?_
 rintro g _ σ1 D e j
 dsimp only [Z0i_L1] at e
 refine cO ?_
 split at e
 refine bT ?_
 obtain ⟨l,e⟩:=gd e
 refine cQ [(0,(sc A2 b D2)),(1,(iv q)),(5,(iv g)),(24,(.bool ((decide ((ix b g)<0))||(decide ((ix b g)≥q)))))] (u) ?_ ?_
 refine aP ?_
 refine bB 0 aA (show 0<b.length by have:=l; omega) (fun E o14 F=>?_)
 subst F
 refine bF ?_
 rcases bo (decide ((ix b g)<0)) with i | i
 refine cU ?_
 exact qj tI
 refine cU ?_
 exact qj tI
 rintro σ1
 refine bU ?_
 split at e
 refine cO ?_
 cases e
 obtain rfl:=j _ R
 have e:=m
 refine aP ?_
 cases e
 exact qF () (tE 1 [])
 refine cO ?_
 cases e
 exact qA () tI
 refine aP ?_
 cases e
 obtain rfl:=j _ R
 have e:=m
 refine aR ?_
 exact cI ((),()) e trivial tI
 rintro ⟨_,_⟩ σ1 e
 dsimp only [Z0i_J1] at e
 refine bT ?_
 cases e
 exact qF () (tE 1 [])
theorem Zu_ok  {b:(List Int)}{r:Int}(e:Zu b=some r) :
 FnOk Tryz.prog 95 [(.slice A2 N2 D2)] [aN kT3 (.slice A2 N2 D2) b] (fun (h:Unit)=>((iv r),[])):=by
 unfold Zu at e
 refine aQ Tryz.func95 R 32 R R fun C V=>?_
 refine cL 0 aA ?_
 rintro rfl
 let u:=RR kT3 A2 D2 b::V
 refine cN u ?_
 refine hW ?_
 refine bA (A:=(Int)×(Unit)) (fun a=>Zu_J1 a.1=some r) (fun a=>[(3,(iv a.1))]) (fun a=>u) ?_ ?_
 refine bT ?_
 obtain ⟨J,D,l⟩:=bd e
 refine bC (A:=Unit) D (fun s a=>[(0,(sc A2 b D2)),(3,(iv s.1)),(4,(iv s.2))]) (fun s a=>u) () (aS R) tI ?_
 rintro ⟨q,g⟩ _ σ1 E e j
 dsimp only [Zu_L1] at e
 refine cO ?_
 split at e
 refine dJ ?_
 obtain ⟨i,e⟩:=gd e
 refine cQ [(0,(sc A2 b D2)),(3,(iv q)),(4,(iv g)),(22,(.bool ((decide ((ix b g)<1))||(decide ((ix b g)>4096)))))] (u) ?_ ?_
 refine aP ?_
 refine bB 0 aA (show 0<b.length by have:=i; omega) (fun F o17 B=>?_)
 subst B
 refine bF ?_
 rcases bo (decide ((ix b g)<1)) with m | m
 refine dJ ?_
 exact qj tI
 refine dJ ?_
 exact qj tI
 rintro σ1
 refine bU ?_
 split at e
 refine cW ?_
 cases e
 obtain rfl:=j _ R
 have e:=l
 refine aP ?_
 cases e
 exact qF () (tE 1 [])
 refine cU ?_
 refine bB 0 aA (show 0<b.length by have:=i; omega) (fun G o21 B=>?_)
 subst B
 refine iC ?_
 split at e
 refine cO ?_
 cases e
 obtain rfl:=j _ R
 have e:=l
 refine aP ?_
 cases e
 exact qF () (tE 1 [])
 refine cO ?_
 cases e
 exact qA () tI
 refine aP ?_
 cases e
 obtain rfl:=j _ R
 have e:=l
 refine aR ?_
 exact qI (q,()) e tI
 rintro ⟨I,_⟩ σ1 e
 dsimp only [Zu_J1] at e
 refine dJ ?_
 cases e
 exact qF () (tE 1 [])
theorem Zn_ok  {a:(List Int)}{r:Bool}(e:Zn a=some r) :
 FnOk Tryz.prog 92 [(.slice A2 N2 D2)] [aN kT3 (.slice A2 N2 D2) a] (fun (h:Unit)=>((.bool r),[])):=by
 unfold Zn at e
 refine aQ Tryz.func92 R 11 R R fun C V=>?_
 refine cL 0 aA ?_
 rintro rfl
 let g:=RR kT3 A2 D2 a::V
 refine cN g ?_
 refine bT ?_
 obtain ⟨j,i,e⟩:=bd e
 refine cQ [(2,(.bool ((decide ((a.length:Int)≤6))&&(decide (j>0)))))] (g) ?_ ?_
 refine cB ?_
 rcases bo (decide ((a.length:Int)≤6)) with b | b
 refine bU ?_
 refine lM _ (fun w s=>(s.d 0 R)) ?_
 refine bS 1 R (dI b) ne R (Zu_ok (bG i b)) R ?_
 rintro _
 refine lN g ?_
 refine bF ?_
 exact qj tI
 refine bT ?_
 exact qj tI
 rintro σ1
 refine aR ?_
 cases e
 exact qF () (tE 1 [])
theorem Zq_ok  {t1:Tensor}{r:Bool}(b:Zq t1=some r) :
 FnOk Tryz.prog 55 [(.agg [(.slice A2 N2 D2),(.slice A3 N3 D3)].toArray)] [aN kT3 (.slice A2 N2 D2) t1.Dims,aN kT3 (.slice A3 N3 D3) t1.Data] (fun (h:Unit)=>((.bool r),[])):=by
 unfold Zq at b
 refine aQ Tryz.func55 R 38 R R fun C V=>?_
 refine cL 0 aA ?_
 rintro rfl
 refine cL 1 aA ?_
 rintro rfl
 let F:=RR kT3 A2 D2 t1.Dims::RR kT3 A3 D3 t1.Data::V
 refine cN F ?_
 refine aR ?_
 refine eA R fun B=>?_
 refine aR ?_
 let g:=aI B [(sc A2 t1.Dims D2),(sc A3 t1.Data D3)] 58::F
 refine qN g ?_
 refine aP ?_
 obtain ⟨I,u,b⟩:=bd b
 obtain ⟨T,E,b⟩:=bd b
 refine cQ [(1,(pt B 0)),(16,(.bool ((!I)||((t1.Data.length:Int) != T))))] (g) ?_ ?_
 rcases bo (!I) with i | i
 refine cZ 13 [] bN fun O M=>?_
 refine gN 0 [] ?_
 refine d1 2 R (lM _ (fun w s=>(s.d 1 R)) ?_)
 refine lC 1 jW R (Zn_ok u) R ?_
 rintro _
 refine lN g ?_
 refine aC (aE (sL []) ?_)
 refine nW 3 [] ?_
 refine dD ?_
 exact qj tI
 refine cZ 13 [] bN fun O M=>?_
 refine gN 0 [] ?_
 refine d1 2 R (lM _ (fun w s=>(s.d 1 R)) ?_)
 refine lC 1 jW R (Zn_ok u) R ?_
 rintro _
 refine lN g ?_
 refine aC (aE (sL []) ?_)
 refine qX 3 [] ?_
 refine d1 10 R (lM _ (fun w s=>(s.d 1 R)) ?_)
 refine bS 1 R (bZ i) ne R (Zu_ok (bG E (cK i))) R ?_
 rintro _
 refine lN g ?_
 refine aC (aE (sL []) ?_)
 refine gN 11 [] ?_
 refine dD ?_
 exact qj tI
 rintro σ1
 refine bU ?_
 split at b
 refine cU ?_
 cases b
 exact qF () (tE 3 [])
 refine bF ?_
 refine bA (A:=(Unit)×(Unit)) (fun a=>Zq_J1=some r) (fun a=>[]) (fun a=>g) ?_ ?_
 refine bT ?_
 obtain ⟨U,D,q⟩:=bd b
 refine bC (A:=Unit) D (fun s a=>[(1,(pt B 0)),(3,(iv s))]) (fun s a=>g) () (aS R) tI ?_
 rintro e _ σ1 G b l
 dsimp only [Zq_L1] at b
 refine cW ?_
 split at b
 refine bT ?_
 obtain ⟨m,b⟩:=gd b
 refine cQ [(1,(pt B 0)),(3,(iv e)),(37,(.bool ((decide ((ix t1.Data e)<0))||(decide ((ix t1.Data e)≥2147483647)))))] (g) ?_ ?_
 refine bF ?_
 refine bB 2 aA (show 0<t1.Data.length by have:=m; omega) (fun J o21 L=>?_)
 subst L
 refine bF ?_
 rcases bo (decide ((ix t1.Data e)<0)) with j | j
 refine cU ?_
 exact qj tI
 refine cU ?_
 exact qj tI
 rintro σ1
 refine bU ?_
 split at b
 refine cO ?_
 cases b
 obtain rfl:=l _ R
 have b:=q
 refine aP ?_
 cases b
 exact qF () (tE 3 [])
 refine cO ?_
 cases b
 exact qA () tI
 refine aP ?_
 cases b
 obtain rfl:=l _ R
 have b:=q
 refine aR ?_
 exact cI ((),()) b trivial tI
 rintro ⟨_,_⟩ σ1 b
 dsimp only [Zq_J1] at b
 refine bT ?_
 cases b
 exact qF () (tE 3 [])
theorem Zt_ok  {a:(List Int)}{r:(List Int)}(b:Zt a=some r) :
 FnOk Tryz.prog 57 [(.slice A2 N2 D2)] [aN kT3 (.slice A2 N2 D2) a] (fun (h:HH)=>((s3 h),[ow kT3 3 (s3 h) r])):=by
 unfold Zt at b
 refine aQ Tryz.func57 R 6 R R fun C V=>?_
 refine cL 0 aA ?_
 rintro rfl
 let g:=RR kT3 A2 D2 a::V
 refine cN g ?_
 refine bT ?_
 obtain ⟨e,b⟩:=gd b
 refine aH (bQ (K:=kT3) (xs:=([]:List Int)) (vs:=[]) 0 R R bM cC gR R R R R R R ?_ R (fun A3 D3=>?_))
 exact fun I h s=>(gL).list [] I h s
 refine lS R (lM _ (fun w s=>((s.dup 1 R).mv 1)) ?_)
 refine eF (K:=kT3) 17592186044416 R R bM cC kc (Zr.zk zT3 gR) R R R R R R (rp (Kind.scal_flat _ _)) e (fun A5 D5=>(lN (OO kT3 3 A5 D5 (([]:List Int)++a)::g) ?_))
 refine bF ?_
 cases b
 exact qF (A5,(([]:List Int)++a).length,D5) (tE 2 [0])
theorem Zz_ok  {e:(List Int)}{g:(List Int)}{r:Bool}(b:Zz e g=some r) :
 FnOk Tryz.prog 56 [(.slice A2 N2 D2),(.slice A4 N4 D4)] [aN kT3 (.slice A2 N2 D2) e,aN kT3 (.slice A4 N4 D4) g] (fun (h:Unit)=>((.bool r),[])):=by
 unfold Zz at b
 refine aQ Tryz.func56 R 26 R R fun C V=>?_
 refine cL 0 aA ?_
 rintro rfl
 refine cL 1 aA ?_
 rintro rfl
 let q:=RR kT3 A2 D2 e::RR kT3 A4 D4 g::V
 refine cN q ?_
 refine nU ?_
 split at b
 refine cU ?_
 cases b
 exact qF () (tE 2 [])
 refine bF ?_
 refine bA (A:=(Unit)×(Unit)) (fun a=>Zz_J1=some r) (fun a=>[]) (fun a=>q) ?_ ?_
 refine bT ?_
 obtain ⟨I,B,m⟩:=bd b
 refine bC (A:=Unit) B (fun s a=>[(0,(sc A2 e D2)),(1,(sc A4 g D4)),(5,(iv s))]) (fun s a=>q) () (aS R) tI ?_
 rintro G _ σ1 D b i
 dsimp only [Zz_L1] at b
 refine cO ?_
 split at b
 refine bT ?_
 obtain ⟨j,b⟩:=gd b
 obtain ⟨l,b⟩:=gd b
 refine aY 0 aA (show 0<e.length by have:=j; omega) (fun E o18 u=>?_)
 subst u
 refine aY 1 aA (show 0<g.length by have:=l; omega) (fun F o21 u=>?_)
 subst u
 refine cZ 9 [] bN fun L J=>?_
 refine uO 0 [] ?_
 refine dD (aJ ?_)
 split at b
 refine cO ?_
 cases b
 obtain rfl:=i _ R
 have b:=m
 refine aP ?_
 cases b
 exact qF () (tE 2 [])
 refine cO ?_
 cases b
 exact qA () tI
 refine aP ?_
 cases b
 obtain rfl:=i _ R
 have b:=m
 refine aR ?_
 exact cI ((),()) b trivial tI
 rintro ⟨_,_⟩ σ1 b
 dsimp only [Zz_J1] at b
 refine bT ?_
 cases b
 exact qF () (tE 2 [])
theorem Z27_ok  {a:(List Int)}{g:Int}{r:Int}(b:Z27 a g=some r) :
 FnOk Tryz.prog 138 [(.slice A2 N2 D2),(iv g)] [aN kT3 (.slice A2 N2 D2) a] (fun (h:Unit)=>((iv r),[])):=by
 unfold Z27 at b
 refine aQ Tryz.func138 R 17 R R fun C V=>?_
 refine cL 0 aA ?_
 rintro rfl
 let i:=RR kT3 A2 D2 a::V
 refine cN i ?_
 refine nd ?_
 split at b
 refine cU ?_
 cases b
 exact qF () (tE 1 [])
 refine bF ?_
 obtain ⟨e,b⟩:=gd b
 refine dJ ?_
 refine bB 0 aA (show 0<a.length by have:=e; omega) (fun l o7 j=>?_)
 subst j
 refine bT ?_
 cases b
 exact qF () (tE 1 [])
theorem Zy_ok  {D:(List Int)}{E:(List Int)}{r:(List Int)}(b:Zy D E=some r) :
 FnOk Tryz.prog 101 [(.slice A2 N2 D2),(.slice A4 N4 D4)] [aN kT3 (.slice A2 N2 D2) D,aN kT3 (.slice A4 N4 D4) E] (fun (h:HH)=>((s3 h),[ow kT3 3 (s3 h) r])):=by
 unfold Zy at b
 refine aQ Tryz.func101 R 68 R R fun C V=>?_
 refine cL 0 aA ?_
 rintro rfl
 refine cL 1 aA ?_
 rintro rfl
 let F:=RR kT3 A2 D2 D::RR kT3 A4 D4 E::V
 refine cN F ?_
 refine dJ ?_
 obtain ⟨r5,aa,b⟩:=bd b
 obtain ⟨r7,ab,b⟩:=bd b
 refine cQ [(0,(sc A2 D D2)),(1,(sc A4 E D4)),(17,(.bool ((!r5)||(!r7))))] (F) ?_ ?_
 refine aR ?_
 refine lM _ (fun w s=>(s.d 0 R)) ?_
 refine lC 1 jW R (Zn_ok aa) R ?_
 rintro _
 refine lN F ?_
 refine aR ?_
 rcases bo (!r5) with L | L
 refine cB ?_
 exact qj tI
 refine bU ?_
 refine lM _ (fun w s=>(s.d 1 R)) ?_
 refine bS 1 R (bZ L) jW R (Zn_ok (bG ab (cK L))) R ?_
 rintro _
 refine lN F ?_
 refine aP ?_
 exact qj tI
 rintro σ1
 refine bU ?_
 split at b
 refine aP ?_
 refine bQ (K:=kT3) (xs:=([]:List Int)) (vs:=[]) 0 R R bM cC gR R R R R R R ?_ R (fun A11 D11=>?_)
 exact fun I h s=>(gL).list [] I h s
 refine cB ?_
 cases b
 exact qF (A11,([]:List Int).length,D11) (tE 3 [0])
 refine hW ?_
 refine bA (A:=(Int)×(Unit)) (fun a=>Zy_J1 D E a.1=some r) (fun a=>[(0,(sc A2 D D2)),(1,(sc A4 E D4)),(5,(iv a.1))]) (fun a=>F) ?_ ?_
 refine cU ?_
 split at b
 refine bT ?_
 exact qI ((E.length:Int),()) b tI
 refine aR ?_
 exact qI ((D.length:Int),()) b tI
 rintro ⟨e,_⟩ σ1 b
 dsimp only [Zy_J1] at b
 refine bU ?_
 obtain ⟨q,b⟩:=gd b
 refine aR ?_
 refine fH (K:=kT3) (m:=e) (z:=(0:Int)) R R bM cC kc (Zr.zk zT3 gR) (by decide) R R q.1 q.2.1 q.2.2 (fun g i=>(lS R (aC (aJ (aO (bA (A:=((List Int))×(Unit)) (fun a=>Zy_J4 a.1=some r) (fun a=>[(6,(sc g (List.replicate e.toNat (0:Int)) i))]) (fun a=>ow kT3 3 (.slice g (List.replicate e.toNat (0:Int)).length i) a.1::F) ?_ ?_))))))
 refine bT ?_
 obtain ⟨e1,a9,U⟩:=bd b
 refine bC (A:=Unit) a9 (fun s a=>[(0,(sc A2 D D2)),(1,(sc A4 E D4)),(5,(iv e)),(6,(sc g (List.replicate e.toNat (0:Int)) i)),(7,(iv s.2))]) (fun s a=>ow kT3 3 (.slice g (List.replicate e.toNat (0:Int)).length i) s.1::F) () (aS R) tI ?_
 rintro ⟨J,G⟩ _ σ1 a2 b T
 dsimp only [Zy_L1] at b
 refine cU ?_
 split at b
 refine bT ?_
 obtain ⟨j,Y,b⟩:=bd b
 refine aP ?_
 refine lM _ (fun w s=>(s.d 1 R)) ?_
 refine lC 1 uP R (Z27_ok Y) R ?_
 rintro _
 refine bF ?_
 obtain ⟨l,Z,b⟩:=bd b
 refine aP ?_
 refine lM _ (fun w s=>(s.d 2 R)) ?_
 refine lC 1 uP R (Z27_ok Z) R ?_
 rintro _
 refine cB ?_
 refine cQ [(0,(sc A2 D D2)),(1,(sc A4 E D4)),(5,(iv e)),(6,(sc g (List.replicate e.toNat (0:Int)) i)),(7,(iv G)),(8,(iv j)),(9,(iv l)),(50,(.bool (((j != l)&&(j != 1))&&(l != 1))))] (ow kT3 3 (.slice g (List.replicate e.toNat (0:Int)).length i) J::F) ?_ ?_
 refine cB ?_
 rcases bo (j != l) with M | M
 refine bF ?_
 rcases bo ((j != l)&&(j != 1)) with O | O
 refine bF ?_
 exact qj tI
 refine bF ?_
 exact qj tI
 refine cU ?_
 exact qj tI
 rintro σ1
 refine bU ?_
 split at b
 refine aP ?_
 refine bQ (K:=kT3) (xs:=([]:List Int)) (vs:=[]) 0 R R bM cC gR R R R R R R ?_ R (fun a5 a7=>?_)
 exact fun I h s=>(gL).list [] I h s
 refine dJ ?_
 cases b
 obtain rfl:=T _ R
 have b:=U
 refine aP ?_
 cases b
 exact qF (a5,([]:List Int).length,a7) (tE 4 [0])
 refine bF ?_
 refine bA (A:=(Int)×(Unit)) (fun a=>Zy_J3 e J G a.1=some a2) (fun a=>[(0,(sc A2 D D2)),(1,(sc A4 E D4)),(5,(iv e)),(6,(sc g (List.replicate e.toNat (0:Int)) i)),(7,(iv G)),(8,(iv a.1))]) (fun a=>ow kT3 3 (.slice g (List.replicate e.toNat (0:Int)).length i) J::F) ?_ ?_
 refine dJ ?_
 split at b
 refine cB ?_
 exact qI (l,()) b tI
 refine aR ?_
 exact qI (j,()) b tI
 rintro ⟨a3,_⟩ σ1 b
 dsimp only [Zy_J3] at b
 obtain ⟨u,b⟩:=gd b
 refine dJ ?_
 refine bB 0 aB (show 0<(List.replicate e.toNat (0:Int)).length by have:=u; omega) (fun ac o47 ha=>?_)
 subst ha
 refine bU ?_
 refine dZ (K:=kT3) (x':=a3) 0 (aG ((aG (e - 1)) - G)) R R cC R R u.1 u.2 ?_ ?_
 exact fun I h s=>(gL).put I h () a3 s
 refine cU ?_
 cases b
 exact qA () tI
 refine aP ?_
 cases b
 obtain rfl:=T _ R
 have b:=U
 refine aR ?_
 exact qI (J,()) b tI
 rintro ⟨a4,_⟩ σ1 b
 dsimp only [Zy_J4] at b
 refine aR ?_
 obtain ⟨ae,a0,b⟩:=bd b
 refine aR ?_
 refine lC 1 jW R (FnOk.lends (A':=[ow kT3 3 (.slice g (List.replicate e.toNat (0:Int)).length i) a4]) (A:=[aN kT3 (.slice g (List.replicate e.toNat (0:Int)).length i) a4]) (B:=[]) (Zn_ok a0) ⟨aX,trivial⟩ (fun _=>trivial)) R ?_
 rintro _
 refine aP ?_
 split at b
 refine aP ?_
 refine bQ (K:=kT3) (xs:=([]:List Int)) (vs:=[]) 0 R R bM cC gR R R R R R R ?_ R (fun a6 a8=>?_)
 exact fun I h s=>(gL).list [] I h s
 refine cB ?_
 cases b
 exact qF (a6,([]:List Int).length,a8) (tE 4 [0])
 refine cW ?_
 cases b
 exact qF (g,(List.replicate e.toNat (0:Int)).length,i) (tE 3 [0])
theorem Z0g_ok  {a:(List Int)}{r:Tensor}(b:Z0g a=some r) :
 FnOk Tryz.prog 93 [(.slice A2 N2 D2)] [aN kT3 (.slice A2 N2 D2) a] (fun (h:HH×HH)=>((.agg [(s3 h.1),(s3 h.2)].toArray),[ow kT3 3 (s3 h.1) r.Dims,ow kT3 3 (s3 h.2) r.Data])):=by
 unfold Z0g at b
 refine aQ Tryz.func93 R 9 R R fun C V=>?_
 refine cL 0 aA ?_
 rintro rfl
 let q:=RR kT3 A2 D2 a::V
 refine cN q ?_
 refine aR ?_
 refine bD R R dM (fun u=>(aC (aJ (aO ?_))))
 obtain ⟨l,i,b⟩:=bd b
 obtain ⟨g,j,b⟩:=bd b
 obtain ⟨e,b⟩:=gd b
 refine aR ?_
 refine lM _ (fun w s=>(s.d 1 R)) ?_
 refine lC 1 jF R (Zt_ok i) R ?_
 rintro ⟨A6,N6,D6⟩
 refine aL 0 aB ?_
 rintro rfl
 refine lS R (lM _ (fun w s=>(s.d 2 R)) ?_)
 refine lC 1 ne R (Zu_ok j) R ?_
 rintro _
 refine fH (K:=kT3) (m:=g) (z:=(0:Int)) R R bM cC kc (Zr.zk zT3 gR) (by decide) R R e.1 e.2.1 e.2.2 (fun A10 D10=>(lO (vz (.agg [(sc A6 l D6),(sc A10 (List.replicate g.toNat (0:Int)) D10)].toArray) (aW gM dM R R)) (aK 2 R R bR R R R R R R (lN (OO kT3 3 A10 D10 (List.replicate g.toNat (0:Int))::_::aI u [(sc A6 l D6),(sc A10 (List.replicate g.toNat (0:Int)) D10)] 58::q) ?_))))
 refine aP ?_
 cases b
 exact qS ((A6,l.length,D6),(A10,(List.replicate g.toNat (0:Int)).length,D10)) (tE 4 [1,0])
theorem Zi_ok  {b:(List Int)}{L:Int}{r:(List Int)}(e:Zi b L=some r) :
 FnOk Tryz.prog 102 [(.slice A2 N2 D2),(iv L)] [aN kT3 (.slice A2 N2 D2) b] (fun (h:HH)=>((s3 h),[ow kT3 3 (s3 h) r])):=by
 unfold Zi at e
 refine aQ Tryz.func102 R 33 R R fun C V=>?_
 refine cL 0 aA ?_
 rintro rfl
 let B:=RR kT3 A2 D2 b::V
 refine cN B ?_
 refine bT ?_
 obtain ⟨l,e⟩:=gd e
 refine aP ?_
 refine fH (K:=kT3) (m:=(b.length:Int)) (z:=(0:Int)) R R bM cC kc (Zr.zk zT3 gR) (by decide) R R l.1 l.2.1 l.2.2 (fun A5 D5=>(lS R (aC (aJ (aO (bA (A:=((List Int))×(Unit)) (fun a=>Zi_J1 a.1=some r) (fun a=>[(5,(sc A5 (List.replicate (b.length:Int).toNat (0:Int)) D5))]) (fun a=>ow kT3 3 (.slice A5 (List.replicate (b.length:Int).toNat (0:Int)).length D5) a.1::B) ?_ ?_))))))
 refine cO ?_
 obtain ⟨Y,G,F⟩:=bd e
 refine bC (A:=Unit) G (fun s a=>[(0,(sc A2 b D2)),(1,(iv s.1)),(5,(sc A5 (List.replicate (b.length:Int).toNat (0:Int)) D5)),(6,(iv s.2.2))]) (fun s a=>ow kT3 3 (.slice A5 (List.replicate (b.length:Int).toNat (0:Int)).length D5) s.2.1::B) () (aS R) tI ?_
 rintro ⟨q,J,i⟩ _ σ1 M e E
 dsimp only [Zi_L1] at e
 refine dJ ?_
 split at e
 refine bT ?_
 obtain ⟨u,e⟩:=gd e
 obtain ⟨j,e⟩:=gd e
 obtain ⟨g,e⟩:=gd e
 refine bT ?_
 refine bB 1 aA (show 0<b.length by have:=u; omega) (fun O o22 D=>?_)
 subst D
 refine aR ?_
 refine lO (rx R R j) (bB 0 aB (show 0<(List.replicate (b.length:Int).toNat (0:Int)).length by have:=g; omega) (fun T o26 D=>?_))
 subst D
 refine bU ?_
 refine dZ (K:=kT3) (x':=(q.tmod (ix b i))) 0 i R R cC R R g.1 g.2 ?_ ?_
 exact fun I h s=>(gL).put I h () (q.tmod (ix b i)) s
 refine cU ?_
 refine lO (vz (iv (aG (q.tdiv (ix b i)))) (mL R R j)) ?_
 refine cO ?_
 cases e
 exact qA () tI
 refine aP ?_
 cases e
 obtain rfl:=E _ R
 have e:=F
 refine aR ?_
 exact qI (J,()) e tI
 rintro ⟨U,_⟩ σ1 e
 dsimp only [Zi_J1] at e
 refine dJ ?_
 cases e
 exact qF (A5,(List.replicate (b.length:Int).toNat (0:Int)).length,D5) (tE 2 [0])
theorem Z0l_ok  {e:(List Int)}{b:(List Int)}{r:Int}(g:Z0l e b=some r) :
 FnOk Tryz.prog 114 [(.slice A2 N2 D2),(.slice A4 N4 D4)] [aN kT3 (.slice A2 N2 D2) e,aN kT3 (.slice A4 N4 D4) b] (fun (h:Unit)=>((iv r),[])):=by
 unfold Z0l at g
 refine aQ Tryz.func114 R 25 R R fun C V=>?_
 refine cL 0 aA ?_
 rintro rfl
 refine cL 1 aA ?_
 rintro rfl
 let l:=RR kT3 A2 D2 e::RR kT3 A4 D4 b::V
 refine cN l ?_
 refine hW ?_
 refine bA (A:=(Int)×(Unit)) (fun a=>Z0l_J1 a.1=some r) (fun a=>[(5,(iv a.1))]) (fun a=>l) ?_ ?_
 refine bT ?_
 obtain ⟨J,B,u⟩:=bd g
 refine bC (A:=Unit) B (fun s a=>[(0,(sc A2 e D2)),(1,(sc A4 b D4)),(5,(iv s.1)),(6,(iv s.2))]) (fun s a=>l) () (aS R) tI ?_
 rintro ⟨D,I⟩ _ σ1 E g q
 dsimp only [Z0l_L1] at g
 refine cO ?_
 split at g
 refine cB ?_
 obtain ⟨i,g⟩:=gd g
 obtain ⟨j,g⟩:=gd g
 refine aY 0 aA (show 0<e.length by have:=i; omega) (fun F o17 m=>?_)
 subst m
 refine aY 1 aA (show 0<b.length by have:=j; omega) (fun G o20 m=>?_)
 subst m
 refine cZ 12 [] bN fun M L=>?_
 refine tP 0 [] ?_
 refine dD ?_
 refine dJ ?_
 cases g
 exact qA () tI
 refine aP ?_
 cases g
 obtain rfl:=q _ R
 have g:=u
 refine aR ?_
 exact qI (D,()) g tI
 rintro ⟨tu,_⟩ σ1 g
 dsimp only [Z0l_J1] at g
 refine dJ ?_
 cases g
 exact qF () (tE 2 [])
theorem Z14_ok  {t1:Tensor}{a:(List Int)}{r:Int}(b:Z14 t1 a=some r) :
 FnOk Tryz.prog 112 [(.agg [(.slice A2 N2 D2),(.slice A3 N3 D3)].toArray),(.slice A5 N5 D5)] [aN kT3 (.slice A2 N2 D2) t1.Dims,aN kT3 (.slice A3 N3 D3) t1.Data,aN kT3 (.slice A5 N5 D5) a] (fun (h:Unit)=>((iv r),[])):=by
 unfold Z14 at b
 refine aQ Tryz.func112 R 13 R R fun C V=>?_
 refine cL 0 aA ?_
 rintro rfl
 refine cL 1 aA ?_
 rintro rfl
 refine cL 2 aA ?_
 rintro rfl
 let j:=RR kT3 A2 D2 t1.Dims::RR kT3 A3 D3 t1.Data::RR kT3 A5 D5 a::V
 refine cN j ?_
 refine aR ?_
 refine eA R fun m=>?_
 refine aR ?_
 let l:=aI m [(sc A2 t1.Dims D2),(sc A3 t1.Data D3)] 58::j
 refine qN l ?_
 refine aR ?_
 obtain ⟨E,i,b⟩:=bd b
 obtain ⟨g,b⟩:=gd b
 refine aY 2 aA (show 0<t1.Data.length by have:=g; omega) (fun q o11 u=>?_)
 subst u
 refine cZ 9 [] bN fun D B=>?_
 refine kb 0 [] ?_
 refine d1 5 R (lM _ (fun w s=>(((s.d 1 R).d 4 R).e 2 [1,0])) ?_)
 refine lC 2 rW R (Z0l_ok i) R ?_
 rintro _
 refine lN l ?_
 refine aC (aE (sL []) ?_)
 refine hO 6 [] ?_
 refine dD ?_
 refine aR ?_
 cases b
 exact qF () (tE 4 [])
theorem Z06_ok  {t1:Tensor}{b:(List Int)}{r:Int}(g:Z06 t1 b=some r) :
 FnOk Tryz.prog 104 [(.agg [(.slice A2 N2 D2),(.slice A3 N3 D3)].toArray),(.slice A5 N5 D5)] [aN kT3 (.slice A2 N2 D2) t1.Dims,aN kT3 (.slice A3 N3 D3) t1.Data,aN kT3 (.slice A5 N5 D5) b] (fun (h:Unit)=>((iv r),[])):=by
 unfold Z06 at g
 refine aQ Tryz.func104 R 42 R R fun C V=>?_
 refine cL 0 aA ?_
 rintro rfl
 refine cL 1 aA ?_
 rintro rfl
 refine cL 2 aA ?_
 rintro rfl
 let W0:=RR kT3 A2 D2 t1.Dims::RR kT3 A3 D3 t1.Data::RR kT3 A5 D5 b::V
 refine cN W0 ?_
 refine aR ?_
 refine eA R fun b6=>?_
 refine aR ?_
 let M:=aI b6 [(sc A2 t1.Dims D2),(sc A3 t1.Data D3)] 58::W0
 refine qN M ?_
 refine nd ?_
 refine bQ (K:=kT3) (xs:=([]:List Int)) (vs:=[]) 0 R R bM cC gR R R R R R R ?_ R (fun A7 D7=>?_)
 exact fun I h s=>(gL).list [] I h s
 refine bF ?_
 refine bA (A:=((List Int))×(HH)) (fun a=>Z06_J3 t1 a.1=some r) (fun a=>[(2,(pt b6 0)),(6,(s3 a.2))]) (fun a=>ow kT3 3 (s3 a.2) a.1::M) ?_ ?_
 refine bT ?_
 obtain ⟨e1,a6,a5⟩:=bd g
 refine bC (A:=HH×HH) a6 (fun s a=>[(1,(s3 a.1)),(2,(pt b6 0)),(5,(iv (aG ((b.length:Int) - (t1.Dims.length:Int))))),(6,(s3 a.2)),(7,(iv s.2))]) (fun s a=>aN kT3 (s3 a.1) b::ow kT3 3 (s3 a.2) s.1::M) ((A5,b.length,D5),(A7,([]:List Int).length,D7)) (aS R) (fun w s=>(s.d 4 R)) ?_
 rintro ⟨i,G⟩ ⟨⟨a7,a1,u⟩,⟨m,a2,D⟩⟩ σ1 a0 g a4
 dsimp only [Z06_L1] at g
 refine bJ 0 aA (fun (Y:a1=b.length)=>?_)
 subst Y
 refine bJ 1 aB (fun (Y:a2=i.length)=>?_)
 subst Y
 refine cW ?_
 split at g
 refine bT ?_
 obtain ⟨O,g⟩:=gd g
 refine cB ?_
 refine bB 0 aA (show 0<b.length by have:=O; omega) (fun F o27 ha=>?_)
 subst ha
 refine bT ?_
 refine bA (A:=(Int)×(Unit)) (fun a=>Z06_J2 i G a.1=some a0) (fun a=>[(1,(sc (ad F o27) b u)),(2,(pt b6 0)),(5,(iv (aG ((b.length:Int) - (t1.Dims.length:Int))))),(6,(sc m i D)),(7,(iv G)),(8,(iv a.1))]) (fun a=>RR kT3 (ad F o27) u b::OO kT3 3 m D i::M) ?_ ?_
 refine bU ?_
 obtain ⟨T,g⟩:=gd g
 refine bF ?_
 refine bB 3 aA (show 0<t1.Dims.length by have:=T; omega) (fun aa o30 ha=>?_)
 subst ha
 refine cB ?_
 split at g
 refine bF ?_
 exact qI ((0:Int),()) g tI
 refine aR ?_
 exact qI ((ix b (aG ((aG ((b.length:Int) - (t1.Dims.length:Int)))+G))),()) g tI
 rintro ⟨j,_⟩ σ1 g
 dsimp only [Z06_J2] at g
 obtain ⟨U,g⟩:=gd g
 refine aP ?_
 refine bQ (K:=kT3) (xs:=([j]:List Int)) (vs:=[(iv j)]) 0 R R bM cC gR R R R R R R ?_ R (fun a8 a9=>?_)
 exact fun I h s=>(gL).list [((),j)] I h s
 refine lM _ (tE 3 [2,0,1]) ?_
 refine eF (K:=kT3) 17592186044416 R R bM cC kc (Zr.zk zT3 gR) R R R R R R dP U (fun J L=>(lN (OO kT3 3 J L (i++([j]:List Int))::_::M) ?_))
 refine cO ?_
 cases g
 exact qA (((ad F o27),b.length,u),(J,(i++([j]:List Int)).length,L)) (tE 2 [1,0])
 refine aP ?_
 cases g
 obtain rfl:=a4 _ R
 have g:=a5
 refine aR ?_
 exact qI (i,(m,i.length,D)) g (tE 2 [1])
 rintro ⟨l,⟨q,a3,E⟩⟩ σ1 g
 dsimp only [Z06_J3] at g
 refine bJ 0 aB (fun (Y:a3=l.length)=>?_)
 subst Y
 refine bU ?_
 obtain ⟨ab,Z,g⟩:=bd g
 refine aP ?_
 refine lM _ (fun w s=>(((s.d 2 R).d 4 R).e 3 [2,1,0])) ?_
 refine lC 3 mN R (FnOk.lends (A':=[OO kT3 3 q E l]) (A:=[RR kT3 q E l]) (B:=[RR kT3 A2 D2 t1.Dims,RR kT3 A3 D3 t1.Data]) (FnOk.perm (Z14_ok Z) (Pre':=[RR kT3 q E l,RR kT3 A2 D2 t1.Dims,RR kT3 A3 D3 t1.Data]) (fun _ _ _ s=>(s.e 3 [1,2,0]))) ⟨aX,trivial⟩ (fun _=>trivial)) R ?_
 rintro _
 refine bF ?_
 cases g
 exact qF () (tE 5 [])
theorem Zp_ok  {p1:Int}{r:Int}(b:Zp p1=some r) :
 FnOk Tryz.prog 94 [(iv p1)] [] (fun (h:Unit)=>((iv r),[])):=by
 unfold Zp at b
 refine aQ Tryz.func94 R 11 R R fun C V=>?_
 refine cN V ?_
 refine cU ?_
 refine lO (rx R R (by decide)) ?_
 refine bF ?_
 refine bA (A:=(Int)×(Unit)) (fun a=>Zp_J1 a.1=some r) (fun a=>[(3,(iv a.1))]) (fun a=>V) ?_ ?_
 refine bT ?_
 split at b
 refine bT ?_
 exact qI ((aG ((p1.tmod (2147483647:Int))+2147483647)),()) b tI
 refine aR ?_
 exact qI ((p1.tmod (2147483647:Int)),()) b tI
 rintro ⟨e,_⟩ σ1 b
 dsimp only [Zp_J1] at b
 refine dJ ?_
 cases b
 exact qF () tI
theorem Z1b_ok  {e:Int}{r:Int}(a:Z1b e=some r) :
 FnOk Tryz.prog 108 [(iv e)] [] (fun (h:Unit)=>((iv r),[])):=by
 unfold Z1b at a
 refine aQ Tryz.func108 R 11 R R fun C V=>?_
 refine cN V ?_
 refine bT ?_
 obtain ⟨g,b,a⟩:=bd a
 refine aR ?_
 refine lC 0 lq R (Zp_ok b) R ?_
 rintro _
 refine cW ?_
 split at a
 refine cW ?_
 cases a
 exact qF () tI
 refine cW ?_
 cases a
 exact qF () tI
theorem Z1j_ok  {i:Int}{j:Int}{r:Int}(a:Z1j i j=some r) :
 FnOk Tryz.prog 115 [(iv i),(iv j)] [] (fun (h:Unit)=>((iv r),[])):=by
 unfold Z1j at a
 refine aQ Tryz.func115 R 11 R R fun C V=>?_
 refine cN V ?_
 refine bT ?_
 obtain ⟨l,b,a⟩:=bd a
 obtain ⟨m,e,a⟩:=bd a
 obtain ⟨q,g,a⟩:=bd a
 refine aR ?_
 refine lC 0 lq R (Zp_ok b) R ?_
 rintro _
 refine lI R (lC 0 lq R (Zp_ok e) R ?_)
 rintro _
 refine bU ?_
 refine lC 0 lq R (Zp_ok g) R ?_
 rintro _
 refine bF ?_
 cases a
 exact qF () tI
theorem Z25_ok  {i:Int}{j:Int}{r:Int}(a:Z25 i j=some r) :
 FnOk Tryz.prog 139 [(iv i),(iv j)] [] (fun (h:Unit)=>((iv r),[])):=by
 unfold Z25 at a
 refine aQ Tryz.func139 R 11 R R fun C V=>?_
 refine cN V ?_
 refine bT ?_
 obtain ⟨l,b,a⟩:=bd a
 obtain ⟨m,e,a⟩:=bd a
 obtain ⟨q,g,a⟩:=bd a
 refine aR ?_
 refine lC 0 lq R (Zp_ok b) R ?_
 rintro _
 refine lI R (lC 0 lq R (Zp_ok e) R ?_)
 rintro _
 refine bU ?_
 refine lC 0 lq R (Zp_ok g) R ?_
 rintro _
 refine bF ?_
 cases a
 exact qF () tI
theorem Z1c_ok  {i:Int}{j:Int}{r:Int}(a:Z1c i j=some r) :
 FnOk Tryz.prog 111 [(iv i),(iv j)] [] (fun (h:Unit)=>((iv r),[])):=by
 unfold Z1c at a
 refine aQ Tryz.func111 R 11 R R fun C V=>?_
 refine cN V ?_
 refine bT ?_
 obtain ⟨l,b,a⟩:=bd a
 obtain ⟨m,e,a⟩:=bd a
 obtain ⟨q,g,a⟩:=bd a
 refine aR ?_
 refine lC 0 lq R (Zp_ok b) R ?_
 rintro _
 refine lI R (lC 0 lq R (Zp_ok e) R ?_)
 rintro _
 refine bU ?_
 refine lC 0 lq R (Zp_ok g) R ?_
 rintro _
 refine bF ?_
 cases a
 exact qF () tI
theorem Zs_S_ok {q:Int→Int→Option (Int)}(j:∀ {g:Int} {e:Int} {r:Int},q g e=some r→FnOk Tryz.prog 155 [(iv g),(iv e)] [] (fun (h:Unit)=>((iv r),[]))){g:Int}{e:Int}{r:Int}(b:Zs_S q g e=some r) :
 FnOk Tryz.prog 155 [(iv g),(iv e)] [] (fun (h:Unit)=>((iv r),[])):=by
 unfold Zs_S at b
 refine aQ Tryz.func155 R 22 R R fun C V=>?_
 refine cN V ?_
 refine iC ?_
 split at b
 refine cU ?_
 cases b
 exact qF () tI
 refine bF ?_
 obtain ⟨D,l,b⟩:=bd b
 refine aP ?_
 refine lO (vz (iv (aG (e.tdiv (2:Int)))) (mL R R (by decide))) (lC 0 uR R (j l) R ?_)
 rintro _
 refine bF ?_
 obtain ⟨s,m,b⟩:=bd b
 refine aP ?_
 refine lC 0 o4 R (Z1c_ok m) R ?_
 rintro _
 refine bF ?_
 refine bA (A:=(Int)×(Unit)) (fun a=>Zs_J1 a.1=some r) (fun a=>[(5,(iv a.1))]) (fun a=>V) ?_ ?_
 refine aP ?_
 refine lO (rx R R (by decide)) ?_
 refine aP ?_
 split at b
 refine bU ?_
 obtain ⟨u,i,b⟩:=bd b
 refine aP ?_
 refine lC 0 o4 R (Z1c_ok i) R ?_
 rintro _
 refine aR ?_
 exact qI (u,()) b tI
 refine aR ?_
 exact qI (s,()) b tI
 rintro ⟨B,_⟩ σ1 b
 dsimp only [Zs_J1] at b
 refine dJ ?_
 cases b
 exact qF () tI
theorem Zs_R_ok (n:Nat):∀ {a:Int} {b:Int} {r:Int},Zs_R n a b=some r→FnOk Tryz.prog 155 [(iv a),(iv b)] [] (fun (h:Unit)=>((iv r),[])):=by
 induction n with
 | zero=>intros; rename_i h; cases h
 | succ n ih=>intros; rename_i h; exact Zs_S_ok ih h
theorem Zs_ok {a:Int}{b:Int}{r:Int}(e:Zs a b=some r):FnOk Tryz.prog 155 [(iv a),(iv b)] [] (fun (h:Unit)=>((iv r),[])):=Zs_R_ok nb e
theorem Z24_ok  {g:Int}{r:Int}(a:Z24 g=some r) :
 FnOk Tryz.prog 141 [(iv g)] [] (fun (h:Unit)=>((iv r),[])):=by
 unfold Z24 at a
 refine aQ Tryz.func141 R 6 R R fun C V=>?_
 refine cN V ?_
 refine bT ?_
 obtain ⟨i,b,a⟩:=bd a
 obtain ⟨j,e,a⟩:=bd a
 refine aR ?_
 refine lC 0 lq R (Zp_ok b) R ?_
 rintro _
 refine lC 0 uR R (Zs_ok e) R ?_
 rintro _
 refine bF ?_
 cases a
 exact qF () tI
theorem Z3t_ok  {g:Int}{i:Int}{r:Int}(a:Z3t g i=some r) :
 FnOk Tryz.prog 140 [(iv g),(iv i)] [] (fun (h:Unit)=>((iv r),[])):=by
 unfold Z3t at a
 refine aQ Tryz.func140 R 9 R R fun C V=>?_
 refine cN V ?_
 refine bT ?_
 obtain ⟨j,b,a⟩:=bd a
 obtain ⟨l,e,a⟩:=bd a
 refine aP ?_
 refine lC 0 uS R (Z24_ok b) R ?_
 rintro _
 refine lC 0 o4 R (Z1c_ok e) R ?_
 rintro _
 refine bF ?_
 cases a
 exact qF () tI
theorem Z1k_ok  {l:Int}{s:Int}{u:Int}{r:Int}(b:Z1k l s u=some r) :
 FnOk Tryz.prog 103 [(iv l),(iv s),(iv u)] [] (fun (h:Unit)=>((iv r),[])):=by
 unfold Z1k at b
 refine aQ Tryz.func103 R 54 R R fun C V=>?_
 refine cN V ?_
 refine bT ?_
 obtain ⟨G,m,b⟩:=bd b
 obtain ⟨I,q,b⟩:=bd b
 refine aR ?_
 refine lC 0 o3 R (Z1b_ok m) R ?_
 rintro _
 refine lI R (lC 0 o3 R (Z1b_ok q) R ?_)
 rintro _
 refine cW ?_
 refine bA (A:=(Bool)×(Unit)) (fun a=>Z1k_J1 a.1=some r) (fun a=>[(8,(.bool a.1))]) (fun a=>V) ?_ ?_
 refine iC ?_
 split at b
 refine aR ?_
 obtain ⟨J,e,b⟩:=bd b
 refine aP ?_
 refine lC 0 pH R (Z1j_ok e) R ?_
 rintro _
 refine bT ?_
 cases b
 exact qF () tI
 refine dJ ?_
 split at b
 refine aR ?_
 obtain ⟨D,g,b⟩:=bd b
 refine aP ?_
 refine lC 0 uQ R (Z25_ok g) R ?_
 rintro _
 refine bT ?_
 cases b
 exact qF () tI
 refine dJ ?_
 split at b
 refine aR ?_
 obtain ⟨E,i,b⟩:=bd b
 refine aP ?_
 refine lC 0 o4 R (Z1c_ok i) R ?_
 rintro _
 refine bT ?_
 cases b
 exact qF () tI
 refine dJ ?_
 split at b
 refine aR ?_
 obtain ⟨F,j,b⟩:=bd b
 refine aP ?_
 refine lC 0 y7 R (Z3t_ok j) R ?_
 rintro _
 refine bT ?_
 cases b
 exact qF () tI
 refine dJ ?_
 split at b
 refine dJ ?_
 split at b
 refine hW ?_
 cases b
 exact qF () tI
 refine iC ?_
 cases b
 exact qF () tI
 refine dJ ?_
 split at b
 refine dJ ?_
 split at b
 refine hW ?_
 cases b
 exact qF () tI
 refine iC ?_
 cases b
 exact qF () tI
 refine dJ ?_
 split at b
 refine bT ?_
 exact qI ((decide (G<I)),()) b tI
 refine dJ ?_
 split at b
 refine cU ?_
 exact qI ((s==u),()) b tI
 refine aP ?_
 exact qI (false,()) b tI
 rintro ⟨B,_⟩ σ1 b
 dsimp only [Z1k_J1] at b
 refine bT ?_
 split at b
 refine cU ?_
 cases b
 exact qF () tI
 refine cO ?_
 cases b
 exact qF () tI
theorem Z10_ok  {F:Int}{M:Tensor}{U:Tensor}{r:Tensor}(g:Z10 F M U=some r) :
 FnOk Tryz.prog 78 [(iv F),(.agg [(.slice A3 N3 D3),(.slice A4 N4 D4)].toArray),(.agg [(.slice A6 N6 D6),(.slice A7 N7 D7)].toArray)] [aN kT3 (.slice A3 N3 D3) M.Dims,aN kT3 (.slice A4 N4 D4) M.Data,aN kT3 (.slice A6 N6 D6) U.Dims,aN kT3 (.slice A7 N7 D7) U.Data] (fun (h:HH×HH)=>((.agg [(s3 h.1),(s3 h.2)].toArray),[ow kT3 3 (s3 h.1) r.Dims,ow kT3 3 (s3 h.2) r.Data])):=by
 unfold Z10 at g
 refine aQ Tryz.func78 R 73 R R fun C V=>?_
 refine cL 0 aA ?_
 rintro rfl
 refine cL 1 aA ?_
 rintro rfl
 refine cL 2 aA ?_
 rintro rfl
 refine cL 3 aA ?_
 rintro rfl
 let W0:=RR kT3 A3 D3 M.Dims::RR kT3 A4 D4 M.Data::RR kT3 A6 D6 U.Dims::RR kT3 A7 D7 U.Data::V
 refine cN W0 ?_
 refine aR ?_
 refine eA R fun b8=>?_
 refine eA R fun b9=>?_
 refine bD R R dM (fun m=>(aC ?_))
 let W1:=aI b9 [(sc A6 U.Dims D6),(sc A7 U.Data D7)] 58::aI b8 [(sc A3 M.Dims D3),(sc A4 M.Data D4)] 58::W0
 refine aP ?_
 obtain ⟨Z,a5,g⟩:=bd g
 obtain ⟨a0,a6,g⟩:=bd g
 refine cQ [(0,(iv F)),(4,(pt b8 0)),(5,(pt b9 0)),(6,(pt m 0)),(26,(.bool ((((!Z)||(!a0))||(decide (F<1)))||(decide (F>8)))))] (aI m [(.slice none 0 0),(.slice none 0 0)] 58::W1) ?_ ?_
 refine aR ?_
 refine lM _ (fun w s=>(((s.d 3 R).d 5 R).e 3 [1,0,2])) ?_
 refine lC 2 nf R (Zq_ok a5) R ?_
 rintro _
 refine aR ?_
 rcases bo (!Z) with Y | Y
 refine ka ?_
 exact qj tI
 refine bU ?_
 refine lM _ (fun w s=>(((s.d 5 R).d 7 R).e 3 [1,0,2])) ?_
 refine bS 2 R (bZ Y) nf R (Zq_ok (bG a6 (cK Y))) R ?_
 rintro _
 refine aP ?_
 rcases bo ((!Z)||(!a0)) with a1 | a1
 refine cU ?_
 exact qj tI
 refine bF ?_
 rcases bo (((!Z)||(!a0))||(decide (F<1))) with a3 | a3
 refine bF ?_
 exact qj tI
 refine bF ?_
 exact qj tI
 rintro σ1
 refine bU ?_
 split at g
 refine aP ?_
 refine lO (vz (.agg [(.slice none 0 0),(.slice none 0 0)].toArray) (aW gM dM R R)) (aK 0 R R bR R R R R R R (aC (aJ (bY (cE ?_)))))
 cases g
 exact qS ((none,0,0),(none,0,0)) (fun w s=>(((s.nilo kT3 3).nilo kT3 3).e 9 [1,0]))
 refine bF ?_
 obtain ⟨i,a7,g⟩:=bd g
 refine cB ?_
 refine lM _ (fun w s=>(((s.d 3 R).d 6 R).e 3 [1,0,2])) ?_
 refine lC 2 y6 R (Zy_ok a7) R ?_
 rintro ⟨q,an,D⟩
 refine aL 0 aB ?_
 rintro rfl
 refine cB ?_
 refine cQ [(0,(iv F)),(4,(pt b8 0)),(5,(pt b9 0)),(6,(pt m 0)),(7,(sc q i D)),(46,(.bool ((decide ((i.length:Int)<(M.Dims.length:Int)))||(decide ((i.length:Int)<(U.Dims.length:Int))))))] (aI m [(.slice none 0 0),(.slice none 0 0)] 58::OO kT3 3 q D i::W1) ?_ ?_
 refine cU ?_
 rcases bo (decide ((i.length:Int)<(M.Dims.length:Int))) with a4 | a4
 refine cU ?_
 exact qj (tE 2 [1,0])
 refine cU ?_
 exact qj (tE 2 [1,0])
 rintro σ1
 refine bU ?_
 split at g
 refine aP ?_
 refine lO (vz (.agg [(.slice none 0 0),(.slice none 0 0)].toArray) (aW gM dM R R)) (aK 0 R R bR R R R R R R (aC (aJ (bY (cE ?_)))))
 cases g
 exact qS ((none,0,0),(none,0,0)) (fun w s=>(((s.nilo kT3 3).nilo kT3 3).e 10 [1,0]))
 refine bF ?_
 obtain ⟨b,a8,g⟩:=bd g
 refine aR ?_
 refine lM _ (tE 2 [1,0]) ?_
 refine lC 1 ng R (FnOk.lends (A':=[OO kT3 3 q D i]) (A:=[RR kT3 q D i]) (B:=[]) (Z0g_ok a8) ⟨aX,trivial⟩ (fun _=>⟨(bK j0),(bK j0),trivial⟩)) R ?_
 rintro ⟨⟨u,ao,E⟩,⟨j,ap,l⟩⟩
 refine aL 1 aB ?_
 rintro rfl
 refine aL 2 aB ?_
 rintro rfl
 refine bD R R dM (fun O=>(aK 0 R R bR R R R R R R (lN (aI O [(sc u b.Dims E),(sc j b.Data l)] 58::_::_::_::_::W1) ?_)))
 refine aP ?_
 refine bA (A:=((List Int))×(Unit)) (fun a=>Z10_J1 b a.1=some r) (fun a=>[(6,(pt m 0)),(8,(pt O 0))]) (fun a=>aI m [(.slice none 0 0),(.slice none 0 0)] 58::aI O [(sc u b.Dims E),(sc j b.Data l)] 58::OO kT3 3 u E b.Dims::ow kT3 3 (.slice j b.Data.length l) a.1::W1) ?_ ?_
 refine bT ?_
 obtain ⟨e1,ai,ah⟩:=bd g
 refine bC (A:=Unit) ai (fun s a=>[(0,(iv F)),(4,(pt b8 0)),(5,(pt b9 0)),(6,(pt m 0)),(7,(sc q i D)),(8,(pt O 0)),(9,(iv s.2))]) (fun s a=>aI m [(.slice none 0 0),(.slice none 0 0)] 58::OO kT3 3 q D i::aI O [(sc u b.Dims E),(sc j b.Data l)] 58::OO kT3 3 u E b.Dims::ow kT3 3 (.slice j b.Data.length l) s.1::W1) () (aS R) (tE 5 [4,1,0,2,3]) ?_
 rintro ⟨ak,aj⟩ _ σ1 am g ag
 dsimp only [Z10_L1] at g
 refine cW ?_
 split at g
 refine bT ?_
 obtain ⟨T,a9,g⟩:=bd g
 refine aP ?_
 refine lM _ (tE 5 [1,0,2,3,4]) ?_
 refine lC 1 ld R (FnOk.lends (A':=[OO kT3 3 q D i]) (A:=[RR kT3 q D i]) (B:=[]) (Zi_ok a9) ⟨aX,trivial⟩ (fun _=>⟨(bK j0),trivial⟩)) R ?_
 rintro ⟨J,aq,L⟩
 refine aL 1 aB ?_
 rintro rfl
 refine aP ?_
 obtain ⟨au,aa,g⟩:=bd g
 obtain ⟨av,ab,g⟩:=bd g
 obtain ⟨ae,ac,g⟩:=bd g
 obtain ⟨G,g⟩:=gd g
 refine aY 5 aB (show 0<b.Data.length by have:=G; omega) (fun ar o56 ha=>?_)
 subst ha
 refine cZ 13 [5] bN fun ht hn=>?_
 refine rN 0 [5] ?_
 refine gN 7 [5] ?_
 refine d1 6 R (lM _ (fun w s=>(((s.d 8 R).d 10 R).e 8 [3,1,0,2,4,5,6,7])) ?_)
 refine lC 3 uT R (FnOk.lends (A':=[OO kT3 3 J L T]) (A:=[RR kT3 J L T]) (B:=[RR kT3 A3 D3 M.Dims,RR kT3 A4 D4 M.Data]) (FnOk.perm (Z06_ok aa) (Pre':=[RR kT3 J L T,RR kT3 A3 D3 M.Dims,RR kT3 A4 D4 M.Data]) (fun _ _ _ s=>(s.e 3 [1,2,0]))) ⟨aX,trivial⟩ (fun _=>trivial)) R ?_
 rintro _
 refine aC (aE (tE 6 [1,0,2,3,4]) (d1 9 R (lM _ (fun w s=>(((s.d 10 R).d 12 R).e 8 [2,1,0,3,4,5,6,7])) ?_)))
 refine lC 3 uT R (FnOk.lends (A':=[OO kT3 3 J L T]) (A:=[RR kT3 J L T]) (B:=[RR kT3 A6 D6 U.Dims,RR kT3 A7 D7 U.Data]) (FnOk.perm (Z06_ok ab) (Pre':=[RR kT3 J L T,RR kT3 A6 D6 U.Dims,RR kT3 A7 D7 U.Data]) (fun _ _ _ s=>(s.e 3 [1,2,0]))) ⟨aX,trivial⟩ (fun _=>trivial)) R ?_
 rintro _
 refine aC (aE (tE 6 [1,0,2,3,4]) (d1 10 R (lC 0 y8 R (Z1k_ok ac) R ?_)))
 rintro _
 refine aC (aE (tE 6 [1,0,2,3,4]) (dR 11 R (eI bM cC R R G) (hS:=(tE 6 [1,0,2,3,4])) (d1 12 R (lM _ (fun w s=>(s.f 6 [5,1,0,5])) ?_))))
 refine dZ (K:=kT3) (x':=ae) 0 aj R R cC R R G.1 G.2 ?_ ?_
 exact fun I h s=>(gL).put I h () ae s
 refine aC (aE (tE 6 [2,1,3,4,5]) (dD ?_))
 refine dJ ?_
 cases g
 exact qA () (tE 6 [3,2,4,5,0])
 refine aP ?_
 cases g
 obtain rfl:=ag _ R
 have g:=ah
 refine aR ?_
 exact qI (ak,()) g (tE 5 [0,2,3,4])
 rintro ⟨al,_⟩ σ1 g
 dsimp only [Z10_J1] at g
 refine aP ?_
 refine aK 0 R R bR R R R R R R (lN (aI m [(sc u b.Dims E),(sc j b.Data l)] 58::aI O [(sc u b.Dims E),(sc j b.Data l)] 58::_::ow kT3 3 (.slice j b.Data.length l) al::W1) ?_)
 refine aP ?_
 cases g
 exact qS ((u,b.Dims.length,E),(j,b.Data.length,l)) (tE 10 [2,3])
theorem Z2y_ok  {e:Int}{j:Int}{r:Int}(a:Z2y e j=some r) :
 FnOk Tryz.prog 105 [(iv e),(iv j)] [] (fun (h:Unit)=>((iv r),[])):=by
 unfold Z2y at a
 refine aQ Tryz.func105 R 20 R R fun C V=>?_
 refine cN V ?_
 refine xP ?_
 split at a
 refine aR ?_
 obtain ⟨l,g,a⟩:=bd a
 refine aR ?_
 refine lC 0 uQ R (Z25_ok g) R ?_
 rintro _
 refine bT ?_
 cases a
 exact qF () tI
 refine dJ ?_
 split at a
 refine aR ?_
 obtain ⟨m,i,a⟩:=bd a
 refine aR ?_
 refine lC 0 uS R (Z24_ok i) R ?_
 rintro _
 refine bT ?_
 cases a
 exact qF () tI
 refine bT ?_
 obtain ⟨q,b,a⟩:=bd a
 refine aR ?_
 refine lC 0 o3 R (Z1b_ok b) R ?_
 rintro _
 refine aP ?_
 split at a
 refine cU ?_
 cases a
 exact qF () tI
 refine cW ?_
 split at a
 refine cU ?_
 cases a
 exact qF () tI
 refine cW ?_
 cases a
 exact qF () tI
theorem Z0z_ok  {l:Int}{u:Tensor}{r:Tensor}(g:Z0z l u=some r) :
 FnOk Tryz.prog 79 [(iv l),(.agg [(.slice A3 N3 D3),(.slice A4 N4 D4)].toArray)] [aN kT3 (.slice A3 N3 D3) u.Dims,aN kT3 (.slice A4 N4 D4) u.Data] (fun (h:HH×HH)=>((.agg [(s3 h.1),(s3 h.2)].toArray),[ow kT3 3 (s3 h.1) r.Dims,ow kT3 3 (s3 h.2) r.Data])):=by
 unfold Z0z at g
 refine aQ Tryz.func79 R 41 R R fun C V=>?_
 refine cL 0 aA ?_
 rintro rfl
 refine cL 1 aA ?_
 rintro rfl
 let W0:=RR kT3 A3 D3 u.Dims::RR kT3 A4 D4 u.Data::V
 refine cN W0 ?_
 refine aR ?_
 refine eA R fun M=>?_
 refine bD R R dM (fun B=>(aC ?_))
 let D:=aI M [(sc A3 u.Dims D3),(sc A4 u.Data D4)] 58::W0
 refine aP ?_
 obtain ⟨r7,a0,g⟩:=bd g
 refine cQ [(0,(iv l)),(3,(pt M 0)),(4,(pt B 0)),(17,(.bool (((!r7)||(decide (l<1)))||(decide (l>4)))))] (aI B [(.slice none 0 0),(.slice none 0 0)] 58::D) ?_ ?_
 refine aR ?_
 refine lM _ (fun w s=>(((s.d 2 R).d 4 R).e 3 [1,0,2])) ?_
 refine lC 2 nf R (Zq_ok a0) R ?_
 rintro _
 refine aR ?_
 rcases bo (!r7) with T | T
 refine cU ?_
 exact qj tI
 refine bF ?_
 rcases bo ((!r7)||(decide (l<1))) with E | E
 refine bF ?_
 exact qj tI
 refine bF ?_
 exact qj tI
 rintro σ1
 refine bU ?_
 split at g
 refine aP ?_
 refine lO (vz (.agg [(.slice none 0 0),(.slice none 0 0)].toArray) (aW gM dM R R)) (aK 0 R R bR R R R R R R (aC (aJ (bY (cE ?_)))))
 cases g
 exact qS ((none,0,0),(none,0,0)) (fun w s=>(((s.nilo kT3 3).nilo kT3 3).e 6 [1,0]))
 refine bF ?_
 obtain ⟨b,G,g⟩:=bd g
 refine aP ?_
 refine lM _ (fun w s=>(s.d 2 R)) ?_
 refine lC 1 ng R (Z0g_ok G) R ?_
 rintro ⟨⟨A14,N14,D14⟩,⟨i,a5,j⟩⟩
 refine aL 0 aB ?_
 rintro rfl
 refine aL 1 aB ?_
 rintro rfl
 refine bD R R dM (fun m=>(aK 0 R R bR R R R R R R (lN (aI m [(sc A14 b.Dims D14),(sc i b.Data j)] 58::_::_::_::D) ?_)))
 refine aP ?_
 refine bA (A:=((List Int))×(Unit)) (fun a=>Z0z_J1 b a.1=some r) (fun a=>[(4,(pt B 0)),(5,(pt m 0))]) (fun a=>aI B [(.slice none 0 0),(.slice none 0 0)] 58::aI m [(sc A14 b.Dims D14),(sc i b.Data j)] 58::OO kT3 3 A14 D14 b.Dims::ow kT3 3 (.slice i b.Data.length j) a.1::D) ?_ ?_
 refine bT ?_
 obtain ⟨e1,Z,Y⟩:=bd g
 refine bC (A:=Unit) Z (fun s a=>[(0,(iv l)),(3,(pt M 0)),(4,(pt B 0)),(5,(pt m 0)),(6,(iv s.2))]) (fun s a=>aI B [(.slice none 0 0),(.slice none 0 0)] 58::aI m [(sc A14 b.Dims D14),(sc i b.Data j)] 58::OO kT3 3 A14 D14 b.Dims::ow kT3 3 (.slice i b.Data.length j) s.1::D) () (aS R) (tE 4 [3,0,1,2]) ?_
 rintro ⟨a2,a1⟩ _ σ1 a4 g U
 dsimp only [Z0z_L1] at g
 refine cW ?_
 split at g
 refine cB ?_
 obtain ⟨F,g⟩:=gd g
 obtain ⟨L,J,g⟩:=bd g
 obtain ⟨q,g⟩:=gd g
 refine aY 6 aA (show 0<u.Data.length by have:=F; omega) (fun a6 o31 O=>?_)
 subst O
 refine aY 3 aB (show 0<b.Data.length by have:=q; omega) (fun a7 o36 O=>?_)
 subst O
 refine cZ 12 [3] bN fun ht hn=>?_
 refine uO 0 [3] ?_
 refine d1 9 R (lC 0 y9 R (Z2y_ok J) R ?_)
 rintro _
 refine aC (aE (sL [3]) ?_)
 refine mA 10 [3] ?_
 refine d1 11 R (lM _ (tE 4 [3,0,1,2]) ?_)
 refine dZ (K:=kT3) (x':=L) 0 a1 R R cC R R q.1 q.2 ?_ ?_
 exact fun I h s=>(gL).put I h () L s
 refine aC (aE (sL [0]) (dD ?_))
 refine dJ ?_
 cases g
 exact qA () (tE 4 [1,2,3,0])
 refine aP ?_
 cases g
 obtain rfl:=U _ R
 have g:=Y
 refine aR ?_
 exact qI (a2,()) g tI
 rintro ⟨a3,_⟩ σ1 g
 dsimp only [Z0z_J1] at g
 refine aP ?_
 refine aK 0 R R bR R R R R R R (lN (aI B [(sc A14 b.Dims D14),(sc i b.Data j)] 58::aI m [(sc A14 b.Dims D14),(sc i b.Data j)] 58::_::ow kT3 3 (.slice i b.Data.length j) a3::D) ?_)
 refine aP ?_
 cases g
 exact qS ((A14,b.Dims.length,D14),(i,b.Data.length,j)) (tE 7 [2,3])
theorem Z1d_ok  {t1:Tensor}{a:Int}{r:Bool}(b:Z1d t1 a=some r) :
 FnOk Tryz.prog 106 [(.agg [(.slice A2 N2 D2),(.slice A3 N3 D3)].toArray),(iv a)] [aN kT3 (.slice A2 N2 D2) t1.Dims,aN kT3 (.slice A3 N3 D3) t1.Data] (fun (h:Unit)=>((.bool r),[])):=by
 unfold Z1d at b
 refine aQ Tryz.func106 R 18 R R fun C V=>?_
 refine cL 0 aA ?_
 rintro rfl
 refine cL 1 aA ?_
 rintro rfl
 let q:=RR kT3 A2 D2 t1.Dims::RR kT3 A3 D3 t1.Data::V
 refine cN q ?_
 refine aR ?_
 refine eA R fun u=>?_
 refine aR ?_
 let g:=aI u [(sc A2 t1.Dims D2),(sc A3 t1.Data D3)] 58::q
 refine qN g ?_
 refine aR ?_
 obtain ⟨m,l,b⟩:=bd b
 refine cQ [(4,(.bool ((m&&(decide (a≥0)))&&(decide (a<(t1.Dims.length:Int))))))] (g) ?_ ?_
 refine aR ?_
 refine lM _ (fun w s=>(((s.d 1 R).d 3 R).e 2 [1,0])) ?_
 refine lC 2 nf R (Zq_ok l) R ?_
 rintro _
 refine lN g ?_
 refine bU ?_
 rcases bo m with i | i
 refine bF ?_
 rcases bo (m&&(decide (a≥0))) with j | j
 refine cU ?_
 exact qj tI
 refine cU ?_
 exact qj tI
 refine iC ?_
 exact qj tI
 rintro σ1
 refine aR ?_
 cases b
 exact qF () (tE 3 [])
theorem Z0h_ok  {g:(List Int)}{j:Int}{e:Int}{r:(List Int)}(b:Z0h g j e=some r) :
 FnOk Tryz.prog 122 [(.slice A2 N2 D2),(iv j),(iv e)] [aN kT3 (.slice A2 N2 D2) g] (fun (h:HH)=>((s3 h),[ow kT3 3 (s3 h) r])):=by
 unfold Z0h at b
 refine aQ Tryz.func122 R 15 R R fun C V=>?_
 refine cL 0 aA ?_
 rintro rfl
 let m:=RR kT3 A2 D2 g::V
 refine cN m ?_
 refine bT ?_
 obtain ⟨l,i,b⟩:=bd b
 refine aR ?_
 refine lM _ (fun w s=>(s.d 0 R)) ?_
 refine lC 1 jF R (Zt_ok i) R ?_
 rintro ⟨A7,N7,D7⟩
 refine aL 0 aB ?_
 rintro rfl
 refine bF ?_
 obtain ⟨a,b⟩:=gd b
 refine bF ?_
 refine bB 0 aB (show 0<l.length by have:=a; omega) (fun q o10 u=>?_)
 subst u
 refine bU ?_
 refine dZ (K:=kT3) (x':=e) 0 j R R cC R R a.1 a.2 ?_ ?_
 exact fun I h s=>(gL).put I h () e s
 refine cO ?_
 cases b
 exact qF ((ad q o10),l.length,D7) (tE 2 [0])
theorem Z0u_ok  {t1:Tensor}{g:Int}{J:(List Int)}{r:(List Int)}(b:Z0u t1 g J=some r) :
 FnOk Tryz.prog 107 [(.agg [(.slice A2 N2 D2),(.slice A3 N3 D3)].toArray),(iv g),(.slice A6 N6 D6)] [aN kT3 (.slice A2 N2 D2) t1.Dims,aN kT3 (.slice A3 N3 D3) t1.Data,aN kT3 (.slice A6 N6 D6) J] (fun (h:HH)=>((.slice h.1 h.2.1 h.2.2),[ow kT3 3 (.slice h.1 h.2.1 h.2.2) r])):=by
 unfold Z0u at b
 refine aQ Tryz.func107 R 29 R R fun C V=>?_
 refine cN (_::_::_::V) ?_
 refine cL 0 aA ?_
 rintro rfl
 refine cL 1 aA ?_
 rintro rfl
 refine cL 2 aA ?_
 rintro rfl
 let W0:List HP:=RR kT3 A2 D2 t1.Dims::RR kT3 A3 D3 t1.Data::RR kT3 A6 D6 J::V
 refine cN W0 ?_
 refine aO (aH (eA R (fun b7=>(lS R (aC ?_)))))
 let l:List HP:=aI b7 [(sc A2 t1.Dims D2),(sc A3 t1.Data D3)] 58::W0
 refine qN l ?_
 refine aJ (aO (aH (bQ (K:=kT3) (xs:=([]:List Int)) (vs:=[]) 0 R R bM cC gR R R R R R R ?_ R (fun A8 D8=>?_))))
 exact fun I h s=>(gL).list [] I h s
 refine lN (OO kT3 3 A8 D8 ([]:List Int)::l) ?_
 refine lS R (aC (aJ (aO (bA (A:=((List Int))×(HH)) (fun a=>Z0u_J1 a.1=some r) (fun a=>[(7,(.slice a.2.1 a.2.2.1 a.2.2.2))]) (fun a=>ow kT3 3 (.slice a.2.1 a.2.2.1 a.2.2.2) a.1::l) ?_ ?_))))
 refine aO (aH (lI R (aC (aJ (eB ?_)))))
 obtain ⟨e1,aa,a9⟩:=bd b
 refine bC (A:=HH) aa (fun s a=>[(1,(iv g)),(2,(sc A6 J D6)),(3,(pt b7 0)),(7,(.slice a.1 a.2.1 a.2.2)),(8,(iv s.2))]) (fun s a=>ow kT3 3 (.slice a.1 a.2.1 a.2.2) s.1::l) (A8,([]:List Int).length,D8) (aS R) (fun w s=>s) ?_
 rintro ⟨i,tu⟩ ⟨L,a5,O⟩ σ1 a0 b a8
 replace b:Z0u_L1 t1 g J i tu=some a0:=b
 unfold Z0u_L1 at b
 refine bJ 0 aB (fun (hn:a5=i.length)=>?_)
 subst hn
 refine aO (aO ?_)
 obtain ⟨q,b⟩:=gd b
 refine aH (lI R (lO (fV 0 iP R) (lO (gH 1 cT R R R) (lI R (bB 2 aA (show 0<t1.Dims.length by have:=q; omega) (fun E o26 ha=>?_))))))
 subst ha
 refine lO (eI bM cC R R q) (lO (gI 2 fM aA R q) (lO (nR R R) (aC (aJ ?_))))
 rcases cR b with ⟨m,b⟩|⟨m,b⟩
 refine cG R m (dL (aJ (aO (eB ?_))))
 obtain ⟨F,Y,b⟩:=bd b
 obtain ⟨j,Z,b⟩:=bd b
 obtain ⟨U,b⟩:=gd b
 refine cZ 10 [0] bN (fun ht hn=>(dR 0 R (vS R) (hS:=(sL [0])) (dR 1 R (vz (.agg [(sc (ad E o26) t1.Dims D2),(sc A3 t1.Data D3)].toArray) (eC 0 fF bR R R R R)) (hS:=(sL [0])) (dR 2 R (vS R) (hS:=(sL [0])) (dR 3 R (vI R) (hS:=(sL [0])) (dR 4 R (vI R) (hS:=(sL [0])) (d1 5 R (lM (RR kT3 A6 D6 J::OO kT3 3 L O i::l) (fun w s=>(s.d 4 R)) ?_))))))))
 refine lC 1 kx R (Z0h_ok Y) R ?_
 rintro ⟨u,a6,D⟩
 refine lN (ow kT3 3 (.slice u a6 D) F::_::l) ?_
 refine aL 0 aB ?_
 rintro rfl
 refine aC (aE (sL [1,0]) (d1 6 R (lM (ow _ _ _ _::RR kT3 (ad E o26) D2 t1.Dims::RR kT3 A3 D3 t1.Data::ow _ _ _ _::l) (fun w s=>(((s.d 3 R).d 5 R).e 4 [2,1,0,3])) ?_)))
 refine lC 3 mN R (FnOk.lends (A':=[OO kT3 3 u D F]) (A:=[RR kT3 u D F]) (B:=[RR kT3 (ad E o26) D2 t1.Dims,RR kT3 A3 D3 t1.Data]) (FnOk.perm (Z14_ok Z) (Pre':=[RR kT3 u D F,RR kT3 (ad E o26) D2 t1.Dims,RR kT3 A3 D3 t1.Data]) (fun _ _ _ s=>(s.e 3 [1,2,0]))) ⟨aX,trivial⟩ (fun _=>trivial)) R ?_
 rintro _
 refine lN (_::_::l) ?_
 refine aC (aE (sL [1,0]) (d1 7 R (bQ (K:=kT3) (xs:=([j]:List Int)) (vs:=[(iv j)]) 0 R R bM cC gR R R R R R R ?_ R (fun a1 a3=>?_))))
 exact fun I h s=>(gL).list [((),j)] I h s
 refine lN (OO kT3 3 a1 a3 ([j]:List Int)::_::_::l) ?_
 refine aC (aE (sL [2,1,0]) (d1 8 R (lM (ow _ _ _ _::ow _ _ _ _::ow _ _ _ _::l) (fun w s=>(s.e 3 [2,0,1])) ?_)))
 refine eF (K:=kT3) 17592186044416 R R bM cC kc (Zr.zk zT3 gR) R R R R R R dP U (fun M T=>(lN (OO kT3 3 M T (i++([j]:List Int))::_::l) ?_))
 refine aC (aE (sL [1,0]) (dR 9 R (vS R) (hS:=(sL [1,0])) (dD (eJ (aJ (aH (lI R (lO (lF R R) (lI R (aC ?_))))))))))
 obtain rfl:=so b
 exact qA (M,(i++([j]:List Int)).length,T) (fun w s=>(s.e 2 [0]))
 refine bP R m (j5 (fB ?_))
 obtain rfl:=so b
 obtain rfl:=a8 _ R
 have b:=a9
 refine fB (hT ?_)
 exact qI (i,(L,i.length,O)) b (fun w s=>s)
 rintro ⟨G,⟨a2,a7,a4⟩⟩ σ1 b
 replace b:Z0u_J1 G=some r:=b
 unfold Z0u_J1 at b
 refine bJ 0 aB (fun (hn:a7=G.length)=>?_)
 subst hn
 refine aO (aH (lS R (lS R (aC (aJ (bY ?_))))))
 obtain rfl:=so b
 exact qF (a2,G.length,a4) (fun w s=>(s.e 5 [0]))
theorem Za_ok  {t1:Tensor}{l:Int}{r:Tensor}(g:Za t1 l=some r) :
 FnOk Tryz.prog 80 [(.agg [(.slice A2 N2 D2),(.slice A3 N3 D3)].toArray),(iv l)] [aN kT3 (.slice A2 N2 D2) t1.Dims,aN kT3 (.slice A3 N3 D3) t1.Data] (fun (h:HH×HH)=>((.agg [(s3 h.1),(s3 h.2)].toArray),[ow kT3 3 (s3 h.1) r.Dims,ow kT3 3 (s3 h.2) r.Data])):=by
 unfold Za at g
 refine aQ Tryz.func80 R 75 R R fun C V=>?_
 refine cL 0 aA ?_
 rintro rfl
 refine cL 1 aA ?_
 rintro rfl
 let W0:=RR kT3 A2 D2 t1.Dims::RR kT3 A3 D3 t1.Data::V
 refine cN W0 ?_
 refine aR ?_
 refine eA R fun b5=>?_
 refine bD R R dM (fun O=>(aC ?_))
 let W1:=aI b5 [(sc A2 t1.Dims D2),(sc A3 t1.Data D3)] 58::W0
 refine aP ?_
 obtain ⟨r7,av,g⟩:=bd g
 refine aP ?_
 refine lM _ (fun w s=>(((s.d 2 R).d 4 R).e 3 [1,0,2])) ?_
 refine lC 2 o5 R (Z1d_ok av) R ?_
 rintro _
 refine aP ?_
 split at g
 refine aP ?_
 refine lO (vz (.agg [(.slice none 0 0),(.slice none 0 0)].toArray) (aW gM dM R R)) (aK 0 R R bR R R R R R R (aC (aJ (bY (cE ?_)))))
 cases g
 exact qS ((none,0,0),(none,0,0)) (fun w s=>(((s.nilo kT3 3).nilo kT3 3).e 6 [1,0]))
 refine bF ?_
 obtain ⟨b,ag,g⟩:=bd g
 refine aP ?_
 refine lM _ (fun w s=>(s.d 2 R)) ?_
 refine lC 1 ng R (Z0g_ok ag) R ?_
 rintro ⟨⟨A12,N12,D12⟩,⟨i,b1,j⟩⟩
 refine aL 0 aB ?_
 rintro rfl
 refine aL 1 aB ?_
 rintro rfl
 refine bD R R dM (fun m=>(aK 0 R R bR R R R R R R (lN (aI m [(sc A12 b.Dims D12),(sc i b.Data j)] 58::_::_::_::W1) ?_)))
 refine aP ?_
 refine bA (A:=((List Int))×(Unit)) (fun a=>Za_J9 b a.1=some r) (fun a=>[(4,(pt O 0)),(5,(pt m 0))]) (fun a=>aI O [(.slice none 0 0),(.slice none 0 0)] 58::aI m [(sc A12 b.Dims D12),(sc i b.Data j)] 58::OO kT3 3 A12 D12 b.Dims::ow kT3 3 (.slice i b.Data.length j) a.1::W1) ?_ ?_
 refine bT ?_
 obtain ⟨e1,ar,ap⟩:=bd g
 refine bC (A:=Unit) ar (fun s a=>[(1,(iv l)),(2,(pt b5 0)),(4,(pt O 0)),(5,(pt m 0)),(6,(iv s.2))]) (fun s a=>aI O [(.slice none 0 0),(.slice none 0 0)] 58::aI m [(sc A12 b.Dims D12),(sc i b.Data j)] 58::OO kT3 3 A12 D12 b.Dims::ow kT3 3 (.slice i b.Data.length j) s.1::W1) () (aS R) (tE 4 [3,0,1,2]) ?_
 rintro ⟨M,L⟩ _ σ1 a3 g an
 dsimp only [Za_L1] at g
 refine cW ?_
 split at g
 refine bF ?_
 refine bA (A:=((List Int))×(Unit)) (fun a=>Za_J8 L a.1=some a3) (fun a=>[(1,(iv l)),(2,(pt b5 0)),(4,(pt O 0)),(5,(pt m 0)),(6,(iv L))]) (fun a=>aI O [(.slice none 0 0),(.slice none 0 0)] 58::aI m [(sc A12 b.Dims D12),(sc i b.Data j)] 58::OO kT3 3 A12 D12 b.Dims::ow kT3 3 (.slice i b.Data.length j) a.1::W1) ?_ ?_
 refine aR ?_
 obtain ⟨D,ah,g⟩:=bd g
 refine bF ?_
 refine lM _ (fun w s=>(s.d 5 R)) ?_
 refine lC 1 ld R (Zi_ok ah) R ?_
 rintro ⟨F,b2,G⟩
 refine aL 0 aB ?_
 rintro rfl
 refine bF ?_
 obtain ⟨E,ai,g⟩:=bd g
 refine bF ?_
 refine lM _ (fun w s=>(((s.d 6 R).d 8 R).e 7 [2,1,0,3,4,5,6])) ?_
 refine lC 3 ya R (FnOk.lends (A':=[OO kT3 3 F G D]) (A:=[RR kT3 F G D]) (B:=[RR kT3 A2 D2 t1.Dims,RR kT3 A3 D3 t1.Data]) (FnOk.perm (Z0u_ok ai) (Pre':=[RR kT3 F G D,RR kT3 A2 D2 t1.Dims,RR kT3 A3 D3 t1.Data]) (fun _ _ _ s=>(s.e 3 [1,2,0]))) ⟨aX,trivial⟩ (fun _=>⟨(bK j0),trivial⟩)) R ?_
 rintro ⟨al,b3,am⟩
 refine aL 1 aB ?_
 rintro rfl
 refine cO ?_
 refine bA (A:=(Bool)×(Unit)) (fun a=>Za_J7 b M L a.1=some a3) (fun a=>[(1,(iv l)),(2,(pt b5 0)),(4,(pt O 0)),(5,(pt m 0)),(6,(iv L)),(9,(.bool a.1))]) (fun a=>aI O [(.slice none 0 0),(.slice none 0 0)] 58::aI m [(sc A12 b.Dims D12),(sc i b.Data j)] 58::OO kT3 3 A12 D12 b.Dims::ow kT3 3 (.slice i b.Data.length j) M::W1) ?_ ?_
 refine bT ?_
 obtain ⟨e2,au,aq⟩:=bd g
 refine bC (A:=HH) au (fun s a=>[(1,(iv l)),(2,(pt b5 0)),(4,(pt O 0)),(5,(pt m 0)),(6,(iv L)),(7,(sc F D G)),(8,(s3 a)),(9,(.bool s.1)),(10,(iv s.2))]) (fun s a=>aI O [(.slice none 0 0),(.slice none 0 0)] 58::aI m [(sc A12 b.Dims D12),(sc i b.Data j)] 58::OO kT3 3 A12 D12 b.Dims::ow kT3 3 (.slice i b.Data.length j) M::OO kT3 3 F G D::ow kT3 3 (s3 a) E::W1) (al,E.length,am) (aS R) (fun w s=>(s.f 6 [2,4,0,2])) ?_
 rintro ⟨u,a0⟩ ⟨aw,aa,Y⟩ σ1 aj g ao
 dsimp only [Za_L2] at g
 refine bJ 5 aB (fun (hn:aa=E.length)=>?_)
 subst hn
 refine cO ?_
 split at g
 refine bF ?_
 refine bA (A:=(Bool)×(HH)) (fun a=>Za_J6 a0 a.1=some aj) (fun a=>[(1,(iv l)),(2,(pt b5 0)),(4,(pt O 0)),(5,(pt m 0)),(6,(iv L)),(7,(sc F D G)),(8,(s3 a.2)),(9,(.bool a.1)),(10,(iv a0))]) (fun a=>aI O [(.slice none 0 0),(.slice none 0 0)] 58::aI m [(sc A12 b.Dims D12),(sc i b.Data j)] 58::OO kT3 3 A12 D12 b.Dims::ow kT3 3 (.slice i b.Data.length j) M::OO kT3 3 F G D::ow kT3 3 (s3 a.2) E::W1) ?_ ?_
 refine aR ?_
 obtain ⟨a4,g⟩:=gd g
 obtain ⟨a1,a6,g⟩:=bd g
 refine aP ?_
 refine bB 5 aB (show 0<E.length by have:=a4; omega) (fun Z o106 ha=>?_)
 subst ha
 refine aR ?_
 refine lC 0 o3 R (Z1b_ok a6) R ?_
 rintro _
 refine bF ?_
 obtain ⟨a5,g⟩:=gd g
 obtain ⟨a2,a7,g⟩:=bd g
 refine bF ?_
 refine bB 8 aA (show 0<t1.Data.length by have:=a5; omega) (fun ax o111 ha=>?_)
 subst ha
 refine aR ?_
 refine lC 0 o3 R (Z1b_ok a7) R ?_
 rintro _
 refine bF ?_
 obtain ⟨T,g⟩:=gd g
 refine cQ [(1,(iv l)),(2,(pt b5 0)),(4,(pt O 0)),(5,(pt m 0)),(6,(iv L)),(7,(sc F D G)),(8,(sc (ad Z o106) E Y)),(9,(.bool u)),(10,(iv a0)),(68,(.bool ((decide (a1>a2))||((a1==a2)&&(decide (a0<(ix D l)))))))] (aI O [(.slice none 0 0),(.slice none 0 0)] 58::aI m [(sc A12 b.Dims D12),(sc i b.Data j)] 58::OO kT3 3 A12 D12 b.Dims::ow kT3 3 (.slice i b.Data.length j) M::OO kT3 3 F G D::OO kT3 3 (ad Z o106) Y E::W1) ?_ ?_
 refine cB ?_
 rcases bo (decide (a1>a2)) with J | J
 refine ka ?_
 exact qj tI
 refine bF ?_
 rcases bo (a1==a2) with q | q
 refine aP ?_
 refine bB 4 aB (show 0<D.length by have:=(T J q); omega) (fun ay o116 ha=>?_)
 subst ha
 refine lW (dI q) (eI bM cC R R (T J q)) (lW (dI q) (gI 4 fM aB R (T J q)) ?_)
 refine bF ?_
 exact qj tI
 refine cO ?_
 exact qj tI
 rintro σ1
 refine bU ?_
 split at g
 refine cB ?_
 exact qI (false,((ad Z o106),E.length,Y)) g tI
 refine aP ?_
 exact qI (u,((ad Z o106),E.length,Y)) g tI
 rintro ⟨ac,⟨a8,ab,a9⟩⟩ σ1 g
 dsimp only [Za_J6] at g
 refine bJ 5 aB (fun (hn:ab=E.length)=>?_)
 subst hn
 refine cB ?_
 cases g
 exact qA (a8,E.length,a9) tI
 refine aP ?_
 cases g
 obtain rfl:=ao _ R
 have g:=aq
 refine aR ?_
 exact qI (u,()) g (fun w s=>(s.f 6 [0,4]))
 rintro ⟨ae,_⟩ σ1 g
 dsimp only [Za_J7] at g
 refine cB ?_
 split at g
 refine bU ?_
 obtain ⟨U,g⟩:=gd g
 refine bF ?_
 refine bB 3 aB (show 0<b.Data.length by have:=U; omega) (fun az o129 ha=>?_)
 subst ha
 refine bU ?_
 refine lM _ (tE 4 [3,0,1,2]) ?_
 refine dZ (K:=kT3) (x':=(1:Int)) 0 L R R cC R R U.1 U.2 ?_ ?_
 exact fun I h s=>(gL).put I h () (1:Int) s
 refine aR ?_
 exact qI ((M.set L.toNat (1:Int)),()) g (tE 4 [1,2,3,0])
 refine aP ?_
 exact qI (M,()) g tI
 rintro ⟨b0,_⟩ σ1 g
 dsimp only [Za_J8] at g
 refine cB ?_
 cases g
 exact qA () tI
 refine aP ?_
 cases g
 obtain rfl:=an _ R
 have g:=ap
 refine aR ?_
 exact qI (M,()) g tI
 rintro ⟨ak,_⟩ σ1 g
 dsimp only [Za_J9] at g
 refine aP ?_
 refine aK 0 R R bR R R R R R R (lN (aI O [(sc A12 b.Dims D12),(sc i b.Data j)] 58::aI m [(sc A12 b.Dims D12),(sc i b.Data j)] 58::_::ow kT3 3 (.slice i b.Data.length j) ak::W1) ?_)
 refine aP ?_
 cases g
 exact qS ((A12,b.Dims.length,D12),(i,b.Data.length,j)) (tE 7 [2,3])
theorem Z0t_ok  {p1:aM}{r:Bool}(b:Z0t p1=some r) :
 FnOk Tryz.prog 142 [(aD p1)] [] (fun (h:Unit)=>((.bool r),[])):=by
 unfold Z0t at b
 refine aQ Tryz.func142 R 23 R R fun C V=>?_
 refine cN V ?_
 refine bT ?_
 refine bA (A:=(Unit)×(Unit)) (fun a=>Z0t_J1 p1=some r) (fun a=>[(0,(aD p1))]) (fun a=>V) ?_ ?_
 refine bT ?_
 obtain ⟨u,m,l⟩:=bd b
 refine bC (A:=Unit) m (fun s a=>[(0,(aD p1)),(3,(iv s))]) (fun s a=>V) () (aS R) tI ?_
 rintro i _ σ1 q b j
 dsimp only [Z0t_L1] at b
 refine bF ?_
 refine lO (vp (aD p1) R) (lO (vz (il p1) (dH fL R)) ?_)
 refine aP ?_
 split at b
 refine bT ?_
 obtain ⟨g,b⟩:=gd b
 refine cQ [(0,(aD p1)),(3,(iv i)),(19,(.bool ((decide ((bt p1 i)<97))||(decide ((bt p1 i)>122)))))] (V) ?_ ?_
 refine aH (lO (vp (aD p1) R) (lI R (lO (vz (.int .u8 (bt p1 i)) (cH fL R R g.1 g.2)) (lO (vp (.bool (decide ((bt p1 i)<97))) R) (lB R ?_)))))
 rcases bo (decide ((bt p1 i)<97)) with e | e
 refine bT ?_
 exact qj tI
 refine lW (bZ e) (vp (aD p1) R) (lW (bZ e) (vI R) (lW (bZ e) (vz (.int .u8 (bt p1 i)) (cH fL R R g.1 g.2)) (lW (bZ e) (vp (.bool (decide ((bt p1 i)>122))) R) ?_)))
 refine aR ?_
 exact qj tI
 rintro σ1
 refine bU ?_
 split at b
 refine cO ?_
 cases b
 obtain rfl:=j _ R
 have b:=l
 refine aP ?_
 cases b
 exact qF () tI
 refine cO ?_
 cases b
 exact qA () tI
 refine aP ?_
 cases b
 obtain rfl:=j _ R
 have b:=l
 refine aR ?_
 exact qI ((),()) b tI
 rintro ⟨_,_⟩ σ1 b
 dsimp only [Z0t_J1] at b
 refine aR ?_
 refine lO (vp (aD p1) R) (lO (vz (il p1) (dH fL R)) ?_)
 refine cB ?_
 cases b
 exact qF () tI
theorem Z0s_ok  {p1:aM}{j:Int}{r:Bool}(b:Z0s p1 j=some r) :
 FnOk Tryz.prog 143 [(aD p1),(.int .u8 j)] [] (fun (h:Unit)=>((.bool r),[])):=by
 unfold Z0s at b
 refine aQ Tryz.func143 R 17 R R fun C V=>?_
 refine cN V ?_
 refine bT ?_
 refine bA (A:=(Unit)×(Unit)) (fun a=>Z0s_J1=some r) (fun a=>[]) (fun a=>V) ?_ ?_
 refine bT ?_
 obtain ⟨u,l,i⟩:=bd b
 refine bC (A:=Unit) l (fun s a=>[(0,(aD p1)),(1,(.int .u8 j)),(5,(iv s))]) (fun s a=>V) () (aS R) tI ?_
 rintro m _ σ1 q b e
 dsimp only [Z0s_L1] at b
 refine bF ?_
 refine lO (vp (aD p1) R) (lO (vz (il p1) (dH fL R)) ?_)
 refine aP ?_
 split at b
 refine bT ?_
 obtain ⟨g,b⟩:=gd b
 refine aH (lO (vp (aD p1) R) (lI R (lO (vz (.int .u8 (bt p1 m)) (cH fL R R g.1 g.2)) (lI R (lO (vp (.bool ((bt p1 m)==j)) R) ?_)))))
 refine aR ?_
 split at b
 refine cO ?_
 cases b
 obtain rfl:=e _ R
 have b:=i
 refine aP ?_
 cases b
 exact qF () tI
 refine cO ?_
 cases b
 exact qA () tI
 refine aP ?_
 cases b
 obtain rfl:=e _ R
 have b:=i
 refine aR ?_
 exact cI ((),()) b trivial tI
 rintro ⟨_,_⟩ σ1 b
 dsimp only [Z0s_J1] at b
 refine bT ?_
 cases b
 exact qF () tI
theorem Z0_ok  {b:aM}{r:(List aM)×aM×Bool}(g:Z0 b=some r) :
 FnOk Tryz.prog 109 [(aD b)] [] (fun (h:HH)=>((.tuple [(s3 h),(aD r.2.1),(.bool r.2.2)].toArray),[ow dK 9 (s3 h) r.1])):=by
 unfold Z0 at g
 refine aQ Tryz.func109 R 124 R R fun C V=>?_
 refine cN V ?_
 refine aP ?_
 refine lO (vp (aD ([]:aM)) R) ?_
 refine cB ?_
 refine bQ (K:=dK) (xs:=([]:List aM)) (vs:=[]) 0 R R lg qY yb R R R R R R ?_ R (fun A2 D2=>?_)
 exact fun I h s=>(xr).list [] I h s
 refine cO ?_
 refine bA (A:=(Int)×(Unit)) (fun a=>Z0_J1 b a.1=some r) (fun a=>[(0,(aD b)),(5,(sc A2 ([]:List aM) D2)),(6,(iv a.1))]) (fun a=>OO dK 9 A2 D2 ([]:List aM)::V) ?_ ?_
 refine bU ?_
 obtain ⟨e1,b6,b3⟩:=bd g
 refine bC (A:=Unit) b6 (fun s a=>[(0,(aD b)),(5,(sc A2 ([]:List aM) D2)),(6,(iv s))]) (fun s a=>OO dK 9 A2 D2 ([]:List aM)::V) () (aS R) tI ?_
 rintro T _ σ1 be g b0
 dsimp only [Z0_L1] at g
 refine aR ?_
 obtain ⟨a8,g⟩:=gd g
 refine cQ [(0,(aD b)),(5,(sc A2 ([]:List aM) D2)),(6,(iv T)),(28,(.bool ((decide ((aG (T+1))<(b.length:Int)))&&(!((sub b T (aG (T+2)))==str0)))))] (OO dK 9 A2 D2 ([]:List aM)::V) ?_ ?_
 refine aP ?_
 refine lO (vp (aD b) R) (lO (vz (il b) (dH fL R)) ?_)
 refine aR ?_
 rcases bo (decide ((aG (T+1))<(b.length:Int))) with L | L
 refine lW (dI L) (vp (aD b) R) ?_
 refine aP ?_
 refine lW (dI L) (vz (aD (sub b T (aG (T+2)))) (hG T (aG (T+2)) fL R R R (a8 L).1 (a8 L).2.1 (a8 L).2.2)) (lW (dI L) (vz (.bool (!((sub b T (aG (T+2)))==str0))) (j7 R R R)) ?_)
 refine aR ?_
 exact qj tI
 refine cU ?_
 exact qj tI
 rintro σ1
 refine bU ?_
 split at g
 refine cW ?_
 cases g
 exact qA () tI
 refine aP ?_
 cases g
 obtain rfl:=b0 _ R
 have g:=b3
 refine aR ?_
 exact qI (T,()) g tI
 rintro ⟨j,_⟩ σ1 g
 dsimp only [Z0_J1] at g
 refine cB ?_
 refine lO (vp (aD b) R) (lO (vz (il b) (dH fL R)) ?_)
 refine aP ?_
 split at g
 refine cB ?_
 refine lO (vp (aD ([]:aM)) R) ?_
 refine cB ?_
 cases g
 exact hN (A2,([]:List aM).length,D2) tI
 refine cB ?_
 refine bQ (K:=dK) (xs:=([]:List aM)) (vs:=[]) 0 R R lg qY yb R R R R R R ?_ R (fun ar av=>?_)
 exact fun I h s=>(xr).list [] I h s
 refine cO ?_
 refine bA (A:=((List aM))×(HH)) (fun a=>Z0_J4 b j a.1=some r) (fun a=>[(0,(aD b)),(5,(sc A2 ([]:List aM) D2)),(6,(iv j)),(7,(s3 a.2))]) (fun a=>OO dK 9 A2 D2 ([]:List aM)::ow dK 9 (s3 a.2) a.1::V) ?_ ?_
 refine bT ?_
 obtain ⟨e2,b7,b4⟩:=bd g
 refine bC (A:=HH) b7 (fun s a=>[(0,(aD b)),(5,(sc A2 ([]:List aM) D2)),(6,(iv j)),(7,(s3 a)),(8,(iv s.2.1)),(9,(iv s.2.2))]) (fun s a=>OO dK 9 A2 D2 ([]:List aM)::ow dK 9 (s3 a) s.1::V) (ar,([]:List aM).length,av) (aS R) (tE 2 [1,0]) ?_
 rintro ⟨i,E,B⟩ ⟨a4,ax,a5⟩ σ1 an g b1
 dsimp only [Z0_L2] at g
 refine bJ 1 aB (fun (hn:ax=i.length)=>?_)
 subst hn
 refine cU ?_
 split at g
 refine bF ?_
 refine bA (A:=((List aM)×Int)×(HH)) (fun a=>Z0_J3 B a.1.1 a.1.2=some an) (fun a=>[(0,(aD b)),(5,(sc A2 ([]:List aM) D2)),(6,(iv j)),(7,(s3 a.2)),(8,(iv a.1.2)),(9,(iv B))]) (fun a=>OO dK 9 A2 D2 ([]:List aM)::ow dK 9 (s3 a.2) a.1.1::V) ?_ ?_
 refine aR ?_
 obtain ⟨a6,g⟩:=gd g
 refine cQ [(0,(aD b)),(5,(sc A2 ([]:List aM) D2)),(6,(iv j)),(7,(sc a4 i a5)),(8,(iv E)),(9,(iv B)),(51,(.bool ((B==j)||((bt b B)==44))))] (OO dK 9 A2 D2 ([]:List aM)::OO dK 9 a4 a5 i::V) ?_ ?_
 refine cB ?_
 rcases bo (B==j) with D | D
 refine bT ?_
 exact qj tI
 refine lW (bZ D) (vp (aD b) R) (lW (bZ D) (vI R) (lW (bZ D) (vz (.int .u8 (bt b B)) (cH fL R R (a6 D).1 (a6 D).2)) (lW (bZ D) (vp (.bool ((bt b B)==44)) R) ?_)))
 refine aR ?_
 exact qj tI
 rintro σ1
 refine bU ?_
 split at g
 refine aR ?_
 obtain ⟨Z,g⟩:=gd g
 obtain ⟨ah,g⟩:=gd g
 refine aR ?_
 refine lO (vp (aD b) R) (lI R (lI R (lO (vz (aD (sub b E B)) (hG E B fL R R R Z.1 Z.2.1 Z.2.2)) (bQ (K:=dK) (xs:=([(sub b E B)]:List aM)) (vs:=[(aD (sub b E B))]) 0 R R lg qY yb R R R R R R ?_ R (fun bh bi=>?_)))))
 exact fun I h s=>(xr).list [((),(sub b E B))] I h s
 refine lM _ (tE 3 [2,0,1]) ?_
 refine eF (K:=dK) 8796093022208 R R lg qY Bw (Zr.zk zT9 yb) R R R R R R dP ah (fun ab ac=>(lN (OO dK 9 ab ac (i++([(sub b E B)]:List aM))::_::V) ?_))
 refine cO ?_
 exact qI (((i++([(sub b E B)]:List aM)),(aG (B+1))),(ab,(i++([(sub b E B)]:List aM)).length,ac)) g (tE 2 [1,0])
 refine aP ?_
 exact qI ((i,E),(a4,i.length,a5)) g tI
 rintro ⟨⟨F,bl⟩,⟨au,ay,aw⟩⟩ σ1 g
 dsimp only [Z0_J3] at g
 refine bJ 1 aB (fun (hn:ay=F.length)=>?_)
 subst hn
 refine cB ?_
 cases g
 exact qA (au,F.length,aw) tI
 refine aP ?_
 cases g
 obtain rfl:=b1 _ R
 have g:=b4
 refine aR ?_
 exact qI (i,(a4,i.length,a5)) g tI
 rintro ⟨e,⟨q,az,u⟩⟩ σ1 g
 dsimp only [Z0_J4] at g
 refine bJ 1 aB (fun (hn:az=e.length)=>?_)
 subst hn
 refine bU ?_
 obtain ⟨a0,g⟩:=gd g
 refine aH (lO (vp (aD b) R) (lI R (lO (lF R R) (lO (vz (aD (sub b (aG (j+2)) (b.length:Int))) (hG (aG (j+2)) (b.length:Int) fL R R R a0.1 a0.2.1 a0.2.2)) (lO (vp (aD (sub b (aG (j+2)) (b.length:Int))) R) ?_)))))
 refine bF ?_
 obtain ⟨bb,ak,g⟩:=bd g
 refine cQ [(5,(sc A2 ([]:List aM) D2)),(7,(sc q e u)),(10,(aD (sub b (aG (j+2)) (b.length:Int)))),(72,(.bool ((decide ((e.length:Int)>6))||(!bb))))] (OO dK 9 A2 D2 ([]:List aM)::OO dK 9 q u e::V) ?_ ?_
 refine cB ?_
 rcases bo (decide ((e.length:Int)>6)) with O | O
 refine cB ?_
 exact qj tI
 refine lW (bZ O) (vp (aD (sub b (aG (j+2)) (b.length:Int))) R) (bS 0 R (bZ O) uU R (Z0t_ok (bG ak (cK O))) R ?_)
 rintro _
 refine aP ?_
 exact qj tI
 rintro σ1
 refine bU ?_
 split at g
 refine cB ?_
 refine lO (vp (aD ([]:aM)) R) ?_
 refine cB ?_
 cases g
 exact hN (A2,([]:List aM).length,D2) (tE 2 [0])
 refine bF ?_
 refine bA (A:=(Unit)×(Unit)) (fun a=>Z0_J5 b j e=some r) (fun a=>[(5,(sc A2 ([]:List aM) D2)),(7,(sc q e u)),(10,(aD (sub b (aG (j+2)) (b.length:Int))))]) (fun a=>OO dK 9 A2 D2 ([]:List aM)::OO dK 9 q u e::V) ?_ ?_
 refine bT ?_
 obtain ⟨e3,b8,ai⟩:=bd g
 refine bC (A:=Unit) b8 (fun s a=>[(5,(sc A2 ([]:List aM) D2)),(7,(sc q e u)),(10,(aD (sub b (aG (j+2)) (b.length:Int)))),(11,(iv s))]) (fun s a=>OO dK 9 A2 D2 ([]:List aM)::OO dK 9 q u e::V) () (aS R) tI ?_
 rintro am _ σ1 bf g ae
 dsimp only [Z0_L3] at g
 refine cO ?_
 split at g
 refine bT ?_
 obtain ⟨a1,g⟩:=gd g
 obtain ⟨bk,al,g⟩:=bd g
 refine aP ?_
 refine bB 1 aB (show 0<e.length by have:=a1; omega) (fun bj o62 ha=>?_)
 subst ha
 refine bU ?_
 refine lO (vz (aD (ix e am)) (jz (K:=dK) (fo:=0) (pr:=fun x=>(aD x)) 1 am qo (dT9.leaf fun _ _=>R) aB R a1.1 a1.2)) (lC 0 uU R (Z0t_ok al) R ?_)
 rintro _
 refine aP ?_
 split at g
 refine cB ?_
 refine lO (vp (aD ([]:aM)) R) ?_
 refine bT ?_
 cases g
 obtain rfl:=ae _ R
 have g:=ai
 refine aP ?_
 cases g
 exact hN (A2,([]:List aM).length,D2) (tE 2 [0])
 refine cO ?_
 cases g
 exact qA () tI
 refine aP ?_
 cases g
 obtain rfl:=ae _ R
 have g:=ai
 refine aR ?_
 exact qI ((),()) g tI
 rintro ⟨_,_⟩ σ1 g
 dsimp only [Z0_J5] at g
 refine aO (bA (A:=(Unit)×(Unit)) (fun a=>Z0_J8 b j e=some r) (fun a=>[(7,(sc q e u)),(10,(aD (sub b (aG (j+2)) (b.length:Int))))]) (fun a=>OO dK 9 q u e::V) ?_ ?_)
 refine bT ?_
 obtain ⟨e4,b9,aj⟩:=bd g
 refine bC (A:=Unit) b9 (fun s a=>[(5,(sc A2 ([]:List aM) D2)),(7,(sc q e u)),(10,(aD (sub b (aG (j+2)) (b.length:Int)))),(12,(iv s))]) (fun s a=>OO dK 9 A2 D2 ([]:List aM)::OO dK 9 q u e::V) () (aS R) tI ?_
 rintro J _ σ1 ao g ag
 dsimp only [Z0_L4] at g
 refine bF ?_
 refine lO (vp (aD (sub b (aG (j+2)) (b.length:Int))) R) (lO (vz (il (sub b (aG (j+2)) (b.length:Int))) (dH fL R)) ?_)
 refine aP ?_
 split at g
 refine hW ?_
 refine bA (A:=(Bool)×(Unit)) (fun a=>Z0_J7 b j J a.1=some ao) (fun a=>[(5,(sc A2 ([]:List aM) D2)),(7,(sc q e u)),(10,(aD (sub b (aG (j+2)) (b.length:Int)))),(12,(iv J)),(13,(.bool a.1))]) (fun a=>OO dK 9 A2 D2 ([]:List aM)::OO dK 9 q u e::V) ?_ ?_
 refine bT ?_
 obtain ⟨e5,ba,b5⟩:=bd g
 refine bC (A:=Unit) ba (fun s a=>[(5,(sc A2 ([]:List aM) D2)),(7,(sc q e u)),(10,(aD (sub b (aG (j+2)) (b.length:Int)))),(12,(iv J)),(13,(.bool s.1)),(14,(iv s.2))]) (fun s a=>OO dK 9 A2 D2 ([]:List aM)::OO dK 9 q u e::V) () (aS R) tI ?_
 rintro ⟨a3,a2⟩ _ σ1 bg g b2
 dsimp only [Z0_L5] at g
 refine cO ?_
 split at g
 refine cB ?_
 obtain ⟨G,g⟩:=gd g
 obtain ⟨U,g⟩:=gd g
 obtain ⟨ap,a9,g⟩:=bd g
 refine cQ [(5,(sc A2 ([]:List aM) D2)),(7,(sc q e u)),(10,(aD (sub b (aG (j+2)) (b.length:Int)))),(12,(iv J)),(13,(.bool (a3||ap))),(14,(iv a2))] (OO dK 9 A2 D2 ([]:List aM)::OO dK 9 q u e::V) ?_ ?_
 rcases bo a3 with m | m
 refine cZ 12 [] bN fun ht hn=>?_
 refine tP 0 [] ?_
 refine dD ?_
 exact qj tI
 refine aY 1 aB (show 0<e.length by have:=(G m); omega) (fun bc o108 ha=>?_)
 subst ha
 refine cZ 12 [] bN fun ht hn=>?_
 refine nV 0 [] ?_
 refine dW 4 R (bZ m) (eI lg qY R R (G m)) (dW 5 R (bZ m) (vz (aD (ix e a2)) (jz (K:=dK) (fo:=0) (pr:=fun x=>(aD x)) 1 a2 qo (dT9.leaf fun _ _=>R) aB R (G m).1 (G m).2)) (dW 6 R (bZ m) (vp (aD (sub b (aG (j+2)) (b.length:Int))) R) (dW 7 R (bZ m) (vI R) (dW 8 R (bZ m) (vz (.int .u8 (bt (sub b (aG (j+2)) (b.length:Int)) J)) (cH fL R R (U m).1 (U m).2)) (d1 9 R (bS 0 R (bZ m) uV R (Z0s_ok (bG a9 (cK m))) R ?_))))))
 rintro _
 refine aC (aE (sL []) ?_)
 refine gN 10 [] ?_
 refine dD ?_
 exact qj tI
 rintro σ1
 refine dJ ?_
 cases g
 exact qA () tI
 refine aP ?_
 cases g
 obtain rfl:=b2 _ R
 have g:=b5
 refine aR ?_
 exact qI (a3,()) g tI
 rintro ⟨a7,_⟩ σ1 g
 dsimp only [Z0_J7] at g
 refine bU ?_
 obtain ⟨M,g⟩:=gd g
 obtain ⟨Y,g⟩:=gd g
 obtain ⟨aq,aa,g⟩:=bd g
 refine cQ [(5,(sc A2 ([]:List aM) D2)),(7,(sc q e u)),(10,(aD (sub b (aG (j+2)) (b.length:Int)))),(12,(iv J)),(120,(.bool ((!a7)||aq)))] (OO dK 9 A2 D2 ([]:List aM)::OO dK 9 q u e::V) ?_ ?_
 rcases bo (!a7) with l | l
 refine cZ 11 [] bN fun ht hn=>?_
 refine nX 0 [] ?_
 refine dD ?_
 exact qj tI
 refine cZ 11 [] bN fun ht hn=>?_
 refine hO 0 [] ?_
 refine dW 3 R (bZ l) (vp (aD (sub b (aG (j+2)) (b.length:Int))) R) (dW 4 R (bZ l) (vI R) (dW 5 R (bZ l) (vz (aD (sub (sub b (aG (j+2)) (b.length:Int)) (0:Int) J)) (hG (0:Int) J fL R R R (M l).1 (M l).2.1 (M l).2.2)) (dW 6 R (bZ l) (vp (aD (sub b (aG (j+2)) (b.length:Int))) R) (dW 7 R (bZ l) (vI R) (dW 8 R (bZ l) (vz (.int .u8 (bt (sub b (aG (j+2)) (b.length:Int)) J)) (cH fL R R (Y l).1 (Y l).2)) (d1 9 R (bS 0 R (bZ l) uV R (Z0s_ok (bG aa (cK l))) R ?_)))))))
 rintro _
 refine aC (aE (sL []) (dR 10 R (fK R l R) (dD ?_)))
 exact qj tI
 rintro σ1
 refine bU ?_
 split at g
 refine cB ?_
 refine lO (vp (aD ([]:aM)) R) ?_
 refine bT ?_
 cases g
 obtain rfl:=ag _ R
 have g:=aj
 refine aP ?_
 cases g
 exact hN (A2,([]:List aM).length,D2) (tE 2 [0])
 refine cO ?_
 cases g
 exact qA () tI
 refine aP ?_
 cases g
 obtain rfl:=ag _ R
 have g:=aj
 refine aR ?_
 exact qI ((),()) g (tE 2 [1])
 rintro ⟨_,_⟩ σ1 g
 dsimp only [Z0_J8] at g
 refine aP ?_
 refine lO (vp (aD (sub b (aG (j+2)) (b.length:Int))) R) (lS R (lO (vp (aD (sub b (aG (j+2)) (b.length:Int))) R) ?_))
 refine bF ?_
 cases g
 exact hN (q,e.length,u) tI
theorem Z2_ok  {b:(List aM)}{p3:aM}{j:(List (List Int))}{r:aM×(List Int)×Bool}(B:Z2 b p3 j=some r) :
 FnOk Tryz.prog 110 [(.slice A2 N2 D2),(aD p3),(.slice A5 N5 D5)] [aN dK (.slice A2 N2 D2) b,aN bL (.slice A5 N5 D5) j] (fun (h:HH)=>((.tuple [(aD r.1),(s3 h),(.bool r.2.2)].toArray),[ow kT3 3 (s3 h) r.2.1])):=by
 unfold Z2 at B
 refine aQ Tryz.func110 R 129 R R fun C V=>?_
 refine cL 0 aA ?_
 rintro rfl
 refine cL 1 aA ?_
 rintro rfl
 let W0:=RR dK A2 D2 b::RR bL A5 D5 j::V
 refine cN W0 ?_
 refine aR ?_
 refine lO (vp (aD ([]:aM)) R) ?_
 refine bT ?_
 refine lO (vp (aD p3) R) (lO (vp (aD p3) R) ?_)
 refine aP ?_
 obtain ⟨au,B⟩:=gd B
 refine aH (lO (vp (aD p3) R) (lO (vz (il p3) (dH fL R)) (fH (K:=kT3) (m:=(p3.length:Int)) (z:=(0:Int)) R R bM cC kc (Zr.zk zT3 gR) (by decide) R R au.1 au.2.1 au.2.2 (fun A7 D7=>(lS R (aC (aJ (aO (bA (A:=(aM×(List Int))×(HH)) (fun a=>Z2_J11 a.1.1 a.1.2=some r) (fun a=>[(9,(aD a.1.1)),(10,(s3 a.2))]) (fun a=>ow kT3 3 (s3 a.2) a.1.2::W0) ?_ ?_)))))))))
 refine bT ?_
 obtain ⟨e1,bn,av⟩:=bd B
 refine bC (A:=HH×HH×HH) bn (fun s a=>[(0,(s3 a.1)),(2,(s3 a.2.1)),(9,(aD s.1)),(10,(s3 a.2.2)),(11,(iv s.2.2))]) (fun s a=>aN dK (s3 a.1) b::aN bL (s3 a.2.1) j::ow kT3 3 (s3 a.2.2) s.2.1::W0) ((A2,b.length,D2),(A5,j.length,D5),(A7,(List.replicate (p3.length:Int).toNat (0:Int)).length,D7)) (aS R) (fun w s=>(((s.d 1 R).d 3 R).e 3 [1,0,2])) ?_
 rintro ⟨a7,F,l⟩ ⟨⟨bs,b2,J⟩,⟨bu,b3,L⟩,⟨ac,b4,ag⟩⟩ σ1 bj B an
 dsimp only [Z2_L1] at B
 refine bJ 0 aA (fun (hn:b2=b.length)=>?_)
 subst hn
 refine bJ 1 aA (fun (hn:b3=j.length)=>?_)
 subst hn
 refine bJ 2 aB (fun (hn:b4=F.length)=>?_)
 subst hn
 refine cO ?_
 split at B
 refine bF ?_
 refine bA (A:=(aM×(List Int))×(HH×HH×HH)) (fun a=>Z2_J10 l a.1.1 a.1.2=some bj) (fun a=>[(0,(s3 a.2.1)),(2,(s3 a.2.2.1)),(9,(aD a.1.1)),(10,(s3 a.2.2.2)),(11,(iv l))]) (fun a=>aN dK (s3 a.2.1) b::aN bL (s3 a.2.2.1) j::ow kT3 3 (s3 a.2.2.2) a.1.2::W0) ?_ ?_
 refine aP ?_
 obtain ⟨Y,B⟩:=gd B
 obtain ⟨T,B⟩:=gd B
 refine aY 1 aA (show 0<j.length by have:=Y; omega) (fun M o113 ha=>?_)
 subst ha
 refine dE (K:=bL) 1 l dT23.dec R Y.1 Y.2 ?_
 rintro ⟨bv,c1⟩
 refine aY 2 aA (show 0<b.length by have:=T; omega) (fun O o117 ha=>?_)
 subst ha
 refine cZ 11 [] bN fun ht hn=>?_
 refine hO 0 [] ?_
 refine dR 3 R (eG (fo:=0) 0 cT R R R) ?_
 refine nV 4 [] ?_
 refine dR 8 R (vz (aD (ix b l)) (jz (K:=dK) (fo:=0) (pr:=fun x=>(aD x)) 2 l qo (dT9.leaf fun _ _=>R) aA R T.1 T.2)) (dR 9 R (vz (il (ix b l)) (dH fL R)) (dR 10 R (Bo R R) (dD (aJ ?_))))
 split at B
 refine bF ?_
 refine lO (vp (aD ([]:aM)) R) ?_
 refine cU ?_
 cases B
 obtain rfl:=an _ R
 have B:=av
 refine aP ?_
 cases B
 exact hN (ac,F.length,ag) (tE 7 [4])
 refine cO ?_
 obtain ⟨e2,bp,bh⟩:=bd B
 refine bC (A:=HH) bp (fun s a=>[(0,(sc (ad O o117) b J)),(2,(sc (ad M o113) j L)),(9,(aD s.1)),(10,(s3 a)),(11,(iv l)),(12,(iv s.2.2))]) (fun s a=>RR dK (ad O o117) J b::RR bL (ad M o113) L j::ow kT3 3 (s3 a) s.2.1::W0) (ac,F.length,ag) (aS R) (fun w s=>(s.f 5 [2,3])) ?_
 rintro ⟨g,i,D⟩ ⟨Z,b5,a0⟩ σ1 am B bf
 dsimp only [Z2_L2] at B
 refine bJ 2 aB (fun (hn:b5=i.length)=>?_)
 subst hn
 refine dJ ?_
 refine lO (vz (aD (ix b l)) (jz (K:=dK) (fo:=0) (pr:=fun x=>(aD x)) 0 l qo (dT9.leaf fun _ _=>R) aA R T.1 T.2)) (lO (vz (il (ix b l)) (dH fL R)) ?_)
 refine aP ?_
 split at B
 refine hW ?_
 refine bA (A:=(Int)×(Unit)) (fun a=>Z2_J8 b j l g i D a.1=some am) (fun a=>[(0,(sc (ad O o117) b J)),(2,(sc (ad M o113) j L)),(9,(aD g)),(10,(sc Z i a0)),(11,(iv l)),(12,(iv D)),(13,(iv a.1))]) (fun a=>RR dK (ad O o117) J b::RR bL (ad M o113) L j::OO kT3 3 Z a0 i::W0) ?_ ?_
 refine bU ?_
 obtain ⟨e3,bq,bm⟩:=bd B
 refine bC (A:=Unit) bq (fun s a=>[(0,(sc (ad O o117) b J)),(2,(sc (ad M o113) j L)),(9,(aD g)),(10,(sc Z i a0)),(11,(iv l)),(12,(iv D)),(13,(iv s))]) (fun s a=>RR dK (ad O o117) J b::RR bL (ad M o113) L j::OO kT3 3 Z a0 i::W0) () (aS R) tI ?_
 rintro a3 _ σ1 c8 B bl
 dsimp only [Z2_L3] at B
 refine aR ?_
 obtain ⟨ah,B⟩:=gd B
 obtain ⟨ai,B⟩:=gd B
 refine cQ [(0,(sc (ad O o117) b J)),(2,(sc (ad M o113) j L)),(9,(aD g)),(10,(sc Z i a0)),(11,(iv l)),(12,(iv D)),(13,(iv a3)),(62,(.bool ((decide (a3<(g.length:Int)))&&((bt g a3) != (bt (ix b l) D)))))] (RR dK (ad O o117) J b::RR bL (ad M o113) L j::OO kT3 3 Z a0 i::W0) ?_ ?_
 rcases bo (decide (a3<(g.length:Int))) with E | E
 refine cZ 16 [] bN fun ht hn=>?_
 refine dR 0 R (vI R) (dR 1 R (vp (aD g) R) (dR 2 R (vz (il g) (dH fL R)) ?_))
 refine gN 3 [] ?_
 refine dW 5 R (dI E) (vp (aD g) R) (dW 6 R (dI E) (vI R) (dW 7 R (dI E) (vz (.int .u8 (bt g a3)) (cH fL R R (ah E).1 (ah E).2)) ?_))
 refine hO 8 [] ?_
 refine dW 11 R (dI E) (vz (aD (ix b l)) (jz (K:=dK) (fo:=0) (pr:=fun x=>(aD x)) 0 l qo (dT9.leaf fun _ _=>R) aA R T.1 T.2)) (dW 12 R (dI E) (vI R) (dW 13 R (dI E) (vz (.int .u8 (bt (ix b l) D)) (cH fL R R (ai E).1 (ai E).2)) (dW 14 R (dI E) (vp (.bool ((bt g a3) != (bt (ix b l) D))) R) (dR 15 R (iy R E R) (dD ?_)))))
 exact qj tI
 refine cZ 16 [] bN fun ht hn=>?_
 refine dR 0 R (vI R) (dR 1 R (vp (aD g) R) (dR 2 R (vz (il g) (dH fL R)) ?_))
 refine md 3 [] ?_
 refine dD ?_
 exact qj tI
 rintro σ1
 refine bU ?_
 split at B
 refine cW ?_
 cases B
 exact qA () tI
 refine aP ?_
 cases B
 obtain rfl:=bl _ R
 have B:=bm
 refine aR ?_
 exact qI (a3,()) B tI
 rintro ⟨a4,_⟩ σ1 B
 dsimp only [Z2_J8] at B
 refine aO (bA (A:=(aM×(List Int))×(HH)) (fun a=>Z2_J9 j l D a4 a.1.1 a.1.2=some am) (fun a=>[(0,(sc (ad O o117) b J)),(2,(sc (ad M o113) j L)),(9,(aD a.1.1)),(10,(s3 a.2)),(11,(iv l)),(12,(iv D)),(13,(iv a4))]) (fun a=>RR dK (ad O o117) J b::RR bL (ad M o113) L j::ow kT3 3 (s3 a.2) a.1.2::W0) ?_ ?_)
 refine aP ?_
 refine lO (vp (aD g) R) (lO (vz (il g) (dH fL R)) ?_)
 refine aP ?_
 split at B
 refine aR ?_
 obtain ⟨a9,B⟩:=gd B
 obtain ⟨ao,B⟩:=gd B
 refine aH (lO (vp (aD g) R) ?_)
 refine aP ?_
 refine lO (vz (aD (ix b l)) (jz (K:=dK) (fo:=0) (pr:=fun x=>(aD x)) 0 l qo (dT9.leaf fun _ _=>R) aA R T.1 T.2)) ?_
 refine aP ?_
 refine lO (vz (aD (sub (ix b l) D (aG (D+1)))) (hG D (aG (D+1)) fL R R R a9.1 a9.2.1 a9.2.2)) (lO (vz (aD (g++(sub (ix b l) D (aG (D+1))))) (ru R R ao)) (lO (vp (aD (g++(sub (ix b l) D (aG (D+1))))) R) ?_))
 refine aR ?_
 obtain ⟨ap,B⟩:=gd B
 refine aR ?_
 refine bQ (K:=kT3) (xs:=([(0:Int)]:List Int)) (vs:=[(iv 0)]) 0 R R bM cC gR R R R R R R ?_ R (fun bw c2=>?_)
 exact fun I h s=>(gL).list [((),(0:Int))] I h s
 refine lM _ (tE 4 [3,0,1,2]) ?_
 refine eF (K:=kT3) 17592186044416 R R bM cC kc (Zr.zk zT3 gR) R R R R R R dP ap (fun aj ak=>(lN (OO kT3 3 aj ak (i++([(0:Int)]:List Int))::_::_::W0) ?_))
 refine aR ?_
 exact qI (((g++(sub (ix b l) D (aG (D+1)))),(i++([(0:Int)]:List Int))),(aj,(i++([(0:Int)]:List Int)).length,ak)) B (tE 3 [1,2,0])
 refine aR ?_
 exact qI ((g,i),(Z,i.length,a0)) B tI
 rintro ⟨⟨a8,q⟩,⟨ae,b6,ab⟩⟩ σ1 B
 dsimp only [Z2_J9] at B
 refine bJ 2 aB (fun (hn:b6=q.length)=>?_)
 subst hn
 refine aR ?_
 obtain ⟨a2,B⟩:=gd B
 obtain ⟨aa,B⟩:=gd B
 refine cQ [(0,(sc (ad O o117) b J)),(2,(sc (ad M o113) j L)),(9,(aD a8)),(10,(sc ae q ab)),(11,(iv l)),(12,(iv D)),(13,(iv a4)),(100,(.bool (((ix q a4) != 0)&&((ix q a4) != (ix (ix j l) D)))))] (RR dK (ad O o117) J b::RR bL (ad M o113) L j::OO kT3 3 ae ab q::W0) ?_ ?_
 rcases bo ((ix q a4) != 0) with U | U
 refine aY 2 aB (show 0<q.length by have:=a2; omega) (fun bb o182 ha=>?_)
 subst ha
 refine dE (K:=bL) 1 l dT23.dec R Y.1 Y.2 ?_
 rintro ⟨bz,c3⟩
 refine aY 1 aA (show 0<(ix j l).length by have:=(aa U); omega) (fun c5 o186 ha=>?_)
 subst ha
 refine cZ 19 [] bN fun ht hn=>?_
 refine md 0 [] ?_
 refine dW 13 R (dI U) (eG (fo:=0) 0 cT R R R) (dW 14 R (dI U) (vI R) (dW 15 R (dI U) (eI bM cC R R (aa U)) (dW 16 R (dI U) (gI 1 fM aA R (aa U)) ?_)))
 refine gN 17 [] ?_
 refine dD ?_
 exact qj (fun w s=>(s.f 5 [2,3]))
 refine aY 2 aB (show 0<q.length by have:=a2; omega) (fun bb o182 ha=>?_)
 subst ha
 refine cZ 19 [] bN fun ht hn=>?_
 refine xT 0 [] ?_
 refine dD ?_
 exact qj tI
 rintro σ1
 refine bU ?_
 split at B
 refine bF ?_
 refine lO (vp (aD ([]:aM)) R) ?_
 refine cU ?_
 cases B
 obtain rfl:=bf _ R
 have B:=bh
 refine bF ?_
 cases B
 obtain rfl:=an _ R
 have B:=av
 refine aP ?_
 cases B
 exact hN (ae,q.length,ab) (tE 5 [2])
 refine aP ?_
 obtain ⟨aq,B⟩:=gd B
 refine bT ?_
 refine gB (K:=bL) 1 l dT23.dec R Y.1 Y.2 ?_
 rintro ⟨c0,c4⟩
 refine lO (eG (fo:=0) 0 cT R R R) (lI R (bB 1 aA (show 0<(ix j l).length by have:=aq; omega) (fun c6 o192 ha=>?_)))
 subst ha
 refine aR ?_
 refine bB 4 aB (show 0<q.length by have:=a2; omega) (fun bc o194 ha=>?_)
 subst ha
 refine bU ?_
 refine lM _ (fun w s=>(s.f 5 [4,1,0,4])) ?_
 refine dZ (K:=kT3) (x':=(ix (ix j l) D)) 0 a4 R R cC R R a2.1 a2.2 ?_ ?_
 exact fun I h s=>(gL).put I h () (ix (ix j l) D) s
 refine cU ?_
 cases B
 exact qA ((ad bc o194),q.length,ab) (tE 5 [3,4,0])
 refine aP ?_
 cases B
 obtain rfl:=bf _ R
 have B:=bh
 refine aP ?_
 exact qI ((g,i),(((ad O o117),b.length,J),((ad M o113),j.length,L),(Z,i.length,a0))) B tI
 rintro ⟨⟨al,a1⟩,⟨⟨aw,b7,az⟩,⟨ax,b8,b0⟩,⟨ay,b9,b1⟩⟩⟩ σ1 B
 dsimp only [Z2_J10] at B
 refine bJ 0 aA (fun (hn:b7=b.length)=>?_)
 subst hn
 refine bJ 1 aA (fun (hn:b8=j.length)=>?_)
 subst hn
 refine bJ 2 aB (fun (hn:b9=a1.length)=>?_)
 subst hn
 refine cB ?_
 cases B
 exact qA ((aw,b.length,az),(ax,j.length,b0),(ay,a1.length,b1)) tI
 refine aP ?_
 cases B
 obtain rfl:=an _ R
 have B:=av
 refine aR ?_
 exact qI ((a7,F),(ac,F.length,ag)) B (tE 3 [2])
 rintro ⟨⟨G,u⟩,⟨a6,ba,a5⟩⟩ σ1 B
 dsimp only [Z2_J11] at B
 refine bJ 0 aB (fun (hn:ba=u.length)=>?_)
 subst hn
 refine bT ?_
 refine bA (A:=(Unit)×(Unit)) (fun a=>Z2_J12 G u=some r) (fun a=>[(9,(aD G)),(10,(sc a6 u a5))]) (fun a=>OO kT3 3 a6 a5 u::W0) ?_ ?_
 refine bT ?_
 obtain ⟨e4,br,bi⟩:=bd B
 refine bC (A:=Unit) br (fun s a=>[(9,(aD G)),(10,(sc a6 u a5)),(14,(iv s.1)),(15,(iv s.2))]) (fun s a=>OO kT3 3 a6 a5 u::W0) () (aS R) tI ?_
 rintro ⟨bk,c7⟩ _ σ1 c9 B bg
 dsimp only [Z2_L4] at B
 refine cO ?_
 split at B
 refine bT ?_
 obtain ⟨ar,B⟩:=gd B
 refine bF ?_
 refine bB 0 aB (show 0<u.length by have:=ar; omega) (fun be o223 ha=>?_)
 subst ha
 refine iC ?_
 split at B
 refine bF ?_
 refine lO (vp (aD ([]:aM)) R) ?_
 refine dJ ?_
 cases B
 obtain rfl:=bg _ R
 have B:=bi
 refine aP ?_
 cases B
 exact hN ((ad be o223),u.length,a5) (tE 3 [0])
 refine cO ?_
 cases B
 exact qA () tI
 refine aP ?_
 cases B
 obtain rfl:=bg _ R
 have B:=bi
 refine aR ?_
 exact qI ((),()) B tI
 rintro ⟨_,_⟩ σ1 B
 dsimp only [Z2_J12] at B
 refine aR ?_
 refine lO (vp (aD G) R) (lS R (lO (vp (aD G) R) ?_))
 refine cB ?_
 cases B
 exact hN (a6,u.length,a5) (tE 3 [0])
theorem Zg_ok  {i:aM}{g:aM}{b:(List Int)}{r:(List Int)}(j:Zg i g b=some r) :
 FnOk Tryz.prog 113 [(aD i),(aD g),(.slice A4 N4 D4)] [aN kT3 (.slice A4 N4 D4) b] (fun (h:HH)=>((.slice h.1 h.2.1 h.2.2),[ow kT3 3 (.slice h.1 h.2.1 h.2.2) r])):=by
 unfold Zg at j
 refine aQ Tryz.func113 R 38 R R fun C V=>?_
 refine cN (_::V) ?_
 refine cL 0 aA ?_
 rintro rfl
 let L:List HP:=RR kT3 A4 D4 b::V
 refine cN L ?_
 refine aO (aH (lS R (aC (aJ (aO (aH (bQ (K:=kT3) (xs:=([]:List Int)) (vs:=[]) 0 R R bM cC gR R R R R R R ?_ R (fun A5 D5=>?_))))))))
 exact fun I h s=>(gL).list [] I h s
 refine lN (OO kT3 3 A5 D5 ([]:List Int)::L) ?_
 refine lS R (aC (aJ (aO (bA (A:=((List Int))×(HH)) (fun a=>Zg_J7 a.1=some r) (fun a=>[(7,(.slice a.2.1 a.2.2.1 a.2.2.2))]) (fun a=>ow kT3 3 (.slice a.2.1 a.2.2.1 a.2.2.2) a.1::L) ?_ ?_))))
 refine aO (aH (lI R (aC (aJ (eB ?_)))))
 obtain ⟨e1,aq,ao⟩:=bd j
 refine bC (A:=HH) aq (fun s a=>[(0,(aD i)),(1,(aD g)),(2,(sc A4 b D4)),(7,(.slice a.1 a.2.1 a.2.2)),(8,(iv s.2))]) (fun s a=>ow kT3 3 (.slice a.1 a.2.1 a.2.2) s.1::L) (A5,([]:List Int).length,D5) (aS R) (fun w s=>s) ?_
 rintro ⟨J,q⟩ ⟨a2,ah,a4⟩ σ1 F j am
 replace j:Zg_L1 i g b J q=some F:=j
 unfold Zg_L1 at j
 refine bJ 0 aB (fun (M:ah=J.length)=>?_)
 subst M
 refine aO (aO (aH (lI R (lO (vp (aD i) R) (lO (vz (il i) (dH fL R)) (lO (nR R R) (aC (aJ ?_))))))))
 rcases cR j with ⟨u,j⟩|⟨u,j⟩
 refine cG R u (dL (aJ (aO (bA (A:=((List Int))×(HH)) (fun a=>Zg_J6 q a.1=some F) (fun a=>[(0,(aD i)),(1,(aD g)),(2,(sc A4 b D4)),(7,(.slice a.2.1 a.2.2.1 a.2.2.2)),(8,(iv q))]) (fun a=>ow kT3 3 (.slice a.2.1 a.2.2.1 a.2.2.2) a.1::L) ?_ ?_))))
 refine eB (aO (aH (lI R (aC (aJ (eB ?_))))))
 obtain ⟨e2,ar,ap⟩:=bd j
 refine bC (A:=HH) ar (fun s a=>[(0,(aD i)),(1,(aD g)),(2,(sc A4 b D4)),(7,(.slice a.1 a.2.1 a.2.2)),(8,(iv q)),(9,(iv s.2))]) (fun s a=>ow kT3 3 (.slice a.1 a.2.1 a.2.2) s.1::L) (a2,J.length,a4) (aS R) (fun w s=>s) ?_
 rintro ⟨m,l⟩ ⟨U,ai,Y⟩ σ1 G j an
 replace j:Zg_L2 i g b q m l=some G:=j
 unfold Zg_L2 at j
 refine bJ 0 aB (fun (M:ai=m.length)=>?_)
 subst M
 refine aO (aO (aH (lI R (lO (vp (aD g) R) (lO (vz (il g) (dH fL R)) (lO (nR R R) (aC (aJ ?_))))))))
 rcases cR j with ⟨B,j⟩|⟨B,j⟩
 refine cG R B (dL (aJ (aO (bA (A:=((List Int))×(HH)) (fun a=>Zg_J5 l a.1=some G) (fun a=>[(0,(aD i)),(1,(aD g)),(2,(sc A4 b D4)),(7,(.slice a.2.1 a.2.2.1 a.2.2.2)),(8,(iv q)),(9,(iv l))]) (fun a=>ow kT3 3 (.slice a.2.1 a.2.2.1 a.2.2.2) a.1::L) ?_ ?_))))
 refine eB (aO ?_)
 obtain ⟨O,j⟩:=gd j
 obtain ⟨T,j⟩:=gd j
 refine cZ 7 [] bN (fun ht M=>(dR 0 R (vp (aD g) R) (dR 1 R (vI R) (dR 2 R (vz (.int .u8 (bt g l)) (cH fL R R O.1 O.2)) (dR 3 R (vp (aD i) R) (dR 4 R (vI R) (dR 5 R (vz (.int .u8 (bt i q)) (cH fL R R T.1 T.2)) (dR 6 R (vp (.bool ((bt g l)==(bt i q))) R) (dD (aJ ?_))))))))))
 rcases cR j with ⟨D,j⟩|⟨D,j⟩
 refine cG R D ?_
 obtain ⟨E,j⟩:=gd j
 obtain ⟨a6,j⟩:=gd j
 refine aH (lS R (lS R (lI R (bB 1 aA (show 0<b.length by have:=E; omega) (fun au o64 ha=>?_)))))
 subst ha
 refine lO (eI bM cC R R E) (lO (gI 1 fM aA R E) (bQ (K:=kT3) (xs:=([(ix b l)]:List Int)) (vs:=[(iv (ix b l))]) 0 R R bM cC gR R R R R R R ?_ R (fun a7 ab=>?_)))
 exact fun I h s=>(gL).list [((),(ix b l))] I h s
 refine lN (OO kT3 3 a7 ab ([(ix b l)]:List Int)::OO kT3 3 U Y m::L) ?_
 refine lM (ow _ _ _ _::ow _ _ _ _::L) (fun w s=>(s.e 2 [1,0])) ?_
 refine eF (K:=kT3) 17592186044416 R R bM cC kc (Zr.zk zT3 gR) R R R R R R dP a6 (fun a3 a5=>(lN (OO kT3 3 a3 a5 (m++([(ix b l)]:List Int))::L) ?_))
 refine lS R (aC (eJ ?_))
 exact qI ((m++([(ix b l)]:List Int)),(a3,(m++([(ix b l)]:List Int)).length,a5)) j (fun w s=>s)
 refine bP R D (dL (eJ ?_))
 exact qI (m,(U,m.length,Y)) j (fun w s=>s)
 rintro ⟨Z,⟨a8,aj,ac⟩⟩ σ1 j
 replace j:Zg_J5 l Z=some G:=j
 unfold Zg_J5 at j
 refine bJ 0 aB (fun (M:aj=Z.length)=>?_)
 subst M
 refine aH (lI R (lO (lF R R) (lI R (aC ?_))))
 obtain rfl:=so j
 exact qA (a8,Z.length,ac) (fun w s=>s)
 refine bP R B (j5 (fB ?_))
 obtain rfl:=so j
 obtain rfl:=an _ R
 have j:=ap
 refine fB (hT (eJ ?_))
 exact qI (m,(U,m.length,Y)) j (fun w s=>s)
 rintro ⟨a0,⟨a9,ak,ae⟩⟩ σ1 j
 replace j:Zg_J6 q a0=some F:=j
 unfold Zg_J6 at j
 refine bJ 0 aB (fun (M:ak=a0.length)=>?_)
 subst M
 refine aH (lI R (lO (lF R R) (lI R (aC ?_))))
 obtain rfl:=so j
 exact qA (a9,a0.length,ae) (fun w s=>s)
 refine bP R u (j5 (fB ?_))
 obtain rfl:=so j
 obtain rfl:=am _ R
 have j:=ao
 refine fB (hT ?_)
 exact qI (J,(a2,J.length,a4)) j (fun w s=>s)
 rintro ⟨a1,⟨aa,al,ag⟩⟩ σ1 j
 replace j:Zg_J7 a1=some r:=j
 unfold Zg_J7 at j
 refine bJ 0 aB (fun (M:al=a1.length)=>?_)
 subst M
 refine aO (aH (lS R (lS R (aC (aJ (bY ?_))))))
 obtain rfl:=so j
 exact qF (aa,a1.length,ag) (fun w s=>(s.e 2 [0]))
end Go.Proofs.YtmpnollfdpdipaaGreat
