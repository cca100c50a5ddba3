import Derived.Test.YtmpnollfdpdipaaGreatGkF
set_option linter.unusedVariables false
set_option maxRecDepth 20000
namespace Go.Proofs.YtmpnollfdpdipaaGreat
open Go Go.Pg
variable {A2 A3 A4 A5 A6 A7:Option Addr}{D2 D3 D4 D5 D6 D7 N2 N3 N4 N5 N6 N7:Nat}
theorem Z2l_ok  {b:Int}{r:Int×Int}(a:Z2l b=some r) :
 FnOk Tryz.prog 75 [(iv b)] [] (fun (h:Unit)=>((.tuple [(iv r.1),(iv r.2)].toArray),[])):=by
 unfold Z2l at a
 refine aQ Tryz.func75 R 13 R R fun C V=>?_
 refine cN V ?_
 refine oj ?_
 split at a
 refine cP ?_
 cases a
 exact jD () tI
 refine cV ?_
 split at a
 refine cP ?_
 cases a
 exact jD () tI
 refine cV ?_
 split at a
 refine cP ?_
 cases a
 exact jD () tI
 refine hN ?_
 cases a
 exact jD () tI
theorem Z3b_ok  {a:Int}{r:Bool}(i:Z3b a=some r) :
 FnOk Tryz.prog 76 [(iv a)] [] (fun (h:Unit)=>((.bool r),[])):=by
 unfold Z3b at i
 refine aQ Tryz.func76 R 17 R R fun C V=>?_
 refine cN V ?_
 refine bT ?_
 refine cQ [(2,(.bool ((((a==1)||(a==2))||(a==12))||(a==13))))] (V) ?_ ?_
 refine bG ?_
 rcases bo (a==1) with b | b
 refine kj ?_
 exact qj tI
 refine bG ?_
 rcases bo ((a==1)||(a==2)) with g | g
 refine cU ?_
 exact qj tI
 refine bG ?_
 rcases bo (((a==1)||(a==2))||(a==12)) with e | e
 refine bZ ?_
 exact qj tI
 refine bZ ?_
 exact qj tI
 rintro σ1
 refine aU ?_
 cases i
 exact qF () tI
theorem Z1d_ok  {e:Int}{r:Int}(b:Z1d e=some r) :
 FnOk Tryz.prog 77 [(iv e)] [] (fun (h:Unit)=>((iv r),[])):=by
 unfold Z1d at b
 refine aQ Tryz.func77 R 16 R R fun C V=>?_
 refine cN V ?_
 refine yn ?_
 split at b
 refine cU ?_
 cases b
 exact qF () tI
 refine aU ?_
 refine aZ (A:=(Bool)×(Unit)) (fun a=>Z1d_J1 e a.1=some r) (fun a=>[(3,(iv e)),(6,(.bool a.1))]) (fun a=>V) ?_ ?_
 refine bT ?_
 split at b
 refine aU ?_
 exact qI ((e==14),()) b tI
 refine bZ ?_
 exact qI ((e==15),()) b tI
 rintro ⟨g,_⟩ σ1 b
 dsimp only [Z1d_J1] at b
 split at b
 refine cU ?_
 cases b
 exact qF () tI
 refine dG ?_
 split at b
 refine cU ?_
 cases b
 exact qF () tI
 refine dG ?_
 split at b
 refine cU ?_
 cases b
 exact qF () tI
 refine aU ?_
 refine aZ (A:=(Bool)×(Unit)) (fun a=>Z1d_J2 a.1=some r) (fun a=>[(13,(.bool a.1))]) (fun a=>V) ?_ ?_
 refine bT ?_
 split at b
 refine aU ?_
 exact qI ((e==18),()) b tI
 refine bZ ?_
 exact qI ((e==19),()) b tI
 rintro ⟨i,_⟩ σ1 b
 dsimp only [Z1d_J2] at b
 split at b
 refine cU ?_
 cases b
 exact qF () tI
 refine cP ?_
 cases b
 exact qF () tI
theorem Z10_ok  {a:Node}{r:Bool}(m:Z10 a=some r) :
 FnOk Tryz.prog 51 [(.agg [(iv a.Op),(.slice A2 N2 D2),(.slice A3 N3 D3),(.slice A4 N4 D4),(aD a.Form),(.slice A5 N5 D5)].toArray)] [aN kT3 (.slice A2 N2 D2) a.Args,aN kT3 (.slice A3 N3 D3) a.Dims,aN kT3 (.slice A4 N4 D4) a.Ints,aN kT3 (.slice A5 N5 D5) a.Data] (fun (h:Unit)=>((.bool r),[])):=by
 unfold Z10 at m
 refine aQ Tryz.func51 R 92 R R fun C V=>?_
 refine cL 0 aA ?_
 rintro rfl
 refine cL 1 aA ?_
 rintro rfl
 refine cL 2 aA ?_
 rintro rfl
 refine cL 3 aA ?_
 rintro rfl
 let W0:=RR kT3 A2 D2 a.Args::RR kT3 A3 D3 a.Dims::RR kT3 A4 D4 a.Ints::RR kT3 A5 D5 a.Data::V
 refine cN W0 ?_
 refine aU ?_
 refine eF R fun Z=>?_
 refine aU ?_
 let O:=aJ Z [(iv a.Op),(sc A2 a.Args D2),(sc A3 a.Dims D3),(sc A4 a.Ints D4),(aD a.Form),(sc A5 a.Data D5)] 54::W0
 refine qN O ?_
 refine aP ?_
 refine cQ [(1,(pt Z 0)),(13,(.bool ((decide (a.Op<1))||(decide (a.Op>19)))))] (O) ?_ ?_
 refine bZ ?_
 rcases bo (decide (a.Op<1)) with M | M
 refine aP ?_
 refine lO (fC (decide (a.Op>19)) R M) (aC ?_)
 exact qj tI
 refine aP ?_
 refine lO (fU R M R) (aC ?_)
 exact qj tI
 rintro σ1
 refine bU ?_
 split at m
 refine cV ?_
 cases m
 exact qF () (tE 5 [])
 refine bG ?_
 obtain ⟨r9,U,m⟩:=bd m
 refine aP ?_
 refine lC 0 AO R (Z2l_ok U) R ?_
 rintro _
 refine lO (vT R) ?_
 refine cV ?_
 refine cQ [(1,(pt Z 0)),(31,(.bool ((decide ((a.Args.length:Int)<r9.1))||(decide ((a.Args.length:Int)>r9.2)))))] (O) ?_ ?_
 refine dG ?_
 rcases bo (decide ((a.Args.length:Int)<r9.1)) with D | D
 refine bZ ?_
 refine lO (fC (decide ((a.Args.length:Int)>r9.2)) R D) (aC ?_)
 exact qj tI
 refine bZ ?_
 refine lO (fU R D R) (aC ?_)
 exact qj tI
 rintro σ1
 refine bU ?_
 split at m
 refine cV ?_
 cases m
 exact qF () (tE 5 [])
 refine bZ ?_
 obtain ⟨q,Y,m⟩:=bd m
 refine cQ [(1,(pt Z 0)),(62,(.bool ((((!q)&&(decide ((a.Dims.length:Int)>0)))||((a.Op != 11)&&(!(a.Form==([]:aM)))))||((a.Op != 2)&&(decide ((a.Data.length:Int)>0))))))] (O) ?_ ?_
 refine aP ?_
 refine lC 0 AP R (Z3b_ok Y) R ?_
 rintro _
 refine aU ?_
 rcases bo (!q) with b | b
 refine bG ?_
 refine lO (iV R b R) (lB R ?_)
 rcases bo ((!q)&&(decide ((a.Dims.length:Int)>0))) with e | e
 refine cV ?_
 refine lO (fC ((a.Op != 11)&&(!(a.Form==([]:aM)))) R e) ?_
 refine cP ?_
 refine lO (fC ((a.Op != 2)&&(decide ((a.Data.length:Int)>0))) R (oT e)) (aC ?_)
 exact qj tI
 refine bG ?_
 rcases bo (a.Op != 11) with s | s
 refine aU ?_
 refine lW (eH s) (vz (.bool (!(a.Form==([]:aM)))) (jd R R R)) (lW (cA e) (iV R s R) (lO (fU R e R) (lB R ?_)))
 rcases bo (((!q)&&(decide ((a.Dims.length:Int)>0)))||((a.Op != 11)&&(!(a.Form==([]:aM))))) with l | l
 refine cU ?_
 refine lO (fC ((a.Op != 2)&&(decide ((a.Data.length:Int)>0))) R l) (aC ?_)
 exact qj tI
 refine bG ?_
 rcases bo (a.Op != 2) with J | J
 refine bG ?_
 refine lW (cA l) (iV R J R) (lO (fU R l R) (aC ?_))
 exact qj tI
 refine bG ?_
 refine lW (cA l) (kf (decide ((a.Data.length:Int)>0)) R J) (lO (fU R l R) (aC ?_))
 exact qj tI
 refine aP ?_
 refine lW (cA e) (kf (!(a.Form==([]:aM))) R s) (lO (fU R e R) (lB R ?_))
 rcases bo (((!q)&&(decide ((a.Dims.length:Int)>0)))||((a.Op != 11)&&(!(a.Form==([]:aM))))) with i | i
 refine cU ?_
 refine lO (fC ((a.Op != 2)&&(decide ((a.Data.length:Int)>0))) R i) (aC ?_)
 exact qj tI
 refine bG ?_
 rcases bo (a.Op != 2) with F | F
 refine bG ?_
 refine lW (cA i) (iV R F R) (lO (fU R i R) (aC ?_))
 exact qj tI
 refine bG ?_
 refine lW (cA i) (kf (decide ((a.Data.length:Int)>0)) R F) (lO (fU R i R) (aC ?_))
 exact qj tI
 refine bG ?_
 refine lO (kf (decide ((a.Dims.length:Int)>0)) R b) ?_
 refine bZ ?_
 rcases bo (a.Op != 11) with u | u
 refine aU ?_
 refine lW (eH u) (vz (.bool (!(a.Form==([]:aM)))) (jd R R R)) (lW (cA (aF b)) (iV R u R) (lO (fU R (aF b) R) (lB R ?_)))
 rcases bo (((!q)&&(decide ((a.Dims.length:Int)>0)))||((a.Op != 11)&&(!(a.Form==([]:aM))))) with j | j
 refine cU ?_
 refine lO (fC ((a.Op != 2)&&(decide ((a.Data.length:Int)>0))) R j) (aC ?_)
 exact qj tI
 refine bG ?_
 rcases bo (a.Op != 2) with G | G
 refine bG ?_
 refine lW (cA j) (iV R G R) (lO (fU R j R) (aC ?_))
 exact qj tI
 refine bG ?_
 refine lW (cA j) (kf (decide ((a.Data.length:Int)>0)) R G) (lO (fU R j R) (aC ?_))
 exact qj tI
 refine aP ?_
 refine lW (cA (aF b)) (kf (!(a.Form==([]:aM))) R u) (lO (fU R (aF b) R) (lB R ?_))
 rcases bo (((!q)&&(decide ((a.Dims.length:Int)>0)))||((a.Op != 11)&&(!(a.Form==([]:aM))))) with g | g
 refine cU ?_
 refine lO (fC ((a.Op != 2)&&(decide ((a.Data.length:Int)>0))) R g) (aC ?_)
 exact qj tI
 refine bG ?_
 rcases bo (a.Op != 2) with E | E
 refine bG ?_
 refine lW (cA g) (iV R E R) (lO (fU R g R) (aC ?_))
 exact qj tI
 refine bG ?_
 refine lW (cA g) (kf (decide ((a.Data.length:Int)>0)) R E) (lO (fU R g R) (aC ?_))
 exact qj tI
 rintro σ1
 refine bU ?_
 split at m
 refine cV ?_
 cases m
 exact qF () (tE 5 [])
 refine bG ?_
 obtain ⟨L,T,m⟩:=bd m
 refine aP ?_
 refine lC 0 AQ R (Z1d_ok T) R ?_
 rintro _
 refine bZ ?_
 refine cQ [(1,(pt Z 0)),(5,(iv L)),(73,(.bool ((a.Op==16)||(a.Op==17))))] (O) ?_ ?_
 refine bZ ?_
 rcases bo (a.Op==16) with B | B
 refine aP ?_
 refine lO (fC (a.Op==17) R B) (aC ?_)
 exact qj tI
 refine aP ?_
 refine lO (fU R B R) (aC ?_)
 exact qj tI
 rintro σ1
 refine bU ?_
 split at m
 refine aU ?_
 refine cQ [(2,(.bool ((decide ((a.Ints.length:Int)≥L))&&(decide ((a.Ints.length:Int)≤(aH (L+4096)))))))] (O) ?_ ?_
 refine dG ?_
 rcases bo (decide ((a.Ints.length:Int)≥L)) with I | I
 refine bT ?_
 refine lO (iV R I R) ?_
 refine aU ?_
 exact qj tI
 refine bT ?_
 refine lO (kf (decide ((a.Ints.length:Int)≤(aH (L+4096)))) R I) ?_
 refine aU ?_
 exact qj tI
 rintro σ1
 refine aP ?_
 cases m
 exact qF () (tE 5 [])
 refine oi ?_
 cases m
 exact qF () (tE 5 [])
theorem Z0k_ok  {b:(List Int)}{q:Int}{r:Bool}(e:Z0k b q=some r) :
 FnOk Tryz.prog 52 [(.slice A2 N2 D2),(iv q)] [aN kT3 (.slice A2 N2 D2) b] (fun (h:Unit)=>((.bool r),[])):=by
 unfold Z0k at e
 refine aQ Tryz.func52 R 25 R R fun C V=>?_
 refine cL 0 aA ?_
 rintro rfl
 let u:=RR kT3 A2 D2 b::V
 refine cN u ?_
 refine bT ?_
 refine aZ (A:=(Unit)×(Unit)) (fun a=>Z0k_J1=some r) (fun a=>[]) (fun a=>u) ?_ ?_
 refine bT ?_
 obtain ⟨G,B,i⟩:=bd e
 refine bD (A:=Unit) B (fun s a=>[(0,(sc A2 b D2)),(1,(iv q)),(5,(iv s))]) (fun s a=>u) () (aS R) tI ?_
 rintro g _ σ1 D e m
 dsimp only [Z0k_L1] at e
 refine cU ?_
 split at e
 refine bT ?_
 obtain ⟨j,e⟩:=gd e
 refine cQ [(0,(sc A2 b D2)),(1,(iv q)),(5,(iv g)),(24,(.bool ((decide ((ix b g)<0))||(decide ((ix b g)≥q)))))] (u) ?_ ?_
 refine aP ?_
 refine bA 0 aA (show 0<b.length by have:=j; omega) (fun E o14 F=>?_)
 subst F
 refine bG ?_
 rcases bo (decide ((ix b g)<0)) with l | l
 refine cV ?_
 exact qj tI
 refine cV ?_
 exact qj tI
 rintro σ1
 refine bU ?_
 split at e
 refine cU ?_
 cases e
 obtain rfl:=m _ R
 have e:=i
 refine aP ?_
 cases e
 exact qF () (tE 1 [])
 refine cU ?_
 cases e
 exact qA () tI
 refine aP ?_
 cases e
 obtain rfl:=m _ R
 have e:=i
 refine aU ?_
 exact cS ((),()) e trivial tI
 rintro ⟨_,_⟩ σ1 e
 dsimp only [Z0k_J1] at e
 refine bT ?_
 cases e
 exact qF () (tE 1 [])
theorem Zw_ok  {b:(List Int)}{r:Int}(e:Zw b=some r) :
 FnOk Tryz.prog 95 [(.slice A2 N2 D2)] [aN kT3 (.slice A2 N2 D2) b] (fun (h:Unit)=>((iv r),[])):=by
 unfold Zw at e
 refine aQ Tryz.func95 R 32 R R fun C V=>?_
 refine cL 0 aA ?_
 rintro rfl
 let u:=RR kT3 A2 D2 b::V
 refine cN u ?_
 refine hN ?_
 refine aZ (A:=(Int)×(Unit)) (fun a=>Zw_J1 a.1=some r) (fun a=>[(3,(iv a.1))]) (fun a=>u) ?_ ?_
 refine bT ?_
 obtain ⟨J,D,j⟩:=bd e
 refine bD (A:=Unit) D (fun s a=>[(0,(sc A2 b D2)),(3,(iv s.1)),(4,(iv s.2))]) (fun s a=>u) () (aS R) tI ?_
 rintro ⟨m,g⟩ _ σ1 E e l
 dsimp only [Zw_L1] at e
 refine cU ?_
 split at e
 refine dG ?_
 obtain ⟨i,e⟩:=gd e
 refine cQ [(0,(sc A2 b D2)),(3,(iv m)),(4,(iv g)),(22,(.bool ((decide ((ix b g)<1))||(decide ((ix b g)>4096)))))] (u) ?_ ?_
 refine aP ?_
 refine bA 0 aA (show 0<b.length by have:=i; omega) (fun G o17 B=>?_)
 subst B
 refine bG ?_
 rcases bo (decide ((ix b g)<1)) with q | q
 refine dG ?_
 exact qj tI
 refine dG ?_
 exact qj tI
 rintro σ1
 refine bU ?_
 split at e
 refine cP ?_
 cases e
 obtain rfl:=l _ R
 have e:=j
 refine aP ?_
 cases e
 exact qF () (tE 1 [])
 refine cV ?_
 refine bA 0 aA (show 0<b.length by have:=i; omega) (fun F o21 B=>?_)
 subst B
 refine hH ?_
 split at e
 refine cU ?_
 cases e
 obtain rfl:=l _ R
 have e:=j
 refine aP ?_
 cases e
 exact qF () (tE 1 [])
 refine cU ?_
 cases e
 exact qA () tI
 refine aP ?_
 cases e
 obtain rfl:=l _ R
 have e:=j
 refine aU ?_
 exact qI (m,()) e tI
 rintro ⟨I,_⟩ σ1 e
 dsimp only [Zw_J1] at e
 refine dG ?_
 cases e
 exact qF () (tE 1 [])
theorem Zo_ok  {a:(List Int)}{r:Bool}(e:Zo a=some r) :
 FnOk Tryz.prog 92 [(.slice A2 N2 D2)] [aN kT3 (.slice A2 N2 D2) a] (fun (h:Unit)=>((.bool r),[])):=by
 unfold Zo at e
 refine aQ Tryz.func92 R 11 R R fun C V=>?_
 refine cL 0 aA ?_
 rintro rfl
 let g:=RR kT3 A2 D2 a::V
 refine cN g ?_
 refine bT ?_
 obtain ⟨j,i,e⟩:=bd e
 refine cQ [(2,(.bool ((decide ((a.length:Int)≤6))&&(decide (j>0)))))] (g) ?_ ?_
 refine bZ ?_
 rcases bo (decide ((a.length:Int)≤6)) with b | b
 refine bU ?_
 refine lM _ (fun w s=>(s.d 0 R)) ?_
 refine bX 1 R (eH b) ny R (Zw_ok (bN i b)) R ?_
 rintro _
 refine lN g ?_
 refine bG ?_
 exact qj tI
 refine bT ?_
 exact qj tI
 rintro σ1
 refine aU ?_
 cases e
 exact qF () (tE 1 [])
theorem Zs_ok  {t1:Tensor}{r:Bool}(b:Zs t1=some r) :
 FnOk Tryz.prog 55 [(.agg [(.slice A2 N2 D2),(.slice A3 N3 D3)].toArray)] [aN kT3 (.slice A2 N2 D2) t1.Dims,aN kT3 (.slice A3 N3 D3) t1.Data] (fun (h:Unit)=>((.bool r),[])):=by
 unfold Zs at b
 refine aQ Tryz.func55 R 38 R R fun C V=>?_
 refine cL 0 aA ?_
 rintro rfl
 refine cL 1 aA ?_
 rintro rfl
 let F:=RR kT3 A2 D2 t1.Dims::RR kT3 A3 D3 t1.Data::V
 refine cN F ?_
 refine aU ?_
 refine eF R fun B=>?_
 refine aU ?_
 let g:=aJ B [(sc A2 t1.Dims D2),(sc A3 t1.Data D3)] 58::F
 refine qN g ?_
 refine aP ?_
 obtain ⟨G,m,b⟩:=bd b
 obtain ⟨T,E,b⟩:=bd b
 refine cQ [(1,(pt B 0)),(16,(.bool ((!G)||((t1.Data.length:Int) != T))))] (g) ?_ ?_
 rcases bo (!G) with i | i
 refine dF 13 [] bP fun L O=>?_
 refine gR 0 [] ?_
 refine d1 2 R (lM _ (fun w s=>(s.d 1 R)) ?_)
 refine lC 1 kb R (Zo_ok m) R ?_
 rintro _
 refine lN g ?_
 refine aC (aG (sL []) ?_)
 refine qV 3 [] ?_
 refine dD ?_
 exact qj tI
 refine dF 13 [] bP fun L O=>?_
 refine gR 0 [] ?_
 refine d1 2 R (lM _ (fun w s=>(s.d 1 R)) ?_)
 refine lC 1 kb R (Zo_ok m) R ?_
 rintro _
 refine lN g ?_
 refine aC (aG (sL []) ?_)
 refine sg 3 [] ?_
 refine d1 10 R (lM _ (fun w s=>(s.d 1 R)) ?_)
 refine bX 1 R (cA i) ny R (Zw_ok (bN E (cT i))) R ?_
 rintro _
 refine lN g ?_
 refine aC (aG (sL []) ?_)
 refine gR 11 [] ?_
 refine dD ?_
 exact qj tI
 rintro σ1
 refine bU ?_
 split at b
 refine cV ?_
 cases b
 exact qF () (tE 3 [])
 refine bG ?_
 refine aZ (A:=(Unit)×(Unit)) (fun a=>Zs_J1=some r) (fun a=>[]) (fun a=>g) ?_ ?_
 refine bT ?_
 obtain ⟨U,D,l⟩:=bd b
 refine bD (A:=Unit) D (fun s a=>[(1,(pt B 0)),(3,(iv s))]) (fun s a=>g) () (aS R) tI ?_
 rintro e _ σ1 I b q
 dsimp only [Zs_L1] at b
 refine cP ?_
 split at b
 refine bT ?_
 obtain ⟨j,b⟩:=gd b
 refine cQ [(1,(pt B 0)),(3,(iv e)),(37,(.bool ((decide ((ix t1.Data e)<0))||(decide ((ix t1.Data e)≥2147483647)))))] (g) ?_ ?_
 refine bG ?_
 refine bA 2 aA (show 0<t1.Data.length by have:=j; omega) (fun J o21 M=>?_)
 subst M
 refine bG ?_
 rcases bo (decide ((ix t1.Data e)<0)) with u | u
 refine cV ?_
 exact qj tI
 refine cV ?_
 exact qj tI
 rintro σ1
 refine bU ?_
 split at b
 refine cU ?_
 cases b
 obtain rfl:=q _ R
 have b:=l
 refine aP ?_
 cases b
 exact qF () (tE 3 [])
 refine cU ?_
 cases b
 exact qA () tI
 refine aP ?_
 cases b
 obtain rfl:=q _ R
 have b:=l
 refine aU ?_
 exact cS ((),()) b trivial tI
 rintro ⟨_,_⟩ σ1 b
 dsimp only [Zs_J1] at b
 refine bT ?_
 cases b
 exact qF () (tE 3 [])
theorem Zu_ok  {a:(List Int)}{r:(List Int)}(b:Zu a=some r) :
 FnOk Tryz.prog 57 [(.slice A2 N2 D2)] [aN kT3 (.slice A2 N2 D2) a] (fun (h:HH)=>((s3 h),[ow kT3 3 (s3 h) r])):=by
 unfold Zu at b
 refine aQ Tryz.func57 R 6 R R fun C V=>?_
 refine cL 0 aA ?_
 rintro rfl
 let g:=RR kT3 A2 D2 a::V
 refine cN g ?_
 refine bT ?_
 obtain ⟨e,b⟩:=gd b
 refine aE (bK (K:=kT3) (xs:=([]:List Int)) (vs:=[]) 0 R R bI cB f' R R R R R R ?_ R (fun A3 D3=>?_))
 exact fun I h s=>(fZ).list [] I h s
 refine lS R (lM _ (fun w s=>((s.dup 1 R).mv 1)) ?_)
 refine eB (K:=kT3) 17592186044416 R R bI cB jZ (Zr.zk zT3 f') R R R R R R (rO (Kind.scal_flat _ _)) e (fun A5 D5=>(lN (OO kT3 3 A5 D5 (([]:List Int)++a)::g) ?_))
 refine bG ?_
 cases b
 exact qF (A5,(([]:List Int)++a).length,D5) (tE 2 [0])
theorem Z02_ok  {g:(List Int)}{e:(List Int)}{r:Bool}(b:Z02 g e=some r) :
 FnOk Tryz.prog 56 [(.slice A2 N2 D2),(.slice A4 N4 D4)] [aN kT3 (.slice A2 N2 D2) g,aN kT3 (.slice A4 N4 D4) e] (fun (h:Unit)=>((.bool r),[])):=by
 unfold Z02 at b
 refine aQ Tryz.func56 R 26 R R fun C V=>?_
 refine cL 0 aA ?_
 rintro rfl
 refine cL 1 aA ?_
 rintro rfl
 let q:=RR kT3 A2 D2 g::RR kT3 A4 D4 e::V
 refine cN q ?_
 refine oj ?_
 split at b
 refine cV ?_
 cases b
 exact qF () (tE 2 [])
 refine bG ?_
 refine aZ (A:=(Unit)×(Unit)) (fun a=>Z02_J1=some r) (fun a=>[]) (fun a=>q) ?_ ?_
 refine bT ?_
 obtain ⟨J,B,j⟩:=bd b
 refine bD (A:=Unit) B (fun s a=>[(0,(sc A2 g D2)),(1,(sc A4 e D4)),(5,(iv s))]) (fun s a=>q) () (aS R) tI ?_
 rintro F _ σ1 D b m
 dsimp only [Z02_L1] at b
 refine cU ?_
 split at b
 refine bT ?_
 obtain ⟨l,b⟩:=gd b
 obtain ⟨i,b⟩:=gd b
 refine bB 0 aA (show 0<g.length by have:=l; omega) (fun G o18 u=>?_)
 subst u
 refine bB 1 aA (show 0<e.length by have:=i; omega) (fun E o21 u=>?_)
 subst u
 refine dF 9 [] bP fun I L=>?_
 refine vr 0 [] ?_
 refine dD (aI ?_)
 split at b
 refine cU ?_
 cases b
 obtain rfl:=m _ R
 have b:=j
 refine aP ?_
 cases b
 exact qF () (tE 2 [])
 refine cU ?_
 cases b
 exact qA () tI
 refine aP ?_
 cases b
 obtain rfl:=m _ R
 have b:=j
 refine aU ?_
 exact cS ((),()) b trivial tI
 rintro ⟨_,_⟩ σ1 b
 dsimp only [Z02_J1] at b
 refine bT ?_
 cases b
 exact qF () (tE 2 [])
theorem Z2a_ok  {a:(List Int)}{g:Int}{r:Int}(b:Z2a a g=some r) :
 FnOk Tryz.prog 138 [(.slice A2 N2 D2),(iv g)] [aN kT3 (.slice A2 N2 D2) a] (fun (h:Unit)=>((iv r),[])):=by
 unfold Z2a at b
 refine aQ Tryz.func138 R 17 R R fun C V=>?_
 refine cL 0 aA ?_
 rintro rfl
 let i:=RR kT3 A2 D2 a::V
 refine cN i ?_
 refine oi ?_
 split at b
 refine cV ?_
 cases b
 exact qF () (tE 1 [])
 refine bG ?_
 obtain ⟨e,b⟩:=gd b
 refine dG ?_
 refine bA 0 aA (show 0<a.length by have:=e; omega) (fun l o7 j=>?_)
 subst j
 refine bT ?_
 cases b
 exact qF () (tE 1 [])
theorem Z01_ok  {E:(List Int)}{D:(List Int)}{r:(List Int)}(b:Z01 E D=some r) :
 FnOk Tryz.prog 101 [(.slice A2 N2 D2),(.slice A4 N4 D4)] [aN kT3 (.slice A2 N2 D2) E,aN kT3 (.slice A4 N4 D4) D] (fun (h:HH)=>((s3 h),[ow kT3 3 (s3 h) r])):=by
 unfold Z01 at b
 refine aQ Tryz.func101 R 68 R R fun C V=>?_
 refine cL 0 aA ?_
 rintro rfl
 refine cL 1 aA ?_
 rintro rfl
 let J:=RR kT3 A2 D2 E::RR kT3 A4 D4 D::V
 refine cN J ?_
 refine dG ?_
 obtain ⟨r5,a8,b⟩:=bd b
 obtain ⟨r7,a6,b⟩:=bd b
 refine cQ [(0,(sc A2 E D2)),(1,(sc A4 D D4)),(17,(.bool ((!r5)||(!r7))))] (J) ?_ ?_
 refine aU ?_
 refine lM _ (fun w s=>(s.d 0 R)) ?_
 refine lC 1 kb R (Zo_ok a8) R ?_
 rintro _
 refine lN J ?_
 refine aU ?_
 rcases bo (!r5) with L | L
 refine bZ ?_
 exact qj tI
 refine bU ?_
 refine lM _ (fun w s=>(s.d 1 R)) ?_
 refine bX 1 R (cA L) kb R (Zo_ok (bN a6 (cT L))) R ?_
 rintro _
 refine lN J ?_
 refine aP ?_
 exact qj tI
 rintro σ1
 refine bU ?_
 split at b
 refine aP ?_
 refine bK (K:=kT3) (xs:=([]:List Int)) (vs:=[]) 0 R R bI cB f' R R R R R R ?_ R (fun A11 D11=>?_)
 exact fun I h s=>(fZ).list [] I h s
 refine bZ ?_
 cases b
 exact qF (A11,([]:List Int).length,D11) (tE 3 [0])
 refine hN ?_
 refine aZ (A:=(Int)×(Unit)) (fun a=>Z01_J1 E D a.1=some r) (fun a=>[(0,(sc A2 E D2)),(1,(sc A4 D D4)),(5,(iv a.1))]) (fun a=>J) ?_ ?_
 refine cV ?_
 split at b
 refine bT ?_
 exact qI ((D.length:Int),()) b tI
 refine aU ?_
 exact qI ((E.length:Int),()) b tI
 rintro ⟨e,_⟩ σ1 b
 dsimp only [Z01_J1] at b
 refine bU ?_
 obtain ⟨q,b⟩:=gd b
 refine aU ?_
 refine fI (K:=kT3) (m:=e) (z:=(0:Int)) R R bI cB jZ (Zr.zk zT3 f') (by decide) R R q.1 q.2.1 q.2.2 (fun g i=>(lS R (aC (aI (aO (aZ (A:=((List Int))×(Unit)) (fun a=>Z01_J4 a.1=some r) (fun a=>[(6,(sc g (List.replicate e.toNat (0:Int)) i))]) (fun a=>ow kT3 3 (.slice g (List.replicate e.toNat (0:Int)).length i) a.1::J) ?_ ?_))))))
 refine bT ?_
 obtain ⟨e1,a9,Y⟩:=bd b
 refine bD (A:=Unit) a9 (fun s a=>[(0,(sc A2 E D2)),(1,(sc A4 D D4)),(5,(iv e)),(6,(sc g (List.replicate e.toNat (0:Int)) i)),(7,(iv s.2))]) (fun s a=>ow kT3 3 (.slice g (List.replicate e.toNat (0:Int)).length i) s.1::J) () (aS R) tI ?_
 rintro ⟨G,F⟩ _ σ1 a0 b T
 dsimp only [Z01_L1] at b
 refine cV ?_
 split at b
 refine bT ?_
 obtain ⟨j,Z,b⟩:=bd b
 refine aP ?_
 refine lM _ (fun w s=>(s.d 1 R)) ?_
 refine lC 1 vt R (Z2a_ok Z) R ?_
 rintro _
 refine bG ?_
 obtain ⟨l,O,b⟩:=bd b
 refine aP ?_
 refine lM _ (fun w s=>(s.d 2 R)) ?_
 refine lC 1 vt R (Z2a_ok O) R ?_
 rintro _
 refine bZ ?_
 refine cQ [(0,(sc A2 E D2)),(1,(sc A4 D D4)),(5,(iv e)),(6,(sc g (List.replicate e.toNat (0:Int)) i)),(7,(iv F)),(8,(iv j)),(9,(iv l)),(50,(.bool (((j != l)&&(j != 1))&&(l != 1))))] (ow kT3 3 (.slice g (List.replicate e.toNat (0:Int)).length i) G::J) ?_ ?_
 refine bZ ?_
 rcases bo (j != l) with a4 | a4
 refine bG ?_
 rcases bo ((j != l)&&(j != 1)) with a3 | a3
 refine bG ?_
 exact qj tI
 refine bG ?_
 exact qj tI
 refine cV ?_
 exact qj tI
 rintro σ1
 refine bU ?_
 split at b
 refine aP ?_
 refine bK (K:=kT3) (xs:=([]:List Int)) (vs:=[]) 0 R R bI cB f' R R R R R R ?_ R (fun aa a7=>?_)
 exact fun I h s=>(fZ).list [] I h s
 refine dG ?_
 cases b
 obtain rfl:=T _ R
 have b:=Y
 refine aP ?_
 cases b
 exact qF (aa,([]:List Int).length,a7) (tE 4 [0])
 refine bG ?_
 refine aZ (A:=(Int)×(Unit)) (fun a=>Z01_J3 e G F a.1=some a0) (fun a=>[(0,(sc A2 E D2)),(1,(sc A4 D D4)),(5,(iv e)),(6,(sc g (List.replicate e.toNat (0:Int)) i)),(7,(iv F)),(8,(iv a.1))]) (fun a=>ow kT3 3 (.slice g (List.replicate e.toNat (0:Int)).length i) G::J) ?_ ?_
 refine dG ?_
 split at b
 refine bZ ?_
 exact qI (l,()) b tI
 refine aU ?_
 exact qI (j,()) b tI
 rintro ⟨M,_⟩ σ1 b
 dsimp only [Z01_J3] at b
 obtain ⟨u,b⟩:=gd b
 refine dG ?_
 refine bA 0 aB (show 0<(List.replicate e.toNat (0:Int)).length by have:=u; omega) (fun ae o47 ha=>?_)
 subst ha
 refine bU ?_
 refine eA (K:=kT3) (x':=M) 0 (aH ((aH (e - 1)) - F)) R R cB R R u.1 u.2 ?_ ?_
 exact fun I h s=>(fZ).put I h () M s
 refine cV ?_
 cases b
 exact qA () tI
 refine aP ?_
 cases b
 obtain rfl:=T _ R
 have b:=Y
 refine aU ?_
 exact qI (G,()) b tI
 rintro ⟨a2,_⟩ σ1 b
 dsimp only [Z01_J4] at b
 refine aU ?_
 obtain ⟨ac,U,b⟩:=bd b
 refine aU ?_
 refine lC 1 kb R (FnOk.lends (A':=[ow kT3 3 (.slice g (List.replicate e.toNat (0:Int)).length i) a2]) (A:=[aN kT3 (.slice g (List.replicate e.toNat (0:Int)).length i) a2]) (B:=[]) (Zo_ok U) ⟨aV,trivial⟩ (fun _=>trivial)) R ?_
 rintro _
 refine aP ?_
 split at b
 refine aP ?_
 refine bK (K:=kT3) (xs:=([]:List Int)) (vs:=[]) 0 R R bI cB f' R R R R R R ?_ R (fun ab a5=>?_)
 exact fun I h s=>(fZ).list [] I h s
 refine bZ ?_
 cases b
 exact qF (ab,([]:List Int).length,a5) (tE 4 [0])
 refine cP ?_
 cases b
 exact qF (g,(List.replicate e.toNat (0:Int)).length,i) (tE 3 [0])
theorem Z0i_ok  {a:(List Int)}{r:Tensor}(b:Z0i a=some r) :
 FnOk Tryz.prog 93 [(.slice A2 N2 D2)] [aN kT3 (.slice A2 N2 D2) a] (fun (h:HH×HH)=>((.agg [(s3 h.1),(s3 h.2)].toArray),[ow kT3 3 (s3 h.1) r.Dims,ow kT3 3 (s3 h.2) r.Data])):=by
 unfold Z0i at b
 refine aQ Tryz.func93 R 9 R R fun C V=>?_
 refine cL 0 aA ?_
 rintro rfl
 let q:=RR kT3 A2 D2 a::V
 refine cN q ?_
 refine aU ?_
 refine bF R R dQ (fun u=>(aC (aI (aO ?_))))
 obtain ⟨j,i,b⟩:=bd b
 obtain ⟨g,l,b⟩:=bd b
 obtain ⟨e,b⟩:=gd b
 refine aU ?_
 refine lM _ (fun w s=>(s.d 1 R)) ?_
 refine lC 1 jN R (Zu_ok i) R ?_
 rintro ⟨A6,N6,D6⟩
 refine aL 0 aB ?_
 rintro rfl
 refine lS R (lM _ (fun w s=>(s.d 2 R)) ?_)
 refine lC 1 ny R (Zw_ok l) R ?_
 rintro _
 refine fI (K:=kT3) (m:=g) (z:=(0:Int)) R R bI cB jZ (Zr.zk zT3 f') (by decide) R R e.1 e.2.1 e.2.2 (fun A10 D10=>(lO (vz (.agg [(sc A6 j D6),(sc A10 (List.replicate g.toNat (0:Int)) D10)].toArray) (aX gN dQ R R)) (aK 2 R R bR R R R R R R (lN (OO kT3 3 A10 D10 (List.replicate g.toNat (0:Int))::_::aJ u [(sc A6 j D6),(sc A10 (List.replicate g.toNat (0:Int)) D10)] 58::q) ?_))))
 refine aP ?_
 cases b
 exact qS ((A6,j.length,D6),(A10,(List.replicate g.toNat (0:Int)).length,D10)) (tE 4 [1,0])
theorem Zj_ok  {b:(List Int)}{L:Int}{r:(List Int)}(e:Zj b L=some r) :
 FnOk Tryz.prog 102 [(.slice A2 N2 D2),(iv L)] [aN kT3 (.slice A2 N2 D2) b] (fun (h:HH)=>((s3 h),[ow kT3 3 (s3 h) r])):=by
 unfold Zj at e
 refine aQ Tryz.func102 R 33 R R fun C V=>?_
 refine cL 0 aA ?_
 rintro rfl
 let B:=RR kT3 A2 D2 b::V
 refine cN B ?_
 refine bT ?_
 obtain ⟨q,e⟩:=gd e
 refine aP ?_
 refine fI (K:=kT3) (m:=(b.length:Int)) (z:=(0:Int)) R R bI cB jZ (Zr.zk zT3 f') (by decide) R R q.1 q.2.1 q.2.2 (fun A5 D5=>(lS R (aC (aI (aO (aZ (A:=((List Int))×(Unit)) (fun a=>Zj_J1 a.1=some r) (fun a=>[(5,(sc A5 (List.replicate (b.length:Int).toNat (0:Int)) D5))]) (fun a=>ow kT3 3 (.slice A5 (List.replicate (b.length:Int).toNat (0:Int)).length D5) a.1::B) ?_ ?_))))))
 refine cU ?_
 obtain ⟨Y,F,D⟩:=bd e
 refine bD (A:=Unit) F (fun s a=>[(0,(sc A2 b D2)),(1,(iv s.1)),(5,(sc A5 (List.replicate (b.length:Int).toNat (0:Int)) D5)),(6,(iv s.2.2))]) (fun s a=>ow kT3 3 (.slice A5 (List.replicate (b.length:Int).toNat (0:Int)).length D5) s.2.1::B) () (aS R) tI ?_
 rintro ⟨l,G,i⟩ _ σ1 M e J
 dsimp only [Zj_L1] at e
 refine dG ?_
 split at e
 refine bT ?_
 obtain ⟨u,e⟩:=gd e
 obtain ⟨j,e⟩:=gd e
 obtain ⟨g,e⟩:=gd e
 refine bT ?_
 refine bA 1 aA (show 0<b.length by have:=u; omega) (fun U o22 E=>?_)
 subst E
 refine aU ?_
 refine lO (pX R R j) (bA 0 aB (show 0<(List.replicate (b.length:Int).toNat (0:Int)).length by have:=g; omega) (fun T o26 E=>?_))
 subst E
 refine bU ?_
 refine eA (K:=kT3) (x':=(l.tmod (ix b i))) 0 i R R cB R R g.1 g.2 ?_ ?_
 exact fun I h s=>(fZ).put I h () (l.tmod (ix b i)) s
 refine cV ?_
 refine lO (vz (iv (aH (l.tdiv (ix b i)))) (mf R R j)) ?_
 refine cU ?_
 cases e
 exact qA () tI
 refine aP ?_
 cases e
 obtain rfl:=J _ R
 have e:=D
 refine aU ?_
 exact qI (G,()) e tI
 rintro ⟨O,_⟩ σ1 e
 dsimp only [Zj_J1] at e
 refine dG ?_
 cases e
 exact qF (A5,(List.replicate (b.length:Int).toNat (0:Int)).length,D5) (tE 2 [0])
theorem Z0n_ok  {e:(List Int)}{b:(List Int)}{r:Int}(g:Z0n e b=some r) :
 FnOk Tryz.prog 114 [(.slice A2 N2 D2),(.slice A4 N4 D4)] [aN kT3 (.slice A2 N2 D2) e,aN kT3 (.slice A4 N4 D4) b] (fun (h:Unit)=>((iv r),[])):=by
 unfold Z0n at g
 refine aQ Tryz.func114 R 25 R R fun C V=>?_
 refine cL 0 aA ?_
 rintro rfl
 refine cL 1 aA ?_
 rintro rfl
 let l:=RR kT3 A2 D2 e::RR kT3 A4 D4 b::V
 refine cN l ?_
 refine hN ?_
 refine aZ (A:=(Int)×(Unit)) (fun a=>Z0n_J1 a.1=some r) (fun a=>[(5,(iv a.1))]) (fun a=>l) ?_ ?_
 refine bT ?_
 obtain ⟨M,B,m⟩:=bd g
 refine bD (A:=Unit) B (fun s a=>[(0,(sc A2 e D2)),(1,(sc A4 b D4)),(5,(iv s.1)),(6,(iv s.2))]) (fun s a=>l) () (aS R) tI ?_
 rintro ⟨q,G⟩ _ σ1 E g D
 dsimp only [Z0n_L1] at g
 refine cU ?_
 split at g
 refine bZ ?_
 obtain ⟨i,g⟩:=gd g
 obtain ⟨j,g⟩:=gd g
 refine bB 0 aA (show 0<e.length by have:=i; omega) (fun I o17 u=>?_)
 subst u
 refine bB 1 aA (show 0<b.length by have:=j; omega) (fun J o20 u=>?_)
 subst u
 refine dF 12 [] bP fun L O=>?_
 refine uh 0 [] ?_
 refine dD ?_
 refine dG ?_
 cases g
 exact qA () tI
 refine aP ?_
 cases g
 obtain rfl:=D _ R
 have g:=m
 refine aU ?_
 exact qI (q,()) g tI
 rintro ⟨F,_⟩ σ1 g
 dsimp only [Z0n_J1] at g
 refine dG ?_
 cases g
 exact qF () (tE 2 [])
theorem Z19_ok  {t1:Tensor}{a:(List Int)}{r:Int}(b:Z19 t1 a=some r) :
 FnOk Tryz.prog 112 [(.agg [(.slice A2 N2 D2),(.slice A3 N3 D3)].toArray),(.slice A5 N5 D5)] [aN kT3 (.slice A2 N2 D2) t1.Dims,aN kT3 (.slice A3 N3 D3) t1.Data,aN kT3 (.slice A5 N5 D5) a] (fun (h:Unit)=>((iv r),[])):=by
 unfold Z19 at b
 refine aQ Tryz.func112 R 13 R R fun C V=>?_
 refine cL 0 aA ?_
 rintro rfl
 refine cL 1 aA ?_
 rintro rfl
 refine cL 2 aA ?_
 rintro rfl
 let j:=RR kT3 A2 D2 t1.Dims::RR kT3 A3 D3 t1.Data::RR kT3 A5 D5 a::V
 refine cN j ?_
 refine aU ?_
 refine eF R fun u=>?_
 refine aU ?_
 let l:=aJ u [(sc A2 t1.Dims D2),(sc A3 t1.Data D3)] 58::j
 refine qN l ?_
 refine aU ?_
 obtain ⟨E,i,b⟩:=bd b
 obtain ⟨g,b⟩:=gd b
 refine bB 2 aA (show 0<t1.Data.length by have:=g; omega) (fun m o11 q=>?_)
 subst q
 refine dF 9 [] bP fun B D=>?_
 refine kk 0 [] ?_
 refine d1 5 R (lM _ (fun w s=>(((s.d 1 R).d 4 R).e 2 [1,0])) ?_)
 refine lC 2 sw R (Z0n_ok i) R ?_
 rintro _
 refine lN l ?_
 refine aC (aG (sL []) ?_)
 refine hX 6 [] ?_
 refine dD ?_
 refine aU ?_
 cases b
 exact qF () (tE 4 [])
theorem Z09_ok  {t1:Tensor}{b:(List Int)}{r:Int}(g:Z09 t1 b=some r) :
 FnOk Tryz.prog 104 [(.agg [(.slice A2 N2 D2),(.slice A3 N3 D3)].toArray),(.slice A5 N5 D5)] [aN kT3 (.slice A2 N2 D2) t1.Dims,aN kT3 (.slice A3 N3 D3) t1.Data,aN kT3 (.slice A5 N5 D5) b] (fun (h:Unit)=>((iv r),[])):=by
 unfold Z09 at g
 refine aQ Tryz.func104 R 42 R R fun C V=>?_
 refine cL 0 aA ?_
 rintro rfl
 refine cL 1 aA ?_
 rintro rfl
 refine cL 2 aA ?_
 rintro rfl
 let W0:=RR kT3 A2 D2 t1.Dims::RR kT3 A3 D3 t1.Data::RR kT3 A5 D5 b::V
 refine cN W0 ?_
 refine aU ?_
 refine eF R fun b6=>?_
 refine aU ?_
 let Z:=aJ b6 [(sc A2 t1.Dims D2),(sc A3 t1.Data D3)] 58::W0
 refine qN Z ?_
 refine oi ?_
 refine bK (K:=kT3) (xs:=([]:List Int)) (vs:=[]) 0 R R bI cB f' R R R R R R ?_ R (fun A7 D7=>?_)
 exact fun I h s=>(fZ).list [] I h s
 refine bG ?_
 refine aZ (A:=((List Int))×(HH)) (fun a=>Z09_J3 t1 a.1=some r) (fun a=>[(2,(pt b6 0)),(6,(s3 a.2))]) (fun a=>ow kT3 3 (s3 a.2) a.1::Z) ?_ ?_
 refine bT ?_
 obtain ⟨e1,a6,a5⟩:=bd g
 refine bD (A:=HH×HH) a6 (fun s a=>[(1,(s3 a.1)),(2,(pt b6 0)),(5,(iv (aH ((b.length:Int) - (t1.Dims.length:Int))))),(6,(s3 a.2)),(7,(iv s.2))]) (fun s a=>aN kT3 (s3 a.1) b::ow kT3 3 (s3 a.2) s.1::Z) ((A5,b.length,D5),(A7,([]:List Int).length,D7)) (aS R) (fun w s=>(s.d 4 R)) ?_
 rintro ⟨i,m⟩ ⟨⟨a8,a3,G⟩,⟨F,a1,q⟩⟩ σ1 Y g a2
 dsimp only [Z09_L1] at g
 refine bJ 0 aA (fun (T:a3=b.length)=>?_)
 subst T
 refine bJ 1 aB (fun (T:a1=i.length)=>?_)
 subst T
 refine cP ?_
 split at g
 refine bT ?_
 obtain ⟨J,g⟩:=gd g
 refine bZ ?_
 refine bA 0 aA (show 0<b.length by have:=J; omega) (fun u o27 ha=>?_)
 subst ha
 refine bT ?_
 refine aZ (A:=(Int)×(Unit)) (fun a=>Z09_J2 i m a.1=some Y) (fun a=>[(1,(sc (ad u o27) b G)),(2,(pt b6 0)),(5,(iv (aH ((b.length:Int) - (t1.Dims.length:Int))))),(6,(sc F i q)),(7,(iv m)),(8,(iv a.1))]) (fun a=>RR kT3 (ad u o27) G b::OO kT3 3 F q i::Z) ?_ ?_
 refine bU ?_
 obtain ⟨M,g⟩:=gd g
 refine bG ?_
 refine bA 3 aA (show 0<t1.Dims.length by have:=M; omega) (fun aa o30 ha=>?_)
 subst ha
 refine bZ ?_
 split at g
 refine bG ?_
 exact qI ((0:Int),()) g tI
 refine aU ?_
 exact qI ((ix b (aH ((aH ((b.length:Int) - (t1.Dims.length:Int)))+m))),()) g tI
 rintro ⟨j,_⟩ σ1 g
 dsimp only [Z09_J2] at g
 obtain ⟨L,g⟩:=gd g
 refine aP ?_
 refine bK (K:=kT3) (xs:=([j]:List Int)) (vs:=[(iv j)]) 0 R R bI cB f' R R R R R R ?_ R (fun a7 ab=>?_)
 exact fun I h s=>(fZ).list [((),j)] I h s
 refine lM _ (tE 3 [2,0,1]) ?_
 refine eB (K:=kT3) 17592186044416 R R bI cB jZ (Zr.zk zT3 f') R R R R R R dM L (fun a0 U=>(lN (OO kT3 3 a0 U (i++([j]:List Int))::_::Z) ?_))
 refine cU ?_
 cases g
 exact qA (((ad u o27),b.length,G),(a0,(i++([j]:List Int)).length,U)) (tE 2 [1,0])
 refine aP ?_
 cases g
 obtain rfl:=a2 _ R
 have g:=a5
 refine aU ?_
 exact qI (i,(F,i.length,q)) g (tE 2 [1])
 rintro ⟨l,⟨E,a4,D⟩⟩ σ1 g
 dsimp only [Z09_J3] at g
 refine bJ 0 aB (fun (T:a4=l.length)=>?_)
 subst T
 refine bU ?_
 obtain ⟨a9,O,g⟩:=bd g
 refine aP ?_
 refine lM _ (fun w s=>(((s.d 2 R).d 4 R).e 3 [2,1,0])) ?_
 refine lC 3 m' R (FnOk.lends (A':=[OO kT3 3 E D l]) (A:=[RR kT3 E D l]) (B:=[RR kT3 A2 D2 t1.Dims,RR kT3 A3 D3 t1.Data]) (FnOk.perm (Z19_ok O) (Pre':=[RR kT3 E D l,RR kT3 A2 D2 t1.Dims,RR kT3 A3 D3 t1.Data]) (fun _ _ _ s=>(s.e 3 [1,2,0]))) ⟨aV,trivial⟩ (fun _=>trivial)) R ?_
 rintro _
 refine bG ?_
 cases g
 exact qF () (tE 5 [])
theorem Zq_ok  {p1:Int}{r:Int}(b:Zq p1=some r) :
 FnOk Tryz.prog 94 [(iv p1)] [] (fun (h:Unit)=>((iv r),[])):=by
 unfold Zq at b
 refine aQ Tryz.func94 R 11 R R fun C V=>?_
 refine cN V ?_
 refine cV ?_
 refine lO (pX R R (by decide)) ?_
 refine bG ?_
 refine aZ (A:=(Int)×(Unit)) (fun a=>Zq_J1 a.1=some r) (fun a=>[(3,(iv a.1))]) (fun a=>V) ?_ ?_
 refine bT ?_
 split at b
 refine bT ?_
 exact qI ((aH ((p1.tmod (2147483647:Int))+2147483647)),()) b tI
 refine aU ?_
 exact qI ((p1.tmod (2147483647:Int)),()) b tI
 rintro ⟨e,_⟩ σ1 b
 dsimp only [Zq_J1] at b
 refine dG ?_
 cases b
 exact qF () tI
theorem Z1g_ok  {e:Int}{r:Int}(a:Z1g e=some r) :
 FnOk Tryz.prog 108 [(iv e)] [] (fun (h:Unit)=>((iv r),[])):=by
 unfold Z1g at a
 refine aQ Tryz.func108 R 11 R R fun C V=>?_
 refine cN V ?_
 refine bT ?_
 obtain ⟨g,b,a⟩:=bd a
 refine aU ?_
 refine lC 0 lz R (Zq_ok b) R ?_
 rintro _
 refine cP ?_
 split at a
 refine cP ?_
 cases a
 exact qF () tI
 refine cP ?_
 cases a
 exact qF () tI
theorem Z1o_ok  {i:Int}{j:Int}{r:Int}(a:Z1o i j=some r) :
 FnOk Tryz.prog 115 [(iv i),(iv j)] [] (fun (h:Unit)=>((iv r),[])):=by
 unfold Z1o at a
 refine aQ Tryz.func115 R 11 R R fun C V=>?_
 refine cN V ?_
 refine bT ?_
 obtain ⟨q,e,a⟩:=bd a
 obtain ⟨l,b,a⟩:=bd a
 obtain ⟨m,g,a⟩:=bd a
 refine aU ?_
 refine lC 0 lz R (Zq_ok e) R ?_
 rintro _
 refine lI R (lC 0 lz R (Zq_ok b) R ?_)
 rintro _
 refine bU ?_
 refine lC 0 lz R (Zq_ok g) R ?_
 rintro _
 refine bG ?_
 cases a
 exact qF () tI
theorem Z28_ok  {i:Int}{j:Int}{r:Int}(a:Z28 i j=some r) :
 FnOk Tryz.prog 139 [(iv i),(iv j)] [] (fun (h:Unit)=>((iv r),[])):=by
 unfold Z28 at a
 refine aQ Tryz.func139 R 11 R R fun C V=>?_
 refine cN V ?_
 refine bT ?_
 obtain ⟨q,e,a⟩:=bd a
 obtain ⟨l,b,a⟩:=bd a
 obtain ⟨m,g,a⟩:=bd a
 refine aU ?_
 refine lC 0 lz R (Zq_ok e) R ?_
 rintro _
 refine lI R (lC 0 lz R (Zq_ok b) R ?_)
 rintro _
 refine bU ?_
 refine lC 0 lz R (Zq_ok g) R ?_
 rintro _
 refine bG ?_
 cases a
 exact qF () tI
theorem Z1h_ok  {i:Int}{j:Int}{r:Int}(a:Z1h i j=some r) :
 FnOk Tryz.prog 111 [(iv i),(iv j)] [] (fun (h:Unit)=>((iv r),[])):=by
 unfold Z1h at a
 refine aQ Tryz.func111 R 11 R R fun C V=>?_
 refine cN V ?_
 refine bT ?_
 obtain ⟨q,e,a⟩:=bd a
 obtain ⟨l,b,a⟩:=bd a
 obtain ⟨m,g,a⟩:=bd a
 refine aU ?_
 refine lC 0 lz R (Zq_ok e) R ?_
 rintro _
 refine lI R (lC 0 lz R (Zq_ok b) R ?_)
 rintro _
 refine bU ?_
 refine lC 0 lz R (Zq_ok g) R ?_
 rintro _
 refine bG ?_
 cases a
 exact qF () tI
theorem Zt_S_ok {q:Int→Int→Option (Int)}(l:∀ {g:Int} {e:Int} {r:Int},q g e=some r→FnOk Tryz.prog 155 [(iv g),(iv e)] [] (fun (h:Unit)=>((iv r),[]))){g:Int}{e:Int}{r:Int}(b:Zt_S q g e=some r) :
 FnOk Tryz.prog 155 [(iv g),(iv e)] [] (fun (h:Unit)=>((iv r),[])):=by
 unfold Zt_S at b
 refine aQ Tryz.func155 R 22 R R fun C V=>?_
 refine cN V ?_
 refine hH ?_
 split at b
 refine cV ?_
 cases b
 exact qF () tI
 refine bG ?_
 obtain ⟨D,j,b⟩:=bd b
 refine aP ?_
 refine lO (vz (iv (aH (e.tdiv (2:Int)))) (mf R R (by decide))) (lC 0 vv R (l j) R ?_)
 rintro _
 refine bG ?_
 obtain ⟨B,m,b⟩:=bd b
 refine aP ?_
 refine lC 0 oB R (Z1h_ok m) R ?_
 rintro _
 refine bG ?_
 refine aZ (A:=(Int)×(Unit)) (fun a=>Zt_J1 a.1=some r) (fun a=>[(5,(iv a.1))]) (fun a=>V) ?_ ?_
 refine aP ?_
 refine lO (pX R R (by decide)) ?_
 refine aP ?_
 split at b
 refine bU ?_
 obtain ⟨s,i,b⟩:=bd b
 refine aP ?_
 refine lC 0 oB R (Z1h_ok i) R ?_
 rintro _
 refine aU ?_
 exact qI (s,()) b tI
 refine aU ?_
 exact qI (B,()) b tI
 rintro ⟨u,_⟩ σ1 b
 dsimp only [Zt_J1] at b
 refine dG ?_
 cases b
 exact qF () tI
theorem Zt_R_ok (n:Nat):∀ {b:Int} {a:Int} {r:Int},Zt_R n b a=some r→FnOk Tryz.prog 155 [(iv b),(iv a)] [] (fun (h:Unit)=>((iv r),[])):=by
 induction n with
 | zero=>intros; rename_i h; cases h
 | succ n ih=>intros; rename_i h; exact Zt_S_ok ih h
theorem Zt_ok {b:Int}{a:Int}{r:Int}(e:Zt b a=some r):FnOk Tryz.prog 155 [(iv b),(iv a)] [] (fun (h:Unit)=>((iv r),[])):=Zt_R_ok nu e
theorem Z27_ok  {g:Int}{r:Int}(a:Z27 g=some r) :
 FnOk Tryz.prog 141 [(iv g)] [] (fun (h:Unit)=>((iv r),[])):=by
 unfold Z27 at a
 refine aQ Tryz.func141 R 6 R R fun C V=>?_
 refine cN V ?_
 refine bT ?_
 obtain ⟨j,e,a⟩:=bd a
 obtain ⟨i,b,a⟩:=bd a
 refine aU ?_
 refine lC 0 lz R (Zq_ok e) R ?_
 rintro _
 refine lC 0 vv R (Zt_ok b) R ?_
 rintro _
 refine bG ?_
 cases a
 exact qF () tI
theorem Z3s_ok  {g:Int}{i:Int}{r:Int}(a:Z3s g i=some r) :
 FnOk Tryz.prog 140 [(iv g),(iv i)] [] (fun (h:Unit)=>((iv r),[])):=by
 unfold Z3s at a
 refine aQ Tryz.func140 R 9 R R fun C V=>?_
 refine cN V ?_
 refine bT ?_
 obtain ⟨l,e,a⟩:=bd a
 obtain ⟨j,b,a⟩:=bd a
 refine aP ?_
 refine lC 0 vw R (Z27_ok e) R ?_
 rintro _
 refine lC 0 oB R (Z1h_ok b) R ?_
 rintro _
 refine bG ?_
 cases a
 exact qF () tI
theorem Z1p_ok  {j:Int}{B:Int}{q:Int}{r:Int}(b:Z1p j B q=some r) :
 FnOk Tryz.prog 103 [(iv j),(iv B),(iv q)] [] (fun (h:Unit)=>((iv r),[])):=by
 unfold Z1p at b
 refine aQ Tryz.func103 R 54 R R fun C V=>?_
 refine cN V ?_
 refine bT ?_
 obtain ⟨E,m,b⟩:=bd b
 obtain ⟨F,s,b⟩:=bd b
 refine aU ?_
 refine lC 0 oA R (Z1g_ok m) R ?_
 rintro _
 refine lI R (lC 0 oA R (Z1g_ok s) R ?_)
 rintro _
 refine cP ?_
 refine aZ (A:=(Bool)×(Unit)) (fun a=>Z1p_J1 a.1=some r) (fun a=>[(8,(.bool a.1))]) (fun a=>V) ?_ ?_
 refine hH ?_
 split at b
 refine aU ?_
 obtain ⟨J,g,b⟩:=bd b
 refine aP ?_
 refine lC 0 qc R (Z1o_ok g) R ?_
 rintro _
 refine bT ?_
 cases b
 exact qF () tI
 refine dG ?_
 split at b
 refine aU ?_
 obtain ⟨D,e,b⟩:=bd b
 refine aP ?_
 refine lC 0 vu R (Z28_ok e) R ?_
 rintro _
 refine bT ?_
 cases b
 exact qF () tI
 refine dG ?_
 split at b
 refine aU ?_
 obtain ⟨G,l,b⟩:=bd b
 refine aP ?_
 refine lC 0 oB R (Z1h_ok l) R ?_
 rintro _
 refine bT ?_
 cases b
 exact qF () tI
 refine dG ?_
 split at b
 refine aU ?_
 obtain ⟨I,i,b⟩:=bd b
 refine aP ?_
 refine lC 0 yA R (Z3s_ok i) R ?_
 rintro _
 refine bT ?_
 cases b
 exact qF () tI
 refine dG ?_
 split at b
 refine dG ?_
 split at b
 refine hN ?_
 cases b
 exact qF () tI
 refine hH ?_
 cases b
 exact qF () tI
 refine dG ?_
 split at b
 refine dG ?_
 split at b
 refine hN ?_
 cases b
 exact qF () tI
 refine hH ?_
 cases b
 exact qF () tI
 refine dG ?_
 split at b
 refine bT ?_
 exact qI ((decide (E<F)),()) b tI
 refine dG ?_
 split at b
 refine cV ?_
 exact qI ((B==q),()) b tI
 refine aP ?_
 exact qI (false,()) b tI
 rintro ⟨u,_⟩ σ1 b
 dsimp only [Z1p_J1] at b
 refine bT ?_
 split at b
 refine cV ?_
 cases b
 exact qF () tI
 refine cU ?_
 cases b
 exact qF () tI
theorem Z15_ok  {D:Int}{M:Tensor}{U:Tensor}{r:Tensor}(g:Z15 D M U=some r) :
 FnOk Tryz.prog 78 [(iv D),(.agg [(.slice A3 N3 D3),(.slice A4 N4 D4)].toArray),(.agg [(.slice A6 N6 D6),(.slice A7 N7 D7)].toArray)] [aN kT3 (.slice A3 N3 D3) M.Dims,aN kT3 (.slice A4 N4 D4) M.Data,aN kT3 (.slice A6 N6 D6) U.Dims,aN kT3 (.slice A7 N7 D7) U.Data] (fun (h:HH×HH)=>((.agg [(s3 h.1),(s3 h.2)].toArray),[ow kT3 3 (s3 h.1) r.Dims,ow kT3 3 (s3 h.2) r.Data])):=by
 unfold Z15 at g
 refine aQ Tryz.func78 R 73 R R fun C V=>?_
 refine cL 0 aA ?_
 rintro rfl
 refine cL 1 aA ?_
 rintro rfl
 refine cL 2 aA ?_
 rintro rfl
 refine cL 3 aA ?_
 rintro rfl
 let W0:=RR kT3 A3 D3 M.Dims::RR kT3 A4 D4 M.Data::RR kT3 A6 D6 U.Dims::RR kT3 A7 D7 U.Data::V
 refine cN W0 ?_
 refine aU ?_
 refine eF R fun b8=>?_
 refine eF R fun b9=>?_
 refine bF R R dQ (fun j=>(aC ?_))
 let W1:=aJ b9 [(sc A6 U.Dims D6),(sc A7 U.Data D7)] 58::aJ b8 [(sc A3 M.Dims D3),(sc A4 M.Data D4)] 58::W0
 refine aP ?_
 obtain ⟨Z,a5,g⟩:=bd g
 obtain ⟨a0,a6,g⟩:=bd g
 refine cQ [(0,(iv D)),(4,(pt b8 0)),(5,(pt b9 0)),(6,(pt j 0)),(26,(.bool ((((!Z)||(!a0))||(decide (D<1)))||(decide (D>8)))))] (aJ j [(.slice none 0 0),(.slice none 0 0)] 58::W1) ?_ ?_
 refine aU ?_
 refine lM _ (fun w s=>(((s.d 3 R).d 5 R).e 3 [1,0,2])) ?_
 refine lC 2 nz R (Zs_ok a5) R ?_
 rintro _
 refine aU ?_
 rcases bo (!Z) with Y | Y
 refine kj ?_
 exact qj tI
 refine bU ?_
 refine lM _ (fun w s=>(((s.d 5 R).d 7 R).e 3 [1,0,2])) ?_
 refine bX 2 R (cA Y) nz R (Zs_ok (bN a6 (cT Y))) R ?_
 rintro _
 refine aP ?_
 rcases bo ((!Z)||(!a0)) with ab | ab
 refine cV ?_
 exact qj tI
 refine bG ?_
 rcases bo (((!Z)||(!a0))||(decide (D<1))) with a7 | a7
 refine bG ?_
 exact qj tI
 refine bG ?_
 exact qj tI
 rintro σ1
 refine bU ?_
 split at g
 refine aP ?_
 refine lO (vz (.agg [(.slice none 0 0),(.slice none 0 0)].toArray) (aX gN dQ R R)) (aK 0 R R bR R R R R R R (aC (aI (bY (cF ?_)))))
 cases g
 exact qS ((none,0,0),(none,0,0)) (fun w s=>(((s.nilo kT3 3).nilo kT3 3).e 9 [1,0]))
 refine bG ?_
 obtain ⟨i,ac,g⟩:=bd g
 refine bZ ?_
 refine lM _ (fun w s=>(((s.d 3 R).d 6 R).e 3 [1,0,2])) ?_
 refine lC 2 yz R (Z01_ok ac) R ?_
 rintro ⟨q,ap,E⟩
 refine aL 0 aB ?_
 rintro rfl
 refine bZ ?_
 refine cQ [(0,(iv D)),(4,(pt b8 0)),(5,(pt b9 0)),(6,(pt j 0)),(7,(sc q i E)),(46,(.bool ((decide ((i.length:Int)<(M.Dims.length:Int)))||(decide ((i.length:Int)<(U.Dims.length:Int))))))] (aJ j [(.slice none 0 0),(.slice none 0 0)] 58::OO kT3 3 q E i::W1) ?_ ?_
 refine cV ?_
 rcases bo (decide ((i.length:Int)<(M.Dims.length:Int))) with a9 | a9
 refine cV ?_
 exact qj (tE 2 [1,0])
 refine cV ?_
 exact qj (tE 2 [1,0])
 rintro σ1
 refine bU ?_
 split at g
 refine aP ?_
 refine lO (vz (.agg [(.slice none 0 0),(.slice none 0 0)].toArray) (aX gN dQ R R)) (aK 0 R R bR R R R R R R (aC (aI (bY (cF ?_)))))
 cases g
 exact qS ((none,0,0),(none,0,0)) (fun w s=>(((s.nilo kT3 3).nilo kT3 3).e 10 [1,0]))
 refine bG ?_
 obtain ⟨b,ae,g⟩:=bd g
 refine aU ?_
 refine lM _ (tE 2 [1,0]) ?_
 refine lC 1 nA R (FnOk.lends (A':=[OO kT3 3 q E i]) (A:=[RR kT3 q E i]) (B:=[]) (Z0i_ok ae) ⟨aV,trivial⟩ (fun _=>⟨(bH iM),(bH iM),trivial⟩)) R ?_
 rintro ⟨⟨u,av,F⟩,⟨m,aq,l⟩⟩
 refine aL 1 aB ?_
 rintro rfl
 refine aL 2 aB ?_
 rintro rfl
 refine bF R R dQ (fun T=>(aK 0 R R bR R R R R R R (lN (aJ T [(sc u b.Dims F),(sc m b.Data l)] 58::_::_::_::_::W1) ?_)))
 refine aP ?_
 refine aZ (A:=((List Int))×(Unit)) (fun a=>Z15_J1 b a.1=some r) (fun a=>[(6,(pt j 0)),(8,(pt T 0))]) (fun a=>aJ j [(.slice none 0 0),(.slice none 0 0)] 58::aJ T [(sc u b.Dims F),(sc m b.Data l)] 58::OO kT3 3 u F b.Dims::ow kT3 3 (.slice m b.Data.length l) a.1::W1) ?_ ?_
 refine bT ?_
 obtain ⟨e1,al,ak⟩:=bd g
 refine bD (A:=Unit) al (fun s a=>[(0,(iv D)),(4,(pt b8 0)),(5,(pt b9 0)),(6,(pt j 0)),(7,(sc q i E)),(8,(pt T 0)),(9,(iv s.2))]) (fun s a=>aJ j [(.slice none 0 0),(.slice none 0 0)] 58::OO kT3 3 q E i::aJ T [(sc u b.Dims F),(sc m b.Data l)] 58::OO kT3 3 u F b.Dims::ow kT3 3 (.slice m b.Data.length l) s.1::W1) () (aS R) (tE 5 [4,1,0,2,3]) ?_
 rintro ⟨ai,ag⟩ _ σ1 am g aj
 dsimp only [Z15_L1] at g
 refine cP ?_
 split at g
 refine bT ?_
 obtain ⟨J,a4,g⟩:=bd g
 refine aP ?_
 refine lM _ (tE 5 [1,0,2,3,4]) ?_
 refine lC 1 ln R (FnOk.lends (A':=[OO kT3 3 q E i]) (A:=[RR kT3 q E i]) (B:=[]) (Zj_ok a4) ⟨aV,trivial⟩ (fun _=>⟨(bH iM),trivial⟩)) R ?_
 rintro ⟨O,an,L⟩
 refine aL 1 aB ?_
 rintro rfl
 refine aP ?_
 obtain ⟨ar,a1,g⟩:=bd g
 obtain ⟨au,a8,g⟩:=bd g
 obtain ⟨a3,aa,g⟩:=bd g
 obtain ⟨G,g⟩:=gd g
 refine bB 5 aB (show 0<b.Data.length by have:=G; omega) (fun ao o56 ha=>?_)
 subst ha
 refine dF 13 [5] bP fun ht hn=>?_
 refine sf 0 [5] ?_
 refine gR 7 [5] ?_
 refine d1 6 R (lM _ (fun w s=>(((s.d 8 R).d 10 R).e 8 [3,1,0,2,4,5,6,7])) ?_)
 refine lC 3 vx R (FnOk.lends (A':=[OO kT3 3 O L J]) (A:=[RR kT3 O L J]) (B:=[RR kT3 A3 D3 M.Dims,RR kT3 A4 D4 M.Data]) (FnOk.perm (Z09_ok a1) (Pre':=[RR kT3 O L J,RR kT3 A3 D3 M.Dims,RR kT3 A4 D4 M.Data]) (fun _ _ _ s=>(s.e 3 [1,2,0]))) ⟨aV,trivial⟩ (fun _=>trivial)) R ?_
 rintro _
 refine aC (aG (tE 6 [1,0,2,3,4]) (d1 9 R (lM _ (fun w s=>(((s.d 10 R).d 12 R).e 8 [2,1,0,3,4,5,6,7])) ?_)))
 refine lC 3 vx R (FnOk.lends (A':=[OO kT3 3 O L J]) (A:=[RR kT3 O L J]) (B:=[RR kT3 A6 D6 U.Dims,RR kT3 A7 D7 U.Data]) (FnOk.perm (Z09_ok a8) (Pre':=[RR kT3 O L J,RR kT3 A6 D6 U.Dims,RR kT3 A7 D7 U.Data]) (fun _ _ _ s=>(s.e 3 [1,2,0]))) ⟨aV,trivial⟩ (fun _=>trivial)) R ?_
 rintro _
 refine aC (aG (tE 6 [1,0,2,3,4]) (d1 10 R (lC 0 yB R (Z1p_ok aa) R ?_)))
 rintro _
 refine aC (aG (tE 6 [1,0,2,3,4]) (dR 11 R (eL bI cB R R G) (hS:=(tE 6 [1,0,2,3,4])) (d1 12 R (lM _ (fun w s=>(s.f 6 [5,1,0,5])) ?_))))
 refine eA (K:=kT3) (x':=a3) 0 ag R R cB R R G.1 G.2 ?_ ?_
 exact fun I h s=>(fZ).put I h () a3 s
 refine aC (aG (tE 6 [2,1,3,4,5]) (dD ?_))
 refine dG ?_
 cases g
 exact qA () (tE 6 [3,2,4,5,0])
 refine aP ?_
 cases g
 obtain rfl:=aj _ R
 have g:=ak
 refine aU ?_
 exact qI (ai,()) g (tE 5 [0,2,3,4])
 rintro ⟨ah,_⟩ σ1 g
 dsimp only [Z15_J1] at g
 refine aP ?_
 refine aK 0 R R bR R R R R R R (lN (aJ j [(sc u b.Dims F),(sc m b.Data l)] 58::aJ T [(sc u b.Dims F),(sc m b.Data l)] 58::_::ow kT3 3 (.slice m b.Data.length l) ah::W1) ?_)
 refine aP ?_
 cases g
 exact qS ((u,b.Dims.length,F),(m,b.Data.length,l)) (tE 10 [2,3])
theorem Z31_ok  {e:Int}{j:Int}{r:Int}(a:Z31 e j=some r) :
 FnOk Tryz.prog 105 [(iv e),(iv j)] [] (fun (h:Unit)=>((iv r),[])):=by
 unfold Z31 at a
 refine aQ Tryz.func105 R 20 R R fun C V=>?_
 refine cN V ?_
 refine yn ?_
 split at a
 refine aU ?_
 obtain ⟨l,g,a⟩:=bd a
 refine aU ?_
 refine lC 0 vu R (Z28_ok g) R ?_
 rintro _
 refine bT ?_
 cases a
 exact qF () tI
 refine dG ?_
 split at a
 refine aU ?_
 obtain ⟨m,i,a⟩:=bd a
 refine aU ?_
 refine lC 0 vw R (Z27_ok i) R ?_
 rintro _
 refine bT ?_
 cases a
 exact qF () tI
 refine bT ?_
 obtain ⟨q,b,a⟩:=bd a
 refine aU ?_
 refine lC 0 oA R (Z1g_ok b) R ?_
 rintro _
 refine aP ?_
 split at a
 refine cV ?_
 cases a
 exact qF () tI
 refine cP ?_
 split at a
 refine cV ?_
 cases a
 exact qF () tI
 refine cP ?_
 cases a
 exact qF () tI
theorem Z14_ok  {l:Int}{u:Tensor}{r:Tensor}(g:Z14 l u=some r) :
 FnOk Tryz.prog 79 [(iv l),(.agg [(.slice A3 N3 D3),(.slice A4 N4 D4)].toArray)] [aN kT3 (.slice A3 N3 D3) u.Dims,aN kT3 (.slice A4 N4 D4) u.Data] (fun (h:HH×HH)=>((.agg [(s3 h.1),(s3 h.2)].toArray),[ow kT3 3 (s3 h.1) r.Dims,ow kT3 3 (s3 h.2) r.Data])):=by
 unfold Z14 at g
 refine aQ Tryz.func79 R 41 R R fun C V=>?_
 refine cL 0 aA ?_
 rintro rfl
 refine cL 1 aA ?_
 rintro rfl
 let W0:=RR kT3 A3 D3 u.Dims::RR kT3 A4 D4 u.Data::V
 refine cN W0 ?_
 refine aU ?_
 refine eF R fun Z=>?_
 refine bF R R dQ (fun B=>(aC ?_))
 let J:=aJ Z [(sc A3 u.Dims D3),(sc A4 u.Data D4)] 58::W0
 refine aP ?_
 obtain ⟨T,U,g⟩:=bd g
 refine cQ [(0,(iv l)),(3,(pt Z 0)),(4,(pt B 0)),(17,(.bool (((!T)||(decide (l<1)))||(decide (l>4)))))] (aJ B [(.slice none 0 0),(.slice none 0 0)] 58::J) ?_ ?_
 refine aU ?_
 refine lM _ (fun w s=>(((s.d 2 R).d 4 R).e 3 [1,0,2])) ?_
 refine lC 2 nz R (Zs_ok U) R ?_
 rintro _
 refine aU ?_
 rcases bo (!T) with Y | Y
 refine cV ?_
 exact qj tI
 refine bG ?_
 rcases bo ((!T)||(decide (l<1))) with L | L
 refine bG ?_
 exact qj tI
 refine bG ?_
 exact qj tI
 rintro σ1
 refine bU ?_
 split at g
 refine aP ?_
 refine lO (vz (.agg [(.slice none 0 0),(.slice none 0 0)].toArray) (aX gN dQ R R)) (aK 0 R R bR R R R R R R (aC (aI (bY (cF ?_)))))
 cases g
 exact qS ((none,0,0),(none,0,0)) (fun w s=>(((s.nilo kT3 3).nilo kT3 3).e 6 [1,0]))
 refine bG ?_
 obtain ⟨b,F,g⟩:=bd g
 refine aP ?_
 refine lM _ (fun w s=>(s.d 2 R)) ?_
 refine lC 1 nA R (Z0i_ok F) R ?_
 rintro ⟨⟨A14,N14,D14⟩,⟨i,a6,j⟩⟩
 refine aL 0 aB ?_
 rintro rfl
 refine aL 1 aB ?_
 rintro rfl
 refine bF R R dQ (fun m=>(aK 0 R R bR R R R R R R (lN (aJ m [(sc A14 b.Dims D14),(sc i b.Data j)] 58::_::_::_::J) ?_)))
 refine aP ?_
 refine aZ (A:=((List Int))×(Unit)) (fun a=>Z14_J1 b a.1=some r) (fun a=>[(4,(pt B 0)),(5,(pt m 0))]) (fun a=>aJ B [(.slice none 0 0),(.slice none 0 0)] 58::aJ m [(sc A14 b.Dims D14),(sc i b.Data j)] 58::OO kT3 3 A14 D14 b.Dims::ow kT3 3 (.slice i b.Data.length j) a.1::J) ?_ ?_
 refine bT ?_
 obtain ⟨e1,a1,a0⟩:=bd g
 refine bD (A:=Unit) a1 (fun s a=>[(0,(iv l)),(3,(pt Z 0)),(4,(pt B 0)),(5,(pt m 0)),(6,(iv s.2))]) (fun s a=>aJ B [(.slice none 0 0),(.slice none 0 0)] 58::aJ m [(sc A14 b.Dims D14),(sc i b.Data j)] 58::OO kT3 3 A14 D14 b.Dims::ow kT3 3 (.slice i b.Data.length j) s.1::J) () (aS R) (tE 4 [3,0,1,2]) ?_
 rintro ⟨a3,M⟩ _ σ1 a4 g O
 dsimp only [Z14_L1] at g
 refine cP ?_
 split at g
 refine bZ ?_
 obtain ⟨E,g⟩:=gd g
 obtain ⟨G,D,g⟩:=bd g
 obtain ⟨q,g⟩:=gd g
 refine bB 6 aA (show 0<u.Data.length by have:=E; omega) (fun a7 o31 ha=>?_)
 subst ha
 refine bB 3 aB (show 0<b.Data.length by have:=q; omega) (fun a5 o36 ha=>?_)
 subst ha
 refine dF 12 [3] bP fun ht hn=>?_
 refine vr 0 [3] ?_
 refine d1 9 R (lC 0 yC R (Z31_ok D) R ?_)
 rintro _
 refine aC (aG (sL [3]) ?_)
 refine oo 10 [3] ?_
 refine d1 11 R (lM _ (tE 4 [3,0,1,2]) ?_)
 refine eA (K:=kT3) (x':=G) 0 M R R cB R R q.1 q.2 ?_ ?_
 exact fun I h s=>(fZ).put I h () G s
 refine aC (aG (sL [0]) (dD ?_))
 refine dG ?_
 cases g
 exact qA () (tE 4 [1,2,3,0])
 refine aP ?_
 cases g
 obtain rfl:=O _ R
 have g:=a0
 refine aU ?_
 exact qI (a3,()) g tI
 rintro ⟨a2,_⟩ σ1 g
 dsimp only [Z14_J1] at g
 refine aP ?_
 refine aK 0 R R bR R R R R R R (lN (aJ B [(sc A14 b.Dims D14),(sc i b.Data j)] 58::aJ m [(sc A14 b.Dims D14),(sc i b.Data j)] 58::_::ow kT3 3 (.slice i b.Data.length j) a2::J) ?_)
 refine aP ?_
 cases g
 exact qS ((A14,b.Dims.length,D14),(i,b.Data.length,j)) (tE 7 [2,3])
theorem Z1i_ok  {t1:Tensor}{a:Int}{r:Bool}(b:Z1i t1 a=some r) :
 FnOk Tryz.prog 106 [(.agg [(.slice A2 N2 D2),(.slice A3 N3 D3)].toArray),(iv a)] [aN kT3 (.slice A2 N2 D2) t1.Dims,aN kT3 (.slice A3 N3 D3) t1.Data] (fun (h:Unit)=>((.bool r),[])):=by
 unfold Z1i at b
 refine aQ Tryz.func106 R 18 R R fun C V=>?_
 refine cL 0 aA ?_
 rintro rfl
 refine cL 1 aA ?_
 rintro rfl
 let q:=RR kT3 A2 D2 t1.Dims::RR kT3 A3 D3 t1.Data::V
 refine cN q ?_
 refine aU ?_
 refine eF R fun u=>?_
 refine aU ?_
 let j:=aJ u [(sc A2 t1.Dims D2),(sc A3 t1.Data D3)] 58::q
 refine qN j ?_
 refine aU ?_
 obtain ⟨g,i,b⟩:=bd b
 refine cQ [(4,(.bool ((g&&(decide (a≥0)))&&(decide (a<(t1.Dims.length:Int))))))] (j) ?_ ?_
 refine aU ?_
 refine lM _ (fun w s=>(((s.d 1 R).d 3 R).e 2 [1,0])) ?_
 refine lC 2 nz R (Zs_ok i) R ?_
 rintro _
 refine lN j ?_
 refine bU ?_
 rcases bo g with m | m
 refine bG ?_
 rcases bo (g&&(decide (a≥0))) with l | l
 refine cV ?_
 exact qj tI
 refine cV ?_
 exact qj tI
 refine hH ?_
 exact qj tI
 rintro σ1
 refine aU ?_
 cases b
 exact qF () (tE 3 [])
theorem Z0j_ok  {g:(List Int)}{j:Int}{e:Int}{r:(List Int)}(b:Z0j g j e=some r) :
 FnOk Tryz.prog 122 [(.slice A2 N2 D2),(iv j),(iv e)] [aN kT3 (.slice A2 N2 D2) g] (fun (h:HH)=>((s3 h),[ow kT3 3 (s3 h) r])):=by
 unfold Z0j at b
 refine aQ Tryz.func122 R 15 R R fun C V=>?_
 refine cL 0 aA ?_
 rintro rfl
 let m:=RR kT3 A2 D2 g::V
 refine cN m ?_
 refine bT ?_
 obtain ⟨l,i,b⟩:=bd b
 refine aU ?_
 refine lM _ (fun w s=>(s.d 0 R)) ?_
 refine lC 1 jN R (Zu_ok i) R ?_
 rintro ⟨A7,N7,D7⟩
 refine aL 0 aB ?_
 rintro rfl
 refine bG ?_
 obtain ⟨a,b⟩:=gd b
 refine bG ?_
 refine bA 0 aB (show 0<l.length by have:=a; omega) (fun u o10 q=>?_)
 subst q
 refine bU ?_
 refine eA (K:=kT3) (x':=e) 0 j R R cB R R a.1 a.2 ?_ ?_
 exact fun I h s=>(fZ).put I h () e s
 refine cU ?_
 cases b
 exact qF ((ad u o10),l.length,D7) (tE 2 [0])
theorem Z0z_ok  {t1:Tensor}{g:Int}{J:(List Int)}{r:(List Int)}(b:Z0z t1 g J=some r) :
 FnOk Tryz.prog 107 [(.agg [(.slice A2 N2 D2),(.slice A3 N3 D3)].toArray),(iv g),(.slice A6 N6 D6)] [aN kT3 (.slice A2 N2 D2) t1.Dims,aN kT3 (.slice A3 N3 D3) t1.Data,aN kT3 (.slice A6 N6 D6) J] (fun (h:HH)=>((.slice h.1 h.2.1 h.2.2),[ow kT3 3 (.slice h.1 h.2.1 h.2.2) r])):=by
 unfold Z0z at b
 refine aQ Tryz.func107 R 29 R R fun C V=>?_
 refine cN (_::_::_::V) ?_
 refine cL 0 aA ?_
 rintro rfl
 refine cL 1 aA ?_
 rintro rfl
 refine cL 2 aA ?_
 rintro rfl
 let W0:List HP:=RR kT3 A2 D2 t1.Dims::RR kT3 A3 D3 t1.Data::RR kT3 A6 D6 J::V
 refine cN W0 ?_
 refine aO (aE (eF R (fun b7=>(lS R (aC ?_)))))
 let q:List HP:=aJ b7 [(sc A2 t1.Dims D2),(sc A3 t1.Data D3)] 58::W0
 refine qN q ?_
 refine aI (aO (aE (bK (K:=kT3) (xs:=([]:List Int)) (vs:=[]) 0 R R bI cB f' R R R R R R ?_ R (fun A8 D8=>?_))))
 exact fun I h s=>(fZ).list [] I h s
 refine lN (OO kT3 3 A8 D8 ([]:List Int)::q) ?_
 refine lS R (aC (aI (aO (aZ (A:=((List Int))×(HH)) (fun a=>Z0z_J1 a.1=some r) (fun a=>[(7,(.slice a.2.1 a.2.2.1 a.2.2.2))]) (fun a=>ow kT3 3 (.slice a.2.1 a.2.2.1 a.2.2.2) a.1::q) ?_ ?_))))
 refine aO (aE (lI R (aC (aI (dJ ?_)))))
 obtain ⟨e1,aa,a6⟩:=bd b
 refine bD (A:=HH) aa (fun s a=>[(1,(iv g)),(2,(sc A6 J D6)),(3,(pt b7 0)),(7,(.slice a.1 a.2.1 a.2.2)),(8,(iv s.2))]) (fun s a=>ow kT3 3 (.slice a.1 a.2.1 a.2.2) s.1::q) (A8,([]:List Int).length,D8) (aS R) (fun w s=>s) ?_
 rintro ⟨i,a5⟩ ⟨Z,a2,M⟩ σ1 Y b a3
 replace b:Z0z_L1 t1 g J i a5=some Y:=b
 unfold Z0z_L1 at b
 refine bJ 0 aB (fun (hn:a2=i.length)=>?_)
 subst hn
 refine aO (aO ?_)
 obtain ⟨m,b⟩:=gd b
 refine aE (lI R (lO (fP 0 iS R) (lO (fW 1 cJ R R R) (lI R (bA 2 aA (show 0<t1.Dims.length by have:=m; omega) (fun F o26 ha=>?_))))))
 subst ha
 refine lO (eL bI cB R R m) (lO (gO 2 fQ aA R m) (lO (mZ R R) (aC (aI ?_))))
 rcases cO b with ⟨l,b⟩|⟨l,b⟩
 refine cC R l (dE (aI (aO (dJ ?_))))
 obtain ⟨D,L,b⟩:=bd b
 obtain ⟨j,T,b⟩:=bd b
 obtain ⟨O,b⟩:=gd b
 refine dF 10 [0] bP (fun ht hn=>(dR 0 R (vS R) (hS:=(sL [0])) (dR 1 R (vz (.agg [(sc (ad F o26) t1.Dims D2),(sc A3 t1.Data D3)].toArray) (dT 0 fF bR R R R R)) (hS:=(sL [0])) (dR 2 R (vS R) (hS:=(sL [0])) (dR 3 R (vI R) (hS:=(sL [0])) (dR 4 R (vI R) (hS:=(sL [0])) (d1 5 R (lM (RR kT3 A6 D6 J::OO kT3 3 Z M i::q) (fun w s=>(s.d 4 R)) ?_))))))))
 refine lC 1 kF R (Z0j_ok L) R ?_
 rintro ⟨E,a8,u⟩
 refine lN (ow kT3 3 (.slice E a8 u) D::_::q) ?_
 refine aL 0 aB ?_
 rintro rfl
 refine aC (aG (sL [1,0]) (d1 6 R (lM (ow _ _ _ _::RR kT3 (ad F o26) D2 t1.Dims::RR kT3 A3 D3 t1.Data::ow _ _ _ _::q) (fun w s=>(((s.d 3 R).d 5 R).e 4 [2,1,0,3])) ?_)))
 refine lC 3 m' R (FnOk.lends (A':=[OO kT3 3 E u D]) (A:=[RR kT3 E u D]) (B:=[RR kT3 (ad F o26) D2 t1.Dims,RR kT3 A3 D3 t1.Data]) (FnOk.perm (Z19_ok T) (Pre':=[RR kT3 E u D,RR kT3 (ad F o26) D2 t1.Dims,RR kT3 A3 D3 t1.Data]) (fun _ _ _ s=>(s.e 3 [1,2,0]))) ⟨aV,trivial⟩ (fun _=>trivial)) R ?_
 rintro _
 refine lN (_::_::q) ?_
 refine aC (aG (sL [1,0]) (d1 7 R (bK (K:=kT3) (xs:=([j]:List Int)) (vs:=[(iv j)]) 0 R R bI cB f' R R R R R R ?_ R (fun a1 ab=>?_))))
 exact fun I h s=>(fZ).list [((),j)] I h s
 refine lN (OO kT3 3 a1 ab ([j]:List Int)::_::_::q) ?_
 refine aC (aG (sL [2,1,0]) (d1 8 R (lM (ow _ _ _ _::ow _ _ _ _::ow _ _ _ _::q) (fun w s=>(s.e 3 [2,0,1])) ?_)))
 refine eB (K:=kT3) 17592186044416 R R bI cB jZ (Zr.zk zT3 f') R R R R R R dM O (fun a0 U=>(lN (OO kT3 3 a0 U (i++([j]:List Int))::_::q) ?_))
 refine aC (aG (sL [1,0]) (dR 9 R (vS R) (hS:=(sL [1,0])) (dD (dY (aI (aE (lI R (lO (kW R R) (lI R (aC ?_))))))))))
 obtain rfl:=so b
 exact qA (a0,(i++([j]:List Int)).length,U) (fun w s=>(s.e 2 [0]))
 refine bM R l (hJ (eD ?_))
 obtain rfl:=so b
 obtain rfl:=a3 _ R
 have b:=a6
 refine eD (fX ?_)
 exact qI (i,(Z,i.length,M)) b (fun w s=>s)
 rintro ⟨G,⟨a4,a9,a7⟩⟩ σ1 b
 replace b:Z0z_J1 G=some r:=b
 unfold Z0z_J1 at b
 refine bJ 0 aB (fun (hn:a9=G.length)=>?_)
 subst hn
 refine aO (aE (lS R (lS R (aC (aI (bY ?_))))))
 obtain rfl:=so b
 exact qF (a4,G.length,a7) (fun w s=>(s.e 5 [0]))
theorem Zc_ok  {t1:Tensor}{i:Int}{r:Tensor}(g:Zc t1 i=some r) :
 FnOk Tryz.prog 80 [(.agg [(.slice A2 N2 D2),(.slice A3 N3 D3)].toArray),(iv i)] [aN kT3 (.slice A2 N2 D2) t1.Dims,aN kT3 (.slice A3 N3 D3) t1.Data] (fun (h:HH×HH)=>((.agg [(s3 h.1),(s3 h.2)].toArray),[ow kT3 3 (s3 h.1) r.Dims,ow kT3 3 (s3 h.2) r.Data])):=by
 unfold Zc at g
 refine aQ Tryz.func80 R 75 R R fun C V=>?_
 refine cL 0 aA ?_
 rintro rfl
 refine cL 1 aA ?_
 rintro rfl
 let W0:=RR kT3 A2 D2 t1.Dims::RR kT3 A3 D3 t1.Data::V
 refine cN W0 ?_
 refine aU ?_
 refine eF R fun b5=>?_
 refine bF R R dQ (fun U=>(aC ?_))
 let W1:=aJ b5 [(sc A2 t1.Dims D2),(sc A3 t1.Data D3)] 58::W0
 refine aP ?_
 obtain ⟨r7,aq,g⟩:=bd g
 refine aP ?_
 refine lM _ (fun w s=>(((s.d 2 R).d 4 R).e 3 [1,0,2])) ?_
 refine lC 2 oC R (Z1i_ok aq) R ?_
 rintro _
 refine aP ?_
 split at g
 refine aP ?_
 refine lO (vz (.agg [(.slice none 0 0),(.slice none 0 0)].toArray) (aX gN dQ R R)) (aK 0 R R bR R R R R R R (aC (aI (bY (cF ?_)))))
 cases g
 exact qS ((none,0,0),(none,0,0)) (fun w s=>(((s.nilo kT3 3).nilo kT3 3).e 6 [1,0]))
 refine bG ?_
 obtain ⟨b,ab,g⟩:=bd g
 refine aP ?_
 refine lM _ (fun w s=>(s.d 2 R)) ?_
 refine lC 1 nA R (Z0i_ok ab) R ?_
 rintro ⟨⟨A12,N12,D12⟩,⟨j,b1,l⟩⟩
 refine aL 0 aB ?_
 rintro rfl
 refine aL 1 aB ?_
 rintro rfl
 refine bF R R dQ (fun m=>(aK 0 R R bR R R R R R R (lN (aJ m [(sc A12 b.Dims D12),(sc j b.Data l)] 58::_::_::_::W1) ?_)))
 refine aP ?_
 refine aZ (A:=((List Int))×(Unit)) (fun a=>Zc_J9 b a.1=some r) (fun a=>[(4,(pt U 0)),(5,(pt m 0))]) (fun a=>aJ U [(.slice none 0 0),(.slice none 0 0)] 58::aJ m [(sc A12 b.Dims D12),(sc j b.Data l)] 58::OO kT3 3 A12 D12 b.Dims::ow kT3 3 (.slice j b.Data.length l) a.1::W1) ?_ ?_
 refine bT ?_
 obtain ⟨e1,au,ar⟩:=bd g
 refine bD (A:=Unit) au (fun s a=>[(1,(iv i)),(2,(pt b5 0)),(4,(pt U 0)),(5,(pt m 0)),(6,(iv s.2))]) (fun s a=>aJ U [(.slice none 0 0),(.slice none 0 0)] 58::aJ m [(sc A12 b.Dims D12),(sc j b.Data l)] 58::OO kT3 3 A12 D12 b.Dims::ow kT3 3 (.slice j b.Data.length l) s.1::W1) () (aS R) (tE 4 [3,0,1,2]) ?_
 rintro ⟨M,J⟩ _ σ1 a3 g ap
 dsimp only [Zc_L1] at g
 refine cP ?_
 split at g
 refine bG ?_
 refine aZ (A:=((List Int))×(Unit)) (fun a=>Zc_J8 J a.1=some a3) (fun a=>[(1,(iv i)),(2,(pt b5 0)),(4,(pt U 0)),(5,(pt m 0)),(6,(iv J))]) (fun a=>aJ U [(.slice none 0 0),(.slice none 0 0)] 58::aJ m [(sc A12 b.Dims D12),(sc j b.Data l)] 58::OO kT3 3 A12 D12 b.Dims::ow kT3 3 (.slice j b.Data.length l) a.1::W1) ?_ ?_
 refine aU ?_
 obtain ⟨D,aj,g⟩:=bd g
 refine bG ?_
 refine lM _ (fun w s=>(s.d 5 R)) ?_
 refine lC 1 ln R (Zj_ok aj) R ?_
 rintro ⟨L,b3,F⟩
 refine aL 0 aB ?_
 rintro rfl
 refine bG ?_
 obtain ⟨u,aa,g⟩:=bd g
 refine bG ?_
 refine lM _ (fun w s=>(((s.d 6 R).d 8 R).e 7 [2,1,0,3,4,5,6])) ?_
 refine lC 3 yD R (FnOk.lends (A':=[OO kT3 3 L F D]) (A:=[RR kT3 L F D]) (B:=[RR kT3 A2 D2 t1.Dims,RR kT3 A3 D3 t1.Data]) (FnOk.perm (Z0z_ok aa) (Pre':=[RR kT3 L F D,RR kT3 A2 D2 t1.Dims,RR kT3 A3 D3 t1.Data]) (fun _ _ _ s=>(s.e 3 [1,2,0]))) ⟨aV,trivial⟩ (fun _=>⟨(bH iM),trivial⟩)) R ?_
 rintro ⟨av,b2,al⟩
 refine aL 1 aB ?_
 rintro rfl
 refine cU ?_
 refine aZ (A:=(Bool)×(Unit)) (fun a=>Zc_J7 b M J a.1=some a3) (fun a=>[(1,(iv i)),(2,(pt b5 0)),(4,(pt U 0)),(5,(pt m 0)),(6,(iv J)),(9,(.bool a.1))]) (fun a=>aJ U [(.slice none 0 0),(.slice none 0 0)] 58::aJ m [(sc A12 b.Dims D12),(sc j b.Data l)] 58::OO kT3 3 A12 D12 b.Dims::ow kT3 3 (.slice j b.Data.length l) M::W1) ?_ ?_
 refine bT ?_
 obtain ⟨e2,an,am⟩:=bd g
 refine bD (A:=HH) an (fun s a=>[(1,(iv i)),(2,(pt b5 0)),(4,(pt U 0)),(5,(pt m 0)),(6,(iv J)),(7,(sc L D F)),(8,(s3 a)),(9,(.bool s.1)),(10,(iv s.2))]) (fun s a=>aJ U [(.slice none 0 0),(.slice none 0 0)] 58::aJ m [(sc A12 b.Dims D12),(sc j b.Data l)] 58::OO kT3 3 A12 D12 b.Dims::ow kT3 3 (.slice j b.Data.length l) M::OO kT3 3 L F D::ow kT3 3 (s3 a) u::W1) (av,u.length,al) (aS R) (fun w s=>(s.f 6 [2,4,0,2])) ?_
 rintro ⟨E,a1⟩ ⟨b0,ae,Z⟩ σ1 ac g ao
 dsimp only [Zc_L2] at g
 refine bJ 5 aB (fun (hn:ae=u.length)=>?_)
 subst hn
 refine cU ?_
 split at g
 refine bG ?_
 refine aZ (A:=(Bool)×(HH)) (fun a=>Zc_J6 a1 a.1=some ac) (fun a=>[(1,(iv i)),(2,(pt b5 0)),(4,(pt U 0)),(5,(pt m 0)),(6,(iv J)),(7,(sc L D F)),(8,(s3 a.2)),(9,(.bool a.1)),(10,(iv a1))]) (fun a=>aJ U [(.slice none 0 0),(.slice none 0 0)] 58::aJ m [(sc A12 b.Dims D12),(sc j b.Data l)] 58::OO kT3 3 A12 D12 b.Dims::ow kT3 3 (.slice j b.Data.length l) M::OO kT3 3 L F D::ow kT3 3 (s3 a.2) u::W1) ?_ ?_
 refine aU ?_
 obtain ⟨a4,g⟩:=gd g
 obtain ⟨a2,a7,g⟩:=bd g
 refine aP ?_
 refine bA 5 aB (show 0<u.length by have:=a4; omega) (fun a0 o106 ha=>?_)
 subst ha
 refine aU ?_
 refine lC 0 oA R (Z1g_ok a7) R ?_
 rintro _
 refine bG ?_
 obtain ⟨a5,g⟩:=gd g
 obtain ⟨Y,a6,g⟩:=bd g
 refine bG ?_
 refine bA 8 aA (show 0<t1.Data.length by have:=a5; omega) (fun az o111 ha=>?_)
 subst ha
 refine aU ?_
 refine lC 0 oA R (Z1g_ok a6) R ?_
 rintro _
 refine bG ?_
 obtain ⟨T,g⟩:=gd g
 refine cQ [(1,(iv i)),(2,(pt b5 0)),(4,(pt U 0)),(5,(pt m 0)),(6,(iv J)),(7,(sc L D F)),(8,(sc (ad a0 o106) u Z)),(9,(.bool E)),(10,(iv a1)),(68,(.bool ((decide (a2>Y))||((a2==Y)&&(decide (a1<(ix D i)))))))] (aJ U [(.slice none 0 0),(.slice none 0 0)] 58::aJ m [(sc A12 b.Dims D12),(sc j b.Data l)] 58::OO kT3 3 A12 D12 b.Dims::ow kT3 3 (.slice j b.Data.length l) M::OO kT3 3 L F D::OO kT3 3 (ad a0 o106) Z u::W1) ?_ ?_
 refine bZ ?_
 rcases bo (decide (a2>Y)) with G | G
 refine kj ?_
 exact qj tI
 refine bG ?_
 rcases bo (a2==Y) with q | q
 refine aP ?_
 refine bA 4 aB (show 0<D.length by have:=(T G q); omega) (fun aw o116 ha=>?_)
 subst ha
 refine lW (eH q) (eL bI cB R R (T G q)) (lW (eH q) (gO 4 fQ aB R (T G q)) ?_)
 refine bG ?_
 exact qj tI
 refine cU ?_
 exact qj tI
 rintro σ1
 refine bU ?_
 split at g
 refine bZ ?_
 exact qI (false,((ad a0 o106),u.length,Z)) g tI
 refine aP ?_
 exact qI (E,((ad a0 o106),u.length,Z)) g tI
 rintro ⟨ai,⟨a9,ah,ag⟩⟩ σ1 g
 dsimp only [Zc_J6] at g
 refine bJ 5 aB (fun (hn:ah=u.length)=>?_)
 subst hn
 refine bZ ?_
 cases g
 exact qA (a9,u.length,ag) tI
 refine aP ?_
 cases g
 obtain rfl:=ao _ R
 have g:=am
 refine aU ?_
 exact qI (E,()) g (fun w s=>(s.f 6 [0,4]))
 rintro ⟨a8,_⟩ σ1 g
 dsimp only [Zc_J7] at g
 refine bZ ?_
 split at g
 refine bU ?_
 obtain ⟨O,g⟩:=gd g
 refine bG ?_
 refine bA 3 aB (show 0<b.Data.length by have:=O; omega) (fun ay o129 ha=>?_)
 subst ha
 refine bU ?_
 refine lM _ (tE 4 [3,0,1,2]) ?_
 refine eA (K:=kT3) (x':=(1:Int)) 0 J R R cB R R O.1 O.2 ?_ ?_
 exact fun I h s=>(fZ).put I h () (1:Int) s
 refine aU ?_
 exact qI ((M.set J.toNat (1:Int)),()) g (tE 4 [1,2,3,0])
 refine aP ?_
 exact qI (M,()) g tI
 rintro ⟨ax,_⟩ σ1 g
 dsimp only [Zc_J8] at g
 refine bZ ?_
 cases g
 exact qA () tI
 refine aP ?_
 cases g
 obtain rfl:=ap _ R
 have g:=ar
 refine aU ?_
 exact qI (M,()) g tI
 rintro ⟨ak,_⟩ σ1 g
 dsimp only [Zc_J9] at g
 refine aP ?_
 refine aK 0 R R bR R R R R R R (lN (aJ U [(sc A12 b.Dims D12),(sc j b.Data l)] 58::aJ m [(sc A12 b.Dims D12),(sc j b.Data l)] 58::_::ow kT3 3 (.slice j b.Data.length l) ak::W1) ?_)
 refine aP ?_
 cases g
 exact qS ((A12,b.Dims.length,D12),(j,b.Data.length,l)) (tE 7 [2,3])
theorem Z0y_ok  {p1:aM}{r:Bool}(b:Z0y p1=some r) :
 FnOk Tryz.prog 142 [(aD p1)] [] (fun (h:Unit)=>((.bool r),[])):=by
 unfold Z0y at b
 refine aQ Tryz.func142 R 23 R R fun C V=>?_
 refine cN V ?_
 refine bT ?_
 refine aZ (A:=(Unit)×(Unit)) (fun a=>Z0y_J1 p1=some r) (fun a=>[(0,(aD p1))]) (fun a=>V) ?_ ?_
 refine bT ?_
 obtain ⟨u,m,j⟩:=bd b
 refine bD (A:=Unit) m (fun s a=>[(0,(aD p1)),(3,(iv s))]) (fun s a=>V) () (aS R) tI ?_
 rintro i _ σ1 q b l
 dsimp only [Z0y_L1] at b
 refine bG ?_
 refine lO (vp (aD p1) R) (lO (vz (il p1) (dN fJ R)) ?_)
 refine aP ?_
 split at b
 refine bT ?_
 obtain ⟨g,b⟩:=gd b
 refine cQ [(0,(aD p1)),(3,(iv i)),(19,(.bool ((decide ((bt p1 i)<97))||(decide ((bt p1 i)>122)))))] (V) ?_ ?_
 refine aE (lO (vp (aD p1) R) (lI R (lO (vz (.int .u8 (bt p1 i)) (cH fJ R R g.1 g.2)) (lO (vp (.bool (decide ((bt p1 i)<97))) R) (lB R ?_)))))
 rcases bo (decide ((bt p1 i)<97)) with e | e
 refine bT ?_
 exact qj tI
 refine lW (cA e) (vp (aD p1) R) (lW (cA e) (vI R) (lW (cA e) (vz (.int .u8 (bt p1 i)) (cH fJ R R g.1 g.2)) (lW (cA e) (vp (.bool (decide ((bt p1 i)>122))) R) ?_)))
 refine aU ?_
 exact qj tI
 rintro σ1
 refine bU ?_
 split at b
 refine cU ?_
 cases b
 obtain rfl:=l _ R
 have b:=j
 refine aP ?_
 cases b
 exact qF () tI
 refine cU ?_
 cases b
 exact qA () tI
 refine aP ?_
 cases b
 obtain rfl:=l _ R
 have b:=j
 refine aU ?_
 exact qI ((),()) b tI
 rintro ⟨_,_⟩ σ1 b
 dsimp only [Z0y_J1] at b
 refine aU ?_
 refine lO (vp (aD p1) R) (lO (vz (il p1) (dN fJ R)) ?_)
 refine bZ ?_
 cases b
 exact qF () tI
theorem Z0x_ok  {p1:aM}{j:Int}{r:Bool}(b:Z0x p1 j=some r) :
 FnOk Tryz.prog 143 [(aD p1),(.int .u8 j)] [] (fun (h:Unit)=>((.bool r),[])):=by
 unfold Z0x at b
 refine aQ Tryz.func143 R 17 R R fun C V=>?_
 refine cN V ?_
 refine bT ?_
 refine aZ (A:=(Unit)×(Unit)) (fun a=>Z0x_J1=some r) (fun a=>[]) (fun a=>V) ?_ ?_
 refine bT ?_
 obtain ⟨u,l,e⟩:=bd b
 refine bD (A:=Unit) l (fun s a=>[(0,(aD p1)),(1,(.int .u8 j)),(5,(iv s))]) (fun s a=>V) () (aS R) tI ?_
 rintro m _ σ1 q b g
 dsimp only [Z0x_L1] at b
 refine bG ?_
 refine lO (vp (aD p1) R) (lO (vz (il p1) (dN fJ R)) ?_)
 refine aP ?_
 split at b
 refine bT ?_
 obtain ⟨i,b⟩:=gd b
 refine aE (lO (vp (aD p1) R) (lI R (lO (vz (.int .u8 (bt p1 m)) (cH fJ R R i.1 i.2)) (lI R (lO (vp (.bool ((bt p1 m)==j)) R) ?_)))))
 refine aU ?_
 split at b
 refine cU ?_
 cases b
 obtain rfl:=g _ R
 have b:=e
 refine aP ?_
 cases b
 exact qF () tI
 refine cU ?_
 cases b
 exact qA () tI
 refine aP ?_
 cases b
 obtain rfl:=g _ R
 have b:=e
 refine aU ?_
 exact cS ((),()) b trivial tI
 rintro ⟨_,_⟩ σ1 b
 dsimp only [Z0x_J1] at b
 refine bT ?_
 cases b
 exact qF () tI
theorem Z0_ok  {b:aM}{r:(List aM)×aM×Bool}(g:Z0 b=some r) :
 FnOk Tryz.prog 109 [(aD b)] [] (fun (h:HH)=>((.tuple [(s3 h),(aD r.2.1),(.bool r.2.2)].toArray),[ow dO 9 (s3 h) r.1])):=by
 unfold Z0 at g
 refine aQ Tryz.func109 R 124 R R fun C V=>?_
 refine cN V ?_
 refine aP ?_
 refine lO (vp (aD ([]:aM)) R) ?_
 refine bZ ?_
 refine bK (K:=dO) (xs:=([]:List aM)) (vs:=[]) 0 R R lq qZ yE R R R R R R ?_ R (fun A2 D2=>?_)
 exact fun I h s=>(xX).list [] I h s
 refine cU ?_
 refine aZ (A:=(Int)×(Unit)) (fun a=>Z0_J1 b a.1=some r) (fun a=>[(0,(aD b)),(5,(sc A2 ([]:List aM) D2)),(6,(iv a.1))]) (fun a=>OO dO 9 A2 D2 ([]:List aM)::V) ?_ ?_
 refine bU ?_
 obtain ⟨e1,ba,b7⟩:=bd g
 refine bD (A:=Unit) ba (fun s a=>[(0,(aD b)),(5,(sc A2 ([]:List aM) D2)),(6,(iv s))]) (fun s a=>OO dO 9 A2 D2 ([]:List aM)::V) () (aS R) tI ?_
 rintro T _ σ1 bg g b4
 dsimp only [Z0_L1] at g
 refine aU ?_
 obtain ⟨a9,g⟩:=gd g
 refine cQ [(0,(aD b)),(5,(sc A2 ([]:List aM) D2)),(6,(iv T)),(28,(.bool ((decide ((aH (T+1))<(b.length:Int)))&&(!((sub b T (aH (T+2)))==str0)))))] (OO dO 9 A2 D2 ([]:List aM)::V) ?_ ?_
 refine aP ?_
 refine lO (vp (aD b) R) (lO (vz (il b) (dN fJ R)) ?_)
 refine aU ?_
 rcases bo (decide ((aH (T+1))<(b.length:Int))) with L | L
 refine lW (eH L) (vp (aD b) R) ?_
 refine aP ?_
 refine lW (eH L) (vz (aD (sub b T (aH (T+2)))) (hM T (aH (T+2)) fJ R R R (a9 L).1 (a9 L).2.1 (a9 L).2.2)) (lW (eH L) (vz (.bool (!((sub b T (aH (T+2)))==str0))) (jd R R R)) ?_)
 refine aU ?_
 exact qj tI
 refine cV ?_
 exact qj tI
 rintro σ1
 refine bU ?_
 split at g
 refine cP ?_
 cases g
 exact qA () tI
 refine aP ?_
 cases g
 obtain rfl:=b4 _ R
 have g:=b7
 refine aU ?_
 exact qI (T,()) g tI
 rintro ⟨j,_⟩ σ1 g
 dsimp only [Z0_J1] at g
 refine bZ ?_
 refine lO (vp (aD b) R) (lO (vz (il b) (dN fJ R)) ?_)
 refine aP ?_
 split at g
 refine bZ ?_
 refine lO (vp (aD ([]:aM)) R) ?_
 refine bZ ?_
 cases g
 exact hW (A2,([]:List aM).length,D2) tI
 refine bZ ?_
 refine bK (K:=dO) (xs:=([]:List aM)) (vs:=[]) 0 R R lq qZ yE R R R R R R ?_ R (fun au ax=>?_)
 exact fun I h s=>(xX).list [] I h s
 refine cU ?_
 refine aZ (A:=((List aM))×(HH)) (fun a=>Z0_J4 b j a.1=some r) (fun a=>[(0,(aD b)),(5,(sc A2 ([]:List aM) D2)),(6,(iv j)),(7,(s3 a.2))]) (fun a=>OO dO 9 A2 D2 ([]:List aM)::ow dO 9 (s3 a.2) a.1::V) ?_ ?_
 refine bT ?_
 obtain ⟨e2,aw,av⟩:=bd g
 refine bD (A:=HH) aw (fun s a=>[(0,(aD b)),(5,(sc A2 ([]:List aM) D2)),(6,(iv j)),(7,(s3 a)),(8,(iv s.2.1)),(9,(iv s.2.2))]) (fun s a=>OO dO 9 A2 D2 ([]:List aM)::ow dO 9 (s3 a) s.1::V) (au,([]:List aM).length,ax) (aS R) (tE 2 [1,0]) ?_
 rintro ⟨i,E,B⟩ ⟨a5,b5,a4⟩ σ1 al g az
 dsimp only [Z0_L2] at g
 refine bJ 1 aB (fun (hn:b5=i.length)=>?_)
 subst hn
 refine cV ?_
 split at g
 refine bG ?_
 refine aZ (A:=((List aM)×Int)×(HH)) (fun a=>Z0_J3 B a.1.1 a.1.2=some al) (fun a=>[(0,(aD b)),(5,(sc A2 ([]:List aM) D2)),(6,(iv j)),(7,(s3 a.2)),(8,(iv a.1.2)),(9,(iv B))]) (fun a=>OO dO 9 A2 D2 ([]:List aM)::ow dO 9 (s3 a.2) a.1.1::V) ?_ ?_
 refine aU ?_
 obtain ⟨a6,g⟩:=gd g
 refine cQ [(0,(aD b)),(5,(sc A2 ([]:List aM) D2)),(6,(iv j)),(7,(sc a5 i a4)),(8,(iv E)),(9,(iv B)),(51,(.bool ((B==j)||((bt b B)==44))))] (OO dO 9 A2 D2 ([]:List aM)::OO dO 9 a5 a4 i::V) ?_ ?_
 refine bZ ?_
 rcases bo (B==j) with D | D
 refine bT ?_
 exact qj tI
 refine lW (cA D) (vp (aD b) R) (lW (cA D) (vI R) (lW (cA D) (vz (.int .u8 (bt b B)) (cH fJ R R (a6 D).1 (a6 D).2)) (lW (cA D) (vp (.bool ((bt b B)==44)) R) ?_)))
 refine aU ?_
 exact qj tI
 rintro σ1
 refine bU ?_
 split at g
 refine aU ?_
 obtain ⟨Z,g⟩:=gd g
 obtain ⟨am,g⟩:=gd g
 refine aU ?_
 refine lO (vp (aD b) R) (lI R (lI R (lO (vz (aD (sub b E B)) (hM E B fJ R R R Z.1 Z.2.1 Z.2.2)) (bK (K:=dO) (xs:=([(sub b E B)]:List aM)) (vs:=[(aD (sub b E B))]) 0 R R lq qZ yE R R R R R R ?_ R (fun bj bi=>?_)))))
 exact fun I h s=>(xX).list [((),(sub b E B))] I h s
 refine lM _ (tE 3 [2,0,1]) ?_
 refine eB (K:=dO) 8796093022208 R R lq qZ BP (Zr.zk zT9 yE) R R R R R R dM am (fun aq ap=>(lN (OO dO 9 aq ap (i++([(sub b E B)]:List aM))::_::V) ?_))
 refine cU ?_
 exact qI (((i++([(sub b E B)]:List aM)),(aH (B+1))),(aq,(i++([(sub b E B)]:List aM)).length,ap)) g (tE 2 [1,0])
 refine aP ?_
 exact qI ((i,E),(a5,i.length,a4)) g tI
 rintro ⟨⟨F,bl⟩,⟨b3,bb,b9⟩⟩ σ1 g
 dsimp only [Z0_J3] at g
 refine bJ 1 aB (fun (hn:bb=F.length)=>?_)
 subst hn
 refine bZ ?_
 cases g
 exact qA (b3,F.length,b9) tI
 refine aP ?_
 cases g
 obtain rfl:=az _ R
 have g:=av
 refine aU ?_
 exact qI (i,(a5,i.length,a4)) g tI
 rintro ⟨e,⟨q,b8,u⟩⟩ σ1 g
 dsimp only [Z0_J4] at g
 refine bJ 1 aB (fun (hn:b8=e.length)=>?_)
 subst hn
 refine bU ?_
 obtain ⟨U,g⟩:=gd g
 refine aE (lO (vp (aD b) R) (lI R (lO (kW R R) (lO (vz (aD (sub b (aH (j+2)) (b.length:Int))) (hM (aH (j+2)) (b.length:Int) fJ R R R U.1 U.2.1 U.2.2)) (lO (vp (aD (sub b (aH (j+2)) (b.length:Int))) R) ?_)))))
 refine bG ?_
 obtain ⟨b6,ag,g⟩:=bd g
 refine cQ [(5,(sc A2 ([]:List aM) D2)),(7,(sc q e u)),(10,(aD (sub b (aH (j+2)) (b.length:Int)))),(72,(.bool ((decide ((e.length:Int)>6))||(!b6))))] (OO dO 9 A2 D2 ([]:List aM)::OO dO 9 q u e::V) ?_ ?_
 refine bZ ?_
 rcases bo (decide ((e.length:Int)>6)) with O | O
 refine bZ ?_
 exact qj tI
 refine lW (cA O) (vp (aD (sub b (aH (j+2)) (b.length:Int))) R) (bX 0 R (cA O) vy R (Z0y_ok (bN ag (cT O))) R ?_)
 rintro _
 refine aP ?_
 exact qj tI
 rintro σ1
 refine bU ?_
 split at g
 refine bZ ?_
 refine lO (vp (aD ([]:aM)) R) ?_
 refine bZ ?_
 cases g
 exact hW (A2,([]:List aM).length,D2) (tE 2 [0])
 refine bG ?_
 refine aZ (A:=(Unit)×(Unit)) (fun a=>Z0_J5 b j e=some r) (fun a=>[(5,(sc A2 ([]:List aM) D2)),(7,(sc q e u)),(10,(aD (sub b (aH (j+2)) (b.length:Int))))]) (fun a=>OO dO 9 A2 D2 ([]:List aM)::OO dO 9 q u e::V) ?_ ?_
 refine bT ?_
 obtain ⟨e3,b0,ac⟩:=bd g
 refine bD (A:=Unit) b0 (fun s a=>[(5,(sc A2 ([]:List aM) D2)),(7,(sc q e u)),(10,(aD (sub b (aH (j+2)) (b.length:Int)))),(11,(iv s))]) (fun s a=>OO dO 9 A2 D2 ([]:List aM)::OO dO 9 q u e::V) () (aS R) tI ?_
 rintro ao _ σ1 bf g an
 dsimp only [Z0_L3] at g
 refine cU ?_
 split at g
 refine bT ?_
 obtain ⟨a2,g⟩:=gd g
 obtain ⟨bh,ai,g⟩:=bd g
 refine aP ?_
 refine bA 1 aB (show 0<e.length by have:=a2; omega) (fun bk o62 ha=>?_)
 subst ha
 refine bU ?_
 refine lO (vz (aD (ix e ao)) (jH (K:=dO) (fo:=0) (pr:=fun x=>(aD x)) 1 ao qX (dT9.leaf fun _ _=>R) aB R a2.1 a2.2)) (lC 0 vy R (Z0y_ok ai) R ?_)
 rintro _
 refine aP ?_
 split at g
 refine bZ ?_
 refine lO (vp (aD ([]:aM)) R) ?_
 refine bT ?_
 cases g
 obtain rfl:=an _ R
 have g:=ac
 refine aP ?_
 cases g
 exact hW (A2,([]:List aM).length,D2) (tE 2 [0])
 refine cU ?_
 cases g
 exact qA () tI
 refine aP ?_
 cases g
 obtain rfl:=an _ R
 have g:=ac
 refine aU ?_
 exact qI ((),()) g tI
 rintro ⟨_,_⟩ σ1 g
 dsimp only [Z0_J5] at g
 refine aO (aZ (A:=(Unit)×(Unit)) (fun a=>Z0_J8 b j e=some r) (fun a=>[(7,(sc q e u)),(10,(aD (sub b (aH (j+2)) (b.length:Int))))]) (fun a=>OO dO 9 q u e::V) ?_ ?_)
 refine bT ?_
 obtain ⟨e4,b2,ab⟩:=bd g
 refine bD (A:=Unit) b2 (fun s a=>[(5,(sc A2 ([]:List aM) D2)),(7,(sc q e u)),(10,(aD (sub b (aH (j+2)) (b.length:Int)))),(12,(iv s))]) (fun s a=>OO dO 9 A2 D2 ([]:List aM)::OO dO 9 q u e::V) () (aS R) tI ?_
 rintro J _ σ1 ae g ak
 dsimp only [Z0_L4] at g
 refine bG ?_
 refine lO (vp (aD (sub b (aH (j+2)) (b.length:Int))) R) (lO (vz (il (sub b (aH (j+2)) (b.length:Int))) (dN fJ R)) ?_)
 refine aP ?_
 split at g
 refine hN ?_
 refine aZ (A:=(Bool)×(Unit)) (fun a=>Z0_J7 b j J a.1=some ae) (fun a=>[(5,(sc A2 ([]:List aM) D2)),(7,(sc q e u)),(10,(aD (sub b (aH (j+2)) (b.length:Int)))),(12,(iv J)),(13,(.bool a.1))]) (fun a=>OO dO 9 A2 D2 ([]:List aM)::OO dO 9 q u e::V) ?_ ?_
 refine bT ?_
 obtain ⟨e5,ay,ar⟩:=bd g
 refine bD (A:=Unit) ay (fun s a=>[(5,(sc A2 ([]:List aM) D2)),(7,(sc q e u)),(10,(aD (sub b (aH (j+2)) (b.length:Int)))),(12,(iv J)),(13,(.bool s.1)),(14,(iv s.2))]) (fun s a=>OO dO 9 A2 D2 ([]:List aM)::OO dO 9 q u e::V) () (aS R) tI ?_
 rintro ⟨Y,a3⟩ _ σ1 be g b1
 dsimp only [Z0_L5] at g
 refine cU ?_
 split at g
 refine bZ ?_
 obtain ⟨G,g⟩:=gd g
 obtain ⟨a0,g⟩:=gd g
 obtain ⟨aj,aa,g⟩:=bd g
 refine cQ [(5,(sc A2 ([]:List aM) D2)),(7,(sc q e u)),(10,(aD (sub b (aH (j+2)) (b.length:Int)))),(12,(iv J)),(13,(.bool (Y||aj))),(14,(iv a3))] (OO dO 9 A2 D2 ([]:List aM)::OO dO 9 q u e::V) ?_ ?_
 rcases bo Y with m | m
 refine dF 12 [] bP fun ht hn=>?_
 refine uh 0 [] ?_
 refine dD ?_
 exact qj tI
 refine bB 1 aB (show 0<e.length by have:=(G m); omega) (fun bc o108 ha=>?_)
 subst ha
 refine dF 12 [] bP fun ht hn=>?_
 refine oq 0 [] ?_
 refine dW 4 R (cA m) (eL lq qZ R R (G m)) (dW 5 R (cA m) (vz (aD (ix e a3)) (jH (K:=dO) (fo:=0) (pr:=fun x=>(aD x)) 1 a3 qX (dT9.leaf fun _ _=>R) aB R (G m).1 (G m).2)) (dW 6 R (cA m) (vp (aD (sub b (aH (j+2)) (b.length:Int))) R) (dW 7 R (cA m) (vI R) (dW 8 R (cA m) (vz (.int .u8 (bt (sub b (aH (j+2)) (b.length:Int)) J)) (cH fJ R R (a0 m).1 (a0 m).2)) (d1 9 R (bX 0 R (cA m) vC R (Z0x_ok (bN aa (cT m))) R ?_))))))
 rintro _
 refine aC (aG (sL []) ?_)
 refine gR 10 [] ?_
 refine dD ?_
 exact qj tI
 rintro σ1
 refine dG ?_
 cases g
 exact qA () tI
 refine aP ?_
 cases g
 obtain rfl:=b1 _ R
 have g:=ar
 refine aU ?_
 exact qI (Y,()) g tI
 rintro ⟨a7,_⟩ σ1 g
 dsimp only [Z0_J7] at g
 refine bU ?_
 obtain ⟨M,g⟩:=gd g
 obtain ⟨a1,g⟩:=gd g
 obtain ⟨ah,a8,g⟩:=bd g
 refine cQ [(5,(sc A2 ([]:List aM) D2)),(7,(sc q e u)),(10,(aD (sub b (aH (j+2)) (b.length:Int)))),(12,(iv J)),(120,(.bool ((!a7)||ah)))] (OO dO 9 A2 D2 ([]:List aM)::OO dO 9 q u e::V) ?_ ?_
 rcases bo (!a7) with l | l
 refine dF 11 [] bP fun ht hn=>?_
 refine pc 0 [] ?_
 refine dD ?_
 exact qj tI
 refine dF 11 [] bP fun ht hn=>?_
 refine hX 0 [] ?_
 refine dW 3 R (cA l) (vp (aD (sub b (aH (j+2)) (b.length:Int))) R) (dW 4 R (cA l) (vI R) (dW 5 R (cA l) (vz (aD (sub (sub b (aH (j+2)) (b.length:Int)) (0:Int) J)) (hM (0:Int) J fJ R R R (M l).1 (M l).2.1 (M l).2.2)) (dW 6 R (cA l) (vp (aD (sub b (aH (j+2)) (b.length:Int))) R) (dW 7 R (cA l) (vI R) (dW 8 R (cA l) (vz (.int .u8 (bt (sub b (aH (j+2)) (b.length:Int)) J)) (cH fJ R R (a1 l).1 (a1 l).2)) (d1 9 R (bX 0 R (cA l) vC R (Z0x_ok (bN a8 (cT l))) R ?_)))))))
 rintro _
 refine aC (aG (sL []) (dR 10 R (fU R l R) (dD ?_)))
 exact qj tI
 rintro σ1
 refine bU ?_
 split at g
 refine bZ ?_
 refine lO (vp (aD ([]:aM)) R) ?_
 refine bT ?_
 cases g
 obtain rfl:=ak _ R
 have g:=ab
 refine aP ?_
 cases g
 exact hW (A2,([]:List aM).length,D2) (tE 2 [0])
 refine cU ?_
 cases g
 exact qA () tI
 refine aP ?_
 cases g
 obtain rfl:=ak _ R
 have g:=ab
 refine aU ?_
 exact qI ((),()) g (tE 2 [1])
 rintro ⟨_,_⟩ σ1 g
 dsimp only [Z0_J8] at g
 refine aP ?_
 refine lO (vp (aD (sub b (aH (j+2)) (b.length:Int))) R) (lS R (lO (vp (aD (sub b (aH (j+2)) (b.length:Int))) R) ?_))
 refine bG ?_
 cases g
 exact hW (q,e.length,u) tI
theorem Z2_ok  {b:(List aM)}{p3:aM}{j:(List (List Int))}{r:aM×(List Int)×Bool}(B:Z2 b p3 j=some r) :
 FnOk Tryz.prog 110 [(.slice A2 N2 D2),(aD p3),(.slice A5 N5 D5)] [aN dO (.slice A2 N2 D2) b,aN bL (.slice A5 N5 D5) j] (fun (h:HH)=>((.tuple [(aD r.1),(s3 h),(.bool r.2.2)].toArray),[ow kT3 3 (s3 h) r.2.1])):=by
 unfold Z2 at B
 refine aQ Tryz.func110 R 129 R R fun C V=>?_
 refine cL 0 aA ?_
 rintro rfl
 refine cL 1 aA ?_
 rintro rfl
 let W0:=RR dO A2 D2 b::RR bL A5 D5 j::V
 refine cN W0 ?_
 refine aU ?_
 refine lO (vp (aD ([]:aM)) R) ?_
 refine bT ?_
 refine lO (vp (aD p3) R) (lO (vp (aD p3) R) ?_)
 refine aP ?_
 obtain ⟨ao,B⟩:=gd B
 refine aE (lO (vp (aD p3) R) (lO (vz (il p3) (dN fJ R)) (fI (K:=kT3) (m:=(p3.length:Int)) (z:=(0:Int)) R R bI cB jZ (Zr.zk zT3 f') (by decide) R R ao.1 ao.2.1 ao.2.2 (fun A7 D7=>(lS R (aC (aI (aO (aZ (A:=(aM×(List Int))×(HH)) (fun a=>Z2_J11 a.1.1 a.1.2=some r) (fun a=>[(9,(aD a.1.1)),(10,(s3 a.2))]) (fun a=>ow kT3 3 (s3 a.2) a.1.2::W0) ?_ ?_)))))))))
 refine bT ?_
 obtain ⟨e1,br,av⟩:=bd B
 refine bD (A:=HH×HH×HH) br (fun s a=>[(0,(s3 a.1)),(2,(s3 a.2.1)),(9,(aD s.1)),(10,(s3 a.2.2)),(11,(iv s.2.2))]) (fun s a=>aN dO (s3 a.1) b::aN bL (s3 a.2.1) j::ow kT3 3 (s3 a.2.2) s.2.1::W0) ((A2,b.length,D2),(A5,j.length,D5),(A7,(List.replicate (p3.length:Int).toNat (0:Int)).length,D7)) (aS R) (fun w s=>(((s.d 1 R).d 3 R).e 3 [1,0,2])) ?_
 rintro ⟨a6,F,l⟩ ⟨⟨c4,b5,J⟩,⟨bw,ax,L⟩,⟨ai,bb,ag⟩⟩ σ1 b7 B aq
 dsimp only [Z2_L1] at B
 refine bJ 0 aA (fun (hn:b5=b.length)=>?_)
 subst hn
 refine bJ 1 aA (fun (hn:ax=j.length)=>?_)
 subst hn
 refine bJ 2 aB (fun (hn:bb=F.length)=>?_)
 subst hn
 refine cU ?_
 split at B
 refine bG ?_
 refine aZ (A:=(aM×(List Int))×(HH×HH×HH)) (fun a=>Z2_J10 l a.1.1 a.1.2=some b7) (fun a=>[(0,(s3 a.2.1)),(2,(s3 a.2.2.1)),(9,(aD a.1.1)),(10,(s3 a.2.2.2)),(11,(iv l))]) (fun a=>aN dO (s3 a.2.1) b::aN bL (s3 a.2.2.1) j::ow kT3 3 (s3 a.2.2.2) a.1.2::W0) ?_ ?_
 refine aP ?_
 obtain ⟨Y,B⟩:=gd B
 obtain ⟨T,B⟩:=gd B
 refine bB 1 aA (show 0<j.length by have:=Y; omega) (fun O o113 ha=>?_)
 subst ha
 refine dL (K:=bL) 1 l dT23.dec R Y.1 Y.2 ?_
 rintro ⟨c1,c7⟩
 refine bB 2 aA (show 0<b.length by have:=T; omega) (fun M o117 ha=>?_)
 subst ha
 refine dF 11 [] bP fun ht hn=>?_
 refine hX 0 [] ?_
 refine dR 3 R (eJ (fo:=0) 0 cJ R R R) ?_
 refine oq 4 [] ?_
 refine dR 8 R (vz (aD (ix b l)) (jH (K:=dO) (fo:=0) (pr:=fun x=>(aD x)) 2 l qX (dT9.leaf fun _ _=>R) aA R T.1 T.2)) (dR 9 R (vz (il (ix b l)) (dN fJ R)) (dR 10 R (BG R R) (dD (aI ?_))))
 split at B
 refine bG ?_
 refine lO (vp (aD ([]:aM)) R) ?_
 refine cV ?_
 cases B
 obtain rfl:=aq _ R
 have B:=av
 refine aP ?_
 cases B
 exact hW (ai,F.length,ag) (tE 7 [4])
 refine cU ?_
 obtain ⟨e2,bm,b0⟩:=bd B
 refine bD (A:=HH) bm (fun s a=>[(0,(sc (ad M o117) b J)),(2,(sc (ad O o113) j L)),(9,(aD s.1)),(10,(s3 a)),(11,(iv l)),(12,(iv s.2.2))]) (fun s a=>RR dO (ad M o117) J b::RR bL (ad O o113) L j::ow kT3 3 (s3 a) s.2.1::W0) (ai,F.length,ag) (aS R) (fun w s=>(s.f 5 [2,3])) ?_
 rintro ⟨g,i,D⟩ ⟨a0,bc,Z⟩ σ1 am B b6
 dsimp only [Z2_L2] at B
 refine bJ 2 aB (fun (hn:bc=i.length)=>?_)
 subst hn
 refine dG ?_
 refine lO (vz (aD (ix b l)) (jH (K:=dO) (fo:=0) (pr:=fun x=>(aD x)) 0 l qX (dT9.leaf fun _ _=>R) aA R T.1 T.2)) (lO (vz (il (ix b l)) (dN fJ R)) ?_)
 refine aP ?_
 split at B
 refine hN ?_
 refine aZ (A:=(Int)×(Unit)) (fun a=>Z2_J8 b j l g i D a.1=some am) (fun a=>[(0,(sc (ad M o117) b J)),(2,(sc (ad O o113) j L)),(9,(aD g)),(10,(sc a0 i Z)),(11,(iv l)),(12,(iv D)),(13,(iv a.1))]) (fun a=>RR dO (ad M o117) J b::RR bL (ad O o113) L j::OO kT3 3 a0 Z i::W0) ?_ ?_
 refine bU ?_
 obtain ⟨e3,bn,bl⟩:=bd B
 refine bD (A:=Unit) bn (fun s a=>[(0,(sc (ad M o117) b J)),(2,(sc (ad O o113) j L)),(9,(aD g)),(10,(sc a0 i Z)),(11,(iv l)),(12,(iv D)),(13,(iv s))]) (fun s a=>RR dO (ad M o117) J b::RR bL (ad O o113) L j::OO kT3 3 a0 Z i::W0) () (aS R) tI ?_
 rintro a3 _ σ1 c0 B bq
 dsimp only [Z2_L3] at B
 refine aU ?_
 obtain ⟨ac,B⟩:=gd B
 obtain ⟨ah,B⟩:=gd B
 refine cQ [(0,(sc (ad M o117) b J)),(2,(sc (ad O o113) j L)),(9,(aD g)),(10,(sc a0 i Z)),(11,(iv l)),(12,(iv D)),(13,(iv a3)),(62,(.bool ((decide (a3<(g.length:Int)))&&((bt g a3) != (bt (ix b l) D)))))] (RR dO (ad M o117) J b::RR bL (ad O o113) L j::OO kT3 3 a0 Z i::W0) ?_ ?_
 rcases bo (decide (a3<(g.length:Int))) with E | E
 refine dF 16 [] bP fun ht hn=>?_
 refine dR 0 R (vI R) (dR 1 R (vp (aD g) R) (dR 2 R (vz (il g) (dN fJ R)) ?_))
 refine gR 3 [] ?_
 refine dW 5 R (eH E) (vp (aD g) R) (dW 6 R (eH E) (vI R) (dW 7 R (eH E) (vz (.int .u8 (bt g a3)) (cH fJ R R (ac E).1 (ac E).2)) ?_))
 refine hX 8 [] ?_
 refine dW 11 R (eH E) (vz (aD (ix b l)) (jH (K:=dO) (fo:=0) (pr:=fun x=>(aD x)) 0 l qX (dT9.leaf fun _ _=>R) aA R T.1 T.2)) (dW 12 R (eH E) (vI R) (dW 13 R (eH E) (vz (.int .u8 (bt (ix b l) D)) (cH fJ R R (ah E).1 (ah E).2)) (dW 14 R (eH E) (vp (.bool ((bt g a3) != (bt (ix b l) D))) R) (dR 15 R (iV R E R) (dD ?_)))))
 exact qj tI
 refine dF 16 [] bP fun ht hn=>?_
 refine dR 0 R (vI R) (dR 1 R (vp (aD g) R) (dR 2 R (vz (il g) (dN fJ R)) ?_))
 refine ml 3 [] ?_
 refine dD ?_
 exact qj tI
 rintro σ1
 refine bU ?_
 split at B
 refine cP ?_
 cases B
 exact qA () tI
 refine aP ?_
 cases B
 obtain rfl:=bq _ R
 have B:=bl
 refine aU ?_
 exact qI (a3,()) B tI
 rintro ⟨a2,_⟩ σ1 B
 dsimp only [Z2_J8] at B
 refine aO (aZ (A:=(aM×(List Int))×(HH)) (fun a=>Z2_J9 j l D a2 a.1.1 a.1.2=some am) (fun a=>[(0,(sc (ad M o117) b J)),(2,(sc (ad O o113) j L)),(9,(aD a.1.1)),(10,(s3 a.2)),(11,(iv l)),(12,(iv D)),(13,(iv a2))]) (fun a=>RR dO (ad M o117) J b::RR bL (ad O o113) L j::ow kT3 3 (s3 a.2) a.1.2::W0) ?_ ?_)
 refine aP ?_
 refine lO (vp (aD g) R) (lO (vz (il g) (dN fJ R)) ?_)
 refine aP ?_
 split at B
 refine aU ?_
 obtain ⟨a9,B⟩:=gd B
 obtain ⟨ap,B⟩:=gd B
 refine aE (lO (vp (aD g) R) ?_)
 refine aP ?_
 refine lO (vz (aD (ix b l)) (jH (K:=dO) (fo:=0) (pr:=fun x=>(aD x)) 0 l qX (dT9.leaf fun _ _=>R) aA R T.1 T.2)) ?_
 refine aP ?_
 refine lO (vz (aD (sub (ix b l) D (aH (D+1)))) (hM D (aH (D+1)) fJ R R R a9.1 a9.2.1 a9.2.2)) (lO (vz (aD (g++(sub (ix b l) D (aH (D+1))))) (nl R R ap)) (lO (vp (aD (g++(sub (ix b l) D (aH (D+1))))) R) ?_))
 refine aU ?_
 obtain ⟨an,B⟩:=gd B
 refine aU ?_
 refine bK (K:=kT3) (xs:=([(0:Int)]:List Int)) (vs:=[(iv 0)]) 0 R R bI cB f' R R R R R R ?_ R (fun c6 bz=>?_)
 exact fun I h s=>(fZ).list [((),(0:Int))] I h s
 refine lM _ (tE 4 [3,0,1,2]) ?_
 refine eB (K:=kT3) 17592186044416 R R bI cB jZ (Zr.zk zT3 f') R R R R R R dM an (fun ak al=>(lN (OO kT3 3 ak al (i++([(0:Int)]:List Int))::_::_::W0) ?_))
 refine aU ?_
 exact qI (((g++(sub (ix b l) D (aH (D+1)))),(i++([(0:Int)]:List Int))),(ak,(i++([(0:Int)]:List Int)).length,al)) B (tE 3 [1,2,0])
 refine aU ?_
 exact qI ((g,i),(a0,i.length,Z)) B tI
 rintro ⟨⟨a8,q⟩,⟨ae,bj,ab⟩⟩ σ1 B
 dsimp only [Z2_J9] at B
 refine bJ 2 aB (fun (hn:bj=q.length)=>?_)
 subst hn
 refine aU ?_
 obtain ⟨a4,B⟩:=gd B
 obtain ⟨aa,B⟩:=gd B
 refine cQ [(0,(sc (ad M o117) b J)),(2,(sc (ad O o113) j L)),(9,(aD a8)),(10,(sc ae q ab)),(11,(iv l)),(12,(iv D)),(13,(iv a2)),(100,(.bool (((ix q a2) != 0)&&((ix q a2) != (ix (ix j l) D)))))] (RR dO (ad M o117) J b::RR bL (ad O o113) L j::OO kT3 3 ae ab q::W0) ?_ ?_
 rcases bo ((ix q a2) != 0) with U | U
 refine bB 2 aB (show 0<q.length by have:=a4; omega) (fun b9 o182 ha=>?_)
 subst ha
 refine dL (K:=bL) 1 l dT23.dec R Y.1 Y.2 ?_
 rintro ⟨bu,bs⟩
 refine bB 1 aA (show 0<(ix j l).length by have:=(aa U); omega) (fun c8 o186 ha=>?_)
 subst ha
 refine dF 19 [] bP fun ht hn=>?_
 refine ml 0 [] ?_
 refine dW 13 R (eH U) (eJ (fo:=0) 0 cJ R R R) (dW 14 R (eH U) (vI R) (dW 15 R (eH U) (eL bI cB R R (aa U)) (dW 16 R (eH U) (gO 1 fQ aA R (aa U)) ?_)))
 refine gR 17 [] ?_
 refine dD ?_
 exact qj (fun w s=>(s.f 5 [2,3]))
 refine bB 2 aB (show 0<q.length by have:=a4; omega) (fun b9 o182 ha=>?_)
 subst ha
 refine dF 19 [] bP fun ht hn=>?_
 refine yr 0 [] ?_
 refine dD ?_
 exact qj tI
 rintro σ1
 refine bU ?_
 split at B
 refine bG ?_
 refine lO (vp (aD ([]:aM)) R) ?_
 refine cV ?_
 cases B
 obtain rfl:=b6 _ R
 have B:=b0
 refine bG ?_
 cases B
 obtain rfl:=aq _ R
 have B:=av
 refine aP ?_
 cases B
 exact hW (ae,q.length,ab) (tE 5 [2])
 refine aP ?_
 obtain ⟨ar,B⟩:=gd B
 refine bT ?_
 refine gG (K:=bL) 1 l dT23.dec R Y.1 Y.2 ?_
 rintro ⟨c5,c9⟩
 refine lO (eJ (fo:=0) 0 cJ R R R) (lI R (bA 1 aA (show 0<(ix j l).length by have:=ar; omega) (fun c3 o192 ha=>?_)))
 subst ha
 refine aU ?_
 refine bA 4 aB (show 0<q.length by have:=a4; omega) (fun be o194 ha=>?_)
 subst ha
 refine bU ?_
 refine lM _ (fun w s=>(s.f 5 [4,1,0,4])) ?_
 refine eA (K:=kT3) (x':=(ix (ix j l) D)) 0 a2 R R cB R R a4.1 a4.2 ?_ ?_
 exact fun I h s=>(fZ).put I h () (ix (ix j l) D) s
 refine cV ?_
 cases B
 exact qA ((ad be o194),q.length,ab) (tE 5 [3,4,0])
 refine aP ?_
 cases B
 obtain rfl:=b6 _ R
 have B:=b0
 refine aP ?_
 exact qI ((g,i),(((ad M o117),b.length,J),((ad O o113),j.length,L),(a0,i.length,Z))) B tI
 rintro ⟨⟨aj,a1⟩,⟨⟨bk,b4,ay⟩,⟨b8,bf,az⟩,⟨bi,bg,b3⟩⟩⟩ σ1 B
 dsimp only [Z2_J10] at B
 refine bJ 0 aA (fun (hn:b4=b.length)=>?_)
 subst hn
 refine bJ 1 aA (fun (hn:bf=j.length)=>?_)
 subst hn
 refine bJ 2 aB (fun (hn:bg=a1.length)=>?_)
 subst hn
 refine bZ ?_
 cases B
 exact qA ((bk,b.length,ay),(b8,j.length,az),(bi,a1.length,b3)) tI
 refine aP ?_
 cases B
 obtain rfl:=aq _ R
 have B:=av
 refine aU ?_
 exact qI ((a6,F),(ai,F.length,ag)) B (tE 3 [2])
 rintro ⟨⟨G,u⟩,⟨a7,b1,a5⟩⟩ σ1 B
 dsimp only [Z2_J11] at B
 refine bJ 0 aB (fun (hn:b1=u.length)=>?_)
 subst hn
 refine bT ?_
 refine aZ (A:=(Unit)×(Unit)) (fun a=>Z2_J12 G u=some r) (fun a=>[(9,(aD G)),(10,(sc a7 u a5))]) (fun a=>OO kT3 3 a7 a5 u::W0) ?_ ?_
 refine bT ?_
 obtain ⟨e4,bp,aw⟩:=bd B
 refine bD (A:=Unit) bp (fun s a=>[(9,(aD G)),(10,(sc a7 u a5)),(14,(iv s.1)),(15,(iv s.2))]) (fun s a=>OO kT3 3 a7 a5 u::W0) () (aS R) tI ?_
 rintro ⟨bh,c2⟩ _ σ1 bv B ba
 dsimp only [Z2_L4] at B
 refine cU ?_
 split at B
 refine bT ?_
 obtain ⟨au,B⟩:=gd B
 refine bG ?_
 refine bA 0 aB (show 0<u.length by have:=au; omega) (fun b2 o223 ha=>?_)
 subst ha
 refine hH ?_
 split at B
 refine bG ?_
 refine lO (vp (aD ([]:aM)) R) ?_
 refine dG ?_
 cases B
 obtain rfl:=ba _ R
 have B:=aw
 refine aP ?_
 cases B
 exact hW ((ad b2 o223),u.length,a5) (tE 3 [0])
 refine cU ?_
 cases B
 exact qA () tI
 refine aP ?_
 cases B
 obtain rfl:=ba _ R
 have B:=aw
 refine aU ?_
 exact qI ((),()) B tI
 rintro ⟨_,_⟩ σ1 B
 dsimp only [Z2_J12] at B
 refine aU ?_
 refine lO (vp (aD G) R) (lS R (lO (vp (aD G) R) ?_))
 refine bZ ?_
 cases B
 exact hW (a7,u.length,a5) (tE 3 [0])
theorem Zg_ok  {i:aM}{g:aM}{b:(List Int)}{r:(List Int)}(j:Zg i g b=some r) :
 FnOk Tryz.prog 113 [(aD i),(aD g),(.slice A4 N4 D4)] [aN kT3 (.slice A4 N4 D4) b] (fun (h:HH)=>((.slice h.1 h.2.1 h.2.2),[ow kT3 3 (.slice h.1 h.2.1 h.2.2) r])):=by
 unfold Zg at j
 refine aQ Tryz.func113 R 38 R R fun C V=>?_
 refine cN (_::V) ?_
 refine cL 0 aA ?_
 rintro rfl
 let M:List HP:=RR kT3 A4 D4 b::V
 refine cN M ?_
 refine aO (aE (lS R (aC (aI (aO (aE (bK (K:=kT3) (xs:=([]:List Int)) (vs:=[]) 0 R R bI cB f' R R R R R R ?_ R (fun A5 D5=>?_))))))))
 exact fun I h s=>(fZ).list [] I h s
 refine lN (OO kT3 3 A5 D5 ([]:List Int)::M) ?_
 refine lS R (aC (aI (aO (aZ (A:=((List Int))×(HH)) (fun a=>Zg_J7 a.1=some r) (fun a=>[(7,(.slice a.2.1 a.2.2.1 a.2.2.2))]) (fun a=>ow kT3 3 (.slice a.2.1 a.2.2.1 a.2.2.2) a.1::M) ?_ ?_))))
 refine aO (aE (lI R (aC (aI (dJ ?_)))))
 obtain ⟨e1,am,ak⟩:=bd j
 refine bD (A:=HH) am (fun s a=>[(0,(aD i)),(1,(aD g)),(2,(sc A4 b D4)),(7,(.slice a.1 a.2.1 a.2.2)),(8,(iv s.2))]) (fun s a=>ow kT3 3 (.slice a.1 a.2.1 a.2.2) s.1::M) (A5,([]:List Int).length,D5) (aS R) (fun w s=>s) ?_
 rintro ⟨F,q⟩ ⟨a2,al,a4⟩ σ1 E j ab
 replace j:Zg_L1 i g b F q=some E:=j
 unfold Zg_L1 at j
 refine bJ 0 aB (fun (L:al=F.length)=>?_)
 subst L
 refine aO (aO (aE (lI R (lO (vp (aD i) R) (lO (vz (il i) (dN fJ R)) (lO (mZ R R) (aC (aI ?_))))))))
 rcases cO j with ⟨D,j⟩|⟨D,j⟩
 refine cC R D (dE (aI (aO (aZ (A:=((List Int))×(HH)) (fun a=>Zg_J6 q a.1=some E) (fun a=>[(0,(aD i)),(1,(aD g)),(2,(sc A4 b D4)),(7,(.slice a.2.1 a.2.2.1 a.2.2.2)),(8,(iv q))]) (fun a=>ow kT3 3 (.slice a.2.1 a.2.2.1 a.2.2.2) a.1::M) ?_ ?_))))
 refine dJ (aO (aE (lI R (aC (aI (dJ ?_))))))
 obtain ⟨e2,ah,aa⟩:=bd j
 refine bD (A:=HH) ah (fun s a=>[(0,(aD i)),(1,(aD g)),(2,(sc A4 b D4)),(7,(.slice a.1 a.2.1 a.2.2)),(8,(iv q)),(9,(iv s.2))]) (fun s a=>ow kT3 3 (.slice a.1 a.2.1 a.2.2) s.1::M) (a2,F.length,a4) (aS R) (fun w s=>s) ?_
 rintro ⟨m,l⟩ ⟨a0,a9,Z⟩ σ1 J j an
 replace j:Zg_L2 i g b q m l=some J:=j
 unfold Zg_L2 at j
 refine bJ 0 aB (fun (L:a9=m.length)=>?_)
 subst L
 refine aO (aO (aE (lI R (lO (vp (aD g) R) (lO (vz (il g) (dN fJ R)) (lO (mZ R R) (aC (aI ?_))))))))
 rcases cO j with ⟨G,j⟩|⟨G,j⟩
 refine cC R G (dE (aI (aO (aZ (A:=((List Int))×(HH)) (fun a=>Zg_J5 l a.1=some J) (fun a=>[(0,(aD i)),(1,(aD g)),(2,(sc A4 b D4)),(7,(.slice a.2.1 a.2.2.1 a.2.2.2)),(8,(iv q)),(9,(iv l))]) (fun a=>ow kT3 3 (.slice a.2.1 a.2.2.1 a.2.2.2) a.1::M) ?_ ?_))))
 refine dJ (aO ?_)
 obtain ⟨O,j⟩:=gd j
 obtain ⟨T,j⟩:=gd j
 refine dF 7 [] bP (fun ht L=>(dR 0 R (vp (aD g) R) (dR 1 R (vI R) (dR 2 R (vz (.int .u8 (bt g l)) (cH fJ R R O.1 O.2)) (dR 3 R (vp (aD i) R) (dR 4 R (vI R) (dR 5 R (vz (.int .u8 (bt i q)) (cH fJ R R T.1 T.2)) (dR 6 R (vp (.bool ((bt g l)==(bt i q))) R) (dD (aI ?_))))))))))
 rcases cO j with ⟨B,j⟩|⟨B,j⟩
 refine cC R B ?_
 obtain ⟨u,j⟩:=gd j
 obtain ⟨a5,j⟩:=gd j
 refine aE (lS R (lS R (lI R (bA 1 aA (show 0<b.length by have:=u; omega) (fun au o64 ha=>?_)))))
 subst ha
 refine lO (eL bI cB R R u) (lO (gO 1 fQ aA R u) (bK (K:=kT3) (xs:=([(ix b l)]:List Int)) (vs:=[(iv (ix b l))]) 0 R R bI cB f' R R R R R R ?_ R (fun ap ai=>?_)))
 exact fun I h s=>(fZ).list [((),(ix b l))] I h s
 refine lN (OO kT3 3 ap ai ([(ix b l)]:List Int)::OO kT3 3 a0 Z m::M) ?_
 refine lM (ow _ _ _ _::ow _ _ _ _::M) (fun w s=>(s.e 2 [1,0])) ?_
 refine eB (K:=kT3) 17592186044416 R R bI cB jZ (Zr.zk zT3 f') R R R R R R dM a5 (fun a3 a6=>(lN (OO kT3 3 a3 a6 (m++([(ix b l)]:List Int))::M) ?_))
 refine lS R (aC (dY ?_))
 exact qI ((m++([(ix b l)]:List Int)),(a3,(m++([(ix b l)]:List Int)).length,a6)) j (fun w s=>s)
 refine bM R B (dE (dY ?_))
 exact qI (m,(a0,m.length,Z)) j (fun w s=>s)
 rintro ⟨a1,⟨ao,aq,ae⟩⟩ σ1 j
 replace j:Zg_J5 l a1=some J:=j
 unfold Zg_J5 at j
 refine bJ 0 aB (fun (L:aq=a1.length)=>?_)
 subst L
 refine aE (lI R (lO (kW R R) (lI R (aC ?_))))
 obtain rfl:=so j
 exact qA (ao,a1.length,ae) (fun w s=>s)
 refine bM R G (hJ (eD ?_))
 obtain rfl:=so j
 obtain rfl:=an _ R
 have j:=aa
 refine eD (fX (dY ?_))
 exact qI (m,(a0,m.length,Z)) j (fun w s=>s)
 rintro ⟨Y,⟨a7,aj,a8⟩⟩ σ1 j
 replace j:Zg_J6 q Y=some E:=j
 unfold Zg_J6 at j
 refine bJ 0 aB (fun (L:aj=Y.length)=>?_)
 subst L
 refine aE (lI R (lO (kW R R) (lI R (aC ?_))))
 obtain rfl:=so j
 exact qA (a7,Y.length,a8) (fun w s=>s)
 refine bM R D (hJ (eD ?_))
 obtain rfl:=so j
 obtain rfl:=ab _ R
 have j:=ak
 refine eD (fX ?_)
 exact qI (F,(a2,F.length,a4)) j (fun w s=>s)
 rintro ⟨U,⟨ar,ag,ac⟩⟩ σ1 j
 replace j:Zg_J7 U=some r:=j
 unfold Zg_J7 at j
 refine bJ 0 aB (fun (L:ag=U.length)=>?_)
 subst L
 refine aO (aE (lS R (lS R (aC (aI (bY ?_))))))
 obtain rfl:=so j
 exact qF (ar,U.length,ac) (fun w s=>(s.e 2 [0]))
end Go.Proofs.YtmpnollfdpdipaaGreat
