import Derived.Test.YtmpnollfdpdipaaGreatGkF
set_option linter.unusedVariables false
set_option maxRecDepth 20000
namespace Go.Proofs.YtmpnollfdpdipaaGreat
open Go Go.Pg
variable {A2 A3 A4 A5 A6 A7:Option Addr}{D2 D3 D4 D5 D6 D7 N2 N3 N4 N5 N6 N7:Nat}
theorem Z2y_ok  {b:Int}{r:Int×Int}(a:Z2y b=some r) :
 FnOk Tryz.prog 75 [(iv b)] [] (fun (h:Unit)=>((.tuple [(iv r.1),(iv r.2)].toArray),[])):=by
 unfold Z2y at a
 refine aQ Tryz.func75 R 13 R R fun C V=>?_
 refine cN V ?_
 refine nv ?_
 split at a
 refine cT ?_
 cases a
 exact jC () tI
 refine cV ?_
 split at a
 refine cT ?_
 cases a
 exact jC () tI
 refine cV ?_
 split at a
 refine cT ?_
 cases a
 exact jC () tI
 refine iu ?_
 cases a
 exact jC () tI
theorem Z38_ok  {a:Int}{r:Bool}(i:Z38 a=some r) :
 FnOk Tryz.prog 76 [(iv a)] [] (fun (h:Unit)=>((.bool r),[])):=by
 unfold Z38 at i
 refine aQ Tryz.func76 R 17 R R fun C V=>?_
 refine cN V ?_
 refine bS ?_
 refine cQ [(2,(.bool ((((a==1)||(a==2))||(a==12))||(a==13))))] (V) ?_ ?_
 refine bG ?_
 rcases bo (a==1) with b | b
 refine mq ?_
 exact qj tI
 refine bG ?_
 rcases bo ((a==1)||(a==2)) with g | g
 refine cP ?_
 exact qj tI
 refine bG ?_
 rcases bo (((a==1)||(a==2))||(a==12)) with e | e
 refine b' ?_
 exact qj tI
 refine b' ?_
 exact qj tI
 rintro σ1
 refine aU ?_
 cases i
 exact qF () tI
theorem Z1b_ok  {e:Int}{r:Int}(b:Z1b e=some r) :
 FnOk Tryz.prog 77 [(iv e)] [] (fun (h:Unit)=>((iv r),[])):=by
 unfold Z1b at b
 refine aQ Tryz.func77 R 16 R R fun C V=>?_
 refine cN V ?_
 refine yd ?_
 split at b
 refine cP ?_
 cases b
 exact qF () tI
 refine aU ?_
 refine bB (A:=(Bool)×(Unit)) (fun a=>Z1b_J1 e a.1=some r) (fun a=>[(3,(iv e)),(6,(.bool a.1))]) (fun a=>V) ?_ ?_
 refine bS ?_
 split at b
 refine aU ?_
 exact qI ((e==14),()) b tI
 refine b' ?_
 exact qI ((e==15),()) b tI
 rintro ⟨i,_⟩ σ1 b
 dsimp only [Z1b_J1] at b
 split at b
 refine cP ?_
 cases b
 exact qF () tI
 refine dH ?_
 split at b
 refine cP ?_
 cases b
 exact qF () tI
 refine dH ?_
 split at b
 refine cP ?_
 cases b
 exact qF () tI
 refine aU ?_
 refine bB (A:=(Bool)×(Unit)) (fun a=>Z1b_J2 a.1=some r) (fun a=>[(13,(.bool a.1))]) (fun a=>V) ?_ ?_
 refine bS ?_
 split at b
 refine aU ?_
 exact qI ((e==18),()) b tI
 refine b' ?_
 exact qI ((e==19),()) b tI
 rintro ⟨g,_⟩ σ1 b
 dsimp only [Z1b_J2] at b
 split at b
 refine cP ?_
 cases b
 exact qF () tI
 refine cT ?_
 cases b
 exact qF () tI
theorem Z17_ok  {a:Node}{r:Bool}(m:Z17 a=some r) :
 FnOk Tryz.prog 51 [(.agg [(iv a.Op),(.slice A2 N2 D2),(.slice A3 N3 D3),(.slice A4 N4 D4),(aD a.Form),(.slice A5 N5 D5)].toArray)] [aO kT3 (.slice A2 N2 D2) a.Args,aO kT3 (.slice A3 N3 D3) a.Dims,aO kT3 (.slice A4 N4 D4) a.Ints,aO kT3 (.slice A5 N5 D5) a.Data] (fun (h:Unit)=>((.bool r),[])):=by
 unfold Z17 at m
 refine aQ Tryz.func51 R 92 R R fun C V=>?_
 refine cL 0 aA ?_
 rintro rfl
 refine cL 1 aA ?_
 rintro rfl
 refine cL 2 aA ?_
 rintro rfl
 refine cL 3 aA ?_
 rintro rfl
 let W0:=RR kT3 A2 D2 a.Args::RR kT3 A3 D3 a.Dims::RR kT3 A4 D4 a.Ints::RR kT3 A5 D5 a.Data::V
 refine cN W0 ?_
 refine aU ?_
 refine eG R fun T=>?_
 refine aU ?_
 let O:=aJ T [(iv a.Op),(sc A2 a.Args D2),(sc A3 a.Dims D3),(sc A4 a.Ints D4),(aD a.Form),(sc A5 a.Data D5)] 54::W0
 refine qN O ?_
 refine aP ?_
 refine cQ [(1,(pt T 0)),(13,(.bool ((decide (a.Op<1))||(decide (a.Op>19)))))] (O) ?_ ?_
 refine b' ?_
 rcases bo (decide (a.Op<1)) with M | M
 refine aP ?_
 refine lO (fC (decide (a.Op>19)) R M) (aC ?_)
 exact qj tI
 refine aP ?_
 refine lO (fR R M R) (aC ?_)
 exact qj tI
 rintro σ1
 refine bR ?_
 split at m
 refine cV ?_
 cases m
 exact qF () (tE 5 [])
 refine bG ?_
 obtain ⟨r9,Y,m⟩:=bd m
 refine aP ?_
 refine lC 0 AC R (Z2y_ok Y) R ?_
 rintro _
 refine lO (vT R) ?_
 refine cV ?_
 refine cQ [(1,(pt T 0)),(31,(.bool ((decide ((a.Args.length:Int)<r9.1))||(decide ((a.Args.length:Int)>r9.2)))))] (O) ?_ ?_
 refine dH ?_
 rcases bo (decide ((a.Args.length:Int)<r9.1)) with L | L
 refine b' ?_
 refine lO (fC (decide ((a.Args.length:Int)>r9.2)) R L) (aC ?_)
 exact qj tI
 refine b' ?_
 refine lO (fR R L R) (aC ?_)
 exact qj tI
 rintro σ1
 refine bR ?_
 split at m
 refine cV ?_
 cases m
 exact qF () (tE 5 [])
 refine b' ?_
 obtain ⟨q,Z,m⟩:=bd m
 refine cQ [(1,(pt T 0)),(62,(.bool ((((!q)&&(decide ((a.Dims.length:Int)>0)))||((a.Op != 11)&&(!(a.Form==([]:aM)))))||((a.Op != 2)&&(decide ((a.Data.length:Int)>0))))))] (O) ?_ ?_
 refine aP ?_
 refine lC 0 AD R (Z38_ok Z) R ?_
 rintro _
 refine aU ?_
 rcases bo (!q) with b | b
 refine bG ?_
 refine lO (iX R b R) (lB R ?_)
 rcases bo ((!q)&&(decide ((a.Dims.length:Int)>0))) with e | e
 refine cV ?_
 refine lO (fC ((a.Op != 11)&&(!(a.Form==([]:aM)))) R e) ?_
 refine cT ?_
 refine lO (fC ((a.Op != 2)&&(decide ((a.Data.length:Int)>0))) R (oT e)) (aC ?_)
 exact qj tI
 refine bG ?_
 rcases bo (a.Op != 11) with u | u
 refine aU ?_
 refine lW (eB u) (vz (.bool (!(a.Form==([]:aM)))) (jd R R R)) (lW (bY e) (iX R u R) (lO (fR R e R) (lB R ?_)))
 rcases bo (((!q)&&(decide ((a.Dims.length:Int)>0)))||((a.Op != 11)&&(!(a.Form==([]:aM))))) with l | l
 refine cP ?_
 refine lO (fC ((a.Op != 2)&&(decide ((a.Data.length:Int)>0))) R l) (aC ?_)
 exact qj tI
 refine bG ?_
 rcases bo (a.Op != 2) with E | E
 refine bG ?_
 refine lW (bY l) (iX R E R) (lO (fR R l R) (aC ?_))
 exact qj tI
 refine bG ?_
 refine lW (bY l) (kc (decide ((a.Data.length:Int)>0)) R E) (lO (fR R l R) (aC ?_))
 exact qj tI
 refine aP ?_
 refine lW (bY e) (kc (!(a.Form==([]:aM))) R u) (lO (fR R e R) (lB R ?_))
 rcases bo (((!q)&&(decide ((a.Dims.length:Int)>0)))||((a.Op != 11)&&(!(a.Form==([]:aM))))) with i | i
 refine cP ?_
 refine lO (fC ((a.Op != 2)&&(decide ((a.Data.length:Int)>0))) R i) (aC ?_)
 exact qj tI
 refine bG ?_
 rcases bo (a.Op != 2) with F | F
 refine bG ?_
 refine lW (bY i) (iX R F R) (lO (fR R i R) (aC ?_))
 exact qj tI
 refine bG ?_
 refine lW (bY i) (kc (decide ((a.Data.length:Int)>0)) R F) (lO (fR R i R) (aC ?_))
 exact qj tI
 refine bG ?_
 refine lO (kc (decide ((a.Dims.length:Int)>0)) R b) ?_
 refine b' ?_
 rcases bo (a.Op != 11) with s | s
 refine aU ?_
 refine lW (eB s) (vz (.bool (!(a.Form==([]:aM)))) (jd R R R)) (lW (bY (aF b)) (iX R s R) (lO (fR R (aF b) R) (lB R ?_)))
 rcases bo (((!q)&&(decide ((a.Dims.length:Int)>0)))||((a.Op != 11)&&(!(a.Form==([]:aM))))) with j | j
 refine cP ?_
 refine lO (fC ((a.Op != 2)&&(decide ((a.Data.length:Int)>0))) R j) (aC ?_)
 exact qj tI
 refine bG ?_
 rcases bo (a.Op != 2) with G | G
 refine bG ?_
 refine lW (bY j) (iX R G R) (lO (fR R j R) (aC ?_))
 exact qj tI
 refine bG ?_
 refine lW (bY j) (kc (decide ((a.Data.length:Int)>0)) R G) (lO (fR R j R) (aC ?_))
 exact qj tI
 refine aP ?_
 refine lW (bY (aF b)) (kc (!(a.Form==([]:aM))) R s) (lO (fR R (aF b) R) (lB R ?_))
 rcases bo (((!q)&&(decide ((a.Dims.length:Int)>0)))||((a.Op != 11)&&(!(a.Form==([]:aM))))) with g | g
 refine cP ?_
 refine lO (fC ((a.Op != 2)&&(decide ((a.Data.length:Int)>0))) R g) (aC ?_)
 exact qj tI
 refine bG ?_
 rcases bo (a.Op != 2) with J | J
 refine bG ?_
 refine lW (bY g) (iX R J R) (lO (fR R g R) (aC ?_))
 exact qj tI
 refine bG ?_
 refine lW (bY g) (kc (decide ((a.Data.length:Int)>0)) R J) (lO (fR R g R) (aC ?_))
 exact qj tI
 rintro σ1
 refine bR ?_
 split at m
 refine cV ?_
 cases m
 exact qF () (tE 5 [])
 refine bG ?_
 obtain ⟨B,U,m⟩:=bd m
 refine aP ?_
 refine lC 0 AE R (Z1b_ok U) R ?_
 rintro _
 refine b' ?_
 refine cQ [(1,(pt T 0)),(5,(iv B)),(73,(.bool ((a.Op==16)||(a.Op==17))))] (O) ?_ ?_
 refine b' ?_
 rcases bo (a.Op==16) with I | I
 refine aP ?_
 refine lO (fC (a.Op==17) R I) (aC ?_)
 exact qj tI
 refine aP ?_
 refine lO (fR R I R) (aC ?_)
 exact qj tI
 rintro σ1
 refine bR ?_
 split at m
 refine aU ?_
 refine cQ [(2,(.bool ((decide ((a.Ints.length:Int)≥B))&&(decide ((a.Ints.length:Int)≤(aH (B+4096)))))))] (O) ?_ ?_
 refine dH ?_
 rcases bo (decide ((a.Ints.length:Int)≥B)) with D | D
 refine bS ?_
 refine lO (iX R D R) ?_
 refine aU ?_
 exact qj tI
 refine bS ?_
 refine lO (kc (decide ((a.Ints.length:Int)≤(aH (B+4096)))) R D) ?_
 refine aU ?_
 exact qj tI
 rintro σ1
 refine aP ?_
 cases m
 exact qF () (tE 5 [])
 refine od ?_
 cases m
 exact qF () (tE 5 [])
theorem Z0g_ok  {b:(List Int)}{m:Int}{r:Bool}(e:Z0g b m=some r) :
 FnOk Tryz.prog 52 [(.slice A2 N2 D2),(iv m)] [aO kT3 (.slice A2 N2 D2) b] (fun (h:Unit)=>((.bool r),[])):=by
 unfold Z0g at e
 refine aQ Tryz.func52 R 25 R R fun C V=>?_
 refine cL 0 aA ?_
 rintro rfl
 let u:=RR kT3 A2 D2 b::V
 refine cN u ?_
 refine bS ?_
 refine bB (A:=(Unit)×(Unit)) (fun a=>Z0g_J1=some r) (fun a=>[]) (fun a=>u) ?_ ?_
 refine bS ?_
 obtain ⟨G,B,q⟩:=bd e
 refine bC (A:=Unit) B (fun s a=>[(0,(sc A2 b D2)),(1,(iv m)),(5,(iv s))]) (fun s a=>u) () (aS R) tI ?_
 rintro g _ σ1 D e l
 dsimp only [Z0g_L1] at e
 refine cP ?_
 split at e
 refine bS ?_
 obtain ⟨i,e⟩:=gd e
 refine cQ [(0,(sc A2 b D2)),(1,(iv m)),(5,(iv g)),(24,(.bool ((decide ((ix b g)<0))||(decide ((ix b g)≥m)))))] (u) ?_ ?_
 refine aP ?_
 refine bD 0 aA (show 0<b.length by have:=i; omega) (fun F o14 E=>?_)
 subst E
 refine bG ?_
 rcases bo (decide ((ix b g)<0)) with j | j
 refine cV ?_
 exact qj tI
 refine cV ?_
 exact qj tI
 rintro σ1
 refine bR ?_
 split at e
 refine cP ?_
 cases e
 obtain rfl:=l _ R
 have e:=q
 refine aP ?_
 cases e
 exact qF () (tE 1 [])
 refine cP ?_
 cases e
 exact qA () tI
 refine aP ?_
 cases e
 obtain rfl:=l _ R
 have e:=q
 refine aU ?_
 exact cJ ((),()) e trivial tI
 rintro ⟨_,_⟩ σ1 e
 dsimp only [Z0g_J1] at e
 refine bS ?_
 cases e
 exact qF () (tE 1 [])
theorem Zs_ok  {b:(List Int)}{r:Int}(e:Zs b=some r) :
 FnOk Tryz.prog 95 [(.slice A2 N2 D2)] [aO kT3 (.slice A2 N2 D2) b] (fun (h:Unit)=>((iv r),[])):=by
 unfold Zs at e
 refine aQ Tryz.func95 R 32 R R fun C V=>?_
 refine cL 0 aA ?_
 rintro rfl
 let u:=RR kT3 A2 D2 b::V
 refine cN u ?_
 refine iu ?_
 refine bB (A:=(Int)×(Unit)) (fun a=>Zs_J1 a.1=some r) (fun a=>[(3,(iv a.1))]) (fun a=>u) ?_ ?_
 refine bS ?_
 obtain ⟨J,D,l⟩:=bd e
 refine bC (A:=Unit) D (fun s a=>[(0,(sc A2 b D2)),(3,(iv s.1)),(4,(iv s.2))]) (fun s a=>u) () (aS R) tI ?_
 rintro ⟨m,g⟩ _ σ1 E e j
 dsimp only [Zs_L1] at e
 refine cP ?_
 split at e
 refine dH ?_
 obtain ⟨i,e⟩:=gd e
 refine cQ [(0,(sc A2 b D2)),(3,(iv m)),(4,(iv g)),(22,(.bool ((decide ((ix b g)<1))||(decide ((ix b g)>4096)))))] (u) ?_ ?_
 refine aP ?_
 refine bD 0 aA (show 0<b.length by have:=i; omega) (fun I o17 B=>?_)
 subst B
 refine bG ?_
 rcases bo (decide ((ix b g)<1)) with q | q
 refine dH ?_
 exact qj tI
 refine dH ?_
 exact qj tI
 rintro σ1
 refine bR ?_
 split at e
 refine cT ?_
 cases e
 obtain rfl:=j _ R
 have e:=l
 refine aP ?_
 cases e
 exact qF () (tE 1 [])
 refine cV ?_
 refine bD 0 aA (show 0<b.length by have:=i; omega) (fun F o21 B=>?_)
 subst B
 refine iG ?_
 split at e
 refine cP ?_
 cases e
 obtain rfl:=j _ R
 have e:=l
 refine aP ?_
 cases e
 exact qF () (tE 1 [])
 refine cP ?_
 cases e
 exact qA () tI
 refine aP ?_
 cases e
 obtain rfl:=j _ R
 have e:=l
 refine aU ?_
 exact qI (m,()) e tI
 rintro ⟨G,_⟩ σ1 e
 dsimp only [Zs_J1] at e
 refine dH ?_
 cases e
 exact qF () (tE 1 [])
theorem Zm_ok  {a:(List Int)}{r:Bool}(e:Zm a=some r) :
 FnOk Tryz.prog 92 [(.slice A2 N2 D2)] [aO kT3 (.slice A2 N2 D2) a] (fun (h:Unit)=>((.bool r),[])):=by
 unfold Zm at e
 refine aQ Tryz.func92 R 11 R R fun C V=>?_
 refine cL 0 aA ?_
 rintro rfl
 let g:=RR kT3 A2 D2 a::V
 refine cN g ?_
 refine bS ?_
 obtain ⟨j,i,e⟩:=bd e
 refine cQ [(2,(.bool ((decide ((a.length:Int)≤6))&&(decide (j>0)))))] (g) ?_ ?_
 refine b' ?_
 rcases bo (decide ((a.length:Int)≤6)) with b | b
 refine bR ?_
 refine lM _ (fun w s=>(s.d 0 R)) ?_
 refine bW 1 R (eB b) nx R (Zs_ok (bJ i b)) R ?_
 rintro _
 refine lN g ?_
 refine bG ?_
 exact qj tI
 refine bS ?_
 exact qj tI
 rintro σ1
 refine aU ?_
 cases e
 exact qF () (tE 1 [])
theorem Zo_ok  {t1:Tensor}{r:Bool}(b:Zo t1=some r) :
 FnOk Tryz.prog 55 [(.agg [(.slice A2 N2 D2),(.slice A3 N3 D3)].toArray)] [aO kT3 (.slice A2 N2 D2) t1.Dims,aO kT3 (.slice A3 N3 D3) t1.Data] (fun (h:Unit)=>((.bool r),[])):=by
 unfold Zo at b
 refine aQ Tryz.func55 R 38 R R fun C V=>?_
 refine cL 0 aA ?_
 rintro rfl
 refine cL 1 aA ?_
 rintro rfl
 let G:=RR kT3 A2 D2 t1.Dims::RR kT3 A3 D3 t1.Data::V
 refine cN G ?_
 refine aU ?_
 refine eG R fun B=>?_
 refine aU ?_
 let g:=aJ B [(sc A2 t1.Dims D2),(sc A3 t1.Data D3)] 58::G
 refine qN g ?_
 refine aP ?_
 obtain ⟨F,l,b⟩:=bd b
 obtain ⟨M,D,b⟩:=bd b
 refine cQ [(1,(pt B 0)),(16,(.bool ((!F)||((t1.Data.length:Int) != M))))] (g) ?_ ?_
 rcases bo (!F) with i | i
 refine dC 13 [] bO fun T O=>?_
 refine gO 0 [] ?_
 refine d1 2 R (lM _ (fun w s=>(s.d 1 R)) ?_)
 refine lC 1 k9 R (Zm_ok l) R ?_
 rintro _
 refine lN g ?_
 refine aC (aG (sL []) ?_)
 refine qH 3 [] ?_
 refine dD ?_
 exact qj tI
 refine dC 13 [] bO fun T O=>?_
 refine gO 0 [] ?_
 refine d1 2 R (lM _ (fun w s=>(s.d 1 R)) ?_)
 refine lC 1 k9 R (Zm_ok l) R ?_
 rintro _
 refine lN g ?_
 refine aC (aG (sL []) ?_)
 refine s6 3 [] ?_
 refine d1 10 R (lM _ (fun w s=>(s.d 1 R)) ?_)
 refine bW 1 R (bY i) nx R (Zs_ok (bJ D (cO i))) R ?_
 rintro _
 refine lN g ?_
 refine aC (aG (sL []) ?_)
 refine gO 11 [] ?_
 refine dD ?_
 exact qj tI
 rintro σ1
 refine bR ?_
 split at b
 refine cV ?_
 cases b
 exact qF () (tE 3 [])
 refine bG ?_
 refine bB (A:=(Unit)×(Unit)) (fun a=>Zo_J1=some r) (fun a=>[]) (fun a=>g) ?_ ?_
 refine bS ?_
 obtain ⟨U,E,u⟩:=bd b
 refine bC (A:=Unit) E (fun s a=>[(1,(pt B 0)),(3,(iv s))]) (fun s a=>g) () (aS R) tI ?_
 rintro e _ σ1 I b q
 dsimp only [Zo_L1] at b
 refine cT ?_
 split at b
 refine bS ?_
 obtain ⟨m,b⟩:=gd b
 refine cQ [(1,(pt B 0)),(3,(iv e)),(37,(.bool ((decide ((ix t1.Data e)<0))||(decide ((ix t1.Data e)≥2147483647)))))] (g) ?_ ?_
 refine bG ?_
 refine bD 2 aA (show 0<t1.Data.length by have:=m; omega) (fun L o21 J=>?_)
 subst J
 refine bG ?_
 rcases bo (decide ((ix t1.Data e)<0)) with j | j
 refine cV ?_
 exact qj tI
 refine cV ?_
 exact qj tI
 rintro σ1
 refine bR ?_
 split at b
 refine cP ?_
 cases b
 obtain rfl:=q _ R
 have b:=u
 refine aP ?_
 cases b
 exact qF () (tE 3 [])
 refine cP ?_
 cases b
 exact qA () tI
 refine aP ?_
 cases b
 obtain rfl:=q _ R
 have b:=u
 refine aU ?_
 exact cJ ((),()) b trivial tI
 rintro ⟨_,_⟩ σ1 b
 dsimp only [Zo_J1] at b
 refine bS ?_
 cases b
 exact qF () (tE 3 [])
theorem Zq_ok  {a:(List Int)}{r:(List Int)}(b:Zq a=some r) :
 FnOk Tryz.prog 57 [(.slice A2 N2 D2)] [aO kT3 (.slice A2 N2 D2) a] (fun (h:HH)=>((s3 h),[ow kT3 3 (s3 h) r])):=by
 unfold Zq at b
 refine aQ Tryz.func57 R 6 R R fun C V=>?_
 refine cL 0 aA ?_
 rintro rfl
 let g:=RR kT3 A2 D2 a::V
 refine cN g ?_
 refine bS ?_
 obtain ⟨e,b⟩:=gd b
 refine aE (bK (K:=kT3) (xs:=([]:List Int)) (vs:=[]) 0 R R bL cE gZ R R R R R R ?_ R (fun A3 D3=>?_))
 exact fun I h s=>(gJ).list [] I h s
 refine lS R (lM _ (fun w s=>((s.dup 1 R).mv 1)) ?_)
 refine eF (K:=kT3) 17592186044416 R R bL cE kv (Zr.zk zT3 gZ) R R R R R R (rH (Kind.scal_flat _ _)) e (fun A5 D5=>(lN (OO kT3 3 A5 D5 (([]:List Int)++a)::g) ?_))
 refine bG ?_
 cases b
 exact qF (A5,(([]:List Int)++a).length,D5) (tE 2 [0])
theorem Zy_ok  {i:(List Int)}{g:(List Int)}{r:Bool}(b:Zy i g=some r) :
 FnOk Tryz.prog 56 [(.slice A2 N2 D2),(.slice A4 N4 D4)] [aO kT3 (.slice A2 N2 D2) i,aO kT3 (.slice A4 N4 D4) g] (fun (h:Unit)=>((.bool r),[])):=by
 unfold Zy at b
 refine aQ Tryz.func56 R 26 R R fun C V=>?_
 refine cL 0 aA ?_
 rintro rfl
 refine cL 1 aA ?_
 rintro rfl
 let u:=RR kT3 A2 D2 i::RR kT3 A4 D4 g::V
 refine cN u ?_
 refine nv ?_
 split at b
 refine cV ?_
 cases b
 exact qF () (tE 2 [])
 refine bG ?_
 refine bB (A:=(Unit)×(Unit)) (fun a=>Zy_J1=some r) (fun a=>[]) (fun a=>u) ?_ ?_
 refine bS ?_
 obtain ⟨L,B,j⟩:=bd b
 refine bC (A:=Unit) B (fun s a=>[(0,(sc A2 i D2)),(1,(sc A4 g D4)),(5,(iv s))]) (fun s a=>u) () (aS R) tI ?_
 rintro G _ σ1 D b e
 dsimp only [Zy_L1] at b
 refine cP ?_
 split at b
 refine bS ?_
 obtain ⟨l,b⟩:=gd b
 obtain ⟨m,b⟩:=gd b
 refine aZ 0 aA (show 0<i.length by have:=l; omega) (fun F o18 q=>?_)
 subst q
 refine aZ 1 aA (show 0<g.length by have:=m; omega) (fun E o21 q=>?_)
 subst q
 refine dC 9 [] bO fun J I=>?_
 refine vi 0 [] ?_
 refine dD (aI ?_)
 split at b
 refine cP ?_
 cases b
 obtain rfl:=e _ R
 have b:=j
 refine aP ?_
 cases b
 exact qF () (tE 2 [])
 refine cP ?_
 cases b
 exact qA () tI
 refine aP ?_
 cases b
 obtain rfl:=e _ R
 have b:=j
 refine aU ?_
 exact cJ ((),()) b trivial tI
 rintro ⟨_,_⟩ σ1 b
 dsimp only [Zy_J1] at b
 refine bS ?_
 cases b
 exact qF () (tE 2 [])
theorem Z29_ok  {a:(List Int)}{g:Int}{r:Int}(b:Z29 a g=some r) :
 FnOk Tryz.prog 138 [(.slice A2 N2 D2),(iv g)] [aO kT3 (.slice A2 N2 D2) a] (fun (h:Unit)=>((iv r),[])):=by
 unfold Z29 at b
 refine aQ Tryz.func138 R 17 R R fun C V=>?_
 refine cL 0 aA ?_
 rintro rfl
 let j:=RR kT3 A2 D2 a::V
 refine cN j ?_
 refine od ?_
 split at b
 refine cV ?_
 cases b
 exact qF () (tE 1 [])
 refine bG ?_
 obtain ⟨e,b⟩:=gd b
 refine dH ?_
 refine bD 0 aA (show 0<a.length by have:=e; omega) (fun l o7 i=>?_)
 subst i
 refine bS ?_
 cases b
 exact qF () (tE 1 [])
theorem Zx_ok  {E:(List Int)}{D:(List Int)}{r:(List Int)}(b:Zx E D=some r) :
 FnOk Tryz.prog 101 [(.slice A2 N2 D2),(.slice A4 N4 D4)] [aO kT3 (.slice A2 N2 D2) E,aO kT3 (.slice A4 N4 D4) D] (fun (h:HH)=>((s3 h),[ow kT3 3 (s3 h) r])):=by
 unfold Zx at b
 refine aQ Tryz.func101 R 68 R R fun C V=>?_
 refine cL 0 aA ?_
 rintro rfl
 refine cL 1 aA ?_
 rintro rfl
 let J:=RR kT3 A2 D2 E::RR kT3 A4 D4 D::V
 refine cN J ?_
 refine dH ?_
 obtain ⟨r5,a8,b⟩:=bd b
 obtain ⟨r7,aa,b⟩:=bd b
 refine cQ [(0,(sc A2 E D2)),(1,(sc A4 D D4)),(17,(.bool ((!r5)||(!r7))))] (J) ?_ ?_
 refine aU ?_
 refine lM _ (fun w s=>(s.d 0 R)) ?_
 refine lC 1 k9 R (Zm_ok a8) R ?_
 rintro _
 refine lN J ?_
 refine aU ?_
 rcases bo (!r5) with L | L
 refine b' ?_
 exact qj tI
 refine bR ?_
 refine lM _ (fun w s=>(s.d 1 R)) ?_
 refine bW 1 R (bY L) k9 R (Zm_ok (bJ aa (cO L))) R ?_
 rintro _
 refine lN J ?_
 refine aP ?_
 exact qj tI
 rintro σ1
 refine bR ?_
 split at b
 refine aP ?_
 refine bK (K:=kT3) (xs:=([]:List Int)) (vs:=[]) 0 R R bL cE gZ R R R R R R ?_ R (fun A11 D11=>?_)
 exact fun I h s=>(gJ).list [] I h s
 refine b' ?_
 cases b
 exact qF (A11,([]:List Int).length,D11) (tE 3 [0])
 refine iu ?_
 refine bB (A:=(Int)×(Unit)) (fun a=>Zx_J1 E D a.1=some r) (fun a=>[(0,(sc A2 E D2)),(1,(sc A4 D D4)),(5,(iv a.1))]) (fun a=>J) ?_ ?_
 refine cV ?_
 split at b
 refine bS ?_
 exact qI ((D.length:Int),()) b tI
 refine aU ?_
 exact qI ((E.length:Int),()) b tI
 rintro ⟨e,_⟩ σ1 b
 dsimp only [Zx_J1] at b
 refine bR ?_
 obtain ⟨u,b⟩:=gd b
 refine aU ?_
 refine fI (K:=kT3) (m:=e) (z:=(0:Int)) R R bL cE kv (Zr.zk zT3 gZ) (by decide) R R u.1 u.2.1 u.2.2 (fun i g=>(lS R (aC (aI (aN (bB (A:=((List Int))×(Unit)) (fun a=>Zx_J4 a.1=some r) (fun a=>[(6,(sc i (List.replicate e.toNat (0:Int)) g))]) (fun a=>ow kT3 3 (.slice i (List.replicate e.toNat (0:Int)).length g) a.1::J) ?_ ?_))))))
 refine bS ?_
 obtain ⟨e1,a7,O⟩:=bd b
 refine bC (A:=Unit) a7 (fun s a=>[(0,(sc A2 E D2)),(1,(sc A4 D D4)),(5,(iv e)),(6,(sc i (List.replicate e.toNat (0:Int)) g)),(7,(iv s.2))]) (fun s a=>ow kT3 3 (.slice i (List.replicate e.toNat (0:Int)).length g) s.1::J) () (aS R) tI ?_
 rintro ⟨F,G⟩ _ σ1 U b Z
 dsimp only [Zx_L1] at b
 refine cV ?_
 split at b
 refine bS ?_
 obtain ⟨j,M,b⟩:=bd b
 refine aP ?_
 refine lM _ (fun w s=>(s.d 1 R)) ?_
 refine lC 1 vj R (Z29_ok M) R ?_
 rintro _
 refine bG ?_
 obtain ⟨l,T,b⟩:=bd b
 refine aP ?_
 refine lM _ (fun w s=>(s.d 2 R)) ?_
 refine lC 1 vj R (Z29_ok T) R ?_
 rintro _
 refine b' ?_
 refine cQ [(0,(sc A2 E D2)),(1,(sc A4 D D4)),(5,(iv e)),(6,(sc i (List.replicate e.toNat (0:Int)) g)),(7,(iv G)),(8,(iv j)),(9,(iv l)),(50,(.bool (((j != l)&&(j != 1))&&(l != 1))))] (ow kT3 3 (.slice i (List.replicate e.toNat (0:Int)).length g) F::J) ?_ ?_
 refine b' ?_
 rcases bo (j != l) with a0 | a0
 refine bG ?_
 rcases bo ((j != l)&&(j != 1)) with a4 | a4
 refine bG ?_
 exact qj tI
 refine bG ?_
 exact qj tI
 refine cV ?_
 exact qj tI
 rintro σ1
 refine bR ?_
 split at b
 refine aP ?_
 refine bK (K:=kT3) (xs:=([]:List Int)) (vs:=[]) 0 R R bL cE gZ R R R R R R ?_ R (fun a5 a6=>?_)
 exact fun I h s=>(gJ).list [] I h s
 refine dH ?_
 cases b
 obtain rfl:=Z _ R
 have b:=O
 refine aP ?_
 cases b
 exact qF (a5,([]:List Int).length,a6) (tE 4 [0])
 refine bG ?_
 refine bB (A:=(Int)×(Unit)) (fun a=>Zx_J3 e F G a.1=some U) (fun a=>[(0,(sc A2 E D2)),(1,(sc A4 D D4)),(5,(iv e)),(6,(sc i (List.replicate e.toNat (0:Int)) g)),(7,(iv G)),(8,(iv a.1))]) (fun a=>ow kT3 3 (.slice i (List.replicate e.toNat (0:Int)).length g) F::J) ?_ ?_
 refine dH ?_
 split at b
 refine b' ?_
 exact qI (l,()) b tI
 refine aU ?_
 exact qI (j,()) b tI
 rintro ⟨a3,_⟩ σ1 b
 dsimp only [Zx_J3] at b
 obtain ⟨q,b⟩:=gd b
 refine dH ?_
 refine bD 0 aB (show 0<(List.replicate e.toNat (0:Int)).length by have:=q; omega) (fun ae o47 ha=>?_)
 subst ha
 refine bR ?_
 refine dX (K:=kT3) (x':=a3) 0 (aH ((aH (e - 1)) - G)) R R cE R R q.1 q.2 ?_ ?_
 exact fun I h s=>(gJ).put I h () a3 s
 refine cV ?_
 cases b
 exact qA () tI
 refine aP ?_
 cases b
 obtain rfl:=Z _ R
 have b:=O
 refine aU ?_
 exact qI (F,()) b tI
 rintro ⟨Y,_⟩ σ1 b
 dsimp only [Zx_J4] at b
 refine aU ?_
 obtain ⟨ac,a2,b⟩:=bd b
 refine aU ?_
 refine lC 1 k9 R (FnOk.lends (A':=[ow kT3 3 (.slice i (List.replicate e.toNat (0:Int)).length g) Y]) (A:=[aO kT3 (.slice i (List.replicate e.toNat (0:Int)).length g) Y]) (B:=[]) (Zm_ok a2) ⟨aY,trivial⟩ (fun _=>trivial)) R ?_
 rintro _
 refine aP ?_
 split at b
 refine aP ?_
 refine bK (K:=kT3) (xs:=([]:List Int)) (vs:=[]) 0 R R bL cE gZ R R R R R R ?_ R (fun ab a9=>?_)
 exact fun I h s=>(gJ).list [] I h s
 refine b' ?_
 cases b
 exact qF (ab,([]:List Int).length,a9) (tE 4 [0])
 refine cT ?_
 cases b
 exact qF (i,(List.replicate e.toNat (0:Int)).length,g) (tE 3 [0])
theorem Z0e_ok  {a:(List Int)}{r:Tensor}(b:Z0e a=some r) :
 FnOk Tryz.prog 93 [(.slice A2 N2 D2)] [aO kT3 (.slice A2 N2 D2) a] (fun (h:HH×HH)=>((.agg [(s3 h.1),(s3 h.2)].toArray),[ow kT3 3 (s3 h.1) r.Dims,ow kT3 3 (s3 h.2) r.Data])):=by
 unfold Z0e at b
 refine aQ Tryz.func93 R 9 R R fun C V=>?_
 refine cL 0 aA ?_
 rintro rfl
 let q:=RR kT3 A2 D2 a::V
 refine cN q ?_
 refine aU ?_
 refine bE R R dP (fun u=>(aC (aI (aN ?_))))
 obtain ⟨l,i,b⟩:=bd b
 obtain ⟨g,j,b⟩:=bd b
 obtain ⟨e,b⟩:=gd b
 refine aU ?_
 refine lM _ (fun w s=>(s.d 1 R)) ?_
 refine lC 1 jM R (Zq_ok i) R ?_
 rintro ⟨A6,N6,D6⟩
 refine aL 0 aB ?_
 rintro rfl
 refine lS R (lM _ (fun w s=>(s.d 2 R)) ?_)
 refine lC 1 nx R (Zs_ok j) R ?_
 rintro _
 refine fI (K:=kT3) (m:=g) (z:=(0:Int)) R R bL cE kv (Zr.zk zT3 gZ) (by decide) R R e.1 e.2.1 e.2.2 (fun A10 D10=>(lO (vz (.agg [(sc A6 l D6),(sc A10 (List.replicate g.toNat (0:Int)) D10)].toArray) (aV gK dP R R)) (aK 2 R R bQ R R R R R R (lN (OO kT3 3 A10 D10 (List.replicate g.toNat (0:Int))::_::aJ u [(sc A6 l D6),(sc A10 (List.replicate g.toNat (0:Int)) D10)] 58::q) ?_))))
 refine aP ?_
 cases b
 exact qS ((A6,l.length,D6),(A10,(List.replicate g.toNat (0:Int)).length,D10)) (tE 4 [1,0])
theorem Zh_ok  {b:(List Int)}{L:Int}{r:(List Int)}(e:Zh b L=some r) :
 FnOk Tryz.prog 102 [(.slice A2 N2 D2),(iv L)] [aO kT3 (.slice A2 N2 D2) b] (fun (h:HH)=>((s3 h),[ow kT3 3 (s3 h) r])):=by
 unfold Zh at e
 refine aQ Tryz.func102 R 33 R R fun C V=>?_
 refine cL 0 aA ?_
 rintro rfl
 let E:=RR kT3 A2 D2 b::V
 refine cN E ?_
 refine bS ?_
 obtain ⟨l,e⟩:=gd e
 refine aP ?_
 refine fI (K:=kT3) (m:=(b.length:Int)) (z:=(0:Int)) R R bL cE kv (Zr.zk zT3 gZ) (by decide) R R l.1 l.2.1 l.2.2 (fun A5 D5=>(lS R (aC (aI (aN (bB (A:=((List Int))×(Unit)) (fun a=>Zh_J1 a.1=some r) (fun a=>[(5,(sc A5 (List.replicate (b.length:Int).toNat (0:Int)) D5))]) (fun a=>ow kT3 3 (.slice A5 (List.replicate (b.length:Int).toNat (0:Int)).length D5) a.1::E) ?_ ?_))))))
 refine cP ?_
 obtain ⟨Y,J,G⟩:=bd e
 refine bC (A:=Unit) J (fun s a=>[(0,(sc A2 b D2)),(1,(iv s.1)),(5,(sc A5 (List.replicate (b.length:Int).toNat (0:Int)) D5)),(6,(iv s.2.2))]) (fun s a=>ow kT3 3 (.slice A5 (List.replicate (b.length:Int).toNat (0:Int)).length D5) s.2.1::E) () (aS R) tI ?_
 rintro ⟨q,B,i⟩ _ σ1 M e F
 dsimp only [Zh_L1] at e
 refine dH ?_
 split at e
 refine bS ?_
 obtain ⟨u,e⟩:=gd e
 obtain ⟨j,e⟩:=gd e
 obtain ⟨g,e⟩:=gd e
 refine bS ?_
 refine bD 1 aA (show 0<b.length by have:=u; omega) (fun U o22 D=>?_)
 subst D
 refine aU ?_
 refine lO (pO R R j) (bD 0 aB (show 0<(List.replicate (b.length:Int).toNat (0:Int)).length by have:=g; omega) (fun O o26 D=>?_))
 subst D
 refine bR ?_
 refine dX (K:=kT3) (x':=(q.tmod (ix b i))) 0 i R R cE R R g.1 g.2 ?_ ?_
 exact fun I h s=>(gJ).put I h () (q.tmod (ix b i)) s
 refine cV ?_
 refine lO (vz (iv (aH (q.tdiv (ix b i)))) (mi R R j)) ?_
 refine cP ?_
 cases e
 exact qA () tI
 refine aP ?_
 cases e
 obtain rfl:=F _ R
 have e:=G
 refine aU ?_
 exact qI (B,()) e tI
 rintro ⟨T,_⟩ σ1 e
 dsimp only [Zh_J1] at e
 refine dH ?_
 cases e
 exact qF (A5,(List.replicate (b.length:Int).toNat (0:Int)).length,D5) (tE 2 [0])
theorem Z0m_ok  {e:(List Int)}{b:(List Int)}{r:Int}(g:Z0m e b=some r) :
 FnOk Tryz.prog 114 [(.slice A2 N2 D2),(.slice A4 N4 D4)] [aO kT3 (.slice A2 N2 D2) e,aO kT3 (.slice A4 N4 D4) b] (fun (h:Unit)=>((iv r),[])):=by
 unfold Z0m at g
 refine aQ Tryz.func114 R 25 R R fun C V=>?_
 refine cL 0 aA ?_
 rintro rfl
 refine cL 1 aA ?_
 rintro rfl
 let q:=RR kT3 A2 D2 e::RR kT3 A4 D4 b::V
 refine cN q ?_
 refine iu ?_
 refine bB (A:=(Int)×(Unit)) (fun a=>Z0m_J1 a.1=some r) (fun a=>[(5,(iv a.1))]) (fun a=>q) ?_ ?_
 refine bS ?_
 obtain ⟨O,D,B⟩:=bd g
 refine bC (A:=Unit) D (fun s a=>[(0,(sc A2 e D2)),(1,(sc A4 b D4)),(5,(iv s.1)),(6,(iv s.2))]) (fun s a=>q) () (aS R) tI ?_
 rintro ⟨l,J⟩ _ σ1 E g u
 dsimp only [Z0m_L1] at g
 refine cP ?_
 split at g
 refine b' ?_
 obtain ⟨i,g⟩:=gd g
 obtain ⟨j,g⟩:=gd g
 refine aZ 0 aA (show 0<e.length by have:=i; omega) (fun I o17 m=>?_)
 subst m
 refine aZ 1 aA (show 0<b.length by have:=j; omega) (fun G o20 m=>?_)
 subst m
 refine dC 12 [] bO fun M L=>?_
 refine ub 0 [] ?_
 refine dD ?_
 refine dH ?_
 cases g
 exact qA () tI
 refine aP ?_
 cases g
 obtain rfl:=u _ R
 have g:=B
 refine aU ?_
 exact qI (l,()) g tI
 rintro ⟨F,_⟩ σ1 g
 dsimp only [Z0m_J1] at g
 refine dH ?_
 cases g
 exact qF () (tE 2 [])
theorem Z16_ok  {t1:Tensor}{a:(List Int)}{r:Int}(b:Z16 t1 a=some r) :
 FnOk Tryz.prog 112 [(.agg [(.slice A2 N2 D2),(.slice A3 N3 D3)].toArray),(.slice A5 N5 D5)] [aO kT3 (.slice A2 N2 D2) t1.Dims,aO kT3 (.slice A3 N3 D3) t1.Data,aO kT3 (.slice A5 N5 D5) a] (fun (h:Unit)=>((iv r),[])):=by
 unfold Z16 at b
 refine aQ Tryz.func112 R 13 R R fun C V=>?_
 refine cL 0 aA ?_
 rintro rfl
 refine cL 1 aA ?_
 rintro rfl
 refine cL 2 aA ?_
 rintro rfl
 let j:=RR kT3 A2 D2 t1.Dims::RR kT3 A3 D3 t1.Data::RR kT3 A5 D5 a::V
 refine cN j ?_
 refine aU ?_
 refine eG R fun m=>?_
 refine aU ?_
 let l:=aJ m [(sc A2 t1.Dims D2),(sc A3 t1.Data D3)] 58::j
 refine qN l ?_
 refine aU ?_
 obtain ⟨B,g,b⟩:=bd b
 obtain ⟨i,b⟩:=gd b
 refine aZ 2 aA (show 0<t1.Data.length by have:=i; omega) (fun u o11 q=>?_)
 subst q
 refine dC 9 [] bO fun E D=>?_
 refine kh 0 [] ?_
 refine d1 5 R (lM _ (fun w s=>(((s.d 1 R).d 4 R).e 2 [1,0])) ?_)
 refine lC 2 sn R (Z0m_ok g) R ?_
 rintro _
 refine lN l ?_
 refine aC (aG (sL []) ?_)
 refine hJ 6 [] ?_
 refine dD ?_
 refine aU ?_
 cases b
 exact qF () (tE 4 [])
theorem Z06_ok  {t1:Tensor}{b:(List Int)}{r:Int}(g:Z06 t1 b=some r) :
 FnOk Tryz.prog 104 [(.agg [(.slice A2 N2 D2),(.slice A3 N3 D3)].toArray),(.slice A5 N5 D5)] [aO kT3 (.slice A2 N2 D2) t1.Dims,aO kT3 (.slice A3 N3 D3) t1.Data,aO kT3 (.slice A5 N5 D5) b] (fun (h:Unit)=>((iv r),[])):=by
 unfold Z06 at g
 refine aQ Tryz.func104 R 42 R R fun C V=>?_
 refine cL 0 aA ?_
 rintro rfl
 refine cL 1 aA ?_
 rintro rfl
 refine cL 2 aA ?_
 rintro rfl
 let W0:=RR kT3 A2 D2 t1.Dims::RR kT3 A3 D3 t1.Data::RR kT3 A5 D5 b::V
 refine cN W0 ?_
 refine aU ?_
 refine eG R fun b6=>?_
 refine aU ?_
 let W1:=aJ b6 [(sc A2 t1.Dims D2),(sc A3 t1.Data D3)] 58::W0
 refine qN W1 ?_
 refine od ?_
 refine bK (K:=kT3) (xs:=([]:List Int)) (vs:=[]) 0 R R bL cE gZ R R R R R R ?_ R (fun A7 D7=>?_)
 exact fun I h s=>(gJ).list [] I h s
 refine bG ?_
 refine bB (A:=((List Int))×(HH)) (fun a=>Z06_J3 t1 a.1=some r) (fun a=>[(2,(pt b6 0)),(6,(s3 a.2))]) (fun a=>ow kT3 3 (s3 a.2) a.1::W1) ?_ ?_
 refine bS ?_
 obtain ⟨e1,a2,a1⟩:=bd g
 refine bC (A:=HH×HH) a2 (fun s a=>[(1,(s3 a.1)),(2,(pt b6 0)),(5,(iv (aH ((b.length:Int) - (t1.Dims.length:Int))))),(6,(s3 a.2)),(7,(iv s.2))]) (fun s a=>aO kT3 (s3 a.1) b::ow kT3 3 (s3 a.2) s.1::W1) ((A5,b.length,D5),(A7,([]:List Int).length,D7)) (aS R) (fun w s=>(s.d 4 R)) ?_
 rintro ⟨i,m⟩ ⟨⟨aa,a4,q⟩,⟨D,a0,F⟩⟩ σ1 O g a3
 dsimp only [Z06_L1] at g
 refine bI 0 aA (fun (Y:a4=b.length)=>?_)
 subst Y
 refine bI 1 aB (fun (Y:a0=i.length)=>?_)
 subst Y
 refine cT ?_
 split at g
 refine bS ?_
 obtain ⟨U,g⟩:=gd g
 refine b' ?_
 refine bD 0 aA (show 0<b.length by have:=U; omega) (fun u o27 ha=>?_)
 subst ha
 refine bS ?_
 refine bB (A:=(Int)×(Unit)) (fun a=>Z06_J2 i m a.1=some O) (fun a=>[(1,(sc (ad u o27) b q)),(2,(pt b6 0)),(5,(iv (aH ((b.length:Int) - (t1.Dims.length:Int))))),(6,(sc D i F)),(7,(iv m)),(8,(iv a.1))]) (fun a=>RR kT3 (ad u o27) q b::OO kT3 3 D F i::W1) ?_ ?_
 refine bR ?_
 obtain ⟨M,g⟩:=gd g
 refine bG ?_
 refine bD 3 aA (show 0<t1.Dims.length by have:=M; omega) (fun a9 o30 ha=>?_)
 subst ha
 refine b' ?_
 split at g
 refine bG ?_
 exact qI ((0:Int),()) g tI
 refine aU ?_
 exact qI ((ix b (aH ((aH ((b.length:Int) - (t1.Dims.length:Int)))+m))),()) g tI
 rintro ⟨j,_⟩ σ1 g
 dsimp only [Z06_J2] at g
 obtain ⟨L,g⟩:=gd g
 refine aP ?_
 refine bK (K:=kT3) (xs:=([j]:List Int)) (vs:=[(iv j)]) 0 R R bL cE gZ R R R R R R ?_ R (fun a6 a8=>?_)
 exact fun I h s=>(gJ).list [((),j)] I h s
 refine lM _ (tE 3 [2,0,1]) ?_
 refine eF (K:=kT3) 17592186044416 R R bL cE kv (Zr.zk zT3 gZ) R R R R R R dO L (fun J T=>(lN (OO kT3 3 J T (i++([j]:List Int))::_::W1) ?_))
 refine cP ?_
 cases g
 exact qA (((ad u o27),b.length,q),(J,(i++([j]:List Int)).length,T)) (tE 2 [1,0])
 refine aP ?_
 cases g
 obtain rfl:=a3 _ R
 have g:=a1
 refine aU ?_
 exact qI (i,(D,i.length,F)) g (tE 2 [1])
 rintro ⟨l,⟨G,a5,E⟩⟩ σ1 g
 dsimp only [Z06_J3] at g
 refine bI 0 aB (fun (Y:a5=l.length)=>?_)
 subst Y
 refine bR ?_
 obtain ⟨a7,Z,g⟩:=bd g
 refine aP ?_
 refine lM _ (fun w s=>(((s.d 2 R).d 4 R).e 3 [2,1,0])) ?_
 refine lC 3 n0 R (FnOk.lends (A':=[OO kT3 3 G E l]) (A:=[RR kT3 G E l]) (B:=[RR kT3 A2 D2 t1.Dims,RR kT3 A3 D3 t1.Data]) (FnOk.perm (Z16_ok Z) (Pre':=[RR kT3 G E l,RR kT3 A2 D2 t1.Dims,RR kT3 A3 D3 t1.Data]) (fun _ _ _ s=>(s.e 3 [1,2,0]))) ⟨aY,trivial⟩ (fun _=>trivial)) R ?_
 rintro _
 refine bG ?_
 cases g
 exact qF () (tE 5 [])
theorem Zn_ok  {p1:Int}{r:Int}(b:Zn p1=some r) :
 FnOk Tryz.prog 94 [(iv p1)] [] (fun (h:Unit)=>((iv r),[])):=by
 unfold Zn at b
 refine aQ Tryz.func94 R 11 R R fun C V=>?_
 refine cN V ?_
 refine cV ?_
 refine lO (pO R R (by decide)) ?_
 refine bG ?_
 refine bB (A:=(Int)×(Unit)) (fun a=>Zn_J1 a.1=some r) (fun a=>[(3,(iv a.1))]) (fun a=>V) ?_ ?_
 refine bS ?_
 split at b
 refine bS ?_
 exact qI ((aH ((p1.tmod (2147483647:Int))+2147483647)),()) b tI
 refine aU ?_
 exact qI ((p1.tmod (2147483647:Int)),()) b tI
 rintro ⟨e,_⟩ σ1 b
 dsimp only [Zn_J1] at b
 refine dH ?_
 cases b
 exact qF () tI
theorem Z1e_ok  {e:Int}{r:Int}(a:Z1e e=some r) :
 FnOk Tryz.prog 108 [(iv e)] [] (fun (h:Unit)=>((iv r),[])):=by
 unfold Z1e at a
 refine aQ Tryz.func108 R 11 R R fun C V=>?_
 refine cN V ?_
 refine bS ?_
 obtain ⟨g,b,a⟩:=bd a
 refine aU ?_
 refine lC 0 lD R (Zn_ok b) R ?_
 rintro _
 refine cT ?_
 split at a
 refine cT ?_
 cases a
 exact qF () tI
 refine cT ?_
 cases a
 exact qF () tI
theorem Z1m_ok  {j:Int}{i:Int}{r:Int}(a:Z1m j i=some r) :
 FnOk Tryz.prog 115 [(iv j),(iv i)] [] (fun (h:Unit)=>((iv r),[])):=by
 unfold Z1m at a
 refine aQ Tryz.func115 R 11 R R fun C V=>?_
 refine cN V ?_
 refine bS ?_
 obtain ⟨l,g,a⟩:=bd a
 obtain ⟨q,e,a⟩:=bd a
 obtain ⟨m,b,a⟩:=bd a
 refine aU ?_
 refine lC 0 lD R (Zn_ok g) R ?_
 rintro _
 refine lI R (lC 0 lD R (Zn_ok e) R ?_)
 rintro _
 refine bR ?_
 refine lC 0 lD R (Zn_ok b) R ?_
 rintro _
 refine bG ?_
 cases a
 exact qF () tI
theorem Z27_ok  {j:Int}{i:Int}{r:Int}(a:Z27 j i=some r) :
 FnOk Tryz.prog 139 [(iv j),(iv i)] [] (fun (h:Unit)=>((iv r),[])):=by
 unfold Z27 at a
 refine aQ Tryz.func139 R 11 R R fun C V=>?_
 refine cN V ?_
 refine bS ?_
 obtain ⟨l,g,a⟩:=bd a
 obtain ⟨q,e,a⟩:=bd a
 obtain ⟨m,b,a⟩:=bd a
 refine aU ?_
 refine lC 0 lD R (Zn_ok g) R ?_
 rintro _
 refine lI R (lC 0 lD R (Zn_ok e) R ?_)
 rintro _
 refine bR ?_
 refine lC 0 lD R (Zn_ok b) R ?_
 rintro _
 refine bG ?_
 cases a
 exact qF () tI
theorem Z1f_ok  {j:Int}{i:Int}{r:Int}(a:Z1f j i=some r) :
 FnOk Tryz.prog 111 [(iv j),(iv i)] [] (fun (h:Unit)=>((iv r),[])):=by
 unfold Z1f at a
 refine aQ Tryz.func111 R 11 R R fun C V=>?_
 refine cN V ?_
 refine bS ?_
 obtain ⟨l,g,a⟩:=bd a
 obtain ⟨q,e,a⟩:=bd a
 obtain ⟨m,b,a⟩:=bd a
 refine aU ?_
 refine lC 0 lD R (Zn_ok g) R ?_
 rintro _
 refine lI R (lC 0 lD R (Zn_ok e) R ?_)
 rintro _
 refine bR ?_
 refine lC 0 lD R (Zn_ok b) R ?_
 rintro _
 refine bG ?_
 cases a
 exact qF () tI
theorem Zp_S_ok {q:Int→Int→Option (Int)}(m:∀ {i:Int} {e:Int} {r:Int},q i e=some r→FnOk Tryz.prog 155 [(iv i),(iv e)] [] (fun (h:Unit)=>((iv r),[]))){i:Int}{e:Int}{r:Int}(b:Zp_S q i e=some r) :
 FnOk Tryz.prog 155 [(iv i),(iv e)] [] (fun (h:Unit)=>((iv r),[])):=by
 unfold Zp_S at b
 refine aQ Tryz.func155 R 22 R R fun C V=>?_
 refine cN V ?_
 refine iG ?_
 split at b
 refine cV ?_
 cases b
 exact qF () tI
 refine bG ?_
 obtain ⟨D,j,b⟩:=bd b
 refine aP ?_
 refine lO (vz (iv (aH (e.tdiv (2:Int)))) (mi R R (by decide))) (lC 0 vl R (m j) R ?_)
 rintro _
 refine bG ?_
 obtain ⟨u,l,b⟩:=bd b
 refine aP ?_
 refine lC 0 om R (Z1f_ok l) R ?_
 rintro _
 refine bG ?_
 refine bB (A:=(Int)×(Unit)) (fun a=>Zp_J1 a.1=some r) (fun a=>[(5,(iv a.1))]) (fun a=>V) ?_ ?_
 refine aP ?_
 refine lO (pO R R (by decide)) ?_
 refine aP ?_
 split at b
 refine bR ?_
 obtain ⟨s,g,b⟩:=bd b
 refine aP ?_
 refine lC 0 om R (Z1f_ok g) R ?_
 rintro _
 refine aU ?_
 exact qI (s,()) b tI
 refine aU ?_
 exact qI (u,()) b tI
 rintro ⟨B,_⟩ σ1 b
 dsimp only [Zp_J1] at b
 refine dH ?_
 cases b
 exact qF () tI
theorem Zp_R_ok (n:Nat):∀ {b:Int} {a:Int} {r:Int},Zp_R n b a=some r→FnOk Tryz.prog 155 [(iv b),(iv a)] [] (fun (h:Unit)=>((iv r),[])):=by
 induction n with
 | zero=>intros; rename_i h; cases h
 | succ n ih=>intros; rename_i h; exact Zp_S_ok ih h
theorem Zp_ok {b:Int}{a:Int}{r:Int}(e:Zp b a=some r):FnOk Tryz.prog 155 [(iv b),(iv a)] [] (fun (h:Unit)=>((iv r),[])):=Zp_R_ok ns e
theorem Z26_ok  {g:Int}{r:Int}(a:Z26 g=some r) :
 FnOk Tryz.prog 141 [(iv g)] [] (fun (h:Unit)=>((iv r),[])):=by
 unfold Z26 at a
 refine aQ Tryz.func141 R 6 R R fun C V=>?_
 refine cN V ?_
 refine bS ?_
 obtain ⟨j,e,a⟩:=bd a
 obtain ⟨i,b,a⟩:=bd a
 refine aU ?_
 refine lC 0 lD R (Zn_ok e) R ?_
 rintro _
 refine lC 0 vl R (Zp_ok b) R ?_
 rintro _
 refine bG ?_
 cases a
 exact qF () tI
theorem Z3p_ok  {i:Int}{g:Int}{r:Int}(a:Z3p i g=some r) :
 FnOk Tryz.prog 140 [(iv i),(iv g)] [] (fun (h:Unit)=>((iv r),[])):=by
 unfold Z3p at a
 refine aQ Tryz.func140 R 9 R R fun C V=>?_
 refine cN V ?_
 refine bS ?_
 obtain ⟨j,e,a⟩:=bd a
 obtain ⟨l,b,a⟩:=bd a
 refine aP ?_
 refine lC 0 vm R (Z26_ok e) R ?_
 rintro _
 refine lC 0 om R (Z1f_ok b) R ?_
 rintro _
 refine bG ?_
 cases a
 exact qF () tI
theorem Z1n_ok  {j:Int}{u:Int}{B:Int}{r:Int}(b:Z1n j u B=some r) :
 FnOk Tryz.prog 103 [(iv j),(iv u),(iv B)] [] (fun (h:Unit)=>((iv r),[])):=by
 unfold Z1n at b
 refine aQ Tryz.func103 R 54 R R fun C V=>?_
 refine cN V ?_
 refine bS ?_
 obtain ⟨G,q,b⟩:=bd b
 obtain ⟨I,s,b⟩:=bd b
 refine aU ?_
 refine lC 0 oj R (Z1e_ok q) R ?_
 rintro _
 refine lI R (lC 0 oj R (Z1e_ok s) R ?_)
 rintro _
 refine cT ?_
 refine bB (A:=(Bool)×(Unit)) (fun a=>Z1n_J1 a.1=some r) (fun a=>[(8,(.bool a.1))]) (fun a=>V) ?_ ?_
 refine iG ?_
 split at b
 refine aU ?_
 obtain ⟨J,i,b⟩:=bd b
 refine aP ?_
 refine lC 0 pU R (Z1m_ok i) R ?_
 rintro _
 refine bS ?_
 cases b
 exact qF () tI
 refine dH ?_
 split at b
 refine aU ?_
 obtain ⟨F,l,b⟩:=bd b
 refine aP ?_
 refine lC 0 vk R (Z27_ok l) R ?_
 rintro _
 refine bS ?_
 cases b
 exact qF () tI
 refine dH ?_
 split at b
 refine aU ?_
 obtain ⟨E,e,b⟩:=bd b
 refine aP ?_
 refine lC 0 om R (Z1f_ok e) R ?_
 rintro _
 refine bS ?_
 cases b
 exact qF () tI
 refine dH ?_
 split at b
 refine aU ?_
 obtain ⟨D,g,b⟩:=bd b
 refine aP ?_
 refine lC 0 yq R (Z3p_ok g) R ?_
 rintro _
 refine bS ?_
 cases b
 exact qF () tI
 refine dH ?_
 split at b
 refine dH ?_
 split at b
 refine iu ?_
 cases b
 exact qF () tI
 refine iG ?_
 cases b
 exact qF () tI
 refine dH ?_
 split at b
 refine dH ?_
 split at b
 refine iu ?_
 cases b
 exact qF () tI
 refine iG ?_
 cases b
 exact qF () tI
 refine dH ?_
 split at b
 refine bS ?_
 exact qI ((decide (G<I)),()) b tI
 refine dH ?_
 split at b
 refine cV ?_
 exact qI ((u==B),()) b tI
 refine aP ?_
 exact qI (false,()) b tI
 rintro ⟨m,_⟩ σ1 b
 dsimp only [Z1n_J1] at b
 refine bS ?_
 split at b
 refine cV ?_
 cases b
 exact qF () tI
 refine cP ?_
 cases b
 exact qF () tI
theorem Z13_ok  {F:Int}{O:Tensor}{U:Tensor}{r:Tensor}(g:Z13 F O U=some r) :
 FnOk Tryz.prog 78 [(iv F),(.agg [(.slice A3 N3 D3),(.slice A4 N4 D4)].toArray),(.agg [(.slice A6 N6 D6),(.slice A7 N7 D7)].toArray)] [aO kT3 (.slice A3 N3 D3) O.Dims,aO kT3 (.slice A4 N4 D4) O.Data,aO kT3 (.slice A6 N6 D6) U.Dims,aO kT3 (.slice A7 N7 D7) U.Data] (fun (h:HH×HH)=>((.agg [(s3 h.1),(s3 h.2)].toArray),[ow kT3 3 (s3 h.1) r.Dims,ow kT3 3 (s3 h.2) r.Data])):=by
 unfold Z13 at g
 refine aQ Tryz.func78 R 73 R R fun C V=>?_
 refine cL 0 aA ?_
 rintro rfl
 refine cL 1 aA ?_
 rintro rfl
 refine cL 2 aA ?_
 rintro rfl
 refine cL 3 aA ?_
 rintro rfl
 let W0:=RR kT3 A3 D3 O.Dims::RR kT3 A4 D4 O.Data::RR kT3 A6 D6 U.Dims::RR kT3 A7 D7 U.Data::V
 refine cN W0 ?_
 refine aU ?_
 refine eG R fun b8=>?_
 refine eG R fun b9=>?_
 refine bE R R dP (fun m=>(aC ?_))
 let W1:=aJ b9 [(sc A6 U.Dims D6),(sc A7 U.Data D7)] 58::aJ b8 [(sc A3 O.Dims D3),(sc A4 O.Data D4)] 58::W0
 refine aP ?_
 obtain ⟨Z,a5,g⟩:=bd g
 obtain ⟨a0,ab,g⟩:=bd g
 refine cQ [(0,(iv F)),(4,(pt b8 0)),(5,(pt b9 0)),(6,(pt m 0)),(26,(.bool ((((!Z)||(!a0))||(decide (F<1)))||(decide (F>8)))))] (aJ m [(.slice none 0 0),(.slice none 0 0)] 58::W1) ?_ ?_
 refine aU ?_
 refine lM _ (fun w s=>(((s.d 3 R).d 5 R).e 3 [1,0,2])) ?_
 refine lC 2 ny R (Zo_ok a5) R ?_
 rintro _
 refine aU ?_
 rcases bo (!Z) with Y | Y
 refine mq ?_
 exact qj tI
 refine bR ?_
 refine lM _ (fun w s=>(((s.d 5 R).d 7 R).e 3 [1,0,2])) ?_
 refine bW 2 R (bY Y) ny R (Zo_ok (bJ ab (cO Y))) R ?_
 rintro _
 refine aP ?_
 rcases bo ((!Z)||(!a0)) with a4 | a4
 refine cV ?_
 exact qj tI
 refine bG ?_
 rcases bo (((!Z)||(!a0))||(decide (F<1))) with a3 | a3
 refine bG ?_
 exact qj tI
 refine bG ?_
 exact qj tI
 rintro σ1
 refine bR ?_
 split at g
 refine aP ?_
 refine lO (vz (.agg [(.slice none 0 0),(.slice none 0 0)].toArray) (aV gK dP R R)) (aK 0 R R bQ R R R R R R (aC (aI (bV (cD ?_)))))
 cases g
 exact qS ((none,0,0),(none,0,0)) (fun w s=>(((s.nilo kT3 3).nilo kT3 3).e 9 [1,0]))
 refine bG ?_
 obtain ⟨i,ac,g⟩:=bd g
 refine b' ?_
 refine lM _ (fun w s=>(((s.d 3 R).d 6 R).e 3 [1,0,2])) ?_
 refine lC 2 yp R (Zx_ok ac) R ?_
 rintro ⟨u,ap,D⟩
 refine aL 0 aB ?_
 rintro rfl
 refine b' ?_
 refine cQ [(0,(iv F)),(4,(pt b8 0)),(5,(pt b9 0)),(6,(pt m 0)),(7,(sc u i D)),(46,(.bool ((decide ((i.length:Int)<(O.Dims.length:Int)))||(decide ((i.length:Int)<(U.Dims.length:Int))))))] (aJ m [(.slice none 0 0),(.slice none 0 0)] 58::OO kT3 3 u D i::W1) ?_ ?_
 refine cV ?_
 rcases bo (decide ((i.length:Int)<(O.Dims.length:Int))) with a1 | a1
 refine cV ?_
 exact qj (tE 2 [1,0])
 refine cV ?_
 exact qj (tE 2 [1,0])
 rintro σ1
 refine bR ?_
 split at g
 refine aP ?_
 refine lO (vz (.agg [(.slice none 0 0),(.slice none 0 0)].toArray) (aV gK dP R R)) (aK 0 R R bQ R R R R R R (aC (aI (bV (cD ?_)))))
 cases g
 exact qS ((none,0,0),(none,0,0)) (fun w s=>(((s.nilo kT3 3).nilo kT3 3).e 10 [1,0]))
 refine bG ?_
 obtain ⟨b,aa,g⟩:=bd g
 refine aU ?_
 refine lM _ (tE 2 [1,0]) ?_
 refine lC 1 nz R (FnOk.lends (A':=[OO kT3 3 u D i]) (A:=[RR kT3 u D i]) (B:=[]) (Z0e_ok aa) ⟨aY,trivial⟩ (fun _=>⟨(bH j0),(bH j0),trivial⟩)) R ?_
 rintro ⟨⟨q,av,E⟩,⟨j,au,l⟩⟩
 refine aL 1 aB ?_
 rintro rfl
 refine aL 2 aB ?_
 rintro rfl
 refine bE R R dP (fun T=>(aK 0 R R bQ R R R R R R (lN (aJ T [(sc q b.Dims E),(sc j b.Data l)] 58::_::_::_::_::W1) ?_)))
 refine aP ?_
 refine bB (A:=((List Int))×(Unit)) (fun a=>Z13_J1 b a.1=some r) (fun a=>[(6,(pt m 0)),(8,(pt T 0))]) (fun a=>aJ m [(.slice none 0 0),(.slice none 0 0)] 58::aJ T [(sc q b.Dims E),(sc j b.Data l)] 58::OO kT3 3 q E b.Dims::ow kT3 3 (.slice j b.Data.length l) a.1::W1) ?_ ?_
 refine bS ?_
 obtain ⟨e1,ai,ah⟩:=bd g
 refine bC (A:=Unit) ai (fun s a=>[(0,(iv F)),(4,(pt b8 0)),(5,(pt b9 0)),(6,(pt m 0)),(7,(sc u i D)),(8,(pt T 0)),(9,(iv s.2))]) (fun s a=>aJ m [(.slice none 0 0),(.slice none 0 0)] 58::OO kT3 3 u D i::aJ T [(sc q b.Dims E),(sc j b.Data l)] 58::OO kT3 3 q E b.Dims::ow kT3 3 (.slice j b.Data.length l) s.1::W1) () (aS R) (tE 5 [4,1,0,2,3]) ?_
 rintro ⟨al,ag⟩ _ σ1 am g aj
 dsimp only [Z13_L1] at g
 refine cT ?_
 split at g
 refine bS ?_
 obtain ⟨L,a7,g⟩:=bd g
 refine aP ?_
 refine lM _ (tE 5 [1,0,2,3,4]) ?_
 refine lC 1 lr R (FnOk.lends (A':=[OO kT3 3 u D i]) (A:=[RR kT3 u D i]) (B:=[]) (Zh_ok a7) ⟨aY,trivial⟩ (fun _=>⟨(bH j0),trivial⟩)) R ?_
 rintro ⟨J,ao,M⟩
 refine aL 1 aB ?_
 rintro rfl
 refine aP ?_
 obtain ⟨ar,a8,g⟩:=bd g
 obtain ⟨an,ae,g⟩:=bd g
 obtain ⟨a6,a9,g⟩:=bd g
 obtain ⟨G,g⟩:=gd g
 refine aZ 5 aB (show 0<b.Data.length by have:=G; omega) (fun aq o56 ha=>?_)
 subst ha
 refine dC 13 [5] bO fun ht hn=>?_
 refine r' 0 [5] ?_
 refine gO 7 [5] ?_
 refine d1 6 R (lM _ (fun w s=>(((s.d 8 R).d 10 R).e 8 [3,1,0,2,4,5,6,7])) ?_)
 refine lC 3 vn R (FnOk.lends (A':=[OO kT3 3 J M L]) (A:=[RR kT3 J M L]) (B:=[RR kT3 A3 D3 O.Dims,RR kT3 A4 D4 O.Data]) (FnOk.perm (Z06_ok a8) (Pre':=[RR kT3 J M L,RR kT3 A3 D3 O.Dims,RR kT3 A4 D4 O.Data]) (fun _ _ _ s=>(s.e 3 [1,2,0]))) ⟨aY,trivial⟩ (fun _=>trivial)) R ?_
 rintro _
 refine aC (aG (tE 6 [1,0,2,3,4]) (d1 9 R (lM _ (fun w s=>(((s.d 10 R).d 12 R).e 8 [2,1,0,3,4,5,6,7])) ?_)))
 refine lC 3 vn R (FnOk.lends (A':=[OO kT3 3 J M L]) (A:=[RR kT3 J M L]) (B:=[RR kT3 A6 D6 U.Dims,RR kT3 A7 D7 U.Data]) (FnOk.perm (Z06_ok ae) (Pre':=[RR kT3 J M L,RR kT3 A6 D6 U.Dims,RR kT3 A7 D7 U.Data]) (fun _ _ _ s=>(s.e 3 [1,2,0]))) ⟨aY,trivial⟩ (fun _=>trivial)) R ?_
 rintro _
 refine aC (aG (tE 6 [1,0,2,3,4]) (d1 10 R (lC 0 yr R (Z1n_ok a9) R ?_)))
 rintro _
 refine aC (aG (tE 6 [1,0,2,3,4]) (dR 11 R (eN bL cE R R G) (hS:=(tE 6 [1,0,2,3,4])) (d1 12 R (lM _ (fun w s=>(s.f 6 [5,1,0,5])) ?_))))
 refine dX (K:=kT3) (x':=a6) 0 ag R R cE R R G.1 G.2 ?_ ?_
 exact fun I h s=>(gJ).put I h () a6 s
 refine aC (aG (tE 6 [2,1,3,4,5]) (dD ?_))
 refine dH ?_
 cases g
 exact qA () (tE 6 [3,2,4,5,0])
 refine aP ?_
 cases g
 obtain rfl:=aj _ R
 have g:=ah
 refine aU ?_
 exact qI (al,()) g (tE 5 [0,2,3,4])
 rintro ⟨ak,_⟩ σ1 g
 dsimp only [Z13_J1] at g
 refine aP ?_
 refine aK 0 R R bQ R R R R R R (lN (aJ m [(sc q b.Dims E),(sc j b.Data l)] 58::aJ T [(sc q b.Dims E),(sc j b.Data l)] 58::_::ow kT3 3 (.slice j b.Data.length l) ak::W1) ?_)
 refine aP ?_
 cases g
 exact qS ((q,b.Dims.length,E),(j,b.Data.length,l)) (tE 10 [2,3])
theorem Z2x_ok  {e:Int}{j:Int}{r:Int}(a:Z2x e j=some r) :
 FnOk Tryz.prog 105 [(iv e),(iv j)] [] (fun (h:Unit)=>((iv r),[])):=by
 unfold Z2x at a
 refine aQ Tryz.func105 R 20 R R fun C V=>?_
 refine cN V ?_
 refine yd ?_
 split at a
 refine aU ?_
 obtain ⟨m,i,a⟩:=bd a
 refine aU ?_
 refine lC 0 vk R (Z27_ok i) R ?_
 rintro _
 refine bS ?_
 cases a
 exact qF () tI
 refine dH ?_
 split at a
 refine aU ?_
 obtain ⟨l,g,a⟩:=bd a
 refine aU ?_
 refine lC 0 vm R (Z26_ok g) R ?_
 rintro _
 refine bS ?_
 cases a
 exact qF () tI
 refine bS ?_
 obtain ⟨q,b,a⟩:=bd a
 refine aU ?_
 refine lC 0 oj R (Z1e_ok b) R ?_
 rintro _
 refine aP ?_
 split at a
 refine cV ?_
 cases a
 exact qF () tI
 refine cT ?_
 split at a
 refine cV ?_
 cases a
 exact qF () tI
 refine cT ?_
 cases a
 exact qF () tI
theorem Z12_ok  {l:Int}{u:Tensor}{r:Tensor}(g:Z12 l u=some r) :
 FnOk Tryz.prog 79 [(iv l),(.agg [(.slice A3 N3 D3),(.slice A4 N4 D4)].toArray)] [aO kT3 (.slice A3 N3 D3) u.Dims,aO kT3 (.slice A4 N4 D4) u.Data] (fun (h:HH×HH)=>((.agg [(s3 h.1),(s3 h.2)].toArray),[ow kT3 3 (s3 h.1) r.Dims,ow kT3 3 (s3 h.2) r.Data])):=by
 unfold Z12 at g
 refine aQ Tryz.func79 R 41 R R fun C V=>?_
 refine cL 0 aA ?_
 rintro rfl
 refine cL 1 aA ?_
 rintro rfl
 let W0:=RR kT3 A3 D3 u.Dims::RR kT3 A4 D4 u.Data::V
 refine cN W0 ?_
 refine aU ?_
 refine eG R fun U=>?_
 refine bE R R dP (fun B=>(aC ?_))
 let J:=aJ U [(sc A3 u.Dims D3),(sc A4 u.Data D4)] 58::W0
 refine aP ?_
 obtain ⟨r7,a1,g⟩:=bd g
 refine cQ [(0,(iv l)),(3,(pt U 0)),(4,(pt B 0)),(17,(.bool (((!r7)||(decide (l<1)))||(decide (l>4)))))] (aJ B [(.slice none 0 0),(.slice none 0 0)] 58::J) ?_ ?_
 refine aU ?_
 refine lM _ (fun w s=>(((s.d 2 R).d 4 R).e 3 [1,0,2])) ?_
 refine lC 2 ny R (Zo_ok a1) R ?_
 rintro _
 refine aU ?_
 rcases bo (!r7) with a2 | a2
 refine cV ?_
 exact qj tI
 refine bG ?_
 rcases bo ((!r7)||(decide (l<1))) with G | G
 refine bG ?_
 exact qj tI
 refine bG ?_
 exact qj tI
 rintro σ1
 refine bR ?_
 split at g
 refine aP ?_
 refine lO (vz (.agg [(.slice none 0 0),(.slice none 0 0)].toArray) (aV gK dP R R)) (aK 0 R R bQ R R R R R R (aC (aI (bV (cD ?_)))))
 cases g
 exact qS ((none,0,0),(none,0,0)) (fun w s=>(((s.nilo kT3 3).nilo kT3 3).e 6 [1,0]))
 refine bG ?_
 obtain ⟨b,L,g⟩:=bd g
 refine aP ?_
 refine lM _ (fun w s=>(s.d 2 R)) ?_
 refine lC 1 nz R (Z0e_ok L) R ?_
 rintro ⟨⟨A14,N14,D14⟩,⟨j,a5,i⟩⟩
 refine aL 0 aB ?_
 rintro rfl
 refine aL 1 aB ?_
 rintro rfl
 refine bE R R dP (fun m=>(aK 0 R R bQ R R R R R R (lN (aJ m [(sc A14 b.Dims D14),(sc j b.Data i)] 58::_::_::_::J) ?_)))
 refine aP ?_
 refine bB (A:=((List Int))×(Unit)) (fun a=>Z12_J1 b a.1=some r) (fun a=>[(4,(pt B 0)),(5,(pt m 0))]) (fun a=>aJ B [(.slice none 0 0),(.slice none 0 0)] 58::aJ m [(sc A14 b.Dims D14),(sc j b.Data i)] 58::OO kT3 3 A14 D14 b.Dims::ow kT3 3 (.slice j b.Data.length i) a.1::J) ?_ ?_
 refine bS ?_
 obtain ⟨e1,Y,T⟩:=bd g
 refine bC (A:=Unit) Y (fun s a=>[(0,(iv l)),(3,(pt U 0)),(4,(pt B 0)),(5,(pt m 0)),(6,(iv s.2))]) (fun s a=>aJ B [(.slice none 0 0),(.slice none 0 0)] 58::aJ m [(sc A14 b.Dims D14),(sc j b.Data i)] 58::OO kT3 3 A14 D14 b.Dims::ow kT3 3 (.slice j b.Data.length i) s.1::J) () (aS R) (tE 4 [3,0,1,2]) ?_
 rintro ⟨O,M⟩ _ σ1 a3 g a0
 dsimp only [Z12_L1] at g
 refine cT ?_
 split at g
 refine b' ?_
 obtain ⟨D,g⟩:=gd g
 obtain ⟨E,F,g⟩:=bd g
 obtain ⟨q,g⟩:=gd g
 refine aZ 6 aA (show 0<u.Data.length by have:=D; omega) (fun a4 o31 ha=>?_)
 subst ha
 refine aZ 3 aB (show 0<b.Data.length by have:=q; omega) (fun a6 o36 ha=>?_)
 subst ha
 refine dC 12 [3] bO fun ht hn=>?_
 refine vi 0 [3] ?_
 refine d1 9 R (lC 0 yt R (Z2x_ok F) R ?_)
 rintro _
 refine aC (aG (sL [3]) ?_)
 refine oe 10 [3] ?_
 refine d1 11 R (lM _ (tE 4 [3,0,1,2]) ?_)
 refine dX (K:=kT3) (x':=E) 0 M R R cE R R q.1 q.2 ?_ ?_
 exact fun I h s=>(gJ).put I h () E s
 refine aC (aG (sL [0]) (dD ?_))
 refine dH ?_
 cases g
 exact qA () (tE 4 [1,2,3,0])
 refine aP ?_
 cases g
 obtain rfl:=a0 _ R
 have g:=T
 refine aU ?_
 exact qI (O,()) g tI
 rintro ⟨Z,_⟩ σ1 g
 dsimp only [Z12_J1] at g
 refine aP ?_
 refine aK 0 R R bQ R R R R R R (lN (aJ B [(sc A14 b.Dims D14),(sc j b.Data i)] 58::aJ m [(sc A14 b.Dims D14),(sc j b.Data i)] 58::_::ow kT3 3 (.slice j b.Data.length i) Z::J) ?_)
 refine aP ?_
 cases g
 exact qS ((A14,b.Dims.length,D14),(j,b.Data.length,i)) (tE 7 [2,3])
theorem Z1g_ok  {t1:Tensor}{a:Int}{r:Bool}(b:Z1g t1 a=some r) :
 FnOk Tryz.prog 106 [(.agg [(.slice A2 N2 D2),(.slice A3 N3 D3)].toArray),(iv a)] [aO kT3 (.slice A2 N2 D2) t1.Dims,aO kT3 (.slice A3 N3 D3) t1.Data] (fun (h:Unit)=>((.bool r),[])):=by
 unfold Z1g at b
 refine aQ Tryz.func106 R 18 R R fun C V=>?_
 refine cL 0 aA ?_
 rintro rfl
 refine cL 1 aA ?_
 rintro rfl
 let q:=RR kT3 A2 D2 t1.Dims::RR kT3 A3 D3 t1.Data::V
 refine cN q ?_
 refine aU ?_
 refine eG R fun u=>?_
 refine aU ?_
 let j:=aJ u [(sc A2 t1.Dims D2),(sc A3 t1.Data D3)] 58::q
 refine qN j ?_
 refine aU ?_
 obtain ⟨l,m,b⟩:=bd b
 refine cQ [(4,(.bool ((l&&(decide (a≥0)))&&(decide (a<(t1.Dims.length:Int))))))] (j) ?_ ?_
 refine aU ?_
 refine lM _ (fun w s=>(((s.d 1 R).d 3 R).e 2 [1,0])) ?_
 refine lC 2 ny R (Zo_ok m) R ?_
 rintro _
 refine lN j ?_
 refine bR ?_
 rcases bo l with g | g
 refine bG ?_
 rcases bo (l&&(decide (a≥0))) with i | i
 refine cV ?_
 exact qj tI
 refine cV ?_
 exact qj tI
 refine iG ?_
 exact qj tI
 rintro σ1
 refine aU ?_
 cases b
 exact qF () (tE 3 [])
theorem Z0f_ok  {j:(List Int)}{i:Int}{e:Int}{r:(List Int)}(b:Z0f j i e=some r) :
 FnOk Tryz.prog 122 [(.slice A2 N2 D2),(iv i),(iv e)] [aO kT3 (.slice A2 N2 D2) j] (fun (h:HH)=>((s3 h),[ow kT3 3 (s3 h) r])):=by
 unfold Z0f at b
 refine aQ Tryz.func122 R 15 R R fun C V=>?_
 refine cL 0 aA ?_
 rintro rfl
 let q:=RR kT3 A2 D2 j::V
 refine cN q ?_
 refine bS ?_
 obtain ⟨l,g,b⟩:=bd b
 refine aU ?_
 refine lM _ (fun w s=>(s.d 0 R)) ?_
 refine lC 1 jM R (Zq_ok g) R ?_
 rintro ⟨A7,N7,D7⟩
 refine aL 0 aB ?_
 rintro rfl
 refine bG ?_
 obtain ⟨a,b⟩:=gd b
 refine bG ?_
 refine bD 0 aB (show 0<l.length by have:=a; omega) (fun u o10 m=>?_)
 subst m
 refine bR ?_
 refine dX (K:=kT3) (x':=e) 0 i R R cE R R a.1 a.2 ?_ ?_
 exact fun I h s=>(gJ).put I h () e s
 refine cP ?_
 cases b
 exact qF ((ad u o10),l.length,D7) (tE 2 [0])
theorem Z0x_ok  {t1:Tensor}{g:Int}{J:(List Int)}{r:(List Int)}(b:Z0x t1 g J=some r) :
 FnOk Tryz.prog 107 [(.agg [(.slice A2 N2 D2),(.slice A3 N3 D3)].toArray),(iv g),(.slice A6 N6 D6)] [aO kT3 (.slice A2 N2 D2) t1.Dims,aO kT3 (.slice A3 N3 D3) t1.Data,aO kT3 (.slice A6 N6 D6) J] (fun (h:HH)=>((.slice h.1 h.2.1 h.2.2),[ow kT3 3 (.slice h.1 h.2.1 h.2.2) r])):=by
 unfold Z0x at b
 refine aQ Tryz.func107 R 29 R R fun C V=>?_
 refine cN (_::_::_::V) ?_
 refine cL 0 aA ?_
 rintro rfl
 refine cL 1 aA ?_
 rintro rfl
 refine cL 2 aA ?_
 rintro rfl
 let W0:List HP:=RR kT3 A2 D2 t1.Dims::RR kT3 A3 D3 t1.Data::RR kT3 A6 D6 J::V
 refine cN W0 ?_
 refine aN (aE (eG R (fun b7=>(lS R (aC ?_)))))
 let m:List HP:=aJ b7 [(sc A2 t1.Dims D2),(sc A3 t1.Data D3)] 58::W0
 refine qN m ?_
 refine aI (aN (aE (bK (K:=kT3) (xs:=([]:List Int)) (vs:=[]) 0 R R bL cE gZ R R R R R R ?_ R (fun A8 D8=>?_))))
 exact fun I h s=>(gJ).list [] I h s
 refine lN (OO kT3 3 A8 D8 ([]:List Int)::m) ?_
 refine lS R (aC (aI (aN (bB (A:=((List Int))×(HH)) (fun a=>Z0x_J1 a.1=some r) (fun a=>[(7,(.slice a.2.1 a.2.2.1 a.2.2.2))]) (fun a=>ow kT3 3 (.slice a.2.1 a.2.2.1 a.2.2.2) a.1::m) ?_ ?_))))
 refine aN (aE (lI R (aC (aI (dS ?_)))))
 obtain ⟨e1,a5,a3⟩:=bd b
 refine bC (A:=HH) a5 (fun s a=>[(1,(iv g)),(2,(sc A6 J D6)),(3,(pt b7 0)),(7,(.slice a.1 a.2.1 a.2.2)),(8,(iv s.2))]) (fun s a=>ow kT3 3 (.slice a.1 a.2.1 a.2.2) s.1::m) (A8,([]:List Int).length,D8) (aS R) (fun w s=>s) ?_
 rintro ⟨i,a7⟩ ⟨T,a2,U⟩ σ1 Y b aa
 replace b:Z0x_L1 t1 g J i a7=some Y:=b
 unfold Z0x_L1 at b
 refine bI 0 aB (fun (hn:a2=i.length)=>?_)
 subst hn
 refine aN (aN ?_)
 obtain ⟨q,b⟩:=gd b
 refine aE (lI R (lO (fZ 0 iH R) (lO (gI 1 cH R R R) (lI R (bD 2 aA (show 0<t1.Dims.length by have:=q; omega) (fun u o26 ha=>?_))))))
 subst ha
 refine lO (eN bL cE R R q) (lO (gY 2 fS aA R q) (lO (nS R R) (aC (aI ?_))))
 rcases cK b with ⟨l,b⟩|⟨l,b⟩
 refine cC R l (dI (aI (aN (dS ?_))))
 obtain ⟨E,O,b⟩:=bd b
 obtain ⟨j,a0,b⟩:=bd b
 obtain ⟨M,b⟩:=gd b
 refine dC 10 [0] bO (fun ht hn=>(dR 0 R (vS R) (hS:=(sL [0])) (dR 1 R (vz (.agg [(sc (ad u o26) t1.Dims D2),(sc A3 t1.Data D3)].toArray) (dT 0 fF bQ R R R R)) (hS:=(sL [0])) (dR 2 R (vS R) (hS:=(sL [0])) (dR 3 R (vI R) (hS:=(sL [0])) (dR 4 R (vI R) (hS:=(sL [0])) (d1 5 R (lM (RR kT3 A6 D6 J::OO kT3 3 T U i::m) (fun w s=>(s.d 4 R)) ?_))))))))
 refine lC 1 kG R (Z0f_ok O) R ?_
 rintro ⟨D,a6,F⟩
 refine lN (ow kT3 3 (.slice D a6 F) E::_::m) ?_
 refine aL 0 aB ?_
 rintro rfl
 refine aC (aG (sL [1,0]) (d1 6 R (lM (ow _ _ _ _::RR kT3 (ad u o26) D2 t1.Dims::RR kT3 A3 D3 t1.Data::ow _ _ _ _::m) (fun w s=>(((s.d 3 R).d 5 R).e 4 [2,1,0,3])) ?_)))
 refine lC 3 n0 R (FnOk.lends (A':=[OO kT3 3 D F E]) (A:=[RR kT3 D F E]) (B:=[RR kT3 (ad u o26) D2 t1.Dims,RR kT3 A3 D3 t1.Data]) (FnOk.perm (Z16_ok a0) (Pre':=[RR kT3 D F E,RR kT3 (ad u o26) D2 t1.Dims,RR kT3 A3 D3 t1.Data]) (fun _ _ _ s=>(s.e 3 [1,2,0]))) ⟨aY,trivial⟩ (fun _=>trivial)) R ?_
 rintro _
 refine lN (_::_::m) ?_
 refine aC (aG (sL [1,0]) (d1 7 R (bK (K:=kT3) (xs:=([j]:List Int)) (vs:=[(iv j)]) 0 R R bL cE gZ R R R R R R ?_ R (fun a9 ab=>?_))))
 exact fun I h s=>(gJ).list [((),j)] I h s
 refine lN (OO kT3 3 a9 ab ([j]:List Int)::_::_::m) ?_
 refine aC (aG (sL [2,1,0]) (d1 8 R (lM (ow _ _ _ _::ow _ _ _ _::ow _ _ _ _::m) (fun w s=>(s.e 3 [2,0,1])) ?_)))
 refine eF (K:=kT3) 17592186044416 R R bL cE kv (Zr.zk zT3 gZ) R R R R R R dO M (fun L Z=>(lN (OO kT3 3 L Z (i++([j]:List Int))::_::m) ?_))
 refine aC (aG (sL [1,0]) (dR 9 R (vS R) (hS:=(sL [1,0])) (dD (eD (aI (aE (lI R (lO (lq R R) (lI R (aC ?_))))))))))
 obtain rfl:=so b
 exact qA (L,(i++([j]:List Int)).length,Z) (fun w s=>(s.e 2 [0]))
 refine bM R l (iQ (eR ?_))
 obtain rfl:=so b
 obtain rfl:=aa _ R
 have b:=a3
 refine eR (gW ?_)
 exact qI (i,(T,i.length,U)) b (fun w s=>s)
 rintro ⟨G,⟨a8,a1,a4⟩⟩ σ1 b
 replace b:Z0x_J1 G=some r:=b
 unfold Z0x_J1 at b
 refine bI 0 aB (fun (hn:a1=G.length)=>?_)
 subst hn
 refine aN (aE (lS R (lS R (aC (aI (bV ?_))))))
 obtain rfl:=so b
 exact qF (a8,G.length,a4) (fun w s=>(s.e 5 [0]))
theorem Za_ok  {t1:Tensor}{i:Int}{r:Tensor}(g:Za t1 i=some r) :
 FnOk Tryz.prog 80 [(.agg [(.slice A2 N2 D2),(.slice A3 N3 D3)].toArray),(iv i)] [aO kT3 (.slice A2 N2 D2) t1.Dims,aO kT3 (.slice A3 N3 D3) t1.Data] (fun (h:HH×HH)=>((.agg [(s3 h.1),(s3 h.2)].toArray),[ow kT3 3 (s3 h.1) r.Dims,ow kT3 3 (s3 h.2) r.Data])):=by
 unfold Za at g
 refine aQ Tryz.func80 R 75 R R fun C V=>?_
 refine cL 0 aA ?_
 rintro rfl
 refine cL 1 aA ?_
 rintro rfl
 let W0:=RR kT3 A2 D2 t1.Dims::RR kT3 A3 D3 t1.Data::V
 refine cN W0 ?_
 refine aU ?_
 refine eG R fun b5=>?_
 refine bE R R dP (fun U=>(aC ?_))
 let W1:=aJ b5 [(sc A2 t1.Dims D2),(sc A3 t1.Data D3)] 58::W0
 refine aP ?_
 obtain ⟨r7,ap,g⟩:=bd g
 refine aP ?_
 refine lM _ (fun w s=>(((s.d 2 R).d 4 R).e 3 [1,0,2])) ?_
 refine lC 2 oq R (Z1g_ok ap) R ?_
 rintro _
 refine aP ?_
 split at g
 refine aP ?_
 refine lO (vz (.agg [(.slice none 0 0),(.slice none 0 0)].toArray) (aV gK dP R R)) (aK 0 R R bQ R R R R R R (aC (aI (bV (cD ?_)))))
 cases g
 exact qS ((none,0,0),(none,0,0)) (fun w s=>(((s.nilo kT3 3).nilo kT3 3).e 6 [1,0]))
 refine bG ?_
 obtain ⟨b,ah,g⟩:=bd g
 refine aP ?_
 refine lM _ (fun w s=>(s.d 2 R)) ?_
 refine lC 1 nz R (Z0e_ok ah) R ?_
 rintro ⟨⟨A12,N12,D12⟩,⟨j,b1,l⟩⟩
 refine aL 0 aB ?_
 rintro rfl
 refine aL 1 aB ?_
 rintro rfl
 refine bE R R dP (fun m=>(aK 0 R R bQ R R R R R R (lN (aJ m [(sc A12 b.Dims D12),(sc j b.Data l)] 58::_::_::_::W1) ?_)))
 refine aP ?_
 refine bB (A:=((List Int))×(Unit)) (fun a=>Za_J9 b a.1=some r) (fun a=>[(4,(pt U 0)),(5,(pt m 0))]) (fun a=>aJ U [(.slice none 0 0),(.slice none 0 0)] 58::aJ m [(sc A12 b.Dims D12),(sc j b.Data l)] 58::OO kT3 3 A12 D12 b.Dims::ow kT3 3 (.slice j b.Data.length l) a.1::W1) ?_ ?_
 refine bS ?_
 obtain ⟨e1,am,al⟩:=bd g
 refine bC (A:=Unit) am (fun s a=>[(1,(iv i)),(2,(pt b5 0)),(4,(pt U 0)),(5,(pt m 0)),(6,(iv s.2))]) (fun s a=>aJ U [(.slice none 0 0),(.slice none 0 0)] 58::aJ m [(sc A12 b.Dims D12),(sc j b.Data l)] 58::OO kT3 3 A12 D12 b.Dims::ow kT3 3 (.slice j b.Data.length l) s.1::W1) () (aS R) (tE 4 [3,0,1,2]) ?_
 rintro ⟨M,L⟩ _ σ1 a3 g an
 dsimp only [Za_L1] at g
 refine cT ?_
 split at g
 refine bG ?_
 refine bB (A:=((List Int))×(Unit)) (fun a=>Za_J8 L a.1=some a3) (fun a=>[(1,(iv i)),(2,(pt b5 0)),(4,(pt U 0)),(5,(pt m 0)),(6,(iv L))]) (fun a=>aJ U [(.slice none 0 0),(.slice none 0 0)] 58::aJ m [(sc A12 b.Dims D12),(sc j b.Data l)] 58::OO kT3 3 A12 D12 b.Dims::ow kT3 3 (.slice j b.Data.length l) a.1::W1) ?_ ?_
 refine aU ?_
 obtain ⟨D,a9,g⟩:=bd g
 refine bG ?_
 refine lM _ (fun w s=>(s.d 5 R)) ?_
 refine lC 1 lr R (Zh_ok a9) R ?_
 rintro ⟨G,b2,F⟩
 refine aL 0 aB ?_
 rintro rfl
 refine bG ?_
 obtain ⟨E,ag,g⟩:=bd g
 refine bG ?_
 refine lM _ (fun w s=>(((s.d 6 R).d 8 R).e 7 [2,1,0,3,4,5,6])) ?_
 refine lC 3 yu R (FnOk.lends (A':=[OO kT3 3 G F D]) (A:=[RR kT3 G F D]) (B:=[RR kT3 A2 D2 t1.Dims,RR kT3 A3 D3 t1.Data]) (FnOk.perm (Z0x_ok ag) (Pre':=[RR kT3 G F D,RR kT3 A2 D2 t1.Dims,RR kT3 A3 D3 t1.Data]) (fun _ _ _ s=>(s.e 3 [1,2,0]))) ⟨aY,trivial⟩ (fun _=>⟨(bH j0),trivial⟩)) R ?_
 rintro ⟨ao,b3,au⟩
 refine aL 1 aB ?_
 rintro rfl
 refine cP ?_
 refine bB (A:=(Bool)×(Unit)) (fun a=>Za_J7 b M L a.1=some a3) (fun a=>[(1,(iv i)),(2,(pt b5 0)),(4,(pt U 0)),(5,(pt m 0)),(6,(iv L)),(9,(.bool a.1))]) (fun a=>aJ U [(.slice none 0 0),(.slice none 0 0)] 58::aJ m [(sc A12 b.Dims D12),(sc j b.Data l)] 58::OO kT3 3 A12 D12 b.Dims::ow kT3 3 (.slice j b.Data.length l) M::W1) ?_ ?_
 refine bS ?_
 obtain ⟨e2,av,ar⟩:=bd g
 refine bC (A:=HH) av (fun s a=>[(1,(iv i)),(2,(pt b5 0)),(4,(pt U 0)),(5,(pt m 0)),(6,(iv L)),(7,(sc G D F)),(8,(s3 a)),(9,(.bool s.1)),(10,(iv s.2))]) (fun s a=>aJ U [(.slice none 0 0),(.slice none 0 0)] 58::aJ m [(sc A12 b.Dims D12),(sc j b.Data l)] 58::OO kT3 3 A12 D12 b.Dims::ow kT3 3 (.slice j b.Data.length l) M::OO kT3 3 G F D::ow kT3 3 (s3 a) E::W1) (ao,E.length,au) (aS R) (fun w s=>(s.f 6 [2,4,0,2])) ?_
 rintro ⟨u,Y⟩ ⟨ay,aj,a2⟩ σ1 ak g aq
 dsimp only [Za_L2] at g
 refine bI 5 aB (fun (hn:aj=E.length)=>?_)
 subst hn
 refine cP ?_
 split at g
 refine bG ?_
 refine bB (A:=(Bool)×(HH)) (fun a=>Za_J6 Y a.1=some ak) (fun a=>[(1,(iv i)),(2,(pt b5 0)),(4,(pt U 0)),(5,(pt m 0)),(6,(iv L)),(7,(sc G D F)),(8,(s3 a.2)),(9,(.bool a.1)),(10,(iv Y))]) (fun a=>aJ U [(.slice none 0 0),(.slice none 0 0)] 58::aJ m [(sc A12 b.Dims D12),(sc j b.Data l)] 58::OO kT3 3 A12 D12 b.Dims::ow kT3 3 (.slice j b.Data.length l) M::OO kT3 3 G F D::ow kT3 3 (s3 a.2) E::W1) ?_ ?_
 refine aU ?_
 obtain ⟨a5,g⟩:=gd g
 obtain ⟨a0,a4,g⟩:=bd g
 refine aP ?_
 refine bD 5 aB (show 0<E.length by have:=a5; omega) (fun a1 o106 ha=>?_)
 subst ha
 refine aU ?_
 refine lC 0 oj R (Z1e_ok a4) R ?_
 rintro _
 refine bG ?_
 obtain ⟨a6,g⟩:=gd g
 obtain ⟨Z,a7,g⟩:=bd g
 refine bG ?_
 refine bD 8 aA (show 0<t1.Data.length by have:=a6; omega) (fun ax o111 ha=>?_)
 subst ha
 refine aU ?_
 refine lC 0 oj R (Z1e_ok a7) R ?_
 rintro _
 refine bG ?_
 obtain ⟨O,g⟩:=gd g
 refine cQ [(1,(iv i)),(2,(pt b5 0)),(4,(pt U 0)),(5,(pt m 0)),(6,(iv L)),(7,(sc G D F)),(8,(sc (ad a1 o106) E a2)),(9,(.bool u)),(10,(iv Y)),(68,(.bool ((decide (a0>Z))||((a0==Z)&&(decide (Y<(ix D i)))))))] (aJ U [(.slice none 0 0),(.slice none 0 0)] 58::aJ m [(sc A12 b.Dims D12),(sc j b.Data l)] 58::OO kT3 3 A12 D12 b.Dims::ow kT3 3 (.slice j b.Data.length l) M::OO kT3 3 G F D::OO kT3 3 (ad a1 o106) a2 E::W1) ?_ ?_
 refine b' ?_
 rcases bo (decide (a0>Z)) with J | J
 refine mq ?_
 exact qj tI
 refine bG ?_
 rcases bo (a0==Z) with q | q
 refine aP ?_
 refine bD 4 aB (show 0<D.length by have:=(O J q); omega) (fun aw o116 ha=>?_)
 subst ha
 refine lW (eB q) (eN bL cE R R (O J q)) (lW (eB q) (gY 4 fS aB R (O J q)) ?_)
 refine bG ?_
 exact qj tI
 refine cP ?_
 exact qj tI
 rintro σ1
 refine bR ?_
 split at g
 refine b' ?_
 exact qI (false,((ad a1 o106),E.length,a2)) g tI
 refine aP ?_
 exact qI (u,((ad a1 o106),E.length,a2)) g tI
 rintro ⟨ai,⟨aa,ab,ae⟩⟩ σ1 g
 dsimp only [Za_J6] at g
 refine bI 5 aB (fun (hn:ab=E.length)=>?_)
 subst hn
 refine b' ?_
 cases g
 exact qA (aa,E.length,ae) tI
 refine aP ?_
 cases g
 obtain rfl:=aq _ R
 have g:=ar
 refine aU ?_
 exact qI (u,()) g (fun w s=>(s.f 6 [0,4]))
 rintro ⟨ac,_⟩ σ1 g
 dsimp only [Za_J7] at g
 refine b' ?_
 split at g
 refine bR ?_
 obtain ⟨T,g⟩:=gd g
 refine bG ?_
 refine bD 3 aB (show 0<b.Data.length by have:=T; omega) (fun az o129 ha=>?_)
 subst ha
 refine bR ?_
 refine lM _ (tE 4 [3,0,1,2]) ?_
 refine dX (K:=kT3) (x':=(1:Int)) 0 L R R cE R R T.1 T.2 ?_ ?_
 exact fun I h s=>(gJ).put I h () (1:Int) s
 refine aU ?_
 exact qI ((M.set L.toNat (1:Int)),()) g (tE 4 [1,2,3,0])
 refine aP ?_
 exact qI (M,()) g tI
 rintro ⟨b0,_⟩ σ1 g
 dsimp only [Za_J8] at g
 refine b' ?_
 cases g
 exact qA () tI
 refine aP ?_
 cases g
 obtain rfl:=an _ R
 have g:=al
 refine aU ?_
 exact qI (M,()) g tI
 rintro ⟨a8,_⟩ σ1 g
 dsimp only [Za_J9] at g
 refine aP ?_
 refine aK 0 R R bQ R R R R R R (lN (aJ U [(sc A12 b.Dims D12),(sc j b.Data l)] 58::aJ m [(sc A12 b.Dims D12),(sc j b.Data l)] 58::_::ow kT3 3 (.slice j b.Data.length l) a8::W1) ?_)
 refine aP ?_
 cases g
 exact qS ((A12,b.Dims.length,D12),(j,b.Data.length,l)) (tE 7 [2,3])
theorem Z0w_ok  {p1:aM}{r:Bool}(b:Z0w p1=some r) :
 FnOk Tryz.prog 142 [(aD p1)] [] (fun (h:Unit)=>((.bool r),[])):=by
 unfold Z0w at b
 refine aQ Tryz.func142 R 23 R R fun C V=>?_
 refine cN V ?_
 refine bS ?_
 refine bB (A:=(Unit)×(Unit)) (fun a=>Z0w_J1 p1=some r) (fun a=>[(0,(aD p1))]) (fun a=>V) ?_ ?_
 refine bS ?_
 obtain ⟨u,m,l⟩:=bd b
 refine bC (A:=Unit) m (fun s a=>[(0,(aD p1)),(3,(iv s))]) (fun s a=>V) () (aS R) tI ?_
 rintro i _ σ1 q b j
 dsimp only [Z0w_L1] at b
 refine bG ?_
 refine lO (vp (aD p1) R) (lO (vz (il p1) (dJ fJ R)) ?_)
 refine aP ?_
 split at b
 refine bS ?_
 obtain ⟨g,b⟩:=gd b
 refine cQ [(0,(aD p1)),(3,(iv i)),(19,(.bool ((decide ((bt p1 i)<97))||(decide ((bt p1 i)>122)))))] (V) ?_ ?_
 refine aE (lO (vp (aD p1) R) (lI R (lO (vz (.int .u8 (bt p1 i)) (cG fJ R R g.1 g.2)) (lO (vp (.bool (decide ((bt p1 i)<97))) R) (lB R ?_)))))
 rcases bo (decide ((bt p1 i)<97)) with e | e
 refine bS ?_
 exact qj tI
 refine lW (bY e) (vp (aD p1) R) (lW (bY e) (vI R) (lW (bY e) (vz (.int .u8 (bt p1 i)) (cG fJ R R g.1 g.2)) (lW (bY e) (vp (.bool (decide ((bt p1 i)>122))) R) ?_)))
 refine aU ?_
 exact qj tI
 rintro σ1
 refine bR ?_
 split at b
 refine cP ?_
 cases b
 obtain rfl:=j _ R
 have b:=l
 refine aP ?_
 cases b
 exact qF () tI
 refine cP ?_
 cases b
 exact qA () tI
 refine aP ?_
 cases b
 obtain rfl:=j _ R
 have b:=l
 refine aU ?_
 exact qI ((),()) b tI
 rintro ⟨_,_⟩ σ1 b
 dsimp only [Z0w_J1] at b
 refine aU ?_
 refine lO (vp (aD p1) R) (lO (vz (il p1) (dJ fJ R)) ?_)
 refine b' ?_
 cases b
 exact qF () tI
theorem Z0v_ok  {p1:aM}{j:Int}{r:Bool}(b:Z0v p1 j=some r) :
 FnOk Tryz.prog 143 [(aD p1),(.int .u8 j)] [] (fun (h:Unit)=>((.bool r),[])):=by
 unfold Z0v at b
 refine aQ Tryz.func143 R 17 R R fun C V=>?_
 refine cN V ?_
 refine bS ?_
 refine bB (A:=(Unit)×(Unit)) (fun a=>Z0v_J1=some r) (fun a=>[]) (fun a=>V) ?_ ?_
 refine bS ?_
 obtain ⟨u,l,i⟩:=bd b
 refine bC (A:=Unit) l (fun s a=>[(0,(aD p1)),(1,(.int .u8 j)),(5,(iv s))]) (fun s a=>V) () (aS R) tI ?_
 rintro m _ σ1 q b g
 dsimp only [Z0v_L1] at b
 refine bG ?_
 refine lO (vp (aD p1) R) (lO (vz (il p1) (dJ fJ R)) ?_)
 refine aP ?_
 split at b
 refine bS ?_
 obtain ⟨e,b⟩:=gd b
 refine aE (lO (vp (aD p1) R) (lI R (lO (vz (.int .u8 (bt p1 m)) (cG fJ R R e.1 e.2)) (lI R (lO (vp (.bool ((bt p1 m)==j)) R) ?_)))))
 refine aU ?_
 split at b
 refine cP ?_
 cases b
 obtain rfl:=g _ R
 have b:=i
 refine aP ?_
 cases b
 exact qF () tI
 refine cP ?_
 cases b
 exact qA () tI
 refine aP ?_
 cases b
 obtain rfl:=g _ R
 have b:=i
 refine aU ?_
 exact cJ ((),()) b trivial tI
 rintro ⟨_,_⟩ σ1 b
 dsimp only [Z0v_J1] at b
 refine bS ?_
 cases b
 exact qF () tI
theorem Z0_ok  {b:aM}{r:(List aM)×aM×Bool}(g:Z0 b=some r) :
 FnOk Tryz.prog 109 [(aD b)] [] (fun (h:HH)=>((.tuple [(s3 h),(aD r.2.1),(.bool r.2.2)].toArray),[ow dM 9 (s3 h) r.1])):=by
 unfold Z0 at g
 refine aQ Tryz.func109 R 124 R R fun C V=>?_
 refine cN V ?_
 refine aP ?_
 refine lO (vp (aD ([]:aM)) R) ?_
 refine b' ?_
 refine bK (K:=dM) (xs:=([]:List aM)) (vs:=[]) 0 R R lu qP yv R R R R R R ?_ R (fun A2 D2=>?_)
 exact fun I h s=>(xP).list [] I h s
 refine cP ?_
 refine bB (A:=(Int)×(Unit)) (fun a=>Z0_J1 b a.1=some r) (fun a=>[(0,(aD b)),(5,(sc A2 ([]:List aM) D2)),(6,(iv a.1))]) (fun a=>OO dM 9 A2 D2 ([]:List aM)::V) ?_ ?_
 refine bR ?_
 obtain ⟨e1,av,ar⟩:=bd g
 refine bC (A:=Unit) av (fun s a=>[(0,(aD b)),(5,(sc A2 ([]:List aM) D2)),(6,(iv s))]) (fun s a=>OO dM 9 A2 D2 ([]:List aM)::V) () (aS R) tI ?_
 rintro T _ σ1 be g ax
 dsimp only [Z0_L1] at g
 refine aU ?_
 obtain ⟨a8,g⟩:=gd g
 refine cQ [(0,(aD b)),(5,(sc A2 ([]:List aM) D2)),(6,(iv T)),(28,(.bool ((decide ((aH (T+1))<(b.length:Int)))&&(!((sub b T (aH (T+2)))==str0)))))] (OO dM 9 A2 D2 ([]:List aM)::V) ?_ ?_
 refine aP ?_
 refine lO (vp (aD b) R) (lO (vz (il b) (dJ fJ R)) ?_)
 refine aU ?_
 rcases bo (decide ((aH (T+1))<(b.length:Int))) with L | L
 refine lW (eB L) (vp (aD b) R) ?_
 refine aP ?_
 refine lW (eB L) (vz (aD (sub b T (aH (T+2)))) (hM T (aH (T+2)) fJ R R R (a8 L).1 (a8 L).2.1 (a8 L).2.2)) (lW (eB L) (vz (.bool (!((sub b T (aH (T+2)))==str0))) (jd R R R)) ?_)
 refine aU ?_
 exact qj tI
 refine cV ?_
 exact qj tI
 rintro σ1
 refine bR ?_
 split at g
 refine cT ?_
 cases g
 exact qA () tI
 refine aP ?_
 cases g
 obtain rfl:=ax _ R
 have g:=ar
 refine aU ?_
 exact qI (T,()) g tI
 rintro ⟨j,_⟩ σ1 g
 dsimp only [Z0_J1] at g
 refine b' ?_
 refine lO (vp (aD b) R) (lO (vz (il b) (dJ fJ R)) ?_)
 refine aP ?_
 split at g
 refine b' ?_
 refine lO (vp (aD ([]:aM)) R) ?_
 refine b' ?_
 cases g
 exact hU (A2,([]:List aM).length,D2) tI
 refine b' ?_
 refine bK (K:=dM) (xs:=([]:List aM)) (vs:=[]) 0 R R lu qP yv R R R R R R ?_ R (fun b0 b1=>?_)
 exact fun I h s=>(xP).list [] I h s
 refine cP ?_
 refine bB (A:=((List aM))×(HH)) (fun a=>Z0_J4 b j a.1=some r) (fun a=>[(0,(aD b)),(5,(sc A2 ([]:List aM) D2)),(6,(iv j)),(7,(s3 a.2))]) (fun a=>OO dM 9 A2 D2 ([]:List aM)::ow dM 9 (s3 a.2) a.1::V) ?_ ?_
 refine bS ?_
 obtain ⟨e2,b8,b6⟩:=bd g
 refine bC (A:=HH) b8 (fun s a=>[(0,(aD b)),(5,(sc A2 ([]:List aM) D2)),(6,(iv j)),(7,(s3 a)),(8,(iv s.2.1)),(9,(iv s.2.2))]) (fun s a=>OO dM 9 A2 D2 ([]:List aM)::ow dM 9 (s3 a) s.1::V) (b0,([]:List aM).length,b1) (aS R) (tE 2 [1,0]) ?_
 rintro ⟨i,E,B⟩ ⟨a4,bb,a5⟩ σ1 ap g b5
 dsimp only [Z0_L2] at g
 refine bI 1 aB (fun (hn:bb=i.length)=>?_)
 subst hn
 refine cV ?_
 split at g
 refine bG ?_
 refine bB (A:=((List aM)×Int)×(HH)) (fun a=>Z0_J3 B a.1.1 a.1.2=some ap) (fun a=>[(0,(aD b)),(5,(sc A2 ([]:List aM) D2)),(6,(iv j)),(7,(s3 a.2)),(8,(iv a.1.2)),(9,(iv B))]) (fun a=>OO dM 9 A2 D2 ([]:List aM)::ow dM 9 (s3 a.2) a.1.1::V) ?_ ?_
 refine aU ?_
 obtain ⟨a6,g⟩:=gd g
 refine cQ [(0,(aD b)),(5,(sc A2 ([]:List aM) D2)),(6,(iv j)),(7,(sc a4 i a5)),(8,(iv E)),(9,(iv B)),(51,(.bool ((B==j)||((bt b B)==44))))] (OO dM 9 A2 D2 ([]:List aM)::OO dM 9 a4 a5 i::V) ?_ ?_
 refine b' ?_
 rcases bo (B==j) with D | D
 refine bS ?_
 exact qj tI
 refine lW (bY D) (vp (aD b) R) (lW (bY D) (vI R) (lW (bY D) (vz (.int .u8 (bt b B)) (cG fJ R R (a6 D).1 (a6 D).2)) (lW (bY D) (vp (.bool ((bt b B)==44)) R) ?_)))
 refine aU ?_
 exact qj tI
 rintro σ1
 refine bR ?_
 split at g
 refine aU ?_
 obtain ⟨U,g⟩:=gd g
 obtain ⟨aq,g⟩:=gd g
 refine aU ?_
 refine lO (vp (aD b) R) (lI R (lI R (lO (vz (aD (sub b E B)) (hM E B fJ R R R U.1 U.2.1 U.2.2)) (bK (K:=dM) (xs:=([(sub b E B)]:List aM)) (vs:=[(aD (sub b E B))]) 0 R R lu qP yv R R R R R R ?_ R (fun bi bh=>?_)))))
 exact fun I h s=>(xP).list [((),(sub b E B))] I h s
 refine lM _ (tE 3 [2,0,1]) ?_
 refine eF (K:=dM) 8796093022208 R R lu qP BA (Zr.zk zT9 yv) R R R R R R dO aq (fun ao aj=>(lN (OO dM 9 ao aj (i++([(sub b E B)]:List aM))::_::V) ?_))
 refine cP ?_
 exact qI (((i++([(sub b E B)]:List aM)),(aH (B+1))),(ao,(i++([(sub b E B)]:List aM)).length,aj)) g (tE 2 [1,0])
 refine aP ?_
 exact qI ((i,E),(a4,i.length,a5)) g tI
 rintro ⟨⟨F,bj⟩,⟨b4,b9,b3⟩⟩ σ1 g
 dsimp only [Z0_J3] at g
 refine bI 1 aB (fun (hn:b9=F.length)=>?_)
 subst hn
 refine b' ?_
 cases g
 exact qA (b4,F.length,b3) tI
 refine aP ?_
 cases g
 obtain rfl:=b5 _ R
 have g:=b6
 refine aU ?_
 exact qI (i,(a4,i.length,a5)) g tI
 rintro ⟨e,⟨u,b7,q⟩⟩ σ1 g
 dsimp only [Z0_J4] at g
 refine bI 1 aB (fun (hn:b7=e.length)=>?_)
 subst hn
 refine bR ?_
 obtain ⟨a3,g⟩:=gd g
 refine aE (lO (vp (aD b) R) (lI R (lO (lq R R) (lO (vz (aD (sub b (aH (j+2)) (b.length:Int))) (hM (aH (j+2)) (b.length:Int) fJ R R R a3.1 a3.2.1 a3.2.2)) (lO (vp (aD (sub b (aH (j+2)) (b.length:Int))) R) ?_)))))
 refine bG ?_
 obtain ⟨au,ai,g⟩:=bd g
 refine cQ [(5,(sc A2 ([]:List aM) D2)),(7,(sc u e q)),(10,(aD (sub b (aH (j+2)) (b.length:Int)))),(72,(.bool ((decide ((e.length:Int)>6))||(!au))))] (OO dM 9 A2 D2 ([]:List aM)::OO dM 9 u q e::V) ?_ ?_
 refine b' ?_
 rcases bo (decide ((e.length:Int)>6)) with O | O
 refine b' ?_
 exact qj tI
 refine lW (bY O) (vp (aD (sub b (aH (j+2)) (b.length:Int))) R) (bW 0 R (bY O) vo R (Z0w_ok (bJ ai (cO O))) R ?_)
 rintro _
 refine aP ?_
 exact qj tI
 rintro σ1
 refine bR ?_
 split at g
 refine b' ?_
 refine lO (vp (aD ([]:aM)) R) ?_
 refine b' ?_
 cases g
 exact hU (A2,([]:List aM).length,D2) (tE 2 [0])
 refine bG ?_
 refine bB (A:=(Unit)×(Unit)) (fun a=>Z0_J5 b j e=some r) (fun a=>[(5,(sc A2 ([]:List aM) D2)),(7,(sc u e q)),(10,(aD (sub b (aH (j+2)) (b.length:Int))))]) (fun a=>OO dM 9 A2 D2 ([]:List aM)::OO dM 9 u q e::V) ?_ ?_
 refine bS ?_
 obtain ⟨e3,b2,ah⟩:=bd g
 refine bC (A:=Unit) b2 (fun s a=>[(5,(sc A2 ([]:List aM) D2)),(7,(sc u e q)),(10,(aD (sub b (aH (j+2)) (b.length:Int)))),(11,(iv s))]) (fun s a=>OO dM 9 A2 D2 ([]:List aM)::OO dM 9 u q e::V) () (aS R) tI ?_
 rintro ac _ σ1 bc g am
 dsimp only [Z0_L3] at g
 refine cP ?_
 split at g
 refine bS ?_
 obtain ⟨a0,g⟩:=gd g
 obtain ⟨bk,an,g⟩:=bd g
 refine aP ?_
 refine bD 1 aB (show 0<e.length by have:=a0; omega) (fun bl o62 ha=>?_)
 subst ha
 refine bR ?_
 refine lO (vz (aD (ix e ac)) (jG (K:=dM) (fo:=0) (pr:=fun x=>(aD x)) 1 ac qO (dT9.leaf fun _ _=>R) aB R a0.1 a0.2)) (lC 0 vo R (Z0w_ok an) R ?_)
 rintro _
 refine aP ?_
 split at g
 refine b' ?_
 refine lO (vp (aD ([]:aM)) R) ?_
 refine bS ?_
 cases g
 obtain rfl:=am _ R
 have g:=ah
 refine aP ?_
 cases g
 exact hU (A2,([]:List aM).length,D2) (tE 2 [0])
 refine cP ?_
 cases g
 exact qA () tI
 refine aP ?_
 cases g
 obtain rfl:=am _ R
 have g:=ah
 refine aU ?_
 exact qI ((),()) g tI
 rintro ⟨_,_⟩ σ1 g
 dsimp only [Z0_J5] at g
 refine aN (bB (A:=(Unit)×(Unit)) (fun a=>Z0_J8 b j e=some r) (fun a=>[(7,(sc u e q)),(10,(aD (sub b (aH (j+2)) (b.length:Int))))]) (fun a=>OO dM 9 u q e::V) ?_ ?_)
 refine bS ?_
 obtain ⟨e4,ay,ab⟩:=bd g
 refine bC (A:=Unit) ay (fun s a=>[(5,(sc A2 ([]:List aM) D2)),(7,(sc u e q)),(10,(aD (sub b (aH (j+2)) (b.length:Int)))),(12,(iv s))]) (fun s a=>OO dM 9 A2 D2 ([]:List aM)::OO dM 9 u q e::V) () (aS R) tI ?_
 rintro J _ σ1 al g ak
 dsimp only [Z0_L4] at g
 refine bG ?_
 refine lO (vp (aD (sub b (aH (j+2)) (b.length:Int))) R) (lO (vz (il (sub b (aH (j+2)) (b.length:Int))) (dJ fJ R)) ?_)
 refine aP ?_
 split at g
 refine iu ?_
 refine bB (A:=(Bool)×(Unit)) (fun a=>Z0_J7 b j J a.1=some al) (fun a=>[(5,(sc A2 ([]:List aM) D2)),(7,(sc u e q)),(10,(aD (sub b (aH (j+2)) (b.length:Int)))),(12,(iv J)),(13,(.bool a.1))]) (fun a=>OO dM 9 A2 D2 ([]:List aM)::OO dM 9 u q e::V) ?_ ?_
 refine bS ?_
 obtain ⟨e5,ba,aw⟩:=bd g
 refine bC (A:=Unit) ba (fun s a=>[(5,(sc A2 ([]:List aM) D2)),(7,(sc u e q)),(10,(aD (sub b (aH (j+2)) (b.length:Int)))),(12,(iv J)),(13,(.bool s.1)),(14,(iv s.2))]) (fun s a=>OO dM 9 A2 D2 ([]:List aM)::OO dM 9 u q e::V) () (aS R) tI ?_
 rintro ⟨a2,a1⟩ _ σ1 bf g az
 dsimp only [Z0_L5] at g
 refine cP ?_
 split at g
 refine b' ?_
 obtain ⟨G,g⟩:=gd g
 obtain ⟨Z,g⟩:=gd g
 obtain ⟨ae,a9,g⟩:=bd g
 refine cQ [(5,(sc A2 ([]:List aM) D2)),(7,(sc u e q)),(10,(aD (sub b (aH (j+2)) (b.length:Int)))),(12,(iv J)),(13,(.bool (a2||ae))),(14,(iv a1))] (OO dM 9 A2 D2 ([]:List aM)::OO dM 9 u q e::V) ?_ ?_
 rcases bo a2 with m | m
 refine dC 12 [] bO fun ht hn=>?_
 refine ub 0 [] ?_
 refine dD ?_
 exact qj tI
 refine aZ 1 aB (show 0<e.length by have:=(G m); omega) (fun bg o108 ha=>?_)
 subst ha
 refine dC 12 [] bO fun ht hn=>?_
 refine og 0 [] ?_
 refine dW 4 R (bY m) (eN lu qP R R (G m)) (dW 5 R (bY m) (vz (aD (ix e a1)) (jG (K:=dM) (fo:=0) (pr:=fun x=>(aD x)) 1 a1 qO (dT9.leaf fun _ _=>R) aB R (G m).1 (G m).2)) (dW 6 R (bY m) (vp (aD (sub b (aH (j+2)) (b.length:Int))) R) (dW 7 R (bY m) (vI R) (dW 8 R (bY m) (vz (.int .u8 (bt (sub b (aH (j+2)) (b.length:Int)) J)) (cG fJ R R (Z m).1 (Z m).2)) (d1 9 R (bW 0 R (bY m) vq R (Z0v_ok (bJ a9 (cO m))) R ?_))))))
 rintro _
 refine aC (aG (sL []) ?_)
 refine gO 10 [] ?_
 refine dD ?_
 exact qj tI
 rintro σ1
 refine dH ?_
 cases g
 exact qA () tI
 refine aP ?_
 cases g
 obtain rfl:=az _ R
 have g:=aw
 refine aU ?_
 exact qI (a2,()) g tI
 rintro ⟨a7,_⟩ σ1 g
 dsimp only [Z0_J7] at g
 refine bR ?_
 obtain ⟨M,g⟩:=gd g
 obtain ⟨Y,g⟩:=gd g
 obtain ⟨ag,aa,g⟩:=bd g
 refine cQ [(5,(sc A2 ([]:List aM) D2)),(7,(sc u e q)),(10,(aD (sub b (aH (j+2)) (b.length:Int)))),(12,(iv J)),(120,(.bool ((!a7)||ag)))] (OO dM 9 A2 D2 ([]:List aM)::OO dM 9 u q e::V) ?_ ?_
 rcases bo (!a7) with l | l
 refine dC 11 [] bO fun ht hn=>?_
 refine oX 0 [] ?_
 refine dD ?_
 exact qj tI
 refine dC 11 [] bO fun ht hn=>?_
 refine hJ 0 [] ?_
 refine dW 3 R (bY l) (vp (aD (sub b (aH (j+2)) (b.length:Int))) R) (dW 4 R (bY l) (vI R) (dW 5 R (bY l) (vz (aD (sub (sub b (aH (j+2)) (b.length:Int)) (0:Int) J)) (hM (0:Int) J fJ R R R (M l).1 (M l).2.1 (M l).2.2)) (dW 6 R (bY l) (vp (aD (sub b (aH (j+2)) (b.length:Int))) R) (dW 7 R (bY l) (vI R) (dW 8 R (bY l) (vz (.int .u8 (bt (sub b (aH (j+2)) (b.length:Int)) J)) (cG fJ R R (Y l).1 (Y l).2)) (d1 9 R (bW 0 R (bY l) vq R (Z0v_ok (bJ aa (cO l))) R ?_)))))))
 rintro _
 refine aC (aG (sL []) (dR 10 R (fR R l R) (dD ?_)))
 exact qj tI
 rintro σ1
 refine bR ?_
 split at g
 refine b' ?_
 refine lO (vp (aD ([]:aM)) R) ?_
 refine bS ?_
 cases g
 obtain rfl:=ak _ R
 have g:=ab
 refine aP ?_
 cases g
 exact hU (A2,([]:List aM).length,D2) (tE 2 [0])
 refine cP ?_
 cases g
 exact qA () tI
 refine aP ?_
 cases g
 obtain rfl:=ak _ R
 have g:=ab
 refine aU ?_
 exact qI ((),()) g (tE 2 [1])
 rintro ⟨_,_⟩ σ1 g
 dsimp only [Z0_J8] at g
 refine aP ?_
 refine lO (vp (aD (sub b (aH (j+2)) (b.length:Int))) R) (lS R (lO (vp (aD (sub b (aH (j+2)) (b.length:Int))) R) ?_))
 refine bG ?_
 cases g
 exact hU (u,e.length,q) tI
theorem Z2_ok  {b:(List aM)}{p3:aM}{j:(List (List Int))}{r:aM×(List Int)×Bool}(B:Z2 b p3 j=some r) :
 FnOk Tryz.prog 110 [(.slice A2 N2 D2),(aD p3),(.slice A5 N5 D5)] [aO dM (.slice A2 N2 D2) b,aO kT23 (.slice A5 N5 D5) j] (fun (h:HH)=>((.tuple [(aD r.1),(s3 h),(.bool r.2.2)].toArray),[ow kT3 3 (s3 h) r.2.1])):=by
 unfold Z2 at B
 refine aQ Tryz.func110 R 129 R R fun C V=>?_
 refine cL 0 aA ?_
 rintro rfl
 refine cL 1 aA ?_
 rintro rfl
 let W0:=RR dM A2 D2 b::RR kT23 A5 D5 j::V
 refine cN W0 ?_
 refine aU ?_
 refine lO (vp (aD ([]:aM)) R) ?_
 refine bS ?_
 refine lO (vp (aD p3) R) (lO (vp (aD p3) R) ?_)
 refine aP ?_
 obtain ⟨ar,B⟩:=gd B
 refine aE (lO (vp (aD p3) R) (lO (vz (il p3) (dJ fJ R)) (fI (K:=kT3) (m:=(p3.length:Int)) (z:=(0:Int)) R R bL cE kv (Zr.zk zT3 gZ) (by decide) R R ar.1 ar.2.1 ar.2.2 (fun A7 D7=>(lS R (aC (aI (aN (bB (A:=(aM×(List Int))×(HH)) (fun a=>Z2_J11 a.1.1 a.1.2=some r) (fun a=>[(9,(aD a.1.1)),(10,(s3 a.2))]) (fun a=>ow kT3 3 (s3 a.2) a.1.2::W0) ?_ ?_)))))))))
 refine bS ?_
 obtain ⟨e1,bl,an⟩:=bd B
 refine bC (A:=HH×HH×HH) bl (fun s a=>[(0,(s3 a.1)),(2,(s3 a.2.1)),(9,(aD s.1)),(10,(s3 a.2.2)),(11,(iv s.2.2))]) (fun s a=>aO dM (s3 a.1) b::aO kT23 (s3 a.2.1) j::ow kT3 3 (s3 a.2.2) s.2.1::W0) ((A2,b.length,D2),(A5,j.length,D5),(A7,(List.replicate (p3.length:Int).toNat (0:Int)).length,D7)) (aS R) (fun w s=>(((s.d 1 R).d 3 R).e 3 [1,0,2])) ?_
 rintro ⟨a7,F,q⟩ ⟨⟨bu,bi,J⟩,⟨c0,bk,M⟩,⟨ac,b1,ah⟩⟩ σ1 b0 B ao
 dsimp only [Z2_L1] at B
 refine bI 0 aA (fun (hn:bi=b.length)=>?_)
 subst hn
 refine bI 1 aA (fun (hn:bk=j.length)=>?_)
 subst hn
 refine bI 2 aB (fun (hn:b1=F.length)=>?_)
 subst hn
 refine cP ?_
 split at B
 refine bG ?_
 refine bB (A:=(aM×(List Int))×(HH×HH×HH)) (fun a=>Z2_J10 q a.1.1 a.1.2=some b0) (fun a=>[(0,(s3 a.2.1)),(2,(s3 a.2.2.1)),(9,(aD a.1.1)),(10,(s3 a.2.2.2)),(11,(iv q))]) (fun a=>aO dM (s3 a.2.1) b::aO kT23 (s3 a.2.2.1) j::ow kT3 3 (s3 a.2.2.2) a.1.2::W0) ?_ ?_
 refine aP ?_
 obtain ⟨Y,B⟩:=gd B
 obtain ⟨T,B⟩:=gd B
 refine aZ 1 aA (show 0<j.length by have:=Y; omega) (fun O o113 ha=>?_)
 subst ha
 refine dB (K:=kT23) 1 q dT23.dec R Y.1 Y.2 ?_
 rintro ⟨bz,bv⟩
 refine aZ 2 aA (show 0<b.length by have:=T; omega) (fun L o117 ha=>?_)
 subst ha
 refine dC 11 [] bO fun ht hn=>?_
 refine hJ 0 [] ?_
 refine dR 3 R (eA (fo:=0) 0 cH R R R) ?_
 refine og 4 [] ?_
 refine dR 8 R (vz (aD (ix b q)) (jG (K:=dM) (fo:=0) (pr:=fun x=>(aD x)) 2 q qO (dT9.leaf fun _ _=>R) aA R T.1 T.2)) (dR 9 R (vz (il (ix b q)) (dJ fJ R)) (dR 10 R (Br R R) (dD (aI ?_))))
 split at B
 refine bG ?_
 refine lO (vp (aD ([]:aM)) R) ?_
 refine cV ?_
 cases B
 obtain rfl:=ao _ R
 have B:=an
 refine aP ?_
 cases B
 exact hU (ac,F.length,ah) (tE 7 [4])
 refine cP ?_
 obtain ⟨e2,br,bc⟩:=bd B
 refine bC (A:=HH) br (fun s a=>[(0,(sc (ad L o117) b J)),(2,(sc (ad O o113) j M)),(9,(aD s.1)),(10,(s3 a)),(11,(iv q)),(12,(iv s.2.2))]) (fun s a=>RR dM (ad L o117) J b::RR kT23 (ad O o113) M j::ow kT3 3 (s3 a) s.2.1::W0) (ac,F.length,ah) (aS R) (fun w s=>(s.f 5 [2,3])) ?_
 rintro ⟨g,i,D⟩ ⟨a1,bj,a0⟩ σ1 al B bb
 dsimp only [Z2_L2] at B
 refine bI 2 aB (fun (hn:bj=i.length)=>?_)
 subst hn
 refine dH ?_
 refine lO (vz (aD (ix b q)) (jG (K:=dM) (fo:=0) (pr:=fun x=>(aD x)) 0 q qO (dT9.leaf fun _ _=>R) aA R T.1 T.2)) (lO (vz (il (ix b q)) (dJ fJ R)) ?_)
 refine aP ?_
 split at B
 refine iu ?_
 refine bB (A:=(Int)×(Unit)) (fun a=>Z2_J8 b j q g i D a.1=some al) (fun a=>[(0,(sc (ad L o117) b J)),(2,(sc (ad O o113) j M)),(9,(aD g)),(10,(sc a1 i a0)),(11,(iv q)),(12,(iv D)),(13,(iv a.1))]) (fun a=>RR dM (ad L o117) J b::RR kT23 (ad O o113) M j::OO kT3 3 a1 a0 i::W0) ?_ ?_
 refine bR ?_
 obtain ⟨e3,bp,bn⟩:=bd B
 refine bC (A:=Unit) bp (fun s a=>[(0,(sc (ad L o117) b J)),(2,(sc (ad O o113) j M)),(9,(aD g)),(10,(sc a1 i a0)),(11,(iv q)),(12,(iv D)),(13,(iv s))]) (fun s a=>RR dM (ad L o117) J b::RR kT23 (ad O o113) M j::OO kT3 3 a1 a0 i::W0) () (aS R) tI ?_
 rintro a2 _ σ1 bs B bq
 dsimp only [Z2_L3] at B
 refine aU ?_
 obtain ⟨ag,B⟩:=gd B
 obtain ⟨ae,B⟩:=gd B
 refine cQ [(0,(sc (ad L o117) b J)),(2,(sc (ad O o113) j M)),(9,(aD g)),(10,(sc a1 i a0)),(11,(iv q)),(12,(iv D)),(13,(iv a2)),(62,(.bool ((decide (a2<(g.length:Int)))&&((bt g a2) != (bt (ix b q) D)))))] (RR dM (ad L o117) J b::RR kT23 (ad O o113) M j::OO kT3 3 a1 a0 i::W0) ?_ ?_
 rcases bo (decide (a2<(g.length:Int))) with E | E
 refine dC 16 [] bO fun ht hn=>?_
 refine dR 0 R (vI R) (dR 1 R (vp (aD g) R) (dR 2 R (vz (il g) (dJ fJ R)) ?_))
 refine gO 3 [] ?_
 refine dW 5 R (eB E) (vp (aD g) R) (dW 6 R (eB E) (vI R) (dW 7 R (eB E) (vz (.int .u8 (bt g a2)) (cG fJ R R (ag E).1 (ag E).2)) ?_))
 refine hJ 8 [] ?_
 refine dW 11 R (eB E) (vz (aD (ix b q)) (jG (K:=dM) (fo:=0) (pr:=fun x=>(aD x)) 0 q qO (dT9.leaf fun _ _=>R) aA R T.1 T.2)) (dW 12 R (eB E) (vI R) (dW 13 R (eB E) (vz (.int .u8 (bt (ix b q) D)) (cG fJ R R (ae E).1 (ae E).2)) (dW 14 R (eB E) (vp (.bool ((bt g a2) != (bt (ix b q) D))) R) (dR 15 R (iX R E R) (dD ?_)))))
 exact qj tI
 refine dC 16 [] bO fun ht hn=>?_
 refine dR 0 R (vI R) (dR 1 R (vp (aD g) R) (dR 2 R (vz (il g) (dJ fJ R)) ?_))
 refine mr 3 [] ?_
 refine dD ?_
 exact qj tI
 rintro σ1
 refine bR ?_
 split at B
 refine cT ?_
 cases B
 exact qA () tI
 refine aP ?_
 cases B
 obtain rfl:=bq _ R
 have B:=bn
 refine aU ?_
 exact qI (a2,()) B tI
 rintro ⟨a4,_⟩ σ1 B
 dsimp only [Z2_J8] at B
 refine aN (bB (A:=(aM×(List Int))×(HH)) (fun a=>Z2_J9 j q D a4 a.1.1 a.1.2=some al) (fun a=>[(0,(sc (ad L o117) b J)),(2,(sc (ad O o113) j M)),(9,(aD a.1.1)),(10,(s3 a.2)),(11,(iv q)),(12,(iv D)),(13,(iv a4))]) (fun a=>RR dM (ad L o117) J b::RR kT23 (ad O o113) M j::ow kT3 3 (s3 a.2) a.1.2::W0) ?_ ?_)
 refine aP ?_
 refine lO (vp (aD g) R) (lO (vz (il g) (dJ fJ R)) ?_)
 refine aP ?_
 split at B
 refine aU ?_
 obtain ⟨a9,B⟩:=gd B
 obtain ⟨au,B⟩:=gd B
 refine aE (lO (vp (aD g) R) ?_)
 refine aP ?_
 refine lO (vz (aD (ix b q)) (jG (K:=dM) (fo:=0) (pr:=fun x=>(aD x)) 0 q qO (dT9.leaf fun _ _=>R) aA R T.1 T.2)) ?_
 refine aP ?_
 refine lO (vz (aD (sub (ix b q) D (aH (D+1)))) (hM D (aH (D+1)) fJ R R R a9.1 a9.2.1 a9.2.2)) (lO (vz (aD (g++(sub (ix b q) D (aH (D+1))))) (nk R R au)) (lO (vp (aD (g++(sub (ix b q) D (aH (D+1))))) R) ?_))
 refine aU ?_
 obtain ⟨av,B⟩:=gd B
 refine aU ?_
 refine bK (K:=kT3) (xs:=([(0:Int)]:List Int)) (vs:=[(iv 0)]) 0 R R bL cE gZ R R R R R R ?_ R (fun c4 c6=>?_)
 exact fun I h s=>(gJ).list [((),(0:Int))] I h s
 refine lM _ (tE 4 [3,0,1,2]) ?_
 refine eF (K:=kT3) 17592186044416 R R bL cE kv (Zr.zk zT3 gZ) R R R R R R dO av (fun ak aj=>(lN (OO kT3 3 ak aj (i++([(0:Int)]:List Int))::_::_::W0) ?_))
 refine aU ?_
 exact qI (((g++(sub (ix b q) D (aH (D+1)))),(i++([(0:Int)]:List Int))),(ak,(i++([(0:Int)]:List Int)).length,aj)) B (tE 3 [1,2,0])
 refine aU ?_
 exact qI ((g,i),(a1,i.length,a0)) B tI
 rintro ⟨⟨a8,l⟩,⟨ai,be,ab⟩⟩ σ1 B
 dsimp only [Z2_J9] at B
 refine bI 2 aB (fun (hn:be=l.length)=>?_)
 subst hn
 refine aU ?_
 obtain ⟨a3,B⟩:=gd B
 obtain ⟨aa,B⟩:=gd B
 refine cQ [(0,(sc (ad L o117) b J)),(2,(sc (ad O o113) j M)),(9,(aD a8)),(10,(sc ai l ab)),(11,(iv q)),(12,(iv D)),(13,(iv a4)),(100,(.bool (((ix l a4) != 0)&&((ix l a4) != (ix (ix j q) D)))))] (RR dM (ad L o117) J b::RR kT23 (ad O o113) M j::OO kT3 3 ai ab l::W0) ?_ ?_
 rcases bo ((ix l a4) != 0) with U | U
 refine aZ 2 aB (show 0<l.length by have:=a3; omega) (fun bh o182 ha=>?_)
 subst ha
 refine dB (K:=kT23) 1 q dT23.dec R Y.1 Y.2 ?_
 rintro ⟨c2,c3⟩
 refine aZ 1 aA (show 0<(ix j q).length by have:=(aa U); omega) (fun bw o186 ha=>?_)
 subst ha
 refine dC 19 [] bO fun ht hn=>?_
 refine mr 0 [] ?_
 refine dW 13 R (eB U) (eA (fo:=0) 0 cH R R R) (dW 14 R (eB U) (vI R) (dW 15 R (eB U) (eN bL cE R R (aa U)) (dW 16 R (eB U) (gY 1 fS aA R (aa U)) ?_)))
 refine gO 17 [] ?_
 refine dD ?_
 exact qj (fun w s=>(s.f 5 [2,3]))
 refine aZ 2 aB (show 0<l.length by have:=a3; omega) (fun bh o182 ha=>?_)
 subst ha
 refine dC 19 [] bO fun ht hn=>?_
 refine yg 0 [] ?_
 refine dD ?_
 exact qj tI
 rintro σ1
 refine bR ?_
 split at B
 refine bG ?_
 refine lO (vp (aD ([]:aM)) R) ?_
 refine cV ?_
 cases B
 obtain rfl:=bb _ R
 have B:=bc
 refine bG ?_
 cases B
 obtain rfl:=ao _ R
 have B:=an
 refine aP ?_
 cases B
 exact hU (ai,l.length,ab) (tE 5 [2])
 refine aP ?_
 obtain ⟨aq,B⟩:=gd B
 refine bS ?_
 refine gN (K:=kT23) 1 q dT23.dec R Y.1 Y.2 ?_
 rintro ⟨c5,c8⟩
 refine lO (eA (fo:=0) 0 cH R R R) (lI R (bD 1 aA (show 0<(ix j q).length by have:=aq; omega) (fun c1 o192 ha=>?_)))
 subst ha
 refine aU ?_
 refine bD 4 aB (show 0<l.length by have:=a3; omega) (fun b7 o194 ha=>?_)
 subst ha
 refine bR ?_
 refine lM _ (fun w s=>(s.f 5 [4,1,0,4])) ?_
 refine dX (K:=kT3) (x':=(ix (ix j q) D)) 0 a4 R R cE R R a3.1 a3.2 ?_ ?_
 exact fun I h s=>(gJ).put I h () (ix (ix j q) D) s
 refine cV ?_
 cases B
 exact qA ((ad b7 o194),l.length,ab) (tE 5 [3,4,0])
 refine aP ?_
 cases B
 obtain rfl:=bb _ R
 have B:=bc
 refine aP ?_
 exact qI ((g,i),(((ad L o117),b.length,J),((ad O o113),j.length,M),(a1,i.length,a0))) B tI
 rintro ⟨⟨am,Z⟩,⟨⟨b8,b5,bg⟩,⟨ax,b2,ay⟩,⟨b3,b9,az⟩⟩⟩ σ1 B
 dsimp only [Z2_J10] at B
 refine bI 0 aA (fun (hn:b5=b.length)=>?_)
 subst hn
 refine bI 1 aA (fun (hn:b2=j.length)=>?_)
 subst hn
 refine bI 2 aB (fun (hn:b9=Z.length)=>?_)
 subst hn
 refine b' ?_
 cases B
 exact qA ((b8,b.length,bg),(ax,j.length,ay),(b3,Z.length,az)) tI
 refine aP ?_
 cases B
 obtain rfl:=ao _ R
 have B:=an
 refine aU ?_
 exact qI ((a7,F),(ac,F.length,ah)) B (tE 3 [2])
 rintro ⟨⟨G,u⟩,⟨a6,b4,a5⟩⟩ σ1 B
 dsimp only [Z2_J11] at B
 refine bI 0 aB (fun (hn:b4=u.length)=>?_)
 subst hn
 refine bS ?_
 refine bB (A:=(Unit)×(Unit)) (fun a=>Z2_J12 G u=some r) (fun a=>[(9,(aD G)),(10,(sc a6 u a5))]) (fun a=>OO kT3 3 a6 a5 u::W0) ?_ ?_
 refine bS ?_
 obtain ⟨e4,bm,aw⟩:=bd B
 refine bC (A:=Unit) bm (fun s a=>[(9,(aD G)),(10,(sc a6 u a5)),(14,(iv s.1)),(15,(iv s.2))]) (fun s a=>OO kT3 3 a6 a5 u::W0) () (aS R) tI ?_
 rintro ⟨ba,c9⟩ _ σ1 c7 B b6
 dsimp only [Z2_L4] at B
 refine cP ?_
 split at B
 refine bS ?_
 obtain ⟨ap,B⟩:=gd B
 refine bG ?_
 refine bD 0 aB (show 0<u.length by have:=ap; omega) (fun bf o223 ha=>?_)
 subst ha
 refine iG ?_
 split at B
 refine bG ?_
 refine lO (vp (aD ([]:aM)) R) ?_
 refine dH ?_
 cases B
 obtain rfl:=b6 _ R
 have B:=aw
 refine aP ?_
 cases B
 exact hU ((ad bf o223),u.length,a5) (tE 3 [0])
 refine cP ?_
 cases B
 exact qA () tI
 refine aP ?_
 cases B
 obtain rfl:=b6 _ R
 have B:=aw
 refine aU ?_
 exact qI ((),()) B tI
 rintro ⟨_,_⟩ σ1 B
 dsimp only [Z2_J12] at B
 refine aU ?_
 refine lO (vp (aD G) R) (lS R (lO (vp (aD G) R) ?_))
 refine b' ?_
 cases B
 exact hU (a6,u.length,a5) (tE 3 [0])
theorem Ze_ok  {i:aM}{g:aM}{b:(List Int)}{r:(List Int)}(j:Ze i g b=some r) :
 FnOk Tryz.prog 113 [(aD i),(aD g),(.slice A4 N4 D4)] [aO kT3 (.slice A4 N4 D4) b] (fun (h:HH)=>((.slice h.1 h.2.1 h.2.2),[ow kT3 3 (.slice h.1 h.2.1 h.2.2) r])):=by
 unfold Ze at j
 refine aQ Tryz.func113 R 38 R R fun C V=>?_
 refine cN (_::V) ?_
 refine cL 0 aA ?_
 rintro rfl
 let L:List HP:=RR kT3 A4 D4 b::V
 refine cN L ?_
 refine aN (aE (lS R (aC (aI (aN (aE (bK (K:=kT3) (xs:=([]:List Int)) (vs:=[]) 0 R R bL cE gZ R R R R R R ?_ R (fun A5 D5=>?_))))))))
 exact fun I h s=>(gJ).list [] I h s
 refine lN (OO kT3 3 A5 D5 ([]:List Int)::L) ?_
 refine lS R (aC (aI (aN (bB (A:=((List Int))×(HH)) (fun a=>Ze_J7 a.1=some r) (fun a=>[(7,(.slice a.2.1 a.2.2.1 a.2.2.2))]) (fun a=>ow kT3 3 (.slice a.2.1 a.2.2.1 a.2.2.2) a.1::L) ?_ ?_))))
 refine aN (aE (lI R (aC (aI (dS ?_)))))
 obtain ⟨e1,ae,ab⟩:=bd j
 refine bC (A:=HH) ae (fun s a=>[(0,(aD i)),(1,(aD g)),(2,(sc A4 b D4)),(7,(.slice a.1 a.2.1 a.2.2)),(8,(iv s.2))]) (fun s a=>ow kT3 3 (.slice a.1 a.2.1 a.2.2) s.1::L) (A5,([]:List Int).length,D5) (aS R) (fun w s=>s) ?_
 rintro ⟨E,q⟩ ⟨a6,a8,a5⟩ σ1 D j al
 replace j:Ze_L1 i g b E q=some D:=j
 unfold Ze_L1 at j
 refine bI 0 aB (fun (M:a8=E.length)=>?_)
 subst M
 refine aN (aN (aE (lI R (lO (vp (aD i) R) (lO (vz (il i) (dJ fJ R)) (lO (nS R R) (aC (aI ?_))))))))
 rcases cK j with ⟨F,j⟩|⟨F,j⟩
 refine cC R F (dI (aI (aN (bB (A:=((List Int))×(HH)) (fun a=>Ze_J6 q a.1=some D) (fun a=>[(0,(aD i)),(1,(aD g)),(2,(sc A4 b D4)),(7,(.slice a.2.1 a.2.2.1 a.2.2.2)),(8,(iv q))]) (fun a=>ow kT3 3 (.slice a.2.1 a.2.2.1 a.2.2.2) a.1::L) ?_ ?_))))
 refine dS (aN (aE (lI R (aC (aI (dS ?_))))))
 obtain ⟨e2,ao,ai⟩:=bd j
 refine bC (A:=HH) ao (fun s a=>[(0,(aD i)),(1,(aD g)),(2,(sc A4 b D4)),(7,(.slice a.1 a.2.1 a.2.2)),(8,(iv q)),(9,(iv s.2))]) (fun s a=>ow kT3 3 (.slice a.1 a.2.1 a.2.2) s.1::L) (a6,E.length,a5) (aS R) (fun w s=>s) ?_
 rintro ⟨m,l⟩ ⟨Z,an,Y⟩ σ1 J j ah
 replace j:Ze_L2 i g b q m l=some J:=j
 unfold Ze_L2 at j
 refine bI 0 aB (fun (M:an=m.length)=>?_)
 subst M
 refine aN (aN (aE (lI R (lO (vp (aD g) R) (lO (vz (il g) (dJ fJ R)) (lO (nS R R) (aC (aI ?_))))))))
 rcases cK j with ⟨u,j⟩|⟨u,j⟩
 refine cC R u (dI (aI (aN (bB (A:=((List Int))×(HH)) (fun a=>Ze_J5 l a.1=some J) (fun a=>[(0,(aD i)),(1,(aD g)),(2,(sc A4 b D4)),(7,(.slice a.2.1 a.2.2.1 a.2.2.2)),(8,(iv q)),(9,(iv l))]) (fun a=>ow kT3 3 (.slice a.2.1 a.2.2.1 a.2.2.2) a.1::L) ?_ ?_))))
 refine dS (aN ?_)
 obtain ⟨T,j⟩:=gd j
 obtain ⟨O,j⟩:=gd j
 refine dC 7 [] bO (fun ht M=>(dR 0 R (vp (aD g) R) (dR 1 R (vI R) (dR 2 R (vz (.int .u8 (bt g l)) (cG fJ R R T.1 T.2)) (dR 3 R (vp (aD i) R) (dR 4 R (vI R) (dR 5 R (vz (.int .u8 (bt i q)) (cG fJ R R O.1 O.2)) (dR 6 R (vp (.bool ((bt g l)==(bt i q))) R) (dD (aI ?_))))))))))
 rcases cK j with ⟨B,j⟩|⟨B,j⟩
 refine cC R B ?_
 obtain ⟨G,j⟩:=gd j
 obtain ⟨a3,j⟩:=gd j
 refine aE (lS R (lS R (lI R (bD 1 aA (show 0<b.length by have:=G; omega) (fun au o64 ha=>?_)))))
 subst ha
 refine lO (eN bL cE R R G) (lO (gY 1 fS aA R G) (bK (K:=kT3) (xs:=([(ix b l)]:List Int)) (vs:=[(iv (ix b l))]) 0 R R bL cE gZ R R R R R R ?_ R (fun aa a7=>?_)))
 exact fun I h s=>(gJ).list [((),(ix b l))] I h s
 refine lN (OO kT3 3 aa a7 ([(ix b l)]:List Int)::OO kT3 3 Z Y m::L) ?_
 refine lM (ow _ _ _ _::ow _ _ _ _::L) (fun w s=>(s.e 2 [1,0])) ?_
 refine eF (K:=kT3) 17592186044416 R R bL cE kv (Zr.zk zT3 gZ) R R R R R R dO a3 (fun a4 a2=>(lN (OO kT3 3 a4 a2 (m++([(ix b l)]:List Int))::L) ?_))
 refine lS R (aC (eD ?_))
 exact qI ((m++([(ix b l)]:List Int)),(a4,(m++([(ix b l)]:List Int)).length,a2)) j (fun w s=>s)
 refine bM R B (dI (eD ?_))
 exact qI (m,(Z,m.length,Y)) j (fun w s=>s)
 rintro ⟨a1,⟨a9,aq,aj⟩⟩ σ1 j
 replace j:Ze_J5 l a1=some J:=j
 unfold Ze_J5 at j
 refine bI 0 aB (fun (M:aq=a1.length)=>?_)
 subst M
 refine aE (lI R (lO (lq R R) (lI R (aC ?_))))
 obtain rfl:=so j
 exact qA (a9,a1.length,aj) (fun w s=>s)
 refine bM R u (iQ (eR ?_))
 obtain rfl:=so j
 obtain rfl:=ah _ R
 have j:=ai
 refine eR (gW (eD ?_))
 exact qI (m,(Z,m.length,Y)) j (fun w s=>s)
 rintro ⟨U,⟨ap,ak,ar⟩⟩ σ1 j
 replace j:Ze_J6 q U=some D:=j
 unfold Ze_J6 at j
 refine bI 0 aB (fun (M:ak=U.length)=>?_)
 subst M
 refine aE (lI R (lO (lq R R) (lI R (aC ?_))))
 obtain rfl:=so j
 exact qA (ap,U.length,ar) (fun w s=>s)
 refine bM R F (iQ (eR ?_))
 obtain rfl:=so j
 obtain rfl:=al _ R
 have j:=ab
 refine eR (gW ?_)
 exact qI (E,(a6,E.length,a5)) j (fun w s=>s)
 rintro ⟨a0,⟨ag,am,ac⟩⟩ σ1 j
 replace j:Ze_J7 a0=some r:=j
 unfold Ze_J7 at j
 refine bI 0 aB (fun (M:am=a0.length)=>?_)
 subst M
 refine aN (aE (lS R (lS R (aC (aI (bV ?_))))))
 obtain rfl:=so j
 exact qF (ag,a0.length,ac) (fun w s=>(s.e 2 [0]))
end Go.Proofs.YtmpnollfdpdipaaGreat
