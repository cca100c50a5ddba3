import Derived.Test.YthelanpdjajnbaaGreatBnF
set_option linter.unusedVariables false
set_option maxRecDepth 20000
namespace Go.Proofs.YthelanpdjajnbaaGreat
open Go Go.Pg
variable {A2 A3 A4 A5 A6 A7:Option Addr}{D2 D3 D4 D5 D6 D7 N2 N3 N4 N5 N6 N7:Nat}
theorem Z34_ok  {b:Int}{r:Int×Int}(a:Z34 b=some r) :
 FnOk Tryz.prog 85 [(iv b)] [] (fun (h:Unit)=>((.tuple [(iv r.1),(iv r.2)].toArray),[])):=by
 unfold Z34 at a
 refine aR Tryz.func85 R 13 R R fun C V=>?_
 refine cN V ?_
 refine oI ?_
 split at a
 refine dA ?_
 cases a
 exact jW () tI
 refine dI ?_
 split at a
 refine dA ?_
 cases a
 exact jW () tI
 refine dI ?_
 split at a
 refine dA ?_
 cases a
 exact jW () tI
 refine j7 ?_
 cases a
 exact jW () tI
theorem Z3e_ok  {a:Int}{r:Bool}(i:Z3e a=some r) :
 FnOk Tryz.prog 86 [(iv a)] [] (fun (h:Unit)=>((.bool r),[])):=by
 unfold Z3e at i
 refine aR Tryz.func86 R 17 R R fun C V=>?_
 refine cN V ?_
 refine cE ?_
 refine cQ [(2,(.bool ((((a==1)||(a==2))||(a==12))||(a==13))))] (V) ?_ ?_
 refine bI ?_
 rcases bo (a==1) with b | b
 refine lv ?_
 exact qj tI
 refine bI ?_
 rcases bo ((a==1)||(a==2)) with e | e
 refine dC ?_
 exact qj tI
 refine bI ?_
 rcases bo (((a==1)||(a==2))||(a==12)) with g | g
 refine cR ?_
 exact qj tI
 refine cR ?_
 exact qj tI
 rintro σ1
 refine aZ ?_
 cases i
 exact qF () tI
theorem Z1a_ok  {e:Int}{r:Int}(b:Z1a e=some r) :
 FnOk Tryz.prog 87 [(iv e)] [] (fun (h:Unit)=>((iv r),[])):=by
 unfold Z1a at b
 refine aR Tryz.func87 R 16 R R fun C V=>?_
 refine cN V ?_
 refine yT ?_
 split at b
 refine dC ?_
 cases b
 exact qF () tI
 refine aZ ?_
 refine bE (A:=(Bool)×(Unit)) (fun a=>Z1a_J1 e a.1=some r) (fun a=>[(3,(iv e)),(6,(.bool a.1))]) (fun a=>V) ?_ ?_
 refine cE ?_
 split at b
 refine aZ ?_
 exact qI ((e==14),()) b tI
 refine cR ?_
 exact qI ((e==15),()) b tI
 rintro ⟨g,_⟩ σ1 b
 dsimp only [Z1a_J1] at b
 split at b
 refine dC ?_
 cases b
 exact qF () tI
 refine dO ?_
 split at b
 refine dC ?_
 cases b
 exact qF () tI
 refine dO ?_
 split at b
 refine dC ?_
 cases b
 exact qF () tI
 refine aZ ?_
 refine bE (A:=(Bool)×(Unit)) (fun a=>Z1a_J2 a.1=some r) (fun a=>[(13,(.bool a.1))]) (fun a=>V) ?_ ?_
 refine cE ?_
 split at b
 refine aZ ?_
 exact qI ((e==18),()) b tI
 refine cR ?_
 exact qI ((e==19),()) b tI
 rintro ⟨i,_⟩ σ1 b
 dsimp only [Z1a_J2] at b
 split at b
 refine dC ?_
 cases b
 exact qF () tI
 refine dA ?_
 cases b
 exact qF () tI
theorem Z17_ok  {a:Node}{r:Bool}(m:Z17 a=some r) :
 FnOk Tryz.prog 76 [(.agg [(iv a.Op),(.slice A2 N2 D2),(.slice A3 N3 D3),(.slice A4 N4 D4),(aH a.Form),(.slice A5 N5 D5)].toArray)] [aQ kT3 (.slice A2 N2 D2) a.Args,aQ kT3 (.slice A3 N3 D3) a.Dims,aQ kT3 (.slice A4 N4 D4) a.Ints,aQ kT3 (.slice A5 N5 D5) a.Data] (fun (h:Unit)=>((.bool r),[])):=by
 unfold Z17 at m
 refine aR Tryz.func76 R 92 R R fun C V=>?_
 refine cL 0 aA ?_
 rintro rfl
 refine cL 1 aA ?_
 rintro rfl
 refine cL 2 aA ?_
 rintro rfl
 refine cL 3 aA ?_
 rintro rfl
 let W0:=RR kT3 A2 D2 a.Args::RR kT3 A3 D3 a.Dims::RR kT3 A4 D4 a.Ints::RR kT3 A5 D5 a.Data::V
 refine cN W0 ?_
 refine aZ ?_
 refine eA R fun T=>?_
 refine aZ ?_
 let O:=aJ T [(iv a.Op),(sc A2 a.Args D2),(sc A3 a.Dims D3),(sc A4 a.Ints D4),(aH a.Form),(sc A5 a.Data D5)] 65::W0
 refine qN O ?_
 refine aU ?_
 refine cQ [(1,(pt T 0)),(13,(.bool ((decide (a.Op<1))||(decide (a.Op>19)))))] (O) ?_ ?_
 refine cR ?_
 rcases bo (decide (a.Op<1)) with M | M
 refine aU ?_
 refine lO (dX (decide (a.Op>19)) R M) (aC ?_)
 exact qj tI
 refine aU ?_
 refine lO (eH R M R) (aC ?_)
 exact qj tI
 rintro σ1
 refine cA ?_
 split at m
 refine dI ?_
 cases m
 exact qF () (tE 5 [])
 refine bI ?_
 obtain ⟨r9,U,m⟩:=bd m
 refine aU ?_
 refine lC 0 B9 R (Z34_ok U) R ?_
 rintro _
 refine lO (vT R) ?_
 refine dI ?_
 refine cQ [(1,(pt T 0)),(31,(.bool ((decide ((a.Args.length:Int)<r9.1))||(decide ((a.Args.length:Int)>r9.2)))))] (O) ?_ ?_
 refine dO ?_
 rcases bo (decide ((a.Args.length:Int)<r9.1)) with B | B
 refine cR ?_
 refine lO (dX (decide ((a.Args.length:Int)>r9.2)) R B) (aC ?_)
 exact qj tI
 refine cR ?_
 refine lO (eH R B R) (aC ?_)
 exact qj tI
 rintro σ1
 refine cA ?_
 split at m
 refine dI ?_
 cases m
 exact qF () (tE 5 [])
 refine cR ?_
 obtain ⟨q,Y,m⟩:=bd m
 refine cQ [(1,(pt T 0)),(62,(.bool ((((!q)&&(decide ((a.Dims.length:Int)>0)))||((a.Op != 11)&&(!(a.Form==([]:aO)))))||((a.Op != 2)&&(decide ((a.Data.length:Int)>0))))))] (O) ?_ ?_
 refine aU ?_
 refine lC 0 Ba R (Z3e_ok Y) R ?_
 rintro _
 refine aZ ?_
 rcases bo (!q) with b | b
 refine bI ?_
 refine lO (jw R b R) (lB R ?_)
 rcases bo ((!q)&&(decide ((a.Dims.length:Int)>0))) with e | e
 refine dI ?_
 refine lO (dX ((a.Op != 11)&&(!(a.Form==([]:aO)))) R e) ?_
 refine dA ?_
 refine lO (dX ((a.Op != 2)&&(decide ((a.Data.length:Int)>0))) R (oT e)) (aC ?_)
 exact qj tI
 refine bI ?_
 rcases bo (a.Op != 11) with s | s
 refine aZ ?_
 refine lW (eL s) (vz (.bool (!(a.Form==([]:aO)))) (jd R R R)) (lW (bJ e) (jw R s R) (lO (eH R e R) (lB R ?_)))
 rcases bo (((!q)&&(decide ((a.Dims.length:Int)>0)))||((a.Op != 11)&&(!(a.Form==([]:aO))))) with g | g
 refine dC ?_
 refine lO (dX ((a.Op != 2)&&(decide ((a.Data.length:Int)>0))) R g) (aC ?_)
 exact qj tI
 refine bI ?_
 rcases bo (a.Op != 2) with D | D
 refine bI ?_
 refine lW (bJ g) (jw R D R) (lO (eH R g R) (aC ?_))
 exact qj tI
 refine bI ?_
 refine lW (bJ g) (ky (decide ((a.Data.length:Int)>0)) R D) (lO (eH R g R) (aC ?_))
 exact qj tI
 refine aU ?_
 refine lW (bJ e) (ky (!(a.Form==([]:aO))) R s) (lO (eH R e R) (lB R ?_))
 rcases bo (((!q)&&(decide ((a.Dims.length:Int)>0)))||((a.Op != 11)&&(!(a.Form==([]:aO))))) with i | i
 refine dC ?_
 refine lO (dX ((a.Op != 2)&&(decide ((a.Data.length:Int)>0))) R i) (aC ?_)
 exact qj tI
 refine bI ?_
 rcases bo (a.Op != 2) with E | E
 refine bI ?_
 refine lW (bJ i) (jw R E R) (lO (eH R i R) (aC ?_))
 exact qj tI
 refine bI ?_
 refine lW (bJ i) (ky (decide ((a.Data.length:Int)>0)) R E) (lO (eH R i R) (aC ?_))
 exact qj tI
 refine bI ?_
 refine lO (ky (decide ((a.Dims.length:Int)>0)) R b) ?_
 refine cR ?_
 rcases bo (a.Op != 11) with u | u
 refine aZ ?_
 refine lW (eL u) (vz (.bool (!(a.Form==([]:aO)))) (jd R R R)) (lW (bJ (aF b)) (jw R u R) (lO (eH R (aF b) R) (lB R ?_)))
 rcases bo (((!q)&&(decide ((a.Dims.length:Int)>0)))||((a.Op != 11)&&(!(a.Form==([]:aO))))) with j | j
 refine dC ?_
 refine lO (dX ((a.Op != 2)&&(decide ((a.Data.length:Int)>0))) R j) (aC ?_)
 exact qj tI
 refine bI ?_
 rcases bo (a.Op != 2) with F | F
 refine bI ?_
 refine lW (bJ j) (jw R F R) (lO (eH R j R) (aC ?_))
 exact qj tI
 refine bI ?_
 refine lW (bJ j) (ky (decide ((a.Data.length:Int)>0)) R F) (lO (eH R j R) (aC ?_))
 exact qj tI
 refine aU ?_
 refine lW (bJ (aF b)) (ky (!(a.Form==([]:aO))) R u) (lO (eH R (aF b) R) (lB R ?_))
 rcases bo (((!q)&&(decide ((a.Dims.length:Int)>0)))||((a.Op != 11)&&(!(a.Form==([]:aO))))) with l | l
 refine dC ?_
 refine lO (dX ((a.Op != 2)&&(decide ((a.Data.length:Int)>0))) R l) (aC ?_)
 exact qj tI
 refine bI ?_
 rcases bo (a.Op != 2) with G | G
 refine bI ?_
 refine lW (bJ l) (jw R G R) (lO (eH R l R) (aC ?_))
 exact qj tI
 refine bI ?_
 refine lW (bJ l) (ky (decide ((a.Data.length:Int)>0)) R G) (lO (eH R l R) (aC ?_))
 exact qj tI
 rintro σ1
 refine cA ?_
 split at m
 refine dI ?_
 cases m
 exact qF () (tE 5 [])
 refine bI ?_
 obtain ⟨L,Z,m⟩:=bd m
 refine aU ?_
 refine lC 0 Bb R (Z1a_ok Z) R ?_
 rintro _
 refine cR ?_
 refine cQ [(1,(pt T 0)),(5,(iv L)),(73,(.bool ((a.Op==16)||(a.Op==17))))] (O) ?_ ?_
 refine cR ?_
 rcases bo (a.Op==16) with I | I
 refine aU ?_
 refine lO (dX (a.Op==17) R I) (aC ?_)
 exact qj tI
 refine aU ?_
 refine lO (eH R I R) (aC ?_)
 exact qj tI
 rintro σ1
 refine cA ?_
 split at m
 refine aZ ?_
 refine cQ [(2,(.bool ((decide ((a.Ints.length:Int)≥L))&&(decide ((a.Ints.length:Int)≤(aK (L+4096)))))))] (O) ?_ ?_
 refine dO ?_
 rcases bo (decide ((a.Ints.length:Int)≥L)) with J | J
 refine cE ?_
 refine lO (jw R J R) ?_
 refine aZ ?_
 exact qj tI
 refine cE ?_
 refine lO (ky (decide ((a.Ints.length:Int)≤(aK (L+4096)))) R J) ?_
 refine aZ ?_
 exact qj tI
 rintro σ1
 refine aU ?_
 cases m
 exact qF () (tE 5 [])
 refine oH ?_
 cases m
 exact qF () (tE 5 [])
theorem Z0i_ok  {b:(List Int)}{q:Int}{r:Bool}(e:Z0i b q=some r) :
 FnOk Tryz.prog 77 [(.slice A2 N2 D2),(iv q)] [aQ kT3 (.slice A2 N2 D2) b] (fun (h:Unit)=>((.bool r),[])):=by
 unfold Z0i at e
 refine aR Tryz.func77 R 25 R R fun C V=>?_
 refine cL 0 aA ?_
 rintro rfl
 let u:=RR kT3 A2 D2 b::V
 refine cN u ?_
 refine cE ?_
 refine bE (A:=(Unit)×(Unit)) (fun a=>Z0i_J1=some r) (fun a=>[]) (fun a=>u) ?_ ?_
 refine cE ?_
 obtain ⟨G,B,m⟩:=bd e
 refine bF (A:=Unit) B (fun s a=>[(0,(sc A2 b D2)),(1,(iv q)),(5,(iv s))]) (fun s a=>u) () (aS R) tI ?_
 rintro g _ σ1 D e j
 dsimp only [Z0i_L1] at e
 refine dC ?_
 split at e
 refine cE ?_
 obtain ⟨l,e⟩:=gd e
 refine cQ [(0,(sc A2 b D2)),(1,(iv q)),(5,(iv g)),(24,(.bool ((decide ((ix b g)<0))||(decide ((ix b g)≥q)))))] (u) ?_ ?_
 refine aU ?_
 refine bG 0 aA (show 0<b.length by have:=l; omega) (fun E o14 F=>?_)
 subst F
 refine bI ?_
 rcases bo (decide ((ix b g)<0)) with i | i
 refine dI ?_
 exact qj tI
 refine dI ?_
 exact qj tI
 rintro σ1
 refine cA ?_
 split at e
 refine dC ?_
 cases e
 obtain rfl:=j _ R
 have e:=m
 refine aU ?_
 cases e
 exact qF () (tE 1 [])
 refine dC ?_
 cases e
 exact qA () tI
 refine aU ?_
 cases e
 obtain rfl:=j _ R
 have e:=m
 refine aZ ?_
 exact cJ ((),()) e trivial tI
 rintro ⟨_,_⟩ σ1 e
 dsimp only [Z0i_J1] at e
 refine cE ?_
 cases e
 exact qF () (tE 1 [])
theorem Zt_ok  {b:(List Int)}{r:Int}(e:Zt b=some r) :
 FnOk Tryz.prog 58 [(.slice A2 N2 D2)] [aQ kT3 (.slice A2 N2 D2) b] (fun (h:Unit)=>((iv r),[])):=by
 unfold Zt at e
 refine aR Tryz.func58 R 32 R R fun C V=>?_
 refine cL 0 aA ?_
 rintro rfl
 let u:=RR kT3 A2 D2 b::V
 refine cN u ?_
 refine j7 ?_
 refine bE (A:=(Int)×(Unit)) (fun a=>Zt_J1 a.1=some r) (fun a=>[(3,(iv a.1))]) (fun a=>u) ?_ ?_
 refine cE ?_
 obtain ⟨J,D,l⟩:=bd e
 refine bF (A:=Unit) D (fun s a=>[(0,(sc A2 b D2)),(3,(iv s.1)),(4,(iv s.2))]) (fun s a=>u) () (aS R) tI ?_
 rintro ⟨q,g⟩ _ σ1 E e j
 dsimp only [Zt_L1] at e
 refine dC ?_
 split at e
 refine dO ?_
 obtain ⟨i,e⟩:=gd e
 refine cQ [(0,(sc A2 b D2)),(3,(iv q)),(4,(iv g)),(22,(.bool ((decide ((ix b g)<1))||(decide ((ix b g)>4096)))))] (u) ?_ ?_
 refine aU ?_
 refine bG 0 aA (show 0<b.length by have:=i; omega) (fun F o17 B=>?_)
 subst B
 refine bI ?_
 rcases bo (decide ((ix b g)<1)) with m | m
 refine dO ?_
 exact qj tI
 refine dO ?_
 exact qj tI
 rintro σ1
 refine cA ?_
 split at e
 refine dA ?_
 cases e
 obtain rfl:=j _ R
 have e:=l
 refine aU ?_
 cases e
 exact qF () (tE 1 [])
 refine dI ?_
 refine bG 0 aA (show 0<b.length by have:=i; omega) (fun G o21 B=>?_)
 subst B
 refine iY ?_
 split at e
 refine dC ?_
 cases e
 obtain rfl:=j _ R
 have e:=l
 refine aU ?_
 cases e
 exact qF () (tE 1 [])
 refine dC ?_
 cases e
 exact qA () tI
 refine aU ?_
 cases e
 obtain rfl:=j _ R
 have e:=l
 refine aZ ?_
 exact qI (q,()) e tI
 rintro ⟨I,_⟩ σ1 e
 dsimp only [Zt_J1] at e
 refine dO ?_
 cases e
 exact qF () (tE 1 [])
theorem Zo_ok  {a:(List Int)}{r:Bool}(e:Zo a=some r) :
 FnOk Tryz.prog 71 [(.slice A2 N2 D2)] [aQ kT3 (.slice A2 N2 D2) a] (fun (h:Unit)=>((.bool r),[])):=by
 unfold Zo at e
 refine aR Tryz.func71 R 11 R R fun C V=>?_
 refine cL 0 aA ?_
 rintro rfl
 let g:=RR kT3 A2 D2 a::V
 refine cN g ?_
 refine cE ?_
 obtain ⟨j,i,e⟩:=bd e
 refine cQ [(2,(.bool ((decide ((a.length:Int)≤6))&&(decide (j>0)))))] (g) ?_ ?_
 refine cR ?_
 rcases bo (decide ((a.length:Int)≤6)) with b | b
 refine cA ?_
 refine lM _ (fun w s=>(s.d 0 R)) ?_
 refine bY 1 R (eL b) nR R (Zt_ok (bL i b)) R ?_
 rintro _
 refine lN g ?_
 refine bI ?_
 exact qj tI
 refine cE ?_
 exact qj tI
 rintro σ1
 refine aZ ?_
 cases e
 exact qF () (tE 1 [])
theorem Zi_ok  {t1:Tensor}{r:Bool}(b:Zi t1=some r) :
 FnOk Tryz.prog 35 [(.agg [(.slice A2 N2 D2),(.slice A3 N3 D3)].toArray)] [aQ kT3 (.slice A2 N2 D2) t1.Dims,aQ kT3 (.slice A3 N3 D3) t1.Data] (fun (h:Unit)=>((.bool r),[])):=by
 unfold Zi at b
 refine aR Tryz.func35 R 38 R R fun C V=>?_
 refine cL 0 aA ?_
 rintro rfl
 refine cL 1 aA ?_
 rintro rfl
 let F:=RR kT3 A2 D2 t1.Dims::RR kT3 A3 D3 t1.Data::V
 refine cN F ?_
 refine aZ ?_
 refine eA R fun B=>?_
 refine aZ ?_
 let g:=aJ B [(sc A2 t1.Dims D2),(sc A3 t1.Data D3)] 42::F
 refine qN g ?_
 refine aU ?_
 obtain ⟨I,u,b⟩:=bd b
 obtain ⟨T,E,b⟩:=bd b
 refine cQ [(1,(pt B 0)),(16,(.bool ((!I)||((t1.Data.length:Int) != T))))] (g) ?_ ?_
 rcases bo (!I) with i | i
 refine cX 13 [] bM fun O M=>?_
 refine hY 0 [] ?_
 refine d1 2 R (lM _ (fun w s=>(s.d 1 R)) ?_)
 refine lC 1 kr R (Zo_ok u) R ?_
 rintro _
 refine lN g ?_
 refine aC (aG (sL []) ?_)
 refine rx 3 [] ?_
 refine dD ?_
 exact qj tI
 refine cX 13 [] bM fun O M=>?_
 refine hY 0 [] ?_
 refine d1 2 R (lM _ (fun w s=>(s.d 1 R)) ?_)
 refine lC 1 kr R (Zo_ok u) R ?_
 rintro _
 refine lN g ?_
 refine aC (aG (sL []) ?_)
 refine sU 3 [] ?_
 refine d1 10 R (lM _ (fun w s=>(s.d 1 R)) ?_)
 refine bY 1 R (bJ i) nR R (Zt_ok (bL E (cP i))) R ?_
 rintro _
 refine lN g ?_
 refine aC (aG (sL []) ?_)
 refine hY 11 [] ?_
 refine dD ?_
 exact qj tI
 rintro σ1
 refine cA ?_
 split at b
 refine dI ?_
 cases b
 exact qF () (tE 3 [])
 refine bI ?_
 refine bE (A:=(Unit)×(Unit)) (fun a=>Zi_J1=some r) (fun a=>[]) (fun a=>g) ?_ ?_
 refine cE ?_
 obtain ⟨U,D,q⟩:=bd b
 refine bF (A:=Unit) D (fun s a=>[(1,(pt B 0)),(3,(iv s))]) (fun s a=>g) () (aS R) tI ?_
 rintro e _ σ1 G b l
 dsimp only [Zi_L1] at b
 refine dA ?_
 split at b
 refine cE ?_
 obtain ⟨m,b⟩:=gd b
 refine cQ [(1,(pt B 0)),(3,(iv e)),(37,(.bool ((decide ((ix t1.Data e)<0))||(decide ((ix t1.Data e)≥2147483647)))))] (g) ?_ ?_
 refine bI ?_
 refine bG 2 aA (show 0<t1.Data.length by have:=m; omega) (fun J o21 L=>?_)
 subst L
 refine bI ?_
 rcases bo (decide ((ix t1.Data e)<0)) with j | j
 refine dI ?_
 exact qj tI
 refine dI ?_
 exact qj tI
 rintro σ1
 refine cA ?_
 split at b
 refine dC ?_
 cases b
 obtain rfl:=l _ R
 have b:=q
 refine aU ?_
 cases b
 exact qF () (tE 3 [])
 refine dC ?_
 cases b
 exact qA () tI
 refine aU ?_
 cases b
 obtain rfl:=l _ R
 have b:=q
 refine aZ ?_
 exact cJ ((),()) b trivial tI
 rintro ⟨_,_⟩ σ1 b
 dsimp only [Zi_J1] at b
 refine cE ?_
 cases b
 exact qF () (tE 3 [])
theorem Z9_ok  {a1:(List Int)}{r:(List Int)}(a:Z9 a1=some r) :
 FnOk Tryz.prog 37 [(.slice A2 N2 D2)] [aQ kT3 (.slice A2 N2 D2) a1] (fun (h:HH)=>((s3 h),[ow kT3 3 (s3 h) r])):=by
 unfold Z9 at a
 refine aR Tryz.func37 R 6 R R fun C V=>?_
 refine cL 0 aA ?_
 rintro rfl
 let e:=RR kT3 A2 D2 a1::V
 refine cN e ?_
 refine cE ?_
 obtain ⟨b,a⟩:=gd a
 refine aD (bU (K:=kT3) (xs:=([]:List Int)) (vs:=[]) 0 R R bT cS iu R R R R R R ?_ R (fun A3 D3=>?_))
 exact fun I h s=>(hD).list [] I h s
 refine lS R (lM _ (fun w s=>((s.dup 1 R).mv 1)) ?_)
 refine eO (K:=kT3) 17592186044416 R R bT cS kN (Zr.zk zT3 iu) R R R R R R (su (Kind.scal_flat _ _)) b (fun A5 D5=>(lN (OO kT3 3 A5 D5 (([]:List Int)++a1)::e) ?_))
 refine bI ?_
 cases a
 exact qF (A5,(([]:List Int)++a1).length,D5) (tE 2 [0])
theorem Zv_ok  {a1:(List Int)}{e:(List Int)}{r:Bool}(b:Zv a1 e=some r) :
 FnOk Tryz.prog 36 [(.slice A2 N2 D2),(.slice A4 N4 D4)] [aQ kT3 (.slice A2 N2 D2) a1,aQ kT3 (.slice A4 N4 D4) e] (fun (h:Unit)=>((.bool r),[])):=by
 unfold Zv at b
 refine aR Tryz.func36 R 26 R R fun C V=>?_
 refine cL 0 aA ?_
 rintro rfl
 refine cL 1 aA ?_
 rintro rfl
 let m:=RR kT3 A2 D2 a1::RR kT3 A4 D4 e::V
 refine cN m ?_
 refine oI ?_
 split at b
 refine dI ?_
 cases b
 exact qF () (tE 2 [])
 refine bI ?_
 refine bE (A:=(Unit)×(Unit)) (fun a=>Zv_J1=some r) (fun a=>[]) (fun a=>m) ?_ ?_
 refine cE ?_
 obtain ⟨G,u,l⟩:=bd b
 refine bF (A:=Unit) u (fun s a=>[(0,(sc A2 a1 D2)),(1,(sc A4 e D4)),(5,(iv s))]) (fun s a=>m) () (aS R) tI ?_
 rintro F _ σ1 B b g
 dsimp only [Zv_L1] at b
 refine dC ?_
 split at b
 refine cE ?_
 obtain ⟨i,b⟩:=gd b
 obtain ⟨j,b⟩:=gd b
 refine bA 0 aA (show 0<a1.length by have:=i; omega) (fun D o18 q=>?_)
 subst q
 refine bA 1 aA (show 0<e.length by have:=j; omega) (fun E o21 q=>?_)
 subst q
 refine cX 9 [] bM fun J I=>?_
 refine w8 0 [] ?_
 refine dD (aE ?_)
 split at b
 refine dC ?_
 cases b
 obtain rfl:=g _ R
 have b:=l
 refine aU ?_
 cases b
 exact qF () (tE 2 [])
 refine dC ?_
 cases b
 exact qA () tI
 refine aU ?_
 cases b
 obtain rfl:=g _ R
 have b:=l
 refine aZ ?_
 exact cJ ((),()) b trivial tI
 rintro ⟨_,_⟩ σ1 b
 dsimp only [Zv_J1] at b
 refine cE ?_
 cases b
 exact qF () (tE 2 [])
theorem Z2d_ok  {a:(List Int)}{k3:Int}{r:Int}(b:Z2d a k3=some r) :
 FnOk Tryz.prog 149 [(.slice A2 N2 D2),(iv k3)] [aQ kT3 (.slice A2 N2 D2) a] (fun (h:Unit)=>((iv r),[])):=by
 unfold Z2d at b
 refine aR Tryz.func149 R 17 R R fun C V=>?_
 refine cL 0 aA ?_
 rintro rfl
 let g:=RR kT3 A2 D2 a::V
 refine cN g ?_
 refine oH ?_
 split at b
 refine dI ?_
 cases b
 exact qF () (tE 1 [])
 refine bI ?_
 obtain ⟨e,b⟩:=gd b
 refine dO ?_
 refine bG 0 aA (show 0<a.length by have:=e; omega) (fun j o7 i=>?_)
 subst i
 refine cE ?_
 cases b
 exact qF () (tE 1 [])
theorem Zz_ok  {a1:(List Int)}{D:(List Int)}{r:(List Int)}(b:Zz a1 D=some r) :
 FnOk Tryz.prog 118 [(.slice A2 N2 D2),(.slice A4 N4 D4)] [aQ kT3 (.slice A2 N2 D2) a1,aQ kT3 (.slice A4 N4 D4) D] (fun (h:HH)=>((s3 h),[ow kT3 3 (s3 h) r])):=by
 unfold Zz at b
 refine aR Tryz.func118 R 68 R R fun C V=>?_
 refine cL 0 aA ?_
 rintro rfl
 refine cL 1 aA ?_
 rintro rfl
 let E:=RR kT3 A2 D2 a1::RR kT3 A4 D4 D::V
 refine cN E ?_
 refine dO ?_
 obtain ⟨r5,a9,b⟩:=bd b
 obtain ⟨r7,aa,b⟩:=bd b
 refine cQ [(0,(sc A2 a1 D2)),(1,(sc A4 D D4)),(17,(.bool ((!r5)||(!r7))))] (E) ?_ ?_
 refine aZ ?_
 refine lM _ (fun w s=>(s.d 0 R)) ?_
 refine lC 1 kr R (Zo_ok a9) R ?_
 rintro _
 refine lN E ?_
 refine aZ ?_
 rcases bo (!r5) with J | J
 refine cR ?_
 exact qj tI
 refine cA ?_
 refine lM _ (fun w s=>(s.d 1 R)) ?_
 refine bY 1 R (bJ J) kr R (Zo_ok (bL aa (cP J))) R ?_
 rintro _
 refine lN E ?_
 refine aU ?_
 exact qj tI
 rintro σ1
 refine cA ?_
 split at b
 refine aU ?_
 refine bU (K:=kT3) (xs:=([]:List Int)) (vs:=[]) 0 R R bT cS iu R R R R R R ?_ R (fun A11 D11=>?_)
 exact fun I h s=>(hD).list [] I h s
 refine cR ?_
 cases b
 exact qF (A11,([]:List Int).length,D11) (tE 3 [0])
 refine j7 ?_
 refine bE (A:=(Int)×(Unit)) (fun a=>Zz_J1 a1 D a.1=some r) (fun a=>[(0,(sc A2 a1 D2)),(1,(sc A4 D D4)),(5,(iv a.1))]) (fun a=>E) ?_ ?_
 refine dI ?_
 split at b
 refine cE ?_
 exact qI ((D.length:Int),()) b tI
 refine aZ ?_
 exact qI ((a1.length:Int),()) b tI
 rintro ⟨e,_⟩ σ1 b
 dsimp only [Zz_J1] at b
 refine cA ?_
 obtain ⟨q,b⟩:=gd b
 refine aZ ?_
 refine f' (K:=kT3) (m:=e) (z:=(0:Int)) R R bT cS kN (Zr.zk zT3 iu) (by decide) R R q.1 q.2.1 q.2.2 (fun g i=>(lS R (aC (aE (aI (bE (A:=((List Int))×(Unit)) (fun a=>Zz_J4 a.1=some r) (fun a=>[(6,(sc g (List.replicate e.toNat (0:Int)) i))]) (fun a=>ow kT3 3 (.slice g (List.replicate e.toNat (0:Int)).length i) a.1::E) ?_ ?_))))))
 refine cE ?_
 obtain ⟨e1,a8,T⟩:=bd b
 refine bF (A:=Unit) a8 (fun s a=>[(0,(sc A2 a1 D2)),(1,(sc A4 D D4)),(5,(iv e)),(6,(sc g (List.replicate e.toNat (0:Int)) i)),(7,(iv s.2))]) (fun s a=>ow kT3 3 (.slice g (List.replicate e.toNat (0:Int)).length i) s.1::E) () (aS R) tI ?_
 rintro ⟨G,F⟩ _ σ1 a0 b O
 dsimp only [Zz_L1] at b
 refine dI ?_
 split at b
 refine cE ?_
 obtain ⟨j,U,b⟩:=bd b
 refine aU ?_
 refine lM _ (fun w s=>(s.d 1 R)) ?_
 refine lC 1 w9 R (Z2d_ok U) R ?_
 rintro _
 refine bI ?_
 obtain ⟨l,Y,b⟩:=bd b
 refine aU ?_
 refine lM _ (fun w s=>(s.d 2 R)) ?_
 refine lC 1 w9 R (Z2d_ok Y) R ?_
 rintro _
 refine cR ?_
 refine cQ [(0,(sc A2 a1 D2)),(1,(sc A4 D D4)),(5,(iv e)),(6,(sc g (List.replicate e.toNat (0:Int)) i)),(7,(iv F)),(8,(iv j)),(9,(iv l)),(50,(.bool (((j != l)&&(j != 1))&&(l != 1))))] (ow kT3 3 (.slice g (List.replicate e.toNat (0:Int)).length i) G::E) ?_ ?_
 refine cR ?_
 rcases bo (j != l) with L | L
 refine bI ?_
 rcases bo ((j != l)&&(j != 1)) with M | M
 refine bI ?_
 exact qj tI
 refine bI ?_
 exact qj tI
 refine dI ?_
 exact qj tI
 rintro σ1
 refine cA ?_
 split at b
 refine aU ?_
 refine bU (K:=kT3) (xs:=([]:List Int)) (vs:=[]) 0 R R bT cS iu R R R R R R ?_ R (fun a4 a6=>?_)
 exact fun I h s=>(hD).list [] I h s
 refine dO ?_
 cases b
 obtain rfl:=O _ R
 have b:=T
 refine aU ?_
 cases b
 exact qF (a4,([]:List Int).length,a6) (tE 4 [0])
 refine bI ?_
 refine bE (A:=(Int)×(Unit)) (fun a=>Zz_J3 e G F a.1=some a0) (fun a=>[(0,(sc A2 a1 D2)),(1,(sc A4 D D4)),(5,(iv e)),(6,(sc g (List.replicate e.toNat (0:Int)) i)),(7,(iv F)),(8,(iv a.1))]) (fun a=>ow kT3 3 (.slice g (List.replicate e.toNat (0:Int)).length i) G::E) ?_ ?_
 refine dO ?_
 split at b
 refine cR ?_
 exact qI (l,()) b tI
 refine aZ ?_
 exact qI (j,()) b tI
 rintro ⟨a2,_⟩ σ1 b
 dsimp only [Zz_J3] at b
 obtain ⟨u,b⟩:=gd b
 refine dO ?_
 refine bG 0 aB (show 0<(List.replicate e.toNat (0:Int)).length by have:=u; omega) (fun ab o47 ha=>?_)
 subst ha
 refine cA ?_
 refine dZ (K:=kT3) (x':=a2) 0 (aK ((aK (e - 1)) - F)) R R cS R R u.1 u.2 ?_ ?_
 exact fun I h s=>(hD).put I h () a2 s
 refine dI ?_
 cases b
 exact qA () tI
 refine aU ?_
 cases b
 obtain rfl:=O _ R
 have b:=T
 refine aZ ?_
 exact qI (G,()) b tI
 rintro ⟨a3,_⟩ σ1 b
 dsimp only [Zz_J4] at b
 refine aZ ?_
 obtain ⟨ac,Z,b⟩:=bd b
 refine aZ ?_
 refine lC 1 kr R (FnOk.lends (A':=[ow kT3 3 (.slice g (List.replicate e.toNat (0:Int)).length i) a3]) (A:=[aQ kT3 (.slice g (List.replicate e.toNat (0:Int)).length i) a3]) (B:=[]) (Zo_ok Z) ⟨aP,trivial⟩ (fun _=>trivial)) R ?_
 rintro _
 refine aU ?_
 split at b
 refine aU ?_
 refine bU (K:=kT3) (xs:=([]:List Int)) (vs:=[]) 0 R R bT cS iu R R R R R R ?_ R (fun a5 a7=>?_)
 exact fun I h s=>(hD).list [] I h s
 refine cR ?_
 cases b
 exact qF (a5,([]:List Int).length,a7) (tE 4 [0])
 refine dA ?_
 cases b
 exact qF (g,(List.replicate e.toNat (0:Int)).length,i) (tE 3 [0])
theorem Z0g_ok  {a:(List Int)}{r:Tensor}(b:Z0g a=some r) :
 FnOk Tryz.prog 102 [(.slice A2 N2 D2)] [aQ kT3 (.slice A2 N2 D2) a] (fun (h:HH×HH)=>((.agg [(s3 h.1),(s3 h.2)].toArray),[ow kT3 3 (s3 h.1) r.Dims,ow kT3 3 (s3 h.2) r.Data])):=by
 unfold Z0g at b
 refine aR Tryz.func102 R 9 R R fun C V=>?_
 refine cL 0 aA ?_
 rintro rfl
 let q:=RR kT3 A2 D2 a::V
 refine cN q ?_
 refine aZ ?_
 refine aY R R dN (fun u=>(aC (aE (aI ?_))))
 obtain ⟨l,i,b⟩:=bd b
 obtain ⟨g,j,b⟩:=bd b
 obtain ⟨e,b⟩:=gd b
 refine aZ ?_
 refine lM _ (fun w s=>(s.d 1 R)) ?_
 refine lC 1 iP R (Z9_ok i) R ?_
 rintro ⟨A6,N6,D6⟩
 refine aM 0 aB ?_
 rintro rfl
 refine lS R (lM _ (fun w s=>(s.d 2 R)) ?_)
 refine lC 1 nR R (Zt_ok j) R ?_
 rintro _
 refine f' (K:=kT3) (m:=g) (z:=(0:Int)) R R bT cS kN (Zr.zk zT3 iu) (by decide) R R e.1 e.2.1 e.2.2 (fun A10 D10=>(lO (vz (.agg [(sc A6 l D6),(sc A10 (List.replicate g.toNat (0:Int)) D10)].toArray) (aV hG dN R R)) (aL 2 R R bW R R R R R R (lN (OO kT3 3 A10 D10 (List.replicate g.toNat (0:Int))::_::aJ u [(sc A6 l D6),(sc A10 (List.replicate g.toNat (0:Int)) D10)] 42::q) ?_))))
 refine aU ?_
 cases b
 exact qS ((A6,l.length,D6),(A10,(List.replicate g.toNat (0:Int)).length,D10)) (tE 4 [1,0])
theorem Zj_ok  {b:(List Int)}{k3:Int}{r:(List Int)}(e:Zj b k3=some r) :
 FnOk Tryz.prog 119 [(.slice A2 N2 D2),(iv k3)] [aQ kT3 (.slice A2 N2 D2) b] (fun (h:HH)=>((s3 h),[ow kT3 3 (s3 h) r])):=by
 unfold Zj at e
 refine aR Tryz.func119 R 33 R R fun C V=>?_
 refine cL 0 aA ?_
 rintro rfl
 let B:=RR kT3 A2 D2 b::V
 refine cN B ?_
 refine cE ?_
 obtain ⟨l,e⟩:=gd e
 refine aU ?_
 refine f' (K:=kT3) (m:=(b.length:Int)) (z:=(0:Int)) R R bT cS kN (Zr.zk zT3 iu) (by decide) R R l.1 l.2.1 l.2.2 (fun A5 D5=>(lS R (aC (aE (aI (bE (A:=((List Int))×(Unit)) (fun a=>Zj_J1 a.1=some r) (fun a=>[(5,(sc A5 (List.replicate (b.length:Int).toNat (0:Int)) D5))]) (fun a=>ow kT3 3 (.slice A5 (List.replicate (b.length:Int).toNat (0:Int)).length D5) a.1::B) ?_ ?_))))))
 refine dC ?_
 obtain ⟨U,G,F⟩:=bd e
 refine bF (A:=Unit) G (fun s a=>[(0,(sc A2 b D2)),(1,(iv s.1)),(5,(sc A5 (List.replicate (b.length:Int).toNat (0:Int)) D5)),(6,(iv s.2.2))]) (fun s a=>ow kT3 3 (.slice A5 (List.replicate (b.length:Int).toNat (0:Int)).length D5) s.2.1::B) () (aS R) tI ?_
 rintro ⟨q,J,i⟩ _ σ1 L e E
 dsimp only [Zj_L1] at e
 refine dO ?_
 split at e
 refine cE ?_
 obtain ⟨u,e⟩:=gd e
 obtain ⟨j,e⟩:=gd e
 obtain ⟨g,e⟩:=gd e
 refine cE ?_
 refine bG 1 aA (show 0<b.length by have:=u; omega) (fun M o22 D=>?_)
 subst D
 refine aZ ?_
 refine lO (qr R R j) (bG 0 aB (show 0<(List.replicate (b.length:Int).toNat (0:Int)).length by have:=g; omega) (fun O o26 D=>?_))
 subst D
 refine cA ?_
 refine dZ (K:=kT3) (x':=(q.tmod (ix b i))) 0 i R R cS R R g.1 g.2 ?_ ?_
 exact fun I h s=>(hD).put I h () (q.tmod (ix b i)) s
 refine dI ?_
 refine lO (vz (iv (aK (q.tdiv (ix b i)))) (mC R R j)) ?_
 refine dC ?_
 cases e
 exact qA () tI
 refine aU ?_
 cases e
 obtain rfl:=E _ R
 have e:=F
 refine aZ ?_
 exact qI (J,()) e tI
 rintro ⟨T,_⟩ σ1 e
 dsimp only [Zj_J1] at e
 refine dO ?_
 cases e
 exact qF (A5,(List.replicate (b.length:Int).toNat (0:Int)).length,D5) (tE 2 [0])
theorem Z0n_ok  {e:(List Int)}{b:(List Int)}{r:Int}(g:Z0n e b=some r) :
 FnOk Tryz.prog 131 [(.slice A2 N2 D2),(.slice A4 N4 D4)] [aQ kT3 (.slice A2 N2 D2) e,aQ kT3 (.slice A4 N4 D4) b] (fun (h:Unit)=>((iv r),[])):=by
 unfold Z0n at g
 refine aR Tryz.func131 R 25 R R fun C V=>?_
 refine cL 0 aA ?_
 rintro rfl
 refine cL 1 aA ?_
 rintro rfl
 let l:=RR kT3 A2 D2 e::RR kT3 A4 D4 b::V
 refine cN l ?_
 refine j7 ?_
 refine bE (A:=(Int)×(Unit)) (fun a=>Z0n_J1 a.1=some r) (fun a=>[(5,(iv a.1))]) (fun a=>l) ?_ ?_
 refine cE ?_
 obtain ⟨L,B,u⟩:=bd g
 refine bF (A:=Unit) B (fun s a=>[(0,(sc A2 e D2)),(1,(sc A4 b D4)),(5,(iv s.1)),(6,(iv s.2))]) (fun s a=>l) () (aS R) tI ?_
 rintro ⟨D,I⟩ _ σ1 E g q
 dsimp only [Z0n_L1] at g
 refine dC ?_
 split at g
 refine cR ?_
 obtain ⟨i,g⟩:=gd g
 obtain ⟨j,g⟩:=gd g
 refine bA 0 aA (show 0<e.length by have:=i; omega) (fun F o17 m=>?_)
 subst m
 refine bA 1 aA (show 0<b.length by have:=j; omega) (fun G o20 m=>?_)
 subst m
 refine cX 12 [] bM fun O M=>?_
 refine uK 0 [] ?_
 refine dD ?_
 refine dO ?_
 cases g
 exact qA () tI
 refine aU ?_
 cases g
 obtain rfl:=q _ R
 have g:=u
 refine aZ ?_
 exact qI (D,()) g tI
 rintro ⟨J,_⟩ σ1 g
 dsimp only [Z0n_J1] at g
 refine dO ?_
 cases g
 exact qF () (tE 2 [])
theorem Z16_ok  {t1:Tensor}{a:(List Int)}{r:Int}(b:Z16 t1 a=some r) :
 FnOk Tryz.prog 129 [(.agg [(.slice A2 N2 D2),(.slice A3 N3 D3)].toArray),(.slice A5 N5 D5)] [aQ kT3 (.slice A2 N2 D2) t1.Dims,aQ kT3 (.slice A3 N3 D3) t1.Data,aQ kT3 (.slice A5 N5 D5) a] (fun (h:Unit)=>((iv r),[])):=by
 unfold Z16 at b
 refine aR Tryz.func129 R 13 R R fun C V=>?_
 refine cL 0 aA ?_
 rintro rfl
 refine cL 1 aA ?_
 rintro rfl
 refine cL 2 aA ?_
 rintro rfl
 let j:=RR kT3 A2 D2 t1.Dims::RR kT3 A3 D3 t1.Data::RR kT3 A5 D5 a::V
 refine cN j ?_
 refine aZ ?_
 refine eA R fun m=>?_
 refine aZ ?_
 let l:=aJ m [(sc A2 t1.Dims D2),(sc A3 t1.Data D3)] 42::j
 refine qN l ?_
 refine aZ ?_
 obtain ⟨E,i,b⟩:=bd b
 obtain ⟨g,b⟩:=gd b
 refine bA 2 aA (show 0<t1.Data.length by have:=g; omega) (fun q o11 u=>?_)
 subst u
 refine cX 9 [] bM fun D B=>?_
 refine kz 0 [] ?_
 refine d1 5 R (lM _ (fun w s=>(((s.d 1 R).d 4 R).e 2 [1,0])) ?_)
 refine lC 2 t2 R (Z0n_ok i) R ?_
 rintro _
 refine lN l ?_
 refine aC (aG (sL []) ?_)
 refine iJ 6 [] ?_
 refine dD ?_
 refine aZ ?_
 cases b
 exact qF () (tE 4 [])
theorem Z08_ok  {t1:Tensor}{b:(List Int)}{r:Int}(g:Z08 t1 b=some r) :
 FnOk Tryz.prog 121 [(.agg [(.slice A2 N2 D2),(.slice A3 N3 D3)].toArray),(.slice A5 N5 D5)] [aQ kT3 (.slice A2 N2 D2) t1.Dims,aQ kT3 (.slice A3 N3 D3) t1.Data,aQ kT3 (.slice A5 N5 D5) b] (fun (h:Unit)=>((iv r),[])):=by
 unfold Z08 at g
 refine aR Tryz.func121 R 42 R R fun C V=>?_
 refine cL 0 aA ?_
 rintro rfl
 refine cL 1 aA ?_
 rintro rfl
 refine cL 2 aA ?_
 rintro rfl
 let W0:=RR kT3 A2 D2 t1.Dims::RR kT3 A3 D3 t1.Data::RR kT3 A5 D5 b::V
 refine cN W0 ?_
 refine aZ ?_
 refine eA R fun b6=>?_
 refine aZ ?_
 let M:=aJ b6 [(sc A2 t1.Dims D2),(sc A3 t1.Data D3)] 42::W0
 refine qN M ?_
 refine oH ?_
 refine bU (K:=kT3) (xs:=([]:List Int)) (vs:=[]) 0 R R bT cS iu R R R R R R ?_ R (fun A7 D7=>?_)
 exact fun I h s=>(hD).list [] I h s
 refine bI ?_
 refine bE (A:=((List Int))×(HH)) (fun a=>Z08_J3 t1 a.1=some r) (fun a=>[(2,(pt b6 0)),(6,(s3 a.2))]) (fun a=>ow kT3 3 (s3 a.2) a.1::M) ?_ ?_
 refine cE ?_
 obtain ⟨e1,a6,a5⟩:=bd g
 refine bF (A:=HH×HH) a6 (fun s a=>[(1,(s3 a.1)),(2,(pt b6 0)),(5,(iv (aK ((b.length:Int) - (t1.Dims.length:Int))))),(6,(s3 a.2)),(7,(iv s.2))]) (fun s a=>aQ kT3 (s3 a.1) b::ow kT3 3 (s3 a.2) s.1::M) ((A5,b.length,D5),(A7,([]:List Int).length,D7)) (aS R) (fun w s=>(s.d 4 R)) ?_
 rintro ⟨i,G⟩ ⟨⟨a7,a1,u⟩,⟨m,a2,D⟩⟩ σ1 a0 g a4
 dsimp only [Z08_L1] at g
 refine bQ 0 aA (fun (Y:a1=b.length)=>?_)
 subst Y
 refine bQ 1 aB (fun (Y:a2=i.length)=>?_)
 subst Y
 refine dA ?_
 split at g
 refine cE ?_
 obtain ⟨O,g⟩:=gd g
 refine cR ?_
 refine bG 0 aA (show 0<b.length by have:=O; omega) (fun F o27 ha=>?_)
 subst ha
 refine cE ?_
 refine bE (A:=(Int)×(Unit)) (fun a=>Z08_J2 i G a.1=some a0) (fun a=>[(1,(sc (ad F o27) b u)),(2,(pt b6 0)),(5,(iv (aK ((b.length:Int) - (t1.Dims.length:Int))))),(6,(sc m i D)),(7,(iv G)),(8,(iv a.1))]) (fun a=>RR kT3 (ad F o27) u b::OO kT3 3 m D i::M) ?_ ?_
 refine cA ?_
 obtain ⟨T,g⟩:=gd g
 refine bI ?_
 refine bG 3 aA (show 0<t1.Dims.length by have:=T; omega) (fun aa o30 ha=>?_)
 subst ha
 refine cR ?_
 split at g
 refine bI ?_
 exact qI ((0:Int),()) g tI
 refine aZ ?_
 exact qI ((ix b (aK ((aK ((b.length:Int) - (t1.Dims.length:Int)))+G))),()) g tI
 rintro ⟨j,_⟩ σ1 g
 dsimp only [Z08_J2] at g
 obtain ⟨U,g⟩:=gd g
 refine aU ?_
 refine bU (K:=kT3) (xs:=([j]:List Int)) (vs:=[(iv j)]) 0 R R bT cS iu R R R R R R ?_ R (fun a8 a9=>?_)
 exact fun I h s=>(hD).list [((),j)] I h s
 refine lM _ (tE 3 [2,0,1]) ?_
 refine eO (K:=kT3) 17592186044416 R R bT cS kN (Zr.zk zT3 iu) R R R R R R dQ U (fun J L=>(lN (OO kT3 3 J L (i++([j]:List Int))::_::M) ?_))
 refine dC ?_
 cases g
 exact qA (((ad F o27),b.length,u),(J,(i++([j]:List Int)).length,L)) (tE 2 [1,0])
 refine aU ?_
 cases g
 obtain rfl:=a4 _ R
 have g:=a5
 refine aZ ?_
 exact qI (i,(m,i.length,D)) g (tE 2 [1])
 rintro ⟨l,⟨q,a3,E⟩⟩ σ1 g
 dsimp only [Z08_J3] at g
 refine bQ 0 aB (fun (Y:a3=l.length)=>?_)
 subst Y
 refine cA ?_
 obtain ⟨ab,Z,g⟩:=bd g
 refine aU ?_
 refine lM _ (fun w s=>(((s.d 2 R).d 4 R).e 3 [2,1,0])) ?_
 refine lC 3 nr R (FnOk.lends (A':=[OO kT3 3 q E l]) (A:=[RR kT3 q E l]) (B:=[RR kT3 A2 D2 t1.Dims,RR kT3 A3 D3 t1.Data]) (FnOk.perm (Z16_ok Z) (Pre':=[RR kT3 q E l,RR kT3 A2 D2 t1.Dims,RR kT3 A3 D3 t1.Data]) (fun _ _ _ s=>(s.e 3 [1,2,0]))) ⟨aP,trivial⟩ (fun _=>trivial)) R ?_
 rintro _
 refine bI ?_
 cases g
 exact qF () (tE 5 [])
theorem Zq_ok  {p1:Int}{r:Int}(b:Zq p1=some r) :
 FnOk Tryz.prog 103 [(iv p1)] [] (fun (h:Unit)=>((iv r),[])):=by
 unfold Zq at b
 refine aR Tryz.func103 R 11 R R fun C V=>?_
 refine cN V ?_
 refine dI ?_
 refine lO (qr R R (by decide)) ?_
 refine bI ?_
 refine bE (A:=(Int)×(Unit)) (fun a=>Zq_J1 a.1=some r) (fun a=>[(3,(iv a.1))]) (fun a=>V) ?_ ?_
 refine cE ?_
 split at b
 refine cE ?_
 exact qI ((aK ((p1.tmod (2147483647:Int))+2147483647)),()) b tI
 refine aZ ?_
 exact qI ((p1.tmod (2147483647:Int)),()) b tI
 rintro ⟨e,_⟩ σ1 b
 dsimp only [Zq_J1] at b
 refine dO ?_
 cases b
 exact qF () tI
theorem Z1e_ok  {a1:Int}{r:Int}(a:Z1e a1=some r) :
 FnOk Tryz.prog 125 [(iv a1)] [] (fun (h:Unit)=>((iv r),[])):=by
 unfold Z1e at a
 refine aR Tryz.func125 R 11 R R fun C V=>?_
 refine cN V ?_
 refine cE ?_
 obtain ⟨e,b,a⟩:=bd a
 refine aZ ?_
 refine lC 0 jQ R (Zq_ok b) R ?_
 rintro _
 refine dA ?_
 split at a
 refine dA ?_
 cases a
 exact qF () tI
 refine dA ?_
 cases a
 exact qF () tI
theorem Z1m_ok  {a1:Int}{i:Int}{r:Int}(a:Z1m a1 i=some r) :
 FnOk Tryz.prog 132 [(iv a1),(iv i)] [] (fun (h:Unit)=>((iv r),[])):=by
 unfold Z1m at a
 refine aR Tryz.func132 R 11 R R fun C V=>?_
 refine cN V ?_
 refine cE ?_
 obtain ⟨j,b,a⟩:=bd a
 obtain ⟨l,e,a⟩:=bd a
 obtain ⟨m,g,a⟩:=bd a
 refine aZ ?_
 refine lC 0 jQ R (Zq_ok b) R ?_
 rintro _
 refine lI R (lC 0 jQ R (Zq_ok e) R ?_)
 rintro _
 refine cA ?_
 refine lC 0 jQ R (Zq_ok g) R ?_
 rintro _
 refine bI ?_
 cases a
 exact qF () tI
theorem Z2b_ok  {a1:Int}{i:Int}{r:Int}(a:Z2b a1 i=some r) :
 FnOk Tryz.prog 150 [(iv a1),(iv i)] [] (fun (h:Unit)=>((iv r),[])):=by
 unfold Z2b at a
 refine aR Tryz.func150 R 11 R R fun C V=>?_
 refine cN V ?_
 refine cE ?_
 obtain ⟨j,b,a⟩:=bd a
 obtain ⟨l,e,a⟩:=bd a
 obtain ⟨m,g,a⟩:=bd a
 refine aZ ?_
 refine lC 0 jQ R (Zq_ok b) R ?_
 rintro _
 refine lI R (lC 0 jQ R (Zq_ok e) R ?_)
 rintro _
 refine cA ?_
 refine lC 0 jQ R (Zq_ok g) R ?_
 rintro _
 refine bI ?_
 cases a
 exact qF () tI
theorem Z1f_ok  {a1:Int}{i:Int}{r:Int}(a:Z1f a1 i=some r) :
 FnOk Tryz.prog 128 [(iv a1),(iv i)] [] (fun (h:Unit)=>((iv r),[])):=by
 unfold Z1f at a
 refine aR Tryz.func128 R 11 R R fun C V=>?_
 refine cN V ?_
 refine cE ?_
 obtain ⟨j,b,a⟩:=bd a
 obtain ⟨l,e,a⟩:=bd a
 obtain ⟨m,g,a⟩:=bd a
 refine aZ ?_
 refine lC 0 jQ R (Zq_ok b) R ?_
 rintro _
 refine lI R (lC 0 jQ R (Zq_ok e) R ?_)
 rintro _
 refine cA ?_
 refine lC 0 jQ R (Zq_ok g) R ?_
 rintro _
 refine bI ?_
 cases a
 exact qF () tI
theorem Zs_S_ok {m:Int→Int→Option (Int)}(i:∀ {a1:Int} {e:Int} {r:Int},m a1 e=some r→FnOk Tryz.prog 163 [(iv a1),(iv e)] [] (fun (h:Unit)=>((iv r),[]))){a1:Int}{e:Int}{r:Int}(b:Zs_S m a1 e=some r) :
 FnOk Tryz.prog 163 [(iv a1),(iv e)] [] (fun (h:Unit)=>((iv r),[])):=by
 unfold Zs_S at b
 refine aR Tryz.func163 R 22 R R fun C V=>?_
 refine cN V ?_
 refine iY ?_
 split at b
 refine dI ?_
 cases b
 exact qF () tI
 refine bI ?_
 obtain ⟨B,j,b⟩:=bd b
 refine aU ?_
 refine lO (vz (iv (aK (e.tdiv (2:Int)))) (mC R R (by decide))) (lC 0 wd R (i j) R ?_)
 rintro _
 refine bI ?_
 obtain ⟨q,l,b⟩:=bd b
 refine aU ?_
 refine lC 0 oO R (Z1f_ok l) R ?_
 rintro _
 refine bI ?_
 refine bE (A:=(Int)×(Unit)) (fun a=>Zs_J1 a.1=some r) (fun a=>[(5,(iv a.1))]) (fun a=>V) ?_ ?_
 refine aU ?_
 refine lO (qr R R (by decide)) ?_
 refine aU ?_
 split at b
 refine cA ?_
 obtain ⟨s,g,b⟩:=bd b
 refine aU ?_
 refine lC 0 oO R (Z1f_ok g) R ?_
 rintro _
 refine aZ ?_
 exact qI (s,()) b tI
 refine aZ ?_
 exact qI (q,()) b tI
 rintro ⟨u,_⟩ σ1 b
 dsimp only [Zs_J1] at b
 refine dO ?_
 cases b
 exact qF () tI
theorem Zs_R_ok (n:Nat):∀ {a1:Int} {a:Int} {r:Int},Zs_R n a1 a=some r→FnOk Tryz.prog 163 [(iv a1),(iv a)] [] (fun (h:Unit)=>((iv r),[])):=by
 induction n with
 | zero=>intros; rename_i h; cases h
 | succ n ih=>intros; rename_i h; exact Zs_S_ok ih h
theorem Zs_ok {a1:Int}{a:Int}{r:Int}(b:Zs a1 a=some r):FnOk Tryz.prog 163 [(iv a1),(iv a)] [] (fun (h:Unit)=>((iv r),[])):=Zs_R_ok nM b
theorem Z2a_ok  {a1:Int}{r:Int}(a:Z2a a1=some r) :
 FnOk Tryz.prog 152 [(iv a1)] [] (fun (h:Unit)=>((iv r),[])):=by
 unfold Z2a at a
 refine aR Tryz.func152 R 6 R R fun C V=>?_
 refine cN V ?_
 refine cE ?_
 obtain ⟨g,b,a⟩:=bd a
 obtain ⟨i,e,a⟩:=bd a
 refine aZ ?_
 refine lC 0 jQ R (Zq_ok b) R ?_
 rintro _
 refine lC 0 wd R (Zs_ok e) R ?_
 rintro _
 refine bI ?_
 cases a
 exact qF () tI
theorem Z3v_ok  {a1:Int}{g:Int}{r:Int}(a:Z3v a1 g=some r) :
 FnOk Tryz.prog 151 [(iv a1),(iv g)] [] (fun (h:Unit)=>((iv r),[])):=by
 unfold Z3v at a
 refine aR Tryz.func151 R 9 R R fun C V=>?_
 refine cN V ?_
 refine cE ?_
 obtain ⟨i,b,a⟩:=bd a
 obtain ⟨j,e,a⟩:=bd a
 refine aU ?_
 refine lC 0 wf R (Z2a_ok b) R ?_
 rintro _
 refine lC 0 oO R (Z1f_ok e) R ?_
 rintro _
 refine bI ?_
 cases a
 exact qF () tI
theorem Z1n_ok  {l:Int}{s:Int}{u:Int}{r:Int}(b:Z1n l s u=some r) :
 FnOk Tryz.prog 120 [(iv l),(iv s),(iv u)] [] (fun (h:Unit)=>((iv r),[])):=by
 unfold Z1n at b
 refine aR Tryz.func120 R 54 R R fun C V=>?_
 refine cN V ?_
 refine cE ?_
 obtain ⟨G,m,b⟩:=bd b
 obtain ⟨I,q,b⟩:=bd b
 refine aZ ?_
 refine lC 0 oN R (Z1e_ok m) R ?_
 rintro _
 refine lI R (lC 0 oN R (Z1e_ok q) R ?_)
 rintro _
 refine dA ?_
 refine bE (A:=(Bool)×(Unit)) (fun a=>Z1n_J1 a.1=some r) (fun a=>[(8,(.bool a.1))]) (fun a=>V) ?_ ?_
 refine iY ?_
 split at b
 refine aZ ?_
 obtain ⟨J,e,b⟩:=bd b
 refine aU ?_
 refine lC 0 qz R (Z1m_ok e) R ?_
 rintro _
 refine cE ?_
 cases b
 exact qF () tI
 refine dO ?_
 split at b
 refine aZ ?_
 obtain ⟨D,g,b⟩:=bd b
 refine aU ?_
 refine lC 0 wc R (Z2b_ok g) R ?_
 rintro _
 refine cE ?_
 cases b
 exact qF () tI
 refine dO ?_
 split at b
 refine aZ ?_
 obtain ⟨E,i,b⟩:=bd b
 refine aU ?_
 refine lC 0 oO R (Z1f_ok i) R ?_
 rintro _
 refine cE ?_
 cases b
 exact qF () tI
 refine dO ?_
 split at b
 refine aZ ?_
 obtain ⟨F,j,b⟩:=bd b
 refine aU ?_
 refine lC 0 z8 R (Z3v_ok j) R ?_
 rintro _
 refine cE ?_
 cases b
 exact qF () tI
 refine dO ?_
 split at b
 refine dO ?_
 split at b
 refine j7 ?_
 cases b
 exact qF () tI
 refine iY ?_
 cases b
 exact qF () tI
 refine dO ?_
 split at b
 refine dO ?_
 split at b
 refine j7 ?_
 cases b
 exact qF () tI
 refine iY ?_
 cases b
 exact qF () tI
 refine dO ?_
 split at b
 refine cE ?_
 exact qI ((decide (G<I)),()) b tI
 refine dO ?_
 split at b
 refine dI ?_
 exact qI ((s==u),()) b tI
 refine aU ?_
 exact qI (false,()) b tI
 rintro ⟨B,_⟩ σ1 b
 dsimp only [Z1n_J1] at b
 refine cE ?_
 split at b
 refine dI ?_
 cases b
 exact qF () tI
 refine dC ?_
 cases b
 exact qF () tI
theorem Z12_ok  {F:Int}{M:Tensor}{U:Tensor}{r:Tensor}(g:Z12 F M U=some r) :
 FnOk Tryz.prog 88 [(iv F),(.agg [(.slice A3 N3 D3),(.slice A4 N4 D4)].toArray),(.agg [(.slice A6 N6 D6),(.slice A7 N7 D7)].toArray)] [aQ kT3 (.slice A3 N3 D3) M.Dims,aQ kT3 (.slice A4 N4 D4) M.Data,aQ kT3 (.slice A6 N6 D6) U.Dims,aQ kT3 (.slice A7 N7 D7) U.Data] (fun (h:HH×HH)=>((.agg [(s3 h.1),(s3 h.2)].toArray),[ow kT3 3 (s3 h.1) r.Dims,ow kT3 3 (s3 h.2) r.Data])):=by
 unfold Z12 at g
 refine aR Tryz.func88 R 73 R R fun C V=>?_
 refine cL 0 aA ?_
 rintro rfl
 refine cL 1 aA ?_
 rintro rfl
 refine cL 2 aA ?_
 rintro rfl
 refine cL 3 aA ?_
 rintro rfl
 let W0:=RR kT3 A3 D3 M.Dims::RR kT3 A4 D4 M.Data::RR kT3 A6 D6 U.Dims::RR kT3 A7 D7 U.Data::V
 refine cN W0 ?_
 refine aZ ?_
 refine eA R fun b8=>?_
 refine eA R fun b9=>?_
 refine aY R R dN (fun m=>(aC ?_))
 let W1:=aJ b9 [(sc A6 U.Dims D6),(sc A7 U.Data D7)] 42::aJ b8 [(sc A3 M.Dims D3),(sc A4 M.Data D4)] 42::W0
 refine aU ?_
 obtain ⟨Z,a5,g⟩:=bd g
 obtain ⟨a0,a6,g⟩:=bd g
 refine cQ [(0,(iv F)),(4,(pt b8 0)),(5,(pt b9 0)),(6,(pt m 0)),(26,(.bool ((((!Z)||(!a0))||(decide (F<1)))||(decide (F>8)))))] (aJ m [(.slice none 0 0),(.slice none 0 0)] 42::W1) ?_ ?_
 refine aZ ?_
 refine lM _ (fun w s=>(((s.d 3 R).d 5 R).e 3 [1,0,2])) ?_
 refine lC 2 mL R (Zi_ok a5) R ?_
 rintro _
 refine aZ ?_
 rcases bo (!Z) with Y | Y
 refine lv ?_
 exact qj tI
 refine cA ?_
 refine lM _ (fun w s=>(((s.d 5 R).d 7 R).e 3 [1,0,2])) ?_
 refine bY 2 R (bJ Y) mL R (Zi_ok (bL a6 (cP Y))) R ?_
 rintro _
 refine aU ?_
 rcases bo ((!Z)||(!a0)) with a1 | a1
 refine dI ?_
 exact qj tI
 refine bI ?_
 rcases bo (((!Z)||(!a0))||(decide (F<1))) with a3 | a3
 refine bI ?_
 exact qj tI
 refine bI ?_
 exact qj tI
 rintro σ1
 refine cA ?_
 split at g
 refine aU ?_
 refine lO (vz (.agg [(.slice none 0 0),(.slice none 0 0)].toArray) (aV hG dN R R)) (aL 0 R R bW R R R R R R (aC (aE (bO (bP ?_)))))
 cases g
 exact qS ((none,0,0),(none,0,0)) (fun w s=>(((s.nilo kT3 3).nilo kT3 3).e 9 [1,0]))
 refine bI ?_
 obtain ⟨i,a7,g⟩:=bd g
 refine cR ?_
 refine lM _ (fun w s=>(((s.d 3 R).d 6 R).e 3 [1,0,2])) ?_
 refine lC 2 z7 R (Zz_ok a7) R ?_
 rintro ⟨q,an,D⟩
 refine aM 0 aB ?_
 rintro rfl
 refine cR ?_
 refine cQ [(0,(iv F)),(4,(pt b8 0)),(5,(pt b9 0)),(6,(pt m 0)),(7,(sc q i D)),(46,(.bool ((decide ((i.length:Int)<(M.Dims.length:Int)))||(decide ((i.length:Int)<(U.Dims.length:Int))))))] (aJ m [(.slice none 0 0),(.slice none 0 0)] 42::OO kT3 3 q D i::W1) ?_ ?_
 refine dI ?_
 rcases bo (decide ((i.length:Int)<(M.Dims.length:Int))) with a4 | a4
 refine dI ?_
 exact qj (tE 2 [1,0])
 refine dI ?_
 exact qj (tE 2 [1,0])
 rintro σ1
 refine cA ?_
 split at g
 refine aU ?_
 refine lO (vz (.agg [(.slice none 0 0),(.slice none 0 0)].toArray) (aV hG dN R R)) (aL 0 R R bW R R R R R R (aC (aE (bO (bP ?_)))))
 cases g
 exact qS ((none,0,0),(none,0,0)) (fun w s=>(((s.nilo kT3 3).nilo kT3 3).e 10 [1,0]))
 refine bI ?_
 obtain ⟨b,a8,g⟩:=bd g
 refine aZ ?_
 refine lM _ (tE 2 [1,0]) ?_
 refine lC 1 kX R (FnOk.lends (A':=[OO kT3 3 q D i]) (A:=[RR kT3 q D i]) (B:=[]) (Z0g_ok a8) ⟨aP,trivial⟩ (fun _=>⟨(bB iF),(bB iF),trivial⟩)) R ?_
 rintro ⟨⟨u,ao,E⟩,⟨j,ap,l⟩⟩
 refine aM 1 aB ?_
 rintro rfl
 refine aM 2 aB ?_
 rintro rfl
 refine aY R R dN (fun O=>(aL 0 R R bW R R R R R R (lN (aJ O [(sc u b.Dims E),(sc j b.Data l)] 42::_::_::_::_::W1) ?_)))
 refine aU ?_
 refine bE (A:=((List Int))×(Unit)) (fun a=>Z12_J1 b a.1=some r) (fun a=>[(6,(pt m 0)),(8,(pt O 0))]) (fun a=>aJ m [(.slice none 0 0),(.slice none 0 0)] 42::aJ O [(sc u b.Dims E),(sc j b.Data l)] 42::OO kT3 3 u E b.Dims::ow kT3 3 (.slice j b.Data.length l) a.1::W1) ?_ ?_
 refine cE ?_
 obtain ⟨e1,ai,ah⟩:=bd g
 refine bF (A:=Unit) ai (fun s a=>[(0,(iv F)),(4,(pt b8 0)),(5,(pt b9 0)),(6,(pt m 0)),(7,(sc q i D)),(8,(pt O 0)),(9,(iv s.2))]) (fun s a=>aJ m [(.slice none 0 0),(.slice none 0 0)] 42::OO kT3 3 q D i::aJ O [(sc u b.Dims E),(sc j b.Data l)] 42::OO kT3 3 u E b.Dims::ow kT3 3 (.slice j b.Data.length l) s.1::W1) () (aS R) (tE 5 [4,1,0,2,3]) ?_
 rintro ⟨ak,aj⟩ _ σ1 am g ag
 dsimp only [Z12_L1] at g
 refine dA ?_
 split at g
 refine cE ?_
 obtain ⟨T,a9,g⟩:=bd g
 refine aU ?_
 refine lM _ (tE 5 [1,0,2,3,4]) ?_
 refine lC 1 lU R (FnOk.lends (A':=[OO kT3 3 q D i]) (A:=[RR kT3 q D i]) (B:=[]) (Zj_ok a9) ⟨aP,trivial⟩ (fun _=>⟨(bB iF),trivial⟩)) R ?_
 rintro ⟨J,aq,L⟩
 refine aM 1 aB ?_
 rintro rfl
 refine aU ?_
 obtain ⟨au,aa,g⟩:=bd g
 obtain ⟨av,ab,g⟩:=bd g
 obtain ⟨ae,ac,g⟩:=bd g
 obtain ⟨G,g⟩:=gd g
 refine bA 5 aB (show 0<b.Data.length by have:=G; omega) (fun ar o56 ha=>?_)
 subst ha
 refine cX 13 [5] bM fun ht hn=>?_
 refine sT 0 [5] ?_
 refine hY 7 [5] ?_
 refine d1 6 R (lM _ (fun w s=>(((s.d 8 R).d 10 R).e 8 [3,1,0,2,4,5,6,7])) ?_)
 refine lC 3 wg R (FnOk.lends (A':=[OO kT3 3 J L T]) (A:=[RR kT3 J L T]) (B:=[RR kT3 A3 D3 M.Dims,RR kT3 A4 D4 M.Data]) (FnOk.perm (Z08_ok aa) (Pre':=[RR kT3 J L T,RR kT3 A3 D3 M.Dims,RR kT3 A4 D4 M.Data]) (fun _ _ _ s=>(s.e 3 [1,2,0]))) ⟨aP,trivial⟩ (fun _=>trivial)) R ?_
 rintro _
 refine aC (aG (tE 6 [1,0,2,3,4]) (d1 9 R (lM _ (fun w s=>(((s.d 10 R).d 12 R).e 8 [2,1,0,3,4,5,6,7])) ?_)))
 refine lC 3 wg R (FnOk.lends (A':=[OO kT3 3 J L T]) (A:=[RR kT3 J L T]) (B:=[RR kT3 A6 D6 U.Dims,RR kT3 A7 D7 U.Data]) (FnOk.perm (Z08_ok ab) (Pre':=[RR kT3 J L T,RR kT3 A6 D6 U.Dims,RR kT3 A7 D7 U.Data]) (fun _ _ _ s=>(s.e 3 [1,2,0]))) ⟨aP,trivial⟩ (fun _=>trivial)) R ?_
 rintro _
 refine aC (aG (tE 6 [1,0,2,3,4]) (d1 10 R (lC 0 za R (Z1n_ok ac) R ?_)))
 rintro _
 refine aC (aG (tE 6 [1,0,2,3,4]) (dR 11 R (eE bT cS R R G) (hS:=(tE 6 [1,0,2,3,4])) (d1 12 R (lM _ (fun w s=>(s.f 6 [5,1,0,5])) ?_))))
 refine dZ (K:=kT3) (x':=ae) 0 aj R R cS R R G.1 G.2 ?_ ?_
 exact fun I h s=>(hD).put I h () ae s
 refine aC (aG (tE 6 [2,1,3,4,5]) (dD ?_))
 refine dO ?_
 cases g
 exact qA () (tE 6 [3,2,4,5,0])
 refine aU ?_
 cases g
 obtain rfl:=ag _ R
 have g:=ah
 refine aZ ?_
 exact qI (ak,()) g (tE 5 [0,2,3,4])
 rintro ⟨al,_⟩ σ1 g
 dsimp only [Z12_J1] at g
 refine aU ?_
 refine aL 0 R R bW R R R R R R (lN (aJ m [(sc u b.Dims E),(sc j b.Data l)] 42::aJ O [(sc u b.Dims E),(sc j b.Data l)] 42::_::ow kT3 3 (.slice j b.Data.length l) al::W1) ?_)
 refine aU ?_
 cases g
 exact qS ((u,b.Dims.length,E),(j,b.Data.length,l)) (tE 10 [2,3])
theorem Z33_ok  {e:Int}{j:Int}{r:Int}(a:Z33 e j=some r) :
 FnOk Tryz.prog 122 [(iv e),(iv j)] [] (fun (h:Unit)=>((iv r),[])):=by
 unfold Z33 at a
 refine aR Tryz.func122 R 20 R R fun C V=>?_
 refine cN V ?_
 refine yT ?_
 split at a
 refine aZ ?_
 obtain ⟨l,g,a⟩:=bd a
 refine aZ ?_
 refine lC 0 wc R (Z2b_ok g) R ?_
 rintro _
 refine cE ?_
 cases a
 exact qF () tI
 refine dO ?_
 split at a
 refine aZ ?_
 obtain ⟨m,i,a⟩:=bd a
 refine aZ ?_
 refine lC 0 wf R (Z2a_ok i) R ?_
 rintro _
 refine cE ?_
 cases a
 exact qF () tI
 refine cE ?_
 obtain ⟨q,b,a⟩:=bd a
 refine aZ ?_
 refine lC 0 oN R (Z1e_ok b) R ?_
 rintro _
 refine aU ?_
 split at a
 refine dI ?_
 cases a
 exact qF () tI
 refine dA ?_
 split at a
 refine dI ?_
 cases a
 exact qF () tI
 refine dA ?_
 cases a
 exact qF () tI
theorem Z11_ok  {l:Int}{u:Tensor}{r:Tensor}(g:Z11 l u=some r) :
 FnOk Tryz.prog 89 [(iv l),(.agg [(.slice A3 N3 D3),(.slice A4 N4 D4)].toArray)] [aQ kT3 (.slice A3 N3 D3) u.Dims,aQ kT3 (.slice A4 N4 D4) u.Data] (fun (h:HH×HH)=>((.agg [(s3 h.1),(s3 h.2)].toArray),[ow kT3 3 (s3 h.1) r.Dims,ow kT3 3 (s3 h.2) r.Data])):=by
 unfold Z11 at g
 refine aR Tryz.func89 R 41 R R fun C V=>?_
 refine cL 0 aA ?_
 rintro rfl
 refine cL 1 aA ?_
 rintro rfl
 let W0:=RR kT3 A3 D3 u.Dims::RR kT3 A4 D4 u.Data::V
 refine cN W0 ?_
 refine aZ ?_
 refine eA R fun M=>?_
 refine aY R R dN (fun B=>(aC ?_))
 let D:=aJ M [(sc A3 u.Dims D3),(sc A4 u.Data D4)] 42::W0
 refine aU ?_
 obtain ⟨r7,a0,g⟩:=bd g
 refine cQ [(0,(iv l)),(3,(pt M 0)),(4,(pt B 0)),(17,(.bool (((!r7)||(decide (l<1)))||(decide (l>4)))))] (aJ B [(.slice none 0 0),(.slice none 0 0)] 42::D) ?_ ?_
 refine aZ ?_
 refine lM _ (fun w s=>(((s.d 2 R).d 4 R).e 3 [1,0,2])) ?_
 refine lC 2 mL R (Zi_ok a0) R ?_
 rintro _
 refine aZ ?_
 rcases bo (!r7) with T | T
 refine dI ?_
 exact qj tI
 refine bI ?_
 rcases bo ((!r7)||(decide (l<1))) with E | E
 refine bI ?_
 exact qj tI
 refine bI ?_
 exact qj tI
 rintro σ1
 refine cA ?_
 split at g
 refine aU ?_
 refine lO (vz (.agg [(.slice none 0 0),(.slice none 0 0)].toArray) (aV hG dN R R)) (aL 0 R R bW R R R R R R (aC (aE (bO (bP ?_)))))
 cases g
 exact qS ((none,0,0),(none,0,0)) (fun w s=>(((s.nilo kT3 3).nilo kT3 3).e 6 [1,0]))
 refine bI ?_
 obtain ⟨b,G,g⟩:=bd g
 refine aU ?_
 refine lM _ (fun w s=>(s.d 2 R)) ?_
 refine lC 1 kX R (Z0g_ok G) R ?_
 rintro ⟨⟨A14,N14,D14⟩,⟨i,a5,j⟩⟩
 refine aM 0 aB ?_
 rintro rfl
 refine aM 1 aB ?_
 rintro rfl
 refine aY R R dN (fun m=>(aL 0 R R bW R R R R R R (lN (aJ m [(sc A14 b.Dims D14),(sc i b.Data j)] 42::_::_::_::D) ?_)))
 refine aU ?_
 refine bE (A:=((List Int))×(Unit)) (fun a=>Z11_J1 b a.1=some r) (fun a=>[(4,(pt B 0)),(5,(pt m 0))]) (fun a=>aJ B [(.slice none 0 0),(.slice none 0 0)] 42::aJ m [(sc A14 b.Dims D14),(sc i b.Data j)] 42::OO kT3 3 A14 D14 b.Dims::ow kT3 3 (.slice i b.Data.length j) a.1::D) ?_ ?_
 refine cE ?_
 obtain ⟨e1,Z,Y⟩:=bd g
 refine bF (A:=Unit) Z (fun s a=>[(0,(iv l)),(3,(pt M 0)),(4,(pt B 0)),(5,(pt m 0)),(6,(iv s.2))]) (fun s a=>aJ B [(.slice none 0 0),(.slice none 0 0)] 42::aJ m [(sc A14 b.Dims D14),(sc i b.Data j)] 42::OO kT3 3 A14 D14 b.Dims::ow kT3 3 (.slice i b.Data.length j) s.1::D) () (aS R) (tE 4 [3,0,1,2]) ?_
 rintro ⟨a2,a1⟩ _ σ1 a4 g U
 dsimp only [Z11_L1] at g
 refine dA ?_
 split at g
 refine cR ?_
 obtain ⟨F,g⟩:=gd g
 obtain ⟨L,J,g⟩:=bd g
 obtain ⟨q,g⟩:=gd g
 refine bA 6 aA (show 0<u.Data.length by have:=F; omega) (fun a6 o31 O=>?_)
 subst O
 refine bA 3 aB (show 0<b.Data.length by have:=q; omega) (fun a7 o36 O=>?_)
 subst O
 refine cX 12 [3] bM fun ht hn=>?_
 refine w8 0 [3] ?_
 refine d1 9 R (lC 0 zb R (Z33_ok J) R ?_)
 rintro _
 refine aC (aG (sL [3]) ?_)
 refine oJ 10 [3] ?_
 refine d1 11 R (lM _ (tE 4 [3,0,1,2]) ?_)
 refine dZ (K:=kT3) (x':=L) 0 a1 R R cS R R q.1 q.2 ?_ ?_
 exact fun I h s=>(hD).put I h () L s
 refine aC (aG (sL [0]) (dD ?_))
 refine dO ?_
 cases g
 exact qA () (tE 4 [1,2,3,0])
 refine aU ?_
 cases g
 obtain rfl:=U _ R
 have g:=Y
 refine aZ ?_
 exact qI (a2,()) g tI
 rintro ⟨a3,_⟩ σ1 g
 dsimp only [Z11_J1] at g
 refine aU ?_
 refine aL 0 R R bW R R R R R R (lN (aJ B [(sc A14 b.Dims D14),(sc i b.Data j)] 42::aJ m [(sc A14 b.Dims D14),(sc i b.Data j)] 42::_::ow kT3 3 (.slice i b.Data.length j) a3::D) ?_)
 refine aU ?_
 cases g
 exact qS ((A14,b.Dims.length,D14),(i,b.Data.length,j)) (tE 7 [2,3])
theorem Z1g_ok  {t1:Tensor}{a:Int}{r:Bool}(b:Z1g t1 a=some r) :
 FnOk Tryz.prog 123 [(.agg [(.slice A2 N2 D2),(.slice A3 N3 D3)].toArray),(iv a)] [aQ kT3 (.slice A2 N2 D2) t1.Dims,aQ kT3 (.slice A3 N3 D3) t1.Data] (fun (h:Unit)=>((.bool r),[])):=by
 unfold Z1g at b
 refine aR Tryz.func123 R 18 R R fun C V=>?_
 refine cL 0 aA ?_
 rintro rfl
 refine cL 1 aA ?_
 rintro rfl
 let q:=RR kT3 A2 D2 t1.Dims::RR kT3 A3 D3 t1.Data::V
 refine cN q ?_
 refine aZ ?_
 refine eA R fun u=>?_
 refine aZ ?_
 let g:=aJ u [(sc A2 t1.Dims D2),(sc A3 t1.Data D3)] 42::q
 refine qN g ?_
 refine aZ ?_
 obtain ⟨m,l,b⟩:=bd b
 refine cQ [(4,(.bool ((m&&(decide (a≥0)))&&(decide (a<(t1.Dims.length:Int))))))] (g) ?_ ?_
 refine aZ ?_
 refine lM _ (fun w s=>(((s.d 1 R).d 3 R).e 2 [1,0])) ?_
 refine lC 2 mL R (Zi_ok l) R ?_
 rintro _
 refine lN g ?_
 refine cA ?_
 rcases bo m with i | i
 refine bI ?_
 rcases bo (m&&(decide (a≥0))) with j | j
 refine dI ?_
 exact qj tI
 refine dI ?_
 exact qj tI
 refine iY ?_
 exact qj tI
 rintro σ1
 refine aZ ?_
 cases b
 exact qF () (tE 3 [])
theorem Z0h_ok  {a1:(List Int)}{i:Int}{e:Int}{r:(List Int)}(b:Z0h a1 i e=some r) :
 FnOk Tryz.prog 139 [(.slice A2 N2 D2),(iv i),(iv e)] [aQ kT3 (.slice A2 N2 D2) a1] (fun (h:HH)=>((s3 h),[ow kT3 3 (s3 h) r])):=by
 unfold Z0h at b
 refine aR Tryz.func139 R 15 R R fun C V=>?_
 refine cL 0 aA ?_
 rintro rfl
 let l:=RR kT3 A2 D2 a1::V
 refine cN l ?_
 refine cE ?_
 obtain ⟨j,g,b⟩:=bd b
 refine aZ ?_
 refine lM _ (fun w s=>(s.d 0 R)) ?_
 refine lC 1 iP R (Z9_ok g) R ?_
 rintro ⟨A7,N7,D7⟩
 refine aM 0 aB ?_
 rintro rfl
 refine bI ?_
 obtain ⟨a,b⟩:=gd b
 refine bI ?_
 refine bG 0 aB (show 0<j.length by have:=a; omega) (fun m o10 q=>?_)
 subst q
 refine cA ?_
 refine dZ (K:=kT3) (x':=e) 0 i R R cS R R a.1 a.2 ?_ ?_
 exact fun I h s=>(hD).put I h () e s
 refine dC ?_
 cases b
 exact qF ((ad m o10),j.length,D7) (tE 2 [0])
theorem Z0x_ok  {t1:Tensor}{g:Int}{J:(List Int)}{r:(List Int)}(b:Z0x t1 g J=some r) :
 FnOk Tryz.prog 124 [(.agg [(.slice A2 N2 D2),(.slice A3 N3 D3)].toArray),(iv g),(.slice A6 N6 D6)] [aQ kT3 (.slice A2 N2 D2) t1.Dims,aQ kT3 (.slice A3 N3 D3) t1.Data,aQ kT3 (.slice A6 N6 D6) J] (fun (h:HH)=>((.slice h.1 h.2.1 h.2.2),[ow kT3 3 (.slice h.1 h.2.1 h.2.2) r])):=by
 unfold Z0x at b
 refine aR Tryz.func124 R 29 R R fun C V=>?_
 refine cN (_::_::_::V) ?_
 refine cL 0 aA ?_
 rintro rfl
 refine cL 1 aA ?_
 rintro rfl
 refine cL 2 aA ?_
 rintro rfl
 let W0:List HP:=RR kT3 A2 D2 t1.Dims::RR kT3 A3 D3 t1.Data::RR kT3 A6 D6 J::V
 refine cN W0 ?_
 refine aI (aD (eA R (fun b7=>(lS R (aC ?_)))))
 let l:List HP:=aJ b7 [(sc A2 t1.Dims D2),(sc A3 t1.Data D3)] 42::W0
 refine qN l ?_
 refine aE (aI (aD (bU (K:=kT3) (xs:=([]:List Int)) (vs:=[]) 0 R R bT cS iu R R R R R R ?_ R (fun A8 D8=>?_))))
 exact fun I h s=>(hD).list [] I h s
 refine lN (OO kT3 3 A8 D8 ([]:List Int)::l) ?_
 refine lS R (aC (aE (aI (bE (A:=((List Int))×(HH)) (fun a=>Z0x_J1 a.1=some r) (fun a=>[(7,(.slice a.2.1 a.2.2.1 a.2.2.2))]) (fun a=>ow kT3 3 (.slice a.2.1 a.2.2.1 a.2.2.2) a.1::l) ?_ ?_))))
 refine aI (aD (lI R (aC (aE (dK ?_)))))
 obtain ⟨e1,aa,a9⟩:=bd b
 refine bF (A:=HH) aa (fun s a=>[(1,(iv g)),(2,(sc A6 J D6)),(3,(pt b7 0)),(7,(.slice a.1 a.2.1 a.2.2)),(8,(iv s.2))]) (fun s a=>ow kT3 3 (.slice a.1 a.2.1 a.2.2) s.1::l) (A8,([]:List Int).length,D8) (aS R) (fun w s=>s) ?_
 rintro ⟨i,ab⟩ ⟨L,a5,O⟩ σ1 a0 b a8
 replace b:Z0x_L1 t1 g J i ab=some a0:=b
 unfold Z0x_L1 at b
 refine bQ 0 aB (fun (hn:a5=i.length)=>?_)
 subst hn
 refine aI (aI ?_)
 obtain ⟨q,b⟩:=gd b
 refine aD (lI R (lO (dS 0 fT R) (lO (dV 1 cB R R R) (lI R (bG 2 aA (show 0<t1.Dims.length by have:=q; omega) (fun E o26 ha=>?_))))))
 subst ha
 refine lO (eE bT cS R R q) (lO (hX 2 fR aA R q) (lO (jh R R) (aC (aE ?_))))
 rcases cG b with ⟨m,b⟩|⟨m,b⟩
 refine bS R m (bZ (aE (aI (dK ?_))))
 obtain ⟨F,Y,b⟩:=bd b
 obtain ⟨j,Z,b⟩:=bd b
 obtain ⟨U,b⟩:=gd b
 refine cX 10 [0] bM (fun ht hn=>(dR 0 R (vS R) (hS:=(sL [0])) (dR 1 R (vz (.agg [(sc (ad E o26) t1.Dims D2),(sc A3 t1.Data D3)].toArray) (bK 0 eR bW R R R R)) (hS:=(sL [0])) (dR 2 R (vS R) (hS:=(sL [0])) (dR 3 R (vI R) (hS:=(sL [0])) (dR 4 R (vI R) (hS:=(sL [0])) (d1 5 R (lM (RR kT3 A6 D6 J::OO kT3 3 L O i::l) (fun w s=>(s.d 4 R)) ?_))))))))
 refine lC 1 kY R (Z0h_ok Y) R ?_
 rintro ⟨u,a6,D⟩
 refine lN (ow kT3 3 (.slice u a6 D) F::_::l) ?_
 refine aM 0 aB ?_
 rintro rfl
 refine aC (aG (sL [1,0]) (d1 6 R (lM (ow _ _ _ _::RR kT3 (ad E o26) D2 t1.Dims::RR kT3 A3 D3 t1.Data::ow _ _ _ _::l) (fun w s=>(((s.d 3 R).d 5 R).e 4 [2,1,0,3])) ?_)))
 refine lC 3 nr R (FnOk.lends (A':=[OO kT3 3 u D F]) (A:=[RR kT3 u D F]) (B:=[RR kT3 (ad E o26) D2 t1.Dims,RR kT3 A3 D3 t1.Data]) (FnOk.perm (Z16_ok Z) (Pre':=[RR kT3 u D F,RR kT3 (ad E o26) D2 t1.Dims,RR kT3 A3 D3 t1.Data]) (fun _ _ _ s=>(s.e 3 [1,2,0]))) ⟨aP,trivial⟩ (fun _=>trivial)) R ?_
 rintro _
 refine lN (_::_::l) ?_
 refine aC (aG (sL [1,0]) (d1 7 R (bU (K:=kT3) (xs:=([j]:List Int)) (vs:=[(iv j)]) 0 R R bT cS iu R R R R R R ?_ R (fun a1 a3=>?_))))
 exact fun I h s=>(hD).list [((),j)] I h s
 refine lN (OO kT3 3 a1 a3 ([j]:List Int)::_::_::l) ?_
 refine aC (aG (sL [2,1,0]) (d1 8 R (lM (ow _ _ _ _::ow _ _ _ _::ow _ _ _ _::l) (fun w s=>(s.e 3 [2,0,1])) ?_)))
 refine eO (K:=kT3) 17592186044416 R R bT cS kN (Zr.zk zT3 iu) R R R R R R dQ U (fun M T=>(lN (OO kT3 3 M T (i++([j]:List Int))::_::l) ?_))
 refine aC (aG (sL [1,0]) (dR 9 R (vS R) (hS:=(sL [1,0])) (dD (eC (aE (aD (lI R (lO (kM R R) (lI R (aC ?_))))))))))
 obtain rfl:=so b
 exact qA (M,(i++([j]:List Int)).length,T) (fun w s=>(s.e 2 [0]))
 refine bC R m (iB (eI ?_))
 obtain rfl:=so b
 obtain rfl:=a8 _ R
 have b:=a9
 refine eI (gM ?_)
 exact qI (i,(L,i.length,O)) b (fun w s=>s)
 rintro ⟨G,⟨a2,a7,a4⟩⟩ σ1 b
 replace b:Z0x_J1 G=some r:=b
 unfold Z0x_J1 at b
 refine bQ 0 aB (fun (hn:a7=G.length)=>?_)
 subst hn
 refine aI (aD (lS R (lS R (aC (aE (bO ?_))))))
 obtain rfl:=so b
 exact qF (a2,G.length,a4) (fun w s=>(s.e 5 [0]))
theorem Zc_ok  {t1:Tensor}{l:Int}{r:Tensor}(g:Zc t1 l=some r) :
 FnOk Tryz.prog 90 [(.agg [(.slice A2 N2 D2),(.slice A3 N3 D3)].toArray),(iv l)] [aQ kT3 (.slice A2 N2 D2) t1.Dims,aQ kT3 (.slice A3 N3 D3) t1.Data] (fun (h:HH×HH)=>((.agg [(s3 h.1),(s3 h.2)].toArray),[ow kT3 3 (s3 h.1) r.Dims,ow kT3 3 (s3 h.2) r.Data])):=by
 unfold Zc at g
 refine aR Tryz.func90 R 75 R R fun C V=>?_
 refine cL 0 aA ?_
 rintro rfl
 refine cL 1 aA ?_
 rintro rfl
 let W0:=RR kT3 A2 D2 t1.Dims::RR kT3 A3 D3 t1.Data::V
 refine cN W0 ?_
 refine aZ ?_
 refine eA R fun b5=>?_
 refine aY R R dN (fun O=>(aC ?_))
 let W1:=aJ b5 [(sc A2 t1.Dims D2),(sc A3 t1.Data D3)] 42::W0
 refine aU ?_
 obtain ⟨r7,av,g⟩:=bd g
 refine aU ?_
 refine lM _ (fun w s=>(((s.d 2 R).d 4 R).e 3 [1,0,2])) ?_
 refine lC 2 oP R (Z1g_ok av) R ?_
 rintro _
 refine aU ?_
 split at g
 refine aU ?_
 refine lO (vz (.agg [(.slice none 0 0),(.slice none 0 0)].toArray) (aV hG dN R R)) (aL 0 R R bW R R R R R R (aC (aE (bO (bP ?_)))))
 cases g
 exact qS ((none,0,0),(none,0,0)) (fun w s=>(((s.nilo kT3 3).nilo kT3 3).e 6 [1,0]))
 refine bI ?_
 obtain ⟨b,ag,g⟩:=bd g
 refine aU ?_
 refine lM _ (fun w s=>(s.d 2 R)) ?_
 refine lC 1 kX R (Z0g_ok ag) R ?_
 rintro ⟨⟨A12,N12,D12⟩,⟨i,b1,j⟩⟩
 refine aM 0 aB ?_
 rintro rfl
 refine aM 1 aB ?_
 rintro rfl
 refine aY R R dN (fun m=>(aL 0 R R bW R R R R R R (lN (aJ m [(sc A12 b.Dims D12),(sc i b.Data j)] 42::_::_::_::W1) ?_)))
 refine aU ?_
 refine bE (A:=((List Int))×(Unit)) (fun a=>Zc_J9 b a.1=some r) (fun a=>[(4,(pt O 0)),(5,(pt m 0))]) (fun a=>aJ O [(.slice none 0 0),(.slice none 0 0)] 42::aJ m [(sc A12 b.Dims D12),(sc i b.Data j)] 42::OO kT3 3 A12 D12 b.Dims::ow kT3 3 (.slice i b.Data.length j) a.1::W1) ?_ ?_
 refine cE ?_
 obtain ⟨e1,ar,ap⟩:=bd g
 refine bF (A:=Unit) ar (fun s a=>[(1,(iv l)),(2,(pt b5 0)),(4,(pt O 0)),(5,(pt m 0)),(6,(iv s.2))]) (fun s a=>aJ O [(.slice none 0 0),(.slice none 0 0)] 42::aJ m [(sc A12 b.Dims D12),(sc i b.Data j)] 42::OO kT3 3 A12 D12 b.Dims::ow kT3 3 (.slice i b.Data.length j) s.1::W1) () (aS R) (tE 4 [3,0,1,2]) ?_
 rintro ⟨M,L⟩ _ σ1 a3 g an
 dsimp only [Zc_L1] at g
 refine dA ?_
 split at g
 refine bI ?_
 refine bE (A:=((List Int))×(Unit)) (fun a=>Zc_J8 L a.1=some a3) (fun a=>[(1,(iv l)),(2,(pt b5 0)),(4,(pt O 0)),(5,(pt m 0)),(6,(iv L))]) (fun a=>aJ O [(.slice none 0 0),(.slice none 0 0)] 42::aJ m [(sc A12 b.Dims D12),(sc i b.Data j)] 42::OO kT3 3 A12 D12 b.Dims::ow kT3 3 (.slice i b.Data.length j) a.1::W1) ?_ ?_
 refine aZ ?_
 obtain ⟨D,ah,g⟩:=bd g
 refine bI ?_
 refine lM _ (fun w s=>(s.d 5 R)) ?_
 refine lC 1 lU R (Zj_ok ah) R ?_
 rintro ⟨F,b2,G⟩
 refine aM 0 aB ?_
 rintro rfl
 refine bI ?_
 obtain ⟨E,ai,g⟩:=bd g
 refine bI ?_
 refine lM _ (fun w s=>(((s.d 6 R).d 8 R).e 7 [2,1,0,3,4,5,6])) ?_
 refine lC 3 zd R (FnOk.lends (A':=[OO kT3 3 F G D]) (A:=[RR kT3 F G D]) (B:=[RR kT3 A2 D2 t1.Dims,RR kT3 A3 D3 t1.Data]) (FnOk.perm (Z0x_ok ai) (Pre':=[RR kT3 F G D,RR kT3 A2 D2 t1.Dims,RR kT3 A3 D3 t1.Data]) (fun _ _ _ s=>(s.e 3 [1,2,0]))) ⟨aP,trivial⟩ (fun _=>⟨(bB iF),trivial⟩)) R ?_
 rintro ⟨al,b3,am⟩
 refine aM 1 aB ?_
 rintro rfl
 refine dC ?_
 refine bE (A:=(Bool)×(Unit)) (fun a=>Zc_J7 b M L a.1=some a3) (fun a=>[(1,(iv l)),(2,(pt b5 0)),(4,(pt O 0)),(5,(pt m 0)),(6,(iv L)),(9,(.bool a.1))]) (fun a=>aJ O [(.slice none 0 0),(.slice none 0 0)] 42::aJ m [(sc A12 b.Dims D12),(sc i b.Data j)] 42::OO kT3 3 A12 D12 b.Dims::ow kT3 3 (.slice i b.Data.length j) M::W1) ?_ ?_
 refine cE ?_
 obtain ⟨e2,au,aq⟩:=bd g
 refine bF (A:=HH) au (fun s a=>[(1,(iv l)),(2,(pt b5 0)),(4,(pt O 0)),(5,(pt m 0)),(6,(iv L)),(7,(sc F D G)),(8,(s3 a)),(9,(.bool s.1)),(10,(iv s.2))]) (fun s a=>aJ O [(.slice none 0 0),(.slice none 0 0)] 42::aJ m [(sc A12 b.Dims D12),(sc i b.Data j)] 42::OO kT3 3 A12 D12 b.Dims::ow kT3 3 (.slice i b.Data.length j) M::OO kT3 3 F G D::ow kT3 3 (s3 a) E::W1) (al,E.length,am) (aS R) (fun w s=>(s.f 6 [2,4,0,2])) ?_
 rintro ⟨u,a0⟩ ⟨aw,aa,Y⟩ σ1 aj g ao
 dsimp only [Zc_L2] at g
 refine bQ 5 aB (fun (hn:aa=E.length)=>?_)
 subst hn
 refine dC ?_
 split at g
 refine bI ?_
 refine bE (A:=(Bool)×(HH)) (fun a=>Zc_J6 a0 a.1=some aj) (fun a=>[(1,(iv l)),(2,(pt b5 0)),(4,(pt O 0)),(5,(pt m 0)),(6,(iv L)),(7,(sc F D G)),(8,(s3 a.2)),(9,(.bool a.1)),(10,(iv a0))]) (fun a=>aJ O [(.slice none 0 0),(.slice none 0 0)] 42::aJ m [(sc A12 b.Dims D12),(sc i b.Data j)] 42::OO kT3 3 A12 D12 b.Dims::ow kT3 3 (.slice i b.Data.length j) M::OO kT3 3 F G D::ow kT3 3 (s3 a.2) E::W1) ?_ ?_
 refine aZ ?_
 obtain ⟨a4,g⟩:=gd g
 obtain ⟨a1,a6,g⟩:=bd g
 refine aU ?_
 refine bG 5 aB (show 0<E.length by have:=a4; omega) (fun Z o106 ha=>?_)
 subst ha
 refine aZ ?_
 refine lC 0 oN R (Z1e_ok a6) R ?_
 rintro _
 refine bI ?_
 obtain ⟨a5,g⟩:=gd g
 obtain ⟨a2,a7,g⟩:=bd g
 refine bI ?_
 refine bG 8 aA (show 0<t1.Data.length by have:=a5; omega) (fun ax o111 ha=>?_)
 subst ha
 refine aZ ?_
 refine lC 0 oN R (Z1e_ok a7) R ?_
 rintro _
 refine bI ?_
 obtain ⟨T,g⟩:=gd g
 refine cQ [(1,(iv l)),(2,(pt b5 0)),(4,(pt O 0)),(5,(pt m 0)),(6,(iv L)),(7,(sc F D G)),(8,(sc (ad Z o106) E Y)),(9,(.bool u)),(10,(iv a0)),(68,(.bool ((decide (a1>a2))||((a1==a2)&&(decide (a0<(ix D l)))))))] (aJ O [(.slice none 0 0),(.slice none 0 0)] 42::aJ m [(sc A12 b.Dims D12),(sc i b.Data j)] 42::OO kT3 3 A12 D12 b.Dims::ow kT3 3 (.slice i b.Data.length j) M::OO kT3 3 F G D::OO kT3 3 (ad Z o106) Y E::W1) ?_ ?_
 refine cR ?_
 rcases bo (decide (a1>a2)) with J | J
 refine lv ?_
 exact qj tI
 refine bI ?_
 rcases bo (a1==a2) with q | q
 refine aU ?_
 refine bG 4 aB (show 0<D.length by have:=(T J q); omega) (fun ay o116 ha=>?_)
 subst ha
 refine lW (eL q) (eE bT cS R R (T J q)) (lW (eL q) (hX 4 fR aB R (T J q)) ?_)
 refine bI ?_
 exact qj tI
 refine dC ?_
 exact qj tI
 rintro σ1
 refine cA ?_
 split at g
 refine cR ?_
 exact qI (false,((ad Z o106),E.length,Y)) g tI
 refine aU ?_
 exact qI (u,((ad Z o106),E.length,Y)) g tI
 rintro ⟨ac,⟨a8,ab,a9⟩⟩ σ1 g
 dsimp only [Zc_J6] at g
 refine bQ 5 aB (fun (hn:ab=E.length)=>?_)
 subst hn
 refine cR ?_
 cases g
 exact qA (a8,E.length,a9) tI
 refine aU ?_
 cases g
 obtain rfl:=ao _ R
 have g:=aq
 refine aZ ?_
 exact qI (u,()) g (fun w s=>(s.f 6 [0,4]))
 rintro ⟨ae,_⟩ σ1 g
 dsimp only [Zc_J7] at g
 refine cR ?_
 split at g
 refine cA ?_
 obtain ⟨U,g⟩:=gd g
 refine bI ?_
 refine bG 3 aB (show 0<b.Data.length by have:=U; omega) (fun az o129 ha=>?_)
 subst ha
 refine cA ?_
 refine lM _ (tE 4 [3,0,1,2]) ?_
 refine dZ (K:=kT3) (x':=(1:Int)) 0 L R R cS R R U.1 U.2 ?_ ?_
 exact fun I h s=>(hD).put I h () (1:Int) s
 refine aZ ?_
 exact qI ((M.set L.toNat (1:Int)),()) g (tE 4 [1,2,3,0])
 refine aU ?_
 exact qI (M,()) g tI
 rintro ⟨b0,_⟩ σ1 g
 dsimp only [Zc_J8] at g
 refine cR ?_
 cases g
 exact qA () tI
 refine aU ?_
 cases g
 obtain rfl:=an _ R
 have g:=ap
 refine aZ ?_
 exact qI (M,()) g tI
 rintro ⟨ak,_⟩ σ1 g
 dsimp only [Zc_J9] at g
 refine aU ?_
 refine aL 0 R R bW R R R R R R (lN (aJ O [(sc A12 b.Dims D12),(sc i b.Data j)] 42::aJ m [(sc A12 b.Dims D12),(sc i b.Data j)] 42::_::ow kT3 3 (.slice i b.Data.length j) ak::W1) ?_)
 refine aU ?_
 cases g
 exact qS ((A12,b.Dims.length,D12),(i,b.Data.length,j)) (tE 7 [2,3])
theorem Z0w_ok  {p1:aO}{r:Bool}(b:Z0w p1=some r) :
 FnOk Tryz.prog 153 [(aH p1)] [] (fun (h:Unit)=>((.bool r),[])):=by
 unfold Z0w at b
 refine aR Tryz.func153 R 23 R R fun C V=>?_
 refine cN V ?_
 refine cE ?_
 refine bE (A:=(Unit)×(Unit)) (fun a=>Z0w_J1 p1=some r) (fun a=>[(0,(aH p1))]) (fun a=>V) ?_ ?_
 refine cE ?_
 obtain ⟨u,m,l⟩:=bd b
 refine bF (A:=Unit) m (fun s a=>[(0,(aH p1)),(3,(iv s))]) (fun s a=>V) () (aS R) tI ?_
 rintro i _ σ1 q b j
 dsimp only [Z0w_L1] at b
 refine bI ?_
 refine lO (vp (aH p1) R) (lO (vz (il p1) (dM gA R)) ?_)
 refine aU ?_
 split at b
 refine cE ?_
 obtain ⟨g,b⟩:=gd b
 refine cQ [(0,(aH p1)),(3,(iv i)),(19,(.bool ((decide ((bt p1 i)<97))||(decide ((bt p1 i)>122)))))] (V) ?_ ?_
 refine aD (lO (vp (aH p1) R) (lI R (lO (vz (.int .u8 (bt p1 i)) (cU gA R R g.1 g.2)) (lO (vp (.bool (decide ((bt p1 i)<97))) R) (lB R ?_)))))
 rcases bo (decide ((bt p1 i)<97)) with e | e
 refine cE ?_
 exact qj tI
 refine lW (bJ e) (vp (aH p1) R) (lW (bJ e) (vI R) (lW (bJ e) (vz (.int .u8 (bt p1 i)) (cU gA R R g.1 g.2)) (lW (bJ e) (vp (.bool (decide ((bt p1 i)>122))) R) ?_)))
 refine aZ ?_
 exact qj tI
 rintro σ1
 refine cA ?_
 split at b
 refine dC ?_
 cases b
 obtain rfl:=j _ R
 have b:=l
 refine aU ?_
 cases b
 exact qF () tI
 refine dC ?_
 cases b
 exact qA () tI
 refine aU ?_
 cases b
 obtain rfl:=j _ R
 have b:=l
 refine aZ ?_
 exact qI ((),()) b tI
 rintro ⟨_,_⟩ σ1 b
 dsimp only [Z0w_J1] at b
 refine aZ ?_
 refine lO (vp (aH p1) R) (lO (vz (il p1) (dM gA R)) ?_)
 refine cR ?_
 cases b
 exact qF () tI
theorem Z0v_ok  {p1:aO}{j:Int}{r:Bool}(b:Z0v p1 j=some r) :
 FnOk Tryz.prog 154 [(aH p1),(.int .u8 j)] [] (fun (h:Unit)=>((.bool r),[])):=by
 unfold Z0v at b
 refine aR Tryz.func154 R 17 R R fun C V=>?_
 refine cN V ?_
 refine cE ?_
 refine bE (A:=(Unit)×(Unit)) (fun a=>Z0v_J1=some r) (fun a=>[]) (fun a=>V) ?_ ?_
 refine cE ?_
 obtain ⟨u,l,i⟩:=bd b
 refine bF (A:=Unit) l (fun s a=>[(0,(aH p1)),(1,(.int .u8 j)),(5,(iv s))]) (fun s a=>V) () (aS R) tI ?_
 rintro m _ σ1 q b e
 dsimp only [Z0v_L1] at b
 refine bI ?_
 refine lO (vp (aH p1) R) (lO (vz (il p1) (dM gA R)) ?_)
 refine aU ?_
 split at b
 refine cE ?_
 obtain ⟨g,b⟩:=gd b
 refine aD (lO (vp (aH p1) R) (lI R (lO (vz (.int .u8 (bt p1 m)) (cU gA R R g.1 g.2)) (lI R (lO (vp (.bool ((bt p1 m)==j)) R) ?_)))))
 refine aZ ?_
 split at b
 refine dC ?_
 cases b
 obtain rfl:=e _ R
 have b:=i
 refine aU ?_
 cases b
 exact qF () tI
 refine dC ?_
 cases b
 exact qA () tI
 refine aU ?_
 cases b
 obtain rfl:=e _ R
 have b:=i
 refine aZ ?_
 exact cJ ((),()) b trivial tI
 rintro ⟨_,_⟩ σ1 b
 dsimp only [Z0v_J1] at b
 refine cE ?_
 cases b
 exact qF () tI
theorem Z0_ok  {b:aO}{r:(List aO)×aO×Bool}(g:Z0 b=some r) :
 FnOk Tryz.prog 126 [(aH b)] [] (fun (h:HH)=>((.tuple [(s3 h),(aH r.2.1),(.bool r.2.2)].toArray),[ow kT9 9 (s3 h) r.1])):=by
 unfold Z0 at g
 refine aR Tryz.func126 R 124 R R fun C V=>?_
 refine cN V ?_
 refine aU ?_
 refine lO (vp (aH ([]:aO)) R) ?_
 refine cR ?_
 refine bU (K:=kT9) (xs:=([]:List aO)) (vs:=[]) 0 R R lV rD ze R R R R R R ?_ R (fun A2 D2=>?_)
 exact fun I h s=>(yy).list [] I h s
 refine dC ?_
 refine bE (A:=(Int)×(Unit)) (fun a=>Z0_J1 b a.1=some r) (fun a=>[(0,(aH b)),(5,(sc A2 ([]:List aO) D2)),(6,(iv a.1))]) (fun a=>OO kT9 9 A2 D2 ([]:List aO)::V) ?_ ?_
 refine cA ?_
 obtain ⟨e1,b6,b3⟩:=bd g
 refine bF (A:=Unit) b6 (fun s a=>[(0,(aH b)),(5,(sc A2 ([]:List aO) D2)),(6,(iv s))]) (fun s a=>OO kT9 9 A2 D2 ([]:List aO)::V) () (aS R) tI ?_
 rintro T _ σ1 be g b0
 dsimp only [Z0_L1] at g
 refine aZ ?_
 obtain ⟨a8,g⟩:=gd g
 refine cQ [(0,(aH b)),(5,(sc A2 ([]:List aO) D2)),(6,(iv T)),(28,(.bool ((decide ((aK (T+1))<(b.length:Int)))&&(!((sub b T (aK (T+2)))==str0)))))] (OO kT9 9 A2 D2 ([]:List aO)::V) ?_ ?_
 refine aU ?_
 refine lO (vp (aH b) R) (lO (vz (il b) (dM gA R)) ?_)
 refine aZ ?_
 rcases bo (decide ((aK (T+1))<(b.length:Int))) with L | L
 refine lW (eL L) (vp (aH b) R) ?_
 refine aU ?_
 refine lW (eL L) (vz (aH (sub b T (aK (T+2)))) (iD T (aK (T+2)) gA R R R (a8 L).1 (a8 L).2.1 (a8 L).2.2)) (lW (eL L) (vz (.bool (!((sub b T (aK (T+2)))==str0))) (jd R R R)) ?_)
 refine aZ ?_
 exact qj tI
 refine dI ?_
 exact qj tI
 rintro σ1
 refine cA ?_
 split at g
 refine dA ?_
 cases g
 exact qA () tI
 refine aU ?_
 cases g
 obtain rfl:=b0 _ R
 have g:=b3
 refine aZ ?_
 exact qI (T,()) g tI
 rintro ⟨j,_⟩ σ1 g
 dsimp only [Z0_J1] at g
 refine cR ?_
 refine lO (vp (aH b) R) (lO (vz (il b) (dM gA R)) ?_)
 refine aU ?_
 split at g
 refine cR ?_
 refine lO (vp (aH ([]:aO)) R) ?_
 refine cR ?_
 cases g
 exact iI (A2,([]:List aO).length,D2) tI
 refine cR ?_
 refine bU (K:=kT9) (xs:=([]:List aO)) (vs:=[]) 0 R R lV rD ze R R R R R R ?_ R (fun ar av=>?_)
 exact fun I h s=>(yy).list [] I h s
 refine dC ?_
 refine bE (A:=((List aO))×(HH)) (fun a=>Z0_J4 b j a.1=some r) (fun a=>[(0,(aH b)),(5,(sc A2 ([]:List aO) D2)),(6,(iv j)),(7,(s3 a.2))]) (fun a=>OO kT9 9 A2 D2 ([]:List aO)::ow kT9 9 (s3 a.2) a.1::V) ?_ ?_
 refine cE ?_
 obtain ⟨e2,b7,b4⟩:=bd g
 refine bF (A:=HH) b7 (fun s a=>[(0,(aH b)),(5,(sc A2 ([]:List aO) D2)),(6,(iv j)),(7,(s3 a)),(8,(iv s.2.1)),(9,(iv s.2.2))]) (fun s a=>OO kT9 9 A2 D2 ([]:List aO)::ow kT9 9 (s3 a) s.1::V) (ar,([]:List aO).length,av) (aS R) (tE 2 [1,0]) ?_
 rintro ⟨i,E,B⟩ ⟨a4,ax,a5⟩ σ1 an g b1
 dsimp only [Z0_L2] at g
 refine bQ 1 aB (fun (hn:ax=i.length)=>?_)
 subst hn
 refine dI ?_
 split at g
 refine bI ?_
 refine bE (A:=((List aO)×Int)×(HH)) (fun a=>Z0_J3 B a.1.1 a.1.2=some an) (fun a=>[(0,(aH b)),(5,(sc A2 ([]:List aO) D2)),(6,(iv j)),(7,(s3 a.2)),(8,(iv a.1.2)),(9,(iv B))]) (fun a=>OO kT9 9 A2 D2 ([]:List aO)::ow kT9 9 (s3 a.2) a.1.1::V) ?_ ?_
 refine aZ ?_
 obtain ⟨a6,g⟩:=gd g
 refine cQ [(0,(aH b)),(5,(sc A2 ([]:List aO) D2)),(6,(iv j)),(7,(sc a4 i a5)),(8,(iv E)),(9,(iv B)),(51,(.bool ((B==j)||((bt b B)==44))))] (OO kT9 9 A2 D2 ([]:List aO)::OO kT9 9 a4 a5 i::V) ?_ ?_
 refine cR ?_
 rcases bo (B==j) with D | D
 refine cE ?_
 exact qj tI
 refine lW (bJ D) (vp (aH b) R) (lW (bJ D) (vI R) (lW (bJ D) (vz (.int .u8 (bt b B)) (cU gA R R (a6 D).1 (a6 D).2)) (lW (bJ D) (vp (.bool ((bt b B)==44)) R) ?_)))
 refine aZ ?_
 exact qj tI
 rintro σ1
 refine cA ?_
 split at g
 refine aZ ?_
 obtain ⟨Z,g⟩:=gd g
 obtain ⟨ah,g⟩:=gd g
 refine aZ ?_
 refine lO (vp (aH b) R) (lI R (lI R (lO (vz (aH (sub b E B)) (iD E B gA R R R Z.1 Z.2.1 Z.2.2)) (bU (K:=kT9) (xs:=([(sub b E B)]:List aO)) (vs:=[(aH (sub b E B))]) 0 R R lV rD ze R R R R R R ?_ R (fun bh bi=>?_)))))
 exact fun I h s=>(yy).list [((),(sub b E B))] I h s
 refine lM _ (tE 3 [2,0,1]) ?_
 refine eO (K:=kT9) 8796093022208 R R lV rD C7 (Zr.zk zT9 ze) R R R R R R dQ ah (fun ab ac=>(lN (OO kT9 9 ab ac (i++([(sub b E B)]:List aO))::_::V) ?_))
 refine dC ?_
 exact qI (((i++([(sub b E B)]:List aO)),(aK (B+1))),(ab,(i++([(sub b E B)]:List aO)).length,ac)) g (tE 2 [1,0])
 refine aU ?_
 exact qI ((i,E),(a4,i.length,a5)) g tI
 rintro ⟨⟨F,bl⟩,⟨au,ay,aw⟩⟩ σ1 g
 dsimp only [Z0_J3] at g
 refine bQ 1 aB (fun (hn:ay=F.length)=>?_)
 subst hn
 refine cR ?_
 cases g
 exact qA (au,F.length,aw) tI
 refine aU ?_
 cases g
 obtain rfl:=b1 _ R
 have g:=b4
 refine aZ ?_
 exact qI (i,(a4,i.length,a5)) g tI
 rintro ⟨e,⟨q,az,u⟩⟩ σ1 g
 dsimp only [Z0_J4] at g
 refine bQ 1 aB (fun (hn:az=e.length)=>?_)
 subst hn
 refine cA ?_
 obtain ⟨a0,g⟩:=gd g
 refine aD (lO (vp (aH b) R) (lI R (lO (kM R R) (lO (vz (aH (sub b (aK (j+2)) (b.length:Int))) (iD (aK (j+2)) (b.length:Int) gA R R R a0.1 a0.2.1 a0.2.2)) (lO (vp (aH (sub b (aK (j+2)) (b.length:Int))) R) ?_)))))
 refine bI ?_
 obtain ⟨bb,ak,g⟩:=bd g
 refine cQ [(5,(sc A2 ([]:List aO) D2)),(7,(sc q e u)),(10,(aH (sub b (aK (j+2)) (b.length:Int)))),(72,(.bool ((decide ((e.length:Int)>6))||(!bb))))] (OO kT9 9 A2 D2 ([]:List aO)::OO kT9 9 q u e::V) ?_ ?_
 refine cR ?_
 rcases bo (decide ((e.length:Int)>6)) with O | O
 refine cR ?_
 exact qj tI
 refine lW (bJ O) (vp (aH (sub b (aK (j+2)) (b.length:Int))) R) (bY 0 R (bJ O) wh R (Z0w_ok (bL ak (cP O))) R ?_)
 rintro _
 refine aU ?_
 exact qj tI
 rintro σ1
 refine cA ?_
 split at g
 refine cR ?_
 refine lO (vp (aH ([]:aO)) R) ?_
 refine cR ?_
 cases g
 exact iI (A2,([]:List aO).length,D2) (tE 2 [0])
 refine bI ?_
 refine bE (A:=(Unit)×(Unit)) (fun a=>Z0_J5 b j e=some r) (fun a=>[(5,(sc A2 ([]:List aO) D2)),(7,(sc q e u)),(10,(aH (sub b (aK (j+2)) (b.length:Int))))]) (fun a=>OO kT9 9 A2 D2 ([]:List aO)::OO kT9 9 q u e::V) ?_ ?_
 refine cE ?_
 obtain ⟨e3,b8,ai⟩:=bd g
 refine bF (A:=Unit) b8 (fun s a=>[(5,(sc A2 ([]:List aO) D2)),(7,(sc q e u)),(10,(aH (sub b (aK (j+2)) (b.length:Int)))),(11,(iv s))]) (fun s a=>OO kT9 9 A2 D2 ([]:List aO)::OO kT9 9 q u e::V) () (aS R) tI ?_
 rintro am _ σ1 bf g ae
 dsimp only [Z0_L3] at g
 refine dC ?_
 split at g
 refine cE ?_
 obtain ⟨a1,g⟩:=gd g
 obtain ⟨bk,al,g⟩:=bd g
 refine aU ?_
 refine bG 1 aB (show 0<e.length by have:=a1; omega) (fun bj o62 ha=>?_)
 subst ha
 refine cA ?_
 refine lO (vz (aH (ix e am)) (gW (K:=kT9) (fo:=0) (pr:=fun x=>(aH x)) 1 am pl (dT9.leaf fun _ _=>R) aB R a1.1 a1.2)) (lC 0 wh R (Z0w_ok al) R ?_)
 rintro _
 refine aU ?_
 split at g
 refine cR ?_
 refine lO (vp (aH ([]:aO)) R) ?_
 refine cE ?_
 cases g
 obtain rfl:=ae _ R
 have g:=ai
 refine aU ?_
 cases g
 exact iI (A2,([]:List aO).length,D2) (tE 2 [0])
 refine dC ?_
 cases g
 exact qA () tI
 refine aU ?_
 cases g
 obtain rfl:=ae _ R
 have g:=ai
 refine aZ ?_
 exact qI ((),()) g tI
 rintro ⟨_,_⟩ σ1 g
 dsimp only [Z0_J5] at g
 refine aI (bE (A:=(Unit)×(Unit)) (fun a=>Z0_J8 b j e=some r) (fun a=>[(7,(sc q e u)),(10,(aH (sub b (aK (j+2)) (b.length:Int))))]) (fun a=>OO kT9 9 q u e::V) ?_ ?_)
 refine cE ?_
 obtain ⟨e4,b9,aj⟩:=bd g
 refine bF (A:=Unit) b9 (fun s a=>[(5,(sc A2 ([]:List aO) D2)),(7,(sc q e u)),(10,(aH (sub b (aK (j+2)) (b.length:Int)))),(12,(iv s))]) (fun s a=>OO kT9 9 A2 D2 ([]:List aO)::OO kT9 9 q u e::V) () (aS R) tI ?_
 rintro J _ σ1 ao g ag
 dsimp only [Z0_L4] at g
 refine bI ?_
 refine lO (vp (aH (sub b (aK (j+2)) (b.length:Int))) R) (lO (vz (il (sub b (aK (j+2)) (b.length:Int))) (dM gA R)) ?_)
 refine aU ?_
 split at g
 refine j7 ?_
 refine bE (A:=(Bool)×(Unit)) (fun a=>Z0_J7 b j J a.1=some ao) (fun a=>[(5,(sc A2 ([]:List aO) D2)),(7,(sc q e u)),(10,(aH (sub b (aK (j+2)) (b.length:Int)))),(12,(iv J)),(13,(.bool a.1))]) (fun a=>OO kT9 9 A2 D2 ([]:List aO)::OO kT9 9 q u e::V) ?_ ?_
 refine cE ?_
 obtain ⟨e5,ba,b5⟩:=bd g
 refine bF (A:=Unit) ba (fun s a=>[(5,(sc A2 ([]:List aO) D2)),(7,(sc q e u)),(10,(aH (sub b (aK (j+2)) (b.length:Int)))),(12,(iv J)),(13,(.bool s.1)),(14,(iv s.2))]) (fun s a=>OO kT9 9 A2 D2 ([]:List aO)::OO kT9 9 q u e::V) () (aS R) tI ?_
 rintro ⟨a3,a2⟩ _ σ1 bg g b2
 dsimp only [Z0_L5] at g
 refine dC ?_
 split at g
 refine cR ?_
 obtain ⟨G,g⟩:=gd g
 obtain ⟨U,g⟩:=gd g
 obtain ⟨ap,a9,g⟩:=bd g
 refine cQ [(5,(sc A2 ([]:List aO) D2)),(7,(sc q e u)),(10,(aH (sub b (aK (j+2)) (b.length:Int)))),(12,(iv J)),(13,(.bool (a3||ap))),(14,(iv a2))] (OO kT9 9 A2 D2 ([]:List aO)::OO kT9 9 q u e::V) ?_ ?_
 rcases bo a3 with m | m
 refine cX 12 [] bM fun ht hn=>?_
 refine uK 0 [] ?_
 refine dD ?_
 exact qj tI
 refine bA 1 aB (show 0<e.length by have:=(G m); omega) (fun bc o108 ha=>?_)
 subst ha
 refine cX 12 [] bM fun ht hn=>?_
 refine oK 0 [] ?_
 refine dW 4 R (bJ m) (eE lV rD R R (G m)) (dW 5 R (bJ m) (vz (aH (ix e a2)) (gW (K:=kT9) (fo:=0) (pr:=fun x=>(aH x)) 1 a2 pl (dT9.leaf fun _ _=>R) aB R (G m).1 (G m).2)) (dW 6 R (bJ m) (vp (aH (sub b (aK (j+2)) (b.length:Int))) R) (dW 7 R (bJ m) (vI R) (dW 8 R (bJ m) (vz (.int .u8 (bt (sub b (aK (j+2)) (b.length:Int)) J)) (cU gA R R (U m).1 (U m).2)) (d1 9 R (bY 0 R (bJ m) wj R (Z0v_ok (bL a9 (cP m))) R ?_))))))
 rintro _
 refine aC (aG (sL []) ?_)
 refine hY 10 [] ?_
 refine dD ?_
 exact qj tI
 rintro σ1
 refine dO ?_
 cases g
 exact qA () tI
 refine aU ?_
 cases g
 obtain rfl:=b2 _ R
 have g:=b5
 refine aZ ?_
 exact qI (a3,()) g tI
 rintro ⟨a7,_⟩ σ1 g
 dsimp only [Z0_J7] at g
 refine cA ?_
 obtain ⟨M,g⟩:=gd g
 obtain ⟨Y,g⟩:=gd g
 obtain ⟨aq,aa,g⟩:=bd g
 refine cQ [(5,(sc A2 ([]:List aO) D2)),(7,(sc q e u)),(10,(aH (sub b (aK (j+2)) (b.length:Int)))),(12,(iv J)),(120,(.bool ((!a7)||aq)))] (OO kT9 9 A2 D2 ([]:List aO)::OO kT9 9 q u e::V) ?_ ?_
 rcases bo (!a7) with l | l
 refine cX 11 [] bM fun ht hn=>?_
 refine pA 0 [] ?_
 refine dD ?_
 exact qj tI
 refine cX 11 [] bM fun ht hn=>?_
 refine iJ 0 [] ?_
 refine dW 3 R (bJ l) (vp (aH (sub b (aK (j+2)) (b.length:Int))) R) (dW 4 R (bJ l) (vI R) (dW 5 R (bJ l) (vz (aH (sub (sub b (aK (j+2)) (b.length:Int)) (0:Int) J)) (iD (0:Int) J gA R R R (M l).1 (M l).2.1 (M l).2.2)) (dW 6 R (bJ l) (vp (aH (sub b (aK (j+2)) (b.length:Int))) R) (dW 7 R (bJ l) (vI R) (dW 8 R (bJ l) (vz (.int .u8 (bt (sub b (aK (j+2)) (b.length:Int)) J)) (cU gA R R (Y l).1 (Y l).2)) (d1 9 R (bY 0 R (bJ l) wj R (Z0v_ok (bL aa (cP l))) R ?_)))))))
 rintro _
 refine aC (aG (sL []) (dR 10 R (eH R l R) (dD ?_)))
 exact qj tI
 rintro σ1
 refine cA ?_
 split at g
 refine cR ?_
 refine lO (vp (aH ([]:aO)) R) ?_
 refine cE ?_
 cases g
 obtain rfl:=ag _ R
 have g:=aj
 refine aU ?_
 cases g
 exact iI (A2,([]:List aO).length,D2) (tE 2 [0])
 refine dC ?_
 cases g
 exact qA () tI
 refine aU ?_
 cases g
 obtain rfl:=ag _ R
 have g:=aj
 refine aZ ?_
 exact qI ((),()) g (tE 2 [1])
 rintro ⟨_,_⟩ σ1 g
 dsimp only [Z0_J8] at g
 refine aU ?_
 refine lO (vp (aH (sub b (aK (j+2)) (b.length:Int))) R) (lS R (lO (vp (aH (sub b (aK (j+2)) (b.length:Int))) R) ?_))
 refine bI ?_
 cases g
 exact iI (q,e.length,u) tI
theorem Z2_ok  {b:(List aO)}{p3:aO}{j:(List (List Int))}{r:aO×(List Int)×Bool}(B:Z2 b p3 j=some r) :
 FnOk Tryz.prog 127 [(.slice A2 N2 D2),(aH p3),(.slice A5 N5 D5)] [aQ kT9 (.slice A2 N2 D2) b,aQ kT23 (.slice A5 N5 D5) j] (fun (h:HH)=>((.tuple [(aH r.1),(s3 h),(.bool r.2.2)].toArray),[ow kT3 3 (s3 h) r.2.1])):=by
 unfold Z2 at B
 refine aR Tryz.func127 R 129 R R fun C V=>?_
 refine cL 0 aA ?_
 rintro rfl
 refine cL 1 aA ?_
 rintro rfl
 let W0:=RR kT9 A2 D2 b::RR kT23 A5 D5 j::V
 refine cN W0 ?_
 refine aZ ?_
 refine lO (vp (aH ([]:aO)) R) ?_
 refine cE ?_
 refine lO (vp (aH p3) R) (lO (vp (aH p3) R) ?_)
 refine aU ?_
 obtain ⟨au,B⟩:=gd B
 refine aD (lO (vp (aH p3) R) (lO (vz (il p3) (dM gA R)) (f' (K:=kT3) (m:=(p3.length:Int)) (z:=(0:Int)) R R bT cS kN (Zr.zk zT3 iu) (by decide) R R au.1 au.2.1 au.2.2 (fun A7 D7=>(lS R (aC (aE (aI (bE (A:=(aO×(List Int))×(HH)) (fun a=>Z2_J11 a.1.1 a.1.2=some r) (fun a=>[(9,(aH a.1.1)),(10,(s3 a.2))]) (fun a=>ow kT3 3 (s3 a.2) a.1.2::W0) ?_ ?_)))))))))
 refine cE ?_
 obtain ⟨e1,bn,av⟩:=bd B
 refine bF (A:=HH×HH×HH) bn (fun s a=>[(0,(s3 a.1)),(2,(s3 a.2.1)),(9,(aH s.1)),(10,(s3 a.2.2)),(11,(iv s.2.2))]) (fun s a=>aQ kT9 (s3 a.1) b::aQ kT23 (s3 a.2.1) j::ow kT3 3 (s3 a.2.2) s.2.1::W0) ((A2,b.length,D2),(A5,j.length,D5),(A7,(List.replicate (p3.length:Int).toNat (0:Int)).length,D7)) (aS R) (fun w s=>(((s.d 1 R).d 3 R).e 3 [1,0,2])) ?_
 rintro ⟨a7,F,l⟩ ⟨⟨bs,b2,J⟩,⟨bu,b3,L⟩,⟨ac,b4,ag⟩⟩ σ1 bj B an
 dsimp only [Z2_L1] at B
 refine bQ 0 aA (fun (hn:b2=b.length)=>?_)
 subst hn
 refine bQ 1 aA (fun (hn:b3=j.length)=>?_)
 subst hn
 refine bQ 2 aB (fun (hn:b4=F.length)=>?_)
 subst hn
 refine dC ?_
 split at B
 refine bI ?_
 refine bE (A:=(aO×(List Int))×(HH×HH×HH)) (fun a=>Z2_J10 l a.1.1 a.1.2=some bj) (fun a=>[(0,(s3 a.2.1)),(2,(s3 a.2.2.1)),(9,(aH a.1.1)),(10,(s3 a.2.2.2)),(11,(iv l))]) (fun a=>aQ kT9 (s3 a.2.1) b::aQ kT23 (s3 a.2.2.1) j::ow kT3 3 (s3 a.2.2.2) a.1.2::W0) ?_ ?_
 refine aU ?_
 obtain ⟨Y,B⟩:=gd B
 obtain ⟨T,B⟩:=gd B
 refine bA 1 aA (show 0<j.length by have:=Y; omega) (fun M o113 ha=>?_)
 subst ha
 refine dG (K:=kT23) 1 l dT23.dec R Y.1 Y.2 ?_
 rintro ⟨bv,c1⟩
 refine bA 2 aA (show 0<b.length by have:=T; omega) (fun O o117 ha=>?_)
 subst ha
 refine cX 11 [] bM fun ht hn=>?_
 refine iJ 0 [] ?_
 refine dR 3 R (eD (fo:=0) 0 cB R R R) ?_
 refine oK 4 [] ?_
 refine dR 8 R (vz (aH (ix b l)) (gW (K:=kT9) (fo:=0) (pr:=fun x=>(aH x)) 2 l pl (dT9.leaf fun _ _=>R) aA R T.1 T.2)) (dR 9 R (vz (il (ix b l)) (dM gA R)) (dR 10 R (sI R R) (dD (aE ?_))))
 split at B
 refine bI ?_
 refine lO (vp (aH ([]:aO)) R) ?_
 refine dI ?_
 cases B
 obtain rfl:=an _ R
 have B:=av
 refine aU ?_
 cases B
 exact iI (ac,F.length,ag) (tE 7 [4])
 refine dC ?_
 obtain ⟨e2,bp,bh⟩:=bd B
 refine bF (A:=HH) bp (fun s a=>[(0,(sc (ad O o117) b J)),(2,(sc (ad M o113) j L)),(9,(aH s.1)),(10,(s3 a)),(11,(iv l)),(12,(iv s.2.2))]) (fun s a=>RR kT9 (ad O o117) J b::RR kT23 (ad M o113) L j::ow kT3 3 (s3 a) s.2.1::W0) (ac,F.length,ag) (aS R) (fun w s=>(s.f 5 [2,3])) ?_
 rintro ⟨g,i,D⟩ ⟨Z,b5,a0⟩ σ1 am B bf
 dsimp only [Z2_L2] at B
 refine bQ 2 aB (fun (hn:b5=i.length)=>?_)
 subst hn
 refine dO ?_
 refine lO (vz (aH (ix b l)) (gW (K:=kT9) (fo:=0) (pr:=fun x=>(aH x)) 0 l pl (dT9.leaf fun _ _=>R) aA R T.1 T.2)) (lO (vz (il (ix b l)) (dM gA R)) ?_)
 refine aU ?_
 split at B
 refine j7 ?_
 refine bE (A:=(Int)×(Unit)) (fun a=>Z2_J8 b j l g i D a.1=some am) (fun a=>[(0,(sc (ad O o117) b J)),(2,(sc (ad M o113) j L)),(9,(aH g)),(10,(sc Z i a0)),(11,(iv l)),(12,(iv D)),(13,(iv a.1))]) (fun a=>RR kT9 (ad O o117) J b::RR kT23 (ad M o113) L j::OO kT3 3 Z a0 i::W0) ?_ ?_
 refine cA ?_
 obtain ⟨e3,bq,bm⟩:=bd B
 refine bF (A:=Unit) bq (fun s a=>[(0,(sc (ad O o117) b J)),(2,(sc (ad M o113) j L)),(9,(aH g)),(10,(sc Z i a0)),(11,(iv l)),(12,(iv D)),(13,(iv s))]) (fun s a=>RR kT9 (ad O o117) J b::RR kT23 (ad M o113) L j::OO kT3 3 Z a0 i::W0) () (aS R) tI ?_
 rintro a3 _ σ1 c8 B bl
 dsimp only [Z2_L3] at B
 refine aZ ?_
 obtain ⟨ah,B⟩:=gd B
 obtain ⟨ai,B⟩:=gd B
 refine cQ [(0,(sc (ad O o117) b J)),(2,(sc (ad M o113) j L)),(9,(aH g)),(10,(sc Z i a0)),(11,(iv l)),(12,(iv D)),(13,(iv a3)),(62,(.bool ((decide (a3<(g.length:Int)))&&((bt g a3) != (bt (ix b l) D)))))] (RR kT9 (ad O o117) J b::RR kT23 (ad M o113) L j::OO kT3 3 Z a0 i::W0) ?_ ?_
 rcases bo (decide (a3<(g.length:Int))) with E | E
 refine cX 16 [] bM fun ht hn=>?_
 refine dR 0 R (vI R) (dR 1 R (vp (aH g) R) (dR 2 R (vz (il g) (dM gA R)) ?_))
 refine hY 3 [] ?_
 refine dW 5 R (eL E) (vp (aH g) R) (dW 6 R (eL E) (vI R) (dW 7 R (eL E) (vz (.int .u8 (bt g a3)) (cU gA R R (ah E).1 (ah E).2)) ?_))
 refine iJ 8 [] ?_
 refine dW 11 R (eL E) (vz (aH (ix b l)) (gW (K:=kT9) (fo:=0) (pr:=fun x=>(aH x)) 0 l pl (dT9.leaf fun _ _=>R) aA R T.1 T.2)) (dW 12 R (eL E) (vI R) (dW 13 R (eL E) (vz (.int .u8 (bt (ix b l) D)) (cU gA R R (ai E).1 (ai E).2)) (dW 14 R (eL E) (vp (.bool ((bt g a3) != (bt (ix b l) D))) R) (dR 15 R (jw R E R) (dD ?_)))))
 exact qj tI
 refine cX 16 [] bM fun ht hn=>?_
 refine dR 0 R (vI R) (dR 1 R (vp (aH g) R) (dR 2 R (vz (il g) (dM gA R)) ?_))
 refine mI 3 [] ?_
 refine dD ?_
 exact qj tI
 rintro σ1
 refine cA ?_
 split at B
 refine dA ?_
 cases B
 exact qA () tI
 refine aU ?_
 cases B
 obtain rfl:=bl _ R
 have B:=bm
 refine aZ ?_
 exact qI (a3,()) B tI
 rintro ⟨a4,_⟩ σ1 B
 dsimp only [Z2_J8] at B
 refine aI (bE (A:=(aO×(List Int))×(HH)) (fun a=>Z2_J9 j l D a4 a.1.1 a.1.2=some am) (fun a=>[(0,(sc (ad O o117) b J)),(2,(sc (ad M o113) j L)),(9,(aH a.1.1)),(10,(s3 a.2)),(11,(iv l)),(12,(iv D)),(13,(iv a4))]) (fun a=>RR kT9 (ad O o117) J b::RR kT23 (ad M o113) L j::ow kT3 3 (s3 a.2) a.1.2::W0) ?_ ?_)
 refine aU ?_
 refine lO (vp (aH g) R) (lO (vz (il g) (dM gA R)) ?_)
 refine aU ?_
 split at B
 refine aZ ?_
 obtain ⟨a9,B⟩:=gd B
 obtain ⟨ao,B⟩:=gd B
 refine aD (lO (vp (aH g) R) ?_)
 refine aU ?_
 refine lO (vz (aH (ix b l)) (gW (K:=kT9) (fo:=0) (pr:=fun x=>(aH x)) 0 l pl (dT9.leaf fun _ _=>R) aA R T.1 T.2)) ?_
 refine aU ?_
 refine lO (vz (aH (sub (ix b l) D (aK (D+1)))) (iD D (aK (D+1)) gA R R R a9.1 a9.2.1 a9.2.2)) (lO (vz (aH (g++(sub (ix b l) D (aK (D+1))))) (nH R R ao)) (lO (vp (aH (g++(sub (ix b l) D (aK (D+1))))) R) ?_))
 refine aZ ?_
 obtain ⟨ap,B⟩:=gd B
 refine aZ ?_
 refine bU (K:=kT3) (xs:=([(0:Int)]:List Int)) (vs:=[(iv 0)]) 0 R R bT cS iu R R R R R R ?_ R (fun bw c2=>?_)
 exact fun I h s=>(hD).list [((),(0:Int))] I h s
 refine lM _ (tE 4 [3,0,1,2]) ?_
 refine eO (K:=kT3) 17592186044416 R R bT cS kN (Zr.zk zT3 iu) R R R R R R dQ ap (fun aj ak=>(lN (OO kT3 3 aj ak (i++([(0:Int)]:List Int))::_::_::W0) ?_))
 refine aZ ?_
 exact qI (((g++(sub (ix b l) D (aK (D+1)))),(i++([(0:Int)]:List Int))),(aj,(i++([(0:Int)]:List Int)).length,ak)) B (tE 3 [1,2,0])
 refine aZ ?_
 exact qI ((g,i),(Z,i.length,a0)) B tI
 rintro ⟨⟨a8,q⟩,⟨ae,b6,ab⟩⟩ σ1 B
 dsimp only [Z2_J9] at B
 refine bQ 2 aB (fun (hn:b6=q.length)=>?_)
 subst hn
 refine aZ ?_
 obtain ⟨a2,B⟩:=gd B
 obtain ⟨aa,B⟩:=gd B
 refine cQ [(0,(sc (ad O o117) b J)),(2,(sc (ad M o113) j L)),(9,(aH a8)),(10,(sc ae q ab)),(11,(iv l)),(12,(iv D)),(13,(iv a4)),(100,(.bool (((ix q a4) != 0)&&((ix q a4) != (ix (ix j l) D)))))] (RR kT9 (ad O o117) J b::RR kT23 (ad M o113) L j::OO kT3 3 ae ab q::W0) ?_ ?_
 rcases bo ((ix q a4) != 0) with U | U
 refine bA 2 aB (show 0<q.length by have:=a2; omega) (fun bb o182 ha=>?_)
 subst ha
 refine dG (K:=kT23) 1 l dT23.dec R Y.1 Y.2 ?_
 rintro ⟨bz,c3⟩
 refine bA 1 aA (show 0<(ix j l).length by have:=(aa U); omega) (fun c5 o186 ha=>?_)
 subst ha
 refine cX 19 [] bM fun ht hn=>?_
 refine mI 0 [] ?_
 refine dW 13 R (eL U) (eD (fo:=0) 0 cB R R R) (dW 14 R (eL U) (vI R) (dW 15 R (eL U) (eE bT cS R R (aa U)) (dW 16 R (eL U) (hX 1 fR aA R (aa U)) ?_)))
 refine hY 17 [] ?_
 refine dD ?_
 exact qj (fun w s=>(s.f 5 [2,3]))
 refine bA 2 aB (show 0<q.length by have:=a2; omega) (fun bb o182 ha=>?_)
 subst ha
 refine cX 19 [] bM fun ht hn=>?_
 refine yW 0 [] ?_
 refine dD ?_
 exact qj tI
 rintro σ1
 refine cA ?_
 split at B
 refine bI ?_
 refine lO (vp (aH ([]:aO)) R) ?_
 refine dI ?_
 cases B
 obtain rfl:=bf _ R
 have B:=bh
 refine bI ?_
 cases B
 obtain rfl:=an _ R
 have B:=av
 refine aU ?_
 cases B
 exact iI (ae,q.length,ab) (tE 5 [2])
 refine aU ?_
 obtain ⟨aq,B⟩:=gd B
 refine cE ?_
 refine hK (K:=kT23) 1 l dT23.dec R Y.1 Y.2 ?_
 rintro ⟨c0,c4⟩
 refine lO (eD (fo:=0) 0 cB R R R) (lI R (bG 1 aA (show 0<(ix j l).length by have:=aq; omega) (fun c6 o192 ha=>?_)))
 subst ha
 refine aZ ?_
 refine bG 4 aB (show 0<q.length by have:=a2; omega) (fun bc o194 ha=>?_)
 subst ha
 refine cA ?_
 refine lM _ (fun w s=>(s.f 5 [4,1,0,4])) ?_
 refine dZ (K:=kT3) (x':=(ix (ix j l) D)) 0 a4 R R cS R R a2.1 a2.2 ?_ ?_
 exact fun I h s=>(hD).put I h () (ix (ix j l) D) s
 refine dI ?_
 cases B
 exact qA ((ad bc o194),q.length,ab) (tE 5 [3,4,0])
 refine aU ?_
 cases B
 obtain rfl:=bf _ R
 have B:=bh
 refine aU ?_
 exact qI ((g,i),(((ad O o117),b.length,J),((ad M o113),j.length,L),(Z,i.length,a0))) B tI
 rintro ⟨⟨al,a1⟩,⟨⟨aw,b7,az⟩,⟨ax,b8,b0⟩,⟨ay,b9,b1⟩⟩⟩ σ1 B
 dsimp only [Z2_J10] at B
 refine bQ 0 aA (fun (hn:b7=b.length)=>?_)
 subst hn
 refine bQ 1 aA (fun (hn:b8=j.length)=>?_)
 subst hn
 refine bQ 2 aB (fun (hn:b9=a1.length)=>?_)
 subst hn
 refine cR ?_
 cases B
 exact qA ((aw,b.length,az),(ax,j.length,b0),(ay,a1.length,b1)) tI
 refine aU ?_
 cases B
 obtain rfl:=an _ R
 have B:=av
 refine aZ ?_
 exact qI ((a7,F),(ac,F.length,ag)) B (tE 3 [2])
 rintro ⟨⟨G,u⟩,⟨a6,ba,a5⟩⟩ σ1 B
 dsimp only [Z2_J11] at B
 refine bQ 0 aB (fun (hn:ba=u.length)=>?_)
 subst hn
 refine cE ?_
 refine bE (A:=(Unit)×(Unit)) (fun a=>Z2_J12 G u=some r) (fun a=>[(9,(aH G)),(10,(sc a6 u a5))]) (fun a=>OO kT3 3 a6 a5 u::W0) ?_ ?_
 refine cE ?_
 obtain ⟨e4,br,bi⟩:=bd B
 refine bF (A:=Unit) br (fun s a=>[(9,(aH G)),(10,(sc a6 u a5)),(14,(iv s.1)),(15,(iv s.2))]) (fun s a=>OO kT3 3 a6 a5 u::W0) () (aS R) tI ?_
 rintro ⟨bk,c7⟩ _ σ1 c9 B bg
 dsimp only [Z2_L4] at B
 refine dC ?_
 split at B
 refine cE ?_
 obtain ⟨ar,B⟩:=gd B
 refine bI ?_
 refine bG 0 aB (show 0<u.length by have:=ar; omega) (fun be o223 ha=>?_)
 subst ha
 refine iY ?_
 split at B
 refine bI ?_
 refine lO (vp (aH ([]:aO)) R) ?_
 refine dO ?_
 cases B
 obtain rfl:=bg _ R
 have B:=bi
 refine aU ?_
 cases B
 exact iI ((ad be o223),u.length,a5) (tE 3 [0])
 refine dC ?_
 cases B
 exact qA () tI
 refine aU ?_
 cases B
 obtain rfl:=bg _ R
 have B:=bi
 refine aZ ?_
 exact qI ((),()) B tI
 rintro ⟨_,_⟩ σ1 B
 dsimp only [Z2_J12] at B
 refine aZ ?_
 refine lO (vp (aH G) R) (lS R (lO (vp (aH G) R) ?_))
 refine cR ?_
 cases B
 exact iI (a6,u.length,a5) (tE 3 [0])
theorem Zg_ok  {i:aO}{g:aO}{b:(List Int)}{r:(List Int)}(j:Zg i g b=some r) :
 FnOk Tryz.prog 130 [(aH i),(aH g),(.slice A4 N4 D4)] [aQ kT3 (.slice A4 N4 D4) b] (fun (h:HH)=>((.slice h.1 h.2.1 h.2.2),[ow kT3 3 (.slice h.1 h.2.1 h.2.2) r])):=by
 unfold Zg at j
 refine aR Tryz.func130 R 38 R R fun C V=>?_
 refine cN (_::V) ?_
 refine cL 0 aA ?_
 rintro rfl
 let L:List HP:=RR kT3 A4 D4 b::V
 refine cN L ?_
 refine aI (aD (lS R (aC (aE (aI (aD (bU (K:=kT3) (xs:=([]:List Int)) (vs:=[]) 0 R R bT cS iu R R R R R R ?_ R (fun A5 D5=>?_))))))))
 exact fun I h s=>(hD).list [] I h s
 refine lN (OO kT3 3 A5 D5 ([]:List Int)::L) ?_
 refine lS R (aC (aE (aI (bE (A:=((List Int))×(HH)) (fun a=>Zg_J7 a.1=some r) (fun a=>[(7,(.slice a.2.1 a.2.2.1 a.2.2.2))]) (fun a=>ow kT3 3 (.slice a.2.1 a.2.2.1 a.2.2.2) a.1::L) ?_ ?_))))
 refine aI (aD (lI R (aC (aE (dK ?_)))))
 obtain ⟨e1,aq,ao⟩:=bd j
 refine bF (A:=HH) aq (fun s a=>[(0,(aH i)),(1,(aH g)),(2,(sc A4 b D4)),(7,(.slice a.1 a.2.1 a.2.2)),(8,(iv s.2))]) (fun s a=>ow kT3 3 (.slice a.1 a.2.1 a.2.2) s.1::L) (A5,([]:List Int).length,D5) (aS R) (fun w s=>s) ?_
 rintro ⟨J,q⟩ ⟨a2,ah,a4⟩ σ1 F j am
 replace j:Zg_L1 i g b J q=some F:=j
 unfold Zg_L1 at j
 refine bQ 0 aB (fun (M:ah=J.length)=>?_)
 subst M
 refine aI (aI (aD (lI R (lO (vp (aH i) R) (lO (vz (il i) (dM gA R)) (lO (jh R R) (aC (aE ?_))))))))
 rcases cG j with ⟨u,j⟩|⟨u,j⟩
 refine bS R u (bZ (aE (aI (bE (A:=((List Int))×(HH)) (fun a=>Zg_J6 q a.1=some F) (fun a=>[(0,(aH i)),(1,(aH g)),(2,(sc A4 b D4)),(7,(.slice a.2.1 a.2.2.1 a.2.2.2)),(8,(iv q))]) (fun a=>ow kT3 3 (.slice a.2.1 a.2.2.1 a.2.2.2) a.1::L) ?_ ?_))))
 refine dK (aI (aD (lI R (aC (aE (dK ?_))))))
 obtain ⟨e2,ar,ap⟩:=bd j
 refine bF (A:=HH) ar (fun s a=>[(0,(aH i)),(1,(aH g)),(2,(sc A4 b D4)),(7,(.slice a.1 a.2.1 a.2.2)),(8,(iv q)),(9,(iv s.2))]) (fun s a=>ow kT3 3 (.slice a.1 a.2.1 a.2.2) s.1::L) (a2,J.length,a4) (aS R) (fun w s=>s) ?_
 rintro ⟨m,l⟩ ⟨U,ai,Y⟩ σ1 G j an
 replace j:Zg_L2 i g b q m l=some G:=j
 unfold Zg_L2 at j
 refine bQ 0 aB (fun (M:ai=m.length)=>?_)
 subst M
 refine aI (aI (aD (lI R (lO (vp (aH g) R) (lO (vz (il g) (dM gA R)) (lO (jh R R) (aC (aE ?_))))))))
 rcases cG j with ⟨B,j⟩|⟨B,j⟩
 refine bS R B (bZ (aE (aI (bE (A:=((List Int))×(HH)) (fun a=>Zg_J5 l a.1=some G) (fun a=>[(0,(aH i)),(1,(aH g)),(2,(sc A4 b D4)),(7,(.slice a.2.1 a.2.2.1 a.2.2.2)),(8,(iv q)),(9,(iv l))]) (fun a=>ow kT3 3 (.slice a.2.1 a.2.2.1 a.2.2.2) a.1::L) ?_ ?_))))
 refine dK (aI ?_)
 obtain ⟨O,j⟩:=gd j
 obtain ⟨T,j⟩:=gd j
 refine cX 7 [] bM (fun ht M=>(dR 0 R (vp (aH g) R) (dR 1 R (vI R) (dR 2 R (vz (.int .u8 (bt g l)) (cU gA R R O.1 O.2)) (dR 3 R (vp (aH i) R) (dR 4 R (vI R) (dR 5 R (vz (.int .u8 (bt i q)) (cU gA R R T.1 T.2)) (dR 6 R (vp (.bool ((bt g l)==(bt i q))) R) (dD (aE ?_))))))))))
 rcases cG j with ⟨D,j⟩|⟨D,j⟩
 refine bS R D ?_
 obtain ⟨E,j⟩:=gd j
 obtain ⟨a6,j⟩:=gd j
 refine aD (lS R (lS R (lI R (bG 1 aA (show 0<b.length by have:=E; omega) (fun au o64 ha=>?_)))))
 subst ha
 refine lO (eE bT cS R R E) (lO (hX 1 fR aA R E) (bU (K:=kT3) (xs:=([(ix b l)]:List Int)) (vs:=[(iv (ix b l))]) 0 R R bT cS iu R R R R R R ?_ R (fun a7 ab=>?_)))
 exact fun I h s=>(hD).list [((),(ix b l))] I h s
 refine lN (OO kT3 3 a7 ab ([(ix b l)]:List Int)::OO kT3 3 U Y m::L) ?_
 refine lM (ow _ _ _ _::ow _ _ _ _::L) (fun w s=>(s.e 2 [1,0])) ?_
 refine eO (K:=kT3) 17592186044416 R R bT cS kN (Zr.zk zT3 iu) R R R R R R dQ a6 (fun a3 a5=>(lN (OO kT3 3 a3 a5 (m++([(ix b l)]:List Int))::L) ?_))
 refine lS R (aC (eC ?_))
 exact qI ((m++([(ix b l)]:List Int)),(a3,(m++([(ix b l)]:List Int)).length,a5)) j (fun w s=>s)
 refine bC R D (bZ (eC ?_))
 exact qI (m,(U,m.length,Y)) j (fun w s=>s)
 rintro ⟨Z,⟨a8,aj,ac⟩⟩ σ1 j
 replace j:Zg_J5 l Z=some G:=j
 unfold Zg_J5 at j
 refine bQ 0 aB (fun (M:aj=Z.length)=>?_)
 subst M
 refine aD (lI R (lO (kM R R) (lI R (aC ?_))))
 obtain rfl:=so j
 exact qA (a8,Z.length,ac) (fun w s=>s)
 refine bC R B (iB (eI ?_))
 obtain rfl:=so j
 obtain rfl:=an _ R
 have j:=ap
 refine eI (gM (eC ?_))
 exact qI (m,(U,m.length,Y)) j (fun w s=>s)
 rintro ⟨a0,⟨a9,ak,ae⟩⟩ σ1 j
 replace j:Zg_J6 q a0=some F:=j
 unfold Zg_J6 at j
 refine bQ 0 aB (fun (M:ak=a0.length)=>?_)
 subst M
 refine aD (lI R (lO (kM R R) (lI R (aC ?_))))
 obtain rfl:=so j
 exact qA (a9,a0.length,ae) (fun w s=>s)
 refine bC R u (iB (eI ?_))
 obtain rfl:=so j
 obtain rfl:=am _ R
 have j:=ao
 refine eI (gM ?_)
 exact qI (J,(a2,J.length,a4)) j (fun w s=>s)
 rintro ⟨a1,⟨aa,al,ag⟩⟩ σ1 j
 replace j:Zg_J7 a1=some r:=j
 unfold Zg_J7 at j
 refine bQ 0 aB (fun (M:al=a1.length)=>?_)
 subst M
 refine aI (aD (lS R (lS R (aC (aE (bO ?_))))))
 obtain rfl:=so j
 exact qF (aa,a1.length,ag) (fun w s=>(s.e 2 [0]))
end Go.Proofs.YthelanpdjajnbaaGreat
