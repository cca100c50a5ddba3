import Derived.Test.YthelanpdjajnbaaGreatKcF
set_option linter.unusedVariables false
set_option maxRecDepth 20000
namespace Go.Proofs.YthelanpdjajnbaaGreat
open Go Go.Pg
variable {A2 A3 A4 A5 A6 A7:Option Addr}{D2 D3 D4 D5 D6 D7 N2 N3 N4 N5 N6 N7:Nat}
theorem Z38_ok  {b:Int}{r:Int×Int}(a:Z38 b=some r) :
 FnOk Tryz.prog 85 [(iv b)] [] (fun (h:Unit)=>((.tuple [(iv r.1),(iv r.2)].toArray),[])):=by
 unfold Z38 at a
 refine aP Tryz.func85 R 13 R R fun C V=>?_
 refine cN V ?_
 refine ov ?_
 split at a
 refine dG ?_
 cases a
 exact jC () tI
 refine dI ?_
 split at a
 refine dG ?_
 cases a
 exact jC () tI
 refine dI ?_
 split at a
 refine dG ?_
 cases a
 exact jC () tI
 refine iD ?_
 cases a
 exact jC () tI
theorem Z3i_ok  {a:Int}{r:Bool}(i:Z3i a=some r) :
 FnOk Tryz.prog 86 [(iv a)] [] (fun (h:Unit)=>((.bool r),[])):=by
 unfold Z3i at i
 refine aP Tryz.func86 R 17 R R fun C V=>?_
 refine cN V ?_
 refine bW ?_
 refine cQ [(2,(.bool ((((a==1)||(a==2))||(a==12))||(a==13))))] (V) ?_ ?_
 refine bI ?_
 rcases bo (a==1) with b | b
 refine kh ?_
 exact qj tI
 refine bI ?_
 rcases bo ((a==1)||(a==2)) with e | e
 refine dA ?_
 exact qj tI
 refine bI ?_
 rcases bo (((a==1)||(a==2))||(a==12)) with g | g
 refine cI ?_
 exact qj tI
 refine cI ?_
 exact qj tI
 rintro σ1
 refine aU ?_
 cases i
 exact qF () tI
theorem Z1c_ok  {e:Int}{r:Int}(b:Z1c e=some r) :
 FnOk Tryz.prog 87 [(iv e)] [] (fun (h:Unit)=>((iv r),[])):=by
 unfold Z1c at b
 refine aP Tryz.func87 R 16 R R fun C V=>?_
 refine cN V ?_
 refine yH ?_
 split at b
 refine dA ?_
 cases b
 exact qF () tI
 refine aU ?_
 refine bB (A:=(Bool)×(Unit)) (fun a=>Z1c_J1 e a.1=some r) (fun a=>[(3,(iv e)),(6,(.bool a.1))]) (fun a=>V) ?_ ?_
 refine bW ?_
 split at b
 refine aU ?_
 exact qI ((e==14),()) b tI
 refine cI ?_
 exact qI ((e==15),()) b tI
 rintro ⟨g,_⟩ σ1 b
 dsimp only [Z1c_J1] at b
 split at b
 refine dA ?_
 cases b
 exact qF () tI
 refine dU ?_
 split at b
 refine dA ?_
 cases b
 exact qF () tI
 refine dU ?_
 split at b
 refine dA ?_
 cases b
 exact qF () tI
 refine aU ?_
 refine bB (A:=(Bool)×(Unit)) (fun a=>Z1c_J2 a.1=some r) (fun a=>[(13,(.bool a.1))]) (fun a=>V) ?_ ?_
 refine bW ?_
 split at b
 refine aU ?_
 exact qI ((e==18),()) b tI
 refine cI ?_
 exact qI ((e==19),()) b tI
 rintro ⟨i,_⟩ σ1 b
 dsimp only [Z1c_J2] at b
 split at b
 refine dA ?_
 cases b
 exact qF () tI
 refine dG ?_
 cases b
 exact qF () tI
theorem Z19_ok  {a:Node}{r:Bool}(m:Z19 a=some r) :
 FnOk Tryz.prog 76 [(.agg [(iv a.Op),(.slice A2 N2 D2),(.slice A3 N3 D3),(.slice A4 N4 D4),(aE a.Form),(.slice A5 N5 D5)].toArray)] [aN kT3 (.slice A2 N2 D2) a.Args,aN kT3 (.slice A3 N3 D3) a.Dims,aN kT3 (.slice A4 N4 D4) a.Ints,aN kT3 (.slice A5 N5 D5) a.Data] (fun (h:Unit)=>((.bool r),[])):=by
 unfold Z19 at m
 refine aP Tryz.func76 R 92 R R fun C V=>?_
 refine cL 0 aA ?_
 rintro rfl
 refine cL 1 aA ?_
 rintro rfl
 refine cL 2 aA ?_
 rintro rfl
 refine cL 3 aA ?_
 rintro rfl
 let W0:=RR kT3 A2 D2 a.Args::RR kT3 A3 D3 a.Dims::RR kT3 A4 D4 a.Ints::RR kT3 A5 D5 a.Data::V
 refine cN W0 ?_
 refine aU ?_
 refine eJ R fun T=>?_
 refine aU ?_
 let O:=aJ T [(iv a.Op),(sc A2 a.Args D2),(sc A3 a.Dims D3),(sc A4 a.Ints D4),(aE a.Form),(sc A5 a.Data D5)] 65::W0
 refine qN O ?_
 refine aQ ?_
 refine cQ [(1,(pt T 0)),(13,(.bool ((decide (a.Op<1))||(decide (a.Op>19)))))] (O) ?_ ?_
 refine cI ?_
 rcases bo (decide (a.Op<1)) with M | M
 refine aQ ?_
 refine lO (fD (decide (a.Op>19)) R M) (aC ?_)
 exact qj tI
 refine aQ ?_
 refine lO (fS R M R) (aC ?_)
 exact qj tI
 rintro σ1
 refine bX ?_
 split at m
 refine dI ?_
 cases m
 exact qF () (tE 5 [])
 refine bI ?_
 obtain ⟨r9,U,m⟩:=bd m
 refine aQ ?_
 refine lC 0 Bd R (Z38_ok U) R ?_
 rintro _
 refine lO (vT R) ?_
 refine dI ?_
 refine cQ [(1,(pt T 0)),(31,(.bool ((decide ((a.Args.length:Int)<r9.1))||(decide ((a.Args.length:Int)>r9.2)))))] (O) ?_ ?_
 refine dU ?_
 rcases bo (decide ((a.Args.length:Int)<r9.1)) with B | B
 refine cI ?_
 refine lO (fD (decide ((a.Args.length:Int)>r9.2)) R B) (aC ?_)
 exact qj tI
 refine cI ?_
 refine lO (fS R B R) (aC ?_)
 exact qj tI
 rintro σ1
 refine bX ?_
 split at m
 refine dI ?_
 cases m
 exact qF () (tE 5 [])
 refine cI ?_
 obtain ⟨q,Y,m⟩:=bd m
 refine cQ [(1,(pt T 0)),(62,(.bool ((((!q)&&(decide ((a.Dims.length:Int)>0)))||((a.Op != 11)&&(!(a.Form==([]:aO)))))||((a.Op != 2)&&(decide ((a.Data.length:Int)>0))))))] (O) ?_ ?_
 refine aQ ?_
 refine lC 0 Be R (Z3i_ok Y) R ?_
 rintro _
 refine aU ?_
 rcases bo (!q) with b | b
 refine bI ?_
 refine lO (iC R b R) (lB R ?_)
 rcases bo ((!q)&&(decide ((a.Dims.length:Int)>0))) with e | e
 refine dI ?_
 refine lO (fD ((a.Op != 11)&&(!(a.Form==([]:aO)))) R e) ?_
 refine dG ?_
 refine lO (fD ((a.Op != 2)&&(decide ((a.Data.length:Int)>0))) R (oT e)) (aC ?_)
 exact qj tI
 refine bI ?_
 rcases bo (a.Op != 11) with s | s
 refine aU ?_
 refine lW (dS s) (vz (.bool (!(a.Form==([]:aO)))) (jr R R R)) (lW (cC e) (iC R s R) (lO (fS R e R) (lB R ?_)))
 rcases bo (((!q)&&(decide ((a.Dims.length:Int)>0)))||((a.Op != 11)&&(!(a.Form==([]:aO))))) with g | g
 refine dA ?_
 refine lO (fD ((a.Op != 2)&&(decide ((a.Data.length:Int)>0))) R g) (aC ?_)
 exact qj tI
 refine bI ?_
 rcases bo (a.Op != 2) with D | D
 refine bI ?_
 refine lW (cC g) (iC R D R) (lO (fS R g R) (aC ?_))
 exact qj tI
 refine bI ?_
 refine lW (cC g) (jP (decide ((a.Data.length:Int)>0)) R D) (lO (fS R g R) (aC ?_))
 exact qj tI
 refine aQ ?_
 refine lW (cC e) (jP (!(a.Form==([]:aO))) R s) (lO (fS R e R) (lB R ?_))
 rcases bo (((!q)&&(decide ((a.Dims.length:Int)>0)))||((a.Op != 11)&&(!(a.Form==([]:aO))))) with i | i
 refine dA ?_
 refine lO (fD ((a.Op != 2)&&(decide ((a.Data.length:Int)>0))) R i) (aC ?_)
 exact qj tI
 refine bI ?_
 rcases bo (a.Op != 2) with E | E
 refine bI ?_
 refine lW (cC i) (iC R E R) (lO (fS R i R) (aC ?_))
 exact qj tI
 refine bI ?_
 refine lW (cC i) (jP (decide ((a.Data.length:Int)>0)) R E) (lO (fS R i R) (aC ?_))
 exact qj tI
 refine bI ?_
 refine lO (jP (decide ((a.Dims.length:Int)>0)) R b) ?_
 refine cI ?_
 rcases bo (a.Op != 11) with u | u
 refine aU ?_
 refine lW (dS u) (vz (.bool (!(a.Form==([]:aO)))) (jr R R R)) (lW (cC (aF b)) (iC R u R) (lO (fS R (aF b) R) (lB R ?_)))
 rcases bo (((!q)&&(decide ((a.Dims.length:Int)>0)))||((a.Op != 11)&&(!(a.Form==([]:aO))))) with j | j
 refine dA ?_
 refine lO (fD ((a.Op != 2)&&(decide ((a.Data.length:Int)>0))) R j) (aC ?_)
 exact qj tI
 refine bI ?_
 rcases bo (a.Op != 2) with F | F
 refine bI ?_
 refine lW (cC j) (iC R F R) (lO (fS R j R) (aC ?_))
 exact qj tI
 refine bI ?_
 refine lW (cC j) (jP (decide ((a.Data.length:Int)>0)) R F) (lO (fS R j R) (aC ?_))
 exact qj tI
 refine aQ ?_
 refine lW (cC (aF b)) (jP (!(a.Form==([]:aO))) R u) (lO (fS R (aF b) R) (lB R ?_))
 rcases bo (((!q)&&(decide ((a.Dims.length:Int)>0)))||((a.Op != 11)&&(!(a.Form==([]:aO))))) with l | l
 refine dA ?_
 refine lO (fD ((a.Op != 2)&&(decide ((a.Data.length:Int)>0))) R l) (aC ?_)
 exact qj tI
 refine bI ?_
 rcases bo (a.Op != 2) with G | G
 refine bI ?_
 refine lW (cC l) (iC R G R) (lO (fS R l R) (aC ?_))
 exact qj tI
 refine bI ?_
 refine lW (cC l) (jP (decide ((a.Data.length:Int)>0)) R G) (lO (fS R l R) (aC ?_))
 exact qj tI
 rintro σ1
 refine bX ?_
 split at m
 refine dI ?_
 cases m
 exact qF () (tE 5 [])
 refine bI ?_
 obtain ⟨L,Z,m⟩:=bd m
 refine aQ ?_
 refine lC 0 Bf R (Z1c_ok Z) R ?_
 rintro _
 refine cI ?_
 refine cQ [(1,(pt T 0)),(5,(iv L)),(73,(.bool ((a.Op==16)||(a.Op==17))))] (O) ?_ ?_
 refine cI ?_
 rcases bo (a.Op==16) with I | I
 refine aQ ?_
 refine lO (fD (a.Op==17) R I) (aC ?_)
 exact qj tI
 refine aQ ?_
 refine lO (fS R I R) (aC ?_)
 exact qj tI
 rintro σ1
 refine bX ?_
 split at m
 refine aU ?_
 refine cQ [(2,(.bool ((decide ((a.Ints.length:Int)≥L))&&(decide ((a.Ints.length:Int)≤(aH (L+4096)))))))] (O) ?_ ?_
 refine dU ?_
 rcases bo (decide ((a.Ints.length:Int)≥L)) with J | J
 refine bW ?_
 refine lO (iC R J R) ?_
 refine aU ?_
 exact qj tI
 refine bW ?_
 refine lO (jP (decide ((a.Ints.length:Int)≤(aH (L+4096)))) R J) ?_
 refine aU ?_
 exact qj tI
 rintro σ1
 refine aQ ?_
 cases m
 exact qF () (tE 5 [])
 refine nI ?_
 cases m
 exact qF () (tE 5 [])
theorem Z0k_ok  {b:(List Int)}{q:Int}{r:Bool}(e:Z0k b q=some r) :
 FnOk Tryz.prog 77 [(.slice A2 N2 D2),(iv q)] [aN kT3 (.slice A2 N2 D2) b] (fun (h:Unit)=>((.bool r),[])):=by
 unfold Z0k at e
 refine aP Tryz.func77 R 25 R R fun C V=>?_
 refine cL 0 aA ?_
 rintro rfl
 let u:=RR kT3 A2 D2 b::V
 refine cN u ?_
 refine bW ?_
 refine bB (A:=(Unit)×(Unit)) (fun a=>Z0k_J1=some r) (fun a=>[]) (fun a=>u) ?_ ?_
 refine bW ?_
 obtain ⟨G,B,m⟩:=bd e
 refine bD (A:=Unit) B (fun s a=>[(0,(sc A2 b D2)),(1,(iv q)),(5,(iv s))]) (fun s a=>u) () (aS R) tI ?_
 rintro g _ σ1 D e j
 dsimp only [Z0k_L1] at e
 refine dA ?_
 split at e
 refine bW ?_
 obtain ⟨l,e⟩:=gd e
 refine cQ [(0,(sc A2 b D2)),(1,(iv q)),(5,(iv g)),(24,(.bool ((decide ((ix b g)<0))||(decide ((ix b g)≥q)))))] (u) ?_ ?_
 refine aQ ?_
 refine bC 0 aA (show 0<b.length by have:=l; omega) (fun E o14 F=>?_)
 subst F
 refine bI ?_
 rcases bo (decide ((ix b g)<0)) with i | i
 refine dI ?_
 exact qj tI
 refine dI ?_
 exact qj tI
 rintro σ1
 refine bX ?_
 split at e
 refine dA ?_
 cases e
 obtain rfl:=j _ R
 have e:=m
 refine aQ ?_
 cases e
 exact qF () (tE 1 [])
 refine dA ?_
 cases e
 exact qA () tI
 refine aQ ?_
 cases e
 obtain rfl:=j _ R
 have e:=m
 refine aU ?_
 exact cU ((),()) e trivial tI
 rintro ⟨_,_⟩ σ1 e
 dsimp only [Z0k_J1] at e
 refine bW ?_
 cases e
 exact qF () (tE 1 [])
theorem Zq_ok  {b:(List Int)}{r:Int}(e:Zq b=some r) :
 FnOk Tryz.prog 58 [(.slice A2 N2 D2)] [aN kT3 (.slice A2 N2 D2) b] (fun (h:Unit)=>((iv r),[])):=by
 unfold Zq at e
 refine aP Tryz.func58 R 32 R R fun C V=>?_
 refine cL 0 aA ?_
 rintro rfl
 let u:=RR kT3 A2 D2 b::V
 refine cN u ?_
 refine iD ?_
 refine bB (A:=(Int)×(Unit)) (fun a=>Zq_J1 a.1=some r) (fun a=>[(3,(iv a.1))]) (fun a=>u) ?_ ?_
 refine bW ?_
 obtain ⟨J,D,l⟩:=bd e
 refine bD (A:=Unit) D (fun s a=>[(0,(sc A2 b D2)),(3,(iv s.1)),(4,(iv s.2))]) (fun s a=>u) () (aS R) tI ?_
 rintro ⟨q,g⟩ _ σ1 E e j
 dsimp only [Zq_L1] at e
 refine dA ?_
 split at e
 refine dU ?_
 obtain ⟨i,e⟩:=gd e
 refine cQ [(0,(sc A2 b D2)),(3,(iv q)),(4,(iv g)),(22,(.bool ((decide ((ix b g)<1))||(decide ((ix b g)>4096)))))] (u) ?_ ?_
 refine aQ ?_
 refine bC 0 aA (show 0<b.length by have:=i; omega) (fun F o17 B=>?_)
 subst B
 refine bI ?_
 rcases bo (decide ((ix b g)<1)) with m | m
 refine dU ?_
 exact qj tI
 refine dU ?_
 exact qj tI
 rintro σ1
 refine bX ?_
 split at e
 refine dG ?_
 cases e
 obtain rfl:=j _ R
 have e:=l
 refine aQ ?_
 cases e
 exact qF () (tE 1 [])
 refine dI ?_
 refine bC 0 aA (show 0<b.length by have:=i; omega) (fun G o21 B=>?_)
 subst B
 refine iM ?_
 split at e
 refine dA ?_
 cases e
 obtain rfl:=j _ R
 have e:=l
 refine aQ ?_
 cases e
 exact qF () (tE 1 [])
 refine dA ?_
 cases e
 exact qA () tI
 refine aQ ?_
 cases e
 obtain rfl:=j _ R
 have e:=l
 refine aU ?_
 exact qI (q,()) e tI
 rintro ⟨I,_⟩ σ1 e
 dsimp only [Zq_J1] at e
 refine dU ?_
 cases e
 exact qF () (tE 1 [])
theorem Zp_ok  {a:(List Int)}{r:Bool}(e:Zp a=some r) :
 FnOk Tryz.prog 71 [(.slice A2 N2 D2)] [aN kT3 (.slice A2 N2 D2) a] (fun (h:Unit)=>((.bool r),[])):=by
 unfold Zp at e
 refine aP Tryz.func71 R 11 R R fun C V=>?_
 refine cL 0 aA ?_
 rintro rfl
 let g:=RR kT3 A2 D2 a::V
 refine cN g ?_
 refine bW ?_
 obtain ⟨j,i,e⟩:=bd e
 refine cQ [(2,(.bool ((decide ((a.length:Int)≤6))&&(decide (j>0)))))] (g) ?_ ?_
 refine cI ?_
 rcases bo (decide ((a.length:Int)≤6)) with b | b
 refine bX ?_
 refine lM _ (fun w s=>(s.d 0 R)) ?_
 refine bU 1 R (dS b) n9 R (Zq_ok (bJ i b)) R ?_
 rintro _
 refine lN g ?_
 refine bI ?_
 exact qj tI
 refine bW ?_
 exact qj tI
 rintro σ1
 refine aU ?_
 cases e
 exact qF () (tE 1 [])
theorem Zu_ok  {t1:Tensor}{r:Bool}(b:Zu t1=some r) :
 FnOk Tryz.prog 35 [(.agg [(.slice A2 N2 D2),(.slice A3 N3 D3)].toArray)] [aN kT3 (.slice A2 N2 D2) t1.Dims,aN kT3 (.slice A3 N3 D3) t1.Data] (fun (h:Unit)=>((.bool r),[])):=by
 unfold Zu at b
 refine aP Tryz.func35 R 38 R R fun C V=>?_
 refine cL 0 aA ?_
 rintro rfl
 refine cL 1 aA ?_
 rintro rfl
 let F:=RR kT3 A2 D2 t1.Dims::RR kT3 A3 D3 t1.Data::V
 refine cN F ?_
 refine aU ?_
 refine eJ R fun B=>?_
 refine aU ?_
 let g:=aJ B [(sc A2 t1.Dims D2),(sc A3 t1.Data D3)] 42::F
 refine qN g ?_
 refine aQ ?_
 obtain ⟨I,u,b⟩:=bd b
 obtain ⟨T,E,b⟩:=bd b
 refine cQ [(1,(pt B 0)),(16,(.bool ((!I)||((t1.Data.length:Int) != T))))] (g) ?_ ?_
 rcases bo (!I) with i | i
 refine dF 13 [] bO fun O M=>?_
 refine gZ 0 [] ?_
 refine d1 2 R (lM _ (fun w s=>(s.d 1 R)) ?_)
 refine lC 1 kj R (Zp_ok u) R ?_
 rintro _
 refine lN g ?_
 refine aC (aI (sL []) ?_)
 refine oz 3 [] ?_
 refine dD ?_
 exact qj tI
 refine dF 13 [] bO fun O M=>?_
 refine gZ 0 [] ?_
 refine d1 2 R (lM _ (fun w s=>(s.d 1 R)) ?_)
 refine lC 1 kj R (Zp_ok u) R ?_
 rintro _
 refine lN g ?_
 refine aC (aI (sL []) ?_)
 refine rP 3 [] ?_
 refine d1 10 R (lM _ (fun w s=>(s.d 1 R)) ?_)
 refine bU 1 R (cC i) n9 R (Zq_ok (bJ E (cX i))) R ?_
 rintro _
 refine lN g ?_
 refine aC (aI (sL []) ?_)
 refine gZ 11 [] ?_
 refine dD ?_
 exact qj tI
 rintro σ1
 refine bX ?_
 split at b
 refine dI ?_
 cases b
 exact qF () (tE 3 [])
 refine bI ?_
 refine bB (A:=(Unit)×(Unit)) (fun a=>Zu_J1=some r) (fun a=>[]) (fun a=>g) ?_ ?_
 refine bW ?_
 obtain ⟨U,D,q⟩:=bd b
 refine bD (A:=Unit) D (fun s a=>[(1,(pt B 0)),(3,(iv s))]) (fun s a=>g) () (aS R) tI ?_
 rintro e _ σ1 G b l
 dsimp only [Zu_L1] at b
 refine dG ?_
 split at b
 refine bW ?_
 obtain ⟨m,b⟩:=gd b
 refine cQ [(1,(pt B 0)),(3,(iv e)),(37,(.bool ((decide ((ix t1.Data e)<0))||(decide ((ix t1.Data e)≥2147483647)))))] (g) ?_ ?_
 refine bI ?_
 refine bC 2 aA (show 0<t1.Data.length by have:=m; omega) (fun J o21 L=>?_)
 subst L
 refine bI ?_
 rcases bo (decide ((ix t1.Data e)<0)) with j | j
 refine dI ?_
 exact qj tI
 refine dI ?_
 exact qj tI
 rintro σ1
 refine bX ?_
 split at b
 refine dA ?_
 cases b
 obtain rfl:=l _ R
 have b:=q
 refine aQ ?_
 cases b
 exact qF () (tE 3 [])
 refine dA ?_
 cases b
 exact qA () tI
 refine aQ ?_
 cases b
 obtain rfl:=l _ R
 have b:=q
 refine aU ?_
 exact cU ((),()) b trivial tI
 rintro ⟨_,_⟩ σ1 b
 dsimp only [Zu_J1] at b
 refine bW ?_
 cases b
 exact qF () (tE 3 [])
theorem Zw_ok  {a:(List Int)}{r:(List Int)}(b:Zw a=some r) :
 FnOk Tryz.prog 37 [(.slice A2 N2 D2)] [aN kT3 (.slice A2 N2 D2) a] (fun (h:HH)=>((s3 h),[ow kT3 3 (s3 h) r])):=by
 unfold Zw at b
 refine aP Tryz.func37 R 6 R R fun C V=>?_
 refine cL 0 aA ?_
 rintro rfl
 let g:=RR kT3 A2 D2 a::V
 refine cN g ?_
 refine bW ?_
 obtain ⟨e,b⟩:=gd b
 refine aD (bP (K:=kT3) (xs:=([]:List Int)) (vs:=[]) 0 R R bM cJ gV R R R R R R ?_ R (fun A3 D3=>?_))
 exact fun I h s=>(gR).list [] I h s
 refine lS R (lM _ (fun w s=>((s.dup 1 R).mv 1)) ?_)
 refine eP (K:=kT3) 17592186044416 R R bM cJ kk (Zr.zk zT3 gV) R R R R R R (s8 (Kind.scal_flat _ _)) e (fun A5 D5=>(lN (OO kT3 3 A5 D5 (([]:List Int)++a)::g) ?_))
 refine bI ?_
 cases b
 exact qF (A5,(([]:List Int)++a).length,D5) (tE 2 [0])
theorem Z01_ok  {e:(List Int)}{g:(List Int)}{r:Bool}(b:Z01 e g=some r) :
 FnOk Tryz.prog 36 [(.slice A2 N2 D2),(.slice A4 N4 D4)] [aN kT3 (.slice A2 N2 D2) e,aN kT3 (.slice A4 N4 D4) g] (fun (h:Unit)=>((.bool r),[])):=by
 unfold Z01 at b
 refine aP Tryz.func36 R 26 R R fun C V=>?_
 refine cL 0 aA ?_
 rintro rfl
 refine cL 1 aA ?_
 rintro rfl
 let q:=RR kT3 A2 D2 e::RR kT3 A4 D4 g::V
 refine cN q ?_
 refine ov ?_
 split at b
 refine dI ?_
 cases b
 exact qF () (tE 2 [])
 refine bI ?_
 refine bB (A:=(Unit)×(Unit)) (fun a=>Z01_J1=some r) (fun a=>[]) (fun a=>q) ?_ ?_
 refine bW ?_
 obtain ⟨I,B,m⟩:=bd b
 refine bD (A:=Unit) B (fun s a=>[(0,(sc A2 e D2)),(1,(sc A4 g D4)),(5,(iv s))]) (fun s a=>q) () (aS R) tI ?_
 rintro G _ σ1 D b i
 dsimp only [Z01_L1] at b
 refine dA ?_
 split at b
 refine bW ?_
 obtain ⟨j,b⟩:=gd b
 obtain ⟨l,b⟩:=gd b
 refine bA 0 aA (show 0<e.length by have:=j; omega) (fun E o18 u=>?_)
 subst u
 refine bA 1 aA (show 0<g.length by have:=l; omega) (fun F o21 u=>?_)
 subst u
 refine dF 9 [] bO fun L J=>?_
 refine vO 0 [] ?_
 refine dD (aG ?_)
 split at b
 refine dA ?_
 cases b
 obtain rfl:=i _ R
 have b:=m
 refine aQ ?_
 cases b
 exact qF () (tE 2 [])
 refine dA ?_
 cases b
 exact qA () tI
 refine aQ ?_
 cases b
 obtain rfl:=i _ R
 have b:=m
 refine aU ?_
 exact cU ((),()) b trivial tI
 rintro ⟨_,_⟩ σ1 b
 dsimp only [Z01_J1] at b
 refine bW ?_
 cases b
 exact qF () (tE 2 [])
theorem Z2e_ok  {a:(List Int)}{g:Int}{r:Int}(b:Z2e a g=some r) :
 FnOk Tryz.prog 149 [(.slice A2 N2 D2),(iv g)] [aN kT3 (.slice A2 N2 D2) a] (fun (h:Unit)=>((iv r),[])):=by
 unfold Z2e at b
 refine aP Tryz.func149 R 17 R R fun C V=>?_
 refine cL 0 aA ?_
 rintro rfl
 let i:=RR kT3 A2 D2 a::V
 refine cN i ?_
 refine nI ?_
 split at b
 refine dI ?_
 cases b
 exact qF () (tE 1 [])
 refine bI ?_
 obtain ⟨e,b⟩:=gd b
 refine dU ?_
 refine bC 0 aA (show 0<a.length by have:=e; omega) (fun l o7 j=>?_)
 subst j
 refine bW ?_
 cases b
 exact qF () (tE 1 [])
theorem Z00_ok  {D:(List Int)}{E:(List Int)}{r:(List Int)}(b:Z00 D E=some r) :
 FnOk Tryz.prog 118 [(.slice A2 N2 D2),(.slice A4 N4 D4)] [aN kT3 (.slice A2 N2 D2) D,aN kT3 (.slice A4 N4 D4) E] (fun (h:HH)=>((s3 h),[ow kT3 3 (s3 h) r])):=by
 unfold Z00 at b
 refine aP Tryz.func118 R 68 R R fun C V=>?_
 refine cL 0 aA ?_
 rintro rfl
 refine cL 1 aA ?_
 rintro rfl
 let F:=RR kT3 A2 D2 D::RR kT3 A4 D4 E::V
 refine cN F ?_
 refine dU ?_
 obtain ⟨r5,aa,b⟩:=bd b
 obtain ⟨r7,ab,b⟩:=bd b
 refine cQ [(0,(sc A2 D D2)),(1,(sc A4 E D4)),(17,(.bool ((!r5)||(!r7))))] (F) ?_ ?_
 refine aU ?_
 refine lM _ (fun w s=>(s.d 0 R)) ?_
 refine lC 1 kj R (Zp_ok aa) R ?_
 rintro _
 refine lN F ?_
 refine aU ?_
 rcases bo (!r5) with L | L
 refine cI ?_
 exact qj tI
 refine bX ?_
 refine lM _ (fun w s=>(s.d 1 R)) ?_
 refine bU 1 R (cC L) kj R (Zp_ok (bJ ab (cX L))) R ?_
 rintro _
 refine lN F ?_
 refine aQ ?_
 exact qj tI
 rintro σ1
 refine bX ?_
 split at b
 refine aQ ?_
 refine bP (K:=kT3) (xs:=([]:List Int)) (vs:=[]) 0 R R bM cJ gV R R R R R R ?_ R (fun A11 D11=>?_)
 exact fun I h s=>(gR).list [] I h s
 refine cI ?_
 cases b
 exact qF (A11,([]:List Int).length,D11) (tE 3 [0])
 refine iD ?_
 refine bB (A:=(Int)×(Unit)) (fun a=>Z00_J1 D E a.1=some r) (fun a=>[(0,(sc A2 D D2)),(1,(sc A4 E D4)),(5,(iv a.1))]) (fun a=>F) ?_ ?_
 refine dI ?_
 split at b
 refine bW ?_
 exact qI ((E.length:Int),()) b tI
 refine aU ?_
 exact qI ((D.length:Int),()) b tI
 rintro ⟨e,_⟩ σ1 b
 dsimp only [Z00_J1] at b
 refine bX ?_
 obtain ⟨q,b⟩:=gd b
 refine aU ?_
 refine fO (K:=kT3) (m:=e) (z:=(0:Int)) R R bM cJ kk (Zr.zk zT3 gV) (by decide) R R q.1 q.2.1 q.2.2 (fun g i=>(lS R (aC (aG (aK (bB (A:=((List Int))×(Unit)) (fun a=>Z00_J4 a.1=some r) (fun a=>[(6,(sc g (List.replicate e.toNat (0:Int)) i))]) (fun a=>ow kT3 3 (.slice g (List.replicate e.toNat (0:Int)).length i) a.1::F) ?_ ?_))))))
 refine bW ?_
 obtain ⟨e1,a9,U⟩:=bd b
 refine bD (A:=Unit) a9 (fun s a=>[(0,(sc A2 D D2)),(1,(sc A4 E D4)),(5,(iv e)),(6,(sc g (List.replicate e.toNat (0:Int)) i)),(7,(iv s.2))]) (fun s a=>ow kT3 3 (.slice g (List.replicate e.toNat (0:Int)).length i) s.1::F) () (aS R) tI ?_
 rintro ⟨J,G⟩ _ σ1 a2 b T
 dsimp only [Z00_L1] at b
 refine dI ?_
 split at b
 refine bW ?_
 obtain ⟨j,Y,b⟩:=bd b
 refine aQ ?_
 refine lM _ (fun w s=>(s.d 1 R)) ?_
 refine lC 1 vR R (Z2e_ok Y) R ?_
 rintro _
 refine bI ?_
 obtain ⟨l,Z,b⟩:=bd b
 refine aQ ?_
 refine lM _ (fun w s=>(s.d 2 R)) ?_
 refine lC 1 vR R (Z2e_ok Z) R ?_
 rintro _
 refine cI ?_
 refine cQ [(0,(sc A2 D D2)),(1,(sc A4 E D4)),(5,(iv e)),(6,(sc g (List.replicate e.toNat (0:Int)) i)),(7,(iv G)),(8,(iv j)),(9,(iv l)),(50,(.bool (((j != l)&&(j != 1))&&(l != 1))))] (ow kT3 3 (.slice g (List.replicate e.toNat (0:Int)).length i) J::F) ?_ ?_
 refine cI ?_
 rcases bo (j != l) with M | M
 refine bI ?_
 rcases bo ((j != l)&&(j != 1)) with O | O
 refine bI ?_
 exact qj tI
 refine bI ?_
 exact qj tI
 refine dI ?_
 exact qj tI
 rintro σ1
 refine bX ?_
 split at b
 refine aQ ?_
 refine bP (K:=kT3) (xs:=([]:List Int)) (vs:=[]) 0 R R bM cJ gV R R R R R R ?_ R (fun a5 a7=>?_)
 exact fun I h s=>(gR).list [] I h s
 refine dU ?_
 cases b
 obtain rfl:=T _ R
 have b:=U
 refine aQ ?_
 cases b
 exact qF (a5,([]:List Int).length,a7) (tE 4 [0])
 refine bI ?_
 refine bB (A:=(Int)×(Unit)) (fun a=>Z00_J3 e J G a.1=some a2) (fun a=>[(0,(sc A2 D D2)),(1,(sc A4 E D4)),(5,(iv e)),(6,(sc g (List.replicate e.toNat (0:Int)) i)),(7,(iv G)),(8,(iv a.1))]) (fun a=>ow kT3 3 (.slice g (List.replicate e.toNat (0:Int)).length i) J::F) ?_ ?_
 refine dU ?_
 split at b
 refine cI ?_
 exact qI (l,()) b tI
 refine aU ?_
 exact qI (j,()) b tI
 rintro ⟨a3,_⟩ σ1 b
 dsimp only [Z00_J3] at b
 obtain ⟨u,b⟩:=gd b
 refine dU ?_
 refine bC 0 aB (show 0<(List.replicate e.toNat (0:Int)).length by have:=u; omega) (fun ac o47 ha=>?_)
 subst ha
 refine bX ?_
 refine eL (K:=kT3) (x':=a3) 0 (aH ((aH (e - 1)) - G)) R R cJ R R u.1 u.2 ?_ ?_
 exact fun I h s=>(gR).put I h () a3 s
 refine dI ?_
 cases b
 exact qA () tI
 refine aQ ?_
 cases b
 obtain rfl:=T _ R
 have b:=U
 refine aU ?_
 exact qI (J,()) b tI
 rintro ⟨a4,_⟩ σ1 b
 dsimp only [Z00_J4] at b
 refine aU ?_
 obtain ⟨ae,a0,b⟩:=bd b
 refine aU ?_
 refine lC 1 kj R (FnOk.lends (A':=[ow kT3 3 (.slice g (List.replicate e.toNat (0:Int)).length i) a4]) (A:=[aN kT3 (.slice g (List.replicate e.toNat (0:Int)).length i) a4]) (B:=[]) (Zp_ok a0) ⟨aZ,trivial⟩ (fun _=>trivial)) R ?_
 rintro _
 refine aQ ?_
 split at b
 refine aQ ?_
 refine bP (K:=kT3) (xs:=([]:List Int)) (vs:=[]) 0 R R bM cJ gV R R R R R R ?_ R (fun a6 a8=>?_)
 exact fun I h s=>(gR).list [] I h s
 refine cI ?_
 cases b
 exact qF (a6,([]:List Int).length,a8) (tE 4 [0])
 refine dG ?_
 cases b
 exact qF (g,(List.replicate e.toNat (0:Int)).length,i) (tE 3 [0])
theorem Z0i_ok  {a:(List Int)}{r:Tensor}(b:Z0i a=some r) :
 FnOk Tryz.prog 102 [(.slice A2 N2 D2)] [aN kT3 (.slice A2 N2 D2) a] (fun (h:HH×HH)=>((.agg [(s3 h.1),(s3 h.2)].toArray),[ow kT3 3 (s3 h.1) r.Dims,ow kT3 3 (s3 h.2) r.Data])):=by
 unfold Z0i at b
 refine aP Tryz.func102 R 9 R R fun C V=>?_
 refine cL 0 aA ?_
 rintro rfl
 let q:=RR kT3 A2 D2 a::V
 refine cN q ?_
 refine aU ?_
 refine bE R R dX (fun u=>(aC (aG (aK ?_))))
 obtain ⟨l,i,b⟩:=bd b
 obtain ⟨g,j,b⟩:=bd b
 obtain ⟨e,b⟩:=gd b
 refine aU ?_
 refine lM _ (fun w s=>(s.d 1 R)) ?_
 refine lC 1 jT R (Zw_ok i) R ?_
 rintro ⟨A6,N6,D6⟩
 refine aM 0 aB ?_
 rintro rfl
 refine lS R (lM _ (fun w s=>(s.d 2 R)) ?_)
 refine lC 1 n9 R (Zq_ok j) R ?_
 rintro _
 refine fO (K:=kT3) (m:=g) (z:=(0:Int)) R R bM cJ kk (Zr.zk zT3 gV) (by decide) R R e.1 e.2.1 e.2.2 (fun A10 D10=>(lO (vz (.agg [(sc A6 l D6),(sc A10 (List.replicate g.toNat (0:Int)) D10)].toArray) (aX gU dX R R)) (aL 2 R R bT R R R R R R (lN (OO kT3 3 A10 D10 (List.replicate g.toNat (0:Int))::_::aJ u [(sc A6 l D6),(sc A10 (List.replicate g.toNat (0:Int)) D10)] 42::q) ?_))))
 refine aQ ?_
 cases b
 exact qS ((A6,l.length,D6),(A10,(List.replicate g.toNat (0:Int)).length,D10)) (tE 4 [1,0])
theorem Zm_ok  {b:(List Int)}{L:Int}{r:(List Int)}(e:Zm b L=some r) :
 FnOk Tryz.prog 119 [(.slice A2 N2 D2),(iv L)] [aN kT3 (.slice A2 N2 D2) b] (fun (h:HH)=>((s3 h),[ow kT3 3 (s3 h) r])):=by
 unfold Zm at e
 refine aP Tryz.func119 R 33 R R fun C V=>?_
 refine cL 0 aA ?_
 rintro rfl
 let B:=RR kT3 A2 D2 b::V
 refine cN B ?_
 refine bW ?_
 obtain ⟨l,e⟩:=gd e
 refine aQ ?_
 refine fO (K:=kT3) (m:=(b.length:Int)) (z:=(0:Int)) R R bM cJ kk (Zr.zk zT3 gV) (by decide) R R l.1 l.2.1 l.2.2 (fun A5 D5=>(lS R (aC (aG (aK (bB (A:=((List Int))×(Unit)) (fun a=>Zm_J1 a.1=some r) (fun a=>[(5,(sc A5 (List.replicate (b.length:Int).toNat (0:Int)) D5))]) (fun a=>ow kT3 3 (.slice A5 (List.replicate (b.length:Int).toNat (0:Int)).length D5) a.1::B) ?_ ?_))))))
 refine dA ?_
 obtain ⟨Y,G,F⟩:=bd e
 refine bD (A:=Unit) G (fun s a=>[(0,(sc A2 b D2)),(1,(iv s.1)),(5,(sc A5 (List.replicate (b.length:Int).toNat (0:Int)) D5)),(6,(iv s.2.2))]) (fun s a=>ow kT3 3 (.slice A5 (List.replicate (b.length:Int).toNat (0:Int)).length D5) s.2.1::B) () (aS R) tI ?_
 rintro ⟨q,J,i⟩ _ σ1 M e E
 dsimp only [Zm_L1] at e
 refine dU ?_
 split at e
 refine bW ?_
 obtain ⟨u,e⟩:=gd e
 obtain ⟨j,e⟩:=gd e
 obtain ⟨g,e⟩:=gd e
 refine bW ?_
 refine bC 1 aA (show 0<b.length by have:=u; omega) (fun O o22 D=>?_)
 subst D
 refine aU ?_
 refine lO (sh R R j) (bC 0 aB (show 0<(List.replicate (b.length:Int).toNat (0:Int)).length by have:=g; omega) (fun T o26 D=>?_))
 subst D
 refine bX ?_
 refine eL (K:=kT3) (x':=(q.tmod (ix b i))) 0 i R R cJ R R g.1 g.2 ?_ ?_
 exact fun I h s=>(gR).put I h () (q.tmod (ix b i)) s
 refine dI ?_
 refine lO (vz (iv (aH (q.tdiv (ix b i)))) (ng R R j)) ?_
 refine dA ?_
 cases e
 exact qA () tI
 refine aQ ?_
 cases e
 obtain rfl:=E _ R
 have e:=F
 refine aU ?_
 exact qI (J,()) e tI
 rintro ⟨U,_⟩ σ1 e
 dsimp only [Zm_J1] at e
 refine dU ?_
 cases e
 exact qF (A5,(List.replicate (b.length:Int).toNat (0:Int)).length,D5) (tE 2 [0])
theorem Z0n_ok  {e:(List Int)}{b:(List Int)}{r:Int}(g:Z0n e b=some r) :
 FnOk Tryz.prog 131 [(.slice A2 N2 D2),(.slice A4 N4 D4)] [aN kT3 (.slice A2 N2 D2) e,aN kT3 (.slice A4 N4 D4) b] (fun (h:Unit)=>((iv r),[])):=by
 unfold Z0n at g
 refine aP Tryz.func131 R 25 R R fun C V=>?_
 refine cL 0 aA ?_
 rintro rfl
 refine cL 1 aA ?_
 rintro rfl
 let l:=RR kT3 A2 D2 e::RR kT3 A4 D4 b::V
 refine cN l ?_
 refine iD ?_
 refine bB (A:=(Int)×(Unit)) (fun a=>Z0n_J1 a.1=some r) (fun a=>[(5,(iv a.1))]) (fun a=>l) ?_ ?_
 refine bW ?_
 obtain ⟨J,B,u⟩:=bd g
 refine bD (A:=Unit) B (fun s a=>[(0,(sc A2 e D2)),(1,(sc A4 b D4)),(5,(iv s.1)),(6,(iv s.2))]) (fun s a=>l) () (aS R) tI ?_
 rintro ⟨D,I⟩ _ σ1 E g q
 dsimp only [Z0n_L1] at g
 refine dA ?_
 split at g
 refine cI ?_
 obtain ⟨i,g⟩:=gd g
 obtain ⟨j,g⟩:=gd g
 refine bA 0 aA (show 0<e.length by have:=i; omega) (fun F o17 m=>?_)
 subst m
 refine bA 1 aA (show 0<b.length by have:=j; omega) (fun G o20 m=>?_)
 subst m
 refine dF 12 [] bO fun M L=>?_
 refine uB 0 [] ?_
 refine dD ?_
 refine dU ?_
 cases g
 exact qA () tI
 refine aQ ?_
 cases g
 obtain rfl:=q _ R
 have g:=u
 refine aU ?_
 exact qI (D,()) g tI
 rintro ⟨ue,_⟩ σ1 g
 dsimp only [Z0n_J1] at g
 refine dU ?_
 cases g
 exact qF () (tE 2 [])
theorem Z18_ok  {t1:Tensor}{a:(List Int)}{r:Int}(b:Z18 t1 a=some r) :
 FnOk Tryz.prog 129 [(.agg [(.slice A2 N2 D2),(.slice A3 N3 D3)].toArray),(.slice A5 N5 D5)] [aN kT3 (.slice A2 N2 D2) t1.Dims,aN kT3 (.slice A3 N3 D3) t1.Data,aN kT3 (.slice A5 N5 D5) a] (fun (h:Unit)=>((iv r),[])):=by
 unfold Z18 at b
 refine aP Tryz.func129 R 13 R R fun C V=>?_
 refine cL 0 aA ?_
 rintro rfl
 refine cL 1 aA ?_
 rintro rfl
 refine cL 2 aA ?_
 rintro rfl
 let j:=RR kT3 A2 D2 t1.Dims::RR kT3 A3 D3 t1.Data::RR kT3 A5 D5 a::V
 refine cN j ?_
 refine aU ?_
 refine eJ R fun m=>?_
 refine aU ?_
 let l:=aJ m [(sc A2 t1.Dims D2),(sc A3 t1.Data D3)] 42::j
 refine qN l ?_
 refine aU ?_
 obtain ⟨E,i,b⟩:=bd b
 obtain ⟨g,b⟩:=gd b
 refine bA 2 aA (show 0<t1.Data.length by have:=g; omega) (fun q o11 u=>?_)
 subst u
 refine dF 9 [] bO fun D B=>?_
 refine ko 0 [] ?_
 refine d1 5 R (lM _ (fun w s=>(((s.d 1 R).d 4 R).e 2 [1,0])) ?_)
 refine lC 2 sS R (Z0n_ok i) R ?_
 rintro _
 refine lN l ?_
 refine aC (aI (sL []) ?_)
 refine iz 6 [] ?_
 refine dD ?_
 refine aU ?_
 cases b
 exact qF () (tE 4 [])
theorem Z09_ok  {t1:Tensor}{b:(List Int)}{r:Int}(g:Z09 t1 b=some r) :
 FnOk Tryz.prog 121 [(.agg [(.slice A2 N2 D2),(.slice A3 N3 D3)].toArray),(.slice A5 N5 D5)] [aN kT3 (.slice A2 N2 D2) t1.Dims,aN kT3 (.slice A3 N3 D3) t1.Data,aN kT3 (.slice A5 N5 D5) b] (fun (h:Unit)=>((iv r),[])):=by
 unfold Z09 at g
 refine aP Tryz.func121 R 42 R R fun C V=>?_
 refine cL 0 aA ?_
 rintro rfl
 refine cL 1 aA ?_
 rintro rfl
 refine cL 2 aA ?_
 rintro rfl
 let W0:=RR kT3 A2 D2 t1.Dims::RR kT3 A3 D3 t1.Data::RR kT3 A5 D5 b::V
 refine cN W0 ?_
 refine aU ?_
 refine eJ R fun b6=>?_
 refine aU ?_
 let M:=aJ b6 [(sc A2 t1.Dims D2),(sc A3 t1.Data D3)] 42::W0
 refine qN M ?_
 refine nI ?_
 refine bP (K:=kT3) (xs:=([]:List Int)) (vs:=[]) 0 R R bM cJ gV R R R R R R ?_ R (fun A7 D7=>?_)
 exact fun I h s=>(gR).list [] I h s
 refine bI ?_
 refine bB (A:=((List Int))×(HH)) (fun a=>Z09_J3 t1 a.1=some r) (fun a=>[(2,(pt b6 0)),(6,(s3 a.2))]) (fun a=>ow kT3 3 (s3 a.2) a.1::M) ?_ ?_
 refine bW ?_
 obtain ⟨e1,a6,a5⟩:=bd g
 refine bD (A:=HH×HH) a6 (fun s a=>[(1,(s3 a.1)),(2,(pt b6 0)),(5,(iv (aH ((b.length:Int) - (t1.Dims.length:Int))))),(6,(s3 a.2)),(7,(iv s.2))]) (fun s a=>aN kT3 (s3 a.1) b::ow kT3 3 (s3 a.2) s.1::M) ((A5,b.length,D5),(A7,([]:List Int).length,D7)) (aS R) (fun w s=>(s.d 4 R)) ?_
 rintro ⟨i,G⟩ ⟨⟨a7,a1,u⟩,⟨m,a2,D⟩⟩ σ1 a0 g a4
 dsimp only [Z09_L1] at g
 refine bK 0 aA (fun (Y:a1=b.length)=>?_)
 subst Y
 refine bK 1 aB (fun (Y:a2=i.length)=>?_)
 subst Y
 refine dG ?_
 split at g
 refine bW ?_
 obtain ⟨O,g⟩:=gd g
 refine cI ?_
 refine bC 0 aA (show 0<b.length by have:=O; omega) (fun F o27 ha=>?_)
 subst ha
 refine bW ?_
 refine bB (A:=(Int)×(Unit)) (fun a=>Z09_J2 i G a.1=some a0) (fun a=>[(1,(sc (ad F o27) b u)),(2,(pt b6 0)),(5,(iv (aH ((b.length:Int) - (t1.Dims.length:Int))))),(6,(sc m i D)),(7,(iv G)),(8,(iv a.1))]) (fun a=>RR kT3 (ad F o27) u b::OO kT3 3 m D i::M) ?_ ?_
 refine bX ?_
 obtain ⟨T,g⟩:=gd g
 refine bI ?_
 refine bC 3 aA (show 0<t1.Dims.length by have:=T; omega) (fun aa o30 ha=>?_)
 subst ha
 refine cI ?_
 split at g
 refine bI ?_
 exact qI ((0:Int),()) g tI
 refine aU ?_
 exact qI ((ix b (aH ((aH ((b.length:Int) - (t1.Dims.length:Int)))+G))),()) g tI
 rintro ⟨j,_⟩ σ1 g
 dsimp only [Z09_J2] at g
 obtain ⟨U,g⟩:=gd g
 refine aQ ?_
 refine bP (K:=kT3) (xs:=([j]:List Int)) (vs:=[(iv j)]) 0 R R bM cJ gV R R R R R R ?_ R (fun a8 a9=>?_)
 exact fun I h s=>(gR).list [((),j)] I h s
 refine lM _ (tE 3 [2,0,1]) ?_
 refine eP (K:=kT3) 17592186044416 R R bM cJ kk (Zr.zk zT3 gV) R R R R R R dZ U (fun J L=>(lN (OO kT3 3 J L (i++([j]:List Int))::_::M) ?_))
 refine dA ?_
 cases g
 exact qA (((ad F o27),b.length,u),(J,(i++([j]:List Int)).length,L)) (tE 2 [1,0])
 refine aQ ?_
 cases g
 obtain rfl:=a4 _ R
 have g:=a5
 refine aU ?_
 exact qI (i,(m,i.length,D)) g (tE 2 [1])
 rintro ⟨l,⟨q,a3,E⟩⟩ σ1 g
 dsimp only [Z09_J3] at g
 refine bK 0 aB (fun (Y:a3=l.length)=>?_)
 subst Y
 refine bX ?_
 obtain ⟨ab,Z,g⟩:=bd g
 refine aQ ?_
 refine lM _ (fun w s=>(((s.d 2 R).d 4 R).e 3 [2,1,0])) ?_
 refine lC 3 ni R (FnOk.lends (A':=[OO kT3 3 q E l]) (A:=[RR kT3 q E l]) (B:=[RR kT3 A2 D2 t1.Dims,RR kT3 A3 D3 t1.Data]) (FnOk.perm (Z18_ok Z) (Pre':=[RR kT3 q E l,RR kT3 A2 D2 t1.Dims,RR kT3 A3 D3 t1.Data]) (fun _ _ _ s=>(s.e 3 [1,2,0]))) ⟨aZ,trivial⟩ (fun _=>trivial)) R ?_
 rintro _
 refine bI ?_
 cases g
 exact qF () (tE 5 [])
theorem Zt_ok  {p1:Int}{r:Int}(b:Zt p1=some r) :
 FnOk Tryz.prog 103 [(iv p1)] [] (fun (h:Unit)=>((iv r),[])):=by
 unfold Zt at b
 refine aP Tryz.func103 R 11 R R fun C V=>?_
 refine cN V ?_
 refine dI ?_
 refine lO (sh R R (by decide)) ?_
 refine bI ?_
 refine bB (A:=(Int)×(Unit)) (fun a=>Zt_J1 a.1=some r) (fun a=>[(3,(iv a.1))]) (fun a=>V) ?_ ?_
 refine bW ?_
 split at b
 refine bW ?_
 exact qI ((aH ((p1.tmod (2147483647:Int))+2147483647)),()) b tI
 refine aU ?_
 exact qI ((p1.tmod (2147483647:Int)),()) b tI
 rintro ⟨e,_⟩ σ1 b
 dsimp only [Zt_J1] at b
 refine dU ?_
 cases b
 exact qF () tI
theorem Z1f_ok  {e:Int}{r:Int}(a:Z1f e=some r) :
 FnOk Tryz.prog 125 [(iv e)] [] (fun (h:Unit)=>((iv r),[])):=by
 unfold Z1f at a
 refine aP Tryz.func125 R 11 R R fun C V=>?_
 refine cN V ?_
 refine bW ?_
 obtain ⟨g,b,a⟩:=bd a
 refine aU ?_
 refine lC 0 jD R (Zt_ok b) R ?_
 rintro _
 refine dG ?_
 split at a
 refine dG ?_
 cases a
 exact qF () tI
 refine dG ?_
 cases a
 exact qF () tI
theorem Z1n_ok  {i:Int}{j:Int}{r:Int}(a:Z1n i j=some r) :
 FnOk Tryz.prog 132 [(iv i),(iv j)] [] (fun (h:Unit)=>((iv r),[])):=by
 unfold Z1n at a
 refine aP Tryz.func132 R 11 R R fun C V=>?_
 refine cN V ?_
 refine bW ?_
 obtain ⟨l,b,a⟩:=bd a
 obtain ⟨m,e,a⟩:=bd a
 obtain ⟨q,g,a⟩:=bd a
 refine aU ?_
 refine lC 0 jD R (Zt_ok b) R ?_
 rintro _
 refine lI R (lC 0 jD R (Zt_ok e) R ?_)
 rintro _
 refine bX ?_
 refine lC 0 jD R (Zt_ok g) R ?_
 rintro _
 refine bI ?_
 cases a
 exact qF () tI
theorem Z2c_ok  {i:Int}{j:Int}{r:Int}(a:Z2c i j=some r) :
 FnOk Tryz.prog 150 [(iv i),(iv j)] [] (fun (h:Unit)=>((iv r),[])):=by
 unfold Z2c at a
 refine aP Tryz.func150 R 11 R R fun C V=>?_
 refine cN V ?_
 refine bW ?_
 obtain ⟨l,b,a⟩:=bd a
 obtain ⟨m,e,a⟩:=bd a
 obtain ⟨q,g,a⟩:=bd a
 refine aU ?_
 refine lC 0 jD R (Zt_ok b) R ?_
 rintro _
 refine lI R (lC 0 jD R (Zt_ok e) R ?_)
 rintro _
 refine bX ?_
 refine lC 0 jD R (Zt_ok g) R ?_
 rintro _
 refine bI ?_
 cases a
 exact qF () tI
theorem Z1g_ok  {i:Int}{j:Int}{r:Int}(a:Z1g i j=some r) :
 FnOk Tryz.prog 128 [(iv i),(iv j)] [] (fun (h:Unit)=>((iv r),[])):=by
 unfold Z1g at a
 refine aP Tryz.func128 R 11 R R fun C V=>?_
 refine cN V ?_
 refine bW ?_
 obtain ⟨l,b,a⟩:=bd a
 obtain ⟨m,e,a⟩:=bd a
 obtain ⟨q,g,a⟩:=bd a
 refine aU ?_
 refine lC 0 jD R (Zt_ok b) R ?_
 rintro _
 refine lI R (lC 0 jD R (Zt_ok e) R ?_)
 rintro _
 refine bX ?_
 refine lC 0 jD R (Zt_ok g) R ?_
 rintro _
 refine bI ?_
 cases a
 exact qF () tI
theorem Zv_S_ok {q:Int→Int→Option (Int)}(j:∀ {g:Int} {e:Int} {r:Int},q g e=some r→FnOk Tryz.prog 163 [(iv g),(iv e)] [] (fun (h:Unit)=>((iv r),[]))){g:Int}{e:Int}{r:Int}(b:Zv_S q g e=some r) :
 FnOk Tryz.prog 163 [(iv g),(iv e)] [] (fun (h:Unit)=>((iv r),[])):=by
 unfold Zv_S at b
 refine aP Tryz.func163 R 22 R R fun C V=>?_
 refine cN V ?_
 refine iM ?_
 split at b
 refine dI ?_
 cases b
 exact qF () tI
 refine bI ?_
 obtain ⟨D,l,b⟩:=bd b
 refine aQ ?_
 refine lO (vz (iv (aH (e.tdiv (2:Int)))) (ng R R (by decide))) (lC 0 vV R (j l) R ?_)
 rintro _
 refine bI ?_
 obtain ⟨s,m,b⟩:=bd b
 refine aQ ?_
 refine lC 0 oG R (Z1g_ok m) R ?_
 rintro _
 refine bI ?_
 refine bB (A:=(Int)×(Unit)) (fun a=>Zv_J1 a.1=some r) (fun a=>[(5,(iv a.1))]) (fun a=>V) ?_ ?_
 refine aQ ?_
 refine lO (sh R R (by decide)) ?_
 refine aQ ?_
 split at b
 refine bX ?_
 obtain ⟨u,i,b⟩:=bd b
 refine aQ ?_
 refine lC 0 oG R (Z1g_ok i) R ?_
 rintro _
 refine aU ?_
 exact qI (u,()) b tI
 refine aU ?_
 exact qI (s,()) b tI
 rintro ⟨B,_⟩ σ1 b
 dsimp only [Zv_J1] at b
 refine dU ?_
 cases b
 exact qF () tI
theorem Zv_R_ok (n:Nat):∀ {a:Int} {b:Int} {r:Int},Zv_R n a b=some r→FnOk Tryz.prog 163 [(iv a),(iv b)] [] (fun (h:Unit)=>((iv r),[])):=by
 induction n with
 | zero=>intros; rename_i h; cases h
 | succ n ih=>intros; rename_i h; exact Zv_S_ok ih h
theorem Zv_ok {a:Int}{b:Int}{r:Int}(e:Zv a b=some r):FnOk Tryz.prog 163 [(iv a),(iv b)] [] (fun (h:Unit)=>((iv r),[])):=Zv_R_ok nG e
theorem Z2b_ok  {g:Int}{r:Int}(a:Z2b g=some r) :
 FnOk Tryz.prog 152 [(iv g)] [] (fun (h:Unit)=>((iv r),[])):=by
 unfold Z2b at a
 refine aP Tryz.func152 R 6 R R fun C V=>?_
 refine cN V ?_
 refine bW ?_
 obtain ⟨i,b,a⟩:=bd a
 obtain ⟨j,e,a⟩:=bd a
 refine aU ?_
 refine lC 0 jD R (Zt_ok b) R ?_
 rintro _
 refine lC 0 vV R (Zv_ok e) R ?_
 rintro _
 refine bI ?_
 cases a
 exact qF () tI
theorem Z3z_ok  {g:Int}{i:Int}{r:Int}(a:Z3z g i=some r) :
 FnOk Tryz.prog 151 [(iv g),(iv i)] [] (fun (h:Unit)=>((iv r),[])):=by
 unfold Z3z at a
 refine aP Tryz.func151 R 9 R R fun C V=>?_
 refine cN V ?_
 refine bW ?_
 obtain ⟨j,b,a⟩:=bd a
 obtain ⟨l,e,a⟩:=bd a
 refine aQ ?_
 refine lC 0 vW R (Z2b_ok b) R ?_
 rintro _
 refine lC 0 oG R (Z1g_ok e) R ?_
 rintro _
 refine bI ?_
 cases a
 exact qF () tI
theorem Z1o_ok  {l:Int}{s:Int}{u:Int}{r:Int}(b:Z1o l s u=some r) :
 FnOk Tryz.prog 120 [(iv l),(iv s),(iv u)] [] (fun (h:Unit)=>((iv r),[])):=by
 unfold Z1o at b
 refine aP Tryz.func120 R 54 R R fun C V=>?_
 refine cN V ?_
 refine bW ?_
 obtain ⟨G,m,b⟩:=bd b
 obtain ⟨I,q,b⟩:=bd b
 refine aU ?_
 refine lC 0 oE R (Z1f_ok m) R ?_
 rintro _
 refine lI R (lC 0 oE R (Z1f_ok q) R ?_)
 rintro _
 refine dG ?_
 refine bB (A:=(Bool)×(Unit)) (fun a=>Z1o_J1 a.1=some r) (fun a=>[(8,(.bool a.1))]) (fun a=>V) ?_ ?_
 refine iM ?_
 split at b
 refine aU ?_
 obtain ⟨J,e,b⟩:=bd b
 refine aQ ?_
 refine lC 0 qo R (Z1n_ok e) R ?_
 rintro _
 refine bW ?_
 cases b
 exact qF () tI
 refine dU ?_
 split at b
 refine aU ?_
 obtain ⟨D,g,b⟩:=bd b
 refine aQ ?_
 refine lC 0 vU R (Z2c_ok g) R ?_
 rintro _
 refine bW ?_
 cases b
 exact qF () tI
 refine dU ?_
 split at b
 refine aU ?_
 obtain ⟨E,i,b⟩:=bd b
 refine aQ ?_
 refine lC 0 oG R (Z1g_ok i) R ?_
 rintro _
 refine bW ?_
 cases b
 exact qF () tI
 refine dU ?_
 split at b
 refine aU ?_
 obtain ⟨F,j,b⟩:=bd b
 refine aQ ?_
 refine lC 0 yT R (Z3z_ok j) R ?_
 rintro _
 refine bW ?_
 cases b
 exact qF () tI
 refine dU ?_
 split at b
 refine dU ?_
 split at b
 refine iD ?_
 cases b
 exact qF () tI
 refine iM ?_
 cases b
 exact qF () tI
 refine dU ?_
 split at b
 refine dU ?_
 split at b
 refine iD ?_
 cases b
 exact qF () tI
 refine iM ?_
 cases b
 exact qF () tI
 refine dU ?_
 split at b
 refine bW ?_
 exact qI ((decide (G<I)),()) b tI
 refine dU ?_
 split at b
 refine dI ?_
 exact qI ((s==u),()) b tI
 refine aQ ?_
 exact qI (false,()) b tI
 rintro ⟨B,_⟩ σ1 b
 dsimp only [Z1o_J1] at b
 refine bW ?_
 split at b
 refine dI ?_
 cases b
 exact qF () tI
 refine dA ?_
 cases b
 exact qF () tI
theorem Z13_ok  {F:Int}{M:Tensor}{U:Tensor}{r:Tensor}(g:Z13 F M U=some r) :
 FnOk Tryz.prog 88 [(iv F),(.agg [(.slice A3 N3 D3),(.slice A4 N4 D4)].toArray),(.agg [(.slice A6 N6 D6),(.slice A7 N7 D7)].toArray)] [aN kT3 (.slice A3 N3 D3) M.Dims,aN kT3 (.slice A4 N4 D4) M.Data,aN kT3 (.slice A6 N6 D6) U.Dims,aN kT3 (.slice A7 N7 D7) U.Data] (fun (h:HH×HH)=>((.agg [(s3 h.1),(s3 h.2)].toArray),[ow kT3 3 (s3 h.1) r.Dims,ow kT3 3 (s3 h.2) r.Data])):=by
 unfold Z13 at g
 refine aP Tryz.func88 R 73 R R fun C V=>?_
 refine cL 0 aA ?_
 rintro rfl
 refine cL 1 aA ?_
 rintro rfl
 refine cL 2 aA ?_
 rintro rfl
 refine cL 3 aA ?_
 rintro rfl
 let W0:=RR kT3 A3 D3 M.Dims::RR kT3 A4 D4 M.Data::RR kT3 A6 D6 U.Dims::RR kT3 A7 D7 U.Data::V
 refine cN W0 ?_
 refine aU ?_
 refine eJ R fun b8=>?_
 refine eJ R fun b9=>?_
 refine bE R R dX (fun m=>(aC ?_))
 let W1:=aJ b9 [(sc A6 U.Dims D6),(sc A7 U.Data D7)] 42::aJ b8 [(sc A3 M.Dims D3),(sc A4 M.Data D4)] 42::W0
 refine aQ ?_
 obtain ⟨Z,a5,g⟩:=bd g
 obtain ⟨a0,a6,g⟩:=bd g
 refine cQ [(0,(iv F)),(4,(pt b8 0)),(5,(pt b9 0)),(6,(pt m 0)),(26,(.bool ((((!Z)||(!a0))||(decide (F<1)))||(decide (F>8)))))] (aJ m [(.slice none 0 0),(.slice none 0 0)] 42::W1) ?_ ?_
 refine aU ?_
 refine lM _ (fun w s=>(((s.d 3 R).d 5 R).e 3 [1,0,2])) ?_
 refine lC 2 nJ R (Zu_ok a5) R ?_
 rintro _
 refine aU ?_
 rcases bo (!Z) with Y | Y
 refine kh ?_
 exact qj tI
 refine bX ?_
 refine lM _ (fun w s=>(((s.d 5 R).d 7 R).e 3 [1,0,2])) ?_
 refine bU 2 R (cC Y) nJ R (Zu_ok (bJ a6 (cX Y))) R ?_
 rintro _
 refine aQ ?_
 rcases bo ((!Z)||(!a0)) with a1 | a1
 refine dI ?_
 exact qj tI
 refine bI ?_
 rcases bo (((!Z)||(!a0))||(decide (F<1))) with a3 | a3
 refine bI ?_
 exact qj tI
 refine bI ?_
 exact qj tI
 rintro σ1
 refine bX ?_
 split at g
 refine aQ ?_
 refine lO (vz (.agg [(.slice none 0 0),(.slice none 0 0)].toArray) (aX gU dX R R)) (aL 0 R R bT R R R R R R (aC (aG (bY (cG ?_)))))
 cases g
 exact qS ((none,0,0),(none,0,0)) (fun w s=>(((s.nilo kT3 3).nilo kT3 3).e 9 [1,0]))
 refine bI ?_
 obtain ⟨i,a7,g⟩:=bd g
 refine cI ?_
 refine lM _ (fun w s=>(((s.d 3 R).d 6 R).e 3 [1,0,2])) ?_
 refine lC 2 yS R (Z00_ok a7) R ?_
 rintro ⟨q,an,D⟩
 refine aM 0 aB ?_
 rintro rfl
 refine cI ?_
 refine cQ [(0,(iv F)),(4,(pt b8 0)),(5,(pt b9 0)),(6,(pt m 0)),(7,(sc q i D)),(46,(.bool ((decide ((i.length:Int)<(M.Dims.length:Int)))||(decide ((i.length:Int)<(U.Dims.length:Int))))))] (aJ m [(.slice none 0 0),(.slice none 0 0)] 42::OO kT3 3 q D i::W1) ?_ ?_
 refine dI ?_
 rcases bo (decide ((i.length:Int)<(M.Dims.length:Int))) with a4 | a4
 refine dI ?_
 exact qj (tE 2 [1,0])
 refine dI ?_
 exact qj (tE 2 [1,0])
 rintro σ1
 refine bX ?_
 split at g
 refine aQ ?_
 refine lO (vz (.agg [(.slice none 0 0),(.slice none 0 0)].toArray) (aX gU dX R R)) (aL 0 R R bT R R R R R R (aC (aG (bY (cG ?_)))))
 cases g
 exact qS ((none,0,0),(none,0,0)) (fun w s=>(((s.nilo kT3 3).nilo kT3 3).e 10 [1,0]))
 refine bI ?_
 obtain ⟨b,a8,g⟩:=bd g
 refine aU ?_
 refine lM _ (tE 2 [1,0]) ?_
 refine lC 1 kK R (FnOk.lends (A':=[OO kT3 3 q D i]) (A:=[RR kT3 q D i]) (B:=[]) (Z0i_ok a8) ⟨aZ,trivial⟩ (fun _=>⟨(bN ji),(bN ji),trivial⟩)) R ?_
 rintro ⟨⟨u,ao,E⟩,⟨j,ap,l⟩⟩
 refine aM 1 aB ?_
 rintro rfl
 refine aM 2 aB ?_
 rintro rfl
 refine bE R R dX (fun O=>(aL 0 R R bT R R R R R R (lN (aJ O [(sc u b.Dims E),(sc j b.Data l)] 42::_::_::_::_::W1) ?_)))
 refine aQ ?_
 refine bB (A:=((List Int))×(Unit)) (fun a=>Z13_J1 b a.1=some r) (fun a=>[(6,(pt m 0)),(8,(pt O 0))]) (fun a=>aJ m [(.slice none 0 0),(.slice none 0 0)] 42::aJ O [(sc u b.Dims E),(sc j b.Data l)] 42::OO kT3 3 u E b.Dims::ow kT3 3 (.slice j b.Data.length l) a.1::W1) ?_ ?_
 refine bW ?_
 obtain ⟨e1,ai,ah⟩:=bd g
 refine bD (A:=Unit) ai (fun s a=>[(0,(iv F)),(4,(pt b8 0)),(5,(pt b9 0)),(6,(pt m 0)),(7,(sc q i D)),(8,(pt O 0)),(9,(iv s.2))]) (fun s a=>aJ m [(.slice none 0 0),(.slice none 0 0)] 42::OO kT3 3 q D i::aJ O [(sc u b.Dims E),(sc j b.Data l)] 42::OO kT3 3 u E b.Dims::ow kT3 3 (.slice j b.Data.length l) s.1::W1) () (aS R) (tE 5 [4,1,0,2,3]) ?_
 rintro ⟨ak,aj⟩ _ σ1 am g ag
 dsimp only [Z13_L1] at g
 refine dG ?_
 split at g
 refine bW ?_
 obtain ⟨T,a9,g⟩:=bd g
 refine aQ ?_
 refine lM _ (tE 5 [1,0,2,3,4]) ?_
 refine lC 1 lF R (FnOk.lends (A':=[OO kT3 3 q D i]) (A:=[RR kT3 q D i]) (B:=[]) (Zm_ok a9) ⟨aZ,trivial⟩ (fun _=>⟨(bN ji),trivial⟩)) R ?_
 rintro ⟨J,aq,L⟩
 refine aM 1 aB ?_
 rintro rfl
 refine aQ ?_
 obtain ⟨au,aa,g⟩:=bd g
 obtain ⟨av,ab,g⟩:=bd g
 obtain ⟨ae,ac,g⟩:=bd g
 obtain ⟨G,g⟩:=gd g
 refine bA 5 aB (show 0<b.Data.length by have:=G; omega) (fun ar o56 ha=>?_)
 subst ha
 refine dF 13 [5] bO fun ht hn=>?_
 refine sG 0 [5] ?_
 refine gZ 7 [5] ?_
 refine d1 6 R (lM _ (fun w s=>(((s.d 8 R).d 10 R).e 8 [3,1,0,2,4,5,6,7])) ?_)
 refine lC 3 vX R (FnOk.lends (A':=[OO kT3 3 J L T]) (A:=[RR kT3 J L T]) (B:=[RR kT3 A3 D3 M.Dims,RR kT3 A4 D4 M.Data]) (FnOk.perm (Z09_ok aa) (Pre':=[RR kT3 J L T,RR kT3 A3 D3 M.Dims,RR kT3 A4 D4 M.Data]) (fun _ _ _ s=>(s.e 3 [1,2,0]))) ⟨aZ,trivial⟩ (fun _=>trivial)) R ?_
 rintro _
 refine aC (aI (tE 6 [1,0,2,3,4]) (d1 9 R (lM _ (fun w s=>(((s.d 10 R).d 12 R).e 8 [2,1,0,3,4,5,6,7])) ?_)))
 refine lC 3 vX R (FnOk.lends (A':=[OO kT3 3 J L T]) (A:=[RR kT3 J L T]) (B:=[RR kT3 A6 D6 U.Dims,RR kT3 A7 D7 U.Data]) (FnOk.perm (Z09_ok ab) (Pre':=[RR kT3 J L T,RR kT3 A6 D6 U.Dims,RR kT3 A7 D7 U.Data]) (fun _ _ _ s=>(s.e 3 [1,2,0]))) ⟨aZ,trivial⟩ (fun _=>trivial)) R ?_
 rintro _
 refine aC (aI (tE 6 [1,0,2,3,4]) (d1 10 R (lC 0 yU R (Z1o_ok ac) R ?_)))
 rintro _
 refine aC (aI (tE 6 [1,0,2,3,4]) (dR 11 R (eM bM cJ R R G) (hS:=(tE 6 [1,0,2,3,4])) (d1 12 R (lM _ (fun w s=>(s.f 6 [5,1,0,5])) ?_))))
 refine eL (K:=kT3) (x':=ae) 0 aj R R cJ R R G.1 G.2 ?_ ?_
 exact fun I h s=>(gR).put I h () ae s
 refine aC (aI (tE 6 [2,1,3,4,5]) (dD ?_))
 refine dU ?_
 cases g
 exact qA () (tE 6 [3,2,4,5,0])
 refine aQ ?_
 cases g
 obtain rfl:=ag _ R
 have g:=ah
 refine aU ?_
 exact qI (ak,()) g (tE 5 [0,2,3,4])
 rintro ⟨al,_⟩ σ1 g
 dsimp only [Z13_J1] at g
 refine aQ ?_
 refine aL 0 R R bT R R R R R R (lN (aJ m [(sc u b.Dims E),(sc j b.Data l)] 42::aJ O [(sc u b.Dims E),(sc j b.Data l)] 42::_::ow kT3 3 (.slice j b.Data.length l) al::W1) ?_)
 refine aQ ?_
 cases g
 exact qS ((u,b.Dims.length,E),(j,b.Data.length,l)) (tE 10 [2,3])
theorem Z37_ok  {e:Int}{j:Int}{r:Int}(a:Z37 e j=some r) :
 FnOk Tryz.prog 122 [(iv e),(iv j)] [] (fun (h:Unit)=>((iv r),[])):=by
 unfold Z37 at a
 refine aP Tryz.func122 R 20 R R fun C V=>?_
 refine cN V ?_
 refine yH ?_
 split at a
 refine aU ?_
 obtain ⟨l,g,a⟩:=bd a
 refine aU ?_
 refine lC 0 vU R (Z2c_ok g) R ?_
 rintro _
 refine bW ?_
 cases a
 exact qF () tI
 refine dU ?_
 split at a
 refine aU ?_
 obtain ⟨m,i,a⟩:=bd a
 refine aU ?_
 refine lC 0 vW R (Z2b_ok i) R ?_
 rintro _
 refine bW ?_
 cases a
 exact qF () tI
 refine bW ?_
 obtain ⟨q,b,a⟩:=bd a
 refine aU ?_
 refine lC 0 oE R (Z1f_ok b) R ?_
 rintro _
 refine aQ ?_
 split at a
 refine dI ?_
 cases a
 exact qF () tI
 refine dG ?_
 split at a
 refine dI ?_
 cases a
 exact qF () tI
 refine dG ?_
 cases a
 exact qF () tI
theorem Z12_ok  {l:Int}{u:Tensor}{r:Tensor}(g:Z12 l u=some r) :
 FnOk Tryz.prog 89 [(iv l),(.agg [(.slice A3 N3 D3),(.slice A4 N4 D4)].toArray)] [aN kT3 (.slice A3 N3 D3) u.Dims,aN kT3 (.slice A4 N4 D4) u.Data] (fun (h:HH×HH)=>((.agg [(s3 h.1),(s3 h.2)].toArray),[ow kT3 3 (s3 h.1) r.Dims,ow kT3 3 (s3 h.2) r.Data])):=by
 unfold Z12 at g
 refine aP Tryz.func89 R 41 R R fun C V=>?_
 refine cL 0 aA ?_
 rintro rfl
 refine cL 1 aA ?_
 rintro rfl
 let W0:=RR kT3 A3 D3 u.Dims::RR kT3 A4 D4 u.Data::V
 refine cN W0 ?_
 refine aU ?_
 refine eJ R fun M=>?_
 refine bE R R dX (fun B=>(aC ?_))
 let D:=aJ M [(sc A3 u.Dims D3),(sc A4 u.Data D4)] 42::W0
 refine aQ ?_
 obtain ⟨r7,a0,g⟩:=bd g
 refine cQ [(0,(iv l)),(3,(pt M 0)),(4,(pt B 0)),(17,(.bool (((!r7)||(decide (l<1)))||(decide (l>4)))))] (aJ B [(.slice none 0 0),(.slice none 0 0)] 42::D) ?_ ?_
 refine aU ?_
 refine lM _ (fun w s=>(((s.d 2 R).d 4 R).e 3 [1,0,2])) ?_
 refine lC 2 nJ R (Zu_ok a0) R ?_
 rintro _
 refine aU ?_
 rcases bo (!r7) with T | T
 refine dI ?_
 exact qj tI
 refine bI ?_
 rcases bo ((!r7)||(decide (l<1))) with E | E
 refine bI ?_
 exact qj tI
 refine bI ?_
 exact qj tI
 rintro σ1
 refine bX ?_
 split at g
 refine aQ ?_
 refine lO (vz (.agg [(.slice none 0 0),(.slice none 0 0)].toArray) (aX gU dX R R)) (aL 0 R R bT R R R R R R (aC (aG (bY (cG ?_)))))
 cases g
 exact qS ((none,0,0),(none,0,0)) (fun w s=>(((s.nilo kT3 3).nilo kT3 3).e 6 [1,0]))
 refine bI ?_
 obtain ⟨b,G,g⟩:=bd g
 refine aQ ?_
 refine lM _ (fun w s=>(s.d 2 R)) ?_
 refine lC 1 kK R (Z0i_ok G) R ?_
 rintro ⟨⟨A14,N14,D14⟩,⟨i,a5,j⟩⟩
 refine aM 0 aB ?_
 rintro rfl
 refine aM 1 aB ?_
 rintro rfl
 refine bE R R dX (fun m=>(aL 0 R R bT R R R R R R (lN (aJ m [(sc A14 b.Dims D14),(sc i b.Data j)] 42::_::_::_::D) ?_)))
 refine aQ ?_
 refine bB (A:=((List Int))×(Unit)) (fun a=>Z12_J1 b a.1=some r) (fun a=>[(4,(pt B 0)),(5,(pt m 0))]) (fun a=>aJ B [(.slice none 0 0),(.slice none 0 0)] 42::aJ m [(sc A14 b.Dims D14),(sc i b.Data j)] 42::OO kT3 3 A14 D14 b.Dims::ow kT3 3 (.slice i b.Data.length j) a.1::D) ?_ ?_
 refine bW ?_
 obtain ⟨e1,Z,Y⟩:=bd g
 refine bD (A:=Unit) Z (fun s a=>[(0,(iv l)),(3,(pt M 0)),(4,(pt B 0)),(5,(pt m 0)),(6,(iv s.2))]) (fun s a=>aJ B [(.slice none 0 0),(.slice none 0 0)] 42::aJ m [(sc A14 b.Dims D14),(sc i b.Data j)] 42::OO kT3 3 A14 D14 b.Dims::ow kT3 3 (.slice i b.Data.length j) s.1::D) () (aS R) (tE 4 [3,0,1,2]) ?_
 rintro ⟨a2,a1⟩ _ σ1 a4 g U
 dsimp only [Z12_L1] at g
 refine dG ?_
 split at g
 refine cI ?_
 obtain ⟨F,g⟩:=gd g
 obtain ⟨L,J,g⟩:=bd g
 obtain ⟨q,g⟩:=gd g
 refine bA 6 aA (show 0<u.Data.length by have:=F; omega) (fun a6 o31 O=>?_)
 subst O
 refine bA 3 aB (show 0<b.Data.length by have:=q; omega) (fun a7 o36 O=>?_)
 subst O
 refine dF 12 [3] bO fun ht hn=>?_
 refine vO 0 [3] ?_
 refine d1 9 R (lC 0 yV R (Z37_ok J) R ?_)
 rintro _
 refine aC (aI (sL [3]) ?_)
 refine n6 10 [3] ?_
 refine d1 11 R (lM _ (tE 4 [3,0,1,2]) ?_)
 refine eL (K:=kT3) (x':=L) 0 a1 R R cJ R R q.1 q.2 ?_ ?_
 exact fun I h s=>(gR).put I h () L s
 refine aC (aI (sL [0]) (dD ?_))
 refine dU ?_
 cases g
 exact qA () (tE 4 [1,2,3,0])
 refine aQ ?_
 cases g
 obtain rfl:=U _ R
 have g:=Y
 refine aU ?_
 exact qI (a2,()) g tI
 rintro ⟨a3,_⟩ σ1 g
 dsimp only [Z12_J1] at g
 refine aQ ?_
 refine aL 0 R R bT R R R R R R (lN (aJ B [(sc A14 b.Dims D14),(sc i b.Data j)] 42::aJ m [(sc A14 b.Dims D14),(sc i b.Data j)] 42::_::ow kT3 3 (.slice i b.Data.length j) a3::D) ?_)
 refine aQ ?_
 cases g
 exact qS ((A14,b.Dims.length,D14),(i,b.Data.length,j)) (tE 7 [2,3])
theorem Z1h_ok  {t1:Tensor}{a:Int}{r:Bool}(b:Z1h t1 a=some r) :
 FnOk Tryz.prog 123 [(.agg [(.slice A2 N2 D2),(.slice A3 N3 D3)].toArray),(iv a)] [aN kT3 (.slice A2 N2 D2) t1.Dims,aN kT3 (.slice A3 N3 D3) t1.Data] (fun (h:Unit)=>((.bool r),[])):=by
 unfold Z1h at b
 refine aP Tryz.func123 R 18 R R fun C V=>?_
 refine cL 0 aA ?_
 rintro rfl
 refine cL 1 aA ?_
 rintro rfl
 let q:=RR kT3 A2 D2 t1.Dims::RR kT3 A3 D3 t1.Data::V
 refine cN q ?_
 refine aU ?_
 refine eJ R fun u=>?_
 refine aU ?_
 let g:=aJ u [(sc A2 t1.Dims D2),(sc A3 t1.Data D3)] 42::q
 refine qN g ?_
 refine aU ?_
 obtain ⟨m,l,b⟩:=bd b
 refine cQ [(4,(.bool ((m&&(decide (a≥0)))&&(decide (a<(t1.Dims.length:Int))))))] (g) ?_ ?_
 refine aU ?_
 refine lM _ (fun w s=>(((s.d 1 R).d 3 R).e 2 [1,0])) ?_
 refine lC 2 nJ R (Zu_ok l) R ?_
 rintro _
 refine lN g ?_
 refine bX ?_
 rcases bo m with i | i
 refine bI ?_
 rcases bo (m&&(decide (a≥0))) with j | j
 refine dI ?_
 exact qj tI
 refine dI ?_
 exact qj tI
 refine iM ?_
 exact qj tI
 rintro σ1
 refine aU ?_
 cases b
 exact qF () (tE 3 [])
theorem Z0j_ok  {g:(List Int)}{j:Int}{e:Int}{r:(List Int)}(b:Z0j g j e=some r) :
 FnOk Tryz.prog 139 [(.slice A2 N2 D2),(iv j),(iv e)] [aN kT3 (.slice A2 N2 D2) g] (fun (h:HH)=>((s3 h),[ow kT3 3 (s3 h) r])):=by
 unfold Z0j at b
 refine aP Tryz.func139 R 15 R R fun C V=>?_
 refine cL 0 aA ?_
 rintro rfl
 let m:=RR kT3 A2 D2 g::V
 refine cN m ?_
 refine bW ?_
 obtain ⟨l,i,b⟩:=bd b
 refine aU ?_
 refine lM _ (fun w s=>(s.d 0 R)) ?_
 refine lC 1 jT R (Zw_ok i) R ?_
 rintro ⟨A7,N7,D7⟩
 refine aM 0 aB ?_
 rintro rfl
 refine bI ?_
 obtain ⟨a,b⟩:=gd b
 refine bI ?_
 refine bC 0 aB (show 0<l.length by have:=a; omega) (fun q o10 u=>?_)
 subst u
 refine bX ?_
 refine eL (K:=kT3) (x':=e) 0 j R R cJ R R a.1 a.2 ?_ ?_
 exact fun I h s=>(gR).put I h () e s
 refine dA ?_
 cases b
 exact qF ((ad q o10),l.length,D7) (tE 2 [0])
theorem Z0y_ok  {t1:Tensor}{g:Int}{J:(List Int)}{r:(List Int)}(b:Z0y t1 g J=some r) :
 FnOk Tryz.prog 124 [(.agg [(.slice A2 N2 D2),(.slice A3 N3 D3)].toArray),(iv g),(.slice A6 N6 D6)] [aN kT3 (.slice A2 N2 D2) t1.Dims,aN kT3 (.slice A3 N3 D3) t1.Data,aN kT3 (.slice A6 N6 D6) J] (fun (h:HH)=>((.slice h.1 h.2.1 h.2.2),[ow kT3 3 (.slice h.1 h.2.1 h.2.2) r])):=by
 unfold Z0y at b
 refine aP Tryz.func124 R 29 R R fun C V=>?_
 refine cN (_::_::_::V) ?_
 refine cL 0 aA ?_
 rintro rfl
 refine cL 1 aA ?_
 rintro rfl
 refine cL 2 aA ?_
 rintro rfl
 let W0:List HP:=RR kT3 A2 D2 t1.Dims::RR kT3 A3 D3 t1.Data::RR kT3 A6 D6 J::V
 refine cN W0 ?_
 refine aK (aD (eJ R (fun b7=>(lS R (aC ?_)))))
 let l:List HP:=aJ b7 [(sc A2 t1.Dims D2),(sc A3 t1.Data D3)] 42::W0
 refine qN l ?_
 refine aG (aK (aD (bP (K:=kT3) (xs:=([]:List Int)) (vs:=[]) 0 R R bM cJ gV R R R R R R ?_ R (fun A8 D8=>?_))))
 exact fun I h s=>(gR).list [] I h s
 refine lN (OO kT3 3 A8 D8 ([]:List Int)::l) ?_
 refine lS R (aC (aG (aK (bB (A:=((List Int))×(HH)) (fun a=>Z0y_J1 a.1=some r) (fun a=>[(7,(.slice a.2.1 a.2.2.1 a.2.2.2))]) (fun a=>ow kT3 3 (.slice a.2.1 a.2.2.1 a.2.2.2) a.1::l) ?_ ?_))))
 refine aK (aD (lI R (aC (aG (dJ ?_)))))
 obtain ⟨e1,aa,a9⟩:=bd b
 refine bD (A:=HH) aa (fun s a=>[(1,(iv g)),(2,(sc A6 J D6)),(3,(pt b7 0)),(7,(.slice a.1 a.2.1 a.2.2)),(8,(iv s.2))]) (fun s a=>ow kT3 3 (.slice a.1 a.2.1 a.2.2) s.1::l) (A8,([]:List Int).length,D8) (aS R) (fun w s=>s) ?_
 rintro ⟨i,ue⟩ ⟨L,a5,O⟩ σ1 a0 b a8
 replace b:Z0y_L1 t1 g J i ue=some a0:=b
 unfold Z0y_L1 at b
 refine bK 0 aB (fun (hn:a5=i.length)=>?_)
 subst hn
 refine aK (aK ?_)
 obtain ⟨q,b⟩:=gd b
 refine aD (lI R (lO (fX 0 iN R) (lO (gF 1 cY R R R) (lI R (bC 2 aA (show 0<t1.Dims.length by have:=q; omega) (fun E o26 ha=>?_))))))
 subst ha
 refine lO (eM bM cJ R R q) (lO (gK 2 fP aA R q) (lO (n0 R R) (aC (aG ?_))))
 rcases cH b with ⟨m,b⟩|⟨m,b⟩
 refine bV R m (cF (aG (aK (dJ ?_))))
 obtain ⟨F,Y,b⟩:=bd b
 obtain ⟨j,Z,b⟩:=bd b
 obtain ⟨U,b⟩:=gd b
 refine dF 10 [0] bO (fun ht hn=>(dR 0 R (vS R) (hS:=(sL [0])) (dR 1 R (vz (.agg [(sc (ad E o26) t1.Dims D2),(sc A3 t1.Data D3)].toArray) (cO 0 fR bT R R R R)) (hS:=(sL [0])) (dR 2 R (vS R) (hS:=(sL [0])) (dR 3 R (vI R) (hS:=(sL [0])) (dR 4 R (vI R) (hS:=(sL [0])) (d1 5 R (lM (RR kT3 A6 D6 J::OO kT3 3 L O i::l) (fun w s=>(s.d 4 R)) ?_))))))))
 refine lC 1 kL R (Z0j_ok Y) R ?_
 rintro ⟨u,a6,D⟩
 refine lN (ow kT3 3 (.slice u a6 D) F::_::l) ?_
 refine aM 0 aB ?_
 rintro rfl
 refine aC (aI (sL [1,0]) (d1 6 R (lM (ow _ _ _ _::RR kT3 (ad E o26) D2 t1.Dims::RR kT3 A3 D3 t1.Data::ow _ _ _ _::l) (fun w s=>(((s.d 3 R).d 5 R).e 4 [2,1,0,3])) ?_)))
 refine lC 3 ni R (FnOk.lends (A':=[OO kT3 3 u D F]) (A:=[RR kT3 u D F]) (B:=[RR kT3 (ad E o26) D2 t1.Dims,RR kT3 A3 D3 t1.Data]) (FnOk.perm (Z18_ok Z) (Pre':=[RR kT3 u D F,RR kT3 (ad E o26) D2 t1.Dims,RR kT3 A3 D3 t1.Data]) (fun _ _ _ s=>(s.e 3 [1,2,0]))) ⟨aZ,trivial⟩ (fun _=>trivial)) R ?_
 rintro _
 refine lN (_::_::l) ?_
 refine aC (aI (sL [1,0]) (d1 7 R (bP (K:=kT3) (xs:=([j]:List Int)) (vs:=[(iv j)]) 0 R R bM cJ gV R R R R R R ?_ R (fun a1 a3=>?_))))
 exact fun I h s=>(gR).list [((),j)] I h s
 refine lN (OO kT3 3 a1 a3 ([j]:List Int)::_::_::l) ?_
 refine aC (aI (sL [2,1,0]) (d1 8 R (lM (ow _ _ _ _::ow _ _ _ _::ow _ _ _ _::l) (fun w s=>(s.e 3 [2,0,1])) ?_)))
 refine eP (K:=kT3) 17592186044416 R R bM cJ kk (Zr.zk zT3 gV) R R R R R R dZ U (fun M T=>(lN (OO kT3 3 M T (i++([j]:List Int))::_::l) ?_))
 refine aC (aI (sL [1,0]) (dR 9 R (vS R) (hS:=(sL [1,0])) (dD (dN (aG (aD (lI R (lO (jt R R) (lI R (aC ?_))))))))))
 obtain rfl:=so b
 exact qA (M,(i++([j]:List Int)).length,T) (fun w s=>(s.e 2 [0]))
 refine bG R m (gA (dY ?_))
 obtain rfl:=so b
 obtain rfl:=a8 _ R
 have b:=a9
 refine dY (eX ?_)
 exact qI (i,(L,i.length,O)) b (fun w s=>s)
 rintro ⟨G,⟨a2,a7,a4⟩⟩ σ1 b
 replace b:Z0y_J1 G=some r:=b
 unfold Z0y_J1 at b
 refine bK 0 aB (fun (hn:a7=G.length)=>?_)
 subst hn
 refine aK (aD (lS R (lS R (aC (aG (bY ?_))))))
 obtain rfl:=so b
 exact qF (a2,G.length,a4) (fun w s=>(s.e 5 [0]))
theorem Zb_ok  {t1:Tensor}{l:Int}{r:Tensor}(g:Zb t1 l=some r) :
 FnOk Tryz.prog 90 [(.agg [(.slice A2 N2 D2),(.slice A3 N3 D3)].toArray),(iv l)] [aN kT3 (.slice A2 N2 D2) t1.Dims,aN kT3 (.slice A3 N3 D3) t1.Data] (fun (h:HH×HH)=>((.agg [(s3 h.1),(s3 h.2)].toArray),[ow kT3 3 (s3 h.1) r.Dims,ow kT3 3 (s3 h.2) r.Data])):=by
 unfold Zb at g
 refine aP Tryz.func90 R 75 R R fun C V=>?_
 refine cL 0 aA ?_
 rintro rfl
 refine cL 1 aA ?_
 rintro rfl
 let W0:=RR kT3 A2 D2 t1.Dims::RR kT3 A3 D3 t1.Data::V
 refine cN W0 ?_
 refine aU ?_
 refine eJ R fun b5=>?_
 refine bE R R dX (fun O=>(aC ?_))
 let W1:=aJ b5 [(sc A2 t1.Dims D2),(sc A3 t1.Data D3)] 42::W0
 refine aQ ?_
 obtain ⟨r7,av,g⟩:=bd g
 refine aQ ?_
 refine lM _ (fun w s=>(((s.d 2 R).d 4 R).e 3 [1,0,2])) ?_
 refine lC 2 oH R (Z1h_ok av) R ?_
 rintro _
 refine aQ ?_
 split at g
 refine aQ ?_
 refine lO (vz (.agg [(.slice none 0 0),(.slice none 0 0)].toArray) (aX gU dX R R)) (aL 0 R R bT R R R R R R (aC (aG (bY (cG ?_)))))
 cases g
 exact qS ((none,0,0),(none,0,0)) (fun w s=>(((s.nilo kT3 3).nilo kT3 3).e 6 [1,0]))
 refine bI ?_
 obtain ⟨b,ag,g⟩:=bd g
 refine aQ ?_
 refine lM _ (fun w s=>(s.d 2 R)) ?_
 refine lC 1 kK R (Z0i_ok ag) R ?_
 rintro ⟨⟨A12,N12,D12⟩,⟨i,b1,j⟩⟩
 refine aM 0 aB ?_
 rintro rfl
 refine aM 1 aB ?_
 rintro rfl
 refine bE R R dX (fun m=>(aL 0 R R bT R R R R R R (lN (aJ m [(sc A12 b.Dims D12),(sc i b.Data j)] 42::_::_::_::W1) ?_)))
 refine aQ ?_
 refine bB (A:=((List Int))×(Unit)) (fun a=>Zb_J9 b a.1=some r) (fun a=>[(4,(pt O 0)),(5,(pt m 0))]) (fun a=>aJ O [(.slice none 0 0),(.slice none 0 0)] 42::aJ m [(sc A12 b.Dims D12),(sc i b.Data j)] 42::OO kT3 3 A12 D12 b.Dims::ow kT3 3 (.slice i b.Data.length j) a.1::W1) ?_ ?_
 refine bW ?_
 obtain ⟨e1,ar,ap⟩:=bd g
 refine bD (A:=Unit) ar (fun s a=>[(1,(iv l)),(2,(pt b5 0)),(4,(pt O 0)),(5,(pt m 0)),(6,(iv s.2))]) (fun s a=>aJ O [(.slice none 0 0),(.slice none 0 0)] 42::aJ m [(sc A12 b.Dims D12),(sc i b.Data j)] 42::OO kT3 3 A12 D12 b.Dims::ow kT3 3 (.slice i b.Data.length j) s.1::W1) () (aS R) (tE 4 [3,0,1,2]) ?_
 rintro ⟨M,L⟩ _ σ1 a3 g an
 dsimp only [Zb_L1] at g
 refine dG ?_
 split at g
 refine bI ?_
 refine bB (A:=((List Int))×(Unit)) (fun a=>Zb_J8 L a.1=some a3) (fun a=>[(1,(iv l)),(2,(pt b5 0)),(4,(pt O 0)),(5,(pt m 0)),(6,(iv L))]) (fun a=>aJ O [(.slice none 0 0),(.slice none 0 0)] 42::aJ m [(sc A12 b.Dims D12),(sc i b.Data j)] 42::OO kT3 3 A12 D12 b.Dims::ow kT3 3 (.slice i b.Data.length j) a.1::W1) ?_ ?_
 refine aU ?_
 obtain ⟨D,ah,g⟩:=bd g
 refine bI ?_
 refine lM _ (fun w s=>(s.d 5 R)) ?_
 refine lC 1 lF R (Zm_ok ah) R ?_
 rintro ⟨F,b2,G⟩
 refine aM 0 aB ?_
 rintro rfl
 refine bI ?_
 obtain ⟨E,ai,g⟩:=bd g
 refine bI ?_
 refine lM _ (fun w s=>(((s.d 6 R).d 8 R).e 7 [2,1,0,3,4,5,6])) ?_
 refine lC 3 yW R (FnOk.lends (A':=[OO kT3 3 F G D]) (A:=[RR kT3 F G D]) (B:=[RR kT3 A2 D2 t1.Dims,RR kT3 A3 D3 t1.Data]) (FnOk.perm (Z0y_ok ai) (Pre':=[RR kT3 F G D,RR kT3 A2 D2 t1.Dims,RR kT3 A3 D3 t1.Data]) (fun _ _ _ s=>(s.e 3 [1,2,0]))) ⟨aZ,trivial⟩ (fun _=>⟨(bN ji),trivial⟩)) R ?_
 rintro ⟨al,b3,am⟩
 refine aM 1 aB ?_
 rintro rfl
 refine dA ?_
 refine bB (A:=(Bool)×(Unit)) (fun a=>Zb_J7 b M L a.1=some a3) (fun a=>[(1,(iv l)),(2,(pt b5 0)),(4,(pt O 0)),(5,(pt m 0)),(6,(iv L)),(9,(.bool a.1))]) (fun a=>aJ O [(.slice none 0 0),(.slice none 0 0)] 42::aJ m [(sc A12 b.Dims D12),(sc i b.Data j)] 42::OO kT3 3 A12 D12 b.Dims::ow kT3 3 (.slice i b.Data.length j) M::W1) ?_ ?_
 refine bW ?_
 obtain ⟨e2,au,aq⟩:=bd g
 refine bD (A:=HH) au (fun s a=>[(1,(iv l)),(2,(pt b5 0)),(4,(pt O 0)),(5,(pt m 0)),(6,(iv L)),(7,(sc F D G)),(8,(s3 a)),(9,(.bool s.1)),(10,(iv s.2))]) (fun s a=>aJ O [(.slice none 0 0),(.slice none 0 0)] 42::aJ m [(sc A12 b.Dims D12),(sc i b.Data j)] 42::OO kT3 3 A12 D12 b.Dims::ow kT3 3 (.slice i b.Data.length j) M::OO kT3 3 F G D::ow kT3 3 (s3 a) E::W1) (al,E.length,am) (aS R) (fun w s=>(s.f 6 [2,4,0,2])) ?_
 rintro ⟨u,a0⟩ ⟨aw,aa,Y⟩ σ1 aj g ao
 dsimp only [Zb_L2] at g
 refine bK 5 aB (fun (hn:aa=E.length)=>?_)
 subst hn
 refine dA ?_
 split at g
 refine bI ?_
 refine bB (A:=(Bool)×(HH)) (fun a=>Zb_J6 a0 a.1=some aj) (fun a=>[(1,(iv l)),(2,(pt b5 0)),(4,(pt O 0)),(5,(pt m 0)),(6,(iv L)),(7,(sc F D G)),(8,(s3 a.2)),(9,(.bool a.1)),(10,(iv a0))]) (fun a=>aJ O [(.slice none 0 0),(.slice none 0 0)] 42::aJ m [(sc A12 b.Dims D12),(sc i b.Data j)] 42::OO kT3 3 A12 D12 b.Dims::ow kT3 3 (.slice i b.Data.length j) M::OO kT3 3 F G D::ow kT3 3 (s3 a.2) E::W1) ?_ ?_
 refine aU ?_
 obtain ⟨a4,g⟩:=gd g
 obtain ⟨a1,a6,g⟩:=bd g
 refine aQ ?_
 refine bC 5 aB (show 0<E.length by have:=a4; omega) (fun Z o106 ha=>?_)
 subst ha
 refine aU ?_
 refine lC 0 oE R (Z1f_ok a6) R ?_
 rintro _
 refine bI ?_
 obtain ⟨a5,g⟩:=gd g
 obtain ⟨a2,a7,g⟩:=bd g
 refine bI ?_
 refine bC 8 aA (show 0<t1.Data.length by have:=a5; omega) (fun ax o111 ha=>?_)
 subst ha
 refine aU ?_
 refine lC 0 oE R (Z1f_ok a7) R ?_
 rintro _
 refine bI ?_
 obtain ⟨T,g⟩:=gd g
 refine cQ [(1,(iv l)),(2,(pt b5 0)),(4,(pt O 0)),(5,(pt m 0)),(6,(iv L)),(7,(sc F D G)),(8,(sc (ad Z o106) E Y)),(9,(.bool u)),(10,(iv a0)),(68,(.bool ((decide (a1>a2))||((a1==a2)&&(decide (a0<(ix D l)))))))] (aJ O [(.slice none 0 0),(.slice none 0 0)] 42::aJ m [(sc A12 b.Dims D12),(sc i b.Data j)] 42::OO kT3 3 A12 D12 b.Dims::ow kT3 3 (.slice i b.Data.length j) M::OO kT3 3 F G D::OO kT3 3 (ad Z o106) Y E::W1) ?_ ?_
 refine cI ?_
 rcases bo (decide (a1>a2)) with J | J
 refine kh ?_
 exact qj tI
 refine bI ?_
 rcases bo (a1==a2) with q | q
 refine aQ ?_
 refine bC 4 aB (show 0<D.length by have:=(T J q); omega) (fun ay o116 ha=>?_)
 subst ha
 refine lW (dS q) (eM bM cJ R R (T J q)) (lW (dS q) (gK 4 fP aB R (T J q)) ?_)
 refine bI ?_
 exact qj tI
 refine dA ?_
 exact qj tI
 rintro σ1
 refine bX ?_
 split at g
 refine cI ?_
 exact qI (false,((ad Z o106),E.length,Y)) g tI
 refine aQ ?_
 exact qI (u,((ad Z o106),E.length,Y)) g tI
 rintro ⟨ac,⟨a8,ab,a9⟩⟩ σ1 g
 dsimp only [Zb_J6] at g
 refine bK 5 aB (fun (hn:ab=E.length)=>?_)
 subst hn
 refine cI ?_
 cases g
 exact qA (a8,E.length,a9) tI
 refine aQ ?_
 cases g
 obtain rfl:=ao _ R
 have g:=aq
 refine aU ?_
 exact qI (u,()) g (fun w s=>(s.f 6 [0,4]))
 rintro ⟨ae,_⟩ σ1 g
 dsimp only [Zb_J7] at g
 refine cI ?_
 split at g
 refine bX ?_
 obtain ⟨U,g⟩:=gd g
 refine bI ?_
 refine bC 3 aB (show 0<b.Data.length by have:=U; omega) (fun az o129 ha=>?_)
 subst ha
 refine bX ?_
 refine lM _ (tE 4 [3,0,1,2]) ?_
 refine eL (K:=kT3) (x':=(1:Int)) 0 L R R cJ R R U.1 U.2 ?_ ?_
 exact fun I h s=>(gR).put I h () (1:Int) s
 refine aU ?_
 exact qI ((M.set L.toNat (1:Int)),()) g (tE 4 [1,2,3,0])
 refine aQ ?_
 exact qI (M,()) g tI
 rintro ⟨b0,_⟩ σ1 g
 dsimp only [Zb_J8] at g
 refine cI ?_
 cases g
 exact qA () tI
 refine aQ ?_
 cases g
 obtain rfl:=an _ R
 have g:=ap
 refine aU ?_
 exact qI (M,()) g tI
 rintro ⟨ak,_⟩ σ1 g
 dsimp only [Zb_J9] at g
 refine aQ ?_
 refine aL 0 R R bT R R R R R R (lN (aJ O [(sc A12 b.Dims D12),(sc i b.Data j)] 42::aJ m [(sc A12 b.Dims D12),(sc i b.Data j)] 42::_::ow kT3 3 (.slice i b.Data.length j) ak::W1) ?_)
 refine aQ ?_
 cases g
 exact qS ((A12,b.Dims.length,D12),(i,b.Data.length,j)) (tE 7 [2,3])
theorem Z0x_ok  {p1:aO}{r:Bool}(b:Z0x p1=some r) :
 FnOk Tryz.prog 153 [(aE p1)] [] (fun (h:Unit)=>((.bool r),[])):=by
 unfold Z0x at b
 refine aP Tryz.func153 R 23 R R fun C V=>?_
 refine cN V ?_
 refine bW ?_
 refine bB (A:=(Unit)×(Unit)) (fun a=>Z0x_J1 p1=some r) (fun a=>[(0,(aE p1))]) (fun a=>V) ?_ ?_
 refine bW ?_
 obtain ⟨u,m,l⟩:=bd b
 refine bD (A:=Unit) m (fun s a=>[(0,(aE p1)),(3,(iv s))]) (fun s a=>V) () (aS R) tI ?_
 rintro i _ σ1 q b j
 dsimp only [Z0x_L1] at b
 refine bI ?_
 refine lO (vp (aE p1) R) (lO (vz (il p1) (dT fW R)) ?_)
 refine aQ ?_
 split at b
 refine bW ?_
 obtain ⟨g,b⟩:=gd b
 refine cQ [(0,(aE p1)),(3,(iv i)),(19,(.bool ((decide ((bt p1 i)<97))||(decide ((bt p1 i)>122)))))] (V) ?_ ?_
 refine aD (lO (vp (aE p1) R) (lI R (lO (vz (.int .u8 (bt p1 i)) (cT fW R R g.1 g.2)) (lO (vp (.bool (decide ((bt p1 i)<97))) R) (lB R ?_)))))
 rcases bo (decide ((bt p1 i)<97)) with e | e
 refine bW ?_
 exact qj tI
 refine lW (cC e) (vp (aE p1) R) (lW (cC e) (vI R) (lW (cC e) (vz (.int .u8 (bt p1 i)) (cT fW R R g.1 g.2)) (lW (cC e) (vp (.bool (decide ((bt p1 i)>122))) R) ?_)))
 refine aU ?_
 exact qj tI
 rintro σ1
 refine bX ?_
 split at b
 refine dA ?_
 cases b
 obtain rfl:=j _ R
 have b:=l
 refine aQ ?_
 cases b
 exact qF () tI
 refine dA ?_
 cases b
 exact qA () tI
 refine aQ ?_
 cases b
 obtain rfl:=j _ R
 have b:=l
 refine aU ?_
 exact qI ((),()) b tI
 rintro ⟨_,_⟩ σ1 b
 dsimp only [Z0x_J1] at b
 refine aU ?_
 refine lO (vp (aE p1) R) (lO (vz (il p1) (dT fW R)) ?_)
 refine cI ?_
 cases b
 exact qF () tI
theorem Z0w_ok  {p1:aO}{j:Int}{r:Bool}(b:Z0w p1 j=some r) :
 FnOk Tryz.prog 154 [(aE p1),(.int .u8 j)] [] (fun (h:Unit)=>((.bool r),[])):=by
 unfold Z0w at b
 refine aP Tryz.func154 R 17 R R fun C V=>?_
 refine cN V ?_
 refine bW ?_
 refine bB (A:=(Unit)×(Unit)) (fun a=>Z0w_J1=some r) (fun a=>[]) (fun a=>V) ?_ ?_
 refine bW ?_
 obtain ⟨u,l,i⟩:=bd b
 refine bD (A:=Unit) l (fun s a=>[(0,(aE p1)),(1,(.int .u8 j)),(5,(iv s))]) (fun s a=>V) () (aS R) tI ?_
 rintro m _ σ1 q b e
 dsimp only [Z0w_L1] at b
 refine bI ?_
 refine lO (vp (aE p1) R) (lO (vz (il p1) (dT fW R)) ?_)
 refine aQ ?_
 split at b
 refine bW ?_
 obtain ⟨g,b⟩:=gd b
 refine aD (lO (vp (aE p1) R) (lI R (lO (vz (.int .u8 (bt p1 m)) (cT fW R R g.1 g.2)) (lI R (lO (vp (.bool ((bt p1 m)==j)) R) ?_)))))
 refine aU ?_
 split at b
 refine dA ?_
 cases b
 obtain rfl:=e _ R
 have b:=i
 refine aQ ?_
 cases b
 exact qF () tI
 refine dA ?_
 cases b
 exact qA () tI
 refine aQ ?_
 cases b
 obtain rfl:=e _ R
 have b:=i
 refine aU ?_
 exact cU ((),()) b trivial tI
 rintro ⟨_,_⟩ σ1 b
 dsimp only [Z0w_J1] at b
 refine bW ?_
 cases b
 exact qF () tI
theorem Z0_ok  {b:aO}{r:(List aO)×aO×Bool}(g:Z0 b=some r) :
 FnOk Tryz.prog 126 [(aE b)] [] (fun (h:HH)=>((.tuple [(s3 h),(aE r.2.1),(.bool r.2.2)].toArray),[ow dV 9 (s3 h) r.1])):=by
 unfold Z0 at g
 refine aP Tryz.func126 R 124 R R fun C V=>?_
 refine cN V ?_
 refine aQ ?_
 refine lO (vp (aE ([]:aO)) R) ?_
 refine cI ?_
 refine bP (K:=dV) (xs:=([]:List aO)) (vs:=[]) 0 R R lG rQ yX R R R R R R ?_ R (fun A2 D2=>?_)
 exact fun I h s=>(ym).list [] I h s
 refine dA ?_
 refine bB (A:=(Int)×(Unit)) (fun a=>Z0_J1 b a.1=some r) (fun a=>[(0,(aE b)),(5,(sc A2 ([]:List aO) D2)),(6,(iv a.1))]) (fun a=>OO dV 9 A2 D2 ([]:List aO)::V) ?_ ?_
 refine bX ?_
 obtain ⟨e1,b6,b3⟩:=bd g
 refine bD (A:=Unit) b6 (fun s a=>[(0,(aE b)),(5,(sc A2 ([]:List aO) D2)),(6,(iv s))]) (fun s a=>OO dV 9 A2 D2 ([]:List aO)::V) () (aS R) tI ?_
 rintro T _ σ1 be g b0
 dsimp only [Z0_L1] at g
 refine aU ?_
 obtain ⟨a8,g⟩:=gd g
 refine cQ [(0,(aE b)),(5,(sc A2 ([]:List aO) D2)),(6,(iv T)),(28,(.bool ((decide ((aH (T+1))<(b.length:Int)))&&(!((sub b T (aH (T+2)))==str0)))))] (OO dV 9 A2 D2 ([]:List aO)::V) ?_ ?_
 refine aQ ?_
 refine lO (vp (aE b) R) (lO (vz (il b) (dT fW R)) ?_)
 refine aU ?_
 rcases bo (decide ((aH (T+1))<(b.length:Int))) with L | L
 refine lW (dS L) (vp (aE b) R) ?_
 refine aQ ?_
 refine lW (dS L) (vz (aE (sub b T (aH (T+2)))) (hT T (aH (T+2)) fW R R R (a8 L).1 (a8 L).2.1 (a8 L).2.2)) (lW (dS L) (vz (.bool (!((sub b T (aH (T+2)))==str0))) (jr R R R)) ?_)
 refine aU ?_
 exact qj tI
 refine dI ?_
 exact qj tI
 rintro σ1
 refine bX ?_
 split at g
 refine dG ?_
 cases g
 exact qA () tI
 refine aQ ?_
 cases g
 obtain rfl:=b0 _ R
 have g:=b3
 refine aU ?_
 exact qI (T,()) g tI
 rintro ⟨j,_⟩ σ1 g
 dsimp only [Z0_J1] at g
 refine cI ?_
 refine lO (vp (aE b) R) (lO (vz (il b) (dT fW R)) ?_)
 refine aQ ?_
 split at g
 refine cI ?_
 refine lO (vp (aE ([]:aO)) R) ?_
 refine cI ?_
 cases g
 exact iy (A2,([]:List aO).length,D2) tI
 refine cI ?_
 refine bP (K:=dV) (xs:=([]:List aO)) (vs:=[]) 0 R R lG rQ yX R R R R R R ?_ R (fun ar av=>?_)
 exact fun I h s=>(ym).list [] I h s
 refine dA ?_
 refine bB (A:=((List aO))×(HH)) (fun a=>Z0_J4 b j a.1=some r) (fun a=>[(0,(aE b)),(5,(sc A2 ([]:List aO) D2)),(6,(iv j)),(7,(s3 a.2))]) (fun a=>OO dV 9 A2 D2 ([]:List aO)::ow dV 9 (s3 a.2) a.1::V) ?_ ?_
 refine bW ?_
 obtain ⟨e2,b7,b4⟩:=bd g
 refine bD (A:=HH) b7 (fun s a=>[(0,(aE b)),(5,(sc A2 ([]:List aO) D2)),(6,(iv j)),(7,(s3 a)),(8,(iv s.2.1)),(9,(iv s.2.2))]) (fun s a=>OO dV 9 A2 D2 ([]:List aO)::ow dV 9 (s3 a) s.1::V) (ar,([]:List aO).length,av) (aS R) (tE 2 [1,0]) ?_
 rintro ⟨i,E,B⟩ ⟨a4,ax,a5⟩ σ1 an g b1
 dsimp only [Z0_L2] at g
 refine bK 1 aB (fun (hn:ax=i.length)=>?_)
 subst hn
 refine dI ?_
 split at g
 refine bI ?_
 refine bB (A:=((List aO)×Int)×(HH)) (fun a=>Z0_J3 B a.1.1 a.1.2=some an) (fun a=>[(0,(aE b)),(5,(sc A2 ([]:List aO) D2)),(6,(iv j)),(7,(s3 a.2)),(8,(iv a.1.2)),(9,(iv B))]) (fun a=>OO dV 9 A2 D2 ([]:List aO)::ow dV 9 (s3 a.2) a.1.1::V) ?_ ?_
 refine aU ?_
 obtain ⟨a6,g⟩:=gd g
 refine cQ [(0,(aE b)),(5,(sc A2 ([]:List aO) D2)),(6,(iv j)),(7,(sc a4 i a5)),(8,(iv E)),(9,(iv B)),(51,(.bool ((B==j)||((bt b B)==44))))] (OO dV 9 A2 D2 ([]:List aO)::OO dV 9 a4 a5 i::V) ?_ ?_
 refine cI ?_
 rcases bo (B==j) with D | D
 refine bW ?_
 exact qj tI
 refine lW (cC D) (vp (aE b) R) (lW (cC D) (vI R) (lW (cC D) (vz (.int .u8 (bt b B)) (cT fW R R (a6 D).1 (a6 D).2)) (lW (cC D) (vp (.bool ((bt b B)==44)) R) ?_)))
 refine aU ?_
 exact qj tI
 rintro σ1
 refine bX ?_
 split at g
 refine aU ?_
 obtain ⟨Z,g⟩:=gd g
 obtain ⟨ah,g⟩:=gd g
 refine aU ?_
 refine lO (vp (aE b) R) (lI R (lI R (lO (vz (aE (sub b E B)) (hT E B fW R R R Z.1 Z.2.1 Z.2.2)) (bP (K:=dV) (xs:=([(sub b E B)]:List aO)) (vs:=[(aE (sub b E B))]) 0 R R lG rQ yX R R R R R R ?_ R (fun bh bi=>?_)))))
 exact fun I h s=>(ym).list [((),(sub b E B))] I h s
 refine lM _ (tE 3 [2,0,1]) ?_
 refine eP (K:=dV) 8796093022208 R R lG rQ Cg (Zr.zk zT9 yX) R R R R R R dZ ah (fun ab ac=>(lN (OO dV 9 ab ac (i++([(sub b E B)]:List aO))::_::V) ?_))
 refine dA ?_
 exact qI (((i++([(sub b E B)]:List aO)),(aH (B+1))),(ab,(i++([(sub b E B)]:List aO)).length,ac)) g (tE 2 [1,0])
 refine aQ ?_
 exact qI ((i,E),(a4,i.length,a5)) g tI
 rintro ⟨⟨F,bl⟩,⟨au,ay,aw⟩⟩ σ1 g
 dsimp only [Z0_J3] at g
 refine bK 1 aB (fun (hn:ay=F.length)=>?_)
 subst hn
 refine cI ?_
 cases g
 exact qA (au,F.length,aw) tI
 refine aQ ?_
 cases g
 obtain rfl:=b1 _ R
 have g:=b4
 refine aU ?_
 exact qI (i,(a4,i.length,a5)) g tI
 rintro ⟨e,⟨q,az,u⟩⟩ σ1 g
 dsimp only [Z0_J4] at g
 refine bK 1 aB (fun (hn:az=e.length)=>?_)
 subst hn
 refine bX ?_
 obtain ⟨a0,g⟩:=gd g
 refine aD (lO (vp (aE b) R) (lI R (lO (jt R R) (lO (vz (aE (sub b (aH (j+2)) (b.length:Int))) (hT (aH (j+2)) (b.length:Int) fW R R R a0.1 a0.2.1 a0.2.2)) (lO (vp (aE (sub b (aH (j+2)) (b.length:Int))) R) ?_)))))
 refine bI ?_
 obtain ⟨bb,ak,g⟩:=bd g
 refine cQ [(5,(sc A2 ([]:List aO) D2)),(7,(sc q e u)),(10,(aE (sub b (aH (j+2)) (b.length:Int)))),(72,(.bool ((decide ((e.length:Int)>6))||(!bb))))] (OO dV 9 A2 D2 ([]:List aO)::OO dV 9 q u e::V) ?_ ?_
 refine cI ?_
 rcases bo (decide ((e.length:Int)>6)) with O | O
 refine cI ?_
 exact qj tI
 refine lW (cC O) (vp (aE (sub b (aH (j+2)) (b.length:Int))) R) (bU 0 R (cC O) vY R (Z0x_ok (bJ ak (cX O))) R ?_)
 rintro _
 refine aQ ?_
 exact qj tI
 rintro σ1
 refine bX ?_
 split at g
 refine cI ?_
 refine lO (vp (aE ([]:aO)) R) ?_
 refine cI ?_
 cases g
 exact iy (A2,([]:List aO).length,D2) (tE 2 [0])
 refine bI ?_
 refine bB (A:=(Unit)×(Unit)) (fun a=>Z0_J5 b j e=some r) (fun a=>[(5,(sc A2 ([]:List aO) D2)),(7,(sc q e u)),(10,(aE (sub b (aH (j+2)) (b.length:Int))))]) (fun a=>OO dV 9 A2 D2 ([]:List aO)::OO dV 9 q u e::V) ?_ ?_
 refine bW ?_
 obtain ⟨e3,b8,ai⟩:=bd g
 refine bD (A:=Unit) b8 (fun s a=>[(5,(sc A2 ([]:List aO) D2)),(7,(sc q e u)),(10,(aE (sub b (aH (j+2)) (b.length:Int)))),(11,(iv s))]) (fun s a=>OO dV 9 A2 D2 ([]:List aO)::OO dV 9 q u e::V) () (aS R) tI ?_
 rintro am _ σ1 bf g ae
 dsimp only [Z0_L3] at g
 refine dA ?_
 split at g
 refine bW ?_
 obtain ⟨a1,g⟩:=gd g
 obtain ⟨bk,al,g⟩:=bd g
 refine aQ ?_
 refine bC 1 aB (show 0<e.length by have:=a1; omega) (fun bj o62 ha=>?_)
 subst ha
 refine bX ?_
 refine lO (vz (aE (ix e am)) (jM (K:=dV) (fo:=0) (pr:=fun x=>(aE x)) 1 am rp (dT9.leaf fun _ _=>R) aB R a1.1 a1.2)) (lC 0 vY R (Z0x_ok al) R ?_)
 rintro _
 refine aQ ?_
 split at g
 refine cI ?_
 refine lO (vp (aE ([]:aO)) R) ?_
 refine bW ?_
 cases g
 obtain rfl:=ae _ R
 have g:=ai
 refine aQ ?_
 cases g
 exact iy (A2,([]:List aO).length,D2) (tE 2 [0])
 refine dA ?_
 cases g
 exact qA () tI
 refine aQ ?_
 cases g
 obtain rfl:=ae _ R
 have g:=ai
 refine aU ?_
 exact qI ((),()) g tI
 rintro ⟨_,_⟩ σ1 g
 dsimp only [Z0_J5] at g
 refine aK (bB (A:=(Unit)×(Unit)) (fun a=>Z0_J8 b j e=some r) (fun a=>[(7,(sc q e u)),(10,(aE (sub b (aH (j+2)) (b.length:Int))))]) (fun a=>OO dV 9 q u e::V) ?_ ?_)
 refine bW ?_
 obtain ⟨e4,b9,aj⟩:=bd g
 refine bD (A:=Unit) b9 (fun s a=>[(5,(sc A2 ([]:List aO) D2)),(7,(sc q e u)),(10,(aE (sub b (aH (j+2)) (b.length:Int)))),(12,(iv s))]) (fun s a=>OO dV 9 A2 D2 ([]:List aO)::OO dV 9 q u e::V) () (aS R) tI ?_
 rintro J _ σ1 ao g ag
 dsimp only [Z0_L4] at g
 refine bI ?_
 refine lO (vp (aE (sub b (aH (j+2)) (b.length:Int))) R) (lO (vz (il (sub b (aH (j+2)) (b.length:Int))) (dT fW R)) ?_)
 refine aQ ?_
 split at g
 refine iD ?_
 refine bB (A:=(Bool)×(Unit)) (fun a=>Z0_J7 b j J a.1=some ao) (fun a=>[(5,(sc A2 ([]:List aO) D2)),(7,(sc q e u)),(10,(aE (sub b (aH (j+2)) (b.length:Int)))),(12,(iv J)),(13,(.bool a.1))]) (fun a=>OO dV 9 A2 D2 ([]:List aO)::OO dV 9 q u e::V) ?_ ?_
 refine bW ?_
 obtain ⟨e5,ba,b5⟩:=bd g
 refine bD (A:=Unit) ba (fun s a=>[(5,(sc A2 ([]:List aO) D2)),(7,(sc q e u)),(10,(aE (sub b (aH (j+2)) (b.length:Int)))),(12,(iv J)),(13,(.bool s.1)),(14,(iv s.2))]) (fun s a=>OO dV 9 A2 D2 ([]:List aO)::OO dV 9 q u e::V) () (aS R) tI ?_
 rintro ⟨a3,a2⟩ _ σ1 bg g b2
 dsimp only [Z0_L5] at g
 refine dA ?_
 split at g
 refine cI ?_
 obtain ⟨G,g⟩:=gd g
 obtain ⟨U,g⟩:=gd g
 obtain ⟨ap,a9,g⟩:=bd g
 refine cQ [(5,(sc A2 ([]:List aO) D2)),(7,(sc q e u)),(10,(aE (sub b (aH (j+2)) (b.length:Int)))),(12,(iv J)),(13,(.bool (a3||ap))),(14,(iv a2))] (OO dV 9 A2 D2 ([]:List aO)::OO dV 9 q u e::V) ?_ ?_
 rcases bo a3 with m | m
 refine dF 12 [] bO fun ht hn=>?_
 refine uB 0 [] ?_
 refine dD ?_
 exact qj tI
 refine bA 1 aB (show 0<e.length by have:=(G m); omega) (fun bc o108 ha=>?_)
 subst ha
 refine dF 12 [] bO fun ht hn=>?_
 refine oy 0 [] ?_
 refine dW 4 R (cC m) (eM lG rQ R R (G m)) (dW 5 R (cC m) (vz (aE (ix e a2)) (jM (K:=dV) (fo:=0) (pr:=fun x=>(aE x)) 1 a2 rp (dT9.leaf fun _ _=>R) aB R (G m).1 (G m).2)) (dW 6 R (cC m) (vp (aE (sub b (aH (j+2)) (b.length:Int))) R) (dW 7 R (cC m) (vI R) (dW 8 R (cC m) (vz (.int .u8 (bt (sub b (aH (j+2)) (b.length:Int)) J)) (cT fW R R (U m).1 (U m).2)) (d1 9 R (bU 0 R (cC m) vZ R (Z0w_ok (bJ a9 (cX m))) R ?_))))))
 rintro _
 refine aC (aI (sL []) ?_)
 refine gZ 10 [] ?_
 refine dD ?_
 exact qj tI
 rintro σ1
 refine dU ?_
 cases g
 exact qA () tI
 refine aQ ?_
 cases g
 obtain rfl:=b2 _ R
 have g:=b5
 refine aU ?_
 exact qI (a3,()) g tI
 rintro ⟨a7,_⟩ σ1 g
 dsimp only [Z0_J7] at g
 refine bX ?_
 obtain ⟨M,g⟩:=gd g
 obtain ⟨Y,g⟩:=gd g
 obtain ⟨aq,aa,g⟩:=bd g
 refine cQ [(5,(sc A2 ([]:List aO) D2)),(7,(sc q e u)),(10,(aE (sub b (aH (j+2)) (b.length:Int)))),(12,(iv J)),(120,(.bool ((!a7)||aq)))] (OO dV 9 A2 D2 ([]:List aO)::OO dV 9 q u e::V) ?_ ?_
 rcases bo (!a7) with l | l
 refine dF 11 [] bO fun ht hn=>?_
 refine oA 0 [] ?_
 refine dD ?_
 exact qj tI
 refine dF 11 [] bO fun ht hn=>?_
 refine iz 0 [] ?_
 refine dW 3 R (cC l) (vp (aE (sub b (aH (j+2)) (b.length:Int))) R) (dW 4 R (cC l) (vI R) (dW 5 R (cC l) (vz (aE (sub (sub b (aH (j+2)) (b.length:Int)) (0:Int) J)) (hT (0:Int) J fW R R R (M l).1 (M l).2.1 (M l).2.2)) (dW 6 R (cC l) (vp (aE (sub b (aH (j+2)) (b.length:Int))) R) (dW 7 R (cC l) (vI R) (dW 8 R (cC l) (vz (.int .u8 (bt (sub b (aH (j+2)) (b.length:Int)) J)) (cT fW R R (Y l).1 (Y l).2)) (d1 9 R (bU 0 R (cC l) vZ R (Z0w_ok (bJ aa (cX l))) R ?_)))))))
 rintro _
 refine aC (aI (sL []) (dR 10 R (fS R l R) (dD ?_)))
 exact qj tI
 rintro σ1
 refine bX ?_
 split at g
 refine cI ?_
 refine lO (vp (aE ([]:aO)) R) ?_
 refine bW ?_
 cases g
 obtain rfl:=ag _ R
 have g:=aj
 refine aQ ?_
 cases g
 exact iy (A2,([]:List aO).length,D2) (tE 2 [0])
 refine dA ?_
 cases g
 exact qA () tI
 refine aQ ?_
 cases g
 obtain rfl:=ag _ R
 have g:=aj
 refine aU ?_
 exact qI ((),()) g (tE 2 [1])
 rintro ⟨_,_⟩ σ1 g
 dsimp only [Z0_J8] at g
 refine aQ ?_
 refine lO (vp (aE (sub b (aH (j+2)) (b.length:Int))) R) (lS R (lO (vp (aE (sub b (aH (j+2)) (b.length:Int))) R) ?_))
 refine bI ?_
 cases g
 exact iy (q,e.length,u) tI
theorem Z2_ok  {b:(List aO)}{p3:aO}{j:(List (List Int))}{r:aO×(List Int)×Bool}(B:Z2 b p3 j=some r) :
 FnOk Tryz.prog 127 [(.slice A2 N2 D2),(aE p3),(.slice A5 N5 D5)] [aN dV (.slice A2 N2 D2) b,aN bH (.slice A5 N5 D5) j] (fun (h:HH)=>((.tuple [(aE r.1),(s3 h),(.bool r.2.2)].toArray),[ow kT3 3 (s3 h) r.2.1])):=by
 unfold Z2 at B
 refine aP Tryz.func127 R 129 R R fun C V=>?_
 refine cL 0 aA ?_
 rintro rfl
 refine cL 1 aA ?_
 rintro rfl
 let W0:=RR dV A2 D2 b::RR bH A5 D5 j::V
 refine cN W0 ?_
 refine aU ?_
 refine lO (vp (aE ([]:aO)) R) ?_
 refine bW ?_
 refine lO (vp (aE p3) R) (lO (vp (aE p3) R) ?_)
 refine aQ ?_
 obtain ⟨au,B⟩:=gd B
 refine aD (lO (vp (aE p3) R) (lO (vz (il p3) (dT fW R)) (fO (K:=kT3) (m:=(p3.length:Int)) (z:=(0:Int)) R R bM cJ kk (Zr.zk zT3 gV) (by decide) R R au.1 au.2.1 au.2.2 (fun A7 D7=>(lS R (aC (aG (aK (bB (A:=(aO×(List Int))×(HH)) (fun a=>Z2_J11 a.1.1 a.1.2=some r) (fun a=>[(9,(aE a.1.1)),(10,(s3 a.2))]) (fun a=>ow kT3 3 (s3 a.2) a.1.2::W0) ?_ ?_)))))))))
 refine bW ?_
 obtain ⟨e1,bn,av⟩:=bd B
 refine bD (A:=HH×HH×HH) bn (fun s a=>[(0,(s3 a.1)),(2,(s3 a.2.1)),(9,(aE s.1)),(10,(s3 a.2.2)),(11,(iv s.2.2))]) (fun s a=>aN dV (s3 a.1) b::aN bH (s3 a.2.1) j::ow kT3 3 (s3 a.2.2) s.2.1::W0) ((A2,b.length,D2),(A5,j.length,D5),(A7,(List.replicate (p3.length:Int).toNat (0:Int)).length,D7)) (aS R) (fun w s=>(((s.d 1 R).d 3 R).e 3 [1,0,2])) ?_
 rintro ⟨a7,F,l⟩ ⟨⟨bs,b2,J⟩,⟨bu,b3,L⟩,⟨ac,b4,ag⟩⟩ σ1 bj B an
 dsimp only [Z2_L1] at B
 refine bK 0 aA (fun (hn:b2=b.length)=>?_)
 subst hn
 refine bK 1 aA (fun (hn:b3=j.length)=>?_)
 subst hn
 refine bK 2 aB (fun (hn:b4=F.length)=>?_)
 subst hn
 refine dA ?_
 split at B
 refine bI ?_
 refine bB (A:=(aO×(List Int))×(HH×HH×HH)) (fun a=>Z2_J10 l a.1.1 a.1.2=some bj) (fun a=>[(0,(s3 a.2.1)),(2,(s3 a.2.2.1)),(9,(aE a.1.1)),(10,(s3 a.2.2.2)),(11,(iv l))]) (fun a=>aN dV (s3 a.2.1) b::aN bH (s3 a.2.2.1) j::ow kT3 3 (s3 a.2.2.2) a.1.2::W0) ?_ ?_
 refine aQ ?_
 obtain ⟨Y,B⟩:=gd B
 obtain ⟨T,B⟩:=gd B
 refine bA 1 aA (show 0<j.length by have:=Y; omega) (fun M o113 ha=>?_)
 subst ha
 refine dO (K:=bH) 1 l dT23.dec R Y.1 Y.2 ?_
 rintro ⟨bv,c1⟩
 refine bA 2 aA (show 0<b.length by have:=T; omega) (fun O o117 ha=>?_)
 subst ha
 refine dF 11 [] bO fun ht hn=>?_
 refine iz 0 [] ?_
 refine dR 3 R (eN (fo:=0) 0 cY R R R) ?_
 refine oy 4 [] ?_
 refine dR 8 R (vz (aE (ix b l)) (jM (K:=dV) (fo:=0) (pr:=fun x=>(aE x)) 2 l rp (dT9.leaf fun _ _=>R) aA R T.1 T.2)) (dR 9 R (vz (il (ix b l)) (dT fW R)) (dR 10 R (wP R R) (dD (aG ?_))))
 split at B
 refine bI ?_
 refine lO (vp (aE ([]:aO)) R) ?_
 refine dI ?_
 cases B
 obtain rfl:=an _ R
 have B:=av
 refine aQ ?_
 cases B
 exact iy (ac,F.length,ag) (tE 7 [4])
 refine dA ?_
 obtain ⟨e2,bp,bh⟩:=bd B
 refine bD (A:=HH) bp (fun s a=>[(0,(sc (ad O o117) b J)),(2,(sc (ad M o113) j L)),(9,(aE s.1)),(10,(s3 a)),(11,(iv l)),(12,(iv s.2.2))]) (fun s a=>RR dV (ad O o117) J b::RR bH (ad M o113) L j::ow kT3 3 (s3 a) s.2.1::W0) (ac,F.length,ag) (aS R) (fun w s=>(s.f 5 [2,3])) ?_
 rintro ⟨g,i,D⟩ ⟨Z,b5,a0⟩ σ1 am B bf
 dsimp only [Z2_L2] at B
 refine bK 2 aB (fun (hn:b5=i.length)=>?_)
 subst hn
 refine dU ?_
 refine lO (vz (aE (ix b l)) (jM (K:=dV) (fo:=0) (pr:=fun x=>(aE x)) 0 l rp (dT9.leaf fun _ _=>R) aA R T.1 T.2)) (lO (vz (il (ix b l)) (dT fW R)) ?_)
 refine aQ ?_
 split at B
 refine iD ?_
 refine bB (A:=(Int)×(Unit)) (fun a=>Z2_J8 b j l g i D a.1=some am) (fun a=>[(0,(sc (ad O o117) b J)),(2,(sc (ad M o113) j L)),(9,(aE g)),(10,(sc Z i a0)),(11,(iv l)),(12,(iv D)),(13,(iv a.1))]) (fun a=>RR dV (ad O o117) J b::RR bH (ad M o113) L j::OO kT3 3 Z a0 i::W0) ?_ ?_
 refine bX ?_
 obtain ⟨e3,bq,bm⟩:=bd B
 refine bD (A:=Unit) bq (fun s a=>[(0,(sc (ad O o117) b J)),(2,(sc (ad M o113) j L)),(9,(aE g)),(10,(sc Z i a0)),(11,(iv l)),(12,(iv D)),(13,(iv s))]) (fun s a=>RR dV (ad O o117) J b::RR bH (ad M o113) L j::OO kT3 3 Z a0 i::W0) () (aS R) tI ?_
 rintro a3 _ σ1 c8 B bl
 dsimp only [Z2_L3] at B
 refine aU ?_
 obtain ⟨ah,B⟩:=gd B
 obtain ⟨ai,B⟩:=gd B
 refine cQ [(0,(sc (ad O o117) b J)),(2,(sc (ad M o113) j L)),(9,(aE g)),(10,(sc Z i a0)),(11,(iv l)),(12,(iv D)),(13,(iv a3)),(62,(.bool ((decide (a3<(g.length:Int)))&&((bt g a3) != (bt (ix b l) D)))))] (RR dV (ad O o117) J b::RR bH (ad M o113) L j::OO kT3 3 Z a0 i::W0) ?_ ?_
 rcases bo (decide (a3<(g.length:Int))) with E | E
 refine dF 16 [] bO fun ht hn=>?_
 refine dR 0 R (vI R) (dR 1 R (vp (aE g) R) (dR 2 R (vz (il g) (dT fW R)) ?_))
 refine gZ 3 [] ?_
 refine dW 5 R (dS E) (vp (aE g) R) (dW 6 R (dS E) (vI R) (dW 7 R (dS E) (vz (.int .u8 (bt g a3)) (cT fW R R (ah E).1 (ah E).2)) ?_))
 refine iz 8 [] ?_
 refine dW 11 R (dS E) (vz (aE (ix b l)) (jM (K:=dV) (fo:=0) (pr:=fun x=>(aE x)) 0 l rp (dT9.leaf fun _ _=>R) aA R T.1 T.2)) (dW 12 R (dS E) (vI R) (dW 13 R (dS E) (vz (.int .u8 (bt (ix b l) D)) (cT fW R R (ai E).1 (ai E).2)) (dW 14 R (dS E) (vp (.bool ((bt g a3) != (bt (ix b l) D))) R) (dR 15 R (iC R E R) (dD ?_)))))
 exact qj tI
 refine dF 16 [] bO fun ht hn=>?_
 refine dR 0 R (vI R) (dR 1 R (vp (aE g) R) (dR 2 R (vz (il g) (dT fW R)) ?_))
 refine mA 3 [] ?_
 refine dD ?_
 exact qj tI
 rintro σ1
 refine bX ?_
 split at B
 refine dG ?_
 cases B
 exact qA () tI
 refine aQ ?_
 cases B
 obtain rfl:=bl _ R
 have B:=bm
 refine aU ?_
 exact qI (a3,()) B tI
 rintro ⟨a4,_⟩ σ1 B
 dsimp only [Z2_J8] at B
 refine aK (bB (A:=(aO×(List Int))×(HH)) (fun a=>Z2_J9 j l D a4 a.1.1 a.1.2=some am) (fun a=>[(0,(sc (ad O o117) b J)),(2,(sc (ad M o113) j L)),(9,(aE a.1.1)),(10,(s3 a.2)),(11,(iv l)),(12,(iv D)),(13,(iv a4))]) (fun a=>RR dV (ad O o117) J b::RR bH (ad M o113) L j::ow kT3 3 (s3 a.2) a.1.2::W0) ?_ ?_)
 refine aQ ?_
 refine lO (vp (aE g) R) (lO (vz (il g) (dT fW R)) ?_)
 refine aQ ?_
 split at B
 refine aU ?_
 obtain ⟨a9,B⟩:=gd B
 obtain ⟨ao,B⟩:=gd B
 refine aD (lO (vp (aE g) R) ?_)
 refine aQ ?_
 refine lO (vz (aE (ix b l)) (jM (K:=dV) (fo:=0) (pr:=fun x=>(aE x)) 0 l rp (dT9.leaf fun _ _=>R) aA R T.1 T.2)) ?_
 refine aQ ?_
 refine lO (vz (aE (sub (ix b l) D (aH (D+1)))) (hT D (aH (D+1)) fW R R R a9.1 a9.2.1 a9.2.2)) (lO (vz (aE (g++(sub (ix b l) D (aH (D+1))))) (sf R R ao)) (lO (vp (aE (g++(sub (ix b l) D (aH (D+1))))) R) ?_))
 refine aU ?_
 obtain ⟨ap,B⟩:=gd B
 refine aU ?_
 refine bP (K:=kT3) (xs:=([(0:Int)]:List Int)) (vs:=[(iv 0)]) 0 R R bM cJ gV R R R R R R ?_ R (fun bw c2=>?_)
 exact fun I h s=>(gR).list [((),(0:Int))] I h s
 refine lM _ (tE 4 [3,0,1,2]) ?_
 refine eP (K:=kT3) 17592186044416 R R bM cJ kk (Zr.zk zT3 gV) R R R R R R dZ ap (fun aj ak=>(lN (OO kT3 3 aj ak (i++([(0:Int)]:List Int))::_::_::W0) ?_))
 refine aU ?_
 exact qI (((g++(sub (ix b l) D (aH (D+1)))),(i++([(0:Int)]:List Int))),(aj,(i++([(0:Int)]:List Int)).length,ak)) B (tE 3 [1,2,0])
 refine aU ?_
 exact qI ((g,i),(Z,i.length,a0)) B tI
 rintro ⟨⟨a8,q⟩,⟨ae,b6,ab⟩⟩ σ1 B
 dsimp only [Z2_J9] at B
 refine bK 2 aB (fun (hn:b6=q.length)=>?_)
 subst hn
 refine aU ?_
 obtain ⟨a2,B⟩:=gd B
 obtain ⟨aa,B⟩:=gd B
 refine cQ [(0,(sc (ad O o117) b J)),(2,(sc (ad M o113) j L)),(9,(aE a8)),(10,(sc ae q ab)),(11,(iv l)),(12,(iv D)),(13,(iv a4)),(100,(.bool (((ix q a4) != 0)&&((ix q a4) != (ix (ix j l) D)))))] (RR dV (ad O o117) J b::RR bH (ad M o113) L j::OO kT3 3 ae ab q::W0) ?_ ?_
 rcases bo ((ix q a4) != 0) with U | U
 refine bA 2 aB (show 0<q.length by have:=a2; omega) (fun bb o182 ha=>?_)
 subst ha
 refine dO (K:=bH) 1 l dT23.dec R Y.1 Y.2 ?_
 rintro ⟨bz,c3⟩
 refine bA 1 aA (show 0<(ix j l).length by have:=(aa U); omega) (fun c5 o186 ha=>?_)
 subst ha
 refine dF 19 [] bO fun ht hn=>?_
 refine mA 0 [] ?_
 refine dW 13 R (dS U) (eN (fo:=0) 0 cY R R R) (dW 14 R (dS U) (vI R) (dW 15 R (dS U) (eM bM cJ R R (aa U)) (dW 16 R (dS U) (gK 1 fP aA R (aa U)) ?_)))
 refine gZ 17 [] ?_
 refine dD ?_
 exact qj (fun w s=>(s.f 5 [2,3]))
 refine bA 2 aB (show 0<q.length by have:=a2; omega) (fun bb o182 ha=>?_)
 subst ha
 refine dF 19 [] bO fun ht hn=>?_
 refine yL 0 [] ?_
 refine dD ?_
 exact qj tI
 rintro σ1
 refine bX ?_
 split at B
 refine bI ?_
 refine lO (vp (aE ([]:aO)) R) ?_
 refine dI ?_
 cases B
 obtain rfl:=bf _ R
 have B:=bh
 refine bI ?_
 cases B
 obtain rfl:=an _ R
 have B:=av
 refine aQ ?_
 cases B
 exact iy (ae,q.length,ab) (tE 5 [2])
 refine aQ ?_
 obtain ⟨aq,B⟩:=gd B
 refine bW ?_
 refine fN (K:=bH) 1 l dT23.dec R Y.1 Y.2 ?_
 rintro ⟨c0,c4⟩
 refine lO (eN (fo:=0) 0 cY R R R) (lI R (bC 1 aA (show 0<(ix j l).length by have:=aq; omega) (fun c6 o192 ha=>?_)))
 subst ha
 refine aU ?_
 refine bC 4 aB (show 0<q.length by have:=a2; omega) (fun bc o194 ha=>?_)
 subst ha
 refine bX ?_
 refine lM _ (fun w s=>(s.f 5 [4,1,0,4])) ?_
 refine eL (K:=kT3) (x':=(ix (ix j l) D)) 0 a4 R R cJ R R a2.1 a2.2 ?_ ?_
 exact fun I h s=>(gR).put I h () (ix (ix j l) D) s
 refine dI ?_
 cases B
 exact qA ((ad bc o194),q.length,ab) (tE 5 [3,4,0])
 refine aQ ?_
 cases B
 obtain rfl:=bf _ R
 have B:=bh
 refine aQ ?_
 exact qI ((g,i),(((ad O o117),b.length,J),((ad M o113),j.length,L),(Z,i.length,a0))) B tI
 rintro ⟨⟨al,a1⟩,⟨⟨aw,b7,az⟩,⟨ax,b8,b0⟩,⟨ay,b9,b1⟩⟩⟩ σ1 B
 dsimp only [Z2_J10] at B
 refine bK 0 aA (fun (hn:b7=b.length)=>?_)
 subst hn
 refine bK 1 aA (fun (hn:b8=j.length)=>?_)
 subst hn
 refine bK 2 aB (fun (hn:b9=a1.length)=>?_)
 subst hn
 refine cI ?_
 cases B
 exact qA ((aw,b.length,az),(ax,j.length,b0),(ay,a1.length,b1)) tI
 refine aQ ?_
 cases B
 obtain rfl:=an _ R
 have B:=av
 refine aU ?_
 exact qI ((a7,F),(ac,F.length,ag)) B (tE 3 [2])
 rintro ⟨⟨G,u⟩,⟨a6,ba,a5⟩⟩ σ1 B
 dsimp only [Z2_J11] at B
 refine bK 0 aB (fun (hn:ba=u.length)=>?_)
 subst hn
 refine bW ?_
 refine bB (A:=(Unit)×(Unit)) (fun a=>Z2_J12 G u=some r) (fun a=>[(9,(aE G)),(10,(sc a6 u a5))]) (fun a=>OO kT3 3 a6 a5 u::W0) ?_ ?_
 refine bW ?_
 obtain ⟨e4,br,bi⟩:=bd B
 refine bD (A:=Unit) br (fun s a=>[(9,(aE G)),(10,(sc a6 u a5)),(14,(iv s.1)),(15,(iv s.2))]) (fun s a=>OO kT3 3 a6 a5 u::W0) () (aS R) tI ?_
 rintro ⟨bk,c7⟩ _ σ1 c9 B bg
 dsimp only [Z2_L4] at B
 refine dA ?_
 split at B
 refine bW ?_
 obtain ⟨ar,B⟩:=gd B
 refine bI ?_
 refine bC 0 aB (show 0<u.length by have:=ar; omega) (fun be o223 ha=>?_)
 subst ha
 refine iM ?_
 split at B
 refine bI ?_
 refine lO (vp (aE ([]:aO)) R) ?_
 refine dU ?_
 cases B
 obtain rfl:=bg _ R
 have B:=bi
 refine aQ ?_
 cases B
 exact iy ((ad be o223),u.length,a5) (tE 3 [0])
 refine dA ?_
 cases B
 exact qA () tI
 refine aQ ?_
 cases B
 obtain rfl:=bg _ R
 have B:=bi
 refine aU ?_
 exact qI ((),()) B tI
 rintro ⟨_,_⟩ σ1 B
 dsimp only [Z2_J12] at B
 refine aU ?_
 refine lO (vp (aE G) R) (lS R (lO (vp (aE G) R) ?_))
 refine cI ?_
 cases B
 exact iy (a6,u.length,a5) (tE 3 [0])
theorem Zh_ok  {i:aO}{g:aO}{b:(List Int)}{r:(List Int)}(j:Zh i g b=some r) :
 FnOk Tryz.prog 130 [(aE i),(aE g),(.slice A4 N4 D4)] [aN kT3 (.slice A4 N4 D4) b] (fun (h:HH)=>((.slice h.1 h.2.1 h.2.2),[ow kT3 3 (.slice h.1 h.2.1 h.2.2) r])):=by
 unfold Zh at j
 refine aP Tryz.func130 R 38 R R fun C V=>?_
 refine cN (_::V) ?_
 refine cL 0 aA ?_
 rintro rfl
 let L:List HP:=RR kT3 A4 D4 b::V
 refine cN L ?_
 refine aK (aD (lS R (aC (aG (aK (aD (bP (K:=kT3) (xs:=([]:List Int)) (vs:=[]) 0 R R bM cJ gV R R R R R R ?_ R (fun A5 D5=>?_))))))))
 exact fun I h s=>(gR).list [] I h s
 refine lN (OO kT3 3 A5 D5 ([]:List Int)::L) ?_
 refine lS R (aC (aG (aK (bB (A:=((List Int))×(HH)) (fun a=>Zh_J7 a.1=some r) (fun a=>[(7,(.slice a.2.1 a.2.2.1 a.2.2.2))]) (fun a=>ow kT3 3 (.slice a.2.1 a.2.2.1 a.2.2.2) a.1::L) ?_ ?_))))
 refine aK (aD (lI R (aC (aG (dJ ?_)))))
 obtain ⟨e1,aq,ao⟩:=bd j
 refine bD (A:=HH) aq (fun s a=>[(0,(aE i)),(1,(aE g)),(2,(sc A4 b D4)),(7,(.slice a.1 a.2.1 a.2.2)),(8,(iv s.2))]) (fun s a=>ow kT3 3 (.slice a.1 a.2.1 a.2.2) s.1::L) (A5,([]:List Int).length,D5) (aS R) (fun w s=>s) ?_
 rintro ⟨J,q⟩ ⟨a2,ah,a4⟩ σ1 F j am
 replace j:Zh_L1 i g b J q=some F:=j
 unfold Zh_L1 at j
 refine bK 0 aB (fun (M:ah=J.length)=>?_)
 subst M
 refine aK (aK (aD (lI R (lO (vp (aE i) R) (lO (vz (il i) (dT fW R)) (lO (n0 R R) (aC (aG ?_))))))))
 rcases cH j with ⟨u,j⟩|⟨u,j⟩
 refine bV R u (cF (aG (aK (bB (A:=((List Int))×(HH)) (fun a=>Zh_J6 q a.1=some F) (fun a=>[(0,(aE i)),(1,(aE g)),(2,(sc A4 b D4)),(7,(.slice a.2.1 a.2.2.1 a.2.2.2)),(8,(iv q))]) (fun a=>ow kT3 3 (.slice a.2.1 a.2.2.1 a.2.2.2) a.1::L) ?_ ?_))))
 refine dJ (aK (aD (lI R (aC (aG (dJ ?_))))))
 obtain ⟨e2,ar,ap⟩:=bd j
 refine bD (A:=HH) ar (fun s a=>[(0,(aE i)),(1,(aE g)),(2,(sc A4 b D4)),(7,(.slice a.1 a.2.1 a.2.2)),(8,(iv q)),(9,(iv s.2))]) (fun s a=>ow kT3 3 (.slice a.1 a.2.1 a.2.2) s.1::L) (a2,J.length,a4) (aS R) (fun w s=>s) ?_
 rintro ⟨m,l⟩ ⟨U,ai,Y⟩ σ1 G j an
 replace j:Zh_L2 i g b q m l=some G:=j
 unfold Zh_L2 at j
 refine bK 0 aB (fun (M:ai=m.length)=>?_)
 subst M
 refine aK (aK (aD (lI R (lO (vp (aE g) R) (lO (vz (il g) (dT fW R)) (lO (n0 R R) (aC (aG ?_))))))))
 rcases cH j with ⟨B,j⟩|⟨B,j⟩
 refine bV R B (cF (aG (aK (bB (A:=((List Int))×(HH)) (fun a=>Zh_J5 l a.1=some G) (fun a=>[(0,(aE i)),(1,(aE g)),(2,(sc A4 b D4)),(7,(.slice a.2.1 a.2.2.1 a.2.2.2)),(8,(iv q)),(9,(iv l))]) (fun a=>ow kT3 3 (.slice a.2.1 a.2.2.1 a.2.2.2) a.1::L) ?_ ?_))))
 refine dJ (aK ?_)
 obtain ⟨O,j⟩:=gd j
 obtain ⟨T,j⟩:=gd j
 refine dF 7 [] bO (fun ht M=>(dR 0 R (vp (aE g) R) (dR 1 R (vI R) (dR 2 R (vz (.int .u8 (bt g l)) (cT fW R R O.1 O.2)) (dR 3 R (vp (aE i) R) (dR 4 R (vI R) (dR 5 R (vz (.int .u8 (bt i q)) (cT fW R R T.1 T.2)) (dR 6 R (vp (.bool ((bt g l)==(bt i q))) R) (dD (aG ?_))))))))))
 rcases cH j with ⟨D,j⟩|⟨D,j⟩
 refine bV R D ?_
 obtain ⟨E,j⟩:=gd j
 obtain ⟨a6,j⟩:=gd j
 refine aD (lS R (lS R (lI R (bC 1 aA (show 0<b.length by have:=E; omega) (fun au o64 ha=>?_)))))
 subst ha
 refine lO (eM bM cJ R R E) (lO (gK 1 fP aA R E) (bP (K:=kT3) (xs:=([(ix b l)]:List Int)) (vs:=[(iv (ix b l))]) 0 R R bM cJ gV R R R R R R ?_ R (fun a7 ab=>?_)))
 exact fun I h s=>(gR).list [((),(ix b l))] I h s
 refine lN (OO kT3 3 a7 ab ([(ix b l)]:List Int)::OO kT3 3 U Y m::L) ?_
 refine lM (ow _ _ _ _::ow _ _ _ _::L) (fun w s=>(s.e 2 [1,0])) ?_
 refine eP (K:=kT3) 17592186044416 R R bM cJ kk (Zr.zk zT3 gV) R R R R R R dZ a6 (fun a3 a5=>(lN (OO kT3 3 a3 a5 (m++([(ix b l)]:List Int))::L) ?_))
 refine lS R (aC (dN ?_))
 exact qI ((m++([(ix b l)]:List Int)),(a3,(m++([(ix b l)]:List Int)).length,a5)) j (fun w s=>s)
 refine bG R D (cF (dN ?_))
 exact qI (m,(U,m.length,Y)) j (fun w s=>s)
 rintro ⟨Z,⟨a8,aj,ac⟩⟩ σ1 j
 replace j:Zh_J5 l Z=some G:=j
 unfold Zh_J5 at j
 refine bK 0 aB (fun (M:aj=Z.length)=>?_)
 subst M
 refine aD (lI R (lO (jt R R) (lI R (aC ?_))))
 obtain rfl:=so j
 exact qA (a8,Z.length,ac) (fun w s=>s)
 refine bG R B (gA (dY ?_))
 obtain rfl:=so j
 obtain rfl:=an _ R
 have j:=ap
 refine dY (eX (dN ?_))
 exact qI (m,(U,m.length,Y)) j (fun w s=>s)
 rintro ⟨a0,⟨a9,ak,ae⟩⟩ σ1 j
 replace j:Zh_J6 q a0=some F:=j
 unfold Zh_J6 at j
 refine bK 0 aB (fun (M:ak=a0.length)=>?_)
 subst M
 refine aD (lI R (lO (jt R R) (lI R (aC ?_))))
 obtain rfl:=so j
 exact qA (a9,a0.length,ae) (fun w s=>s)
 refine bG R u (gA (dY ?_))
 obtain rfl:=so j
 obtain rfl:=am _ R
 have j:=ao
 refine dY (eX ?_)
 exact qI (J,(a2,J.length,a4)) j (fun w s=>s)
 rintro ⟨a1,⟨aa,al,ag⟩⟩ σ1 j
 replace j:Zh_J7 a1=some r:=j
 unfold Zh_J7 at j
 refine bK 0 aB (fun (M:al=a1.length)=>?_)
 subst M
 refine aK (aD (lS R (lS R (aC (aG (bY ?_))))))
 obtain rfl:=so j
 exact qF (aa,a1.length,ag) (fun w s=>(s.e 2 [0]))
end Go.Proofs.YthelanpdjajnbaaGreat
