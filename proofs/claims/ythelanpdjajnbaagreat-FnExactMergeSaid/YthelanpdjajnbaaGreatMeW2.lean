import Derived.Test.YthelanpdjajnbaaGreatMeF
set_option linter.unusedVariables false
set_option maxRecDepth 20000
namespace Go.Proofs.YthelanpdjajnbaaGreat
open Go Go.Pg
variable {A2 A3 A4 A5 A6 A7:Option Addr}{D2 D3 D4 D5 D6 D7 N2 N3 N4 N5 N6 N7:Nat}
theorem Z36_ok  {b:Int}{r:Int×Int}(a:Z36 b=some r) :
 FnOk Tryz.prog 85 [(iv b)] [] (fun (h:Unit)=>((.tuple [(iv r.1),(iv r.2)].toArray),[])):=by
 unfold Z36 at a
 refine aR Tryz.func85 R 13 R R fun C V=>?_
 refine cN V ?_
 refine pb ?_
 split at a
 refine dH ?_
 cases a
 exact ka () tI
 refine dM ?_
 split at a
 refine dH ?_
 cases a
 exact ka () tI
 refine dM ?_
 split at a
 refine dH ?_
 cases a
 exact ka () tI
 refine j9 ?_
 cases a
 exact ka () tI
theorem Z3h_ok  {a:Int}{r:Bool}(i:Z3h a=some r) :
 FnOk Tryz.prog 86 [(iv a)] [] (fun (h:Unit)=>((.bool r),[])):=by
 unfold Z3h at i
 refine aR Tryz.func86 R 17 R R fun C V=>?_
 refine cN V ?_
 refine cH ?_
 refine cQ [(2,(.bool ((((a==1)||(a==2))||(a==12))||(a==13))))] (V) ?_ ?_
 refine bL ?_
 rcases bo (a==1) with b | b
 refine lL ?_
 exact qj tI
 refine bL ?_
 rcases bo ((a==1)||(a==2)) with e | e
 refine dJ ?_
 exact qj tI
 refine bL ?_
 rcases bo (((a==1)||(a==2))||(a==12)) with g | g
 refine cU ?_
 exact qj tI
 refine cU ?_
 exact qj tI
 rintro σ1
 refine bA ?_
 cases i
 exact qF () tI
theorem Z1g_ok  {e:Int}{r:Int}(b:Z1g e=some r) :
 FnOk Tryz.prog 87 [(iv e)] [] (fun (h:Unit)=>((iv r),[])):=by
 unfold Z1g at b
 refine aR Tryz.func87 R 16 R R fun C V=>?_
 refine cN V ?_
 refine zh ?_
 split at b
 refine dJ ?_
 cases b
 exact qF () tI
 refine bA ?_
 refine bD (A:=(Bool)×(Unit)) (fun a=>Z1g_J1 e a.1=some r) (fun a=>[(3,(iv e)),(6,(.bool a.1))]) (fun a=>V) ?_ ?_
 refine cH ?_
 split at b
 refine bA ?_
 exact qI ((e==14),()) b tI
 refine cU ?_
 exact qI ((e==15),()) b tI
 rintro ⟨g,_⟩ σ1 b
 dsimp only [Z1g_J1] at b
 split at b
 refine dJ ?_
 cases b
 exact qF () tI
 refine dX ?_
 split at b
 refine dJ ?_
 cases b
 exact qF () tI
 refine dX ?_
 split at b
 refine dJ ?_
 cases b
 exact qF () tI
 refine bA ?_
 refine bD (A:=(Bool)×(Unit)) (fun a=>Z1g_J2 a.1=some r) (fun a=>[(13,(.bool a.1))]) (fun a=>V) ?_ ?_
 refine cH ?_
 split at b
 refine bA ?_
 exact qI ((e==18),()) b tI
 refine cU ?_
 exact qI ((e==19),()) b tI
 rintro ⟨i,_⟩ σ1 b
 dsimp only [Z1g_J2] at b
 split at b
 refine dJ ?_
 cases b
 exact qF () tI
 refine dH ?_
 cases b
 exact qF () tI
theorem Z1d_ok  {a:Node}{r:Bool}(m:Z1d a=some r) :
 FnOk Tryz.prog 76 [(.agg [(iv a.Op),(.slice A2 N2 D2),(.slice A3 N3 D3),(.slice A4 N4 D4),(aH a.Form),(.slice A5 N5 D5)].toArray)] [aO kT3 (.slice A2 N2 D2) a.Args,aO kT3 (.slice A3 N3 D3) a.Dims,aO kT3 (.slice A4 N4 D4) a.Ints,aO kT3 (.slice A5 N5 D5) a.Data] (fun (h:Unit)=>((.bool r),[])):=by
 unfold Z1d at m
 refine aR Tryz.func76 R 92 R R fun C V=>?_
 refine cL 0 aA ?_
 rintro rfl
 refine cL 1 aA ?_
 rintro rfl
 refine cL 2 aA ?_
 rintro rfl
 refine cL 3 aA ?_
 rintro rfl
 let W0:=RR kT3 A2 D2 a.Args::RR kT3 A3 D3 a.Dims::RR kT3 A4 D4 a.Ints::RR kT3 A5 D5 a.Data::V
 refine cN W0 ?_
 refine bA ?_
 refine eJ R fun T=>?_
 refine bA ?_
 let O:=aJ T [(iv a.Op),(sc A2 a.Args D2),(sc A3 a.Dims D3),(sc A4 a.Ints D4),(aH a.Form),(sc A5 a.Data D5)] 65::W0
 refine qN O ?_
 refine aW ?_
 refine cQ [(1,(pt T 0)),(13,(.bool ((decide (a.Op<1))||(decide (a.Op>19)))))] (O) ?_ ?_
 refine cU ?_
 rcases bo (decide (a.Op<1)) with M | M
 refine aW ?_
 refine lO (fE (decide (a.Op>19)) R M) (aB ?_)
 exact qj tI
 refine aW ?_
 refine lO (fZ R M R) (aB ?_)
 exact qj tI
 rintro σ1
 refine cE ?_
 split at m
 refine dM ?_
 cases m
 exact qF () (tE 5 [])
 refine bL ?_
 obtain ⟨r9,U,m⟩:=bd m
 refine aW ?_
 refine lC 0 BA R (Z36_ok U) R ?_
 rintro _
 refine lO (vT R) ?_
 refine dM ?_
 refine cQ [(1,(pt T 0)),(31,(.bool ((decide ((a.Args.length:Int)<r9.1))||(decide ((a.Args.length:Int)>r9.2)))))] (O) ?_ ?_
 refine dX ?_
 rcases bo (decide ((a.Args.length:Int)<r9.1)) with B | B
 refine cU ?_
 refine lO (fE (decide ((a.Args.length:Int)>r9.2)) R B) (aB ?_)
 exact qj tI
 refine cU ?_
 refine lO (fZ R B R) (aB ?_)
 exact qj tI
 rintro σ1
 refine cE ?_
 split at m
 refine dM ?_
 cases m
 exact qF () (tE 5 [])
 refine cU ?_
 obtain ⟨q,Y,m⟩:=bd m
 refine cQ [(1,(pt T 0)),(62,(.bool ((((!q)&&(decide ((a.Dims.length:Int)>0)))||((a.Op != 11)&&(!(a.Form==([]:aP)))))||((a.Op != 2)&&(decide ((a.Data.length:Int)>0))))))] (O) ?_ ?_
 refine aW ?_
 refine lC 0 BC R (Z3h_ok Y) R ?_
 rintro _
 refine bA ?_
 rcases bo (!q) with b | b
 refine bL ?_
 refine lO (ji R b R) (lB R ?_)
 rcases bo ((!q)&&(decide ((a.Dims.length:Int)>0))) with e | e
 refine dM ?_
 refine lO (fE ((a.Op != 11)&&(!(a.Form==([]:aP)))) R e) ?_
 refine dH ?_
 refine lO (fE ((a.Op != 2)&&(decide ((a.Data.length:Int)>0))) R (oT e)) (aB ?_)
 exact qj tI
 refine bL ?_
 rcases bo (a.Op != 11) with s | s
 refine bA ?_
 refine lW (eM s) (vz (.bool (!(a.Form==([]:aP)))) (jf R R R)) (lW (cG e) (ji R s R) (lO (fZ R e R) (lB R ?_)))
 rcases bo (((!q)&&(decide ((a.Dims.length:Int)>0)))||((a.Op != 11)&&(!(a.Form==([]:aP))))) with g | g
 refine dJ ?_
 refine lO (fE ((a.Op != 2)&&(decide ((a.Data.length:Int)>0))) R g) (aB ?_)
 exact qj tI
 refine bL ?_
 rcases bo (a.Op != 2) with D | D
 refine bL ?_
 refine lW (cG g) (ji R D R) (lO (fZ R g R) (aB ?_))
 exact qj tI
 refine bL ?_
 refine lW (cG g) (kA (decide ((a.Data.length:Int)>0)) R D) (lO (fZ R g R) (aB ?_))
 exact qj tI
 refine aW ?_
 refine lW (cG e) (kA (!(a.Form==([]:aP))) R s) (lO (fZ R e R) (lB R ?_))
 rcases bo (((!q)&&(decide ((a.Dims.length:Int)>0)))||((a.Op != 11)&&(!(a.Form==([]:aP))))) with i | i
 refine dJ ?_
 refine lO (fE ((a.Op != 2)&&(decide ((a.Data.length:Int)>0))) R i) (aB ?_)
 exact qj tI
 refine bL ?_
 rcases bo (a.Op != 2) with E | E
 refine bL ?_
 refine lW (cG i) (ji R E R) (lO (fZ R i R) (aB ?_))
 exact qj tI
 refine bL ?_
 refine lW (cG i) (kA (decide ((a.Data.length:Int)>0)) R E) (lO (fZ R i R) (aB ?_))
 exact qj tI
 refine bL ?_
 refine lO (kA (decide ((a.Dims.length:Int)>0)) R b) ?_
 refine cU ?_
 rcases bo (a.Op != 11) with u | u
 refine bA ?_
 refine lW (eM u) (vz (.bool (!(a.Form==([]:aP)))) (jf R R R)) (lW (cG (aF b)) (ji R u R) (lO (fZ R (aF b) R) (lB R ?_)))
 rcases bo (((!q)&&(decide ((a.Dims.length:Int)>0)))||((a.Op != 11)&&(!(a.Form==([]:aP))))) with j | j
 refine dJ ?_
 refine lO (fE ((a.Op != 2)&&(decide ((a.Data.length:Int)>0))) R j) (aB ?_)
 exact qj tI
 refine bL ?_
 rcases bo (a.Op != 2) with F | F
 refine bL ?_
 refine lW (cG j) (ji R F R) (lO (fZ R j R) (aB ?_))
 exact qj tI
 refine bL ?_
 refine lW (cG j) (kA (decide ((a.Data.length:Int)>0)) R F) (lO (fZ R j R) (aB ?_))
 exact qj tI
 refine aW ?_
 refine lW (cG (aF b)) (kA (!(a.Form==([]:aP))) R u) (lO (fZ R (aF b) R) (lB R ?_))
 rcases bo (((!q)&&(decide ((a.Dims.length:Int)>0)))||((a.Op != 11)&&(!(a.Form==([]:aP))))) with l | l
 refine dJ ?_
 refine lO (fE ((a.Op != 2)&&(decide ((a.Data.length:Int)>0))) R l) (aB ?_)
 exact qj tI
 refine bL ?_
 rcases bo (a.Op != 2) with G | G
 refine bL ?_
 refine lW (cG l) (ji R G R) (lO (fZ R l R) (aB ?_))
 exact qj tI
 refine bL ?_
 refine lW (cG l) (kA (decide ((a.Data.length:Int)>0)) R G) (lO (fZ R l R) (aB ?_))
 exact qj tI
 rintro σ1
 refine cE ?_
 split at m
 refine dM ?_
 cases m
 exact qF () (tE 5 [])
 refine bL ?_
 obtain ⟨L,Z,m⟩:=bd m
 refine aW ?_
 refine lC 0 BD R (Z1g_ok Z) R ?_
 rintro _
 refine cU ?_
 refine cQ [(1,(pt T 0)),(5,(iv L)),(73,(.bool ((a.Op==16)||(a.Op==17))))] (O) ?_ ?_
 refine cU ?_
 rcases bo (a.Op==16) with I | I
 refine aW ?_
 refine lO (fE (a.Op==17) R I) (aB ?_)
 exact qj tI
 refine aW ?_
 refine lO (fZ R I R) (aB ?_)
 exact qj tI
 rintro σ1
 refine cE ?_
 split at m
 refine bA ?_
 refine cQ [(2,(.bool ((decide ((a.Ints.length:Int)≥L))&&(decide ((a.Ints.length:Int)≤(aK (L+4096)))))))] (O) ?_ ?_
 refine dX ?_
 rcases bo (decide ((a.Ints.length:Int)≥L)) with J | J
 refine cH ?_
 refine lO (ji R J R) ?_
 refine bA ?_
 exact qj tI
 refine cH ?_
 refine lO (kA (decide ((a.Ints.length:Int)≤(aK (L+4096)))) R J) ?_
 refine bA ?_
 exact qj tI
 rintro σ1
 refine aW ?_
 cases m
 exact qF () (tE 5 [])
 refine pa ?_
 cases m
 exact qF () (tE 5 [])
theorem Z0m_ok  {b:(List Int)}{q:Int}{r:Bool}(e:Z0m b q=some r) :
 FnOk Tryz.prog 77 [(.slice A2 N2 D2),(iv q)] [aO kT3 (.slice A2 N2 D2) b] (fun (h:Unit)=>((.bool r),[])):=by
 unfold Z0m at e
 refine aR Tryz.func77 R 25 R R fun C V=>?_
 refine cL 0 aA ?_
 rintro rfl
 let u:=RR kT3 A2 D2 b::V
 refine cN u ?_
 refine cH ?_
 refine bD (A:=(Unit)×(Unit)) (fun a=>Z0m_J1=some r) (fun a=>[]) (fun a=>u) ?_ ?_
 refine cH ?_
 obtain ⟨G,B,m⟩:=bd e
 refine bE (A:=Unit) B (fun s a=>[(0,(sc A2 b D2)),(1,(iv q)),(5,(iv s))]) (fun s a=>u) () (aS R) tI ?_
 rintro g _ σ1 D e j
 dsimp only [Z0m_L1] at e
 refine dJ ?_
 split at e
 refine cH ?_
 obtain ⟨l,e⟩:=gd e
 refine cQ [(0,(sc A2 b D2)),(1,(iv q)),(5,(iv g)),(24,(.bool ((decide ((ix b g)<0))||(decide ((ix b g)≥q)))))] (u) ?_ ?_
 refine aW ?_
 refine bC 0 aA (show 0<b.length by have:=l; omega) (fun E o14 F=>?_)
 subst F
 refine bL ?_
 rcases bo (decide ((ix b g)<0)) with i | i
 refine dM ?_
 exact qj tI
 refine dM ?_
 exact qj tI
 rintro σ1
 refine cE ?_
 split at e
 refine dJ ?_
 cases e
 obtain rfl:=j _ R
 have e:=m
 refine aW ?_
 cases e
 exact qF () (tE 1 [])
 refine dJ ?_
 cases e
 exact qA () tI
 refine aW ?_
 cases e
 obtain rfl:=j _ R
 have e:=m
 refine bA ?_
 exact cK ((),()) e trivial tI
 rintro ⟨_,_⟩ σ1 e
 dsimp only [Z0m_J1] at e
 refine cH ?_
 cases e
 exact qF () (tE 1 [])
theorem Zu_ok  {b:(List Int)}{r:Int}(e:Zu b=some r) :
 FnOk Tryz.prog 58 [(.slice A2 N2 D2)] [aO kT3 (.slice A2 N2 D2) b] (fun (h:Unit)=>((iv r),[])):=by
 unfold Zu at e
 refine aR Tryz.func58 R 32 R R fun C V=>?_
 refine cL 0 aA ?_
 rintro rfl
 let u:=RR kT3 A2 D2 b::V
 refine cN u ?_
 refine j9 ?_
 refine bD (A:=(Int)×(Unit)) (fun a=>Zu_J1 a.1=some r) (fun a=>[(3,(iv a.1))]) (fun a=>u) ?_ ?_
 refine cH ?_
 obtain ⟨J,D,l⟩:=bd e
 refine bE (A:=Unit) D (fun s a=>[(0,(sc A2 b D2)),(3,(iv s.1)),(4,(iv s.2))]) (fun s a=>u) () (aS R) tI ?_
 rintro ⟨q,g⟩ _ σ1 E e j
 dsimp only [Zu_L1] at e
 refine dJ ?_
 split at e
 refine dX ?_
 obtain ⟨i,e⟩:=gd e
 refine cQ [(0,(sc A2 b D2)),(3,(iv q)),(4,(iv g)),(22,(.bool ((decide ((ix b g)<1))||(decide ((ix b g)>4096)))))] (u) ?_ ?_
 refine aW ?_
 refine bC 0 aA (show 0<b.length by have:=i; omega) (fun F o17 B=>?_)
 subst B
 refine bL ?_
 rcases bo (decide ((ix b g)<1)) with m | m
 refine dX ?_
 exact qj tI
 refine dX ?_
 exact qj tI
 rintro σ1
 refine cE ?_
 split at e
 refine dH ?_
 cases e
 obtain rfl:=j _ R
 have e:=l
 refine aW ?_
 cases e
 exact qF () (tE 1 [])
 refine dM ?_
 refine bC 0 aA (show 0<b.length by have:=i; omega) (fun G o21 B=>?_)
 subst B
 refine iZ ?_
 split at e
 refine dJ ?_
 cases e
 obtain rfl:=j _ R
 have e:=l
 refine aW ?_
 cases e
 exact qF () (tE 1 [])
 refine dJ ?_
 cases e
 exact qA () tI
 refine aW ?_
 cases e
 obtain rfl:=j _ R
 have e:=l
 refine bA ?_
 exact qI (q,()) e tI
 rintro ⟨I,_⟩ σ1 e
 dsimp only [Zu_J1] at e
 refine dX ?_
 cases e
 exact qF () (tE 1 [])
theorem Zp_ok  {a:(List Int)}{r:Bool}(e:Zp a=some r) :
 FnOk Tryz.prog 71 [(.slice A2 N2 D2)] [aO kT3 (.slice A2 N2 D2) a] (fun (h:Unit)=>((.bool r),[])):=by
 unfold Zp at e
 refine aR Tryz.func71 R 11 R R fun C V=>?_
 refine cL 0 aA ?_
 rintro rfl
 let g:=RR kT3 A2 D2 a::V
 refine cN g ?_
 refine cH ?_
 obtain ⟨j,i,e⟩:=bd e
 refine cQ [(2,(.bool ((decide ((a.length:Int)≤6))&&(decide (j>0)))))] (g) ?_ ?_
 refine cU ?_
 rcases bo (decide ((a.length:Int)≤6)) with b | b
 refine cE ?_
 refine lM _ (fun w s=>(s.d 0 R)) ?_
 refine cD 1 R (eM b) oe R (Zu_ok (bR i b)) R ?_
 rintro _
 refine lN g ?_
 refine bL ?_
 exact qj tI
 refine cH ?_
 exact qj tI
 rintro σ1
 refine bA ?_
 cases e
 exact qF () (tE 1 [])
theorem Zs_ok  {t1:Tensor}{r:Bool}(b:Zs t1=some r) :
 FnOk Tryz.prog 35 [(.agg [(.slice A2 N2 D2),(.slice A3 N3 D3)].toArray)] [aO kT3 (.slice A2 N2 D2) t1.Dims,aO kT3 (.slice A3 N3 D3) t1.Data] (fun (h:Unit)=>((.bool r),[])):=by
 unfold Zs at b
 refine aR Tryz.func35 R 38 R R fun C V=>?_
 refine cL 0 aA ?_
 rintro rfl
 refine cL 1 aA ?_
 rintro rfl
 let F:=RR kT3 A2 D2 t1.Dims::RR kT3 A3 D3 t1.Data::V
 refine cN F ?_
 refine bA ?_
 refine eJ R fun B=>?_
 refine bA ?_
 let g:=aJ B [(sc A2 t1.Dims D2),(sc A3 t1.Data D3)] 42::F
 refine qN g ?_
 refine aW ?_
 obtain ⟨I,u,b⟩:=bd b
 obtain ⟨T,E,b⟩:=bd b
 refine cQ [(1,(pt B 0)),(16,(.bool ((!I)||((t1.Data.length:Int) != T))))] (g) ?_ ?_
 rcases bo (!I) with i | i
 refine dE 13 [] bQ fun O M=>?_
 refine iC 0 [] ?_
 refine d1 2 R (lM _ (fun w s=>(s.d 1 R)) ?_)
 refine lC 1 kD R (Zp_ok u) R ?_
 rintro _
 refine lN g ?_
 refine aB (aG (sL []) ?_)
 refine rM 3 [] ?_
 refine dD ?_
 exact qj tI
 refine dE 13 [] bQ fun O M=>?_
 refine iC 0 [] ?_
 refine d1 2 R (lM _ (fun w s=>(s.d 1 R)) ?_)
 refine lC 1 kD R (Zp_ok u) R ?_
 rintro _
 refine lN g ?_
 refine aB (aG (sL []) ?_)
 refine t6 3 [] ?_
 refine d1 10 R (lM _ (fun w s=>(s.d 1 R)) ?_)
 refine cD 1 R (cG i) oe R (Zu_ok (bR E (cY i))) R ?_
 rintro _
 refine lN g ?_
 refine aB (aG (sL []) ?_)
 refine iC 11 [] ?_
 refine dD ?_
 exact qj tI
 rintro σ1
 refine cE ?_
 split at b
 refine dM ?_
 cases b
 exact qF () (tE 3 [])
 refine bL ?_
 refine bD (A:=(Unit)×(Unit)) (fun a=>Zs_J1=some r) (fun a=>[]) (fun a=>g) ?_ ?_
 refine cH ?_
 obtain ⟨U,D,q⟩:=bd b
 refine bE (A:=Unit) D (fun s a=>[(1,(pt B 0)),(3,(iv s))]) (fun s a=>g) () (aS R) tI ?_
 rintro e _ σ1 G b l
 dsimp only [Zs_L1] at b
 refine dH ?_
 split at b
 refine cH ?_
 obtain ⟨m,b⟩:=gd b
 refine cQ [(1,(pt B 0)),(3,(iv e)),(37,(.bool ((decide ((ix t1.Data e)<0))||(decide ((ix t1.Data e)≥2147483647)))))] (g) ?_ ?_
 refine bL ?_
 refine bC 2 aA (show 0<t1.Data.length by have:=m; omega) (fun J o21 L=>?_)
 subst L
 refine bL ?_
 rcases bo (decide ((ix t1.Data e)<0)) with j | j
 refine dM ?_
 exact qj tI
 refine dM ?_
 exact qj tI
 rintro σ1
 refine cE ?_
 split at b
 refine dJ ?_
 cases b
 obtain rfl:=l _ R
 have b:=q
 refine aW ?_
 cases b
 exact qF () (tE 3 [])
 refine dJ ?_
 cases b
 exact qA () tI
 refine aW ?_
 cases b
 obtain rfl:=l _ R
 have b:=q
 refine bA ?_
 exact cK ((),()) b trivial tI
 rintro ⟨_,_⟩ σ1 b
 dsimp only [Zs_J1] at b
 refine cH ?_
 cases b
 exact qF () (tE 3 [])
theorem Ze_ok  {a1:(List Int)}{r:(List Int)}(a:Ze a1=some r) :
 FnOk Tryz.prog 37 [(.slice A2 N2 D2)] [aO kT3 (.slice A2 N2 D2) a1] (fun (h:HH)=>((s3 h),[ow kT3 3 (s3 h) r])):=by
 unfold Ze at a
 refine aR Tryz.func37 R 6 R R fun C V=>?_
 refine cL 0 aA ?_
 rintro rfl
 let e:=RR kT3 A2 D2 a1::V
 refine cN e ?_
 refine cH ?_
 obtain ⟨b,a⟩:=gd a
 refine aD (bK (K:=kT3) (xs:=([]:List Int)) (vs:=[]) 0 R R bI cI gB R R R R R R ?_ R (fun A3 D3=>?_))
 exact fun I h s=>(gF).list [] I h s
 refine lS R (lM _ (fun w s=>((s.dup 1 R).mv 1)) ?_)
 refine dV (K:=kT3) 17592186044416 R R bI cI jN (Zr.zk zT3 gB) R R R R R R (sC (Kind.scal_flat _ _)) b (fun A5 D5=>(lN (OO kT3 3 A5 D5 (([]:List Int)++a1)::e) ?_))
 refine bL ?_
 cases a
 exact qF (A5,(([]:List Int)++a1).length,D5) (tE 2 [0])
theorem Zw_ok  {a1:(List Int)}{e:(List Int)}{r:Bool}(b:Zw a1 e=some r) :
 FnOk Tryz.prog 36 [(.slice A2 N2 D2),(.slice A4 N4 D4)] [aO kT3 (.slice A2 N2 D2) a1,aO kT3 (.slice A4 N4 D4) e] (fun (h:Unit)=>((.bool r),[])):=by
 unfold Zw at b
 refine aR Tryz.func36 R 26 R R fun C V=>?_
 refine cL 0 aA ?_
 rintro rfl
 refine cL 1 aA ?_
 rintro rfl
 let m:=RR kT3 A2 D2 a1::RR kT3 A4 D4 e::V
 refine cN m ?_
 refine pb ?_
 split at b
 refine dM ?_
 cases b
 exact qF () (tE 2 [])
 refine bL ?_
 refine bD (A:=(Unit)×(Unit)) (fun a=>Zw_J1=some r) (fun a=>[]) (fun a=>m) ?_ ?_
 refine cH ?_
 obtain ⟨G,u,l⟩:=bd b
 refine bE (A:=Unit) u (fun s a=>[(0,(sc A2 a1 D2)),(1,(sc A4 e D4)),(5,(iv s))]) (fun s a=>m) () (aS R) tI ?_
 rintro F _ σ1 B b g
 dsimp only [Zw_L1] at b
 refine dJ ?_
 split at b
 refine cH ?_
 obtain ⟨i,b⟩:=gd b
 obtain ⟨j,b⟩:=gd b
 refine bB 0 aA (show 0<a1.length by have:=i; omega) (fun D o18 q=>?_)
 subst q
 refine bB 1 aA (show 0<e.length by have:=j; omega) (fun E o21 q=>?_)
 subst q
 refine dE 9 [] bQ fun J I=>?_
 refine wu 0 [] ?_
 refine dD (aE ?_)
 split at b
 refine dJ ?_
 cases b
 obtain rfl:=g _ R
 have b:=l
 refine aW ?_
 cases b
 exact qF () (tE 2 [])
 refine dJ ?_
 cases b
 exact qA () tI
 refine aW ?_
 cases b
 obtain rfl:=g _ R
 have b:=l
 refine bA ?_
 exact cK ((),()) b trivial tI
 rintro ⟨_,_⟩ σ1 b
 dsimp only [Zw_J1] at b
 refine cH ?_
 cases b
 exact qF () (tE 2 [])
theorem Z2h_ok  {a:(List Int)}{g:Int}{r:Int}(b:Z2h a g=some r) :
 FnOk Tryz.prog 149 [(.slice A2 N2 D2),(iv g)] [aO kT3 (.slice A2 N2 D2) a] (fun (h:Unit)=>((iv r),[])):=by
 unfold Z2h at b
 refine aR Tryz.func149 R 17 R R fun C V=>?_
 refine cL 0 aA ?_
 rintro rfl
 let i:=RR kT3 A2 D2 a::V
 refine cN i ?_
 refine pa ?_
 split at b
 refine dM ?_
 cases b
 exact qF () (tE 1 [])
 refine bL ?_
 obtain ⟨e,b⟩:=gd b
 refine dX ?_
 refine bC 0 aA (show 0<a.length by have:=e; omega) (fun l o7 j=>?_)
 subst j
 refine cH ?_
 cases b
 exact qF () (tE 1 [])
theorem Z01_ok  {a1:(List Int)}{D:(List Int)}{r:(List Int)}(b:Z01 a1 D=some r) :
 FnOk Tryz.prog 118 [(.slice A2 N2 D2),(.slice A4 N4 D4)] [aO kT3 (.slice A2 N2 D2) a1,aO kT3 (.slice A4 N4 D4) D] (fun (h:HH)=>((s3 h),[ow kT3 3 (s3 h) r])):=by
 unfold Z01 at b
 refine aR Tryz.func118 R 68 R R fun C V=>?_
 refine cL 0 aA ?_
 rintro rfl
 refine cL 1 aA ?_
 rintro rfl
 let E:=RR kT3 A2 D2 a1::RR kT3 A4 D4 D::V
 refine cN E ?_
 refine dX ?_
 obtain ⟨r5,a9,b⟩:=bd b
 obtain ⟨r7,aa,b⟩:=bd b
 refine cQ [(0,(sc A2 a1 D2)),(1,(sc A4 D D4)),(17,(.bool ((!r5)||(!r7))))] (E) ?_ ?_
 refine bA ?_
 refine lM _ (fun w s=>(s.d 0 R)) ?_
 refine lC 1 kD R (Zp_ok a9) R ?_
 rintro _
 refine lN E ?_
 refine bA ?_
 rcases bo (!r5) with J | J
 refine cU ?_
 exact qj tI
 refine cE ?_
 refine lM _ (fun w s=>(s.d 1 R)) ?_
 refine cD 1 R (cG J) kD R (Zp_ok (bR aa (cY J))) R ?_
 rintro _
 refine lN E ?_
 refine aW ?_
 exact qj tI
 rintro σ1
 refine cE ?_
 split at b
 refine aW ?_
 refine bK (K:=kT3) (xs:=([]:List Int)) (vs:=[]) 0 R R bI cI gB R R R R R R ?_ R (fun A11 D11=>?_)
 exact fun I h s=>(gF).list [] I h s
 refine cU ?_
 cases b
 exact qF (A11,([]:List Int).length,D11) (tE 3 [0])
 refine j9 ?_
 refine bD (A:=(Int)×(Unit)) (fun a=>Z01_J1 a1 D a.1=some r) (fun a=>[(0,(sc A2 a1 D2)),(1,(sc A4 D D4)),(5,(iv a.1))]) (fun a=>E) ?_ ?_
 refine dM ?_
 split at b
 refine cH ?_
 exact qI ((D.length:Int),()) b tI
 refine bA ?_
 exact qI ((a1.length:Int),()) b tI
 rintro ⟨e,_⟩ σ1 b
 dsimp only [Z01_J1] at b
 refine cE ?_
 obtain ⟨q,b⟩:=gd b
 refine bA ?_
 refine fH (K:=kT3) (m:=e) (z:=(0:Int)) R R bI cI jN (Zr.zk zT3 gB) (by decide) R R q.1 q.2.1 q.2.2 (fun g i=>(lS R (aB (aE (aI (bD (A:=((List Int))×(Unit)) (fun a=>Z01_J4 a.1=some r) (fun a=>[(6,(sc g (List.replicate e.toNat (0:Int)) i))]) (fun a=>ow kT3 3 (.slice g (List.replicate e.toNat (0:Int)).length i) a.1::E) ?_ ?_))))))
 refine cH ?_
 obtain ⟨e1,a8,T⟩:=bd b
 refine bE (A:=Unit) a8 (fun s a=>[(0,(sc A2 a1 D2)),(1,(sc A4 D D4)),(5,(iv e)),(6,(sc g (List.replicate e.toNat (0:Int)) i)),(7,(iv s.2))]) (fun s a=>ow kT3 3 (.slice g (List.replicate e.toNat (0:Int)).length i) s.1::E) () (aS R) tI ?_
 rintro ⟨G,F⟩ _ σ1 a0 b O
 dsimp only [Z01_L1] at b
 refine dM ?_
 split at b
 refine cH ?_
 obtain ⟨j,U,b⟩:=bd b
 refine aW ?_
 refine lM _ (fun w s=>(s.d 1 R)) ?_
 refine lC 1 wv R (Z2h_ok U) R ?_
 rintro _
 refine bL ?_
 obtain ⟨l,Y,b⟩:=bd b
 refine aW ?_
 refine lM _ (fun w s=>(s.d 2 R)) ?_
 refine lC 1 wv R (Z2h_ok Y) R ?_
 rintro _
 refine cU ?_
 refine cQ [(0,(sc A2 a1 D2)),(1,(sc A4 D D4)),(5,(iv e)),(6,(sc g (List.replicate e.toNat (0:Int)) i)),(7,(iv F)),(8,(iv j)),(9,(iv l)),(50,(.bool (((j != l)&&(j != 1))&&(l != 1))))] (ow kT3 3 (.slice g (List.replicate e.toNat (0:Int)).length i) G::E) ?_ ?_
 refine cU ?_
 rcases bo (j != l) with L | L
 refine bL ?_
 rcases bo ((j != l)&&(j != 1)) with M | M
 refine bL ?_
 exact qj tI
 refine bL ?_
 exact qj tI
 refine dM ?_
 exact qj tI
 rintro σ1
 refine cE ?_
 split at b
 refine aW ?_
 refine bK (K:=kT3) (xs:=([]:List Int)) (vs:=[]) 0 R R bI cI gB R R R R R R ?_ R (fun a4 a6=>?_)
 exact fun I h s=>(gF).list [] I h s
 refine dX ?_
 cases b
 obtain rfl:=O _ R
 have b:=T
 refine aW ?_
 cases b
 exact qF (a4,([]:List Int).length,a6) (tE 4 [0])
 refine bL ?_
 refine bD (A:=(Int)×(Unit)) (fun a=>Z01_J3 e G F a.1=some a0) (fun a=>[(0,(sc A2 a1 D2)),(1,(sc A4 D D4)),(5,(iv e)),(6,(sc g (List.replicate e.toNat (0:Int)) i)),(7,(iv F)),(8,(iv a.1))]) (fun a=>ow kT3 3 (.slice g (List.replicate e.toNat (0:Int)).length i) G::E) ?_ ?_
 refine dX ?_
 split at b
 refine cU ?_
 exact qI (l,()) b tI
 refine bA ?_
 exact qI (j,()) b tI
 rintro ⟨a2,_⟩ σ1 b
 dsimp only [Z01_J3] at b
 obtain ⟨u,b⟩:=gd b
 refine dX ?_
 refine bC 0 aC (show 0<(List.replicate e.toNat (0:Int)).length by have:=u; omega) (fun ab o47 ha=>?_)
 subst ha
 refine cE ?_
 refine eB (K:=kT3) (x':=a2) 0 (aK ((aK (e - 1)) - F)) R R cI R R u.1 u.2 ?_ ?_
 exact fun I h s=>(gF).put I h () a2 s
 refine dM ?_
 cases b
 exact qA () tI
 refine aW ?_
 cases b
 obtain rfl:=O _ R
 have b:=T
 refine bA ?_
 exact qI (G,()) b tI
 rintro ⟨a3,_⟩ σ1 b
 dsimp only [Z01_J4] at b
 refine bA ?_
 obtain ⟨ac,Z,b⟩:=bd b
 refine bA ?_
 refine lC 1 kD R (FnOk.lends (A':=[ow kT3 3 (.slice g (List.replicate e.toNat (0:Int)).length i) a3]) (A:=[aO kT3 (.slice g (List.replicate e.toNat (0:Int)).length i) a3]) (B:=[]) (Zp_ok Z) ⟨aQ,trivial⟩ (fun _=>trivial)) R ?_
 rintro _
 refine aW ?_
 split at b
 refine aW ?_
 refine bK (K:=kT3) (xs:=([]:List Int)) (vs:=[]) 0 R R bI cI gB R R R R R R ?_ R (fun a5 a7=>?_)
 exact fun I h s=>(gF).list [] I h s
 refine cU ?_
 cases b
 exact qF (a5,([]:List Int).length,a7) (tE 4 [0])
 refine dH ?_
 cases b
 exact qF (g,(List.replicate e.toNat (0:Int)).length,i) (tE 3 [0])
theorem Z0k_ok  {a:(List Int)}{r:Tensor}(b:Z0k a=some r) :
 FnOk Tryz.prog 102 [(.slice A2 N2 D2)] [aO kT3 (.slice A2 N2 D2) a] (fun (h:HH×HH)=>((.agg [(s3 h.1),(s3 h.2)].toArray),[ow kT3 3 (s3 h.1) r.Dims,ow kT3 3 (s3 h.2) r.Data])):=by
 unfold Z0k at b
 refine aR Tryz.func102 R 9 R R fun C V=>?_
 refine cL 0 aA ?_
 rintro rfl
 let q:=RR kT3 A2 D2 a::V
 refine cN q ?_
 refine bA ?_
 refine aY R R dZ (fun u=>(aB (aE (aI ?_))))
 obtain ⟨l,i,b⟩:=bd b
 obtain ⟨g,j,b⟩:=bd b
 obtain ⟨e,b⟩:=gd b
 refine bA ?_
 refine lM _ (fun w s=>(s.d 1 R)) ?_
 refine lC 1 jr R (Ze_ok i) R ?_
 rintro ⟨A6,N6,D6⟩
 refine aM 0 aC ?_
 rintro rfl
 refine lS R (lM _ (fun w s=>(s.d 2 R)) ?_)
 refine lC 1 oe R (Zu_ok j) R ?_
 rintro _
 refine fH (K:=kT3) (m:=g) (z:=(0:Int)) R R bI cI jN (Zr.zk zT3 gB) (by decide) R R e.1 e.2.1 e.2.2 (fun A10 D10=>(lO (vz (.agg [(sc A6 l D6),(sc A10 (List.replicate g.toNat (0:Int)) D10)].toArray) (aV hM dZ R R)) (aL 2 R R bX R R R R R R (lN (OO kT3 3 A10 D10 (List.replicate g.toNat (0:Int))::_::aJ u [(sc A6 l D6),(sc A10 (List.replicate g.toNat (0:Int)) D10)] 42::q) ?_))))
 refine aW ?_
 cases b
 exact qS ((A6,l.length,D6),(A10,(List.replicate g.toNat (0:Int)).length,D10)) (tE 4 [1,0])
theorem Zl_ok  {b:(List Int)}{L:Int}{r:(List Int)}(e:Zl b L=some r) :
 FnOk Tryz.prog 119 [(.slice A2 N2 D2),(iv L)] [aO kT3 (.slice A2 N2 D2) b] (fun (h:HH)=>((s3 h),[ow kT3 3 (s3 h) r])):=by
 unfold Zl at e
 refine aR Tryz.func119 R 33 R R fun C V=>?_
 refine cL 0 aA ?_
 rintro rfl
 let B:=RR kT3 A2 D2 b::V
 refine cN B ?_
 refine cH ?_
 obtain ⟨l,e⟩:=gd e
 refine aW ?_
 refine fH (K:=kT3) (m:=(b.length:Int)) (z:=(0:Int)) R R bI cI jN (Zr.zk zT3 gB) (by decide) R R l.1 l.2.1 l.2.2 (fun A5 D5=>(lS R (aB (aE (aI (bD (A:=((List Int))×(Unit)) (fun a=>Zl_J1 a.1=some r) (fun a=>[(5,(sc A5 (List.replicate (b.length:Int).toNat (0:Int)) D5))]) (fun a=>ow kT3 3 (.slice A5 (List.replicate (b.length:Int).toNat (0:Int)).length D5) a.1::B) ?_ ?_))))))
 refine dJ ?_
 obtain ⟨Y,G,F⟩:=bd e
 refine bE (A:=Unit) G (fun s a=>[(0,(sc A2 b D2)),(1,(iv s.1)),(5,(sc A5 (List.replicate (b.length:Int).toNat (0:Int)) D5)),(6,(iv s.2.2))]) (fun s a=>ow kT3 3 (.slice A5 (List.replicate (b.length:Int).toNat (0:Int)).length D5) s.2.1::B) () (aS R) tI ?_
 rintro ⟨q,J,i⟩ _ σ1 M e E
 dsimp only [Zl_L1] at e
 refine dX ?_
 split at e
 refine cH ?_
 obtain ⟨u,e⟩:=gd e
 obtain ⟨j,e⟩:=gd e
 obtain ⟨g,e⟩:=gd e
 refine cH ?_
 refine bC 1 aA (show 0<b.length by have:=u; omega) (fun O o22 D=>?_)
 subst D
 refine bA ?_
 refine lO (qK R R j) (bC 0 aC (show 0<(List.replicate (b.length:Int).toNat (0:Int)).length by have:=g; omega) (fun T o26 D=>?_))
 subst D
 refine cE ?_
 refine eB (K:=kT3) (x':=(q.tmod (ix b i))) 0 i R R cI R R g.1 g.2 ?_ ?_
 exact fun I h s=>(gF).put I h () (q.tmod (ix b i)) s
 refine dM ?_
 refine lO (vz (iv (aK (q.tdiv (ix b i)))) (mT R R j)) ?_
 refine dJ ?_
 cases e
 exact qA () tI
 refine aW ?_
 cases e
 obtain rfl:=E _ R
 have e:=F
 refine bA ?_
 exact qI (J,()) e tI
 rintro ⟨U,_⟩ σ1 e
 dsimp only [Zl_J1] at e
 refine dX ?_
 cases e
 exact qF (A5,(List.replicate (b.length:Int).toNat (0:Int)).length,D5) (tE 2 [0])
theorem Z0w_ok  {e:(List Int)}{b:(List Int)}{r:Int}(g:Z0w e b=some r) :
 FnOk Tryz.prog 131 [(.slice A2 N2 D2),(.slice A4 N4 D4)] [aO kT3 (.slice A2 N2 D2) e,aO kT3 (.slice A4 N4 D4) b] (fun (h:Unit)=>((iv r),[])):=by
 unfold Z0w at g
 refine aR Tryz.func131 R 25 R R fun C V=>?_
 refine cL 0 aA ?_
 rintro rfl
 refine cL 1 aA ?_
 rintro rfl
 let l:=RR kT3 A2 D2 e::RR kT3 A4 D4 b::V
 refine cN l ?_
 refine j9 ?_
 refine bD (A:=(Int)×(Unit)) (fun a=>Z0w_J1 a.1=some r) (fun a=>[(5,(iv a.1))]) (fun a=>l) ?_ ?_
 refine cH ?_
 obtain ⟨L,B,u⟩:=bd g
 refine bE (A:=Unit) B (fun s a=>[(0,(sc A2 e D2)),(1,(sc A4 b D4)),(5,(iv s.1)),(6,(iv s.2))]) (fun s a=>l) () (aS R) tI ?_
 rintro ⟨D,I⟩ _ σ1 E g q
 dsimp only [Z0w_L1] at g
 refine dJ ?_
 split at g
 refine cU ?_
 obtain ⟨i,g⟩:=gd g
 obtain ⟨j,g⟩:=gd g
 refine bB 0 aA (show 0<e.length by have:=i; omega) (fun F o17 m=>?_)
 subst m
 refine bB 1 aA (show 0<b.length by have:=j; omega) (fun G o20 m=>?_)
 subst m
 refine dE 12 [] bQ fun O M=>?_
 refine v7 0 [] ?_
 refine dD ?_
 refine dX ?_
 cases g
 exact qA () tI
 refine aW ?_
 cases g
 obtain rfl:=q _ R
 have g:=u
 refine bA ?_
 exact qI (D,()) g tI
 rintro ⟨J,_⟩ σ1 g
 dsimp only [Z0w_J1] at g
 refine dX ?_
 cases g
 exact qF () (tE 2 [])
theorem Z1c_ok  {t1:Tensor}{a:(List Int)}{r:Int}(b:Z1c t1 a=some r) :
 FnOk Tryz.prog 129 [(.agg [(.slice A2 N2 D2),(.slice A3 N3 D3)].toArray),(.slice A5 N5 D5)] [aO kT3 (.slice A2 N2 D2) t1.Dims,aO kT3 (.slice A3 N3 D3) t1.Data,aO kT3 (.slice A5 N5 D5) a] (fun (h:Unit)=>((iv r),[])):=by
 unfold Z1c at b
 refine aR Tryz.func129 R 13 R R fun C V=>?_
 refine cL 0 aA ?_
 rintro rfl
 refine cL 1 aA ?_
 rintro rfl
 refine cL 2 aA ?_
 rintro rfl
 let j:=RR kT3 A2 D2 t1.Dims::RR kT3 A3 D3 t1.Data::RR kT3 A5 D5 a::V
 refine cN j ?_
 refine bA ?_
 refine eJ R fun m=>?_
 refine bA ?_
 let l:=aJ m [(sc A2 t1.Dims D2),(sc A3 t1.Data D3)] 42::j
 refine qN l ?_
 refine bA ?_
 obtain ⟨E,i,b⟩:=bd b
 obtain ⟨g,b⟩:=gd b
 refine bB 2 aA (show 0<t1.Data.length by have:=g; omega) (fun q o11 u=>?_)
 subst u
 refine dE 9 [] bQ fun D B=>?_
 refine kM 0 [] ?_
 refine d1 5 R (lM _ (fun w s=>(((s.d 1 R).d 4 R).e 2 [1,0])) ?_)
 refine lC 2 th R (Z0w_ok i) R ?_
 rintro _
 refine lN l ?_
 refine aB (aG (sL []) ?_)
 refine iM 6 [] ?_
 refine dD ?_
 refine bA ?_
 cases b
 exact qF () (tE 4 [])
theorem Z0c_ok  {t1:Tensor}{b:(List Int)}{r:Int}(g:Z0c t1 b=some r) :
 FnOk Tryz.prog 121 [(.agg [(.slice A2 N2 D2),(.slice A3 N3 D3)].toArray),(.slice A5 N5 D5)] [aO kT3 (.slice A2 N2 D2) t1.Dims,aO kT3 (.slice A3 N3 D3) t1.Data,aO kT3 (.slice A5 N5 D5) b] (fun (h:Unit)=>((iv r),[])):=by
 unfold Z0c at g
 refine aR Tryz.func121 R 42 R R fun C V=>?_
 refine cL 0 aA ?_
 rintro rfl
 refine cL 1 aA ?_
 rintro rfl
 refine cL 2 aA ?_
 rintro rfl
 let W0:=RR kT3 A2 D2 t1.Dims::RR kT3 A3 D3 t1.Data::RR kT3 A5 D5 b::V
 refine cN W0 ?_
 refine bA ?_
 refine eJ R fun b6=>?_
 refine bA ?_
 let M:=aJ b6 [(sc A2 t1.Dims D2),(sc A3 t1.Data D3)] 42::W0
 refine qN M ?_
 refine pa ?_
 refine bK (K:=kT3) (xs:=([]:List Int)) (vs:=[]) 0 R R bI cI gB R R R R R R ?_ R (fun A7 D7=>?_)
 exact fun I h s=>(gF).list [] I h s
 refine bL ?_
 refine bD (A:=((List Int))×(HH)) (fun a=>Z0c_J3 t1 a.1=some r) (fun a=>[(2,(pt b6 0)),(6,(s3 a.2))]) (fun a=>ow kT3 3 (s3 a.2) a.1::M) ?_ ?_
 refine cH ?_
 obtain ⟨e1,a6,a5⟩:=bd g
 refine bE (A:=HH×HH) a6 (fun s a=>[(1,(s3 a.1)),(2,(pt b6 0)),(5,(iv (aK ((b.length:Int) - (t1.Dims.length:Int))))),(6,(s3 a.2)),(7,(iv s.2))]) (fun s a=>aO kT3 (s3 a.1) b::ow kT3 3 (s3 a.2) s.1::M) ((A5,b.length,D5),(A7,([]:List Int).length,D7)) (aS R) (fun w s=>(s.d 4 R)) ?_
 rintro ⟨i,G⟩ ⟨⟨a7,a1,u⟩,⟨m,a2,D⟩⟩ σ1 a0 g a4
 dsimp only [Z0c_L1] at g
 refine bJ 0 aA (fun (Y:a1=b.length)=>?_)
 subst Y
 refine bJ 1 aC (fun (Y:a2=i.length)=>?_)
 subst Y
 refine dH ?_
 split at g
 refine cH ?_
 obtain ⟨O,g⟩:=gd g
 refine cU ?_
 refine bC 0 aA (show 0<b.length by have:=O; omega) (fun F o27 ha=>?_)
 subst ha
 refine cH ?_
 refine bD (A:=(Int)×(Unit)) (fun a=>Z0c_J2 i G a.1=some a0) (fun a=>[(1,(sc (ad F o27) b u)),(2,(pt b6 0)),(5,(iv (aK ((b.length:Int) - (t1.Dims.length:Int))))),(6,(sc m i D)),(7,(iv G)),(8,(iv a.1))]) (fun a=>RR kT3 (ad F o27) u b::OO kT3 3 m D i::M) ?_ ?_
 refine cE ?_
 obtain ⟨T,g⟩:=gd g
 refine bL ?_
 refine bC 3 aA (show 0<t1.Dims.length by have:=T; omega) (fun aa o30 ha=>?_)
 subst ha
 refine cU ?_
 split at g
 refine bL ?_
 exact qI ((0:Int),()) g tI
 refine bA ?_
 exact qI ((ix b (aK ((aK ((b.length:Int) - (t1.Dims.length:Int)))+G))),()) g tI
 rintro ⟨j,_⟩ σ1 g
 dsimp only [Z0c_J2] at g
 obtain ⟨U,g⟩:=gd g
 refine aW ?_
 refine bK (K:=kT3) (xs:=([j]:List Int)) (vs:=[(iv j)]) 0 R R bI cI gB R R R R R R ?_ R (fun a8 a9=>?_)
 exact fun I h s=>(gF).list [((),j)] I h s
 refine lM _ (tE 3 [2,0,1]) ?_
 refine dV (K:=kT3) 17592186044416 R R bI cI jN (Zr.zk zT3 gB) R R R R R R dA U (fun J L=>(lN (OO kT3 3 J L (i++([j]:List Int))::_::M) ?_))
 refine dJ ?_
 cases g
 exact qA (((ad F o27),b.length,u),(J,(i++([j]:List Int)).length,L)) (tE 2 [1,0])
 refine aW ?_
 cases g
 obtain rfl:=a4 _ R
 have g:=a5
 refine bA ?_
 exact qI (i,(m,i.length,D)) g (tE 2 [1])
 rintro ⟨l,⟨q,a3,E⟩⟩ σ1 g
 dsimp only [Z0c_J3] at g
 refine bJ 0 aC (fun (Y:a3=l.length)=>?_)
 subst Y
 refine cE ?_
 obtain ⟨ab,Z,g⟩:=bd g
 refine aW ?_
 refine lM _ (fun w s=>(((s.d 2 R).d 4 R).e 3 [2,1,0])) ?_
 refine lC 3 nO R (FnOk.lends (A':=[OO kT3 3 q E l]) (A:=[RR kT3 q E l]) (B:=[RR kT3 A2 D2 t1.Dims,RR kT3 A3 D3 t1.Data]) (FnOk.perm (Z1c_ok Z) (Pre':=[RR kT3 q E l,RR kT3 A2 D2 t1.Dims,RR kT3 A3 D3 t1.Data]) (fun _ _ _ s=>(s.e 3 [1,2,0]))) ⟨aQ,trivial⟩ (fun _=>trivial)) R ?_
 rintro _
 refine bL ?_
 cases g
 exact qF () (tE 5 [])
theorem Zq_ok  {p1:Int}{r:Int}(b:Zq p1=some r) :
 FnOk Tryz.prog 103 [(iv p1)] [] (fun (h:Unit)=>((iv r),[])):=by
 unfold Zq at b
 refine aR Tryz.func103 R 11 R R fun C V=>?_
 refine cN V ?_
 refine dM ?_
 refine lO (qK R R (by decide)) ?_
 refine bL ?_
 refine bD (A:=(Int)×(Unit)) (fun a=>Zq_J1 a.1=some r) (fun a=>[(3,(iv a.1))]) (fun a=>V) ?_ ?_
 refine cH ?_
 split at b
 refine cH ?_
 exact qI ((aK ((p1.tmod (2147483647:Int))+2147483647)),()) b tI
 refine bA ?_
 exact qI ((p1.tmod (2147483647:Int)),()) b tI
 rintro ⟨e,_⟩ σ1 b
 dsimp only [Zq_J1] at b
 refine dX ?_
 cases b
 exact qF () tI
theorem Z1k_ok  {a1:Int}{r:Int}(a:Z1k a1=some r) :
 FnOk Tryz.prog 125 [(iv a1)] [] (fun (h:Unit)=>((iv r),[])):=by
 unfold Z1k at a
 refine aR Tryz.func125 R 11 R R fun C V=>?_
 refine cN V ?_
 refine cH ?_
 obtain ⟨e,b,a⟩:=bd a
 refine bA ?_
 refine lC 0 jX R (Zq_ok b) R ?_
 rintro _
 refine dH ?_
 split at a
 refine dH ?_
 cases a
 exact qF () tI
 refine dH ?_
 cases a
 exact qF () tI
theorem Z1s_ok  {a1:Int}{i:Int}{r:Int}(a:Z1s a1 i=some r) :
 FnOk Tryz.prog 132 [(iv a1),(iv i)] [] (fun (h:Unit)=>((iv r),[])):=by
 unfold Z1s at a
 refine aR Tryz.func132 R 11 R R fun C V=>?_
 refine cN V ?_
 refine cH ?_
 obtain ⟨j,b,a⟩:=bd a
 obtain ⟨l,e,a⟩:=bd a
 obtain ⟨m,g,a⟩:=bd a
 refine bA ?_
 refine lC 0 jX R (Zq_ok b) R ?_
 rintro _
 refine lI R (lC 0 jX R (Zq_ok e) R ?_)
 rintro _
 refine cE ?_
 refine lC 0 jX R (Zq_ok g) R ?_
 rintro _
 refine bL ?_
 cases a
 exact qF () tI
theorem Z2f_ok  {a1:Int}{i:Int}{r:Int}(a:Z2f a1 i=some r) :
 FnOk Tryz.prog 150 [(iv a1),(iv i)] [] (fun (h:Unit)=>((iv r),[])):=by
 unfold Z2f at a
 refine aR Tryz.func150 R 11 R R fun C V=>?_
 refine cN V ?_
 refine cH ?_
 obtain ⟨j,b,a⟩:=bd a
 obtain ⟨l,e,a⟩:=bd a
 obtain ⟨m,g,a⟩:=bd a
 refine bA ?_
 refine lC 0 jX R (Zq_ok b) R ?_
 rintro _
 refine lI R (lC 0 jX R (Zq_ok e) R ?_)
 rintro _
 refine cE ?_
 refine lC 0 jX R (Zq_ok g) R ?_
 rintro _
 refine bL ?_
 cases a
 exact qF () tI
theorem Z1l_ok  {a1:Int}{i:Int}{r:Int}(a:Z1l a1 i=some r) :
 FnOk Tryz.prog 128 [(iv a1),(iv i)] [] (fun (h:Unit)=>((iv r),[])):=by
 unfold Z1l at a
 refine aR Tryz.func128 R 11 R R fun C V=>?_
 refine cN V ?_
 refine cH ?_
 obtain ⟨j,b,a⟩:=bd a
 obtain ⟨l,e,a⟩:=bd a
 obtain ⟨m,g,a⟩:=bd a
 refine bA ?_
 refine lC 0 jX R (Zq_ok b) R ?_
 rintro _
 refine lI R (lC 0 jX R (Zq_ok e) R ?_)
 rintro _
 refine cE ?_
 refine lC 0 jX R (Zq_ok g) R ?_
 rintro _
 refine bL ?_
 cases a
 exact qF () tI
theorem Zt_S_ok {m:Int→Int→Option (Int)}(i:∀ {a1:Int} {e:Int} {r:Int},m a1 e=some r→FnOk Tryz.prog 163 [(iv a1),(iv e)] [] (fun (h:Unit)=>((iv r),[]))){a1:Int}{e:Int}{r:Int}(b:Zt_S m a1 e=some r) :
 FnOk Tryz.prog 163 [(iv a1),(iv e)] [] (fun (h:Unit)=>((iv r),[])):=by
 unfold Zt_S at b
 refine aR Tryz.func163 R 22 R R fun C V=>?_
 refine cN V ?_
 refine iZ ?_
 split at b
 refine dM ?_
 cases b
 exact qF () tI
 refine bL ?_
 obtain ⟨B,j,b⟩:=bd b
 refine aW ?_
 refine lO (vz (iv (aK (e.tdiv (2:Int)))) (mT R R (by decide))) (lC 0 wx R (i j) R ?_)
 rintro _
 refine bL ?_
 obtain ⟨q,l,b⟩:=bd b
 refine aW ?_
 refine lC 0 pj R (Z1l_ok l) R ?_
 rintro _
 refine bL ?_
 refine bD (A:=(Int)×(Unit)) (fun a=>Zt_J1 a.1=some r) (fun a=>[(5,(iv a.1))]) (fun a=>V) ?_ ?_
 refine aW ?_
 refine lO (qK R R (by decide)) ?_
 refine aW ?_
 split at b
 refine cE ?_
 obtain ⟨s,g,b⟩:=bd b
 refine aW ?_
 refine lC 0 pj R (Z1l_ok g) R ?_
 rintro _
 refine bA ?_
 exact qI (s,()) b tI
 refine bA ?_
 exact qI (q,()) b tI
 rintro ⟨u,_⟩ σ1 b
 dsimp only [Zt_J1] at b
 refine dX ?_
 cases b
 exact qF () tI
theorem Zt_R_ok (n:Nat):∀ {a1:Int} {a:Int} {r:Int},Zt_R n a1 a=some r→FnOk Tryz.prog 163 [(iv a1),(iv a)] [] (fun (h:Unit)=>((iv r),[])):=by
 induction n with
 | zero=>intros; rename_i h; cases h
 | succ n ih=>intros; rename_i h; exact Zt_S_ok ih h
theorem Zt_ok {a1:Int}{a:Int}{r:Int}(b:Zt a1 a=some r):FnOk Tryz.prog 163 [(iv a1),(iv a)] [] (fun (h:Unit)=>((iv r),[])):=Zt_R_ok oa b
theorem Z2e_ok  {a1:Int}{r:Int}(a:Z2e a1=some r) :
 FnOk Tryz.prog 152 [(iv a1)] [] (fun (h:Unit)=>((iv r),[])):=by
 unfold Z2e at a
 refine aR Tryz.func152 R 6 R R fun C V=>?_
 refine cN V ?_
 refine cH ?_
 obtain ⟨g,b,a⟩:=bd a
 obtain ⟨i,e,a⟩:=bd a
 refine bA ?_
 refine lC 0 jX R (Zq_ok b) R ?_
 rintro _
 refine lC 0 wx R (Zt_ok e) R ?_
 rintro _
 refine bL ?_
 cases a
 exact qF () tI
theorem Z3y_ok  {a1:Int}{g:Int}{r:Int}(a:Z3y a1 g=some r) :
 FnOk Tryz.prog 151 [(iv a1),(iv g)] [] (fun (h:Unit)=>((iv r),[])):=by
 unfold Z3y at a
 refine aR Tryz.func151 R 9 R R fun C V=>?_
 refine cN V ?_
 refine cH ?_
 obtain ⟨i,b,a⟩:=bd a
 obtain ⟨j,e,a⟩:=bd a
 refine aW ?_
 refine lC 0 wy R (Z2e_ok b) R ?_
 rintro _
 refine lC 0 pj R (Z1l_ok e) R ?_
 rintro _
 refine bL ?_
 cases a
 exact qF () tI
theorem Z1t_ok  {l:Int}{s:Int}{u:Int}{r:Int}(b:Z1t l s u=some r) :
 FnOk Tryz.prog 120 [(iv l),(iv s),(iv u)] [] (fun (h:Unit)=>((iv r),[])):=by
 unfold Z1t at b
 refine aR Tryz.func120 R 54 R R fun C V=>?_
 refine cN V ?_
 refine cH ?_
 obtain ⟨G,m,b⟩:=bd b
 obtain ⟨I,q,b⟩:=bd b
 refine bA ?_
 refine lC 0 pi R (Z1k_ok m) R ?_
 rintro _
 refine lI R (lC 0 pi R (Z1k_ok q) R ?_)
 rintro _
 refine dH ?_
 refine bD (A:=(Bool)×(Unit)) (fun a=>Z1t_J1 a.1=some r) (fun a=>[(8,(.bool a.1))]) (fun a=>V) ?_ ?_
 refine iZ ?_
 split at b
 refine bA ?_
 obtain ⟨J,e,b⟩:=bd b
 refine aW ?_
 refine lC 0 qT R (Z1s_ok e) R ?_
 rintro _
 refine cH ?_
 cases b
 exact qF () tI
 refine dX ?_
 split at b
 refine bA ?_
 obtain ⟨D,g,b⟩:=bd b
 refine aW ?_
 refine lC 0 ww R (Z2f_ok g) R ?_
 rintro _
 refine cH ?_
 cases b
 exact qF () tI
 refine dX ?_
 split at b
 refine bA ?_
 obtain ⟨E,i,b⟩:=bd b
 refine aW ?_
 refine lC 0 pj R (Z1l_ok i) R ?_
 rintro _
 refine cH ?_
 cases b
 exact qF () tI
 refine dX ?_
 split at b
 refine bA ?_
 obtain ⟨F,j,b⟩:=bd b
 refine aW ?_
 refine lC 0 zu R (Z3y_ok j) R ?_
 rintro _
 refine cH ?_
 cases b
 exact qF () tI
 refine dX ?_
 split at b
 refine dX ?_
 split at b
 refine j9 ?_
 cases b
 exact qF () tI
 refine iZ ?_
 cases b
 exact qF () tI
 refine dX ?_
 split at b
 refine dX ?_
 split at b
 refine j9 ?_
 cases b
 exact qF () tI
 refine iZ ?_
 cases b
 exact qF () tI
 refine dX ?_
 split at b
 refine cH ?_
 exact qI ((decide (G<I)),()) b tI
 refine dX ?_
 split at b
 refine dM ?_
 exact qI ((s==u),()) b tI
 refine aW ?_
 exact qI (false,()) b tI
 rintro ⟨B,_⟩ σ1 b
 dsimp only [Z1t_J1] at b
 refine cH ?_
 split at b
 refine dM ?_
 cases b
 exact qF () tI
 refine dJ ?_
 cases b
 exact qF () tI
theorem Z19_ok  {F:Int}{M:Tensor}{U:Tensor}{r:Tensor}(g:Z19 F M U=some r) :
 FnOk Tryz.prog 88 [(iv F),(.agg [(.slice A3 N3 D3),(.slice A4 N4 D4)].toArray),(.agg [(.slice A6 N6 D6),(.slice A7 N7 D7)].toArray)] [aO kT3 (.slice A3 N3 D3) M.Dims,aO kT3 (.slice A4 N4 D4) M.Data,aO kT3 (.slice A6 N6 D6) U.Dims,aO kT3 (.slice A7 N7 D7) U.Data] (fun (h:HH×HH)=>((.agg [(s3 h.1),(s3 h.2)].toArray),[ow kT3 3 (s3 h.1) r.Dims,ow kT3 3 (s3 h.2) r.Data])):=by
 unfold Z19 at g
 refine aR Tryz.func88 R 73 R R fun C V=>?_
 refine cL 0 aA ?_
 rintro rfl
 refine cL 1 aA ?_
 rintro rfl
 refine cL 2 aA ?_
 rintro rfl
 refine cL 3 aA ?_
 rintro rfl
 let W0:=RR kT3 A3 D3 M.Dims::RR kT3 A4 D4 M.Data::RR kT3 A6 D6 U.Dims::RR kT3 A7 D7 U.Data::V
 refine cN W0 ?_
 refine bA ?_
 refine eJ R fun b8=>?_
 refine eJ R fun b9=>?_
 refine aY R R dZ (fun m=>(aB ?_))
 let W1:=aJ b9 [(sc A6 U.Dims D6),(sc A7 U.Data D7)] 42::aJ b8 [(sc A3 M.Dims D3),(sc A4 M.Data D4)] 42::W0
 refine aW ?_
 obtain ⟨Z,a5,g⟩:=bd g
 obtain ⟨a0,a6,g⟩:=bd g
 refine cQ [(0,(iv F)),(4,(pt b8 0)),(5,(pt b9 0)),(6,(pt m 0)),(26,(.bool ((((!Z)||(!a0))||(decide (F<1)))||(decide (F>8)))))] (aJ m [(.slice none 0 0),(.slice none 0 0)] 42::W1) ?_ ?_
 refine bA ?_
 refine lM _ (fun w s=>(((s.d 3 R).d 5 R).e 3 [1,0,2])) ?_
 refine lC 2 og R (Zs_ok a5) R ?_
 rintro _
 refine bA ?_
 rcases bo (!Z) with Y | Y
 refine lL ?_
 exact qj tI
 refine cE ?_
 refine lM _ (fun w s=>(((s.d 5 R).d 7 R).e 3 [1,0,2])) ?_
 refine cD 2 R (cG Y) og R (Zs_ok (bR a6 (cY Y))) R ?_
 rintro _
 refine aW ?_
 rcases bo ((!Z)||(!a0)) with a1 | a1
 refine dM ?_
 exact qj tI
 refine bL ?_
 rcases bo (((!Z)||(!a0))||(decide (F<1))) with a3 | a3
 refine bL ?_
 exact qj tI
 refine bL ?_
 exact qj tI
 rintro σ1
 refine cE ?_
 split at g
 refine aW ?_
 refine lO (vz (.agg [(.slice none 0 0),(.slice none 0 0)].toArray) (aV hM dZ R R)) (aL 0 R R bX R R R R R R (aB (aE (bO (bP ?_)))))
 cases g
 exact qS ((none,0,0),(none,0,0)) (fun w s=>(((s.nilo kT3 3).nilo kT3 3).e 9 [1,0]))
 refine bL ?_
 obtain ⟨i,a7,g⟩:=bd g
 refine cU ?_
 refine lM _ (fun w s=>(((s.d 3 R).d 6 R).e 3 [1,0,2])) ?_
 refine lC 2 zt R (Z01_ok a7) R ?_
 rintro ⟨q,an,D⟩
 refine aM 0 aC ?_
 rintro rfl
 refine cU ?_
 refine cQ [(0,(iv F)),(4,(pt b8 0)),(5,(pt b9 0)),(6,(pt m 0)),(7,(sc q i D)),(46,(.bool ((decide ((i.length:Int)<(M.Dims.length:Int)))||(decide ((i.length:Int)<(U.Dims.length:Int))))))] (aJ m [(.slice none 0 0),(.slice none 0 0)] 42::OO kT3 3 q D i::W1) ?_ ?_
 refine dM ?_
 rcases bo (decide ((i.length:Int)<(M.Dims.length:Int))) with a4 | a4
 refine dM ?_
 exact qj (tE 2 [1,0])
 refine dM ?_
 exact qj (tE 2 [1,0])
 rintro σ1
 refine cE ?_
 split at g
 refine aW ?_
 refine lO (vz (.agg [(.slice none 0 0),(.slice none 0 0)].toArray) (aV hM dZ R R)) (aL 0 R R bX R R R R R R (aB (aE (bO (bP ?_)))))
 cases g
 exact qS ((none,0,0),(none,0,0)) (fun w s=>(((s.nilo kT3 3).nilo kT3 3).e 10 [1,0]))
 refine bL ?_
 obtain ⟨b,a8,g⟩:=bd g
 refine bA ?_
 refine lM _ (tE 2 [1,0]) ?_
 refine lC 1 la R (FnOk.lends (A':=[OO kT3 3 q D i]) (A:=[RR kT3 q D i]) (B:=[]) (Z0k_ok a8) ⟨aQ,trivial⟩ (fun _=>⟨(bH iP),(bH iP),trivial⟩)) R ?_
 rintro ⟨⟨u,ao,E⟩,⟨j,ap,l⟩⟩
 refine aM 1 aC ?_
 rintro rfl
 refine aM 2 aC ?_
 rintro rfl
 refine aY R R dZ (fun O=>(aL 0 R R bX R R R R R R (lN (aJ O [(sc u b.Dims E),(sc j b.Data l)] 42::_::_::_::_::W1) ?_)))
 refine aW ?_
 refine bD (A:=((List Int))×(Unit)) (fun a=>Z19_J1 b a.1=some r) (fun a=>[(6,(pt m 0)),(8,(pt O 0))]) (fun a=>aJ m [(.slice none 0 0),(.slice none 0 0)] 42::aJ O [(sc u b.Dims E),(sc j b.Data l)] 42::OO kT3 3 u E b.Dims::ow kT3 3 (.slice j b.Data.length l) a.1::W1) ?_ ?_
 refine cH ?_
 obtain ⟨e1,ai,ah⟩:=bd g
 refine bE (A:=Unit) ai (fun s a=>[(0,(iv F)),(4,(pt b8 0)),(5,(pt b9 0)),(6,(pt m 0)),(7,(sc q i D)),(8,(pt O 0)),(9,(iv s.2))]) (fun s a=>aJ m [(.slice none 0 0),(.slice none 0 0)] 42::OO kT3 3 q D i::aJ O [(sc u b.Dims E),(sc j b.Data l)] 42::OO kT3 3 u E b.Dims::ow kT3 3 (.slice j b.Data.length l) s.1::W1) () (aS R) (tE 5 [4,1,0,2,3]) ?_
 rintro ⟨ak,aj⟩ _ σ1 am g ag
 dsimp only [Z19_L1] at g
 refine dH ?_
 split at g
 refine cH ?_
 obtain ⟨T,a9,g⟩:=bd g
 refine aW ?_
 refine lM _ (tE 5 [1,0,2,3,4]) ?_
 refine lC 1 mh R (FnOk.lends (A':=[OO kT3 3 q D i]) (A:=[RR kT3 q D i]) (B:=[]) (Zl_ok a9) ⟨aQ,trivial⟩ (fun _=>⟨(bH iP),trivial⟩)) R ?_
 rintro ⟨J,aq,L⟩
 refine aM 1 aC ?_
 rintro rfl
 refine aW ?_
 obtain ⟨au,aa,g⟩:=bd g
 obtain ⟨av,ab,g⟩:=bd g
 obtain ⟨ae,ac,g⟩:=bd g
 obtain ⟨G,g⟩:=gd g
 refine bB 5 aC (show 0<b.Data.length by have:=G; omega) (fun ar o56 ha=>?_)
 subst ha
 refine dE 13 [5] bQ fun ht hn=>?_
 refine t2 0 [5] ?_
 refine iC 7 [5] ?_
 refine d1 6 R (lM _ (fun w s=>(((s.d 8 R).d 10 R).e 8 [3,1,0,2,4,5,6,7])) ?_)
 refine lC 3 wz R (FnOk.lends (A':=[OO kT3 3 J L T]) (A:=[RR kT3 J L T]) (B:=[RR kT3 A3 D3 M.Dims,RR kT3 A4 D4 M.Data]) (FnOk.perm (Z0c_ok aa) (Pre':=[RR kT3 J L T,RR kT3 A3 D3 M.Dims,RR kT3 A4 D4 M.Data]) (fun _ _ _ s=>(s.e 3 [1,2,0]))) ⟨aQ,trivial⟩ (fun _=>trivial)) R ?_
 rintro _
 refine aB (aG (tE 6 [1,0,2,3,4]) (d1 9 R (lM _ (fun w s=>(((s.d 10 R).d 12 R).e 8 [2,1,0,3,4,5,6,7])) ?_)))
 refine lC 3 wz R (FnOk.lends (A':=[OO kT3 3 J L T]) (A:=[RR kT3 J L T]) (B:=[RR kT3 A6 D6 U.Dims,RR kT3 A7 D7 U.Data]) (FnOk.perm (Z0c_ok ab) (Pre':=[RR kT3 J L T,RR kT3 A6 D6 U.Dims,RR kT3 A7 D7 U.Data]) (fun _ _ _ s=>(s.e 3 [1,2,0]))) ⟨aQ,trivial⟩ (fun _=>trivial)) R ?_
 rintro _
 refine aB (aG (tE 6 [1,0,2,3,4]) (d1 10 R (lC 0 zw R (Z1t_ok ac) R ?_)))
 rintro _
 refine aB (aG (tE 6 [1,0,2,3,4]) (dR 11 R (eA bI cI R R G) (hS:=(tE 6 [1,0,2,3,4])) (d1 12 R (lM _ (fun w s=>(s.f 6 [5,1,0,5])) ?_))))
 refine eB (K:=kT3) (x':=ae) 0 aj R R cI R R G.1 G.2 ?_ ?_
 exact fun I h s=>(gF).put I h () ae s
 refine aB (aG (tE 6 [2,1,3,4,5]) (dD ?_))
 refine dX ?_
 cases g
 exact qA () (tE 6 [3,2,4,5,0])
 refine aW ?_
 cases g
 obtain rfl:=ag _ R
 have g:=ah
 refine bA ?_
 exact qI (ak,()) g (tE 5 [0,2,3,4])
 rintro ⟨al,_⟩ σ1 g
 dsimp only [Z19_J1] at g
 refine aW ?_
 refine aL 0 R R bX R R R R R R (lN (aJ m [(sc u b.Dims E),(sc j b.Data l)] 42::aJ O [(sc u b.Dims E),(sc j b.Data l)] 42::_::ow kT3 3 (.slice j b.Data.length l) al::W1) ?_)
 refine aW ?_
 cases g
 exact qS ((u,b.Dims.length,E),(j,b.Data.length,l)) (tE 10 [2,3])
theorem Z35_ok  {e:Int}{j:Int}{r:Int}(a:Z35 e j=some r) :
 FnOk Tryz.prog 122 [(iv e),(iv j)] [] (fun (h:Unit)=>((iv r),[])):=by
 unfold Z35 at a
 refine aR Tryz.func122 R 20 R R fun C V=>?_
 refine cN V ?_
 refine zh ?_
 split at a
 refine bA ?_
 obtain ⟨l,g,a⟩:=bd a
 refine bA ?_
 refine lC 0 ww R (Z2f_ok g) R ?_
 rintro _
 refine cH ?_
 cases a
 exact qF () tI
 refine dX ?_
 split at a
 refine bA ?_
 obtain ⟨m,i,a⟩:=bd a
 refine bA ?_
 refine lC 0 wy R (Z2e_ok i) R ?_
 rintro _
 refine cH ?_
 cases a
 exact qF () tI
 refine cH ?_
 obtain ⟨q,b,a⟩:=bd a
 refine bA ?_
 refine lC 0 pi R (Z1k_ok b) R ?_
 rintro _
 refine aW ?_
 split at a
 refine dM ?_
 cases a
 exact qF () tI
 refine dH ?_
 split at a
 refine dM ?_
 cases a
 exact qF () tI
 refine dH ?_
 cases a
 exact qF () tI
theorem Z18_ok  {l:Int}{u:Tensor}{r:Tensor}(g:Z18 l u=some r) :
 FnOk Tryz.prog 89 [(iv l),(.agg [(.slice A3 N3 D3),(.slice A4 N4 D4)].toArray)] [aO kT3 (.slice A3 N3 D3) u.Dims,aO kT3 (.slice A4 N4 D4) u.Data] (fun (h:HH×HH)=>((.agg [(s3 h.1),(s3 h.2)].toArray),[ow kT3 3 (s3 h.1) r.Dims,ow kT3 3 (s3 h.2) r.Data])):=by
 unfold Z18 at g
 refine aR Tryz.func89 R 41 R R fun C V=>?_
 refine cL 0 aA ?_
 rintro rfl
 refine cL 1 aA ?_
 rintro rfl
 let W0:=RR kT3 A3 D3 u.Dims::RR kT3 A4 D4 u.Data::V
 refine cN W0 ?_
 refine bA ?_
 refine eJ R fun M=>?_
 refine aY R R dZ (fun B=>(aB ?_))
 let D:=aJ M [(sc A3 u.Dims D3),(sc A4 u.Data D4)] 42::W0
 refine aW ?_
 obtain ⟨r7,a0,g⟩:=bd g
 refine cQ [(0,(iv l)),(3,(pt M 0)),(4,(pt B 0)),(17,(.bool (((!r7)||(decide (l<1)))||(decide (l>4)))))] (aJ B [(.slice none 0 0),(.slice none 0 0)] 42::D) ?_ ?_
 refine bA ?_
 refine lM _ (fun w s=>(((s.d 2 R).d 4 R).e 3 [1,0,2])) ?_
 refine lC 2 og R (Zs_ok a0) R ?_
 rintro _
 refine bA ?_
 rcases bo (!r7) with T | T
 refine dM ?_
 exact qj tI
 refine bL ?_
 rcases bo ((!r7)||(decide (l<1))) with E | E
 refine bL ?_
 exact qj tI
 refine bL ?_
 exact qj tI
 rintro σ1
 refine cE ?_
 split at g
 refine aW ?_
 refine lO (vz (.agg [(.slice none 0 0),(.slice none 0 0)].toArray) (aV hM dZ R R)) (aL 0 R R bX R R R R R R (aB (aE (bO (bP ?_)))))
 cases g
 exact qS ((none,0,0),(none,0,0)) (fun w s=>(((s.nilo kT3 3).nilo kT3 3).e 6 [1,0]))
 refine bL ?_
 obtain ⟨b,G,g⟩:=bd g
 refine aW ?_
 refine lM _ (fun w s=>(s.d 2 R)) ?_
 refine lC 1 la R (Z0k_ok G) R ?_
 rintro ⟨⟨A14,N14,D14⟩,⟨i,a5,j⟩⟩
 refine aM 0 aC ?_
 rintro rfl
 refine aM 1 aC ?_
 rintro rfl
 refine aY R R dZ (fun m=>(aL 0 R R bX R R R R R R (lN (aJ m [(sc A14 b.Dims D14),(sc i b.Data j)] 42::_::_::_::D) ?_)))
 refine aW ?_
 refine bD (A:=((List Int))×(Unit)) (fun a=>Z18_J1 b a.1=some r) (fun a=>[(4,(pt B 0)),(5,(pt m 0))]) (fun a=>aJ B [(.slice none 0 0),(.slice none 0 0)] 42::aJ m [(sc A14 b.Dims D14),(sc i b.Data j)] 42::OO kT3 3 A14 D14 b.Dims::ow kT3 3 (.slice i b.Data.length j) a.1::D) ?_ ?_
 refine cH ?_
 obtain ⟨e1,Z,Y⟩:=bd g
 refine bE (A:=Unit) Z (fun s a=>[(0,(iv l)),(3,(pt M 0)),(4,(pt B 0)),(5,(pt m 0)),(6,(iv s.2))]) (fun s a=>aJ B [(.slice none 0 0),(.slice none 0 0)] 42::aJ m [(sc A14 b.Dims D14),(sc i b.Data j)] 42::OO kT3 3 A14 D14 b.Dims::ow kT3 3 (.slice i b.Data.length j) s.1::D) () (aS R) (tE 4 [3,0,1,2]) ?_
 rintro ⟨a2,a1⟩ _ σ1 a4 g U
 dsimp only [Z18_L1] at g
 refine dH ?_
 split at g
 refine cU ?_
 obtain ⟨F,g⟩:=gd g
 obtain ⟨L,J,g⟩:=bd g
 obtain ⟨q,g⟩:=gd g
 refine bB 6 aA (show 0<u.Data.length by have:=F; omega) (fun a6 o31 O=>?_)
 subst O
 refine bB 3 aC (show 0<b.Data.length by have:=q; omega) (fun a7 o36 O=>?_)
 subst O
 refine dE 12 [3] bQ fun ht hn=>?_
 refine wu 0 [3] ?_
 refine d1 9 R (lC 0 zx R (Z35_ok J) R ?_)
 rintro _
 refine aB (aG (sL [3]) ?_)
 refine pc 10 [3] ?_
 refine d1 11 R (lM _ (tE 4 [3,0,1,2]) ?_)
 refine eB (K:=kT3) (x':=L) 0 a1 R R cI R R q.1 q.2 ?_ ?_
 exact fun I h s=>(gF).put I h () L s
 refine aB (aG (sL [0]) (dD ?_))
 refine dX ?_
 cases g
 exact qA () (tE 4 [1,2,3,0])
 refine aW ?_
 cases g
 obtain rfl:=U _ R
 have g:=Y
 refine bA ?_
 exact qI (a2,()) g tI
 rintro ⟨a3,_⟩ σ1 g
 dsimp only [Z18_J1] at g
 refine aW ?_
 refine aL 0 R R bX R R R R R R (lN (aJ B [(sc A14 b.Dims D14),(sc i b.Data j)] 42::aJ m [(sc A14 b.Dims D14),(sc i b.Data j)] 42::_::ow kT3 3 (.slice i b.Data.length j) a3::D) ?_)
 refine aW ?_
 cases g
 exact qS ((A14,b.Dims.length,D14),(i,b.Data.length,j)) (tE 7 [2,3])
theorem Z1m_ok  {t1:Tensor}{a:Int}{r:Bool}(b:Z1m t1 a=some r) :
 FnOk Tryz.prog 123 [(.agg [(.slice A2 N2 D2),(.slice A3 N3 D3)].toArray),(iv a)] [aO kT3 (.slice A2 N2 D2) t1.Dims,aO kT3 (.slice A3 N3 D3) t1.Data] (fun (h:Unit)=>((.bool r),[])):=by
 unfold Z1m at b
 refine aR Tryz.func123 R 18 R R fun C V=>?_
 refine cL 0 aA ?_
 rintro rfl
 refine cL 1 aA ?_
 rintro rfl
 let q:=RR kT3 A2 D2 t1.Dims::RR kT3 A3 D3 t1.Data::V
 refine cN q ?_
 refine bA ?_
 refine eJ R fun u=>?_
 refine bA ?_
 let g:=aJ u [(sc A2 t1.Dims D2),(sc A3 t1.Data D3)] 42::q
 refine qN g ?_
 refine bA ?_
 obtain ⟨m,l,b⟩:=bd b
 refine cQ [(4,(.bool ((m&&(decide (a≥0)))&&(decide (a<(t1.Dims.length:Int))))))] (g) ?_ ?_
 refine bA ?_
 refine lM _ (fun w s=>(((s.d 1 R).d 3 R).e 2 [1,0])) ?_
 refine lC 2 og R (Zs_ok l) R ?_
 rintro _
 refine lN g ?_
 refine cE ?_
 rcases bo m with i | i
 refine bL ?_
 rcases bo (m&&(decide (a≥0))) with j | j
 refine dM ?_
 exact qj tI
 refine dM ?_
 exact qj tI
 refine iZ ?_
 exact qj tI
 rintro σ1
 refine bA ?_
 cases b
 exact qF () (tE 3 [])
theorem Z0l_ok  {a1:(List Int)}{i:Int}{e:Int}{r:(List Int)}(b:Z0l a1 i e=some r) :
 FnOk Tryz.prog 139 [(.slice A2 N2 D2),(iv i),(iv e)] [aO kT3 (.slice A2 N2 D2) a1] (fun (h:HH)=>((s3 h),[ow kT3 3 (s3 h) r])):=by
 unfold Z0l at b
 refine aR Tryz.func139 R 15 R R fun C V=>?_
 refine cL 0 aA ?_
 rintro rfl
 let l:=RR kT3 A2 D2 a1::V
 refine cN l ?_
 refine cH ?_
 obtain ⟨j,g,b⟩:=bd b
 refine bA ?_
 refine lM _ (fun w s=>(s.d 0 R)) ?_
 refine lC 1 jr R (Ze_ok g) R ?_
 rintro ⟨A7,N7,D7⟩
 refine aM 0 aC ?_
 rintro rfl
 refine bL ?_
 obtain ⟨a,b⟩:=gd b
 refine bL ?_
 refine bC 0 aC (show 0<j.length by have:=a; omega) (fun m o10 q=>?_)
 subst q
 refine cE ?_
 refine eB (K:=kT3) (x':=e) 0 i R R cI R R a.1 a.2 ?_ ?_
 exact fun I h s=>(gF).put I h () e s
 refine dJ ?_
 cases b
 exact qF ((ad m o10),j.length,D7) (tE 2 [0])
theorem Z15_ok  {t1:Tensor}{g:Int}{J:(List Int)}{r:(List Int)}(b:Z15 t1 g J=some r) :
 FnOk Tryz.prog 124 [(.agg [(.slice A2 N2 D2),(.slice A3 N3 D3)].toArray),(iv g),(.slice A6 N6 D6)] [aO kT3 (.slice A2 N2 D2) t1.Dims,aO kT3 (.slice A3 N3 D3) t1.Data,aO kT3 (.slice A6 N6 D6) J] (fun (h:HH)=>((.slice h.1 h.2.1 h.2.2),[ow kT3 3 (.slice h.1 h.2.1 h.2.2) r])):=by
 unfold Z15 at b
 refine aR Tryz.func124 R 29 R R fun C V=>?_
 refine cN (_::_::_::V) ?_
 refine cL 0 aA ?_
 rintro rfl
 refine cL 1 aA ?_
 rintro rfl
 refine cL 2 aA ?_
 rintro rfl
 let W0:List HP:=RR kT3 A2 D2 t1.Dims::RR kT3 A3 D3 t1.Data::RR kT3 A6 D6 J::V
 refine cN W0 ?_
 refine aI (aD (eJ R (fun b7=>(lS R (aB ?_)))))
 let l:List HP:=aJ b7 [(sc A2 t1.Dims D2),(sc A3 t1.Data D3)] 42::W0
 refine qN l ?_
 refine aE (aI (aD (bK (K:=kT3) (xs:=([]:List Int)) (vs:=[]) 0 R R bI cI gB R R R R R R ?_ R (fun A8 D8=>?_))))
 exact fun I h s=>(gF).list [] I h s
 refine lN (OO kT3 3 A8 D8 ([]:List Int)::l) ?_
 refine lS R (aB (aE (aI (bD (A:=((List Int))×(HH)) (fun a=>Z15_J1 a.1=some r) (fun a=>[(7,(.slice a.2.1 a.2.2.1 a.2.2.2))]) (fun a=>ow kT3 3 (.slice a.2.1 a.2.2.1 a.2.2.2) a.1::l) ?_ ?_))))
 refine aI (aD (lI R (aB (aE (cB ?_)))))
 obtain ⟨e1,aa,a9⟩:=bd b
 refine bE (A:=HH) aa (fun s a=>[(1,(iv g)),(2,(sc A6 J D6)),(3,(pt b7 0)),(7,(.slice a.1 a.2.1 a.2.2)),(8,(iv s.2))]) (fun s a=>ow kT3 3 (.slice a.1 a.2.1 a.2.2) s.1::l) (A8,([]:List Int).length,D8) (aS R) (fun w s=>s) ?_
 rintro ⟨i,ab⟩ ⟨L,a5,O⟩ σ1 a0 b a8
 replace b:Z15_L1 t1 g J i ab=some a0:=b
 unfold Z15_L1 at b
 refine bJ 0 aC (fun (hn:a5=i.length)=>?_)
 subst hn
 refine aI (aI ?_)
 obtain ⟨q,b⟩:=gd b
 refine aD (lI R (lO (eC 0 j0 R) (lO (eH 1 bZ R R R) (lI R (bC 2 aA (show 0<t1.Dims.length by have:=q; omega) (fun E o26 ha=>?_))))))
 subst ha
 refine lO (eA bI cI R R q) (lO (gP 2 fC aA R q) (lO (jz R R) (aB (aE ?_))))
 rcases bY b with ⟨m,b⟩|⟨m,b⟩
 refine bM R m (bS (aE (aI (cB ?_))))
 obtain ⟨F,Y,b⟩:=bd b
 obtain ⟨j,Z,b⟩:=bd b
 obtain ⟨U,b⟩:=gd b
 refine dE 10 [0] bQ (fun ht hn=>(dR 0 R (vS R) (hS:=(sL [0])) (dR 1 R (vz (.agg [(sc (ad E o26) t1.Dims D2),(sc A3 t1.Data D3)].toArray) (bN 0 gA bX R R R R)) (hS:=(sL [0])) (dR 2 R (vS R) (hS:=(sL [0])) (dR 3 R (vI R) (hS:=(sL [0])) (dR 4 R (vI R) (hS:=(sL [0])) (d1 5 R (lM (RR kT3 A6 D6 J::OO kT3 3 L O i::l) (fun w s=>(s.d 4 R)) ?_))))))))
 refine lC 1 lb R (Z0l_ok Y) R ?_
 rintro ⟨u,a6,D⟩
 refine lN (ow kT3 3 (.slice u a6 D) F::_::l) ?_
 refine aM 0 aC ?_
 rintro rfl
 refine aB (aG (sL [1,0]) (d1 6 R (lM (ow _ _ _ _::RR kT3 (ad E o26) D2 t1.Dims::RR kT3 A3 D3 t1.Data::ow _ _ _ _::l) (fun w s=>(((s.d 3 R).d 5 R).e 4 [2,1,0,3])) ?_)))
 refine lC 3 nO R (FnOk.lends (A':=[OO kT3 3 u D F]) (A:=[RR kT3 u D F]) (B:=[RR kT3 (ad E o26) D2 t1.Dims,RR kT3 A3 D3 t1.Data]) (FnOk.perm (Z1c_ok Z) (Pre':=[RR kT3 u D F,RR kT3 (ad E o26) D2 t1.Dims,RR kT3 A3 D3 t1.Data]) (fun _ _ _ s=>(s.e 3 [1,2,0]))) ⟨aQ,trivial⟩ (fun _=>trivial)) R ?_
 rintro _
 refine lN (_::_::l) ?_
 refine aB (aG (sL [1,0]) (d1 7 R (bK (K:=kT3) (xs:=([j]:List Int)) (vs:=[(iv j)]) 0 R R bI cI gB R R R R R R ?_ R (fun a1 a3=>?_))))
 exact fun I h s=>(gF).list [((),j)] I h s
 refine lN (OO kT3 3 a1 a3 ([j]:List Int)::_::_::l) ?_
 refine aB (aG (sL [2,1,0]) (d1 8 R (lM (ow _ _ _ _::ow _ _ _ _::ow _ _ _ _::l) (fun w s=>(s.e 3 [2,0,1])) ?_)))
 refine dV (K:=kT3) 17592186044416 R R bI cI jN (Zr.zk zT3 gB) R R R R R R dA U (fun M T=>(lN (OO kT3 3 M T (i++([j]:List Int))::_::l) ?_))
 refine aB (aG (sL [1,0]) (dR 9 R (vS R) (hS:=(sL [1,0])) (dD (cT (aE (aD (lI R (lO (jy R R) (lI R (aB ?_))))))))))
 obtain rfl:=so b
 exact qA (M,(i++([j]:List Int)).length,T) (fun w s=>(s.e 2 [0]))
 refine aX R m (eL (cR ?_))
 obtain rfl:=so b
 obtain rfl:=a8 _ R
 have b:=a9
 refine cR (dU ?_)
 exact qI (i,(L,i.length,O)) b (fun w s=>s)
 rintro ⟨G,⟨a2,a7,a4⟩⟩ σ1 b
 replace b:Z15_J1 G=some r:=b
 unfold Z15_J1 at b
 refine bJ 0 aC (fun (hn:a7=G.length)=>?_)
 subst hn
 refine aI (aD (lS R (lS R (aB (aE (bO ?_))))))
 obtain rfl:=so b
 exact qF (a2,G.length,a4) (fun w s=>(s.e 5 [0]))
theorem Zd_ok  {t1:Tensor}{l:Int}{r:Tensor}(g:Zd t1 l=some r) :
 FnOk Tryz.prog 90 [(.agg [(.slice A2 N2 D2),(.slice A3 N3 D3)].toArray),(iv l)] [aO kT3 (.slice A2 N2 D2) t1.Dims,aO kT3 (.slice A3 N3 D3) t1.Data] (fun (h:HH×HH)=>((.agg [(s3 h.1),(s3 h.2)].toArray),[ow kT3 3 (s3 h.1) r.Dims,ow kT3 3 (s3 h.2) r.Data])):=by
 unfold Zd at g
 refine aR Tryz.func90 R 75 R R fun C V=>?_
 refine cL 0 aA ?_
 rintro rfl
 refine cL 1 aA ?_
 rintro rfl
 let W0:=RR kT3 A2 D2 t1.Dims::RR kT3 A3 D3 t1.Data::V
 refine cN W0 ?_
 refine bA ?_
 refine eJ R fun b5=>?_
 refine aY R R dZ (fun O=>(aB ?_))
 let W1:=aJ b5 [(sc A2 t1.Dims D2),(sc A3 t1.Data D3)] 42::W0
 refine aW ?_
 obtain ⟨r7,av,g⟩:=bd g
 refine aW ?_
 refine lM _ (fun w s=>(((s.d 2 R).d 4 R).e 3 [1,0,2])) ?_
 refine lC 2 pl R (Z1m_ok av) R ?_
 rintro _
 refine aW ?_
 split at g
 refine aW ?_
 refine lO (vz (.agg [(.slice none 0 0),(.slice none 0 0)].toArray) (aV hM dZ R R)) (aL 0 R R bX R R R R R R (aB (aE (bO (bP ?_)))))
 cases g
 exact qS ((none,0,0),(none,0,0)) (fun w s=>(((s.nilo kT3 3).nilo kT3 3).e 6 [1,0]))
 refine bL ?_
 obtain ⟨b,ag,g⟩:=bd g
 refine aW ?_
 refine lM _ (fun w s=>(s.d 2 R)) ?_
 refine lC 1 la R (Z0k_ok ag) R ?_
 rintro ⟨⟨A12,N12,D12⟩,⟨i,b1,j⟩⟩
 refine aM 0 aC ?_
 rintro rfl
 refine aM 1 aC ?_
 rintro rfl
 refine aY R R dZ (fun m=>(aL 0 R R bX R R R R R R (lN (aJ m [(sc A12 b.Dims D12),(sc i b.Data j)] 42::_::_::_::W1) ?_)))
 refine aW ?_
 refine bD (A:=((List Int))×(Unit)) (fun a=>Zd_J9 b a.1=some r) (fun a=>[(4,(pt O 0)),(5,(pt m 0))]) (fun a=>aJ O [(.slice none 0 0),(.slice none 0 0)] 42::aJ m [(sc A12 b.Dims D12),(sc i b.Data j)] 42::OO kT3 3 A12 D12 b.Dims::ow kT3 3 (.slice i b.Data.length j) a.1::W1) ?_ ?_
 refine cH ?_
 obtain ⟨e1,ar,ap⟩:=bd g
 refine bE (A:=Unit) ar (fun s a=>[(1,(iv l)),(2,(pt b5 0)),(4,(pt O 0)),(5,(pt m 0)),(6,(iv s.2))]) (fun s a=>aJ O [(.slice none 0 0),(.slice none 0 0)] 42::aJ m [(sc A12 b.Dims D12),(sc i b.Data j)] 42::OO kT3 3 A12 D12 b.Dims::ow kT3 3 (.slice i b.Data.length j) s.1::W1) () (aS R) (tE 4 [3,0,1,2]) ?_
 rintro ⟨M,L⟩ _ σ1 a3 g an
 dsimp only [Zd_L1] at g
 refine dH ?_
 split at g
 refine bL ?_
 refine bD (A:=((List Int))×(Unit)) (fun a=>Zd_J8 L a.1=some a3) (fun a=>[(1,(iv l)),(2,(pt b5 0)),(4,(pt O 0)),(5,(pt m 0)),(6,(iv L))]) (fun a=>aJ O [(.slice none 0 0),(.slice none 0 0)] 42::aJ m [(sc A12 b.Dims D12),(sc i b.Data j)] 42::OO kT3 3 A12 D12 b.Dims::ow kT3 3 (.slice i b.Data.length j) a.1::W1) ?_ ?_
 refine bA ?_
 obtain ⟨D,ah,g⟩:=bd g
 refine bL ?_
 refine lM _ (fun w s=>(s.d 5 R)) ?_
 refine lC 1 mh R (Zl_ok ah) R ?_
 rintro ⟨F,b2,G⟩
 refine aM 0 aC ?_
 rintro rfl
 refine bL ?_
 obtain ⟨E,ai,g⟩:=bd g
 refine bL ?_
 refine lM _ (fun w s=>(((s.d 6 R).d 8 R).e 7 [2,1,0,3,4,5,6])) ?_
 refine lC 3 zy R (FnOk.lends (A':=[OO kT3 3 F G D]) (A:=[RR kT3 F G D]) (B:=[RR kT3 A2 D2 t1.Dims,RR kT3 A3 D3 t1.Data]) (FnOk.perm (Z15_ok ai) (Pre':=[RR kT3 F G D,RR kT3 A2 D2 t1.Dims,RR kT3 A3 D3 t1.Data]) (fun _ _ _ s=>(s.e 3 [1,2,0]))) ⟨aQ,trivial⟩ (fun _=>⟨(bH iP),trivial⟩)) R ?_
 rintro ⟨al,b3,am⟩
 refine aM 1 aC ?_
 rintro rfl
 refine dJ ?_
 refine bD (A:=(Bool)×(Unit)) (fun a=>Zd_J7 b M L a.1=some a3) (fun a=>[(1,(iv l)),(2,(pt b5 0)),(4,(pt O 0)),(5,(pt m 0)),(6,(iv L)),(9,(.bool a.1))]) (fun a=>aJ O [(.slice none 0 0),(.slice none 0 0)] 42::aJ m [(sc A12 b.Dims D12),(sc i b.Data j)] 42::OO kT3 3 A12 D12 b.Dims::ow kT3 3 (.slice i b.Data.length j) M::W1) ?_ ?_
 refine cH ?_
 obtain ⟨e2,au,aq⟩:=bd g
 refine bE (A:=HH) au (fun s a=>[(1,(iv l)),(2,(pt b5 0)),(4,(pt O 0)),(5,(pt m 0)),(6,(iv L)),(7,(sc F D G)),(8,(s3 a)),(9,(.bool s.1)),(10,(iv s.2))]) (fun s a=>aJ O [(.slice none 0 0),(.slice none 0 0)] 42::aJ m [(sc A12 b.Dims D12),(sc i b.Data j)] 42::OO kT3 3 A12 D12 b.Dims::ow kT3 3 (.slice i b.Data.length j) M::OO kT3 3 F G D::ow kT3 3 (s3 a) E::W1) (al,E.length,am) (aS R) (fun w s=>(s.f 6 [2,4,0,2])) ?_
 rintro ⟨u,a0⟩ ⟨aw,aa,Y⟩ σ1 aj g ao
 dsimp only [Zd_L2] at g
 refine bJ 5 aC (fun (hn:aa=E.length)=>?_)
 subst hn
 refine dJ ?_
 split at g
 refine bL ?_
 refine bD (A:=(Bool)×(HH)) (fun a=>Zd_J6 a0 a.1=some aj) (fun a=>[(1,(iv l)),(2,(pt b5 0)),(4,(pt O 0)),(5,(pt m 0)),(6,(iv L)),(7,(sc F D G)),(8,(s3 a.2)),(9,(.bool a.1)),(10,(iv a0))]) (fun a=>aJ O [(.slice none 0 0),(.slice none 0 0)] 42::aJ m [(sc A12 b.Dims D12),(sc i b.Data j)] 42::OO kT3 3 A12 D12 b.Dims::ow kT3 3 (.slice i b.Data.length j) M::OO kT3 3 F G D::ow kT3 3 (s3 a.2) E::W1) ?_ ?_
 refine bA ?_
 obtain ⟨a4,g⟩:=gd g
 obtain ⟨a1,a6,g⟩:=bd g
 refine aW ?_
 refine bC 5 aC (show 0<E.length by have:=a4; omega) (fun Z o106 ha=>?_)
 subst ha
 refine bA ?_
 refine lC 0 pi R (Z1k_ok a6) R ?_
 rintro _
 refine bL ?_
 obtain ⟨a5,g⟩:=gd g
 obtain ⟨a2,a7,g⟩:=bd g
 refine bL ?_
 refine bC 8 aA (show 0<t1.Data.length by have:=a5; omega) (fun ax o111 ha=>?_)
 subst ha
 refine bA ?_
 refine lC 0 pi R (Z1k_ok a7) R ?_
 rintro _
 refine bL ?_
 obtain ⟨T,g⟩:=gd g
 refine cQ [(1,(iv l)),(2,(pt b5 0)),(4,(pt O 0)),(5,(pt m 0)),(6,(iv L)),(7,(sc F D G)),(8,(sc (ad Z o106) E Y)),(9,(.bool u)),(10,(iv a0)),(68,(.bool ((decide (a1>a2))||((a1==a2)&&(decide (a0<(ix D l)))))))] (aJ O [(.slice none 0 0),(.slice none 0 0)] 42::aJ m [(sc A12 b.Dims D12),(sc i b.Data j)] 42::OO kT3 3 A12 D12 b.Dims::ow kT3 3 (.slice i b.Data.length j) M::OO kT3 3 F G D::OO kT3 3 (ad Z o106) Y E::W1) ?_ ?_
 refine cU ?_
 rcases bo (decide (a1>a2)) with J | J
 refine lL ?_
 exact qj tI
 refine bL ?_
 rcases bo (a1==a2) with q | q
 refine aW ?_
 refine bC 4 aC (show 0<D.length by have:=(T J q); omega) (fun ay o116 ha=>?_)
 subst ha
 refine lW (eM q) (eA bI cI R R (T J q)) (lW (eM q) (gP 4 fC aC R (T J q)) ?_)
 refine bL ?_
 exact qj tI
 refine dJ ?_
 exact qj tI
 rintro σ1
 refine cE ?_
 split at g
 refine cU ?_
 exact qI (false,((ad Z o106),E.length,Y)) g tI
 refine aW ?_
 exact qI (u,((ad Z o106),E.length,Y)) g tI
 rintro ⟨ac,⟨a8,ab,a9⟩⟩ σ1 g
 dsimp only [Zd_J6] at g
 refine bJ 5 aC (fun (hn:ab=E.length)=>?_)
 subst hn
 refine cU ?_
 cases g
 exact qA (a8,E.length,a9) tI
 refine aW ?_
 cases g
 obtain rfl:=ao _ R
 have g:=aq
 refine bA ?_
 exact qI (u,()) g (fun w s=>(s.f 6 [0,4]))
 rintro ⟨ae,_⟩ σ1 g
 dsimp only [Zd_J7] at g
 refine cU ?_
 split at g
 refine cE ?_
 obtain ⟨U,g⟩:=gd g
 refine bL ?_
 refine bC 3 aC (show 0<b.Data.length by have:=U; omega) (fun az o129 ha=>?_)
 subst ha
 refine cE ?_
 refine lM _ (tE 4 [3,0,1,2]) ?_
 refine eB (K:=kT3) (x':=(1:Int)) 0 L R R cI R R U.1 U.2 ?_ ?_
 exact fun I h s=>(gF).put I h () (1:Int) s
 refine bA ?_
 exact qI ((M.set L.toNat (1:Int)),()) g (tE 4 [1,2,3,0])
 refine aW ?_
 exact qI (M,()) g tI
 rintro ⟨b0,_⟩ σ1 g
 dsimp only [Zd_J8] at g
 refine cU ?_
 cases g
 exact qA () tI
 refine aW ?_
 cases g
 obtain rfl:=an _ R
 have g:=ap
 refine bA ?_
 exact qI (M,()) g tI
 rintro ⟨ak,_⟩ σ1 g
 dsimp only [Zd_J9] at g
 refine aW ?_
 refine aL 0 R R bX R R R R R R (lN (aJ O [(sc A12 b.Dims D12),(sc i b.Data j)] 42::aJ m [(sc A12 b.Dims D12),(sc i b.Data j)] 42::_::ow kT3 3 (.slice i b.Data.length j) ak::W1) ?_)
 refine aW ?_
 cases g
 exact qS ((A12,b.Dims.length,D12),(i,b.Data.length,j)) (tE 7 [2,3])
theorem Z14_ok  {p1:aP}{r:Bool}(b:Z14 p1=some r) :
 FnOk Tryz.prog 153 [(aH p1)] [] (fun (h:Unit)=>((.bool r),[])):=by
 unfold Z14 at b
 refine aR Tryz.func153 R 23 R R fun C V=>?_
 refine cN V ?_
 refine cH ?_
 refine bD (A:=(Unit)×(Unit)) (fun a=>Z14_J1 p1=some r) (fun a=>[(0,(aH p1))]) (fun a=>V) ?_ ?_
 refine cH ?_
 obtain ⟨u,m,l⟩:=bd b
 refine bE (A:=Unit) m (fun s a=>[(0,(aH p1)),(3,(iv s))]) (fun s a=>V) () (aS R) tI ?_
 rintro i _ σ1 q b j
 dsimp only [Z14_L1] at b
 refine bL ?_
 refine lO (vp (aH p1) R) (lO (vz (il p1) (dT gH R)) ?_)
 refine aW ?_
 split at b
 refine cH ?_
 obtain ⟨g,b⟩:=gd b
 refine cQ [(0,(aH p1)),(3,(iv i)),(19,(.bool ((decide ((bt p1 i)<97))||(decide ((bt p1 i)>122)))))] (V) ?_ ?_
 refine aD (lO (vp (aH p1) R) (lI R (lO (vz (.int .u8 (bt p1 i)) (cW gH R R g.1 g.2)) (lO (vp (.bool (decide ((bt p1 i)<97))) R) (lB R ?_)))))
 rcases bo (decide ((bt p1 i)<97)) with e | e
 refine cH ?_
 exact qj tI
 refine lW (cG e) (vp (aH p1) R) (lW (cG e) (vI R) (lW (cG e) (vz (.int .u8 (bt p1 i)) (cW gH R R g.1 g.2)) (lW (cG e) (vp (.bool (decide ((bt p1 i)>122))) R) ?_)))
 refine bA ?_
 exact qj tI
 rintro σ1
 refine cE ?_
 split at b
 refine dJ ?_
 cases b
 obtain rfl:=j _ R
 have b:=l
 refine aW ?_
 cases b
 exact qF () tI
 refine dJ ?_
 cases b
 exact qA () tI
 refine aW ?_
 cases b
 obtain rfl:=j _ R
 have b:=l
 refine bA ?_
 exact qI ((),()) b tI
 rintro ⟨_,_⟩ σ1 b
 dsimp only [Z14_J1] at b
 refine bA ?_
 refine lO (vp (aH p1) R) (lO (vz (il p1) (dT gH R)) ?_)
 refine cU ?_
 cases b
 exact qF () tI
theorem Z13_ok  {p1:aP}{j:Int}{r:Bool}(b:Z13 p1 j=some r) :
 FnOk Tryz.prog 154 [(aH p1),(.int .u8 j)] [] (fun (h:Unit)=>((.bool r),[])):=by
 unfold Z13 at b
 refine aR Tryz.func154 R 17 R R fun C V=>?_
 refine cN V ?_
 refine cH ?_
 refine bD (A:=(Unit)×(Unit)) (fun a=>Z13_J1=some r) (fun a=>[]) (fun a=>V) ?_ ?_
 refine cH ?_
 obtain ⟨u,l,i⟩:=bd b
 refine bE (A:=Unit) l (fun s a=>[(0,(aH p1)),(1,(.int .u8 j)),(5,(iv s))]) (fun s a=>V) () (aS R) tI ?_
 rintro m _ σ1 q b e
 dsimp only [Z13_L1] at b
 refine bL ?_
 refine lO (vp (aH p1) R) (lO (vz (il p1) (dT gH R)) ?_)
 refine aW ?_
 split at b
 refine cH ?_
 obtain ⟨g,b⟩:=gd b
 refine aD (lO (vp (aH p1) R) (lI R (lO (vz (.int .u8 (bt p1 m)) (cW gH R R g.1 g.2)) (lI R (lO (vp (.bool ((bt p1 m)==j)) R) ?_)))))
 refine bA ?_
 split at b
 refine dJ ?_
 cases b
 obtain rfl:=e _ R
 have b:=i
 refine aW ?_
 cases b
 exact qF () tI
 refine dJ ?_
 cases b
 exact qA () tI
 refine aW ?_
 cases b
 obtain rfl:=e _ R
 have b:=i
 refine bA ?_
 exact cK ((),()) b trivial tI
 rintro ⟨_,_⟩ σ1 b
 dsimp only [Z13_J1] at b
 refine cH ?_
 cases b
 exact qF () tI
theorem Z1_ok  {b:aP}{r:(List aP)×aP×Bool}(g:Z1 b=some r) :
 FnOk Tryz.prog 126 [(aH b)] [] (fun (h:HH)=>((.tuple [(s3 h),(aH r.2.1),(.bool r.2.2)].toArray),[ow kT9 9 (s3 h) r.1])):=by
 unfold Z1 at g
 refine aR Tryz.func126 R 124 R R fun C V=>?_
 refine cN V ?_
 refine aW ?_
 refine lO (vp (aH ([]:aP)) R) ?_
 refine cU ?_
 refine bK (K:=kT9) (xs:=([]:List aP)) (vs:=[]) 0 R R mi rO zz R R R R R R ?_ R (fun A2 D2=>?_)
 exact fun I h s=>(yP).list [] I h s
 refine dJ ?_
 refine bD (A:=(Int)×(Unit)) (fun a=>Z1_J1 b a.1=some r) (fun a=>[(0,(aH b)),(5,(sc A2 ([]:List aP) D2)),(6,(iv a.1))]) (fun a=>OO kT9 9 A2 D2 ([]:List aP)::V) ?_ ?_
 refine cE ?_
 obtain ⟨e1,b6,b3⟩:=bd g
 refine bE (A:=Unit) b6 (fun s a=>[(0,(aH b)),(5,(sc A2 ([]:List aP) D2)),(6,(iv s))]) (fun s a=>OO kT9 9 A2 D2 ([]:List aP)::V) () (aS R) tI ?_
 rintro T _ σ1 be g b0
 dsimp only [Z1_L1] at g
 refine bA ?_
 obtain ⟨a8,g⟩:=gd g
 refine cQ [(0,(aH b)),(5,(sc A2 ([]:List aP) D2)),(6,(iv T)),(28,(.bool ((decide ((aK (T+1))<(b.length:Int)))&&(!((sub b T (aK (T+2)))==str0)))))] (OO kT9 9 A2 D2 ([]:List aP)::V) ?_ ?_
 refine aW ?_
 refine lO (vp (aH b) R) (lO (vz (il b) (dT gH R)) ?_)
 refine bA ?_
 rcases bo (decide ((aK (T+1))<(b.length:Int))) with L | L
 refine lW (eM L) (vp (aH b) R) ?_
 refine aW ?_
 refine lW (eM L) (vz (aH (sub b T (aK (T+2)))) (iH T (aK (T+2)) gH R R R (a8 L).1 (a8 L).2.1 (a8 L).2.2)) (lW (eM L) (vz (.bool (!((sub b T (aK (T+2)))==str0))) (jf R R R)) ?_)
 refine bA ?_
 exact qj tI
 refine dM ?_
 exact qj tI
 rintro σ1
 refine cE ?_
 split at g
 refine dH ?_
 cases g
 exact qA () tI
 refine aW ?_
 cases g
 obtain rfl:=b0 _ R
 have g:=b3
 refine bA ?_
 exact qI (T,()) g tI
 rintro ⟨j,_⟩ σ1 g
 dsimp only [Z1_J1] at g
 refine cU ?_
 refine lO (vp (aH b) R) (lO (vz (il b) (dT gH R)) ?_)
 refine aW ?_
 split at g
 refine cU ?_
 refine lO (vp (aH ([]:aP)) R) ?_
 refine cU ?_
 cases g
 exact iL (A2,([]:List aP).length,D2) tI
 refine cU ?_
 refine bK (K:=kT9) (xs:=([]:List aP)) (vs:=[]) 0 R R mi rO zz R R R R R R ?_ R (fun ar av=>?_)
 exact fun I h s=>(yP).list [] I h s
 refine dJ ?_
 refine bD (A:=((List aP))×(HH)) (fun a=>Z1_J4 b j a.1=some r) (fun a=>[(0,(aH b)),(5,(sc A2 ([]:List aP) D2)),(6,(iv j)),(7,(s3 a.2))]) (fun a=>OO kT9 9 A2 D2 ([]:List aP)::ow kT9 9 (s3 a.2) a.1::V) ?_ ?_
 refine cH ?_
 obtain ⟨e2,b7,b4⟩:=bd g
 refine bE (A:=HH) b7 (fun s a=>[(0,(aH b)),(5,(sc A2 ([]:List aP) D2)),(6,(iv j)),(7,(s3 a)),(8,(iv s.2.1)),(9,(iv s.2.2))]) (fun s a=>OO kT9 9 A2 D2 ([]:List aP)::ow kT9 9 (s3 a) s.1::V) (ar,([]:List aP).length,av) (aS R) (tE 2 [1,0]) ?_
 rintro ⟨i,E,B⟩ ⟨a4,ax,a5⟩ σ1 an g b1
 dsimp only [Z1_L2] at g
 refine bJ 1 aC (fun (hn:ax=i.length)=>?_)
 subst hn
 refine dM ?_
 split at g
 refine bL ?_
 refine bD (A:=((List aP)×Int)×(HH)) (fun a=>Z1_J3 B a.1.1 a.1.2=some an) (fun a=>[(0,(aH b)),(5,(sc A2 ([]:List aP) D2)),(6,(iv j)),(7,(s3 a.2)),(8,(iv a.1.2)),(9,(iv B))]) (fun a=>OO kT9 9 A2 D2 ([]:List aP)::ow kT9 9 (s3 a.2) a.1.1::V) ?_ ?_
 refine bA ?_
 obtain ⟨a6,g⟩:=gd g
 refine cQ [(0,(aH b)),(5,(sc A2 ([]:List aP) D2)),(6,(iv j)),(7,(sc a4 i a5)),(8,(iv E)),(9,(iv B)),(51,(.bool ((B==j)||((bt b B)==44))))] (OO kT9 9 A2 D2 ([]:List aP)::OO kT9 9 a4 a5 i::V) ?_ ?_
 refine cU ?_
 rcases bo (B==j) with D | D
 refine cH ?_
 exact qj tI
 refine lW (cG D) (vp (aH b) R) (lW (cG D) (vI R) (lW (cG D) (vz (.int .u8 (bt b B)) (cW gH R R (a6 D).1 (a6 D).2)) (lW (cG D) (vp (.bool ((bt b B)==44)) R) ?_)))
 refine bA ?_
 exact qj tI
 rintro σ1
 refine cE ?_
 split at g
 refine bA ?_
 obtain ⟨Z,g⟩:=gd g
 obtain ⟨ah,g⟩:=gd g
 refine bA ?_
 refine lO (vp (aH b) R) (lI R (lI R (lO (vz (aH (sub b E B)) (iH E B gH R R R Z.1 Z.2.1 Z.2.2)) (bK (K:=kT9) (xs:=([(sub b E B)]:List aP)) (vs:=[(aH (sub b E B))]) 0 R R mi rO zz R R R R R R ?_ R (fun bh bi=>?_)))))
 exact fun I h s=>(yP).list [((),(sub b E B))] I h s
 refine lM _ (tE 3 [2,0,1]) ?_
 refine dV (K:=kT9) 8796093022208 R R mi rO Cz (Zr.zk zT9 zz) R R R R R R dA ah (fun ab ac=>(lN (OO kT9 9 ab ac (i++([(sub b E B)]:List aP))::_::V) ?_))
 refine dJ ?_
 exact qI (((i++([(sub b E B)]:List aP)),(aK (B+1))),(ab,(i++([(sub b E B)]:List aP)).length,ac)) g (tE 2 [1,0])
 refine aW ?_
 exact qI ((i,E),(a4,i.length,a5)) g tI
 rintro ⟨⟨F,bl⟩,⟨au,ay,aw⟩⟩ σ1 g
 dsimp only [Z1_J3] at g
 refine bJ 1 aC (fun (hn:ay=F.length)=>?_)
 subst hn
 refine cU ?_
 cases g
 exact qA (au,F.length,aw) tI
 refine aW ?_
 cases g
 obtain rfl:=b1 _ R
 have g:=b4
 refine bA ?_
 exact qI (i,(a4,i.length,a5)) g tI
 rintro ⟨e,⟨q,az,u⟩⟩ σ1 g
 dsimp only [Z1_J4] at g
 refine bJ 1 aC (fun (hn:az=e.length)=>?_)
 subst hn
 refine cE ?_
 obtain ⟨a0,g⟩:=gd g
 refine aD (lO (vp (aH b) R) (lI R (lO (jy R R) (lO (vz (aH (sub b (aK (j+2)) (b.length:Int))) (iH (aK (j+2)) (b.length:Int) gH R R R a0.1 a0.2.1 a0.2.2)) (lO (vp (aH (sub b (aK (j+2)) (b.length:Int))) R) ?_)))))
 refine bL ?_
 obtain ⟨bb,ak,g⟩:=bd g
 refine cQ [(5,(sc A2 ([]:List aP) D2)),(7,(sc q e u)),(10,(aH (sub b (aK (j+2)) (b.length:Int)))),(72,(.bool ((decide ((e.length:Int)>6))||(!bb))))] (OO kT9 9 A2 D2 ([]:List aP)::OO kT9 9 q u e::V) ?_ ?_
 refine cU ?_
 rcases bo (decide ((e.length:Int)>6)) with O | O
 refine cU ?_
 exact qj tI
 refine lW (cG O) (vp (aH (sub b (aK (j+2)) (b.length:Int))) R) (cD 0 R (cG O) wA R (Z14_ok (bR ak (cY O))) R ?_)
 rintro _
 refine aW ?_
 exact qj tI
 rintro σ1
 refine cE ?_
 split at g
 refine cU ?_
 refine lO (vp (aH ([]:aP)) R) ?_
 refine cU ?_
 cases g
 exact iL (A2,([]:List aP).length,D2) (tE 2 [0])
 refine bL ?_
 refine bD (A:=(Unit)×(Unit)) (fun a=>Z1_J5 b j e=some r) (fun a=>[(5,(sc A2 ([]:List aP) D2)),(7,(sc q e u)),(10,(aH (sub b (aK (j+2)) (b.length:Int))))]) (fun a=>OO kT9 9 A2 D2 ([]:List aP)::OO kT9 9 q u e::V) ?_ ?_
 refine cH ?_
 obtain ⟨e3,b8,ai⟩:=bd g
 refine bE (A:=Unit) b8 (fun s a=>[(5,(sc A2 ([]:List aP) D2)),(7,(sc q e u)),(10,(aH (sub b (aK (j+2)) (b.length:Int)))),(11,(iv s))]) (fun s a=>OO kT9 9 A2 D2 ([]:List aP)::OO kT9 9 q u e::V) () (aS R) tI ?_
 rintro am _ σ1 bf g ae
 dsimp only [Z1_L3] at g
 refine dJ ?_
 split at g
 refine cH ?_
 obtain ⟨a1,g⟩:=gd g
 obtain ⟨bk,al,g⟩:=bd g
 refine aW ?_
 refine bC 1 aC (show 0<e.length by have:=a1; omega) (fun bj o62 ha=>?_)
 subst ha
 refine cE ?_
 refine lO (vz (aH (ix e am)) (ja (K:=kT9) (fo:=0) (pr:=fun x=>(aH x)) 1 am pI (dT9.leaf fun _ _=>R) aC R a1.1 a1.2)) (lC 0 wA R (Z14_ok al) R ?_)
 rintro _
 refine aW ?_
 split at g
 refine cU ?_
 refine lO (vp (aH ([]:aP)) R) ?_
 refine cH ?_
 cases g
 obtain rfl:=ae _ R
 have g:=ai
 refine aW ?_
 cases g
 exact iL (A2,([]:List aP).length,D2) (tE 2 [0])
 refine dJ ?_
 cases g
 exact qA () tI
 refine aW ?_
 cases g
 obtain rfl:=ae _ R
 have g:=ai
 refine bA ?_
 exact qI ((),()) g tI
 rintro ⟨_,_⟩ σ1 g
 dsimp only [Z1_J5] at g
 refine aI (bD (A:=(Unit)×(Unit)) (fun a=>Z1_J8 b j e=some r) (fun a=>[(7,(sc q e u)),(10,(aH (sub b (aK (j+2)) (b.length:Int))))]) (fun a=>OO kT9 9 q u e::V) ?_ ?_)
 refine cH ?_
 obtain ⟨e4,b9,aj⟩:=bd g
 refine bE (A:=Unit) b9 (fun s a=>[(5,(sc A2 ([]:List aP) D2)),(7,(sc q e u)),(10,(aH (sub b (aK (j+2)) (b.length:Int)))),(12,(iv s))]) (fun s a=>OO kT9 9 A2 D2 ([]:List aP)::OO kT9 9 q u e::V) () (aS R) tI ?_
 rintro J _ σ1 ao g ag
 dsimp only [Z1_L4] at g
 refine bL ?_
 refine lO (vp (aH (sub b (aK (j+2)) (b.length:Int))) R) (lO (vz (il (sub b (aK (j+2)) (b.length:Int))) (dT gH R)) ?_)
 refine aW ?_
 split at g
 refine j9 ?_
 refine bD (A:=(Bool)×(Unit)) (fun a=>Z1_J7 b j J a.1=some ao) (fun a=>[(5,(sc A2 ([]:List aP) D2)),(7,(sc q e u)),(10,(aH (sub b (aK (j+2)) (b.length:Int)))),(12,(iv J)),(13,(.bool a.1))]) (fun a=>OO kT9 9 A2 D2 ([]:List aP)::OO kT9 9 q u e::V) ?_ ?_
 refine cH ?_
 obtain ⟨e5,ba,b5⟩:=bd g
 refine bE (A:=Unit) ba (fun s a=>[(5,(sc A2 ([]:List aP) D2)),(7,(sc q e u)),(10,(aH (sub b (aK (j+2)) (b.length:Int)))),(12,(iv J)),(13,(.bool s.1)),(14,(iv s.2))]) (fun s a=>OO kT9 9 A2 D2 ([]:List aP)::OO kT9 9 q u e::V) () (aS R) tI ?_
 rintro ⟨a3,a2⟩ _ σ1 bg g b2
 dsimp only [Z1_L5] at g
 refine dJ ?_
 split at g
 refine cU ?_
 obtain ⟨G,g⟩:=gd g
 obtain ⟨U,g⟩:=gd g
 obtain ⟨ap,a9,g⟩:=bd g
 refine cQ [(5,(sc A2 ([]:List aP) D2)),(7,(sc q e u)),(10,(aH (sub b (aK (j+2)) (b.length:Int)))),(12,(iv J)),(13,(.bool (a3||ap))),(14,(iv a2))] (OO kT9 9 A2 D2 ([]:List aP)::OO kT9 9 q u e::V) ?_ ?_
 rcases bo a3 with m | m
 refine dE 12 [] bQ fun ht hn=>?_
 refine v7 0 [] ?_
 refine dD ?_
 exact qj tI
 refine bB 1 aC (show 0<e.length by have:=(G m); omega) (fun bc o108 ha=>?_)
 subst ha
 refine dE 12 [] bQ fun ht hn=>?_
 refine pd 0 [] ?_
 refine dW 4 R (cG m) (eA mi rO R R (G m)) (dW 5 R (cG m) (vz (aH (ix e a2)) (ja (K:=kT9) (fo:=0) (pr:=fun x=>(aH x)) 1 a2 pI (dT9.leaf fun _ _=>R) aC R (G m).1 (G m).2)) (dW 6 R (cG m) (vp (aH (sub b (aK (j+2)) (b.length:Int))) R) (dW 7 R (cG m) (vI R) (dW 8 R (cG m) (vz (.int .u8 (bt (sub b (aK (j+2)) (b.length:Int)) J)) (cW gH R R (U m).1 (U m).2)) (d1 9 R (cD 0 R (cG m) wB R (Z13_ok (bR a9 (cY m))) R ?_))))))
 rintro _
 refine aB (aG (sL []) ?_)
 refine iC 10 [] ?_
 refine dD ?_
 exact qj tI
 rintro σ1
 refine dX ?_
 cases g
 exact qA () tI
 refine aW ?_
 cases g
 obtain rfl:=b2 _ R
 have g:=b5
 refine bA ?_
 exact qI (a3,()) g tI
 rintro ⟨a7,_⟩ σ1 g
 dsimp only [Z1_J7] at g
 refine cE ?_
 obtain ⟨M,g⟩:=gd g
 obtain ⟨Y,g⟩:=gd g
 obtain ⟨aq,aa,g⟩:=bd g
 refine cQ [(5,(sc A2 ([]:List aP) D2)),(7,(sc q e u)),(10,(aH (sub b (aK (j+2)) (b.length:Int)))),(12,(iv J)),(120,(.bool ((!a7)||aq)))] (OO kT9 9 A2 D2 ([]:List aP)::OO kT9 9 q u e::V) ?_ ?_
 rcases bo (!a7) with l | l
 refine dE 11 [] bQ fun ht hn=>?_
 refine pS 0 [] ?_
 refine dD ?_
 exact qj tI
 refine dE 11 [] bQ fun ht hn=>?_
 refine iM 0 [] ?_
 refine dW 3 R (cG l) (vp (aH (sub b (aK (j+2)) (b.length:Int))) R) (dW 4 R (cG l) (vI R) (dW 5 R (cG l) (vz (aH (sub (sub b (aK (j+2)) (b.length:Int)) (0:Int) J)) (iH (0:Int) J gH R R R (M l).1 (M l).2.1 (M l).2.2)) (dW 6 R (cG l) (vp (aH (sub b (aK (j+2)) (b.length:Int))) R) (dW 7 R (cG l) (vI R) (dW 8 R (cG l) (vz (.int .u8 (bt (sub b (aK (j+2)) (b.length:Int)) J)) (cW gH R R (Y l).1 (Y l).2)) (d1 9 R (cD 0 R (cG l) wB R (Z13_ok (bR aa (cY l))) R ?_)))))))
 rintro _
 refine aB (aG (sL []) (dR 10 R (fZ R l R) (dD ?_)))
 exact qj tI
 rintro σ1
 refine cE ?_
 split at g
 refine cU ?_
 refine lO (vp (aH ([]:aP)) R) ?_
 refine cH ?_
 cases g
 obtain rfl:=ag _ R
 have g:=aj
 refine aW ?_
 cases g
 exact iL (A2,([]:List aP).length,D2) (tE 2 [0])
 refine dJ ?_
 cases g
 exact qA () tI
 refine aW ?_
 cases g
 obtain rfl:=ag _ R
 have g:=aj
 refine bA ?_
 exact qI ((),()) g (tE 2 [1])
 rintro ⟨_,_⟩ σ1 g
 dsimp only [Z1_J8] at g
 refine aW ?_
 refine lO (vp (aH (sub b (aK (j+2)) (b.length:Int))) R) (lS R (lO (vp (aH (sub b (aK (j+2)) (b.length:Int))) R) ?_))
 refine bL ?_
 cases g
 exact iL (q,e.length,u) tI
theorem Z3_ok  {b:(List aP)}{p3:aP}{j:(List (List Int))}{r:aP×(List Int)×Bool}(B:Z3 b p3 j=some r) :
 FnOk Tryz.prog 127 [(.slice A2 N2 D2),(aH p3),(.slice A5 N5 D5)] [aO kT9 (.slice A2 N2 D2) b,aO kT23 (.slice A5 N5 D5) j] (fun (h:HH)=>((.tuple [(aH r.1),(s3 h),(.bool r.2.2)].toArray),[ow kT3 3 (s3 h) r.2.1])):=by
 unfold Z3 at B
 refine aR Tryz.func127 R 129 R R fun C V=>?_
 refine cL 0 aA ?_
 rintro rfl
 refine cL 1 aA ?_
 rintro rfl
 let W0:=RR kT9 A2 D2 b::RR kT23 A5 D5 j::V
 refine cN W0 ?_
 refine bA ?_
 refine lO (vp (aH ([]:aP)) R) ?_
 refine cH ?_
 refine lO (vp (aH p3) R) (lO (vp (aH p3) R) ?_)
 refine aW ?_
 obtain ⟨au,B⟩:=gd B
 refine aD (lO (vp (aH p3) R) (lO (vz (il p3) (dT gH R)) (fH (K:=kT3) (m:=(p3.length:Int)) (z:=(0:Int)) R R bI cI jN (Zr.zk zT3 gB) (by decide) R R au.1 au.2.1 au.2.2 (fun A7 D7=>(lS R (aB (aE (aI (bD (A:=(aP×(List Int))×(HH)) (fun a=>Z3_J11 a.1.1 a.1.2=some r) (fun a=>[(9,(aH a.1.1)),(10,(s3 a.2))]) (fun a=>ow kT3 3 (s3 a.2) a.1.2::W0) ?_ ?_)))))))))
 refine cH ?_
 obtain ⟨e1,bn,av⟩:=bd B
 refine bE (A:=HH×HH×HH) bn (fun s a=>[(0,(s3 a.1)),(2,(s3 a.2.1)),(9,(aH s.1)),(10,(s3 a.2.2)),(11,(iv s.2.2))]) (fun s a=>aO kT9 (s3 a.1) b::aO kT23 (s3 a.2.1) j::ow kT3 3 (s3 a.2.2) s.2.1::W0) ((A2,b.length,D2),(A5,j.length,D5),(A7,(List.replicate (p3.length:Int).toNat (0:Int)).length,D7)) (aS R) (fun w s=>(((s.d 1 R).d 3 R).e 3 [1,0,2])) ?_
 rintro ⟨a7,F,l⟩ ⟨⟨bs,b2,J⟩,⟨bu,b3,L⟩,⟨ac,b4,ag⟩⟩ σ1 bj B an
 dsimp only [Z3_L1] at B
 refine bJ 0 aA (fun (hn:b2=b.length)=>?_)
 subst hn
 refine bJ 1 aA (fun (hn:b3=j.length)=>?_)
 subst hn
 refine bJ 2 aC (fun (hn:b4=F.length)=>?_)
 subst hn
 refine dJ ?_
 split at B
 refine bL ?_
 refine bD (A:=(aP×(List Int))×(HH×HH×HH)) (fun a=>Z3_J10 l a.1.1 a.1.2=some bj) (fun a=>[(0,(s3 a.2.1)),(2,(s3 a.2.2.1)),(9,(aH a.1.1)),(10,(s3 a.2.2.2)),(11,(iv l))]) (fun a=>aO kT9 (s3 a.2.1) b::aO kT23 (s3 a.2.2.1) j::ow kT3 3 (s3 a.2.2.2) a.1.2::W0) ?_ ?_
 refine aW ?_
 obtain ⟨Y,B⟩:=gd B
 obtain ⟨T,B⟩:=gd B
 refine bB 1 aA (show 0<j.length by have:=Y; omega) (fun M o113 ha=>?_)
 subst ha
 refine dP (K:=kT23) 1 l dT23.dec R Y.1 Y.2 ?_
 rintro ⟨bv,c1⟩
 refine bB 2 aA (show 0<b.length by have:=T; omega) (fun O o117 ha=>?_)
 subst ha
 refine dE 11 [] bQ fun ht hn=>?_
 refine iM 0 [] ?_
 refine dR 3 R (eO (fo:=0) 0 bZ R R R) ?_
 refine pd 4 [] ?_
 refine dR 8 R (vz (aH (ix b l)) (ja (K:=kT9) (fo:=0) (pr:=fun x=>(aH x)) 2 l pI (dT9.leaf fun _ _=>R) aA R T.1 T.2)) (dR 9 R (vz (il (ix b l)) (dT gH R)) (dR 10 R (xm R R) (dD (aE ?_))))
 split at B
 refine bL ?_
 refine lO (vp (aH ([]:aP)) R) ?_
 refine dM ?_
 cases B
 obtain rfl:=an _ R
 have B:=av
 refine aW ?_
 cases B
 exact iL (ac,F.length,ag) (tE 7 [4])
 refine dJ ?_
 obtain ⟨e2,bp,bh⟩:=bd B
 refine bE (A:=HH) bp (fun s a=>[(0,(sc (ad O o117) b J)),(2,(sc (ad M o113) j L)),(9,(aH s.1)),(10,(s3 a)),(11,(iv l)),(12,(iv s.2.2))]) (fun s a=>RR kT9 (ad O o117) J b::RR kT23 (ad M o113) L j::ow kT3 3 (s3 a) s.2.1::W0) (ac,F.length,ag) (aS R) (fun w s=>(s.f 5 [2,3])) ?_
 rintro ⟨g,i,D⟩ ⟨Z,b5,a0⟩ σ1 am B bf
 dsimp only [Z3_L2] at B
 refine bJ 2 aC (fun (hn:b5=i.length)=>?_)
 subst hn
 refine dX ?_
 refine lO (vz (aH (ix b l)) (ja (K:=kT9) (fo:=0) (pr:=fun x=>(aH x)) 0 l pI (dT9.leaf fun _ _=>R) aA R T.1 T.2)) (lO (vz (il (ix b l)) (dT gH R)) ?_)
 refine aW ?_
 split at B
 refine j9 ?_
 refine bD (A:=(Int)×(Unit)) (fun a=>Z3_J8 b j l g i D a.1=some am) (fun a=>[(0,(sc (ad O o117) b J)),(2,(sc (ad M o113) j L)),(9,(aH g)),(10,(sc Z i a0)),(11,(iv l)),(12,(iv D)),(13,(iv a.1))]) (fun a=>RR kT9 (ad O o117) J b::RR kT23 (ad M o113) L j::OO kT3 3 Z a0 i::W0) ?_ ?_
 refine cE ?_
 obtain ⟨e3,bq,bm⟩:=bd B
 refine bE (A:=Unit) bq (fun s a=>[(0,(sc (ad O o117) b J)),(2,(sc (ad M o113) j L)),(9,(aH g)),(10,(sc Z i a0)),(11,(iv l)),(12,(iv D)),(13,(iv s))]) (fun s a=>RR kT9 (ad O o117) J b::RR kT23 (ad M o113) L j::OO kT3 3 Z a0 i::W0) () (aS R) tI ?_
 rintro a3 _ σ1 c8 B bl
 dsimp only [Z3_L3] at B
 refine bA ?_
 obtain ⟨ah,B⟩:=gd B
 obtain ⟨ai,B⟩:=gd B
 refine cQ [(0,(sc (ad O o117) b J)),(2,(sc (ad M o113) j L)),(9,(aH g)),(10,(sc Z i a0)),(11,(iv l)),(12,(iv D)),(13,(iv a3)),(62,(.bool ((decide (a3<(g.length:Int)))&&((bt g a3) != (bt (ix b l) D)))))] (RR kT9 (ad O o117) J b::RR kT23 (ad M o113) L j::OO kT3 3 Z a0 i::W0) ?_ ?_
 rcases bo (decide (a3<(g.length:Int))) with E | E
 refine dE 16 [] bQ fun ht hn=>?_
 refine dR 0 R (vI R) (dR 1 R (vp (aH g) R) (dR 2 R (vz (il g) (dT gH R)) ?_))
 refine iC 3 [] ?_
 refine dW 5 R (eM E) (vp (aH g) R) (dW 6 R (eM E) (vI R) (dW 7 R (eM E) (vz (.int .u8 (bt g a3)) (cW gH R R (ah E).1 (ah E).2)) ?_))
 refine iM 8 [] ?_
 refine dW 11 R (eM E) (vz (aH (ix b l)) (ja (K:=kT9) (fo:=0) (pr:=fun x=>(aH x)) 0 l pI (dT9.leaf fun _ _=>R) aA R T.1 T.2)) (dW 12 R (eM E) (vI R) (dW 13 R (eM E) (vz (.int .u8 (bt (ix b l) D)) (cW gH R R (ai E).1 (ai E).2)) (dW 14 R (eM E) (vp (.bool ((bt g a3) != (bt (ix b l) D))) R) (dR 15 R (ji R E R) (dD ?_)))))
 exact qj tI
 refine dE 16 [] bQ fun ht hn=>?_
 refine dR 0 R (vI R) (dR 1 R (vp (aH g) R) (dR 2 R (vz (il g) (dT gH R)) ?_))
 refine mY 3 [] ?_
 refine dD ?_
 exact qj tI
 rintro σ1
 refine cE ?_
 split at B
 refine dH ?_
 cases B
 exact qA () tI
 refine aW ?_
 cases B
 obtain rfl:=bl _ R
 have B:=bm
 refine bA ?_
 exact qI (a3,()) B tI
 rintro ⟨a4,_⟩ σ1 B
 dsimp only [Z3_J8] at B
 refine aI (bD (A:=(aP×(List Int))×(HH)) (fun a=>Z3_J9 j l D a4 a.1.1 a.1.2=some am) (fun a=>[(0,(sc (ad O o117) b J)),(2,(sc (ad M o113) j L)),(9,(aH a.1.1)),(10,(s3 a.2)),(11,(iv l)),(12,(iv D)),(13,(iv a4))]) (fun a=>RR kT9 (ad O o117) J b::RR kT23 (ad M o113) L j::ow kT3 3 (s3 a.2) a.1.2::W0) ?_ ?_)
 refine aW ?_
 refine lO (vp (aH g) R) (lO (vz (il g) (dT gH R)) ?_)
 refine aW ?_
 split at B
 refine bA ?_
 obtain ⟨a9,B⟩:=gd B
 obtain ⟨ao,B⟩:=gd B
 refine aD (lO (vp (aH g) R) ?_)
 refine aW ?_
 refine lO (vz (aH (ix b l)) (ja (K:=kT9) (fo:=0) (pr:=fun x=>(aH x)) 0 l pI (dT9.leaf fun _ _=>R) aA R T.1 T.2)) ?_
 refine aW ?_
 refine lO (vz (aH (sub (ix b l) D (aK (D+1)))) (iH D (aK (D+1)) gH R R R a9.1 a9.2.1 a9.2.2)) (lO (vz (aH (g++(sub (ix b l) D (aK (D+1))))) (o4 R R ao)) (lO (vp (aH (g++(sub (ix b l) D (aK (D+1))))) R) ?_))
 refine bA ?_
 obtain ⟨ap,B⟩:=gd B
 refine bA ?_
 refine bK (K:=kT3) (xs:=([(0:Int)]:List Int)) (vs:=[(iv 0)]) 0 R R bI cI gB R R R R R R ?_ R (fun bw c2=>?_)
 exact fun I h s=>(gF).list [((),(0:Int))] I h s
 refine lM _ (tE 4 [3,0,1,2]) ?_
 refine dV (K:=kT3) 17592186044416 R R bI cI jN (Zr.zk zT3 gB) R R R R R R dA ap (fun aj ak=>(lN (OO kT3 3 aj ak (i++([(0:Int)]:List Int))::_::_::W0) ?_))
 refine bA ?_
 exact qI (((g++(sub (ix b l) D (aK (D+1)))),(i++([(0:Int)]:List Int))),(aj,(i++([(0:Int)]:List Int)).length,ak)) B (tE 3 [1,2,0])
 refine bA ?_
 exact qI ((g,i),(Z,i.length,a0)) B tI
 rintro ⟨⟨a8,q⟩,⟨ae,b6,ab⟩⟩ σ1 B
 dsimp only [Z3_J9] at B
 refine bJ 2 aC (fun (hn:b6=q.length)=>?_)
 subst hn
 refine bA ?_
 obtain ⟨a2,B⟩:=gd B
 obtain ⟨aa,B⟩:=gd B
 refine cQ [(0,(sc (ad O o117) b J)),(2,(sc (ad M o113) j L)),(9,(aH a8)),(10,(sc ae q ab)),(11,(iv l)),(12,(iv D)),(13,(iv a4)),(100,(.bool (((ix q a4) != 0)&&((ix q a4) != (ix (ix j l) D)))))] (RR kT9 (ad O o117) J b::RR kT23 (ad M o113) L j::OO kT3 3 ae ab q::W0) ?_ ?_
 rcases bo ((ix q a4) != 0) with U | U
 refine bB 2 aC (show 0<q.length by have:=a2; omega) (fun bb o182 ha=>?_)
 subst ha
 refine dP (K:=kT23) 1 l dT23.dec R Y.1 Y.2 ?_
 rintro ⟨bz,c3⟩
 refine bB 1 aA (show 0<(ix j l).length by have:=(aa U); omega) (fun c5 o186 ha=>?_)
 subst ha
 refine dE 19 [] bQ fun ht hn=>?_
 refine mY 0 [] ?_
 refine dW 13 R (eM U) (eO (fo:=0) 0 bZ R R R) (dW 14 R (eM U) (vI R) (dW 15 R (eM U) (eA bI cI R R (aa U)) (dW 16 R (eM U) (gP 1 fC aA R (aa U)) ?_)))
 refine iC 17 [] ?_
 refine dD ?_
 exact qj (fun w s=>(s.f 5 [2,3]))
 refine bB 2 aC (show 0<q.length by have:=a2; omega) (fun bb o182 ha=>?_)
 subst ha
 refine dE 19 [] bQ fun ht hn=>?_
 refine zl 0 [] ?_
 refine dD ?_
 exact qj tI
 rintro σ1
 refine cE ?_
 split at B
 refine bL ?_
 refine lO (vp (aH ([]:aP)) R) ?_
 refine dM ?_
 cases B
 obtain rfl:=bf _ R
 have B:=bh
 refine bL ?_
 cases B
 obtain rfl:=an _ R
 have B:=av
 refine aW ?_
 cases B
 exact iL (ae,q.length,ab) (tE 5 [2])
 refine aW ?_
 obtain ⟨aq,B⟩:=gd B
 refine cH ?_
 refine gO (K:=kT23) 1 l dT23.dec R Y.1 Y.2 ?_
 rintro ⟨c0,c4⟩
 refine lO (eO (fo:=0) 0 bZ R R R) (lI R (bC 1 aA (show 0<(ix j l).length by have:=aq; omega) (fun c6 o192 ha=>?_)))
 subst ha
 refine bA ?_
 refine bC 4 aC (show 0<q.length by have:=a2; omega) (fun bc o194 ha=>?_)
 subst ha
 refine cE ?_
 refine lM _ (fun w s=>(s.f 5 [4,1,0,4])) ?_
 refine eB (K:=kT3) (x':=(ix (ix j l) D)) 0 a4 R R cI R R a2.1 a2.2 ?_ ?_
 exact fun I h s=>(gF).put I h () (ix (ix j l) D) s
 refine dM ?_
 cases B
 exact qA ((ad bc o194),q.length,ab) (tE 5 [3,4,0])
 refine aW ?_
 cases B
 obtain rfl:=bf _ R
 have B:=bh
 refine aW ?_
 exact qI ((g,i),(((ad O o117),b.length,J),((ad M o113),j.length,L),(Z,i.length,a0))) B tI
 rintro ⟨⟨al,a1⟩,⟨⟨aw,b7,az⟩,⟨ax,b8,b0⟩,⟨ay,b9,b1⟩⟩⟩ σ1 B
 dsimp only [Z3_J10] at B
 refine bJ 0 aA (fun (hn:b7=b.length)=>?_)
 subst hn
 refine bJ 1 aA (fun (hn:b8=j.length)=>?_)
 subst hn
 refine bJ 2 aC (fun (hn:b9=a1.length)=>?_)
 subst hn
 refine cU ?_
 cases B
 exact qA ((aw,b.length,az),(ax,j.length,b0),(ay,a1.length,b1)) tI
 refine aW ?_
 cases B
 obtain rfl:=an _ R
 have B:=av
 refine bA ?_
 exact qI ((a7,F),(ac,F.length,ag)) B (tE 3 [2])
 rintro ⟨⟨G,u⟩,⟨a6,ba,a5⟩⟩ σ1 B
 dsimp only [Z3_J11] at B
 refine bJ 0 aC (fun (hn:ba=u.length)=>?_)
 subst hn
 refine cH ?_
 refine bD (A:=(Unit)×(Unit)) (fun a=>Z3_J12 G u=some r) (fun a=>[(9,(aH G)),(10,(sc a6 u a5))]) (fun a=>OO kT3 3 a6 a5 u::W0) ?_ ?_
 refine cH ?_
 obtain ⟨e4,br,bi⟩:=bd B
 refine bE (A:=Unit) br (fun s a=>[(9,(aH G)),(10,(sc a6 u a5)),(14,(iv s.1)),(15,(iv s.2))]) (fun s a=>OO kT3 3 a6 a5 u::W0) () (aS R) tI ?_
 rintro ⟨bk,c7⟩ _ σ1 c9 B bg
 dsimp only [Z3_L4] at B
 refine dJ ?_
 split at B
 refine cH ?_
 obtain ⟨ar,B⟩:=gd B
 refine bL ?_
 refine bC 0 aC (show 0<u.length by have:=ar; omega) (fun be o223 ha=>?_)
 subst ha
 refine iZ ?_
 split at B
 refine bL ?_
 refine lO (vp (aH ([]:aP)) R) ?_
 refine dX ?_
 cases B
 obtain rfl:=bg _ R
 have B:=bi
 refine aW ?_
 cases B
 exact iL ((ad be o223),u.length,a5) (tE 3 [0])
 refine dJ ?_
 cases B
 exact qA () tI
 refine aW ?_
 cases B
 obtain rfl:=bg _ R
 have B:=bi
 refine bA ?_
 exact qI ((),()) B tI
 rintro ⟨_,_⟩ σ1 B
 dsimp only [Z3_J12] at B
 refine bA ?_
 refine lO (vp (aH G) R) (lS R (lO (vp (aH G) R) ?_))
 refine cU ?_
 cases B
 exact iL (a6,u.length,a5) (tE 3 [0])
theorem Zj_ok  {i:aP}{g:aP}{b:(List Int)}{r:(List Int)}(j:Zj i g b=some r) :
 FnOk Tryz.prog 130 [(aH i),(aH g),(.slice A4 N4 D4)] [aO kT3 (.slice A4 N4 D4) b] (fun (h:HH)=>((.slice h.1 h.2.1 h.2.2),[ow kT3 3 (.slice h.1 h.2.1 h.2.2) r])):=by
 unfold Zj at j
 refine aR Tryz.func130 R 38 R R fun C V=>?_
 refine cN (_::V) ?_
 refine cL 0 aA ?_
 rintro rfl
 let L:List HP:=RR kT3 A4 D4 b::V
 refine cN L ?_
 refine aI (aD (lS R (aB (aE (aI (aD (bK (K:=kT3) (xs:=([]:List Int)) (vs:=[]) 0 R R bI cI gB R R R R R R ?_ R (fun A5 D5=>?_))))))))
 exact fun I h s=>(gF).list [] I h s
 refine lN (OO kT3 3 A5 D5 ([]:List Int)::L) ?_
 refine lS R (aB (aE (aI (bD (A:=((List Int))×(HH)) (fun a=>Zj_J7 a.1=some r) (fun a=>[(7,(.slice a.2.1 a.2.2.1 a.2.2.2))]) (fun a=>ow kT3 3 (.slice a.2.1 a.2.2.1 a.2.2.2) a.1::L) ?_ ?_))))
 refine aI (aD (lI R (aB (aE (cB ?_)))))
 obtain ⟨e1,aq,ao⟩:=bd j
 refine bE (A:=HH) aq (fun s a=>[(0,(aH i)),(1,(aH g)),(2,(sc A4 b D4)),(7,(.slice a.1 a.2.1 a.2.2)),(8,(iv s.2))]) (fun s a=>ow kT3 3 (.slice a.1 a.2.1 a.2.2) s.1::L) (A5,([]:List Int).length,D5) (aS R) (fun w s=>s) ?_
 rintro ⟨J,q⟩ ⟨a2,ah,a4⟩ σ1 F j am
 replace j:Zj_L1 i g b J q=some F:=j
 unfold Zj_L1 at j
 refine bJ 0 aC (fun (M:ah=J.length)=>?_)
 subst M
 refine aI (aI (aD (lI R (lO (vp (aH i) R) (lO (vz (il i) (dT gH R)) (lO (jz R R) (aB (aE ?_))))))))
 rcases bY j with ⟨u,j⟩|⟨u,j⟩
 refine bM R u (bS (aE (aI (bD (A:=((List Int))×(HH)) (fun a=>Zj_J6 q a.1=some F) (fun a=>[(0,(aH i)),(1,(aH g)),(2,(sc A4 b D4)),(7,(.slice a.2.1 a.2.2.1 a.2.2.2)),(8,(iv q))]) (fun a=>ow kT3 3 (.slice a.2.1 a.2.2.1 a.2.2.2) a.1::L) ?_ ?_))))
 refine cB (aI (aD (lI R (aB (aE (cB ?_))))))
 obtain ⟨e2,ar,ap⟩:=bd j
 refine bE (A:=HH) ar (fun s a=>[(0,(aH i)),(1,(aH g)),(2,(sc A4 b D4)),(7,(.slice a.1 a.2.1 a.2.2)),(8,(iv q)),(9,(iv s.2))]) (fun s a=>ow kT3 3 (.slice a.1 a.2.1 a.2.2) s.1::L) (a2,J.length,a4) (aS R) (fun w s=>s) ?_
 rintro ⟨m,l⟩ ⟨U,ai,Y⟩ σ1 G j an
 replace j:Zj_L2 i g b q m l=some G:=j
 unfold Zj_L2 at j
 refine bJ 0 aC (fun (M:ai=m.length)=>?_)
 subst M
 refine aI (aI (aD (lI R (lO (vp (aH g) R) (lO (vz (il g) (dT gH R)) (lO (jz R R) (aB (aE ?_))))))))
 rcases bY j with ⟨B,j⟩|⟨B,j⟩
 refine bM R B (bS (aE (aI (bD (A:=((List Int))×(HH)) (fun a=>Zj_J5 l a.1=some G) (fun a=>[(0,(aH i)),(1,(aH g)),(2,(sc A4 b D4)),(7,(.slice a.2.1 a.2.2.1 a.2.2.2)),(8,(iv q)),(9,(iv l))]) (fun a=>ow kT3 3 (.slice a.2.1 a.2.2.1 a.2.2.2) a.1::L) ?_ ?_))))
 refine cB (aI ?_)
 obtain ⟨O,j⟩:=gd j
 obtain ⟨T,j⟩:=gd j
 refine dE 7 [] bQ (fun ht M=>(dR 0 R (vp (aH g) R) (dR 1 R (vI R) (dR 2 R (vz (.int .u8 (bt g l)) (cW gH R R O.1 O.2)) (dR 3 R (vp (aH i) R) (dR 4 R (vI R) (dR 5 R (vz (.int .u8 (bt i q)) (cW gH R R T.1 T.2)) (dR 6 R (vp (.bool ((bt g l)==(bt i q))) R) (dD (aE ?_))))))))))
 rcases bY j with ⟨D,j⟩|⟨D,j⟩
 refine bM R D ?_
 obtain ⟨E,j⟩:=gd j
 obtain ⟨a6,j⟩:=gd j
 refine aD (lS R (lS R (lI R (bC 1 aA (show 0<b.length by have:=E; omega) (fun au o64 ha=>?_)))))
 subst ha
 refine lO (eA bI cI R R E) (lO (gP 1 fC aA R E) (bK (K:=kT3) (xs:=([(ix b l)]:List Int)) (vs:=[(iv (ix b l))]) 0 R R bI cI gB R R R R R R ?_ R (fun a7 ab=>?_)))
 exact fun I h s=>(gF).list [((),(ix b l))] I h s
 refine lN (OO kT3 3 a7 ab ([(ix b l)]:List Int)::OO kT3 3 U Y m::L) ?_
 refine lM (ow _ _ _ _::ow _ _ _ _::L) (fun w s=>(s.e 2 [1,0])) ?_
 refine dV (K:=kT3) 17592186044416 R R bI cI jN (Zr.zk zT3 gB) R R R R R R dA a6 (fun a3 a5=>(lN (OO kT3 3 a3 a5 (m++([(ix b l)]:List Int))::L) ?_))
 refine lS R (aB (cT ?_))
 exact qI ((m++([(ix b l)]:List Int)),(a3,(m++([(ix b l)]:List Int)).length,a5)) j (fun w s=>s)
 refine aX R D (bS (cT ?_))
 exact qI (m,(U,m.length,Y)) j (fun w s=>s)
 rintro ⟨Z,⟨a8,aj,ac⟩⟩ σ1 j
 replace j:Zj_J5 l Z=some G:=j
 unfold Zj_J5 at j
 refine bJ 0 aC (fun (M:aj=Z.length)=>?_)
 subst M
 refine aD (lI R (lO (jy R R) (lI R (aB ?_))))
 obtain rfl:=so j
 exact qA (a8,Z.length,ac) (fun w s=>s)
 refine aX R B (eL (cR ?_))
 obtain rfl:=so j
 obtain rfl:=an _ R
 have j:=ap
 refine cR (dU (cT ?_))
 exact qI (m,(U,m.length,Y)) j (fun w s=>s)
 rintro ⟨a0,⟨a9,ak,ae⟩⟩ σ1 j
 replace j:Zj_J6 q a0=some F:=j
 unfold Zj_J6 at j
 refine bJ 0 aC (fun (M:ak=a0.length)=>?_)
 subst M
 refine aD (lI R (lO (jy R R) (lI R (aB ?_))))
 obtain rfl:=so j
 exact qA (a9,a0.length,ae) (fun w s=>s)
 refine aX R u (eL (cR ?_))
 obtain rfl:=so j
 obtain rfl:=am _ R
 have j:=ao
 refine cR (dU ?_)
 exact qI (J,(a2,J.length,a4)) j (fun w s=>s)
 rintro ⟨a1,⟨aa,al,ag⟩⟩ σ1 j
 replace j:Zj_J7 a1=some r:=j
 unfold Zj_J7 at j
 refine bJ 0 aC (fun (M:al=a1.length)=>?_)
 subst M
 refine aI (aD (lS R (lS R (aB (aE (bO ?_))))))
 obtain rfl:=so j
 exact qF (aa,a1.length,ag) (fun w s=>(s.e 2 [0]))
end Go.Proofs.YthelanpdjajnbaaGreat
