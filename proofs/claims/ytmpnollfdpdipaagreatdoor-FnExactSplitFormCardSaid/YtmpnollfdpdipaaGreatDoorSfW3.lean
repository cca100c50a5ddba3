import Derived.Test.YtmpnollfdpdipaaGreatDoorSfF
import Derived.Test.YtmpnollfdpdipaaGreatDoorSfW1
set_option linter.unusedVariables false
set_option maxRecDepth 20000
namespace Go.Proofs.YtmpnollfdpdipaaGreatDoor
open Go Go.Pg
variable {A2 A3 A4 A5 A6 A9:Option Addr}{D2 D3 D4 D5 D6 D9 N2 N3 N4 N5 N6 N9:Nat}
theorem Z6_ok  {T:aD}{mG:Int}{r:(List aD)×aD×Bool}(j:Z6 T=some r) :
 FnOk Tryz.prog 149 [(aA T)] [gl 0 mG] (fun (h:HH)=>((.tuple [(s3 h),(aA r.2.1),(.bool r.2.2)].toArray),[bF bI (s3 h) r.1])):=by
 unfold Z6 at j
 refine aU Tryz.func149 R 93 R R fun C V=>?_
 let Z:=gl 0 mG::V
 refine cN Z ?_
 refine aR ?_
 refine lO (vp (aA ([]:aD)) R) ?_
 refine bN ?_
 obtain ⟨g,an,j⟩:=bd j
 refine aE (lO (vp (aA T) R) (lM _ (fun w s=>(s.dg 0 R)) ?_))
 refine lC 1 tf R (Z10_ok an) R ?_
 rintro _
 refine lN Z ?_
 refine lO (vT R) (lO (vp (aA g.1) R) (lO (vp (aA g.2.1) R) (lB R (lO (vp (aA g.1) R) (lO (vp (aA g.2.1) R) ?_)))))
 refine cV ?_
 refine cQ [(5,(aA g.1)),(6,(aA g.2.1)),(25,(.bool ((!g.2.2)||(decide ((g.2.1.length:Int)>6)))))] (Z) ?_ ?_
 refine bN ?_
 rcases bo (!g.2.2) with a2 | a2
 refine cV ?_
 exact qj tI
 refine lW (cI a2) (vp (aA g.2.1) R) (lW (cI a2) (vz (il g.2.1) (bM cR R)) ?_)
 refine aR ?_
 exact qj tI
 rintro σ1
 refine bS ?_
 split at j
 refine bN ?_
 refine lO (vp (aA ([]:aD)) R) ?_
 refine cV ?_
 cases j
 exact j0 (none,0,0) (fun w s=>((s.nilr bI).e 2 [0]))
 refine bN ?_
 obtain ⟨u,ao,j⟩:=bd j
 refine aE (lO (vp (aA g.1) R) (lM _ (fun w s=>(s.dg 0 R)) ?_))
 refine lC 1 tn R (Z11_ok ao) R ?_
 rintro ⟨A8,N8,D8⟩
 refine aX 0 aB ?_
 rintro rfl
 refine kQ ?_
 split at j
 refine bN ?_
 refine lO (vp (aA ([]:aD)) R) ?_
 refine cV ?_
 cases j
 exact j0 (none,0,0) (fun w s=>((s.nilr bI).e 3 [0]))
 refine bN ?_
 refine aW (A:=(Unit)×(HH)) (fun a=>Z6_J3 g u=some r) (fun a=>[(5,(aA g.1)),(6,(aA g.2.1)),(8,(s3 a.2))]) (fun a=>bF bI (s3 a.2) u::Z) ?_ ?_
 refine dO ?_
 obtain ⟨e1,ak,a4⟩:=bd j
 refine aP (A:=HH) ak (fun s a=>[(5,(aA g.1)),(6,(aA g.2.1)),(8,(s3 a)),(31,(s3 a)),(32,(il u)),(33,(iv s))]) (fun s a=>bF bI (s3 a) u::Z) (A8,u.length,D8) (aS R) tI ?_
 rintro B ⟨ac,ah,G⟩ σ1 aa j a3
 dsimp only [Z6_L1] at j
 refine aY 0 aB (fun (hn:ah=u.length)=>?_)
 subst hn
 refine bJ ?_
 split at j
 refine bN ?_
 refine aW (A:=(Unit)×(HH)) (fun a=>Z6_J2 B=some aa) (fun a=>[(5,(aA g.1)),(6,(aA g.2.1)),(8,(s3 a.2)),(31,(s3 a.2)),(32,(il u)),(33,(iv B))]) (fun a=>bF bI (s3 a.2) u::Z) ?_ ?_
 refine bD ?_
 obtain ⟨a0,j⟩:=gd j
 refine aE (aZ 0 aB (show 0<u.length by have:=a0; omega) (fun U o31 ha=>?_))
 subst ha
 refine bS ?_
 refine lO (vz (aA (ix u B)) (eE (K:=bI) (fo:=0) (pr:=fun x=>(aA x)) 0 B jx (dT9.leaf fun _ _=>R) aB R a0.1 a0.2)) (lO (vp (aA (ix u B)) R) ?_)
 refine cV ?_
 refine lO (vp (aA (ix u B)) R) (lO (vz (il (ix u B)) (bM cR R)) ?_)
 refine aR ?_
 split at j
 refine bN ?_
 refine lO (vp (aA ([]:aD)) R) ?_
 refine eD ?_
 cases j
 obtain rfl:=a3 _ R
 have j:=a4
 refine aR ?_
 cases j
 exact j0 (none,0,0) (fun w s=>((s.nilr bI).e 3 [0]))
 refine cS ?_
 obtain ⟨e2,al,a7⟩:=bd j
 refine aP (A:=Unit) al (fun s a=>[(5,(aA g.1)),(6,(aA g.2.1)),(8,(sc (ad U o31) u G)),(10,(aA (ix u B))),(11,(iv s)),(31,(sc (ad U o31) u G)),(32,(il u)),(33,(iv B))]) (fun s a=>RR bI (ad U o31) G u::Z) () (aS R) tI ?_
 rintro J _ σ1 aq j a5
 dsimp only [Z6_L2] at j
 refine bN ?_
 refine lO (vp (aA (ix u B)) R) (lO (vz (il (ix u B)) (bM cR R)) ?_)
 refine aR ?_
 split at j
 refine bJ ?_
 obtain ⟨Y,j⟩:=gd j
 refine cQ [(5,(aA g.1)),(6,(aA g.2.1)),(8,(sc (ad U o31) u G)),(10,(aA (ix u B))),(11,(iv J)),(31,(sc (ad U o31) u G)),(32,(il u)),(33,(iv B)),(55,(.bool ((decide ((bt (ix u B) J)<97))||(decide ((bt (ix u B) J)>122)))))] (RR bI (ad U o31) G u::Z) ?_ ?_
 refine aE (lO (vp (aA (ix u B)) R) (lI R (lO (vz (.int .u8 (bt (ix u B) J)) (bA cR R R Y.1 Y.2)) (lO (vp (.bool (decide ((bt (ix u B) J)<97))) R) (lB R ?_)))))
 rcases bo (decide ((bt (ix u B) J)<97)) with I | I
 refine bJ ?_
 exact qj tI
 refine lW (cI I) (vp (aA (ix u B)) R) (lW (cI I) (vI R) (lW (cI I) (vz (.int .u8 (bt (ix u B) J)) (bA cR R R Y.1 Y.2)) (lW (cI I) (vp (.bool (decide ((bt (ix u B) J)>122))) R) ?_)))
 refine bD ?_
 exact qj tI
 rintro σ1
 refine bS ?_
 split at j
 refine bN ?_
 refine lO (vp (aA ([]:aD)) R) ?_
 refine bJ ?_
 cases j
 obtain rfl:=a5 _ R
 have j:=a7
 refine bN ?_
 cases j
 obtain rfl:=a3 _ R
 have j:=a4
 refine aR ?_
 cases j
 exact j0 (none,0,0) (fun w s=>((s.nilr bI).e 3 [0]))
 refine cS ?_
 cases j
 exact qA () tI
 refine aR ?_
 cases j
 obtain rfl:=a5 _ R
 have j:=a7
 refine aR ?_
 exact qI ((),((ad U o31),u.length,G)) j tI
 rintro ⟨_,⟨ae,ai,ag⟩⟩ σ1 j
 dsimp only [Z6_J2] at j
 refine aY 0 aB (fun (hn:ai=u.length)=>?_)
 subst hn
 refine bN ?_
 cases j
 exact qA (ae,u.length,ag) tI
 refine aR ?_
 cases j
 obtain rfl:=a3 _ R
 have j:=a4
 refine bD ?_
 exact qI ((),(ac,u.length,G)) j tI
 rintro ⟨_,⟨M,aj,O⟩⟩ σ1 j
 dsimp only [Z6_J3] at j
 refine aY 0 aB (fun (hn:aj=u.length)=>?_)
 subst hn
 refine aL (aW (A:=(Unit)×(Unit)) (fun a=>Z6_J4 g u=some r) (fun a=>[(6,(aA g.2.1)),(8,(sc M u O))]) (fun a=>RR bI M O u::Z) ?_ ?_)
 refine bJ ?_
 obtain ⟨e3,am,a8⟩:=bd j
 refine aP (A:=Unit) am (fun s a=>[(5,(aA g.1)),(6,(aA g.2.1)),(8,(sc M u O)),(12,(iv s))]) (fun s a=>RR bI M O u::Z) () (aS R) tI ?_
 rintro q _ σ1 ar j a6
 dsimp only [Z6_L3] at j
 refine bN ?_
 refine lO (vp (aA g.2.1) R) (lO (vz (il g.2.1) (bM cR R)) ?_)
 refine aR ?_
 split at j
 refine bJ ?_
 obtain ⟨m,j⟩:=gd j
 obtain ⟨F,j⟩:=gd j
 obtain ⟨ab,a1,j⟩:=bd j
 obtain ⟨ap,a9,j⟩:=bd j
 refine cQ [(5,(aA g.1)),(6,(aA g.2.1)),(8,(sc M u O)),(12,(iv q)),(90,(.bool ((((decide ((bt g.2.1 q)<97))||(decide ((bt g.2.1 q)>122)))||(decide (ab≥0)))||(decide (ap<0)))))] (RR bI M O u::Z) ?_ ?_
 rcases bo (decide ((bt g.2.1 q)<97)) with D | D
 refine eF 28 [] b' fun ht hn=>?_
 refine dR 0 R (vp (aA g.2.1) R) (dR 1 R (vI R) (dR 2 R (vz (.int .u8 (bt g.2.1 q)) (bA cR R R m.1 m.2)) (dR 3 R (vp (.bool (decide ((bt g.2.1 q)<97))) R) ?_)))
 refine uB 4 [] ?_
 refine dD ?_
 exact qj tI
 rcases bo ((decide ((bt g.2.1 q)<97))||(decide ((bt g.2.1 q)>122))) with i | i
 refine eF 28 [] b' fun ht hn=>?_
 refine dR 0 R (vp (aA g.2.1) R) (dR 1 R (vI R) (dR 2 R (vz (.int .u8 (bt g.2.1 q)) (bA cR R R m.1 m.2)) (dR 3 R (vp (.bool (decide ((bt g.2.1 q)<97))) R) (dR 4 R (vB R) (dW 5 R (cI D) (vp (aA g.2.1) R) (dW 6 R (cI D) (vI R) (dW 7 R (cI D) (vz (.int .u8 (bt g.2.1 q)) (bA cR R R m.1 m.2)) (dW 8 R (cI D) (vp (.bool (decide ((bt g.2.1 q)>122))) R) ?_))))))))
 refine sH 9 [] ?_
 refine dD ?_
 exact qj tI
 rcases bo (((decide ((bt g.2.1 q)<97))||(decide ((bt g.2.1 q)>122)))||(decide (ab≥0))) with E | E
 refine eF 28 [] b' fun ht hn=>?_
 refine dR 0 R (vp (aA g.2.1) R) (dR 1 R (vI R) (dR 2 R (vz (.int .u8 (bt g.2.1 q)) (bA cR R R m.1 m.2)) (dR 3 R (vp (.bool (decide ((bt g.2.1 q)<97))) R) (dR 4 R (vB R) (dW 5 R (cI D) (vp (aA g.2.1) R) (dW 6 R (cI D) (vI R) (dW 7 R (cI D) (vz (.int .u8 (bt g.2.1 q)) (bA cR R R m.1 m.2)) (dW 8 R (cI D) (vp (.bool (decide ((bt g.2.1 q)>122))) R) ?_))))))))
 refine iz 9 [] ?_
 refine dW 11 R (cI i) (vp (aA g.2.1) R) (dW 12 R (cI i) (vI R) (dW 13 R (cI i) (vz (aA (sub g.2.1 (0:Int) q)) (eB (0:Int) q cR R R R (F i).1 (F i).2.1 (F i).2.2)) (dW 14 R (cI i) (vp (aA g.2.1) R) (dW 15 R (cI i) (vI R) (dW 16 R (cI i) (vz (.int .u8 (bt g.2.1 q)) (bA cR R R m.1 m.2)) (d1 17 R (bZ 0 R (cI i) lD R (Z0d_ok (cB a1 (dI i))) R ?_)))))))
 rintro _
 refine aG (aJ (sL []) ?_)
 refine sF 18 [] ?_
 refine dD ?_
 exact qj tI
 refine eF 28 [] b' fun ht hn=>?_
 refine dR 0 R (vp (aA g.2.1) R) (dR 1 R (vI R) (dR 2 R (vz (.int .u8 (bt g.2.1 q)) (bA cR R R m.1 m.2)) (dR 3 R (vp (.bool (decide ((bt g.2.1 q)<97))) R) (dR 4 R (vB R) (dW 5 R (cI D) (vp (aA g.2.1) R) (dW 6 R (cI D) (vI R) (dW 7 R (cI D) (vz (.int .u8 (bt g.2.1 q)) (bA cR R R m.1 m.2)) (dW 8 R (cI D) (vp (.bool (decide ((bt g.2.1 q)>122))) R) ?_))))))))
 refine iz 9 [] ?_
 refine dW 11 R (cI i) (vp (aA g.2.1) R) (dW 12 R (cI i) (vI R) (dW 13 R (cI i) (vz (aA (sub g.2.1 (0:Int) q)) (eB (0:Int) q cR R R R (F i).1 (F i).2.1 (F i).2.2)) (dW 14 R (cI i) (vp (aA g.2.1) R) (dW 15 R (cI i) (vI R) (dW 16 R (cI i) (vz (.int .u8 (bt g.2.1 q)) (bA cR R R m.1 m.2)) (d1 17 R (bZ 0 R (cI i) lD R (Z0d_ok (cB a1 (dI i))) R ?_)))))))
 rintro _
 refine aG (aJ (sL []) ?_)
 refine i6 18 [] ?_
 refine dW 21 R (cI E) (vp (aA g.1) R) (dW 22 R (cI E) (vp (aA g.2.1) R) (dW 23 R (cI E) (vI R) (dW 24 R (cI E) (vz (.int .u8 (bt g.2.1 q)) (bA cR R R m.1 m.2)) (d1 25 R (bZ 0 R (cI E) lD R (Z0d_ok (cB a9 (dI E))) R ?_)))))
 rintro _
 refine aG (aJ (sL []) ?_)
 refine iz 26 [] ?_
 refine dD ?_
 exact qj tI
 rintro σ1
 refine bS ?_
 split at j
 refine bN ?_
 refine lO (vp (aA ([]:aD)) R) ?_
 refine bJ ?_
 cases j
 obtain rfl:=a6 _ R
 have j:=a8
 refine aR ?_
 cases j
 exact j0 (none,0,0) (fun w s=>((s.nilr bI).e 3 [0]))
 refine cS ?_
 cases j
 exact qA () tI
 refine aR ?_
 cases j
 obtain rfl:=a6 _ R
 have j:=a8
 refine bD ?_
 exact qI ((),()) j tI
 rintro ⟨_,_⟩ σ1 j
 dsimp only [Z6_J4] at j
 refine aR ?_
 refine lO (vp (aA g.2.1) R) (lS R (lO (vp (aA g.2.1) R) ?_))
 refine bN ?_
 cases j
 exact j0 (M,u.length,O) (tE 2 [0])
theorem Z0r_ok  {i:aD}{a:aD}{mG:Int}{r:(List aD)×aD×Bool}(q:Z0r i a=some r) :
 FnOk Tryz.prog 53 [(aA i),(aA a)] [gl 0 mG] (fun (h:HH)=>((.tuple [(s3 h),(aA r.2.1),(.bool r.2.2)].toArray),[bF bI (s3 h) r.1])):=by
 unfold Z0r at q
 refine aU Tryz.func53 R 32 R R fun C V=>?_
 let E:=gl 0 mG::V
 refine cN E ?_
 refine aR ?_
 refine lO (vp (aA ([]:aD)) R) ?_
 refine bN ?_
 obtain ⟨m,u,q⟩:=bd q
 refine aE (lO (vp (aA i) R) (lM _ (fun w s=>(s.dg 0 R)) ?_))
 refine lC 1 pN R (Z6_ok u) R ?_
 rintro ⟨A5,N5,D5⟩
 refine aX 0 aB ?_
 rintro rfl
 refine lO (vT R) (lS R (lO (vp (aA m.2.1) R) (lB R (lS R (lO (vp (aA m.2.1) R) ?_)))))
 refine cV ?_
 obtain ⟨G,B,q⟩:=bd q
 obtain ⟨F,D,q⟩:=bd q
 refine cQ [(7,(sc A5 m.1 D5)),(8,(aA m.2.1)),(29,(.bool (((!m.2.2)||((a.length:Int) != 1))||(!F))))] (RR bI A5 D5 m.1::E) ?_ ?_
 refine bN ?_
 rcases bo (!m.2.2) with j | j
 refine iS ?_
 exact qj tI
 refine lW (cI j) (vp (aA a) R) (lW (cI j) (vz (il a) (bM cR R)) ?_)
 refine aR ?_
 rcases bo ((!m.2.2)||((a.length:Int) != 1)) with g | g
 refine eD ?_
 exact qj tI
 refine bS ?_
 refine lM _ (fun w s=>(s.d 0 R)) ?_
 refine bZ 1 R (cI g) tq R (hX (cB B (dI g))) R ?_
 rintro _
 refine lW (cI g) (vp (aA a) R) (lM _ (fun w s=>(s.dg 1 R)) ?_)
 refine bZ 1 R (cI g) tr R (Z17_ok (cB D (dI g))) R ?_
 rintro _
 refine aR ?_
 exact qj tI
 rintro σ1
 refine bS ?_
 split at q
 refine bN ?_
 refine lO (vp (aA ([]:aD)) R) ?_
 refine cV ?_
 cases q
 exact j0 (none,0,0) (fun w s=>((s.nilr bI).e 3 [0]))
 refine bJ ?_
 refine lO (vp (aA m.2.1) R) (lS R (lO (vp (aA m.2.1) R) ?_))
 refine bN ?_
 cases q
 exact j0 (A5,m.1.length,D5) (tE 2 [0])
theorem Z0t_ok  {p1:Int}{a:Int}{e:Int}{r:Bool}(i:Z0t p1 a e=some r) :
 FnOk Tryz.prog 54 [(iv p1),(iv a),(iv e)] [] (fun (h:Unit)=>((.bool r),[])):=by
 unfold Z0t at i
 refine aU Tryz.func54 R 15 R R fun C V=>?_
 refine cN V ?_
 refine bJ ?_
 refine cQ [(6,(.bool ((decide (p1≥a))&&(decide (p1≤e)))))] (V) ?_ ?_
 refine cV ?_
 rcases bo (decide (p1≥a)) with g | g
 refine bJ ?_
 exact qj tI
 refine bJ ?_
 exact qj tI
 rintro σ1
 refine bD ?_
 cases i
 exact qF () tI
theorem Zc_ok  {e:(List Int)}{r:Bool}(g:Zc e=some r) :
 FnOk Tryz.prog 96 [(.slice A2 N2 D2)] [bF kT3 (.slice A2 N2 D2) e] (fun (h:Unit)=>((.bool r),[])):=by
 unfold Zc at g
 refine aU Tryz.func96 R 27 R R fun C V=>?_
 refine cL 0 aB ?_
 rintro rfl
 let E:=RR kT3 A2 D2 e::V
 refine cN E ?_
 refine kQ ?_
 refine aW (A:=(Unit)×(HH)) (fun a=>Zc_J1 e=some r) (fun a=>[(0,(s3 a.2))]) (fun a=>bF kT3 (s3 a.2) e::E) ?_ ?_
 refine dO ?_
 obtain ⟨e1,J,u⟩:=bd g
 refine aP (A:=HH) J (fun s a=>[(0,(s3 a)),(3,(iv s.1)),(6,(s3 a)),(7,(il e)),(8,(iv s.2))]) (fun s a=>bF kT3 (s3 a) e::E) (A2,e.length,D2) (aS R) (fun w s=>(s.d 0 R)) ?_
 rintro ⟨O,j⟩ ⟨F,G,i⟩ σ1 T g q
 dsimp only [Zc_L1] at g
 refine aY 0 aB (fun (M:G=e.length)=>?_)
 subst M
 refine bJ ?_
 split at g
 refine bJ ?_
 obtain ⟨D,g⟩:=gd g
 refine aE (aZ 0 aB (show 0<e.length by have:=D; omega) (fun m o16 Z=>?_))
 subst Z
 refine eD ?_
 refine cQ [(0,(sc (ad m o16) e i)),(3,(iv O)),(5,(iv (ix e j))),(6,(sc (ad m o16) e i)),(7,(il e)),(8,(iv j)),(17,(.bool ((decide ((ix e j)<1))||(decide ((ix e j)>4096)))))] (RR kT3 (ad m o16) i e::E) ?_ ?_
 refine bN ?_
 rcases bo (decide ((ix e j)<1)) with B | B
 refine bN ?_
 exact qj tI
 refine bN ?_
 exact qj tI
 rintro σ1
 refine bS ?_
 split at g
 refine fD ?_
 cases g
 obtain rfl:=q _ R
 have g:=u
 refine aR ?_
 cases g
 exact qF () (tE 2 [])
 refine qw ?_
 split at g
 refine cS ?_
 cases g
 obtain rfl:=q _ R
 have g:=u
 refine aR ?_
 cases g
 exact qF () (tE 2 [])
 refine dO ?_
 cases g
 exact qA ((ad m o16),e.length,i) tI
 refine aR ?_
 cases g
 obtain rfl:=q _ R
 have g:=u
 refine bD ?_
 exact qI ((),(F,e.length,i)) g tI
 rintro ⟨_,⟨U,I,Y⟩⟩ σ1 g
 dsimp only [Zc_J1] at g
 refine aY 0 aB (fun (M:I=e.length)=>?_)
 subst M
 refine cS ?_
 cases g
 exact qF () (tE 2 [])
theorem Ze_ok  {e:(List Int)}{r:Int}(g:Ze e=some r) :
 FnOk Tryz.prog 99 [(.slice A2 N2 D2)] [bF kT3 (.slice A2 N2 D2) e] (fun (h:Unit)=>((iv r),[])):=by
 unfold Ze at g
 refine aU Tryz.func99 R 17 R R fun C V=>?_
 refine cL 0 aB ?_
 rintro rfl
 let j:=RR kT3 A2 D2 e::V
 refine cN j ?_
 refine kQ ?_
 refine aW (A:=(Int)×(Unit)) (fun a=>Ze_J1 a.1=some r) (fun a=>[(3,(iv a.1))]) (fun a=>j) ?_ ?_
 refine dO ?_
 obtain ⟨I,u,q⟩:=bd g
 refine aP (A:=Unit) u (fun s a=>[(3,(iv s.1)),(6,(sc A2 e D2)),(7,(il e)),(8,(iv s.2))]) (fun s a=>j) () (aS R) tI ?_
 rintro ⟨G,J⟩ _ σ1 B g m
 dsimp only [Ze_L1] at g
 refine bJ ?_
 split at g
 refine bJ ?_
 obtain ⟨i,g⟩:=gd g
 refine aE (aZ 0 aB (show 0<e.length by have:=i; omega) (fun D o12 E=>?_))
 subst E
 refine qw ?_
 cases g
 exact qA () tI
 refine aR ?_
 cases g
 obtain rfl:=m _ R
 have g:=q
 refine bD ?_
 exact qI (G,()) g tI
 rintro ⟨F,_⟩ σ1 g
 dsimp only [Ze_J1] at g
 refine eD ?_
 cases g
 exact qF () (tE 1 [])
theorem Z12_ok  {p1:Int}{r:Bool}(e:Z12 p1=some r) :
 FnOk Tryz.prog 196 [(iv p1)] [] (fun (h:Unit)=>((.bool r),[])):=by
 unfold Z12 at e
 refine aU Tryz.func196 R 9 R R fun C V=>?_
 refine cN V ?_
 refine bJ ?_
 refine cQ [(2,(.bool ((decide (p1≥0))&&(decide (p1<2147483647)))))] (V) ?_ ?_
 refine bN ?_
 rcases bo (decide (p1≥0)) with a | a
 refine cV ?_
 exact qj tI
 refine cV ?_
 exact qj tI
 rintro σ1
 refine bD ?_
 cases e
 exact qF () tI
theorem Z01_ok  {g:(List Int)}{r:Bool}(e:Z01 g=some r) :
 FnOk Tryz.prog 167 [(.slice A2 N2 D2)] [bF kT3 (.slice A2 N2 D2) g] (fun (h:Unit)=>((.bool r),[])):=by
 unfold Z01 at e
 refine aU Tryz.func167 R 15 R R fun C V=>?_
 refine cL 0 aB ?_
 rintro rfl
 let u:=RR kT3 A2 D2 g::V
 refine cN u ?_
 refine bJ ?_
 refine aW (A:=(Unit)×(Unit)) (fun a=>Z01_J1=some r) (fun a=>[]) (fun a=>u) ?_ ?_
 refine dO ?_
 obtain ⟨J,B,m⟩:=bd e
 refine aP (A:=Unit) B (fun s a=>[(5,(sc A2 g D2)),(6,(il g)),(7,(iv s))]) (fun s a=>u) () (aS R) tI ?_
 rintro I _ σ1 D e i
 dsimp only [Z01_L1] at e
 refine bJ ?_
 split at e
 refine bJ ?_
 obtain ⟨j,e⟩:=gd e
 refine aE (aZ 0 aB (show 0<g.length by have:=j; omega) (fun E o14 F=>?_))
 subst F
 refine bJ ?_
 obtain ⟨G,q,e⟩:=bd e
 refine bD ?_
 refine lC 0 tt R (Z12_ok q) R ?_
 rintro _
 refine aR ?_
 split at e
 refine cS ?_
 cases e
 obtain rfl:=i _ R
 have e:=m
 refine aR ?_
 cases e
 exact qF () (tE 1 [])
 refine dO ?_
 cases e
 exact qA () tI
 refine aR ?_
 cases e
 obtain rfl:=i _ R
 have e:=m
 refine bD ?_
 exact cG ((),()) e trivial tI
 rintro ⟨_,_⟩ σ1 e
 dsimp only [Z01_J1] at e
 refine bJ ?_
 cases e
 exact qF () (tE 1 [])
theorem Z0p_ok  {t1:Tensor}{r:Bool}(i:Z0p t1=some r) :
 FnOk Tryz.prog 89 [(.agg [(.slice A2 N2 D2),(.slice A3 N3 D3)].toArray)] [bF kT3 (.slice A2 N2 D2) t1.Dims,bF kT3 (.slice A3 N3 D3) t1.Data] (fun (h:Unit)=>((.bool r),[])):=by
 unfold Z0p at i
 refine aU Tryz.func89 R 20 R R fun C V=>?_
 refine cL 0 aB ?_
 rintro rfl
 refine cL 1 aB ?_
 rintro rfl
 let B:=RR kT3 A2 D2 t1.Dims::RR kT3 A3 D3 t1.Data::V
 refine cN B ?_
 refine bD ?_
 refine kC R fun G=>?_
 refine bD ?_
 let g:=aV G [(sc A2 t1.Dims D2),(sc A3 t1.Data D3)] 38::B
 refine qN g ?_
 refine bD ?_
 obtain ⟨u,j,i⟩:=bd i
 obtain ⟨F,q,i⟩:=bd i
 obtain ⟨I,m,i⟩:=bd i
 refine cQ [(2,(.bool ((u&&((t1.Data.length:Int)==F))&&I)))] (g) ?_ ?_
 rcases bo u with a | a
 rcases bo (u&&((t1.Data.length:Int)==F)) with e | e
 refine eF 18 [] b' fun E D=>?_
 refine iz 0 [] ?_
 refine d1 2 R (lM _ (fun w s=>(s.d 1 R)) ?_)
 refine lC 1 mg R (Zc_ok j) R ?_
 rintro _
 refine lN g ?_
 refine aG (aJ (sL []) ?_)
 refine ux 3 [] ?_
 refine d1 9 R (lM _ (fun w s=>(s.d 1 R)) ?_)
 refine bZ 1 R (hU a) mh R (Ze_ok (cB q a)) R ?_
 rintro _
 refine lN g ?_
 refine aG (aJ (sL []) ?_)
 refine qx 10 [] ?_
 refine d1 15 R (lM _ (fun w s=>(s.d 2 R)) ?_)
 refine bZ 1 R (hU e) tu R (Z01_ok (cB m e)) R ?_
 rintro _
 refine lN g ?_
 refine aG (aJ (sL []) ?_)
 refine iz 16 [] ?_
 refine dD ?_
 exact qj tI
 refine eF 18 [] b' fun E D=>?_
 refine iz 0 [] ?_
 refine d1 2 R (lM _ (fun w s=>(s.d 1 R)) ?_)
 refine lC 1 mg R (Zc_ok j) R ?_
 rintro _
 refine lN g ?_
 refine aG (aJ (sL []) ?_)
 refine ux 3 [] ?_
 refine d1 9 R (lM _ (fun w s=>(s.d 1 R)) ?_)
 refine bZ 1 R (hU a) mh R (Ze_ok (cB q a)) R ?_
 rintro _
 refine lN g ?_
 refine aG (aJ (sL []) ?_)
 refine uy 10 [] ?_
 refine dD ?_
 exact qj tI
 refine eF 18 [] b' fun E D=>?_
 refine iz 0 [] ?_
 refine d1 2 R (lM _ (fun w s=>(s.d 1 R)) ?_)
 refine lC 1 mg R (Zc_ok j) R ?_
 rintro _
 refine lN g ?_
 refine aG (aJ (sL []) ?_)
 refine uz 3 [] ?_
 refine dD ?_
 exact qj tI
 rintro σ1
 refine bD ?_
 cases i
 exact qF () (tE 3 [])
theorem Z02_ok  {g:(List Tensor)}{r:Bool}(i:Z02 g=some r) :
 FnOk Tryz.prog 55 [(.slice A2 N2 D2)] [bF kT38 (.slice A2 N2 D2) g] (fun (h:Unit)=>((.bool r),[])):=by
 unfold Z02 at i
 refine aU Tryz.func55 R 15 R R fun C V=>?_
 refine cL 0 aB ?_
 rintro rfl
 let I:=RR kT38 A2 D2 g::V
 refine cN I ?_
 refine bJ ?_
 refine aW (A:=(Unit)×(Unit)) (fun a=>Z02_J1=some r) (fun a=>[]) (fun a=>I) ?_ ?_
 refine dO ?_
 obtain ⟨Z,M,F⟩:=bd i
 refine aP (A:=Unit) M (fun s a=>[(5,(sc A2 g D2)),(6,(il g)),(7,(iv s))]) (fun s a=>I) () (aS R) tI ?_
 rintro m _ σ1 O i E
 dsimp only [Z02_L1] at i
 refine bJ ?_
 split at i
 refine bJ ?_
 obtain ⟨j,i⟩:=gd i
 refine aE (aZ 0 aB (show 0<g.length by have:=j; omega) (fun T o17 U=>?_))
 subst U
 refine bS ?_
 refine eH (K:=kT38) 0 m dT38.dec R j.1 j.2 ?_
 rintro ⟨⟨q,B⟩,⟨u,D⟩⟩
 refine lO (vz (.agg [(sc q ((ix g m).Dims) B),(sc u ((ix g m).Data) D)].toArray) (fB (fo:=0) 0 hW cP R R R R)) (bO R R dL (fun J=>(aQ 0 R R cP R R R R R R (lN (aV J [(sc q ((ix g m).Dims) B),(sc u ((ix g m).Data) D)] 38::_::_::_::I) ?_))))
 refine aR ?_
 obtain ⟨Y,G,i⟩:=bd i
 refine bD ?_
 refine lM _ (fun w s=>(((s.d 2 R).d 4 R).e 6 [1,0,2,3,4,5])) ?_
 refine lC 2 uV R (Z0p_ok G) R ?_
 rintro _
 refine aR ?_
 split at i
 refine cS ?_
 cases i
 obtain rfl:=E _ R
 have i:=F
 refine aR ?_
 cases i
 exact qF () (tE 5 [])
 refine dO ?_
 cases i
 exact qA () (tE 4 [])
 refine aR ?_
 cases i
 obtain rfl:=E _ R
 have i:=F
 refine bD ?_
 exact cG ((),()) i trivial tI
 rintro ⟨_,_⟩ σ1 i
 dsimp only [Z02_J1] at i
 refine bJ ?_
 cases i
 exact qF () (tE 1 [])
theorem Z13_ok  {t1:Tensor}{r:(List Int)}(e:Z13 t1=some r) :
 FnOk Tryz.prog 155 [(.agg [(.slice A2 N2 D2),(.slice A3 N3 D3)].toArray)] [bF kT3 (.slice A2 N2 D2) t1.Dims,bF kT3 (.slice A3 N3 D3) t1.Data] (fun (h:HH)=>((s3 h),[bF kT3 (s3 h) r])):=by
 unfold Z13 at e
 refine aU Tryz.func155 R 5 R R fun C V=>?_
 refine cL 0 aB ?_
 rintro rfl
 refine cL 1 aB ?_
 rintro rfl
 let a:=RR kT3 A2 D2 t1.Dims::RR kT3 A3 D3 t1.Data::V
 refine cN a ?_
 refine bD ?_
 refine kC R fun i=>?_
 refine bD ?_
 let g:=aV i [(sc A2 t1.Dims D2),(sc A3 t1.Data D3)] 38::a
 refine qN g ?_
 refine cS ?_
 cases e
 exact qF (A2,t1.Dims.length,D2) (tE 3 [1])
theorem Z06_ok  {e:(List Tensor)}{r:(List (List Int))}(g:Z06 e=some r) :
 FnOk Tryz.prog 154 [(.slice A2 N2 D2),(.func (.func 155) [].toArray [].toArray)] [bF kT38 (.slice A2 N2 D2) e] (fun (h:HH)=>((s3 h),[ow (kT36).share 36 (s3 h) r])):=by
 unfold Z06 at g
 refine aU Tryz.func154 R 26 R R fun C V=>?_
 refine cL 0 aB ?_
 rintro rfl
 let M:=RR kT38 A2 D2 e::V
 refine cN M ?_
 refine bJ ?_
 obtain ⟨u,g⟩:=gd g
 refine aR ?_
 refine eZ (K:=kT36) (m:=(e.length:Int)) (z:=([]:(List Int))) R R kT gx qR (Zr.zk zT36 mf) (by decide) R R u.1 u.2.1 u.2.2 (fun A5 D5=>(lS R (aG (aH (aL (aW (A:=((List (List Int)))×(Unit)) (fun a=>Z06_J1 a.1=some r) (fun a=>[(5,(sc A5 (List.replicate (e.length:Int).toNat ([]:(List Int))) D5))]) (fun a=>ow (kT36).share 36 (.slice A5 (List.replicate (e.length:Int).toNat ([]:(List Int))).length D5) a.1::M) ?_ ?_))))))
 refine dO ?_
 obtain ⟨e1,a1,a0⟩:=bd g
 refine aP (A:=Unit) a1 (fun s a=>[(1,(.func (.func 155) [].toArray [].toArray)),(5,(sc A5 (List.replicate (e.length:Int).toNat ([]:(List Int))) D5)),(11,(sc A2 e D2)),(12,(il e)),(13,(iv s.2))]) (fun s a=>ow (kT36).share 36 (.slice A5 (List.replicate (e.length:Int).toNat ([]:(List Int))).length D5) s.1::M) () (aS R) (fun w s=>(s.wk 0 R)) ?_
 rintro ⟨a2,i⟩ _ σ1 a3 g Z
 dsimp only [Z06_L1] at g
 refine bJ ?_
 split at g
 refine bJ ?_
 obtain ⟨j,g⟩:=gd g
 refine bD ?_
 refine aZ 1 aB (show 0<e.length by have:=j; omega) (fun a5 o26 Y=>?_)
 subst Y
 refine bS ?_
 refine eH (K:=kT38) 1 i dT38.dec R j.1 j.2 ?_
 rintro ⟨⟨D,F⟩,⟨E,G⟩⟩
 refine lO (vz (.agg [(sc D ((ix e i).Dims) F),(sc E ((ix e i).Data) G)].toArray) (fB (fo:=0) 0 hW cP R R R R)) (bO R R dL (fun U=>(lI R (aQ 0 R R cP R R R R R R (lN (aV U [(sc D ((ix e i).Dims) F),(sc E ((ix e i).Data) G)] 38::_::_::_::_::M) ?_)))))
 refine bD ?_
 obtain ⟨B,J,g⟩:=bd g
 obtain ⟨q,g⟩:=gd g
 refine aR ?_
 refine lO (vp _ R) ?_
 refine bS ?_
 refine lM _ (fun w s=>(((s.d 2 R).d 4 R).f 7 [1,1,0,1,2,5])) ?_
 refine ke (fs:=[]) (cs:=[]) 2 R R tv R R (Z13_ok J) R ?_
 rintro ⟨O,a4,T⟩
 refine aX 0 aB ?_
 rintro rfl
 refine aZ 5 eM (show 0<(List.replicate (e.length:Int).toNat ([]:(List Int))).length by have:=q; omega) (fun a6 o35 Y=>?_)
 subst Y
 refine bS ?_
 refine lM _ (fun w s=>((s.d 0 R).f 7 [6,1,0,6])) ?_
 refine dQ (K:=(kT36).share) (x':=B) 1 i R R gx R R q.1 q.2 ?_ ?_
 exact fun I h s=>(oC).put I h (sc O B T) B s
 refine eD ?_
 cases g
 exact qA () (tE 6 [0])
 refine aR ?_
 cases g
 obtain rfl:=Z _ R
 have g:=a0
 refine bD ?_
 exact qI (a2,()) g tI
 rintro ⟨a7,_⟩ σ1 g
 dsimp only [Z06_J1] at g
 refine eD ?_
 cases g
 exact qF (A5,(List.replicate (e.length:Int).toNat ([]:(List Int))).length,D5) (tE 2 [0])
theorem Z0s_ok  {a:(List Tensor)}{r:(List (List Int))}(g:Z0s a=some r) :
 FnOk Tryz.prog 57 [(.slice A2 N2 D2)] [bF kT38 (.slice A2 N2 D2) a] (fun (h:HH)=>((.slice h.1 h.2.1 h.2.2),[ow (kT36).share 36 (.slice h.1 h.2.1 h.2.2) r])):=by
 unfold Z0s at g
 refine aU Tryz.func57 R 5 R R fun C V=>?_
 refine cN (_::V) ?_
 refine cL 0 aB ?_
 rintro rfl
 let i:List HP:=RR kT38 A2 D2 a::V
 refine cN i ?_
 refine aL (aE (lS R (aG (aH (aL ?_)))))
 obtain ⟨m,j,g⟩:=bd g
 refine aE (lS R (lM (RR kT38 A2 D2 a::i) (fun w s=>(s.d 0 R)) ?_))
 refine lC 1 tw R (Z06_ok j) R ?_
 rintro ⟨A5,N5,D5⟩
 refine lN (ow (kT36).share 36 (.slice A5 N5 D5) m::i) ?_
 refine aX 0 eM ?_
 rintro rfl
 refine lS R (aG (aH (cK ?_)))
 obtain rfl:=so g
 exact qF (A5,m.length,D5) (fun w s=>(s.e 2 [0]))
theorem Zb_ok  {e:(List Int)}{r:(List Int)}(g:Zb e=some r) :
 FnOk Tryz.prog 98 [(.slice A2 N2 D2)] [bF kT3 (.slice A2 N2 D2) e] (fun (h:HH)=>((s3 h),[ow kT3 3 (s3 h) r])):=by
 unfold Zb at g
 refine aU Tryz.func98 R 32 R R fun C V=>?_
 refine cL 0 aB ?_
 rintro rfl
 let J:=RR kT3 A2 D2 e::V
 refine cN J ?_
 refine bJ ?_
 obtain ⟨u,g⟩:=gd g
 refine aR ?_
 refine eZ (K:=kT3) (m:=(e.length:Int)) (z:=(0:Int)) R R cW eC jt (Zr.zk zT3 gN) (by decide) R R u.1 u.2.1 u.2.2 (fun A4 D4=>(lS R (aG (aH (aL (aE (lI R (aG (aH (aL (aW (A:=((List Int))×(Unit)) (fun a=>Zb_J3 a.1=some r) (fun a=>[(3,(sc A4 (List.replicate (e.length:Int).toNat (0:Int)) D4))]) (fun a=>ow kT3 3 (.slice A4 (List.replicate (e.length:Int).toNat (0:Int)).length D4) a.1::J) ?_ ?_)))))))))))
 refine cS ?_
 obtain ⟨e1,T,O⟩:=bd g
 refine aP (A:=Unit) T (fun s a=>[(0,(sc A2 e D2)),(3,(sc A4 (List.replicate (e.length:Int).toNat (0:Int)) D4)),(4,(iv s.2.1)),(5,(iv s.2.2))]) (fun s a=>ow kT3 3 (.slice A4 (List.replicate (e.length:Int).toNat (0:Int)).length D4) s.1::J) () (aS R) tI ?_
 rintro ⟨B,j,q⟩ _ σ1 G g M
 dsimp only [Zb_L1] at g
 refine eD ?_
 split at g
 refine bJ ?_
 refine aW (A:=((List Int))×(Unit)) (fun a=>Zb_J2 e j q a.1=some G) (fun a=>[(0,(sc A2 e D2)),(3,(sc A4 (List.replicate (e.length:Int).toNat (0:Int)) D4)),(4,(iv j)),(5,(iv q))]) (fun a=>ow kT3 3 (.slice A4 (List.replicate (e.length:Int).toNat (0:Int)).length D4) a.1::J) ?_ ?_
 refine bS ?_
 obtain ⟨E,g⟩:=gd g
 refine aR ?_
 refine aZ 1 aB (show 0<e.length by have:=E; omega) (fun U o25 D=>?_)
 subst D
 refine cV ?_
 split at g
 refine bS ?_
 obtain ⟨i,g⟩:=gd g
 refine bN ?_
 refine aZ 0 aC (show 0<(List.replicate (e.length:Int).toNat (0:Int)).length by have:=i; omega) (fun Y o29 D=>?_)
 subst D
 refine bS ?_
 refine dQ (K:=kT3) (x':=j) 0 q R R eC R R i.1 i.2 ?_ ?_
 exact fun I h s=>(i7).put I h () j s
 refine bS ?_
 exact qI ((B.set q.toNat j),()) g tI
 refine bD ?_
 exact qI (B,()) g tI
 rintro ⟨a0,_⟩ σ1 g
 dsimp only [Zb_J2] at g
 obtain ⟨F,g⟩:=gd g
 refine bN ?_
 refine aZ 1 aB (show 0<e.length by have:=F; omega) (fun Z o33 D=>?_)
 subst D
 refine iS ?_
 cases g
 exact qA () tI
 refine aR ?_
 cases g
 obtain rfl:=M _ R
 have g:=O
 refine bD ?_
 exact qI (B,()) g tI
 rintro ⟨a1,_⟩ σ1 g
 dsimp only [Zb_J3] at g
 refine eD ?_
 cases g
 exact qF (A4,(List.replicate (e.length:Int).toNat (0:Int)).length,D4) (tE 2 [0])
theorem Z8_ok  {f1:form}{e:aD}{g:(List Int)}{r:(List Int)}(i:Z8 f1 e g=some r) :
 FnOk Tryz.prog 153 [(.agg [(.slice A2 N2 D2),(aA f1.out_),(aA f1.order),(.slice A3 N3 D3),(.slice A4 N4 D4),(.slice A5 N5 D5),(.slice A6 N6 D6)].toArray),(aA e),(.slice A9 N9 D9)] [bF bI (.slice A2 N2 D2) f1.groups,bF kT3 (.slice A3 N3 D3) f1.loops,bF kT3 (.slice A4 N4 D4) f1.dims,bF kT36 (.slice A5 N5 D5) f1.steps,bF kT3 (.slice A6 N6 D6) f1.store,bF kT3 (.slice A9 N9 D9) g] (fun (h:HH)=>((s3 h),[ow kT3 3 (s3 h) r])):=by
 unfold Z8 at i
 refine aU Tryz.func153 R 45 R R fun C V=>?_
 refine cL 0 aB ?_
 rintro rfl
 refine cL 1 aB ?_
 rintro rfl
 refine cL 2 aB ?_
 rintro rfl
 refine cL 3 aB ?_
 rintro rfl
 refine cL 4 aB ?_
 rintro rfl
 refine cL 5 aB ?_
 rintro rfl
 let W0:=RR bI A2 D2 f1.groups::RR kT3 A3 D3 f1.loops::RR kT3 A4 D4 f1.dims::RR kT36 A5 D5 f1.steps::RR kT3 A6 D6 f1.store::RR kT3 A9 D9 g::V
 refine cN W0 ?_
 refine bD ?_
 refine kC R fun F=>?_
 refine bD ?_
 let O:=aV F [(sc A2 f1.groups D2),(aA f1.out_),(aA f1.order),(sc A3 f1.loops D3),(sc A4 f1.dims D4),(sc A5 f1.steps D5),(sc A6 f1.store D6)] 86::W0
 refine qN O ?_
 refine bD ?_
 obtain ⟨G,i⟩:=gd i
 refine aR ?_
 refine lO (vz (il f1.order) (bM cR R)) (eZ (K:=kT3) (m:=(f1.order.length:Int)) (z:=(0:Int)) R R cW eC jt (Zr.zk zT3 gN) (by decide) R R G.1 G.2.1 G.2.2 (fun u q=>(lS R (aG (aH (aL (aW (A:=((List Int))×(Unit)) (fun a=>Z8_J7 a.1=some r) (fun a=>[(7,(sc u (List.replicate (f1.order.length:Int).toNat (0:Int)) q))]) (fun a=>ow kT3 3 (.slice u (List.replicate (f1.order.length:Int).toNat (0:Int)).length q) a.1::O) ?_ ?_)))))))
 refine dO ?_
 obtain ⟨e1,a4,a2⟩:=bd i
 refine aP (A:=Unit) a4 (fun s a=>[(1,(aA e)),(2,(sc A9 g D9)),(3,(pt F 0)),(7,(sc u (List.replicate (f1.order.length:Int).toNat (0:Int)) q)),(15,(il (List.replicate (f1.order.length:Int).toNat (0:Int)))),(16,(iv s.2))]) (fun s a=>ow kT3 3 (.slice u (List.replicate (f1.order.length:Int).toNat (0:Int)).length q) s.1::O) () (aS R) tI ?_
 rintro ⟨a6,j⟩ _ σ1 U i a0
 dsimp only [Z8_L1] at i
 refine bJ ?_
 split at i
 refine bN ?_
 refine aW (A:=((List Int))×(Unit)) (fun a=>Z8_J6 j a.1=some U) (fun a=>[(1,(aA e)),(2,(sc A9 g D9)),(3,(pt F 0)),(7,(sc u (List.replicate (f1.order.length:Int).toNat (0:Int)) q)),(15,(il (List.replicate (f1.order.length:Int).toNat (0:Int)))),(16,(iv j))]) (fun a=>ow kT3 3 (.slice u (List.replicate (f1.order.length:Int).toNat (0:Int)).length q) a.1::O) ?_ ?_
 refine ov ?_
 obtain ⟨e2,a5,a3⟩:=bd i
 refine aP (A:=Unit) a5 (fun s a=>[(1,(aA e)),(2,(sc A9 g D9)),(3,(pt F 0)),(7,(sc u (List.replicate (f1.order.length:Int).toNat (0:Int)) q)),(8,(iv j)),(9,(iv s.2)),(15,(il (List.replicate (f1.order.length:Int).toNat (0:Int)))),(16,(iv j))]) (fun s a=>ow kT3 3 (.slice u (List.replicate (f1.order.length:Int).toNat (0:Int)).length q) s.1::O) () (aS R) tI ?_
 rintro ⟨D,B⟩ _ σ1 Y i a1
 dsimp only [Z8_L2] at i
 refine bN ?_
 refine lO (vp (aA e) R) (lO (vz (il e) (bM cR R)) ?_)
 refine aR ?_
 split at i
 refine bN ?_
 refine aW (A:=((List Int))×(Unit)) (fun a=>Z8_J5 B a.1=some Y) (fun a=>[(1,(aA e)),(2,(sc A9 g D9)),(3,(pt F 0)),(7,(sc u (List.replicate (f1.order.length:Int).toNat (0:Int)) q)),(8,(iv j)),(9,(iv B)),(15,(il (List.replicate (f1.order.length:Int).toNat (0:Int)))),(16,(iv j))]) (fun a=>ow kT3 3 (.slice u (List.replicate (f1.order.length:Int).toNat (0:Int)).length q) a.1::O) ?_ ?_
 refine bD ?_
 obtain ⟨J,i⟩:=gd i
 obtain ⟨M,i⟩:=gd i
 refine eF 8 [] b' fun ht hn=>?_
 refine dR 0 R (vp (aA e) R) (dR 1 R (vI R) (dR 2 R (vz (.int .u8 (bt e B)) (bA cR R R J.1 J.2)) ?_))
 refine i6 3 [] ?_
 refine dR 6 R (vz (.int .u8 (bt f1.order j)) (bA cR R R M.1 M.2)) (dR 7 R (vp (.bool ((bt e B)==(bt f1.order j))) R) (dD (aH ?_)))
 split at i
 refine bS ?_
 obtain ⟨E,i⟩:=gd i
 obtain ⟨T,i⟩:=gd i
 refine bU 0 aC (show 0<(List.replicate (f1.order.length:Int).toNat (0:Int)).length by have:=E; omega) (fun Z o69 ha=>?_)
 subst ha
 refine bU 7 aB (show 0<g.length by have:=T; omega) (fun a7 o72 ha=>?_)
 subst ha
 refine eF 11 [0] b' fun ht hn=>?_
 refine i6 0 [0] ?_
 refine rZ 4 [0] ?_
 refine d1 3 R (lO (pC 0 oE aC R E) (aG (aJ (sL [0]) ?_)))
 refine iz 8 [0] ?_
 refine d1 10 R (lN (ow kT3 3 (.slice (ad Z o69) (List.replicate (f1.order.length:Int).toNat (0:Int)).length q) D::O) ?_)
 refine dQ (K:=kT3) (x':=(aK ((ix D j)+(ix g B)))) 0 j R R eC R R E.1 E.2 ?_ ?_
 exact fun I h s=>(i7).put I h () (aK ((ix D j)+(ix g B))) s
 refine aG (aJ (sL [0]) (dD (eO ?_)))
 exact qI ((D.set j.toNat (aK ((ix D j)+(ix g B)))),()) i tI
 refine aR ?_
 exact qI (D,()) i tI
 rintro ⟨a8,_⟩ σ1 i
 dsimp only [Z8_J5] at i
 refine cV ?_
 cases i
 exact qA () tI
 refine aR ?_
 cases i
 obtain rfl:=a1 _ R
 have i:=a3
 refine aR ?_
 exact qI (D,()) i tI
 rintro ⟨a9,_⟩ σ1 i
 dsimp only [Z8_J6] at i
 refine bN ?_
 cases i
 exact qA () tI
 refine aR ?_
 cases i
 obtain rfl:=a0 _ R
 have i:=a2
 refine bD ?_
 exact qI (a6,()) i tI
 rintro ⟨aa,_⟩ σ1 i
 dsimp only [Z8_J7] at i
 refine eD ?_
 cases i
 exact qF (u,(List.replicate (f1.order.length:Int).toNat (0:Int)).length,q) (tE 8 [0])
theorem Z3_ok  {ar:aD}{g:(List (List Int))}{mG:Int}{r:form×Bool}(j:Z3 ar g=some r) :
 FnOk Tryz.prog 56 [(aA ar),(.slice A3 N3 D3)] [bF kT36 (.slice A3 N3 D3) g,gl 0 mG] (fun (h:HH×HH×HH×HH×HH)=>((.tuple [(.agg [(s3 h.1),(aA r.1.out_),(aA r.1.order),(s3 h.2.1),(s3 h.2.2.1),(s3 h.2.2.2.1),(s3 h.2.2.2.2)].toArray),(.bool r.2)].toArray),[bF bI (s3 h.1) r.1.groups,bF kT3 (s3 h.2.1) r.1.loops,ow kT3 3 (s3 h.2.2.1) r.1.dims,ow kT36 36 (s3 h.2.2.2.1) r.1.steps,ow kT3 3 (s3 h.2.2.2.2) r.1.store])):=by
 unfold Z3 at j
 refine aU Tryz.func56 R 179 R R fun C V=>?_
 refine cL 0 aB ?_
 rintro rfl
 let W0:=RR kT36 A3 D3 g::gl 0 mG::V
 refine cN W0 ?_
 refine bD ?_
 refine bO R R jy (fun b4=>(lB R (aG (aH (aL ?_)))))
 obtain ⟨i,d7,j⟩:=bd j
 refine aE (lO (vp (aA ar) R) (lM (gl 0 mG::_::W0) (fun w s=>(s.dg 2 R)) ?_))
 refine lC 1 pN R (Z6_ok d7) R ?_
 rintro ⟨A7,N7,D7⟩
 refine aX 0 aB ?_
 rintro rfl
 refine lO (vT R) (lS R (lO (vp (aA i.2.1) R) (lB R (lS R (lO (vp (aA i.2.1) R) ?_)))))
 refine cV ?_
 refine cQ [(1,(sc A3 g D3)),(4,(pt b4 0)),(6,(sc A7 i.1 D7)),(7,(aA i.2.1)),(34,(.bool ((!i.2.2)||((i.1.length:Int) != (g.length:Int)))))] (aV b4 [(.slice none 0 0),(aA ([]:aD)),(aA ([]:aD)),(.slice none 0 0),(.slice none 0 0),(.slice none 0 0),(.slice none 0 0)] 86::RR bI A7 D7 i.1::W0) ?_ ?_
 refine bN ?_
 rcases bo (!i.2.2) with cz | cz
 refine eD ?_
 exact qj (tE 2 [1,0])
 refine eD ?_
 exact qj (tE 2 [1,0])
 rintro σ1
 refine bS ?_
 split at j
 refine aR ?_
 refine lO (vz (.agg [(.slice none 0 0),(aA ([]:aD)),(aA ([]:aD)),(.slice none 0 0),(.slice none 0 0),(.slice none 0 0),(.slice none 0 0)].toArray) (bX mi jy R R)) (aQ 0 R R gy R R R R R R (lB R (aG (aH (cK (dJ ?_))))))
 cases j
 exact ft (vs:=[(.agg [(.slice none 0 0),(aA ([]:aD)),(aA ([]:aD)),(.slice none 0 0),(.slice none 0 0),(.slice none 0 0),(.slice none 0 0)].toArray),(.bool false)]) (.inl R) ((none,0,0),(none,0,0),(none,0,0),(none,0,0),(none,0,0)) R ⟨⟨0,b4,_,_,R,R,.inl ⟨kU,gy,R⟩⟩,R,trivial⟩ R (fun w s=>((((((s.nilr bI).nilr kT3).nilo kT3 3).nilo kT36 36).nilo kT3 3).e 9 [4,3,2,1,0]))
 refine bJ ?_
 refine lO (vp (aA i.2.1) R) (lO (vp (aA i.2.1) R) (lO (vz (.agg [(sc A7 i.1 D7),(aA i.2.1),(aA i.2.1),(.slice none 0 0),(.slice none 0 0),(.slice none 0 0),(.slice none 0 0)].toArray) (bX mi jy R R)) (bO R R jy (fun O=>(aQ 0 R R gy R R R R R R (lN (aV O [(sc A7 i.1 D7),(aA i.2.1),(aA i.2.1),(.slice none 0 0),(.slice none 0 0),(.slice none 0 0),(.slice none 0 0)] 86::_::_::W0) ?_))))))
 refine bN ?_
 refine lO (vz (.agg [(iv 0),(iv 0),(iv 0),(iv 0),(iv 0),(iv 0),(iv 0),(iv 0),(iv 0),(iv 0),(iv 0),(iv 0),(iv 0),(iv 0),(iv 0),(iv 0),(iv 0),(iv 0),(iv 0),(iv 0),(iv 0),(iv 0),(iv 0),(iv 0),(iv 0),(iv 0)].toArray) (qr na pO eC)) (bO R R pO (fun Z=>(aQ 0 R R pP R R R R R R (aG (qM (ow kT3 184 (.slice (ad Z 0) 26 26) (List.replicate 26 (0:Int))::_::_::_::W0) (fun w s=>s.b2o 0 (List.replicate 26 (0:Int)) R R R R) ?_)))))
 refine bD ?_
 refine aW (A:=(aD×(List Int))×(HH×HH)) (fun a=>Z3_J7 g i a.1.1 a.1.2=some r) (fun a=>[(1,(s3 a.2.1)),(4,(pt b4 0)),(6,(s3 a.2.2)),(7,(aA i.2.1)),(9,(pt O 0)),(10,(pt Z 0))]) (fun a=>bF kT36 (s3 a.2.1) g::aV b4 [(.slice none 0 0),(aA ([]:aD)),(aA ([]:aD)),(.slice none 0 0),(.slice none 0 0),(.slice none 0 0),(.slice none 0 0)] 86::bF bI (s3 a.2.2) i.1::aV O [(s3 a.2.2),(aA i.2.1),(aA a.1.1),(.slice none 0 0),(.slice none 0 0),(.slice none 0 0),(.slice none 0 0)] 86::ow kT3 184 (.slice (ad Z 0) 26 26) a.1.2::W0) ?_ ?_
 refine dO ?_
 obtain ⟨e1,d3,bu⟩:=bd j
 refine aP (A:=HH×HH) d3 (fun s a=>[(1,(s3 a.1)),(4,(pt b4 0)),(6,(s3 a.2)),(7,(aA i.2.1)),(9,(pt O 0)),(10,(pt Z 0)),(41,(s3 a.2)),(42,(il i.1)),(43,(iv s.2.2))]) (fun s a=>bF kT36 (s3 a.1) g::aV b4 [(.slice none 0 0),(aA ([]:aD)),(aA ([]:aD)),(.slice none 0 0),(.slice none 0 0),(.slice none 0 0),(.slice none 0 0)] 86::bF bI (s3 a.2) i.1::aV O [(s3 a.2),(aA i.2.1),(aA s.1),(.slice none 0 0),(.slice none 0 0),(.slice none 0 0),(.slice none 0 0)] 86::ow kT3 184 (.slice (ad Z 0) 26 26) s.2.1::W0) ((A3,g.length,D3),(A7,i.1.length,D7)) (aS R) (fun w s=>((s.d 4 R).e 5 [0,3,4,2,1])) ?_
 rintro ⟨cy,bf,m⟩ ⟨⟨cu,cw,ah⟩,⟨cv,cx,a3⟩⟩ σ1 cr j bm
 dsimp only [Z3_L1] at j
 refine aY 0 aB (fun (hn:cw=g.length)=>?_)
 subst hn
 refine aY 2 aB (fun (hn:cx=i.1.length)=>?_)
 subst hn
 refine bJ ?_
 split at j
 refine bN ?_
 refine aW (A:=(aD×(List Int))×(HH×HH)) (fun a=>Z3_J6 m a.1.1 a.1.2=some cr) (fun a=>[(1,(s3 a.2.1)),(4,(pt b4 0)),(6,(s3 a.2.2)),(7,(aA i.2.1)),(9,(pt O 0)),(10,(pt Z 0)),(41,(s3 a.2.2)),(42,(il i.1)),(43,(iv m))]) (fun a=>bF kT36 (s3 a.2.1) g::aV b4 [(.slice none 0 0),(aA ([]:aD)),(aA ([]:aD)),(.slice none 0 0),(.slice none 0 0),(.slice none 0 0),(.slice none 0 0)] 86::bF bI (s3 a.2.2) i.1::aV O [(s3 a.2.2),(aA i.2.1),(aA a.1.1),(.slice none 0 0),(.slice none 0 0),(.slice none 0 0),(.slice none 0 0)] 86::ow kT3 184 (.slice (ad Z 0) 26 26) a.1.2::W0) ?_ ?_
 refine bD ?_
 obtain ⟨ba,j⟩:=gd j
 refine bD ?_
 refine aZ 2 aB (show 0<i.1.length by have:=ba; omega) (fun a6 o83 ha=>?_)
 subst ha
 refine bS ?_
 refine lO (vz (aA (ix i.1 m)) (eE (K:=bI) (fo:=0) (pr:=fun x=>(aA x)) 2 m jx (dT9.leaf fun _ _=>R) aB R ba.1 ba.2)) (lI R (lO (vp (aA (ix i.1 m)) R) ?_))
 refine bN ?_
 obtain ⟨a8,j⟩:=gd j
 refine aE (lO (vp (aA (ix i.1 m)) R) (lO (vz (il (ix i.1 m)) (bM cR R)) (lS R (lI R (aZ 0 aB (show 0<g.length by have:=a8; omega) (fun ai o86 ha=>?_))))))
 subst ha
 refine bS ?_
 refine eH (K:=kT36) 0 m dT36.dec R a8.1 a8.2 ?_
 rintro ⟨dx,dy⟩
 refine lO (fv (fo:=0) 0 fW R R R) ?_
 refine bN ?_
 split at j
 refine aR ?_
 refine lO (vz (.agg [(.slice none 0 0),(aA ([]:aD)),(aA ([]:aD)),(.slice none 0 0),(.slice none 0 0),(.slice none 0 0),(.slice none 0 0)].toArray) (bX mi jy R R)) (aQ 3 R R gy R R R R R R (lB R (aG (aH (cK (dJ (gE (dJ ?_))))))))
 cases j
 obtain rfl:=bm _ R
 have j:=bu
 refine aR ?_
 cases j
 exact ft (vs:=[(.agg [(.slice none 0 0),(aA ([]:aD)),(aA ([]:aD)),(.slice none 0 0),(.slice none 0 0),(.slice none 0 0),(.slice none 0 0)].toArray),(.bool false)]) (.inl R) ((none,0,0),(none,0,0),(none,0,0),(none,0,0),(none,0,0)) R ⟨⟨3,b4,_,_,R,R,.inl ⟨kU,gy,R⟩⟩,R,trivial⟩ R (fun w s=>((((((s.nilr bI).nilr kT3).nilo kT3 3).nilo kT36 36).nilo kT3 3).e 14 [4,3,2,1,0]))
 refine cS ?_
 obtain ⟨e2,d4,cn⟩:=bd j
 refine aP (A:=Unit) d4 (fun s a=>[(1,(sc (ad ai o86) g ah)),(4,(pt b4 0)),(6,(sc (ad a6 o83) i.1 a3)),(7,(aA i.2.1)),(9,(pt O 0)),(10,(pt Z 0)),(11,(iv m)),(12,(aA (ix i.1 m))),(13,(iv s.2.2)),(41,(sc (ad a6 o83) i.1 a3)),(42,(il i.1)),(43,(iv m))]) (fun s a=>RR kT36 (ad ai o86) ah g::aV b4 [(.slice none 0 0),(aA ([]:aD)),(aA ([]:aD)),(.slice none 0 0),(.slice none 0 0),(.slice none 0 0),(.slice none 0 0)] 86::RR bI (ad a6 o83) a3 i.1::aV O [(sc (ad a6 o83) i.1 a3),(aA i.2.1),(aA s.1),(.slice none 0 0),(.slice none 0 0),(.slice none 0 0),(.slice none 0 0)] 86::ow kT3 184 (.slice (ad Z 0) 26 26) s.2.1::W0) () (aS R) (fun w s=>(s.f 7 [2,5])) ?_
 rintro ⟨ac,a1,D⟩ _ σ1 cs j ck
 dsimp only [Z3_L2] at j
 refine bN ?_
 refine lO (vp (aA (ix i.1 m)) R) (lO (vz (il (ix i.1 m)) (bM cR R)) ?_)
 refine aR ?_
 split at j
 refine bN ?_
 refine aW (A:=(aD×(List Int))×(Unit)) (fun a=>Z3_J5 D a.1.1 a.1.2=some cs) (fun a=>[(1,(sc (ad ai o86) g ah)),(4,(pt b4 0)),(6,(sc (ad a6 o83) i.1 a3)),(7,(aA i.2.1)),(9,(pt O 0)),(10,(pt Z 0)),(11,(iv m)),(12,(aA (ix i.1 m))),(13,(iv D)),(41,(sc (ad a6 o83) i.1 a3)),(42,(il i.1)),(43,(iv m))]) (fun a=>RR kT36 (ad ai o86) ah g::aV b4 [(.slice none 0 0),(aA ([]:aD)),(aA ([]:aD)),(.slice none 0 0),(.slice none 0 0),(.slice none 0 0),(.slice none 0 0)] 86::RR bI (ad a6 o83) a3 i.1::aV O [(sc (ad a6 o83) i.1 a3),(aA i.2.1),(aA a.1.1),(.slice none 0 0),(.slice none 0 0),(.slice none 0 0),(.slice none 0 0)] 86::ow kT3 184 (.slice (ad Z 0) 26 26) a.1.2::W0) ?_ ?_
 refine bD ?_
 obtain ⟨ag,j⟩:=gd j
 obtain ⟨ak,j⟩:=gd j
 refine aE (lO (vp (aA (ix i.1 m)) R) (lI R (lO (vz (.int .u8 (bt (ix i.1 m) D)) (bA cR R R ag.1 ag.2)) (lO (vp (.int .u8 (IntKind.wrap .u8 ((bt (ix i.1 m) D) - 97))) R) (lO (vz (.pointer (some ⟨Z,0+(IntKind.wrap .u8 ((bt (ix i.1 m) D) - 97)).toNat*1,none⟩)) (mX na eC R R ak)) ?_)))))
 refine cV ?_
 obtain ⟨al,j⟩:=gd j
 refine cQ [(1,(sc (ad ai o86) g ah)),(4,(pt b4 0)),(6,(sc (ad a6 o83) i.1 a3)),(7,(aA i.2.1)),(9,(pt O 0)),(10,(pt Z 0)),(11,(iv m)),(12,(aA (ix i.1 m))),(13,(iv D)),(14,(.pointer (some ⟨Z,0+(IntKind.wrap .u8 ((bt (ix i.1 m) D) - 97)).toNat*1,none⟩))),(41,(sc (ad a6 o83) i.1 a3)),(42,(il i.1)),(43,(iv m)),(84,(.bool (((ix a1 (IntKind.wrap .u8 ((bt (ix i.1 m) D) - 97))) != 0)&&((ix a1 (IntKind.wrap .u8 ((bt (ix i.1 m) D) - 97))) != (ix (ix g m) D)))))] (RR kT36 (ad ai o86) ah g::aV b4 [(.slice none 0 0),(aA ([]:aD)),(aA ([]:aD)),(.slice none 0 0),(.slice none 0 0),(.slice none 0 0),(.slice none 0 0)] 86::RR bI (ad a6 o83) a3 i.1::aV O [(sc (ad a6 o83) i.1 a3),(aA i.2.1),(aA ac),(.slice none 0 0),(.slice none 0 0),(.slice none 0 0),(.slice none 0 0)] 86::ow kT3 184 (.slice (ad Z 0) 26 26) a1::W0) ?_ ?_
 rcases bo ((ix a1 (IntKind.wrap .u8 ((bt (ix i.1 m) D) - 97))) != 0) with a0 | a0
 refine fQ (K:=kT36) 0 m dT36.dec R a8.1 a8.2 ?_
 rintro ⟨d8,dd⟩
 refine bU 1 aB (show 0<(ix g m).length by have:=(al a0); omega) (fun dr o120 ha=>?_)
 subst ha
 refine eF 17 [] b' fun ht hn=>?_
 refine sG 0 [] ?_
 refine dW 11 R (hU a0) (fv (fo:=0) 0 fW R R R) (dW 12 R (hU a0) (vI R) (dW 13 R (hU a0) (oq cW eC R R (al a0)) (dW 14 R (hU a0) (pC 1 oE aB R (al a0)) ?_)))
 refine iz 15 [] ?_
 refine dD ?_
 exact qj (fun w s=>(s.f 7 [2,5]))
 refine eF 17 [] b' fun ht hn=>?_
 refine uA 0 [] ?_
 refine dD ?_
 exact qj tI
 rintro σ1
 refine bS ?_
 split at j
 refine aR ?_
 refine lO (vz (.agg [(.slice none 0 0),(aA ([]:aD)),(aA ([]:aD)),(.slice none 0 0),(.slice none 0 0),(.slice none 0 0),(.slice none 0 0)].toArray) (bX mi jy R R)) (aQ 1 R R gy R R R R R R (lN (_::_::_::_::_::W0) ?_))
 refine eD ?_
 cases j
 obtain rfl:=ck _ R
 have j:=cn
 refine bN ?_
 cases j
 obtain rfl:=bm _ R
 have j:=bu
 refine aR ?_
 cases j
 exact ft (vs:=[(.agg [(.slice none 0 0),(aA ([]:aD)),(aA ([]:aD)),(.slice none 0 0),(.slice none 0 0),(.slice none 0 0),(.slice none 0 0)].toArray),(.bool false)]) (.inl R) ((none,0,0),(none,0,0),(none,0,0),(none,0,0),(none,0,0)) R ⟨⟨1,b4,_,_,R,R,.inl ⟨kU,gy,R⟩⟩,R,trivial⟩ R (fun w s=>((((((s.nilr bI).nilr kT3).nilo kT3 3).nilo kT36 36).nilo kT3 3).e 12 [4,3,2,1,0]))
 refine bN ?_
 obtain ⟨bn,j⟩:=gd j
 refine cV ?_
 refine eH (K:=kT36) 0 m dT36.dec R a8.1 a8.2 ?_
 rintro ⟨d9,bi⟩
 refine lO (fv (fo:=0) 0 fW R R R) (lI R (aZ 1 aB (show 0<(ix g m).length by have:=bn; omega) (fun bl o126 ha=>?_)))
 subst ha
 refine aR ?_
 refine lM (ow _ _ _ _::cl ai (o86+m.toNat*1) [(sc (ad bl o126) (ix g m) bi)]::RR kT3 (ad bl o126) bi (ix g m)::bF _ _ _::aV _ _ _::bF _ _ _::aV _ _ _::W0) (fun w s=>(s.f 7 [6,1,0,6])) ?_
 refine dQ (K:=kT3) (x':=(ix (ix g m) D)) 0 (IntKind.wrap .u8 ((bt (ix i.1 m) D) - 97)) R R eC R R ak.1 ak.2 ?_ ?_
 exact fun I h s=>(i7).put I h () (ix (ix g m) D) s
 refine bS ?_
 obtain ⟨bb,aq,j⟩:=bd j
 replace aq:=Option.some.inj aq
 refine qM (ow kT3 184 (.slice (ad Z 0) 26 26) bb::_::_::_::_::_::_::W0) (fun w s=>by rw [← aq]; exact s) ?_
 refine bD ?_
 obtain ⟨dv,bv,j⟩:=bd j
 refine eF 7 [] b' fun ht hn=>?_
 refine iz 0 [] ?_
 refine dR 2 R (vp (aA (ix i.1 m)) R) (dR 3 R (vI R) (dR 4 R (vz (.int .u8 (bt (ix i.1 m) D)) (bA cR R R ag.1 ag.2)) (d1 5 R (lC 0 lD R (Z0d_ok bv) R ?_))))
 rintro _
 refine aG (aJ (sL []) (dR 6 R (nY R R) (dD (aH ?_))))
 split at j
 refine bS ?_
 obtain ⟨am,j⟩:=gd j
 obtain ⟨bp,j⟩:=gd j
 refine eF 10 [6] b' fun ht hn=>?_
 refine pE 0 [6] ?_
 refine dR 2 R (vp (aA (ix i.1 m)) R) (hS:=(sL [6])) ?_
 refine i6 3 [6] ?_
 refine dR 6 R (vz (aA (sub (ix i.1 m) D (aK (D+1)))) (eB D (aK (D+1)) cR R R R am.1 am.2.1 am.2.2)) (hS:=(sL [6])) (d1 1 R (lO (su 6 jx R R R) (aG (aJ (sL [6]) (dR 7 R (vz (aA (ac++(sub (ix i.1 m) D (aK (D+1))))) (mO R R bp)) (hS:=(sL [6])) ?_)))))
 refine pE 8 [6] ?_
 refine d1 9 R (eA 6 R R lz R R R R R (lN (_::_::_::_::_::_::aV O [(sc (ad a6 o83) i.1 a3),(aA i.2.1),(aA (ac++(sub (ix i.1 m) D (aK (D+1))))),(.slice none 0 0),(.slice none 0 0),(.slice none 0 0),(.slice none 0 0)] 86::W0) ?_))
 refine aG (aJ (sL [6]) (dD (eO ?_)))
 exact qI (((ac++(sub (ix i.1 m) D (aK (D+1)))),bb),()) j (fun w s=>(s.f 7 [3,4,0,1]))
 refine aR ?_
 exact qI ((ac,bb),()) j (fun w s=>(s.f 7 [3,4,0,1]))
 rintro ⟨⟨dn,cp⟩,_⟩ σ1 j
 dsimp only [Z3_J5] at j
 refine cV ?_
 cases j
 exact qA () tI
 refine aR ?_
 cases j
 obtain rfl:=ck _ R
 have j:=cn
 refine aR ?_
 exact qI ((ac,a1),(((ad ai o86),g.length,ah),((ad a6 o83),i.1.length,a3))) j tI
 rintro ⟨⟨dq,cq⟩,⟨⟨c4,ca,c7⟩,⟨c5,cb,c8⟩⟩⟩ σ1 j
 dsimp only [Z3_J6] at j
 refine aY 0 aB (fun (hn:ca=g.length)=>?_)
 subst hn
 refine aY 2 aB (fun (hn:cb=i.1.length)=>?_)
 subst hn
 refine bN ?_
 cases j
 exact qA ((c4,g.length,c7),(c5,i.1.length,c8)) tI
 refine aR ?_
 cases j
 obtain rfl:=bm _ R
 have j:=bu
 refine bD ?_
 exact qI ((cy,bf),((cu,g.length,ah),(cv,i.1.length,a3))) j tI
 rintro ⟨⟨q,Y⟩,⟨⟨aa,cc,ab⟩,⟨G,cf,u⟩⟩⟩ σ1 j
 dsimp only [Z3_J7] at j
 refine aY 0 aB (fun (hn:cc=g.length)=>?_)
 subst hn
 refine aY 2 aB (fun (hn:cf=i.1.length)=>?_)
 subst hn
 refine bJ ?_
 refine aW (A:=((List Int))×(HH)) (fun a=>Z3_J8 g i q a.1=some r) (fun a=>[(1,(sc aa g ab)),(4,(pt b4 0)),(6,(sc G i.1 u)),(7,(aA i.2.1)),(9,(pt O 0))]) (fun a=>RR kT36 aa ab g::aV b4 [(.slice none 0 0),(aA ([]:aD)),(aA ([]:aD)),(.slice none 0 0),(.slice none 0 0),(.slice none 0 0),(.slice none 0 0)] 86::RR bI G u i.1::aV O [(sc G i.1 u),(aA i.2.1),(aA q),(s3 a.2),(.slice none 0 0),(.slice none 0 0),(.slice none 0 0)] 86::ow kT3 3 (s3 a.2) a.1::W0) ?_ ?_
 refine bJ ?_
 obtain ⟨e3,d5,co⟩:=bd j
 refine aP (A:=HH) d5 (fun s a=>[(1,(sc aa g ab)),(4,(pt b4 0)),(6,(sc G i.1 u)),(7,(aA i.2.1)),(9,(pt O 0)),(10,(pt Z 0)),(15,(iv s.2.1)),(16,(iv s.2.2))]) (fun s a=>RR kT36 aa ab g::aV b4 [(.slice none 0 0),(aA ([]:aD)),(aA ([]:aD)),(.slice none 0 0),(.slice none 0 0),(.slice none 0 0),(.slice none 0 0)] 86::RR bI G u i.1::aV O [(sc G i.1 u),(aA i.2.1),(aA q),(s3 a),(.slice none 0 0),(.slice none 0 0),(.slice none 0 0)] 86::ow kT3 3 (s3 a) s.1::ow kT3 184 (.slice (ad Z 0) 26 26) Y::W0) (none,0,0) (aS R) (fun w s=>((s.nilo kT3 3).e 6 [1,2,3,4,0,5])) ?_
 rintro ⟨ae,ct,a7⟩ ⟨c6,cg,c9⟩ σ1 dt j cm
 dsimp only [Z3_L3] at j
 refine aY 4 aC (fun (hn:cg=ae.length)=>?_)
 subst hn
 refine bJ ?_
 refine lO (vz (il q) (bM cR R)) ?_
 refine aR ?_
 split at j
 refine bJ ?_
 obtain ⟨b9,j⟩:=gd j
 obtain ⟨bq,j⟩:=gd j
 refine bN ?_
 refine lO (vz (.int .u8 (bt q a7)) (bA cR R R b9.1 b9.2)) (lO (vp (.int .u8 (IntKind.wrap .u8 ((bt q a7) - 97))) R) (lO (vz (.pointer (some ⟨Z,0+(IntKind.wrap .u8 ((bt q a7) - 97)).toNat*1,none⟩)) (mX na eC R R bq)) ?_))
 refine cV ?_
 obtain ⟨br,j⟩:=gd j
 refine bN ?_
 refine bV (K:=kT3) (xs:=([(ix Y (IntKind.wrap .u8 ((bt q a7) - 97)))]:List Int)) (vs:=[(iv (ix Y (IntKind.wrap .u8 ((bt q a7) - 97))))]) 0 R R cW eC gN R R R R R R ?_ R (fun da de=>?_)
 exact fun I h s=>(i7).list [((),(ix Y (IntKind.wrap .u8 ((bt q a7) - 97))))] I h s
 refine lM (ow _ _ _ _::ow _ _ _ _::bF _ _ _::aV _ _ _::bF _ _ _::aV _ _ _::ow _ _ _ _::W0) (fun w s=>(s.f 7 [5,1,0,5,6,1])) ?_
 refine fp (K:=kT3) 17592186044416 R R cW eC jt (Zr.zk zT3 gN) R R R R R R eI br (fun az b3=>(lN (OO kT3 3 az b3 (ae++([(ix Y (IntKind.wrap .u8 ((bt q a7) - 97)))]:List Int))::_::_::_::_::_::W0) ?_))
 refine bS ?_
 refine eA 4 R R gx R R R R R (lN (_::_::_::_::aV O [(sc G i.1 u),(aA i.2.1),(aA q),(sc az (ae++([(ix Y (IntKind.wrap .u8 ((bt q a7) - 97)))]:List Int)) b3),(.slice none 0 0),(.slice none 0 0),(.slice none 0 0)] 86::_::W0) ?_)
 refine ut ?_
 split at j
 refine aR ?_
 refine lO (vz (.agg [(.slice none 0 0),(aA ([]:aD)),(aA ([]:aD)),(.slice none 0 0),(.slice none 0 0),(.slice none 0 0),(.slice none 0 0)].toArray) (bX mi jy R R)) (aQ 2 R R gy R R R R R R (lB R (aG (aH (cK (gE (dJ ?_)))))))
 cases j
 obtain rfl:=cm _ R
 have j:=co
 refine aR ?_
 cases j
 exact ft (vs:=[(.agg [(.slice none 0 0),(aA ([]:aD)),(aA ([]:aD)),(.slice none 0 0),(.slice none 0 0),(.slice none 0 0),(.slice none 0 0)].toArray),(.bool false)]) (.inl R) ((none,0,0),(none,0,0),(none,0,0),(none,0,0),(none,0,0)) R ⟨⟨2,b4,_,_,R,R,.inl ⟨kU,gy,R⟩⟩,R,trivial⟩ R (fun w s=>((((((s.nilr bI).nilr kT3).nilo kT3 3).nilo kT36 36).nilo kT3 3).e 13 [4,3,2,1,0]))
 refine cS ?_
 cases j
 exact qA (az,(ae++([(ix Y (IntKind.wrap .u8 ((bt q a7) - 97)))]:List Int)).length,b3) (tE 6 [1,2,3,4,0,5])
 refine aR ?_
 cases j
 obtain rfl:=cm _ R
 have j:=co
 refine bD ?_
 exact qI (ae,(c6,ae.length,c9)) j (fun w s=>(s.f 6 [0,5]))
 rintro ⟨F,⟨T,ch,U⟩⟩ σ1 j
 dsimp only [Z3_J8] at j
 refine aY 4 aC (fun (hn:ch=F.length)=>?_)
 subst hn
 refine bS ?_
 obtain ⟨an,j⟩:=gd j
 obtain ⟨E,bw,j⟩:=bd j
 refine aR ?_
 refine lO (vp (aA i.2.1) R) (lO (vz (il i.2.1) (bM cR R)) (kK (fun w s=>s.shr 4 R) (kb (K:=kT3) (0:Int) (i.2.1.length:Int) 0 R R cW eC R R R R an.1 an.2.1 an.2.2 (fun bg bj=>(lM (RR kT3 bg bj (sub F (0:Int) (i.2.1.length:Int))::RR kT3 bg bj (sub F (0:Int) (i.2.1.length:Int))::RR kT3 T U F::_::_::_::aV O [(sc G i.1 u),(aA i.2.1),(aA q),(sc T F U),(.slice none 0 0),(.slice none 0 0),(.slice none 0 0)] 86::W0) (fun w s=>(s.d 0 R)) ?_)))))
 refine lC 1 jz R (Zw_ok bw) R ?_
 rintro ⟨J,di,M⟩
 refine aX 0 aC ?_
 rintro rfl
 refine bS ?_
 refine eA 6 R R gx R R R R R (lN (_::_::_::_::_::_::aV O [(sc G i.1 u),(aA i.2.1),(aA q),(sc T F U),(sc J E M),(.slice none 0 0),(.slice none 0 0)] 86::W0) ?_)
 refine bN ?_
 obtain ⟨dw,bz,j⟩:=bd j
 refine aR ?_
 refine lC 1 mg R (FnOk.lends (A':=[OO kT3 3 J M E]) (A:=[RR kT3 J M E]) (B:=[]) (Zc_ok bz) ⟨bB,trivial⟩ (fun _=>trivial)) R ?_
 rintro _
 refine aR ?_
 split at j
 refine aR ?_
 refine lO (vz (.agg [(.slice none 0 0),(aA ([]:aD)),(aA ([]:aD)),(.slice none 0 0),(.slice none 0 0),(.slice none 0 0),(.slice none 0 0)].toArray) (bX mi jy R R)) (aQ 4 R R gy R R R R R R (lB R (aG (aH (cK (dJ ?_))))))
 cases j
 exact ft (vs:=[(.agg [(.slice none 0 0),(aA ([]:aD)),(aA ([]:aD)),(.slice none 0 0),(.slice none 0 0),(.slice none 0 0),(.slice none 0 0)].toArray),(.bool false)]) (.inl R) ((none,0,0),(none,0,0),(none,0,0),(none,0,0),(none,0,0)) R ⟨⟨4,b4,_,_,R,R,.inl ⟨kU,gy,R⟩⟩,R,trivial⟩ R (fun w s=>((((((s.nilr bI).nilr kT3).nilo kT3 3).nilo kT36 36).nilo kT3 3).e 14 [4,3,2,1,0]))
 refine bN ?_
 refine aW (A:=((List (List Int)))×(HH)) (fun a=>Z3_J9 i q F E a.1=some r) (fun a=>[(4,(pt b4 0)),(7,(aA i.2.1)),(9,(pt O 0))]) (fun a=>aV b4 [(.slice none 0 0),(aA ([]:aD)),(aA ([]:aD)),(.slice none 0 0),(.slice none 0 0),(.slice none 0 0),(.slice none 0 0)] 86::aV O [(sc G i.1 u),(aA i.2.1),(aA q),(sc T F U),(sc J E M),(s3 a.2),(.slice none 0 0)] 86::RR bI G u i.1::RR kT3 T U F::OO kT3 3 J M E::ow kT36 36 (s3 a.2) a.1::W0) ?_ ?_
 refine dO ?_
 obtain ⟨e4,d6,d2⟩:=bd j
 refine aP (A:=HH) d6 (fun s a=>[(1,(sc aa g ab)),(4,(pt b4 0)),(7,(aA i.2.1)),(9,(pt O 0)),(150,(sc G i.1 u)),(151,(il i.1)),(152,(iv s.2))]) (fun s a=>RR kT36 aa ab g::aV b4 [(.slice none 0 0),(aA ([]:aD)),(aA ([]:aD)),(.slice none 0 0),(.slice none 0 0),(.slice none 0 0),(.slice none 0 0)] 86::aV O [(sc G i.1 u),(aA i.2.1),(aA q),(sc T F U),(sc J E M),(s3 a),(.slice none 0 0)] 86::RR bI G u i.1::RR kT3 T U F::OO kT3 3 J M E::ow kT36 36 (s3 a) s.1::W0) (none,0,0) (aS R) (fun w s=>((s.nilo kT36 36).e 8 [4,5,7,6,3,1,0])) ?_
 rintro ⟨a2,aj⟩ ⟨au,ci,aw⟩ σ1 du j d0
 dsimp only [Z3_L4] at j
 refine aY 6 aC (fun (hn:ci=a2.length)=>?_)
 subst hn
 refine bJ ?_
 split at j
 refine bJ ?_
 obtain ⟨ao,j⟩:=gd j
 refine bD ?_
 refine aZ 3 aB (show 0<i.1.length by have:=ao; omega) (fun b8 o207 ha=>?_)
 subst ha
 refine bS ?_
 refine lO (vz (aA (ix i.1 aj)) (eE (K:=bI) (fo:=0) (pr:=fun x=>(aA x)) 3 aj jx (dT9.leaf fun _ _=>R) aB R ao.1 ao.2)) (lI R (lO (vp (aA (ix i.1 aj)) R) ?_))
 refine bD ?_
 obtain ⟨ap,j⟩:=gd j
 obtain ⟨bc,c0,j⟩:=bd j
 obtain ⟨a9,c1,j⟩:=bd j
 obtain ⟨bs,j⟩:=gd j
 refine bU 0 aB (show 0<g.length by have:=ap; omega) (fun ds o210 ha=>?_)
 subst ha
 refine fQ (K:=kT36) 0 aj dT36.dec R ap.1 ap.2 ?_
 rintro ⟨db,df⟩
 refine eF 11 [] b' fun ht hn=>?_
 refine i6 0 [] ?_
 refine dR 3 R (vp (aA (ix i.1 aj)) R) ?_
 refine i6 4 [] ?_
 refine dR 7 R (fv (fo:=0) 0 fW R R R) (d1 8 R (lM (_::_::_::_::_::_::_::_::_::_::W0) (fun w s=>(s.d 1 R)) ?_))
 refine lC 1 qY R (Zb_ok c0) R ?_
 rintro ⟨b0,dj,b5⟩
 refine aX 0 aC ?_
 rintro rfl
 refine aG (aJ (sL [0]) (d1 9 R (lM (ow _ _ _ _::ow _ _ _ _::ow _ _ _ _::bF _ _ _::bF _ _ _::bF kT3 (.slice none 0 0) ([]:List Int)::cl _ _ _::bF _ _ _::bF _ _ _::aV _ _ _::aV _ _ _::bF _ _ _::bF _ _ _::W0) (fun w s=>((((s.d 6 R).d 8 R).nilr kT3).f 13 [11,2,3,1,2,1,1,1,0,1,4,7])) ?_)))
 refine lC 6 pQ R (FnOk.lends (A':=[OO kT3 3 J M E,OO kT36 36 au aw a2,OO kT3 3 b0 b5 bc]) (A:=[RR kT3 J M E,RR kT36 au aw a2,RR kT3 b0 b5 bc]) (B:=[RR bI (ad b8 o207) u i.1,RR kT3 T U F,bF kT3 (.slice none 0 0) ([]:List Int)]) (FnOk.perm (Z8_ok (f1:=(⟨i.1,i.2.1,q,F,E,a2,([]:List Int)⟩:form)) c1) (Pre':=[RR kT3 J M E,RR kT36 au aw a2,RR kT3 b0 b5 bc,RR bI (ad b8 o207) u i.1,RR kT3 T U F,bF kT3 (.slice none 0 0) ([]:List Int)]) (fun _ _ _ s=>(s.e 6 [3,4,0,1,5,2]))) ⟨bB,bB,bB,trivial⟩ (fun _=>⟨(bP jT),trivial⟩)) R ?_
 rintro ⟨bh,dk,bk⟩
 refine aX 3 aC ?_
 rintro rfl
 refine aG (aJ (fun w s=>(s.f 11 [4,7,0,2])) (d1 10 R (lM (ow _ _ _ _::ow _ _ _ _::ow _ _ _ _::ow _ _ _ _::cl _ _ _::bF _ _ _::bF _ _ _::aV _ _ _::aV _ _ _::bF _ _ _::bF _ _ _::W0) (fun w s=>(s.f 11 [3,1,0,3,4,7])) ?_)))
 refine bV (K:=kT36) (xs:=([a9]:List (List Int))) (vs:=[(sc bh a9 bk)]) 1 R R kT gx mf R R R R R R ?_ R (fun dc dh=>?_)
 exact fun I h s=>(oD).list [((sc bh a9 bk),a9)] I h s
 refine aG (aJ (fun w s=>(s.f 11 [4,7,1,2])) (d1 11 R (lM (ow _ _ _ _::ow _ _ _ _::ow _ _ _ _::ow _ _ _ _::cl _ _ _::bF _ _ _::bF _ _ _::aV _ _ _::aV _ _ _::bF _ _ _::bF _ _ _::W0) (fun w s=>(s.f 11 [2,1,0,2,3,8])) ?_)))
 refine fp (K:=kT36) 5864062014805 R R kT gx qR (Zr.zk zT36 mf) R R R R R R eI bs (fun b1 b6=>(lN (OO kT36 36 b1 b6 (a2++([a9]:List (List Int)))::_::_::_::_::_::_::_::_::_::W0) ?_))
 refine aG (qE (d1 12 R (lO (um 5 nb R) (aG (qE (d1 13 R (eA 7 R R tx R R R R R (lN (_::_::_::_::_::_::_::aV O [(sc (ad b8 o207) i.1 u),(aA i.2.1),(aA q),(sc T F U),(sc J E M),(sc b1 (a2++([a9]:List (List Int))) b6),(.slice none 0 0)] 86::_::_::W0) ?_))))))))
 refine aG (qE (dD ?_))
 refine bJ ?_
 cases j
 exact qA (b1,(a2++([a9]:List (List Int))).length,b6) (fun w s=>(s.f 10 [5,5,1,1,0,1]))
 refine aR ?_
 cases j
 obtain rfl:=d0 _ R
 have j:=d2
 refine bD ?_
 exact qI (a2,(au,a2.length,aw)) j (fun w s=>(s.f 7 [1,6]))
 rintro ⟨f224,⟨a4,cj,a5⟩⟩ σ1 j
 dsimp only [Z3_J9] at j
 refine aY 5 aC (fun (hn:cj=f224.length)=>?_)
 subst hn
 refine bS ?_
 obtain ⟨be,c2,j⟩:=bd j
 obtain ⟨ay,c3,j⟩:=bd j
 refine eF 7 [] b' fun ht hn=>?_
 refine pE 0 [] ?_
 refine dR 1 R (vp (aA i.2.1) R) ?_
 refine iz 2 [] ?_
 refine d1 4 R (lM (ow _ _ _ _::aV _ _ _::aV O [(sc G i.1 u),(aA i.2.1),(aA q),(sc T F U),(sc J E M),(sc a4 f224 a5),(.slice none 0 0)] 86::RR bI G u i.1::bF _ _ _::OO kT36 36 a4 a5 f224::W0) (tE 6 [4,0,1,2,3,5]) ?_)
 refine lC 1 qY R (FnOk.lends (A':=[OO kT3 3 J M E]) (A:=[RR kT3 J M E]) (B:=[]) (Zb_ok c2) ⟨bB,trivial⟩ (fun _=>⟨(bP jT),trivial⟩)) R ?_
 rintro ⟨b2,dl,b7⟩
 refine aX 1 aC ?_
 rintro rfl
 refine aG (aJ (tE 7 [2,3,4,5,0,6]) (d1 5 R (lM (ow _ _ _ _::ow _ _ _ _::ow _ _ _ _::bF _ _ _::bF _ _ _::bF kT3 (.slice none 0 0) ([]:List Int)::aV _ _ _::aV _ _ _::bF _ _ _::bF _ _ _::W0) (fun w s=>((((s.d 4 R).d 6 R).nilr kT3).e 10 [3,9,4,2,1,0,5,6,7,8])) ?_)))
 refine lC 6 pQ R (FnOk.lends (A':=[OO kT3 3 J M E,OO kT36 36 a4 a5 f224,OO kT3 3 b2 b7 be]) (A:=[RR kT3 J M E,RR kT36 a4 a5 f224,RR kT3 b2 b7 be]) (B:=[RR bI G u i.1,RR kT3 T U F,bF kT3 (.slice none 0 0) ([]:List Int)]) (FnOk.perm (Z8_ok (f1:=(⟨i.1,i.2.1,q,F,E,f224,([]:List Int)⟩:form)) c3) (Pre':=[RR kT3 J M E,RR kT36 a4 a5 f224,RR kT3 b2 b7 be,RR bI G u i.1,RR kT3 T U F,bF kT3 (.slice none 0 0) ([]:List Int)]) (fun _ _ _ s=>(s.e 6 [3,4,0,1,5,2]))) ⟨bB,bB,bB,trivial⟩ (fun _=>⟨(bP jT),trivial⟩)) R ?_
 rintro ⟨av,dm,ax⟩
 refine aX 3 aC ?_
 rintro rfl
 refine aG (aJ (fun w s=>(s.f 8 [4,4,0,2])) (dR 6 R (um 6 nc R) (hS:=(fun w s=>(s.f 8 [4,4,0,2]))) (d1 7 R (eA 5 R R gx R R R R R (lN (_::_::_::_::_::aV O [(sc G i.1 u),(aA i.2.1),(aA q),(sc T F U),(sc J E M),(sc a4 f224 a5),(sc av ay ax)] 86::_::_::W0) ?_)))))
 refine aG (qE (dD ?_))
 refine bN ?_
 refine aQ 4 R R gy R R R R R R (lN (_::_::_::_::aV b4 [(sc G i.1 u),(aA i.2.1),(aA q),(sc T F U),(sc J E M),(sc a4 f224 a5),(sc av ay ax)] 86::_::_::_::W0) ?_)
 refine bN ?_
 cases j
 exact ft (vs:=[(.agg [(sc G i.1 u),(aA i.2.1),(aA q),(sc T F U),(sc J E M),(sc a4 f224 a5),(sc av ay ax)].toArray),(.bool true)]) (.inl R) ((G,i.1.length,u),(T,F.length,U),(J,E.length,M),(a4,f224.length,a5),(av,ay.length,ax)) R ⟨⟨4,b4,_,_,R,R,.inl ⟨kU,gy,R⟩⟩,R,trivial⟩ R (tE 10 [6,7,0,1,3])
theorem Z0g_ok  {i:Int}{j:Int}{a:Int}{r:Int}(e:Z0g i j a=some r) :
 FnOk Tryz.prog 59 [(iv i),(iv j),(iv a)] [] (fun (h:Unit)=>((iv r),[])):=by
 unfold Z0g at e
 refine aU Tryz.func59 R 12 R R fun C V=>?_
 refine cN V ?_
 refine bJ ?_
 obtain ⟨g,e⟩:=gd e
 refine cV ?_
 refine lO (vz (iv (aK ((aK (i*j)).tdiv a))) (ln R R g)) ?_
 refine bN ?_
 cases e
 exact qF () tI
theorem Z0q_ok  {a:(List Int)}{r:View}(g:Z0q a=some r) :
 FnOk Tryz.prog 26 [(.slice A2 N2 D2)] [bF kT3 (.slice A2 N2 D2) a] (fun (h:HH×HH)=>((.agg [(s3 h.1),(s3 h.2),(iv r.Offset),(iv r.Base)].toArray),[ow kT3 3 (s3 h.1) r.Dims,ow kT3 3 (s3 h.2) r.Strides])):=by
 unfold Z0q at g
 refine aU Tryz.func26 R 14 R R fun C V=>?_
 refine cL 0 aB ?_
 rintro rfl
 let G:=RR kT3 A2 D2 a::V
 refine cN G ?_
 refine bD ?_
 refine bO R R gO (fun J=>(aG (aH (aL (aL ?_)))))
 obtain ⟨M,D,g⟩:=bd g
 refine bD ?_
 refine lM _ (fun w s=>(s.d 1 R)) ?_
 refine lC 1 mg R (Zc_ok D) R ?_
 rintro _
 refine aR ?_
 split at g
 refine aR ?_
 refine lO (vz (.agg [(.slice none 0 0),(.slice none 0 0),(iv 0),(iv 0)].toArray) (bX kV gO R R)) (aQ 0 R R hB R R R R R R (aG (aH (cK (dJ ?_)))))
 cases g
 exact qS ((none,0,0),(none,0,0)) (fun w s=>(((s.nilo kT3 3).nilo kT3 3).e 4 [1,0]))
 refine bN ?_
 obtain ⟨F,E,g⟩:=bd g
 obtain ⟨m,q,g⟩:=bd g
 obtain ⟨B,u,g⟩:=bd g
 refine bD ?_
 refine lM _ (fun w s=>(s.d 1 R)) ?_
 refine lC 1 jz R (Zw_ok E) R ?_
 rintro ⟨A9,N9,D9⟩
 refine aX 0 aC ?_
 rintro rfl
 refine lS R (lM _ (fun w s=>(s.d 2 R)) ?_)
 refine lC 1 qY R (Zb_ok q) R ?_
 rintro ⟨i,I,j⟩
 refine aX 0 aC ?_
 rintro rfl
 refine lS R (lM _ (fun w s=>(s.d 3 R)) ?_)
 refine lC 1 mh R (Ze_ok u) R ?_
 rintro _
 refine lO (vz (.agg [(sc A9 F D9),(sc i m j),(iv 0),(iv B)].toArray) (bX kV gO R R)) (aQ 2 R R hB R R R R R R (lN (_::_::aV J [(sc A9 F D9),(sc i m j),(iv 0),(iv B)] 47::G) ?_))
 refine aR ?_
 cases g
 exact qS ((A9,F.length,D9),(i,m.length,j)) (tE 4 [1,0])
theorem Zk_ok  {v1:View}{r:Bool}(g:Zk v1=some r) :
 FnOk Tryz.prog 90 [(.agg [(.slice A2 N2 D2),(.slice A3 N3 D3),(iv v1.Offset),(iv v1.Base)].toArray)] [bF kT3 (.slice A2 N2 D2) v1.Dims,bF kT3 (.slice A3 N3 D3) v1.Strides] (fun (h:Unit)=>((.bool r),[])):=by
 unfold Zk at g
 refine aU Tryz.func90 R 91 R R fun C V=>?_
 refine cL 0 aB ?_
 rintro rfl
 refine cL 1 aB ?_
 rintro rfl
 let W0:=RR kT3 A2 D2 v1.Dims::RR kT3 A3 D3 v1.Strides::V
 refine cN W0 ?_
 refine bD ?_
 refine kC R fun E=>?_
 refine bD ?_
 let u:=aV E [(sc A2 v1.Dims D2),(sc A3 v1.Strides D3),(iv v1.Offset),(iv v1.Base)] 47::W0
 refine qN u ?_
 refine aR ?_
 obtain ⟨D,a4,g⟩:=bd g
 refine cQ [(1,(pt E 0)),(41,(.bool ((((((!D)||((v1.Strides.length:Int) != (v1.Dims.length:Int)))||(decide (v1.Base<1)))||(decide (v1.Base>4096)))||(decide (v1.Offset<0)))||(decide (v1.Offset≥v1.Base)))))] (u) ?_ ?_
 refine aR ?_
 refine lM _ (fun w s=>(s.d 1 R)) ?_
 refine lC 1 mg R (Zc_ok a4) R ?_
 rintro _
 refine lN u ?_
 refine bD ?_
 rcases bo (!D) with a0 | a0
 refine uw ?_
 exact qj tI
 refine cS ?_
 rcases bo ((!D)||((v1.Strides.length:Int) != (v1.Dims.length:Int))) with a1 | a1
 refine uv ?_
 exact qj tI
 refine cV ?_
 rcases bo (((!D)||((v1.Strides.length:Int) != (v1.Dims.length:Int)))||(decide (v1.Base<1))) with a2 | a2
 refine qw ?_
 exact qj tI
 refine cV ?_
 rcases bo ((((!D)||((v1.Strides.length:Int) != (v1.Dims.length:Int)))||(decide (v1.Base<1)))||(decide (v1.Base>4096))) with F | F
 refine iS ?_
 exact qj tI
 refine cV ?_
 rcases bo (((((!D)||((v1.Strides.length:Int) != (v1.Dims.length:Int)))||(decide (v1.Base<1)))||(decide (v1.Base>4096)))||(decide (v1.Offset<0))) with G | G
 refine eD ?_
 exact qj tI
 refine eD ?_
 exact qj tI
 rintro σ1
 refine bS ?_
 split at g
 refine dO ?_
 cases g
 exact qF () (tE 3 [])
 refine bN ?_
 refine eF 6 [] b' fun ht hn=>?_
 refine ux 0 [] ?_
 refine dD (aH (aL (aW (A:=(Int×Int)×(Unit)) (fun a=>Zk_J1 v1 a.1.1 a.1.2=some r) (fun a=>[(1,(pt E 0)),(3,(iv a.1.1)),(4,(iv a.1.2))]) (fun a=>u) ?_ ?_)))
 refine cS ?_
 obtain ⟨e1,a3,Y⟩:=bd g
 refine aP (A:=HH) a3 (fun s a=>[(1,(pt E 0)),(3,(iv s.1)),(4,(iv s.2.1)),(47,(s3 a)),(48,(il v1.Strides)),(49,(iv s.2.2))]) (fun s a=>bF kT3 (s3 a) v1.Strides::u) (A3,v1.Strides.length,D3) (aS R) (fun w s=>(s.d 2 R)) ?_
 rintro ⟨j,i,e⟩ ⟨a6,Z,q⟩ σ1 a5 g M
 dsimp only [Zk_L1] at g
 refine aY 0 aB (fun (hn:Z=v1.Strides.length)=>?_)
 subst hn
 refine bJ ?_
 split at g
 refine bJ ?_
 obtain ⟨O,g⟩:=gd g
 refine bD ?_
 refine aZ 0 aB (show 0<v1.Strides.length by have:=O; omega) (fun B o29 ha=>?_)
 subst ha
 refine dO ?_
 refine cQ [(1,(pt E 0)),(3,(iv j)),(4,(iv i)),(5,(iv e)),(6,(iv (ix v1.Strides e))),(47,(sc (ad B o29) v1.Strides q)),(48,(il v1.Strides)),(49,(iv e)),(59,(.bool ((decide ((ix v1.Strides e)<(-4096:Int)))||(decide ((ix v1.Strides e)>4096)))))] (RR kT3 (ad B o29) q v1.Strides::u) ?_ ?_
 refine bN ?_
 rcases bo (decide ((ix v1.Strides e)<(-4096:Int))) with I | I
 refine bN ?_
 exact qj tI
 refine bN ?_
 exact qj tI
 rintro σ1
 refine bS ?_
 split at g
 refine fD ?_
 cases g
 obtain rfl:=M _ R
 have g:=Y
 refine aR ?_
 cases g
 exact qF () (tE 4 [])
 refine bN ?_
 obtain ⟨T,g⟩:=gd g
 refine bJ ?_
 refine aZ 2 aB (show 0<v1.Dims.length by have:=T; omega) (fun a7 o34 ha=>?_)
 subst ha
 refine bN ?_
 refine lO (vz (iv (if (aK ((ix v1.Strides e)*(aK ((ix v1.Dims e) - 1))))<0 then (aK ((ix v1.Strides e)*(aK ((ix v1.Dims e) - 1)))) else (0:Int))) (pA R R)) ?_
 refine sB ?_
 refine lO (vz (iv (if (aK ((ix v1.Strides e)*(aK ((ix v1.Dims e) - 1))))>0 then (aK ((ix v1.Strides e)*(aK ((ix v1.Dims e) - 1)))) else (0:Int))) (sh R R)) ?_
 refine cS ?_
 cases g
 exact qA ((ad B o29),v1.Strides.length,q) tI
 refine aR ?_
 cases g
 obtain rfl:=M _ R
 have g:=Y
 refine bD ?_
 exact qI ((j,i),()) g (tE 1 [])
 rintro ⟨⟨m,U⟩,_⟩ σ1 g
 dsimp only [Zk_J1] at g
 refine aL (cQ [(2,(.bool ((decide (m≥0))&&(decide (U<v1.Base)))))] (u) ?_ ?_)
 refine bN ?_
 rcases bo (decide (m≥0)) with J | J
 refine eD ?_
 exact qj tI
 refine eD ?_
 exact qj tI
 rintro σ1
 refine bD ?_
 cases g
 exact qF () (tE 3 [])
theorem Z0k_ok  {e:(List Int)}{a:Int}{r:Bool}(j:Z0k e a=some r) :
 FnOk Tryz.prog 93 [(.slice A2 N2 D2),(iv a)] [bF kT3 (.slice A2 N2 D2) e] (fun (h:Unit)=>((.bool r),[])):=by
 unfold Z0k at j
 refine aU Tryz.func93 R 13 R R fun C V=>?_
 refine cL 0 aB ?_
 rintro rfl
 let i:=RR kT3 A2 D2 e::V
 refine cN i ?_
 refine bJ ?_
 refine cQ [(4,(.bool ((decide (a≥0))&&(decide (a<(e.length:Int))))))] (i) ?_ ?_
 refine bN ?_
 rcases bo (decide (a≥0)) with g | g
 refine eD ?_
 exact qj tI
 refine eD ?_
 exact qj tI
 rintro σ1
 refine bD ?_
 cases j
 exact qF () (tE 1 [])
theorem Z09_ok  {v1:View}{g:Int}{e:Int}{i:Int}{B:Nat}{r:View}(u:Z09 v1 g e i=some r) :
 FnOk Tryz.prog 94 [(pt B 0),(iv g),(iv e),(iv i)] [ow kT3 3 (.slice A3 N3 D3) v1.Dims,ow kT3 3 (.slice A4 N4 D4) v1.Strides,aV B [(.slice A3 N3 D3),(.slice A4 N4 D4),(iv v1.Offset),(iv v1.Base)] 47] (fun (h:HH×HH)=>((.tuple [].toArray),[ow kT3 3 (s3 h.1) r.Dims,ow kT3 3 (s3 h.2) r.Strides,aV B [(s3 h.1),(s3 h.2),(iv r.Offset),(iv r.Base)] 47])):=by
 unfold Z09 at u
 refine aU Tryz.func94 R 24 R R fun C V=>?_
 refine cL 0 aC ?_
 rintro rfl
 refine cL 1 aC ?_
 rintro rfl
 refine aL (aW (A:=(Int)×(Unit)) (fun a=>Z09_J3 v1 g e a.1=some r) (fun a=>[(0,(pt B 0)),(1,(iv g)),(2,(iv e)),(3,(iv a.1))]) (fun a=>aV B [(sc A3 v1.Dims D3),(sc A4 v1.Strides D4),(iv v1.Offset),(iv v1.Base)] 47::OO kT3 3 A3 D3 v1.Dims::OO kT3 3 A4 D4 v1.Strides::V) ?_ ?_)
 refine cV ?_
 let G:=aV B [(sc A3 v1.Dims D3),(sc A4 v1.Strides D4),(iv v1.Offset),(iv v1.Base)] 47::V
 refine bS ?_
 split at u
 refine bN ?_
 exact qI ((0:Int),()) u (tE 3 [2,0,1])
 refine bD ?_
 exact qI (i,()) u (tE 3 [2,0,1])
 rintro ⟨j,_⟩ σ1 u
 dsimp only [Z09_J3] at u
 obtain ⟨m,u⟩:=gd u
 obtain ⟨q,u⟩:=gd u
 refine bU 1 aC (show 0<v1.Dims.length by have:=m; omega) (fun D o12 F=>?_)
 subst F
 refine bU 2 aC (show 0<v1.Strides.length by have:=q; omega) (fun E o15 F=>?_)
 subst F
 refine eF 16 [2,1] b' fun M J=>?_
 refine oy 0 [2,1] ?_
 refine d1 13 R (lM _ (tE 3 [1,0,2]) ?_)
 refine dQ (K:=kT3) (x':=e) 0 g R R eC R R m.1 m.2 ?_ ?_
 exact fun I h s=>(i7).put I h () e s
 refine aG (aJ (sL [2,0]) ?_)
 refine pE 14 [2,0] ?_
 refine d1 15 R (lM _ (tE 3 [2,0,1]) ?_)
 refine dQ (K:=kT3) (x':=j) 0 g R R eC R R q.1 q.2 ?_ ?_
 exact fun I h s=>(i7).put I h () j s
 refine aG (aJ (sL [1,0]) (dD ?_))
 cases u
 exact us (((ad D o12),v1.Dims.length,D3),((ad E o15),v1.Strides.length,D4)) (tE 3 [1,0,2])
theorem Z0a_ok  {p1:View}{D:Int}{F:Int}{q:Int}{g:Int}{u:Nat}{G:Nat}{I:Nat}{m:Nat}{e:Nat}{r:Bool×View×Int}(j:Z0a p1 D F q g=some r) :
 FnOk Tryz.prog 157 [(pt u 0),(pt G 0),(pt I 0),(pt m 0),(pt e 0)] [ow kT3 3 (.slice A3 N3 D3) p1.Dims,ow kT3 3 (.slice A4 N4 D4) p1.Strides,aV u [(.slice A3 N3 D3),(.slice A4 N4 D4),(iv p1.Offset),(iv p1.Base)] 47,aV G [(iv D)] 3,aV I [(iv F)] 3,aV m [(iv q)] 3,aV e [(iv g)] 3] (fun (h:HH×HH)=>((.bool r.1),[ow kT3 3 (s3 h.1) r.2.1.Dims,ow kT3 3 (s3 h.2) r.2.1.Strides,aV u [(s3 h.1),(s3 h.2),(iv r.2.1.Offset),(iv r.2.1.Base)] 47,aV G [(iv D)] 3,aV I [(iv F)] 3,aV m [(iv q)] 3,aV e [(iv r.2.2)] 3])):=by
 unfold Z0a at j
 refine aU Tryz.func157 R 86 R R fun C V=>?_
 refine cL 0 aC ?_
 rintro rfl
 refine cL 1 aC ?_
 rintro rfl
 refine bN ?_
 refine qM _ (fun w s=>(s.f 7 [0,3,6,1,3,3])) ?_
 let M:=aV G [(iv D)] 3::aV I [(iv F)] 3::aV m [(iv q)] 3::V
 refine aR ?_
 obtain ⟨J,E,j⟩:=bd j
 refine cQ [(0,(pt u 0)),(1,(pt G 0)),(2,(pt I 0)),(3,(pt m 0)),(4,(pt e 0)),(24,(.bool (((!J)||(decide (F<1)))||(decide (F>4096)))))] (aV u [(sc A3 p1.Dims D3),(sc A4 p1.Strides D4),(iv p1.Offset),(iv p1.Base)] 47::OO kT3 3 A3 D3 p1.Dims::OO kT3 3 A4 D4 p1.Strides::aV e [(iv g)] 3::M) ?_ ?_
 rcases bo (!J) with T | T
 refine eF 15 [] b' fun ht hn=>?_
 refine qx 0 [] ?_
 refine d1 5 R (lC 1 re R (FnOk.lends (A':=[OO kT3 3 A3 D3 p1.Dims]) (A:=[RR kT3 A3 D3 p1.Dims]) (B:=[]) (Z0k_ok E) ⟨bB,trivial⟩ (fun _=>trivial)) R ?_)
 rintro _
 refine aG (aJ (sL []) ?_)
 refine sD 6 [] ?_
 refine dD ?_
 exact qj (tE 4 [2,0,1,3])
 rcases bo ((!J)||(decide (F<1))) with U | U
 refine eF 15 [] b' fun ht hn=>?_
 refine qx 0 [] ?_
 refine d1 5 R (lC 1 re R (FnOk.lends (A':=[OO kT3 3 A3 D3 p1.Dims]) (A:=[RR kT3 A3 D3 p1.Dims]) (B:=[]) (Z0k_ok E) ⟨bB,trivial⟩ (fun _=>trivial)) R ?_)
 rintro _
 refine aG (aJ (sL []) ?_)
 refine sD 6 [] ?_
 refine dD ?_
 exact qj (tE 4 [2,0,1,3])
 refine eF 15 [] b' fun ht hn=>?_
 refine qx 0 [] ?_
 refine d1 5 R (lC 1 re R (FnOk.lends (A':=[OO kT3 3 A3 D3 p1.Dims]) (A:=[RR kT3 A3 D3 p1.Dims]) (B:=[]) (Z0k_ok E) ⟨bB,trivial⟩ (fun _=>trivial)) R ?_)
 rintro _
 refine aG (aJ (sL []) ?_)
 refine sD 6 [] ?_
 refine dD ?_
 exact qj (tE 4 [2,0,1,3])
 rintro σ1
 refine bS ?_
 split at j
 refine dO ?_
 cases j
 exact qF ((A3,p1.Dims.length,D3),(A4,p1.Strides.length,D4)) (tE 7 [1,2,0,4,5,6,3])
 refine bN ?_
 obtain ⟨a2,j⟩:=gd j
 refine bU 1 aC (show 0<p1.Dims.length by have:=a2; omega) (fun i o20 ha=>?_)
 subst ha
 refine eF 8 [] b' fun ht hn=>?_
 refine uy 0 [] ?_
 refine dD ?_
 refine aR ?_
 refine cQ [(0,(pt u 0)),(1,(pt G 0)),(2,(pt I 0)),(3,(pt m 0)),(4,(pt e 0)),(7,(iv (ix p1.Dims D))),(46,(.bool ((((decide (q<0))||(decide (q≥(ix p1.Dims D))))||(decide (g<(-4096:Int))))||(decide (g>4096)))))] (aV u [(sc (ad i o20) p1.Dims D3),(sc A4 p1.Strides D4),(iv p1.Offset),(iv p1.Base)] 47::OO kT3 3 (ad i o20) D3 p1.Dims::OO kT3 3 A4 D4 p1.Strides::aV e [(iv g)] 3::M) ?_ ?_
 refine bN ?_
 rcases bo (decide (q<0)) with Y | Y
 refine ov ?_
 exact qj tI
 refine cV ?_
 rcases bo ((decide (q<0))||(decide (q≥(ix p1.Dims D)))) with Z | Z
 refine dO ?_
 exact qj tI
 refine bN ?_
 rcases bo (((decide (q<0))||(decide (q≥(ix p1.Dims D))))||(decide (g<(-4096:Int)))) with a0 | a0
 refine bN ?_
 exact qj tI
 refine bN ?_
 exact qj tI
 rintro σ1
 refine bS ?_
 split at j
 refine dO ?_
 cases j
 exact qF (((ad i o20),p1.Dims.length,D3),(A4,p1.Strides.length,D4)) (tE 7 [1,2,0,4,5,6,3])
 refine bN ?_
 refine aW (A:=(Int)×(Unit)) (fun a=>Z0a_J3 p1 D F q a.1=some r) (fun a=>[(0,(pt u 0)),(1,(pt G 0)),(2,(pt I 0)),(3,(pt m 0)),(4,(pt e 0))]) (fun a=>aV u [(sc (ad i o20) p1.Dims D3),(sc A4 p1.Strides D4),(iv p1.Offset),(iv p1.Base)] 47::OO kT3 3 (ad i o20) D3 p1.Dims::OO kT3 3 A4 D4 p1.Strides::aV e [(iv a.1)] 3::M) ?_ ?_
 refine bJ ?_
 split at j
 refine ov ?_
 refine cQ [(0,(pt u 0)),(1,(pt G 0)),(2,(pt I 0)),(3,(pt m 0)),(4,(pt e 0)),(61,(.bool ((decide ((aK (q+(aK (g*(aK (F - 1))))))<0))||(decide ((aK (q+(aK (g*(aK (F - 1))))))≥(ix p1.Dims D))))))] (aV u [(sc (ad i o20) p1.Dims D3),(sc A4 p1.Strides D4),(iv p1.Offset),(iv p1.Base)] 47::OO kT3 3 (ad i o20) D3 p1.Dims::OO kT3 3 A4 D4 p1.Strides::aV e [(iv g)] 3::M) ?_ ?_
 refine bN ?_
 rcases bo (decide ((aK (q+(aK (g*(aK (F - 1))))))<0)) with a1 | a1
 refine cV ?_
 exact qj tI
 refine cV ?_
 exact qj tI
 rintro σ1
 refine bS ?_
 split at j
 refine dO ?_
 cases j
 exact qF (((ad i o20),p1.Dims.length,D3),(A4,p1.Strides.length,D4)) (tE 7 [1,2,0,4,5,6,3])
 refine bD ?_
 exact qI (g,()) j tI
 refine bD ?_
 refine eA 3 R R eC R R R R R (lN (aV u [(sc (ad i o20) p1.Dims D3),(sc A4 p1.Strides D4),(iv p1.Offset),(iv p1.Base)] 47::OO kT3 3 (ad i o20) D3 p1.Dims::_::aV e [(iv 0)] 3::M) ?_)
 refine bS ?_
 exact qI ((0:Int),()) j tI
 rintro ⟨aa,_⟩ σ1 j
 dsimp only [Z0a_J3] at j
 refine bS ?_
 obtain ⟨a3,j⟩:=gd j
 refine bU 2 aC (show 0<p1.Strides.length by have:=a3; omega) (fun O o31 ha=>?_)
 subst ha
 refine eF 8 [] b' fun ht hn=>?_
 refine uy 0 [] ?_
 refine dD (aH (aL (eF 11 [0] b' fun ht hn=>?_)))
 refine i6 0 [0] ?_
 refine i6 4 [0] ?_
 refine d1 3 R (lO (su 0 oE R R R) (aG (aJ (sL [0]) ?_)))
 refine i6 7 [0] ?_
 refine d1 10 R (eA 0 R R eC R R R R R (lN (aV u [(sc (ad i o20) p1.Dims D3),(sc (ad O o31) p1.Strides D4),(iv (aK (p1.Offset+(aK (q*(ix p1.Strides D)))))),(iv p1.Base)] 47::_::OO kT3 3 (ad O o31) D4 p1.Strides::aV e [(iv aa)] 3::M) ?_))
 refine aG (aJ (sL [0]) (dD ?_))
 refine bD ?_
 obtain ⟨a5,a4,j⟩:=bd j
 refine eD ?_
 refine lM _ (tE 4 [1,2,0,3]) ?_
 refine lC 3 v7 R (Z09_ok (v1:=(⟨p1.Dims,p1.Strides,(aK (p1.Offset+(aK (q*(ix p1.Strides D))))),p1.Base⟩:View)) a4) R ?_
 rintro ⟨⟨a6,ab,a8⟩,⟨a7,ac,a9⟩⟩
 refine aX 0 aC ?_
 rintro rfl
 refine aX 1 aC ?_
 rintro rfl
 refine dO ?_
 cases j
 exact qF ((a6,a5.Dims.length,a8),(a7,a5.Strides.length,a9)) (fun w s=>(s.f 7 [0,3,4,3,3,1]))
theorem Z15_ok  {v1:View}{q5:Int}{q7:Int}{q9:Int}{a7:Int}{b6:Nat}{b8:Nat}{I:Nat}{J:Nat}{r:View×Int}(F:Z15 v1 q5 q7 q9 a7=some r) :
 FnOk Tryz.prog 91 [(.agg [(.slice A2 N2 D2),(.slice A3 N3 D3),(iv v1.Offset),(iv v1.Base)].toArray),(.func (.func 157) [].toArray [(pt b6 0),(pt b8 0),(pt I 0),(pt J 0)].toArray)] [bF kT3 (.slice A2 N2 D2) v1.Dims,bF kT3 (.slice A3 N3 D3) v1.Strides,aV b6 [(iv q5)] 3,aV b8 [(iv q7)] 3,aV I [(iv q9)] 3,aV J [(iv a7)] 3] (fun (h:HH×HH)=>((.agg [(s3 h.1),(s3 h.2),(iv r.1.Offset),(iv r.1.Base)].toArray),[ow kT3 3 (s3 h.1) r.1.Dims,ow kT3 3 (s3 h.2) r.1.Strides,aV b6 [(iv q5)] 3,aV b8 [(iv q7)] 3,aV I [(iv q9)] 3,aV J [(iv r.2)] 3])):=by
 unfold Z15 at F
 refine aU Tryz.func91 R 31 R R fun C V=>?_
 refine cM _ (fun w s=>(s.f 6 [2,4,0,2])) ?_
 refine cL 4 aB ?_
 rintro rfl
 refine cL 5 aB ?_
 rintro rfl
 let W0:=RR kT3 A2 D2 v1.Dims::RR kT3 A3 D3 v1.Strides::V
 refine bD ?_
 refine kC R fun ak=>?_
 refine bO R R gO (fun Y=>(aG (qM _ (tE 6 [0,2,3,4,5,1]) ?_)))
 let W1:=aV ak [(sc A2 v1.Dims D2),(sc A3 v1.Strides D3),(iv v1.Offset),(iv v1.Base)] 47::W0
 refine aR ?_
 obtain ⟨ar,a9,F⟩:=bd F
 refine bD ?_
 refine lM _ (fun w s=>(((s.d 6 R).d 8 R).f 7 [1,1,0,1,2,5])) ?_
 refine lC 2 tB R (Zk_ok a9) R ?_
 rintro _
 refine aR ?_
 split at F
 refine aR ?_
 refine lO (vz (.agg [(.slice none 0 0),(.slice none 0 0),(iv 0),(iv 0)].toArray) (bX kV gO R R)) (aQ 0 R R hB R R R R R R (aG (aH (cK (dJ ?_)))))
 cases F
 exact qS ((none,0,0),(none,0,0)) (fun w s=>(((s.nilo kT3 3).nilo kT3 3).e 10 [1,0,3,4,5,6]))
 refine bN ?_
 obtain ⟨i,a5,F⟩:=bd F
 obtain ⟨j,Z,F⟩:=bd F
 refine iw (A:=(Unit)×(Nat×HH×HH)) (fun _=>True) (fun a=>[(1,(.func (.func 157) [].toArray [(pt b6 0),(pt b8 0),(pt I 0),(pt J 0)].toArray)),(4,(pt Y 0)),(5,(pt a.2.1 0))]) (fun a=>aV b6 [(iv q5)] 3::aV b8 [(iv q7)] 3::aV I [(iv q9)] 3::aV J [(iv a7)] 3::aV Y [(.slice none 0 0),(.slice none 0 0),(iv 0),(iv 0)] 47::aV a.2.1 [(s3 a.2.2.1),(s3 a.2.2.2),(iv v1.Offset),(iv v1.Base)] 47::ow kT3 3 (s3 a.2.2.1) i::ow kT3 3 (s3 a.2.2.2) j::W1) ?_ ?_
 refine eF 13 [] b' fun ht hn=>?_
 refine iz 0 [] ?_
 refine iz 3 [] ?_
 refine rZ 6 [] ?_
 refine hN [2,11] (by kernel_rfl) R ⟨?_,?_,trivial⟩
 refine lM _ (fun w s=>(s.d 6 R)) ?_
 refine lC 1 jz R (Zw_ok a5) R ?_
 rintro ⟨u,ae,D⟩
 refine aX 0 aC ?_
 rintro rfl
 refine aG (aJ (sL [0]) (hN [5,11] (by kernel_rfl) R ⟨?_,?_,trivial⟩))
 refine lM _ (fun w s=>(s.d 8 R)) ?_
 refine lC 1 jz R (Zw_ok Z) R ?_
 rintro ⟨m,a8,q⟩
 refine aX 0 aC ?_
 rintro rfl
 refine aG (aJ (sL [1,0]) (dR 10 R (vz (.agg [(sc u i D),(sc m j q),(iv v1.Offset),(iv v1.Base)].toArray) (bX kV gO R R)) (hS:=(sL [1,0])) (d1 11 R (bO R R gO (fun G=>(aG (aJ (sL [2,1,0]) (d1 12 R (aQ 0 R R hB R R R R R R (lN (aV G [(sc u i D),(sc m j q),(iv v1.Offset),(iv v1.Base)] 47::_::_::_::_::_::_::_::W1) ?_))))))))))
 refine aG (aJ (sL [2,1,0]) (dD ?_))
 exact cG ((),(G,(u,i.length,D),(m,j.length,q))) trivial (aS R) (tE 8 [4,5,6,7,3,0,2,1])
 refine bO R R gO (fun G=>(aG (aJ (sL [1,0]) (d1 5 R (lM _ (fun w s=>(s.d 9 R)) ?_)))))
 refine lC 1 jz R (Zw_ok Z) R ?_
 rintro ⟨m,a8,q⟩
 refine aX 0 aC ?_
 rintro rfl
 refine aG (aJ (sL [2,1,0]) (dR 10 R (vz (.agg [(sc u i D),(sc m j q),(iv v1.Offset),(iv v1.Base)].toArray) (bX kV gO R R)) (hS:=(sL [2,1,0])) (d1 12 R (aQ 1 R R hB R R R R R R (lN (_::aV G [(sc u i D),(sc m j q),(iv v1.Offset),(iv v1.Base)] 47::_::_::_::_::_::_::W1) ?_)))))
 refine aG (aJ (sL [2,1,0]) (dD ?_))
 exact cG ((),(G,(u,i.length,D),(m,j.length,q))) trivial (aS R) (tE 8 [4,5,6,7,3,1,2,0])
 refine bO R R gO (fun G=>(aG (aJ (sL [0]) (d1 2 R (lM _ (fun w s=>(s.d 7 R)) ?_)))))
 refine lC 1 jz R (Zw_ok a5) R ?_
 rintro ⟨u,ae,D⟩
 refine aX 0 aC ?_
 rintro rfl
 refine aG (aJ (sL [1,0]) (d1 5 R (lM _ (fun w s=>(s.d 9 R)) ?_)))
 refine lC 1 jz R (Zw_ok Z) R ?_
 rintro ⟨m,a8,q⟩
 refine aX 0 aC ?_
 rintro rfl
 refine aG (aJ (sL [2,1,0]) (dR 10 R (vz (.agg [(sc u i D),(sc m j q),(iv v1.Offset),(iv v1.Base)].toArray) (bX kV gO R R)) (hS:=(sL [2,1,0])) (d1 12 R (aQ 2 R R hB R R R R R R (lN (_::_::aV G [(sc u i D),(sc m j q),(iv v1.Offset),(iv v1.Base)] 47::_::_::_::_::_::W1) ?_)))))
 refine aG (aJ (sL [2,1,0]) (dD ?_))
 exact cG ((),(G,(u,i.length,D),(m,j.length,q))) trivial (aS R) (tE 8 [4,5,6,7,3,2,1,0])
 rintro ⟨_,⟨a6,⟨al,ag,an⟩,⟨am,ah,ao⟩⟩⟩ σ1 -
 refine gL 6 aC (fun (hn:ag=i.length)=>?_)
 subst hn
 refine gL 7 aC (fun (hn:ah=j.length)=>?_)
 subst hn
 refine aR ?_
 obtain ⟨g,aa,F⟩:=bd F
 obtain ⟨ac,ab,F⟩:=bd F
 refine iw (A:=(Unit)×(HH×HH)) (fun _=>True) (fun a=>[(4,(pt Y 0)),(5,(pt a6 0)),(28,(.bool ((!g.1)||(!ac))))]) (fun a=>aV Y [(.slice none 0 0),(.slice none 0 0),(iv 0),(iv 0)] 47::aV a6 [(s3 a.2.1),(s3 a.2.2),(iv g.2.1.Offset),(iv g.2.1.Base)] 47::ow kT3 3 (s3 a.2.1) g.2.1.Dims::ow kT3 3 (s3 a.2.2) g.2.1.Strides::aV b6 [(iv q5)] 3::aV b8 [(iv q7)] 3::aV I [(iv q9)] 3::aV J [(iv g.2.2)] 3::W1) ?_ ?_
 refine aE (lO (vp _ R) (lM _ (fun w s=>(s.f 8 [6,2,5,1,0,5])) ?_))
 refine ke (fs:=[]) (cs:=[(pt b6 0),(pt b8 0),(pt I 0),(pt J 0)]) 7 R R tC R R (Z0a_ok (p1:=(⟨i,j,v1.Offset,v1.Base⟩:View)) aa) R ?_
 rintro ⟨⟨M,ap,T⟩,⟨O,aq,U⟩⟩
 refine aX 0 aC ?_
 rintro rfl
 refine aX 1 aC ?_
 rintro rfl
 refine bD ?_
 rcases bo (!g.1) with E | E
 refine aR ?_
 refine lO (rU (!ac) R E) (aG ?_)
 exact cG ((),((M,g.2.1.Dims.length,T),(O,g.2.1.Strides.length,U))) trivial (aS R) (tE 8 [7,2,0,1,3,4,5,6])
 refine lW (cI E) (vz (.agg [(sc M g.2.1.Dims T),(sc O g.2.1.Strides U),(iv g.2.1.Offset),(iv g.2.1.Base)].toArray) (i3 2 tA hB R R R R)) (bZ 2 R (cI E) tB R (FnOk.lends (A':=[OO kT3 3 M T g.2.1.Dims,OO kT3 3 O U g.2.1.Strides]) (A:=[RR kT3 M T g.2.1.Dims,RR kT3 O U g.2.1.Strides]) (B:=[]) (Zk_ok (cB ab (dI E))) ⟨bB,bB,trivial⟩ (fun _=>trivial)) R ?_)
 rintro _
 refine bS ?_
 refine lO (qq R E R) (aG ?_)
 exact cG ((),((M,g.2.1.Dims.length,T),(O,g.2.1.Strides.length,U))) trivial (aS R) (tE 8 [7,2,0,1,3,4,5,6])
 rintro ⟨_,⟨⟨a0,ai,a2⟩,⟨a1,aj,a3⟩⟩⟩ σ1 -
 refine gL 2 aC (fun (hn:ai=g.2.1.Dims.length)=>?_)
 subst hn
 refine gL 3 aC (fun (hn:aj=g.2.1.Strides.length)=>?_)
 subst hn
 refine bS ?_
 rcases eJ F with ⟨a4,F⟩|⟨a4,F⟩
 refine aR ?_
 refine lO (vz (.agg [(.slice none 0 0),(.slice none 0 0),(iv 0),(iv 0)].toArray) (bX kV gO R R)) (aQ 0 R R hB R R R R R R (lN (_::aV a6 [(sc a0 g.2.1.Dims a2),(sc a1 g.2.1.Strides a3),(iv g.2.1.Offset),(iv g.2.1.Base)] 47::OO kT3 3 a0 a2 g.2.1.Dims::OO kT3 3 a1 a3 g.2.1.Strides::_::_::_::_::W1) ?_))
 refine bN ?_
 cases F
 exact qS ((none,0,0),(none,0,0)) (fun w s=>(((s.nilo kT3 3).nilo kT3 3).e 13 [1,0,6,7,8,9]))
 refine bW R a4 ?_
 refine cV ?_
 refine aQ 0 R R hB R R R R R R (lN (aV Y [(sc a0 g.2.1.Dims a2),(sc a1 g.2.1.Strides a3),(iv g.2.1.Offset),(iv g.2.1.Base)] 47::_::_::_::_::_::_::_::W1) ?_)
 refine aR ?_
 cases F
 exact qS ((a0,g.2.1.Dims.length,a2),(a1,g.2.1.Strides.length,a3)) (fun w s=>(s.f 11 [2,6]))
theorem Z0j_ok  {v1:View}{g:Int}{M:Int}{a:Int}{i:Int}{r:View}(E:Z0j v1 g M a i=some r) :
 FnOk Tryz.prog 60 [(.agg [(.slice A2 N2 D2),(.slice A3 N3 D3),(iv v1.Offset),(iv v1.Base)].toArray),(iv g),(iv M),(iv a),(iv i)] [bF kT3 (.slice A2 N2 D2) v1.Dims,bF kT3 (.slice A3 N3 D3) v1.Strides] (fun (h:HH×HH)=>((.agg [(s3 h.1),(s3 h.2),(iv r.Offset),(iv r.Base)].toArray),[ow kT3 3 (s3 h.1) r.Dims,ow kT3 3 (s3 h.2) r.Strides])):=by
 unfold Z0j at E
 refine aU Tryz.func60 R 14 R R fun C V=>?_
 refine cL 0 aB ?_
 rintro rfl
 refine cL 1 aB ?_
 rintro rfl
 let O:=RR kT3 A2 D2 v1.Dims::RR kT3 A3 D3 v1.Strides::V
 refine cN O ?_
 refine bD ?_
 refine kC R fun Z=>?_
 refine gG (cs:=[(iv g)]) R R R (fun b9=>(gG (cs:=[(iv M)]) R R R (fun F=>(gG (cs:=[(iv a)]) R R R (fun G=>(gG (cs:=[(iv i)]) R R R (fun I=>(bO R R gO (fun J=>(aG ?_))))))))))
 let Y:=aV Z [(sc A2 v1.Dims D2),(sc A3 v1.Strides D3),(iv v1.Offset),(iv v1.Base)] 47::O
 refine bD ?_
 obtain ⟨j,D,E⟩:=bd E
 refine bD ?_
 refine lO (vp (.func (.func 157) [].toArray [(pt b9 0),(pt G 0),(pt F 0),(pt I 0)].toArray) R) (lM _ (fun w s=>(((s.d 6 R).d 8 R).e 7 [1,0,6,4,5,3,2])) ?_)
 refine lC 6 v8 R (Z15_ok D) R ?_
 rintro ⟨⟨m,T,u⟩,⟨q,U,B⟩⟩
 refine aX 0 aC ?_
 rintro rfl
 refine aX 1 aC ?_
 rintro rfl
 refine aQ 6 R R hB R R R R R R (lN (_::_::_::_::_::_::aV J [(sc m j.1.Dims u),(sc q j.1.Strides B),(iv j.1.Offset),(iv j.1.Base)] 47::Y) ?_)
 refine aR ?_
 cases E
 exact qS ((m,j.1.Dims.length,u),(q,j.1.Strides.length,B)) (tE 10 [0,1])
theorem Z14_ok  {g:(List Int)}{a:(List Int)}{e:Int}{r:(List Int)×Int×(List Int)}(u:Z14 g a e=some r) :
 FnOk Tryz.prog 158 [(.slice A2 N2 D2),(.slice A4 N4 D4),(iv e)] [bF kT3 (.slice A2 N2 D2) g,bF kT3 (.slice A4 N4 D4) a] (fun (h:HH×Nat×Nat×HH×Nat)=>((.func (.func 193) [].toArray [(pt h.2.1 0),(pt h.2.2.1 0),(pt h.2.2.2.2 0)].toArray),[bF kT3 (s3 h.1) r.1,aV h.2.1 [(s3 h.1)] 36,aV h.2.2.1 [(iv r.2.1)] 3,bF kT3 (s3 h.2.2.2.1) r.2.2,aV h.2.2.2.2 [(s3 h.2.2.2.1)] 36])):=by
 unfold Z14 at u
 refine aU Tryz.func158 R 8 R R fun C V=>?_
 refine cL 0 aB ?_
 rintro rfl
 refine cL 1 aB ?_
 rintro rfl
 let q:=RR kT3 A2 D2 g::RR kT3 A4 D4 a::V
 refine cN q ?_
 refine bD ?_
 refine gG (cs:=[(sc A2 g D2)]) R R R (fun i=>(gG (cs:=[(sc A4 a D4)]) R R R (fun j=>(gG (cs:=[(iv e)]) R R R (fun m=>(lO (vp _ R) (aG ?_)))))))
 let B:=aV m [(iv e)] 3::aV j [(sc A4 a D4)] 36::aV i [(sc A2 g D2)] 36::q
 refine qN B ?_
 refine aR ?_
 refine lO (vp (.func (.func 193) [].toArray [(pt i 0),(pt m 0),(pt j 0)].toArray) R) (lO (vp _ R) ?_)
 refine aR ?_
 cases u
 exact qF ((A2,g.length,D2),i,m,(A4,a.length,D4),j) (tE 5 [3,2,0,4,1])
theorem Za_ok  {YS:Type}{YF:YS→Int→Option (YS×Bool)}{j:YS}{E:(List Int)}{p5:Int}{Y:(List Int)}{O:Nat}{b6:Nat}{T:Nat}{YE:YS→HP}{yl:Nat}(hy:∀ s x q,YF s x=some q→un Tryz.prog yl [.int .i64 x] [YE s] (fun _:Unit=>(.bool q.2,[YE q.1]))){r:YS}(e:Za YS YF j E p5 Y=some r) :
 FnOk Tryz.prog 193 [(.func (.yield yl) #[] #[]),(pt O 0),(pt b6 0),(pt T 0)] [YE j,bF kT3 (.slice A4 N4 D4) E,aV O [(.slice A4 N4 D4)] 36,aV b6 [(iv p5)] 3,bF kT3 (.slice A9 N9 D9) Y,aV T [(.slice A9 N9 D9)] 36] (fun (h:Unit)=>((.tuple [].toArray),[YE r,aV O [(.slice A4 N4 D4)] 36,aV b6 [(iv p5)] 3,aV T [(.slice A9 N9 D9)] 36])):=by
 unfold Za at e
 refine aU Tryz.func193 R 60 R R fun C V=>?_
 refine cM (YE j::aV _ _ _::aV _ _ _::aV _ _ _::bF _ _ _::bF _ _ _::V) (tE 6 [0,2,3,5,1,4]) ?_
 refine cL 4 aB ?_
 rintro rfl
 refine cL 5 aB ?_
 rintro rfl
 let W0:=RR kT3 A4 D4 E::RR kT3 A9 D9 Y::V
 refine bS ?_
 obtain ⟨F,e⟩:=gd e
 refine aR ?_
 refine eZ (K:=kT3) (m:=(E.length:Int)) (z:=(0:Int)) R R cW eC jt (Zr.zk zT3 gN) (by decide) R R F.1 F.2.1 F.2.2 (fun D u=>(lS R (aG ?_)))
 let U:=aV O [(sc A4 E D4)] 36::aV b6 [(iv p5)] 3::aV T [(sc A9 Y D9)] 36::W0
 refine dO ?_
 obtain ⟨e1,ab,a4⟩:=bd e
 refine aP (A:=Unit) ab (fun s a=>[(0,(.func (.yield yl) #[] #[])),(1,(pt O 0)),(3,(pt T 0)),(5,(sc D (List.replicate (E.length:Int).toNat (0:Int)) u)),(6,(iv s.2.1))]) (fun s a=>ow kT3 3 (.slice D (List.replicate (E.length:Int).toNat (0:Int)).length u) s.1::YE s.2.2::U) () (aS R) tI ?_
 rintro ⟨J,al,ag⟩ _ σ1 a8 e a0
 dsimp only [Za_L1] at e
 refine aR ?_
 obtain ⟨M,a6,e⟩:=bd e
 refine qt 2 R (fun _ _ h=>h) (lO (vp (.func (.yield yl) #[] #[]) R) (lI R (lM (YE ag::ow kT3 3 (.slice D (List.replicate (E.length:Int).toNat (0:Int)).length u) J::U) (tE 2 [1,0]) ?_)))
 refine aG (ou 1 R R (hy _ _ _ a6) R (fun _ _ h=>h) R (fun _=>(lN (YE M.1::_::U) ?_)))
 refine aR ?_
 split at e
 refine bN ?_
 cases e
 obtain rfl:=a0 _ R
 have e:=a4
 refine bD ?_
 cases e
 exact us () (tE 7 [0,2,3,4])
 refine iS ?_
 refine aW (A:=((List Int)×Int×Int)×(Unit)) (fun a=>Za_J2 YS YF M a.1.1 a.1.2.1 a.1.2.2=some a8) (fun a=>[(0,(.func (.yield yl) #[] #[])),(1,(pt O 0)),(3,(pt T 0)),(5,(sc D (List.replicate (E.length:Int).toNat (0:Int)) u)),(6,(iv a.1.2.1)),(7,(iv a.1.2.2))]) (fun a=>ow kT3 3 (.slice D (List.replicate (E.length:Int).toNat (0:Int)).length u) a.1.1::YE M.1::U) ?_ ?_
 refine bS ?_
 obtain ⟨e2,ac,a5⟩:=bd e
 refine aP (A:=Unit) ac (fun s a=>[(0,(.func (.yield yl) #[] #[])),(1,(pt O 0)),(3,(pt T 0)),(5,(sc D (List.replicate (E.length:Int).toNat (0:Int)) u)),(6,(iv s.2.1)),(7,(iv s.2.2))]) (fun s a=>ow kT3 3 (.slice D (List.replicate (E.length:Int).toNat (0:Int)).length u) s.1::YE M.1::U) () (aS R) (tE 2 [1,0]) ?_
 rintro ⟨g,a9,i⟩ _ σ1 ah e a1
 dsimp only [Za_L2] at e
 refine eD ?_
 split at e
 refine bJ ?_
 obtain ⟨B,e⟩:=gd e
 refine aR ?_
 refine aZ 0 aC (show 0<(List.replicate (E.length:Int).toNat (0:Int)).length by have:=B; omega) (fun aa o80 Z=>?_)
 subst Z
 refine bN ?_
 refine dQ (K:=kT3) (x':=(aK ((ix g i)+1))) 0 i R R eC R R B.1 B.2 ?_ ?_
 exact fun I h s=>(i7).put I h () (aK ((ix g i)+1)) s
 refine aR ?_
 obtain ⟨a2,e⟩:=gd e
 refine bN ?_
 refine aZ 6 aB (show 0<Y.length by have:=a2; omega) (fun ai o83 Z=>?_)
 subst Z
 refine dO ?_
 obtain ⟨a3,e⟩:=gd e
 refine bU 5 aB (show 0<E.length by have:=a3; omega) (fun aj o86 Z=>?_)
 subst Z
 refine eF 9 [] b' fun ht hn=>?_
 refine sD 0 [] ?_
 refine dD (aH ?_)
 split at e
 refine aR ?_
 refine mE R (fz ?_)
 cases e
 obtain rfl:=a1 _ R
 have e:=a5
 refine bD ?_
 exact qI (((g.set i.toNat (aK ((ix g i)+1))),(aK (a9+(ix Y i))),i),()) e tI
 refine bN ?_
 refine eF 12 [] b' fun ht hn=>?_
 refine qy 0 [] ?_
 refine dD ?_
 refine cV ?_
 refine dQ (K:=kT3) (x':=(0:Int)) 0 i R R eC R R B.1 B.2 ?_ ?_
 exact fun I h s=>(i7).put I h () (0:Int) s
 refine bS ?_
 obtain ⟨ae,G,e⟩:=bd e
 replace G:=Option.some.inj G
 refine qM (ow kT3 3 (.slice (ad aa o80) (List.replicate (E.length:Int).toNat (0:Int)).length u) ae::_::U) (fun w s=>by rw [← G]; exact s) ?_
 refine eD ?_
 cases e
 exact qA () tI
 refine aR ?_
 cases e
 obtain rfl:=a1 _ R
 have e:=a5
 refine bD ?_
 exact qI ((g,a9,i),()) e tI
 rintro ⟨⟨a7,am,ak⟩,_⟩ σ1 e
 dsimp only [Za_J2] at e
 refine bJ ?_
 split at e
 refine aR ?_
 cases e
 obtain rfl:=a0 _ R
 have e:=a4
 refine bD ?_
 cases e
 exact us () (fun w s=>(s.f 7 [1,4]))
 refine aR ?_
 cases e
 exact qA () tI
theorem Z0l_ok  {g:(List Int)}{v3:View}{r:Tensor}(Z:Z0l g v3=some r) :
 FnOk Tryz.prog 61 [(.slice A2 N2 D2),(.agg [(.slice A4 N4 D4),(.slice A5 N5 D5),(iv v3.Offset),(iv v3.Base)].toArray)] [bF kT3 (.slice A2 N2 D2) g,bF kT3 (.slice A4 N4 D4) v3.Dims,bF kT3 (.slice A5 N5 D5) v3.Strides] (fun (h:HH×HH)=>((.agg [(s3 h.1),(s3 h.2)].toArray),[ow kT3 3 (s3 h.1) r.Dims,ow kT3 3 (s3 h.2) r.Data])):=by
 unfold Z0l at Z
 refine qu Tryz.func61 R 33 R R fun C V=>?_
 refine cL 0 aB ?_
 rintro rfl
 refine cL 1 aB ?_
 rintro rfl
 refine cL 2 aB ?_
 rintro rfl
 refine bD ?_
 refine gG (cs:=[(sc A2 g D2)]) R R R (fun b6=>(kC R (fun b7=>(bO R R dL (fun b8=>(aG (aH (aL ?_))))))))
 obtain ⟨F,ae,Z⟩:=bd Z
 obtain ⟨ab,aa,Z⟩:=bd Z
 obtain ⟨u,Z⟩:=gd Z
 refine iw (A:=(Unit)×(Nat×HH×HH)) (fun _=>True) (fun a=>[(2,(pt b6 0)),(3,(pt b7 0)),(4,(pt b8 0)),(5,(pt a.2.1 0))]) (fun a=>aV b6 [(sc A2 g D2)] 36::RR kT3 A2 D2 g::aV b7 [(sc A4 v3.Dims D4),(sc A5 v3.Strides D5),(iv v3.Offset),(iv v3.Base)] 47::RR kT3 A4 D4 v3.Dims::RR kT3 A5 D5 v3.Strides::aV b8 [(.slice none 0 0),(.slice none 0 0)] 38::aV a.2.1 [(s3 a.2.2.1),(s3 a.2.2.2)] 38::ow kT3 3 (s3 a.2.2.1) F::ow kT3 3 (s3 a.2.2.2) ([]:List Int)::V) ?_ ?_
 refine eF 10 [] b' fun ht hn=>?_
 refine iz 0 [] ?_
 refine iz 3 [] ?_
 refine hN [2,8] (by kernel_rfl) R ⟨?_,?_,trivial⟩
 refine lM _ (fun w s=>(s.d 4 R)) ?_
 refine lC 1 jz R (Zw_ok ae) R ?_
 rintro ⟨M,av,O⟩
 refine aX 0 aC ?_
 rintro rfl
 refine aG (aJ (sL [0]) (hN [5,8] (by kernel_rfl) R ⟨?_,?_,trivial⟩))
 refine lM _ (fun w s=>(s.d 5 R)) ?_
 refine lC 1 mh R (Ze_ok aa) R ?_
 rintro _
 refine aG (aJ (sL [0]) (hN [6,8] (by kernel_rfl) R ⟨?_,?_,trivial⟩))
 refine i5 (K:=kT3) (m:=ab) (z:=zT3.z) R R cW eC jt (Zr.zk zT3 gN) (by decide) R R u.1 u.2.1 u.2.2 (fun B D=>(aG (aJ (sL [1,0]) (dR 7 R (vz (.agg [(sc M F O),(sc B ([]:List Int) D)].toArray) (bX iC dL R R)) (hS:=(sL [1,0])) (d1 8 R (bO R R dL (fun Y=>(aG (aJ (sL [2,1,0]) (d1 9 R (aQ 0 R R cP R R R R R R (lN (aV Y [(sc M F O),(sc B ([]:List Int) D)] 38::OO kT3 3 B D ([]:List Int)::_::_::_::_::_::_::_::V) ?_))))))))))))
 refine aG (aJ (sL [2,1,0]) (dD ?_))
 exact cG ((),(Y,(M,F.length,O),(B,([]:List Int).length,D))) trivial (aS R) (tE 9 [5,6,4,7,8,3,0,2,1])
 refine bO R R dL (fun Y=>(aG (aJ (sL [1,0]) (d1 6 R (i5 (K:=kT3) (m:=ab) (z:=zT3.z) R R cW eC jt (Zr.zk zT3 gN) (by decide) R R u.1 u.2.1 u.2.2 (fun B D=>(aG (aJ (sL [2,1,0]) (dR 7 R (vz (.agg [(sc M F O),(sc B ([]:List Int) D)].toArray) (bX iC dL R R)) (hS:=(sL [2,1,0])) (d1 9 R (aQ 1 R R cP R R R R R R (lN (_::_::_::_::_::_::_::_::_::V) ?_))))))))))))
 refine aG (aJ (sL [2,1,0]) (dD ?_))
 exact cG ((),(Y,(M,F.length,O),(B,([]:List Int).length,D))) trivial (aS R) (tE 9 [5,6,4,7,8,3,1,2,0])
 refine bO R R dL (fun Y=>(aG (aJ (sL [1,0]) (d1 5 R (lM _ (fun w s=>(s.d 6 R)) ?_)))))
 refine lC 1 mh R (Ze_ok aa) R ?_
 rintro _
 refine aG (aJ (sL [1,0]) (d1 6 R (i5 (K:=kT3) (m:=ab) (z:=zT3.z) R R cW eC jt (Zr.zk zT3 gN) (by decide) R R u.1 u.2.1 u.2.2 (fun B D=>(aG (aJ (sL [2,1,0]) (dR 7 R (vz (.agg [(sc M F O),(sc B ([]:List Int) D)].toArray) (bX iC dL R R)) (hS:=(sL [2,1,0])) (d1 9 R (aQ 1 R R cP R R R R R R (lN (OO kT3 3 B D ([]:List Int)::aV Y [(sc M F O),(sc B ([]:List Int) D)] 38::_::_::_::_::_::_::_::V) ?_))))))))))
 refine aG (aJ (sL [2,1,0]) (dD ?_))
 exact cG ((),(Y,(M,F.length,O),(B,([]:List Int).length,D))) trivial (aS R) (tE 9 [5,6,4,7,8,3,1,2,0])
 refine bO R R dL (fun Y=>(aG (aJ (sL [0]) (d1 2 R (lM _ (fun w s=>(s.d 5 R)) ?_)))))
 refine lC 1 jz R (Zw_ok ae) R ?_
 rintro ⟨M,av,O⟩
 refine aX 0 aC ?_
 rintro rfl
 refine aG (aJ (sL [1,0]) (d1 5 R (lM _ (fun w s=>(s.d 6 R)) ?_)))
 refine lC 1 mh R (Ze_ok aa) R ?_
 rintro _
 refine aG (aJ (sL [1,0]) (d1 6 R (i5 (K:=kT3) (m:=ab) (z:=zT3.z) R R cW eC jt (Zr.zk zT3 gN) (by decide) R R u.1 u.2.1 u.2.2 (fun B D=>(aG (aJ (sL [2,1,0]) (dR 7 R (vz (.agg [(sc M F O),(sc B ([]:List Int) D)].toArray) (bX iC dL R R)) (hS:=(sL [2,1,0])) (d1 9 R (aQ 2 R R cP R R R R R R (lN (OO kT3 3 B D ([]:List Int)::_::aV Y [(sc M F O),(sc B ([]:List Int) D)] 38::_::_::_::_::_::_::V) ?_))))))))))
 refine aG (aJ (sL [2,1,0]) (dD ?_))
 exact cG ((),(Y,(M,F.length,O),(B,([]:List Int).length,D))) trivial (aS R) (tE 9 [5,6,4,7,8,3,2,1,0])
 rintro ⟨_,⟨T,⟨i,aw,j⟩,⟨ag,ax,ah⟩⟩⟩ σ1 -
 refine gL 7 aC (fun (hn:aw=F.length)=>?_)
 subst hn
 refine gL 8 aC (fun (hn:ax=([]:List Int).length)=>?_)
 subst hn
 refine aH (qv ?_)
 obtain ⟨J,an,Z⟩:=bd Z
 refine eD ?_
 refine lM _ (fun w s=>(((s.d 3 R).d 5 R).f 11 [1,1,0,1,2,9])) ?_
 refine lC 2 tD R (Z14_ok an) R ?_
 rintro ⟨⟨a5,az,a7⟩,aj,ak,⟨a6,b0,a8⟩,al⟩
 refine aX 0 aB ?_
 rintro rfl
 refine aX 3 aB ?_
 rintro rfl
 refine bS ?_
 obtain ⟨a4,ao,Z⟩:=bd Z
 let Ef:Nat→Loop→((List Int))→HP:=fun l rc s=>pe fun a:HH=>nZ l rc::[aV b6 [(sc A2 g D2)] 36,RR kT3 A2 D2 g,aV b8 [(.slice none 0 0),(.slice none 0 0)] 38,aV T [(sc i F j),(s3 a)] 38,OO kT3 3 i j F,ow kT3 3 (s3 a) s]
 refine n7 (Wc:=[RR kT3 a5 a7 J.1,aV aj [(sc a5 J.1 a7)] 36,aV ak [(iv J.2.1)] 3,RR kT3 a6 a8 J.2.2,aV al [(sc a6 J.2.2 a8)] 36,aV b6 [(sc A2 g D2)] 36,RR kT3 A2 D2 g,aV b7 [(sc A4 v3.Dims D4),(sc A5 v3.Strides D5),(iv v3.Offset),(iv v3.Base)] 47,RR kT3 A4 D4 v3.Dims,RR kT3 A5 D5 v3.Strides,aV b8 [(.slice none 0 0),(.slice none 0 0)] 38,aV T [(sc i F j),(sc ag ([]:List Int) ah)] 38,OO kT3 3 i j F,OO kT3 3 ag ah ([]:List Int)]) (E:=fun l rc=>Ef l rc ([]:List Int)) (E':=fun l rc=>Ef l rc a4) (Pre':=[RR kT3 a5 a7 J.1,aV aj [(sc a5 J.1 a7)] 36,aV ak [(iv J.2.1)] 3,RR kT3 a6 a8 J.2.2,aV al [(sc a6 J.2.2 a8)] 36]) (W3:=[]) (cp:=fun (_:Unit)=>[aV aj [(sc a5 J.1 a7)] 36,aV ak [(iv J.2.1)] 3,aV al [(sc a6 J.2.2 a8)] 36]) (Wd:=fun a:HH=>[aV b6 [(sc A2 g D2)] 36,RR kT3 A2 D2 g,aV b8 [(.slice none 0 0),(.slice none 0 0)] 38,aV T [(sc i F j),(s3 a)] 38,OO kT3 3 i j F,ow kT3 3 (s3 a) a4]) R R tF (fun V w l rc s=>St.pei (ag,([]:List Int).length,ah) ((s.f 15 [0,1,6,2,11,4,1,5]))) ?_ (fun V w l rc x s=>let ⟨a,s⟩:=s.peo; ⟨a,s.e 10 [0,1,2,3,4,5,6]⟩) ?_
 intro l rc am
 refine Za_ok (YE:=Ef l rc) (yl:=l) ?_ ao
 rintro U G q Z
 dsimp only [Z19] at Z
 refine uD (fun a:HH=>[aV b6 [(sc A2 g D2)] 36,RR kT3 A2 D2 g,aV b8 [(.slice none 0 0),(.slice none 0 0)] 38,aV T [(sc i F j),(s3 a)] 38,OO kT3 3 i j F,ow kT3 3 (s3 a) U]) (fun a:HH=>[aV b6 [(sc A2 g D2)] 36,RR kT3 A2 D2 g,aV b8 [(.slice none 0 0),(.slice none 0 0)] 38,aV T [(sc i F j),(s3 a)] 38,OO kT3 3 i j F,ow kT3 3 (s3 a) q.1]) am R R b' R ?_
 rintro ⟨a0,ai,a2⟩
 apply Exists.intro
 intro C V
 refine ⟨?_,?_⟩
 refine bS ?_
 exact aG sy
 refine uC (V':=aV b6 [(sc A2 g D2)] 36::RR kT3 A2 D2 g::aV b8 [(.slice none 0 0),(.slice none 0 0)] 38::aV T [(sc i F j),(.slice a0 ai a2)] 38::OO kT3 3 i j F::ow kT3 3 (.slice a0 ai a2) U::V) tI (sM 5 aC ?_)
 rintro rfl
 obtain ⟨a9,Z⟩:=gd Z
 obtain ⟨ac,Z⟩:=gd Z
 refine qC (A:=(Unit)×(HH)) (fun _=>True) (fun a=>[(2,(pt b6 0)),(4,(pt b8 0)),(5,(pt T 0)),(22,(iv G))]) (fun a=>aV b6 [(sc A2 g D2)] 36::RR kT3 A2 D2 g::aV b8 [(.slice none 0 0),(.slice none 0 0)] 38::aV T [(sc i F j),(s3 a.2)] 38::OO kT3 3 i j F::ow kT3 3 (s3 a.2) (U++([(ix g G)]:List Int))::V) ?_ ?_
 refine qB 1 aB (show 0<g.length by have:=a9; omega) (fun b1 o40 ha=>?_)
 subst ha
 refine edr 10 [5,3] (fun ht hn=>(dR 0 R (um 1 jv R) (hS:=(sL [5,3])) (dR 2 R (su 0 fW R R R) (hS:=(sL [5,3])) (dR 3 R (vI R) (hS:=(sL [5,3])) (dR 4 R (oq cW eC R R a9) (hS:=(sL [5,3])) (dR 5 R (pC 1 oE aB R a9) (hS:=(sL [5,3])) (hN [1,6] (by kernel_rfl) R ⟨?_,?_,trivial⟩)))))))
 refine lO (su 3 fW R R R) (aG (aJ (sL [5,3]) (d1 6 R (bV (K:=kT3) (xs:=([(ix g G)]:List Int)) (vs:=[(iv (ix g G))]) 0 R R cW eC gN R R R R R R ?_ R (fun ap ar=>?_)))))
 exact fun I h s=>(i7).list [((),(ix g G))] I h s
 refine aG (aJ (sL [6,4,0]) (d1 7 R (lM _ (fun w s=>(s.f 7 [6,1,0,6])) ?_)))
 refine fp (K:=kT3) 17592186044416 R R cW eC jt (Zr.zk zT3 gN) R R R R R R eI ac (fun a1 a3=>(lN (OO kT3 3 a1 a3 (U++([(ix g G)]:List Int))::_::_::_::_::_::V) ?_))
 refine aG (aJ (sL [4,0]) ?_)
 refine pE 8 [4,0] ?_
 refine d1 9 R (eA 4 R R gx R R R R R (lN (_::_::_::_::aV T [(sc i F j),(sc a1 (U++([(ix g G)]:List Int)) a3)] 38::_::V) ?_))
 refine aG (aJ (sL [4,0]) (dD ?_))
 exact cG ((),(a1,(U++([(ix g G)]:List Int)).length,a3)) trivial (aS R) (fun w s=>(s.f 6 [1,5,0,1]))
 refine bV (K:=kT3) (xs:=([(ix g G)]:List Int)) (vs:=[(iv (ix g G))]) 0 R R cW eC gN R R R R R R ?_ R (fun ap ar=>?_)
 exact fun I h s=>(i7).list [((),(ix g G))] I h s
 refine aG (aJ (sL [6,4,0]) (d1 1 R (lO (su 4 fW R R R) (aG (aJ (sL [6,4,0]) (d1 7 R (lM _ (fun w s=>(s.f 7 [6,1,0,6])) ?_)))))))
 refine fp (K:=kT3) 17592186044416 R R cW eC jt (Zr.zk zT3 gN) R R R R R R eI ac (fun a1 a3=>(lN (OO kT3 3 a1 a3 (U++([(ix g G)]:List Int))::_::_::_::_::_::V) ?_))
 refine aG (aJ (sL [4,0]) ?_)
 refine pE 8 [4,0] ?_
 refine d1 9 R (eA 4 R R gx R R R R R (lN (_::_::_::_::aV T [(sc i F j),(sc a1 (U++([(ix g G)]:List Int)) a3)] 38::_::V) ?_))
 refine aG (aJ (sL [4,0]) (dD ?_))
 exact cG ((),(a1,(U++([(ix g G)]:List Int)).length,a3)) trivial (aS R) (fun w s=>(s.f 6 [1,5,0,1]))
 rintro ⟨_,⟨aq,ay,au⟩⟩ σ1 -
 refine gL 5 aC (fun (hn:ay=(U++([(ix g G)]:List Int)).length)=>?_)
 subst hn
 cases Z
 exact ur (aq,(U++([(ix g G)]:List Int)).length,au) R tI
 rintro ⟨a0,ai,a2⟩ Dm V
 refine cL 5 aC ?_
 rintro rfl
 refine aR ?_
 refine aQ 2 R R cP R R R R R R (lN (_::_::aV b8 [(sc i F j),(sc a0 a4 a2)] 38::aV T [(sc i F j),(sc a0 a4 a2)] 38::_::_::V) ?_)
 refine aR ?_
 cases Z
 exact qD 6 (fun V=>ft (vs:=[(.agg [(sc i F j),(sc a0 a4 a2)].toArray)]) (.inl R) ((i,F.length,j),(a0,a4.length,a2)) R ⟨⟨2,b8,_,_,R,R,.inl ⟨hW,cP,R⟩⟩,trivial⟩ R (tE 6 [4,5]))
end Go.Proofs.YtmpnollfdpdipaaGreatDoor
