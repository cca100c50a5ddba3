import Derived.Test.YtmpnollfdpdipaaGreatDoorSfF
set_option linter.unusedVariables false
set_option maxRecDepth 20000
namespace Go.Proofs.YtmpnollfdpdipaaGreatDoor
open Go Go.Pg
variable {A2 A3 A4 A5 A6:Option Addr}{D2 D3 D4 D5 D6 N2 N3 N4 N5 N6:Nat}
theorem Zz_ok  {p1:aD}{r:Bool}(e:Zz p1=some r) :
 FnOk Tryz.prog 146 [(aA p1)] [] (fun (h:Unit)=>((.bool r),[])):=by
 unfold Zz at e
 refine aU Tryz.func146 R 23 R R fun C V=>?_
 refine cN V ?_
 refine bJ ?_
 refine aW (A:=(Unit)×(Unit)) (fun a=>Zz_J1 p1=some r) (fun a=>[(0,(aA p1))]) (fun a=>V) ?_ ?_
 refine bJ ?_
 obtain ⟨D,u,q⟩:=bd e
 refine aP (A:=Unit) u (fun s a=>[(0,(aA p1)),(3,(iv s))]) (fun s a=>V) () (aS R) tI ?_
 rintro j _ σ1 B e m
 dsimp only [Zz_L1] at e
 refine bN ?_
 refine lO (vp (aA p1) R) (lO (vz (il p1) (bM cR R)) ?_)
 refine aR ?_
 split at e
 refine bJ ?_
 obtain ⟨i,e⟩:=gd e
 refine cQ [(0,(aA p1)),(3,(iv j)),(19,(.bool ((decide ((bt p1 j)<97))||(decide ((bt p1 j)>122)))))] (V) ?_ ?_
 refine aE (lO (vp (aA p1) R) (lI R (lO (vz (.int .u8 (bt p1 j)) (bA cR R R i.1 i.2)) (lO (vp (.bool (decide ((bt p1 j)<97))) R) (lB R ?_)))))
 rcases bo (decide ((bt p1 j)<97)) with g | g
 refine bJ ?_
 exact qj tI
 refine lW (cI g) (vp (aA p1) R) (lW (cI g) (vI R) (lW (cI g) (vz (.int .u8 (bt p1 j)) (bA cR R R i.1 i.2)) (lW (cI g) (vp (.bool (decide ((bt p1 j)>122))) R) ?_)))
 refine bD ?_
 exact qj tI
 rintro σ1
 refine bS ?_
 split at e
 refine cS ?_
 cases e
 obtain rfl:=m _ R
 have e:=q
 refine aR ?_
 cases e
 exact qF () tI
 refine cS ?_
 cases e
 exact qA () tI
 refine aR ?_
 cases e
 obtain rfl:=m _ R
 have e:=q
 refine bD ?_
 exact qI ((),()) e tI
 rintro ⟨_,_⟩ σ1 e
 dsimp only [Zz_J1] at e
 refine bD ?_
 refine lO (vp (aA p1) R) (lO (vz (il p1) (bM cR R)) ?_)
 refine cV ?_
 cases e
 exact qF () tI
theorem Zq_ok  {p1:aD}{m:Int}{r:Bool}(e:Zq p1 m=some r) :
 FnOk Tryz.prog 147 [(aA p1),(.int .u8 m)] [] (fun (h:Unit)=>((.bool r),[])):=by
 unfold Zq at e
 refine aU Tryz.func147 R 17 R R fun C V=>?_
 refine cN V ?_
 refine bJ ?_
 refine aW (A:=(Unit)×(Unit)) (fun a=>Zq_J1=some r) (fun a=>[]) (fun a=>V) ?_ ?_
 refine bJ ?_
 obtain ⟨D,q,j⟩:=bd e
 refine aP (A:=Unit) q (fun s a=>[(0,(aA p1)),(1,(.int .u8 m)),(5,(iv s))]) (fun s a=>V) () (aS R) tI ?_
 rintro u _ σ1 B e g
 dsimp only [Zq_L1] at e
 refine bN ?_
 refine lO (vp (aA p1) R) (lO (vz (il p1) (bM cR R)) ?_)
 refine aR ?_
 split at e
 refine bJ ?_
 obtain ⟨i,e⟩:=gd e
 refine aE (lO (vp (aA p1) R) (lI R (lO (vz (.int .u8 (bt p1 u)) (bA cR R R i.1 i.2)) (lI R (lO (vp (.bool ((bt p1 u)==m)) R) ?_)))))
 refine bD ?_
 split at e
 refine cS ?_
 cases e
 obtain rfl:=g _ R
 have e:=j
 refine aR ?_
 cases e
 exact qF () tI
 refine cS ?_
 cases e
 exact qA () tI
 refine aR ?_
 cases e
 obtain rfl:=g _ R
 have e:=j
 refine bD ?_
 exact cG ((),()) e trivial tI
 rintro ⟨_,_⟩ σ1 e
 dsimp only [Zq_J1] at e
 refine bJ ?_
 cases e
 exact qF () tI
theorem Z1_ok  {e:aD}{r:(List aD)×aD×Bool}(i:Z1 e=some r) :
 FnOk Tryz.prog 46 [(aA e)] [] (fun (h:HH)=>((.tuple [(s3 h),(aA r.2.1),(.bool r.2.2)].toArray),[ow bI 9 (s3 h) r.1])):=by
 unfold Z1 at i
 refine aU Tryz.func46 R 124 R R fun C V=>?_
 refine cN V ?_
 refine aR ?_
 refine lO (vp (aA ([]:aD)) R) ?_
 refine cV ?_
 refine bV (K:=bI) (xs:=([]:List aD)) (vs:=[]) 0 R R jw lz r' R R R R R R ?_ R (fun A2 D2=>?_)
 exact fun I h s=>(qG).list [] I h s
 refine cS ?_
 refine aW (A:=(Int)×(Unit)) (fun a=>Z1_J1 e a.1=some r) (fun a=>[(0,(aA e)),(5,(sc A2 ([]:List aD) D2)),(6,(iv a.1))]) (fun a=>OO bI 9 A2 D2 ([]:List aD)::V) ?_ ?_
 refine bS ?_
 obtain ⟨e1,b9,b6⟩:=bd i
 refine aP (A:=Unit) b9 (fun s a=>[(0,(aA e)),(5,(sc A2 ([]:List aD) D2)),(6,(iv s))]) (fun s a=>OO bI 9 A2 D2 ([]:List aD)::V) () (aS R) tI ?_
 rintro Z _ σ1 bh i b3
 dsimp only [Z1_L1] at i
 refine bD ?_
 obtain ⟨ab,i⟩:=gd i
 refine cQ [(0,(aA e)),(5,(sc A2 ([]:List aD) D2)),(6,(iv Z)),(28,(.bool ((decide ((aK (Z+1))<(e.length:Int)))&&(!((sub e Z (aK (Z+2)))==str0)))))] (OO bI 9 A2 D2 ([]:List aD)::V) ?_ ?_
 refine aR ?_
 refine lO (vp (aA e) R) (lO (vz (il e) (bM cR R)) ?_)
 refine bD ?_
 rcases bo (decide ((aK (Z+1))<(e.length:Int))) with T | T
 refine lW (hU T) (vp (aA e) R) ?_
 refine aR ?_
 refine lW (hU T) (vz (aA (sub e Z (aK (Z+2)))) (eB Z (aK (Z+2)) cR R R R (ab T).1 (ab T).2.1 (ab T).2.2)) (lW (hU T) (vz (.bool (!((sub e Z (aK (Z+2)))==str0))) (kI R R R)) ?_)
 refine bD ?_
 exact qj tI
 refine dO ?_
 exact qj tI
 rintro σ1
 refine bS ?_
 split at i
 refine fD ?_
 cases i
 exact qA () tI
 refine aR ?_
 cases i
 obtain rfl:=b3 _ R
 have i:=b6
 refine bD ?_
 exact qI (Z,()) i tI
 rintro ⟨m,_⟩ σ1 i
 dsimp only [Z1_J1] at i
 refine cV ?_
 refine lO (vp (aA e) R) (lO (vz (il e) (bM cR R)) ?_)
 refine aR ?_
 split at i
 refine cV ?_
 refine lO (vp (aA ([]:aD)) R) ?_
 refine cV ?_
 cases i
 exact j0 (A2,([]:List aD).length,D2) tI
 refine cV ?_
 refine bV (K:=bI) (xs:=([]:List aD)) (vs:=[]) 0 R R jw lz r' R R R R R R ?_ R (fun aw ay=>?_)
 exact fun I h s=>(qG).list [] I h s
 refine cS ?_
 refine aW (A:=((List aD))×(HH)) (fun a=>Z1_J4 e m a.1=some r) (fun a=>[(0,(aA e)),(5,(sc A2 ([]:List aD) D2)),(6,(iv m)),(7,(s3 a.2))]) (fun a=>OO bI 9 A2 D2 ([]:List aD)::ow bI 9 (s3 a.2) a.1::V) ?_ ?_
 refine bJ ?_
 obtain ⟨e2,ba,b7⟩:=bd i
 refine aP (A:=HH) ba (fun s a=>[(0,(aA e)),(5,(sc A2 ([]:List aD) D2)),(6,(iv m)),(7,(s3 a)),(8,(iv s.2.1)),(9,(iv s.2.2))]) (fun s a=>OO bI 9 A2 D2 ([]:List aD)::ow bI 9 (s3 a) s.1::V) (aw,([]:List aD).length,ay) (aS R) (tE 2 [1,0]) ?_
 rintro ⟨j,G,E⟩ ⟨a7,b0,a8⟩ σ1 aq i b4
 dsimp only [Z1_L2] at i
 refine aY 1 aC (fun (hn:b0=j.length)=>?_)
 subst hn
 refine dO ?_
 split at i
 refine bN ?_
 refine aW (A:=((List aD)×Int)×(HH)) (fun a=>Z1_J3 E a.1.1 a.1.2=some aq) (fun a=>[(0,(aA e)),(5,(sc A2 ([]:List aD) D2)),(6,(iv m)),(7,(s3 a.2)),(8,(iv a.1.2)),(9,(iv E))]) (fun a=>OO bI 9 A2 D2 ([]:List aD)::ow bI 9 (s3 a.2) a.1.1::V) ?_ ?_
 refine bD ?_
 obtain ⟨a9,i⟩:=gd i
 refine cQ [(0,(aA e)),(5,(sc A2 ([]:List aD) D2)),(6,(iv m)),(7,(sc a7 j a8)),(8,(iv G)),(9,(iv E)),(51,(.bool ((E==m)||((bt e E)==44))))] (OO bI 9 A2 D2 ([]:List aD)::OO bI 9 a7 a8 j::V) ?_ ?_
 refine cV ?_
 rcases bo (E==m) with F | F
 refine bJ ?_
 exact qj tI
 refine lW (cI F) (vp (aA e) R) (lW (cI F) (vI R) (lW (cI F) (vz (.int .u8 (bt e E)) (bA cR R R (a9 F).1 (a9 F).2)) (lW (cI F) (vp (.bool ((bt e E)==44)) R) ?_)))
 refine bD ?_
 exact qj tI
 rintro σ1
 refine bS ?_
 split at i
 refine bD ?_
 obtain ⟨a2,i⟩:=gd i
 obtain ⟨ak,i⟩:=gd i
 refine bD ?_
 refine lO (vp (aA e) R) (lI R (lI R (lO (vz (aA (sub e G E)) (eB G E cR R R R a2.1 a2.2.1 a2.2.2)) (bV (K:=bI) (xs:=([(sub e G E)]:List aD)) (vs:=[(aA (sub e G E))]) 0 R R jw lz r' R R R R R R ?_ R (fun bk bl=>?_)))))
 exact fun I h s=>(qG).list [((),(sub e G E))] I h s
 refine lM _ (tE 3 [2,0,1]) ?_
 refine fp (K:=bI) 8796093022208 R R jw lz uM (Zr.zk uI r') R R R R R R eI ak (fun ag ah=>(lN (OO bI 9 ag ah (j++([(sub e G E)]:List aD))::_::V) ?_))
 refine cS ?_
 exact qI (((j++([(sub e G E)]:List aD)),(aK (E+1))),(ag,(j++([(sub e G E)]:List aD)).length,ah)) i (tE 2 [1,0])
 refine aR ?_
 exact qI ((j,G),(a7,j.length,a8)) i tI
 rintro ⟨⟨J,bp⟩,⟨ax,b1,az⟩⟩ σ1 i
 dsimp only [Z1_J3] at i
 refine aY 1 aC (fun (hn:b1=J.length)=>?_)
 subst hn
 refine cV ?_
 cases i
 exact qA (ax,J.length,az) tI
 refine aR ?_
 cases i
 obtain rfl:=b4 _ R
 have i:=b7
 refine bD ?_
 exact qI (j,(a7,j.length,a8)) i tI
 rintro ⟨g,⟨B,b2,D⟩⟩ σ1 i
 dsimp only [Z1_J4] at i
 refine aY 1 aC (fun (hn:b2=g.length)=>?_)
 subst hn
 refine bS ?_
 obtain ⟨a3,i⟩:=gd i
 refine aE (lO (vp (aA e) R) (lI R (lO (oj R R) (lO (vz (aA (sub e (aK (m+2)) (e.length:Int))) (eB (aK (m+2)) (e.length:Int) cR R R R a3.1 a3.2.1 a3.2.2)) (lO (vp (aA (sub e (aK (m+2)) (e.length:Int))) R) ?_)))))
 refine bN ?_
 obtain ⟨bf,an,i⟩:=bd i
 refine cQ [(5,(sc A2 ([]:List aD) D2)),(7,(sc B g D)),(10,(aA (sub e (aK (m+2)) (e.length:Int)))),(72,(.bool ((decide ((g.length:Int)>6))||(!bf))))] (OO bI 9 A2 D2 ([]:List aD)::OO bI 9 B D g::V) ?_ ?_
 refine cV ?_
 rcases bo (decide ((g.length:Int)>6)) with Y | Y
 refine cV ?_
 exact qj tI
 refine lW (cI Y) (vp (aA (sub e (aK (m+2)) (e.length:Int))) R) (bZ 0 R (cI Y) pJ R (Zz_ok (cB an (dI Y))) R ?_)
 rintro _
 refine aR ?_
 exact qj tI
 rintro σ1
 refine bS ?_
 split at i
 refine cV ?_
 refine lO (vp (aA ([]:aD)) R) ?_
 refine cV ?_
 cases i
 exact j0 (A2,([]:List aD).length,D2) (tE 2 [0])
 refine bN ?_
 refine aW (A:=(Unit)×(Unit)) (fun a=>Z1_J5 e m g=some r) (fun a=>[(5,(sc A2 ([]:List aD) D2)),(7,(sc B g D)),(10,(aA (sub e (aK (m+2)) (e.length:Int))))]) (fun a=>OO bI 9 A2 D2 ([]:List aD)::OO bI 9 B D g::V) ?_ ?_
 refine bJ ?_
 obtain ⟨e3,bb,al⟩:=bd i
 refine aP (A:=Unit) bb (fun s a=>[(5,(sc A2 ([]:List aD) D2)),(7,(sc B g D)),(10,(aA (sub e (aK (m+2)) (e.length:Int)))),(11,(iv s))]) (fun s a=>OO bI 9 A2 D2 ([]:List aD)::OO bI 9 B D g::V) () (aS R) tI ?_
 rintro ap _ σ1 bi i ai
 dsimp only [Z1_L3] at i
 refine cS ?_
 split at i
 refine bJ ?_
 obtain ⟨a4,i⟩:=gd i
 obtain ⟨bn,ao,i⟩:=bd i
 refine aR ?_
 refine aZ 1 aC (show 0<g.length by have:=a4; omega) (fun bm o62 ha=>?_)
 subst ha
 refine bS ?_
 refine lO (vz (aA (ix g ap)) (eE (K:=bI) (fo:=0) (pr:=fun x=>(aA x)) 1 ap jx (dT9.leaf fun _ _=>R) aC R a4.1 a4.2)) (lC 0 pJ R (Zz_ok ao) R ?_)
 rintro _
 refine aR ?_
 split at i
 refine cV ?_
 refine lO (vp (aA ([]:aD)) R) ?_
 refine bJ ?_
 cases i
 obtain rfl:=ai _ R
 have i:=al
 refine aR ?_
 cases i
 exact j0 (A2,([]:List aD).length,D2) (tE 2 [0])
 refine cS ?_
 cases i
 exact qA () tI
 refine aR ?_
 cases i
 obtain rfl:=ai _ R
 have i:=al
 refine bD ?_
 exact qI ((),()) i tI
 rintro ⟨_,_⟩ σ1 i
 dsimp only [Z1_J5] at i
 refine aL (aW (A:=(Unit)×(Unit)) (fun a=>Z1_J8 e m g=some r) (fun a=>[(7,(sc B g D)),(10,(aA (sub e (aK (m+2)) (e.length:Int))))]) (fun a=>OO bI 9 B D g::V) ?_ ?_)
 refine bJ ?_
 obtain ⟨e4,bc,am⟩:=bd i
 refine aP (A:=Unit) bc (fun s a=>[(5,(sc A2 ([]:List aD) D2)),(7,(sc B g D)),(10,(aA (sub e (aK (m+2)) (e.length:Int)))),(12,(iv s))]) (fun s a=>OO bI 9 A2 D2 ([]:List aD)::OO bI 9 B D g::V) () (aS R) tI ?_
 rintro O _ σ1 ar i aj
 dsimp only [Z1_L4] at i
 refine bN ?_
 refine lO (vp (aA (sub e (aK (m+2)) (e.length:Int))) R) (lO (vz (il (sub e (aK (m+2)) (e.length:Int))) (bM cR R)) ?_)
 refine aR ?_
 split at i
 refine kQ ?_
 refine aW (A:=(Bool)×(Unit)) (fun a=>Z1_J7 e m O a.1=some ar) (fun a=>[(5,(sc A2 ([]:List aD) D2)),(7,(sc B g D)),(10,(aA (sub e (aK (m+2)) (e.length:Int)))),(12,(iv O)),(13,(.bool a.1))]) (fun a=>OO bI 9 A2 D2 ([]:List aD)::OO bI 9 B D g::V) ?_ ?_
 refine bJ ?_
 obtain ⟨e5,be,b8⟩:=bd i
 refine aP (A:=Unit) be (fun s a=>[(5,(sc A2 ([]:List aD) D2)),(7,(sc B g D)),(10,(aA (sub e (aK (m+2)) (e.length:Int)))),(12,(iv O)),(13,(.bool s.1)),(14,(iv s.2))]) (fun s a=>OO bI 9 A2 D2 ([]:List aD)::OO bI 9 B D g::V) () (aS R) tI ?_
 rintro ⟨a6,a5⟩ _ σ1 bj i b5
 dsimp only [Z1_L5] at i
 refine cS ?_
 split at i
 refine cV ?_
 obtain ⟨M,i⟩:=gd i
 obtain ⟨a0,i⟩:=gd i
 obtain ⟨au,ac,i⟩:=bd i
 refine cQ [(5,(sc A2 ([]:List aD) D2)),(7,(sc B g D)),(10,(aA (sub e (aK (m+2)) (e.length:Int)))),(12,(iv O)),(13,(.bool (a6||au))),(14,(iv a5))] (OO bI 9 A2 D2 ([]:List aD)::OO bI 9 B D g::V) ?_ ?_
 rcases bo a6 with u | u
 refine eF 12 [] b' fun ht hn=>?_
 refine qy 0 [] ?_
 refine dD ?_
 exact qj tI
 refine bU 1 aC (show 0<g.length by have:=(M u); omega) (fun bg o108 ha=>?_)
 subst ha
 refine eF 12 [] b' fun ht hn=>?_
 refine rZ 0 [] ?_
 refine dW 4 R (cI u) (oq jw lz R R (M u)) (dW 5 R (cI u) (vz (aA (ix g a5)) (eE (K:=bI) (fo:=0) (pr:=fun x=>(aA x)) 1 a5 jx (dT9.leaf fun _ _=>R) aC R (M u).1 (M u).2)) (dW 6 R (cI u) (vp (aA (sub e (aK (m+2)) (e.length:Int))) R) (dW 7 R (cI u) (vI R) (dW 8 R (cI u) (vz (.int .u8 (bt (sub e (aK (m+2)) (e.length:Int)) O)) (bA cR R R (a0 u).1 (a0 u).2)) (d1 9 R (bZ 0 R (cI u) n9 R (Zq_ok (cB ac (dI u))) R ?_))))))
 rintro _
 refine aG (aJ (sL []) ?_)
 refine iz 10 [] ?_
 refine dD ?_
 exact qj tI
 rintro σ1
 refine eD ?_
 cases i
 exact qA () tI
 refine aR ?_
 cases i
 obtain rfl:=b5 _ R
 have i:=b8
 refine bD ?_
 exact qI (a6,()) i tI
 rintro ⟨aa,_⟩ σ1 i
 dsimp only [Z1_J7] at i
 refine bS ?_
 obtain ⟨U,i⟩:=gd i
 obtain ⟨a1,i⟩:=gd i
 obtain ⟨av,ae,i⟩:=bd i
 refine cQ [(5,(sc A2 ([]:List aD) D2)),(7,(sc B g D)),(10,(aA (sub e (aK (m+2)) (e.length:Int)))),(12,(iv O)),(120,(.bool ((!aa)||av)))] (OO bI 9 A2 D2 ([]:List aD)::OO bI 9 B D g::V) ?_ ?_
 rcases bo (!aa) with q | q
 refine eF 11 [] b' fun ht hn=>?_
 refine sG 0 [] ?_
 refine dD ?_
 exact qj tI
 refine eF 11 [] b' fun ht hn=>?_
 refine i6 0 [] ?_
 refine dW 3 R (cI q) (vp (aA (sub e (aK (m+2)) (e.length:Int))) R) (dW 4 R (cI q) (vI R) (dW 5 R (cI q) (vz (aA (sub (sub e (aK (m+2)) (e.length:Int)) (0:Int) O)) (eB (0:Int) O cR R R R (U q).1 (U q).2.1 (U q).2.2)) (dW 6 R (cI q) (vp (aA (sub e (aK (m+2)) (e.length:Int))) R) (dW 7 R (cI q) (vI R) (dW 8 R (cI q) (vz (.int .u8 (bt (sub e (aK (m+2)) (e.length:Int)) O)) (bA cR R R (a1 q).1 (a1 q).2)) (d1 9 R (bZ 0 R (cI q) n9 R (Zq_ok (cB ae (dI q))) R ?_)))))))
 rintro _
 refine aG (aJ (sL []) (dR 10 R (qq R q R) (dD ?_)))
 exact qj tI
 rintro σ1
 refine bS ?_
 split at i
 refine cV ?_
 refine lO (vp (aA ([]:aD)) R) ?_
 refine bJ ?_
 cases i
 obtain rfl:=aj _ R
 have i:=am
 refine aR ?_
 cases i
 exact j0 (A2,([]:List aD).length,D2) (tE 2 [0])
 refine cS ?_
 cases i
 exact qA () tI
 refine aR ?_
 cases i
 obtain rfl:=aj _ R
 have i:=am
 refine bD ?_
 exact qI ((),()) i (tE 2 [1])
 rintro ⟨_,_⟩ σ1 i
 dsimp only [Z1_J8] at i
 refine aR ?_
 refine lO (vp (aA (sub e (aK (m+2)) (e.length:Int))) R) (lS R (lO (vp (aA (sub e (aK (m+2)) (e.length:Int))) R) ?_))
 refine bN ?_
 cases i
 exact j0 (B,g.length,D) tI
theorem Z04_ok  {g:(List aD)}{e:aD}{r:Bool}(i:Z04 g e=some r) :
 FnOk Tryz.prog 47 [(.slice A2 N2 D2),(aA e)] [bF bI (.slice A2 N2 D2) g] (fun (h:Unit)=>((.bool r),[])):=by
 unfold Z04 at i
 refine aU Tryz.func47 R 22 R R fun C V=>?_
 refine cL 0 aB ?_
 rintro rfl
 let E:=RR bI A2 D2 g::V
 refine cN E ?_
 refine dO ?_
 refine lO (vp (aA e) R) (lO (vz (il e) (bM cR R)) ?_)
 refine aR ?_
 split at i
 refine dO ?_
 cases i
 exact qF () (tE 1 [])
 refine bN ?_
 refine aW (A:=(Unit)×(Unit)) (fun a=>Z04_J1=some r) (fun a=>[]) (fun a=>E) ?_ ?_
 refine bJ ?_
 obtain ⟨O,F,u⟩:=bd i
 refine aP (A:=Unit) F (fun s a=>[(0,(sc A2 g D2)),(1,(aA e)),(5,(iv s))]) (fun s a=>E) () (aS R) tI ?_
 rintro D _ σ1 G i q
 dsimp only [Z04_L1] at i
 refine cS ?_
 split at i
 refine bJ ?_
 obtain ⟨j,i⟩:=gd i
 obtain ⟨m,i⟩:=gd i
 obtain ⟨M,B,i⟩:=bd i
 refine bU 0 aB (show 0<g.length by have:=j; omega) (fun I o17 J=>?_)
 subst J
 refine eF 7 [] b' fun U T=>?_
 refine i6 0 [] ?_
 refine dR 3 R (vz (aA (ix g D)) (eE (K:=bI) (fo:=0) (pr:=fun x=>(aA x)) 0 D jx (dT9.leaf fun _ _=>R) aB R j.1 j.2)) (dR 4 R (vp (aA e) R) (dR 5 R (vz (.int .u8 (bt e 0)) (bA cR R R m.1 m.2)) (d1 6 R (lC 0 n9 R (Zq_ok B) R ?_))))
 rintro _
 refine aG (aJ (sL []) (dD (aH ?_)))
 split at i
 refine cS ?_
 cases i
 obtain rfl:=q _ R
 have i:=u
 refine aR ?_
 cases i
 exact qF () (tE 1 [])
 refine cS ?_
 cases i
 exact qA () tI
 refine aR ?_
 cases i
 obtain rfl:=q _ R
 have i:=u
 refine bD ?_
 exact cG ((),()) i trivial tI
 rintro ⟨_,_⟩ σ1 i
 dsimp only [Z04_J1] at i
 refine bJ ?_
 cases i
 exact qF () (tE 1 [])
theorem Z0y_ok  {p1:Int}{e:Int}{a:Int}{r:Bool}(i:Z0y p1 e a=some r) :
 FnOk Tryz.prog 48 [(iv p1),(iv e),(iv a)] [] (fun (h:Unit)=>((.bool r),[])):=by
 unfold Z0y at i
 refine aU Tryz.func48 R 15 R R fun C V=>?_
 refine cN V ?_
 refine bJ ?_
 refine cQ [(6,(.bool ((decide (p1≥e))&&(decide (p1≤a)))))] (V) ?_ ?_
 refine cV ?_
 rcases bo (decide (p1≥e)) with g | g
 refine bJ ?_
 exact qj tI
 refine bJ ?_
 exact qj tI
 rintro σ1
 refine bD ?_
 cases i
 exact qF () tI
theorem Zp_ok  {e:(List Int)}{r:Int}(g:Zp e=some r) :
 FnOk Tryz.prog 79 [(.slice A2 N2 D2)] [bF kT3 (.slice A2 N2 D2) e] (fun (h:Unit)=>((iv r),[])):=by
 unfold Zp at g
 refine aU Tryz.func79 R 32 R R fun C V=>?_
 refine cL 0 aB ?_
 rintro rfl
 let D:=RR kT3 A2 D2 e::V
 refine cN D ?_
 refine kQ ?_
 refine aW (A:=(Int)×(Unit)) (fun a=>Zp_J1 a.1=some r) (fun a=>[(3,(iv a.1))]) (fun a=>D) ?_ ?_
 refine bJ ?_
 obtain ⟨O,F,q⟩:=bd g
 refine aP (A:=Unit) F (fun s a=>[(0,(sc A2 e D2)),(3,(iv s.1)),(4,(iv s.2))]) (fun s a=>D) () (aS R) tI ?_
 rintro ⟨B,i⟩ _ σ1 G g m
 dsimp only [Zp_L1] at g
 refine cS ?_
 split at g
 refine eD ?_
 obtain ⟨j,g⟩:=gd g
 refine cQ [(0,(sc A2 e D2)),(3,(iv B)),(4,(iv i)),(22,(.bool ((decide ((ix e i)<1))||(decide ((ix e i)>4096)))))] (D) ?_ ?_
 refine aR ?_
 refine aZ 0 aB (show 0<e.length by have:=j; omega) (fun I o17 E=>?_)
 subst E
 refine bN ?_
 rcases bo (decide ((ix e i)<1)) with u | u
 refine eD ?_
 exact qj tI
 refine eD ?_
 exact qj tI
 rintro σ1
 refine bS ?_
 split at g
 refine fD ?_
 cases g
 obtain rfl:=m _ R
 have g:=q
 refine aR ?_
 cases g
 exact qF () (tE 1 [])
 refine dO ?_
 refine aZ 0 aB (show 0<e.length by have:=j; omega) (fun J o21 E=>?_)
 subst E
 refine iS ?_
 split at g
 refine cS ?_
 cases g
 obtain rfl:=m _ R
 have g:=q
 refine aR ?_
 cases g
 exact qF () (tE 1 [])
 refine cS ?_
 cases g
 exact qA () tI
 refine aR ?_
 cases g
 obtain rfl:=m _ R
 have g:=q
 refine bD ?_
 exact qI (B,()) g tI
 rintro ⟨M,_⟩ σ1 g
 dsimp only [Zp_J1] at g
 refine eD ?_
 cases g
 exact qF () (tE 1 [])
theorem Z0c_ok  {a:(List Int)}{r:Bool}(g:Z0c a=some r) :
 FnOk Tryz.prog 78 [(.slice A2 N2 D2)] [bF kT3 (.slice A2 N2 D2) a] (fun (h:Unit)=>((.bool r),[])):=by
 unfold Z0c at g
 refine aU Tryz.func78 R 11 R R fun C V=>?_
 refine cL 0 aB ?_
 rintro rfl
 let i:=RR kT3 A2 D2 a::V
 refine cN i ?_
 refine bJ ?_
 obtain ⟨m,j,g⟩:=bd g
 refine cQ [(2,(.bool ((decide ((a.length:Int)≤6))&&(decide (m>0)))))] (i) ?_ ?_
 refine cV ?_
 rcases bo (decide ((a.length:Int)≤6)) with e | e
 refine bS ?_
 refine lM _ (fun w s=>(s.d 0 R)) ?_
 refine bZ 1 R (hU e) qQ R (Zp_ok (cB j e)) R ?_
 rintro _
 refine lN i ?_
 refine bN ?_
 exact qj tI
 refine bJ ?_
 exact qj tI
 rintro σ1
 refine bD ?_
 cases g
 exact qF () (tE 1 [])
theorem Zo_ok  {t1:Tensor}{r:Bool}(e:Zo t1=some r) :
 FnOk Tryz.prog 38 [(.agg [(.slice A2 N2 D2),(.slice A3 N3 D3)].toArray)] [bF kT3 (.slice A2 N2 D2) t1.Dims,bF kT3 (.slice A3 N3 D3) t1.Data] (fun (h:Unit)=>((.bool r),[])):=by
 unfold Zo at e
 refine aU Tryz.func38 R 38 R R fun C V=>?_
 refine cL 0 aB ?_
 rintro rfl
 refine cL 1 aB ?_
 rintro rfl
 let I:=RR kT3 A2 D2 t1.Dims::RR kT3 A3 D3 t1.Data::V
 refine cN I ?_
 refine bD ?_
 refine kC R fun E=>?_
 refine bD ?_
 let i:=aV E [(sc A2 t1.Dims D2),(sc A3 t1.Data D3)] 38::I
 refine qN i ?_
 refine aR ?_
 obtain ⟨M,D,e⟩:=bd e
 obtain ⟨Z,G,e⟩:=bd e
 refine cQ [(1,(pt E 0)),(16,(.bool ((!M)||((t1.Data.length:Int) != Z))))] (i) ?_ ?_
 rcases bo (!M) with j | j
 refine eF 13 [] b' fun Y U=>?_
 refine iz 0 [] ?_
 refine d1 2 R (lM _ (fun w s=>(s.d 1 R)) ?_)
 refine lC 1 oG R (Z0c_ok D) R ?_
 rintro _
 refine lN i ?_
 refine aG (aJ (sL []) ?_)
 refine sF 3 [] ?_
 refine dD ?_
 exact qj tI
 refine eF 13 [] b' fun Y U=>?_
 refine iz 0 [] ?_
 refine d1 2 R (lM _ (fun w s=>(s.d 1 R)) ?_)
 refine lC 1 oG R (Z0c_ok D) R ?_
 rintro _
 refine lN i ?_
 refine aG (aJ (sL []) ?_)
 refine vD 3 [] ?_
 refine d1 10 R (lM _ (fun w s=>(s.d 1 R)) ?_)
 refine bZ 1 R (cI j) qQ R (Zp_ok (cB G (dI j))) R ?_
 rintro _
 refine lN i ?_
 refine aG (aJ (sL []) ?_)
 refine iz 11 [] ?_
 refine dD ?_
 exact qj tI
 rintro σ1
 refine bS ?_
 split at e
 refine dO ?_
 cases e
 exact qF () (tE 3 [])
 refine bN ?_
 refine aW (A:=(Unit)×(Unit)) (fun a=>Zo_J1=some r) (fun a=>[]) (fun a=>i) ?_ ?_
 refine bJ ?_
 obtain ⟨e1,F,B⟩:=bd e
 refine aP (A:=Unit) F (fun s a=>[(1,(pt E 0)),(3,(iv s))]) (fun s a=>i) () (aS R) tI ?_
 rintro g _ σ1 J e q
 dsimp only [Zo_L1] at e
 refine fD ?_
 split at e
 refine bJ ?_
 obtain ⟨u,e⟩:=gd e
 refine cQ [(1,(pt E 0)),(3,(iv g)),(37,(.bool ((decide ((ix t1.Data g)<0))||(decide ((ix t1.Data g)≥2147483647)))))] (i) ?_ ?_
 refine bN ?_
 refine aZ 2 aB (show 0<t1.Data.length by have:=u; omega) (fun O o21 T=>?_)
 subst T
 refine bN ?_
 rcases bo (decide ((ix t1.Data g)<0)) with m | m
 refine dO ?_
 exact qj tI
 refine dO ?_
 exact qj tI
 rintro σ1
 refine bS ?_
 split at e
 refine cS ?_
 cases e
 obtain rfl:=q _ R
 have e:=B
 refine aR ?_
 cases e
 exact qF () (tE 3 [])
 refine cS ?_
 cases e
 exact qA () tI
 refine aR ?_
 cases e
 obtain rfl:=q _ R
 have e:=B
 refine bD ?_
 exact cG ((),()) e trivial tI
 rintro ⟨_,_⟩ σ1 e
 dsimp only [Zo_J1] at e
 refine bJ ?_
 cases e
 exact qF () (tE 3 [])
theorem Z2_ok  {g:(List aD)}{p3:aD}{q:(List (List Int))}{r:aD×(List Int)×Bool}(E:Z2 g p3 q=some r) :
 FnOk Tryz.prog 114 [(.slice A2 N2 D2),(aA p3),(.slice A5 N5 D5)] [bF bI (.slice A2 N2 D2) g,bF kT36 (.slice A5 N5 D5) q] (fun (h:HH)=>((.tuple [(aA r.1),(s3 h),(.bool r.2.2)].toArray),[ow kT3 3 (s3 h) r.2.1])):=by
 unfold Z2 at E
 refine aU Tryz.func114 R 129 R R fun C V=>?_
 refine cL 0 aB ?_
 rintro rfl
 refine cL 1 aB ?_
 rintro rfl
 let W0:=RR bI A2 D2 g::RR kT36 A5 D5 q::V
 refine cN W0 ?_
 refine bD ?_
 refine lO (vp (aA ([]:aD)) R) ?_
 refine bJ ?_
 refine lO (vp (aA p3) R) (lO (vp (aA p3) R) ?_)
 refine aR ?_
 obtain ⟨ax,E⟩:=gd E
 refine aE (lO (vp (aA p3) R) (lO (vz (il p3) (bM cR R)) (eZ (K:=kT3) (m:=(p3.length:Int)) (z:=(0:Int)) R R cW eC jt (Zr.zk zT3 gN) (by decide) R R ax.1 ax.2.1 ax.2.2 (fun A7 D7=>(lS R (aG (aH (aL (aW (A:=(aD×(List Int))×(HH)) (fun a=>Z2_J11 a.1.1 a.1.2=some r) (fun a=>[(9,(aA a.1.1)),(10,(s3 a.2))]) (fun a=>ow kT3 3 (s3 a.2) a.1.2::W0) ?_ ?_)))))))))
 refine bJ ?_
 obtain ⟨e1,br,ay⟩:=bd E
 refine aP (A:=HH×HH×HH) br (fun s a=>[(0,(s3 a.1)),(2,(s3 a.2.1)),(9,(aA s.1)),(10,(s3 a.2.2)),(11,(iv s.2.2))]) (fun s a=>bF bI (s3 a.1) g::bF kT36 (s3 a.2.1) q::ow kT3 3 (s3 a.2.2) s.2.1::W0) ((A2,g.length,D2),(A5,q.length,D5),(A7,(List.replicate (p3.length:Int).toNat (0:Int)).length,D7)) (aS R) (fun w s=>(((s.d 1 R).d 3 R).e 3 [1,0,2])) ?_
 rintro ⟨aa,J,u⟩ ⟨⟨bw,b5,O⟩,⟨bz,b6,T⟩,⟨ah,b7,aj⟩⟩ σ1 bm E aq
 dsimp only [Z2_L1] at E
 refine aY 0 aB (fun (hn:b5=g.length)=>?_)
 subst hn
 refine aY 1 aB (fun (hn:b6=q.length)=>?_)
 subst hn
 refine aY 2 aC (fun (hn:b7=J.length)=>?_)
 subst hn
 refine cS ?_
 split at E
 refine bN ?_
 refine aW (A:=(aD×(List Int))×(HH×HH×HH)) (fun a=>Z2_J10 u a.1.1 a.1.2=some bm) (fun a=>[(0,(s3 a.2.1)),(2,(s3 a.2.2.1)),(9,(aA a.1.1)),(10,(s3 a.2.2.2)),(11,(iv u))]) (fun a=>bF bI (s3 a.2.1) g::bF kT36 (s3 a.2.2.1) q::ow kT3 3 (s3 a.2.2.2) a.1.2::W0) ?_ ?_
 refine aR ?_
 obtain ⟨a1,E⟩:=gd E
 obtain ⟨Z,E⟩:=gd E
 refine bU 1 aB (show 0<q.length by have:=a1; omega) (fun U o113 ha=>?_)
 subst ha
 refine fQ (K:=kT36) 1 u dT36.dec R a1.1 a1.2 ?_
 rintro ⟨c0,c4⟩
 refine bU 2 aB (show 0<g.length by have:=Z; omega) (fun Y o117 ha=>?_)
 subst ha
 refine eF 11 [] b' fun ht hn=>?_
 refine i6 0 [] ?_
 refine dR 3 R (fv (fo:=0) 0 fW R R R) ?_
 refine rZ 4 [] ?_
 refine dR 8 R (vz (aA (ix g u)) (eE (K:=bI) (fo:=0) (pr:=fun x=>(aA x)) 2 u jx (dT9.leaf fun _ _=>R) aB R Z.1 Z.2)) (dR 9 R (vz (il (ix g u)) (bM cR R)) (dR 10 R (ub R R) (dD (aH ?_))))
 split at E
 refine bN ?_
 refine lO (vp (aA ([]:aD)) R) ?_
 refine dO ?_
 cases E
 obtain rfl:=aq _ R
 have E:=ay
 refine aR ?_
 cases E
 exact j0 (ah,J.length,aj) (tE 7 [4])
 refine cS ?_
 obtain ⟨e2,bs,bk⟩:=bd E
 refine aP (A:=HH) bs (fun s a=>[(0,(sc (ad Y o117) g O)),(2,(sc (ad U o113) q T)),(9,(aA s.1)),(10,(s3 a)),(11,(iv u)),(12,(iv s.2.2))]) (fun s a=>RR bI (ad Y o117) O g::RR kT36 (ad U o113) T q::ow kT3 3 (s3 a) s.2.1::W0) (ah,J.length,aj) (aS R) (fun w s=>(s.f 5 [2,3])) ?_
 rintro ⟨i,j,F⟩ ⟨a2,b8,a3⟩ σ1 ap E bi
 dsimp only [Z2_L2] at E
 refine aY 2 aC (fun (hn:b8=j.length)=>?_)
 subst hn
 refine eD ?_
 refine lO (vz (aA (ix g u)) (eE (K:=bI) (fo:=0) (pr:=fun x=>(aA x)) 0 u jx (dT9.leaf fun _ _=>R) aB R Z.1 Z.2)) (lO (vz (il (ix g u)) (bM cR R)) ?_)
 refine aR ?_
 split at E
 refine kQ ?_
 refine aW (A:=(Int)×(Unit)) (fun a=>Z2_J8 g q u i j F a.1=some ap) (fun a=>[(0,(sc (ad Y o117) g O)),(2,(sc (ad U o113) q T)),(9,(aA i)),(10,(sc a2 j a3)),(11,(iv u)),(12,(iv F)),(13,(iv a.1))]) (fun a=>RR bI (ad Y o117) O g::RR kT36 (ad U o113) T q::OO kT3 3 a2 a3 j::W0) ?_ ?_
 refine bS ?_
 obtain ⟨e3,bu,bq⟩:=bd E
 refine aP (A:=Unit) bu (fun s a=>[(0,(sc (ad Y o117) g O)),(2,(sc (ad U o113) q T)),(9,(aA i)),(10,(sc a2 j a3)),(11,(iv u)),(12,(iv F)),(13,(iv s))]) (fun s a=>RR bI (ad Y o117) O g::RR kT36 (ad U o113) T q::OO kT3 3 a2 a3 j::W0) () (aS R) tI ?_
 rintro a6 _ σ1 cb E bp
 dsimp only [Z2_L3] at E
 refine bD ?_
 obtain ⟨ak,E⟩:=gd E
 obtain ⟨al,E⟩:=gd E
 refine cQ [(0,(sc (ad Y o117) g O)),(2,(sc (ad U o113) q T)),(9,(aA i)),(10,(sc a2 j a3)),(11,(iv u)),(12,(iv F)),(13,(iv a6)),(62,(.bool ((decide (a6<(i.length:Int)))&&((bt i a6) != (bt (ix g u) F)))))] (RR bI (ad Y o117) O g::RR kT36 (ad U o113) T q::OO kT3 3 a2 a3 j::W0) ?_ ?_
 rcases bo (decide (a6<(i.length:Int))) with G | G
 refine eF 16 [] b' fun ht hn=>?_
 refine dR 0 R (vI R) (dR 1 R (vp (aA i) R) (dR 2 R (vz (il i) (bM cR R)) ?_))
 refine iz 3 [] ?_
 refine dW 5 R (hU G) (vp (aA i) R) (dW 6 R (hU G) (vI R) (dW 7 R (hU G) (vz (.int .u8 (bt i a6)) (bA cR R R (ak G).1 (ak G).2)) ?_))
 refine i6 8 [] ?_
 refine dW 11 R (hU G) (vz (aA (ix g u)) (eE (K:=bI) (fo:=0) (pr:=fun x=>(aA x)) 0 u jx (dT9.leaf fun _ _=>R) aB R Z.1 Z.2)) (dW 12 R (hU G) (vI R) (dW 13 R (hU G) (vz (.int .u8 (bt (ix g u) F)) (bA cR R R (al G).1 (al G).2)) (dW 14 R (hU G) (vp (.bool ((bt i a6) != (bt (ix g u) F))) R) (dR 15 R (vr R G R) (dD ?_)))))
 exact qj tI
 refine eF 16 [] b' fun ht hn=>?_
 refine dR 0 R (vI R) (dR 1 R (vp (aA i) R) (dR 2 R (vz (il i) (bM cR R)) ?_))
 refine oy 3 [] ?_
 refine dD ?_
 exact qj tI
 rintro σ1
 refine bS ?_
 split at E
 refine fD ?_
 cases E
 exact qA () tI
 refine aR ?_
 cases E
 obtain rfl:=bp _ R
 have E:=bq
 refine bD ?_
 exact qI (a6,()) E tI
 rintro ⟨a7,_⟩ σ1 E
 dsimp only [Z2_J8] at E
 refine aL (aW (A:=(aD×(List Int))×(HH)) (fun a=>Z2_J9 q u F a7 a.1.1 a.1.2=some ap) (fun a=>[(0,(sc (ad Y o117) g O)),(2,(sc (ad U o113) q T)),(9,(aA a.1.1)),(10,(s3 a.2)),(11,(iv u)),(12,(iv F)),(13,(iv a7))]) (fun a=>RR bI (ad Y o117) O g::RR kT36 (ad U o113) T q::ow kT3 3 (s3 a.2) a.1.2::W0) ?_ ?_)
 refine aR ?_
 refine lO (vp (aA i) R) (lO (vz (il i) (bM cR R)) ?_)
 refine aR ?_
 split at E
 refine bD ?_
 obtain ⟨ac,E⟩:=gd E
 obtain ⟨ar,E⟩:=gd E
 refine aE (lO (vp (aA i) R) ?_)
 refine aR ?_
 refine lO (vz (aA (ix g u)) (eE (K:=bI) (fo:=0) (pr:=fun x=>(aA x)) 0 u jx (dT9.leaf fun _ _=>R) aB R Z.1 Z.2)) ?_
 refine aR ?_
 refine lO (vz (aA (sub (ix g u) F (aK (F+1)))) (eB F (aK (F+1)) cR R R R ac.1 ac.2.1 ac.2.2)) (lO (vz (aA (i++(sub (ix g u) F (aK (F+1))))) (mO R R ar)) (lO (vp (aA (i++(sub (ix g u) F (aK (F+1))))) R) ?_))
 refine bD ?_
 obtain ⟨au,E⟩:=gd E
 refine bD ?_
 refine bV (K:=kT3) (xs:=([(0:Int)]:List Int)) (vs:=[(iv 0)]) 0 R R cW eC gN R R R R R R ?_ R (fun c1 c5=>?_)
 exact fun I h s=>(i7).list [((),(0:Int))] I h s
 refine lM _ (tE 4 [3,0,1,2]) ?_
 refine fp (K:=kT3) 17592186044416 R R cW eC jt (Zr.zk zT3 gN) R R R R R R eI au (fun am an=>(lN (OO kT3 3 am an (j++([(0:Int)]:List Int))::_::_::W0) ?_))
 refine bD ?_
 exact qI (((i++(sub (ix g u) F (aK (F+1)))),(j++([(0:Int)]:List Int))),(am,(j++([(0:Int)]:List Int)).length,an)) E (tE 3 [1,2,0])
 refine bD ?_
 exact qI ((i,j),(a2,j.length,a3)) E tI
 rintro ⟨⟨ab,B⟩,⟨ai,b9,ag⟩⟩ σ1 E
 dsimp only [Z2_J9] at E
 refine aY 2 aC (fun (hn:b9=B.length)=>?_)
 subst hn
 refine bD ?_
 obtain ⟨a5,E⟩:=gd E
 obtain ⟨ae,E⟩:=gd E
 refine cQ [(0,(sc (ad Y o117) g O)),(2,(sc (ad U o113) q T)),(9,(aA ab)),(10,(sc ai B ag)),(11,(iv u)),(12,(iv F)),(13,(iv a7)),(100,(.bool (((ix B a7) != 0)&&((ix B a7) != (ix (ix q u) F)))))] (RR bI (ad Y o117) O g::RR kT36 (ad U o113) T q::OO kT3 3 ai ag B::W0) ?_ ?_
 rcases bo ((ix B a7) != 0) with a0 | a0
 refine bU 2 aC (show 0<B.length by have:=a5; omega) (fun bf o182 ha=>?_)
 subst ha
 refine fQ (K:=kT36) 1 u dT36.dec R a1.1 a1.2 ?_
 rintro ⟨c2,c6⟩
 refine bU 1 aB (show 0<(ix q u).length by have:=(ae a0); omega) (fun c8 o186 ha=>?_)
 subst ha
 refine eF 19 [] b' fun ht hn=>?_
 refine oy 0 [] ?_
 refine dW 13 R (hU a0) (fv (fo:=0) 0 fW R R R) (dW 14 R (hU a0) (vI R) (dW 15 R (hU a0) (oq cW eC R R (ae a0)) (dW 16 R (hU a0) (pC 1 oE aB R (ae a0)) ?_)))
 refine iz 17 [] ?_
 refine dD ?_
 exact qj (fun w s=>(s.f 5 [2,3]))
 refine bU 2 aC (show 0<B.length by have:=a5; omega) (fun bf o182 ha=>?_)
 subst ha
 refine eF 19 [] b' fun ht hn=>?_
 refine sH 0 [] ?_
 refine dD ?_
 exact qj tI
 rintro σ1
 refine bS ?_
 split at E
 refine bN ?_
 refine lO (vp (aA ([]:aD)) R) ?_
 refine dO ?_
 cases E
 obtain rfl:=bi _ R
 have E:=bk
 refine bN ?_
 cases E
 obtain rfl:=aq _ R
 have E:=ay
 refine aR ?_
 cases E
 exact j0 (ai,B.length,ag) (tE 5 [2])
 refine aR ?_
 obtain ⟨av,E⟩:=gd E
 refine bJ ?_
 refine eH (K:=kT36) 1 u dT36.dec R a1.1 a1.2 ?_
 rintro ⟨c3,c7⟩
 refine lO (fv (fo:=0) 0 fW R R R) (lI R (aZ 1 aB (show 0<(ix q u).length by have:=av; omega) (fun c9 o192 ha=>?_)))
 subst ha
 refine bD ?_
 refine aZ 4 aC (show 0<B.length by have:=a5; omega) (fun bg o194 ha=>?_)
 subst ha
 refine bS ?_
 refine lM _ (fun w s=>(s.f 5 [4,1,0,4])) ?_
 refine dQ (K:=kT3) (x':=(ix (ix q u) F)) 0 a7 R R eC R R a5.1 a5.2 ?_ ?_
 exact fun I h s=>(i7).put I h () (ix (ix q u) F) s
 refine dO ?_
 cases E
 exact qA ((ad bg o194),B.length,ag) (tE 5 [3,4,0])
 refine aR ?_
 cases E
 obtain rfl:=bi _ R
 have E:=bk
 refine aR ?_
 exact qI ((i,j),(((ad Y o117),g.length,O),((ad U o113),q.length,T),(a2,j.length,a3))) E tI
 rintro ⟨⟨ao,a4⟩,⟨⟨az,ba,b2⟩,⟨b0,bb,b3⟩,⟨b1,bc,b4⟩⟩⟩ σ1 E
 dsimp only [Z2_J10] at E
 refine aY 0 aB (fun (hn:ba=g.length)=>?_)
 subst hn
 refine aY 1 aB (fun (hn:bb=q.length)=>?_)
 subst hn
 refine aY 2 aC (fun (hn:bc=a4.length)=>?_)
 subst hn
 refine cV ?_
 cases E
 exact qA ((az,g.length,b2),(b0,q.length,b3),(b1,a4.length,b4)) tI
 refine aR ?_
 cases E
 obtain rfl:=aq _ R
 have E:=ay
 refine bD ?_
 exact qI ((aa,J),(ah,J.length,aj)) E (tE 3 [2])
 rintro ⟨⟨M,D⟩,⟨a9,be,a8⟩⟩ σ1 E
 dsimp only [Z2_J11] at E
 refine aY 0 aC (fun (hn:be=D.length)=>?_)
 subst hn
 refine bJ ?_
 refine aW (A:=(Unit)×(Unit)) (fun a=>Z2_J12 M D=some r) (fun a=>[(9,(aA M)),(10,(sc a9 D a8))]) (fun a=>OO kT3 3 a9 a8 D::W0) ?_ ?_
 refine bJ ?_
 obtain ⟨e4,bv,bl⟩:=bd E
 refine aP (A:=Unit) bv (fun s a=>[(9,(aA M)),(10,(sc a9 D a8)),(14,(iv s.1)),(15,(iv s.2))]) (fun s a=>OO kT3 3 a9 a8 D::W0) () (aS R) tI ?_
 rintro ⟨bn,ca⟩ _ σ1 cc E bj
 dsimp only [Z2_L4] at E
 refine cS ?_
 split at E
 refine bJ ?_
 obtain ⟨aw,E⟩:=gd E
 refine bN ?_
 refine aZ 0 aC (show 0<D.length by have:=aw; omega) (fun bh o223 ha=>?_)
 subst ha
 refine iS ?_
 split at E
 refine bN ?_
 refine lO (vp (aA ([]:aD)) R) ?_
 refine eD ?_
 cases E
 obtain rfl:=bj _ R
 have E:=bl
 refine aR ?_
 cases E
 exact j0 ((ad bh o223),D.length,a8) (tE 3 [0])
 refine cS ?_
 cases E
 exact qA () tI
 refine aR ?_
 cases E
 obtain rfl:=bj _ R
 have E:=bl
 refine bD ?_
 exact qI ((),()) E tI
 rintro ⟨_,_⟩ σ1 E
 dsimp only [Z2_J12] at E
 refine bD ?_
 refine lO (vp (aA M) R) (lS R (lO (vp (aA M) R) ?_))
 refine cV ?_
 cases E
 exact j0 (a9,D.length,a8) (tE 3 [0])
theorem Z0b_ok  {a:(List Int)}{r:(List Int)}(e:Z0b a=some r) :
 FnOk Tryz.prog 108 [(.slice A2 N2 D2)] [bF kT3 (.slice A2 N2 D2) a] (fun (h:HH)=>((s3 h),[ow kT3 3 (s3 h) r])):=by
 unfold Z0b at e
 refine aU Tryz.func108 R 6 R R fun C V=>?_
 refine cL 0 aB ?_
 rintro rfl
 let i:=RR kT3 A2 D2 a::V
 refine cN i ?_
 refine bJ ?_
 obtain ⟨g,e⟩:=gd e
 refine aE (bV (K:=kT3) (xs:=([]:List Int)) (vs:=[]) 0 R R cW eC gN R R R R R R ?_ R (fun A3 D3=>?_))
 exact fun I h s=>(i7).list [] I h s
 refine lS R (lM _ (fun w s=>((s.dup 1 R).mv 1)) ?_)
 refine fp (K:=kT3) 17592186044416 R R cW eC jt (Zr.zk zT3 gN) R R R R R R (mK (Kind.scal_flat _ _)) g (fun A5 D5=>(lN (OO kT3 3 A5 D5 (([]:List Int)++a)::i) ?_))
 refine bN ?_
 cases e
 exact qF (A5,(([]:List Int)++a).length,D5) (tE 2 [0])
theorem Z0h_ok  {a:(List Int)}{r:Tensor}(i:Z0h a=some r) :
 FnOk Tryz.prog 80 [(.slice A2 N2 D2)] [bF kT3 (.slice A2 N2 D2) a] (fun (h:HH×HH)=>((.agg [(s3 h.1),(s3 h.2)].toArray),[ow kT3 3 (s3 h.1) r.Dims,ow kT3 3 (s3 h.2) r.Data])):=by
 unfold Z0h at i
 refine aU Tryz.func80 R 9 R R fun C V=>?_
 refine cL 0 aB ?_
 rintro rfl
 let E:=RR kT3 A2 D2 a::V
 refine cN E ?_
 refine bD ?_
 refine bO R R dL (fun F=>(aG (aH (aL ?_))))
 obtain ⟨D,u,i⟩:=bd i
 obtain ⟨q,B,i⟩:=bd i
 obtain ⟨j,i⟩:=gd i
 refine bD ?_
 refine lM _ (fun w s=>(s.d 1 R)) ?_
 refine lC 1 lA R (Z0b_ok u) R ?_
 rintro ⟨A6,N6,D6⟩
 refine aX 0 aC ?_
 rintro rfl
 refine lS R (lM _ (fun w s=>(s.d 2 R)) ?_)
 refine lC 1 qQ R (Zp_ok B) R ?_
 rintro _
 refine eZ (K:=kT3) (m:=q) (z:=(0:Int)) R R cW eC jt (Zr.zk zT3 gN) (by decide) R R j.1 j.2.1 j.2.2 (fun e g=>(lO (vz (.agg [(sc A6 D D6),(sc e (List.replicate q.toNat (0:Int)) g)].toArray) (bX iC dL R R)) (aQ 2 R R cP R R R R R R (lN (OO kT3 3 e g (List.replicate q.toNat (0:Int))::_::aV F [(sc A6 D D6),(sc e (List.replicate q.toNat (0:Int)) g)] 38::E) ?_))))
 refine aR ?_
 cases i
 exact qS ((A6,D.length,D6),(e,(List.replicate q.toNat (0:Int)).length,g)) (tE 4 [1,0])
theorem Zg_ok  {e:(List Int)}{k3:Int}{r:(List Int)}(g:Zg e k3=some r) :
 FnOk Tryz.prog 81 [(.slice A2 N2 D2),(iv k3)] [bF kT3 (.slice A2 N2 D2) e] (fun (h:HH)=>((s3 h),[ow kT3 3 (s3 h) r])):=by
 unfold Zg at g
 refine aU Tryz.func81 R 33 R R fun C V=>?_
 refine cL 0 aB ?_
 rintro rfl
 let E:=RR kT3 A2 D2 e::V
 refine cN E ?_
 refine bJ ?_
 obtain ⟨u,g⟩:=gd g
 refine aR ?_
 refine eZ (K:=kT3) (m:=(e.length:Int)) (z:=(0:Int)) R R cW eC jt (Zr.zk zT3 gN) (by decide) R R u.1 u.2.1 u.2.2 (fun A5 D5=>(lS R (aG (aH (aL (aW (A:=((List Int))×(Unit)) (fun a=>Zg_J1 a.1=some r) (fun a=>[(5,(sc A5 (List.replicate (e.length:Int).toNat (0:Int)) D5))]) (fun a=>ow kT3 3 (.slice A5 (List.replicate (e.length:Int).toNat (0:Int)).length D5) a.1::E) ?_ ?_))))))
 refine cS ?_
 obtain ⟨e1,M,J⟩:=bd g
 refine aP (A:=Unit) M (fun s a=>[(0,(sc A2 e D2)),(1,(iv s.1)),(5,(sc A5 (List.replicate (e.length:Int).toNat (0:Int)) D5)),(6,(iv s.2.2))]) (fun s a=>ow kT3 3 (.slice A5 (List.replicate (e.length:Int).toNat (0:Int)).length D5) s.2.1::E) () (aS R) tI ?_
 rintro ⟨B,O,j⟩ _ σ1 T g G
 dsimp only [Zg_L1] at g
 refine eD ?_
 split at g
 refine bJ ?_
 obtain ⟨D,g⟩:=gd g
 obtain ⟨q,g⟩:=gd g
 obtain ⟨i,g⟩:=gd g
 refine bJ ?_
 refine aZ 1 aB (show 0<e.length by have:=D; omega) (fun U o22 F=>?_)
 subst F
 refine bD ?_
 refine lO (pz R R q) (aZ 0 aC (show 0<(List.replicate (e.length:Int).toNat (0:Int)).length by have:=i; omega) (fun Y o26 F=>?_))
 subst F
 refine bS ?_
 refine dQ (K:=kT3) (x':=(B.tmod (ix e j))) 0 j R R eC R R i.1 i.2 ?_ ?_
 exact fun I h s=>(i7).put I h () (B.tmod (ix e j)) s
 refine dO ?_
 refine lO (vz (iv (aK (B.tdiv (ix e j)))) (ln R R q)) ?_
 refine cS ?_
 cases g
 exact qA () tI
 refine aR ?_
 cases g
 obtain rfl:=G _ R
 have g:=J
 refine bD ?_
 exact qI (O,()) g tI
 rintro ⟨Z,_⟩ σ1 g
 dsimp only [Zg_J1] at g
 refine eD ?_
 cases g
 exact qF (A5,(List.replicate (e.length:Int).toNat (0:Int)).length,D5) (tE 2 [0])
theorem Z7_ok  {j:aD}{i:aD}{g:(List Int)}{r:(List Int)}(m:Z7 j i g=some r) :
 FnOk Tryz.prog 115 [(aA j),(aA i),(.slice A4 N4 D4)] [bF kT3 (.slice A4 N4 D4) g] (fun (h:HH)=>((.slice h.1 h.2.1 h.2.2),[ow kT3 3 (.slice h.1 h.2.1 h.2.2) r])):=by
 unfold Z7 at m
 refine aU Tryz.func115 R 38 R R fun C V=>?_
 refine cN (_::V) ?_
 refine cL 0 aB ?_
 rintro rfl
 let T:List HP:=RR kT3 A4 D4 g::V
 refine cN T ?_
 refine aL (aE (lS R (aG (aH (aL (aE (bV (K:=kT3) (xs:=([]:List Int)) (vs:=[]) 0 R R cW eC gN R R R R R R ?_ R (fun A5 D5=>?_))))))))
 exact fun I h s=>(i7).list [] I h s
 refine lN (OO kT3 3 A5 D5 ([]:List Int)::T) ?_
 refine lS R (aG (aH (aL (aW (A:=((List Int))×(HH)) (fun a=>Z7_J7 a.1=some r) (fun a=>[(7,(.slice a.2.1 a.2.2.1 a.2.2.2))]) (fun a=>ow kT3 3 (.slice a.2.1 a.2.2.1 a.2.2.2) a.1::T) ?_ ?_))))
 refine aL (aE (lI R (aG (aH (dY ?_)))))
 obtain ⟨e1,av,ar⟩:=bd m
 refine aP (A:=HH) av (fun s a=>[(0,(aA j)),(1,(aA i)),(2,(sc A4 g D4)),(7,(.slice a.1 a.2.1 a.2.2)),(8,(iv s.2))]) (fun s a=>ow kT3 3 (.slice a.1 a.2.1 a.2.2) s.1::T) (A5,([]:List Int).length,D5) (aS R) (fun w s=>s) ?_
 rintro ⟨O,B⟩ ⟨a5,ak,a7⟩ σ1 J m ap
 replace m:Z7_L1 j i g O B=some J:=m
 unfold Z7_L1 at m
 refine aY 0 aC (fun (U:ak=O.length)=>?_)
 subst U
 refine aL (aL (aE (lI R (lO (vp (aA j) R) (lO (vz (il j) (bM cR R)) (lO (nY R R) (aG (aH ?_))))))))
 rcases eJ m with ⟨D,m⟩|⟨D,m⟩
 refine dG R D (dF (aH (aL (aW (A:=((List Int))×(HH)) (fun a=>Z7_J6 B a.1=some J) (fun a=>[(0,(aA j)),(1,(aA i)),(2,(sc A4 g D4)),(7,(.slice a.2.1 a.2.2.1 a.2.2.2)),(8,(iv B))]) (fun a=>ow kT3 3 (.slice a.2.1 a.2.2.1 a.2.2.2) a.1::T) ?_ ?_))))
 refine dY (aL (aE (lI R (aG (aH (dY ?_))))))
 obtain ⟨e2,aw,au⟩:=bd m
 refine aP (A:=HH) aw (fun s a=>[(0,(aA j)),(1,(aA i)),(2,(sc A4 g D4)),(7,(.slice a.1 a.2.1 a.2.2)),(8,(iv B)),(9,(iv s.2))]) (fun s a=>ow kT3 3 (.slice a.1 a.2.1 a.2.2) s.1::T) (a5,O.length,a7) (aS R) (fun w s=>s) ?_
 rintro ⟨u,q⟩ ⟨a0,al,a1⟩ σ1 M m aq
 replace m:Z7_L2 j i g B u q=some M:=m
 unfold Z7_L2 at m
 refine aY 0 aC (fun (U:al=u.length)=>?_)
 subst U
 refine aL (aL (aE (lI R (lO (vp (aA i) R) (lO (vz (il i) (bM cR R)) (lO (nY R R) (aG (aH ?_))))))))
 rcases eJ m with ⟨E,m⟩|⟨E,m⟩
 refine dG R E (dF (aH (aL (aW (A:=((List Int))×(HH)) (fun a=>Z7_J5 q a.1=some M) (fun a=>[(0,(aA j)),(1,(aA i)),(2,(sc A4 g D4)),(7,(.slice a.2.1 a.2.2.1 a.2.2.2)),(8,(iv B)),(9,(iv q))]) (fun a=>ow kT3 3 (.slice a.2.1 a.2.2.1 a.2.2.2) a.1::T) ?_ ?_))))
 refine dY (aL ?_)
 obtain ⟨Y,m⟩:=gd m
 obtain ⟨Z,m⟩:=gd m
 refine eF 7 [] b' (fun ht U=>(dR 0 R (vp (aA i) R) (dR 1 R (vI R) (dR 2 R (vz (.int .u8 (bt i q)) (bA cR R R Y.1 Y.2)) (dR 3 R (vp (aA j) R) (dR 4 R (vI R) (dR 5 R (vz (.int .u8 (bt j B)) (bA cR R R Z.1 Z.2)) (dR 6 R (vp (.bool ((bt i q)==(bt j B))) R) (dD (aH ?_))))))))))
 rcases eJ m with ⟨F,m⟩|⟨F,m⟩
 refine dG R F ?_
 obtain ⟨G,m⟩:=gd m
 obtain ⟨a9,m⟩:=gd m
 refine aE (lS R (lS R (lI R (aZ 1 aB (show 0<g.length by have:=G; omega) (fun ax o64 ha=>?_)))))
 subst ha
 refine lO (oq cW eC R R G) (lO (pC 1 oE aB R G) (bV (K:=kT3) (xs:=([(ix g q)]:List Int)) (vs:=[(iv (ix g q))]) 0 R R cW eC gN R R R R R R ?_ R (fun aa ag=>?_)))
 exact fun I h s=>(i7).list [((),(ix g q))] I h s
 refine lN (OO kT3 3 aa ag ([(ix g q)]:List Int)::OO kT3 3 a0 a1 u::T) ?_
 refine lM (ow _ _ _ _::ow _ _ _ _::T) (fun w s=>(s.e 2 [1,0])) ?_
 refine fp (K:=kT3) 17592186044416 R R cW eC jt (Zr.zk zT3 gN) R R R R R R eI a9 (fun a6 a8=>(lN (OO kT3 3 a6 a8 (u++([(ix g q)]:List Int))::T) ?_))
 refine lS R (aG (eO ?_))
 exact qI ((u++([(ix g q)]:List Int)),(a6,(u++([(ix g q)]:List Int)).length,a8)) m (fun w s=>s)
 refine bW R F (dF (eO ?_))
 exact qI (u,(a0,u.length,a1)) m (fun w s=>s)
 rintro ⟨a2,⟨ab,am,ah⟩⟩ σ1 m
 replace m:Z7_J5 q a2=some M:=m
 unfold Z7_J5 at m
 refine aY 0 aC (fun (U:am=a2.length)=>?_)
 subst U
 refine aE (lI R (lO (oj R R) (lI R (aG ?_))))
 obtain rfl:=so m
 exact qA (ab,a2.length,ah) (fun w s=>s)
 refine bW R E (io (fz ?_))
 obtain rfl:=so m
 obtain rfl:=aq _ R
 have m:=au
 refine fz (gD (eO ?_))
 exact qI (u,(a0,u.length,a1)) m (fun w s=>s)
 rintro ⟨a3,⟨ac,an,ai⟩⟩ σ1 m
 replace m:Z7_J6 B a3=some J:=m
 unfold Z7_J6 at m
 refine aY 0 aC (fun (U:an=a3.length)=>?_)
 subst U
 refine aE (lI R (lO (oj R R) (lI R (aG ?_))))
 obtain rfl:=so m
 exact qA (ac,a3.length,ai) (fun w s=>s)
 refine bW R D (io (fz ?_))
 obtain rfl:=so m
 obtain rfl:=ap _ R
 have m:=ar
 refine fz (gD ?_)
 exact qI (O,(a5,O.length,a7)) m (fun w s=>s)
 rintro ⟨a4,⟨ae,ao,aj⟩⟩ σ1 m
 replace m:Z7_J7 a4=some r:=m
 unfold Z7_J7 at m
 refine aY 0 aC (fun (U:ao=a4.length)=>?_)
 subst U
 refine aL (aE (lS R (lS R (aG (aH (cK ?_))))))
 obtain rfl:=so m
 exact qF (ae,a4.length,aj) (fun w s=>(s.e 2 [0]))
theorem Zy_ok  {g:(List Int)}{e:(List Int)}{r:Int}(i:Zy g e=some r) :
 FnOk Tryz.prog 116 [(.slice A2 N2 D2),(.slice A4 N4 D4)] [bF kT3 (.slice A2 N2 D2) g,bF kT3 (.slice A4 N4 D4) e] (fun (h:Unit)=>((iv r),[])):=by
 unfold Zy at i
 refine aU Tryz.func116 R 25 R R fun C V=>?_
 refine cL 0 aB ?_
 rintro rfl
 refine cL 1 aB ?_
 rintro rfl
 let q:=RR kT3 A2 D2 g::RR kT3 A4 D4 e::V
 refine cN q ?_
 refine kQ ?_
 refine aW (A:=(Int)×(Unit)) (fun a=>Zy_J1 a.1=some r) (fun a=>[(5,(iv a.1))]) (fun a=>q) ?_ ?_
 refine bJ ?_
 obtain ⟨T,E,D⟩:=bd i
 refine aP (A:=Unit) E (fun s a=>[(0,(sc A2 g D2)),(1,(sc A4 e D4)),(5,(iv s.1)),(6,(iv s.2))]) (fun s a=>q) () (aS R) tI ?_
 rintro ⟨F,M⟩ _ σ1 G i B
 dsimp only [Zy_L1] at i
 refine cS ?_
 split at i
 refine cV ?_
 obtain ⟨j,i⟩:=gd i
 obtain ⟨m,i⟩:=gd i
 refine bU 0 aB (show 0<g.length by have:=j; omega) (fun I o17 u=>?_)
 subst u
 refine bU 1 aB (show 0<e.length by have:=m; omega) (fun J o20 u=>?_)
 subst u
 refine eF 12 [] b' fun Y U=>?_
 refine qy 0 [] ?_
 refine dD ?_
 refine eD ?_
 cases i
 exact qA () tI
 refine aR ?_
 cases i
 obtain rfl:=B _ R
 have i:=D
 refine bD ?_
 exact qI (F,()) i tI
 rintro ⟨O,_⟩ σ1 i
 dsimp only [Zy_J1] at i
 refine eD ?_
 cases i
 exact qF () (tE 2 [])
theorem Z0f_ok  {t1:Tensor}{a:(List Int)}{r:Int}(g:Z0f t1 a=some r) :
 FnOk Tryz.prog 85 [(.agg [(.slice A2 N2 D2),(.slice A3 N3 D3)].toArray),(.slice A5 N5 D5)] [bF kT3 (.slice A2 N2 D2) t1.Dims,bF kT3 (.slice A3 N3 D3) t1.Data,bF kT3 (.slice A5 N5 D5) a] (fun (h:Unit)=>((iv r),[])):=by
 unfold Z0f at g
 refine aU Tryz.func85 R 13 R R fun C V=>?_
 refine cL 0 aB ?_
 rintro rfl
 refine cL 1 aB ?_
 rintro rfl
 refine cL 2 aB ?_
 rintro rfl
 let m:=RR kT3 A2 D2 t1.Dims::RR kT3 A3 D3 t1.Data::RR kT3 A5 D5 a::V
 refine cN m ?_
 refine bD ?_
 refine kC R fun u=>?_
 refine bD ?_
 let q:=aV u [(sc A2 t1.Dims D2),(sc A3 t1.Data D3)] 38::m
 refine qN q ?_
 refine bD ?_
 obtain ⟨G,j,g⟩:=bd g
 obtain ⟨i,g⟩:=gd g
 refine bU 2 aB (show 0<t1.Data.length by have:=i; omega) (fun B o11 D=>?_)
 subst D
 refine eF 9 [] b' fun F E=>?_
 refine qx 0 [] ?_
 refine d1 5 R (lM _ (fun w s=>(((s.d 1 R).d 4 R).e 2 [1,0])) ?_)
 refine lC 2 pK R (Zy_ok j) R ?_
 rintro _
 refine lN q ?_
 refine aG (aJ (sL []) ?_)
 refine i6 6 [] ?_
 refine dD ?_
 refine bD ?_
 cases g
 exact qF () (tE 4 [])
theorem Zi_ok  {p1:Int}{r:Int}(e:Zi p1=some r) :
 FnOk Tryz.prog 163 [(iv p1)] [] (fun (h:Unit)=>((iv r),[])):=by
 unfold Zi at e
 refine aU Tryz.func163 R 11 R R fun C V=>?_
 refine cN V ?_
 refine dO ?_
 refine lO (pz R R (by decide)) ?_
 refine bN ?_
 refine aW (A:=(Int)×(Unit)) (fun a=>Zi_J1 a.1=some r) (fun a=>[(3,(iv a.1))]) (fun a=>V) ?_ ?_
 refine bJ ?_
 split at e
 refine bJ ?_
 exact qI ((aK ((p1.tmod (2147483647:Int))+2147483647)),()) e tI
 refine bD ?_
 exact qI ((p1.tmod (2147483647:Int)),()) e tI
 rintro ⟨g,_⟩ σ1 e
 dsimp only [Zi_J1] at e
 refine eD ?_
 cases e
 exact qF () tI
theorem Z0w_ok  {j:Int}{m:Int}{r:Int}(a:Z0w j m=some r) :
 FnOk Tryz.prog 84 [(iv j),(iv m)] [] (fun (h:Unit)=>((iv r),[])):=by
 unfold Z0w at a
 refine aU Tryz.func84 R 11 R R fun C V=>?_
 refine cN V ?_
 refine bJ ?_
 obtain ⟨q,e,a⟩:=bd a
 obtain ⟨u,g,a⟩:=bd a
 obtain ⟨B,i,a⟩:=bd a
 refine bD ?_
 refine lC 0 j1 R (Zi_ok e) R ?_
 rintro _
 refine lI R (lC 0 j1 R (Zi_ok g) R ?_)
 rintro _
 refine bS ?_
 refine lC 0 j1 R (Zi_ok i) R ?_
 rintro _
 refine bN ?_
 cases a
 exact qF () tI
theorem Z0v_ok  {j:Int}{m:Int}{r:Int}(a:Z0v j m=some r) :
 FnOk Tryz.prog 83 [(iv j),(iv m)] [] (fun (h:Unit)=>((iv r),[])):=by
 unfold Z0v at a
 refine aU Tryz.func83 R 11 R R fun C V=>?_
 refine cN V ?_
 refine bJ ?_
 obtain ⟨q,e,a⟩:=bd a
 obtain ⟨u,g,a⟩:=bd a
 obtain ⟨B,i,a⟩:=bd a
 refine bD ?_
 refine lC 0 j1 R (Zi_ok e) R ?_
 rintro _
 refine lI R (lC 0 j1 R (Zi_ok g) R ?_)
 rintro _
 refine bS ?_
 refine lC 0 j1 R (Zi_ok i) R ?_
 rintro _
 refine bN ?_
 cases a
 exact qF () tI
theorem Z4_ok  {a6:aD}{j:(List Tensor)}{r:Tensor}(g:Z4 a6 j=some r) :
 FnOk Tryz.prog 32 [(aA a6),(.slice A3 N3 D3)] [bF kT38 (.slice A3 N3 D3) j] (fun (h:HH×HH)=>((.agg [(s3 h.1),(s3 h.2)].toArray),[ow kT3 3 (s3 h.1) r.Dims,ow kT3 3 (s3 h.2) r.Data])):=by
 unfold Z4 at g
 refine aU Tryz.func32 R 142 R R fun C V=>?_
 refine cL 0 aB ?_
 rintro rfl
 let W0:=RR kT38 A3 D3 j::V
 refine cN W0 ?_
 refine bD ?_
 refine bO R R dL (fun b4=>(aG (aH (aL ?_))))
 obtain ⟨q,c7,g⟩:=bd g
 refine aE (lO (vp (aA a6) R) (lC 0 sU R (Z1_ok c7) R ?_))
 rintro ⟨A7,N7,D7⟩
 refine aX 0 aC ?_
 rintro rfl
 refine lO (vT R) (lS R (lO (vp (aA q.2.1) R) (lB R (lS R (lO (vp (aA q.2.1) R) ?_)))))
 refine cV ?_
 refine cQ [(1,(sc A3 j D3)),(4,(pt b4 0)),(5,(sc A7 q.1 D7)),(6,(aA q.2.1)),(35,(.bool ((!q.2.2)||((q.1.length:Int) != (j.length:Int)))))] (aV b4 [(.slice none 0 0),(.slice none 0 0)] 38::OO bI 9 A7 D7 q.1::W0) ?_ ?_
 refine bN ?_
 rcases bo (!q.2.2) with bu | bu
 refine eD ?_
 exact qj (tE 2 [1,0])
 refine eD ?_
 exact qj (tE 2 [1,0])
 rintro σ1
 refine bS ?_
 split at g
 refine aR ?_
 refine lO (vz (.agg [(.slice none 0 0),(.slice none 0 0)].toArray) (bX iC dL R R)) (aQ 0 R R cP R R R R R R (aG (aH (cK (dJ ?_)))))
 cases g
 exact qS ((none,0,0),(none,0,0)) (fun w s=>(((s.nilo kT3 3).nilo kT3 3).e 5 [1,0]))
 refine cV ?_
 refine bV (K:=kT36) (xs:=([]:List (List Int))) (vs:=[]) 0 R R kT gx mf R R R R R R ?_ R (fun bj bm=>?_)
 exact fun I h s=>(oD).list [] I h s
 refine bN ?_
 refine aW (A:=((List (List Int)))×(HH)) (fun a=>Z4_J1 j q a.1=some r) (fun a=>[(1,(sc A3 j D3)),(4,(pt b4 0)),(5,(sc A7 q.1 D7)),(6,(aA q.2.1)),(8,(s3 a.2))]) (fun a=>aV b4 [(.slice none 0 0),(.slice none 0 0)] 38::OO bI 9 A7 D7 q.1::ow (kT36).share 36 (s3 a.2) a.1::W0) ?_ ?_
 refine bJ ?_
 obtain ⟨e1,c3,ba⟩:=bd g
 refine aP (A:=HH) c3 (fun s a=>[(1,(sc A3 j D3)),(4,(pt b4 0)),(5,(sc A7 q.1 D7)),(6,(aA q.2.1)),(8,(s3 a)),(9,(iv s.2))]) (fun s a=>aV b4 [(.slice none 0 0),(.slice none 0 0)] 38::OO bI 9 A7 D7 q.1::ow (kT36).share 36 (s3 a) s.1::W0) (bj,([]:List (List Int)).length,bm) (aS R) (fun w s=>((s.wk 0 R).e 3 [1,2,0])) ?_
 rintro ⟨J,a0⟩ ⟨bk,bq,bn⟩ σ1 cg g b7
 dsimp only [Z4_L1] at g
 refine aY 2 eM (fun (hn:bq=J.length)=>?_)
 subst hn
 refine cS ?_
 split at g
 refine eD ?_
 obtain ⟨ai,g⟩:=gd g
 obtain ⟨cy,bb,g⟩:=bd g
 refine aR ?_
 refine aZ 3 aB (show 0<j.length by have:=ai; omega) (fun bs o29 ha=>?_)
 subst ha
 refine bS ?_
 refine eH (K:=kT38) 3 a0 dT38.dec R ai.1 ai.2 ?_
 rintro ⟨⟨aq,ar⟩,⟨bl,bp⟩⟩
 refine lO (vz (.agg [(sc aq ((ix j a0).Dims) ar),(sc bl ((ix j a0).Data) bp)].toArray) (fB (fo:=0) 0 hW cP R R R R)) (lM _ (fun w s=>(((s.d 1 R).d 3 R).f 8 [1,1,0,1,2,6])) ?_)
 refine lC 2 sW R (Zo_ok bb) R ?_
 rintro _
 refine aR ?_
 split at g
 refine aR ?_
 refine lO (vz (.agg [(.slice none 0 0),(.slice none 0 0)].toArray) (bX iC dL R R)) (aQ 3 R R cP R R R R R R (aG (aH (cK (dJ (gE (dJ ?_)))))))
 cases g
 obtain rfl:=b7 _ R
 have g:=ba
 refine aR ?_
 cases g
 exact qS ((none,0,0),(none,0,0)) (fun w s=>(((s.nilo kT3 3).nilo kT3 3).e 9 [1,0]))
 refine aR ?_
 obtain ⟨b8,g⟩:=gd g
 refine cV ?_
 refine lO (vz (.pointer (some ⟨bs,o29+a0.toNat*2,none⟩)) (kg iB R R)) (lO (fv (fo:=0) 0 fW R R R) (lM _ (fun w s=>(s.d 1 R)) ?_))
 refine bV (K:=(kT36).share) (xs:=([(ix j a0).Dims]:List (List Int))) (vs:=[(sc aq ((ix j a0).Dims) ar)]) 1 R R kT gx mf R R R R R R ?_ R (fun cn cq=>?_)
 exact fun I h s=>(oC).list [((sc aq ((ix j a0).Dims) ar),(ix j a0).Dims)] I h s
 refine lM _ (fun w s=>(s.f 7 [6,1,0,6])) ?_
 refine fp (K:=(kT36).share) 5864062014805 R R kT gx qR (Zr.zk (Zr.share zT36) mf) R R R R R R eI b8 (fun b1 b5=>(lN (OO (kT36).share 36 b1 b5 (J++([(ix j a0).Dims]:List (List Int)))::_::_::_::_::_::W0) ?_))
 refine cS ?_
 cases g
 exact qA (b1,(J++([(ix j a0).Dims]:List (List Int))).length,b5) (tE 6 [4,5,0])
 refine aR ?_
 cases g
 obtain rfl:=b7 _ R
 have g:=ba
 refine bD ?_
 exact qI (J,(bk,J.length,bn)) g tI
 rintro ⟨a3,⟨b2,br,b6⟩⟩ σ1 g
 dsimp only [Z4_J1] at g
 refine aY 2 eM (fun (hn:br=a3.length)=>?_)
 subst hn
 refine bS ?_
 obtain ⟨m,bc,g⟩:=bd g
 refine bD ?_
 refine lO (vp (aA q.2.1) R) (lS R (lM _ (tE 3 [1,2,0]) ?_))
 refine lC 2 sX R (FnOk.lends (A':=[OO bI 9 A7 D7 q.1,OO (kT36).share 36 b2 b6 a3]) (A:=[RR bI A7 D7 q.1,RR kT36 b2 b6 a3]) (B:=[]) (Z2_ok bc) ⟨bB,i4,trivial⟩ (fun _=>⟨(bP jT),trivial⟩)) R ?_
 rintro ⟨U,ct,Y⟩
 refine aX 2 aC ?_
 rintro rfl
 refine lO (vT R) (lO (vp (aA m.1) R) (lS R (lB R (lO (vp (aA m.1) R) ?_))))
 refine bJ ?_
 obtain ⟨aj,g⟩:=gd g
 obtain ⟨c8,be,g⟩:=bd g
 refine cQ [(1,(sc A3 j D3)),(4,(pt b4 0)),(5,(sc A7 q.1 D7)),(6,(aA q.2.1)),(10,(aA m.1)),(11,(sc U m.2.1 Y)),(76,(.bool ((!m.2.2)||(!c8))))] (aV b4 [(.slice none 0 0),(.slice none 0 0)] 38::OO bI 9 A7 D7 q.1::RR kT3 U Y m.2.1::W0) ?_ ?_
 refine bN ?_
 rcases bo (!m.2.2) with M | M
 refine dO ?_
 exact qj (fun w s=>((s.shr 2 R).e 4 [3,1,0]))
 refine bS ?_
 refine lW (cI M) (vp (aA q.2.1) R) (lW (cI M) (vz (il q.2.1) (bM cR R)) (kK (fun w s=>s.shr 2 R) (kb (K:=kT3) (0:Int) (q.2.1.length:Int) 0 R (cI M) cW eC R R R R (aj M).1 (aj M).2.1 (aj M).2.2 (fun co cr=>(lM _ (fun w s=>(s.d 0 R)) ?_)))))
 refine bZ 1 R (cI M) oG R (Z0c_ok (cB be (dI M))) R ?_
 rintro _
 refine aR ?_
 exact qj (tE 5 [4,2,1])
 rintro σ1
 refine bS ?_
 split at g
 refine aR ?_
 refine lO (vz (.agg [(.slice none 0 0),(.slice none 0 0)].toArray) (bX iC dL R R)) (aQ 0 R R cP R R R R R R (lN (_::_::_::W0) ?_))
 refine bN ?_
 cases g
 exact qS ((none,0,0),(none,0,0)) (fun w s=>(((s.nilo kT3 3).nilo kT3 3).e 6 [1,0]))
 refine bN ?_
 obtain ⟨ak,g⟩:=gd g
 obtain ⟨i,bf,g⟩:=bd g
 refine bD ?_
 refine lO (vp (aA q.2.1) R) (lO (vz (il q.2.1) (bM cR R)) (kb (K:=kT3) (0:Int) (q.2.1.length:Int) 2 R R cW eC R R R R ak.1 ak.2.1 ak.2.2 (fun cp cs=>(lM _ (fun w s=>(s.d 0 R)) ?_))))
 refine lC 1 sY R (Z0h_ok bf) R ?_
 rintro ⟨⟨u,cu,D⟩,⟨E,cv,F⟩⟩
 refine aX 0 aC ?_
 rintro rfl
 refine aX 1 aC ?_
 rintro rfl
 refine bO R R dL (fun G=>(aQ 0 R R cP R R R R R R (lN (aV G [(sc u i.Dims D),(sc E i.Data F)] 38::_::_::_::_::_::_::W0) ?_)))
 refine dO ?_
 refine aW (A:=(Int)×(Unit)) (fun a=>Z4_J2 j q m i a.1=some r) (fun a=>[(1,(sc A3 j D3)),(4,(pt b4 0)),(5,(sc A7 q.1 D7)),(6,(aA q.2.1)),(10,(aA m.1)),(11,(sc U m.2.1 Y)),(13,(pt G 0)),(14,(iv a.1))]) (fun a=>aV b4 [(.slice none 0 0),(.slice none 0 0)] 38::OO bI 9 A7 D7 q.1::RR kT3 U Y m.2.1::aV G [(sc u i.Dims D),(sc E i.Data F)] 38::OO kT3 3 u D i.Dims::OO kT3 3 E F i.Data::W0) ?_ ?_
 refine bJ ?_
 obtain ⟨e2,c4,c0⟩:=bd g
 refine aP (A:=Unit) c4 (fun s a=>[(1,(sc A3 j D3)),(4,(pt b4 0)),(5,(sc A7 q.1 D7)),(6,(aA q.2.1)),(10,(aA m.1)),(11,(sc U m.2.1 Y)),(13,(pt G 0)),(14,(iv s.1)),(15,(iv s.2))]) (fun s a=>aV b4 [(.slice none 0 0),(.slice none 0 0)] 38::OO bI 9 A7 D7 q.1::RR kT3 U Y m.2.1::aV G [(sc u i.Dims D),(sc E i.Data F)] 38::OO kT3 3 u D i.Dims::OO kT3 3 E F i.Data::W0) () (aS R) (fun w s=>(s.f 7 [4,3,0,3])) ?_
 rintro ⟨ao,cx⟩ _ σ1 ch g bv
 dsimp only [Z4_L2] at g
 refine cS ?_
 split at g
 refine cV ?_
 obtain ⟨b9,g⟩:=gd g
 refine bN ?_
 refine aZ 2 aB (show 0<m.2.1.length by have:=b9; omega) (fun cw o68 ha=>?_)
 subst ha
 refine iS ?_
 cases g
 exact qA () tI
 refine aR ?_
 cases g
 obtain rfl:=bv _ R
 have g:=c0
 refine bD ?_
 exact qI (ao,()) g tI
 rintro ⟨a5,_⟩ σ1 g
 dsimp only [Z4_J2] at g
 refine aL (aW (A:=((List Int))×(Unit)) (fun a=>Z4_J5 i a.1=some r) (fun a=>[(4,(pt b4 0)),(13,(pt G 0))]) (fun a=>aV b4 [(.slice none 0 0),(.slice none 0 0)] 38::aV G [(sc u i.Dims D),(sc E i.Data F)] 38::OO kT3 3 u D i.Dims::ow kT3 3 (.slice E i.Data.length F) a.1::W0) ?_ ?_)
 refine bJ ?_
 obtain ⟨e3,c5,c1⟩:=bd g
 refine aP (A:=Unit) c5 (fun s a=>[(1,(sc A3 j D3)),(4,(pt b4 0)),(5,(sc A7 q.1 D7)),(6,(aA q.2.1)),(10,(aA m.1)),(11,(sc U m.2.1 Y)),(13,(pt G 0)),(14,(iv a5)),(16,(iv s.2))]) (fun s a=>aV b4 [(.slice none 0 0),(.slice none 0 0)] 38::OO bI 9 A7 D7 q.1::RR kT3 U Y m.2.1::aV G [(sc u i.Dims D),(sc E i.Data F)] 38::OO kT3 3 u D i.Dims::ow kT3 3 (.slice E i.Data.length F) s.1::W0) () (aS R) tI ?_
 rintro ⟨Z,al⟩ _ σ1 bg g bw
 dsimp only [Z4_L3] at g
 refine dO ?_
 split at g
 refine bJ ?_
 obtain ⟨T,au,g⟩:=bd g
 refine aR ?_
 refine lM _ (fun w s=>(s.d 2 R)) ?_
 refine lC 1 sZ R (Zg_ok au) R ?_
 rintro ⟨a1,c9,a2⟩
 refine aX 0 aC ?_
 rintro rfl
 refine cS ?_
 refine aW (A:=(Int)×(Unit)) (fun a=>Z4_J4 q i Z al T a.1=some bg) (fun a=>[(1,(sc A3 j D3)),(4,(pt b4 0)),(5,(sc A7 q.1 D7)),(6,(aA q.2.1)),(10,(aA m.1)),(11,(sc U m.2.1 Y)),(13,(pt G 0)),(14,(iv a5)),(16,(iv al)),(17,(sc a1 T a2)),(18,(iv a.1))]) (fun a=>aV b4 [(.slice none 0 0),(.slice none 0 0)] 38::OO bI 9 A7 D7 q.1::RR kT3 U Y m.2.1::aV G [(sc u i.Dims D),(sc E i.Data F)] 38::OO kT3 3 u D i.Dims::ow kT3 3 (.slice E i.Data.length F) Z::OO kT3 3 a1 a2 T::W0) ?_ ?_
 refine bJ ?_
 obtain ⟨e4,c6,c2⟩:=bd g
 refine aP (A:=Unit) c6 (fun s a=>[(1,(sc A3 j D3)),(4,(pt b4 0)),(5,(sc A7 q.1 D7)),(6,(aA q.2.1)),(10,(aA m.1)),(11,(sc U m.2.1 Y)),(13,(pt G 0)),(14,(iv a5)),(16,(iv al)),(17,(sc a1 T a2)),(18,(iv s.1)),(19,(iv s.2))]) (fun s a=>aV b4 [(.slice none 0 0),(.slice none 0 0)] 38::OO bI 9 A7 D7 q.1::RR kT3 U Y m.2.1::aV G [(sc u i.Dims D),(sc E i.Data F)] 38::OO kT3 3 u D i.Dims::ow kT3 3 (.slice E i.Data.length F) Z::OO kT3 3 a1 a2 T::W0) () (aS R) (fun w s=>(s.f 7 [1,6,0,1])) ?_
 rintro ⟨bi,O⟩ _ σ1 ci g bz
 dsimp only [Z4_L4] at g
 refine cS ?_
 split at g
 refine cV ?_
 obtain ⟨a7,g⟩:=gd g
 obtain ⟨a8,g⟩:=gd g
 obtain ⟨am,av,g⟩:=bd g
 obtain ⟨cj,aw,g⟩:=bd g
 obtain ⟨ck,ax,g⟩:=bd g
 refine bU 7 aB (show 0<j.length by have:=a7; omega) (fun cb o149 ha=>?_)
 subst ha
 refine fQ (K:=kT38) 7 O dT38.dec R a7.1 a7.2 ?_
 rintro ⟨⟨aa,ae⟩,⟨ab,ag⟩⟩
 refine bU 4 aC (show 0<q.1.length by have:=a8; omega) (fun cc o154 ha=>?_)
 subst ha
 refine eF 15 [] b' fun ht hn=>?_
 refine rZ 0 [] ?_
 refine dR 4 R (vz (.agg [(sc aa ((ix j O).Dims) ae),(sc ab ((ix j O).Data) ag)].toArray) (fB (fo:=0) 0 hW cP R R R R)) ?_
 refine i6 5 [] ?_
 refine dR 8 R (vz (aA (ix q.1 O)) (eE (K:=bI) (fo:=0) (pr:=fun x=>(aA x)) 4 O jx (dT9.leaf fun _ _=>R) aC R a8.1 a8.2)) (dR 9 R (vp (aA m.1) R) (dR 10 R (vS R) (d1 11 R (lM _ (fun w s=>(s.f 10 [9,1,0,9])) ?_))))
 refine lC 1 t2 R (FnOk.lends (A':=[OO kT3 3 a1 a2 T]) (A:=[RR kT3 a1 a2 T]) (B:=[]) (Z7_ok av) ⟨bB,trivial⟩ (fun _=>⟨(bP jT),trivial⟩)) R ?_
 rintro ⟨ac,ca,ah⟩
 refine aX 1 aC ?_
 rintro rfl
 refine aG (aJ (fun w s=>(s.f 11 [2,9,0,1])) (d1 12 R (lM _ (fun w s=>(((s.d 3 R).d 5 R).f 13 [3,1,1,1,0,1,2,1,4,9])) ?_)))
 refine lC 3 t6 R (FnOk.lends (A':=[OO kT3 3 ac ah am]) (A:=[RR kT3 ac ah am]) (B:=[RR kT3 aa ae ((ix j O).Dims),RR kT3 ab ag ((ix j O).Data)]) (FnOk.perm (Z0f_ok aw) (Pre':=[RR kT3 ac ah am,RR kT3 aa ae ((ix j O).Dims),RR kT3 ab ag ((ix j O).Data)]) (fun _ _ _ s=>(s.e 3 [1,2,0]))) ⟨bB,trivial⟩ (fun _=>trivial)) R ?_
 rintro _
 refine aG (aJ (fun w s=>(s.f 11 [2,9,1,1])) (d1 13 R (lC 0 uN R (Z0w_ok ax) R ?_)))
 rintro _
 refine aG (aJ (fun w s=>(s.f 11 [2,9,1,1])) (dR 14 R (vI R) (hS:=(fun w s=>(s.f 11 [2,9,1,1]))) (dD ?_)))
 refine eD ?_
 cases g
 exact qA () (fun w s=>(s.f 11 [5,6,1,1]))
 refine aR ?_
 cases g
 obtain rfl:=bz _ R
 have g:=c2
 refine bD ?_
 exact qI (bi,()) g tI
 rintro ⟨cm,_⟩ σ1 g
 dsimp only [Z4_J4] at g
 refine bS ?_
 obtain ⟨a9,g⟩:=gd g
 obtain ⟨bh,ay,g⟩:=bd g
 refine eF 8 [6] b' fun ht hn=>?_
 refine i6 0 [6] ?_
 refine dR 3 R (vp (aA q.2.1) R) (hS:=(sL [6])) (dR 4 R (vz (il q.2.1) (bM cR R)) (hS:=(sL [6])) (d1 5 R (kK (fun w s=>s.shr 6 R) (kb (K:=kT3) (0:Int) (q.2.1.length:Int) 0 R R cW eC R R R R a9.1 a9.2.1 a9.2.2 (fun b0 b3=>(aG (aJ (sL [1,0]) (d1 6 R (lM _ (fun w s=>((s.d 0 R).f 9 [7,1,0,7,8,1])) ?_)))))))))
 refine lC 2 pK R (FnOk.lends (A':=[OO kT3 3 u D i.Dims]) (A:=[RR kT3 u D i.Dims]) (B:=[RR kT3 b0 b3 (sub T (0:Int) (q.2.1.length:Int))]) (Zy_ok ay) ⟨bB,trivial⟩ (fun _=>trivial)) R ?_
 rintro _
 refine aG (aJ (tE 8 [3,4,5,6,0,7]) (dR 7 R (vI R) (hS:=(tE 8 [3,4,5,6,0,7])) (dD (aH ?_))))
 obtain ⟨a4,g⟩:=gd g
 obtain ⟨ap,az,g⟩:=bd g
 refine bU 7 aC (show 0<i.Data.length by have:=a4; omega) (fun cf o171 ha=>?_)
 subst ha
 refine eF 12 [7] b' fun ht hn=>?_
 refine vD 0 [7] ?_
 refine pE 8 [7] ?_
 refine d1 7 R (lO (pC 7 oE aC R a4) (aG (aJ (sL [7]) (d1 9 R (lC 0 uO R (Z0v_ok az) R ?_)))))
 rintro _
 refine aG (aJ (sL [7]) ?_)
 refine pE 10 [7] ?_
 refine d1 11 R (lM _ (fun w s=>(s.f 8 [7,1,0,7])) ?_)
 refine dQ (K:=kT3) (x':=ap) 0 bh R R eC R R a4.1 a4.2 ?_ ?_
 exact fun I h s=>(i7).put I h () ap s
 refine aG (aJ (sL [0]) (dD ?_))
 refine eD ?_
 cases g
 exact qA () (tE 8 [4,5,6,7,1,0])
 refine aR ?_
 cases g
 obtain rfl:=bw _ R
 have g:=c1
 refine bD ?_
 exact qI (Z,()) g (tE 6 [0,3,4,5])
 rintro ⟨an,_⟩ σ1 g
 dsimp only [Z4_J5] at g
 refine aR ?_
 refine aQ 0 R R cP R R R R R R (lN (aV b4 [(sc u i.Dims D),(sc E i.Data F)] 38::aV G [(sc u i.Dims D),(sc E i.Data F)] 38::_::ow kT3 3 (.slice E i.Data.length F) an::W0) ?_)
 refine aR ?_
 cases g
 exact qS ((u,i.Dims.length,D),(E,i.Data.length,F)) (tE 5 [2,3])
theorem Z0z_ok  {t1:Tensor}{r:Tensor}(g:Z0z t1=some r) :
 FnOk Tryz.prog 49 [(.agg [(.slice A2 N2 D2),(.slice A3 N3 D3)].toArray)] [bF kT3 (.slice A2 N2 D2) t1.Dims,bF kT3 (.slice A3 N3 D3) t1.Data] (fun (h:HH×HH)=>((.agg [(s3 h.1),(s3 h.2)].toArray),[ow kT3 3 (s3 h.1) r.Dims,ow kT3 3 (s3 h.2) r.Data])):=by
 unfold Z0z at g
 refine aU Tryz.func49 R 10 R R fun C V=>?_
 refine cL 0 aB ?_
 rintro rfl
 refine cL 1 aB ?_
 rintro rfl
 let D:=RR kT3 A2 D2 t1.Dims::RR kT3 A3 D3 t1.Data::V
 refine cN D ?_
 refine bD ?_
 refine kC R fun G=>?_
 refine bO R R dL (fun I=>(aG ?_))
 let F:=aV G [(sc A2 t1.Dims D2),(sc A3 t1.Data D3)] 38::D
 refine bD ?_
 obtain ⟨u,q,g⟩:=bd g
 obtain ⟨B,i,g⟩:=bd g
 refine eF 8 [0] b' fun O M=>?_
 refine iz 0 [0] ?_
 refine iz 3 [0] ?_
 refine d1 2 R (lM _ (fun w s=>(s.d 2 R)) ?_)
 refine lC 1 lA R (Z0b_ok q) R ?_
 rintro ⟨j,J,m⟩
 refine aX 0 aC ?_
 rintro rfl
 refine aG (aJ (sL [1,0]) (d1 5 R (lM _ (fun w s=>(s.d 4 R)) ?_)))
 refine lC 1 lA R (Z0b_ok i) R ?_
 rintro ⟨a,E,e⟩
 refine aX 0 aC ?_
 rintro rfl
 refine aG (aJ (sL [2,1,0]) (dR 6 R (vz (.agg [(sc j u m),(sc a B e)].toArray) (bX iC dL R R)) (hS:=(sL [2,1,0])) (d1 7 R (aQ 2 R R cP R R R R R R (lN (_::_::aV I [(sc j u m),(sc a B e)] 38::F) ?_)))))
 refine aG (aJ (sL [2,1,0]) (dD ?_))
 refine bD ?_
 cases g
 exact qS ((j,u.length,m),(a,B.length,e)) (tE 6 [1,0])
theorem Zs_ok  {p1:Int}{m:Int}{r:(List Int)}(g:Zs p1 m=some r) :
 FnOk Tryz.prog 51 [(iv p1),(iv m)] [] (fun (h:HH)=>((.slice h.1 h.2.1 h.2.2),[ow kT3 3 (.slice h.1 h.2.1 h.2.2) r])):=by
 unfold Zs at g
 refine aU Tryz.func51 R 19 R R fun C V=>?_
 refine cN V ?_
 refine aL (aE (lS R (aG (aH (aL (aE (bV (K:=kT3) (xs:=([]:List Int)) (vs:=[]) 0 R R cW eC gN R R R R R R ?_ R (fun A3 D3=>?_))))))))
 exact fun I h s=>(i7).list [] I h s
 refine lN (OO kT3 3 A3 D3 ([]:List Int)::V) ?_
 refine lS R (aG (aH (aL (aW (A:=((List Int))×(HH)) (fun a=>Zs_J1 a.1=some r) (fun a=>[(5,(.slice a.2.1 a.2.2.1 a.2.2.2))]) (fun a=>ow kT3 3 (.slice a.2.1 a.2.2.1 a.2.2.2) a.1::V) ?_ ?_))))
 refine aL (aE (lI R (lI R (aG (aH (dY ?_))))))
 obtain ⟨e1,Z,Y⟩:=bd g
 refine aP (A:=HH) Z (fun s a=>[(1,(iv m)),(5,(.slice a.1 a.2.1 a.2.2)),(6,(iv s.2))]) (fun s a=>ow kT3 3 (.slice a.1 a.2.1 a.2.2) s.1::V) (A3,([]:List Int).length,D3) (aS R) (fun w s=>s) ?_
 rintro ⟨u,i⟩ ⟨A9,N9,D9⟩ σ1 F g U
 replace g:Zs_L1 m u i=some F:=g
 unfold Zs_L1 at g
 refine aY 0 aC (fun (hn:N9=u.length)=>?_)
 subst hn
 refine aL (aL (aE (lI R (lI R (lO (nY R R) (aG (aH ?_)))))))
 rcases eJ g with ⟨j,g⟩|⟨j,g⟩
 refine dG R j (dF (aH (aL (dY ?_))))
 obtain ⟨E,g⟩:=gd g
 refine aE (lS R (lI R (bV (K:=kT3) (xs:=([i]:List Int)) (vs:=[(iv i)]) 0 R R cW eC gN R R R R R R ?_ R (fun G M=>?_))))
 exact fun I h s=>(i7).list [((),i)] I h s
 refine lN (OO kT3 3 G M ([i]:List Int)::OO kT3 3 A9 D9 u::V) ?_
 refine lM (ow _ _ _ _::ow _ _ _ _::V) (fun w s=>(s.e 2 [1,0])) ?_
 refine fp (K:=kT3) 17592186044416 R R cW eC jt (Zr.zk zT3 gN) R R R R R R eI E (fun B D=>(lN (OO kT3 3 B D (u++([i]:List Int))::V) ?_))
 refine lS R (aG (eO (aH (aE (lI R (lO (oj R R) (lI R (aG ?_))))))))
 obtain rfl:=so g
 exact qA (B,(u++([i]:List Int)).length,D) (fun w s=>s)
 refine bW R j (io (fz ?_))
 obtain rfl:=so g
 obtain rfl:=U _ R
 have g:=Y
 refine fz (gD ?_)
 exact qI (u,(A9,u.length,D9)) g (fun w s=>s)
 rintro ⟨q,⟨J,T,O⟩⟩ σ1 g
 replace g:Zs_J1 q=some r:=g
 unfold Zs_J1 at g
 refine aY 0 aC (fun (hn:T=q.length)=>?_)
 subst hn
 refine aL (aE (lS R (lS R (aG (aH (cK ?_))))))
 obtain rfl:=so g
 exact qF (J,q.length,O) (fun w s=>s)
theorem Z0x_ok  {t1:Tensor}{a:Int}{r:Bool}(g:Z0x t1 a=some r) :
 FnOk Tryz.prog 104 [(.agg [(.slice A2 N2 D2),(.slice A3 N3 D3)].toArray),(iv a)] [bF kT3 (.slice A2 N2 D2) t1.Dims,bF kT3 (.slice A3 N3 D3) t1.Data] (fun (h:Unit)=>((.bool r),[])):=by
 unfold Z0x at g
 refine aU Tryz.func104 R 18 R R fun C V=>?_
 refine cL 0 aB ?_
 rintro rfl
 refine cL 1 aB ?_
 rintro rfl
 let B:=RR kT3 A2 D2 t1.Dims::RR kT3 A3 D3 t1.Data::V
 refine cN B ?_
 refine bD ?_
 refine kC R fun D=>?_
 refine bD ?_
 let i:=aV D [(sc A2 t1.Dims D2),(sc A3 t1.Data D3)] 38::B
 refine qN i ?_
 refine bD ?_
 obtain ⟨u,q,g⟩:=bd g
 refine cQ [(4,(.bool ((u&&(decide (a≥0)))&&(decide (a<(t1.Dims.length:Int))))))] (i) ?_ ?_
 refine bD ?_
 refine lM _ (fun w s=>(((s.d 1 R).d 3 R).e 2 [1,0])) ?_
 refine lC 2 sW R (Zo_ok q) R ?_
 rintro _
 refine lN i ?_
 refine bS ?_
 rcases bo u with j | j
 refine bN ?_
 rcases bo (u&&(decide (a≥0))) with m | m
 refine dO ?_
 exact qj tI
 refine dO ?_
 exact qj tI
 refine iS ?_
 exact qj tI
 rintro σ1
 refine bD ?_
 cases g
 exact qF () (tE 3 [])
theorem Z05_ok  {e:(List Int)}{B:Int}{r:Bool}(g:Z05 e B=some r) :
 FnOk Tryz.prog 148 [(.slice A2 N2 D2),(iv B)] [bF kT3 (.slice A2 N2 D2) e] (fun (h:Unit)=>((.bool r),[])):=by
 unfold Z05 at g
 refine aU Tryz.func148 R 25 R R fun C V=>?_
 refine cL 0 aB ?_
 rintro rfl
 let D:=RR kT3 A2 D2 e::V
 refine cN D ?_
 refine bJ ?_
 refine aW (A:=(Unit)×(Unit)) (fun a=>Z05_J1=some r) (fun a=>[]) (fun a=>D) ?_ ?_
 refine bJ ?_
 obtain ⟨J,E,u⟩:=bd g
 refine aP (A:=Unit) E (fun s a=>[(0,(sc A2 e D2)),(1,(iv B)),(5,(iv s))]) (fun s a=>D) () (aS R) tI ?_
 rintro i _ σ1 F g m
 dsimp only [Z05_L1] at g
 refine cS ?_
 split at g
 refine bJ ?_
 obtain ⟨q,g⟩:=gd g
 refine cQ [(0,(sc A2 e D2)),(1,(iv B)),(5,(iv i)),(24,(.bool ((decide ((ix e i)<0))||(decide ((ix e i)≥B)))))] (D) ?_ ?_
 refine aR ?_
 refine aZ 0 aB (show 0<e.length by have:=q; omega) (fun G o14 I=>?_)
 subst I
 refine bN ?_
 rcases bo (decide ((ix e i)<0)) with j | j
 refine dO ?_
 exact qj tI
 refine dO ?_
 exact qj tI
 rintro σ1
 refine bS ?_
 split at g
 refine cS ?_
 cases g
 obtain rfl:=m _ R
 have g:=u
 refine aR ?_
 cases g
 exact qF () (tE 1 [])
 refine cS ?_
 cases g
 exact qA () tI
 refine aR ?_
 cases g
 obtain rfl:=m _ R
 have g:=u
 refine bD ?_
 exact cG ((),()) g trivial tI
 rintro ⟨_,_⟩ σ1 g
 dsimp only [Z05_J1] at g
 refine bJ ?_
 cases g
 exact qF () (tE 1 [])
theorem Z0i_ok  {i:(List Int)}{m:Int}{g:Int}{r:(List Int)}(e:Z0i i m g=some r) :
 FnOk Tryz.prog 105 [(.slice A2 N2 D2),(iv m),(iv g)] [bF kT3 (.slice A2 N2 D2) i] (fun (h:HH)=>((s3 h),[ow kT3 3 (s3 h) r])):=by
 unfold Z0i at e
 refine aU Tryz.func105 R 15 R R fun C V=>?_
 refine cL 0 aB ?_
 rintro rfl
 let B:=RR kT3 A2 D2 i::V
 refine cN B ?_
 refine bJ ?_
 obtain ⟨q,j,e⟩:=bd e
 refine bD ?_
 refine lM _ (fun w s=>(s.d 0 R)) ?_
 refine lC 1 lA R (Z0b_ok j) R ?_
 rintro ⟨F,G,u⟩
 refine aX 0 aC ?_
 rintro rfl
 refine bN ?_
 obtain ⟨a,e⟩:=gd e
 refine bN ?_
 refine aZ 0 aC (show 0<q.length by have:=a; omega) (fun D o10 E=>?_)
 subst E
 refine bS ?_
 refine dQ (K:=kT3) (x':=g) 0 m R R eC R R a.1 a.2 ?_ ?_
 exact fun I h s=>(i7).put I h () g s
 refine cS ?_
 cases e
 exact qF ((ad D o10),q.length,u) (tE 2 [0])
theorem Zx_ok  {t1:Tensor}{D:Int}{g:(List Int)}{r:Tensor}(i:Zx t1 D g=some r) :
 FnOk Tryz.prog 50 [(.agg [(.slice A2 N2 D2),(.slice A3 N3 D3)].toArray),(iv D),(.slice A6 N6 D6)] [bF kT3 (.slice A2 N2 D2) t1.Dims,bF kT3 (.slice A3 N3 D3) t1.Data,bF kT3 (.slice A6 N6 D6) g] (fun (h:HH×HH)=>((.agg [(s3 h.1),(s3 h.2)].toArray),[ow kT3 3 (s3 h.1) r.Dims,ow kT3 3 (s3 h.2) r.Data])):=by
 unfold Zx at i
 refine aU Tryz.func50 R 70 R R fun C V=>?_
 refine cL 0 aB ?_
 rintro rfl
 refine cL 1 aB ?_
 rintro rfl
 refine cL 2 aB ?_
 rintro rfl
 let W0:=RR kT3 A2 D2 t1.Dims::RR kT3 A3 D3 t1.Data::RR kT3 A6 D6 g::V
 refine cN W0 ?_
 refine bD ?_
 refine kC R fun b7=>?_
 refine bO R R dL (fun b8=>(aG ?_))
 let W1:=aV b7 [(sc A2 t1.Dims D2),(sc A3 t1.Data D3)] 38::W0
 refine aR ?_
 obtain ⟨r9,a7,i⟩:=bd i
 obtain ⟨U,i⟩:=gd i
 obtain ⟨am,a8,i⟩:=bd i
 refine cQ [(1,(iv D)),(2,(sc A6 g D6)),(3,(pt b7 0)),(6,(pt b8 0)),(29,(.bool (((!r9)||((g.length:Int)==0))||(!am))))] (aV b8 [(.slice none 0 0),(.slice none 0 0)] 38::W1) ?_ ?_
 refine aR ?_
 refine lM _ (fun w s=>(((s.d 2 R).d 4 R).e 3 [1,0,2])) ?_
 refine lC 2 t7 R (Z0x_ok a7) R ?_
 rintro _
 refine bD ?_
 rcases bo (!r9) with a4 | a4
 refine n0 ?_
 exact qj tI
 refine cV ?_
 rcases bo ((!r9)||((g.length:Int)==0)) with m | m
 refine fD ?_
 exact qj tI
 refine bN ?_
 refine aZ 2 aB (show 0<t1.Dims.length by have:=(U m); omega) (fun ay o13 ha=>?_)
 subst ha
 refine lW (cI m) (oq cW eC R R (U m)) (lW (cI m) (pC 2 oE aB R (U m)) (lM _ (fun w s=>(s.d 4 R)) ?_))
 refine bZ 1 R (cI m) t8 R (Z05_ok (cB a8 (dI m))) R ?_
 rintro _
 refine aR ?_
 exact qj tI
 rintro σ1
 refine bS ?_
 split at i
 refine aR ?_
 refine lO (vz (.agg [(.slice none 0 0),(.slice none 0 0)].toArray) (bX iC dL R R)) (aQ 0 R R cP R R R R R R (aG (aH (cK (dJ ?_)))))
 cases i
 exact qS ((none,0,0),(none,0,0)) (fun w s=>(((s.nilo kT3 3).nilo kT3 3).e 7 [1,0]))
 refine bN ?_
 obtain ⟨M,a9,i⟩:=bd i
 refine bJ ?_
 refine lM _ (fun w s=>(s.d 2 R)) ?_
 refine lC 1 pL R (Z0i_ok a9) R ?_
 rintro ⟨E,ar,G⟩
 refine aX 0 aC ?_
 rintro rfl
 refine cV ?_
 obtain ⟨b1,aa,i⟩:=bd i
 refine bD ?_
 refine lC 1 oG R (FnOk.lends (A':=[OO kT3 3 E G M]) (A:=[RR kT3 E G M]) (B:=[]) (Z0c_ok aa) ⟨bB,trivial⟩ (fun _=>trivial)) R ?_
 rintro _
 refine aR ?_
 split at i
 refine aR ?_
 refine lO (vz (.agg [(.slice none 0 0),(.slice none 0 0)].toArray) (bX iC dL R R)) (aQ 1 R R cP R R R R R R (aG (aH (cK (dJ ?_)))))
 cases i
 exact qS ((none,0,0),(none,0,0)) (fun w s=>(((s.nilo kT3 3).nilo kT3 3).e 8 [1,0]))
 refine bN ?_
 obtain ⟨j,ab,i⟩:=bd i
 refine bD ?_
 refine lC 1 sY R (FnOk.lends (A':=[OO kT3 3 E G M]) (A:=[RR kT3 E G M]) (B:=[]) (Z0h_ok ab) ⟨bB,trivial⟩ (fun _=>⟨(bP jT),(bP jT),trivial⟩)) R ?_
 rintro ⟨⟨F,au,J⟩,⟨q,av,u⟩⟩
 refine aX 1 aC ?_
 rintro rfl
 refine aX 2 aC ?_
 rintro rfl
 refine bO R R dL (fun T=>(aQ 0 R R cP R R R R R R (lN (aV T [(sc F j.Dims J),(sc q j.Data u)] 38::_::_::_::_::W1) ?_)))
 refine aR ?_
 refine aW (A:=((List Int))×(Unit)) (fun a=>Zx_J1 j a.1=some r) (fun a=>[(6,(pt b8 0)),(8,(pt T 0))]) (fun a=>aV b8 [(.slice none 0 0),(.slice none 0 0)] 38::aV T [(sc F j.Dims J),(sc q j.Data u)] 38::OO kT3 3 F J j.Dims::ow kT3 3 (.slice q j.Data.length u) a.1::W1) ?_ ?_
 refine bJ ?_
 obtain ⟨e1,ak,aj⟩:=bd i
 refine aP (A:=Unit) ak (fun s a=>[(1,(iv D)),(2,(sc A6 g D6)),(3,(pt b7 0)),(6,(pt b8 0)),(7,(sc E M G)),(8,(pt T 0)),(9,(iv s.2))]) (fun s a=>aV b8 [(.slice none 0 0),(.slice none 0 0)] 38::OO kT3 3 E G M::aV T [(sc F j.Dims J),(sc q j.Data u)] 38::OO kT3 3 F J j.Dims::ow kT3 3 (.slice q j.Data.length u) s.1::W1) () (aS R) (tE 5 [4,1,0,2,3]) ?_
 rintro ⟨an,al⟩ _ σ1 ap i ai
 dsimp only [Zx_L1] at i
 refine fD ?_
 split at i
 refine bJ ?_
 obtain ⟨a0,ac,i⟩:=bd i
 refine aR ?_
 refine lM _ (tE 5 [1,0,2,3,4]) ?_
 refine lC 1 sZ R (FnOk.lends (A':=[OO kT3 3 E G M]) (A:=[RR kT3 E G M]) (B:=[]) (Zg_ok ac) ⟨bB,trivial⟩ (fun _=>⟨(bP jT),trivial⟩)) R ?_
 rintro ⟨aq,aw,a2⟩
 refine aX 1 aC ?_
 rintro rfl
 refine aR ?_
 obtain ⟨a5,i⟩:=gd i
 obtain ⟨a6,i⟩:=gd i
 obtain ⟨a1,ae,i⟩:=bd i
 obtain ⟨ah,ag,i⟩:=bd i
 obtain ⟨O,i⟩:=gd i
 refine bU 1 aC (show 0<a0.length by have:=a5; omega) (fun a3 o56 ha=>?_)
 subst ha
 refine bU 9 aB (show 0<g.length by have:=a6; omega) (fun az o59 ha=>?_)
 subst ha
 refine bU 5 aC (show 0<j.Data.length by have:=O; omega) (fun b0 o67 ha=>?_)
 subst ha
 refine eF 17 [5] b' fun ht hn=>?_
 refine oy 0 [5] ?_
 refine d1 13 R (lM _ (tE 6 [1,0,2,3,4,5]) ?_)
 refine lC 1 pL R (FnOk.lends (A':=[OO kT3 3 (ad a3 o56) a2 a0]) (A:=[RR kT3 (ad a3 o56) a2 a0]) (B:=[]) (Z0i_ok ae) ⟨bB,trivial⟩ (fun _=>⟨(bP jT),trivial⟩)) R ?_
 rintro ⟨Y,ax,Z⟩
 refine aX 1 aC ?_
 rintro rfl
 refine aG (aJ (tE 7 [2,0,3,4,5]) (d1 14 R (lM _ (fun w s=>(((s.d 8 R).d 10 R).e 9 [3,1,0,2,4,5,6,7,8])) ?_)))
 refine lC 3 t6 R (FnOk.lends (A':=[OO kT3 3 Y Z a1]) (A:=[RR kT3 Y Z a1]) (B:=[RR kT3 A2 D2 t1.Dims,RR kT3 A3 D3 t1.Data]) (FnOk.perm (Z0f_ok ag) (Pre':=[RR kT3 Y Z a1,RR kT3 A2 D2 t1.Dims,RR kT3 A3 D3 t1.Data]) (fun _ _ _ s=>(s.e 3 [1,2,0]))) ⟨bB,trivial⟩ (fun _=>trivial)) R ?_
 rintro _
 refine aG (aJ (tE 7 [2,1,3,4,5]) (dR 15 R (oq cW eC R R O) (hS:=(tE 7 [2,1,3,4,5])) (d1 16 R (lM _ (fun w s=>(s.f 7 [6,1,0,6])) ?_))))
 refine dQ (K:=kT3) (x':=ah) 0 al R R eC R R O.1 O.2 ?_ ?_
 exact fun I h s=>(i7).put I h () ah s
 refine aG (aJ (tE 7 [3,2,4,5,6]) (dD ?_))
 refine eD ?_
 cases i
 exact qA () (tE 7 [4,3,5,6,0])
 refine aR ?_
 cases i
 obtain rfl:=ai _ R
 have i:=aj
 refine bD ?_
 exact qI (an,()) i (tE 5 [0,2,3,4])
 rintro ⟨ao,_⟩ σ1 i
 dsimp only [Zx_J1] at i
 refine aR ?_
 refine aQ 0 R R cP R R R R R R (lN (aV b8 [(sc F j.Dims J),(sc q j.Data u)] 38::aV T [(sc F j.Dims J),(sc q j.Data u)] 38::_::ow kT3 3 (.slice q j.Data.length u) ao::W1) ?_)
 refine aR ?_
 cases i
 exact qS ((F,j.Dims.length,J),(q,j.Data.length,u)) (tE 8 [2,3])
theorem Z0_ok  {ah:aD}{g:aD}{n3:Int}{m:(List Tensor)}{r:(List (List Tensor))×Bool}(i:Z0 ah g n3 m=some r) :
 FnOk Tryz.prog 9 [(aA ah),(aA g),(iv n3),(.slice A5 N5 D5)] [bF kT38 (.slice A5 N5 D5) m] (fun (h:HH)=>((.tuple [(s3 h),(.bool r.2)].toArray),[ow (kT27).share 27 (s3 h) r.1])):=by
 unfold Z0 at i
 refine aU Tryz.func9 R 148 R R fun C V=>?_
 refine cL 0 aB ?_
 rintro rfl
 let W0:=RR kT38 A5 D5 m::V
 refine cN W0 ?_
 refine dO ?_
 refine bV (K:=kT27) (xs:=([]:List (List Tensor))) (vs:=[]) 0 R R kl km kS R R R R R R ?_ R (fun A6 D6=>?_)
 exact fun I h s=>(n8).list [] I h s
 refine bN ?_
 obtain ⟨q,f4,i⟩:=bd i
 refine aE (lO (vp (aA ah) R) (lC 0 sU R (Z1_ok f4) R ?_))
 rintro ⟨A9,N9,D9⟩
 refine aX 0 aC ?_
 rintro rfl
 refine lO (vT R) (lS R (lO (vp (aA q.2.1) R) (lB R (lS R (lO (vp (aA q.2.1) R) ?_)))))
 refine cV ?_
 obtain ⟨c5,e6,i⟩:=bd i
 obtain ⟨eg,e7,i⟩:=bd i
 obtain ⟨eh,e8,i⟩:=bd i
 refine cQ [(1,(aA g)),(2,(iv n3)),(3,(sc A5 m D5)),(10,(sc A6 ([]:List (List Tensor)) D6)),(11,(sc A9 q.1 D9)),(50,(.bool ((((!q.2.2)||(!c5))||(!eg))||((eh.Data.length:Int)==0))))] (OO kT27 27 A6 D6 ([]:List (List Tensor))::OO bI 9 A9 D9 q.1::W0) ?_ ?_
 refine bN ?_
 rcases bo (!q.2.2) with ar | ar
 refine uu ?_
 exact qj (tE 2 [1,0])
 refine bS ?_
 refine lW (cI ar) (vp (aA g) R) (bZ 1 R (cI ar) uP R (FnOk.lends (A':=[OO bI 9 A9 D9 q.1]) (A:=[RR bI A9 D9 q.1]) (B:=[]) (Z04_ok (cB e6 (dI ar))) ⟨bB,trivial⟩ (fun _=>trivial)) R ?_)
 rintro _
 refine aR ?_
 rcases bo ((!q.2.2)||(!c5)) with b1 | b1
 refine ov ?_
 exact qj (tE 2 [1,0])
 refine bS ?_
 refine bZ 0 R (cI b1) uQ R (Z0y_ok (cB e7 (dI b1))) R ?_
 rintro _
 refine aR ?_
 rcases bo (((!q.2.2)||(!c5))||(!eg)) with ag | ag
 refine dO ?_
 exact qj (tE 2 [1,0])
 refine lW (cI ag) (vp (aA ah) R) (lW (cI ag) (vS R) (lM _ (fun w s=>(s.d 2 R)) ?_))
 refine bZ 1 R (cI ag) uR R (Z4_ok (cB e8 (dI ag))) R ?_
 rintro ⟨⟨fc,fj,fg⟩,⟨ei,fk,ej⟩⟩
 refine aX 0 aC ?_
 rintro rfl
 refine aX 1 aC ?_
 rintro rfl
 refine lW (cI ag) (vz (sc ei eh.Data ej) (sI qT fW R R)) ?_
 refine bN ?_
 exact qj (tE 4 [3,2])
 rintro σ1
 refine bS ?_
 split at i
 refine fD ?_
 cases i
 exact pD (A6,([]:List (List Tensor)).length,D6) (fun w s=>((s.wk 0 R).e 3 [0]))
 refine cS ?_
 refine aW (A:=(Int)×(HH)) (fun a=>Z0_J7 g n3 m q a.1=some r) (fun a=>[(1,(aA g)),(2,(iv n3)),(3,(sc A5 m D5)),(10,(sc A6 ([]:List (List Tensor)) D6)),(11,(s3 a.2)),(14,(iv a.1))]) (fun a=>OO kT27 27 A6 D6 ([]:List (List Tensor))::ow bI 9 (s3 a.2) q.1::W0) ?_ ?_
 refine bJ ?_
 obtain ⟨e1,ez,es⟩:=bd i
 refine aP (A:=HH) ez (fun s a=>[(1,(aA g)),(2,(iv n3)),(3,(sc A5 m D5)),(10,(sc A6 ([]:List (List Tensor)) D6)),(11,(s3 a)),(14,(iv s.1)),(15,(iv s.2))]) (fun s a=>OO kT27 27 A6 D6 ([]:List (List Tensor))::ow bI 9 (s3 a) q.1::W0) (A9,q.1.length,D9) (aS R) tI ?_
 rintro ⟨bb,a0⟩ ⟨cq,ek,d8⟩ σ1 eb i en
 dsimp only [Z0_L1] at i
 refine aY 1 aC (fun (F:ek=q.1.length)=>?_)
 subst F
 refine cS ?_
 split at i
 refine bN ?_
 refine aW (A:=(Int)×(HH)) (fun a=>Z0_J6 a0 a.1=some eb) (fun a=>[(1,(aA g)),(2,(iv n3)),(3,(sc A5 m D5)),(10,(sc A6 ([]:List (List Tensor)) D6)),(11,(s3 a.2)),(14,(iv a.1)),(15,(iv a0))]) (fun a=>OO kT27 27 A6 D6 ([]:List (List Tensor))::ow bI 9 (s3 a.2) q.1::W0) ?_ ?_
 refine eD ?_
 obtain ⟨e2,f0,et⟩:=bd i
 refine aP (A:=HH) f0 (fun s a=>[(1,(aA g)),(2,(iv n3)),(3,(sc A5 m D5)),(10,(sc A6 ([]:List (List Tensor)) D6)),(11,(s3 a)),(14,(iv s.1)),(15,(iv a0)),(16,(iv s.2))]) (fun s a=>OO kT27 27 A6 D6 ([]:List (List Tensor))::ow bI 9 (s3 a) q.1::W0) (cq,q.1.length,d8) (aS R) tI ?_
 rintro ⟨au,b8⟩ ⟨fd,el,b9⟩ σ1 ec i eo
 dsimp only [Z0_L2] at i
 refine aY 1 aC (fun (F:el=q.1.length)=>?_)
 subst F
 refine bD ?_
 obtain ⟨ao,i⟩:=gd i
 refine bN ?_
 refine aZ 1 aC (show 0<q.1.length by have:=ao; omega) (fun ba o88 ha=>?_)
 subst ha
 refine bS ?_
 refine lO (vz (aA (ix q.1 a0)) (eE (K:=bI) (fo:=0) (pr:=fun x=>(aA x)) 1 a0 jx (dT9.leaf fun _ _=>R) aC R ao.1 ao.2)) (lO (vz (il (ix q.1 a0)) (bM cR R)) ?_)
 refine aR ?_
 split at i
 refine bN ?_
 refine aW (A:=(Int)×(Unit)) (fun a=>Z0_J5 b8 a.1=some ec) (fun a=>[(1,(aA g)),(2,(iv n3)),(3,(sc A5 m D5)),(10,(sc A6 ([]:List (List Tensor)) D6)),(11,(sc (ad ba o88) q.1 b9)),(14,(iv a.1)),(15,(iv a0)),(16,(iv b8))]) (fun a=>OO kT27 27 A6 D6 ([]:List (List Tensor))::OO bI 9 (ad ba o88) b9 q.1::W0) ?_ ?_
 refine bD ?_
 obtain ⟨bv,i⟩:=gd i
 obtain ⟨bw,i⟩:=gd i
 refine eF 9 [] b' fun ht F=>?_
 refine i6 0 [] ?_
 refine dR 3 R (vz (aA (ix q.1 a0)) (eE (K:=bI) (fo:=0) (pr:=fun x=>(aA x)) 1 a0 jx (dT9.leaf fun _ _=>R) aC R ao.1 ao.2)) (dR 4 R (vI R) (dR 5 R (vz (.int .u8 (bt (ix q.1 a0) b8)) (bA cR R R bv.1 bv.2)) (dR 6 R (vp (aA g) R) (dR 7 R (vz (.int .u8 (bt g 0)) (bA cR R R bw.1 bw.2)) (dR 8 R (vp (.bool ((bt (ix q.1 a0) b8)==(bt g 0))) R) (dD (aH ?_)))))))
 split at i
 refine bS ?_
 obtain ⟨b5,i⟩:=gd i
 obtain ⟨e0,i⟩:=gd i
 refine aR ?_
 refine aZ 2 aB (show 0<m.length by have:=b5; omega) (fun em o95 ha=>?_)
 subst ha
 refine bS ?_
 refine lO (vz (.pointer (some ⟨em,o95+a0.toNat*2,none⟩)) (kg iB R R)) (eH (K:=kT38) 2 a0 dT38.dec R b5.1 b5.2 ?_)
 rintro ⟨⟨fe,fh⟩,⟨ff,fi⟩⟩
 refine lO (fv (fo:=0) 0 fW R R R) (lI R (aZ 1 aB (show 0<((ix m a0).Dims).length by have:=e0; omega) (fun fl o100 ha=>?_)))
 subst ha
 refine cV ?_
 exact qI ((ix ((ix m a0).Dims) b8),()) i (tE 5 [3,4])
 refine aR ?_
 exact qI (au,()) i tI
 rintro ⟨e9,_⟩ σ1 i
 dsimp only [Z0_J5] at i
 refine cV ?_
 cases i
 exact qA ((ad ba o88),q.1.length,b9) tI
 refine aR ?_
 cases i
 obtain rfl:=eo _ R
 have i:=et
 refine aR ?_
 exact qI (au,((ad ba o88),q.1.length,b9)) i tI
 rintro ⟨ea,⟨c6,d9,cr⟩⟩ σ1 i
 dsimp only [Z0_J6] at i
 refine aY 1 aC (fun (F:d9=q.1.length)=>?_)
 subst F
 refine cV ?_
 cases i
 exact qA (c6,q.1.length,cr) tI
 refine aR ?_
 cases i
 obtain rfl:=en _ R
 have i:=es
 refine bD ?_
 exact qI (bb,(cq,q.1.length,d8)) i tI
 rintro ⟨u,⟨c7,da,cs⟩⟩ σ1 i
 dsimp only [Z0_J7] at i
 refine aY 1 aC (fun (F:da=q.1.length)=>?_)
 subst F
 refine dO ?_
 split at i
 refine fD ?_
 cases i
 exact pD (A6,([]:List (List Tensor)).length,D6) (fun w s=>((s.wk 0 R).e 3 [0]))
 refine cV ?_
 refine bV (K:=kT27) (xs:=([]:List (List Tensor))) (vs:=[]) 0 R R kl km kS R R R R R R ?_ R (fun c8 ct=>?_)
 exact fun I h s=>(n8).list [] I h s
 refine bN ?_
 refine aW (A:=((List (List Tensor)))×(HH)) (fun a=>Z0_J22 a.1=some r) (fun a=>[(17,(s3 a.2))]) (fun a=>ow (kT27).share 27 (s3 a.2) a.1::W0) ?_ ?_
 refine bJ ?_
 obtain ⟨e3,f1,eu⟩:=bd i
 refine aP (A:=HH×HH×HH) f1 (fun s a=>[(1,(aA g)),(2,(iv n3)),(3,(s3 a.1)),(11,(s3 a.2.1)),(14,(iv u)),(17,(s3 a.2.2)),(18,(iv s.2))]) (fun s a=>bF kT38 (s3 a.1) m::ow bI 9 (s3 a.2.1) q.1::ow (kT27).share 27 (s3 a.2.2) s.1::W0) ((A5,m.length,D5),(c7,q.1.length,cs),(c8,([]:List (List Tensor)).length,ct)) (aS R) (fun w s=>(((s.d 3 R).wk 1 R).e 4 [1,3,0])) ?_
 rintro ⟨D,a4⟩ ⟨⟨c9,db,cu⟩,⟨ca,dc,cv⟩,⟨M,dd,O⟩⟩ σ1 ed i ep
 dsimp only [Z0_L3] at i
 refine aY 0 aB (fun (F:db=m.length)=>?_)
 subst F
 refine aY 1 aC (fun (F:dc=q.1.length)=>?_)
 subst F
 refine aY 2 eM (fun (F:dd=D.length)=>?_)
 subst F
 refine dO ?_
 rcases eJ i with ⟨ax,i⟩|⟨ax,i⟩
 refine eD ?_
 refine bV (K:=kT38) (xs:=([]:List Tensor)) (vs:=[]) 0 R R iA cP dL R R R R R R ?_ R (fun cb cw=>?_)
 exact fun I h s=>(me).list [] I h s
 refine bN ?_
 refine aW (A:=((List Tensor))×(HH×HH×HH)) (fun a=>Z0_J21 D a4 a.1=some ed) (fun a=>[(1,(aA g)),(2,(iv n3)),(3,(s3 a.2.1)),(11,(s3 a.2.2.1)),(14,(iv u)),(17,(sc M D O)),(18,(iv a4)),(19,(s3 a.2.2.2))]) (fun a=>bF kT38 (s3 a.2.1) m::ow bI 9 (s3 a.2.2.1) q.1::OO (kT27).share 27 M O D::ow (kT38).share 38 (s3 a.2.2.2) a.1::W0) ?_ ?_
 refine bJ ?_
 obtain ⟨e4,f2,ew⟩:=bd i
 refine aP (A:=HH×HH×HH) f2 (fun s a=>[(1,(aA g)),(2,(iv n3)),(3,(s3 a.1)),(11,(s3 a.2.1)),(14,(iv u)),(17,(sc M D O)),(18,(iv a4)),(19,(s3 a.2.2)),(20,(iv s.2))]) (fun s a=>bF kT38 (s3 a.1) m::ow bI 9 (s3 a.2.1) q.1::OO (kT27).share 27 M O D::ow (kT38).share 38 (s3 a.2.2) s.1::W0) ((c9,m.length,cu),(ca,q.1.length,cv),(cb,([]:List Tensor).length,cw)) (aS R) (fun w s=>((s.wk 0 R).e 4 [1,2,3,0])) ?_
 rintro ⟨j,J⟩ ⟨⟨cc,de,Z⟩,⟨bc,df,bl⟩,⟨a1,dg,a2⟩⟩ σ1 ee i eq
 dsimp only [Z0_L4] at i
 refine aY 0 aB (fun (F:de=m.length)=>?_)
 subst F
 refine aY 1 aC (fun (F:df=q.1.length)=>?_)
 subst F
 refine aY 3 eM (fun (F:dg=j.length)=>?_)
 subst F
 refine cS ?_
 rcases eJ i with ⟨ay,i⟩|⟨ay,i⟩
 refine bJ ?_
 obtain ⟨aq,i⟩:=gd i
 obtain ⟨av,c4,i⟩:=bd i
 refine aR ?_
 refine aZ 0 aB (show 0<m.length by have:=aq; omega) (fun a3 o367 ha=>?_)
 subst ha
 refine bS ?_
 refine eH (K:=kT38) 0 J dT38.dec R aq.1 aq.2 ?_
 rintro ⟨⟨cf,cx⟩,⟨cg,cy⟩⟩
 refine lO (vz (.agg [(sc cf ((ix m J).Dims) cx),(sc cg ((ix m J).Data) cy)].toArray) (fB (fo:=0) 0 hW cP R R R R)) (lM _ (fun w s=>(((s.d 1 R).d 3 R).f 9 [1,1,0,1,2,7])) ?_)
 refine lC 2 uS R (Z0z_ok c4) R ?_
 rintro ⟨⟨be,fa,bm⟩,⟨bf,fb,bn⟩⟩
 refine aX 0 aC ?_
 rintro rfl
 refine aX 1 aC ?_
 rintro rfl
 refine bO R R dL (fun Y=>(aQ 0 R R cP R R R R R R (lN (aV Y [(sc be av.Dims bm),(sc bf av.Data bn)] 38::_::_::_::_::_::_::_::_::_::W0) ?_)))
 refine aR ?_
 refine aW (A:=((List Int)×(List Int))×(HH×HH×HH)) (fun a=>Z0_J20 j J a.1.1 a.1.2=some ee) (fun a=>[(1,(aA g)),(2,(iv n3)),(3,(sc (ad a3 o367) m Z)),(11,(s3 a.2.1)),(14,(iv u)),(17,(sc M D O)),(18,(iv a4)),(19,(sc a1 j a2)),(20,(iv J)),(21,(pt Y 0))]) (fun a=>RR kT38 (ad a3 o367) Z m::ow bI 9 (s3 a.2.1) q.1::OO (kT27).share 27 M O D::OO (kT38).share 38 a1 a2 j::aV Y [(s3 a.2.2.1),(s3 a.2.2.2)] 38::ow kT3 3 (s3 a.2.2.1) a.1.1::ow kT3 3 (s3 a.2.2.2) a.1.2::W0) ?_ ?_
 refine bJ ?_
 obtain ⟨e5,f3,ey⟩:=bd i
 refine aP (A:=HH×HH×HH) f3 (fun s a=>[(1,(aA g)),(2,(iv n3)),(3,(sc (ad a3 o367) m Z)),(11,(s3 a.1)),(14,(iv u)),(17,(sc M D O)),(18,(iv a4)),(19,(sc a1 j a2)),(20,(iv J)),(21,(pt Y 0)),(22,(iv s.2.2))]) (fun s a=>RR kT38 (ad a3 o367) Z m::ow bI 9 (s3 a.1) q.1::OO (kT27).share 27 M O D::OO (kT38).share 38 a1 a2 j::aV Y [(s3 a.2.1),(s3 a.2.2)] 38::ow kT3 3 (s3 a.2.1) s.1::ow kT3 3 (s3 a.2.2) s.2.1::W0) ((bc,q.1.length,bl),(be,av.Dims.length,bm),(bf,av.Data.length,bn)) (aS R) (fun w s=>(s.f 10 [6,4,0,3])) ?_
 rintro ⟨T,U,ap⟩ ⟨⟨f5,dh,ac⟩,⟨a5,di,a7⟩,⟨a6,dj,a8⟩⟩ σ1 ef i er
 dsimp only [Z0_L5] at i
 refine aY 1 aC (fun (F:dh=q.1.length)=>?_)
 subst F
 refine aY 5 aC (fun (F:di=T.length)=>?_)
 subst F
 refine aY 6 aC (fun (F:dj=U.length)=>?_)
 subst F
 refine bD ?_
 obtain ⟨a9,i⟩:=gd i
 refine bN ?_
 refine aZ 1 aC (show 0<q.1.length by have:=a9; omega) (fun ae o404 ha=>?_)
 subst ha
 refine bS ?_
 refine lO (vz (aA (ix q.1 J)) (eE (K:=bI) (fo:=0) (pr:=fun x=>(aA x)) 1 J jx (dT9.leaf fun _ _=>R) aC R a9.1 a9.2)) (lO (vz (il (ix q.1 J)) (bM cR R)) ?_)
 refine aR ?_
 rcases eJ i with ⟨az,i⟩|⟨az,i⟩
 refine bN ?_
 refine aW (A:=((List Int)×(List Int))×(HH×HH)) (fun a=>Z0_J19 ap a.1.1 a.1.2=some ef) (fun a=>[(1,(aA g)),(2,(iv n3)),(3,(sc (ad a3 o367) m Z)),(11,(sc (ad ae o404) q.1 ac)),(14,(iv u)),(17,(sc M D O)),(18,(iv a4)),(19,(sc a1 j a2)),(20,(iv J)),(21,(pt Y 0)),(22,(iv ap))]) (fun a=>RR kT38 (ad a3 o367) Z m::OO bI 9 (ad ae o404) ac q.1::OO (kT27).share 27 M O D::OO (kT38).share 38 a1 a2 j::aV Y [(s3 a.2.1),(s3 a.2.2)] 38::ow kT3 3 (s3 a.2.1) a.1.1::ow kT3 3 (s3 a.2.2) a.1.2::W0) ?_ ?_
 refine bD ?_
 obtain ⟨b2,i⟩:=gd i
 obtain ⟨b3,i⟩:=gd i
 refine eF 9 [] b' fun ht F=>?_
 refine i6 0 [] ?_
 refine dR 3 R (vz (aA (ix q.1 J)) (eE (K:=bI) (fo:=0) (pr:=fun x=>(aA x)) 1 J jx (dT9.leaf fun _ _=>R) aC R a9.1 a9.2)) (dR 4 R (vI R) (dR 5 R (vz (.int .u8 (bt (ix q.1 J) ap)) (bA cR R R b2.1 b2.2)) (dR 6 R (vp (aA g) R) (dR 7 R (vz (.int .u8 (bt g 0)) (bA cR R R b3.1 b3.2)) (dR 8 R (vp (.bool ((bt (ix q.1 J) ap)==(bt g 0))) R) (dD (aH ?_)))))))
 rcases eJ i with ⟨b0,i⟩|⟨b0,i⟩
 refine bS ?_
 obtain ⟨b4,i⟩:=gd i
 obtain ⟨aw,b6,i⟩:=bd i
 obtain ⟨G,b7,i⟩:=bd i
 refine iw (A:=(Unit)×(HH×HH)) (fun _=>True) (fun a=>[(1,(aA g)),(2,(iv n3)),(3,(sc (ad a3 o367) m Z)),(11,(sc (ad ae o404) q.1 ac)),(14,(iv u)),(17,(sc M D O)),(18,(iv a4)),(19,(sc a1 j a2)),(20,(iv J)),(21,(pt Y 0)),(22,(iv ap))]) (fun a=>RR kT38 (ad a3 o367) Z m::OO bI 9 (ad ae o404) ac q.1::OO (kT27).share 27 M O D::OO (kT38).share 38 a1 a2 j::aV Y [(s3 a.2.1),(s3 a.2.2)] 38::ow kT3 3 (s3 a.2.1) G.Dims::ow kT3 3 (s3 a.2.2) G.Data::W0) ?_ ?_
 refine eF 16 [4] b' fun ht F=>?_
 refine qx 1 [4] ?_
 refine dR 6 R (vz (iv (aK ((aK (a4*u)).tdiv n3))) (ln R R b4)) (hS:=(sL [4])) ?_
 refine qx 7 [4] ?_
 refine dR 12 R (vz (iv (aK ((aK ((aK (a4+1))*u)).tdiv n3))) (ln R R b4)) (hS:=(sL [4])) (hN [0,13] (by kernel_rfl) R ⟨?_,?_,trivial⟩)
 refine lO (vz (.agg [(sc a5 T a7),(sc a6 U a8)].toArray) (i3 4 hW cP R R R R)) (aG (aJ (sL [4]) (d1 13 R (lC 0 ta R (Zs_ok b6) R ?_))))
 rintro ⟨ai,dk,al⟩
 refine aX 0 aC ?_
 rintro rfl
 refine aG (aJ (sL [5,0]) (d1 14 R (lM _ (fun w s=>(s.f 8 [6,2,0,6])) ?_)))
 refine lC 3 tb R (FnOk.lends (A':=[OO kT3 3 a5 a7 T,OO kT3 3 a6 a8 U,OO kT3 3 ai al aw]) (A:=[RR kT3 a5 a7 T,RR kT3 a6 a8 U,RR kT3 ai al aw]) (B:=[]) (Zx_ok (t1:=(⟨T,U⟩:Tensor)) b7) ⟨bB,bB,bB,trivial⟩ (fun _=>⟨(bP jT),(bP jT),trivial⟩)) R ?_
 rintro ⟨⟨aj,dl,am⟩,⟨ak,dm,an⟩⟩
 refine aX 3 aC ?_
 rintro rfl
 refine aX 4 aC ?_
 rintro rfl
 refine aG (aJ (fun w s=>(s.f 10 [5,4,0,2])) (d1 15 R (aQ 9 R R cP R R R R R R (lN (_::_::_::_::_::_::_::_::_::aV Y [(sc aj G.Dims am),(sc ak G.Data an)] 38::W0) ?_))))
 refine aG (aJ (fun w s=>(s.f 10 [5,4,0,2])) (dD ?_))
 exact cG ((),((aj,G.Dims.length,am),(ak,G.Data.length,an))) trivial (aS R) (fun w s=>(s.f 10 [5,5,3,2]))
 refine lC 0 ta R (Zs_ok b6) R ?_
 rintro ⟨ai,dk,al⟩
 refine aX 0 aC ?_
 rintro rfl
 refine aG (aJ (sL [5,0]) (d1 0 R (lO (vz (.agg [(sc a5 T a7),(sc a6 U a8)].toArray) (i3 5 hW cP R R R R)) (aG (aJ (sL [5,0]) (d1 14 R (lM _ (fun w s=>(s.f 8 [6,2,0,6])) ?_)))))))
 refine lC 3 tb R (FnOk.lends (A':=[OO kT3 3 a5 a7 T,OO kT3 3 a6 a8 U,OO kT3 3 ai al aw]) (A:=[RR kT3 a5 a7 T,RR kT3 a6 a8 U,RR kT3 ai al aw]) (B:=[]) (Zx_ok (t1:=(⟨T,U⟩:Tensor)) b7) ⟨bB,bB,bB,trivial⟩ (fun _=>⟨(bP jT),(bP jT),trivial⟩)) R ?_
 rintro ⟨⟨aj,dl,am⟩,⟨ak,dm,an⟩⟩
 refine aX 3 aC ?_
 rintro rfl
 refine aX 4 aC ?_
 rintro rfl
 refine aG (aJ (fun w s=>(s.f 10 [5,4,0,2])) (d1 15 R (aQ 9 R R cP R R R R R R (lN (_::_::_::_::_::_::_::_::_::aV Y [(sc aj G.Dims am),(sc ak G.Data an)] 38::W0) ?_))))
 refine aG (aJ (fun w s=>(s.f 10 [5,4,0,2])) (dD ?_))
 exact cG ((),((aj,G.Dims.length,am),(ak,G.Data.length,an))) trivial (aS R) (fun w s=>(s.f 10 [5,5,3,2]))
 rintro ⟨_,⟨⟨ch,dn,cz⟩,⟨ci,dq,d0⟩⟩⟩ σ1 -
 refine gL 5 aC (fun (F:dn=G.Dims.length)=>?_)
 subst F
 refine gL 6 aC (fun (F:dq=G.Data.length)=>?_)
 subst F
 refine bS ?_
 exact qI ((G.Dims,G.Data),((ch,G.Dims.length,cz),(ci,G.Data.length,d0))) i tI
 refine bW R b0 ?_
 refine bD ?_
 exact qI ((T,U),((a5,T.length,a7),(a6,U.length,a8))) i tI
 rintro ⟨⟨bz,c0⟩,⟨⟨cj,dr,d2⟩,⟨ck,ds,d3⟩⟩⟩ σ1 i
 dsimp only [Z0_J19] at i
 refine aY 5 aC (fun (F:dr=bz.length)=>?_)
 subst F
 refine aY 6 aC (fun (F:ds=c0.length)=>?_)
 subst F
 refine cV ?_
 cases i
 exact qA (((ad ae o404),q.1.length,ac),(cj,bz.length,d2),(ck,c0.length,d3)) tI
 refine bW R az ?_
 refine bD ?_
 cases i
 obtain rfl:=er _ R
 have i:=ey
 refine bD ?_
 exact qI ((T,U),(((ad ae o404),q.1.length,ac),(a5,T.length,a7),(a6,U.length,a8))) i tI
 rintro ⟨⟨aa,ab⟩,⟨⟨cm,dt,d4⟩,⟨bg,du,bp⟩,⟨bh,dv,bq⟩⟩⟩ σ1 i
 dsimp only [Z0_J20] at i
 refine aY 1 aC (fun (F:dt=q.1.length)=>?_)
 subst F
 refine aY 5 aC (fun (F:du=aa.length)=>?_)
 subst F
 refine aY 6 aC (fun (F:dv=ab.length)=>?_)
 subst F
 obtain ⟨c2,i⟩:=gd i
 refine aR ?_
 refine lM _ (fun w s=>(((((s.shr 5 R).d 0 R).shr 7 R).d 0 R).f 9 [2,1,0,2,3,6])) ?_
 refine bV (K:=(kT38).share) (xs:=([(⟨aa,ab⟩:Tensor)]:List Tensor)) (vs:=[(.agg [(sc bg aa bp),(sc bh ab bq)].toArray)]) 2 R R iA cP dL R R R R R R ?_ R (fun f6 f8=>?_)
 exact fun I h s=>(uE).list [(((sc bg aa bp),(sc bh ab bq)),(⟨aa,ab⟩:Tensor))] I h s
 refine lM _ (fun w s=>(s.f 8 [6,1,0,6,7,1])) ?_
 refine fp (K:=(kT38).share) 2932031007402 R R iA cP qP (Zr.zk (Zr.share zT38) dL) R R R R R R eI c2 (fun bi br=>(lN (OO (kT38).share 38 bi br (j++([(⟨aa,ab⟩:Tensor)]:List Tensor))::_::_::_::_::_::_::W0) ?_))
 refine cS ?_
 cases i
 exact qA (((ad a3 o367),m.length,Z),(cm,q.1.length,d4),(bi,(j++([(⟨aa,ab⟩:Tensor)]:List Tensor)).length,br)) (tE 7 [3,4,5,0])
 refine bW R ay ?_
 refine bD ?_
 cases i
 obtain rfl:=eq _ R
 have i:=ew
 refine bD ?_
 exact qI (j,((cc,m.length,Z),(bc,q.1.length,bl),(a1,j.length,a2))) i tI
 rintro ⟨E,⟨⟨cn,dw,d5⟩,⟨co,dx,d6⟩,⟨bj,dy,bs⟩⟩⟩ σ1 i
 dsimp only [Z0_J21] at i
 refine aY 0 aB (fun (F:dw=m.length)=>?_)
 subst F
 refine aY 1 aC (fun (F:dx=q.1.length)=>?_)
 subst F
 refine aY 3 eM (fun (F:dy=E.length)=>?_)
 subst F
 obtain ⟨c3,i⟩:=gd i
 refine aR ?_
 refine lM _ (fun w s=>((s.shs 3 R).d 0 R)) ?_
 refine bV (K:=(kT27).share) (xs:=([E]:List (List Tensor))) (vs:=[(sc bj E bs)]) 1 R R kl km kS R R R R R R ?_ R (fun f7 f9=>?_)
 exact fun I h s=>(uG).list [((sc bj E bs),E)] I h s
 refine lM _ (fun w s=>(s.f 5 [4,1,0,4])) ?_
 refine fp (K:=(kT27).share) 5864062014805 R R kl km tc (Zr.zk (Zr.share sS) kS) R R R R R R eI c3 (fun bk bu=>(lN (OO (kT27).share 27 bk bu (D++([E]:List (List Tensor)))::_::_::_::W0) ?_))
 refine cS ?_
 cases i
 exact qA ((cn,m.length,d5),(co,q.1.length,d6),(bk,(D++([E]:List (List Tensor))).length,bu)) (tE 4 [2,3,0])
 refine bW R ax ?_
 refine bD ?_
 cases i
 obtain rfl:=ep _ R
 have i:=eu
 refine bD ?_
 exact qI (D,(M,D.length,O)) i (tE 3 [2])
 rintro ⟨c1,⟨cp,dz,d7⟩⟩ σ1 i
 dsimp only [Z0_J22] at i
 refine aY 0 eM (fun (F:dz=c1.length)=>?_)
 subst F
 refine dO ?_
 cases i
 exact pD (cp,c1.length,d7) (tE 2 [0])
end Go.Proofs.YtmpnollfdpdipaaGreatDoor
