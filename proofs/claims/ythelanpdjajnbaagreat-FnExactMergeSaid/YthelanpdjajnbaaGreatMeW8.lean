import Derived.Test.YthelanpdjajnbaaGreatMeF
import Derived.Test.YthelanpdjajnbaaGreatMeW1
import Derived.Test.YthelanpdjajnbaaGreatMeW6
import Derived.Test.YthelanpdjajnbaaGreatMeW7
set_option linter.unusedVariables false
set_option maxRecDepth 20000
namespace Go.Proofs.YthelanpdjajnbaaGreat
open Go Go.Pg
variable {A2 A3 A4 A5 A6 A7 A9 A10 A11 A12 A14:Option Addr}{D2 D3 D4 D5 D6 D7 D9 D10 D11 D12 D14 N2 N3 N4 N5 N6 N7 N9 N10 N11 N12 N14:Nat}
theorem Z1u_ok  {k1:shiftKind}{F:Int}{G:Int}{b:Node}{a:(List (List Int))}{j:Nat}{l:Nat}{m:Nat}{r:(List Int)×Bool}(i:Z1u k1 F G b a=some r) :
 FnOk Tryz.prog 217 [(.agg [(aH k1.use),(.func (.func 143) [].toArray [(pt j 0),(pt l 0),(pt m 0)].toArray)].toArray),(.agg [(iv b.Op),(.slice A9 N9 D9),(.slice A10 N10 D10),(.slice A11 N11 D11),(aH b.Form),(.slice A12 N12 D12)].toArray),(.slice A14 N14 D14)] [aJ j [(iv F)] 3,aJ l [(iv G)] 3,aJ m [(.func (.func 107) [].toArray [].toArray)] 136,aO kT3 (.slice A9 N9 D9) b.Args,aO kT3 (.slice A10 N10 D10) b.Dims,aO kT3 (.slice A11 N11 D11) b.Ints,aO kT3 (.slice A12 N12 D12) b.Data,aO kT23 (.slice A14 N14 D14) a] (fun (h:HH)=>((.tuple [(s3 h),(.bool r.2)].toArray),[ow kT3 3 (s3 h) r.1,aJ j [(iv F)] 3,aJ l [(iv G)] 3,aJ m [(.func (.func 107) [].toArray [].toArray)] 136])):=by
 unfold Z1u at i
 refine aR Tryz.func217 R 27 R R fun C V=>?_
 refine cL 3 aA ?_
 rintro rfl
 refine cL 4 aA ?_
 rintro rfl
 refine cL 5 aA ?_
 rintro rfl
 refine cL 6 aA ?_
 rintro rfl
 refine cL 7 aA ?_
 rintro rfl
 let Y:=RR kT3 A9 D9 b.Args::RR kT3 A10 D10 b.Dims::RR kT3 A11 D11 b.Ints::RR kT3 A12 D12 b.Data::RR kT23 A14 D14 a::V
 refine bA ?_
 refine eJ R fun D=>?_
 refine eJ R fun E=>?_
 refine aW ?_
 refine qM _ (fun w s=>(s.f 5 [2,3,0,2])) ?_
 let W1:=aJ E [(iv b.Op),(sc A9 b.Args D9),(sc A10 b.Dims D10),(sc A11 b.Ints D11),(aH b.Form),(sc A12 b.Data D12)] 65::aJ D [(aH k1.use),(.func (.func 143) [].toArray [(pt j 0),(pt l 0),(pt m 0)].toArray)] 131::Y
 refine dJ ?_
 split at i
 refine dJ ?_
 cases i
 exact ka (none,0,0) (fun w s=>((s.nilo kT3 3).f 11 [0,4]))
 refine bL ?_
 obtain ⟨g,i⟩:=gd i
 obtain ⟨I,q,i⟩:=bd i
 refine bB 9 aA (show 0<a.length by have:=g; omega) (fun Z o20 ha=>?_)
 subst ha
 refine dP (K:=kT23) 9 (0:Int) dT23.dec R g.1 g.2 ?_
 rintro ⟨J,M⟩
 refine dE 14 [] bQ fun ht hn=>?_
 refine kM 0 [] ?_
 refine dR 5 R (eO (fo:=0) 0 bZ R R R) (d1 6 R (lM _ (fun w s=>((((((s.d 7 R).d 9 R).d 11 R).d 13 R).d 5 R).e 10 [4,3,2,1,0,7,8,9,5,6])) ?_))
 refine cP (fs:=[]) (cs:=[(pt j 0),(pt l 0),(pt m 0)]) 8 R R re R R (Z2w_ok q) R ?_
 rintro ⟨⟨u,T,B⟩,⟨L,U,O⟩⟩
 refine aM 0 aC ?_
 rintro rfl
 refine aM 1 aC ?_
 rintro rfl
 refine aB (aG (fun w s=>(s.f 7 [5,2,2,3])) (dR 7 R (vT R) (hS:=(fun w s=>(s.f 7 [5,2,2,3]))) (dR 8 R (vS R) (hS:=(fun w s=>(s.f 7 [5,2,2,3]))) (dR 9 R (vS R) (hS:=(fun w s=>(s.f 7 [5,2,2,3]))) (dR 10 R (vB R) (hS:=(fun w s=>(s.f 7 [5,2,2,3]))) (dR 11 R (vS R) (hS:=(fun w s=>(s.f 7 [5,2,2,3]))) (dR 12 R (vS R) (hS:=(fun w s=>(s.f 7 [5,2,2,3]))) (dR 13 R (vB R) (hS:=(fun w s=>(s.f 7 [5,2,2,3]))) (dD ?_)))))))))
 refine dH ?_
 cases i
 exact ka (u,I.1.length,B) (tE 14 [0,2,3,4])
theorem Z0g_ok  {g:(List Int)}{l:Int}{b:(List Int)}{r:(List Int)×(List pair)×Bool}(m:Z0g g l b=some r) :
 FnOk Tryz.prog 110 [(.slice A2 N2 D2),(iv l),(.slice A5 N5 D5)] [aO kT3 (.slice A2 N2 D2) g,aO kT3 (.slice A5 N5 D5) b] (fun (h:HH×HH)=>((.tuple [(s3 h.1),(s3 h.2),(.bool r.2.2)].toArray),[ow kT3 3 (s3 h.1) r.1,ow kT165 165 (s3 h.2) r.2.1])):=by
 unfold Z0g at m
 refine aR Tryz.func110 R 67 R R fun C V=>?_
 refine cL 0 aA ?_
 rintro rfl
 refine cL 1 aA ?_
 rintro rfl
 let U:=RR kT3 A2 D2 g::RR kT3 A5 D5 b::V
 refine cN U ?_
 refine dJ ?_
 obtain ⟨r6,al,m⟩:=bd m
 refine cQ [(0,(sc A2 g D2)),(1,(iv l)),(2,(sc A5 b D5)),(26,(.bool (((!r6)||((b.length:Int)==0))||(decide ((b.length:Int)>4096)))))] (U) ?_ ?_
 refine aW ?_
 refine lM _ (fun w s=>(s.d 0 R)) ?_
 refine lC 1 hN R (Zn_ok al) R ?_
 rintro _
 refine lN U ?_
 refine bA ?_
 rcases bo (!r6) with ai | ai
 refine dH ?_
 exact qj tI
 refine cU ?_
 rcases bo ((!r6)||((b.length:Int)==0)) with aj | aj
 refine cU ?_
 exact qj tI
 refine cU ?_
 exact qj tI
 rintro σ1
 refine cE ?_
 split at m
 refine dH ?_
 cases m
 exact iL ((none,0,0),(none,0,0)) (fun w s=>(((s.nilo kT3 3).nilo kT165 165).e 4 [1,0]))
 refine cU ?_
 refine bK (K:=kT165) (xs:=([]:List pair)) (vs:=[]) 0 R R fT fU eZ R R R R R R ?_ R (fun A11 D11=>?_)
 exact fun I h s=>(jB).list [] I h s
 refine bL ?_
 refine bD (A:=((List pair))×(HH×HH)) (fun a=>Z0g_J1 g l b a.1=some r) (fun a=>[(0,(sc A2 g D2)),(1,(iv l)),(2,(s3 a.2.1)),(9,(s3 a.2.2))]) (fun a=>aO kT3 (s3 a.2.1) b::ow kT165 165 (s3 a.2.2) a.1::U) ?_ ?_
 refine dM ?_
 obtain ⟨e1,ak,a5⟩:=bd m
 refine bE (A:=HH×HH) ak (fun s a=>[(0,(sc A2 g D2)),(1,(iv l)),(2,(s3 a.1)),(9,(s3 a.2)),(28,(s3 a.1)),(29,(il b)),(30,(iv s.2))]) (fun s a=>aO kT3 (s3 a.1) b::ow kT165 165 (s3 a.2) s.1::U) ((A5,b.length,D5),(A11,([]:List pair).length,D11)) (aS R) (fun w s=>(s.d 2 R)) ?_
 rintro ⟨i,j⟩ ⟨⟨a9,ac,D⟩,⟨G,ae,M⟩⟩ σ1 an m a2
 dsimp only [Z0g_L1] at m
 refine bJ 0 aA (fun (Y:ac=b.length)=>?_)
 subst Y
 refine bJ 1 aC (fun (Y:ae=i.length)=>?_)
 subst Y
 refine cH ?_
 split at m
 refine cH ?_
 obtain ⟨a3,m⟩:=gd m
 refine bA ?_
 refine bC 0 aA (show 0<b.length by have:=a3; omega) (fun F o31 ha=>?_)
 subst ha
 refine dM ?_
 obtain ⟨E,m⟩:=gd m
 refine cQ [(0,(sc A2 g D2)),(1,(iv l)),(2,(sc (ad F o31) b D)),(9,(sc G i M)),(10,(iv j)),(11,(iv (ix b j))),(28,(sc (ad F o31) b D)),(29,(il b)),(30,(iv j)),(44,(.bool ((decide ((ix b j)<0))||(decide ((ix b j)≥(ix g l))))))] (RR kT3 (ad F o31) D b::OO kT165 165 G M i::U) ?_ ?_
 refine bL ?_
 rcases bo (decide ((ix b j)<0)) with u | u
 refine dM ?_
 exact qj tI
 refine aW ?_
 refine bC 2 aA (show 0<g.length by have:=(E u); omega) (fun aw o34 ha=>?_)
 subst ha
 refine lW (cG u) (eA bI cI R R (E u)) (lW (cG u) (gP 2 fC aA R (E u)) ?_)
 refine aW ?_
 exact qj tI
 rintro σ1
 refine cE ?_
 split at m
 refine iZ ?_
 cases m
 obtain rfl:=a2 _ R
 have m:=a5
 refine aW ?_
 cases m
 exact iL ((none,0,0),(none,0,0)) (fun w s=>(((s.nilo kT3 3).nilo kT165 165).e 6 [1,0]))
 refine aW ?_
 obtain ⟨a4,m⟩:=gd m
 refine bL ?_
 refine lO (vz (.agg [(iv (ix b j)),(iv j)].toArray) (aV nb eZ R R)) (bK (K:=kT165) (xs:=([(⟨(ix b j),j⟩:pair)]:List pair)) (vs:=[(.agg [(iv (ix b j)),(iv j)].toArray)]) 0 R R fT fU eZ R R R R R R ?_ R (fun ao aq=>?_))
 exact fun I h s=>(jB).list [(((),()),(⟨(ix b j),j⟩:pair))] I h s
 refine lM _ (tE 3 [2,0,1]) ?_
 refine dV (K:=kT165) 8796093022208 R R fT fU ml (Zr.zk zT165 eZ) R R R R R R dA a4 (fun a0 a1=>(lN (OO kT165 165 a0 a1 (i++([(⟨(ix b j),j⟩:pair)]:List pair))::_::U) ?_))
 refine dM ?_
 cases m
 exact qA (((ad F o31),b.length,D),(a0,(i++([(⟨(ix b j),j⟩:pair)]:List pair)).length,a1)) (tE 2 [1,0])
 refine aW ?_
 cases m
 obtain rfl:=a2 _ R
 have m:=a5
 refine bA ?_
 exact qI (i,((a9,b.length,D),(G,i.length,M))) m tI
 rintro ⟨q,⟨⟨ap,ag,ar⟩,⟨J,ah,O⟩⟩⟩ σ1 m
 dsimp only [Z0g_J1] at m
 refine bJ 0 aA (fun (Y:ag=b.length)=>?_)
 subst Y
 refine bJ 1 aC (fun (Y:ah=q.length)=>?_)
 subst Y
 refine cE ?_
 obtain ⟨Z,a6,m⟩:=bd m
 refine cU ?_
 refine lM _ (fun w s=>(s.d 2 R)) ?_
 refine lC 1 r0 R (Z1r_ok a6) R ?_
 rintro ⟨L,au,T⟩
 refine aM 0 aC ?_
 rintro rfl
 refine cU ?_
 obtain ⟨ax,a7,m⟩:=bd m
 refine bA ?_
 refine lC 1 lR R (FnOk.lends (A':=[OO kT3 3 L T Z]) (A:=[RR kT3 L T Z]) (B:=[]) (Zf_ok a7) ⟨aQ,trivial⟩ (fun _=>trivial)) R ?_
 rintro _
 refine aW ?_
 split at m
 refine dH ?_
 cases m
 exact iL ((none,0,0),(none,0,0)) (fun w s=>(((s.nilo kT3 3).nilo kT165 165).e 7 [1,0]))
 refine bL ?_
 obtain ⟨am,a8,m⟩:=bd m
 refine dX ?_
 refine lM _ (fun w s=>((s.d 3 R).e 4 [3,0,1,2])) ?_
 refine lC 2 tt R (FnOk.lends (A':=[OO kT165 165 J O q]) (A:=[RR kT165 J O q]) (B:=[RR kT3 A2 D2 g]) (FnOk.perm (Z9_ok a8) (Pre':=[RR kT165 J O q,RR kT3 A2 D2 g]) (fun _ _ _ s=>(s.e 2 [1,0]))) ⟨aQ,trivial⟩ (fun _=>⟨(bH ta),trivial⟩)) R ?_
 rintro ⟨aa,av,ab⟩
 refine aM 1 aC ?_
 rintro rfl
 refine cH ?_
 cases m
 exact iL ((L,Z.length,T),(aa,am.length,ab)) (tE 6 [2,1])
theorem Z26_ok  {p1:(List Int)}{a:(List Int)}{r:(List Int)×(List pair)×Bool}(b:Z26 p1 a=some r) :
 FnOk Tryz.prog 109 [(.slice A2 N2 D2),(.slice A4 N4 D4)] [aO kT3 (.slice A2 N2 D2) p1,aO kT3 (.slice A4 N4 D4) a] (fun (h:HH×HH)=>((.tuple [(s3 h.1),(s3 h.2),(.bool r.2.2)].toArray),[ow kT3 3 (s3 h.1) r.1,ow kT165 165 (s3 h.2) r.2.1])):=by
 unfold Z26 at b
 refine aR Tryz.func109 R 17 R R fun C V=>?_
 refine cL 0 aA ?_
 rintro rfl
 refine cL 1 aA ?_
 rintro rfl
 let B:=RR kT3 A2 D2 p1::RR kT3 A4 D4 a::V
 refine cN B ?_
 refine dM ?_
 obtain ⟨q,b⟩:=gd b
 obtain ⟨g,b⟩:=gd b
 obtain ⟨j,i,b⟩:=bd b
 refine bB 0 aA (show 0<p1.length by have:=q; omega) (fun E o7 D=>?_)
 subst D
 refine dE 13 [] bQ fun G F=>?_
 refine kM 0 [] ?_
 refine d1 5 R (gZ (K:=kT3) (1:Int) (p1.length:Int) 0 R R bI cI R R R R g.1 g.2.1 g.2.2 (fun A9 D9=>(aB (aG (sL [0]) (d1 6 R (lM _ (fun w s=>(((s.d 2 R).d 1 R).e 3 [1,0,2])) ?_))))))
 refine lC 2 Ay R (Z0g_ok i) R ?_
 rintro ⟨⟨A12,N12,D12⟩,⟨l,u,m⟩⟩
 refine aM 0 aC ?_
 rintro rfl
 refine aM 1 aC ?_
 rintro rfl
 refine aB (aG (sL [2,1,0]) ?_)
 refine t2 7 [2,1,0] ?_
 refine dD ?_
 refine bA ?_
 cases b
 exact iL ((A12,j.1.length,D12),(l,j.2.1.length,m)) (tE 5 [0,1])
theorem Z2x_ok  {a:Node}{b:(List Int)}{m:Int}{i:Int}{E:Nat}{j:Nat}{g:Nat}{r:(List Int)×(List pair)×Bool}(l:Z2x a b m i=some r) :
 FnOk Tryz.prog 143 [(.agg [(iv a.Op),(.slice A2 N2 D2),(.slice A3 N3 D3),(.slice A4 N4 D4),(aH a.Form),(.slice A5 N5 D5)].toArray),(.slice A7 N7 D7),(pt E 0),(pt j 0),(pt g 0)] [aO kT3 (.slice A2 N2 D2) a.Args,aO kT3 (.slice A3 N3 D3) a.Dims,aO kT3 (.slice A4 N4 D4) a.Ints,aO kT3 (.slice A5 N5 D5) a.Data,aO kT3 (.slice A7 N7 D7) b,aJ E [(iv m)] 3,aJ j [(iv i)] 3,aJ g [(.func (.func 109) [].toArray [].toArray)] 136] (fun (h:HH×HH)=>((.tuple [(s3 h.1),(s3 h.2),(.bool r.2.2)].toArray),[ow kT3 3 (s3 h.1) r.1,ow kT165 165 (s3 h.2) r.2.1,aJ E [(iv m)] 3,aJ j [(iv i)] 3,aJ g [(.func (.func 109) [].toArray [].toArray)] 136])):=by
 unfold Z2x at l
 refine aR Tryz.func143 R 30 R R fun C V=>?_
 refine cM _ (fun w s=>(s.f 8 [5,3,0,5])) ?_
 refine cL 3 aA ?_
 rintro rfl
 refine cL 4 aA ?_
 rintro rfl
 refine cL 5 aA ?_
 rintro rfl
 refine cL 6 aA ?_
 rintro rfl
 refine cL 7 aA ?_
 rintro rfl
 let T:=RR kT3 A2 D2 a.Args::RR kT3 A3 D3 a.Dims::RR kT3 A4 D4 a.Ints::RR kT3 A5 D5 a.Data::RR kT3 A7 D7 b::V
 refine bA ?_
 refine eJ R fun q=>?_
 refine bL ?_
 let L:=aJ q [(iv a.Op),(sc A2 a.Args D2),(sc A3 a.Dims D3),(sc A4 a.Ints D4),(aH a.Form),(sc A5 a.Data D5)] 65::aJ E [(iv m)] 3::aJ j [(iv i)] 3::aJ g [(.func (.func 109) [].toArray [].toArray)] 136::T
 refine qN L ?_
 refine aW ?_
 refine cQ [(1,(sc A7 b D7)),(4,(pt g 0)),(5,(pt q 0)),(21,(.bool ((decide ((a.Ints.length:Int)<m))||(decide ((a.Ints.length:Int)>i)))))] (L) ?_ ?_
 refine dX ?_
 rcases bo (decide ((a.Ints.length:Int)<m)) with u | u
 refine dX ?_
 exact qj tI
 refine dX ?_
 exact qj tI
 rintro σ1
 refine cE ?_
 split at l
 refine dH ?_
 cases l
 exact iL ((none,0,0),(none,0,0)) (fun w s=>(((s.nilo kT3 3).nilo kT165 165).e 11 [1,0,3,4,5]))
 refine bL ?_
 obtain ⟨D,B,l⟩:=bd l
 refine cU ?_
 refine lM _ (fun w s=>(((s.d 6 R).d 9 R).e 2 [1,0])) ?_
 refine cP (fs:=[]) (cs:=[]) 2 R R Az R R (Z26_ok B) R ?_
 rintro ⟨⟨F,M,I⟩,⟨G,O,J⟩⟩
 refine aM 0 aC ?_
 rintro rfl
 refine aM 1 aC ?_
 rintro rfl
 refine dJ ?_
 cases l
 exact iL ((F,D.1.length,I),(G,D.2.1.length,J)) (fun w s=>(s.f 11 [0,2,3,3]))
theorem Z1v_ok  {k1:shiftKind}{F:Int}{G:Int}{b:Node}{a:(List (List Int))}{j:Nat}{l:Nat}{m:Nat}{r:(List Int)×Bool}(i:Z1v k1 F G b a=some r) :
 FnOk Tryz.prog 217 [(.agg [(aH k1.use),(.func (.func 143) [].toArray [(pt j 0),(pt l 0),(pt m 0)].toArray)].toArray),(.agg [(iv b.Op),(.slice A9 N9 D9),(.slice A10 N10 D10),(.slice A11 N11 D11),(aH b.Form),(.slice A12 N12 D12)].toArray),(.slice A14 N14 D14)] [aJ j [(iv F)] 3,aJ l [(iv G)] 3,aJ m [(.func (.func 109) [].toArray [].toArray)] 136,aO kT3 (.slice A9 N9 D9) b.Args,aO kT3 (.slice A10 N10 D10) b.Dims,aO kT3 (.slice A11 N11 D11) b.Ints,aO kT3 (.slice A12 N12 D12) b.Data,aO kT23 (.slice A14 N14 D14) a] (fun (h:HH)=>((.tuple [(s3 h),(.bool r.2)].toArray),[ow kT3 3 (s3 h) r.1,aJ j [(iv F)] 3,aJ l [(iv G)] 3,aJ m [(.func (.func 109) [].toArray [].toArray)] 136])):=by
 unfold Z1v at i
 refine aR Tryz.func217 R 27 R R fun C V=>?_
 refine cL 3 aA ?_
 rintro rfl
 refine cL 4 aA ?_
 rintro rfl
 refine cL 5 aA ?_
 rintro rfl
 refine cL 6 aA ?_
 rintro rfl
 refine cL 7 aA ?_
 rintro rfl
 let Y:=RR kT3 A9 D9 b.Args::RR kT3 A10 D10 b.Dims::RR kT3 A11 D11 b.Ints::RR kT3 A12 D12 b.Data::RR kT23 A14 D14 a::V
 refine bA ?_
 refine eJ R fun D=>?_
 refine eJ R fun E=>?_
 refine aW ?_
 refine qM _ (fun w s=>(s.f 5 [2,3,0,2])) ?_
 let W1:=aJ E [(iv b.Op),(sc A9 b.Args D9),(sc A10 b.Dims D10),(sc A11 b.Ints D11),(aH b.Form),(sc A12 b.Data D12)] 65::aJ D [(aH k1.use),(.func (.func 143) [].toArray [(pt j 0),(pt l 0),(pt m 0)].toArray)] 131::Y
 refine dJ ?_
 split at i
 refine dJ ?_
 cases i
 exact ka (none,0,0) (fun w s=>((s.nilo kT3 3).f 11 [0,4]))
 refine bL ?_
 obtain ⟨g,i⟩:=gd i
 obtain ⟨I,q,i⟩:=bd i
 refine bB 9 aA (show 0<a.length by have:=g; omega) (fun Z o20 ha=>?_)
 subst ha
 refine dP (K:=kT23) 9 (0:Int) dT23.dec R g.1 g.2 ?_
 rintro ⟨J,M⟩
 refine dE 14 [] bQ fun ht hn=>?_
 refine kM 0 [] ?_
 refine dR 5 R (eO (fo:=0) 0 bZ R R R) (d1 6 R (lM _ (fun w s=>((((((s.d 7 R).d 9 R).d 11 R).d 13 R).d 5 R).e 10 [4,3,2,1,0,7,8,9,5,6])) ?_))
 refine cP (fs:=[]) (cs:=[(pt j 0),(pt l 0),(pt m 0)]) 8 R R re R R (Z2x_ok q) R ?_
 rintro ⟨⟨u,T,B⟩,⟨L,U,O⟩⟩
 refine aM 0 aC ?_
 rintro rfl
 refine aM 1 aC ?_
 rintro rfl
 refine aB (aG (fun w s=>(s.f 7 [5,2,2,3])) (dR 7 R (vT R) (hS:=(fun w s=>(s.f 7 [5,2,2,3]))) (dR 8 R (vS R) (hS:=(fun w s=>(s.f 7 [5,2,2,3]))) (dR 9 R (vS R) (hS:=(fun w s=>(s.f 7 [5,2,2,3]))) (dR 10 R (vB R) (hS:=(fun w s=>(s.f 7 [5,2,2,3]))) (dR 11 R (vS R) (hS:=(fun w s=>(s.f 7 [5,2,2,3]))) (dR 12 R (vS R) (hS:=(fun w s=>(s.f 7 [5,2,2,3]))) (dR 13 R (vB R) (hS:=(fun w s=>(s.f 7 [5,2,2,3]))) (dD ?_)))))))))
 refine dH ?_
 cases i
 exact ka (u,I.1.length,B) (tE 14 [0,2,3,4])
theorem Z0h_ok  {g:(List Int)}{i:Int}{b:(List Int)}{D:Int}{r:(List Int)×(List pair)×Bool}(m:Z0h g i b D=some r) :
 FnOk Tryz.prog 112 [(.slice A2 N2 D2),(iv i),(.slice A5 N5 D5),(iv D)] [aO kT3 (.slice A2 N2 D2) g,aO kT3 (.slice A5 N5 D5) b] (fun (h:HH×HH)=>((.tuple [(s3 h.1),(s3 h.2),(.bool r.2.2)].toArray),[ow kT3 3 (s3 h.1) r.1,ow kT165 165 (s3 h.2) r.2.1])):=by
 unfold Z0h at m
 refine aR Tryz.func112 R 67 R R fun C V=>?_
 refine cL 0 aA ?_
 rintro rfl
 refine cL 1 aA ?_
 rintro rfl
 let T:=RR kT3 A2 D2 g::RR kT3 A5 D5 b::V
 refine cN T ?_
 refine dJ ?_
 obtain ⟨r7,al,m⟩:=bd m
 obtain ⟨Y,m⟩:=gd m
 refine cQ [(0,(sc A2 g D2)),(1,(iv i)),(2,(sc A5 b D5)),(3,(iv D)),(31,(.bool (((!r7)||((b.length:Int) != (ix g i)))||(decide (D<1)))))] (T) ?_ ?_
 refine aW ?_
 refine lM _ (fun w s=>(s.d 0 R)) ?_
 refine lC 1 hN R (Zn_ok al) R ?_
 rintro _
 refine lN T ?_
 refine bA ?_
 rcases bo (!r7) with u | u
 refine lL ?_
 exact qj tI
 refine bL ?_
 refine bC 0 aA (show 0<g.length by have:=(Y u); omega) (fun av o11 ha=>?_)
 subst ha
 refine lW (cG u) (eA bI cI R R (Y u)) (lW (cG u) (gP 0 fC aA R (Y u)) ?_)
 refine aW ?_
 rcases bo ((!r7)||((b.length:Int) != (ix g i))) with a2 | a2
 refine bL ?_
 exact qj tI
 refine bL ?_
 exact qj tI
 rintro σ1
 refine cE ?_
 split at m
 refine dH ?_
 cases m
 exact iL ((none,0,0),(none,0,0)) (fun w s=>(((s.nilo kT3 3).nilo kT165 165).e 4 [1,0]))
 refine cU ?_
 refine bK (K:=kT165) (xs:=([]:List pair)) (vs:=[]) 0 R R fT fU eZ R R R R R R ?_ R (fun ab ae=>?_)
 exact fun I h s=>(jB).list [] I h s
 refine bL ?_
 refine bD (A:=((List pair))×(HH)) (fun a=>Z0h_J1 g i D a.1=some r) (fun a=>[(0,(sc A2 g D2)),(1,(iv i)),(3,(iv D)),(11,(s3 a.2))]) (fun a=>ow kT165 165 (s3 a.2) a.1::T) ?_ ?_
 refine dM ?_
 obtain ⟨e1,ak,a7⟩:=bd m
 refine bE (A:=HH×HH) ak (fun s a=>[(0,(sc A2 g D2)),(1,(iv i)),(3,(iv D)),(11,(s3 a.1)),(33,(s3 a.2)),(34,(il b)),(35,(iv s.2))]) (fun s a=>ow kT165 165 (s3 a.1) s.1::aO kT3 (s3 a.2) b::T) ((ab,([]:List pair).length,ae),(A5,b.length,D5)) (aS R) (fun w s=>((s.d 2 R).e 2 [1,0])) ?_
 rintro ⟨j,l⟩ ⟨⟨E,ah,J⟩,⟨ao,ai,L⟩⟩ σ1 an m a4
 dsimp only [Z0h_L1] at m
 refine bJ 0 aC (fun (hn:ah=j.length)=>?_)
 subst hn
 refine bJ 1 aA (fun (hn:ai=b.length)=>?_)
 subst hn
 refine cH ?_
 split at m
 refine cH ?_
 obtain ⟨a5,m⟩:=gd m
 refine bA ?_
 refine bC 1 aA (show 0<b.length by have:=a5; omega) (fun U o32 ha=>?_)
 subst ha
 refine dM ?_
 refine cQ [(0,(sc A2 g D2)),(1,(iv i)),(3,(iv D)),(11,(sc E j J)),(12,(iv l)),(13,(iv (ix b l))),(33,(sc (ad U o32) b L)),(34,(il b)),(35,(iv l)),(46,(.bool ((decide ((ix b l)<0))||(decide ((ix b l)≥D)))))] (OO kT165 165 E J j::RR kT3 (ad U o32) L b::T) ?_ ?_
 refine bL ?_
 rcases bo (decide ((ix b l)<0)) with a3 | a3
 refine cU ?_
 exact qj tI
 refine cU ?_
 exact qj tI
 rintro σ1
 refine cE ?_
 split at m
 refine iZ ?_
 cases m
 obtain rfl:=a4 _ R
 have m:=a7
 refine aW ?_
 cases m
 exact iL ((none,0,0),(none,0,0)) (fun w s=>(((s.nilo kT3 3).nilo kT165 165).e 6 [1,0]))
 refine aW ?_
 obtain ⟨a6,m⟩:=gd m
 refine bL ?_
 refine lO (vz (.agg [(iv l),(iv (ix b l))].toArray) (aV nb eZ R R)) (bK (K:=kT165) (xs:=([(⟨l,(ix b l)⟩:pair)]:List pair)) (vs:=[(.agg [(iv l),(iv (ix b l))].toArray)]) 0 R R fT fU eZ R R R R R R ?_ R (fun ap aq=>?_))
 exact fun I h s=>(jB).list [(((),()),(⟨l,(ix b l)⟩:pair))] I h s
 refine lM _ (tE 3 [1,0,2]) ?_
 refine dV (K:=kT165) 8796093022208 R R fT fU ml (Zr.zk zT165 eZ) R R R R R R dA a6 (fun a0 a1=>(lN (OO kT165 165 a0 a1 (j++([(⟨l,(ix b l)⟩:pair)]:List pair))::_::T) ?_))
 refine dM ?_
 cases m
 exact qA ((a0,(j++([(⟨l,(ix b l)⟩:pair)]:List pair)).length,a1),((ad U o32),b.length,L)) tI
 refine aW ?_
 cases m
 obtain rfl:=a4 _ R
 have m:=a7
 refine bA ?_
 exact qI (j,(E,j.length,J)) m (tE 2 [0])
 rintro ⟨q,⟨F,aj,M⟩⟩ σ1 m
 dsimp only [Z0h_J1] at m
 refine bJ 0 aC (fun (hn:aj=q.length)=>?_)
 subst hn
 refine cE ?_
 obtain ⟨Z,a8,m⟩:=bd m
 refine bL ?_
 refine lM _ (fun w s=>(s.d 1 R)) ?_
 refine lC 1 r0 R (Z1r_ok a8) R ?_
 rintro ⟨G,ar,O⟩
 refine aM 0 aC ?_
 rintro rfl
 refine cU ?_
 obtain ⟨aw,a9,m⟩:=bd m
 refine bA ?_
 refine lC 1 lR R (FnOk.lends (A':=[OO kT3 3 G O Z]) (A:=[RR kT3 G O Z]) (B:=[]) (Zf_ok a9) ⟨aQ,trivial⟩ (fun _=>trivial)) R ?_
 rintro _
 refine aW ?_
 split at m
 refine dH ?_
 cases m
 exact iL ((none,0,0),(none,0,0)) (fun w s=>(((s.nilo kT3 3).nilo kT165 165).e 6 [1,0]))
 refine bL ?_
 obtain ⟨am,aa,m⟩:=bd m
 refine cH ?_
 refine lM _ (fun w s=>((s.d 2 R).e 3 [2,0,1])) ?_
 refine lC 2 tt R (FnOk.lends (A':=[OO kT165 165 F M q]) (A:=[RR kT165 F M q]) (B:=[RR kT3 A2 D2 g]) (FnOk.perm (Z9_ok aa) (Pre':=[RR kT165 F M q,RR kT3 A2 D2 g]) (fun _ _ _ s=>(s.e 2 [1,0]))) ⟨aQ,trivial⟩ (fun _=>⟨(bH ta),trivial⟩)) R ?_
 rintro ⟨ac,au,ag⟩
 refine aM 1 aC ?_
 rintro rfl
 refine cH ?_
 cases m
 exact iL ((G,Z.length,O),(ac,am.length,ag)) (tE 5 [2,1])
theorem Z27_ok  {p1:(List Int)}{a:(List Int)}{r:(List Int)×(List pair)×Bool}(b:Z27 p1 a=some r) :
 FnOk Tryz.prog 111 [(.slice A2 N2 D2),(.slice A4 N4 D4)] [aO kT3 (.slice A2 N2 D2) p1,aO kT3 (.slice A4 N4 D4) a] (fun (h:HH×HH)=>((.tuple [(s3 h.1),(s3 h.2),(.bool r.2.2)].toArray),[ow kT3 3 (s3 h.1) r.1,ow kT165 165 (s3 h.2) r.2.1])):=by
 unfold Z27 at b
 refine aR Tryz.func111 R 20 R R fun C V=>?_
 refine cL 0 aA ?_
 rintro rfl
 refine cL 1 aA ?_
 rintro rfl
 let B:=RR kT3 A2 D2 p1::RR kT3 A4 D4 a::V
 refine cN B ?_
 refine dM ?_
 obtain ⟨q,b⟩:=gd b
 obtain ⟨g,b⟩:=gd b
 obtain ⟨_,b⟩:=gd b
 obtain ⟨j,i,b⟩:=bd b
 refine bB 0 aA (show 0<p1.length by have:=q; omega) (fun E o7 D=>?_)
 subst D
 refine dE 16 [] bQ fun G F=>?_
 refine kM 0 [] ?_
 refine iM 6 [] ?_
 refine d1 5 R (gZ (K:=kT3) (2:Int) (p1.length:Int) 0 R R bI cI R R R R g.1 g.2.1 g.2.2 (fun A9 D9=>(aB (aG (sL [0]) (d1 9 R (lM _ (fun w s=>(((s.d 2 R).d 1 R).e 3 [1,0,2])) ?_))))))
 refine lC 2 AA R (Z0h_ok i) R ?_
 rintro ⟨⟨l,u,m⟩,⟨A14,N14,D14⟩⟩
 refine aM 0 aC ?_
 rintro rfl
 refine aM 1 aC ?_
 rintro rfl
 refine aB (aG (sL [2,1,0]) ?_)
 refine t2 10 [2,1,0] ?_
 refine dD ?_
 refine bA ?_
 cases b
 exact iL ((l,j.1.length,m),(A14,j.2.1.length,D14)) (tE 5 [0,1])
theorem Z2y_ok  {a:Node}{b:(List Int)}{m:Int}{i:Int}{E:Nat}{j:Nat}{g:Nat}{r:(List Int)×(List pair)×Bool}(l:Z2y a b m i=some r) :
 FnOk Tryz.prog 143 [(.agg [(iv a.Op),(.slice A2 N2 D2),(.slice A3 N3 D3),(.slice A4 N4 D4),(aH a.Form),(.slice A5 N5 D5)].toArray),(.slice A7 N7 D7),(pt E 0),(pt j 0),(pt g 0)] [aO kT3 (.slice A2 N2 D2) a.Args,aO kT3 (.slice A3 N3 D3) a.Dims,aO kT3 (.slice A4 N4 D4) a.Ints,aO kT3 (.slice A5 N5 D5) a.Data,aO kT3 (.slice A7 N7 D7) b,aJ E [(iv m)] 3,aJ j [(iv i)] 3,aJ g [(.func (.func 111) [].toArray [].toArray)] 136] (fun (h:HH×HH)=>((.tuple [(s3 h.1),(s3 h.2),(.bool r.2.2)].toArray),[ow kT3 3 (s3 h.1) r.1,ow kT165 165 (s3 h.2) r.2.1,aJ E [(iv m)] 3,aJ j [(iv i)] 3,aJ g [(.func (.func 111) [].toArray [].toArray)] 136])):=by
 unfold Z2y at l
 refine aR Tryz.func143 R 30 R R fun C V=>?_
 refine cM _ (fun w s=>(s.f 8 [5,3,0,5])) ?_
 refine cL 3 aA ?_
 rintro rfl
 refine cL 4 aA ?_
 rintro rfl
 refine cL 5 aA ?_
 rintro rfl
 refine cL 6 aA ?_
 rintro rfl
 refine cL 7 aA ?_
 rintro rfl
 let T:=RR kT3 A2 D2 a.Args::RR kT3 A3 D3 a.Dims::RR kT3 A4 D4 a.Ints::RR kT3 A5 D5 a.Data::RR kT3 A7 D7 b::V
 refine bA ?_
 refine eJ R fun q=>?_
 refine bL ?_
 let L:=aJ q [(iv a.Op),(sc A2 a.Args D2),(sc A3 a.Dims D3),(sc A4 a.Ints D4),(aH a.Form),(sc A5 a.Data D5)] 65::aJ E [(iv m)] 3::aJ j [(iv i)] 3::aJ g [(.func (.func 111) [].toArray [].toArray)] 136::T
 refine qN L ?_
 refine aW ?_
 refine cQ [(1,(sc A7 b D7)),(4,(pt g 0)),(5,(pt q 0)),(21,(.bool ((decide ((a.Ints.length:Int)<m))||(decide ((a.Ints.length:Int)>i)))))] (L) ?_ ?_
 refine dX ?_
 rcases bo (decide ((a.Ints.length:Int)<m)) with u | u
 refine dX ?_
 exact qj tI
 refine dX ?_
 exact qj tI
 rintro σ1
 refine cE ?_
 split at l
 refine dH ?_
 cases l
 exact iL ((none,0,0),(none,0,0)) (fun w s=>(((s.nilo kT3 3).nilo kT165 165).e 11 [1,0,3,4,5]))
 refine bL ?_
 obtain ⟨D,B,l⟩:=bd l
 refine cU ?_
 refine lM _ (fun w s=>(((s.d 6 R).d 9 R).e 2 [1,0])) ?_
 refine cP (fs:=[]) (cs:=[]) 2 R R AB R R (Z27_ok B) R ?_
 rintro ⟨⟨F,M,I⟩,⟨G,O,J⟩⟩
 refine aM 0 aC ?_
 rintro rfl
 refine aM 1 aC ?_
 rintro rfl
 refine dJ ?_
 cases l
 exact iL ((F,D.1.length,I),(G,D.2.1.length,J)) (fun w s=>(s.f 11 [0,2,3,3]))
theorem Z1w_ok  {k1:shiftKind}{F:Int}{G:Int}{b:Node}{a:(List (List Int))}{j:Nat}{l:Nat}{m:Nat}{r:(List Int)×Bool}(i:Z1w k1 F G b a=some r) :
 FnOk Tryz.prog 217 [(.agg [(aH k1.use),(.func (.func 143) [].toArray [(pt j 0),(pt l 0),(pt m 0)].toArray)].toArray),(.agg [(iv b.Op),(.slice A9 N9 D9),(.slice A10 N10 D10),(.slice A11 N11 D11),(aH b.Form),(.slice A12 N12 D12)].toArray),(.slice A14 N14 D14)] [aJ j [(iv F)] 3,aJ l [(iv G)] 3,aJ m [(.func (.func 111) [].toArray [].toArray)] 136,aO kT3 (.slice A9 N9 D9) b.Args,aO kT3 (.slice A10 N10 D10) b.Dims,aO kT3 (.slice A11 N11 D11) b.Ints,aO kT3 (.slice A12 N12 D12) b.Data,aO kT23 (.slice A14 N14 D14) a] (fun (h:HH)=>((.tuple [(s3 h),(.bool r.2)].toArray),[ow kT3 3 (s3 h) r.1,aJ j [(iv F)] 3,aJ l [(iv G)] 3,aJ m [(.func (.func 111) [].toArray [].toArray)] 136])):=by
 unfold Z1w at i
 refine aR Tryz.func217 R 27 R R fun C V=>?_
 refine cL 3 aA ?_
 rintro rfl
 refine cL 4 aA ?_
 rintro rfl
 refine cL 5 aA ?_
 rintro rfl
 refine cL 6 aA ?_
 rintro rfl
 refine cL 7 aA ?_
 rintro rfl
 let Y:=RR kT3 A9 D9 b.Args::RR kT3 A10 D10 b.Dims::RR kT3 A11 D11 b.Ints::RR kT3 A12 D12 b.Data::RR kT23 A14 D14 a::V
 refine bA ?_
 refine eJ R fun D=>?_
 refine eJ R fun E=>?_
 refine aW ?_
 refine qM _ (fun w s=>(s.f 5 [2,3,0,2])) ?_
 let W1:=aJ E [(iv b.Op),(sc A9 b.Args D9),(sc A10 b.Dims D10),(sc A11 b.Ints D11),(aH b.Form),(sc A12 b.Data D12)] 65::aJ D [(aH k1.use),(.func (.func 143) [].toArray [(pt j 0),(pt l 0),(pt m 0)].toArray)] 131::Y
 refine dJ ?_
 split at i
 refine dJ ?_
 cases i
 exact ka (none,0,0) (fun w s=>((s.nilo kT3 3).f 11 [0,4]))
 refine bL ?_
 obtain ⟨g,i⟩:=gd i
 obtain ⟨I,q,i⟩:=bd i
 refine bB 9 aA (show 0<a.length by have:=g; omega) (fun Z o20 ha=>?_)
 subst ha
 refine dP (K:=kT23) 9 (0:Int) dT23.dec R g.1 g.2 ?_
 rintro ⟨J,M⟩
 refine dE 14 [] bQ fun ht hn=>?_
 refine kM 0 [] ?_
 refine dR 5 R (eO (fo:=0) 0 bZ R R R) (d1 6 R (lM _ (fun w s=>((((((s.d 7 R).d 9 R).d 11 R).d 13 R).d 5 R).e 10 [4,3,2,1,0,7,8,9,5,6])) ?_))
 refine cP (fs:=[]) (cs:=[(pt j 0),(pt l 0),(pt m 0)]) 8 R R re R R (Z2y_ok q) R ?_
 rintro ⟨⟨u,T,B⟩,⟨L,U,O⟩⟩
 refine aM 0 aC ?_
 rintro rfl
 refine aM 1 aC ?_
 rintro rfl
 refine aB (aG (fun w s=>(s.f 7 [5,2,2,3])) (dR 7 R (vT R) (hS:=(fun w s=>(s.f 7 [5,2,2,3]))) (dR 8 R (vS R) (hS:=(fun w s=>(s.f 7 [5,2,2,3]))) (dR 9 R (vS R) (hS:=(fun w s=>(s.f 7 [5,2,2,3]))) (dR 10 R (vB R) (hS:=(fun w s=>(s.f 7 [5,2,2,3]))) (dR 11 R (vS R) (hS:=(fun w s=>(s.f 7 [5,2,2,3]))) (dR 12 R (vS R) (hS:=(fun w s=>(s.f 7 [5,2,2,3]))) (dR 13 R (vB R) (hS:=(fun w s=>(s.f 7 [5,2,2,3]))) (dD ?_)))))))))
 refine dH ?_
 cases i
 exact ka (u,I.1.length,B) (tE 14 [0,2,3,4])
theorem Z5_ok  {b:(List Int)}{g:Int}{j:Int}{E:Int}{r:(List Int)×(List pair)×Bool}(l:Z5 b g j E=some r) :
 FnOk Tryz.prog 114 [(.slice A2 N2 D2),(iv g),(iv j),(iv E)] [aO kT3 (.slice A2 N2 D2) b] (fun (h:HH×HH)=>((.tuple [(s3 h.1),(s3 h.2),(.bool r.2.2)].toArray),[aO kT3 (s3 h.1) r.1,ow kT165 165 (s3 h.2) r.2.1])):=by
 unfold Z5 at l
 refine aR Tryz.func114 R 151 R R fun C V=>?_
 refine cL 0 aA ?_
 rintro rfl
 let W0:=RR kT3 A2 D2 b::V
 refine cN W0 ?_
 refine rL ?_
 obtain ⟨r6,a7,l⟩:=bd l
 obtain ⟨a8,l⟩:=gd l
 obtain ⟨al,l⟩:=gd l
 obtain ⟨am,l⟩:=gd l
 obtain ⟨b9,l⟩:=gd l
 refine cQ [(0,(sc A2 b D2)),(1,(iv g)),(2,(iv j)),(3,(iv E)),(11,(iv (aK ((b.length:Int) - 1)))),(68,(.bool (((((((!r6)||(g==(aK ((b.length:Int) - 1))))||(decide (j<1)))||(decide (E<1)))||(decide (E>4096)))||(decide ((ix b (aK ((b.length:Int) - 1)))>E)))||((ix b g) != (aK ((aK ((aK (E - (ix b (aK ((b.length:Int) - 1))))).tdiv j))+1))))))] (W0) ?_ ?_
 rcases bo (!r6) with G | G
 refine dE 45 [] bQ fun ht hn=>?_
 refine iC 0 [] ?_
 refine d1 2 R (lM _ (fun w s=>(s.d 0 R)) ?_)
 refine lC 1 hN R (Zn_ok a7) R ?_
 rintro _
 refine lN W0 ?_
 refine aB (aG (sL []) ?_)
 refine kM 3 [] ?_
 refine dR 8 R (fE (g==(aK ((b.length:Int) - 1))) R G) ?_
 refine iM 9 [] ?_
 refine dR 12 R (fE (decide (j<1)) R (oT G)) ?_
 refine iM 13 [] ?_
 refine dR 16 R (fE (decide (E<1)) R (oT (oT G))) ?_
 refine iM 17 [] ?_
 refine dR 20 R (fE (decide (E>4096)) R (oT (oT (oT G)))) ?_
 refine t6 21 [] ?_
 refine dR 28 R (fE (decide ((ix b (aK ((b.length:Int) - 1)))>E)) R (oT (oT (oT (oT G))))) ?_
 refine pd 29 [] ?_
 refine pS 33 [] ?_
 refine dR 44 R (fE ((ix b g) != (aK ((aK ((aK (E - (ix b (aK ((b.length:Int) - 1))))).tdiv j))+1))) R (oT (oT (oT (oT (oT G)))))) (dD ?_)
 exact qj tI
 rcases bo ((!r6)||(g==(aK ((b.length:Int) - 1)))) with U | U
 refine dE 45 [] bQ fun ht hn=>?_
 refine iC 0 [] ?_
 refine d1 2 R (lM _ (fun w s=>(s.d 0 R)) ?_)
 refine lC 1 hN R (Zn_ok a7) R ?_
 rintro _
 refine lN W0 ?_
 refine aB (aG (sL []) ?_)
 refine kM 3 [] ?_
 refine dR 8 R (fZ R G R) ?_
 refine iM 9 [] ?_
 refine dR 12 R (fE (decide (j<1)) R U) ?_
 refine iM 13 [] ?_
 refine dR 16 R (fE (decide (E<1)) R (oT U)) ?_
 refine iM 17 [] ?_
 refine dR 20 R (fE (decide (E>4096)) R (oT (oT U))) ?_
 refine t6 21 [] ?_
 refine dR 28 R (fE (decide ((ix b (aK ((b.length:Int) - 1)))>E)) R (oT (oT (oT U)))) ?_
 refine v6 29 [] ?_
 refine t6 37 [] ?_
 refine dR 44 R (fE ((ix b g) != (aK ((aK ((aK (E - (ix b (aK ((b.length:Int) - 1))))).tdiv j))+1))) R (oT (oT (oT (oT U))))) (dD ?_)
 exact qj tI
 rcases bo (((!r6)||(g==(aK ((b.length:Int) - 1))))||(decide (j<1))) with a1 | a1
 refine dE 45 [] bQ fun ht hn=>?_
 refine iC 0 [] ?_
 refine d1 2 R (lM _ (fun w s=>(s.d 0 R)) ?_)
 refine lC 1 hN R (Zn_ok a7) R ?_
 rintro _
 refine lN W0 ?_
 refine aB (aG (sL []) ?_)
 refine kM 3 [] ?_
 refine dR 8 R (fZ R G R) ?_
 refine iM 9 [] ?_
 refine dR 12 R (fZ R U R) ?_
 refine iM 13 [] ?_
 refine dR 16 R (fE (decide (E<1)) R a1) ?_
 refine iM 17 [] ?_
 refine dR 20 R (fE (decide (E>4096)) R (oT a1)) ?_
 refine t6 21 [] ?_
 refine dR 28 R (fE (decide ((ix b (aK ((b.length:Int) - 1)))>E)) R (oT (oT a1))) ?_
 refine pS 29 [] ?_
 refine pd 40 [] ?_
 refine dR 44 R (fE ((ix b g) != (aK ((aK ((aK (E - (ix b (aK ((b.length:Int) - 1))))).tdiv j))+1))) R (oT (oT (oT a1)))) (dD ?_)
 exact qj tI
 rcases bo ((((!r6)||(g==(aK ((b.length:Int) - 1))))||(decide (j<1)))||(decide (E<1))) with a2 | a2
 refine dE 45 [] bQ fun ht hn=>?_
 refine iC 0 [] ?_
 refine d1 2 R (lM _ (fun w s=>(s.d 0 R)) ?_)
 refine lC 1 hN R (Zn_ok a7) R ?_
 rintro _
 refine lN W0 ?_
 refine aB (aG (sL []) ?_)
 refine kM 3 [] ?_
 refine dR 8 R (fZ R G R) ?_
 refine iM 9 [] ?_
 refine dR 12 R (fZ R U R) ?_
 refine iM 13 [] ?_
 refine dR 16 R (fZ R a1 R) ?_
 refine iM 17 [] ?_
 refine dR 20 R (fE (decide (E>4096)) R a2) ?_
 refine t6 21 [] ?_
 refine dR 28 R (fE (decide ((ix b (aK ((b.length:Int) - 1)))>E)) R (oT a2)) ?_
 refine v8 29 [] ?_
 refine pc 43 [] ?_
 refine dR 44 R (fE ((ix b g) != (aK ((aK ((aK (E - (ix b (aK ((b.length:Int) - 1))))).tdiv j))+1))) R (oT (oT a2))) (dD ?_)
 exact qj tI
 rcases bo (((((!r6)||(g==(aK ((b.length:Int) - 1))))||(decide (j<1)))||(decide (E<1)))||(decide (E>4096))) with B | B
 refine dE 45 [] bQ fun ht hn=>?_
 refine iC 0 [] ?_
 refine d1 2 R (lM _ (fun w s=>(s.d 0 R)) ?_)
 refine lC 1 hN R (Zn_ok a7) R ?_
 rintro _
 refine lN W0 ?_
 refine aB (aG (sL []) ?_)
 refine kM 3 [] ?_
 refine dR 8 R (fZ R G R) ?_
 refine iM 9 [] ?_
 refine dR 12 R (fZ R U R) ?_
 refine iM 13 [] ?_
 refine dR 16 R (fZ R a1 R) ?_
 refine iM 17 [] ?_
 refine dR 20 R (fZ R a2 R) ?_
 refine t6 21 [] ?_
 refine dR 28 R (fE (decide ((ix b (aK ((b.length:Int) - 1)))>E)) R B) ?_
 refine xv 29 [] ?_
 refine dR 44 R (fE ((ix b g) != (aK ((aK ((aK (E - (ix b (aK ((b.length:Int) - 1))))).tdiv j))+1))) R (oT B)) (dD ?_)
 exact qj tI
 rcases bo ((((((!r6)||(g==(aK ((b.length:Int) - 1))))||(decide (j<1)))||(decide (E<1)))||(decide (E>4096)))||(decide ((ix b (aK ((b.length:Int) - 1)))>E))) with J | J
 refine bB 0 aA (show 0<b.length by have:=(a8 B); omega) (fun g9 o10 ha=>?_)
 subst ha
 refine dE 45 [] bQ fun ht hn=>?_
 refine iC 0 [] ?_
 refine d1 2 R (lM _ (fun w s=>(s.d 0 R)) ?_)
 refine lC 1 hN R (Zn_ok a7) R ?_
 rintro _
 refine lN W0 ?_
 refine aB (aG (sL []) ?_)
 refine kM 3 [] ?_
 refine dR 8 R (fZ R G R) ?_
 refine iM 9 [] ?_
 refine dR 12 R (fZ R U R) ?_
 refine iM 13 [] ?_
 refine dR 16 R (fZ R a1 R) ?_
 refine iM 17 [] ?_
 refine dR 20 R (fZ R a2 R) ?_
 refine iM 21 [] ?_
 refine dW 24 R (cG B) (eA bI cI R R (a8 B)) (dW 25 R (cG B) (gP 0 fC aA R (a8 B)) ?_)
 refine iC 26 [] ?_
 refine dR 28 R (fZ R B R) ?_
 refine xv 29 [] ?_
 refine dR 44 R (fE ((ix b g) != (aK ((aK ((aK (E - (ix b (aK ((b.length:Int) - 1))))).tdiv j))+1))) R J) (dD ?_)
 exact qj tI
 refine bB 0 aA (show 0<b.length by have:=(a8 B); omega) (fun g9 o10 ha=>?_)
 subst ha
 refine dE 45 [] bQ fun ht hn=>?_
 refine iC 0 [] ?_
 refine d1 2 R (lM _ (fun w s=>(s.d 0 R)) ?_)
 refine lC 1 hN R (Zn_ok a7) R ?_
 rintro _
 refine lN W0 ?_
 refine aB (aG (sL []) ?_)
 refine kM 3 [] ?_
 refine dR 8 R (fZ R G R) ?_
 refine iM 9 [] ?_
 refine dR 12 R (fZ R U R) ?_
 refine iM 13 [] ?_
 refine dR 16 R (fZ R a1 R) ?_
 refine iM 17 [] ?_
 refine dR 20 R (fZ R a2 R) ?_
 refine iM 21 [] ?_
 refine dW 24 R (cG B) (eA bI cI R R (a8 B)) (dW 25 R (cG B) (gP 0 fC aA R (a8 B)) ?_)
 refine iC 26 [] ?_
 refine dR 28 R (fZ R B R) ?_
 refine iM 29 [] ?_
 refine dW 32 R (cG J) (eA bI cI R R (al J)) (dW 33 R (cG J) (gP 0 fC aA R (al J)) ?_)
 refine iM 34 [] ?_
 refine dW 37 R (cG J) (eA bI cI R R (am J)) (dW 38 R (cG J) (gP 0 fC aA R (am J)) ?_)
 refine iC 39 [] ?_
 refine dW 41 R (cG J) (vz (iv (aK ((aK (E - (ix b (aK ((b.length:Int) - 1))))).tdiv j))) (mT R R (b9 J))) ?_
 refine iC 42 [] ?_
 refine dR 44 R (fZ R J R) (dD ?_)
 exact qj tI
 rintro σ1
 refine cE ?_
 split at l
 refine dH ?_
 cases l
 exact iL ((none,0,0),(none,0,0)) (fun w s=>(((s.nilr kT3).nilo kT165 165).e 3 [1,0]))
 refine bL ?_
 obtain ⟨F,bb,l⟩:=bd l
 obtain ⟨a9,l⟩:=gd l
 refine bL ?_
 refine lM _ (fun w s=>(s.d 0 R)) ?_
 refine lC 1 r0 R (Z1r_ok bb) R ?_
 rintro ⟨c4,c8,c6⟩
 refine aM 0 aC ?_
 rintro rfl
 refine lI R (fS (fun w s=>s.shr 0 R) (gZ (K:=kT3) (0:Int) (aK ((b.length:Int) - 1)) 0 R R bI cI R R R R a9.1 a9.2.1 a9.2.2 (fun M O=>(lS R (aB (aE (aI (aI ?_))))))))
 obtain ⟨ca,bc,l⟩:=bd l
 refine bA ?_
 refine lM _ (fun w s=>(s.d 0 R)) ?_
 refine lC 1 lR R (Zf_ok bc) R ?_
 rintro _
 refine aW ?_
 split at l
 refine dH ?_
 cases l
 exact iL ((none,0,0),(none,0,0)) (fun w s=>(((s.nilr kT3).nilo kT165 165).e 5 [1,0]))
 refine bL ?_
 refine bD (A:=(Int)×(Unit)) (fun a=>Z5_J1 b g E F a.1=some r) (fun a=>[(0,(sc A2 b D2)),(1,(iv g)),(2,(iv a.1)),(3,(iv E)),(11,(iv (aK ((b.length:Int) - 1)))),(12,(sc M (sub F (0:Int) (aK ((b.length:Int) - 1))) O))]) (fun a=>RR kT3 M O (sub F (0:Int) (aK ((b.length:Int) - 1)))::W0) ?_ ?_
 refine cE ?_
 obtain ⟨ba,l⟩:=gd l
 refine aW ?_
 refine bC 2 aA (show 0<b.length by have:=ba; omega) (fun c9 o31 ha=>?_)
 subst ha
 refine cU ?_
 split at l
 refine bL ?_
 exact qI ((0:Int),()) l (tE 2 [0])
 refine bA ?_
 exact qI (j,()) l (tE 2 [0])
 rintro ⟨m,_⟩ σ1 l
 dsimp only [Z5_J1] at l
 refine cE ?_
 obtain ⟨aa,l⟩:=gd l
 obtain ⟨i,be,l⟩:=bd l
 refine aW ?_
 refine gZ (K:=kT3) (0:Int) (aK ((b.length:Int) - 1)) 1 R R bI cI R R R R aa.1 aa.2.1 aa.2.2 (fun c5 c7=>(lI R (lM _ (fun w s=>(s.d 0 R)) ?_)))
 refine lC 1 wN R (Z29_ok be) R ?_
 rintro _
 refine lO (vT R) ?_
 refine dH ?_
 refine bK (K:=kT165) (xs:=([]:List pair)) (vs:=[]) 0 R R fT fU eZ R R R R R R ?_ R (fun bi bj=>?_)
 exact fun I h s=>(jB).list [] I h s
 refine bL ?_
 refine bD (A:=((List pair))×(HH)) (fun a=>Z5_J16 b F a.1=some r) (fun a=>[(12,(sc M (sub F (0:Int) (aK ((b.length:Int) - 1))) O)),(16,(s3 a.2))]) (fun a=>RR kT3 M O (sub F (0:Int) (aK ((b.length:Int) - 1)))::ow kT165 165 (s3 a.2) a.1::W0) ?_ ?_
 refine cH ?_
 obtain ⟨e1,bu,bp⟩:=bd l
 refine bE (A:=HH) bu (fun s a=>[(0,(sc A2 b D2)),(2,(iv m)),(3,(iv E)),(11,(iv (aK ((b.length:Int) - 1)))),(12,(sc M (sub F (0:Int) (aK ((b.length:Int) - 1))) O)),(13,(iv i.1)),(14,(iv i.2.1)),(15,(iv i.2.2)),(16,(s3 a)),(17,(iv s.2))]) (fun s a=>RR kT3 M O (sub F (0:Int) (aK ((b.length:Int) - 1)))::ow kT165 165 (s3 a) s.1::W0) (bi,([]:List pair).length,bj) (aS R) (tE 3 [2,0]) ?_
 rintro ⟨Y,q⟩ ⟨ab,b1,ah⟩ σ1 bf l bk
 dsimp only [Z5_L1] at l
 refine bJ 1 aC (fun (hn:b1=Y.length)=>?_)
 subst hn
 refine dM ?_
 split at l
 refine bL ?_
 refine bD (A:=((List pair))×(HH)) (fun a=>Z5_J15 q a.1=some bf) (fun a=>[(0,(sc A2 b D2)),(2,(iv m)),(3,(iv E)),(11,(iv (aK ((b.length:Int) - 1)))),(12,(sc M (sub F (0:Int) (aK ((b.length:Int) - 1))) O)),(13,(iv i.1)),(14,(iv i.2.1)),(15,(iv i.2.2)),(16,(s3 a.2)),(17,(iv q))]) (fun a=>RR kT3 M O (sub F (0:Int) (aK ((b.length:Int) - 1)))::ow kT165 165 (s3 a.2) a.1::W0) ?_ ?_
 refine dX ?_
 obtain ⟨e2,bv,bq⟩:=bd l
 refine bE (A:=HH) bv (fun s a=>[(0,(sc A2 b D2)),(2,(iv m)),(3,(iv E)),(11,(iv (aK ((b.length:Int) - 1)))),(12,(sc M (sub F (0:Int) (aK ((b.length:Int) - 1))) O)),(13,(iv i.1)),(14,(iv i.2.1)),(15,(iv i.2.2)),(16,(s3 a)),(17,(iv q)),(18,(iv s.2))]) (fun s a=>RR kT3 M O (sub F (0:Int) (aK ((b.length:Int) - 1)))::ow kT165 165 (s3 a) s.1::W0) (ab,Y.length,ah) (aS R) tI ?_
 rintro ⟨Z,u⟩ ⟨ac,b2,ai⟩ σ1 bg l bl
 dsimp only [Z5_L2] at l
 refine bJ 1 aC (fun (hn:b2=Z.length)=>?_)
 subst hn
 refine dM ?_
 split at l
 refine bL ?_
 refine bD (A:=((List pair))×(HH)) (fun a=>Z5_J14 u a.1=some bg) (fun a=>[(0,(sc A2 b D2)),(2,(iv m)),(3,(iv E)),(11,(iv (aK ((b.length:Int) - 1)))),(12,(sc M (sub F (0:Int) (aK ((b.length:Int) - 1))) O)),(13,(iv i.1)),(14,(iv i.2.1)),(15,(iv i.2.2)),(16,(s3 a.2)),(17,(iv q)),(18,(iv u))]) (fun a=>RR kT3 M O (sub F (0:Int) (aK ((b.length:Int) - 1)))::ow kT165 165 (s3 a.2) a.1::W0) ?_ ?_
 refine dX ?_
 obtain ⟨e3,bw,br⟩:=bd l
 refine bE (A:=HH) bw (fun s a=>[(0,(sc A2 b D2)),(2,(iv m)),(3,(iv E)),(11,(iv (aK ((b.length:Int) - 1)))),(12,(sc M (sub F (0:Int) (aK ((b.length:Int) - 1))) O)),(13,(iv i.1)),(14,(iv i.2.1)),(15,(iv i.2.2)),(16,(s3 a)),(17,(iv q)),(18,(iv u)),(19,(iv s.2))]) (fun s a=>RR kT3 M O (sub F (0:Int) (aK ((b.length:Int) - 1)))::ow kT165 165 (s3 a) s.1::W0) (ac,Z.length,ai) (aS R) tI ?_
 rintro ⟨a0,D⟩ ⟨ae,b3,aj⟩ σ1 bh l bm
 dsimp only [Z5_L3] at l
 refine bJ 1 aC (fun (hn:b3=a0.length)=>?_)
 subst hn
 refine dM ?_
 split at l
 refine bL ?_
 refine bD (A:=((List pair))×(HH)) (fun a=>Z5_J13 D a.1=some bh) (fun a=>[(0,(sc A2 b D2)),(2,(iv m)),(3,(iv E)),(11,(iv (aK ((b.length:Int) - 1)))),(12,(sc M (sub F (0:Int) (aK ((b.length:Int) - 1))) O)),(13,(iv i.1)),(14,(iv i.2.1)),(15,(iv i.2.2)),(16,(s3 a.2)),(17,(iv q)),(18,(iv u)),(19,(iv D))]) (fun a=>RR kT3 M O (sub F (0:Int) (aK ((b.length:Int) - 1)))::ow kT165 165 (s3 a.2) a.1::W0) ?_ ?_
 refine dX ?_
 obtain ⟨e4,bz,bs⟩:=bd l
 refine bE (A:=HH) bz (fun s a=>[(0,(sc A2 b D2)),(2,(iv m)),(3,(iv E)),(11,(iv (aK ((b.length:Int) - 1)))),(12,(sc M (sub F (0:Int) (aK ((b.length:Int) - 1))) O)),(13,(iv i.1)),(14,(iv i.2.1)),(15,(iv i.2.2)),(16,(s3 a)),(17,(iv q)),(18,(iv u)),(19,(iv D)),(20,(iv s.2))]) (fun s a=>RR kT3 M O (sub F (0:Int) (aK ((b.length:Int) - 1)))::ow kT165 165 (s3 a) s.1::W0) (ae,a0.length,aj) (aS R) tI ?_
 rintro ⟨L,T⟩ ⟨ap,b4,aw⟩ σ1 c3 l bn
 dsimp only [Z5_L4] at l
 refine bJ 1 aC (fun (hn:b4=L.length)=>?_)
 subst hn
 refine bA ?_
 obtain ⟨an,l⟩:=gd l
 refine bL ?_
 refine bC 2 aA (show 0<b.length by have:=an; omega) (fun c2 o260 ha=>?_)
 subst ha
 refine cU ?_
 split at l
 refine cU ?_
 obtain ⟨ao,l⟩:=gd l
 refine xu ?_
 refine lO (vz (.agg [(iv (aK ((aK ((aK ((aK ((aK ((aK (q*i.2.1))+u))*i.2.2))+D))*(ix b (aK ((b.length:Int) - 1)))))+T))),(iv (aK ((aK ((aK ((aK ((aK (q*E))+(aK (u*m))))+T))*i.2.2))+D)))].toArray) (aV nb eZ R R)) ?_
 refine bK (K:=kT165) (xs:=([(⟨(aK ((aK ((aK ((aK ((aK ((aK (q*i.2.1))+u))*i.2.2))+D))*(ix b (aK ((b.length:Int) - 1)))))+T)),(aK ((aK ((aK ((aK ((aK (q*E))+(aK (u*m))))+T))*i.2.2))+D))⟩:pair)]:List pair)) (vs:=[(.agg [(iv (aK ((aK ((aK ((aK ((aK ((aK (q*i.2.1))+u))*i.2.2))+D))*(ix b (aK ((b.length:Int) - 1)))))+T))),(iv (aK ((aK ((aK ((aK ((aK (q*E))+(aK (u*m))))+T))*i.2.2))+D)))].toArray)]) 0 R R fT fU eZ R R R R R R ?_ R (fun c0 c1=>?_)
 exact fun I h s=>(jB).list [(((),()),(⟨(aK ((aK ((aK ((aK ((aK ((aK (q*i.2.1))+u))*i.2.2))+D))*(ix b (aK ((b.length:Int) - 1)))))+T)),(aK ((aK ((aK ((aK ((aK (q*E))+(aK (u*m))))+T))*i.2.2))+D))⟩:pair))] I h s
 refine lM _ (tE 3 [2,0,1]) ?_
 refine dV (K:=kT165) 8796093022208 R R fT fU ml (Zr.zk zT165 eZ) R R R R R R dA ao (fun ag ak=>(lN (OO kT165 165 ag ak (L++([(⟨(aK ((aK ((aK ((aK ((aK ((aK (q*i.2.1))+u))*i.2.2))+D))*(ix b (aK ((b.length:Int) - 1)))))+T)),(aK ((aK ((aK ((aK ((aK (q*E))+(aK (u*m))))+T))*i.2.2))+D))⟩:pair)]:List pair))::_::W0) ?_))
 refine dJ ?_
 cases l
 exact qA (ag,(L++([(⟨(aK ((aK ((aK ((aK ((aK ((aK (q*i.2.1))+u))*i.2.2))+D))*(ix b (aK ((b.length:Int) - 1)))))+T)),(aK ((aK ((aK ((aK ((aK (q*E))+(aK (u*m))))+T))*i.2.2))+D))⟩:pair)]:List pair)).length,ak) (tE 2 [1,0])
 refine aW ?_
 cases l
 obtain rfl:=bn _ R
 have l:=bs
 refine aW ?_
 exact qI (L,(ap,L.length,aw)) l tI
 rintro ⟨a3,⟨aq,b5,ax⟩⟩ σ1 l
 dsimp only [Z5_J13] at l
 refine bJ 1 aC (fun (hn:b5=a3.length)=>?_)
 subst hn
 refine cU ?_
 cases l
 exact qA (aq,a3.length,ax) tI
 refine aW ?_
 cases l
 obtain rfl:=bm _ R
 have l:=br
 refine aW ?_
 exact qI (a0,(ae,a0.length,aj)) l tI
 rintro ⟨a4,⟨ar,b6,ay⟩⟩ σ1 l
 dsimp only [Z5_J14] at l
 refine bJ 1 aC (fun (hn:b6=a4.length)=>?_)
 subst hn
 refine cU ?_
 cases l
 exact qA (ar,a4.length,ay) tI
 refine aW ?_
 cases l
 obtain rfl:=bl _ R
 have l:=bq
 refine aW ?_
 exact qI (Z,(ac,Z.length,ai)) l tI
 rintro ⟨a5,⟨au,b7,az⟩⟩ σ1 l
 dsimp only [Z5_J15] at l
 refine bJ 1 aC (fun (hn:b7=a5.length)=>?_)
 subst hn
 refine cU ?_
 cases l
 exact qA (au,a5.length,az) tI
 refine aW ?_
 cases l
 obtain rfl:=bk _ R
 have l:=bp
 refine bA ?_
 exact qI (Y,(ab,Y.length,ah)) l tI
 rintro ⟨a6,⟨av,b8,b0⟩⟩ σ1 l
 dsimp only [Z5_J16] at l
 refine bJ 1 aC (fun (hn:b8=a6.length)=>?_)
 subst hn
 refine dH ?_
 cases l
 exact iL ((M,(sub F (0:Int) (aK ((b.length:Int) - 1))).length,O),(av,a6.length,b0)) (tE 3 [0,1])
theorem Z28_ok  {p1:(List Int)}{a:(List Int)}{r:(List Int)×(List pair)×Bool}(b:Z28 p1 a=some r) :
 FnOk Tryz.prog 113 [(.slice A2 N2 D2),(.slice A4 N4 D4)] [aO kT3 (.slice A2 N2 D2) p1,aO kT3 (.slice A4 N4 D4) a] (fun (h:HH×HH)=>((.tuple [(s3 h.1),(s3 h.2),(.bool r.2.2)].toArray),[aO kT3 (s3 h.1) r.1,ow kT165 165 (s3 h.2) r.2.1])):=by
 unfold Z28 at b
 refine aR Tryz.func113 R 21 R R fun C V=>?_
 refine cL 0 aA ?_
 rintro rfl
 refine cL 1 aA ?_
 rintro rfl
 let q:=RR kT3 A2 D2 p1::RR kT3 A4 D4 a::V
 refine cN q ?_
 refine dM ?_
 obtain ⟨l,b⟩:=gd b
 obtain ⟨_,b⟩:=gd b
 obtain ⟨_,b⟩:=gd b
 obtain ⟨g,e,b⟩:=bd b
 refine bB 0 aA (show 0<p1.length by have:=l; omega) (fun B o7 u=>?_)
 subst u
 refine dE 17 [] bQ fun E D=>?_
 refine rM 0 [] ?_
 refine d1 10 R (lM _ (fun w s=>(s.d 1 R)) ?_)
 refine lC 1 AC R (Z5_ok e) R ?_
 rintro ⟨⟨A12,N12,D12⟩,⟨i,m,j⟩⟩
 refine aM 0 aA ?_
 rintro rfl
 refine aM 1 aC ?_
 rintro rfl
 refine aB (aG (sL [1,0]) ?_)
 refine t2 11 [1,0] ?_
 refine dD ?_
 refine bA ?_
 cases b
 exact iL ((A12,g.1.length,D12),(i,g.2.1.length,j)) (tE 4 [0,1])
theorem Z2z_ok  {a:Node}{b:(List Int)}{m:Int}{i:Int}{E:Nat}{j:Nat}{g:Nat}{r:(List Int)×(List pair)×Bool}(l:Z2z a b m i=some r) :
 FnOk Tryz.prog 143 [(.agg [(iv a.Op),(.slice A2 N2 D2),(.slice A3 N3 D3),(.slice A4 N4 D4),(aH a.Form),(.slice A5 N5 D5)].toArray),(.slice A7 N7 D7),(pt E 0),(pt j 0),(pt g 0)] [aO kT3 (.slice A2 N2 D2) a.Args,aO kT3 (.slice A3 N3 D3) a.Dims,aO kT3 (.slice A4 N4 D4) a.Ints,aO kT3 (.slice A5 N5 D5) a.Data,aO kT3 (.slice A7 N7 D7) b,aJ E [(iv m)] 3,aJ j [(iv i)] 3,aJ g [(.func (.func 113) [].toArray [].toArray)] 136] (fun (h:HH×HH)=>((.tuple [(s3 h.1),(s3 h.2),(.bool r.2.2)].toArray),[aO kT3 (s3 h.1) r.1,ow kT165 165 (s3 h.2) r.2.1,aJ E [(iv m)] 3,aJ j [(iv i)] 3,aJ g [(.func (.func 113) [].toArray [].toArray)] 136])):=by
 unfold Z2z at l
 refine aR Tryz.func143 R 30 R R fun C V=>?_
 refine cM _ (fun w s=>(s.f 8 [5,3,0,5])) ?_
 refine cL 3 aA ?_
 rintro rfl
 refine cL 4 aA ?_
 rintro rfl
 refine cL 5 aA ?_
 rintro rfl
 refine cL 6 aA ?_
 rintro rfl
 refine cL 7 aA ?_
 rintro rfl
 let T:=RR kT3 A2 D2 a.Args::RR kT3 A3 D3 a.Dims::RR kT3 A4 D4 a.Ints::RR kT3 A5 D5 a.Data::RR kT3 A7 D7 b::V
 refine bA ?_
 refine eJ R fun q=>?_
 refine bL ?_
 let L:=aJ q [(iv a.Op),(sc A2 a.Args D2),(sc A3 a.Dims D3),(sc A4 a.Ints D4),(aH a.Form),(sc A5 a.Data D5)] 65::aJ E [(iv m)] 3::aJ j [(iv i)] 3::aJ g [(.func (.func 113) [].toArray [].toArray)] 136::T
 refine qN L ?_
 refine aW ?_
 refine cQ [(1,(sc A7 b D7)),(4,(pt g 0)),(5,(pt q 0)),(21,(.bool ((decide ((a.Ints.length:Int)<m))||(decide ((a.Ints.length:Int)>i)))))] (L) ?_ ?_
 refine dX ?_
 rcases bo (decide ((a.Ints.length:Int)<m)) with u | u
 refine dX ?_
 exact qj tI
 refine dX ?_
 exact qj tI
 rintro σ1
 refine cE ?_
 split at l
 refine dH ?_
 cases l
 exact iL ((none,0,0),(none,0,0)) (fun w s=>(((s.nilr kT3).nilo kT165 165).e 11 [1,0,3,4,5]))
 refine bL ?_
 obtain ⟨D,B,l⟩:=bd l
 refine cU ?_
 refine lM _ (fun w s=>(((s.d 6 R).d 9 R).e 2 [1,0])) ?_
 refine cP (fs:=[]) (cs:=[]) 2 R R AD R R (Z28_ok B) R ?_
 rintro ⟨⟨F,M,I⟩,⟨G,O,J⟩⟩
 refine aM 0 aA ?_
 rintro rfl
 refine aM 1 aC ?_
 rintro rfl
 refine dJ ?_
 cases l
 exact iL ((F,D.1.length,I),(G,D.2.1.length,J)) (fun w s=>(s.f 11 [0,2,3,3]))
theorem Z1x_ok  {k1:shiftKind}{F:Int}{G:Int}{b:Node}{a:(List (List Int))}{j:Nat}{l:Nat}{m:Nat}{r:(List Int)×Bool}(i:Z1x k1 F G b a=some r) :
 FnOk Tryz.prog 217 [(.agg [(aH k1.use),(.func (.func 143) [].toArray [(pt j 0),(pt l 0),(pt m 0)].toArray)].toArray),(.agg [(iv b.Op),(.slice A9 N9 D9),(.slice A10 N10 D10),(.slice A11 N11 D11),(aH b.Form),(.slice A12 N12 D12)].toArray),(.slice A14 N14 D14)] [aJ j [(iv F)] 3,aJ l [(iv G)] 3,aJ m [(.func (.func 113) [].toArray [].toArray)] 136,aO kT3 (.slice A9 N9 D9) b.Args,aO kT3 (.slice A10 N10 D10) b.Dims,aO kT3 (.slice A11 N11 D11) b.Ints,aO kT3 (.slice A12 N12 D12) b.Data,aO kT23 (.slice A14 N14 D14) a] (fun (h:HH)=>((.tuple [(s3 h),(.bool r.2)].toArray),[aO kT3 (s3 h) r.1,aJ j [(iv F)] 3,aJ l [(iv G)] 3,aJ m [(.func (.func 113) [].toArray [].toArray)] 136])):=by
 unfold Z1x at i
 refine aR Tryz.func217 R 27 R R fun C V=>?_
 refine cL 3 aA ?_
 rintro rfl
 refine cL 4 aA ?_
 rintro rfl
 refine cL 5 aA ?_
 rintro rfl
 refine cL 6 aA ?_
 rintro rfl
 refine cL 7 aA ?_
 rintro rfl
 let Y:=RR kT3 A9 D9 b.Args::RR kT3 A10 D10 b.Dims::RR kT3 A11 D11 b.Ints::RR kT3 A12 D12 b.Data::RR kT23 A14 D14 a::V
 refine bA ?_
 refine eJ R fun D=>?_
 refine eJ R fun E=>?_
 refine aW ?_
 refine qM _ (fun w s=>(s.f 5 [2,3,0,2])) ?_
 let W1:=aJ E [(iv b.Op),(sc A9 b.Args D9),(sc A10 b.Dims D10),(sc A11 b.Ints D11),(aH b.Form),(sc A12 b.Data D12)] 65::aJ D [(aH k1.use),(.func (.func 143) [].toArray [(pt j 0),(pt l 0),(pt m 0)].toArray)] 131::Y
 refine dJ ?_
 split at i
 refine dJ ?_
 cases i
 exact ka (none,0,0) (fun w s=>((s.nilr kT3).f 11 [0,4]))
 refine bL ?_
 obtain ⟨g,i⟩:=gd i
 obtain ⟨I,q,i⟩:=bd i
 refine bB 9 aA (show 0<a.length by have:=g; omega) (fun Z o20 ha=>?_)
 subst ha
 refine dP (K:=kT23) 9 (0:Int) dT23.dec R g.1 g.2 ?_
 rintro ⟨J,M⟩
 refine dE 14 [] bQ fun ht hn=>?_
 refine kM 0 [] ?_
 refine dR 5 R (eO (fo:=0) 0 bZ R R R) (d1 6 R (lM _ (fun w s=>((((((s.d 7 R).d 9 R).d 11 R).d 13 R).d 5 R).e 10 [4,3,2,1,0,7,8,9,5,6])) ?_))
 refine cP (fs:=[]) (cs:=[(pt j 0),(pt l 0),(pt m 0)]) 8 R R re R R (Z2z_ok q) R ?_
 rintro ⟨⟨u,T,B⟩,⟨L,U,O⟩⟩
 refine aM 0 aA ?_
 rintro rfl
 refine aM 1 aC ?_
 rintro rfl
 refine aB (aG (fun w s=>(s.f 7 [5,2,2,3])) (dR 7 R (vT R) (hS:=(fun w s=>(s.f 7 [5,2,2,3]))) (dR 8 R (vS R) (hS:=(fun w s=>(s.f 7 [5,2,2,3]))) (dR 9 R (vS R) (hS:=(fun w s=>(s.f 7 [5,2,2,3]))) (dR 10 R (vB R) (hS:=(fun w s=>(s.f 7 [5,2,2,3]))) (dR 11 R (vS R) (hS:=(fun w s=>(s.f 7 [5,2,2,3]))) (dR 12 R (vS R) (hS:=(fun w s=>(s.f 7 [5,2,2,3]))) (dR 13 R (vB R) (hS:=(fun w s=>(s.f 7 [5,2,2,3]))) (dD ?_)))))))))
 refine dH ?_
 cases i
 exact ka (u,I.1.length,B) (tE 14 [0,2,3,4])
theorem lT  {r:kindOfR}{a:Node}{B:(List (List Int))}{g h1 h2:Nat}{l A2 A3 A4 A5:Option Addr}{u m N2 D2 N3 D3 N4 D4 N5 D5:Nat}{mG:Int}{q:(List Int)×Bool}(b:bU r a B=some q) :
 InvOk Tryz.prog (dG r (g,h1,h2)) "loop.example/g00033/impl.shape" [(.agg [(iv a.Op),(.slice l u m),(.slice A2 N2 D2),(.slice A3 N3 D3),(aH a.Form),(.slice A4 N4 D4)].toArray),(.slice A5 N5 D5)] [fJ r (g,h1,h2),aO kT3 (.slice l u m) a.Args,aO kT3 (.slice A2 N2 D2) a.Dims,aO kT3 (.slice A3 N3 D3) a.Ints,aO kT3 (.slice A4 N4 D4) a.Data,aO kT23 (.slice A5 N5 D5) B,gl 0 mG] (fun (h:HH)=>((.tuple [(s3 h),(.bool q.2)].toArray),[aO kT3 (s3 h) q.1,fJ r (g,h1,h2)])):=by
 unfold bU at b
 rcases bY b with ⟨Z,b⟩|⟨Z,b⟩
 ·cases b
 rcases bY b with ⟨G,b⟩|⟨G,b⟩
 ·obtain ⟨t,D,i,j,F⟩:=r
  obtain rfl:=Nat.eq_of_beq_eq_true G
  exact InvOk.mk (pm _) (((Z1q_ok b).perm (Pre':=[pk [],aO kT3 (.slice l u m) a.Args,aO kT3 (.slice A2 N2 D2) a.Dims,aO kT3 (.slice A3 N3 D3) a.Ints,aO kT3 (.slice A4 N4 D4) a.Data,aO kT23 (.slice A5 N5 D5) B,gl 0 mG]) (fun _ _ _ s=>(St.unpack (A:=[]) s).e 6 [0,1,2,3,4])).post id (fun _=>rfl) (fun _ _ _ _ s=>(St.pack (A:=[]) (s)).e 2 [1,0]))
 rcases bY b with ⟨I,b⟩|⟨I,b⟩
 ·obtain ⟨t,D,i,j,F⟩:=r
  obtain rfl:=Nat.eq_of_beq_eq_true I
  exact InvOk.mk (pn _) (((Z2a_ok b).perm (Pre':=[pk [],aO kT3 (.slice l u m) a.Args,aO kT3 (.slice A2 N2 D2) a.Dims,aO kT3 (.slice A3 N3 D3) a.Ints,aO kT3 (.slice A4 N4 D4) a.Data,aO kT23 (.slice A5 N5 D5) B,gl 0 mG]) (fun _ _ _ s=>(St.unpack (A:=[]) s).e 6 [0,1,2,3,4])).post id (fun _=>rfl) (fun _ _ _ _ s=>(St.pack (A:=[]) (s)).e 2 [1,0]))
 rcases bY b with ⟨J,b⟩|⟨J,b⟩
 ·obtain ⟨t,D,i,j,F⟩:=r
  obtain rfl:=Nat.eq_of_beq_eq_true J
  exact InvOk.mk (po _) (((Z33_ok b).perm (Pre':=[pk [],aO kT3 (.slice l u m) a.Args,aO kT3 (.slice A2 N2 D2) a.Dims,aO kT3 (.slice A3 N3 D3) a.Ints,aO kT3 (.slice A4 N4 D4) a.Data,aO kT23 (.slice A5 N5 D5) B,gl 0 mG]) (fun _ _ _ s=>(St.unpack (A:=[]) s).e 6 [0,1,2,3,4])).post id (fun _=>rfl) (fun _ _ _ _ s=>(St.pack (A:=[]) (s)).e 2 [1,0]))
 rcases bY b with ⟨L,b⟩|⟨L,b⟩
 ·obtain ⟨t,D,i,j,F⟩:=r
  obtain rfl:=Nat.eq_of_beq_eq_true L
  exact InvOk.mk (pq _) (((Z23_ok (k1:=⟨⟩) b).perm (Pre':=[pk [],aO kT3 (.slice l u m) a.Args,aO kT3 (.slice A2 N2 D2) a.Dims,aO kT3 (.slice A3 N3 D3) a.Ints,aO kT3 (.slice A4 N4 D4) a.Data,aO kT23 (.slice A5 N5 D5) B,gl 0 mG]) (fun _ _ _ s=>(St.unpack (A:=[]) s).e 6 [0,1,2,3,4])).post id (fun _=>rfl) (fun _ _ _ _ s=>(St.pack (A:=[]) (s)).e 2 [1,0]))
 rcases bY b with ⟨M,b⟩|⟨M,b⟩
 ·obtain ⟨t,D,i,j,F⟩:=r
  obtain rfl:=Nat.eq_of_beq_eq_true M
  exact InvOk.mk (pu _) (((Z32_ok (k1:=⟨⟩) b).perm (Pre':=[pk [],aO kT3 (.slice l u m) a.Args,aO kT3 (.slice A2 N2 D2) a.Dims,aO kT3 (.slice A3 N3 D3) a.Ints,aO kT3 (.slice A4 N4 D4) a.Data,aO kT23 (.slice A5 N5 D5) B,gl 0 mG]) (fun _ _ _ s=>St.unpack (A:=[]) s)).post id (fun _=>rfl) (fun _ _ _ _ s=>(St.pack (A:=[]) ((s).shr 0 R)).e 2 [1,0]))
 rcases bY b with ⟨O,b⟩|⟨O,b⟩
 ·obtain ⟨t,D,i,j,F⟩:=r
  obtain rfl:=Nat.eq_of_beq_eq_true O
  exact InvOk.mk (hB _) (((Z1y_ok b).perm (Pre':=[pk [],aO kT3 (.slice l u m) a.Args,aO kT3 (.slice A2 N2 D2) a.Dims,aO kT3 (.slice A3 N3 D3) a.Ints,aO kT3 (.slice A4 N4 D4) a.Data,aO kT23 (.slice A5 N5 D5) B,gl 0 mG]) (fun _ _ _ s=>(St.unpack (A:=[]) s).e 6 [0,1,2,3,4])).post id (fun _=>rfl) (fun _ _ _ _ s=>(St.pack (A:=[]) (s)).e 2 [1,0]))
 rcases bY b with ⟨T,b⟩|⟨T,b⟩
 ·obtain ⟨t,D,i,j,F⟩:=r
  obtain rfl:=Nat.eq_of_beq_eq_true T
  exact InvOk.mk (hB _) (((Z2b_ok b).perm (Pre':=[pk [],aO kT3 (.slice l u m) a.Args,aO kT3 (.slice A2 N2 D2) a.Dims,aO kT3 (.slice A3 N3 D3) a.Ints,aO kT3 (.slice A4 N4 D4) a.Data,aO kT23 (.slice A5 N5 D5) B,gl 0 mG]) (fun _ _ _ s=>(St.unpack (A:=[]) s).e 6 [0,1,2,3,4])).post id (fun _=>rfl) (fun _ _ _ _ s=>(St.pack (A:=[]) (s)).e 2 [1,0]))
 rcases bY b with ⟨U,b⟩|⟨U,b⟩
 ·obtain ⟨t,D,i,j,F⟩:=r
  obtain rfl:=Nat.eq_of_beq_eq_true U
  exact InvOk.mk (hB _) (((Z1u_ok b).perm (Pre':=[pk [aJ g [(iv i)] 3,aJ h1 [(iv j)] 3,aJ h2 [(.func (.func 107) [].toArray [].toArray)] 136],aO kT3 (.slice l u m) a.Args,aO kT3 (.slice A2 N2 D2) a.Dims,aO kT3 (.slice A3 N3 D3) a.Ints,aO kT3 (.slice A4 N4 D4) a.Data,aO kT23 (.slice A5 N5 D5) B,gl 0 mG]) (fun _ _ _ s=>(St.unpack (A:=[aJ g [(iv i)] 3,aJ h1 [(iv j)] 3,aJ h2 [(.func (.func 107) [].toArray [].toArray)] 136]) s).e 9 [0,1,2,3,4,5,6,7])).post id (fun _=>rfl) (fun _ _ _ _ s=>(St.pack (A:=[aJ g [(iv i)] 3,aJ h1 [(iv j)] 3,aJ h2 [(.func (.func 107) [].toArray [].toArray)] 136]) (((s).shr 0 R).e 4 [1,2,3,0])).e 2 [1,0]))
 rcases bY b with ⟨Y,b⟩|⟨Y,b⟩
 ·obtain ⟨t,D,i,j,F⟩:=r
  obtain rfl:=Nat.eq_of_beq_eq_true Y
  exact InvOk.mk (hB _) (((Z1v_ok b).perm (Pre':=[pk [aJ g [(iv i)] 3,aJ h1 [(iv j)] 3,aJ h2 [(.func (.func 109) [].toArray [].toArray)] 136],aO kT3 (.slice l u m) a.Args,aO kT3 (.slice A2 N2 D2) a.Dims,aO kT3 (.slice A3 N3 D3) a.Ints,aO kT3 (.slice A4 N4 D4) a.Data,aO kT23 (.slice A5 N5 D5) B,gl 0 mG]) (fun _ _ _ s=>(St.unpack (A:=[aJ g [(iv i)] 3,aJ h1 [(iv j)] 3,aJ h2 [(.func (.func 109) [].toArray [].toArray)] 136]) s).e 9 [0,1,2,3,4,5,6,7])).post id (fun _=>rfl) (fun _ _ _ _ s=>(St.pack (A:=[aJ g [(iv i)] 3,aJ h1 [(iv j)] 3,aJ h2 [(.func (.func 109) [].toArray [].toArray)] 136]) (((s).shr 0 R).e 4 [1,2,3,0])).e 2 [1,0]))
 rcases bY b with ⟨E,b⟩|⟨E,b⟩
 ·obtain ⟨t,D,i,j,F⟩:=r
  obtain rfl:=Nat.eq_of_beq_eq_true E
  exact InvOk.mk (hB _) (((Z1w_ok b).perm (Pre':=[pk [aJ g [(iv i)] 3,aJ h1 [(iv j)] 3,aJ h2 [(.func (.func 111) [].toArray [].toArray)] 136],aO kT3 (.slice l u m) a.Args,aO kT3 (.slice A2 N2 D2) a.Dims,aO kT3 (.slice A3 N3 D3) a.Ints,aO kT3 (.slice A4 N4 D4) a.Data,aO kT23 (.slice A5 N5 D5) B,gl 0 mG]) (fun _ _ _ s=>(St.unpack (A:=[aJ g [(iv i)] 3,aJ h1 [(iv j)] 3,aJ h2 [(.func (.func 111) [].toArray [].toArray)] 136]) s).e 9 [0,1,2,3,4,5,6,7])).post id (fun _=>rfl) (fun _ _ _ _ s=>(St.pack (A:=[aJ g [(iv i)] 3,aJ h1 [(iv j)] 3,aJ h2 [(.func (.func 111) [].toArray [].toArray)] 136]) (((s).shr 0 R).e 4 [1,2,3,0])).e 2 [1,0]))
 have hV:dG r (g,h1,h2)=(.iface 131 (.agg [(aH r.s0),(.func (.func 143) [].toArray [(pt g 0),(pt h1 0),(pt h2 0)].toArray)].toArray)):=by simp only [dG,Z,G,I,J,L,M,O,T,U,Y,E,cond_false]
 have hE:fJ r (g,h1,h2)=pk [aJ g [(iv r.i0)] 3,aJ h1 [(iv r.i1)] 3,aJ h2 [(.func (.func 113) [].toArray [].toArray)] 136]:=by simp only [fJ,Z,G,I,J,L,M,O,T,U,Y,E,cond_false]
 rw [hV,hE]
 exact InvOk.mk (hB _) (((Z1x_ok b).perm (Pre':=[pk [aJ g [(iv r.i0)] 3,aJ h1 [(iv r.i1)] 3,aJ h2 [(.func (.func 113) [].toArray [].toArray)] 136],aO kT3 (.slice l u m) a.Args,aO kT3 (.slice A2 N2 D2) a.Dims,aO kT3 (.slice A3 N3 D3) a.Ints,aO kT3 (.slice A4 N4 D4) a.Data,aO kT23 (.slice A5 N5 D5) B,gl 0 mG]) (fun _ _ _ s=>(St.unpack (A:=[aJ g [(iv r.i0)] 3,aJ h1 [(iv r.i1)] 3,aJ h2 [(.func (.func 113) [].toArray [].toArray)] 136]) s).e 9 [0,1,2,3,4,5,6,7])).post id (fun _=>rfl) (fun _ _ _ _ s=>(St.pack (A:=[aJ g [(iv r.i0)] 3,aJ h1 [(iv r.i1)] 3,aJ h2 [(.func (.func 113) [].toArray [].toArray)] 136]) ((s).e 4 [1,2,3,0])).e 2 [1,0]))
theorem Zi_ok  {i:Node}{b:(List (List Int))}{mG:Int}{r:(List Int)×Bool}(l:Zi i b=some r) :
 FnOk Tryz.prog 63 [(.agg [(iv i.Op),(.slice A2 N2 D2),(.slice A3 N3 D3),(.slice A4 N4 D4),(aH i.Form),(.slice A5 N5 D5)].toArray),(.slice A7 N7 D7)] [aO kT3 (.slice A2 N2 D2) i.Args,aO kT3 (.slice A3 N3 D3) i.Dims,aO kT3 (.slice A4 N4 D4) i.Ints,aO kT3 (.slice A5 N5 D5) i.Data,ow (kT23).share 23 (.slice A7 N7 D7) b,gl 0 mG] (fun (h:HH)=>((.tuple [(s3 h),(.bool r.2)].toArray),[aO kT3 (s3 h) r.1,ow (kT23).share 23 (.slice A7 N7 D7) b])):=by
 unfold Zi at l
 refine aR Tryz.func63 R 58 R R fun C V=>?_
 refine cM _ (tE 6 [4,0,1,2,3,5]) ?_
 refine cL 0 cV ?_
 rintro rfl
 refine cL 1 aA ?_
 rintro rfl
 refine cL 2 aA ?_
 rintro rfl
 refine cL 3 aA ?_
 rintro rfl
 refine cL 4 aA ?_
 rintro rfl
 let W0:=RR kT3 A2 D2 i.Args::RR kT3 A3 D3 i.Dims::RR kT3 A4 D4 i.Ints::RR kT3 A5 D5 i.Data::gl 0 mG::V
 refine bA ?_
 refine eJ R fun b8=>?_
 refine aW ?_
 refine qM _ (tE 2 [1,0]) ?_
 let W1:=aJ b8 [(iv i.Op),(sc A2 i.Args D2),(sc A3 i.Dims D3),(sc A4 i.Ints D4),(aH i.Form),(sc A5 i.Data D5)] 65::W0
 refine bA ?_
 obtain ⟨D,a8,l⟩:=bd l
 refine aW ?_
 refine lC 0 BT R (Zx_ok a8) R ?_
 rintro ⟨q,u,B⟩
 refine lO (vp _ R) ?_
 refine bL ?_
 obtain ⟨aw,J,l⟩:=bd l
 obtain ⟨aa,L,l⟩:=bd l
 refine cQ [(1,(sc A7 b D7)),(2,(pt b8 0)),(6,(dG D (q,u,B))),(27,(.bool (((Nat.beq D.t 0)||(!aa))||(decide ((i.Args.length:Int)>6)))))] (OO (kT23).share 23 A7 D7 b::fJ D (q,u,B)::W1) ?_ ?_
 rcases bo (Nat.beq D.t 0) with j | j
 refine dE 15 [] bQ fun ht G=>?_
 refine dR 0 R (vp _ R) (dR 1 R (vz (.bool (Nat.beq D.t 0)) (nc R)) ?_)
 refine mY 2 [] ?_
 refine dD ?_
 exact qj (tE 2 [1,0])
 rcases bo ((Nat.beq D.t 0)||(!aa)) with a2 | a2
 refine dE 15 [] bQ fun ht G=>?_
 refine dR 0 R (vp _ R) (dR 1 R (vz (.bool (Nat.beq D.t 0)) (nc R)) ?_)
 refine iC 2 [] ?_
 refine dW 4 R (cG j) (vp _ R) (d1 5 R (sW 1 (cG j) R R (jY (bR J (cY j))) R ?_))
 rintro _
 refine aB (aG (sL []) (d1 6 R (lM _ (fun w s=>((((((s.d 3 R).d 5 R).d 7 R).d 9 R).dg 11 R).e 7 [4,3,2,1,0,5,6])) ?_)))
 refine cD 5 R (cG j) zX R (Z22_ok (bR L (cY j))) R ?_
 rintro _
 refine aB (aG (sL []) ?_)
 refine v6 7 [] ?_
 refine dD ?_
 exact qj (tE 2 [1,0])
 refine dE 15 [] bQ fun ht G=>?_
 refine dR 0 R (vp _ R) (dR 1 R (vz (.bool (Nat.beq D.t 0)) (nc R)) ?_)
 refine iC 2 [] ?_
 refine dW 4 R (cG j) (vp _ R) (d1 5 R (sW 1 (cG j) R R (jY (bR J (cY j))) R ?_))
 rintro _
 refine aB (aG (sL []) (d1 6 R (lM _ (fun w s=>((((((s.d 3 R).d 5 R).d 7 R).d 9 R).dg 11 R).e 7 [4,3,2,1,0,5,6])) ?_)))
 refine cD 5 R (cG j) zX R (Z22_ok (bR L (cY j))) R ?_
 rintro _
 refine aB (aG (sL []) ?_)
 refine v6 7 [] ?_
 refine dD ?_
 exact qj (tE 2 [1,0])
 rintro σ1
 refine cE ?_
 split at l
 refine dJ ?_
 cases l
 exact ka (none,0,0) (fun w s=>((s.nilr kT3).e 9 [0,1]))
 refine cU ?_
 refine bK (K:=kT23) (xs:=([]:List (List Int))) (vs:=[]) 0 R R jp eX kO R R R R R R ?_ R (fun ab ae=>?_)
 exact fun I h s=>(mZ).list [] I h s
 refine bL ?_
 refine bD (A:=((List (List Int)))×(HH)) (fun a=>Zi_J1 i D a.1=some r) (fun a=>[(2,(pt b8 0)),(6,(dG D (q,u,B))),(7,(s3 a.2))]) (fun a=>fJ D (q,u,B)::ow (kT23).share 23 (s3 a.2) a.1::OO (kT23).share 23 A7 D7 b::W1) ?_ ?_
 refine dJ ?_
 obtain ⟨e1,ak,a7⟩:=bd l
 refine bE (A:=HH×HH) ak (fun s a=>[(1,(sc A7 b D7)),(2,(pt b8 0)),(6,(dG D (q,u,B))),(7,(s3 a.1)),(30,(s3 a.2)),(31,(il i.Args)),(32,(iv s.2))]) (fun s a=>OO (kT23).share 23 A7 D7 b::fJ D (q,u,B)::ow (kT23).share 23 (s3 a.1) s.1::aO kT3 (s3 a.2) i.Args::W1) ((ab,([]:List (List Int)).length,ae),(A2,i.Args.length,D2)) (aS R) (fun w s=>(((s.wk 0 R).d 4 R).e 4 [2,3,1,0])) ?_
 rintro ⟨g,m⟩ ⟨⟨M,ah,O⟩,⟨an,ai,T⟩⟩ σ1 am l a4
 dsimp only [Zi_L1] at l
 refine bJ 2 cV (fun (G:ah=g.length)=>?_)
 subst G
 refine bJ 3 aA (fun (G:ai=i.Args.length)=>?_)
 subst G
 refine cH ?_
 split at l
 refine cH ?_
 obtain ⟨a5,l⟩:=gd l
 refine aD (bC 3 aA (show 0<i.Args.length by have:=a5; omega) (fun U o42 ha=>?_))
 subst ha
 refine dX ?_
 refine cQ [(1,(sc A7 b D7)),(2,(pt b8 0)),(6,(dG D (q,u,B))),(7,(sc M g O)),(9,(iv (ix i.Args m))),(30,(sc (ad U o42) i.Args T)),(31,(il i.Args)),(32,(iv m)),(43,(.bool ((decide ((ix i.Args m)<0))||(decide ((ix i.Args m)≥(b.length:Int))))))] (OO (kT23).share 23 A7 D7 b::fJ D (q,u,B)::OO (kT23).share 23 M O g::RR kT3 (ad U o42) T i.Args::W1) ?_ ?_
 refine bL ?_
 rcases bo (decide ((ix i.Args m)<0)) with a3 | a3
 refine cH ?_
 exact qj tI
 refine cH ?_
 exact qj tI
 rintro σ1
 refine cE ?_
 split at l
 refine j9 ?_
 cases l
 obtain rfl:=a4 _ R
 have l:=a7
 refine aW ?_
 cases l
 exact ka (none,0,0) (fun w s=>((s.nilr kT3).e 11 [0,1]))
 refine aW ?_
 obtain ⟨E,l⟩:=gd l
 obtain ⟨a6,l⟩:=gd l
 refine bL ?_
 refine bC 0 cV (show 0<b.length by have:=E; omega) (fun av o47 ha=>?_)
 subst ha
 refine cE ?_
 refine kL (K:=(kT23).share) (fo:=0) 0 (ix i.Args m) R R bZ dT23.own (fun _ _=>R) R R E.1 E.2 ?_
 rintro ⟨Y,a0⟩
 refine lM _ (fun w s=>(s.d 0 R)) ?_
 refine bK (K:=(kT23).share) (xs:=([(ix b (ix i.Args m))]:List (List Int))) (vs:=[(sc Y (ix b (ix i.Args m)) a0)]) 1 R R jp eX kO R R R R R R ?_ R (fun ao aq=>?_)
 exact fun I h s=>(nD).list [((sc Y (ix b (ix i.Args m)) a0),(ix b (ix i.Args m)))] I h s
 refine lM _ (tE 6 [4,0,1,2,3,5]) ?_
 refine dV (K:=(kT23).share) 5864062014805 R R jp eX tj (Zr.zk (Zr.share zT23) kO) R R R R R R dA a6 (fun Z a1=>(lN (OO (kT23).share 23 Z a1 (g++([(ix b (ix i.Args m))]:List (List Int)))::_::_::_::_::W1) ?_))
 refine dM ?_
 cases l
 exact qA ((Z,(g++([(ix b (ix i.Args m))]:List (List Int))).length,a1),((ad U o42),i.Args.length,T)) (tE 5 [2,3,0,4])
 refine aW ?_
 cases l
 obtain rfl:=a4 _ R
 have l:=a7
 refine bA ?_
 exact qI (g,(M,g.length,O)) l (tE 4 [1,2,0])
 rintro ⟨F,⟨ap,aj,ar⟩⟩ σ1 l
 dsimp only [Zi_J1] at l
 refine bJ 1 cV (fun (G:aj=F.length)=>?_)
 subst G
 refine cE ?_
 obtain ⟨al,a9,l⟩:=bd l
 refine aD (lO (vp _ R) ?_)
 refine bA ?_
 refine fS (fun w s=>s.shs 1 R) (lM _ (fun w s=>(((((((s.d 4 R).d 6 R).d 8 R).d 10 R).d 4 R).dg 13 R).e 9 [7,5,4,3,2,1,0,6,8])) ?_)
 refine sW 7 R R R (lT a9) R ?_
 rintro ⟨ac,au,ag⟩
 refine aM 0 aA ?_
 rintro rfl
 refine dX ?_
 cases l
 exact ka (ac,al.1.length,ag) (tE 10 [0,3])
theorem Zh_ok  {g1:Graph}{mG:Int}{r:(List (List Int))×Bool}(b:Zh g1=some r) :
 FnOk Tryz.prog 30 [(.agg [(.slice A2 N2 D2),(.slice A3 N3 D3)].toArray)] [aO kT65 (.slice A2 N2 D2) g1.Nodes,aO kT3 (.slice A3 N3 D3) g1.Outs,gl 0 mG] (fun (h:HH)=>((.tuple [(s3 h),(.bool r.2)].toArray),[ow (kT23).share 23 (s3 h) r.1])):=by
 unfold Zh at b
 refine aR Tryz.func30 R 60 R R fun C V=>?_
 refine cL 0 aA ?_
 rintro rfl
 refine cL 1 aA ?_
 rintro rfl
 let W0:=RR kT65 A2 D2 g1.Nodes::RR kT3 A3 D3 g1.Outs::gl 0 mG::V
 refine cN W0 ?_
 refine bA ?_
 refine eJ R fun G=>?_
 refine aW ?_
 let B:=aJ G [(sc A2 g1.Nodes D2),(sc A3 g1.Outs D3)] 31::W0
 refine qN B ?_
 refine aW ?_
 refine cQ [(1,(pt G 0)),(20,(.bool ((decide ((g1.Nodes.length:Int)>200))||(decide ((g1.Outs.length:Int)>40)))))] (B) ?_ ?_
 refine cH ?_
 rcases bo (decide ((g1.Nodes.length:Int)>200)) with ak | ak
 refine cH ?_
 exact qj tI
 refine cH ?_
 exact qj tI
 rintro σ1
 refine cE ?_
 split at b
 refine dJ ?_
 cases b
 exact ka (none,0,0) (fun w s=>((s.nilo (kT23).share 23).e 5 [0]))
 refine cU ?_
 refine bK (K:=kT23) (xs:=([]:List (List Int))) (vs:=[]) 0 R R jp eX kO R R R R R R ?_ R (fun A7 D7=>?_)
 exact fun I h s=>(mZ).list [] I h s
 refine bL ?_
 refine bD (A:=((List (List Int)))×(HH)) (fun a=>Zh_J1 g1 a.1=some r) (fun a=>[(1,(pt G 0)),(4,(s3 a.2))]) (fun a=>ow (kT23).share 23 (s3 a.2) a.1::B) ?_ ?_
 refine dJ ?_
 obtain ⟨e1,al,a9⟩:=bd b
 refine bE (A:=HH) al (fun s a=>[(1,(pt G 0)),(4,(s3 a)),(23,(sc A2 g1.Nodes D2)),(24,(il g1.Nodes)),(25,(iv s.2))]) (fun s a=>ow (kT23).share 23 (s3 a) s.1::B) (A7,([]:List (List Int)).length,D7) (aS R) (fun w s=>(s.wk 0 R)) ?_
 rintro ⟨u,g⟩ ⟨ac,ag,ae⟩ σ1 an b a5
 dsimp only [Zh_L1] at b
 refine bJ 0 cV (fun (hn:ag=u.length)=>?_)
 subst hn
 refine cH ?_
 split at b
 refine cH ?_
 obtain ⟨q,b⟩:=gd b
 refine aD (bC 2 aA (show 0<g1.Nodes.length by have:=q; omega) (fun av o30 ha=>?_))
 subst ha
 refine cE ?_
 refine gO (K:=kT65) 2 g dT65.dec R q.1 q.2 ?_
 rintro ⟨-,⟨J,Y⟩,⟨L,Z⟩,⟨M,a0⟩,-,⟨O,a1⟩⟩
 refine lO (vz (.agg [(iv (ix g1.Nodes g).Op),(sc J ((ix g1.Nodes g).Args) Y),(sc L ((ix g1.Nodes g).Dims) Z),(sc M ((ix g1.Nodes g).Ints) a0),(aH (ix g1.Nodes g).Form),(sc O ((ix g1.Nodes g).Data) a1)].toArray) (eF (fo:=0) 0 kC eN R R R R)) (aY R R jC (fun aj=>(aL 0 R R eN R R R R R R (lN (aJ aj [(iv (ix g1.Nodes g).Op),(sc J ((ix g1.Nodes g).Args) Y),(sc L ((ix g1.Nodes g).Dims) Z),(sc M ((ix g1.Nodes g).Ints) a0),(aH (ix g1.Nodes g).Form),(sc O ((ix g1.Nodes g).Data) a1)] 65::_::_::_::_::_::_::B) ?_))))
 refine aW ?_
 obtain ⟨m,ab,b⟩:=bd b
 refine aW ?_
 refine lM _ (fun w s=>((((((s.d 2 R).d 4 R).d 6 R).d 8 R).dg 14 R).e 12 [4,3,2,1,11,0,5,6,7,8,9,10])) ?_
 refine lC 6 BY R (Zi_ok ab) R ?_
 rintro ⟨T,au,a2⟩
 refine aM 0 aA ?_
 rintro rfl
 refine lO (vT R) ?_
 refine lL ?_
 split at b
 refine j9 ?_
 cases b
 obtain rfl:=a5 _ R
 have b:=a9
 refine aW ?_
 cases b
 exact ka (none,0,0) (fun w s=>((s.nilo (kT23).share 23).e 13 [0]))
 refine aW ?_
 obtain ⟨a7,b⟩:=gd b
 refine aW ?_
 refine lM _ (fun w s=>(s.d 0 R)) ?_
 refine bK (K:=(kT23).share) (xs:=([m.1]:List (List Int))) (vs:=[(sc T m.1 a2)]) 1 R R jp eX kO R R R R R R ?_ R (fun ap ar=>?_)
 exact fun I h s=>(nD).list [((sc T m.1 a2),m.1)] I h s
 refine lM _ (fun w s=>(s.f 9 [2,1,0,2,3,6])) ?_
 refine dV (K:=(kT23).share) 5864062014805 R R jp eX tj (Zr.zk (Zr.share zT23) kO) R R R R R R dA a7 (fun U a3=>(lN (OO (kT23).share 23 U a3 (u++([m.1]:List (List Int)))::_::_::_::_::_::_::_::B) ?_))
 refine dM ?_
 cases b
 exact qA (U,(u++([m.1]:List (List Int))).length,a3) (tE 8 [0])
 refine aW ?_
 cases b
 obtain rfl:=a5 _ R
 have b:=a9
 refine bA ?_
 exact qI (u,(ac,u.length,ae)) b tI
 rintro ⟨i,⟨j,ah,l⟩⟩ σ1 b
 dsimp only [Zh_J1] at b
 refine bJ 0 cV (fun (hn:ah=i.length)=>?_)
 subst hn
 refine aI (bD (A:=(Unit)×(Unit)) (fun a=>Zh_J2 i=some r) (fun a=>[(4,(sc j i l))]) (fun a=>OO (kT23).share 23 j l i::B) ?_ ?_)
 refine dJ ?_
 obtain ⟨e2,am,aa⟩:=bd b
 refine bE (A:=HH) am (fun s a=>[(1,(pt G 0)),(4,(sc j i l)),(43,(s3 a)),(44,(il g1.Outs)),(45,(iv s))]) (fun s a=>OO (kT23).share 23 j l i::aO kT3 (s3 a) g1.Outs::B) (A3,g1.Outs.length,D3) (aS R) (fun w s=>((s.d 3 R).e 2 [1,0])) ?_
 rintro D ⟨aq,ai,E⟩ σ1 ao b a6
 dsimp only [Zh_L2] at b
 refine bJ 1 aA (fun (hn:ai=g1.Outs.length)=>?_)
 subst hn
 refine cH ?_
 split at b
 refine cH ?_
 obtain ⟨a8,b⟩:=gd b
 refine aD (bC 1 aA (show 0<g1.Outs.length by have:=a8; omega) (fun F o59 ha=>?_))
 subst ha
 refine cH ?_
 refine cQ [(1,(pt G 0)),(4,(sc j i l)),(43,(sc (ad F o59) g1.Outs E)),(44,(il g1.Outs)),(45,(iv D)),(57,(.bool ((decide ((ix g1.Outs D)<0))||(decide ((ix g1.Outs D)≥(g1.Nodes.length:Int))))))] (OO (kT23).share 23 j l i::RR kT3 (ad F o59) E g1.Outs::B) ?_ ?_
 refine bL ?_
 rcases bo (decide ((ix g1.Outs D)<0)) with a4 | a4
 refine dX ?_
 exact qj tI
 refine dX ?_
 exact qj tI
 rintro σ1
 refine cE ?_
 split at b
 refine dH ?_
 cases b
 obtain rfl:=a6 _ R
 have b:=aa
 refine aW ?_
 cases b
 exact ka (none,0,0) (fun w s=>((s.nilo (kT23).share 23).e 7 [0]))
 refine dM ?_
 cases b
 exact qA ((ad F o59),g1.Outs.length,E) tI
 refine aW ?_
 cases b
 obtain rfl:=a6 _ R
 have b:=aa
 refine bA ?_
 exact qI ((),()) b (tE 2 [0])
 rintro ⟨_,_⟩ σ1 b
 dsimp only [Zh_J2] at b
 refine dM ?_
 cases b
 exact ka (j,i.length,l) (tE 5 [0])
theorem Z06_ok  {g1:Graph}{r:(List Int)}(g:Z06 g1=some r) :
 FnOk Tryz.prog 49 [(.agg [(.slice A2 N2 D2),(.slice A3 N3 D3)].toArray)] [aO kT65 (.slice A2 N2 D2) g1.Nodes,aO kT3 (.slice A3 N3 D3) g1.Outs] (fun (h:HH)=>((.slice h.1 h.2.1 h.2.2),[ow kT3 3 (.slice h.1 h.2.1 h.2.2) r])):=by
 unfold Z06 at g
 refine aR Tryz.func49 R 24 R R fun C V=>?_
 refine cN (_::_::V) ?_
 refine cL 0 aA ?_
 rintro rfl
 refine cL 1 aA ?_
 rintro rfl
 let W0:List HP:=RR kT65 A2 D2 g1.Nodes::RR kT3 A3 D3 g1.Outs::V
 refine cN W0 ?_
 refine aI (aD (eJ R (fun b4=>(lS R (aB ?_)))))
 let u:List HP:=aJ b4 [(sc A2 g1.Nodes D2),(sc A3 g1.Outs D3)] 31::W0
 refine qN u ?_
 refine aE (aI (aD (bK (K:=kT3) (xs:=([]:List Int)) (vs:=[]) 0 R R bI cI gB R R R R R R ?_ R (fun A5 D5=>?_))))
 exact fun I h s=>(gF).list [] I h s
 refine lN (OO kT3 3 A5 D5 ([]:List Int)::u) ?_
 refine lS R (aB (aE (aI (bD (A:=((List Int))×(HH)) (fun a=>Z06_J3 a.1=some r) (fun a=>[(3,(.slice a.2.1 a.2.2.1 a.2.2.2))]) (fun a=>ow kT3 3 (.slice a.2.1 a.2.2.1 a.2.2.2) a.1::u) ?_ ?_))))
 refine aI (aD (lO (eC 0 fI R) (lO (eH 1 kh R R R) (lO (eT gQ R) (lI R (aB (aE (cB ?_))))))))
 obtain ⟨e1,ah,ag⟩:=bd g
 refine bE (A:=HH) ah (fun s a=>[(3,(.slice a.1 a.2.1 a.2.2)),(8,(sc A2 g1.Nodes D2)),(9,(il g1.Nodes)),(10,(iv s.2))]) (fun s a=>ow kT3 3 (.slice a.1 a.2.1 a.2.2) s.1::u) (A5,([]:List Int).length,D5) (aS R) (fun w s=>s) ?_
 rintro ⟨i,b⟩ ⟨O,a8,T⟩ σ1 q g ae
 replace g:Z06_L1 g1 i b=some q:=g
 unfold Z06_L1 at g
 refine bJ 0 aC (fun (hn:a8=i.length)=>?_)
 subst hn
 refine aI (aD (lO (jz R R) (aB (aE (aI ?_)))))
 rcases bY g with ⟨l,g⟩|⟨l,g⟩
 refine bM R l (bS (aE (aI (bD (A:=((List Int))×(HH)) (fun a=>Z06_J2 b a.1=some q) (fun a=>[(3,(.slice a.2.1 a.2.2.1 a.2.2.2)),(8,(sc A2 g1.Nodes D2)),(9,(il g1.Nodes)),(10,(iv b))]) (fun a=>ow kT3 3 (.slice a.2.1 a.2.2.1 a.2.2.2) a.1::u) ?_ ?_))))
 refine cB (aI ?_)
 obtain ⟨j,g⟩:=gd g
 refine aD (lI R (bC 2 aA (show 0<g1.Nodes.length by have:=j; omega) (fun ac o27 ha=>?_)))
 subst ha
 refine lO (eA gQ eN R R j) (gO (K:=kT65) 2 b dT65.dec R j.1 j.2 ?_)
 rintro ⟨-,⟨B,G⟩,⟨D,J⟩,⟨E,L⟩,-,⟨F,M⟩⟩
 refine lN (cl ac (o27+b.toNat*6) [(iv (ix g1.Nodes b).Op),(sc B ((ix g1.Nodes b).Args) G),(sc D ((ix g1.Nodes b).Dims) J),(sc E ((ix g1.Nodes b).Ints) L),(aH (ix g1.Nodes b).Form),(sc F ((ix g1.Nodes b).Data) M)]::RR kT3 B G ((ix g1.Nodes b).Args)::RR kT3 D J ((ix g1.Nodes b).Dims)::RR kT3 E L ((ix g1.Nodes b).Ints)::RR kT3 F M ((ix g1.Nodes b).Data)::OO kT3 3 O T i::u) ?_
 refine lO (vz (.agg [(iv (ix g1.Nodes b).Op),(sc B ((ix g1.Nodes b).Args) G),(sc D ((ix g1.Nodes b).Dims) J),(sc E ((ix g1.Nodes b).Ints) L),(aH (ix g1.Nodes b).Form),(sc F ((ix g1.Nodes b).Data) M)].toArray) (eF (fo:=0) 0 kC eN R R R R)) (aY R R jC (fun ab=>(lI R (aL 0 R R eN R R R R R R (lN (aJ ab [(iv (ix g1.Nodes b).Op),(sc B ((ix g1.Nodes b).Args) G),(sc D ((ix g1.Nodes b).Dims) J),(sc E ((ix g1.Nodes b).Ints) L),(aH (ix g1.Nodes b).Form),(sc F ((ix g1.Nodes b).Data) M)] 65::_::_::_::_::_::_::u) ?_)))))
 refine aB (aE (aI (aD (lO (eC 0 gR R) (lO (eH 0 fC R R R) (lO (l8 R R) (aB (aE ?_))))))))
 rcases bY g with ⟨m,g⟩|⟨m,g⟩
 refine bM R m ?_
 obtain ⟨a1,g⟩:=gd g
 refine aD (lS R (lI R (bK (K:=kT3) (xs:=([b]:List Int)) (vs:=[(iv b)]) 0 R R bI cI gB R R R R R R ?_ R (fun a2 a5=>?_))))
 exact fun I h s=>(gF).list [((),b)] I h s
 refine lN (OO kT3 3 a2 a5 ([b]:List Int)::_::_::_::_::_::_::_::u) ?_
 refine lM (ow _ _ _ _::ow _ _ _ _::aJ _ _ _::cl _ _ _::aO _ _ _::aO _ _ _::aO _ _ _::aO _ _ _::u) (fun w s=>(s.f 8 [7,1,0,7])) ?_
 refine dV (K:=kT3) 17592186044416 R R bI cI jN (Zr.zk zT3 gB) R R R R R R dA a1 (fun Z a0=>(lN (OO kT3 3 Z a0 (i++([b]:List Int))::_::_::_::_::_::_::u) ?_))
 refine lS R (aB (cT ?_))
 exact qI ((i++([b]:List Int)),(Z,(i++([b]:List Int)).length,a0)) g (fun w s=>(s.e 7 [0]))
 refine aX R m (bS (cT ?_))
 exact qI (i,(O,i.length,T)) g (fun w s=>(s.e 7 [6]))
 rintro ⟨U,⟨a3,a9,a6⟩⟩ σ1 g
 replace g:Z06_J2 b U=some q:=g
 unfold Z06_J2 at g
 refine bJ 0 aC (fun (hn:a9=U.length)=>?_)
 subst hn
 refine aD (lO (jy R R) (lI R (aB ?_)))
 obtain rfl:=so g
 exact qA (a3,U.length,a6) (fun w s=>s)
 refine aX R l (eL (cR ?_))
 obtain rfl:=so g
 obtain rfl:=ae _ R
 have g:=ag
 refine cR (dU ?_)
 exact qI (i,(O,i.length,T)) g (fun w s=>s)
 rintro ⟨Y,⟨a4,aa,a7⟩⟩ σ1 g
 replace g:Z06_J3 Y=some r:=g
 unfold Z06_J3 at g
 refine bJ 0 aC (fun (hn:aa=Y.length)=>?_)
 subst hn
 refine aI (aD (lS R (lS R (aB (aE (bO ?_))))))
 obtain rfl:=so g
 exact qF (a4,Y.length,a7) (fun w s=>(s.e 4 [0]))
theorem Z24_ok  {a:Node}{r:Node}(E:Z24 a=some r) :
 FnOk Tryz.prog 50 [(.agg [(iv a.Op),(.slice A2 N2 D2),(.slice A3 N3 D3),(.slice A4 N4 D4),(aH a.Form),(.slice A5 N5 D5)].toArray)] [aO kT3 (.slice A2 N2 D2) a.Args,aO kT3 (.slice A3 N3 D3) a.Dims,aO kT3 (.slice A4 N4 D4) a.Ints,aO kT3 (.slice A5 N5 D5) a.Data] (fun (h:HH×HH×HH×HH)=>((.agg [(iv r.Op),(.slice h.1.1 h.1.2.1 h.1.2.2),(.slice h.2.1.1 h.2.1.2.1 h.2.1.2.2),(.slice h.2.2.1.1 h.2.2.1.2.1 h.2.2.1.2.2),(aH r.Form),(.slice h.2.2.2.1 h.2.2.2.2.1 h.2.2.2.2.2)].toArray),[ow kT3 3 (.slice h.1.1 h.1.2.1 h.1.2.2) r.Args,ow kT3 3 (.slice h.2.1.1 h.2.1.2.1 h.2.1.2.2) r.Dims,ow kT3 3 (.slice h.2.2.1.1 h.2.2.1.2.1 h.2.2.1.2.2) r.Ints,ow kT3 3 (.slice h.2.2.2.1 h.2.2.2.2.1 h.2.2.2.2.2) r.Data])):=by
 unfold Z24 at E
 refine aR Tryz.func50 R 20 R R fun C V=>?_
 refine cN (_::_::_::_::V) ?_
 refine cL 0 aA ?_
 rintro rfl
 refine cL 1 aA ?_
 rintro rfl
 refine cL 2 aA ?_
 rintro rfl
 refine cL 3 aA ?_
 rintro rfl
 let U:List HP:=RR kT3 A2 D2 a.Args::RR kT3 A3 D3 a.Dims::RR kT3 A4 D4 a.Ints::RR kT3 A5 D5 a.Data::V
 refine cN U ?_
 refine aI (aD (eJ R (fun Z=>(aY R R jC (fun Y=>(aB ?_))))))
 let D:List HP:=aJ Z [(iv a.Op),(sc A2 a.Args D2),(sc A3 a.Dims D3),(sc A4 a.Ints D4),(aH a.Form),(sc A5 a.Data D5)] 65::U
 refine qN (_::D) ?_
 refine aE (aI ?_)
 obtain ⟨J,T,E⟩:=bd E
 obtain ⟨q,F,E⟩:=bd E
 obtain ⟨u,G,E⟩:=bd E
 obtain ⟨B,I,E⟩:=bd E
 refine dE 18 [0] bQ (fun ht hn=>(dR 0 R (eC 0 gR R) (hS:=(sL [0])) (dR 1 R (eH 0 fC R R R) (hS:=(sL [0])) (dR 2 R (eC 1 jl R) (hS:=(sL [0])) (dR 3 R (eH 0 bZ R R R) (hS:=(sL [0])) (dR 5 R (eC 2 i' R) (hS:=(sL [0])) (dR 6 R (eH 0 bZ R R R) (hS:=(sL [0])) (dR 8 R (eC 3 gS R) (hS:=(sL [0])) (dR 9 R (eH 0 bZ R R R) (hS:=(sL [0])) (dR 11 R (eC 4 lQ R) (hS:=(sL [0])) (dR 12 R (eH 0 pI R R R) (hS:=(sL [0])) (dR 13 R (eC 5 kN R) (hS:=(sL [0])) (dR 14 R (eH 0 bZ R R R) (hS:=(sL [0])) (d1 4 R (lM (RR kT3 A2 D2 a.Args::_::D) (fun w s=>(s.d 2 R)) ?_)))))))))))))))
 refine lC 1 iQ R (Zc_ok T) R ?_
 rintro ⟨A10,N10,D10⟩
 refine lN (ow kT3 3 (.slice A10 N10 D10) J::_::D) ?_
 refine aM 0 aC ?_
 rintro rfl
 refine aB (aG (sL [1,0]) (d1 7 R (lM (RR kT3 A3 D3 a.Dims::_::_::D) (fun w s=>(s.d 4 R)) ?_)))
 refine lC 1 iQ R (Zc_ok F) R ?_
 rintro ⟨b,L,j⟩
 refine lN (ow kT3 3 (.slice b L j) q::_::_::D) ?_
 refine aM 0 aC ?_
 rintro rfl
 refine aB (aG (sL [2,1,0]) (d1 10 R (lM (RR kT3 A4 D4 a.Ints::_::_::_::D) (fun w s=>(s.d 6 R)) ?_)))
 refine lC 1 iQ R (Zc_ok G) R ?_
 rintro ⟨g,M,l⟩
 refine lN (ow kT3 3 (.slice g M l) u::_::_::_::D) ?_
 refine aM 0 aC ?_
 rintro rfl
 refine aB (aG (sL [3,2,1,0]) (d1 15 R (lM (RR kT3 A5 D5 a.Data::_::_::_::_::D) (fun w s=>(s.d 8 R)) ?_)))
 refine lC 1 iQ R (Zc_ok I) R ?_
 rintro ⟨i,O,m⟩
 refine lN (ow kT3 3 (.slice i O m) B::_::_::_::_::D) ?_
 refine aM 0 aC ?_
 rintro rfl
 refine aB (aG (sL [4,3,2,1,0]) (dR 16 R (vz (.agg [(iv a.Op),(sc A10 J D10),(sc b q j),(sc g u l),(aH a.Form),(sc i B m)].toArray) (aV zI jC R R)) (hS:=(sL [4,3,2,1,0])) (d1 17 R (aL 4 R R eN R R R R R R (lN (_::_::_::_::aJ Y [(iv a.Op),(sc A10 J D10),(sc b q j),(sc g u l),(aH a.Form),(sc i B m)] 65::D) ?_)))))
 refine aB (aG (sL [4,3,2,1,0]) (dD (aE (bO ?_))))
 obtain rfl:=so E
 exact cX (vs:=[(.agg [(iv a.Op),(sc A10 J D10),(sc b q j),(sc g u l),(aH a.Form),(sc i B m)].toArray)]) (.inl R) ((A10,J.length,D10),(b,q.length,j),(g,u.length,l),(i,B.length,m)) R ⟨⟨4,Y,_,_,R,R,.inl ⟨kC,eN,R⟩⟩,trivial⟩ R (fun w s=>(s.e 10 [3,2,1,0]))
theorem Z0q_ok  {b:(List Node)}{r:(List Node)}(i:Z0q b=some r) :
 FnOk Tryz.prog 74 [(.slice A2 N2 D2),(.func (.func 50) [].toArray [].toArray)] [aO kT65 (.slice A2 N2 D2) b] (fun (h:HH)=>((.slice h.1 h.2.1 h.2.2),[ow kT65 65 (.slice h.1 h.2.1 h.2.2) r])):=by
 unfold Z0q at i
 refine aR Tryz.func74 R 26 R R fun C V=>?_
 refine cN (_::V) ?_
 refine cL 0 aA ?_
 rintro rfl
 let T:List HP:=RR kT65 A2 D2 b::V
 refine cN T ?_
 refine aI (aD (lS R (aB (aE (aI ?_)))))
 obtain ⟨U,i⟩:=gd i
 refine aD (lS R (lO (eT gQ R) (fH (K:=kT65) (m:=(b.length:Int)) (z:=zT65.z) R R gQ eN tc (Zr.zk zT65 jC) (by decide) R R U.1 U.2.1 U.2.2 (fun A5 D5=>(lS R (aB (aE (aI (bD (A:=((List Node))×(Unit)) (fun a=>Z0q_J1 a.1=some r) (fun a=>[(5,(sc A5 (List.replicate (b.length:Int).toNat zT65.z) D5))]) (fun a=>ow kT65 65 (.slice A5 (List.replicate (b.length:Int).toNat zT65.z).length D5) a.1::T) ?_ ?_)))))))))
 refine aI (aD (lS R (lO (eT gQ R) (lI R (aB (aE (cB ?_)))))))
 obtain ⟨e1,aj,ai⟩:=bd i
 refine bE (A:=Unit) aj (fun s a=>[(1,(.func (.func 50) [].toArray [].toArray)),(5,(sc A5 (List.replicate (b.length:Int).toNat zT65.z) D5)),(11,(sc A2 b D2)),(12,(il b)),(13,(iv s.2))]) (fun s a=>ow kT65 65 (.slice A5 (List.replicate (b.length:Int).toNat zT65.z).length D5) s.1::T) () (aS R) (fun w s=>s) ?_
 rintro ⟨O,g⟩ _ σ1 a8 i ah
 replace i:Z0q_L1 b O g=some a8:=i
 unfold Z0q_L1 at i
 refine aI (aD (lO (jz R R) (aB (aE (aI ?_)))))
 rcases bY i with ⟨M,i⟩|⟨M,i⟩
 refine bM R M (bS (aE (aI (cB (aI ?_)))))
 obtain ⟨l,i⟩:=gd i
 refine aD (lI R (bC 1 aA (show 0<b.length by have:=l; omega) (fun ag o31 ha=>?_)))
 subst ha
 refine lO (eA gQ eN R R l) (gO (K:=kT65) 1 g dT65.dec R l.1 l.2 ?_)
 rintro ⟨-,⟨u,F⟩,⟨B,G⟩,⟨D,J⟩,-,⟨E,L⟩⟩
 refine lN (cl ag (o31+g.toNat*6) [(iv (ix b g).Op),(sc u ((ix b g).Args) F),(sc B ((ix b g).Dims) G),(sc D ((ix b g).Ints) J),(aH (ix b g).Form),(sc E ((ix b g).Data) L)]::RR kT3 u F ((ix b g).Args)::RR kT3 B G ((ix b g).Dims)::RR kT3 D J ((ix b g).Ints)::RR kT3 E L ((ix b g).Data)::ow kT65 65 (.slice A5 (List.replicate (b.length:Int).toNat zT65.z).length D5) O::T) ?_
 refine lO (vz (.agg [(iv (ix b g).Op),(sc u ((ix b g).Args) F),(sc B ((ix b g).Dims) G),(sc D ((ix b g).Ints) J),(aH (ix b g).Form),(sc E ((ix b g).Data) L)].toArray) (eF (fo:=0) 0 kC eN R R R R)) (aY R R jC (fun ae=>(lI R (aL 0 R R eN R R R R R R (lN (aJ ae [(iv (ix b g).Op),(sc u ((ix b g).Args) F),(sc B ((ix b g).Dims) G),(sc D ((ix b g).Ints) J),(aH (ix b g).Form),(sc E ((ix b g).Data) L)] 65::_::_::_::_::_::_::T) ?_)))))
 refine aB (aE ?_)
 obtain ⟨j,a7,i⟩:=bd i
 obtain ⟨q,i⟩:=gd i
 refine aD (lS R (lI R (lO (vp _ R) (lO (vz (.agg [(iv (ix b g).Op),(sc u ((ix b g).Args) F),(sc B ((ix b g).Dims) G),(sc D ((ix b g).Ints) J),(aH (ix b g).Form),(sc E ((ix b g).Data) L)].toArray) (bN 0 kC eN R R R R)) (lM (aO _ _ _::aO _ _ _::aO _ _ _::aO _ _ _::aJ _ _ _::cl _ _ _::aO _ _ _::aO _ _ _::aO _ _ _::aO _ _ _::ow _ _ _ _::T) (fun w s=>(((((s.d 2 R).d 4 R).d 6 R).d 8 R).f 11 [3,1,2,1,1,1,0,1,4,7])) ?_)))))
 refine cP (fs:=[]) (cs:=[]) 4 R R AE R R (Z24_ok a7) R ?_
 rintro ⟨⟨Y,a9,a2⟩,⟨Z,aa,a3⟩,⟨a0,ab,a4⟩,⟨a1,ac,a5⟩⟩
 refine lN (ow kT3 3 (.slice Y a9 a2) j.Args::ow kT3 3 (.slice Z aa a3) j.Dims::ow kT3 3 (.slice a0 ab a4) j.Ints::ow kT3 3 (.slice a1 ac a5) j.Data::_::_::_::_::_::_::_::T) ?_
 refine aM 0 aC ?_
 rintro rfl
 refine aM 1 aC ?_
 rintro rfl
 refine aM 2 aC ?_
 rintro rfl
 refine aM 3 aC ?_
 rintro rfl
 refine bC 10 aC (show 0<(List.replicate (b.length:Int).toNat zT65.z).length by have:=q; omega) (fun a6 o45 ha=>?_)
 subst ha
 refine lO (eA gQ eN R R q) (lM (ow kT65 65 (.slice (ad a6 o45) (List.replicate (b.length:Int).toNat zT65.z).length D5) O::ow _ _ _ _::ow _ _ _ _::ow _ _ _ _::ow _ _ _ _::aJ _ _ _::cl _ _ _::aO _ _ _::aO _ _ _::aO _ _ _::aO _ _ _::T) (fun w s=>(s.f 11 [10,1,0,10])) ?_)
 refine eB (K:=kT65) (x':=j) 4 g R R eN R R q.1 q.2 ?_ ?_
 exact fun I h s=>(nE).put I h ((),(sc Y j.Args a2),(sc Z j.Dims a3),(sc a0 j.Ints a4),(),(sc a1 j.Data a5)) j s
 refine lN (ow kT65 65 (.slice (ad a6 o45) (List.replicate (b.length:Int).toNat zT65.z).length D5) (O.set g.toNat j)::_::_::_::_::_::_::T) ?_
 refine aB (cT (aE (aD (lO (jy R R) (lI R (aB ?_))))))
 obtain rfl:=so i
 exact qA () (fun w s=>(s.e 7 [0]))
 refine aX R M (eL (cR ?_))
 obtain rfl:=so i
 obtain rfl:=ah _ R
 have i:=ai
 refine cR (dU ?_)
 exact qI (O,()) i (fun w s=>s)
 rintro ⟨ak,_⟩ σ1 i
 replace i:Z0q_J1 ak=some r:=i
 unfold Z0q_J1 at i
 refine aI (aD (lS R (lS R (aB (aE (bO ?_))))))
 obtain rfl:=so i
 exact qF (A5,(List.replicate (b.length:Int).toNat zT65.z).length,D5) (fun w s=>(s.e 2 [0]))
theorem Z31_ok  {g1:Graph}{r:Graph}(b:Z31 g1=some r) :
 FnOk Tryz.prog 42 [(.agg [(.slice A2 N2 D2),(.slice A3 N3 D3)].toArray)] [aO kT65 (.slice A2 N2 D2) g1.Nodes,aO kT3 (.slice A3 N3 D3) g1.Outs] (fun (h:HH×HH)=>((.agg [(.slice h.1.1 h.1.2.1 h.1.2.2),(.slice h.2.1 h.2.2.1 h.2.2.2)].toArray),[ow kT65 65 (.slice h.1.1 h.1.2.1 h.1.2.2) r.Nodes,ow kT3 3 (.slice h.2.1 h.2.2.1 h.2.2.2) r.Outs])):=by
 unfold Z31 at b
 refine aR Tryz.func42 R 10 R R fun C V=>?_
 refine cN (_::_::V) ?_
 refine cL 0 aA ?_
 rintro rfl
 refine cL 1 aA ?_
 rintro rfl
 let m:List HP:=RR kT65 A2 D2 g1.Nodes::RR kT3 A3 D3 g1.Outs::V
 refine cN m ?_
 refine aI (aD (eJ R (fun u=>(aY R R hX (fun q=>(aB ?_))))))
 let a:List HP:=aJ u [(sc A2 g1.Nodes D2),(sc A3 g1.Outs D3)] 31::m
 refine qN (_::a) ?_
 refine aE (aI ?_)
 obtain ⟨i,l,b⟩:=bd b
 obtain ⟨j,g,b⟩:=bd b
 refine dE 8 [0] bQ (fun D B=>(dR 0 R (eC 0 fI R) (hS:=(sL [0])) (dR 1 R (eH 0 kh R R R) (hS:=(sL [0])) (dR 3 R (eC 1 gT R) (hS:=(sL [0])) (dR 4 R (eH 0 bZ R R R) (hS:=(sL [0])) (d1 2 R (lM (RR kT65 A2 D2 g1.Nodes::_::a) (fun w s=>(s.d 2 R)) ?_)))))))
 refine lC 1 B' R (Z0q_ok l) R ?_
 rintro ⟨A8,N8,D8⟩
 refine lN (ow kT65 65 (.slice A8 N8 D8) i::_::a) ?_
 refine aM 0 aC ?_
 rintro rfl
 refine aB (aG (sL [1,0]) (d1 5 R (lM (RR kT3 A3 D3 g1.Outs::_::_::a) (fun w s=>(s.d 4 R)) ?_)))
 refine lC 1 iQ R (Zc_ok g) R ?_
 rintro ⟨A11,N11,D11⟩
 refine lN (ow kT3 3 (.slice A11 N11 D11) j::_::_::a) ?_
 refine aM 0 aC ?_
 rintro rfl
 refine aB (aG (sL [2,1,0]) (dR 6 R (vz (.agg [(sc A8 i D8),(sc A11 j D11)].toArray) (aV oh hX R R)) (hS:=(sL [2,1,0])) (d1 7 R (aL 2 R R dN R R R R R R (lN (_::_::aJ q [(sc A8 i D8),(sc A11 j D11)] 31::a) ?_)))))
 refine aB (aG (sL [2,1,0]) (dD (aE (bO ?_))))
 obtain rfl:=so b
 exact cX (vs:=[(.agg [(sc A8 i D8),(sc A11 j D11)].toArray)]) (.inl R) ((A8,i.length,D8),(A11,j.length,D11)) R ⟨⟨2,q,_,_,R,R,.inl ⟨fB,dN,R⟩⟩,trivial⟩ R (fun w s=>(s.e 6 [1,0]))
theorem Z39_ok  {a1:Int}{b:(List Int)}{g:Nat}{r:Int}(i:Z39 a1 b=some r) :
 FnOk Tryz.prog 52 [(iv a1),(pt g 0)] [aO kT3 (.slice A4 N4 D4) b,aJ g [(.slice A4 N4 D4)] 23] (fun (h:Unit)=>((iv r),[aJ g [(.slice A4 N4 D4)] 23])):=by
 unfold Z39 at i
 refine aR Tryz.func52 R 8 R R fun C V=>?_
 refine cM (aJ _ _ _::aO _ _ _::V) (fun w s=>(s.e 2 [1,0])) ?_
 refine cL 1 aA ?_
 rintro rfl
 let j:List HP:=RR kT3 A4 D4 b::V
 refine cN (aJ g [(sc A4 b D4)] 23::j) ?_
 refine aI (aD (lI R (aB ?_)))
 let l:List HP:=aJ g [(sc A4 b D4)] 23::j
 refine qN l ?_
 refine aE (aI ?_)
 obtain ⟨a,i⟩:=gd i
 refine aD (lO (eH 0 bZ R R R) (lI R (bC 1 aA (show 0<b.length by have:=a; omega) (fun q o7 m=>?_))))
 subst m
 refine lO (eA bI cI R R a) (lO (gP 1 fC aA R a) (lI R (aB (aE (bO ?_)))))
 obtain rfl:=so i
 exact qF () (fun w s=>(s.e 2 [0]))
theorem Z0r_ok  {b:(List Int)}{B:(List Int)}{u:Nat}{r:(List Int)}(g:Z0r b B=some r) :
 FnOk Tryz.prog 51 [(.slice A2 N2 D2),(.func (.func 52) [].toArray [(pt u 0)].toArray)] [aO kT3 (.slice A2 N2 D2) b,aO kT3 (.slice A6 N6 D6) B,aJ u [(.slice A6 N6 D6)] 23] (fun (h:HH)=>((.slice h.1 h.2.1 h.2.2),[ow kT3 3 (.slice h.1 h.2.1 h.2.2) r,aJ u [(.slice A6 N6 D6)] 23])):=by
 unfold Z0r at g
 refine aR Tryz.func51 R 26 R R fun C V=>?_
 refine cM (aJ _ _ _::aO _ _ _::aO _ _ _::V) (fun w s=>(s.e 3 [2,0,1])) ?_
 refine cL 1 aA ?_
 rintro rfl
 refine cL 2 aA ?_
 rintro rfl
 let D:List HP:=RR kT3 A2 D2 b::RR kT3 A6 D6 B::V
 refine cN (aJ u [(sc A6 B D6)] 23::D) ?_
 refine aI (aD (lS R (aB (aE (aI ?_)))))
 obtain ⟨E,g⟩:=gd g
 refine aD (lS R (lO (eT bI R) (fH (K:=kT3) (m:=(b.length:Int)) (z:=(0:Int)) R R bI cI jN (Zr.zk zT3 gB) (by decide) R R E.1 E.2.1 E.2.2 (fun A8 D8=>(lS R (aB (aE (aI (bD (A:=((List Int))×(Unit)) (fun a=>Z0r_J1 a.1=some r) (fun a=>[(5,(sc A8 (List.replicate (b.length:Int).toNat (0:Int)) D8))]) (fun a=>ow kT3 3 (.slice A8 (List.replicate (b.length:Int).toNat (0:Int)).length D8) a.1::aJ u [(sc A6 B D6)] 23::D) ?_ ?_)))))))))
 refine aI (aD (lS R (lO (eT bI R) (lI R (aB (aE (cB ?_)))))))
 obtain ⟨e1,Y,U⟩:=bd g
 refine bE (A:=Unit) Y (fun s a=>[(1,(.func (.func 52) [].toArray [(pt u 0)].toArray)),(5,(sc A8 (List.replicate (b.length:Int).toNat (0:Int)) D8)),(11,(sc A2 b D2)),(12,(il b)),(13,(iv s.2))]) (fun s a=>aJ u [(sc A6 B D6)] 23::ow kT3 3 (.slice A8 (List.replicate (b.length:Int).toNat (0:Int)).length D8) s.1::D) () (aS R) (fun w s=>(s.e 2 [1,0])) ?_
 rintro ⟨q,G⟩ _ σ1 M g T
 replace g:Z0r_L1 b B q G=some M:=g
 unfold Z0r_L1 at g
 refine aI (aD (lO (jz R R) (aB (aE (aI ?_)))))
 rcases bY g with ⟨j,g⟩|⟨j,g⟩
 refine bM R j (bS (aE (aI (cB (aI ?_)))))
 obtain ⟨l,g⟩:=gd g
 refine aD (lI R (bC 2 aA (show 0<b.length by have:=l; omega) (fun a0 o25 O=>?_)))
 subst O
 refine lO (eA bI cI R R l) (lO (gP 2 fC aA R l) (lI R (lI R (aB (aE ?_)))))
 obtain ⟨F,L,g⟩:=bd g
 obtain ⟨i,g⟩:=gd g
 refine aD (lS R (lI R (lO (vp _ R) (lI R (lM (RR kT3 A6 D6 B::_::ow kT3 3 (.slice A8 (List.replicate (b.length:Int).toNat (0:Int)).length D8) q::D) (fun w s=>(s.d 3 R)) ?_)))))
 refine cP (fs:=[]) (cs:=[(pt u 0)]) 2 R R C1 R R (Z39_ok L) R ?_
 rintro _
 refine lN (_::_::D) ?_
 refine bC 1 aC (show 0<(List.replicate (b.length:Int).toNat (0:Int)).length by have:=i; omega) (fun J o30 O=>?_)
 subst O
 refine lO (eA bI cI R R i) (lM (ow kT3 3 (.slice (ad J o30) (List.replicate (b.length:Int).toNat (0:Int)).length D8) q::aJ _ _ _::D) (fun w s=>(s.e 2 [1,0])) ?_)
 refine eB (K:=kT3) (x':=F) 0 G R R cI R R i.1 i.2 ?_ ?_
 exact fun I h s=>(gF).put I h () F s
 refine lN (ow kT3 3 (.slice (ad J o30) (List.replicate (b.length:Int).toNat (0:Int)).length D8) (q.set G.toNat F)::_::D) ?_
 refine aB (cT (aE (aD (lO (jy R R) (lI R (aB ?_))))))
 obtain rfl:=so g
 exact qA () (fun w s=>(s.e 2 [1,0]))
 refine aX R j (eL (cR ?_))
 obtain rfl:=so g
 obtain rfl:=T _ R
 have g:=U
 refine cR (dU ?_)
 exact qI (q,()) g (fun w s=>(s.e 2 [1,0]))
 rintro ⟨Z,_⟩ σ1 g
 replace g:Z0r_J1 Z=some r:=g
 unfold Z0r_J1 at g
 refine aI (aD (lS R (lS R (aB (aE (bO ?_))))))
 obtain rfl:=so g
 exact qF (A8,(List.replicate (b.length:Int).toNat (0:Int)).length,D8) (fun w s=>(s.e 4 [0,1]))
theorem Z3a_ok  {o1:Int}{b:(List Int)}{g:Nat}{r:Int}(i:Z3a o1 b=some r) :
 FnOk Tryz.prog 53 [(iv o1),(pt g 0)] [aO kT3 (.slice A4 N4 D4) b,aJ g [(.slice A4 N4 D4)] 23] (fun (h:Unit)=>((iv r),[aJ g [(.slice A4 N4 D4)] 23])):=by
 unfold Z3a at i
 refine aR Tryz.func53 R 8 R R fun C V=>?_
 refine cM (aJ _ _ _::aO _ _ _::V) (fun w s=>(s.e 2 [1,0])) ?_
 refine cL 1 aA ?_
 rintro rfl
 let j:List HP:=RR kT3 A4 D4 b::V
 refine cN (aJ g [(sc A4 b D4)] 23::j) ?_
 refine aI (aD (lI R (aB ?_)))
 let l:List HP:=aJ g [(sc A4 b D4)] 23::j
 refine qN l ?_
 refine aE (aI ?_)
 obtain ⟨a,i⟩:=gd i
 refine aD (lO (eH 0 bZ R R R) (lI R (bC 1 aA (show 0<b.length by have:=a; omega) (fun q o7 m=>?_))))
 subst m
 refine lO (eA bI cI R R a) (lO (gP 1 fC aA R a) (lI R (aB (aE (bO ?_)))))
 obtain rfl:=so i
 exact qF () (fun w s=>(s.e 2 [0]))
theorem Z0s_ok  {b:(List Int)}{B:(List Int)}{u:Nat}{r:(List Int)}(g:Z0s b B=some r) :
 FnOk Tryz.prog 51 [(.slice A2 N2 D2),(.func (.func 53) [].toArray [(pt u 0)].toArray)] [aO kT3 (.slice A2 N2 D2) b,aO kT3 (.slice A6 N6 D6) B,aJ u [(.slice A6 N6 D6)] 23] (fun (h:HH)=>((.slice h.1 h.2.1 h.2.2),[ow kT3 3 (.slice h.1 h.2.1 h.2.2) r,aJ u [(.slice A6 N6 D6)] 23])):=by
 unfold Z0s at g
 refine aR Tryz.func51 R 26 R R fun C V=>?_
 refine cM (aJ _ _ _::aO _ _ _::aO _ _ _::V) (fun w s=>(s.e 3 [2,0,1])) ?_
 refine cL 1 aA ?_
 rintro rfl
 refine cL 2 aA ?_
 rintro rfl
 let D:List HP:=RR kT3 A2 D2 b::RR kT3 A6 D6 B::V
 refine cN (aJ u [(sc A6 B D6)] 23::D) ?_
 refine aI (aD (lS R (aB (aE (aI ?_)))))
 obtain ⟨E,g⟩:=gd g
 refine aD (lS R (lO (eT bI R) (fH (K:=kT3) (m:=(b.length:Int)) (z:=(0:Int)) R R bI cI jN (Zr.zk zT3 gB) (by decide) R R E.1 E.2.1 E.2.2 (fun A8 D8=>(lS R (aB (aE (aI (bD (A:=((List Int))×(Unit)) (fun a=>Z0s_J1 a.1=some r) (fun a=>[(5,(sc A8 (List.replicate (b.length:Int).toNat (0:Int)) D8))]) (fun a=>ow kT3 3 (.slice A8 (List.replicate (b.length:Int).toNat (0:Int)).length D8) a.1::aJ u [(sc A6 B D6)] 23::D) ?_ ?_)))))))))
 refine aI (aD (lS R (lO (eT bI R) (lI R (aB (aE (cB ?_)))))))
 obtain ⟨e1,Y,U⟩:=bd g
 refine bE (A:=Unit) Y (fun s a=>[(1,(.func (.func 53) [].toArray [(pt u 0)].toArray)),(5,(sc A8 (List.replicate (b.length:Int).toNat (0:Int)) D8)),(11,(sc A2 b D2)),(12,(il b)),(13,(iv s.2))]) (fun s a=>aJ u [(sc A6 B D6)] 23::ow kT3 3 (.slice A8 (List.replicate (b.length:Int).toNat (0:Int)).length D8) s.1::D) () (aS R) (fun w s=>(s.e 2 [1,0])) ?_
 rintro ⟨q,G⟩ _ σ1 M g T
 replace g:Z0s_L1 b B q G=some M:=g
 unfold Z0s_L1 at g
 refine aI (aD (lO (jz R R) (aB (aE (aI ?_)))))
 rcases bY g with ⟨j,g⟩|⟨j,g⟩
 refine bM R j (bS (aE (aI (cB (aI ?_)))))
 obtain ⟨l,g⟩:=gd g
 refine aD (lI R (bC 2 aA (show 0<b.length by have:=l; omega) (fun a0 o25 O=>?_)))
 subst O
 refine lO (eA bI cI R R l) (lO (gP 2 fC aA R l) (lI R (lI R (aB (aE ?_)))))
 obtain ⟨F,L,g⟩:=bd g
 obtain ⟨i,g⟩:=gd g
 refine aD (lS R (lI R (lO (vp _ R) (lI R (lM (RR kT3 A6 D6 B::_::ow kT3 3 (.slice A8 (List.replicate (b.length:Int).toNat (0:Int)).length D8) q::D) (fun w s=>(s.d 3 R)) ?_)))))
 refine cP (fs:=[]) (cs:=[(pt u 0)]) 2 R R C2 R R (Z3a_ok L) R ?_
 rintro _
 refine lN (_::_::D) ?_
 refine bC 1 aC (show 0<(List.replicate (b.length:Int).toNat (0:Int)).length by have:=i; omega) (fun J o30 O=>?_)
 subst O
 refine lO (eA bI cI R R i) (lM (ow kT3 3 (.slice (ad J o30) (List.replicate (b.length:Int).toNat (0:Int)).length D8) q::aJ _ _ _::D) (fun w s=>(s.e 2 [1,0])) ?_)
 refine eB (K:=kT3) (x':=F) 0 G R R cI R R i.1 i.2 ?_ ?_
 exact fun I h s=>(gF).put I h () F s
 refine lN (ow kT3 3 (.slice (ad J o30) (List.replicate (b.length:Int).toNat (0:Int)).length D8) (q.set G.toNat F)::_::D) ?_
 refine aB (cT (aE (aD (lO (jy R R) (lI R (aB ?_))))))
 obtain rfl:=so g
 exact qA () (fun w s=>(s.e 2 [1,0]))
 refine aX R j (eL (cR ?_))
 obtain rfl:=so g
 obtain rfl:=T _ R
 have g:=U
 refine cR (dU ?_)
 exact qI (q,()) g (fun w s=>(s.e 2 [1,0]))
 rintro ⟨Z,_⟩ σ1 g
 replace g:Z0s_J1 Z=some r:=g
 unfold Z0s_J1 at g
 refine aI (aD (lS R (lS R (aB (aE (bO ?_))))))
 obtain rfl:=so g
 exact qF (A8,(List.replicate (b.length:Int).toNat (0:Int)).length,D8) (fun w s=>(s.e 4 [0,1]))
theorem Z2s_ok  {g1:Graph}{mG:Int}{r:Bool}(a:Z2s g1=some r) :
 FnOk Tryz.prog 39 [(.agg [(.slice A2 N2 D2),(.slice A3 N3 D3)].toArray)] [aO kT65 (.slice A2 N2 D2) g1.Nodes,aO kT3 (.slice A3 N3 D3) g1.Outs,gl 0 mG] (fun (h:Unit)=>((.bool r),[])):=by
 unfold Z2s at a
 refine aR Tryz.func39 R 11 R R fun C V=>?_
 refine cL 0 aA ?_
 rintro rfl
 refine cL 1 aA ?_
 rintro rfl
 let g:=RR kT65 A2 D2 g1.Nodes::RR kT3 A3 D3 g1.Outs::gl 0 mG::V
 refine cN g ?_
 refine bA ?_
 refine eJ R fun j=>?_
 refine bA ?_
 let i:=aJ j [(sc A2 g1.Nodes D2),(sc A3 g1.Outs D3)] 31::g
 refine qN i ?_
 refine bA ?_
 obtain ⟨l,b,a⟩:=bd a
 refine bA ?_
 refine lM _ (fun w s=>((((s.d 1 R).d 3 R).dg 5 R).e 3 [2,1,0])) ?_
 refine lC 3 xG R (Zh_ok b) R ?_
 rintro ⟨A7,N7,D7⟩
 refine aM 0 cV ?_
 rintro rfl
 refine lO (vT R) ?_
 refine lL ?_
 cases a
 exact qF () (tE 5 [])
end Go.Proofs.YthelanpdjajnbaaGreat
