import Derived.Test.YthelanpdjajnbaaGreatBnF
import Derived.Test.YthelanpdjajnbaaGreatBnW1
import Derived.Test.YthelanpdjajnbaaGreatBnW6
import Derived.Test.YthelanpdjajnbaaGreatBnW7
set_option linter.unusedVariables false
set_option maxRecDepth 20000
namespace Go.Proofs.YthelanpdjajnbaaGreat
open Go Go.Pg
variable {A2 A3 A4 A5 A6 A7 A9 A10 A11 A12 A14:Option Addr}{D2 D3 D4 D5 D6 D7 D9 D10 D11 D12 D14 N2 N3 N4 N5 N6 N7 N9 N10 N11 N12 N14:Nat}
theorem Z1q_ok  {k1:shiftKind}{F:Int}{G:Int}{b:Node}{a:(List (List Int))}{j:Nat}{l:Nat}{m:Nat}{r:(List Int)×Bool}(i:Z1q k1 F G b a=some r) :
 FnOk Tryz.prog 217 [(.agg [(aH k1.use),(.func (.func 143) [].toArray [(pt j 0),(pt l 0),(pt m 0)].toArray)].toArray),(.agg [(iv b.Op),(.slice A9 N9 D9),(.slice A10 N10 D10),(.slice A11 N11 D11),(aH b.Form),(.slice A12 N12 D12)].toArray),(.slice A14 N14 D14)] [aJ j [(iv F)] 3,aJ l [(iv G)] 3,aJ m [(.func (.func 107) [].toArray [].toArray)] 136,aQ kT3 (.slice A9 N9 D9) b.Args,aQ kT3 (.slice A10 N10 D10) b.Dims,aQ kT3 (.slice A11 N11 D11) b.Ints,aQ kT3 (.slice A12 N12 D12) b.Data,aQ kT23 (.slice A14 N14 D14) a] (fun (h:HH)=>((.tuple [(s3 h),(.bool r.2)].toArray),[ow kT3 3 (s3 h) r.1,aJ j [(iv F)] 3,aJ l [(iv G)] 3,aJ m [(.func (.func 107) [].toArray [].toArray)] 136])):=by
 unfold Z1q at i
 refine aR Tryz.func217 R 27 R R fun C V=>?_
 refine cL 3 aA ?_
 rintro rfl
 refine cL 4 aA ?_
 rintro rfl
 refine cL 5 aA ?_
 rintro rfl
 refine cL 6 aA ?_
 rintro rfl
 refine cL 7 aA ?_
 rintro rfl
 let Y:=RR kT3 A9 D9 b.Args::RR kT3 A10 D10 b.Dims::RR kT3 A11 D11 b.Ints::RR kT3 A12 D12 b.Data::RR kT23 A14 D14 a::V
 refine aZ ?_
 refine eA R fun D=>?_
 refine eA R fun E=>?_
 refine aU ?_
 refine qM _ (fun w s=>(s.f 5 [2,3,0,2])) ?_
 let W1:=aJ E [(iv b.Op),(sc A9 b.Args D9),(sc A10 b.Dims D10),(sc A11 b.Ints D11),(aH b.Form),(sc A12 b.Data D12)] 65::aJ D [(aH k1.use),(.func (.func 143) [].toArray [(pt j 0),(pt l 0),(pt m 0)].toArray)] 131::Y
 refine dC ?_
 split at i
 refine dC ?_
 cases i
 exact jW (none,0,0) (fun w s=>((s.nilo kT3 3).f 11 [0,4]))
 refine bI ?_
 obtain ⟨g,i⟩:=gd i
 obtain ⟨I,q,i⟩:=bd i
 refine bA 9 aA (show 0<a.length by have:=g; omega) (fun Z o20 ha=>?_)
 subst ha
 refine dG (K:=kT23) 9 (0:Int) dT23.dec R g.1 g.2 ?_
 rintro ⟨J,M⟩
 refine cX 14 [] bM fun ht hn=>?_
 refine kz 0 [] ?_
 refine dR 5 R (eD (fo:=0) 0 cB R R R) (d1 6 R (lM _ (fun w s=>((((((s.d 7 R).d 9 R).d 11 R).d 13 R).d 5 R).e 10 [4,3,2,1,0,7,8,9,5,6])) ?_))
 refine cO (fs:=[]) (cs:=[(pt j 0),(pt l 0),(pt m 0)]) 8 R R qP R R (Z2p_ok q) R ?_
 rintro ⟨⟨u,T,B⟩,⟨L,U,O⟩⟩
 refine aM 0 aB ?_
 rintro rfl
 refine aM 1 aB ?_
 rintro rfl
 refine aC (aG (fun w s=>(s.f 7 [5,2,2,3])) (dR 7 R (vT R) (hS:=(fun w s=>(s.f 7 [5,2,2,3]))) (dR 8 R (vS R) (hS:=(fun w s=>(s.f 7 [5,2,2,3]))) (dR 9 R (vS R) (hS:=(fun w s=>(s.f 7 [5,2,2,3]))) (dR 10 R (vB R) (hS:=(fun w s=>(s.f 7 [5,2,2,3]))) (dR 11 R (vS R) (hS:=(fun w s=>(s.f 7 [5,2,2,3]))) (dR 12 R (vS R) (hS:=(fun w s=>(s.f 7 [5,2,2,3]))) (dR 13 R (vB R) (hS:=(fun w s=>(s.f 7 [5,2,2,3]))) (dD ?_)))))))))
 refine dA ?_
 cases i
 exact jW (u,I.1.length,B) (tE 14 [0,2,3,4])
theorem Z0d_ok  {g:(List Int)}{l:Int}{b:(List Int)}{r:(List Int)×(List pair)×Bool}(m:Z0d g l b=some r) :
 FnOk Tryz.prog 110 [(.slice A2 N2 D2),(iv l),(.slice A5 N5 D5)] [aQ kT3 (.slice A2 N2 D2) g,aQ kT3 (.slice A5 N5 D5) b] (fun (h:HH×HH)=>((.tuple [(s3 h.1),(s3 h.2),(.bool r.2.2)].toArray),[ow kT3 3 (s3 h.1) r.1,ow kT165 165 (s3 h.2) r.2.1])):=by
 unfold Z0d at m
 refine aR Tryz.func110 R 67 R R fun C V=>?_
 refine cL 0 aA ?_
 rintro rfl
 refine cL 1 aA ?_
 rintro rfl
 let U:=RR kT3 A2 D2 g::RR kT3 A5 D5 b::V
 refine cN U ?_
 refine dC ?_
 obtain ⟨r6,al,m⟩:=bd m
 refine cQ [(0,(sc A2 g D2)),(1,(iv l)),(2,(sc A5 b D5)),(26,(.bool (((!r6)||((b.length:Int)==0))||(decide ((b.length:Int)>4096)))))] (U) ?_ ?_
 refine aU ?_
 refine lM _ (fun w s=>(s.d 0 R)) ?_
 refine lC 1 hH R (Zm_ok al) R ?_
 rintro _
 refine lN U ?_
 refine aZ ?_
 rcases bo (!r6) with ai | ai
 refine dA ?_
 exact qj tI
 refine cR ?_
 rcases bo ((!r6)||((b.length:Int)==0)) with aj | aj
 refine cR ?_
 exact qj tI
 refine cR ?_
 exact qj tI
 rintro σ1
 refine cA ?_
 split at m
 refine dA ?_
 cases m
 exact iI ((none,0,0),(none,0,0)) (fun w s=>(((s.nilo kT3 3).nilo kT165 165).e 4 [1,0]))
 refine cR ?_
 refine bU (K:=kT165) (xs:=([]:List pair)) (vs:=[]) 0 R R fO fP eV R R R R R R ?_ R (fun A11 D11=>?_)
 exact fun I h s=>(jy).list [] I h s
 refine bI ?_
 refine bE (A:=((List pair))×(HH×HH)) (fun a=>Z0d_J1 g l b a.1=some r) (fun a=>[(0,(sc A2 g D2)),(1,(iv l)),(2,(s3 a.2.1)),(9,(s3 a.2.2))]) (fun a=>aQ kT3 (s3 a.2.1) b::ow kT165 165 (s3 a.2.2) a.1::U) ?_ ?_
 refine dI ?_
 obtain ⟨e1,ak,a5⟩:=bd m
 refine bF (A:=HH×HH) ak (fun s a=>[(0,(sc A2 g D2)),(1,(iv l)),(2,(s3 a.1)),(9,(s3 a.2)),(28,(s3 a.1)),(29,(il b)),(30,(iv s.2))]) (fun s a=>aQ kT3 (s3 a.1) b::ow kT165 165 (s3 a.2) s.1::U) ((A5,b.length,D5),(A11,([]:List pair).length,D11)) (aS R) (fun w s=>(s.d 2 R)) ?_
 rintro ⟨i,j⟩ ⟨⟨a9,ac,D⟩,⟨G,ae,M⟩⟩ σ1 an m a2
 dsimp only [Z0d_L1] at m
 refine bQ 0 aA (fun (Y:ac=b.length)=>?_)
 subst Y
 refine bQ 1 aB (fun (Y:ae=i.length)=>?_)
 subst Y
 refine cE ?_
 split at m
 refine cE ?_
 obtain ⟨a3,m⟩:=gd m
 refine aZ ?_
 refine bG 0 aA (show 0<b.length by have:=a3; omega) (fun F o31 ha=>?_)
 subst ha
 refine dI ?_
 obtain ⟨E,m⟩:=gd m
 refine cQ [(0,(sc A2 g D2)),(1,(iv l)),(2,(sc (ad F o31) b D)),(9,(sc G i M)),(10,(iv j)),(11,(iv (ix b j))),(28,(sc (ad F o31) b D)),(29,(il b)),(30,(iv j)),(44,(.bool ((decide ((ix b j)<0))||(decide ((ix b j)≥(ix g l))))))] (RR kT3 (ad F o31) D b::OO kT165 165 G M i::U) ?_ ?_
 refine bI ?_
 rcases bo (decide ((ix b j)<0)) with u | u
 refine dI ?_
 exact qj tI
 refine aU ?_
 refine bG 2 aA (show 0<g.length by have:=(E u); omega) (fun aw o34 ha=>?_)
 subst ha
 refine lW (bJ u) (eE bT cS R R (E u)) (lW (bJ u) (hX 2 fR aA R (E u)) ?_)
 refine aU ?_
 exact qj tI
 rintro σ1
 refine cA ?_
 split at m
 refine iY ?_
 cases m
 obtain rfl:=a2 _ R
 have m:=a5
 refine aU ?_
 cases m
 exact iI ((none,0,0),(none,0,0)) (fun w s=>(((s.nilo kT3 3).nilo kT165 165).e 6 [1,0]))
 refine aU ?_
 obtain ⟨a4,m⟩:=gd m
 refine bI ?_
 refine lO (vz (.agg [(iv (ix b j)),(iv j)].toArray) (aV mS eV R R)) (bU (K:=kT165) (xs:=([(⟨(ix b j),j⟩:pair)]:List pair)) (vs:=[(.agg [(iv (ix b j)),(iv j)].toArray)]) 0 R R fO fP eV R R R R R R ?_ R (fun ao aq=>?_))
 exact fun I h s=>(jy).list [(((),()),(⟨(ix b j),j⟩:pair))] I h s
 refine lM _ (tE 3 [2,0,1]) ?_
 refine eO (K:=kT165) 8796093022208 R R fO fP lY (Zr.zk zT165 eV) R R R R R R dQ a4 (fun a0 a1=>(lN (OO kT165 165 a0 a1 (i++([(⟨(ix b j),j⟩:pair)]:List pair))::_::U) ?_))
 refine dI ?_
 cases m
 exact qA (((ad F o31),b.length,D),(a0,(i++([(⟨(ix b j),j⟩:pair)]:List pair)).length,a1)) (tE 2 [1,0])
 refine aU ?_
 cases m
 obtain rfl:=a2 _ R
 have m:=a5
 refine aZ ?_
 exact qI (i,((a9,b.length,D),(G,i.length,M))) m tI
 rintro ⟨q,⟨⟨ap,ag,ar⟩,⟨J,ah,O⟩⟩⟩ σ1 m
 dsimp only [Z0d_J1] at m
 refine bQ 0 aA (fun (Y:ag=b.length)=>?_)
 subst Y
 refine bQ 1 aB (fun (Y:ah=q.length)=>?_)
 subst Y
 refine cA ?_
 obtain ⟨Z,a6,m⟩:=bd m
 refine cR ?_
 refine lM _ (fun w s=>(s.d 2 R)) ?_
 refine lC 1 qK R (Z1k_ok a6) R ?_
 rintro ⟨L,au,T⟩
 refine aM 0 aB ?_
 rintro rfl
 refine cR ?_
 obtain ⟨ax,a7,m⟩:=bd m
 refine aZ ?_
 refine lC 1 ly R (FnOk.lends (A':=[OO kT3 3 L T Z]) (A:=[RR kT3 L T Z]) (B:=[]) (Zd_ok a7) ⟨aP,trivial⟩ (fun _=>trivial)) R ?_
 rintro _
 refine aU ?_
 split at m
 refine dA ?_
 cases m
 exact iI ((none,0,0),(none,0,0)) (fun w s=>(((s.nilo kT3 3).nilo kT165 165).e 7 [1,0]))
 refine bI ?_
 obtain ⟨am,a8,m⟩:=bd m
 refine dO ?_
 refine lM _ (fun w s=>((s.d 3 R).e 4 [3,0,1,2])) ?_
 refine lC 2 te R (FnOk.lends (A':=[OO kT165 165 J O q]) (A:=[RR kT165 J O q]) (B:=[RR kT3 A2 D2 g]) (FnOk.perm (Z7_ok a8) (Pre':=[RR kT165 J O q,RR kT3 A2 D2 g]) (fun _ _ _ s=>(s.e 2 [1,0]))) ⟨aP,trivial⟩ (fun _=>⟨(bB sY),trivial⟩)) R ?_
 rintro ⟨aa,av,ab⟩
 refine aM 1 aB ?_
 rintro rfl
 refine cE ?_
 cases m
 exact iI ((L,Z.length,T),(aa,am.length,ab)) (tE 6 [2,1])
theorem Z22_ok  {p1:(List Int)}{a:(List Int)}{r:(List Int)×(List pair)×Bool}(b:Z22 p1 a=some r) :
 FnOk Tryz.prog 109 [(.slice A2 N2 D2),(.slice A4 N4 D4)] [aQ kT3 (.slice A2 N2 D2) p1,aQ kT3 (.slice A4 N4 D4) a] (fun (h:HH×HH)=>((.tuple [(s3 h.1),(s3 h.2),(.bool r.2.2)].toArray),[ow kT3 3 (s3 h.1) r.1,ow kT165 165 (s3 h.2) r.2.1])):=by
 unfold Z22 at b
 refine aR Tryz.func109 R 17 R R fun C V=>?_
 refine cL 0 aA ?_
 rintro rfl
 refine cL 1 aA ?_
 rintro rfl
 let B:=RR kT3 A2 D2 p1::RR kT3 A4 D4 a::V
 refine cN B ?_
 refine dI ?_
 obtain ⟨q,b⟩:=gd b
 obtain ⟨g,b⟩:=gd b
 obtain ⟨j,i,b⟩:=bd b
 refine bA 0 aA (show 0<p1.length by have:=q; omega) (fun E o7 D=>?_)
 subst D
 refine cX 13 [] bM fun G F=>?_
 refine kz 0 [] ?_
 refine d1 5 R (gQ (K:=kT3) (1:Int) (p1.length:Int) 0 R R bT cS R R R R g.1 g.2.1 g.2.2 (fun A9 D9=>(aC (aG (sL [0]) (d1 6 R (lM _ (fun w s=>(((s.d 2 R).d 1 R).e 3 [1,0,2])) ?_))))))
 refine lC 2 Ae R (Z0d_ok i) R ?_
 rintro ⟨⟨A12,N12,D12⟩,⟨l,u,m⟩⟩
 refine aM 0 aB ?_
 rintro rfl
 refine aM 1 aB ?_
 rintro rfl
 refine aC (aG (sL [2,1,0]) ?_)
 refine sT 7 [2,1,0] ?_
 refine dD ?_
 refine aZ ?_
 cases b
 exact iI ((A12,j.1.length,D12),(l,j.2.1.length,m)) (tE 5 [0,1])
theorem Z2q_ok  {a:Node}{b:(List Int)}{m:Int}{i:Int}{E:Nat}{j:Nat}{g:Nat}{r:(List Int)×(List pair)×Bool}(l:Z2q a b m i=some r) :
 FnOk Tryz.prog 143 [(.agg [(iv a.Op),(.slice A2 N2 D2),(.slice A3 N3 D3),(.slice A4 N4 D4),(aH a.Form),(.slice A5 N5 D5)].toArray),(.slice A7 N7 D7),(pt E 0),(pt j 0),(pt g 0)] [aQ kT3 (.slice A2 N2 D2) a.Args,aQ kT3 (.slice A3 N3 D3) a.Dims,aQ kT3 (.slice A4 N4 D4) a.Ints,aQ kT3 (.slice A5 N5 D5) a.Data,aQ kT3 (.slice A7 N7 D7) b,aJ E [(iv m)] 3,aJ j [(iv i)] 3,aJ g [(.func (.func 109) [].toArray [].toArray)] 136] (fun (h:HH×HH)=>((.tuple [(s3 h.1),(s3 h.2),(.bool r.2.2)].toArray),[ow kT3 3 (s3 h.1) r.1,ow kT165 165 (s3 h.2) r.2.1,aJ E [(iv m)] 3,aJ j [(iv i)] 3,aJ g [(.func (.func 109) [].toArray [].toArray)] 136])):=by
 unfold Z2q at l
 refine aR Tryz.func143 R 30 R R fun C V=>?_
 refine cM _ (fun w s=>(s.f 8 [5,3,0,5])) ?_
 refine cL 3 aA ?_
 rintro rfl
 refine cL 4 aA ?_
 rintro rfl
 refine cL 5 aA ?_
 rintro rfl
 refine cL 6 aA ?_
 rintro rfl
 refine cL 7 aA ?_
 rintro rfl
 let T:=RR kT3 A2 D2 a.Args::RR kT3 A3 D3 a.Dims::RR kT3 A4 D4 a.Ints::RR kT3 A5 D5 a.Data::RR kT3 A7 D7 b::V
 refine aZ ?_
 refine eA R fun q=>?_
 refine bI ?_
 let L:=aJ q [(iv a.Op),(sc A2 a.Args D2),(sc A3 a.Dims D3),(sc A4 a.Ints D4),(aH a.Form),(sc A5 a.Data D5)] 65::aJ E [(iv m)] 3::aJ j [(iv i)] 3::aJ g [(.func (.func 109) [].toArray [].toArray)] 136::T
 refine qN L ?_
 refine aU ?_
 refine cQ [(1,(sc A7 b D7)),(4,(pt g 0)),(5,(pt q 0)),(21,(.bool ((decide ((a.Ints.length:Int)<m))||(decide ((a.Ints.length:Int)>i)))))] (L) ?_ ?_
 refine dO ?_
 rcases bo (decide ((a.Ints.length:Int)<m)) with u | u
 refine dO ?_
 exact qj tI
 refine dO ?_
 exact qj tI
 rintro σ1
 refine cA ?_
 split at l
 refine dA ?_
 cases l
 exact iI ((none,0,0),(none,0,0)) (fun w s=>(((s.nilo kT3 3).nilo kT165 165).e 11 [1,0,3,4,5]))
 refine bI ?_
 obtain ⟨D,B,l⟩:=bd l
 refine cR ?_
 refine lM _ (fun w s=>(((s.d 6 R).d 9 R).e 2 [1,0])) ?_
 refine cO (fs:=[]) (cs:=[]) 2 R R Af R R (Z22_ok B) R ?_
 rintro ⟨⟨F,M,I⟩,⟨G,O,J⟩⟩
 refine aM 0 aB ?_
 rintro rfl
 refine aM 1 aB ?_
 rintro rfl
 refine dC ?_
 cases l
 exact iI ((F,D.1.length,I),(G,D.2.1.length,J)) (fun w s=>(s.f 11 [0,2,3,3]))
theorem Z1r_ok  {k1:shiftKind}{F:Int}{G:Int}{b:Node}{a:(List (List Int))}{j:Nat}{l:Nat}{m:Nat}{r:(List Int)×Bool}(i:Z1r k1 F G b a=some r) :
 FnOk Tryz.prog 217 [(.agg [(aH k1.use),(.func (.func 143) [].toArray [(pt j 0),(pt l 0),(pt m 0)].toArray)].toArray),(.agg [(iv b.Op),(.slice A9 N9 D9),(.slice A10 N10 D10),(.slice A11 N11 D11),(aH b.Form),(.slice A12 N12 D12)].toArray),(.slice A14 N14 D14)] [aJ j [(iv F)] 3,aJ l [(iv G)] 3,aJ m [(.func (.func 109) [].toArray [].toArray)] 136,aQ kT3 (.slice A9 N9 D9) b.Args,aQ kT3 (.slice A10 N10 D10) b.Dims,aQ kT3 (.slice A11 N11 D11) b.Ints,aQ kT3 (.slice A12 N12 D12) b.Data,aQ kT23 (.slice A14 N14 D14) a] (fun (h:HH)=>((.tuple [(s3 h),(.bool r.2)].toArray),[ow kT3 3 (s3 h) r.1,aJ j [(iv F)] 3,aJ l [(iv G)] 3,aJ m [(.func (.func 109) [].toArray [].toArray)] 136])):=by
 unfold Z1r at i
 refine aR Tryz.func217 R 27 R R fun C V=>?_
 refine cL 3 aA ?_
 rintro rfl
 refine cL 4 aA ?_
 rintro rfl
 refine cL 5 aA ?_
 rintro rfl
 refine cL 6 aA ?_
 rintro rfl
 refine cL 7 aA ?_
 rintro rfl
 let Y:=RR kT3 A9 D9 b.Args::RR kT3 A10 D10 b.Dims::RR kT3 A11 D11 b.Ints::RR kT3 A12 D12 b.Data::RR kT23 A14 D14 a::V
 refine aZ ?_
 refine eA R fun D=>?_
 refine eA R fun E=>?_
 refine aU ?_
 refine qM _ (fun w s=>(s.f 5 [2,3,0,2])) ?_
 let W1:=aJ E [(iv b.Op),(sc A9 b.Args D9),(sc A10 b.Dims D10),(sc A11 b.Ints D11),(aH b.Form),(sc A12 b.Data D12)] 65::aJ D [(aH k1.use),(.func (.func 143) [].toArray [(pt j 0),(pt l 0),(pt m 0)].toArray)] 131::Y
 refine dC ?_
 split at i
 refine dC ?_
 cases i
 exact jW (none,0,0) (fun w s=>((s.nilo kT3 3).f 11 [0,4]))
 refine bI ?_
 obtain ⟨g,i⟩:=gd i
 obtain ⟨I,q,i⟩:=bd i
 refine bA 9 aA (show 0<a.length by have:=g; omega) (fun Z o20 ha=>?_)
 subst ha
 refine dG (K:=kT23) 9 (0:Int) dT23.dec R g.1 g.2 ?_
 rintro ⟨J,M⟩
 refine cX 14 [] bM fun ht hn=>?_
 refine kz 0 [] ?_
 refine dR 5 R (eD (fo:=0) 0 cB R R R) (d1 6 R (lM _ (fun w s=>((((((s.d 7 R).d 9 R).d 11 R).d 13 R).d 5 R).e 10 [4,3,2,1,0,7,8,9,5,6])) ?_))
 refine cO (fs:=[]) (cs:=[(pt j 0),(pt l 0),(pt m 0)]) 8 R R qP R R (Z2q_ok q) R ?_
 rintro ⟨⟨u,T,B⟩,⟨L,U,O⟩⟩
 refine aM 0 aB ?_
 rintro rfl
 refine aM 1 aB ?_
 rintro rfl
 refine aC (aG (fun w s=>(s.f 7 [5,2,2,3])) (dR 7 R (vT R) (hS:=(fun w s=>(s.f 7 [5,2,2,3]))) (dR 8 R (vS R) (hS:=(fun w s=>(s.f 7 [5,2,2,3]))) (dR 9 R (vS R) (hS:=(fun w s=>(s.f 7 [5,2,2,3]))) (dR 10 R (vB R) (hS:=(fun w s=>(s.f 7 [5,2,2,3]))) (dR 11 R (vS R) (hS:=(fun w s=>(s.f 7 [5,2,2,3]))) (dR 12 R (vS R) (hS:=(fun w s=>(s.f 7 [5,2,2,3]))) (dR 13 R (vB R) (hS:=(fun w s=>(s.f 7 [5,2,2,3]))) (dD ?_)))))))))
 refine dA ?_
 cases i
 exact jW (u,I.1.length,B) (tE 14 [0,2,3,4])
theorem Z0e_ok  {g:(List Int)}{i:Int}{b:(List Int)}{D:Int}{r:(List Int)×(List pair)×Bool}(m:Z0e g i b D=some r) :
 FnOk Tryz.prog 112 [(.slice A2 N2 D2),(iv i),(.slice A5 N5 D5),(iv D)] [aQ kT3 (.slice A2 N2 D2) g,aQ kT3 (.slice A5 N5 D5) b] (fun (h:HH×HH)=>((.tuple [(s3 h.1),(s3 h.2),(.bool r.2.2)].toArray),[ow kT3 3 (s3 h.1) r.1,ow kT165 165 (s3 h.2) r.2.1])):=by
 unfold Z0e at m
 refine aR Tryz.func112 R 67 R R fun C V=>?_
 refine cL 0 aA ?_
 rintro rfl
 refine cL 1 aA ?_
 rintro rfl
 let T:=RR kT3 A2 D2 g::RR kT3 A5 D5 b::V
 refine cN T ?_
 refine dC ?_
 obtain ⟨r7,al,m⟩:=bd m
 obtain ⟨Y,m⟩:=gd m
 refine cQ [(0,(sc A2 g D2)),(1,(iv i)),(2,(sc A5 b D5)),(3,(iv D)),(31,(.bool (((!r7)||((b.length:Int) != (ix g i)))||(decide (D<1)))))] (T) ?_ ?_
 refine aU ?_
 refine lM _ (fun w s=>(s.d 0 R)) ?_
 refine lC 1 hH R (Zm_ok al) R ?_
 rintro _
 refine lN T ?_
 refine aZ ?_
 rcases bo (!r7) with u | u
 refine lv ?_
 exact qj tI
 refine bI ?_
 refine bG 0 aA (show 0<g.length by have:=(Y u); omega) (fun av o11 ha=>?_)
 subst ha
 refine lW (bJ u) (eE bT cS R R (Y u)) (lW (bJ u) (hX 0 fR aA R (Y u)) ?_)
 refine aU ?_
 rcases bo ((!r7)||((b.length:Int) != (ix g i))) with a2 | a2
 refine bI ?_
 exact qj tI
 refine bI ?_
 exact qj tI
 rintro σ1
 refine cA ?_
 split at m
 refine dA ?_
 cases m
 exact iI ((none,0,0),(none,0,0)) (fun w s=>(((s.nilo kT3 3).nilo kT165 165).e 4 [1,0]))
 refine cR ?_
 refine bU (K:=kT165) (xs:=([]:List pair)) (vs:=[]) 0 R R fO fP eV R R R R R R ?_ R (fun ab ae=>?_)
 exact fun I h s=>(jy).list [] I h s
 refine bI ?_
 refine bE (A:=((List pair))×(HH)) (fun a=>Z0e_J1 g i D a.1=some r) (fun a=>[(0,(sc A2 g D2)),(1,(iv i)),(3,(iv D)),(11,(s3 a.2))]) (fun a=>ow kT165 165 (s3 a.2) a.1::T) ?_ ?_
 refine dI ?_
 obtain ⟨e1,ak,a7⟩:=bd m
 refine bF (A:=HH×HH) ak (fun s a=>[(0,(sc A2 g D2)),(1,(iv i)),(3,(iv D)),(11,(s3 a.1)),(33,(s3 a.2)),(34,(il b)),(35,(iv s.2))]) (fun s a=>ow kT165 165 (s3 a.1) s.1::aQ kT3 (s3 a.2) b::T) ((ab,([]:List pair).length,ae),(A5,b.length,D5)) (aS R) (fun w s=>((s.d 2 R).e 2 [1,0])) ?_
 rintro ⟨j,l⟩ ⟨⟨E,ah,J⟩,⟨ao,ai,L⟩⟩ σ1 an m a4
 dsimp only [Z0e_L1] at m
 refine bQ 0 aB (fun (hn:ah=j.length)=>?_)
 subst hn
 refine bQ 1 aA (fun (hn:ai=b.length)=>?_)
 subst hn
 refine cE ?_
 split at m
 refine cE ?_
 obtain ⟨a5,m⟩:=gd m
 refine aZ ?_
 refine bG 1 aA (show 0<b.length by have:=a5; omega) (fun U o32 ha=>?_)
 subst ha
 refine dI ?_
 refine cQ [(0,(sc A2 g D2)),(1,(iv i)),(3,(iv D)),(11,(sc E j J)),(12,(iv l)),(13,(iv (ix b l))),(33,(sc (ad U o32) b L)),(34,(il b)),(35,(iv l)),(46,(.bool ((decide ((ix b l)<0))||(decide ((ix b l)≥D)))))] (OO kT165 165 E J j::RR kT3 (ad U o32) L b::T) ?_ ?_
 refine bI ?_
 rcases bo (decide ((ix b l)<0)) with a3 | a3
 refine cR ?_
 exact qj tI
 refine cR ?_
 exact qj tI
 rintro σ1
 refine cA ?_
 split at m
 refine iY ?_
 cases m
 obtain rfl:=a4 _ R
 have m:=a7
 refine aU ?_
 cases m
 exact iI ((none,0,0),(none,0,0)) (fun w s=>(((s.nilo kT3 3).nilo kT165 165).e 6 [1,0]))
 refine aU ?_
 obtain ⟨a6,m⟩:=gd m
 refine bI ?_
 refine lO (vz (.agg [(iv l),(iv (ix b l))].toArray) (aV mS eV R R)) (bU (K:=kT165) (xs:=([(⟨l,(ix b l)⟩:pair)]:List pair)) (vs:=[(.agg [(iv l),(iv (ix b l))].toArray)]) 0 R R fO fP eV R R R R R R ?_ R (fun ap aq=>?_))
 exact fun I h s=>(jy).list [(((),()),(⟨l,(ix b l)⟩:pair))] I h s
 refine lM _ (tE 3 [1,0,2]) ?_
 refine eO (K:=kT165) 8796093022208 R R fO fP lY (Zr.zk zT165 eV) R R R R R R dQ a6 (fun a0 a1=>(lN (OO kT165 165 a0 a1 (j++([(⟨l,(ix b l)⟩:pair)]:List pair))::_::T) ?_))
 refine dI ?_
 cases m
 exact qA ((a0,(j++([(⟨l,(ix b l)⟩:pair)]:List pair)).length,a1),((ad U o32),b.length,L)) tI
 refine aU ?_
 cases m
 obtain rfl:=a4 _ R
 have m:=a7
 refine aZ ?_
 exact qI (j,(E,j.length,J)) m (tE 2 [0])
 rintro ⟨q,⟨F,aj,M⟩⟩ σ1 m
 dsimp only [Z0e_J1] at m
 refine bQ 0 aB (fun (hn:aj=q.length)=>?_)
 subst hn
 refine cA ?_
 obtain ⟨Z,a8,m⟩:=bd m
 refine bI ?_
 refine lM _ (fun w s=>(s.d 1 R)) ?_
 refine lC 1 qK R (Z1k_ok a8) R ?_
 rintro ⟨G,ar,O⟩
 refine aM 0 aB ?_
 rintro rfl
 refine cR ?_
 obtain ⟨aw,a9,m⟩:=bd m
 refine aZ ?_
 refine lC 1 ly R (FnOk.lends (A':=[OO kT3 3 G O Z]) (A:=[RR kT3 G O Z]) (B:=[]) (Zd_ok a9) ⟨aP,trivial⟩ (fun _=>trivial)) R ?_
 rintro _
 refine aU ?_
 split at m
 refine dA ?_
 cases m
 exact iI ((none,0,0),(none,0,0)) (fun w s=>(((s.nilo kT3 3).nilo kT165 165).e 6 [1,0]))
 refine bI ?_
 obtain ⟨am,aa,m⟩:=bd m
 refine cE ?_
 refine lM _ (fun w s=>((s.d 2 R).e 3 [2,0,1])) ?_
 refine lC 2 te R (FnOk.lends (A':=[OO kT165 165 F M q]) (A:=[RR kT165 F M q]) (B:=[RR kT3 A2 D2 g]) (FnOk.perm (Z7_ok aa) (Pre':=[RR kT165 F M q,RR kT3 A2 D2 g]) (fun _ _ _ s=>(s.e 2 [1,0]))) ⟨aP,trivial⟩ (fun _=>⟨(bB sY),trivial⟩)) R ?_
 rintro ⟨ac,au,ag⟩
 refine aM 1 aB ?_
 rintro rfl
 refine cE ?_
 cases m
 exact iI ((G,Z.length,O),(ac,am.length,ag)) (tE 5 [2,1])
theorem Z23_ok  {p1:(List Int)}{a:(List Int)}{r:(List Int)×(List pair)×Bool}(b:Z23 p1 a=some r) :
 FnOk Tryz.prog 111 [(.slice A2 N2 D2),(.slice A4 N4 D4)] [aQ kT3 (.slice A2 N2 D2) p1,aQ kT3 (.slice A4 N4 D4) a] (fun (h:HH×HH)=>((.tuple [(s3 h.1),(s3 h.2),(.bool r.2.2)].toArray),[ow kT3 3 (s3 h.1) r.1,ow kT165 165 (s3 h.2) r.2.1])):=by
 unfold Z23 at b
 refine aR Tryz.func111 R 20 R R fun C V=>?_
 refine cL 0 aA ?_
 rintro rfl
 refine cL 1 aA ?_
 rintro rfl
 let B:=RR kT3 A2 D2 p1::RR kT3 A4 D4 a::V
 refine cN B ?_
 refine dI ?_
 obtain ⟨q,b⟩:=gd b
 obtain ⟨g,b⟩:=gd b
 obtain ⟨_,b⟩:=gd b
 obtain ⟨j,i,b⟩:=bd b
 refine bA 0 aA (show 0<p1.length by have:=q; omega) (fun E o7 D=>?_)
 subst D
 refine cX 16 [] bM fun G F=>?_
 refine kz 0 [] ?_
 refine iJ 6 [] ?_
 refine d1 5 R (gQ (K:=kT3) (2:Int) (p1.length:Int) 0 R R bT cS R R R R g.1 g.2.1 g.2.2 (fun A9 D9=>(aC (aG (sL [0]) (d1 9 R (lM _ (fun w s=>(((s.d 2 R).d 1 R).e 3 [1,0,2])) ?_))))))
 refine lC 2 Ag R (Z0e_ok i) R ?_
 rintro ⟨⟨l,u,m⟩,⟨A14,N14,D14⟩⟩
 refine aM 0 aB ?_
 rintro rfl
 refine aM 1 aB ?_
 rintro rfl
 refine aC (aG (sL [2,1,0]) ?_)
 refine sT 10 [2,1,0] ?_
 refine dD ?_
 refine aZ ?_
 cases b
 exact iI ((l,j.1.length,m),(A14,j.2.1.length,D14)) (tE 5 [0,1])
theorem Z2r_ok  {a:Node}{b:(List Int)}{m:Int}{i:Int}{E:Nat}{j:Nat}{g:Nat}{r:(List Int)×(List pair)×Bool}(l:Z2r a b m i=some r) :
 FnOk Tryz.prog 143 [(.agg [(iv a.Op),(.slice A2 N2 D2),(.slice A3 N3 D3),(.slice A4 N4 D4),(aH a.Form),(.slice A5 N5 D5)].toArray),(.slice A7 N7 D7),(pt E 0),(pt j 0),(pt g 0)] [aQ kT3 (.slice A2 N2 D2) a.Args,aQ kT3 (.slice A3 N3 D3) a.Dims,aQ kT3 (.slice A4 N4 D4) a.Ints,aQ kT3 (.slice A5 N5 D5) a.Data,aQ kT3 (.slice A7 N7 D7) b,aJ E [(iv m)] 3,aJ j [(iv i)] 3,aJ g [(.func (.func 111) [].toArray [].toArray)] 136] (fun (h:HH×HH)=>((.tuple [(s3 h.1),(s3 h.2),(.bool r.2.2)].toArray),[ow kT3 3 (s3 h.1) r.1,ow kT165 165 (s3 h.2) r.2.1,aJ E [(iv m)] 3,aJ j [(iv i)] 3,aJ g [(.func (.func 111) [].toArray [].toArray)] 136])):=by
 unfold Z2r at l
 refine aR Tryz.func143 R 30 R R fun C V=>?_
 refine cM _ (fun w s=>(s.f 8 [5,3,0,5])) ?_
 refine cL 3 aA ?_
 rintro rfl
 refine cL 4 aA ?_
 rintro rfl
 refine cL 5 aA ?_
 rintro rfl
 refine cL 6 aA ?_
 rintro rfl
 refine cL 7 aA ?_
 rintro rfl
 let T:=RR kT3 A2 D2 a.Args::RR kT3 A3 D3 a.Dims::RR kT3 A4 D4 a.Ints::RR kT3 A5 D5 a.Data::RR kT3 A7 D7 b::V
 refine aZ ?_
 refine eA R fun q=>?_
 refine bI ?_
 let L:=aJ q [(iv a.Op),(sc A2 a.Args D2),(sc A3 a.Dims D3),(sc A4 a.Ints D4),(aH a.Form),(sc A5 a.Data D5)] 65::aJ E [(iv m)] 3::aJ j [(iv i)] 3::aJ g [(.func (.func 111) [].toArray [].toArray)] 136::T
 refine qN L ?_
 refine aU ?_
 refine cQ [(1,(sc A7 b D7)),(4,(pt g 0)),(5,(pt q 0)),(21,(.bool ((decide ((a.Ints.length:Int)<m))||(decide ((a.Ints.length:Int)>i)))))] (L) ?_ ?_
 refine dO ?_
 rcases bo (decide ((a.Ints.length:Int)<m)) with u | u
 refine dO ?_
 exact qj tI
 refine dO ?_
 exact qj tI
 rintro σ1
 refine cA ?_
 split at l
 refine dA ?_
 cases l
 exact iI ((none,0,0),(none,0,0)) (fun w s=>(((s.nilo kT3 3).nilo kT165 165).e 11 [1,0,3,4,5]))
 refine bI ?_
 obtain ⟨D,B,l⟩:=bd l
 refine cR ?_
 refine lM _ (fun w s=>(((s.d 6 R).d 9 R).e 2 [1,0])) ?_
 refine cO (fs:=[]) (cs:=[]) 2 R R Ah R R (Z23_ok B) R ?_
 rintro ⟨⟨F,M,I⟩,⟨G,O,J⟩⟩
 refine aM 0 aB ?_
 rintro rfl
 refine aM 1 aB ?_
 rintro rfl
 refine dC ?_
 cases l
 exact iI ((F,D.1.length,I),(G,D.2.1.length,J)) (fun w s=>(s.f 11 [0,2,3,3]))
theorem Z1s_ok  {k1:shiftKind}{F:Int}{G:Int}{b:Node}{a:(List (List Int))}{j:Nat}{l:Nat}{m:Nat}{r:(List Int)×Bool}(i:Z1s k1 F G b a=some r) :
 FnOk Tryz.prog 217 [(.agg [(aH k1.use),(.func (.func 143) [].toArray [(pt j 0),(pt l 0),(pt m 0)].toArray)].toArray),(.agg [(iv b.Op),(.slice A9 N9 D9),(.slice A10 N10 D10),(.slice A11 N11 D11),(aH b.Form),(.slice A12 N12 D12)].toArray),(.slice A14 N14 D14)] [aJ j [(iv F)] 3,aJ l [(iv G)] 3,aJ m [(.func (.func 111) [].toArray [].toArray)] 136,aQ kT3 (.slice A9 N9 D9) b.Args,aQ kT3 (.slice A10 N10 D10) b.Dims,aQ kT3 (.slice A11 N11 D11) b.Ints,aQ kT3 (.slice A12 N12 D12) b.Data,aQ kT23 (.slice A14 N14 D14) a] (fun (h:HH)=>((.tuple [(s3 h),(.bool r.2)].toArray),[ow kT3 3 (s3 h) r.1,aJ j [(iv F)] 3,aJ l [(iv G)] 3,aJ m [(.func (.func 111) [].toArray [].toArray)] 136])):=by
 unfold Z1s at i
 refine aR Tryz.func217 R 27 R R fun C V=>?_
 refine cL 3 aA ?_
 rintro rfl
 refine cL 4 aA ?_
 rintro rfl
 refine cL 5 aA ?_
 rintro rfl
 refine cL 6 aA ?_
 rintro rfl
 refine cL 7 aA ?_
 rintro rfl
 let Y:=RR kT3 A9 D9 b.Args::RR kT3 A10 D10 b.Dims::RR kT3 A11 D11 b.Ints::RR kT3 A12 D12 b.Data::RR kT23 A14 D14 a::V
 refine aZ ?_
 refine eA R fun D=>?_
 refine eA R fun E=>?_
 refine aU ?_
 refine qM _ (fun w s=>(s.f 5 [2,3,0,2])) ?_
 let W1:=aJ E [(iv b.Op),(sc A9 b.Args D9),(sc A10 b.Dims D10),(sc A11 b.Ints D11),(aH b.Form),(sc A12 b.Data D12)] 65::aJ D [(aH k1.use),(.func (.func 143) [].toArray [(pt j 0),(pt l 0),(pt m 0)].toArray)] 131::Y
 refine dC ?_
 split at i
 refine dC ?_
 cases i
 exact jW (none,0,0) (fun w s=>((s.nilo kT3 3).f 11 [0,4]))
 refine bI ?_
 obtain ⟨g,i⟩:=gd i
 obtain ⟨I,q,i⟩:=bd i
 refine bA 9 aA (show 0<a.length by have:=g; omega) (fun Z o20 ha=>?_)
 subst ha
 refine dG (K:=kT23) 9 (0:Int) dT23.dec R g.1 g.2 ?_
 rintro ⟨J,M⟩
 refine cX 14 [] bM fun ht hn=>?_
 refine kz 0 [] ?_
 refine dR 5 R (eD (fo:=0) 0 cB R R R) (d1 6 R (lM _ (fun w s=>((((((s.d 7 R).d 9 R).d 11 R).d 13 R).d 5 R).e 10 [4,3,2,1,0,7,8,9,5,6])) ?_))
 refine cO (fs:=[]) (cs:=[(pt j 0),(pt l 0),(pt m 0)]) 8 R R qP R R (Z2r_ok q) R ?_
 rintro ⟨⟨u,T,B⟩,⟨L,U,O⟩⟩
 refine aM 0 aB ?_
 rintro rfl
 refine aM 1 aB ?_
 rintro rfl
 refine aC (aG (fun w s=>(s.f 7 [5,2,2,3])) (dR 7 R (vT R) (hS:=(fun w s=>(s.f 7 [5,2,2,3]))) (dR 8 R (vS R) (hS:=(fun w s=>(s.f 7 [5,2,2,3]))) (dR 9 R (vS R) (hS:=(fun w s=>(s.f 7 [5,2,2,3]))) (dR 10 R (vB R) (hS:=(fun w s=>(s.f 7 [5,2,2,3]))) (dR 11 R (vS R) (hS:=(fun w s=>(s.f 7 [5,2,2,3]))) (dR 12 R (vS R) (hS:=(fun w s=>(s.f 7 [5,2,2,3]))) (dR 13 R (vB R) (hS:=(fun w s=>(s.f 7 [5,2,2,3]))) (dD ?_)))))))))
 refine dA ?_
 cases i
 exact jW (u,I.1.length,B) (tE 14 [0,2,3,4])
theorem Z4_ok  {b:(List Int)}{g:Int}{j:Int}{E:Int}{r:(List Int)×(List pair)×Bool}(l:Z4 b g j E=some r) :
 FnOk Tryz.prog 114 [(.slice A2 N2 D2),(iv g),(iv j),(iv E)] [aQ kT3 (.slice A2 N2 D2) b] (fun (h:HH×HH)=>((.tuple [(s3 h.1),(s3 h.2),(.bool r.2.2)].toArray),[aQ kT3 (s3 h.1) r.1,ow kT165 165 (s3 h.2) r.2.1])):=by
 unfold Z4 at l
 refine aR Tryz.func114 R 151 R R fun C V=>?_
 refine cL 0 aA ?_
 rintro rfl
 let W0:=RR kT3 A2 D2 b::V
 refine cN W0 ?_
 refine rv ?_
 obtain ⟨r6,a7,l⟩:=bd l
 obtain ⟨a8,l⟩:=gd l
 obtain ⟨al,l⟩:=gd l
 obtain ⟨am,l⟩:=gd l
 obtain ⟨b9,l⟩:=gd l
 refine cQ [(0,(sc A2 b D2)),(1,(iv g)),(2,(iv j)),(3,(iv E)),(11,(iv (aK ((b.length:Int) - 1)))),(68,(.bool (((((((!r6)||(g==(aK ((b.length:Int) - 1))))||(decide (j<1)))||(decide (E<1)))||(decide (E>4096)))||(decide ((ix b (aK ((b.length:Int) - 1)))>E)))||((ix b g) != (aK ((aK ((aK (E - (ix b (aK ((b.length:Int) - 1))))).tdiv j))+1))))))] (W0) ?_ ?_
 rcases bo (!r6) with G | G
 refine cX 45 [] bM fun ht hn=>?_
 refine hY 0 [] ?_
 refine d1 2 R (lM _ (fun w s=>(s.d 0 R)) ?_)
 refine lC 1 hH R (Zm_ok a7) R ?_
 rintro _
 refine lN W0 ?_
 refine aC (aG (sL []) ?_)
 refine kz 3 [] ?_
 refine dR 8 R (dX (g==(aK ((b.length:Int) - 1))) R G) ?_
 refine iJ 9 [] ?_
 refine dR 12 R (dX (decide (j<1)) R (oT G)) ?_
 refine iJ 13 [] ?_
 refine dR 16 R (dX (decide (E<1)) R (oT (oT G))) ?_
 refine iJ 17 [] ?_
 refine dR 20 R (dX (decide (E>4096)) R (oT (oT (oT G)))) ?_
 refine sU 21 [] ?_
 refine dR 28 R (dX (decide ((ix b (aK ((b.length:Int) - 1)))>E)) R (oT (oT (oT (oT G))))) ?_
 refine oK 29 [] ?_
 refine pA 33 [] ?_
 refine dR 44 R (dX ((ix b g) != (aK ((aK ((aK (E - (ix b (aK ((b.length:Int) - 1))))).tdiv j))+1))) R (oT (oT (oT (oT (oT G)))))) (dD ?_)
 exact qj tI
 rcases bo ((!r6)||(g==(aK ((b.length:Int) - 1)))) with U | U
 refine cX 45 [] bM fun ht hn=>?_
 refine hY 0 [] ?_
 refine d1 2 R (lM _ (fun w s=>(s.d 0 R)) ?_)
 refine lC 1 hH R (Zm_ok a7) R ?_
 rintro _
 refine lN W0 ?_
 refine aC (aG (sL []) ?_)
 refine kz 3 [] ?_
 refine dR 8 R (eH R G R) ?_
 refine iJ 9 [] ?_
 refine dR 12 R (dX (decide (j<1)) R U) ?_
 refine iJ 13 [] ?_
 refine dR 16 R (dX (decide (E<1)) R (oT U)) ?_
 refine iJ 17 [] ?_
 refine dR 20 R (dX (decide (E>4096)) R (oT (oT U))) ?_
 refine sU 21 [] ?_
 refine dR 28 R (dX (decide ((ix b (aK ((b.length:Int) - 1)))>E)) R (oT (oT (oT U)))) ?_
 refine uJ 29 [] ?_
 refine sU 37 [] ?_
 refine dR 44 R (dX ((ix b g) != (aK ((aK ((aK (E - (ix b (aK ((b.length:Int) - 1))))).tdiv j))+1))) R (oT (oT (oT (oT U))))) (dD ?_)
 exact qj tI
 rcases bo (((!r6)||(g==(aK ((b.length:Int) - 1))))||(decide (j<1))) with a1 | a1
 refine cX 45 [] bM fun ht hn=>?_
 refine hY 0 [] ?_
 refine d1 2 R (lM _ (fun w s=>(s.d 0 R)) ?_)
 refine lC 1 hH R (Zm_ok a7) R ?_
 rintro _
 refine lN W0 ?_
 refine aC (aG (sL []) ?_)
 refine kz 3 [] ?_
 refine dR 8 R (eH R G R) ?_
 refine iJ 9 [] ?_
 refine dR 12 R (eH R U R) ?_
 refine iJ 13 [] ?_
 refine dR 16 R (dX (decide (E<1)) R a1) ?_
 refine iJ 17 [] ?_
 refine dR 20 R (dX (decide (E>4096)) R (oT a1)) ?_
 refine sU 21 [] ?_
 refine dR 28 R (dX (decide ((ix b (aK ((b.length:Int) - 1)))>E)) R (oT (oT a1))) ?_
 refine pA 29 [] ?_
 refine oK 40 [] ?_
 refine dR 44 R (dX ((ix b g) != (aK ((aK ((aK (E - (ix b (aK ((b.length:Int) - 1))))).tdiv j))+1))) R (oT (oT (oT a1)))) (dD ?_)
 exact qj tI
 rcases bo ((((!r6)||(g==(aK ((b.length:Int) - 1))))||(decide (j<1)))||(decide (E<1))) with a2 | a2
 refine cX 45 [] bM fun ht hn=>?_
 refine hY 0 [] ?_
 refine d1 2 R (lM _ (fun w s=>(s.d 0 R)) ?_)
 refine lC 1 hH R (Zm_ok a7) R ?_
 rintro _
 refine lN W0 ?_
 refine aC (aG (sL []) ?_)
 refine kz 3 [] ?_
 refine dR 8 R (eH R G R) ?_
 refine iJ 9 [] ?_
 refine dR 12 R (eH R U R) ?_
 refine iJ 13 [] ?_
 refine dR 16 R (eH R a1 R) ?_
 refine iJ 17 [] ?_
 refine dR 20 R (dX (decide (E>4096)) R a2) ?_
 refine sU 21 [] ?_
 refine dR 28 R (dX (decide ((ix b (aK ((b.length:Int) - 1)))>E)) R (oT a2)) ?_
 refine uL 29 [] ?_
 refine oJ 43 [] ?_
 refine dR 44 R (dX ((ix b g) != (aK ((aK ((aK (E - (ix b (aK ((b.length:Int) - 1))))).tdiv j))+1))) R (oT (oT a2))) (dD ?_)
 exact qj tI
 rcases bo (((((!r6)||(g==(aK ((b.length:Int) - 1))))||(decide (j<1)))||(decide (E<1)))||(decide (E>4096))) with B | B
 refine cX 45 [] bM fun ht hn=>?_
 refine hY 0 [] ?_
 refine d1 2 R (lM _ (fun w s=>(s.d 0 R)) ?_)
 refine lC 1 hH R (Zm_ok a7) R ?_
 rintro _
 refine lN W0 ?_
 refine aC (aG (sL []) ?_)
 refine kz 3 [] ?_
 refine dR 8 R (eH R G R) ?_
 refine iJ 9 [] ?_
 refine dR 12 R (eH R U R) ?_
 refine iJ 13 [] ?_
 refine dR 16 R (eH R a1 R) ?_
 refine iJ 17 [] ?_
 refine dR 20 R (eH R a2 R) ?_
 refine sU 21 [] ?_
 refine dR 28 R (dX (decide ((ix b (aK ((b.length:Int) - 1)))>E)) R B) ?_
 refine xd 29 [] ?_
 refine dR 44 R (dX ((ix b g) != (aK ((aK ((aK (E - (ix b (aK ((b.length:Int) - 1))))).tdiv j))+1))) R (oT B)) (dD ?_)
 exact qj tI
 rcases bo ((((((!r6)||(g==(aK ((b.length:Int) - 1))))||(decide (j<1)))||(decide (E<1)))||(decide (E>4096)))||(decide ((ix b (aK ((b.length:Int) - 1)))>E))) with J | J
 refine bA 0 aA (show 0<b.length by have:=(a8 B); omega) (fun g9 o10 ha=>?_)
 subst ha
 refine cX 45 [] bM fun ht hn=>?_
 refine hY 0 [] ?_
 refine d1 2 R (lM _ (fun w s=>(s.d 0 R)) ?_)
 refine lC 1 hH R (Zm_ok a7) R ?_
 rintro _
 refine lN W0 ?_
 refine aC (aG (sL []) ?_)
 refine kz 3 [] ?_
 refine dR 8 R (eH R G R) ?_
 refine iJ 9 [] ?_
 refine dR 12 R (eH R U R) ?_
 refine iJ 13 [] ?_
 refine dR 16 R (eH R a1 R) ?_
 refine iJ 17 [] ?_
 refine dR 20 R (eH R a2 R) ?_
 refine iJ 21 [] ?_
 refine dW 24 R (bJ B) (eE bT cS R R (a8 B)) (dW 25 R (bJ B) (hX 0 fR aA R (a8 B)) ?_)
 refine hY 26 [] ?_
 refine dR 28 R (eH R B R) ?_
 refine xd 29 [] ?_
 refine dR 44 R (dX ((ix b g) != (aK ((aK ((aK (E - (ix b (aK ((b.length:Int) - 1))))).tdiv j))+1))) R J) (dD ?_)
 exact qj tI
 refine bA 0 aA (show 0<b.length by have:=(a8 B); omega) (fun g9 o10 ha=>?_)
 subst ha
 refine cX 45 [] bM fun ht hn=>?_
 refine hY 0 [] ?_
 refine d1 2 R (lM _ (fun w s=>(s.d 0 R)) ?_)
 refine lC 1 hH R (Zm_ok a7) R ?_
 rintro _
 refine lN W0 ?_
 refine aC (aG (sL []) ?_)
 refine kz 3 [] ?_
 refine dR 8 R (eH R G R) ?_
 refine iJ 9 [] ?_
 refine dR 12 R (eH R U R) ?_
 refine iJ 13 [] ?_
 refine dR 16 R (eH R a1 R) ?_
 refine iJ 17 [] ?_
 refine dR 20 R (eH R a2 R) ?_
 refine iJ 21 [] ?_
 refine dW 24 R (bJ B) (eE bT cS R R (a8 B)) (dW 25 R (bJ B) (hX 0 fR aA R (a8 B)) ?_)
 refine hY 26 [] ?_
 refine dR 28 R (eH R B R) ?_
 refine iJ 29 [] ?_
 refine dW 32 R (bJ J) (eE bT cS R R (al J)) (dW 33 R (bJ J) (hX 0 fR aA R (al J)) ?_)
 refine iJ 34 [] ?_
 refine dW 37 R (bJ J) (eE bT cS R R (am J)) (dW 38 R (bJ J) (hX 0 fR aA R (am J)) ?_)
 refine hY 39 [] ?_
 refine dW 41 R (bJ J) (vz (iv (aK ((aK (E - (ix b (aK ((b.length:Int) - 1))))).tdiv j))) (mC R R (b9 J))) ?_
 refine hY 42 [] ?_
 refine dR 44 R (eH R J R) (dD ?_)
 exact qj tI
 rintro σ1
 refine cA ?_
 split at l
 refine dA ?_
 cases l
 exact iI ((none,0,0),(none,0,0)) (fun w s=>(((s.nilr kT3).nilo kT165 165).e 3 [1,0]))
 refine bI ?_
 obtain ⟨F,bb,l⟩:=bd l
 obtain ⟨a9,l⟩:=gd l
 refine bI ?_
 refine lM _ (fun w s=>(s.d 0 R)) ?_
 refine lC 1 qK R (Z1k_ok bb) R ?_
 rintro ⟨c4,c8,c6⟩
 refine aM 0 aB ?_
 rintro rfl
 refine lI R (je (fun w s=>s.shr 0 R) (gQ (K:=kT3) (0:Int) (aK ((b.length:Int) - 1)) 0 R R bT cS R R R R a9.1 a9.2.1 a9.2.2 (fun M O=>(lS R (aC (aE (aI (aI ?_))))))))
 obtain ⟨ca,bc,l⟩:=bd l
 refine aZ ?_
 refine lM _ (fun w s=>(s.d 0 R)) ?_
 refine lC 1 ly R (Zd_ok bc) R ?_
 rintro _
 refine aU ?_
 split at l
 refine dA ?_
 cases l
 exact iI ((none,0,0),(none,0,0)) (fun w s=>(((s.nilr kT3).nilo kT165 165).e 5 [1,0]))
 refine bI ?_
 refine bE (A:=(Int)×(Unit)) (fun a=>Z4_J1 b g E F a.1=some r) (fun a=>[(0,(sc A2 b D2)),(1,(iv g)),(2,(iv a.1)),(3,(iv E)),(11,(iv (aK ((b.length:Int) - 1)))),(12,(sc M (sub F (0:Int) (aK ((b.length:Int) - 1))) O))]) (fun a=>RR kT3 M O (sub F (0:Int) (aK ((b.length:Int) - 1)))::W0) ?_ ?_
 refine cA ?_
 obtain ⟨ba,l⟩:=gd l
 refine aU ?_
 refine bG 2 aA (show 0<b.length by have:=ba; omega) (fun c9 o31 ha=>?_)
 subst ha
 refine cR ?_
 split at l
 refine bI ?_
 exact qI ((0:Int),()) l (tE 2 [0])
 refine aZ ?_
 exact qI (j,()) l (tE 2 [0])
 rintro ⟨m,_⟩ σ1 l
 dsimp only [Z4_J1] at l
 refine cA ?_
 obtain ⟨aa,l⟩:=gd l
 obtain ⟨i,be,l⟩:=bd l
 refine aU ?_
 refine gQ (K:=kT3) (0:Int) (aK ((b.length:Int) - 1)) 1 R R bT cS R R R R aa.1 aa.2.1 aa.2.2 (fun c5 c7=>(lI R (lM _ (fun w s=>(s.d 0 R)) ?_)))
 refine lC 1 wy R (Z25_ok be) R ?_
 rintro _
 refine lO (vT R) ?_
 refine dA ?_
 refine bU (K:=kT165) (xs:=([]:List pair)) (vs:=[]) 0 R R fO fP eV R R R R R R ?_ R (fun bi bj=>?_)
 exact fun I h s=>(jy).list [] I h s
 refine bI ?_
 refine bE (A:=((List pair))×(HH)) (fun a=>Z4_J16 b F a.1=some r) (fun a=>[(12,(sc M (sub F (0:Int) (aK ((b.length:Int) - 1))) O)),(16,(s3 a.2))]) (fun a=>RR kT3 M O (sub F (0:Int) (aK ((b.length:Int) - 1)))::ow kT165 165 (s3 a.2) a.1::W0) ?_ ?_
 refine cE ?_
 obtain ⟨e1,bu,bp⟩:=bd l
 refine bF (A:=HH) bu (fun s a=>[(0,(sc A2 b D2)),(2,(iv m)),(3,(iv E)),(11,(iv (aK ((b.length:Int) - 1)))),(12,(sc M (sub F (0:Int) (aK ((b.length:Int) - 1))) O)),(13,(iv i.1)),(14,(iv i.2.1)),(15,(iv i.2.2)),(16,(s3 a)),(17,(iv s.2))]) (fun s a=>RR kT3 M O (sub F (0:Int) (aK ((b.length:Int) - 1)))::ow kT165 165 (s3 a) s.1::W0) (bi,([]:List pair).length,bj) (aS R) (tE 3 [2,0]) ?_
 rintro ⟨Y,q⟩ ⟨ab,b1,ah⟩ σ1 bf l bk
 dsimp only [Z4_L1] at l
 refine bQ 1 aB (fun (hn:b1=Y.length)=>?_)
 subst hn
 refine dI ?_
 split at l
 refine bI ?_
 refine bE (A:=((List pair))×(HH)) (fun a=>Z4_J15 q a.1=some bf) (fun a=>[(0,(sc A2 b D2)),(2,(iv m)),(3,(iv E)),(11,(iv (aK ((b.length:Int) - 1)))),(12,(sc M (sub F (0:Int) (aK ((b.length:Int) - 1))) O)),(13,(iv i.1)),(14,(iv i.2.1)),(15,(iv i.2.2)),(16,(s3 a.2)),(17,(iv q))]) (fun a=>RR kT3 M O (sub F (0:Int) (aK ((b.length:Int) - 1)))::ow kT165 165 (s3 a.2) a.1::W0) ?_ ?_
 refine dO ?_
 obtain ⟨e2,bv,bq⟩:=bd l
 refine bF (A:=HH) bv (fun s a=>[(0,(sc A2 b D2)),(2,(iv m)),(3,(iv E)),(11,(iv (aK ((b.length:Int) - 1)))),(12,(sc M (sub F (0:Int) (aK ((b.length:Int) - 1))) O)),(13,(iv i.1)),(14,(iv i.2.1)),(15,(iv i.2.2)),(16,(s3 a)),(17,(iv q)),(18,(iv s.2))]) (fun s a=>RR kT3 M O (sub F (0:Int) (aK ((b.length:Int) - 1)))::ow kT165 165 (s3 a) s.1::W0) (ab,Y.length,ah) (aS R) tI ?_
 rintro ⟨Z,u⟩ ⟨ac,b2,ai⟩ σ1 bg l bl
 dsimp only [Z4_L2] at l
 refine bQ 1 aB (fun (hn:b2=Z.length)=>?_)
 subst hn
 refine dI ?_
 split at l
 refine bI ?_
 refine bE (A:=((List pair))×(HH)) (fun a=>Z4_J14 u a.1=some bg) (fun a=>[(0,(sc A2 b D2)),(2,(iv m)),(3,(iv E)),(11,(iv (aK ((b.length:Int) - 1)))),(12,(sc M (sub F (0:Int) (aK ((b.length:Int) - 1))) O)),(13,(iv i.1)),(14,(iv i.2.1)),(15,(iv i.2.2)),(16,(s3 a.2)),(17,(iv q)),(18,(iv u))]) (fun a=>RR kT3 M O (sub F (0:Int) (aK ((b.length:Int) - 1)))::ow kT165 165 (s3 a.2) a.1::W0) ?_ ?_
 refine dO ?_
 obtain ⟨e3,bw,br⟩:=bd l
 refine bF (A:=HH) bw (fun s a=>[(0,(sc A2 b D2)),(2,(iv m)),(3,(iv E)),(11,(iv (aK ((b.length:Int) - 1)))),(12,(sc M (sub F (0:Int) (aK ((b.length:Int) - 1))) O)),(13,(iv i.1)),(14,(iv i.2.1)),(15,(iv i.2.2)),(16,(s3 a)),(17,(iv q)),(18,(iv u)),(19,(iv s.2))]) (fun s a=>RR kT3 M O (sub F (0:Int) (aK ((b.length:Int) - 1)))::ow kT165 165 (s3 a) s.1::W0) (ac,Z.length,ai) (aS R) tI ?_
 rintro ⟨a0,D⟩ ⟨ae,b3,aj⟩ σ1 bh l bm
 dsimp only [Z4_L3] at l
 refine bQ 1 aB (fun (hn:b3=a0.length)=>?_)
 subst hn
 refine dI ?_
 split at l
 refine bI ?_
 refine bE (A:=((List pair))×(HH)) (fun a=>Z4_J13 D a.1=some bh) (fun a=>[(0,(sc A2 b D2)),(2,(iv m)),(3,(iv E)),(11,(iv (aK ((b.length:Int) - 1)))),(12,(sc M (sub F (0:Int) (aK ((b.length:Int) - 1))) O)),(13,(iv i.1)),(14,(iv i.2.1)),(15,(iv i.2.2)),(16,(s3 a.2)),(17,(iv q)),(18,(iv u)),(19,(iv D))]) (fun a=>RR kT3 M O (sub F (0:Int) (aK ((b.length:Int) - 1)))::ow kT165 165 (s3 a.2) a.1::W0) ?_ ?_
 refine dO ?_
 obtain ⟨e4,bz,bs⟩:=bd l
 refine bF (A:=HH) bz (fun s a=>[(0,(sc A2 b D2)),(2,(iv m)),(3,(iv E)),(11,(iv (aK ((b.length:Int) - 1)))),(12,(sc M (sub F (0:Int) (aK ((b.length:Int) - 1))) O)),(13,(iv i.1)),(14,(iv i.2.1)),(15,(iv i.2.2)),(16,(s3 a)),(17,(iv q)),(18,(iv u)),(19,(iv D)),(20,(iv s.2))]) (fun s a=>RR kT3 M O (sub F (0:Int) (aK ((b.length:Int) - 1)))::ow kT165 165 (s3 a) s.1::W0) (ae,a0.length,aj) (aS R) tI ?_
 rintro ⟨L,T⟩ ⟨ap,b4,aw⟩ σ1 c3 l bn
 dsimp only [Z4_L4] at l
 refine bQ 1 aB (fun (hn:b4=L.length)=>?_)
 subst hn
 refine aZ ?_
 obtain ⟨an,l⟩:=gd l
 refine bI ?_
 refine bG 2 aA (show 0<b.length by have:=an; omega) (fun c2 o260 ha=>?_)
 subst ha
 refine cR ?_
 split at l
 refine cR ?_
 obtain ⟨ao,l⟩:=gd l
 refine xc ?_
 refine lO (vz (.agg [(iv (aK ((aK ((aK ((aK ((aK ((aK (q*i.2.1))+u))*i.2.2))+D))*(ix b (aK ((b.length:Int) - 1)))))+T))),(iv (aK ((aK ((aK ((aK ((aK (q*E))+(aK (u*m))))+T))*i.2.2))+D)))].toArray) (aV mS eV R R)) ?_
 refine bU (K:=kT165) (xs:=([(⟨(aK ((aK ((aK ((aK ((aK ((aK (q*i.2.1))+u))*i.2.2))+D))*(ix b (aK ((b.length:Int) - 1)))))+T)),(aK ((aK ((aK ((aK ((aK (q*E))+(aK (u*m))))+T))*i.2.2))+D))⟩:pair)]:List pair)) (vs:=[(.agg [(iv (aK ((aK ((aK ((aK ((aK ((aK (q*i.2.1))+u))*i.2.2))+D))*(ix b (aK ((b.length:Int) - 1)))))+T))),(iv (aK ((aK ((aK ((aK ((aK (q*E))+(aK (u*m))))+T))*i.2.2))+D)))].toArray)]) 0 R R fO fP eV R R R R R R ?_ R (fun c0 c1=>?_)
 exact fun I h s=>(jy).list [(((),()),(⟨(aK ((aK ((aK ((aK ((aK ((aK (q*i.2.1))+u))*i.2.2))+D))*(ix b (aK ((b.length:Int) - 1)))))+T)),(aK ((aK ((aK ((aK ((aK (q*E))+(aK (u*m))))+T))*i.2.2))+D))⟩:pair))] I h s
 refine lM _ (tE 3 [2,0,1]) ?_
 refine eO (K:=kT165) 8796093022208 R R fO fP lY (Zr.zk zT165 eV) R R R R R R dQ ao (fun ag ak=>(lN (OO kT165 165 ag ak (L++([(⟨(aK ((aK ((aK ((aK ((aK ((aK (q*i.2.1))+u))*i.2.2))+D))*(ix b (aK ((b.length:Int) - 1)))))+T)),(aK ((aK ((aK ((aK ((aK (q*E))+(aK (u*m))))+T))*i.2.2))+D))⟩:pair)]:List pair))::_::W0) ?_))
 refine dC ?_
 cases l
 exact qA (ag,(L++([(⟨(aK ((aK ((aK ((aK ((aK ((aK (q*i.2.1))+u))*i.2.2))+D))*(ix b (aK ((b.length:Int) - 1)))))+T)),(aK ((aK ((aK ((aK ((aK (q*E))+(aK (u*m))))+T))*i.2.2))+D))⟩:pair)]:List pair)).length,ak) (tE 2 [1,0])
 refine aU ?_
 cases l
 obtain rfl:=bn _ R
 have l:=bs
 refine aU ?_
 exact qI (L,(ap,L.length,aw)) l tI
 rintro ⟨a3,⟨aq,b5,ax⟩⟩ σ1 l
 dsimp only [Z4_J13] at l
 refine bQ 1 aB (fun (hn:b5=a3.length)=>?_)
 subst hn
 refine cR ?_
 cases l
 exact qA (aq,a3.length,ax) tI
 refine aU ?_
 cases l
 obtain rfl:=bm _ R
 have l:=br
 refine aU ?_
 exact qI (a0,(ae,a0.length,aj)) l tI
 rintro ⟨a4,⟨ar,b6,ay⟩⟩ σ1 l
 dsimp only [Z4_J14] at l
 refine bQ 1 aB (fun (hn:b6=a4.length)=>?_)
 subst hn
 refine cR ?_
 cases l
 exact qA (ar,a4.length,ay) tI
 refine aU ?_
 cases l
 obtain rfl:=bl _ R
 have l:=bq
 refine aU ?_
 exact qI (Z,(ac,Z.length,ai)) l tI
 rintro ⟨a5,⟨au,b7,az⟩⟩ σ1 l
 dsimp only [Z4_J15] at l
 refine bQ 1 aB (fun (hn:b7=a5.length)=>?_)
 subst hn
 refine cR ?_
 cases l
 exact qA (au,a5.length,az) tI
 refine aU ?_
 cases l
 obtain rfl:=bk _ R
 have l:=bp
 refine aZ ?_
 exact qI (Y,(ab,Y.length,ah)) l tI
 rintro ⟨a6,⟨av,b8,b0⟩⟩ σ1 l
 dsimp only [Z4_J16] at l
 refine bQ 1 aB (fun (hn:b8=a6.length)=>?_)
 subst hn
 refine dA ?_
 cases l
 exact iI ((M,(sub F (0:Int) (aK ((b.length:Int) - 1))).length,O),(av,a6.length,b0)) (tE 3 [0,1])
theorem Z24_ok  {p1:(List Int)}{a:(List Int)}{r:(List Int)×(List pair)×Bool}(b:Z24 p1 a=some r) :
 FnOk Tryz.prog 113 [(.slice A2 N2 D2),(.slice A4 N4 D4)] [aQ kT3 (.slice A2 N2 D2) p1,aQ kT3 (.slice A4 N4 D4) a] (fun (h:HH×HH)=>((.tuple [(s3 h.1),(s3 h.2),(.bool r.2.2)].toArray),[aQ kT3 (s3 h.1) r.1,ow kT165 165 (s3 h.2) r.2.1])):=by
 unfold Z24 at b
 refine aR Tryz.func113 R 21 R R fun C V=>?_
 refine cL 0 aA ?_
 rintro rfl
 refine cL 1 aA ?_
 rintro rfl
 let q:=RR kT3 A2 D2 p1::RR kT3 A4 D4 a::V
 refine cN q ?_
 refine dI ?_
 obtain ⟨l,b⟩:=gd b
 obtain ⟨_,b⟩:=gd b
 obtain ⟨_,b⟩:=gd b
 obtain ⟨g,e,b⟩:=bd b
 refine bA 0 aA (show 0<p1.length by have:=l; omega) (fun B o7 u=>?_)
 subst u
 refine cX 17 [] bM fun E D=>?_
 refine rx 0 [] ?_
 refine d1 10 R (lM _ (fun w s=>(s.d 1 R)) ?_)
 refine lC 1 Ai R (Z4_ok e) R ?_
 rintro ⟨⟨A12,N12,D12⟩,⟨i,m,j⟩⟩
 refine aM 0 aA ?_
 rintro rfl
 refine aM 1 aB ?_
 rintro rfl
 refine aC (aG (sL [1,0]) ?_)
 refine sT 11 [1,0] ?_
 refine dD ?_
 refine aZ ?_
 cases b
 exact iI ((A12,g.1.length,D12),(i,g.2.1.length,j)) (tE 4 [0,1])
theorem Z2s_ok  {a:Node}{b:(List Int)}{m:Int}{i:Int}{E:Nat}{j:Nat}{g:Nat}{r:(List Int)×(List pair)×Bool}(l:Z2s a b m i=some r) :
 FnOk Tryz.prog 143 [(.agg [(iv a.Op),(.slice A2 N2 D2),(.slice A3 N3 D3),(.slice A4 N4 D4),(aH a.Form),(.slice A5 N5 D5)].toArray),(.slice A7 N7 D7),(pt E 0),(pt j 0),(pt g 0)] [aQ kT3 (.slice A2 N2 D2) a.Args,aQ kT3 (.slice A3 N3 D3) a.Dims,aQ kT3 (.slice A4 N4 D4) a.Ints,aQ kT3 (.slice A5 N5 D5) a.Data,aQ kT3 (.slice A7 N7 D7) b,aJ E [(iv m)] 3,aJ j [(iv i)] 3,aJ g [(.func (.func 113) [].toArray [].toArray)] 136] (fun (h:HH×HH)=>((.tuple [(s3 h.1),(s3 h.2),(.bool r.2.2)].toArray),[aQ kT3 (s3 h.1) r.1,ow kT165 165 (s3 h.2) r.2.1,aJ E [(iv m)] 3,aJ j [(iv i)] 3,aJ g [(.func (.func 113) [].toArray [].toArray)] 136])):=by
 unfold Z2s at l
 refine aR Tryz.func143 R 30 R R fun C V=>?_
 refine cM _ (fun w s=>(s.f 8 [5,3,0,5])) ?_
 refine cL 3 aA ?_
 rintro rfl
 refine cL 4 aA ?_
 rintro rfl
 refine cL 5 aA ?_
 rintro rfl
 refine cL 6 aA ?_
 rintro rfl
 refine cL 7 aA ?_
 rintro rfl
 let T:=RR kT3 A2 D2 a.Args::RR kT3 A3 D3 a.Dims::RR kT3 A4 D4 a.Ints::RR kT3 A5 D5 a.Data::RR kT3 A7 D7 b::V
 refine aZ ?_
 refine eA R fun q=>?_
 refine bI ?_
 let L:=aJ q [(iv a.Op),(sc A2 a.Args D2),(sc A3 a.Dims D3),(sc A4 a.Ints D4),(aH a.Form),(sc A5 a.Data D5)] 65::aJ E [(iv m)] 3::aJ j [(iv i)] 3::aJ g [(.func (.func 113) [].toArray [].toArray)] 136::T
 refine qN L ?_
 refine aU ?_
 refine cQ [(1,(sc A7 b D7)),(4,(pt g 0)),(5,(pt q 0)),(21,(.bool ((decide ((a.Ints.length:Int)<m))||(decide ((a.Ints.length:Int)>i)))))] (L) ?_ ?_
 refine dO ?_
 rcases bo (decide ((a.Ints.length:Int)<m)) with u | u
 refine dO ?_
 exact qj tI
 refine dO ?_
 exact qj tI
 rintro σ1
 refine cA ?_
 split at l
 refine dA ?_
 cases l
 exact iI ((none,0,0),(none,0,0)) (fun w s=>(((s.nilr kT3).nilo kT165 165).e 11 [1,0,3,4,5]))
 refine bI ?_
 obtain ⟨D,B,l⟩:=bd l
 refine cR ?_
 refine lM _ (fun w s=>(((s.d 6 R).d 9 R).e 2 [1,0])) ?_
 refine cO (fs:=[]) (cs:=[]) 2 R R Aj R R (Z24_ok B) R ?_
 rintro ⟨⟨F,M,I⟩,⟨G,O,J⟩⟩
 refine aM 0 aA ?_
 rintro rfl
 refine aM 1 aB ?_
 rintro rfl
 refine dC ?_
 cases l
 exact iI ((F,D.1.length,I),(G,D.2.1.length,J)) (fun w s=>(s.f 11 [0,2,3,3]))
theorem Z1t_ok  {k1:shiftKind}{F:Int}{G:Int}{b:Node}{a:(List (List Int))}{j:Nat}{l:Nat}{m:Nat}{r:(List Int)×Bool}(i:Z1t k1 F G b a=some r) :
 FnOk Tryz.prog 217 [(.agg [(aH k1.use),(.func (.func 143) [].toArray [(pt j 0),(pt l 0),(pt m 0)].toArray)].toArray),(.agg [(iv b.Op),(.slice A9 N9 D9),(.slice A10 N10 D10),(.slice A11 N11 D11),(aH b.Form),(.slice A12 N12 D12)].toArray),(.slice A14 N14 D14)] [aJ j [(iv F)] 3,aJ l [(iv G)] 3,aJ m [(.func (.func 113) [].toArray [].toArray)] 136,aQ kT3 (.slice A9 N9 D9) b.Args,aQ kT3 (.slice A10 N10 D10) b.Dims,aQ kT3 (.slice A11 N11 D11) b.Ints,aQ kT3 (.slice A12 N12 D12) b.Data,aQ kT23 (.slice A14 N14 D14) a] (fun (h:HH)=>((.tuple [(s3 h),(.bool r.2)].toArray),[aQ kT3 (s3 h) r.1,aJ j [(iv F)] 3,aJ l [(iv G)] 3,aJ m [(.func (.func 113) [].toArray [].toArray)] 136])):=by
 unfold Z1t at i
 refine aR Tryz.func217 R 27 R R fun C V=>?_
 refine cL 3 aA ?_
 rintro rfl
 refine cL 4 aA ?_
 rintro rfl
 refine cL 5 aA ?_
 rintro rfl
 refine cL 6 aA ?_
 rintro rfl
 refine cL 7 aA ?_
 rintro rfl
 let Y:=RR kT3 A9 D9 b.Args::RR kT3 A10 D10 b.Dims::RR kT3 A11 D11 b.Ints::RR kT3 A12 D12 b.Data::RR kT23 A14 D14 a::V
 refine aZ ?_
 refine eA R fun D=>?_
 refine eA R fun E=>?_
 refine aU ?_
 refine qM _ (fun w s=>(s.f 5 [2,3,0,2])) ?_
 let W1:=aJ E [(iv b.Op),(sc A9 b.Args D9),(sc A10 b.Dims D10),(sc A11 b.Ints D11),(aH b.Form),(sc A12 b.Data D12)] 65::aJ D [(aH k1.use),(.func (.func 143) [].toArray [(pt j 0),(pt l 0),(pt m 0)].toArray)] 131::Y
 refine dC ?_
 split at i
 refine dC ?_
 cases i
 exact jW (none,0,0) (fun w s=>((s.nilr kT3).f 11 [0,4]))
 refine bI ?_
 obtain ⟨g,i⟩:=gd i
 obtain ⟨I,q,i⟩:=bd i
 refine bA 9 aA (show 0<a.length by have:=g; omega) (fun Z o20 ha=>?_)
 subst ha
 refine dG (K:=kT23) 9 (0:Int) dT23.dec R g.1 g.2 ?_
 rintro ⟨J,M⟩
 refine cX 14 [] bM fun ht hn=>?_
 refine kz 0 [] ?_
 refine dR 5 R (eD (fo:=0) 0 cB R R R) (d1 6 R (lM _ (fun w s=>((((((s.d 7 R).d 9 R).d 11 R).d 13 R).d 5 R).e 10 [4,3,2,1,0,7,8,9,5,6])) ?_))
 refine cO (fs:=[]) (cs:=[(pt j 0),(pt l 0),(pt m 0)]) 8 R R qP R R (Z2s_ok q) R ?_
 rintro ⟨⟨u,T,B⟩,⟨L,U,O⟩⟩
 refine aM 0 aA ?_
 rintro rfl
 refine aM 1 aB ?_
 rintro rfl
 refine aC (aG (fun w s=>(s.f 7 [5,2,2,3])) (dR 7 R (vT R) (hS:=(fun w s=>(s.f 7 [5,2,2,3]))) (dR 8 R (vS R) (hS:=(fun w s=>(s.f 7 [5,2,2,3]))) (dR 9 R (vS R) (hS:=(fun w s=>(s.f 7 [5,2,2,3]))) (dR 10 R (vB R) (hS:=(fun w s=>(s.f 7 [5,2,2,3]))) (dR 11 R (vS R) (hS:=(fun w s=>(s.f 7 [5,2,2,3]))) (dR 12 R (vS R) (hS:=(fun w s=>(s.f 7 [5,2,2,3]))) (dR 13 R (vB R) (hS:=(fun w s=>(s.f 7 [5,2,2,3]))) (dD ?_)))))))))
 refine dA ?_
 cases i
 exact jW (u,I.1.length,B) (tE 14 [0,2,3,4])
theorem lz  {r:kindOfR}{a:Node}{B:(List (List Int))}{g h1 h2:Nat}{l A2 A3 A4 A5:Option Addr}{u m N2 D2 N3 D3 N4 D4 N5 D5:Nat}{mG:Int}{q:(List Int)×Bool}(b:bV r a B=some q) :
 InvOk Tryz.prog (cZ r (g,h1,h2)) "loop.example/g00033/impl.shape" [(.agg [(iv a.Op),(.slice l u m),(.slice A2 N2 D2),(.slice A3 N3 D3),(aH a.Form),(.slice A4 N4 D4)].toArray),(.slice A5 N5 D5)] [fC r (g,h1,h2),aQ kT3 (.slice l u m) a.Args,aQ kT3 (.slice A2 N2 D2) a.Dims,aQ kT3 (.slice A3 N3 D3) a.Ints,aQ kT3 (.slice A4 N4 D4) a.Data,aQ kT23 (.slice A5 N5 D5) B,gl 0 mG] (fun (h:HH)=>((.tuple [(s3 h),(.bool q.2)].toArray),[aQ kT3 (s3 h) q.1,fC r (g,h1,h2)])):=by
 unfold bV at b
 rcases cG b with ⟨Z,b⟩|⟨Z,b⟩
 ·cases b
 rcases cG b with ⟨G,b⟩|⟨G,b⟩
 ·obtain ⟨t,D,i,j,F⟩:=r
  obtain rfl:=Nat.eq_of_beq_eq_true G
  exact InvOk.mk (oR _) (((Z1j_ok b).perm (Pre':=[pk [],aQ kT3 (.slice l u m) a.Args,aQ kT3 (.slice A2 N2 D2) a.Dims,aQ kT3 (.slice A3 N3 D3) a.Ints,aQ kT3 (.slice A4 N4 D4) a.Data,aQ kT23 (.slice A5 N5 D5) B,gl 0 mG]) (fun _ _ _ s=>(St.unpack (A:=[]) s).e 6 [0,1,2,3,4])).post id (fun _=>rfl) (fun _ _ _ _ s=>(St.pack (A:=[]) (s)).e 2 [1,0]))
 rcases cG b with ⟨I,b⟩|⟨I,b⟩
 ·obtain ⟨t,D,i,j,F⟩:=r
  obtain rfl:=Nat.eq_of_beq_eq_true I
  exact InvOk.mk (oS _) (((Z26_ok b).perm (Pre':=[pk [],aQ kT3 (.slice l u m) a.Args,aQ kT3 (.slice A2 N2 D2) a.Dims,aQ kT3 (.slice A3 N3 D3) a.Ints,aQ kT3 (.slice A4 N4 D4) a.Data,aQ kT23 (.slice A5 N5 D5) B,gl 0 mG]) (fun _ _ _ s=>(St.unpack (A:=[]) s).e 6 [0,1,2,3,4])).post id (fun _=>rfl) (fun _ _ _ _ s=>(St.pack (A:=[]) (s)).e 2 [1,0]))
 rcases cG b with ⟨J,b⟩|⟨J,b⟩
 ·obtain ⟨t,D,i,j,F⟩:=r
  obtain rfl:=Nat.eq_of_beq_eq_true J
  exact InvOk.mk (oU _) (((Z2x_ok b).perm (Pre':=[pk [],aQ kT3 (.slice l u m) a.Args,aQ kT3 (.slice A2 N2 D2) a.Dims,aQ kT3 (.slice A3 N3 D3) a.Ints,aQ kT3 (.slice A4 N4 D4) a.Data,aQ kT23 (.slice A5 N5 D5) B,gl 0 mG]) (fun _ _ _ s=>(St.unpack (A:=[]) s).e 6 [0,1,2,3,4])).post id (fun _=>rfl) (fun _ _ _ _ s=>(St.pack (A:=[]) (s)).e 2 [1,0]))
 rcases cG b with ⟨L,b⟩|⟨L,b⟩
 ·obtain ⟨t,D,i,j,F⟩:=r
  obtain rfl:=Nat.eq_of_beq_eq_true L
  exact InvOk.mk (oV _) (((Z20_ok (k1:=⟨⟩) b).perm (Pre':=[pk [],aQ kT3 (.slice l u m) a.Args,aQ kT3 (.slice A2 N2 D2) a.Dims,aQ kT3 (.slice A3 N3 D3) a.Ints,aQ kT3 (.slice A4 N4 D4) a.Data,aQ kT23 (.slice A5 N5 D5) B,gl 0 mG]) (fun _ _ _ s=>(St.unpack (A:=[]) s).e 6 [0,1,2,3,4])).post id (fun _=>rfl) (fun _ _ _ _ s=>(St.pack (A:=[]) (s)).e 2 [1,0]))
 rcases cG b with ⟨M,b⟩|⟨M,b⟩
 ·obtain ⟨t,D,i,j,F⟩:=r
  obtain rfl:=Nat.eq_of_beq_eq_true M
  exact InvOk.mk (oW _) (((Z2w_ok (k1:=⟨⟩) b).perm (Pre':=[pk [],aQ kT3 (.slice l u m) a.Args,aQ kT3 (.slice A2 N2 D2) a.Dims,aQ kT3 (.slice A3 N3 D3) a.Ints,aQ kT3 (.slice A4 N4 D4) a.Data,aQ kT23 (.slice A5 N5 D5) B,gl 0 mG]) (fun _ _ _ s=>St.unpack (A:=[]) s)).post id (fun _=>rfl) (fun _ _ _ _ s=>(St.pack (A:=[]) ((s).shr 0 R)).e 2 [1,0]))
 rcases cG b with ⟨O,b⟩|⟨O,b⟩
 ·obtain ⟨t,D,i,j,F⟩:=r
  obtain rfl:=Nat.eq_of_beq_eq_true O
  exact InvOk.mk (gS _) (((Z1u_ok b).perm (Pre':=[pk [],aQ kT3 (.slice l u m) a.Args,aQ kT3 (.slice A2 N2 D2) a.Dims,aQ kT3 (.slice A3 N3 D3) a.Ints,aQ kT3 (.slice A4 N4 D4) a.Data,aQ kT23 (.slice A5 N5 D5) B,gl 0 mG]) (fun _ _ _ s=>(St.unpack (A:=[]) s).e 6 [0,1,2,3,4])).post id (fun _=>rfl) (fun _ _ _ _ s=>(St.pack (A:=[]) (s)).e 2 [1,0]))
 rcases cG b with ⟨T,b⟩|⟨T,b⟩
 ·obtain ⟨t,D,i,j,F⟩:=r
  obtain rfl:=Nat.eq_of_beq_eq_true T
  exact InvOk.mk (gS _) (((Z27_ok b).perm (Pre':=[pk [],aQ kT3 (.slice l u m) a.Args,aQ kT3 (.slice A2 N2 D2) a.Dims,aQ kT3 (.slice A3 N3 D3) a.Ints,aQ kT3 (.slice A4 N4 D4) a.Data,aQ kT23 (.slice A5 N5 D5) B,gl 0 mG]) (fun _ _ _ s=>(St.unpack (A:=[]) s).e 6 [0,1,2,3,4])).post id (fun _=>rfl) (fun _ _ _ _ s=>(St.pack (A:=[]) (s)).e 2 [1,0]))
 rcases cG b with ⟨U,b⟩|⟨U,b⟩
 ·obtain ⟨t,D,i,j,F⟩:=r
  obtain rfl:=Nat.eq_of_beq_eq_true U
  exact InvOk.mk (gS _) (((Z1q_ok b).perm (Pre':=[pk [aJ g [(iv i)] 3,aJ h1 [(iv j)] 3,aJ h2 [(.func (.func 107) [].toArray [].toArray)] 136],aQ kT3 (.slice l u m) a.Args,aQ kT3 (.slice A2 N2 D2) a.Dims,aQ kT3 (.slice A3 N3 D3) a.Ints,aQ kT3 (.slice A4 N4 D4) a.Data,aQ kT23 (.slice A5 N5 D5) B,gl 0 mG]) (fun _ _ _ s=>(St.unpack (A:=[aJ g [(iv i)] 3,aJ h1 [(iv j)] 3,aJ h2 [(.func (.func 107) [].toArray [].toArray)] 136]) s).e 9 [0,1,2,3,4,5,6,7])).post id (fun _=>rfl) (fun _ _ _ _ s=>(St.pack (A:=[aJ g [(iv i)] 3,aJ h1 [(iv j)] 3,aJ h2 [(.func (.func 107) [].toArray [].toArray)] 136]) (((s).shr 0 R).e 4 [1,2,3,0])).e 2 [1,0]))
 rcases cG b with ⟨Y,b⟩|⟨Y,b⟩
 ·obtain ⟨t,D,i,j,F⟩:=r
  obtain rfl:=Nat.eq_of_beq_eq_true Y
  exact InvOk.mk (gS _) (((Z1r_ok b).perm (Pre':=[pk [aJ g [(iv i)] 3,aJ h1 [(iv j)] 3,aJ h2 [(.func (.func 109) [].toArray [].toArray)] 136],aQ kT3 (.slice l u m) a.Args,aQ kT3 (.slice A2 N2 D2) a.Dims,aQ kT3 (.slice A3 N3 D3) a.Ints,aQ kT3 (.slice A4 N4 D4) a.Data,aQ kT23 (.slice A5 N5 D5) B,gl 0 mG]) (fun _ _ _ s=>(St.unpack (A:=[aJ g [(iv i)] 3,aJ h1 [(iv j)] 3,aJ h2 [(.func (.func 109) [].toArray [].toArray)] 136]) s).e 9 [0,1,2,3,4,5,6,7])).post id (fun _=>rfl) (fun _ _ _ _ s=>(St.pack (A:=[aJ g [(iv i)] 3,aJ h1 [(iv j)] 3,aJ h2 [(.func (.func 109) [].toArray [].toArray)] 136]) (((s).shr 0 R).e 4 [1,2,3,0])).e 2 [1,0]))
 rcases cG b with ⟨E,b⟩|⟨E,b⟩
 ·obtain ⟨t,D,i,j,F⟩:=r
  obtain rfl:=Nat.eq_of_beq_eq_true E
  exact InvOk.mk (gS _) (((Z1s_ok b).perm (Pre':=[pk [aJ g [(iv i)] 3,aJ h1 [(iv j)] 3,aJ h2 [(.func (.func 111) [].toArray [].toArray)] 136],aQ kT3 (.slice l u m) a.Args,aQ kT3 (.slice A2 N2 D2) a.Dims,aQ kT3 (.slice A3 N3 D3) a.Ints,aQ kT3 (.slice A4 N4 D4) a.Data,aQ kT23 (.slice A5 N5 D5) B,gl 0 mG]) (fun _ _ _ s=>(St.unpack (A:=[aJ g [(iv i)] 3,aJ h1 [(iv j)] 3,aJ h2 [(.func (.func 111) [].toArray [].toArray)] 136]) s).e 9 [0,1,2,3,4,5,6,7])).post id (fun _=>rfl) (fun _ _ _ _ s=>(St.pack (A:=[aJ g [(iv i)] 3,aJ h1 [(iv j)] 3,aJ h2 [(.func (.func 111) [].toArray [].toArray)] 136]) (((s).shr 0 R).e 4 [1,2,3,0])).e 2 [1,0]))
 have hV:cZ r (g,h1,h2)=(.iface 131 (.agg [(aH r.s0),(.func (.func 143) [].toArray [(pt g 0),(pt h1 0),(pt h2 0)].toArray)].toArray)):=by simp only [cZ,Z,G,I,J,L,M,O,T,U,Y,E,cond_false]
 have hE:fC r (g,h1,h2)=pk [aJ g [(iv r.i0)] 3,aJ h1 [(iv r.i1)] 3,aJ h2 [(.func (.func 113) [].toArray [].toArray)] 136]:=by simp only [fC,Z,G,I,J,L,M,O,T,U,Y,E,cond_false]
 rw [hV,hE]
 exact InvOk.mk (gS _) (((Z1t_ok b).perm (Pre':=[pk [aJ g [(iv r.i0)] 3,aJ h1 [(iv r.i1)] 3,aJ h2 [(.func (.func 113) [].toArray [].toArray)] 136],aQ kT3 (.slice l u m) a.Args,aQ kT3 (.slice A2 N2 D2) a.Dims,aQ kT3 (.slice A3 N3 D3) a.Ints,aQ kT3 (.slice A4 N4 D4) a.Data,aQ kT23 (.slice A5 N5 D5) B,gl 0 mG]) (fun _ _ _ s=>(St.unpack (A:=[aJ g [(iv r.i0)] 3,aJ h1 [(iv r.i1)] 3,aJ h2 [(.func (.func 113) [].toArray [].toArray)] 136]) s).e 9 [0,1,2,3,4,5,6,7])).post id (fun _=>rfl) (fun _ _ _ _ s=>(St.pack (A:=[aJ g [(iv r.i0)] 3,aJ h1 [(iv r.i1)] 3,aJ h2 [(.func (.func 113) [].toArray [].toArray)] 136]) ((s).e 4 [1,2,3,0])).e 2 [1,0]))
theorem Zf_ok  {i:Node}{b:(List (List Int))}{mG:Int}{r:(List Int)×Bool}(l:Zf i b=some r) :
 FnOk Tryz.prog 63 [(.agg [(iv i.Op),(.slice A2 N2 D2),(.slice A3 N3 D3),(.slice A4 N4 D4),(aH i.Form),(.slice A5 N5 D5)].toArray),(.slice A7 N7 D7)] [aQ kT3 (.slice A2 N2 D2) i.Args,aQ kT3 (.slice A3 N3 D3) i.Dims,aQ kT3 (.slice A4 N4 D4) i.Ints,aQ kT3 (.slice A5 N5 D5) i.Data,ow (kT23).share 23 (.slice A7 N7 D7) b,gl 0 mG] (fun (h:HH)=>((.tuple [(s3 h),(.bool r.2)].toArray),[aQ kT3 (s3 h) r.1,ow (kT23).share 23 (.slice A7 N7 D7) b])):=by
 unfold Zf at l
 refine aR Tryz.func63 R 58 R R fun C V=>?_
 refine cM _ (tE 6 [4,0,1,2,3,5]) ?_
 refine cL 0 fI ?_
 rintro rfl
 refine cL 1 aA ?_
 rintro rfl
 refine cL 2 aA ?_
 rintro rfl
 refine cL 3 aA ?_
 rintro rfl
 refine cL 4 aA ?_
 rintro rfl
 let W0:=RR kT3 A2 D2 i.Args::RR kT3 A3 D3 i.Dims::RR kT3 A4 D4 i.Ints::RR kT3 A5 D5 i.Data::gl 0 mG::V
 refine aZ ?_
 refine eA R fun b8=>?_
 refine aU ?_
 refine qM _ (tE 2 [1,0]) ?_
 let W1:=aJ b8 [(iv i.Op),(sc A2 i.Args D2),(sc A3 i.Dims D3),(sc A4 i.Ints D4),(aH i.Form),(sc A5 i.Data D5)] 65::W0
 refine aZ ?_
 obtain ⟨D,a8,l⟩:=bd l
 refine aU ?_
 refine lC 0 Br R (Zw_ok a8) R ?_
 rintro ⟨q,u,B⟩
 refine lO (vp _ R) ?_
 refine bI ?_
 obtain ⟨aw,J,l⟩:=bd l
 obtain ⟨aa,L,l⟩:=bd l
 refine cQ [(1,(sc A7 b D7)),(2,(pt b8 0)),(6,(cZ D (q,u,B))),(27,(.bool (((Nat.beq D.t 0)||(!aa))||(decide ((i.Args.length:Int)>6)))))] (OO (kT23).share 23 A7 D7 b::fC D (q,u,B)::W1) ?_ ?_
 rcases bo (Nat.beq D.t 0) with j | j
 refine cX 15 [] bM fun ht G=>?_
 refine dR 0 R (vp _ R) (dR 1 R (vz (.bool (Nat.beq D.t 0)) (mT R)) ?_)
 refine mI 2 [] ?_
 refine dD ?_
 exact qj (tE 2 [1,0])
 rcases bo ((Nat.beq D.t 0)||(!aa)) with a2 | a2
 refine cX 15 [] bM fun ht G=>?_
 refine dR 0 R (vp _ R) (dR 1 R (vz (.bool (Nat.beq D.t 0)) (mT R)) ?_)
 refine hY 2 [] ?_
 refine dW 4 R (bJ j) (vp _ R) (d1 5 R (sN 1 (bJ j) R R (jR (bL J (cP j))) R ?_))
 rintro _
 refine aC (aG (sL []) (d1 6 R (lM _ (fun w s=>((((((s.d 3 R).d 5 R).d 7 R).d 9 R).dg 11 R).e 7 [4,3,2,1,0,5,6])) ?_)))
 refine bY 5 R (bJ j) zC R (Z1z_ok (bL L (cP j))) R ?_
 rintro _
 refine aC (aG (sL []) ?_)
 refine uJ 7 [] ?_
 refine dD ?_
 exact qj (tE 2 [1,0])
 refine cX 15 [] bM fun ht G=>?_
 refine dR 0 R (vp _ R) (dR 1 R (vz (.bool (Nat.beq D.t 0)) (mT R)) ?_)
 refine hY 2 [] ?_
 refine dW 4 R (bJ j) (vp _ R) (d1 5 R (sN 1 (bJ j) R R (jR (bL J (cP j))) R ?_))
 rintro _
 refine aC (aG (sL []) (d1 6 R (lM _ (fun w s=>((((((s.d 3 R).d 5 R).d 7 R).d 9 R).dg 11 R).e 7 [4,3,2,1,0,5,6])) ?_)))
 refine bY 5 R (bJ j) zC R (Z1z_ok (bL L (cP j))) R ?_
 rintro _
 refine aC (aG (sL []) ?_)
 refine uJ 7 [] ?_
 refine dD ?_
 exact qj (tE 2 [1,0])
 rintro σ1
 refine cA ?_
 split at l
 refine dC ?_
 cases l
 exact jW (none,0,0) (fun w s=>((s.nilr kT3).e 9 [0,1]))
 refine cR ?_
 refine bU (K:=kT23) (xs:=([]:List (List Int))) (vs:=[]) 0 R R kC gB mM R R R R R R ?_ R (fun ab ae=>?_)
 exact fun I h s=>(nh).list [] I h s
 refine bI ?_
 refine bE (A:=((List (List Int)))×(HH)) (fun a=>Zf_J1 i D a.1=some r) (fun a=>[(2,(pt b8 0)),(6,(cZ D (q,u,B))),(7,(s3 a.2))]) (fun a=>fC D (q,u,B)::ow (kT23).share 23 (s3 a.2) a.1::OO (kT23).share 23 A7 D7 b::W1) ?_ ?_
 refine dC ?_
 obtain ⟨e1,ak,a7⟩:=bd l
 refine bF (A:=HH×HH) ak (fun s a=>[(1,(sc A7 b D7)),(2,(pt b8 0)),(6,(cZ D (q,u,B))),(7,(s3 a.1)),(30,(s3 a.2)),(31,(il i.Args)),(32,(iv s.2))]) (fun s a=>OO (kT23).share 23 A7 D7 b::fC D (q,u,B)::ow (kT23).share 23 (s3 a.1) s.1::aQ kT3 (s3 a.2) i.Args::W1) ((ab,([]:List (List Int)).length,ae),(A2,i.Args.length,D2)) (aS R) (fun w s=>(((s.wk 0 R).d 4 R).e 4 [2,3,1,0])) ?_
 rintro ⟨g,m⟩ ⟨⟨M,ah,O⟩,⟨an,ai,T⟩⟩ σ1 am l a4
 dsimp only [Zf_L1] at l
 refine bQ 2 fI (fun (G:ah=g.length)=>?_)
 subst G
 refine bQ 3 aA (fun (G:ai=i.Args.length)=>?_)
 subst G
 refine cE ?_
 split at l
 refine cE ?_
 obtain ⟨a5,l⟩:=gd l
 refine aD (bG 3 aA (show 0<i.Args.length by have:=a5; omega) (fun U o42 ha=>?_))
 subst ha
 refine dO ?_
 refine cQ [(1,(sc A7 b D7)),(2,(pt b8 0)),(6,(cZ D (q,u,B))),(7,(sc M g O)),(9,(iv (ix i.Args m))),(30,(sc (ad U o42) i.Args T)),(31,(il i.Args)),(32,(iv m)),(43,(.bool ((decide ((ix i.Args m)<0))||(decide ((ix i.Args m)≥(b.length:Int))))))] (OO (kT23).share 23 A7 D7 b::fC D (q,u,B)::OO (kT23).share 23 M O g::RR kT3 (ad U o42) T i.Args::W1) ?_ ?_
 refine bI ?_
 rcases bo (decide ((ix i.Args m)<0)) with a3 | a3
 refine cE ?_
 exact qj tI
 refine cE ?_
 exact qj tI
 rintro σ1
 refine cA ?_
 split at l
 refine j7 ?_
 cases l
 obtain rfl:=a4 _ R
 have l:=a7
 refine aU ?_
 cases l
 exact jW (none,0,0) (fun w s=>((s.nilr kT3).e 11 [0,1]))
 refine aU ?_
 obtain ⟨E,l⟩:=gd l
 obtain ⟨a6,l⟩:=gd l
 refine bI ?_
 refine bG 0 fI (show 0<b.length by have:=E; omega) (fun av o47 ha=>?_)
 subst ha
 refine cA ?_
 refine wW (K:=(kT23).share) (fo:=0) 0 (ix i.Args m) R R cB dT23.own (fun _ _=>R) R R E.1 E.2 ?_
 rintro ⟨Y,a0⟩
 refine lM _ (fun w s=>(s.d 0 R)) ?_
 refine bU (K:=(kT23).share) (xs:=([(ix b (ix i.Args m))]:List (List Int))) (vs:=[(sc Y (ix b (ix i.Args m)) a0)]) 1 R R kC gB mM R R R R R R ?_ R (fun ao aq=>?_)
 exact fun I h s=>(sX).list [((sc Y (ix b (ix i.Args m)) a0),(ix b (ix i.Args m)))] I h s
 refine lM _ (tE 6 [4,0,1,2,3,5]) ?_
 refine eO (K:=(kT23).share) 5864062014805 R R kC gB uQ (Zr.zk (Zr.share zT23) mM) R R R R R R dQ a6 (fun Z a1=>(lN (OO (kT23).share 23 Z a1 (g++([(ix b (ix i.Args m))]:List (List Int)))::_::_::_::_::W1) ?_))
 refine dI ?_
 cases l
 exact qA ((Z,(g++([(ix b (ix i.Args m))]:List (List Int))).length,a1),((ad U o42),i.Args.length,T)) (tE 5 [2,3,0,4])
 refine aU ?_
 cases l
 obtain rfl:=a4 _ R
 have l:=a7
 refine aZ ?_
 exact qI (g,(M,g.length,O)) l (tE 4 [1,2,0])
 rintro ⟨F,⟨ap,aj,ar⟩⟩ σ1 l
 dsimp only [Zf_J1] at l
 refine bQ 1 fI (fun (G:aj=F.length)=>?_)
 subst G
 refine cA ?_
 obtain ⟨al,a9,l⟩:=bd l
 refine aD (lO (vp _ R) ?_)
 refine aZ ?_
 refine je (fun w s=>s.shs 1 R) (lM _ (fun w s=>(((((((s.d 4 R).d 6 R).d 8 R).d 10 R).d 4 R).dg 13 R).e 9 [7,5,4,3,2,1,0,6,8])) ?_)
 refine sN 7 R R R (lz a9) R ?_
 rintro ⟨ac,au,ag⟩
 refine aM 0 aA ?_
 rintro rfl
 refine dO ?_
 cases l
 exact jW (ac,al.1.length,ag) (tE 10 [0,3])
theorem Zk_ok  {g1:Graph}{mG:Int}{r:(List (List Int))×Bool}(b:Zk g1=some r) :
 FnOk Tryz.prog 30 [(.agg [(.slice A2 N2 D2),(.slice A3 N3 D3)].toArray)] [aQ kT65 (.slice A2 N2 D2) g1.Nodes,aQ kT3 (.slice A3 N3 D3) g1.Outs,gl 0 mG] (fun (h:HH)=>((.tuple [(s3 h),(.bool r.2)].toArray),[ow (kT23).share 23 (s3 h) r.1])):=by
 unfold Zk at b
 refine aR Tryz.func30 R 60 R R fun C V=>?_
 refine cL 0 aA ?_
 rintro rfl
 refine cL 1 aA ?_
 rintro rfl
 let W0:=RR kT65 A2 D2 g1.Nodes::RR kT3 A3 D3 g1.Outs::gl 0 mG::V
 refine cN W0 ?_
 refine aZ ?_
 refine eA R fun G=>?_
 refine aU ?_
 let B:=aJ G [(sc A2 g1.Nodes D2),(sc A3 g1.Outs D3)] 31::W0
 refine qN B ?_
 refine aU ?_
 refine cQ [(1,(pt G 0)),(20,(.bool ((decide ((g1.Nodes.length:Int)>200))||(decide ((g1.Outs.length:Int)>40)))))] (B) ?_ ?_
 refine cE ?_
 rcases bo (decide ((g1.Nodes.length:Int)>200)) with ak | ak
 refine cE ?_
 exact qj tI
 refine cE ?_
 exact qj tI
 rintro σ1
 refine cA ?_
 split at b
 refine dC ?_
 cases b
 exact jW (none,0,0) (fun w s=>((s.nilo (kT23).share 23).e 5 [0]))
 refine cR ?_
 refine bU (K:=kT23) (xs:=([]:List (List Int))) (vs:=[]) 0 R R kC gB mM R R R R R R ?_ R (fun A7 D7=>?_)
 exact fun I h s=>(nh).list [] I h s
 refine bI ?_
 refine bE (A:=((List (List Int)))×(HH)) (fun a=>Zk_J1 g1 a.1=some r) (fun a=>[(1,(pt G 0)),(4,(s3 a.2))]) (fun a=>ow (kT23).share 23 (s3 a.2) a.1::B) ?_ ?_
 refine dC ?_
 obtain ⟨e1,al,a9⟩:=bd b
 refine bF (A:=HH) al (fun s a=>[(1,(pt G 0)),(4,(s3 a)),(23,(sc A2 g1.Nodes D2)),(24,(il g1.Nodes)),(25,(iv s.2))]) (fun s a=>ow (kT23).share 23 (s3 a) s.1::B) (A7,([]:List (List Int)).length,D7) (aS R) (fun w s=>(s.wk 0 R)) ?_
 rintro ⟨u,g⟩ ⟨ac,ag,ae⟩ σ1 an b a5
 dsimp only [Zk_L1] at b
 refine bQ 0 fI (fun (hn:ag=u.length)=>?_)
 subst hn
 refine cE ?_
 split at b
 refine cE ?_
 obtain ⟨q,b⟩:=gd b
 refine aD (bG 2 aA (show 0<g1.Nodes.length by have:=q; omega) (fun av o30 ha=>?_))
 subst ha
 refine cA ?_
 refine hK (K:=kT65) 2 g dT65.dec R q.1 q.2 ?_
 rintro ⟨-,⟨J,Y⟩,⟨L,Z⟩,⟨M,a0⟩,-,⟨O,a1⟩⟩
 refine lO (vz (.agg [(iv (ix g1.Nodes g).Op),(sc J ((ix g1.Nodes g).Args) Y),(sc L ((ix g1.Nodes g).Dims) Z),(sc M ((ix g1.Nodes g).Ints) a0),(aH (ix g1.Nodes g).Form),(sc O ((ix g1.Nodes g).Data) a1)].toArray) (eJ (fo:=0) 0 ni eY R R R R)) (aY R R kA (fun aj=>(aL 0 R R eY R R R R R R (lN (aJ aj [(iv (ix g1.Nodes g).Op),(sc J ((ix g1.Nodes g).Args) Y),(sc L ((ix g1.Nodes g).Dims) Z),(sc M ((ix g1.Nodes g).Ints) a0),(aH (ix g1.Nodes g).Form),(sc O ((ix g1.Nodes g).Data) a1)] 65::_::_::_::_::_::_::B) ?_))))
 refine aU ?_
 obtain ⟨m,ab,b⟩:=bd b
 refine aU ?_
 refine lM _ (fun w s=>((((((s.d 2 R).d 4 R).d 6 R).d 8 R).dg 14 R).e 12 [4,3,2,1,11,0,5,6,7,8,9,10])) ?_
 refine lC 6 Bv R (Zf_ok ab) R ?_
 rintro ⟨T,au,a2⟩
 refine aM 0 aA ?_
 rintro rfl
 refine lO (vT R) ?_
 refine lv ?_
 split at b
 refine j7 ?_
 cases b
 obtain rfl:=a5 _ R
 have b:=a9
 refine aU ?_
 cases b
 exact jW (none,0,0) (fun w s=>((s.nilo (kT23).share 23).e 13 [0]))
 refine aU ?_
 obtain ⟨a7,b⟩:=gd b
 refine aU ?_
 refine lM _ (fun w s=>(s.d 0 R)) ?_
 refine bU (K:=(kT23).share) (xs:=([m.1]:List (List Int))) (vs:=[(sc T m.1 a2)]) 1 R R kC gB mM R R R R R R ?_ R (fun ap ar=>?_)
 exact fun I h s=>(sX).list [((sc T m.1 a2),m.1)] I h s
 refine lM _ (fun w s=>(s.f 9 [2,1,0,2,3,6])) ?_
 refine eO (K:=(kT23).share) 5864062014805 R R kC gB uQ (Zr.zk (Zr.share zT23) mM) R R R R R R dQ a7 (fun U a3=>(lN (OO (kT23).share 23 U a3 (u++([m.1]:List (List Int)))::_::_::_::_::_::_::_::B) ?_))
 refine dI ?_
 cases b
 exact qA (U,(u++([m.1]:List (List Int))).length,a3) (tE 8 [0])
 refine aU ?_
 cases b
 obtain rfl:=a5 _ R
 have b:=a9
 refine aZ ?_
 exact qI (u,(ac,u.length,ae)) b tI
 rintro ⟨i,⟨j,ah,l⟩⟩ σ1 b
 dsimp only [Zk_J1] at b
 refine bQ 0 fI (fun (hn:ah=i.length)=>?_)
 subst hn
 refine aI (bE (A:=(Unit)×(Unit)) (fun a=>Zk_J2 i=some r) (fun a=>[(4,(sc j i l))]) (fun a=>OO (kT23).share 23 j l i::B) ?_ ?_)
 refine dC ?_
 obtain ⟨e2,am,aa⟩:=bd b
 refine bF (A:=HH) am (fun s a=>[(1,(pt G 0)),(4,(sc j i l)),(43,(s3 a)),(44,(il g1.Outs)),(45,(iv s))]) (fun s a=>OO (kT23).share 23 j l i::aQ kT3 (s3 a) g1.Outs::B) (A3,g1.Outs.length,D3) (aS R) (fun w s=>((s.d 3 R).e 2 [1,0])) ?_
 rintro D ⟨aq,ai,E⟩ σ1 ao b a6
 dsimp only [Zk_L2] at b
 refine bQ 1 aA (fun (hn:ai=g1.Outs.length)=>?_)
 subst hn
 refine cE ?_
 split at b
 refine cE ?_
 obtain ⟨a8,b⟩:=gd b
 refine aD (bG 1 aA (show 0<g1.Outs.length by have:=a8; omega) (fun F o59 ha=>?_))
 subst ha
 refine cE ?_
 refine cQ [(1,(pt G 0)),(4,(sc j i l)),(43,(sc (ad F o59) g1.Outs E)),(44,(il g1.Outs)),(45,(iv D)),(57,(.bool ((decide ((ix g1.Outs D)<0))||(decide ((ix g1.Outs D)≥(g1.Nodes.length:Int))))))] (OO (kT23).share 23 j l i::RR kT3 (ad F o59) E g1.Outs::B) ?_ ?_
 refine bI ?_
 rcases bo (decide ((ix g1.Outs D)<0)) with a4 | a4
 refine dO ?_
 exact qj tI
 refine dO ?_
 exact qj tI
 rintro σ1
 refine cA ?_
 split at b
 refine dA ?_
 cases b
 obtain rfl:=a6 _ R
 have b:=aa
 refine aU ?_
 cases b
 exact jW (none,0,0) (fun w s=>((s.nilo (kT23).share 23).e 7 [0]))
 refine dI ?_
 cases b
 exact qA ((ad F o59),g1.Outs.length,E) tI
 refine aU ?_
 cases b
 obtain rfl:=a6 _ R
 have b:=aa
 refine aZ ?_
 exact qI ((),()) b (tE 2 [0])
 rintro ⟨_,_⟩ σ1 b
 dsimp only [Zk_J2] at b
 refine dI ?_
 cases b
 exact jW (j,i.length,l) (tE 5 [0])
theorem Z1p_ok  {g1:Graph}{mG:Int}{r:Bool}(a:Z1p g1=some r) :
 FnOk Tryz.prog 39 [(.agg [(.slice A2 N2 D2),(.slice A3 N3 D3)].toArray)] [aQ kT65 (.slice A2 N2 D2) g1.Nodes,aQ kT3 (.slice A3 N3 D3) g1.Outs,gl 0 mG] (fun (h:Unit)=>((.bool r),[])):=by
 unfold Z1p at a
 refine aR Tryz.func39 R 11 R R fun C V=>?_
 refine cL 0 aA ?_
 rintro rfl
 refine cL 1 aA ?_
 rintro rfl
 let g:=RR kT65 A2 D2 g1.Nodes::RR kT3 A3 D3 g1.Outs::gl 0 mG::V
 refine cN g ?_
 refine aZ ?_
 refine eA R fun j=>?_
 refine aZ ?_
 let i:=aJ j [(sc A2 g1.Nodes D2),(sc A3 g1.Outs D3)] 31::g
 refine qN i ?_
 refine aZ ?_
 obtain ⟨l,b,a⟩:=bd a
 refine aZ ?_
 refine lM _ (fun w s=>((((s.d 1 R).d 3 R).dg 5 R).e 3 [2,1,0])) ?_
 refine lC 3 Bw R (Zk_ok b) R ?_
 rintro ⟨A7,N7,D7⟩
 refine aM 0 fI ?_
 rintro rfl
 refine lO (vT R) ?_
 refine lv ?_
 cases a
 exact qF () (tE 5 [])
theorem Z2v_ok  {a:Node}{r:Node}(E:Z2v a=some r) :
 FnOk Tryz.prog 50 [(.agg [(iv a.Op),(.slice A2 N2 D2),(.slice A3 N3 D3),(.slice A4 N4 D4),(aH a.Form),(.slice A5 N5 D5)].toArray)] [aQ kT3 (.slice A2 N2 D2) a.Args,aQ kT3 (.slice A3 N3 D3) a.Dims,aQ kT3 (.slice A4 N4 D4) a.Ints,aQ kT3 (.slice A5 N5 D5) a.Data] (fun (h:HH×HH×HH×HH)=>((.agg [(iv r.Op),(.slice h.1.1 h.1.2.1 h.1.2.2),(.slice h.2.1.1 h.2.1.2.1 h.2.1.2.2),(.slice h.2.2.1.1 h.2.2.1.2.1 h.2.2.1.2.2),(aH r.Form),(.slice h.2.2.2.1 h.2.2.2.2.1 h.2.2.2.2.2)].toArray),[ow kT3 3 (.slice h.1.1 h.1.2.1 h.1.2.2) r.Args,ow kT3 3 (.slice h.2.1.1 h.2.1.2.1 h.2.1.2.2) r.Dims,ow kT3 3 (.slice h.2.2.1.1 h.2.2.1.2.1 h.2.2.1.2.2) r.Ints,ow kT3 3 (.slice h.2.2.2.1 h.2.2.2.2.1 h.2.2.2.2.2) r.Data])):=by
 unfold Z2v at E
 refine aR Tryz.func50 R 20 R R fun C V=>?_
 refine cN (_::_::_::_::V) ?_
 refine cL 0 aA ?_
 rintro rfl
 refine cL 1 aA ?_
 rintro rfl
 refine cL 2 aA ?_
 rintro rfl
 refine cL 3 aA ?_
 rintro rfl
 let U:List HP:=RR kT3 A2 D2 a.Args::RR kT3 A3 D3 a.Dims::RR kT3 A4 D4 a.Ints::RR kT3 A5 D5 a.Data::V
 refine cN U ?_
 refine aI (aD (eA R (fun Z=>(aY R R kA (fun Y=>(aC ?_))))))
 let D:List HP:=aJ Z [(iv a.Op),(sc A2 a.Args D2),(sc A3 a.Dims D3),(sc A4 a.Ints D4),(aH a.Form),(sc A5 a.Data D5)] 65::U
 refine qN (_::D) ?_
 refine aE (aI ?_)
 obtain ⟨J,T,E⟩:=bd E
 obtain ⟨q,F,E⟩:=bd E
 obtain ⟨u,G,E⟩:=bd E
 obtain ⟨B,I,E⟩:=bd E
 refine cX 18 [0] bM (fun ht hn=>(dR 0 R (dS 0 fS R) (hS:=(sL [0])) (dR 1 R (dV 0 fR R R R) (hS:=(sL [0])) (dR 2 R (dS 1 mK R) (hS:=(sL [0])) (dR 3 R (dV 0 cB R R R) (hS:=(sL [0])) (dR 5 R (dS 2 iG R) (hS:=(sL [0])) (dR 6 R (dV 0 cB R R R) (hS:=(sL [0])) (dR 8 R (dS 3 gJ R) (hS:=(sL [0])) (dR 9 R (dV 0 cB R R R) (hS:=(sL [0])) (dR 11 R (dS 4 lx R) (hS:=(sL [0])) (dR 12 R (dV 0 pl R R R) (hS:=(sL [0])) (dR 13 R (dS 5 kB R) (hS:=(sL [0])) (dR 14 R (dV 0 cB R R R) (hS:=(sL [0])) (d1 4 R (lM (RR kT3 A2 D2 a.Args::_::D) (fun w s=>(s.d 2 R)) ?_)))))))))))))))
 refine lC 1 iA R (Z8_ok T) R ?_
 rintro ⟨A10,N10,D10⟩
 refine lN (ow kT3 3 (.slice A10 N10 D10) J::_::D) ?_
 refine aM 0 aB ?_
 rintro rfl
 refine aC (aG (sL [1,0]) (d1 7 R (lM (RR kT3 A3 D3 a.Dims::_::_::D) (fun w s=>(s.d 4 R)) ?_)))
 refine lC 1 iA R (Z8_ok F) R ?_
 rintro ⟨b,L,j⟩
 refine lN (ow kT3 3 (.slice b L j) q::_::_::D) ?_
 refine aM 0 aB ?_
 rintro rfl
 refine aC (aG (sL [2,1,0]) (d1 10 R (lM (RR kT3 A4 D4 a.Ints::_::_::_::D) (fun w s=>(s.d 6 R)) ?_)))
 refine lC 1 iA R (Z8_ok G) R ?_
 rintro ⟨g,M,l⟩
 refine lN (ow kT3 3 (.slice g M l) u::_::_::_::D) ?_
 refine aM 0 aB ?_
 rintro rfl
 refine aC (aG (sL [3,2,1,0]) (d1 15 R (lM (RR kT3 A5 D5 a.Data::_::_::_::_::D) (fun w s=>(s.d 8 R)) ?_)))
 refine lC 1 iA R (Z8_ok I) R ?_
 rintro ⟨i,O,m⟩
 refine lN (ow kT3 3 (.slice i O m) B::_::_::_::_::D) ?_
 refine aM 0 aB ?_
 rintro rfl
 refine aC (aG (sL [4,3,2,1,0]) (dR 16 R (vz (.agg [(iv a.Op),(sc A10 J D10),(sc b q j),(sc g u l),(aH a.Form),(sc i B m)].toArray) (aV uV kA R R)) (hS:=(sL [4,3,2,1,0])) (d1 17 R (aL 4 R R eY R R R R R R (lN (_::_::_::_::aJ Y [(iv a.Op),(sc A10 J D10),(sc b q j),(sc g u l),(aH a.Form),(sc i B m)] 65::D) ?_)))))
 refine aC (aG (sL [4,3,2,1,0]) (dD (aE (bO ?_))))
 obtain rfl:=so E
 exact cY (vs:=[(.agg [(iv a.Op),(sc A10 J D10),(sc b q j),(sc g u l),(aH a.Form),(sc i B m)].toArray)]) (.inl R) ((A10,J.length,D10),(b,q.length,j),(g,u.length,l),(i,B.length,m)) R ⟨⟨4,Y,_,_,R,R,.inl ⟨ni,eY,R⟩⟩,trivial⟩ R (fun w s=>(s.e 10 [3,2,1,0]))
theorem Z0l_ok  {b:(List Node)}{r:(List Node)}(i:Z0l b=some r) :
 FnOk Tryz.prog 74 [(.slice A2 N2 D2),(.func (.func 50) [].toArray [].toArray)] [aQ kT65 (.slice A2 N2 D2) b] (fun (h:HH)=>((.slice h.1 h.2.1 h.2.2),[ow kT65 65 (.slice h.1 h.2.1 h.2.2) r])):=by
 unfold Z0l at i
 refine aR Tryz.func74 R 26 R R fun C V=>?_
 refine cN (_::V) ?_
 refine cL 0 aA ?_
 rintro rfl
 let T:List HP:=RR kT65 A2 D2 b::V
 refine cN T ?_
 refine aI (aD (lS R (aC (aE (aI ?_)))))
 obtain ⟨U,i⟩:=gd i
 refine aD (lS R (lO (gV fX R) (f' (K:=kT65) (m:=(b.length:Int)) (z:=zT65.z) R R fX eY xo (Zr.zk zT65 kA) (by decide) R R U.1 U.2.1 U.2.2 (fun A5 D5=>(lS R (aC (aE (aI (bE (A:=((List Node))×(Unit)) (fun a=>Z0l_J1 a.1=some r) (fun a=>[(5,(sc A5 (List.replicate (b.length:Int).toNat zT65.z) D5))]) (fun a=>ow kT65 65 (.slice A5 (List.replicate (b.length:Int).toNat zT65.z).length D5) a.1::T) ?_ ?_)))))))))
 refine aI (aD (lS R (lO (gV fX R) (lI R (aC (aE (dK ?_)))))))
 obtain ⟨e1,aj,ai⟩:=bd i
 refine bF (A:=Unit) aj (fun s a=>[(1,(.func (.func 50) [].toArray [].toArray)),(5,(sc A5 (List.replicate (b.length:Int).toNat zT65.z) D5)),(11,(sc A2 b D2)),(12,(il b)),(13,(iv s.2))]) (fun s a=>ow kT65 65 (.slice A5 (List.replicate (b.length:Int).toNat zT65.z).length D5) s.1::T) () (aS R) (fun w s=>s) ?_
 rintro ⟨O,g⟩ _ σ1 a8 i ah
 replace i:Z0l_L1 b O g=some a8:=i
 unfold Z0l_L1 at i
 refine aI (aD (lO (jh R R) (aC (aE (aI ?_)))))
 rcases cG i with ⟨M,i⟩|⟨M,i⟩
 refine bS R M (bZ (aE (aI (dK (aI ?_)))))
 obtain ⟨l,i⟩:=gd i
 refine aD (lI R (bG 1 aA (show 0<b.length by have:=l; omega) (fun ag o31 ha=>?_)))
 subst ha
 refine lO (eE fX eY R R l) (hK (K:=kT65) 1 g dT65.dec R l.1 l.2 ?_)
 rintro ⟨-,⟨u,F⟩,⟨B,G⟩,⟨D,J⟩,-,⟨E,L⟩⟩
 refine lN (cl ag (o31+g.toNat*6) [(iv (ix b g).Op),(sc u ((ix b g).Args) F),(sc B ((ix b g).Dims) G),(sc D ((ix b g).Ints) J),(aH (ix b g).Form),(sc E ((ix b g).Data) L)]::RR kT3 u F ((ix b g).Args)::RR kT3 B G ((ix b g).Dims)::RR kT3 D J ((ix b g).Ints)::RR kT3 E L ((ix b g).Data)::ow kT65 65 (.slice A5 (List.replicate (b.length:Int).toNat zT65.z).length D5) O::T) ?_
 refine lO (vz (.agg [(iv (ix b g).Op),(sc u ((ix b g).Args) F),(sc B ((ix b g).Dims) G),(sc D ((ix b g).Ints) J),(aH (ix b g).Form),(sc E ((ix b g).Data) L)].toArray) (eJ (fo:=0) 0 ni eY R R R R)) (aY R R kA (fun ae=>(lI R (aL 0 R R eY R R R R R R (lN (aJ ae [(iv (ix b g).Op),(sc u ((ix b g).Args) F),(sc B ((ix b g).Dims) G),(sc D ((ix b g).Ints) J),(aH (ix b g).Form),(sc E ((ix b g).Data) L)] 65::_::_::_::_::_::_::T) ?_)))))
 refine aC (aE ?_)
 obtain ⟨j,a7,i⟩:=bd i
 obtain ⟨q,i⟩:=gd i
 refine aD (lS R (lI R (lO (vp _ R) (lO (vz (.agg [(iv (ix b g).Op),(sc u ((ix b g).Args) F),(sc B ((ix b g).Dims) G),(sc D ((ix b g).Ints) J),(aH (ix b g).Form),(sc E ((ix b g).Data) L)].toArray) (bK 0 ni eY R R R R)) (lM (aQ _ _ _::aQ _ _ _::aQ _ _ _::aQ _ _ _::aJ _ _ _::cl _ _ _::aQ _ _ _::aQ _ _ _::aQ _ _ _::aQ _ _ _::ow _ _ _ _::T) (fun w s=>(((((s.d 2 R).d 4 R).d 6 R).d 8 R).f 11 [3,1,2,1,1,1,0,1,4,7])) ?_)))))
 refine cO (fs:=[]) (cs:=[]) 4 R R Bx R R (Z2v_ok a7) R ?_
 rintro ⟨⟨Y,a9,a2⟩,⟨Z,aa,a3⟩,⟨a0,ab,a4⟩,⟨a1,ac,a5⟩⟩
 refine lN (ow kT3 3 (.slice Y a9 a2) j.Args::ow kT3 3 (.slice Z aa a3) j.Dims::ow kT3 3 (.slice a0 ab a4) j.Ints::ow kT3 3 (.slice a1 ac a5) j.Data::_::_::_::_::_::_::_::T) ?_
 refine aM 0 aB ?_
 rintro rfl
 refine aM 1 aB ?_
 rintro rfl
 refine aM 2 aB ?_
 rintro rfl
 refine aM 3 aB ?_
 rintro rfl
 refine bG 10 aB (show 0<(List.replicate (b.length:Int).toNat zT65.z).length by have:=q; omega) (fun a6 o45 ha=>?_)
 subst ha
 refine lO (eE fX eY R R q) (lM (ow kT65 65 (.slice (ad a6 o45) (List.replicate (b.length:Int).toNat zT65.z).length D5) O::ow _ _ _ _::ow _ _ _ _::ow _ _ _ _::ow _ _ _ _::aJ _ _ _::cl _ _ _::aQ _ _ _::aQ _ _ _::aQ _ _ _::aQ _ _ _::T) (fun w s=>(s.f 11 [10,1,0,10])) ?_)
 refine dZ (K:=kT65) (x':=j) 4 g R R eY R R q.1 q.2 ?_ ?_
 exact fun I h s=>(mJ).put I h ((),(sc Y j.Args a2),(sc Z j.Dims a3),(sc a0 j.Ints a4),(),(sc a1 j.Data a5)) j s
 refine lN (ow kT65 65 (.slice (ad a6 o45) (List.replicate (b.length:Int).toNat zT65.z).length D5) (O.set g.toNat j)::_::_::_::_::_::_::T) ?_
 refine aC (eC (aE (aD (lO (kM R R) (lI R (aC ?_))))))
 obtain rfl:=so i
 exact qA () (fun w s=>(s.e 7 [0]))
 refine bC R M (iB (eI ?_))
 obtain rfl:=so i
 obtain rfl:=ah _ R
 have i:=ai
 refine eI (gM ?_)
 exact qI (O,()) i (fun w s=>s)
 rintro ⟨ak,_⟩ σ1 i
 replace i:Z0l_J1 ak=some r:=i
 unfold Z0l_J1 at i
 refine aI (aD (lS R (lS R (aC (aE (bO ?_))))))
 obtain rfl:=so i
 exact qF (A5,(List.replicate (b.length:Int).toNat zT65.z).length,D5) (fun w s=>(s.e 2 [0]))
theorem Z2u_ok  {g1:Graph}{r:Graph}(b:Z2u g1=some r) :
 FnOk Tryz.prog 42 [(.agg [(.slice A2 N2 D2),(.slice A3 N3 D3)].toArray)] [aQ kT65 (.slice A2 N2 D2) g1.Nodes,aQ kT3 (.slice A3 N3 D3) g1.Outs] (fun (h:HH×HH)=>((.agg [(.slice h.1.1 h.1.2.1 h.1.2.2),(.slice h.2.1 h.2.2.1 h.2.2.2)].toArray),[ow kT65 65 (.slice h.1.1 h.1.2.1 h.1.2.2) r.Nodes,ow kT3 3 (.slice h.2.1 h.2.2.1 h.2.2.2) r.Outs])):=by
 unfold Z2u at b
 refine aR Tryz.func42 R 10 R R fun C V=>?_
 refine cN (_::_::V) ?_
 refine cL 0 aA ?_
 rintro rfl
 refine cL 1 aA ?_
 rintro rfl
 let m:List HP:=RR kT65 A2 D2 g1.Nodes::RR kT3 A3 D3 g1.Outs::V
 refine cN m ?_
 refine aI (aD (eA R (fun u=>(aY R R ji (fun q=>(aC ?_))))))
 let a:List HP:=aJ u [(sc A2 g1.Nodes D2),(sc A3 g1.Outs D3)] 31::m
 refine qN (_::a) ?_
 refine aE (aI ?_)
 obtain ⟨i,l,b⟩:=bd b
 obtain ⟨j,g,b⟩:=bd b
 refine cX 8 [0] bM (fun D B=>(dR 0 R (dS 0 eF R) (hS:=(sL [0])) (dR 1 R (dV 0 iO R R R) (hS:=(sL [0])) (dR 3 R (dS 1 nQ R) (hS:=(sL [0])) (dR 4 R (dV 0 cB R R R) (hS:=(sL [0])) (d1 2 R (lM (RR kT65 A2 D2 g1.Nodes::_::a) (fun w s=>(s.d 2 R)) ?_)))))))
 refine lC 1 By R (Z0l_ok l) R ?_
 rintro ⟨A8,N8,D8⟩
 refine lN (ow kT65 65 (.slice A8 N8 D8) i::_::a) ?_
 refine aM 0 aB ?_
 rintro rfl
 refine aC (aG (sL [1,0]) (d1 5 R (lM (RR kT3 A3 D3 g1.Outs::_::_::a) (fun w s=>(s.d 4 R)) ?_)))
 refine lC 1 iA R (Z8_ok g) R ?_
 rintro ⟨A11,N11,D11⟩
 refine lN (ow kT3 3 (.slice A11 N11 D11) j::_::_::a) ?_
 refine aM 0 aB ?_
 rintro rfl
 refine aC (aG (sL [2,1,0]) (dR 6 R (vz (.agg [(sc A8 i D8),(sc A11 j D11)].toArray) (aV uU ji R R)) (hS:=(sL [2,1,0])) (d1 7 R (aL 2 R R eG R R R R R R (lN (_::_::aJ q [(sc A8 i D8),(sc A11 j D11)] 31::a) ?_)))))
 refine aC (aG (sL [2,1,0]) (dD (aE (bO ?_))))
 obtain rfl:=so b
 exact cY (vs:=[(.agg [(sc A8 i D8),(sc A11 j D11)].toArray)]) (.inl R) ((A8,i.length,D8),(A11,j.length,D11)) R ⟨⟨2,q,_,_,R,R,.inl ⟨gK,eG,R⟩⟩,trivial⟩ R (fun w s=>(s.e 6 [1,0]))
theorem Z1o_ok  {g1:Graph}{l:Int}{t5:Tensor}{mG:Int}{r:Graph×Bool}(D:Z1o g1 l t5=some r) :
 FnOk Tryz.prog 16 [(.agg [(.slice A2 N2 D2),(.slice A3 N3 D3)].toArray),(iv l),(.agg [(.slice A6 N6 D6),(.slice A7 N7 D7)].toArray)] [aQ kT65 (.slice A2 N2 D2) g1.Nodes,aQ kT3 (.slice A3 N3 D3) g1.Outs,aQ kT3 (.slice A6 N6 D6) t5.Dims,aQ kT3 (.slice A7 N7 D7) t5.Data,gl 0 mG] (fun (h:HH×HH)=>((.tuple [(.agg [(.slice h.1.1 h.1.2.1 h.1.2.2),(.slice h.2.1 h.2.2.1 h.2.2.2)].toArray),(.bool r.2)].toArray),[ow kT65 65 (.slice h.1.1 h.1.2.1 h.1.2.2) r.1.Nodes,ow kT3 3 (.slice h.2.1 h.2.2.1 h.2.2.2) r.1.Outs])):=by
 unfold Z1o at D
 refine aR Tryz.func16 R 64 R R fun C V=>?_
 refine cN (_::_::_::_::_::V) ?_
 refine cL 0 aA ?_
 rintro rfl
 refine cL 1 aA ?_
 rintro rfl
 refine cL 2 aA ?_
 rintro rfl
 refine cL 3 aA ?_
 rintro rfl
 let W0:List HP:=RR kT65 A2 D2 g1.Nodes::RR kT3 A3 D3 g1.Outs::RR kT3 A6 D6 t5.Dims::RR kT3 A7 D7 t5.Data::gl 0 mG::V
 refine cN W0 ?_
 refine aI (aD (eA R (fun b8=>(eA R (fun b9=>(aY R R ji (fun a0=>(lB R (aC ?_)))))))))
 let u:List HP:=aJ b9 [(sc A6 t5.Dims D6),(sc A7 t5.Data D7)] 42::aJ b8 [(sc A2 g1.Nodes D2),(sc A3 g1.Outs D3)] 31::W0
 refine qN (_::u) ?_
 refine aE (aI (aI ?_))
 obtain ⟨O,F,D⟩:=bd D
 obtain ⟨q,D⟩:=gd D
 obtain ⟨T,a4,D⟩:=bd D
 obtain ⟨a2,D⟩:=gd D
 obtain ⟨U,al,D⟩:=bd D
 refine cQ [(1,(iv l)),(3,(pt b8 0)),(5,(pt b9 0)),(6,(pt a0 0)),(48,(.bool ((((((!O)||(decide (l<(0:Int))))||(decide (l≥(g1.Nodes.length:Int))))||((ix g1.Nodes l).Op != (1:Int)))||(!T))||(!U))))] (aJ a0 [(.slice none 0 0),(.slice none 0 0)] 31::u) ?_ ?_
 rcases bo (!O) with g | g
 refine cX 40 [] bM (fun ht hn=>(dR 0 R (vz (.agg [(sc A2 g1.Nodes D2),(sc A3 g1.Outs D3)].toArray) (bK 2 gK eG R R R R)) (d1 1 R (lM (RR kT65 A2 D2 g1.Nodes::RR kT3 A3 D3 g1.Outs::gl 0 mG::aJ _ _ _::u) (fun w s=>((((s.d 3 R).d 5 R).dg 9 R).e 4 [2,1,0,3])) ?_))))
 refine lC 3 rF R (Z1p_ok F) R ?_
 rintro _
 refine lN (_::u) ?_
 refine aC (aG (sL []) (dR 2 R (ki R) (dR 3 R (vB R) (dF 4 R (bN g) (dF 5 R (bN g) (dR 6 R (dX (decide (l<(0:Int))) R g) (dR 7 R (vB R) (dF 8 R (bN (oT g)) (dF 9 R (bN (oT g)) (dF 10 R (bN (oT g)) (dF 11 R (bN (oT g)) (dF 12 R (bN (oT g)) (dR 13 R (dX (decide (l≥(g1.Nodes.length:Int))) R (oT g)) (dR 14 R (vB R) (dF 15 R (bN (oT (oT g))) (dF 16 R (bN (oT (oT g))) (dF 17 R (bN (oT (oT g))) (dF 18 R (bN (oT (oT g))) (dF 19 R (bN (oT (oT g))) (dF 20 R (bN (oT (oT g))) (dF 21 R (bN (oT (oT g))) (dR 22 R (dX ((ix g1.Nodes l).Op != (1:Int)) R (oT (oT g))) (dR 23 R (vB R) (dF 24 R (bN (oT (oT (oT g)))) (dF 25 R (bN (oT (oT (oT g)))) (dF 26 R (bN (oT (oT (oT g)))) (dR 27 R (dX (!T) R (oT (oT (oT g)))) (dR 28 R (vB R) (dF 29 R (bN (oT (oT (oT (oT g))))) (dF 30 R (bN (oT (oT (oT (oT g))))) (dF 31 R (bN (oT (oT (oT (oT g))))) (dF 32 R (bN (oT (oT (oT (oT g))))) (dF 33 R (bN (oT (oT (oT (oT g))))) (dF 34 R (bN (oT (oT (oT (oT g))))) (dF 35 R (bN (oT (oT (oT (oT g))))) (dF 36 R (bN (oT (oT (oT (oT g))))) ?_))))))))))))))))))))))))))))))))))))
 refine dF 37 R (bN (oT (oT (oT (oT g))))) (dF 38 R (bN (oT (oT (oT (oT g))))) (dR 39 R (dX (!U) R (oT (oT (oT (oT g))))) (dD ?_)))
 exact qJ (fun w s=>s)
 rcases bo ((!O)||(decide (l<(0:Int)))) with b | b
 refine cX 40 [] bM (fun ht hn=>(dR 0 R (vz (.agg [(sc A2 g1.Nodes D2),(sc A3 g1.Outs D3)].toArray) (bK 2 gK eG R R R R)) (d1 1 R (lM (RR kT65 A2 D2 g1.Nodes::RR kT3 A3 D3 g1.Outs::gl 0 mG::aJ _ _ _::u) (fun w s=>((((s.d 3 R).d 5 R).dg 9 R).e 4 [2,1,0,3])) ?_))))
 refine lC 3 rF R (Z1p_ok F) R ?_
 rintro _
 refine lN (_::u) ?_
 refine aC (aG (sL []) (dR 2 R (ki R) (dR 3 R (vB R) (dW 4 R (bJ g) (vI R) (dW 5 R (bJ g) (jh R R) (dR 6 R (eH R g R) (dR 7 R (vB R) (dF 8 R (bN b) (dF 9 R (bN b) (dF 10 R (bN b) (dF 11 R (bN b) (dF 12 R (bN b) (dR 13 R (dX (decide (l≥(g1.Nodes.length:Int))) R b) (dR 14 R (vB R) (dF 15 R (bN (oT b)) (dF 16 R (bN (oT b)) (dF 17 R (bN (oT b)) (dF 18 R (bN (oT b)) (dF 19 R (bN (oT b)) (dF 20 R (bN (oT b)) (dF 21 R (bN (oT b)) (dR 22 R (dX ((ix g1.Nodes l).Op != (1:Int)) R (oT b)) (dR 23 R (vB R) (dF 24 R (bN (oT (oT b))) (dF 25 R (bN (oT (oT b))) (dF 26 R (bN (oT (oT b))) (dR 27 R (dX (!T) R (oT (oT b))) (dR 28 R (vB R) (dF 29 R (bN (oT (oT (oT b)))) (dF 30 R (bN (oT (oT (oT b)))) (dF 31 R (bN (oT (oT (oT b)))) (dF 32 R (bN (oT (oT (oT b)))) (dF 33 R (bN (oT (oT (oT b)))) (dF 34 R (bN (oT (oT (oT b)))) (dF 35 R (bN (oT (oT (oT b)))) (dF 36 R (bN (oT (oT (oT b)))) (dF 37 R (bN (oT (oT (oT b)))) (dF 38 R (bN (oT (oT (oT b)))) (dR 39 R (dX (!U) R (oT (oT (oT b)))) (dD ?_))))))))))))))))))))))))))))))))))))))))
 exact qJ (fun w s=>s)
 rcases bo (((!O)||(decide (l<(0:Int))))||(decide (l≥(g1.Nodes.length:Int)))) with a | a
 refine cX 40 [] bM (fun ht hn=>(dR 0 R (vz (.agg [(sc A2 g1.Nodes D2),(sc A3 g1.Outs D3)].toArray) (bK 2 gK eG R R R R)) (d1 1 R (lM (RR kT65 A2 D2 g1.Nodes::RR kT3 A3 D3 g1.Outs::gl 0 mG::aJ _ _ _::u) (fun w s=>((((s.d 3 R).d 5 R).dg 9 R).e 4 [2,1,0,3])) ?_))))
 refine lC 3 rF R (Z1p_ok F) R ?_
 rintro _
 refine lN (_::u) ?_
 refine aC (aG (sL []) (dR 2 R (ki R) (dR 3 R (vB R) (dW 4 R (bJ g) (vI R) (dW 5 R (bJ g) (jh R R) (dR 6 R (eH R g R) (dR 7 R (vB R) (dW 8 R (bJ b) (vI R) (dW 9 R (bJ b) (dS 0 eF R) (dW 10 R (bJ b) (dV 2 iO R R R) (dW 11 R (bJ b) (gV fX R) (dW 12 R (bJ b) (s7 R R) (dR 13 R (eH R b R) (dR 14 R (vB R) (dF 15 R (bN a) (dF 16 R (bN a) (dF 17 R (bN a) (dF 18 R (bN a) (dF 19 R (bN a) (dF 20 R (bN a) (dF 21 R (bN a) (dR 22 R (dX ((ix g1.Nodes l).Op != (1:Int)) R a) (dR 23 R (vB R) (dF 24 R (bN (oT a)) (dF 25 R (bN (oT a)) (dF 26 R (bN (oT a)) (dR 27 R (dX (!T) R (oT a)) (dR 28 R (vB R) (dF 29 R (bN (oT (oT a))) (dF 30 R (bN (oT (oT a))) (dF 31 R (bN (oT (oT a))) (dF 32 R (bN (oT (oT a))) (dF 33 R (bN (oT (oT a))) (dF 34 R (bN (oT (oT a))) (dF 35 R (bN (oT (oT a))) (dF 36 R (bN (oT (oT a))) (dF 37 R (bN (oT (oT a))) (dF 38 R (bN (oT (oT a))) (dR 39 R (dX (!U) R (oT (oT a))) (dD ?_))))))))))))))))))))))))))))))))))))))))
 exact qJ (fun w s=>s)
 rcases bo ((((!O)||(decide (l<(0:Int))))||(decide (l≥(g1.Nodes.length:Int))))||((ix g1.Nodes l).Op != (1:Int))) with j | j
 refine bA 3 aA (show 0<g1.Nodes.length by have:=(q a); omega) (fun B o15 ha=>?_)
 subst ha
 refine cX 40 [] bM (fun ht hn=>(dR 0 R (vz (.agg [(sc (ad B o15) g1.Nodes D2),(sc A3 g1.Outs D3)].toArray) (bK 2 gK eG R R R R)) (d1 1 R (lM (RR kT65 (ad B o15) D2 g1.Nodes::RR kT3 A3 D3 g1.Outs::gl 0 mG::aJ _ _ _::u) (fun w s=>((((s.d 3 R).d 5 R).dg 9 R).e 4 [2,1,0,3])) ?_))))
 refine lC 3 rF R (Z1p_ok F) R ?_
 rintro _
 refine lN (_::u) ?_
 refine aC (aG (sL []) (dR 2 R (ki R) (dR 3 R (vB R) (dW 4 R (bJ g) (vI R) (dW 5 R (bJ g) (jh R R) (dR 6 R (eH R g R) (dR 7 R (vB R) (dW 8 R (bJ b) (vI R) (dW 9 R (bJ b) (dS 0 eF R) (dW 10 R (bJ b) (dV 2 iO R R R) (dW 11 R (bJ b) (gV fX R) (dW 12 R (bJ b) (s7 R R) (dR 13 R (eH R b R) (dR 14 R (vB R) (dW 15 R (bJ a) (dS 0 eF R) (dW 16 R (bJ a) (dV 2 iO R R R) (dW 17 R (bJ a) (vI R) (dW 18 R (bJ a) (eE fX eY R R (q a)) (dW 19 R (bJ a) (vz (.pointer (some ⟨B,o15+l.toNat*6,none⟩)) (gN fS R R)) (dW 20 R (bJ a) (vz (iv (ix g1.Nodes l).Op) (gW (K:=kT65) (fo:=0) (pr:=fun x=>(iv x.Op)) 3 l fR (dT65.leaf fun _ _=>R) aA R (q a).1 (q a).2)) (dW 21 R (bJ a) (sI R R) (dR 22 R (eH R a R) (dR 23 R (vB R) (dF 24 R (bN j) (dF 25 R (bN j) (dF 26 R (bN j) (dR 27 R (dX (!T) R j) (dR 28 R (vB R) (dF 29 R (bN (oT j)) (dF 30 R (bN (oT j)) (dF 31 R (bN (oT j)) (dF 32 R (bN (oT j)) (dF 33 R (bN (oT j)) (dF 34 R (bN (oT j)) (dF 35 R (bN (oT j)) ?_)))))))))))))))))))))))))))))))))))
 refine dF 36 R (bN (oT j)) (dF 37 R (bN (oT j)) (dF 38 R (bN (oT j)) (dR 39 R (dX (!U) R (oT j)) (dD ?_))))
 exact qJ (fun w s=>s)
 rcases bo (((((!O)||(decide (l<(0:Int))))||(decide (l≥(g1.Nodes.length:Int))))||((ix g1.Nodes l).Op != (1:Int)))||(!T)) with i | i
 refine bA 3 aA (show 0<g1.Nodes.length by have:=(q a); omega) (fun B o15 ha=>?_)
 subst ha
 refine cX 40 [] bM (fun ht hn=>(dR 0 R (vz (.agg [(sc (ad B o15) g1.Nodes D2),(sc A3 g1.Outs D3)].toArray) (bK 2 gK eG R R R R)) (d1 1 R (lM (RR kT65 (ad B o15) D2 g1.Nodes::RR kT3 A3 D3 g1.Outs::gl 0 mG::aJ _ _ _::u) (fun w s=>((((s.d 3 R).d 5 R).dg 9 R).e 4 [2,1,0,3])) ?_))))
 refine lC 3 rF R (Z1p_ok F) R ?_
 rintro _
 refine lN (_::u) ?_
 refine aC (aG (sL []) (dR 2 R (ki R) (dR 3 R (vB R) (dW 4 R (bJ g) (vI R) (dW 5 R (bJ g) (jh R R) (dR 6 R (eH R g R) (dR 7 R (vB R) (dW 8 R (bJ b) (vI R) (dW 9 R (bJ b) (dS 0 eF R) (dW 10 R (bJ b) (dV 2 iO R R R) (dW 11 R (bJ b) (gV fX R) (dW 12 R (bJ b) (s7 R R) (dR 13 R (eH R b R) (dR 14 R (vB R) (dW 15 R (bJ a) (dS 0 eF R) (dW 16 R (bJ a) (dV 2 iO R R R) (dW 17 R (bJ a) (vI R) (dW 18 R (bJ a) (eE fX eY R R (q a)) (dW 19 R (bJ a) (vz (.pointer (some ⟨B,o15+l.toNat*6,none⟩)) (gN fS R R)) (dW 20 R (bJ a) (vz (iv (ix g1.Nodes l).Op) (gW (K:=kT65) (fo:=0) (pr:=fun x=>(iv x.Op)) 3 l fR (dT65.leaf fun _ _=>R) aA R (q a).1 (q a).2)) (dW 21 R (bJ a) (sI R R) (dR 22 R (eH R a R) (dR 23 R (vB R) (dW 24 R (bJ j) (vz (.agg [(sc A6 t5.Dims D6),(sc A7 t5.Data D7)].toArray) (bK 1 eR bW R R R R)) (d1 25 R (lM (RR kT3 A6 D6 t5.Dims::RR kT3 A7 D7 t5.Data::aJ _ _ _::u) (fun w s=>(((s.d 5 R).d 7 R).e 3 [1,0,2])) ?_))))))))))))))))))))))))))
 refine bY 2 R (bJ j) xr R (Z1y_ok (bL a4 (cP j))) R ?_
 rintro _
 refine lN (_::u) ?_
 refine aC (aG (sL []) (dW 26 R (bJ j) (ki R) (dR 27 R (eH R j R) (dR 28 R (vB R) (dF 29 R (bN i) (dF 30 R (bN i) (dF 31 R (bN i) (dF 32 R (bN i) (dF 33 R (bN i) (dF 34 R (bN i) (dF 35 R (bN i) (dF 36 R (bN i) (dF 37 R (bN i) (dF 38 R (bN i) (dR 39 R (dX (!U) R i) (dD ?_))))))))))))))))
 exact qJ (fun w s=>s)
 refine bA 3 aA (show 0<g1.Nodes.length by have:=(q a); omega) (fun B o15 ha=>?_)
 subst ha
 refine dG (K:=kT65) 3 l dT65.dec R (a2 i).1 (a2 i).2 ?_
 rintro ⟨-,⟨a9,ag⟩,⟨aa,ah⟩,⟨ab,ai⟩,-,⟨ac,aj⟩⟩
 refine cN (cl B (o15+l.toNat*6) [(iv (ix g1.Nodes l).Op),(sc a9 ((ix g1.Nodes l).Args) ag),(sc aa ((ix g1.Nodes l).Dims) ah),(sc ab ((ix g1.Nodes l).Ints) ai),(aH (ix g1.Nodes l).Form),(sc ac ((ix g1.Nodes l).Data) aj)]::RR kT3 a9 ag ((ix g1.Nodes l).Args)::RR kT3 aa ah ((ix g1.Nodes l).Dims)::RR kT3 ab ai ((ix g1.Nodes l).Ints)::RR kT3 ac aj ((ix g1.Nodes l).Data)::_::u) ?_
 refine cX 40 [] bM (fun ht hn=>(dR 0 R (vz (.agg [(sc (ad B o15) g1.Nodes D2),(sc A3 g1.Outs D3)].toArray) (bK 7 gK eG R R R R)) (d1 1 R (lM (RR kT65 (ad B o15) D2 g1.Nodes::RR kT3 A3 D3 g1.Outs::gl 0 mG::cl _ _ _::aQ _ _ _::aQ _ _ _::aQ _ _ _::aQ _ _ _::aJ _ _ _::u) (fun w s=>((((s.d 8 R).d 10 R).dg 14 R).f 9 [2,1,1,1,0,1,3,6])) ?_))))
 refine lC 3 rF R (Z1p_ok F) R ?_
 rintro _
 refine lN (_::_::_::_::_::_::u) ?_
 refine aC (aG (sL []) (dR 2 R (ki R) (dR 3 R (vB R) (dW 4 R (bJ g) (vI R) (dW 5 R (bJ g) (jh R R) (dR 6 R (eH R g R) (dR 7 R (vB R) (dW 8 R (bJ b) (vI R) (dW 9 R (bJ b) (dS 0 eF R) (dW 10 R (bJ b) (dV 7 iO R R R) (dW 11 R (bJ b) (gV fX R) (dW 12 R (bJ b) (s7 R R) (dR 13 R (eH R b R) (dR 14 R (vB R) (dW 15 R (bJ a) (dS 0 eF R) (dW 16 R (bJ a) (dV 7 iO R R R) (dW 17 R (bJ a) (vI R) (dW 18 R (bJ a) (eE fX eY R R (q a)) (dW 19 R (bJ a) (vz (.pointer (some ⟨B,o15+l.toNat*6,none⟩)) (gN fS R R)) (dW 20 R (bJ a) (vz (iv (ix g1.Nodes l).Op) (gW (K:=kT65) (fo:=0) (pr:=fun x=>(iv x.Op)) 8 l fR (dT65.leaf fun _ _=>R) aA R (q a).1 (q a).2)) (dW 21 R (bJ a) (sI R R) (dR 22 R (eH R a R) (dR 23 R (vB R) (dW 24 R (bJ j) (vz (.agg [(sc A6 t5.Dims D6),(sc A7 t5.Data D7)].toArray) (bK 6 eR bW R R R R)) (d1 25 R ?_)))))))))))))))))))))))))
 refine lM (RR kT3 A6 D6 t5.Dims::RR kT3 A7 D7 t5.Data::cl _ _ _::aQ _ _ _::aQ _ _ _::aQ _ _ _::aQ _ _ _::aJ _ _ _::u) (fun w s=>(((s.d 10 R).d 12 R).f 8 [1,1,0,1,2,6])) ?_
 refine bY 2 R (bJ j) xr R (Z1y_ok (bL a4 (cP j))) R ?_
 rintro _
 refine lN (_::_::_::_::_::_::u) ?_
 refine aC (aG (sL []) (dW 26 R (bJ j) (ki R) (dR 27 R (eH R j R) (dR 28 R (vB R) (dW 29 R (bJ i) (dS 0 fT R) (dW 30 R (bJ i) (dV 6 cB R R R) (dW 31 R (bJ i) (dS 0 eF R) (dW 32 R (bJ i) (dV 7 iO R R R) (dW 33 R (bJ i) (vI R) (dW 34 R (bJ i) (eE fX eY R R (a2 i)) (dW 35 R (bJ i) (vz (.pointer (some ⟨B,o15+l.toNat*6+2,none⟩)) (gN iG R R)) (dW 36 R (bJ i) (eD (fo:=2) 0 cB R R R) (d1 37 R (lM (RR kT3 A6 D6 t5.Dims::aQ _ _ _::cl _ _ _::aQ _ _ _::aQ _ _ _::aQ _ _ _::aQ _ _ _::aJ _ _ _::u) (fun w s=>(((s.d 10 R).d 3 R).f 8 [1,1,0,1,2,6])) ?_))))))))))))))
 refine bY 2 R (bJ i) zD R (Z0o_ok (bL al (cP i))) R ?_
 rintro _
 refine lN (_::_::_::_::_::_::u) ?_
 refine aC (aG (sL []) (dW 38 R (bJ i) (ki R) (dR 39 R (eH R i R) (dD ?_))))
 exact qJ (fun w s=>(s.e 6 [5]))
 rintro σ1
 refine aE ?_
 rcases cG D with ⟨a1,D⟩|⟨a1,D⟩
 refine bS R a1 (aI (aD (lO (vz (.agg [(.slice none 0 0),(.slice none 0 0)].toArray) (aV uU ji R R)) (aL 0 R R eG R R R R R R (lN (_::u) ?_)))))
 refine lB R (aC (aE (bO (bP ?_))))
 obtain rfl:=so D
 exact cY (vs:=[(.agg [(.slice none 0 0),(.slice none 0 0)].toArray),(.bool false)]) (.inl R) ((none,0,0),(none,0,0)) R ⟨⟨0,a0,_,_,R,R,.inl ⟨gK,eG,R⟩⟩,R,trivial⟩ R (fun w s=>(((s.nilo kT65 65).nilo kT3 3).e 10 [1,0]))
 refine bC R a1 (bZ (aE (aI ?_)))
 obtain ⟨m,am,D⟩:=bd D
 refine aD (lO (vz (.agg [(sc A2 g1.Nodes D2),(sc A3 g1.Outs D3)].toArray) (bK 2 gK eG R R R R)) (lM (RR kT65 A2 D2 g1.Nodes::RR kT3 A3 D3 g1.Outs::aJ _ _ _::u) (fun w s=>(((s.d 3 R).d 5 R).e 3 [1,0,2])) ?_))
 refine lC 2 Bz R (Z2u_ok am) R ?_
 rintro ⟨⟨ae,ap,E⟩,⟨J,aq,L⟩⟩
 refine lN (ow kT65 65 (.slice ae ap E) m.Nodes::ow kT3 3 (.slice J aq L) m.Outs::_::u) ?_
 refine aM 0 aB ?_
 rintro rfl
 refine aM 1 aB ?_
 rintro rfl
 refine aY R R ji (fun ak=>(aL 0 R R eG R R R R R R (lN (aJ ak [(sc ae m.Nodes E),(sc J m.Outs L)] 31::_::_::_::u) ?_)))
 refine aC (aE (aI ?_))
 obtain ⟨Y,an,D⟩:=bd D
 obtain ⟨Z,ao,D⟩:=bd D
 obtain ⟨M,D⟩:=gd D
 refine bA 1 aB (show 0<m.Nodes.length by have:=M; omega) (fun G o44 ha=>?_)
 subst ha
 refine cX 12 [1] bM (fun ht hn=>(dR 0 R (dS 0 eF R) (hS:=(sL [1])) (dR 1 R (dV 0 iO R R R) (hS:=(sL [1])) (dR 2 R (vI R) (hS:=(sL [1])) (dR 3 R (dS 0 fT R) (hS:=(sL [1])) (dR 4 R (dV 3 cB R R R) (hS:=(sL [1])) (dR 6 R (dS 1 ka R) (hS:=(sL [1])) (dR 7 R (dV 3 cB R R R) (hS:=(sL [1])) (d1 5 R (lM (RR kT3 A6 D6 t5.Dims::aJ ak [(sc (ad G o44) m.Nodes E),(sc J m.Outs L)] 31::OO kT65 65 (ad G o44) E m.Nodes::_::_::u) (fun w s=>(s.d 8 R)) ?_))))))))))
 refine lC 1 iA R (Z8_ok an) R ?_
 rintro ⟨a5,ar,a7⟩
 refine lN (ow kT3 3 (.slice a5 ar a7) Y::_::_::_::_::u) ?_
 refine aM 0 aB ?_
 rintro rfl
 refine aC (aG (sL [2,0]) (d1 8 R (lM (RR kT3 A7 D7 t5.Data::_::_::_::_::_::u) (fun w s=>(s.d 10 R)) ?_)))
 refine lC 1 iA R (Z8_ok ao) R ?_
 rintro ⟨a6,au,a8⟩
 refine lN (ow kT3 3 (.slice a6 au a8) Z::_::_::_::_::_::u) ?_
 refine aM 0 aB ?_
 rintro rfl
 refine aC (aG (sL [3,1,0]) (dR 9 R (vz (.agg [(iv 2),(.slice none 0 0),(sc a5 Y a7),(.slice none 0 0),(aH ([]:aO)),(sc a6 Z a8)].toArray) (aV uV kA R R)) (hS:=(sL [3,1,0])) (dR 10 R (eE fX eY R R M) (hS:=(sL [3,1,0])) (d1 11 R (lM (ow _ _ _ _::ow kT3 3 (.slice none 0 0) ([]:List Int)::ow _ _ _ _::ow kT3 3 (.slice none 0 0) ([]:List Int)::ow _ _ _ _::aJ _ _ _::ow _ _ _ _::aJ _ _ _::u) (fun w s=>(((s.nilo kT3 3).nilo kT3 3).e 8 [5,1,3,0,2,4,6,7])) ?_)))))
 refine dZ (K:=kT65) (x':=(⟨(2:Int),([]:List Int),Y,([]:List Int),([]:aO),Z⟩:Node)) 4 l R R eY R R M.1 M.2 ?_ ?_
 exact fun I h s=>(mJ).put I h ((),(.slice none 0 0),(sc a5 Y a7),(.slice none 0 0),(),(sc a6 Z a8)) (⟨(2:Int),([]:List Int),Y,([]:List Int),([]:aO),Z⟩:Node) s
 refine lN (ow kT65 65 (.slice (ad G o44) m.Nodes.length E) (m.Nodes.set l.toNat (⟨(2:Int),([]:List Int),Y,([]:List Int),([]:aO),Z⟩:Node))::_::_::_::u) ?_
 refine aC (aG (sL [0]) (dD ?_))
 obtain ⟨av,a3,D⟩:=bd D
 replace a3:=Option.some.inj a3
 refine qM (ow kT65 65 (.slice (ad G o44) m.Nodes.length E) av::_::_::_::u) (fun w s=>by rw [← a3]; exact s) ?_
 refine aE (aI (aD (lO (vz (.agg [(sc (ad G o44) m.Nodes E),(sc J m.Outs L)].toArray) (bK 1 gK eG R R R R)) (aL 3 R R eG R R R R R R (lN (_::_::_::aJ a0 [(sc (ad G o44) m.Nodes E),(sc J m.Outs L)] 31::u) ?_)))))
 refine lB R (aC (aE (bO ?_)))
 obtain rfl:=so D
 exact cY (vs:=[(.agg [(sc (ad G o44) m.Nodes E),(sc J m.Outs L)].toArray),(.bool true)]) (.inl R) (((ad G o44),m.Nodes.length,E),(J,m.Outs.length,L)) R ⟨⟨3,a0,_,_,R,R,.inl ⟨gK,eG,R⟩⟩,R,trivial⟩ R (fun w s=>(s.e 11 [0,2]))
end Go.Proofs.YthelanpdjajnbaaGreat
