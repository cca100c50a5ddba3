import Derived.Test.YthelanpdjajnbaaGreatKcF
import Derived.Test.YthelanpdjajnbaaGreatKcW1
import Derived.Test.YthelanpdjajnbaaGreatKcW6
import Derived.Test.YthelanpdjajnbaaGreatKcW7
set_option linter.unusedVariables false
set_option maxRecDepth 20000
namespace Go.Proofs.YthelanpdjajnbaaGreat
open Go Go.Pg
variable {A2 A3 A4 A5 A7 A9 A10 A11 A12 A14:Option Addr}{D2 D3 D4 D5 D7 D9 D10 D11 D12 D14 N2 N3 N4 N5 N7 N9 N10 N11 N12 N14:Nat}
theorem Z1q_ok  {k1:shiftKind}{F:Int}{G:Int}{b:Node}{a:(List (List Int))}{j:Nat}{l:Nat}{m:Nat}{r:(List Int)×Bool}(i:Z1q k1 F G b a=some r) :
 FnOk Tryz.prog 217 [(.agg [(aE k1.use),(.func (.func 143) [].toArray [(pt j 0),(pt l 0),(pt m 0)].toArray)].toArray),(.agg [(iv b.Op),(.slice A9 N9 D9),(.slice A10 N10 D10),(.slice A11 N11 D11),(aE b.Form),(.slice A12 N12 D12)].toArray),(.slice A14 N14 D14)] [aJ j [(iv F)] 3,aJ l [(iv G)] 3,aJ m [(.func (.func 107) [].toArray [].toArray)] 136,aN kT3 (.slice A9 N9 D9) b.Args,aN kT3 (.slice A10 N10 D10) b.Dims,aN kT3 (.slice A11 N11 D11) b.Ints,aN kT3 (.slice A12 N12 D12) b.Data,aN bH (.slice A14 N14 D14) a] (fun (h:HH)=>((.tuple [(s3 h),(.bool r.2)].toArray),[ow kT3 3 (s3 h) r.1,aJ j [(iv F)] 3,aJ l [(iv G)] 3,aJ m [(.func (.func 107) [].toArray [].toArray)] 136])):=by
 unfold Z1q at i
 refine aP Tryz.func217 R 27 R R fun C V=>?_
 refine cL 3 aA ?_
 rintro rfl
 refine cL 4 aA ?_
 rintro rfl
 refine cL 5 aA ?_
 rintro rfl
 refine cL 6 aA ?_
 rintro rfl
 refine cL 7 aA ?_
 rintro rfl
 let Y:=RR kT3 A9 D9 b.Args::RR kT3 A10 D10 b.Dims::RR kT3 A11 D11 b.Ints::RR kT3 A12 D12 b.Data::RR bH A14 D14 a::V
 refine aU ?_
 refine eJ R fun D=>?_
 refine eJ R fun E=>?_
 refine aQ ?_
 refine qM _ (fun w s=>(s.f 5 [2,3,0,2])) ?_
 let W1:=aJ E [(iv b.Op),(sc A9 b.Args D9),(sc A10 b.Dims D10),(sc A11 b.Ints D11),(aE b.Form),(sc A12 b.Data D12)] 65::aJ D [(aE k1.use),(.func (.func 143) [].toArray [(pt j 0),(pt l 0),(pt m 0)].toArray)] 131::Y
 refine dA ?_
 split at i
 refine dA ?_
 cases i
 exact jC (none,0,0) (fun w s=>((s.nilo kT3 3).f 11 [0,4]))
 refine bI ?_
 obtain ⟨g,i⟩:=gd i
 obtain ⟨I,q,i⟩:=bd i
 refine bA 9 aA (show 0<a.length by have:=g; omega) (fun Z o20 ha=>?_)
 subst ha
 refine dO (K:=bH) 9 (0:Int) dT23.dec R g.1 g.2 ?_
 rintro ⟨J,M⟩
 refine dF 14 [] bO fun ht hn=>?_
 refine ko 0 [] ?_
 refine dR 5 R (eN (fo:=0) 0 cY R R R) (d1 6 R (lM _ (fun w s=>((((((s.d 7 R).d 9 R).d 11 R).d 13 R).d 5 R).e 10 [4,3,2,1,0,7,8,9,5,6])) ?_))
 refine cE (fs:=[]) (cs:=[(pt j 0),(pt l 0),(pt m 0)]) 8 R R qy R R (Z2w_ok q) R ?_
 rintro ⟨⟨u,T,B⟩,⟨L,U,O⟩⟩
 refine aM 0 aB ?_
 rintro rfl
 refine aM 1 aB ?_
 rintro rfl
 refine aC (aI (fun w s=>(s.f 7 [5,2,2,3])) (dR 7 R (vT R) (hS:=(fun w s=>(s.f 7 [5,2,2,3]))) (dR 8 R (vS R) (hS:=(fun w s=>(s.f 7 [5,2,2,3]))) (dR 9 R (vS R) (hS:=(fun w s=>(s.f 7 [5,2,2,3]))) (dR 10 R (vB R) (hS:=(fun w s=>(s.f 7 [5,2,2,3]))) (dR 11 R (vS R) (hS:=(fun w s=>(s.f 7 [5,2,2,3]))) (dR 12 R (vS R) (hS:=(fun w s=>(s.f 7 [5,2,2,3]))) (dR 13 R (vB R) (hS:=(fun w s=>(s.f 7 [5,2,2,3]))) (dD ?_)))))))))
 refine dG ?_
 cases i
 exact jC (u,I.1.length,B) (tE 14 [0,2,3,4])
theorem Z0f_ok  {g:(List Int)}{l:Int}{b:(List Int)}{r:(List Int)×(List pair)×Bool}(m:Z0f g l b=some r) :
 FnOk Tryz.prog 110 [(.slice A2 N2 D2),(iv l),(.slice A5 N5 D5)] [aN kT3 (.slice A2 N2 D2) g,aN kT3 (.slice A5 N5 D5) b] (fun (h:HH×HH)=>((.tuple [(s3 h.1),(s3 h.2),(.bool r.2.2)].toArray),[ow kT3 3 (s3 h.1) r.1,ow kT165 165 (s3 h.2) r.2.1])):=by
 unfold Z0f at m
 refine aP Tryz.func110 R 67 R R fun C V=>?_
 refine cL 0 aA ?_
 rintro rfl
 refine cL 1 aA ?_
 rintro rfl
 let U:=RR kT3 A2 D2 g::RR kT3 A5 D5 b::V
 refine cN U ?_
 refine dA ?_
 obtain ⟨r6,al,m⟩:=bd m
 refine cQ [(0,(sc A2 g D2)),(1,(iv l)),(2,(sc A5 b D5)),(26,(.bool (((!r6)||((b.length:Int)==0))||(decide ((b.length:Int)>4096)))))] (U) ?_ ?_
 refine aQ ?_
 refine lM _ (fun w s=>(s.d 0 R)) ?_
 refine lC 1 gW R (Zo_ok al) R ?_
 rintro _
 refine lN U ?_
 refine aU ?_
 rcases bo (!r6) with ai | ai
 refine dG ?_
 exact qj tI
 refine cI ?_
 rcases bo ((!r6)||((b.length:Int)==0)) with aj | aj
 refine cI ?_
 exact qj tI
 refine cI ?_
 exact qj tI
 rintro σ1
 refine bX ?_
 split at m
 refine dG ?_
 cases m
 exact iy ((none,0,0),(none,0,0)) (fun w s=>(((s.nilo kT3 3).nilo kT165 165).e 4 [1,0]))
 refine cI ?_
 refine bP (K:=kT165) (xs:=([]:List pair)) (vs:=[]) 0 R R fK fL eT R R R R R R ?_ R (fun A11 D11=>?_)
 exact fun I h s=>(j9).list [] I h s
 refine bI ?_
 refine bB (A:=((List pair))×(HH×HH)) (fun a=>Z0f_J1 g l b a.1=some r) (fun a=>[(0,(sc A2 g D2)),(1,(iv l)),(2,(s3 a.2.1)),(9,(s3 a.2.2))]) (fun a=>aN kT3 (s3 a.2.1) b::ow kT165 165 (s3 a.2.2) a.1::U) ?_ ?_
 refine dI ?_
 obtain ⟨e1,ak,a5⟩:=bd m
 refine bD (A:=HH×HH) ak (fun s a=>[(0,(sc A2 g D2)),(1,(iv l)),(2,(s3 a.1)),(9,(s3 a.2)),(28,(s3 a.1)),(29,(il b)),(30,(iv s.2))]) (fun s a=>aN kT3 (s3 a.1) b::ow kT165 165 (s3 a.2) s.1::U) ((A5,b.length,D5),(A11,([]:List pair).length,D11)) (aS R) (fun w s=>(s.d 2 R)) ?_
 rintro ⟨i,j⟩ ⟨⟨a9,ac,D⟩,⟨G,ae,M⟩⟩ σ1 an m a2
 dsimp only [Z0f_L1] at m
 refine bK 0 aA (fun (Y:ac=b.length)=>?_)
 subst Y
 refine bK 1 aB (fun (Y:ae=i.length)=>?_)
 subst Y
 refine bW ?_
 split at m
 refine bW ?_
 obtain ⟨a3,m⟩:=gd m
 refine aU ?_
 refine bC 0 aA (show 0<b.length by have:=a3; omega) (fun F o31 ha=>?_)
 subst ha
 refine dI ?_
 obtain ⟨E,m⟩:=gd m
 refine cQ [(0,(sc A2 g D2)),(1,(iv l)),(2,(sc (ad F o31) b D)),(9,(sc G i M)),(10,(iv j)),(11,(iv (ix b j))),(28,(sc (ad F o31) b D)),(29,(il b)),(30,(iv j)),(44,(.bool ((decide ((ix b j)<0))||(decide ((ix b j)≥(ix g l))))))] (RR kT3 (ad F o31) D b::OO kT165 165 G M i::U) ?_ ?_
 refine bI ?_
 rcases bo (decide ((ix b j)<0)) with u | u
 refine dI ?_
 exact qj tI
 refine aQ ?_
 refine bC 2 aA (show 0<g.length by have:=(E u); omega) (fun aw o34 ha=>?_)
 subst ha
 refine lW (cC u) (eM bM cJ R R (E u)) (lW (cC u) (gK 2 fP aA R (E u)) ?_)
 refine aQ ?_
 exact qj tI
 rintro σ1
 refine bX ?_
 split at m
 refine iM ?_
 cases m
 obtain rfl:=a2 _ R
 have m:=a5
 refine aQ ?_
 cases m
 exact iy ((none,0,0),(none,0,0)) (fun w s=>(((s.nilo kT3 3).nilo kT165 165).e 6 [1,0]))
 refine aQ ?_
 obtain ⟨a4,m⟩:=gd m
 refine bI ?_
 refine lO (vz (.agg [(iv (ix b j)),(iv j)].toArray) (aX mK eT R R)) (bP (K:=kT165) (xs:=([(⟨(ix b j),j⟩:pair)]:List pair)) (vs:=[(.agg [(iv (ix b j)),(iv j)].toArray)]) 0 R R fK fL eT R R R R R R ?_ R (fun ao aq=>?_))
 exact fun I h s=>(j9).list [(((),()),(⟨(ix b j),j⟩:pair))] I h s
 refine lM _ (tE 3 [2,0,1]) ?_
 refine eP (K:=kT165) 8796093022208 R R fK fL lK (Zr.zk zT165 eT) R R R R R R dZ a4 (fun a0 a1=>(lN (OO kT165 165 a0 a1 (i++([(⟨(ix b j),j⟩:pair)]:List pair))::_::U) ?_))
 refine dI ?_
 cases m
 exact qA (((ad F o31),b.length,D),(a0,(i++([(⟨(ix b j),j⟩:pair)]:List pair)).length,a1)) (tE 2 [1,0])
 refine aQ ?_
 cases m
 obtain rfl:=a2 _ R
 have m:=a5
 refine aU ?_
 exact qI (i,((a9,b.length,D),(G,i.length,M))) m tI
 rintro ⟨q,⟨⟨ap,ag,ar⟩,⟨J,ah,O⟩⟩⟩ σ1 m
 dsimp only [Z0f_J1] at m
 refine bK 0 aA (fun (Y:ag=b.length)=>?_)
 subst Y
 refine bK 1 aB (fun (Y:ah=q.length)=>?_)
 subst Y
 refine bX ?_
 obtain ⟨Z,a6,m⟩:=bd m
 refine cI ?_
 refine lM _ (fun w s=>(s.d 2 R)) ?_
 refine lC 1 qv R (Z1m_ok a6) R ?_
 rintro ⟨L,au,T⟩
 refine aM 0 aB ?_
 rintro rfl
 refine cI ?_
 obtain ⟨ax,a7,m⟩:=bd m
 refine aU ?_
 refine lC 1 lg R (FnOk.lends (A':=[OO kT3 3 L T Z]) (A:=[RR kT3 L T Z]) (B:=[]) (Zd_ok a7) ⟨aZ,trivial⟩ (fun _=>trivial)) R ?_
 rintro _
 refine aQ ?_
 split at m
 refine dG ?_
 cases m
 exact iy ((none,0,0),(none,0,0)) (fun w s=>(((s.nilo kT3 3).nilo kT165 165).e 7 [1,0]))
 refine bI ?_
 obtain ⟨am,a8,m⟩:=bd m
 refine dU ?_
 refine lM _ (fun w s=>((s.d 3 R).e 4 [3,0,1,2])) ?_
 refine lC 2 t6 R (FnOk.lends (A':=[OO kT165 165 J O q]) (A:=[RR kT165 J O q]) (B:=[RR kT3 A2 D2 g]) (FnOk.perm (Z8_ok a8) (Pre':=[RR kT165 J O q,RR kT3 A2 D2 g]) (fun _ _ _ s=>(s.e 2 [1,0]))) ⟨aZ,trivial⟩ (fun _=>⟨(bN sI),trivial⟩)) R ?_
 rintro ⟨aa,av,ab⟩
 refine aM 1 aB ?_
 rintro rfl
 refine bW ?_
 cases m
 exact iy ((L,Z.length,T),(aa,am.length,ab)) (tE 6 [2,1])
theorem Z24_ok  {p1:(List Int)}{a:(List Int)}{r:(List Int)×(List pair)×Bool}(b:Z24 p1 a=some r) :
 FnOk Tryz.prog 109 [(.slice A2 N2 D2),(.slice A4 N4 D4)] [aN kT3 (.slice A2 N2 D2) p1,aN kT3 (.slice A4 N4 D4) a] (fun (h:HH×HH)=>((.tuple [(s3 h.1),(s3 h.2),(.bool r.2.2)].toArray),[ow kT3 3 (s3 h.1) r.1,ow kT165 165 (s3 h.2) r.2.1])):=by
 unfold Z24 at b
 refine aP Tryz.func109 R 17 R R fun C V=>?_
 refine cL 0 aA ?_
 rintro rfl
 refine cL 1 aA ?_
 rintro rfl
 let B:=RR kT3 A2 D2 p1::RR kT3 A4 D4 a::V
 refine cN B ?_
 refine dI ?_
 obtain ⟨q,b⟩:=gd b
 obtain ⟨g,b⟩:=gd b
 obtain ⟨j,i,b⟩:=bd b
 refine bA 0 aA (show 0<p1.length by have:=q; omega) (fun E o7 D=>?_)
 subst D
 refine dF 13 [] bO fun G F=>?_
 refine ko 0 [] ?_
 refine d1 5 R (gJ (K:=kT3) (1:Int) (p1.length:Int) 0 R R bM cJ R R R R g.1 g.2.1 g.2.2 (fun A9 D9=>(aC (aI (sL [0]) (d1 6 R (lM _ (fun w s=>(((s.d 2 R).d 1 R).e 3 [1,0,2])) ?_))))))
 refine lC 2 z' R (Z0f_ok i) R ?_
 rintro ⟨⟨A12,N12,D12⟩,⟨l,u,m⟩⟩
 refine aM 0 aB ?_
 rintro rfl
 refine aM 1 aB ?_
 rintro rfl
 refine aC (aI (sL [2,1,0]) ?_)
 refine sG 7 [2,1,0] ?_
 refine dD ?_
 refine aU ?_
 cases b
 exact iy ((A12,j.1.length,D12),(l,j.2.1.length,m)) (tE 5 [0,1])
theorem Z2x_ok  {a:Node}{b:(List Int)}{m:Int}{i:Int}{E:Nat}{j:Nat}{g:Nat}{r:(List Int)×(List pair)×Bool}(l:Z2x a b m i=some r) :
 FnOk Tryz.prog 143 [(.agg [(iv a.Op),(.slice A2 N2 D2),(.slice A3 N3 D3),(.slice A4 N4 D4),(aE a.Form),(.slice A5 N5 D5)].toArray),(.slice A7 N7 D7),(pt E 0),(pt j 0),(pt g 0)] [aN kT3 (.slice A2 N2 D2) a.Args,aN kT3 (.slice A3 N3 D3) a.Dims,aN kT3 (.slice A4 N4 D4) a.Ints,aN kT3 (.slice A5 N5 D5) a.Data,aN kT3 (.slice A7 N7 D7) b,aJ E [(iv m)] 3,aJ j [(iv i)] 3,aJ g [(.func (.func 109) [].toArray [].toArray)] 136] (fun (h:HH×HH)=>((.tuple [(s3 h.1),(s3 h.2),(.bool r.2.2)].toArray),[ow kT3 3 (s3 h.1) r.1,ow kT165 165 (s3 h.2) r.2.1,aJ E [(iv m)] 3,aJ j [(iv i)] 3,aJ g [(.func (.func 109) [].toArray [].toArray)] 136])):=by
 unfold Z2x at l
 refine aP Tryz.func143 R 30 R R fun C V=>?_
 refine cM _ (fun w s=>(s.f 8 [5,3,0,5])) ?_
 refine cL 3 aA ?_
 rintro rfl
 refine cL 4 aA ?_
 rintro rfl
 refine cL 5 aA ?_
 rintro rfl
 refine cL 6 aA ?_
 rintro rfl
 refine cL 7 aA ?_
 rintro rfl
 let T:=RR kT3 A2 D2 a.Args::RR kT3 A3 D3 a.Dims::RR kT3 A4 D4 a.Ints::RR kT3 A5 D5 a.Data::RR kT3 A7 D7 b::V
 refine aU ?_
 refine eJ R fun q=>?_
 refine bI ?_
 let L:=aJ q [(iv a.Op),(sc A2 a.Args D2),(sc A3 a.Dims D3),(sc A4 a.Ints D4),(aE a.Form),(sc A5 a.Data D5)] 65::aJ E [(iv m)] 3::aJ j [(iv i)] 3::aJ g [(.func (.func 109) [].toArray [].toArray)] 136::T
 refine qN L ?_
 refine aQ ?_
 refine cQ [(1,(sc A7 b D7)),(4,(pt g 0)),(5,(pt q 0)),(21,(.bool ((decide ((a.Ints.length:Int)<m))||(decide ((a.Ints.length:Int)>i)))))] (L) ?_ ?_
 refine dU ?_
 rcases bo (decide ((a.Ints.length:Int)<m)) with u | u
 refine dU ?_
 exact qj tI
 refine dU ?_
 exact qj tI
 rintro σ1
 refine bX ?_
 split at l
 refine dG ?_
 cases l
 exact iy ((none,0,0),(none,0,0)) (fun w s=>(((s.nilo kT3 3).nilo kT165 165).e 11 [1,0,3,4,5]))
 refine bI ?_
 obtain ⟨D,B,l⟩:=bd l
 refine cI ?_
 refine lM _ (fun w s=>(((s.d 6 R).d 9 R).e 2 [1,0])) ?_
 refine cE (fs:=[]) (cs:=[]) 2 R R A0 R R (Z24_ok B) R ?_
 rintro ⟨⟨F,M,I⟩,⟨G,O,J⟩⟩
 refine aM 0 aB ?_
 rintro rfl
 refine aM 1 aB ?_
 rintro rfl
 refine dA ?_
 cases l
 exact iy ((F,D.1.length,I),(G,D.2.1.length,J)) (fun w s=>(s.f 11 [0,2,3,3]))
theorem Z1r_ok  {k1:shiftKind}{F:Int}{G:Int}{b:Node}{a:(List (List Int))}{j:Nat}{l:Nat}{m:Nat}{r:(List Int)×Bool}(i:Z1r k1 F G b a=some r) :
 FnOk Tryz.prog 217 [(.agg [(aE k1.use),(.func (.func 143) [].toArray [(pt j 0),(pt l 0),(pt m 0)].toArray)].toArray),(.agg [(iv b.Op),(.slice A9 N9 D9),(.slice A10 N10 D10),(.slice A11 N11 D11),(aE b.Form),(.slice A12 N12 D12)].toArray),(.slice A14 N14 D14)] [aJ j [(iv F)] 3,aJ l [(iv G)] 3,aJ m [(.func (.func 109) [].toArray [].toArray)] 136,aN kT3 (.slice A9 N9 D9) b.Args,aN kT3 (.slice A10 N10 D10) b.Dims,aN kT3 (.slice A11 N11 D11) b.Ints,aN kT3 (.slice A12 N12 D12) b.Data,aN bH (.slice A14 N14 D14) a] (fun (h:HH)=>((.tuple [(s3 h),(.bool r.2)].toArray),[ow kT3 3 (s3 h) r.1,aJ j [(iv F)] 3,aJ l [(iv G)] 3,aJ m [(.func (.func 109) [].toArray [].toArray)] 136])):=by
 unfold Z1r at i
 refine aP Tryz.func217 R 27 R R fun C V=>?_
 refine cL 3 aA ?_
 rintro rfl
 refine cL 4 aA ?_
 rintro rfl
 refine cL 5 aA ?_
 rintro rfl
 refine cL 6 aA ?_
 rintro rfl
 refine cL 7 aA ?_
 rintro rfl
 let Y:=RR kT3 A9 D9 b.Args::RR kT3 A10 D10 b.Dims::RR kT3 A11 D11 b.Ints::RR kT3 A12 D12 b.Data::RR bH A14 D14 a::V
 refine aU ?_
 refine eJ R fun D=>?_
 refine eJ R fun E=>?_
 refine aQ ?_
 refine qM _ (fun w s=>(s.f 5 [2,3,0,2])) ?_
 let W1:=aJ E [(iv b.Op),(sc A9 b.Args D9),(sc A10 b.Dims D10),(sc A11 b.Ints D11),(aE b.Form),(sc A12 b.Data D12)] 65::aJ D [(aE k1.use),(.func (.func 143) [].toArray [(pt j 0),(pt l 0),(pt m 0)].toArray)] 131::Y
 refine dA ?_
 split at i
 refine dA ?_
 cases i
 exact jC (none,0,0) (fun w s=>((s.nilo kT3 3).f 11 [0,4]))
 refine bI ?_
 obtain ⟨g,i⟩:=gd i
 obtain ⟨I,q,i⟩:=bd i
 refine bA 9 aA (show 0<a.length by have:=g; omega) (fun Z o20 ha=>?_)
 subst ha
 refine dO (K:=bH) 9 (0:Int) dT23.dec R g.1 g.2 ?_
 rintro ⟨J,M⟩
 refine dF 14 [] bO fun ht hn=>?_
 refine ko 0 [] ?_
 refine dR 5 R (eN (fo:=0) 0 cY R R R) (d1 6 R (lM _ (fun w s=>((((((s.d 7 R).d 9 R).d 11 R).d 13 R).d 5 R).e 10 [4,3,2,1,0,7,8,9,5,6])) ?_))
 refine cE (fs:=[]) (cs:=[(pt j 0),(pt l 0),(pt m 0)]) 8 R R qy R R (Z2x_ok q) R ?_
 rintro ⟨⟨u,T,B⟩,⟨L,U,O⟩⟩
 refine aM 0 aB ?_
 rintro rfl
 refine aM 1 aB ?_
 rintro rfl
 refine aC (aI (fun w s=>(s.f 7 [5,2,2,3])) (dR 7 R (vT R) (hS:=(fun w s=>(s.f 7 [5,2,2,3]))) (dR 8 R (vS R) (hS:=(fun w s=>(s.f 7 [5,2,2,3]))) (dR 9 R (vS R) (hS:=(fun w s=>(s.f 7 [5,2,2,3]))) (dR 10 R (vB R) (hS:=(fun w s=>(s.f 7 [5,2,2,3]))) (dR 11 R (vS R) (hS:=(fun w s=>(s.f 7 [5,2,2,3]))) (dR 12 R (vS R) (hS:=(fun w s=>(s.f 7 [5,2,2,3]))) (dR 13 R (vB R) (hS:=(fun w s=>(s.f 7 [5,2,2,3]))) (dD ?_)))))))))
 refine dG ?_
 cases i
 exact jC (u,I.1.length,B) (tE 14 [0,2,3,4])
theorem Z0g_ok  {g:(List Int)}{i:Int}{b:(List Int)}{D:Int}{r:(List Int)×(List pair)×Bool}(m:Z0g g i b D=some r) :
 FnOk Tryz.prog 112 [(.slice A2 N2 D2),(iv i),(.slice A5 N5 D5),(iv D)] [aN kT3 (.slice A2 N2 D2) g,aN kT3 (.slice A5 N5 D5) b] (fun (h:HH×HH)=>((.tuple [(s3 h.1),(s3 h.2),(.bool r.2.2)].toArray),[ow kT3 3 (s3 h.1) r.1,ow kT165 165 (s3 h.2) r.2.1])):=by
 unfold Z0g at m
 refine aP Tryz.func112 R 67 R R fun C V=>?_
 refine cL 0 aA ?_
 rintro rfl
 refine cL 1 aA ?_
 rintro rfl
 let T:=RR kT3 A2 D2 g::RR kT3 A5 D5 b::V
 refine cN T ?_
 refine dA ?_
 obtain ⟨r7,al,m⟩:=bd m
 obtain ⟨Y,m⟩:=gd m
 refine cQ [(0,(sc A2 g D2)),(1,(iv i)),(2,(sc A5 b D5)),(3,(iv D)),(31,(.bool (((!r7)||((b.length:Int) != (ix g i)))||(decide (D<1)))))] (T) ?_ ?_
 refine aQ ?_
 refine lM _ (fun w s=>(s.d 0 R)) ?_
 refine lC 1 gW R (Zo_ok al) R ?_
 rintro _
 refine lN T ?_
 refine aU ?_
 rcases bo (!r7) with u | u
 refine kh ?_
 exact qj tI
 refine bI ?_
 refine bC 0 aA (show 0<g.length by have:=(Y u); omega) (fun av o11 ha=>?_)
 subst ha
 refine lW (cC u) (eM bM cJ R R (Y u)) (lW (cC u) (gK 0 fP aA R (Y u)) ?_)
 refine aQ ?_
 rcases bo ((!r7)||((b.length:Int) != (ix g i))) with a2 | a2
 refine bI ?_
 exact qj tI
 refine bI ?_
 exact qj tI
 rintro σ1
 refine bX ?_
 split at m
 refine dG ?_
 cases m
 exact iy ((none,0,0),(none,0,0)) (fun w s=>(((s.nilo kT3 3).nilo kT165 165).e 4 [1,0]))
 refine cI ?_
 refine bP (K:=kT165) (xs:=([]:List pair)) (vs:=[]) 0 R R fK fL eT R R R R R R ?_ R (fun ab ae=>?_)
 exact fun I h s=>(j9).list [] I h s
 refine bI ?_
 refine bB (A:=((List pair))×(HH)) (fun a=>Z0g_J1 g i D a.1=some r) (fun a=>[(0,(sc A2 g D2)),(1,(iv i)),(3,(iv D)),(11,(s3 a.2))]) (fun a=>ow kT165 165 (s3 a.2) a.1::T) ?_ ?_
 refine dI ?_
 obtain ⟨e1,ak,a7⟩:=bd m
 refine bD (A:=HH×HH) ak (fun s a=>[(0,(sc A2 g D2)),(1,(iv i)),(3,(iv D)),(11,(s3 a.1)),(33,(s3 a.2)),(34,(il b)),(35,(iv s.2))]) (fun s a=>ow kT165 165 (s3 a.1) s.1::aN kT3 (s3 a.2) b::T) ((ab,([]:List pair).length,ae),(A5,b.length,D5)) (aS R) (fun w s=>((s.d 2 R).e 2 [1,0])) ?_
 rintro ⟨j,l⟩ ⟨⟨E,ah,J⟩,⟨ao,ai,L⟩⟩ σ1 an m a4
 dsimp only [Z0g_L1] at m
 refine bK 0 aB (fun (hn:ah=j.length)=>?_)
 subst hn
 refine bK 1 aA (fun (hn:ai=b.length)=>?_)
 subst hn
 refine bW ?_
 split at m
 refine bW ?_
 obtain ⟨a5,m⟩:=gd m
 refine aU ?_
 refine bC 1 aA (show 0<b.length by have:=a5; omega) (fun U o32 ha=>?_)
 subst ha
 refine dI ?_
 refine cQ [(0,(sc A2 g D2)),(1,(iv i)),(3,(iv D)),(11,(sc E j J)),(12,(iv l)),(13,(iv (ix b l))),(33,(sc (ad U o32) b L)),(34,(il b)),(35,(iv l)),(46,(.bool ((decide ((ix b l)<0))||(decide ((ix b l)≥D)))))] (OO kT165 165 E J j::RR kT3 (ad U o32) L b::T) ?_ ?_
 refine bI ?_
 rcases bo (decide ((ix b l)<0)) with a3 | a3
 refine cI ?_
 exact qj tI
 refine cI ?_
 exact qj tI
 rintro σ1
 refine bX ?_
 split at m
 refine iM ?_
 cases m
 obtain rfl:=a4 _ R
 have m:=a7
 refine aQ ?_
 cases m
 exact iy ((none,0,0),(none,0,0)) (fun w s=>(((s.nilo kT3 3).nilo kT165 165).e 6 [1,0]))
 refine aQ ?_
 obtain ⟨a6,m⟩:=gd m
 refine bI ?_
 refine lO (vz (.agg [(iv l),(iv (ix b l))].toArray) (aX mK eT R R)) (bP (K:=kT165) (xs:=([(⟨l,(ix b l)⟩:pair)]:List pair)) (vs:=[(.agg [(iv l),(iv (ix b l))].toArray)]) 0 R R fK fL eT R R R R R R ?_ R (fun ap aq=>?_))
 exact fun I h s=>(j9).list [(((),()),(⟨l,(ix b l)⟩:pair))] I h s
 refine lM _ (tE 3 [1,0,2]) ?_
 refine eP (K:=kT165) 8796093022208 R R fK fL lK (Zr.zk zT165 eT) R R R R R R dZ a6 (fun a0 a1=>(lN (OO kT165 165 a0 a1 (j++([(⟨l,(ix b l)⟩:pair)]:List pair))::_::T) ?_))
 refine dI ?_
 cases m
 exact qA ((a0,(j++([(⟨l,(ix b l)⟩:pair)]:List pair)).length,a1),((ad U o32),b.length,L)) tI
 refine aQ ?_
 cases m
 obtain rfl:=a4 _ R
 have m:=a7
 refine aU ?_
 exact qI (j,(E,j.length,J)) m (tE 2 [0])
 rintro ⟨q,⟨F,aj,M⟩⟩ σ1 m
 dsimp only [Z0g_J1] at m
 refine bK 0 aB (fun (hn:aj=q.length)=>?_)
 subst hn
 refine bX ?_
 obtain ⟨Z,a8,m⟩:=bd m
 refine bI ?_
 refine lM _ (fun w s=>(s.d 1 R)) ?_
 refine lC 1 qv R (Z1m_ok a8) R ?_
 rintro ⟨G,ar,O⟩
 refine aM 0 aB ?_
 rintro rfl
 refine cI ?_
 obtain ⟨aw,a9,m⟩:=bd m
 refine aU ?_
 refine lC 1 lg R (FnOk.lends (A':=[OO kT3 3 G O Z]) (A:=[RR kT3 G O Z]) (B:=[]) (Zd_ok a9) ⟨aZ,trivial⟩ (fun _=>trivial)) R ?_
 rintro _
 refine aQ ?_
 split at m
 refine dG ?_
 cases m
 exact iy ((none,0,0),(none,0,0)) (fun w s=>(((s.nilo kT3 3).nilo kT165 165).e 6 [1,0]))
 refine bI ?_
 obtain ⟨am,aa,m⟩:=bd m
 refine bW ?_
 refine lM _ (fun w s=>((s.d 2 R).e 3 [2,0,1])) ?_
 refine lC 2 t6 R (FnOk.lends (A':=[OO kT165 165 F M q]) (A:=[RR kT165 F M q]) (B:=[RR kT3 A2 D2 g]) (FnOk.perm (Z8_ok aa) (Pre':=[RR kT165 F M q,RR kT3 A2 D2 g]) (fun _ _ _ s=>(s.e 2 [1,0]))) ⟨aZ,trivial⟩ (fun _=>⟨(bN sI),trivial⟩)) R ?_
 rintro ⟨ac,au,ag⟩
 refine aM 1 aB ?_
 rintro rfl
 refine bW ?_
 cases m
 exact iy ((G,Z.length,O),(ac,am.length,ag)) (tE 5 [2,1])
theorem Z25_ok  {p1:(List Int)}{a:(List Int)}{r:(List Int)×(List pair)×Bool}(b:Z25 p1 a=some r) :
 FnOk Tryz.prog 111 [(.slice A2 N2 D2),(.slice A4 N4 D4)] [aN kT3 (.slice A2 N2 D2) p1,aN kT3 (.slice A4 N4 D4) a] (fun (h:HH×HH)=>((.tuple [(s3 h.1),(s3 h.2),(.bool r.2.2)].toArray),[ow kT3 3 (s3 h.1) r.1,ow kT165 165 (s3 h.2) r.2.1])):=by
 unfold Z25 at b
 refine aP Tryz.func111 R 20 R R fun C V=>?_
 refine cL 0 aA ?_
 rintro rfl
 refine cL 1 aA ?_
 rintro rfl
 let B:=RR kT3 A2 D2 p1::RR kT3 A4 D4 a::V
 refine cN B ?_
 refine dI ?_
 obtain ⟨q,b⟩:=gd b
 obtain ⟨g,b⟩:=gd b
 obtain ⟨_,b⟩:=gd b
 obtain ⟨j,i,b⟩:=bd b
 refine bA 0 aA (show 0<p1.length by have:=q; omega) (fun E o7 D=>?_)
 subst D
 refine dF 16 [] bO fun G F=>?_
 refine ko 0 [] ?_
 refine iz 6 [] ?_
 refine d1 5 R (gJ (K:=kT3) (2:Int) (p1.length:Int) 0 R R bM cJ R R R R g.1 g.2.1 g.2.2 (fun A9 D9=>(aC (aI (sL [0]) (d1 9 R (lM _ (fun w s=>(((s.d 2 R).d 1 R).e 3 [1,0,2])) ?_))))))
 refine lC 2 A1 R (Z0g_ok i) R ?_
 rintro ⟨⟨l,u,m⟩,⟨A14,N14,D14⟩⟩
 refine aM 0 aB ?_
 rintro rfl
 refine aM 1 aB ?_
 rintro rfl
 refine aC (aI (sL [2,1,0]) ?_)
 refine sG 10 [2,1,0] ?_
 refine dD ?_
 refine aU ?_
 cases b
 exact iy ((l,j.1.length,m),(A14,j.2.1.length,D14)) (tE 5 [0,1])
theorem Z2y_ok  {a:Node}{b:(List Int)}{m:Int}{i:Int}{E:Nat}{j:Nat}{g:Nat}{r:(List Int)×(List pair)×Bool}(l:Z2y a b m i=some r) :
 FnOk Tryz.prog 143 [(.agg [(iv a.Op),(.slice A2 N2 D2),(.slice A3 N3 D3),(.slice A4 N4 D4),(aE a.Form),(.slice A5 N5 D5)].toArray),(.slice A7 N7 D7),(pt E 0),(pt j 0),(pt g 0)] [aN kT3 (.slice A2 N2 D2) a.Args,aN kT3 (.slice A3 N3 D3) a.Dims,aN kT3 (.slice A4 N4 D4) a.Ints,aN kT3 (.slice A5 N5 D5) a.Data,aN kT3 (.slice A7 N7 D7) b,aJ E [(iv m)] 3,aJ j [(iv i)] 3,aJ g [(.func (.func 111) [].toArray [].toArray)] 136] (fun (h:HH×HH)=>((.tuple [(s3 h.1),(s3 h.2),(.bool r.2.2)].toArray),[ow kT3 3 (s3 h.1) r.1,ow kT165 165 (s3 h.2) r.2.1,aJ E [(iv m)] 3,aJ j [(iv i)] 3,aJ g [(.func (.func 111) [].toArray [].toArray)] 136])):=by
 unfold Z2y at l
 refine aP Tryz.func143 R 30 R R fun C V=>?_
 refine cM _ (fun w s=>(s.f 8 [5,3,0,5])) ?_
 refine cL 3 aA ?_
 rintro rfl
 refine cL 4 aA ?_
 rintro rfl
 refine cL 5 aA ?_
 rintro rfl
 refine cL 6 aA ?_
 rintro rfl
 refine cL 7 aA ?_
 rintro rfl
 let T:=RR kT3 A2 D2 a.Args::RR kT3 A3 D3 a.Dims::RR kT3 A4 D4 a.Ints::RR kT3 A5 D5 a.Data::RR kT3 A7 D7 b::V
 refine aU ?_
 refine eJ R fun q=>?_
 refine bI ?_
 let L:=aJ q [(iv a.Op),(sc A2 a.Args D2),(sc A3 a.Dims D3),(sc A4 a.Ints D4),(aE a.Form),(sc A5 a.Data D5)] 65::aJ E [(iv m)] 3::aJ j [(iv i)] 3::aJ g [(.func (.func 111) [].toArray [].toArray)] 136::T
 refine qN L ?_
 refine aQ ?_
 refine cQ [(1,(sc A7 b D7)),(4,(pt g 0)),(5,(pt q 0)),(21,(.bool ((decide ((a.Ints.length:Int)<m))||(decide ((a.Ints.length:Int)>i)))))] (L) ?_ ?_
 refine dU ?_
 rcases bo (decide ((a.Ints.length:Int)<m)) with u | u
 refine dU ?_
 exact qj tI
 refine dU ?_
 exact qj tI
 rintro σ1
 refine bX ?_
 split at l
 refine dG ?_
 cases l
 exact iy ((none,0,0),(none,0,0)) (fun w s=>(((s.nilo kT3 3).nilo kT165 165).e 11 [1,0,3,4,5]))
 refine bI ?_
 obtain ⟨D,B,l⟩:=bd l
 refine cI ?_
 refine lM _ (fun w s=>(((s.d 6 R).d 9 R).e 2 [1,0])) ?_
 refine cE (fs:=[]) (cs:=[]) 2 R R Aa R R (Z25_ok B) R ?_
 rintro ⟨⟨F,M,I⟩,⟨G,O,J⟩⟩
 refine aM 0 aB ?_
 rintro rfl
 refine aM 1 aB ?_
 rintro rfl
 refine dA ?_
 cases l
 exact iy ((F,D.1.length,I),(G,D.2.1.length,J)) (fun w s=>(s.f 11 [0,2,3,3]))
theorem Z1s_ok  {k1:shiftKind}{F:Int}{G:Int}{b:Node}{a:(List (List Int))}{j:Nat}{l:Nat}{m:Nat}{r:(List Int)×Bool}(i:Z1s k1 F G b a=some r) :
 FnOk Tryz.prog 217 [(.agg [(aE k1.use),(.func (.func 143) [].toArray [(pt j 0),(pt l 0),(pt m 0)].toArray)].toArray),(.agg [(iv b.Op),(.slice A9 N9 D9),(.slice A10 N10 D10),(.slice A11 N11 D11),(aE b.Form),(.slice A12 N12 D12)].toArray),(.slice A14 N14 D14)] [aJ j [(iv F)] 3,aJ l [(iv G)] 3,aJ m [(.func (.func 111) [].toArray [].toArray)] 136,aN kT3 (.slice A9 N9 D9) b.Args,aN kT3 (.slice A10 N10 D10) b.Dims,aN kT3 (.slice A11 N11 D11) b.Ints,aN kT3 (.slice A12 N12 D12) b.Data,aN bH (.slice A14 N14 D14) a] (fun (h:HH)=>((.tuple [(s3 h),(.bool r.2)].toArray),[ow kT3 3 (s3 h) r.1,aJ j [(iv F)] 3,aJ l [(iv G)] 3,aJ m [(.func (.func 111) [].toArray [].toArray)] 136])):=by
 unfold Z1s at i
 refine aP Tryz.func217 R 27 R R fun C V=>?_
 refine cL 3 aA ?_
 rintro rfl
 refine cL 4 aA ?_
 rintro rfl
 refine cL 5 aA ?_
 rintro rfl
 refine cL 6 aA ?_
 rintro rfl
 refine cL 7 aA ?_
 rintro rfl
 let Y:=RR kT3 A9 D9 b.Args::RR kT3 A10 D10 b.Dims::RR kT3 A11 D11 b.Ints::RR kT3 A12 D12 b.Data::RR bH A14 D14 a::V
 refine aU ?_
 refine eJ R fun D=>?_
 refine eJ R fun E=>?_
 refine aQ ?_
 refine qM _ (fun w s=>(s.f 5 [2,3,0,2])) ?_
 let W1:=aJ E [(iv b.Op),(sc A9 b.Args D9),(sc A10 b.Dims D10),(sc A11 b.Ints D11),(aE b.Form),(sc A12 b.Data D12)] 65::aJ D [(aE k1.use),(.func (.func 143) [].toArray [(pt j 0),(pt l 0),(pt m 0)].toArray)] 131::Y
 refine dA ?_
 split at i
 refine dA ?_
 cases i
 exact jC (none,0,0) (fun w s=>((s.nilo kT3 3).f 11 [0,4]))
 refine bI ?_
 obtain ⟨g,i⟩:=gd i
 obtain ⟨I,q,i⟩:=bd i
 refine bA 9 aA (show 0<a.length by have:=g; omega) (fun Z o20 ha=>?_)
 subst ha
 refine dO (K:=bH) 9 (0:Int) dT23.dec R g.1 g.2 ?_
 rintro ⟨J,M⟩
 refine dF 14 [] bO fun ht hn=>?_
 refine ko 0 [] ?_
 refine dR 5 R (eN (fo:=0) 0 cY R R R) (d1 6 R (lM _ (fun w s=>((((((s.d 7 R).d 9 R).d 11 R).d 13 R).d 5 R).e 10 [4,3,2,1,0,7,8,9,5,6])) ?_))
 refine cE (fs:=[]) (cs:=[(pt j 0),(pt l 0),(pt m 0)]) 8 R R qy R R (Z2y_ok q) R ?_
 rintro ⟨⟨u,T,B⟩,⟨L,U,O⟩⟩
 refine aM 0 aB ?_
 rintro rfl
 refine aM 1 aB ?_
 rintro rfl
 refine aC (aI (fun w s=>(s.f 7 [5,2,2,3])) (dR 7 R (vT R) (hS:=(fun w s=>(s.f 7 [5,2,2,3]))) (dR 8 R (vS R) (hS:=(fun w s=>(s.f 7 [5,2,2,3]))) (dR 9 R (vS R) (hS:=(fun w s=>(s.f 7 [5,2,2,3]))) (dR 10 R (vB R) (hS:=(fun w s=>(s.f 7 [5,2,2,3]))) (dR 11 R (vS R) (hS:=(fun w s=>(s.f 7 [5,2,2,3]))) (dR 12 R (vS R) (hS:=(fun w s=>(s.f 7 [5,2,2,3]))) (dR 13 R (vB R) (hS:=(fun w s=>(s.f 7 [5,2,2,3]))) (dD ?_)))))))))
 refine dG ?_
 cases i
 exact jC (u,I.1.length,B) (tE 14 [0,2,3,4])
theorem Z4_ok  {b:(List Int)}{g:Int}{j:Int}{E:Int}{r:(List Int)×(List pair)×Bool}(l:Z4 b g j E=some r) :
 FnOk Tryz.prog 114 [(.slice A2 N2 D2),(iv g),(iv j),(iv E)] [aN kT3 (.slice A2 N2 D2) b] (fun (h:HH×HH)=>((.tuple [(s3 h.1),(s3 h.2),(.bool r.2.2)].toArray),[aN kT3 (s3 h.1) r.1,ow kT165 165 (s3 h.2) r.2.1])):=by
 unfold Z4 at l
 refine aP Tryz.func114 R 151 R R fun C V=>?_
 refine cL 0 aA ?_
 rintro rfl
 let W0:=RR kT3 A2 D2 b::V
 refine cN W0 ?_
 refine pq ?_
 obtain ⟨r6,a7,l⟩:=bd l
 obtain ⟨a8,l⟩:=gd l
 obtain ⟨al,l⟩:=gd l
 obtain ⟨am,l⟩:=gd l
 obtain ⟨b9,l⟩:=gd l
 refine cQ [(0,(sc A2 b D2)),(1,(iv g)),(2,(iv j)),(3,(iv E)),(11,(iv (aH ((b.length:Int) - 1)))),(68,(.bool (((((((!r6)||(g==(aH ((b.length:Int) - 1))))||(decide (j<1)))||(decide (E<1)))||(decide (E>4096)))||(decide ((ix b (aH ((b.length:Int) - 1)))>E)))||((ix b g) != (aH ((aH ((aH (E - (ix b (aH ((b.length:Int) - 1))))).tdiv j))+1))))))] (W0) ?_ ?_
 rcases bo (!r6) with G | G
 refine dF 45 [] bO fun ht hn=>?_
 refine gZ 0 [] ?_
 refine d1 2 R (lM _ (fun w s=>(s.d 0 R)) ?_)
 refine lC 1 gW R (Zo_ok a7) R ?_
 rintro _
 refine lN W0 ?_
 refine aC (aI (sL []) ?_)
 refine ko 3 [] ?_
 refine dR 8 R (fD (g==(aH ((b.length:Int) - 1))) R G) ?_
 refine iz 9 [] ?_
 refine dR 12 R (fD (decide (j<1)) R (oT G)) ?_
 refine iz 13 [] ?_
 refine dR 16 R (fD (decide (E<1)) R (oT (oT G))) ?_
 refine iz 17 [] ?_
 refine dR 20 R (fD (decide (E>4096)) R (oT (oT (oT G)))) ?_
 refine rP 21 [] ?_
 refine dR 28 R (fD (decide ((ix b (aH ((b.length:Int) - 1)))>E)) R (oT (oT (oT (oT G))))) ?_
 refine oy 29 [] ?_
 refine oA 33 [] ?_
 refine dR 44 R (fD ((ix b g) != (aH ((aH ((aH (E - (ix b (aH ((b.length:Int) - 1))))).tdiv j))+1))) R (oT (oT (oT (oT (oT G)))))) (dD ?_)
 exact qj tI
 rcases bo ((!r6)||(g==(aH ((b.length:Int) - 1)))) with U | U
 refine dF 45 [] bO fun ht hn=>?_
 refine gZ 0 [] ?_
 refine d1 2 R (lM _ (fun w s=>(s.d 0 R)) ?_)
 refine lC 1 gW R (Zo_ok a7) R ?_
 rintro _
 refine lN W0 ?_
 refine aC (aI (sL []) ?_)
 refine ko 3 [] ?_
 refine dR 8 R (fS R G R) ?_
 refine iz 9 [] ?_
 refine dR 12 R (fD (decide (j<1)) R U) ?_
 refine iz 13 [] ?_
 refine dR 16 R (fD (decide (E<1)) R (oT U)) ?_
 refine iz 17 [] ?_
 refine dR 20 R (fD (decide (E>4096)) R (oT (oT U))) ?_
 refine rP 21 [] ?_
 refine dR 28 R (fD (decide ((ix b (aH ((b.length:Int) - 1)))>E)) R (oT (oT (oT U)))) ?_
 refine uA 29 [] ?_
 refine rP 37 [] ?_
 refine dR 44 R (fD ((ix b g) != (aH ((aH ((aH (E - (ix b (aH ((b.length:Int) - 1))))).tdiv j))+1))) R (oT (oT (oT (oT U))))) (dD ?_)
 exact qj tI
 rcases bo (((!r6)||(g==(aH ((b.length:Int) - 1))))||(decide (j<1))) with a1 | a1
 refine dF 45 [] bO fun ht hn=>?_
 refine gZ 0 [] ?_
 refine d1 2 R (lM _ (fun w s=>(s.d 0 R)) ?_)
 refine lC 1 gW R (Zo_ok a7) R ?_
 rintro _
 refine lN W0 ?_
 refine aC (aI (sL []) ?_)
 refine ko 3 [] ?_
 refine dR 8 R (fS R G R) ?_
 refine iz 9 [] ?_
 refine dR 12 R (fS R U R) ?_
 refine iz 13 [] ?_
 refine dR 16 R (fD (decide (E<1)) R a1) ?_
 refine iz 17 [] ?_
 refine dR 20 R (fD (decide (E>4096)) R (oT a1)) ?_
 refine rP 21 [] ?_
 refine dR 28 R (fD (decide ((ix b (aH ((b.length:Int) - 1)))>E)) R (oT (oT a1))) ?_
 refine oA 29 [] ?_
 refine oy 40 [] ?_
 refine dR 44 R (fD ((ix b g) != (aH ((aH ((aH (E - (ix b (aH ((b.length:Int) - 1))))).tdiv j))+1))) R (oT (oT (oT a1)))) (dD ?_)
 exact qj tI
 rcases bo ((((!r6)||(g==(aH ((b.length:Int) - 1))))||(decide (j<1)))||(decide (E<1))) with a2 | a2
 refine dF 45 [] bO fun ht hn=>?_
 refine gZ 0 [] ?_
 refine d1 2 R (lM _ (fun w s=>(s.d 0 R)) ?_)
 refine lC 1 gW R (Zo_ok a7) R ?_
 rintro _
 refine lN W0 ?_
 refine aC (aI (sL []) ?_)
 refine ko 3 [] ?_
 refine dR 8 R (fS R G R) ?_
 refine iz 9 [] ?_
 refine dR 12 R (fS R U R) ?_
 refine iz 13 [] ?_
 refine dR 16 R (fS R a1 R) ?_
 refine iz 17 [] ?_
 refine dR 20 R (fD (decide (E>4096)) R a2) ?_
 refine rP 21 [] ?_
 refine dR 28 R (fD (decide ((ix b (aH ((b.length:Int) - 1)))>E)) R (oT a2)) ?_
 refine uC 29 [] ?_
 refine n6 43 [] ?_
 refine dR 44 R (fD ((ix b g) != (aH ((aH ((aH (E - (ix b (aH ((b.length:Int) - 1))))).tdiv j))+1))) R (oT (oT a2))) (dD ?_)
 exact qj tI
 rcases bo (((((!r6)||(g==(aH ((b.length:Int) - 1))))||(decide (j<1)))||(decide (E<1)))||(decide (E>4096))) with B | B
 refine dF 45 [] bO fun ht hn=>?_
 refine gZ 0 [] ?_
 refine d1 2 R (lM _ (fun w s=>(s.d 0 R)) ?_)
 refine lC 1 gW R (Zo_ok a7) R ?_
 rintro _
 refine lN W0 ?_
 refine aC (aI (sL []) ?_)
 refine ko 3 [] ?_
 refine dR 8 R (fS R G R) ?_
 refine iz 9 [] ?_
 refine dR 12 R (fS R U R) ?_
 refine iz 13 [] ?_
 refine dR 16 R (fS R a1 R) ?_
 refine iz 17 [] ?_
 refine dR 20 R (fS R a2 R) ?_
 refine rP 21 [] ?_
 refine dR 28 R (fD (decide ((ix b (aH ((b.length:Int) - 1)))>E)) R B) ?_
 refine wX 29 [] ?_
 refine dR 44 R (fD ((ix b g) != (aH ((aH ((aH (E - (ix b (aH ((b.length:Int) - 1))))).tdiv j))+1))) R (oT B)) (dD ?_)
 exact qj tI
 rcases bo ((((((!r6)||(g==(aH ((b.length:Int) - 1))))||(decide (j<1)))||(decide (E<1)))||(decide (E>4096)))||(decide ((ix b (aH ((b.length:Int) - 1)))>E))) with J | J
 refine bA 0 aA (show 0<b.length by have:=(a8 B); omega) (fun g9 o10 ha=>?_)
 subst ha
 refine dF 45 [] bO fun ht hn=>?_
 refine gZ 0 [] ?_
 refine d1 2 R (lM _ (fun w s=>(s.d 0 R)) ?_)
 refine lC 1 gW R (Zo_ok a7) R ?_
 rintro _
 refine lN W0 ?_
 refine aC (aI (sL []) ?_)
 refine ko 3 [] ?_
 refine dR 8 R (fS R G R) ?_
 refine iz 9 [] ?_
 refine dR 12 R (fS R U R) ?_
 refine iz 13 [] ?_
 refine dR 16 R (fS R a1 R) ?_
 refine iz 17 [] ?_
 refine dR 20 R (fS R a2 R) ?_
 refine iz 21 [] ?_
 refine dW 24 R (cC B) (eM bM cJ R R (a8 B)) (dW 25 R (cC B) (gK 0 fP aA R (a8 B)) ?_)
 refine gZ 26 [] ?_
 refine dR 28 R (fS R B R) ?_
 refine wX 29 [] ?_
 refine dR 44 R (fD ((ix b g) != (aH ((aH ((aH (E - (ix b (aH ((b.length:Int) - 1))))).tdiv j))+1))) R J) (dD ?_)
 exact qj tI
 refine bA 0 aA (show 0<b.length by have:=(a8 B); omega) (fun g9 o10 ha=>?_)
 subst ha
 refine dF 45 [] bO fun ht hn=>?_
 refine gZ 0 [] ?_
 refine d1 2 R (lM _ (fun w s=>(s.d 0 R)) ?_)
 refine lC 1 gW R (Zo_ok a7) R ?_
 rintro _
 refine lN W0 ?_
 refine aC (aI (sL []) ?_)
 refine ko 3 [] ?_
 refine dR 8 R (fS R G R) ?_
 refine iz 9 [] ?_
 refine dR 12 R (fS R U R) ?_
 refine iz 13 [] ?_
 refine dR 16 R (fS R a1 R) ?_
 refine iz 17 [] ?_
 refine dR 20 R (fS R a2 R) ?_
 refine iz 21 [] ?_
 refine dW 24 R (cC B) (eM bM cJ R R (a8 B)) (dW 25 R (cC B) (gK 0 fP aA R (a8 B)) ?_)
 refine gZ 26 [] ?_
 refine dR 28 R (fS R B R) ?_
 refine iz 29 [] ?_
 refine dW 32 R (cC J) (eM bM cJ R R (al J)) (dW 33 R (cC J) (gK 0 fP aA R (al J)) ?_)
 refine iz 34 [] ?_
 refine dW 37 R (cC J) (eM bM cJ R R (am J)) (dW 38 R (cC J) (gK 0 fP aA R (am J)) ?_)
 refine gZ 39 [] ?_
 refine dW 41 R (cC J) (vz (iv (aH ((aH (E - (ix b (aH ((b.length:Int) - 1))))).tdiv j))) (ng R R (b9 J))) ?_
 refine gZ 42 [] ?_
 refine dR 44 R (fS R J R) (dD ?_)
 exact qj tI
 rintro σ1
 refine bX ?_
 split at l
 refine dG ?_
 cases l
 exact iy ((none,0,0),(none,0,0)) (fun w s=>(((s.nilr kT3).nilo kT165 165).e 3 [1,0]))
 refine bI ?_
 obtain ⟨F,bb,l⟩:=bd l
 obtain ⟨a9,l⟩:=gd l
 refine bI ?_
 refine lM _ (fun w s=>(s.d 0 R)) ?_
 refine lC 1 qv R (Z1m_ok bb) R ?_
 rintro ⟨c4,c8,c6⟩
 refine aM 0 aB ?_
 rintro rfl
 refine lI R (iV (fun w s=>s.shr 0 R) (gJ (K:=kT3) (0:Int) (aH ((b.length:Int) - 1)) 0 R R bM cJ R R R R a9.1 a9.2.1 a9.2.2 (fun M O=>(lS R (aC (aG (aK (aK ?_))))))))
 obtain ⟨ca,bc,l⟩:=bd l
 refine aU ?_
 refine lM _ (fun w s=>(s.d 0 R)) ?_
 refine lC 1 lg R (Zd_ok bc) R ?_
 rintro _
 refine aQ ?_
 split at l
 refine dG ?_
 cases l
 exact iy ((none,0,0),(none,0,0)) (fun w s=>(((s.nilr kT3).nilo kT165 165).e 5 [1,0]))
 refine bI ?_
 refine bB (A:=(Int)×(Unit)) (fun a=>Z4_J1 b g E F a.1=some r) (fun a=>[(0,(sc A2 b D2)),(1,(iv g)),(2,(iv a.1)),(3,(iv E)),(11,(iv (aH ((b.length:Int) - 1)))),(12,(sc M (sub F (0:Int) (aH ((b.length:Int) - 1))) O))]) (fun a=>RR kT3 M O (sub F (0:Int) (aH ((b.length:Int) - 1)))::W0) ?_ ?_
 refine bX ?_
 obtain ⟨ba,l⟩:=gd l
 refine aQ ?_
 refine bC 2 aA (show 0<b.length by have:=ba; omega) (fun c9 o31 ha=>?_)
 subst ha
 refine cI ?_
 split at l
 refine bI ?_
 exact qI ((0:Int),()) l (tE 2 [0])
 refine aU ?_
 exact qI (j,()) l (tE 2 [0])
 rintro ⟨m,_⟩ σ1 l
 dsimp only [Z4_J1] at l
 refine bX ?_
 obtain ⟨aa,l⟩:=gd l
 obtain ⟨i,be,l⟩:=bd l
 refine aQ ?_
 refine gJ (K:=kT3) (0:Int) (aH ((b.length:Int) - 1)) 1 R R bM cJ R R R R aa.1 aa.2.1 aa.2.2 (fun c5 c7=>(lI R (lM _ (fun w s=>(s.d 0 R)) ?_)))
 refine lC 1 wh R (Z27_ok be) R ?_
 rintro _
 refine lO (vT R) ?_
 refine dG ?_
 refine bP (K:=kT165) (xs:=([]:List pair)) (vs:=[]) 0 R R fK fL eT R R R R R R ?_ R (fun bi bj=>?_)
 exact fun I h s=>(j9).list [] I h s
 refine bI ?_
 refine bB (A:=((List pair))×(HH)) (fun a=>Z4_J16 b F a.1=some r) (fun a=>[(12,(sc M (sub F (0:Int) (aH ((b.length:Int) - 1))) O)),(16,(s3 a.2))]) (fun a=>RR kT3 M O (sub F (0:Int) (aH ((b.length:Int) - 1)))::ow kT165 165 (s3 a.2) a.1::W0) ?_ ?_
 refine bW ?_
 obtain ⟨e1,bu,bp⟩:=bd l
 refine bD (A:=HH) bu (fun s a=>[(0,(sc A2 b D2)),(2,(iv m)),(3,(iv E)),(11,(iv (aH ((b.length:Int) - 1)))),(12,(sc M (sub F (0:Int) (aH ((b.length:Int) - 1))) O)),(13,(iv i.1)),(14,(iv i.2.1)),(15,(iv i.2.2)),(16,(s3 a)),(17,(iv s.2))]) (fun s a=>RR kT3 M O (sub F (0:Int) (aH ((b.length:Int) - 1)))::ow kT165 165 (s3 a) s.1::W0) (bi,([]:List pair).length,bj) (aS R) (tE 3 [2,0]) ?_
 rintro ⟨Y,q⟩ ⟨ab,b1,ah⟩ σ1 bf l bk
 dsimp only [Z4_L1] at l
 refine bK 1 aB (fun (hn:b1=Y.length)=>?_)
 subst hn
 refine dI ?_
 split at l
 refine bI ?_
 refine bB (A:=((List pair))×(HH)) (fun a=>Z4_J15 q a.1=some bf) (fun a=>[(0,(sc A2 b D2)),(2,(iv m)),(3,(iv E)),(11,(iv (aH ((b.length:Int) - 1)))),(12,(sc M (sub F (0:Int) (aH ((b.length:Int) - 1))) O)),(13,(iv i.1)),(14,(iv i.2.1)),(15,(iv i.2.2)),(16,(s3 a.2)),(17,(iv q))]) (fun a=>RR kT3 M O (sub F (0:Int) (aH ((b.length:Int) - 1)))::ow kT165 165 (s3 a.2) a.1::W0) ?_ ?_
 refine dU ?_
 obtain ⟨e2,bv,bq⟩:=bd l
 refine bD (A:=HH) bv (fun s a=>[(0,(sc A2 b D2)),(2,(iv m)),(3,(iv E)),(11,(iv (aH ((b.length:Int) - 1)))),(12,(sc M (sub F (0:Int) (aH ((b.length:Int) - 1))) O)),(13,(iv i.1)),(14,(iv i.2.1)),(15,(iv i.2.2)),(16,(s3 a)),(17,(iv q)),(18,(iv s.2))]) (fun s a=>RR kT3 M O (sub F (0:Int) (aH ((b.length:Int) - 1)))::ow kT165 165 (s3 a) s.1::W0) (ab,Y.length,ah) (aS R) tI ?_
 rintro ⟨Z,u⟩ ⟨ac,b2,ai⟩ σ1 bg l bl
 dsimp only [Z4_L2] at l
 refine bK 1 aB (fun (hn:b2=Z.length)=>?_)
 subst hn
 refine dI ?_
 split at l
 refine bI ?_
 refine bB (A:=((List pair))×(HH)) (fun a=>Z4_J14 u a.1=some bg) (fun a=>[(0,(sc A2 b D2)),(2,(iv m)),(3,(iv E)),(11,(iv (aH ((b.length:Int) - 1)))),(12,(sc M (sub F (0:Int) (aH ((b.length:Int) - 1))) O)),(13,(iv i.1)),(14,(iv i.2.1)),(15,(iv i.2.2)),(16,(s3 a.2)),(17,(iv q)),(18,(iv u))]) (fun a=>RR kT3 M O (sub F (0:Int) (aH ((b.length:Int) - 1)))::ow kT165 165 (s3 a.2) a.1::W0) ?_ ?_
 refine dU ?_
 obtain ⟨e3,bw,br⟩:=bd l
 refine bD (A:=HH) bw (fun s a=>[(0,(sc A2 b D2)),(2,(iv m)),(3,(iv E)),(11,(iv (aH ((b.length:Int) - 1)))),(12,(sc M (sub F (0:Int) (aH ((b.length:Int) - 1))) O)),(13,(iv i.1)),(14,(iv i.2.1)),(15,(iv i.2.2)),(16,(s3 a)),(17,(iv q)),(18,(iv u)),(19,(iv s.2))]) (fun s a=>RR kT3 M O (sub F (0:Int) (aH ((b.length:Int) - 1)))::ow kT165 165 (s3 a) s.1::W0) (ac,Z.length,ai) (aS R) tI ?_
 rintro ⟨a0,D⟩ ⟨ae,b3,aj⟩ σ1 bh l bm
 dsimp only [Z4_L3] at l
 refine bK 1 aB (fun (hn:b3=a0.length)=>?_)
 subst hn
 refine dI ?_
 split at l
 refine bI ?_
 refine bB (A:=((List pair))×(HH)) (fun a=>Z4_J13 D a.1=some bh) (fun a=>[(0,(sc A2 b D2)),(2,(iv m)),(3,(iv E)),(11,(iv (aH ((b.length:Int) - 1)))),(12,(sc M (sub F (0:Int) (aH ((b.length:Int) - 1))) O)),(13,(iv i.1)),(14,(iv i.2.1)),(15,(iv i.2.2)),(16,(s3 a.2)),(17,(iv q)),(18,(iv u)),(19,(iv D))]) (fun a=>RR kT3 M O (sub F (0:Int) (aH ((b.length:Int) - 1)))::ow kT165 165 (s3 a.2) a.1::W0) ?_ ?_
 refine dU ?_
 obtain ⟨e4,bz,bs⟩:=bd l
 refine bD (A:=HH) bz (fun s a=>[(0,(sc A2 b D2)),(2,(iv m)),(3,(iv E)),(11,(iv (aH ((b.length:Int) - 1)))),(12,(sc M (sub F (0:Int) (aH ((b.length:Int) - 1))) O)),(13,(iv i.1)),(14,(iv i.2.1)),(15,(iv i.2.2)),(16,(s3 a)),(17,(iv q)),(18,(iv u)),(19,(iv D)),(20,(iv s.2))]) (fun s a=>RR kT3 M O (sub F (0:Int) (aH ((b.length:Int) - 1)))::ow kT165 165 (s3 a) s.1::W0) (ae,a0.length,aj) (aS R) tI ?_
 rintro ⟨L,T⟩ ⟨ap,b4,aw⟩ σ1 c3 l bn
 dsimp only [Z4_L4] at l
 refine bK 1 aB (fun (hn:b4=L.length)=>?_)
 subst hn
 refine aU ?_
 obtain ⟨an,l⟩:=gd l
 refine bI ?_
 refine bC 2 aA (show 0<b.length by have:=an; omega) (fun c2 o260 ha=>?_)
 subst ha
 refine cI ?_
 split at l
 refine cI ?_
 obtain ⟨ao,l⟩:=gd l
 refine wW ?_
 refine lO (vz (.agg [(iv (aH ((aH ((aH ((aH ((aH ((aH (q*i.2.1))+u))*i.2.2))+D))*(ix b (aH ((b.length:Int) - 1)))))+T))),(iv (aH ((aH ((aH ((aH ((aH (q*E))+(aH (u*m))))+T))*i.2.2))+D)))].toArray) (aX mK eT R R)) ?_
 refine bP (K:=kT165) (xs:=([(⟨(aH ((aH ((aH ((aH ((aH ((aH (q*i.2.1))+u))*i.2.2))+D))*(ix b (aH ((b.length:Int) - 1)))))+T)),(aH ((aH ((aH ((aH ((aH (q*E))+(aH (u*m))))+T))*i.2.2))+D))⟩:pair)]:List pair)) (vs:=[(.agg [(iv (aH ((aH ((aH ((aH ((aH ((aH (q*i.2.1))+u))*i.2.2))+D))*(ix b (aH ((b.length:Int) - 1)))))+T))),(iv (aH ((aH ((aH ((aH ((aH (q*E))+(aH (u*m))))+T))*i.2.2))+D)))].toArray)]) 0 R R fK fL eT R R R R R R ?_ R (fun c0 c1=>?_)
 exact fun I h s=>(j9).list [(((),()),(⟨(aH ((aH ((aH ((aH ((aH ((aH (q*i.2.1))+u))*i.2.2))+D))*(ix b (aH ((b.length:Int) - 1)))))+T)),(aH ((aH ((aH ((aH ((aH (q*E))+(aH (u*m))))+T))*i.2.2))+D))⟩:pair))] I h s
 refine lM _ (tE 3 [2,0,1]) ?_
 refine eP (K:=kT165) 8796093022208 R R fK fL lK (Zr.zk zT165 eT) R R R R R R dZ ao (fun ag ak=>(lN (OO kT165 165 ag ak (L++([(⟨(aH ((aH ((aH ((aH ((aH ((aH (q*i.2.1))+u))*i.2.2))+D))*(ix b (aH ((b.length:Int) - 1)))))+T)),(aH ((aH ((aH ((aH ((aH (q*E))+(aH (u*m))))+T))*i.2.2))+D))⟩:pair)]:List pair))::_::W0) ?_))
 refine dA ?_
 cases l
 exact qA (ag,(L++([(⟨(aH ((aH ((aH ((aH ((aH ((aH (q*i.2.1))+u))*i.2.2))+D))*(ix b (aH ((b.length:Int) - 1)))))+T)),(aH ((aH ((aH ((aH ((aH (q*E))+(aH (u*m))))+T))*i.2.2))+D))⟩:pair)]:List pair)).length,ak) (tE 2 [1,0])
 refine aQ ?_
 cases l
 obtain rfl:=bn _ R
 have l:=bs
 refine aQ ?_
 exact qI (L,(ap,L.length,aw)) l tI
 rintro ⟨a3,⟨aq,b5,ax⟩⟩ σ1 l
 dsimp only [Z4_J13] at l
 refine bK 1 aB (fun (hn:b5=a3.length)=>?_)
 subst hn
 refine cI ?_
 cases l
 exact qA (aq,a3.length,ax) tI
 refine aQ ?_
 cases l
 obtain rfl:=bm _ R
 have l:=br
 refine aQ ?_
 exact qI (a0,(ae,a0.length,aj)) l tI
 rintro ⟨a4,⟨ar,b6,ay⟩⟩ σ1 l
 dsimp only [Z4_J14] at l
 refine bK 1 aB (fun (hn:b6=a4.length)=>?_)
 subst hn
 refine cI ?_
 cases l
 exact qA (ar,a4.length,ay) tI
 refine aQ ?_
 cases l
 obtain rfl:=bl _ R
 have l:=bq
 refine aQ ?_
 exact qI (Z,(ac,Z.length,ai)) l tI
 rintro ⟨a5,⟨au,b7,az⟩⟩ σ1 l
 dsimp only [Z4_J15] at l
 refine bK 1 aB (fun (hn:b7=a5.length)=>?_)
 subst hn
 refine cI ?_
 cases l
 exact qA (au,a5.length,az) tI
 refine aQ ?_
 cases l
 obtain rfl:=bk _ R
 have l:=bp
 refine aU ?_
 exact qI (Y,(ab,Y.length,ah)) l tI
 rintro ⟨a6,⟨av,b8,b0⟩⟩ σ1 l
 dsimp only [Z4_J16] at l
 refine bK 1 aB (fun (hn:b8=a6.length)=>?_)
 subst hn
 refine dG ?_
 cases l
 exact iy ((M,(sub F (0:Int) (aH ((b.length:Int) - 1))).length,O),(av,a6.length,b0)) (tE 3 [0,1])
theorem Z26_ok  {p1:(List Int)}{a:(List Int)}{r:(List Int)×(List pair)×Bool}(b:Z26 p1 a=some r) :
 FnOk Tryz.prog 113 [(.slice A2 N2 D2),(.slice A4 N4 D4)] [aN kT3 (.slice A2 N2 D2) p1,aN kT3 (.slice A4 N4 D4) a] (fun (h:HH×HH)=>((.tuple [(s3 h.1),(s3 h.2),(.bool r.2.2)].toArray),[aN kT3 (s3 h.1) r.1,ow kT165 165 (s3 h.2) r.2.1])):=by
 unfold Z26 at b
 refine aP Tryz.func113 R 21 R R fun C V=>?_
 refine cL 0 aA ?_
 rintro rfl
 refine cL 1 aA ?_
 rintro rfl
 let q:=RR kT3 A2 D2 p1::RR kT3 A4 D4 a::V
 refine cN q ?_
 refine dI ?_
 obtain ⟨l,b⟩:=gd b
 obtain ⟨_,b⟩:=gd b
 obtain ⟨_,b⟩:=gd b
 obtain ⟨g,e,b⟩:=bd b
 refine bA 0 aA (show 0<p1.length by have:=l; omega) (fun B o7 u=>?_)
 subst u
 refine dF 17 [] bO fun E D=>?_
 refine oz 0 [] ?_
 refine d1 10 R (lM _ (fun w s=>(s.d 1 R)) ?_)
 refine lC 1 Ab R (Z4_ok e) R ?_
 rintro ⟨⟨A12,N12,D12⟩,⟨i,m,j⟩⟩
 refine aM 0 aA ?_
 rintro rfl
 refine aM 1 aB ?_
 rintro rfl
 refine aC (aI (sL [1,0]) ?_)
 refine sG 11 [1,0] ?_
 refine dD ?_
 refine aU ?_
 cases b
 exact iy ((A12,g.1.length,D12),(i,g.2.1.length,j)) (tE 4 [0,1])
theorem Z2z_ok  {a:Node}{b:(List Int)}{m:Int}{i:Int}{E:Nat}{j:Nat}{g:Nat}{r:(List Int)×(List pair)×Bool}(l:Z2z a b m i=some r) :
 FnOk Tryz.prog 143 [(.agg [(iv a.Op),(.slice A2 N2 D2),(.slice A3 N3 D3),(.slice A4 N4 D4),(aE a.Form),(.slice A5 N5 D5)].toArray),(.slice A7 N7 D7),(pt E 0),(pt j 0),(pt g 0)] [aN kT3 (.slice A2 N2 D2) a.Args,aN kT3 (.slice A3 N3 D3) a.Dims,aN kT3 (.slice A4 N4 D4) a.Ints,aN kT3 (.slice A5 N5 D5) a.Data,aN kT3 (.slice A7 N7 D7) b,aJ E [(iv m)] 3,aJ j [(iv i)] 3,aJ g [(.func (.func 113) [].toArray [].toArray)] 136] (fun (h:HH×HH)=>((.tuple [(s3 h.1),(s3 h.2),(.bool r.2.2)].toArray),[aN kT3 (s3 h.1) r.1,ow kT165 165 (s3 h.2) r.2.1,aJ E [(iv m)] 3,aJ j [(iv i)] 3,aJ g [(.func (.func 113) [].toArray [].toArray)] 136])):=by
 unfold Z2z at l
 refine aP Tryz.func143 R 30 R R fun C V=>?_
 refine cM _ (fun w s=>(s.f 8 [5,3,0,5])) ?_
 refine cL 3 aA ?_
 rintro rfl
 refine cL 4 aA ?_
 rintro rfl
 refine cL 5 aA ?_
 rintro rfl
 refine cL 6 aA ?_
 rintro rfl
 refine cL 7 aA ?_
 rintro rfl
 let T:=RR kT3 A2 D2 a.Args::RR kT3 A3 D3 a.Dims::RR kT3 A4 D4 a.Ints::RR kT3 A5 D5 a.Data::RR kT3 A7 D7 b::V
 refine aU ?_
 refine eJ R fun q=>?_
 refine bI ?_
 let L:=aJ q [(iv a.Op),(sc A2 a.Args D2),(sc A3 a.Dims D3),(sc A4 a.Ints D4),(aE a.Form),(sc A5 a.Data D5)] 65::aJ E [(iv m)] 3::aJ j [(iv i)] 3::aJ g [(.func (.func 113) [].toArray [].toArray)] 136::T
 refine qN L ?_
 refine aQ ?_
 refine cQ [(1,(sc A7 b D7)),(4,(pt g 0)),(5,(pt q 0)),(21,(.bool ((decide ((a.Ints.length:Int)<m))||(decide ((a.Ints.length:Int)>i)))))] (L) ?_ ?_
 refine dU ?_
 rcases bo (decide ((a.Ints.length:Int)<m)) with u | u
 refine dU ?_
 exact qj tI
 refine dU ?_
 exact qj tI
 rintro σ1
 refine bX ?_
 split at l
 refine dG ?_
 cases l
 exact iy ((none,0,0),(none,0,0)) (fun w s=>(((s.nilr kT3).nilo kT165 165).e 11 [1,0,3,4,5]))
 refine bI ?_
 obtain ⟨D,B,l⟩:=bd l
 refine cI ?_
 refine lM _ (fun w s=>(((s.d 6 R).d 9 R).e 2 [1,0])) ?_
 refine cE (fs:=[]) (cs:=[]) 2 R R Ac R R (Z26_ok B) R ?_
 rintro ⟨⟨F,M,I⟩,⟨G,O,J⟩⟩
 refine aM 0 aA ?_
 rintro rfl
 refine aM 1 aB ?_
 rintro rfl
 refine dA ?_
 cases l
 exact iy ((F,D.1.length,I),(G,D.2.1.length,J)) (fun w s=>(s.f 11 [0,2,3,3]))
theorem Z1t_ok  {k1:shiftKind}{F:Int}{G:Int}{b:Node}{a:(List (List Int))}{j:Nat}{l:Nat}{m:Nat}{r:(List Int)×Bool}(i:Z1t k1 F G b a=some r) :
 FnOk Tryz.prog 217 [(.agg [(aE k1.use),(.func (.func 143) [].toArray [(pt j 0),(pt l 0),(pt m 0)].toArray)].toArray),(.agg [(iv b.Op),(.slice A9 N9 D9),(.slice A10 N10 D10),(.slice A11 N11 D11),(aE b.Form),(.slice A12 N12 D12)].toArray),(.slice A14 N14 D14)] [aJ j [(iv F)] 3,aJ l [(iv G)] 3,aJ m [(.func (.func 113) [].toArray [].toArray)] 136,aN kT3 (.slice A9 N9 D9) b.Args,aN kT3 (.slice A10 N10 D10) b.Dims,aN kT3 (.slice A11 N11 D11) b.Ints,aN kT3 (.slice A12 N12 D12) b.Data,aN bH (.slice A14 N14 D14) a] (fun (h:HH)=>((.tuple [(s3 h),(.bool r.2)].toArray),[aN kT3 (s3 h) r.1,aJ j [(iv F)] 3,aJ l [(iv G)] 3,aJ m [(.func (.func 113) [].toArray [].toArray)] 136])):=by
 unfold Z1t at i
 refine aP Tryz.func217 R 27 R R fun C V=>?_
 refine cL 3 aA ?_
 rintro rfl
 refine cL 4 aA ?_
 rintro rfl
 refine cL 5 aA ?_
 rintro rfl
 refine cL 6 aA ?_
 rintro rfl
 refine cL 7 aA ?_
 rintro rfl
 let Y:=RR kT3 A9 D9 b.Args::RR kT3 A10 D10 b.Dims::RR kT3 A11 D11 b.Ints::RR kT3 A12 D12 b.Data::RR bH A14 D14 a::V
 refine aU ?_
 refine eJ R fun D=>?_
 refine eJ R fun E=>?_
 refine aQ ?_
 refine qM _ (fun w s=>(s.f 5 [2,3,0,2])) ?_
 let W1:=aJ E [(iv b.Op),(sc A9 b.Args D9),(sc A10 b.Dims D10),(sc A11 b.Ints D11),(aE b.Form),(sc A12 b.Data D12)] 65::aJ D [(aE k1.use),(.func (.func 143) [].toArray [(pt j 0),(pt l 0),(pt m 0)].toArray)] 131::Y
 refine dA ?_
 split at i
 refine dA ?_
 cases i
 exact jC (none,0,0) (fun w s=>((s.nilr kT3).f 11 [0,4]))
 refine bI ?_
 obtain ⟨g,i⟩:=gd i
 obtain ⟨I,q,i⟩:=bd i
 refine bA 9 aA (show 0<a.length by have:=g; omega) (fun Z o20 ha=>?_)
 subst ha
 refine dO (K:=bH) 9 (0:Int) dT23.dec R g.1 g.2 ?_
 rintro ⟨J,M⟩
 refine dF 14 [] bO fun ht hn=>?_
 refine ko 0 [] ?_
 refine dR 5 R (eN (fo:=0) 0 cY R R R) (d1 6 R (lM _ (fun w s=>((((((s.d 7 R).d 9 R).d 11 R).d 13 R).d 5 R).e 10 [4,3,2,1,0,7,8,9,5,6])) ?_))
 refine cE (fs:=[]) (cs:=[(pt j 0),(pt l 0),(pt m 0)]) 8 R R qy R R (Z2z_ok q) R ?_
 rintro ⟨⟨u,T,B⟩,⟨L,U,O⟩⟩
 refine aM 0 aA ?_
 rintro rfl
 refine aM 1 aB ?_
 rintro rfl
 refine aC (aI (fun w s=>(s.f 7 [5,2,2,3])) (dR 7 R (vT R) (hS:=(fun w s=>(s.f 7 [5,2,2,3]))) (dR 8 R (vS R) (hS:=(fun w s=>(s.f 7 [5,2,2,3]))) (dR 9 R (vS R) (hS:=(fun w s=>(s.f 7 [5,2,2,3]))) (dR 10 R (vB R) (hS:=(fun w s=>(s.f 7 [5,2,2,3]))) (dR 11 R (vS R) (hS:=(fun w s=>(s.f 7 [5,2,2,3]))) (dR 12 R (vS R) (hS:=(fun w s=>(s.f 7 [5,2,2,3]))) (dR 13 R (vB R) (hS:=(fun w s=>(s.f 7 [5,2,2,3]))) (dD ?_)))))))))
 refine dG ?_
 cases i
 exact jC (u,I.1.length,B) (tE 14 [0,2,3,4])
theorem lj  {r:kindOfR}{a:Node}{B:(List (List Int))}{g h1 h2:Nat}{l A2 A3 A4 A5:Option Addr}{u m N2 D2 N3 D3 N4 D4 N5 D5:Nat}{mG:Int}{q:(List Int)×Bool}(b:bQ r a B=some q) :
 InvOk Tryz.prog (dE r (g,h1,h2)) "loop.example/g00033/impl.shape" [(.agg [(iv a.Op),(.slice l u m),(.slice A2 N2 D2),(.slice A3 N3 D3),(aE a.Form),(.slice A4 N4 D4)].toArray),(.slice A5 N5 D5)] [fA r (g,h1,h2),aN kT3 (.slice l u m) a.Args,aN kT3 (.slice A2 N2 D2) a.Dims,aN kT3 (.slice A3 N3 D3) a.Ints,aN kT3 (.slice A4 N4 D4) a.Data,aN bH (.slice A5 N5 D5) B,gl 0 mG] (fun (h:HH)=>((.tuple [(s3 h),(.bool q.2)].toArray),[aN kT3 (s3 h) q.1,fA r (g,h1,h2)])):=by
 unfold bQ at b
 rcases cH b with ⟨Z,b⟩|⟨Z,b⟩
 ·cases b
 rcases cH b with ⟨G,b⟩|⟨G,b⟩
 ·obtain ⟨t,D,i,j,F⟩:=r
  obtain rfl:=Nat.eq_of_beq_eq_true G
  exact InvOk.mk (oI _) (((Z1l_ok b).perm (Pre':=[pk [],aN kT3 (.slice l u m) a.Args,aN kT3 (.slice A2 N2 D2) a.Dims,aN kT3 (.slice A3 N3 D3) a.Ints,aN kT3 (.slice A4 N4 D4) a.Data,aN bH (.slice A5 N5 D5) B,gl 0 mG]) (fun _ _ _ s=>(St.unpack (A:=[]) s).e 6 [0,1,2,3,4])).post id (fun _=>rfl) (fun _ _ _ _ s=>(St.pack (A:=[]) (s)).e 2 [1,0]))
 rcases cH b with ⟨I,b⟩|⟨I,b⟩
 ·obtain ⟨t,D,i,j,F⟩:=r
  obtain rfl:=Nat.eq_of_beq_eq_true I
  exact InvOk.mk (oJ _) (((Z28_ok b).perm (Pre':=[pk [],aN kT3 (.slice l u m) a.Args,aN kT3 (.slice A2 N2 D2) a.Dims,aN kT3 (.slice A3 N3 D3) a.Ints,aN kT3 (.slice A4 N4 D4) a.Data,aN bH (.slice A5 N5 D5) B,gl 0 mG]) (fun _ _ _ s=>(St.unpack (A:=[]) s).e 6 [0,1,2,3,4])).post id (fun _=>rfl) (fun _ _ _ _ s=>(St.pack (A:=[]) (s)).e 2 [1,0]))
 rcases cH b with ⟨J,b⟩|⟨J,b⟩
 ·obtain ⟨t,D,i,j,F⟩:=r
  obtain rfl:=Nat.eq_of_beq_eq_true J
  exact InvOk.mk (oK _) (((Z32_ok b).perm (Pre':=[pk [],aN kT3 (.slice l u m) a.Args,aN kT3 (.slice A2 N2 D2) a.Dims,aN kT3 (.slice A3 N3 D3) a.Ints,aN kT3 (.slice A4 N4 D4) a.Data,aN bH (.slice A5 N5 D5) B,gl 0 mG]) (fun _ _ _ s=>(St.unpack (A:=[]) s).e 6 [0,1,2,3,4])).post id (fun _=>rfl) (fun _ _ _ _ s=>(St.pack (A:=[]) (s)).e 2 [1,0]))
 rcases cH b with ⟨L,b⟩|⟨L,b⟩
 ·obtain ⟨t,D,i,j,F⟩:=r
  obtain rfl:=Nat.eq_of_beq_eq_true L
  exact InvOk.mk (oL _) (((Z1z_ok (k1:=⟨⟩) b).perm (Pre':=[pk [],aN kT3 (.slice l u m) a.Args,aN kT3 (.slice A2 N2 D2) a.Dims,aN kT3 (.slice A3 N3 D3) a.Ints,aN kT3 (.slice A4 N4 D4) a.Data,aN bH (.slice A5 N5 D5) B,gl 0 mG]) (fun _ _ _ s=>(St.unpack (A:=[]) s).e 6 [0,1,2,3,4])).post id (fun _=>rfl) (fun _ _ _ _ s=>(St.pack (A:=[]) (s)).e 2 [1,0]))
 rcases cH b with ⟨M,b⟩|⟨M,b⟩
 ·obtain ⟨t,D,i,j,F⟩:=r
  obtain rfl:=Nat.eq_of_beq_eq_true M
  exact InvOk.mk (oM _) (((Z31_ok (k1:=⟨⟩) b).perm (Pre':=[pk [],aN kT3 (.slice l u m) a.Args,aN kT3 (.slice A2 N2 D2) a.Dims,aN kT3 (.slice A3 N3 D3) a.Ints,aN kT3 (.slice A4 N4 D4) a.Data,aN bH (.slice A5 N5 D5) B,gl 0 mG]) (fun _ _ _ s=>St.unpack (A:=[]) s)).post id (fun _=>rfl) (fun _ _ _ _ s=>(St.pack (A:=[]) ((s).shr 0 R)).e 2 [1,0]))
 rcases cH b with ⟨O,b⟩|⟨O,b⟩
 ·obtain ⟨t,D,i,j,F⟩:=r
  obtain rfl:=Nat.eq_of_beq_eq_true O
  exact InvOk.mk (gL _) (((Z1u_ok b).perm (Pre':=[pk [],aN kT3 (.slice l u m) a.Args,aN kT3 (.slice A2 N2 D2) a.Dims,aN kT3 (.slice A3 N3 D3) a.Ints,aN kT3 (.slice A4 N4 D4) a.Data,aN bH (.slice A5 N5 D5) B,gl 0 mG]) (fun _ _ _ s=>(St.unpack (A:=[]) s).e 6 [0,1,2,3,4])).post id (fun _=>rfl) (fun _ _ _ _ s=>(St.pack (A:=[]) (s)).e 2 [1,0]))
 rcases cH b with ⟨T,b⟩|⟨T,b⟩
 ·obtain ⟨t,D,i,j,F⟩:=r
  obtain rfl:=Nat.eq_of_beq_eq_true T
  exact InvOk.mk (gL _) (((Z29_ok b).perm (Pre':=[pk [],aN kT3 (.slice l u m) a.Args,aN kT3 (.slice A2 N2 D2) a.Dims,aN kT3 (.slice A3 N3 D3) a.Ints,aN kT3 (.slice A4 N4 D4) a.Data,aN bH (.slice A5 N5 D5) B,gl 0 mG]) (fun _ _ _ s=>(St.unpack (A:=[]) s).e 6 [0,1,2,3,4])).post id (fun _=>rfl) (fun _ _ _ _ s=>(St.pack (A:=[]) (s)).e 2 [1,0]))
 rcases cH b with ⟨U,b⟩|⟨U,b⟩
 ·obtain ⟨t,D,i,j,F⟩:=r
  obtain rfl:=Nat.eq_of_beq_eq_true U
  exact InvOk.mk (gL _) (((Z1q_ok b).perm (Pre':=[pk [aJ g [(iv i)] 3,aJ h1 [(iv j)] 3,aJ h2 [(.func (.func 107) [].toArray [].toArray)] 136],aN kT3 (.slice l u m) a.Args,aN kT3 (.slice A2 N2 D2) a.Dims,aN kT3 (.slice A3 N3 D3) a.Ints,aN kT3 (.slice A4 N4 D4) a.Data,aN bH (.slice A5 N5 D5) B,gl 0 mG]) (fun _ _ _ s=>(St.unpack (A:=[aJ g [(iv i)] 3,aJ h1 [(iv j)] 3,aJ h2 [(.func (.func 107) [].toArray [].toArray)] 136]) s).e 9 [0,1,2,3,4,5,6,7])).post id (fun _=>rfl) (fun _ _ _ _ s=>(St.pack (A:=[aJ g [(iv i)] 3,aJ h1 [(iv j)] 3,aJ h2 [(.func (.func 107) [].toArray [].toArray)] 136]) (((s).shr 0 R).e 4 [1,2,3,0])).e 2 [1,0]))
 rcases cH b with ⟨Y,b⟩|⟨Y,b⟩
 ·obtain ⟨t,D,i,j,F⟩:=r
  obtain rfl:=Nat.eq_of_beq_eq_true Y
  exact InvOk.mk (gL _) (((Z1r_ok b).perm (Pre':=[pk [aJ g [(iv i)] 3,aJ h1 [(iv j)] 3,aJ h2 [(.func (.func 109) [].toArray [].toArray)] 136],aN kT3 (.slice l u m) a.Args,aN kT3 (.slice A2 N2 D2) a.Dims,aN kT3 (.slice A3 N3 D3) a.Ints,aN kT3 (.slice A4 N4 D4) a.Data,aN bH (.slice A5 N5 D5) B,gl 0 mG]) (fun _ _ _ s=>(St.unpack (A:=[aJ g [(iv i)] 3,aJ h1 [(iv j)] 3,aJ h2 [(.func (.func 109) [].toArray [].toArray)] 136]) s).e 9 [0,1,2,3,4,5,6,7])).post id (fun _=>rfl) (fun _ _ _ _ s=>(St.pack (A:=[aJ g [(iv i)] 3,aJ h1 [(iv j)] 3,aJ h2 [(.func (.func 109) [].toArray [].toArray)] 136]) (((s).shr 0 R).e 4 [1,2,3,0])).e 2 [1,0]))
 rcases cH b with ⟨E,b⟩|⟨E,b⟩
 ·obtain ⟨t,D,i,j,F⟩:=r
  obtain rfl:=Nat.eq_of_beq_eq_true E
  exact InvOk.mk (gL _) (((Z1s_ok b).perm (Pre':=[pk [aJ g [(iv i)] 3,aJ h1 [(iv j)] 3,aJ h2 [(.func (.func 111) [].toArray [].toArray)] 136],aN kT3 (.slice l u m) a.Args,aN kT3 (.slice A2 N2 D2) a.Dims,aN kT3 (.slice A3 N3 D3) a.Ints,aN kT3 (.slice A4 N4 D4) a.Data,aN bH (.slice A5 N5 D5) B,gl 0 mG]) (fun _ _ _ s=>(St.unpack (A:=[aJ g [(iv i)] 3,aJ h1 [(iv j)] 3,aJ h2 [(.func (.func 111) [].toArray [].toArray)] 136]) s).e 9 [0,1,2,3,4,5,6,7])).post id (fun _=>rfl) (fun _ _ _ _ s=>(St.pack (A:=[aJ g [(iv i)] 3,aJ h1 [(iv j)] 3,aJ h2 [(.func (.func 111) [].toArray [].toArray)] 136]) (((s).shr 0 R).e 4 [1,2,3,0])).e 2 [1,0]))
 have hV:dE r (g,h1,h2)=(.iface 131 (.agg [(aE r.s0),(.func (.func 143) [].toArray [(pt g 0),(pt h1 0),(pt h2 0)].toArray)].toArray)):=by simp only [dE,Z,G,I,J,L,M,O,T,U,Y,E,cond_false]
 have hE:fA r (g,h1,h2)=pk [aJ g [(iv r.i0)] 3,aJ h1 [(iv r.i1)] 3,aJ h2 [(.func (.func 113) [].toArray [].toArray)] 136]:=by simp only [fA,Z,G,I,J,L,M,O,T,U,Y,E,cond_false]
 rw [hV,hE]
 exact InvOk.mk (gL _) (((Z1t_ok b).perm (Pre':=[pk [aJ g [(iv r.i0)] 3,aJ h1 [(iv r.i1)] 3,aJ h2 [(.func (.func 113) [].toArray [].toArray)] 136],aN kT3 (.slice l u m) a.Args,aN kT3 (.slice A2 N2 D2) a.Dims,aN kT3 (.slice A3 N3 D3) a.Ints,aN kT3 (.slice A4 N4 D4) a.Data,aN bH (.slice A5 N5 D5) B,gl 0 mG]) (fun _ _ _ s=>(St.unpack (A:=[aJ g [(iv r.i0)] 3,aJ h1 [(iv r.i1)] 3,aJ h2 [(.func (.func 113) [].toArray [].toArray)] 136]) s).e 9 [0,1,2,3,4,5,6,7])).post id (fun _=>rfl) (fun _ _ _ _ s=>(St.pack (A:=[aJ g [(iv r.i0)] 3,aJ h1 [(iv r.i1)] 3,aJ h2 [(.func (.func 113) [].toArray [].toArray)] 136]) ((s).e 4 [1,2,3,0])).e 2 [1,0]))
theorem Zg_ok  {i:Node}{b:(List (List Int))}{mG:Int}{r:(List Int)×Bool}(l:Zg i b=some r) :
 FnOk Tryz.prog 63 [(.agg [(iv i.Op),(.slice A2 N2 D2),(.slice A3 N3 D3),(.slice A4 N4 D4),(aE i.Form),(.slice A5 N5 D5)].toArray),(.slice A7 N7 D7)] [aN kT3 (.slice A2 N2 D2) i.Args,aN kT3 (.slice A3 N3 D3) i.Dims,aN kT3 (.slice A4 N4 D4) i.Ints,aN kT3 (.slice A5 N5 D5) i.Data,ow (bH).share 23 (.slice A7 N7 D7) b,gl 0 mG] (fun (h:HH)=>((.tuple [(s3 h),(.bool r.2)].toArray),[aN kT3 (s3 h) r.1,ow (bH).share 23 (.slice A7 N7 D7) b])):=by
 unfold Zg at l
 refine aP Tryz.func63 R 58 R R fun C V=>?_
 refine cM _ (tE 6 [4,0,1,2,3,5]) ?_
 refine cL 0 eG ?_
 rintro rfl
 refine cL 1 aA ?_
 rintro rfl
 refine cL 2 aA ?_
 rintro rfl
 refine cL 3 aA ?_
 rintro rfl
 refine cL 4 aA ?_
 rintro rfl
 let W0:=RR kT3 A2 D2 i.Args::RR kT3 A3 D3 i.Dims::RR kT3 A4 D4 i.Ints::RR kT3 A5 D5 i.Data::gl 0 mG::V
 refine aU ?_
 refine eJ R fun b8=>?_
 refine aQ ?_
 refine qM _ (tE 2 [1,0]) ?_
 let W1:=aJ b8 [(iv i.Op),(sc A2 i.Args D2),(sc A3 i.Dims D3),(sc A4 i.Ints D4),(aE i.Form),(sc A5 i.Data D5)] 65::W0
 refine aU ?_
 obtain ⟨D,a8,l⟩:=bd l
 refine aQ ?_
 refine lC 0 Bz R (Zy_ok a8) R ?_
 rintro ⟨q,u,B⟩
 refine lO (vp _ R) ?_
 refine bI ?_
 obtain ⟨aw,J,l⟩:=bd l
 obtain ⟨aa,L,l⟩:=bd l
 refine cQ [(1,(sc A7 b D7)),(2,(pt b8 0)),(6,(dE D (q,u,B))),(27,(.bool (((Nat.beq D.t 0)||(!aa))||(decide ((i.Args.length:Int)>6)))))] (OO (bH).share 23 A7 D7 b::fA D (q,u,B)::W1) ?_ ?_
 rcases bo (Nat.beq D.t 0) with j | j
 refine dF 15 [] bO fun ht G=>?_
 refine dR 0 R (vp _ R) (dR 1 R (vz (.bool (Nat.beq D.t 0)) (mL R)) ?_)
 refine mA 2 [] ?_
 refine dD ?_
 exact qj (tE 2 [1,0])
 rcases bo ((Nat.beq D.t 0)||(!aa)) with a2 | a2
 refine dF 15 [] bO fun ht G=>?_
 refine dR 0 R (vp _ R) (dR 1 R (vz (.bool (Nat.beq D.t 0)) (mL R)) ?_)
 refine gZ 2 [] ?_
 refine dW 4 R (cC j) (vp _ R) (d1 5 R (sB 1 (cC j) R R (jE (bJ J (cX j))) R ?_))
 rintro _
 refine aC (aI (sL []) (d1 6 R (lM _ (fun w s=>((((((s.d 3 R).d 5 R).d 7 R).d 9 R).dg 11 R).e 7 [4,3,2,1,0,5,6])) ?_)))
 refine bU 5 R (cC j) zu R (Z1y_ok (bJ L (cX j))) R ?_
 rintro _
 refine aC (aI (sL []) ?_)
 refine uA 7 [] ?_
 refine dD ?_
 exact qj (tE 2 [1,0])
 refine dF 15 [] bO fun ht G=>?_
 refine dR 0 R (vp _ R) (dR 1 R (vz (.bool (Nat.beq D.t 0)) (mL R)) ?_)
 refine gZ 2 [] ?_
 refine dW 4 R (cC j) (vp _ R) (d1 5 R (sB 1 (cC j) R R (jE (bJ J (cX j))) R ?_))
 rintro _
 refine aC (aI (sL []) (d1 6 R (lM _ (fun w s=>((((((s.d 3 R).d 5 R).d 7 R).d 9 R).dg 11 R).e 7 [4,3,2,1,0,5,6])) ?_)))
 refine bU 5 R (cC j) zu R (Z1y_ok (bJ L (cX j))) R ?_
 rintro _
 refine aC (aI (sL []) ?_)
 refine uA 7 [] ?_
 refine dD ?_
 exact qj (tE 2 [1,0])
 rintro σ1
 refine bX ?_
 split at l
 refine dA ?_
 cases l
 exact jC (none,0,0) (fun w s=>((s.nilr kT3).e 9 [0,1]))
 refine cI ?_
 refine bP (K:=bH) (xs:=([]:List (List Int))) (vs:=[]) 0 R R ja fJ kM R R R R R R ?_ R (fun ab ae=>?_)
 exact fun I h s=>(mB).list [] I h s
 refine bI ?_
 refine bB (A:=((List (List Int)))×(HH)) (fun a=>Zg_J1 i D a.1=some r) (fun a=>[(2,(pt b8 0)),(6,(dE D (q,u,B))),(7,(s3 a.2))]) (fun a=>fA D (q,u,B)::ow (bH).share 23 (s3 a.2) a.1::OO (bH).share 23 A7 D7 b::W1) ?_ ?_
 refine dA ?_
 obtain ⟨e1,ak,a7⟩:=bd l
 refine bD (A:=HH×HH) ak (fun s a=>[(1,(sc A7 b D7)),(2,(pt b8 0)),(6,(dE D (q,u,B))),(7,(s3 a.1)),(30,(s3 a.2)),(31,(il i.Args)),(32,(iv s.2))]) (fun s a=>OO (bH).share 23 A7 D7 b::fA D (q,u,B)::ow (bH).share 23 (s3 a.1) s.1::aN kT3 (s3 a.2) i.Args::W1) ((ab,([]:List (List Int)).length,ae),(A2,i.Args.length,D2)) (aS R) (fun w s=>(((s.wk 0 R).d 4 R).e 4 [2,3,1,0])) ?_
 rintro ⟨g,m⟩ ⟨⟨M,ah,O⟩,⟨an,ai,T⟩⟩ σ1 am l a4
 dsimp only [Zg_L1] at l
 refine bK 2 eG (fun (G:ah=g.length)=>?_)
 subst G
 refine bK 3 aA (fun (G:ai=i.Args.length)=>?_)
 subst G
 refine bW ?_
 split at l
 refine bW ?_
 obtain ⟨a5,l⟩:=gd l
 refine aD (bC 3 aA (show 0<i.Args.length by have:=a5; omega) (fun U o42 ha=>?_))
 subst ha
 refine dU ?_
 refine cQ [(1,(sc A7 b D7)),(2,(pt b8 0)),(6,(dE D (q,u,B))),(7,(sc M g O)),(9,(iv (ix i.Args m))),(30,(sc (ad U o42) i.Args T)),(31,(il i.Args)),(32,(iv m)),(43,(.bool ((decide ((ix i.Args m)<0))||(decide ((ix i.Args m)≥(b.length:Int))))))] (OO (bH).share 23 A7 D7 b::fA D (q,u,B)::OO (bH).share 23 M O g::RR kT3 (ad U o42) T i.Args::W1) ?_ ?_
 refine bI ?_
 rcases bo (decide ((ix i.Args m)<0)) with a3 | a3
 refine bW ?_
 exact qj tI
 refine bW ?_
 exact qj tI
 rintro σ1
 refine bX ?_
 split at l
 refine iD ?_
 cases l
 obtain rfl:=a4 _ R
 have l:=a7
 refine aQ ?_
 cases l
 exact jC (none,0,0) (fun w s=>((s.nilr kT3).e 11 [0,1]))
 refine aQ ?_
 obtain ⟨E,l⟩:=gd l
 obtain ⟨a6,l⟩:=gd l
 refine bI ?_
 refine bC 0 eG (show 0<b.length by have:=E; omega) (fun av o47 ha=>?_)
 subst ha
 refine bX ?_
 refine sq (K:=(bH).share) (fo:=0) 0 (ix i.Args m) R R cY dT23.own (fun _ _=>R) R R E.1 E.2 ?_
 rintro ⟨Y,a0⟩
 refine lM _ (fun w s=>(s.d 0 R)) ?_
 refine bP (K:=(bH).share) (xs:=([(ix b (ix i.Args m))]:List (List Int))) (vs:=[(sc Y (ix b (ix i.Args m)) a0)]) 1 R R ja fJ kM R R R R R R ?_ R (fun ao aq=>?_)
 exact fun I h s=>(rn).list [((sc Y (ix b (ix i.Args m)) a0),(ix b (ix i.Args m)))] I h s
 refine lM _ (tE 6 [4,0,1,2,3,5]) ?_
 refine eP (K:=(bH).share) 5864062014805 R R ja fJ sT (Zr.zk (Zr.share zT23) kM) R R R R R R dZ a6 (fun Z a1=>(lN (OO (bH).share 23 Z a1 (g++([(ix b (ix i.Args m))]:List (List Int)))::_::_::_::_::W1) ?_))
 refine dI ?_
 cases l
 exact qA ((Z,(g++([(ix b (ix i.Args m))]:List (List Int))).length,a1),((ad U o42),i.Args.length,T)) (tE 5 [2,3,0,4])
 refine aQ ?_
 cases l
 obtain rfl:=a4 _ R
 have l:=a7
 refine aU ?_
 exact qI (g,(M,g.length,O)) l (tE 4 [1,2,0])
 rintro ⟨F,⟨ap,aj,ar⟩⟩ σ1 l
 dsimp only [Zg_J1] at l
 refine bK 1 eG (fun (G:aj=F.length)=>?_)
 subst G
 refine bX ?_
 obtain ⟨al,a9,l⟩:=bd l
 refine aD (lO (vp _ R) ?_)
 refine aU ?_
 refine iV (fun w s=>s.shs 1 R) (lM _ (fun w s=>(((((((s.d 4 R).d 6 R).d 8 R).d 10 R).d 4 R).dg 13 R).e 9 [7,5,4,3,2,1,0,6,8])) ?_)
 refine sB 7 R R R (lj a9) R ?_
 rintro ⟨ac,au,ag⟩
 refine aM 0 aA ?_
 rintro rfl
 refine dU ?_
 cases l
 exact jC (ac,al.1.length,ag) (tE 10 [0,3])
theorem Zk_ok  {g1:Graph}{mG:Int}{r:(List (List Int))×Bool}(b:Zk g1=some r) :
 FnOk Tryz.prog 30 [(.agg [(.slice A2 N2 D2),(.slice A3 N3 D3)].toArray)] [aN cP (.slice A2 N2 D2) g1.Nodes,aN kT3 (.slice A3 N3 D3) g1.Outs,gl 0 mG] (fun (h:HH)=>((.tuple [(s3 h),(.bool r.2)].toArray),[ow (bH).share 23 (s3 h) r.1])):=by
 unfold Zk at b
 refine aP Tryz.func30 R 60 R R fun C V=>?_
 refine cL 0 aA ?_
 rintro rfl
 refine cL 1 aA ?_
 rintro rfl
 let W0:=RR cP A2 D2 g1.Nodes::RR kT3 A3 D3 g1.Outs::gl 0 mG::V
 refine cN W0 ?_
 refine aU ?_
 refine eJ R fun G=>?_
 refine aQ ?_
 let B:=aJ G [(sc A2 g1.Nodes D2),(sc A3 g1.Outs D3)] 31::W0
 refine qN B ?_
 refine aQ ?_
 refine cQ [(1,(pt G 0)),(20,(.bool ((decide ((g1.Nodes.length:Int)>200))||(decide ((g1.Outs.length:Int)>40)))))] (B) ?_ ?_
 refine bW ?_
 rcases bo (decide ((g1.Nodes.length:Int)>200)) with ak | ak
 refine bW ?_
 exact qj tI
 refine bW ?_
 exact qj tI
 rintro σ1
 refine bX ?_
 split at b
 refine dA ?_
 cases b
 exact jC (none,0,0) (fun w s=>((s.nilo (bH).share 23).e 5 [0]))
 refine cI ?_
 refine bP (K:=bH) (xs:=([]:List (List Int))) (vs:=[]) 0 R R ja fJ kM R R R R R R ?_ R (fun A7 D7=>?_)
 exact fun I h s=>(mB).list [] I h s
 refine bI ?_
 refine bB (A:=((List (List Int)))×(HH)) (fun a=>Zk_J1 g1 a.1=some r) (fun a=>[(1,(pt G 0)),(4,(s3 a.2))]) (fun a=>ow (bH).share 23 (s3 a.2) a.1::B) ?_ ?_
 refine dA ?_
 obtain ⟨e1,al,a9⟩:=bd b
 refine bD (A:=HH) al (fun s a=>[(1,(pt G 0)),(4,(s3 a)),(23,(sc A2 g1.Nodes D2)),(24,(il g1.Nodes)),(25,(iv s.2))]) (fun s a=>ow (bH).share 23 (s3 a) s.1::B) (A7,([]:List (List Int)).length,D7) (aS R) (fun w s=>(s.wk 0 R)) ?_
 rintro ⟨u,g⟩ ⟨ac,ag,ae⟩ σ1 an b a5
 dsimp only [Zk_L1] at b
 refine bK 0 eG (fun (hn:ag=u.length)=>?_)
 subst hn
 refine bW ?_
 split at b
 refine bW ?_
 obtain ⟨q,b⟩:=gd b
 refine aD (bC 2 aA (show 0<g1.Nodes.length by have:=q; omega) (fun av o30 ha=>?_))
 subst ha
 refine bX ?_
 refine fN (K:=cP) 2 g dT65.dec R q.1 q.2 ?_
 rintro ⟨-,⟨J,Y⟩,⟨L,Z⟩,⟨M,a0⟩,-,⟨O,a1⟩⟩
 refine lO (vz (.agg [(iv (ix g1.Nodes g).Op),(sc J ((ix g1.Nodes g).Args) Y),(sc L ((ix g1.Nodes g).Dims) Z),(sc M ((ix g1.Nodes g).Ints) a0),(aE (ix g1.Nodes g).Form),(sc O ((ix g1.Nodes g).Data) a1)].toArray) (eF (fo:=0) 0 mD iW R R R R)) (bE R R pu (fun aj=>(aL 0 R R iW R R R R R R (lN (aJ aj [(iv (ix g1.Nodes g).Op),(sc J ((ix g1.Nodes g).Args) Y),(sc L ((ix g1.Nodes g).Dims) Z),(sc M ((ix g1.Nodes g).Ints) a0),(aE (ix g1.Nodes g).Form),(sc O ((ix g1.Nodes g).Data) a1)] 65::_::_::_::_::_::_::B) ?_))))
 refine aQ ?_
 obtain ⟨m,ab,b⟩:=bd b
 refine aQ ?_
 refine lM _ (fun w s=>((((((s.d 2 R).d 4 R).d 6 R).d 8 R).dg 14 R).e 12 [4,3,2,1,11,0,5,6,7,8,9,10])) ?_
 refine lC 6 BF R (Zg_ok ab) R ?_
 rintro ⟨T,au,a2⟩
 refine aM 0 aA ?_
 rintro rfl
 refine lO (vT R) ?_
 refine kh ?_
 split at b
 refine iD ?_
 cases b
 obtain rfl:=a5 _ R
 have b:=a9
 refine aQ ?_
 cases b
 exact jC (none,0,0) (fun w s=>((s.nilo (bH).share 23).e 13 [0]))
 refine aQ ?_
 obtain ⟨a7,b⟩:=gd b
 refine aQ ?_
 refine lM _ (fun w s=>(s.d 0 R)) ?_
 refine bP (K:=(bH).share) (xs:=([m.1]:List (List Int))) (vs:=[(sc T m.1 a2)]) 1 R R ja fJ kM R R R R R R ?_ R (fun ap ar=>?_)
 exact fun I h s=>(rn).list [((sc T m.1 a2),m.1)] I h s
 refine lM _ (fun w s=>(s.f 9 [2,1,0,2,3,6])) ?_
 refine eP (K:=(bH).share) 5864062014805 R R ja fJ sT (Zr.zk (Zr.share zT23) kM) R R R R R R dZ a7 (fun U a3=>(lN (OO (bH).share 23 U a3 (u++([m.1]:List (List Int)))::_::_::_::_::_::_::_::B) ?_))
 refine dI ?_
 cases b
 exact qA (U,(u++([m.1]:List (List Int))).length,a3) (tE 8 [0])
 refine aQ ?_
 cases b
 obtain rfl:=a5 _ R
 have b:=a9
 refine aU ?_
 exact qI (u,(ac,u.length,ae)) b tI
 rintro ⟨i,⟨j,ah,l⟩⟩ σ1 b
 dsimp only [Zk_J1] at b
 refine bK 0 eG (fun (hn:ah=i.length)=>?_)
 subst hn
 refine aK (bB (A:=(Unit)×(Unit)) (fun a=>Zk_J2 i=some r) (fun a=>[(4,(sc j i l))]) (fun a=>OO (bH).share 23 j l i::B) ?_ ?_)
 refine dA ?_
 obtain ⟨e2,am,aa⟩:=bd b
 refine bD (A:=HH) am (fun s a=>[(1,(pt G 0)),(4,(sc j i l)),(43,(s3 a)),(44,(il g1.Outs)),(45,(iv s))]) (fun s a=>OO (bH).share 23 j l i::aN kT3 (s3 a) g1.Outs::B) (A3,g1.Outs.length,D3) (aS R) (fun w s=>((s.d 3 R).e 2 [1,0])) ?_
 rintro D ⟨aq,ai,E⟩ σ1 ao b a6
 dsimp only [Zk_L2] at b
 refine bK 1 aA (fun (hn:ai=g1.Outs.length)=>?_)
 subst hn
 refine bW ?_
 split at b
 refine bW ?_
 obtain ⟨a8,b⟩:=gd b
 refine aD (bC 1 aA (show 0<g1.Outs.length by have:=a8; omega) (fun F o59 ha=>?_))
 subst ha
 refine bW ?_
 refine cQ [(1,(pt G 0)),(4,(sc j i l)),(43,(sc (ad F o59) g1.Outs E)),(44,(il g1.Outs)),(45,(iv D)),(57,(.bool ((decide ((ix g1.Outs D)<0))||(decide ((ix g1.Outs D)≥(g1.Nodes.length:Int))))))] (OO (bH).share 23 j l i::RR kT3 (ad F o59) E g1.Outs::B) ?_ ?_
 refine bI ?_
 rcases bo (decide ((ix g1.Outs D)<0)) with a4 | a4
 refine dU ?_
 exact qj tI
 refine dU ?_
 exact qj tI
 rintro σ1
 refine bX ?_
 split at b
 refine dG ?_
 cases b
 obtain rfl:=a6 _ R
 have b:=aa
 refine aQ ?_
 cases b
 exact jC (none,0,0) (fun w s=>((s.nilo (bH).share 23).e 7 [0]))
 refine dI ?_
 cases b
 exact qA ((ad F o59),g1.Outs.length,E) tI
 refine aQ ?_
 cases b
 obtain rfl:=a6 _ R
 have b:=aa
 refine aU ?_
 exact qI ((),()) b (tE 2 [0])
 rintro ⟨_,_⟩ σ1 b
 dsimp only [Zk_J2] at b
 refine dI ?_
 cases b
 exact jC (j,i.length,l) (tE 5 [0])
theorem Z2j_ok  {g1:Graph}{mG:Int}{r:Bool}(a:Z2j g1=some r) :
 FnOk Tryz.prog 39 [(.agg [(.slice A2 N2 D2),(.slice A3 N3 D3)].toArray)] [aN cP (.slice A2 N2 D2) g1.Nodes,aN kT3 (.slice A3 N3 D3) g1.Outs,gl 0 mG] (fun (h:Unit)=>((.bool r),[])):=by
 unfold Z2j at a
 refine aP Tryz.func39 R 11 R R fun C V=>?_
 refine cL 0 aA ?_
 rintro rfl
 refine cL 1 aA ?_
 rintro rfl
 let g:=RR cP A2 D2 g1.Nodes::RR kT3 A3 D3 g1.Outs::gl 0 mG::V
 refine cN g ?_
 refine aU ?_
 refine eJ R fun j=>?_
 refine aU ?_
 let i:=aJ j [(sc A2 g1.Nodes D2),(sc A3 g1.Outs D3)] 31::g
 refine qN i ?_
 refine aU ?_
 obtain ⟨l,b,a⟩:=bd a
 refine aU ?_
 refine lM _ (fun w s=>((((s.d 1 R).d 3 R).dg 5 R).e 3 [2,1,0])) ?_
 refine lC 3 Ad R (Zk_ok b) R ?_
 rintro ⟨A7,N7,D7⟩
 refine aM 0 eG ?_
 rintro rfl
 refine lO (vT R) ?_
 refine kh ?_
 cases a
 exact qF () (tE 5 [])
theorem Z22_ok  {a:(List Int)}{r:(List Int)}(g:Z22 a=some r) :
 FnOk Tryz.prog 32 [(.slice A2 N2 D2)] [aN kT3 (.slice A2 N2 D2) a] (fun (h:HH×Nat)=>((.func (.func 68) [].toArray [(pt h.2 0)].toArray),[aN kT3 (s3 h.1) r,aJ h.2 [(s3 h.1)] 23])):=by
 unfold Z22 at g
 refine aP Tryz.func32 R 4 R R fun C V=>?_
 refine cL 0 aA ?_
 rintro rfl
 let e:=RR kT3 A2 D2 a::V
 refine cN e ?_
 refine aU ?_
 refine fC (cs:=[(sc A2 a D2)]) R R R (fun b=>(lO (vp _ R) (aC ?_)))
 let i:=aJ b [(sc A2 a D2)] 23::e
 refine qN i ?_
 refine aQ ?_
 refine lO (vp (.func (.func 68) [].toArray [(pt b 0)].toArray) R) (lO (vp _ R) ?_)
 refine aQ ?_
 cases g
 exact qF ((A2,a.length,D2),b) (tE 2 [1,0])
theorem Z1p_ok  {k1:Int}{e:(List Int)}{a:Nat}{r:Bool}(b:Z1p k1 e=some r) :
 FnOk Tryz.prog 68 [(iv k1),(pt a 0)] [aN kT3 (.slice A4 N4 D4) e,aJ a [(.slice A4 N4 D4)] 23] (fun (h:Unit)=>((.bool r),[aJ a [(.slice A4 N4 D4)] 23])):=by
 unfold Z1p at b
 refine aP Tryz.func68 R 13 R R fun C V=>?_
 refine cM _ (tE 2 [1,0]) ?_
 refine cL 1 aA ?_
 rintro rfl
 let j:=RR kT3 A4 D4 e::V
 refine bI ?_
 let i:=aJ a [(sc A4 e D4)] 23::j
 refine qN i ?_
 refine aU ?_
 obtain ⟨l,g,b⟩:=bd b
 refine aQ ?_
 refine lM _ (fun w s=>(s.d 1 R)) ?_
 refine lC 1 BI R (Z0m_ok g) R ?_
 rintro _
 refine lN i ?_
 refine lO (vT R) ?_
 refine kh ?_
 cases b
 exact qF () (tE 2 [0])
theorem Z0a_ok  {g:Int}{D:(List Int)}{l:Nat}{r:(List Int)}(b:Z0a g D=some r) :
 FnOk Tryz.prog 64 [(iv g),(.func (.func 68) [].toArray [(pt l 0)].toArray)] [aN kT3 (.slice A5 N5 D5) D,aJ l [(.slice A5 N5 D5)] 23] (fun (h:HH)=>((s3 h),[ow kT3 3 (s3 h) r,aJ l [(.slice A5 N5 D5)] 23])):=by
 unfold Z0a at b
 refine aP Tryz.func64 R 26 R R fun C V=>?_
 refine cM _ (tE 2 [1,0]) ?_
 refine cL 1 aA ?_
 rintro rfl
 let G:=RR kT3 A5 D5 D::V
 refine bW ?_
 obtain ⟨u,b⟩:=gd b
 refine aU ?_
 refine fO (K:=kT3) (m:=g) (z:=(0:Int)) R R bM cJ kk (Zr.zk zT3 gV) (by decide) R R u.1 u.2.1 u.2.2 (fun A7 D7=>(lS R (aC (aG (aK (aD (lI R (aC (aG (aK (bB (A:=((List Int))×(Unit)) (fun a=>Z0a_J3 a.1=some r) (fun a=>[(5,(sc A7 (List.replicate g.toNat (0:Int)) D7))]) (fun a=>ow kT3 3 (.slice A7 (List.replicate g.toNat (0:Int)).length D7) a.1::aJ l [(sc A5 D D5)] 23::G) ?_ ?_)))))))))))
 refine dI ?_
 obtain ⟨e1,M,L⟩:=bd b
 refine bD (A:=Unit) M (fun s a=>[(1,(.func (.func 68) [].toArray [(pt l 0)].toArray)),(5,(sc A7 (List.replicate g.toNat (0:Int)) D7)),(6,(iv s.2.1)),(11,(il (List.replicate g.toNat (0:Int)))),(12,(iv s.2.2))]) (fun s a=>aJ l [(sc A5 D D5)] 23::ow kT3 3 (.slice A7 (List.replicate g.toNat (0:Int)).length D7) s.1::G) () (aS R) (tE 2 [1,0]) ?_
 rintro ⟨B,i,q⟩ _ σ1 F b J
 dsimp only [Z0a_L1] at b
 refine bW ?_
 split at b
 refine bI ?_
 refine bB (A:=(Int)×(Unit)) (fun a=>Z0a_J2 B i q a.1=some F) (fun a=>[(1,(.func (.func 68) [].toArray [(pt l 0)].toArray)),(5,(sc A7 (List.replicate g.toNat (0:Int)) D7)),(6,(iv a.1)),(11,(il (List.replicate g.toNat (0:Int)))),(12,(iv q))]) (fun a=>aJ l [(sc A5 D D5)] 23::ow kT3 3 (.slice A7 (List.replicate g.toNat (0:Int)).length D7) (B.set q.toNat i)::G) ?_ ?_
 refine dI ?_
 obtain ⟨j,b⟩:=gd b
 refine bI ?_
 refine bC 1 aB (show 0<(List.replicate g.toNat (0:Int)).length by have:=j; omega) (fun O o25 T=>?_)
 subst T
 refine bX ?_
 refine lM _ (tE 2 [1,0]) ?_
 refine eL (K:=kT3) (x':=i) 0 q R R cJ R R j.1 j.2 ?_ ?_
 exact fun I h s=>(gR).put I h () i s
 refine aQ ?_
 obtain ⟨U,E,b⟩:=bd b
 refine aD (lO (vp _ R) (lI R (lM _ (fun w s=>((s.d 2 R).e 3 [0,2,1])) ?_)))
 refine cE (fs:=[]) (cs:=[(pt l 0)]) 2 R R uP R R (Z1p_ok E) R ?_
 rintro _
 refine aU ?_
 split at b
 refine dU ?_
 exact qI ((aH (i+1)),()) b tI
 refine aQ ?_
 exact qI (i,()) b tI
 rintro ⟨Y,_⟩ σ1 b
 dsimp only [Z0a_J2] at b
 refine bI ?_
 cases b
 exact qA () tI
 refine aQ ?_
 cases b
 obtain rfl:=J _ R
 have b:=L
 refine aU ?_
 exact qI (B,()) b (tE 2 [1,0])
 rintro ⟨Z,_⟩ σ1 b
 dsimp only [Z0a_J3] at b
 refine dU ?_
 cases b
 exact qF (A7,(List.replicate g.toNat (0:Int)).length,D7) (tE 3 [0,1])
theorem Z21_ok  {a:Node}{r:Bool}(i:Z21 a=some r) :
 FnOk Tryz.prog 66 [(.agg [(iv a.Op),(.slice A2 N2 D2),(.slice A3 N3 D3),(.slice A4 N4 D4),(aE a.Form),(.slice A5 N5 D5)].toArray)] [aN kT3 (.slice A2 N2 D2) a.Args,aN kT3 (.slice A3 N3 D3) a.Dims,aN kT3 (.slice A4 N4 D4) a.Ints,aN kT3 (.slice A5 N5 D5) a.Data] (fun (h:Unit)=>((.bool r),[])):=by
 unfold Z21 at i
 refine aP Tryz.func66 R 11 R R fun C V=>?_
 refine cL 0 aA ?_
 rintro rfl
 refine cL 1 aA ?_
 rintro rfl
 refine cL 2 aA ?_
 rintro rfl
 refine cL 3 aA ?_
 rintro rfl
 let e:=RR kT3 A2 D2 a.Args::RR kT3 A3 D3 a.Dims::RR kT3 A4 D4 a.Ints::RR kT3 A5 D5 a.Data::V
 refine cN e ?_
 refine aU ?_
 refine eJ R fun j=>?_
 refine aU ?_
 let g:=aJ j [(iv a.Op),(sc A2 a.Args D2),(sc A3 a.Dims D3),(sc A4 a.Ints D4),(aE a.Form),(sc A5 a.Data D5)] 65::e
 refine qN g ?_
 refine aU ?_
 refine cQ [(2,(.bool ((a.Op==1)||(a.Op==2))))] (g) ?_ ?_
 refine cI ?_
 rcases bo (a.Op==1) with b | b
 refine bW ?_
 exact qj tI
 refine bW ?_
 exact qj tI
 rintro σ1
 refine aU ?_
 cases i
 exact qF () (tE 5 [])
theorem Z04_ok  {g1:Graph}{O:(List Int)}{B:Nat}{r:Bool}(j:Z04 g1 O=some r) :
 FnOk Tryz.prog 62 [(.agg [(.slice A2 N2 D2),(.slice A3 N3 D3)].toArray),(.func (.func 68) [].toArray [(pt B 0)].toArray)] [aN cP (.slice A2 N2 D2) g1.Nodes,aN kT3 (.slice A3 N3 D3) g1.Outs,aN kT3 (.slice A7 N7 D7) O,aJ B [(.slice A7 N7 D7)] 23] (fun (h:Unit)=>((.bool r),[aJ B [(.slice A7 N7 D7)] 23])):=by
 unfold Z04 at j
 refine aP Tryz.func62 R 56 R R fun C V=>?_
 refine cM _ (tE 4 [3,0,1,2]) ?_
 refine cL 1 aA ?_
 rintro rfl
 refine cL 2 aA ?_
 rintro rfl
 refine cL 3 aA ?_
 rintro rfl
 let W0:=RR cP A2 D2 g1.Nodes::RR kT3 A3 D3 g1.Outs::RR kT3 A7 D7 O::V
 refine aU ?_
 refine eJ R fun b8=>?_
 refine aU ?_
 refine qM _ (tE 2 [1,0]) ?_
 let W1:=aJ b8 [(sc A2 g1.Nodes D2),(sc A3 g1.Outs D3)] 31::W0
 refine aU ?_
 obtain ⟨q,ap,j⟩:=bd j
 refine bI ?_
 refine lO (vp _ R) (lM _ (fun w s=>(s.d 4 R)) ?_)
 refine lC 2 Af R (Z0a_ok ap) R ?_
 rintro ⟨A11,N11,D11⟩
 refine aM 0 aB ?_
 rintro rfl
 refine bI ?_
 refine bB (A:=(Unit)×(Unit)) (fun a=>Z04_J3=some r) (fun a=>[]) (fun a=>aJ B [(sc A7 O D7)] 23::W1) ?_ ?_
 refine dA ?_
 obtain ⟨e1,ax,an⟩:=bd j
 refine bD (A:=HH) ax (fun s a=>[(1,(.func (.func 68) [].toArray [(pt B 0)].toArray)),(2,(pt b8 0)),(5,(sc A11 q D11)),(16,(s3 a)),(17,(il g1.Nodes)),(18,(iv s))]) (fun s a=>aJ B [(sc A7 O D7)] 23::OO kT3 3 A11 D11 q::aN cP (s3 a) g1.Nodes::W1) (A2,g1.Nodes.length,D2) (aS R) (fun w s=>((s.d 3 R).e 3 [2,1,0])) ?_
 rintro b ⟨b1,au,D⟩ σ1 aq j al
 dsimp only [Z04_L1] at j
 refine bK 2 aA (fun (M:au=g1.Nodes.length)=>?_)
 subst M
 refine bW ?_
 split at j
 refine bI ?_
 refine bB (A:=(Unit)×(HH)) (fun a=>Z04_J2 b=some aq) (fun a=>[(1,(.func (.func 68) [].toArray [(pt B 0)].toArray)),(2,(pt b8 0)),(5,(sc A11 q D11)),(16,(s3 a.2)),(17,(il g1.Nodes)),(18,(iv b))]) (fun a=>aJ B [(sc A7 O D7)] 23::OO kT3 3 A11 D11 q::aN cP (s3 a.2) g1.Nodes::W1) ?_ ?_
 refine aU ?_
 obtain ⟨I,j⟩:=gd j
 refine aU ?_
 refine bC 2 aA (show 0<g1.Nodes.length by have:=I; omega) (fun F o71 G=>?_)
 subst G
 refine bX ?_
 refine fN (K:=cP) 2 b dT65.dec R I.1 I.2 ?_
 rintro ⟨-,⟨U,Y⟩,⟨a7,ah⟩,⟨a8,ai⟩,-,⟨a9,aj⟩⟩
 refine lO (vz (.agg [(iv (ix g1.Nodes b).Op),(sc U ((ix g1.Nodes b).Args) Y),(sc a7 ((ix g1.Nodes b).Dims) ah),(sc a8 ((ix g1.Nodes b).Ints) ai),(aE (ix g1.Nodes b).Form),(sc a9 ((ix g1.Nodes b).Data) aj)].toArray) (eF (fo:=0) 0 mD iW R R R R)) (bE R R pu (fun aw=>(lI R (aL 0 R R iW R R R R R R (lN (aJ aw [(iv (ix g1.Nodes b).Op),(sc U ((ix g1.Nodes b).Args) Y),(sc a7 ((ix g1.Nodes b).Dims) ah),(sc a8 ((ix g1.Nodes b).Ints) ai),(aE (ix g1.Nodes b).Form),(sc a9 ((ix g1.Nodes b).Data) aj)] 65::_::_::_::_::_::_::_::_::W1) ?_)))))
 refine iD ?_
 obtain ⟨e2,ay,ao⟩:=bd j
 refine bD (A:=HH) ay (fun s a=>[(1,(.func (.func 68) [].toArray [(pt B 0)].toArray)),(2,(pt b8 0)),(5,(sc A11 q D11)),(6,(iv b)),(16,(sc (ad F o71) g1.Nodes D)),(17,(il g1.Nodes)),(18,(iv b)),(24,(s3 a)),(25,(il ((ix g1.Nodes b).Args))),(26,(iv s))]) (fun s a=>aJ B [(sc A7 O D7)] 23::OO kT3 3 A11 D11 q::RR cP (ad F o71) D g1.Nodes::aN kT3 (s3 a) (ix g1.Nodes b).Args::W1) (U,((ix g1.Nodes b).Args).length,Y) (aS R) (tE 9 [6,7,8,2]) ?_
 rintro l ⟨b2,av,Z⟩ σ1 b0 j am
 dsimp only [Z04_L2] at j
 refine bK 3 aA (fun (M:av=((ix g1.Nodes b).Args).length)=>?_)
 subst M
 refine bW ?_
 split at j
 refine bW ?_
 obtain ⟨a0,j⟩:=gd j
 refine aD (bC 3 aA (show 0<((ix g1.Nodes b).Args).length by have:=a0; omega) (fun E o104 G=>?_))
 subst G
 refine bW ?_
 obtain ⟨u,j⟩:=gd j
 obtain ⟨_,j⟩:=gd j
 obtain ⟨T,J,j⟩:=bd j
 obtain ⟨m,j⟩:=gd j
 obtain ⟨ar,a1,j⟩:=bd j
 refine cQ [(1,(.func (.func 68) [].toArray [(pt B 0)].toArray)),(2,(pt b8 0)),(5,(sc A11 q D11)),(6,(iv b)),(16,(sc (ad F o71) g1.Nodes D)),(17,(il g1.Nodes)),(18,(iv b)),(24,(sc (ad E o104) ((ix g1.Nodes b).Args) Z)),(25,(il ((ix g1.Nodes b).Args))),(26,(iv l)),(53,(.bool ((((ix q (ix ((ix g1.Nodes b).Args) l)) != (ix q b))&&(!T))&&(!ar))))] (aJ B [(sc A7 O D7)] 23::OO kT3 3 A11 D11 q::RR cP (ad F o71) D g1.Nodes::RR kT3 (ad E o104) Z ((ix g1.Nodes b).Args)::W1) ?_ ?_
 rcases bo ((ix q (ix ((ix g1.Nodes b).Args) l)) != (ix q b)) with i | i
 rcases bo (((ix q (ix ((ix g1.Nodes b).Args) l)) != (ix q b))&&(!T)) with g | g
 refine bA 1 aB (show 0<q.length by have:=u; omega) (fun L o107 G=>?_)
 subst G
 refine bA 5 aA (show 0<g1.Nodes.length by have:=(m g); omega) (fun az o113 G=>?_)
 subst G
 refine dO (K:=cP) 5 (ix ((ix g1.Nodes b).Args) l) dT65.dec R (m g).1 (m g).2 ?_
 rintro ⟨-,⟨a2,aa⟩,⟨a3,ab⟩,⟨a4,ac⟩,-,⟨a5,ae⟩⟩
 refine dF 24 [] bO fun ht M=>?_
 refine oz 0 [] ?_
 refine dW 10 R (dS i) (vp _ R) (dW 11 R (dS i) (vI R) (d1 12 R (lM _ (fun w s=>((s.d 12 R).f 10 [0,1,6,1,1,5,7,3])) ?_)))
 refine cE (fs:=[]) (cs:=[(pt B 0)]) 2 R (dS i) uP R R (Z1p_ok (bJ J i)) R ?_
 rintro _
 refine aC (aI (fun w s=>(s.f 9 [1,5,0,1,6,3])) (dW 13 R (dS i) (pn R) (hS:=(fun w s=>(s.f 9 [1,5,0,1,6,3]))) (dR 14 R (iC R i R) (hS:=(fun w s=>(s.f 9 [1,5,0,1,6,3]))) (dR 15 R (vB R) (hS:=(fun w s=>(s.f 9 [1,5,0,1,6,3]))) (dW 16 R (dS g) (fX 0 jS R) (hS:=(fun w s=>(s.f 9 [1,5,0,1,6,3]))) (dW 17 R (dS g) (gF 9 oD R R R) (hS:=(fun w s=>(s.f 9 [1,5,0,1,6,3]))) (dW 18 R (dS g) (vI R) (hS:=(fun w s=>(s.f 9 [1,5,0,1,6,3]))) (dW 19 R (dS g) (eM mC iW R R (m g)) (hS:=(fun w s=>(s.f 9 [1,5,0,1,6,3]))) (dW 20 R (dS g) (vz (.agg [(iv (ix g1.Nodes (ix ((ix g1.Nodes b).Args) l)).Op),(sc a2 ((ix g1.Nodes (ix ((ix g1.Nodes b).Args) l)).Args) aa),(sc a3 ((ix g1.Nodes (ix ((ix g1.Nodes b).Args) l)).Dims) ab),(sc a4 ((ix g1.Nodes (ix ((ix g1.Nodes b).Args) l)).Ints) ac),(aE (ix g1.Nodes (ix ((ix g1.Nodes b).Args) l)).Form),(sc a5 ((ix g1.Nodes (ix ((ix g1.Nodes b).Args) l)).Data) ae)].toArray) (eF (fo:=0) 0 mD iW R R R R)) (hS:=(fun w s=>(s.f 9 [1,5,0,1,6,3]))) ?_)))))))))
 refine d1 21 R (lM _ (fun w s=>(((((s.d 2 R).d 4 R).d 6 R).d 8 R).f 13 [3,1,2,1,1,1,0,1,4,9])) ?_)
 refine bU 4 R (dS g) Ag R (Z21_ok (bJ a1 g)) R ?_
 rintro _
 refine aC (aI (fun w s=>(s.f 9 [1,5,0,1,6,3])) (dW 22 R (dS g) (pn R) (hS:=(fun w s=>(s.f 9 [1,5,0,1,6,3]))) (dR 23 R (iC R g R) (hS:=(fun w s=>(s.f 9 [1,5,0,1,6,3]))) (dD ?_))))
 exact qj (tE 9 [0,6,7,8])
 refine bA 1 aB (show 0<q.length by have:=u; omega) (fun L o107 G=>?_)
 subst G
 refine dF 24 [] bO fun ht M=>?_
 refine oz 0 [] ?_
 refine dW 10 R (dS i) (vp _ R) (dW 11 R (dS i) (vI R) (d1 12 R (lM _ (fun w s=>(s.d 7 R)) ?_)))
 refine cE (fs:=[]) (cs:=[(pt B 0)]) 2 R (dS i) uP R R (Z1p_ok (bJ J i)) R ?_
 rintro _
 refine aC (aI (sL []) ?_)
 refine oA 13 [] ?_
 refine dD ?_
 exact qj tI
 refine bA 1 aB (show 0<q.length by have:=u; omega) (fun L o107 G=>?_)
 subst G
 refine dF 24 [] bO fun ht M=>?_
 refine yM 0 [] ?_
 refine dD ?_
 exact qj tI
 rintro σ1
 refine bX ?_
 split at j
 refine dA ?_
 cases j
 obtain rfl:=am _ R
 have j:=ao
 refine bI ?_
 cases j
 obtain rfl:=al _ R
 have j:=an
 refine aQ ?_
 cases j
 exact qF () (tE 8 [0])
 refine dI ?_
 cases j
 exact qA ((ad E o104),((ix g1.Nodes b).Args).length,Z) tI
 refine aQ ?_
 cases j
 obtain rfl:=am _ R
 have j:=ao
 refine aQ ?_
 exact qI ((),((ad F o71),g1.Nodes.length,D)) j (fun w s=>(s.f 4 [0,3]))
 rintro ⟨_,⟨a6,ak,ag⟩⟩ σ1 j
 dsimp only [Z04_J2] at j
 refine bK 2 aA (fun (M:ak=g1.Nodes.length)=>?_)
 subst M
 refine bI ?_
 cases j
 exact qA (a6,g1.Nodes.length,ag) tI
 refine aQ ?_
 cases j
 obtain rfl:=al _ R
 have j:=an
 refine aU ?_
 exact cU ((),()) j trivial (tE 3 [0])
 rintro ⟨_,_⟩ σ1 j
 dsimp only [Z04_J3] at j
 refine bW ?_
 cases j
 exact qF () (tE 5 [0])
theorem Z14_ok  {g1:Graph}{b:(List Int)}{mG:Int}{r:Bool}(g:Z14 g1 b=some r) :
 FnOk Tryz.prog 29 [(.agg [(.slice A2 N2 D2),(.slice A3 N3 D3)].toArray),(.slice A5 N5 D5)] [aN cP (.slice A2 N2 D2) g1.Nodes,aN kT3 (.slice A3 N3 D3) g1.Outs,aN kT3 (.slice A5 N5 D5) b,gl 0 mG] (fun (h:Unit)=>((.bool r),[])):=by
 unfold Z14 at g
 refine aP Tryz.func29 R 44 R R fun C V=>?_
 refine cL 0 aA ?_
 rintro rfl
 refine cL 1 aA ?_
 rintro rfl
 refine cL 2 aA ?_
 rintro rfl
 let W0:=RR cP A2 D2 g1.Nodes::RR kT3 A3 D3 g1.Outs::RR kT3 A5 D5 b::gl 0 mG::V
 refine cN W0 ?_
 refine aU ?_
 refine eJ R fun L=>?_
 refine aU ?_
 let B:=aJ L [(sc A2 g1.Nodes D2),(sc A3 g1.Outs D3)] 31::W0
 refine qN B ?_
 refine aQ ?_
 obtain ⟨r7,Z,g⟩:=bd g
 refine aU ?_
 refine lM _ (fun w s=>((((s.d 1 R).d 3 R).dg 6 R).e 3 [2,1,0])) ?_
 refine lC 3 BG R (Z2j_ok Z) R ?_
 rintro _
 refine lN B ?_
 refine aQ ?_
 split at g
 refine dI ?_
 cases g
 exact qF () (tE 5 [])
 refine bI ?_
 refine bB (A:=(Unit)×(HH)) (fun a=>Z14_J1 g1 b=some r) (fun a=>[(1,(s3 a.2)),(2,(pt L 0))]) (fun a=>aN kT3 (s3 a.2) b::B) ?_ ?_
 refine dI ?_
 obtain ⟨e1,Y,G⟩:=bd g
 refine bD (A:=HH) Y (fun s a=>[(1,(s3 a)),(2,(pt L 0)),(10,(s3 a)),(11,(il b)),(12,(iv s))]) (fun s a=>aN kT3 (s3 a) b::B) (A5,b.length,D5) (aS R) (fun w s=>(s.d 3 R)) ?_
 rintro i ⟨O,T,l⟩ σ1 a0 g E
 dsimp only [Z14_L1] at g
 refine bK 0 aA (fun (M:T=b.length)=>?_)
 subst M
 refine bW ?_
 split at g
 refine bW ?_
 obtain ⟨F,g⟩:=gd g
 refine aU ?_
 refine bC 0 aA (show 0<b.length by have:=F; omega) (fun q o24 ha=>?_)
 subst ha
 refine dU ?_
 obtain ⟨u,g⟩:=gd g
 refine cQ [(1,(sc (ad q o24) b l)),(2,(pt L 0)),(10,(sc (ad q o24) b l)),(11,(il b)),(12,(iv i)),(38,(.bool (((decide ((ix b i)<0))||(decide ((ix b i)≥(g1.Nodes.length:Int))))||((decide (i>0))&&(decide ((ix b (aH (i - 1)))≥(ix b i)))))))] (RR kT3 (ad q o24) l b::B) ?_ ?_
 refine bI ?_
 rcases bo (decide ((ix b i)<0)) with D | D
 refine yI ?_
 exact qj tI
 refine dU ?_
 rcases bo ((decide ((ix b i)<0))||(decide ((ix b i)≥(g1.Nodes.length:Int)))) with m | m
 refine kh ?_
 exact qj tI
 refine aQ ?_
 rcases bo (decide (i>0)) with j | j
 refine aQ ?_
 refine lW (dS j) (eM bM cJ R R (u m j)) (lW (dS j) (gK 0 fP aA R (u m j)) ?_)
 refine cI ?_
 exact qj tI
 refine dG ?_
 exact qj tI
 rintro σ1
 refine bX ?_
 split at g
 refine dA ?_
 cases g
 obtain rfl:=E _ R
 have g:=G
 refine aQ ?_
 cases g
 exact qF () (tE 6 [])
 refine dI ?_
 cases g
 exact qA ((ad q o24),b.length,l) tI
 refine aQ ?_
 cases g
 obtain rfl:=E _ R
 have g:=G
 refine aU ?_
 exact qI ((),(O,b.length,l)) g tI
 rintro ⟨_,⟨a1,U,a3⟩⟩ σ1 g
 dsimp only [Z14_J1] at g
 refine bK 0 aA (fun (M:U=b.length)=>?_)
 subst M
 refine bX ?_
 obtain ⟨a7,I,g⟩:=bd g
 obtain ⟨a8,J,g⟩:=bd g
 refine dF 5 [] bO fun ht M=>?_
 refine gZ 0 [] ?_
 refine d1 2 R (lM _ (fun w s=>(s.d 0 R)) ?_)
 refine lC 1 Ah R (Z22_ok I) R ?_
 rintro ⟨⟨a2,a5,a4⟩,a6⟩
 refine aM 0 aA ?_
 rintro rfl
 refine aC (aI (sL [1,0]) (d1 3 R (lM _ (fun w s=>((((s.d 4 R).d 6 R).d 2 R).e 6 [2,1,0,4,3,5])) ?_)))
 refine lC 4 BJ R (Z04_ok J) R ?_
 rintro _
 refine aC (aI (sL [1,0]) ?_)
 refine n6 4 [1,0] ?_
 refine dD ?_
 refine aU ?_
 cases g
 exact qF () (tE 8 [])
theorem Zj_ok  {g1:Graph}{b:(List (List Int))}{q7:(List Int)}{b8:Nat}{r:Int×Int}(i:Zj g1 b q7=some r) :
 FnOk Tryz.prog 31 [(.agg [(.slice A2 N2 D2),(.slice A3 N3 D3)].toArray),(.slice A5 N5 D5),(.func (.func 68) [].toArray [(pt b8 0)].toArray)] [aN cP (.slice A2 N2 D2) g1.Nodes,aN kT3 (.slice A3 N3 D3) g1.Outs,aN bH (.slice A5 N5 D5) b,aN kT3 (.slice A9 N9 D9) q7,aJ b8 [(.slice A9 N9 D9)] 23] (fun (h:Unit)=>((.tuple [(iv r.1),(iv r.2)].toArray),[aJ b8 [(.slice A9 N9 D9)] 23])):=by
 unfold Zj at i
 refine aP Tryz.func31 R 79 R R fun C V=>?_
 refine cM (aJ _ _ _::aN _ _ _::aN _ _ _::aN _ _ _::aN _ _ _::V) (fun w s=>(s.f 5 [4,1,0,4])) ?_
 refine cL 1 aA ?_
 rintro rfl
 refine cL 2 aA ?_
 rintro rfl
 refine cL 3 aA ?_
 rintro rfl
 refine cL 4 aA ?_
 rintro rfl
 let W0:List HP:=RR cP A2 D2 g1.Nodes::RR kT3 A3 D3 g1.Outs::RR bH A5 D5 b::RR kT3 A9 D9 q7::V
 refine cN (aJ b8 [(sc A9 q7 D9)] 23::W0) ?_
 refine aK (aD (eJ R (fun be=>(lI R (lI R (aC (qM (aJ _ _ _::aJ _ _ _::W0) (fun w s=>(s.e 2 [1,0])) ?_)))))))
 let J:List HP:=aJ be [(sc A2 g1.Nodes D2),(sc A3 g1.Outs D3)] 31::W0
 refine qN (_::J) ?_
 refine aG (aK ?_)
 obtain ⟨D,ax,i⟩:=bd i
 refine aD (lO (fX 0 jS R) (lO (gF 1 oD R R R) (lO (hY mC R) (lO (vp _ R) (lM (RR kT3 A9 D9 q7::_::J) (fun w s=>(s.d 5 R)) ?_)))))
 refine lC 2 Af R (Z0a_ok ax) R ?_
 rintro ⟨Z,b7,M⟩
 refine lN (ow kT3 3 (.slice Z b7 M) D::_::J) ?_
 refine aM 0 aB ?_
 rintro rfl
 refine lS R (aC (aG (aK ?_)))
 obtain ⟨ak,i⟩:=gd i
 refine aD (lO (fX 0 jS R) (lO (gF 2 oD R R R) (lO (hY mC R) (lO (jt R R) (fO (K:=kT3) (m:=(aH ((g1.Nodes.length:Int)+(1:Int)))) (z:=(0:Int)) R R bM cJ kk (Zr.zk zT3 gV) (by decide) R R ak.1 ak.2.1 ak.2.2 (fun G E=>(lS R (aC (aG (aK (aD (lI R (lI R (aC (aG (aK (bB (A:=((List Int)×Int×Int)×(Unit)) (fun a=>Zj_J5 a.1.1 a.1.2.1 a.1.2.2=some r) (fun a=>[(9,(sc G (List.replicate (aH ((g1.Nodes.length:Int)+(1:Int))).toNat (0:Int)) E)),(10,(iv a.1.2.1)),(11,(iv a.1.2.2))]) (fun a=>ow kT3 3 (.slice G (List.replicate (aH ((g1.Nodes.length:Int)+(1:Int))).toNat (0:Int)).length E) a.1.1::aJ b8 [(sc A9 q7 D9)] 23::J) ?_ ?_)))))))))))))))))
 refine aK (aD (lO (fX 0 jS R) (lO (gF 3 oD R R R) (lO (hY mC R) (lI R (aC (aG (dJ ?_))))))))
 obtain ⟨e1,bj,bi⟩:=bd i
 refine bD (A:=HH×HH) bj (fun s a=>[(1,(.slice a.1.1 a.1.2.1 a.1.2.2)),(2,(.func (.func 68) [].toArray [(pt b8 0)].toArray)),(8,(sc Z D M)),(9,(sc G (List.replicate (aH ((g1.Nodes.length:Int)+(1:Int))).toNat (0:Int)) E)),(10,(iv s.2.1)),(11,(iv s.2.2.1)),(26,(.slice a.2.1 a.2.2.1 a.2.2.2)),(27,(il g1.Nodes)),(28,(iv s.2.2.2))]) (fun s a=>aN bH (.slice a.1.1 a.1.2.1 a.1.2.2) b::aJ b8 [(sc A9 q7 D9)] 23::OO kT3 3 Z M D::ow kT3 3 (.slice G (List.replicate (aH ((g1.Nodes.length:Int)+(1:Int))).toNat (0:Int)).length E) s.1::aN cP (.slice a.2.1 a.2.2.1 a.2.2.2) g1.Nodes::J) ((A5,b.length,D5),(A2,g1.Nodes.length,D2)) (aS R) (fun w s=>(((s.d 6 R).d 5 R).e 5 [1,4,3,2,0])) ?_
 rintro ⟨j,q,u,g⟩ ⟨⟨b2,b9,a0⟩,⟨bl,ba,a5⟩⟩ σ1 U i bh
 replace i:Zj_L1 g1 b q7 D j q u g=some U:=i
 unfold Zj_L1 at i
 refine bK 0 aA (fun (hn:b9=b.length)=>?_)
 subst hn
 refine bK 4 aA (fun (hn:ba=g1.Nodes.length)=>?_)
 subst hn
 refine aK (aD (lO (n0 R R) (aC (aG (aK ?_)))))
 rcases cH i with ⟨ag,i⟩|⟨ag,i⟩
 refine bV R ag (cF (aG (aK (bB (A:=((List Int)×Int×Int)×(HH×HH)) (fun a=>Zj_J4 g a.1.1 a.1.2.1 a.1.2.2=some U) (fun a=>[(1,(.slice a.2.1.1 a.2.1.2.1 a.2.1.2.2)),(2,(.func (.func 68) [].toArray [(pt b8 0)].toArray)),(8,(sc Z D M)),(9,(sc G (List.replicate (aH ((g1.Nodes.length:Int)+(1:Int))).toNat (0:Int)) E)),(10,(iv a.1.2.1)),(11,(iv a.1.2.2)),(26,(.slice a.2.2.1 a.2.2.2.1 a.2.2.2.2)),(27,(il g1.Nodes)),(28,(iv g))]) (fun a=>aN bH (.slice a.2.1.1 a.2.1.2.1 a.2.1.2.2) b::aJ b8 [(sc A9 q7 D9)] 23::OO kT3 3 Z M D::ow kT3 3 (.slice G (List.replicate (aH ((g1.Nodes.length:Int)+(1:Int))).toNat (0:Int)).length E) a.1.1::aN cP (.slice a.2.2.1 a.2.2.2.1 a.2.2.2.2) g1.Nodes::J) ?_ ?_))))
 refine dJ (aK ?_)
 obtain ⟨a3,i⟩:=gd i
 refine aD (lI R (bC 4 aA (show 0<g1.Nodes.length by have:=a3; omega) (fun a1 o62 ha=>?_)))
 subst ha
 refine lO (eM mC iW R R a3) (fN (K:=cP) 4 g dT65.dec R a3.1 a3.2 ?_)
 rintro ⟨-,⟨a6,aa⟩,⟨a7,ab⟩,⟨a8,ac⟩,-,⟨a9,ae⟩⟩
 refine lN (cl a1 (o62+g.toNat*6) [(iv (ix g1.Nodes g).Op),(sc a6 ((ix g1.Nodes g).Args) aa),(sc a7 ((ix g1.Nodes g).Dims) ab),(sc a8 ((ix g1.Nodes g).Ints) ac),(aE (ix g1.Nodes g).Form),(sc a9 ((ix g1.Nodes g).Data) ae)]::RR kT3 a6 aa ((ix g1.Nodes g).Args)::RR kT3 a7 ab ((ix g1.Nodes g).Dims)::RR kT3 a8 ac ((ix g1.Nodes g).Ints)::RR kT3 a9 ae ((ix g1.Nodes g).Data)::RR bH b2 a0 b::_::_::ow kT3 3 (.slice G (List.replicate (aH ((g1.Nodes.length:Int)+(1:Int))).toNat (0:Int)).length E) j::RR cP (ad a1 o62) a5 g1.Nodes::J) ?_
 refine lO (vz (.agg [(iv (ix g1.Nodes g).Op),(sc a6 ((ix g1.Nodes g).Args) aa),(sc a7 ((ix g1.Nodes g).Dims) ab),(sc a8 ((ix g1.Nodes g).Ints) ac),(aE (ix g1.Nodes g).Form),(sc a9 ((ix g1.Nodes g).Data) ae)].toArray) (eF (fo:=0) 0 mD iW R R R R)) (bE R R pu (fun bf=>(lI R (aL 0 R R iW R R R R R R (lN (aJ bf [(iv (ix g1.Nodes g).Op),(sc a6 ((ix g1.Nodes g).Args) aa),(sc a7 ((ix g1.Nodes g).Dims) ab),(sc a8 ((ix g1.Nodes g).Ints) ac),(aE (ix g1.Nodes g).Form),(sc a9 ((ix g1.Nodes g).Data) ae)] 65::_::_::_::_::_::_::_::_::_::_::J) ?_)))))
 refine aC (aG (aK ?_))
 obtain ⟨a4,i⟩:=gd i
 obtain ⟨bk,ay,i⟩:=bd i
 refine aD (lS R (lI R (bC 6 aA (show 0<b.length by have:=a4; omega) (fun a2 o70 ha=>?_))))
 subst ha
 refine lO (eM ja fJ R R a4) (fN (K:=bH) 6 g dT23.dec R a4.1 a4.2 ?_)
 rintro ⟨av,aw⟩
 refine lN (cl a2 (o70+g.toNat*1) [(sc av (ix b g) aw)]::RR kT3 av aw (ix b g)::_::_::_::_::_::_::RR bH (ad a2 o70) a0 b::_::_::_::_::J) ?_
 refine lO (eN (fo:=0) 0 cY R R R) (lM (_::_::_::_::_::_::_::_::_::_::_::_::_::_::J) (fun w s=>(s.d 1 R)) ?_)
 refine lC 1 li R (Zl_ok ay) R ?_
 rintro _
 refine lN (_::_::_::_::_::_::_::_::_::_::_::_::_::J) ?_
 refine lI R (aC (aG (aK (bB (A:=(Int)×(Unit)) (fun a=>Zj_J3 g1 q7 D j q u g a.1=some U) (fun a=>[(1,(sc (ad a2 o70) b a0)),(2,(.func (.func 68) [].toArray [(pt b8 0)].toArray)),(8,(sc Z D M)),(9,(sc G (List.replicate (aH ((g1.Nodes.length:Int)+(1:Int))).toNat (0:Int)) E)),(10,(iv q)),(11,(iv u)),(12,(iv g)),(14,(iv a.1)),(26,(sc (ad a1 o62) g1.Nodes a5)),(27,(il g1.Nodes)),(28,(iv g))]) (fun a=>RR bH (ad a2 o70) a0 b::aJ b8 [(sc A9 q7 D9)] 23::OO kT3 3 Z M D::ow kT3 3 (.slice G (List.replicate (aH ((g1.Nodes.length:Int)+(1:Int))).toNat (0:Int)).length E) j::RR cP (ad a1 o62) a5 g1.Nodes::J) ?_ ?_))))
 refine aK ?_
 obtain ⟨bm,az,i⟩:=bd i
 refine aD (lO (vz (.agg [(iv (ix g1.Nodes g).Op),(sc a6 ((ix g1.Nodes g).Args) aa),(sc a7 ((ix g1.Nodes g).Dims) ab),(sc a8 ((ix g1.Nodes g).Ints) ac),(aE (ix g1.Nodes g).Form),(sc a9 ((ix g1.Nodes g).Data) ae)].toArray) (cO 2 mD iW R R R R)) (lM (aN _ _ _::aN _ _ _::aN _ _ _::aN _ _ _::cl _ _ _::aN _ _ _::aJ _ _ _::cl _ _ _::aN _ _ _::aN _ _ _::aN _ _ _::aN _ _ _::aN _ _ _::aJ _ _ _::ow _ _ _ _::ow _ _ _ _::aN _ _ _::J) (fun w s=>(((((s.d 4 R).d 6 R).d 8 R).d 10 R).f 17 [3,1,2,1,1,1,0,1,4,13])) ?_))
 refine lC 4 Ag R (Z21_ok az) R ?_
 rintro _
 refine lN (_::_::_::_::_::_::_::_::_::_::_::_::_::J) ?_
 refine aC (aG ?_)
 rcases cH i with ⟨ah,i⟩|⟨ah,i⟩
 refine bV R ah (aD (lI R (aC ?_)))
 exact qI ((0:Int),()) i (fun w s=>(s.f 13 [8,5]))
 refine bG R ah (cF ?_)
 exact qI (bk,()) i (fun w s=>(s.f 13 [8,5]))
 rintro ⟨l,_⟩ σ1 i
 replace i:Zj_J3 g1 q7 D j q u g l=some U:=i
 unfold Zj_J3 at i
 refine aK (aD (lI R (lI R (lO (jt R R) (lI R (aC (aG (aK (aK ?_)))))))))
 obtain ⟨bn,b0,i⟩:=bd i
 refine aD (lO (vp _ R) (lI R (lM (RR kT3 A9 D9 q7::aJ _ _ _::aN _ _ _::ow _ _ _ _::ow _ _ _ _::aN _ _ _::J) (fun w s=>((s.d 9 R).e 6 [0,2,1,3,4,5])) ?_)))
 refine cE (fs:=[]) (cs:=[(pt b8 0)]) 2 R R uP R R (Z1p_ok b0) R ?_
 rintro _
 refine lN (_::_::_::_::_::J) ?_
 refine aC (aG ?_)
 rcases cH i with ⟨ai,i⟩|⟨ai,i⟩
 refine bV R ai (aK (aD (lI R (lI R (lO (jt R R) (lI R (aC (aG (gA (dY (eX ?_)))))))))))
 exact qI ((j,(aH (q+l)),(aH (u+l))),(((ad a2 o70),b.length,a0),((ad a1 o62),g1.Nodes.length,a5))) i (fun w s=>(s.e 5 [1,0,2,3,4]))
 refine bG R ai (cF (aG (aK ?_)))
 obtain ⟨T,i⟩:=gd i
 obtain ⟨L,i⟩:=gd i
 refine aD (lS R (lS R (lI R (bC 2 aB (show 0<D.length by have:=T; omega) (fun bg o83 ha=>?_)))))
 subst ha
 refine lO (eM bM cJ R R T) (lO (gK 2 fP aB R T) (bC 3 aB (show 0<(List.replicate (aH ((g1.Nodes.length:Int)+(1:Int))).toNat (0:Int)).length by have:=L; omega) (fun aq o86 ha=>?_)))
 subst ha
 refine lO (eM bM cJ R R L) (lO (gK 3 fP aB R L) (lI R (lO (jt R R) (lO (eM bM cJ R R L) (lM (ow kT3 3 (.slice (ad aq o86) (List.replicate (aH ((g1.Nodes.length:Int)+(1:Int))).toNat (0:Int)).length E) j::aJ _ _ _::aN _ _ _::OO kT3 3 (ad bg o83) M D::aN _ _ _::J) (fun w s=>(s.e 5 [3,0,1,2,4])) ?_)))))
 refine eL (K:=kT3) (x':=(aH ((ix j (ix D g))+l))) 0 (ix D g) R R cJ R R L.1 L.2 ?_ ?_
 exact fun I h s=>(gR).put I h () (aH ((ix j (ix D g))+l)) s
 refine lN (ow kT3 3 (.slice (ad aq o86) (List.replicate (aH ((g1.Nodes.length:Int)+(1:Int))).toNat (0:Int)).length E) (j.set (ix D g).toNat (aH ((ix j (ix D g))+l)))::_::_::_::_::J) ?_
 refine aC ?_
 obtain ⟨au,al,i⟩:=bd i
 replace al:=Option.some.inj al
 refine qM (ow kT3 3 (.slice (ad aq o86) (List.replicate (aH ((g1.Nodes.length:Int)+(1:Int))).toNat (0:Int)).length E) au::_::_::_::_::J) (fun w s=>by rw [← al]; exact s) ?_
 refine aG (aK ?_)
 obtain ⟨ap,i⟩:=gd i
 refine dF 11 [] bO (fun ht hn=>(dR 0 R (vS R) (dR 1 R (vI R) (dR 2 R (eM bM cJ R R T) (dR 3 R (gK 3 fP aB R T) (dR 4 R (vS R) (dR 5 R (vS R) (dR 6 R (hY bM R) (dR 7 R (uv R R) (dR 8 R (eM bM cJ R R ap) (dR 9 R (gK 3 fP aB R ap) (dR 10 R (wP R R) (dD (aG ?_))))))))))))))
 rcases cH i with ⟨aj,i⟩|⟨aj,i⟩
 refine bV R aj (aD (lI R (lI R (lO (jt R R) (lI R (aC (dN ?_)))))))
 exact qI ((au,q,(aH ((aH (u+l))+l))),(((ad a2 o70),b.length,a0),((ad a1 o62),g1.Nodes.length,a5))) i (fun w s=>(s.e 5 [2,1,3,0,4]))
 refine bG R aj (cF (dN ?_))
 exact qI ((au,q,(aH (u+l))),(((ad a2 o70),b.length,a0),((ad a1 o62),g1.Nodes.length,a5))) i (fun w s=>(s.e 5 [2,1,3,0,4]))
 rintro ⟨⟨an,am,ao⟩,⟨⟨b3,bb,b5⟩,⟨b4,bc,b6⟩⟩⟩ σ1 i
 replace i:Zj_J4 g an am ao=some U:=i
 unfold Zj_J4 at i
 refine bK 0 aA (fun (hn:bb=b.length)=>?_)
 subst hn
 refine bK 4 aA (fun (hn:bc=g1.Nodes.length)=>?_)
 subst hn
 refine aD (lO (jt R R) (lI R (aC ?_)))
 obtain rfl:=so i
 exact qA ((b3,b.length,b5),(b4,g1.Nodes.length,b6)) (fun w s=>s)
 refine bG R ag (gA (dY ?_))
 obtain rfl:=so i
 obtain rfl:=bh _ R
 have i:=bi
 refine dY (eX ?_)
 exact qI ((j,q,u),()) i (fun w s=>(s.e 5 [3,1]))
 rintro ⟨⟨F,O,Y⟩,_⟩ σ1 i
 replace i:Zj_J5 F O Y=some r:=i
 unfold Zj_J5 at i
 refine aK ?_
 obtain ⟨b1,ar,i⟩:=bd i
 refine aD (lI R (lS R (lC 1 BL R (FnOk.lends (A':=[ow kT3 3 (.slice G (List.replicate (aH ((g1.Nodes.length:Int)+(1:Int))).toNat (0:Int)).length E) F]) (A:=[aN kT3 (.slice G (List.replicate (aH ((g1.Nodes.length:Int)+(1:Int))).toNat (0:Int)).length E) F]) (B:=[]) (Z16_ok ar) ⟨aZ,trivial⟩ (fun _=>trivial)) R ?_)))
 rintro _
 refine lN (ow kT3 3 (.slice G (List.replicate (aH ((g1.Nodes.length:Int)+(1:Int))).toNat (0:Int)).length E) F::_::J) ?_
 refine lO (jt R R) (lI R (lI R (lI R (aC (aG (bY ?_))))))
 obtain rfl:=so i
 exact dC (vs:=[(iv (aH (O+b1))),(iv Y)]) (.inl R) () R ⟨R,R,trivial⟩ R (fun w s=>(s.e 7 [1]))
theorem Z2k_ok  {g1:Graph}{a:(List Int)}{mG:Int}{r:Int×Int}(i:Z2k g1 a=some r) :
 FnOk Tryz.prog 10 [(.agg [(.slice A2 N2 D2),(.slice A3 N3 D3)].toArray),(.slice A5 N5 D5)] [aN cP (.slice A2 N2 D2) g1.Nodes,aN kT3 (.slice A3 N3 D3) g1.Outs,aN kT3 (.slice A5 N5 D5) a,gl 0 mG] (fun (h:Unit)=>((.tuple [(iv r.1),(iv r.2)].toArray),[])):=by
 unfold Z2k at i
 refine aP Tryz.func10 R 24 R R fun C V=>?_
 refine cN (_::_::_::_::V) ?_
 refine cL 0 aA ?_
 rintro rfl
 refine cL 1 aA ?_
 rintro rfl
 refine cL 2 aA ?_
 rintro rfl
 let L:List HP:=RR cP A2 D2 g1.Nodes::RR kT3 A3 D3 g1.Outs::RR kT3 A5 D5 a::gl 0 mG::V
 refine cN L ?_
 refine aK (aD (eJ R (fun M=>(lI R (lI R (aC ?_))))))
 let l:List HP:=aJ M [(sc A2 g1.Nodes D2),(sc A3 g1.Outs D3)] 31::L
 refine qN l ?_
 refine aG (aK (aK ?_))
 obtain ⟨U,J,i⟩:=bd i
 refine aD (lO (vz (.agg [(sc A2 g1.Nodes D2),(sc A3 g1.Outs D3)].toArray) (cO 0 n8 lT R R R R)) (lS R (lM (RR cP A2 D2 g1.Nodes::RR kT3 A3 D3 g1.Outs::RR kT3 A5 D5 a::gl 0 mG::l) (fun w s=>(((((s.d 1 R).d 3 R).d 5 R).dg 7 R).e 4 [3,2,1,0])) ?_)))
 refine lC 4 BK R (Z14_ok J) R ?_
 rintro _
 refine lN l ?_
 refine lO (pn R) (aC (aG ?_))
 rcases cH i with ⟨u,i⟩|⟨u,i⟩
 refine bV R u (aK (aD (lI R (lI R (aC (aG (bY (cG ?_))))))))
 obtain rfl:=so i
 exact dC (vs:=[(iv 0),(iv 0)]) (.inl R) () R ⟨R,R,trivial⟩ R (fun w s=>(s.e 5 []))
 refine bG R u (cF (aG (aK ?_)))
 obtain ⟨q,E,i⟩:=bd i
 refine aD (lO (vz (.agg [(sc A2 g1.Nodes D2),(sc A3 g1.Outs D3)].toArray) (cO 0 n8 lT R R R R)) (lM (RR cP A2 D2 g1.Nodes::RR kT3 A3 D3 g1.Outs::gl 0 mG::l) (fun w s=>((((s.d 1 R).d 3 R).dg 6 R).e 3 [2,1,0])) ?_))
 refine lC 3 Ad R (Zk_ok E) R ?_
 rintro ⟨A12,N12,D12⟩
 refine lN (ow (bH).share 23 (.slice A12 N12 D12) q.1::l) ?_
 refine aM 0 eG ?_
 rintro rfl
 refine lO (vT R) (lS R (lB R (lS R (lB R (aC (aG (aK ?_)))))))
 obtain ⟨j,F,i⟩:=bd i
 obtain ⟨I,G,i⟩:=bd i
 refine dF 9 [] bO (fun T O=>(dR 0 R (vz (.agg [(sc A2 g1.Nodes D2),(sc A3 g1.Outs D3)].toArray) (cO 1 n8 lT R R R R)) (dR 1 R (vS R) (dR 2 R (vS R) (d1 3 R (lM (RR kT3 A5 D5 a::_::l) (fun w s=>(s.d 4 R)) ?_))))))
 refine lC 1 Ah R (Z22_ok F) R ?_
 rintro ⟨⟨b,D,g⟩,m⟩
 refine lN (aN kT3 (.slice b D g) j::aJ m [(.slice b D g)] 23::_::l) ?_
 refine aM 0 aA ?_
 rintro rfl
 refine aC (aI (sL [1,0]) (d1 4 R (lM (ow _ _ _ _::RR cP A2 D2 g1.Nodes::RR kT3 A3 D3 g1.Outs::aN _ _ _::aJ m [(sc b j g)] 23::aN _ _ _::l) (fun w s=>((((s.d 4 R).d 6 R).d 2 R).e 6 [5,2,1,0,4,3])) ?_)))
 refine lC 5 BM R (FnOk.lends (A':=[OO (bH).share 23 A12 D12 q.1]) (A:=[RR bH A12 D12 q.1]) (B:=[RR cP A2 D2 g1.Nodes,RR kT3 A3 D3 g1.Outs,RR kT3 b g j,aJ m [(sc b j g)] 23]) (FnOk.perm (Zj_ok G) (Pre':=[RR bH A12 D12 q.1,RR cP A2 D2 g1.Nodes,RR kT3 A3 D3 g1.Outs,RR kT3 b g j,aJ m [(sc b j g)] 23]) (fun _ _ _ s=>(s.e 5 [1,2,0,3,4]))) ⟨m7,trivial⟩ (fun _=>⟨ri,trivial⟩)) R ?_
 rintro _
 refine lN (_::_::_::l) ?_
 refine aC (aI (sL [2,1]) (dR 5 R (vI R) (hS:=(sL [2,1])) (dR 6 R (vI R) (hS:=(sL [2,1])) (dR 7 R (vI R) (hS:=(sL [2,1])) (dR 8 R (vI R) (hS:=(sL [2,1])) (dD (aG (bY ?_))))))))
 obtain rfl:=so i
 exact dC (vs:=[(iv I.1),(iv I.2)]) (.inl R) () R ⟨R,R,trivial⟩ R (fun w s=>(s.e 8 []))
end Go.Proofs.YthelanpdjajnbaaGreat
