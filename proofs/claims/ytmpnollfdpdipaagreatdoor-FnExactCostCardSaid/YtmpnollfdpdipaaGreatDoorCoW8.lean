import Derived.Test.YtmpnollfdpdipaaGreatDoorCoF
import Derived.Test.YtmpnollfdpdipaaGreatDoorCoW6
import Derived.Test.YtmpnollfdpdipaaGreatDoorCoW7
set_option linter.unusedVariables false
set_option maxRecDepth 20000
namespace Go.Proofs.YtmpnollfdpdipaaGreatDoor
open Go Go.Pg
variable {A2 A3 A4 A5 A6 A7 A9 A10 A11 A12 A14:Option Addr}{D2 D3 D4 D5 D6 D7 D9 D10 D11 D12 D14 N2 N3 N4 N5 N6 N7 N9 N10 N11 N12 N14:Nat}
theorem Z1m_ok  {k1:shiftKind}{F:Int}{G:Int}{b:Node}{a:(List (List Int))}{j:Nat}{l:Nat}{m:Nat}{r:(List Int)×Bool}(i:Z1m k1 F G b a=some r) :
 FnOk Tryz.prog 321 [(.agg [(aD k1.use),(.func (.func 276) [].toArray [(pt j 0),(pt l 0),(pt m 0)].toArray)].toArray),(.agg [(iv b.Op),(.slice A9 N9 D9),(.slice A10 N10 D10),(.slice A11 N11 D11),(aD b.Form),(.slice A12 N12 D12)].toArray),(.slice A14 N14 D14)] [aJ j [(iv F)] 3,aJ l [(iv G)] 3,aJ m [(.func (.func 245) [].toArray [].toArray)] 273,aO kT3 (.slice A9 N9 D9) b.Args,aO kT3 (.slice A10 N10 D10) b.Dims,aO kT3 (.slice A11 N11 D11) b.Ints,aO kT3 (.slice A12 N12 D12) b.Data,aO bG (.slice A14 N14 D14) a] (fun (h:HH)=>((.tuple [(s3 h),(.bool r.2)].toArray),[ow kT3 3 (s3 h) r.1,aJ j [(iv F)] 3,aJ l [(iv G)] 3,aJ m [(.func (.func 245) [].toArray [].toArray)] 273])):=by
 unfold Z1m at i
 refine aR Tryz.func321 R 27 R R fun C V=>?_
 refine cL 3 aA ?_
 rintro rfl
 refine cL 4 aA ?_
 rintro rfl
 refine cL 5 aA ?_
 rintro rfl
 refine cL 6 aA ?_
 rintro rfl
 refine cL 7 aA ?_
 rintro rfl
 let Y:=RR kT3 A9 D9 b.Args::RR kT3 A10 D10 b.Dims::RR kT3 A11 D11 b.Ints::RR kT3 A12 D12 b.Data::RR bG A14 D14 a::V
 refine aU ?_
 refine eE R fun D=>?_
 refine eE R fun E=>?_
 refine aP ?_
 refine qM _ (fun w s=>(s.f 5 [2,3,0,2])) ?_
 let W1:=aJ E [(iv b.Op),(sc A9 b.Args D9),(sc A10 b.Dims D10),(sc A11 b.Ints D11),(aD b.Form),(sc A12 b.Data D12)] 171::aJ D [(aD k1.use),(.func (.func 276) [].toArray [(pt j 0),(pt l 0),(pt m 0)].toArray)] 271::Y
 refine cY ?_
 split at i
 refine cY ?_
 cases i
 exact jI (none,0,0) (fun w s=>((s.nilo kT3 3).f 11 [0,4]))
 refine bH ?_
 obtain ⟨g,i⟩:=gd i
 obtain ⟨I,q,i⟩:=bd i
 refine aZ 9 aA (show 0<a.length by have:=g; omega) (fun Z o20 ha=>?_)
 subst ha
 refine dI (K:=bG) 9 (0:Int) dT36.dec R g.1 g.2 ?_
 rintro ⟨J,M⟩
 refine dF 14 [] bO fun ht hn=>?_
 refine kq 0 [] ?_
 refine dR 5 R (eD (fo:=0) 0 cK R R R) (d1 6 R (lM _ (fun w s=>((((((s.d 7 R).d 9 R).d 11 R).d 13 R).d 5 R).e 10 [4,3,2,1,0,7,8,9,5,6])) ?_))
 refine cC (fs:=[]) (cs:=[(pt j 0),(pt l 0),(pt m 0)]) 8 R R qb R R (Z2j_ok q) R ?_
 rintro ⟨⟨u,T,B⟩,⟨L,U,O⟩⟩
 refine aL 0 aB ?_
 rintro rfl
 refine aL 1 aB ?_
 rintro rfl
 refine aC (aG (fun w s=>(s.f 7 [5,2,2,3])) (dR 7 R (vT R) (hS:=(fun w s=>(s.f 7 [5,2,2,3]))) (dR 8 R (vS R) (hS:=(fun w s=>(s.f 7 [5,2,2,3]))) (dR 9 R (vS R) (hS:=(fun w s=>(s.f 7 [5,2,2,3]))) (dR 10 R (vB R) (hS:=(fun w s=>(s.f 7 [5,2,2,3]))) (dR 11 R (vS R) (hS:=(fun w s=>(s.f 7 [5,2,2,3]))) (dR 12 R (vS R) (hS:=(fun w s=>(s.f 7 [5,2,2,3]))) (dR 13 R (vB R) (hS:=(fun w s=>(s.f 7 [5,2,2,3]))) (dD ?_)))))))))
 refine cU ?_
 cases i
 exact jI (u,I.1.length,B) (tE 14 [0,2,3,4])
theorem Z0d_ok  {g:(List Int)}{l:Int}{b:(List Int)}{r:(List Int)×(List pair)×Bool}(m:Z0d g l b=some r) :
 FnOk Tryz.prog 247 [(.slice A2 N2 D2),(iv l),(.slice A5 N5 D5)] [aO kT3 (.slice A2 N2 D2) g,aO kT3 (.slice A5 N5 D5) b] (fun (h:HH×HH)=>((.tuple [(s3 h.1),(s3 h.2),(.bool r.2.2)].toArray),[ow kT3 3 (s3 h.1) r.1,ow kT197 197 (s3 h.2) r.2.1])):=by
 unfold Z0d at m
 refine aR Tryz.func247 R 67 R R fun C V=>?_
 refine cL 0 aA ?_
 rintro rfl
 refine cL 1 aA ?_
 rintro rfl
 let U:=RR kT3 A2 D2 g::RR kT3 A5 D5 b::V
 refine cN U ?_
 refine cY ?_
 obtain ⟨r6,al,m⟩:=bd m
 refine cQ [(0,(sc A2 g D2)),(1,(iv l)),(2,(sc A5 b D5)),(26,(.bool (((!r6)||((b.length:Int)==0))||(decide ((b.length:Int)>4096)))))] (U) ?_ ?_
 refine aP ?_
 refine lM _ (fun w s=>(s.d 0 R)) ?_
 refine lC 1 jL R (Zm_ok al) R ?_
 rintro _
 refine lN U ?_
 refine aU ?_
 rcases bo (!r6) with ai | ai
 refine cU ?_
 exact qj tI
 refine b' ?_
 rcases bo ((!r6)||((b.length:Int)==0)) with aj | aj
 refine b' ?_
 exact qj tI
 refine b' ?_
 exact qj tI
 rintro σ1
 refine bT ?_
 split at m
 refine cU ?_
 cases m
 exact iu ((none,0,0),(none,0,0)) (fun w s=>(((s.nilo kT3 3).nilo kT197 197).e 4 [1,0]))
 refine b' ?_
 refine bL (K:=kT197) (xs:=([]:List pair)) (vs:=[]) 0 R R fC fD eL R R R R R R ?_ R (fun A11 D11=>?_)
 exact fun I h s=>(ja).list [] I h s
 refine bH ?_
 refine bC (A:=((List pair))×(HH×HH)) (fun a=>Z0d_J1 g l b a.1=some r) (fun a=>[(0,(sc A2 g D2)),(1,(iv l)),(2,(s3 a.2.1)),(9,(s3 a.2.2))]) (fun a=>aO kT3 (s3 a.2.1) b::ow kT197 197 (s3 a.2.2) a.1::U) ?_ ?_
 refine dA ?_
 obtain ⟨e1,ak,a5⟩:=bd m
 refine bF (A:=HH×HH) ak (fun s a=>[(0,(sc A2 g D2)),(1,(iv l)),(2,(s3 a.1)),(9,(s3 a.2)),(28,(s3 a.1)),(29,(il b)),(30,(iv s.2))]) (fun s a=>aO kT3 (s3 a.1) b::ow kT197 197 (s3 a.2) s.1::U) ((A5,b.length,D5),(A11,([]:List pair).length,D11)) (aS R) (fun w s=>(s.d 2 R)) ?_
 rintro ⟨i,j⟩ ⟨⟨a9,ac,D⟩,⟨G,ae,M⟩⟩ σ1 an m a2
 dsimp only [Z0d_L1] at m
 refine bI 0 aA (fun (Y:ac=b.length)=>?_)
 subst Y
 refine bI 1 aB (fun (Y:ae=i.length)=>?_)
 subst Y
 refine bV ?_
 split at m
 refine bV ?_
 obtain ⟨a3,m⟩:=gd m
 refine aU ?_
 refine bA 0 aA (show 0<b.length by have:=a3; omega) (fun F o31 ha=>?_)
 subst ha
 refine dA ?_
 obtain ⟨E,m⟩:=gd m
 refine cQ [(0,(sc A2 g D2)),(1,(iv l)),(2,(sc (ad F o31) b D)),(9,(sc G i M)),(10,(iv j)),(11,(iv (ix b j))),(28,(sc (ad F o31) b D)),(29,(il b)),(30,(iv j)),(44,(.bool ((decide ((ix b j)<0))||(decide ((ix b j)≥(ix g l))))))] (RR kT3 (ad F o31) D b::OO kT197 197 G M i::U) ?_ ?_
 refine bH ?_
 rcases bo (decide ((ix b j)<0)) with u | u
 refine dA ?_
 exact qj tI
 refine aP ?_
 refine bA 2 aA (show 0<g.length by have:=(E u); omega) (fun aw o34 ha=>?_)
 subst ha
 refine lW (cA u) (eJ bM cE R R (E u)) (lW (cA u) (gU 2 fO aA R (E u)) ?_)
 refine aP ?_
 exact qj tI
 rintro σ1
 refine bT ?_
 split at m
 refine iE ?_
 cases m
 obtain rfl:=a2 _ R
 have m:=a5
 refine aP ?_
 cases m
 exact iu ((none,0,0),(none,0,0)) (fun w s=>(((s.nilo kT3 3).nilo kT197 197).e 6 [1,0]))
 refine aP ?_
 obtain ⟨a4,m⟩:=gd m
 refine bH ?_
 refine lO (vz (.agg [(iv (ix b j)),(iv j)].toArray) (aV mB eL R R)) (bL (K:=kT197) (xs:=([(⟨(ix b j),j⟩:pair)]:List pair)) (vs:=[(.agg [(iv (ix b j)),(iv j)].toArray)]) 0 R R fC fD eL R R R R R R ?_ R (fun ao aq=>?_))
 exact fun I h s=>(ja).list [(((),()),(⟨(ix b j),j⟩:pair))] I h s
 refine lM _ (tE 3 [2,0,1]) ?_
 refine eC (K:=kT197) 8796093022208 R R fC fD lF (Zr.zk zT197 eL) R R R R R R dM a4 (fun a0 a1=>(lN (OO kT197 197 a0 a1 (i++([(⟨(ix b j),j⟩:pair)]:List pair))::_::U) ?_))
 refine dA ?_
 cases m
 exact qA (((ad F o31),b.length,D),(a0,(i++([(⟨(ix b j),j⟩:pair)]:List pair)).length,a1)) (tE 2 [1,0])
 refine aP ?_
 cases m
 obtain rfl:=a2 _ R
 have m:=a5
 refine aU ?_
 exact qI (i,((a9,b.length,D),(G,i.length,M))) m tI
 rintro ⟨q,⟨⟨ap,ag,ar⟩,⟨J,ah,O⟩⟩⟩ σ1 m
 dsimp only [Z0d_J1] at m
 refine bI 0 aA (fun (Y:ag=b.length)=>?_)
 subst Y
 refine bI 1 aB (fun (Y:ah=q.length)=>?_)
 subst Y
 refine bT ?_
 obtain ⟨Z,a6,m⟩:=bd m
 refine b' ?_
 refine lM _ (fun w s=>(s.d 2 R)) ?_
 refine lC 1 pZ R (Z1j_ok a6) R ?_
 rintro ⟨L,au,T⟩
 refine aL 0 aB ?_
 rintro rfl
 refine b' ?_
 obtain ⟨ax,a7,m⟩:=bd m
 refine aU ?_
 refine lC 1 lg R (FnOk.lends (A':=[OO kT3 3 L T Z]) (A:=[RR kT3 L T Z]) (B:=[]) (Zd_ok a7) ⟨aY,trivial⟩ (fun _=>trivial)) R ?_
 rintro _
 refine aP ?_
 split at m
 refine cU ?_
 cases m
 exact iu ((none,0,0),(none,0,0)) (fun w s=>(((s.nilo kT3 3).nilo kT197 197).e 7 [1,0]))
 refine bH ?_
 obtain ⟨am,a8,m⟩:=bd m
 refine dO ?_
 refine lM _ (fun w s=>((s.d 3 R).e 4 [3,0,1,2])) ?_
 refine lC 2 sv R (FnOk.lends (A':=[OO kT197 197 J O q]) (A:=[RR kT197 J O q]) (B:=[RR kT3 A2 D2 g]) (FnOk.perm (Z8_ok a8) (Pre':=[RR kT197 J O q,RR kT3 A2 D2 g]) (fun _ _ _ s=>(s.e 2 [1,0]))) ⟨aY,trivial⟩ (fun _=>⟨(bK s6),trivial⟩)) R ?_
 rintro ⟨aa,av,ab⟩
 refine aL 1 aB ?_
 rintro rfl
 refine bV ?_
 cases m
 exact iu ((L,Z.length,T),(aa,am.length,ab)) (tE 6 [2,1])
theorem Z1x_ok  {p1:(List Int)}{a:(List Int)}{r:(List Int)×(List pair)×Bool}(b:Z1x p1 a=some r) :
 FnOk Tryz.prog 246 [(.slice A2 N2 D2),(.slice A4 N4 D4)] [aO kT3 (.slice A2 N2 D2) p1,aO kT3 (.slice A4 N4 D4) a] (fun (h:HH×HH)=>((.tuple [(s3 h.1),(s3 h.2),(.bool r.2.2)].toArray),[ow kT3 3 (s3 h.1) r.1,ow kT197 197 (s3 h.2) r.2.1])):=by
 unfold Z1x at b
 refine aR Tryz.func246 R 17 R R fun C V=>?_
 refine cL 0 aA ?_
 rintro rfl
 refine cL 1 aA ?_
 rintro rfl
 let B:=RR kT3 A2 D2 p1::RR kT3 A4 D4 a::V
 refine cN B ?_
 refine dA ?_
 obtain ⟨q,b⟩:=gd b
 obtain ⟨g,b⟩:=gd b
 obtain ⟨j,i,b⟩:=bd b
 refine aZ 0 aA (show 0<p1.length by have:=q; omega) (fun E o7 D=>?_)
 subst D
 refine dF 13 [] bO fun G F=>?_
 refine kq 0 [] ?_
 refine d1 5 R (gC (K:=kT3) (1:Int) (p1.length:Int) 0 R R bM cE R R R R g.1 g.2.1 g.2.2 (fun A9 D9=>(aC (aG (sL [0]) (d1 6 R (lM _ (fun w s=>(((s.d 2 R).d 1 R).e 3 [1,0,2])) ?_))))))
 refine lC 2 zO R (Z0d_ok i) R ?_
 rintro ⟨⟨A12,N12,D12⟩,⟨l,u,m⟩⟩
 refine aL 0 aB ?_
 rintro rfl
 refine aL 1 aB ?_
 rintro rfl
 refine aC (aG (sL [2,1,0]) ?_)
 refine rZ 7 [2,1,0] ?_
 refine dD ?_
 refine aU ?_
 cases b
 exact iu ((A12,j.1.length,D12),(l,j.2.1.length,m)) (tE 5 [0,1])
theorem Z2k_ok  {a:Node}{b:(List Int)}{m:Int}{i:Int}{E:Nat}{j:Nat}{g:Nat}{r:(List Int)×(List pair)×Bool}(l:Z2k a b m i=some r) :
 FnOk Tryz.prog 276 [(.agg [(iv a.Op),(.slice A2 N2 D2),(.slice A3 N3 D3),(.slice A4 N4 D4),(aD a.Form),(.slice A5 N5 D5)].toArray),(.slice A7 N7 D7),(pt E 0),(pt j 0),(pt g 0)] [aO kT3 (.slice A2 N2 D2) a.Args,aO kT3 (.slice A3 N3 D3) a.Dims,aO kT3 (.slice A4 N4 D4) a.Ints,aO kT3 (.slice A5 N5 D5) a.Data,aO kT3 (.slice A7 N7 D7) b,aJ E [(iv m)] 3,aJ j [(iv i)] 3,aJ g [(.func (.func 246) [].toArray [].toArray)] 273] (fun (h:HH×HH)=>((.tuple [(s3 h.1),(s3 h.2),(.bool r.2.2)].toArray),[ow kT3 3 (s3 h.1) r.1,ow kT197 197 (s3 h.2) r.2.1,aJ E [(iv m)] 3,aJ j [(iv i)] 3,aJ g [(.func (.func 246) [].toArray [].toArray)] 273])):=by
 unfold Z2k at l
 refine aR Tryz.func276 R 30 R R fun C V=>?_
 refine cM _ (fun w s=>(s.f 8 [5,3,0,5])) ?_
 refine cL 3 aA ?_
 rintro rfl
 refine cL 4 aA ?_
 rintro rfl
 refine cL 5 aA ?_
 rintro rfl
 refine cL 6 aA ?_
 rintro rfl
 refine cL 7 aA ?_
 rintro rfl
 let T:=RR kT3 A2 D2 a.Args::RR kT3 A3 D3 a.Dims::RR kT3 A4 D4 a.Ints::RR kT3 A5 D5 a.Data::RR kT3 A7 D7 b::V
 refine aU ?_
 refine eE R fun q=>?_
 refine bH ?_
 let L:=aJ q [(iv a.Op),(sc A2 a.Args D2),(sc A3 a.Dims D3),(sc A4 a.Ints D4),(aD a.Form),(sc A5 a.Data D5)] 171::aJ E [(iv m)] 3::aJ j [(iv i)] 3::aJ g [(.func (.func 246) [].toArray [].toArray)] 273::T
 refine qN L ?_
 refine aP ?_
 refine cQ [(1,(sc A7 b D7)),(4,(pt g 0)),(5,(pt q 0)),(21,(.bool ((decide ((a.Ints.length:Int)<m))||(decide ((a.Ints.length:Int)>i)))))] (L) ?_ ?_
 refine dO ?_
 rcases bo (decide ((a.Ints.length:Int)<m)) with u | u
 refine dO ?_
 exact qj tI
 refine dO ?_
 exact qj tI
 rintro σ1
 refine bT ?_
 split at l
 refine cU ?_
 cases l
 exact iu ((none,0,0),(none,0,0)) (fun w s=>(((s.nilo kT3 3).nilo kT197 197).e 11 [1,0,3,4,5]))
 refine bH ?_
 obtain ⟨D,B,l⟩:=bd l
 refine b' ?_
 refine lM _ (fun w s=>(((s.d 6 R).d 9 R).e 2 [1,0])) ?_
 refine cC (fs:=[]) (cs:=[]) 2 R R zP R R (Z1x_ok B) R ?_
 rintro ⟨⟨F,M,I⟩,⟨G,O,J⟩⟩
 refine aL 0 aB ?_
 rintro rfl
 refine aL 1 aB ?_
 rintro rfl
 refine cY ?_
 cases l
 exact iu ((F,D.1.length,I),(G,D.2.1.length,J)) (fun w s=>(s.f 11 [0,2,3,3]))
theorem Z1n_ok  {k1:shiftKind}{F:Int}{G:Int}{b:Node}{a:(List (List Int))}{j:Nat}{l:Nat}{m:Nat}{r:(List Int)×Bool}(i:Z1n k1 F G b a=some r) :
 FnOk Tryz.prog 321 [(.agg [(aD k1.use),(.func (.func 276) [].toArray [(pt j 0),(pt l 0),(pt m 0)].toArray)].toArray),(.agg [(iv b.Op),(.slice A9 N9 D9),(.slice A10 N10 D10),(.slice A11 N11 D11),(aD b.Form),(.slice A12 N12 D12)].toArray),(.slice A14 N14 D14)] [aJ j [(iv F)] 3,aJ l [(iv G)] 3,aJ m [(.func (.func 246) [].toArray [].toArray)] 273,aO kT3 (.slice A9 N9 D9) b.Args,aO kT3 (.slice A10 N10 D10) b.Dims,aO kT3 (.slice A11 N11 D11) b.Ints,aO kT3 (.slice A12 N12 D12) b.Data,aO bG (.slice A14 N14 D14) a] (fun (h:HH)=>((.tuple [(s3 h),(.bool r.2)].toArray),[ow kT3 3 (s3 h) r.1,aJ j [(iv F)] 3,aJ l [(iv G)] 3,aJ m [(.func (.func 246) [].toArray [].toArray)] 273])):=by
 unfold Z1n at i
 refine aR Tryz.func321 R 27 R R fun C V=>?_
 refine cL 3 aA ?_
 rintro rfl
 refine cL 4 aA ?_
 rintro rfl
 refine cL 5 aA ?_
 rintro rfl
 refine cL 6 aA ?_
 rintro rfl
 refine cL 7 aA ?_
 rintro rfl
 let Y:=RR kT3 A9 D9 b.Args::RR kT3 A10 D10 b.Dims::RR kT3 A11 D11 b.Ints::RR kT3 A12 D12 b.Data::RR bG A14 D14 a::V
 refine aU ?_
 refine eE R fun D=>?_
 refine eE R fun E=>?_
 refine aP ?_
 refine qM _ (fun w s=>(s.f 5 [2,3,0,2])) ?_
 let W1:=aJ E [(iv b.Op),(sc A9 b.Args D9),(sc A10 b.Dims D10),(sc A11 b.Ints D11),(aD b.Form),(sc A12 b.Data D12)] 171::aJ D [(aD k1.use),(.func (.func 276) [].toArray [(pt j 0),(pt l 0),(pt m 0)].toArray)] 271::Y
 refine cY ?_
 split at i
 refine cY ?_
 cases i
 exact jI (none,0,0) (fun w s=>((s.nilo kT3 3).f 11 [0,4]))
 refine bH ?_
 obtain ⟨g,i⟩:=gd i
 obtain ⟨I,q,i⟩:=bd i
 refine aZ 9 aA (show 0<a.length by have:=g; omega) (fun Z o20 ha=>?_)
 subst ha
 refine dI (K:=bG) 9 (0:Int) dT36.dec R g.1 g.2 ?_
 rintro ⟨J,M⟩
 refine dF 14 [] bO fun ht hn=>?_
 refine kq 0 [] ?_
 refine dR 5 R (eD (fo:=0) 0 cK R R R) (d1 6 R (lM _ (fun w s=>((((((s.d 7 R).d 9 R).d 11 R).d 13 R).d 5 R).e 10 [4,3,2,1,0,7,8,9,5,6])) ?_))
 refine cC (fs:=[]) (cs:=[(pt j 0),(pt l 0),(pt m 0)]) 8 R R qb R R (Z2k_ok q) R ?_
 rintro ⟨⟨u,T,B⟩,⟨L,U,O⟩⟩
 refine aL 0 aB ?_
 rintro rfl
 refine aL 1 aB ?_
 rintro rfl
 refine aC (aG (fun w s=>(s.f 7 [5,2,2,3])) (dR 7 R (vT R) (hS:=(fun w s=>(s.f 7 [5,2,2,3]))) (dR 8 R (vS R) (hS:=(fun w s=>(s.f 7 [5,2,2,3]))) (dR 9 R (vS R) (hS:=(fun w s=>(s.f 7 [5,2,2,3]))) (dR 10 R (vB R) (hS:=(fun w s=>(s.f 7 [5,2,2,3]))) (dR 11 R (vS R) (hS:=(fun w s=>(s.f 7 [5,2,2,3]))) (dR 12 R (vS R) (hS:=(fun w s=>(s.f 7 [5,2,2,3]))) (dR 13 R (vB R) (hS:=(fun w s=>(s.f 7 [5,2,2,3]))) (dD ?_)))))))))
 refine cU ?_
 cases i
 exact jI (u,I.1.length,B) (tE 14 [0,2,3,4])
theorem Z0e_ok  {g:(List Int)}{i:Int}{b:(List Int)}{D:Int}{r:(List Int)×(List pair)×Bool}(m:Z0e g i b D=some r) :
 FnOk Tryz.prog 249 [(.slice A2 N2 D2),(iv i),(.slice A5 N5 D5),(iv D)] [aO kT3 (.slice A2 N2 D2) g,aO kT3 (.slice A5 N5 D5) b] (fun (h:HH×HH)=>((.tuple [(s3 h.1),(s3 h.2),(.bool r.2.2)].toArray),[ow kT3 3 (s3 h.1) r.1,ow kT197 197 (s3 h.2) r.2.1])):=by
 unfold Z0e at m
 refine aR Tryz.func249 R 67 R R fun C V=>?_
 refine cL 0 aA ?_
 rintro rfl
 refine cL 1 aA ?_
 rintro rfl
 let T:=RR kT3 A2 D2 g::RR kT3 A5 D5 b::V
 refine cN T ?_
 refine cY ?_
 obtain ⟨r7,al,m⟩:=bd m
 obtain ⟨Y,m⟩:=gd m
 refine cQ [(0,(sc A2 g D2)),(1,(iv i)),(2,(sc A5 b D5)),(3,(iv D)),(31,(.bool (((!r7)||((b.length:Int) != (ix g i)))||(decide (D<1)))))] (T) ?_ ?_
 refine aP ?_
 refine lM _ (fun w s=>(s.d 0 R)) ?_
 refine lC 1 jL R (Zm_ok al) R ?_
 rintro _
 refine lN T ?_
 refine aU ?_
 rcases bo (!r7) with u | u
 refine lK ?_
 exact qj tI
 refine bH ?_
 refine bA 0 aA (show 0<g.length by have:=(Y u); omega) (fun av o11 ha=>?_)
 subst ha
 refine lW (cA u) (eJ bM cE R R (Y u)) (lW (cA u) (gU 0 fO aA R (Y u)) ?_)
 refine aP ?_
 rcases bo ((!r7)||((b.length:Int) != (ix g i))) with a2 | a2
 refine bH ?_
 exact qj tI
 refine bH ?_
 exact qj tI
 rintro σ1
 refine bT ?_
 split at m
 refine cU ?_
 cases m
 exact iu ((none,0,0),(none,0,0)) (fun w s=>(((s.nilo kT3 3).nilo kT197 197).e 4 [1,0]))
 refine b' ?_
 refine bL (K:=kT197) (xs:=([]:List pair)) (vs:=[]) 0 R R fC fD eL R R R R R R ?_ R (fun ab ae=>?_)
 exact fun I h s=>(ja).list [] I h s
 refine bH ?_
 refine bC (A:=((List pair))×(HH)) (fun a=>Z0e_J1 g i D a.1=some r) (fun a=>[(0,(sc A2 g D2)),(1,(iv i)),(3,(iv D)),(11,(s3 a.2))]) (fun a=>ow kT197 197 (s3 a.2) a.1::T) ?_ ?_
 refine dA ?_
 obtain ⟨e1,ak,a7⟩:=bd m
 refine bF (A:=HH×HH) ak (fun s a=>[(0,(sc A2 g D2)),(1,(iv i)),(3,(iv D)),(11,(s3 a.1)),(33,(s3 a.2)),(34,(il b)),(35,(iv s.2))]) (fun s a=>ow kT197 197 (s3 a.1) s.1::aO kT3 (s3 a.2) b::T) ((ab,([]:List pair).length,ae),(A5,b.length,D5)) (aS R) (fun w s=>((s.d 2 R).e 2 [1,0])) ?_
 rintro ⟨j,l⟩ ⟨⟨E,ah,J⟩,⟨ao,ai,L⟩⟩ σ1 an m a4
 dsimp only [Z0e_L1] at m
 refine bI 0 aB (fun (hn:ah=j.length)=>?_)
 subst hn
 refine bI 1 aA (fun (hn:ai=b.length)=>?_)
 subst hn
 refine bV ?_
 split at m
 refine bV ?_
 obtain ⟨a5,m⟩:=gd m
 refine aU ?_
 refine bA 1 aA (show 0<b.length by have:=a5; omega) (fun U o32 ha=>?_)
 subst ha
 refine dA ?_
 refine cQ [(0,(sc A2 g D2)),(1,(iv i)),(3,(iv D)),(11,(sc E j J)),(12,(iv l)),(13,(iv (ix b l))),(33,(sc (ad U o32) b L)),(34,(il b)),(35,(iv l)),(46,(.bool ((decide ((ix b l)<0))||(decide ((ix b l)≥D)))))] (OO kT197 197 E J j::RR kT3 (ad U o32) L b::T) ?_ ?_
 refine bH ?_
 rcases bo (decide ((ix b l)<0)) with a3 | a3
 refine b' ?_
 exact qj tI
 refine b' ?_
 exact qj tI
 rintro σ1
 refine bT ?_
 split at m
 refine iE ?_
 cases m
 obtain rfl:=a4 _ R
 have m:=a7
 refine aP ?_
 cases m
 exact iu ((none,0,0),(none,0,0)) (fun w s=>(((s.nilo kT3 3).nilo kT197 197).e 6 [1,0]))
 refine aP ?_
 obtain ⟨a6,m⟩:=gd m
 refine bH ?_
 refine lO (vz (.agg [(iv l),(iv (ix b l))].toArray) (aV mB eL R R)) (bL (K:=kT197) (xs:=([(⟨l,(ix b l)⟩:pair)]:List pair)) (vs:=[(.agg [(iv l),(iv (ix b l))].toArray)]) 0 R R fC fD eL R R R R R R ?_ R (fun ap aq=>?_))
 exact fun I h s=>(ja).list [(((),()),(⟨l,(ix b l)⟩:pair))] I h s
 refine lM _ (tE 3 [1,0,2]) ?_
 refine eC (K:=kT197) 8796093022208 R R fC fD lF (Zr.zk zT197 eL) R R R R R R dM a6 (fun a0 a1=>(lN (OO kT197 197 a0 a1 (j++([(⟨l,(ix b l)⟩:pair)]:List pair))::_::T) ?_))
 refine dA ?_
 cases m
 exact qA ((a0,(j++([(⟨l,(ix b l)⟩:pair)]:List pair)).length,a1),((ad U o32),b.length,L)) tI
 refine aP ?_
 cases m
 obtain rfl:=a4 _ R
 have m:=a7
 refine aU ?_
 exact qI (j,(E,j.length,J)) m (tE 2 [0])
 rintro ⟨q,⟨F,aj,M⟩⟩ σ1 m
 dsimp only [Z0e_J1] at m
 refine bI 0 aB (fun (hn:aj=q.length)=>?_)
 subst hn
 refine bT ?_
 obtain ⟨Z,a8,m⟩:=bd m
 refine bH ?_
 refine lM _ (fun w s=>(s.d 1 R)) ?_
 refine lC 1 pZ R (Z1j_ok a8) R ?_
 rintro ⟨G,ar,O⟩
 refine aL 0 aB ?_
 rintro rfl
 refine b' ?_
 obtain ⟨aw,a9,m⟩:=bd m
 refine aU ?_
 refine lC 1 lg R (FnOk.lends (A':=[OO kT3 3 G O Z]) (A:=[RR kT3 G O Z]) (B:=[]) (Zd_ok a9) ⟨aY,trivial⟩ (fun _=>trivial)) R ?_
 rintro _
 refine aP ?_
 split at m
 refine cU ?_
 cases m
 exact iu ((none,0,0),(none,0,0)) (fun w s=>(((s.nilo kT3 3).nilo kT197 197).e 6 [1,0]))
 refine bH ?_
 obtain ⟨am,aa,m⟩:=bd m
 refine bV ?_
 refine lM _ (fun w s=>((s.d 2 R).e 3 [2,0,1])) ?_
 refine lC 2 sv R (FnOk.lends (A':=[OO kT197 197 F M q]) (A:=[RR kT197 F M q]) (B:=[RR kT3 A2 D2 g]) (FnOk.perm (Z8_ok aa) (Pre':=[RR kT197 F M q,RR kT3 A2 D2 g]) (fun _ _ _ s=>(s.e 2 [1,0]))) ⟨aY,trivial⟩ (fun _=>⟨(bK s6),trivial⟩)) R ?_
 rintro ⟨ac,au,ag⟩
 refine aL 1 aB ?_
 rintro rfl
 refine bV ?_
 cases m
 exact iu ((G,Z.length,O),(ac,am.length,ag)) (tE 5 [2,1])
theorem Z1y_ok  {p1:(List Int)}{a:(List Int)}{r:(List Int)×(List pair)×Bool}(b:Z1y p1 a=some r) :
 FnOk Tryz.prog 248 [(.slice A2 N2 D2),(.slice A4 N4 D4)] [aO kT3 (.slice A2 N2 D2) p1,aO kT3 (.slice A4 N4 D4) a] (fun (h:HH×HH)=>((.tuple [(s3 h.1),(s3 h.2),(.bool r.2.2)].toArray),[ow kT3 3 (s3 h.1) r.1,ow kT197 197 (s3 h.2) r.2.1])):=by
 unfold Z1y at b
 refine aR Tryz.func248 R 20 R R fun C V=>?_
 refine cL 0 aA ?_
 rintro rfl
 refine cL 1 aA ?_
 rintro rfl
 let B:=RR kT3 A2 D2 p1::RR kT3 A4 D4 a::V
 refine cN B ?_
 refine dA ?_
 obtain ⟨q,b⟩:=gd b
 obtain ⟨g,b⟩:=gd b
 obtain ⟨_,b⟩:=gd b
 obtain ⟨j,i,b⟩:=bd b
 refine aZ 0 aA (show 0<p1.length by have:=q; omega) (fun E o7 D=>?_)
 subst D
 refine dF 16 [] bO fun G F=>?_
 refine kq 0 [] ?_
 refine iw 6 [] ?_
 refine d1 5 R (gC (K:=kT3) (2:Int) (p1.length:Int) 0 R R bM cE R R R R g.1 g.2.1 g.2.2 (fun A9 D9=>(aC (aG (sL [0]) (d1 9 R (lM _ (fun w s=>(((s.d 2 R).d 1 R).e 3 [1,0,2])) ?_))))))
 refine lC 2 zQ R (Z0e_ok i) R ?_
 rintro ⟨⟨l,u,m⟩,⟨A14,N14,D14⟩⟩
 refine aL 0 aB ?_
 rintro rfl
 refine aL 1 aB ?_
 rintro rfl
 refine aC (aG (sL [2,1,0]) ?_)
 refine rZ 10 [2,1,0] ?_
 refine dD ?_
 refine aU ?_
 cases b
 exact iu ((l,j.1.length,m),(A14,j.2.1.length,D14)) (tE 5 [0,1])
theorem Z2l_ok  {a:Node}{b:(List Int)}{m:Int}{i:Int}{E:Nat}{j:Nat}{g:Nat}{r:(List Int)×(List pair)×Bool}(l:Z2l a b m i=some r) :
 FnOk Tryz.prog 276 [(.agg [(iv a.Op),(.slice A2 N2 D2),(.slice A3 N3 D3),(.slice A4 N4 D4),(aD a.Form),(.slice A5 N5 D5)].toArray),(.slice A7 N7 D7),(pt E 0),(pt j 0),(pt g 0)] [aO kT3 (.slice A2 N2 D2) a.Args,aO kT3 (.slice A3 N3 D3) a.Dims,aO kT3 (.slice A4 N4 D4) a.Ints,aO kT3 (.slice A5 N5 D5) a.Data,aO kT3 (.slice A7 N7 D7) b,aJ E [(iv m)] 3,aJ j [(iv i)] 3,aJ g [(.func (.func 248) [].toArray [].toArray)] 273] (fun (h:HH×HH)=>((.tuple [(s3 h.1),(s3 h.2),(.bool r.2.2)].toArray),[ow kT3 3 (s3 h.1) r.1,ow kT197 197 (s3 h.2) r.2.1,aJ E [(iv m)] 3,aJ j [(iv i)] 3,aJ g [(.func (.func 248) [].toArray [].toArray)] 273])):=by
 unfold Z2l at l
 refine aR Tryz.func276 R 30 R R fun C V=>?_
 refine cM _ (fun w s=>(s.f 8 [5,3,0,5])) ?_
 refine cL 3 aA ?_
 rintro rfl
 refine cL 4 aA ?_
 rintro rfl
 refine cL 5 aA ?_
 rintro rfl
 refine cL 6 aA ?_
 rintro rfl
 refine cL 7 aA ?_
 rintro rfl
 let T:=RR kT3 A2 D2 a.Args::RR kT3 A3 D3 a.Dims::RR kT3 A4 D4 a.Ints::RR kT3 A5 D5 a.Data::RR kT3 A7 D7 b::V
 refine aU ?_
 refine eE R fun q=>?_
 refine bH ?_
 let L:=aJ q [(iv a.Op),(sc A2 a.Args D2),(sc A3 a.Dims D3),(sc A4 a.Ints D4),(aD a.Form),(sc A5 a.Data D5)] 171::aJ E [(iv m)] 3::aJ j [(iv i)] 3::aJ g [(.func (.func 248) [].toArray [].toArray)] 273::T
 refine qN L ?_
 refine aP ?_
 refine cQ [(1,(sc A7 b D7)),(4,(pt g 0)),(5,(pt q 0)),(21,(.bool ((decide ((a.Ints.length:Int)<m))||(decide ((a.Ints.length:Int)>i)))))] (L) ?_ ?_
 refine dO ?_
 rcases bo (decide ((a.Ints.length:Int)<m)) with u | u
 refine dO ?_
 exact qj tI
 refine dO ?_
 exact qj tI
 rintro σ1
 refine bT ?_
 split at l
 refine cU ?_
 cases l
 exact iu ((none,0,0),(none,0,0)) (fun w s=>(((s.nilo kT3 3).nilo kT197 197).e 11 [1,0,3,4,5]))
 refine bH ?_
 obtain ⟨D,B,l⟩:=bd l
 refine b' ?_
 refine lM _ (fun w s=>(((s.d 6 R).d 9 R).e 2 [1,0])) ?_
 refine cC (fs:=[]) (cs:=[]) 2 R R zR R R (Z1y_ok B) R ?_
 rintro ⟨⟨F,M,I⟩,⟨G,O,J⟩⟩
 refine aL 0 aB ?_
 rintro rfl
 refine aL 1 aB ?_
 rintro rfl
 refine cY ?_
 cases l
 exact iu ((F,D.1.length,I),(G,D.2.1.length,J)) (fun w s=>(s.f 11 [0,2,3,3]))
theorem Z1o_ok  {k1:shiftKind}{F:Int}{G:Int}{b:Node}{a:(List (List Int))}{j:Nat}{l:Nat}{m:Nat}{r:(List Int)×Bool}(i:Z1o k1 F G b a=some r) :
 FnOk Tryz.prog 321 [(.agg [(aD k1.use),(.func (.func 276) [].toArray [(pt j 0),(pt l 0),(pt m 0)].toArray)].toArray),(.agg [(iv b.Op),(.slice A9 N9 D9),(.slice A10 N10 D10),(.slice A11 N11 D11),(aD b.Form),(.slice A12 N12 D12)].toArray),(.slice A14 N14 D14)] [aJ j [(iv F)] 3,aJ l [(iv G)] 3,aJ m [(.func (.func 248) [].toArray [].toArray)] 273,aO kT3 (.slice A9 N9 D9) b.Args,aO kT3 (.slice A10 N10 D10) b.Dims,aO kT3 (.slice A11 N11 D11) b.Ints,aO kT3 (.slice A12 N12 D12) b.Data,aO bG (.slice A14 N14 D14) a] (fun (h:HH)=>((.tuple [(s3 h),(.bool r.2)].toArray),[ow kT3 3 (s3 h) r.1,aJ j [(iv F)] 3,aJ l [(iv G)] 3,aJ m [(.func (.func 248) [].toArray [].toArray)] 273])):=by
 unfold Z1o at i
 refine aR Tryz.func321 R 27 R R fun C V=>?_
 refine cL 3 aA ?_
 rintro rfl
 refine cL 4 aA ?_
 rintro rfl
 refine cL 5 aA ?_
 rintro rfl
 refine cL 6 aA ?_
 rintro rfl
 refine cL 7 aA ?_
 rintro rfl
 let Y:=RR kT3 A9 D9 b.Args::RR kT3 A10 D10 b.Dims::RR kT3 A11 D11 b.Ints::RR kT3 A12 D12 b.Data::RR bG A14 D14 a::V
 refine aU ?_
 refine eE R fun D=>?_
 refine eE R fun E=>?_
 refine aP ?_
 refine qM _ (fun w s=>(s.f 5 [2,3,0,2])) ?_
 let W1:=aJ E [(iv b.Op),(sc A9 b.Args D9),(sc A10 b.Dims D10),(sc A11 b.Ints D11),(aD b.Form),(sc A12 b.Data D12)] 171::aJ D [(aD k1.use),(.func (.func 276) [].toArray [(pt j 0),(pt l 0),(pt m 0)].toArray)] 271::Y
 refine cY ?_
 split at i
 refine cY ?_
 cases i
 exact jI (none,0,0) (fun w s=>((s.nilo kT3 3).f 11 [0,4]))
 refine bH ?_
 obtain ⟨g,i⟩:=gd i
 obtain ⟨I,q,i⟩:=bd i
 refine aZ 9 aA (show 0<a.length by have:=g; omega) (fun Z o20 ha=>?_)
 subst ha
 refine dI (K:=bG) 9 (0:Int) dT36.dec R g.1 g.2 ?_
 rintro ⟨J,M⟩
 refine dF 14 [] bO fun ht hn=>?_
 refine kq 0 [] ?_
 refine dR 5 R (eD (fo:=0) 0 cK R R R) (d1 6 R (lM _ (fun w s=>((((((s.d 7 R).d 9 R).d 11 R).d 13 R).d 5 R).e 10 [4,3,2,1,0,7,8,9,5,6])) ?_))
 refine cC (fs:=[]) (cs:=[(pt j 0),(pt l 0),(pt m 0)]) 8 R R qb R R (Z2l_ok q) R ?_
 rintro ⟨⟨u,T,B⟩,⟨L,U,O⟩⟩
 refine aL 0 aB ?_
 rintro rfl
 refine aL 1 aB ?_
 rintro rfl
 refine aC (aG (fun w s=>(s.f 7 [5,2,2,3])) (dR 7 R (vT R) (hS:=(fun w s=>(s.f 7 [5,2,2,3]))) (dR 8 R (vS R) (hS:=(fun w s=>(s.f 7 [5,2,2,3]))) (dR 9 R (vS R) (hS:=(fun w s=>(s.f 7 [5,2,2,3]))) (dR 10 R (vB R) (hS:=(fun w s=>(s.f 7 [5,2,2,3]))) (dR 11 R (vS R) (hS:=(fun w s=>(s.f 7 [5,2,2,3]))) (dR 12 R (vS R) (hS:=(fun w s=>(s.f 7 [5,2,2,3]))) (dR 13 R (vB R) (hS:=(fun w s=>(s.f 7 [5,2,2,3]))) (dD ?_)))))))))
 refine cU ?_
 cases i
 exact jI (u,I.1.length,B) (tE 14 [0,2,3,4])
theorem Z5_ok  {b:(List Int)}{g:Int}{j:Int}{E:Int}{r:(List Int)×(List pair)×Bool}(l:Z5 b g j E=some r) :
 FnOk Tryz.prog 251 [(.slice A2 N2 D2),(iv g),(iv j),(iv E)] [aO kT3 (.slice A2 N2 D2) b] (fun (h:HH×HH)=>((.tuple [(s3 h.1),(s3 h.2),(.bool r.2.2)].toArray),[aO kT3 (s3 h.1) r.1,ow kT197 197 (s3 h.2) r.2.1])):=by
 unfold Z5 at l
 refine aR Tryz.func251 R 151 R R fun C V=>?_
 refine cL 0 aA ?_
 rintro rfl
 let W0:=RR kT3 A2 D2 b::V
 refine cN W0 ?_
 refine qD ?_
 obtain ⟨r6,a7,l⟩:=bd l
 obtain ⟨a8,l⟩:=gd l
 obtain ⟨al,l⟩:=gd l
 obtain ⟨am,l⟩:=gd l
 obtain ⟨b9,l⟩:=gd l
 refine cQ [(0,(sc A2 b D2)),(1,(iv g)),(2,(iv j)),(3,(iv E)),(11,(iv (aH ((b.length:Int) - 1)))),(68,(.bool (((((((!r6)||(g==(aH ((b.length:Int) - 1))))||(decide (j<1)))||(decide (E<1)))||(decide (E>4096)))||(decide ((ix b (aH ((b.length:Int) - 1)))>E)))||((ix b g) != (aH ((aH ((aH (E - (ix b (aH ((b.length:Int) - 1))))).tdiv j))+1))))))] (W0) ?_ ?_
 rcases bo (!r6) with G | G
 refine dF 45 [] bO fun ht hn=>?_
 refine gW 0 [] ?_
 refine d1 2 R (lM _ (fun w s=>(s.d 0 R)) ?_)
 refine lC 1 jL R (Zm_ok a7) R ?_
 rintro _
 refine lN W0 ?_
 refine aC (aG (sL []) ?_)
 refine kq 3 [] ?_
 refine dR 8 R (fB (g==(aH ((b.length:Int) - 1))) R G) ?_
 refine iw 9 [] ?_
 refine dR 12 R (fB (decide (j<1)) R (oT G)) ?_
 refine iw 13 [] ?_
 refine dR 16 R (fB (decide (E<1)) R (oT (oT G))) ?_
 refine iw 17 [] ?_
 refine dR 20 R (fB (decide (E>4096)) R (oT (oT (oT G)))) ?_
 refine rq 21 [] ?_
 refine dR 28 R (fB (decide ((ix b (aH ((b.length:Int) - 1)))>E)) R (oT (oT (oT (oT G))))) ?_
 refine nQ 29 [] ?_
 refine oZ 33 [] ?_
 refine dR 44 R (fB ((ix b g) != (aH ((aH ((aH (E - (ix b (aH ((b.length:Int) - 1))))).tdiv j))+1))) R (oT (oT (oT (oT (oT G)))))) (dD ?_)
 exact qj tI
 rcases bo ((!r6)||(g==(aH ((b.length:Int) - 1)))) with U | U
 refine dF 45 [] bO fun ht hn=>?_
 refine gW 0 [] ?_
 refine d1 2 R (lM _ (fun w s=>(s.d 0 R)) ?_)
 refine lC 1 jL R (Zm_ok a7) R ?_
 rintro _
 refine lN W0 ?_
 refine aC (aG (sL []) ?_)
 refine kq 3 [] ?_
 refine dR 8 R (fU R G R) ?_
 refine iw 9 [] ?_
 refine dR 12 R (fB (decide (j<1)) R U) ?_
 refine iw 13 [] ?_
 refine dR 16 R (fB (decide (E<1)) R (oT U)) ?_
 refine iw 17 [] ?_
 refine dR 20 R (fB (decide (E>4096)) R (oT (oT U))) ?_
 refine rq 21 [] ?_
 refine dR 28 R (fB (decide ((ix b (aH ((b.length:Int) - 1)))>E)) R (oT (oT (oT U)))) ?_
 refine ub 29 [] ?_
 refine rq 37 [] ?_
 refine dR 44 R (fB ((ix b g) != (aH ((aH ((aH (E - (ix b (aH ((b.length:Int) - 1))))).tdiv j))+1))) R (oT (oT (oT (oT U))))) (dD ?_)
 exact qj tI
 rcases bo (((!r6)||(g==(aH ((b.length:Int) - 1))))||(decide (j<1))) with a1 | a1
 refine dF 45 [] bO fun ht hn=>?_
 refine gW 0 [] ?_
 refine d1 2 R (lM _ (fun w s=>(s.d 0 R)) ?_)
 refine lC 1 jL R (Zm_ok a7) R ?_
 rintro _
 refine lN W0 ?_
 refine aC (aG (sL []) ?_)
 refine kq 3 [] ?_
 refine dR 8 R (fU R G R) ?_
 refine iw 9 [] ?_
 refine dR 12 R (fU R U R) ?_
 refine iw 13 [] ?_
 refine dR 16 R (fB (decide (E<1)) R a1) ?_
 refine iw 17 [] ?_
 refine dR 20 R (fB (decide (E>4096)) R (oT a1)) ?_
 refine rq 21 [] ?_
 refine dR 28 R (fB (decide ((ix b (aH ((b.length:Int) - 1)))>E)) R (oT (oT a1))) ?_
 refine oZ 29 [] ?_
 refine nQ 40 [] ?_
 refine dR 44 R (fB ((ix b g) != (aH ((aH ((aH (E - (ix b (aH ((b.length:Int) - 1))))).tdiv j))+1))) R (oT (oT (oT a1)))) (dD ?_)
 exact qj tI
 rcases bo ((((!r6)||(g==(aH ((b.length:Int) - 1))))||(decide (j<1)))||(decide (E<1))) with a2 | a2
 refine dF 45 [] bO fun ht hn=>?_
 refine gW 0 [] ?_
 refine d1 2 R (lM _ (fun w s=>(s.d 0 R)) ?_)
 refine lC 1 jL R (Zm_ok a7) R ?_
 rintro _
 refine lN W0 ?_
 refine aC (aG (sL []) ?_)
 refine kq 3 [] ?_
 refine dR 8 R (fU R G R) ?_
 refine iw 9 [] ?_
 refine dR 12 R (fU R U R) ?_
 refine iw 13 [] ?_
 refine dR 16 R (fU R a1 R) ?_
 refine iw 17 [] ?_
 refine dR 20 R (fB (decide (E>4096)) R a2) ?_
 refine rq 21 [] ?_
 refine dR 28 R (fB (decide ((ix b (aH ((b.length:Int) - 1)))>E)) R (oT a2)) ?_
 refine ue 29 [] ?_
 refine m6 43 [] ?_
 refine dR 44 R (fB ((ix b g) != (aH ((aH ((aH (E - (ix b (aH ((b.length:Int) - 1))))).tdiv j))+1))) R (oT (oT a2))) (dD ?_)
 exact qj tI
 rcases bo (((((!r6)||(g==(aH ((b.length:Int) - 1))))||(decide (j<1)))||(decide (E<1)))||(decide (E>4096))) with B | B
 refine dF 45 [] bO fun ht hn=>?_
 refine gW 0 [] ?_
 refine d1 2 R (lM _ (fun w s=>(s.d 0 R)) ?_)
 refine lC 1 jL R (Zm_ok a7) R ?_
 rintro _
 refine lN W0 ?_
 refine aC (aG (sL []) ?_)
 refine kq 3 [] ?_
 refine dR 8 R (fU R G R) ?_
 refine iw 9 [] ?_
 refine dR 12 R (fU R U R) ?_
 refine iw 13 [] ?_
 refine dR 16 R (fU R a1 R) ?_
 refine iw 17 [] ?_
 refine dR 20 R (fU R a2 R) ?_
 refine rq 21 [] ?_
 refine dR 28 R (fB (decide ((ix b (aH ((b.length:Int) - 1)))>E)) R B) ?_
 refine wz 29 [] ?_
 refine dR 44 R (fB ((ix b g) != (aH ((aH ((aH (E - (ix b (aH ((b.length:Int) - 1))))).tdiv j))+1))) R (oT B)) (dD ?_)
 exact qj tI
 rcases bo ((((((!r6)||(g==(aH ((b.length:Int) - 1))))||(decide (j<1)))||(decide (E<1)))||(decide (E>4096)))||(decide ((ix b (aH ((b.length:Int) - 1)))>E))) with J | J
 refine aZ 0 aA (show 0<b.length by have:=(a8 B); omega) (fun g9 o10 ha=>?_)
 subst ha
 refine dF 45 [] bO fun ht hn=>?_
 refine gW 0 [] ?_
 refine d1 2 R (lM _ (fun w s=>(s.d 0 R)) ?_)
 refine lC 1 jL R (Zm_ok a7) R ?_
 rintro _
 refine lN W0 ?_
 refine aC (aG (sL []) ?_)
 refine kq 3 [] ?_
 refine dR 8 R (fU R G R) ?_
 refine iw 9 [] ?_
 refine dR 12 R (fU R U R) ?_
 refine iw 13 [] ?_
 refine dR 16 R (fU R a1 R) ?_
 refine iw 17 [] ?_
 refine dR 20 R (fU R a2 R) ?_
 refine iw 21 [] ?_
 refine dW 24 R (cA B) (eJ bM cE R R (a8 B)) (dW 25 R (cA B) (gU 0 fO aA R (a8 B)) ?_)
 refine gW 26 [] ?_
 refine dR 28 R (fU R B R) ?_
 refine wz 29 [] ?_
 refine dR 44 R (fB ((ix b g) != (aH ((aH ((aH (E - (ix b (aH ((b.length:Int) - 1))))).tdiv j))+1))) R J) (dD ?_)
 exact qj tI
 refine aZ 0 aA (show 0<b.length by have:=(a8 B); omega) (fun g9 o10 ha=>?_)
 subst ha
 refine dF 45 [] bO fun ht hn=>?_
 refine gW 0 [] ?_
 refine d1 2 R (lM _ (fun w s=>(s.d 0 R)) ?_)
 refine lC 1 jL R (Zm_ok a7) R ?_
 rintro _
 refine lN W0 ?_
 refine aC (aG (sL []) ?_)
 refine kq 3 [] ?_
 refine dR 8 R (fU R G R) ?_
 refine iw 9 [] ?_
 refine dR 12 R (fU R U R) ?_
 refine iw 13 [] ?_
 refine dR 16 R (fU R a1 R) ?_
 refine iw 17 [] ?_
 refine dR 20 R (fU R a2 R) ?_
 refine iw 21 [] ?_
 refine dW 24 R (cA B) (eJ bM cE R R (a8 B)) (dW 25 R (cA B) (gU 0 fO aA R (a8 B)) ?_)
 refine gW 26 [] ?_
 refine dR 28 R (fU R B R) ?_
 refine iw 29 [] ?_
 refine dW 32 R (cA J) (eJ bM cE R R (al J)) (dW 33 R (cA J) (gU 0 fO aA R (al J)) ?_)
 refine iw 34 [] ?_
 refine dW 37 R (cA J) (eJ bM cE R R (am J)) (dW 38 R (cA J) (gU 0 fO aA R (am J)) ?_)
 refine gW 39 [] ?_
 refine dW 41 R (cA J) (vz (iv (aH ((aH (E - (ix b (aH ((b.length:Int) - 1))))).tdiv j))) (n8 R R (b9 J))) ?_
 refine gW 42 [] ?_
 refine dR 44 R (fU R J R) (dD ?_)
 exact qj tI
 rintro σ1
 refine bT ?_
 split at l
 refine cU ?_
 cases l
 exact iu ((none,0,0),(none,0,0)) (fun w s=>(((s.nilr kT3).nilo kT197 197).e 3 [1,0]))
 refine bH ?_
 obtain ⟨F,bb,l⟩:=bd l
 obtain ⟨a9,l⟩:=gd l
 refine bH ?_
 refine lM _ (fun w s=>(s.d 0 R)) ?_
 refine lC 1 pZ R (Z1j_ok bb) R ?_
 rintro ⟨c4,c8,c6⟩
 refine aL 0 aB ?_
 rintro rfl
 refine lI R (hW (fun w s=>s.shr 0 R) (gC (K:=kT3) (0:Int) (aH ((b.length:Int) - 1)) 0 R R bM cE R R R R a9.1 a9.2.1 a9.2.2 (fun M O=>(lS R (aC (aI (aM (aM ?_))))))))
 obtain ⟨ca,bc,l⟩:=bd l
 refine aU ?_
 refine lM _ (fun w s=>(s.d 0 R)) ?_
 refine lC 1 lg R (Zd_ok bc) R ?_
 rintro _
 refine aP ?_
 split at l
 refine cU ?_
 cases l
 exact iu ((none,0,0),(none,0,0)) (fun w s=>(((s.nilr kT3).nilo kT197 197).e 5 [1,0]))
 refine bH ?_
 refine bC (A:=(Int)×(Unit)) (fun a=>Z5_J1 b g E F a.1=some r) (fun a=>[(0,(sc A2 b D2)),(1,(iv g)),(2,(iv a.1)),(3,(iv E)),(11,(iv (aH ((b.length:Int) - 1)))),(12,(sc M (sub F (0:Int) (aH ((b.length:Int) - 1))) O))]) (fun a=>RR kT3 M O (sub F (0:Int) (aH ((b.length:Int) - 1)))::W0) ?_ ?_
 refine bT ?_
 obtain ⟨ba,l⟩:=gd l
 refine aP ?_
 refine bA 2 aA (show 0<b.length by have:=ba; omega) (fun c9 o31 ha=>?_)
 subst ha
 refine b' ?_
 split at l
 refine bH ?_
 exact qI ((0:Int),()) l (tE 2 [0])
 refine aU ?_
 exact qI (j,()) l (tE 2 [0])
 rintro ⟨m,_⟩ σ1 l
 dsimp only [Z5_J1] at l
 refine bT ?_
 obtain ⟨aa,l⟩:=gd l
 obtain ⟨i,be,l⟩:=bd l
 refine aP ?_
 refine gC (K:=kT3) (0:Int) (aH ((b.length:Int) - 1)) 1 R R bM cE R R R R aa.1 aa.2.1 aa.2.2 (fun c5 c7=>(lI R (lM _ (fun w s=>(s.d 0 R)) ?_)))
 refine lC 1 vN R (Z20_ok be) R ?_
 rintro _
 refine lO (vT R) ?_
 refine cU ?_
 refine bL (K:=kT197) (xs:=([]:List pair)) (vs:=[]) 0 R R fC fD eL R R R R R R ?_ R (fun bi bj=>?_)
 exact fun I h s=>(ja).list [] I h s
 refine bH ?_
 refine bC (A:=((List pair))×(HH)) (fun a=>Z5_J16 b F a.1=some r) (fun a=>[(12,(sc M (sub F (0:Int) (aH ((b.length:Int) - 1))) O)),(16,(s3 a.2))]) (fun a=>RR kT3 M O (sub F (0:Int) (aH ((b.length:Int) - 1)))::ow kT197 197 (s3 a.2) a.1::W0) ?_ ?_
 refine bV ?_
 obtain ⟨e1,bu,bp⟩:=bd l
 refine bF (A:=HH) bu (fun s a=>[(0,(sc A2 b D2)),(2,(iv m)),(3,(iv E)),(11,(iv (aH ((b.length:Int) - 1)))),(12,(sc M (sub F (0:Int) (aH ((b.length:Int) - 1))) O)),(13,(iv i.1)),(14,(iv i.2.1)),(15,(iv i.2.2)),(16,(s3 a)),(17,(iv s.2))]) (fun s a=>RR kT3 M O (sub F (0:Int) (aH ((b.length:Int) - 1)))::ow kT197 197 (s3 a) s.1::W0) (bi,([]:List pair).length,bj) (aS R) (tE 3 [2,0]) ?_
 rintro ⟨Y,q⟩ ⟨ab,b1,ah⟩ σ1 bf l bk
 dsimp only [Z5_L1] at l
 refine bI 1 aB (fun (hn:b1=Y.length)=>?_)
 subst hn
 refine dA ?_
 split at l
 refine bH ?_
 refine bC (A:=((List pair))×(HH)) (fun a=>Z5_J15 q a.1=some bf) (fun a=>[(0,(sc A2 b D2)),(2,(iv m)),(3,(iv E)),(11,(iv (aH ((b.length:Int) - 1)))),(12,(sc M (sub F (0:Int) (aH ((b.length:Int) - 1))) O)),(13,(iv i.1)),(14,(iv i.2.1)),(15,(iv i.2.2)),(16,(s3 a.2)),(17,(iv q))]) (fun a=>RR kT3 M O (sub F (0:Int) (aH ((b.length:Int) - 1)))::ow kT197 197 (s3 a.2) a.1::W0) ?_ ?_
 refine dO ?_
 obtain ⟨e2,bv,bq⟩:=bd l
 refine bF (A:=HH) bv (fun s a=>[(0,(sc A2 b D2)),(2,(iv m)),(3,(iv E)),(11,(iv (aH ((b.length:Int) - 1)))),(12,(sc M (sub F (0:Int) (aH ((b.length:Int) - 1))) O)),(13,(iv i.1)),(14,(iv i.2.1)),(15,(iv i.2.2)),(16,(s3 a)),(17,(iv q)),(18,(iv s.2))]) (fun s a=>RR kT3 M O (sub F (0:Int) (aH ((b.length:Int) - 1)))::ow kT197 197 (s3 a) s.1::W0) (ab,Y.length,ah) (aS R) tI ?_
 rintro ⟨Z,u⟩ ⟨ac,b2,ai⟩ σ1 bg l bl
 dsimp only [Z5_L2] at l
 refine bI 1 aB (fun (hn:b2=Z.length)=>?_)
 subst hn
 refine dA ?_
 split at l
 refine bH ?_
 refine bC (A:=((List pair))×(HH)) (fun a=>Z5_J14 u a.1=some bg) (fun a=>[(0,(sc A2 b D2)),(2,(iv m)),(3,(iv E)),(11,(iv (aH ((b.length:Int) - 1)))),(12,(sc M (sub F (0:Int) (aH ((b.length:Int) - 1))) O)),(13,(iv i.1)),(14,(iv i.2.1)),(15,(iv i.2.2)),(16,(s3 a.2)),(17,(iv q)),(18,(iv u))]) (fun a=>RR kT3 M O (sub F (0:Int) (aH ((b.length:Int) - 1)))::ow kT197 197 (s3 a.2) a.1::W0) ?_ ?_
 refine dO ?_
 obtain ⟨e3,bw,br⟩:=bd l
 refine bF (A:=HH) bw (fun s a=>[(0,(sc A2 b D2)),(2,(iv m)),(3,(iv E)),(11,(iv (aH ((b.length:Int) - 1)))),(12,(sc M (sub F (0:Int) (aH ((b.length:Int) - 1))) O)),(13,(iv i.1)),(14,(iv i.2.1)),(15,(iv i.2.2)),(16,(s3 a)),(17,(iv q)),(18,(iv u)),(19,(iv s.2))]) (fun s a=>RR kT3 M O (sub F (0:Int) (aH ((b.length:Int) - 1)))::ow kT197 197 (s3 a) s.1::W0) (ac,Z.length,ai) (aS R) tI ?_
 rintro ⟨a0,D⟩ ⟨ae,b3,aj⟩ σ1 bh l bm
 dsimp only [Z5_L3] at l
 refine bI 1 aB (fun (hn:b3=a0.length)=>?_)
 subst hn
 refine dA ?_
 split at l
 refine bH ?_
 refine bC (A:=((List pair))×(HH)) (fun a=>Z5_J13 D a.1=some bh) (fun a=>[(0,(sc A2 b D2)),(2,(iv m)),(3,(iv E)),(11,(iv (aH ((b.length:Int) - 1)))),(12,(sc M (sub F (0:Int) (aH ((b.length:Int) - 1))) O)),(13,(iv i.1)),(14,(iv i.2.1)),(15,(iv i.2.2)),(16,(s3 a.2)),(17,(iv q)),(18,(iv u)),(19,(iv D))]) (fun a=>RR kT3 M O (sub F (0:Int) (aH ((b.length:Int) - 1)))::ow kT197 197 (s3 a.2) a.1::W0) ?_ ?_
 refine dO ?_
 obtain ⟨e4,bz,bs⟩:=bd l
 refine bF (A:=HH) bz (fun s a=>[(0,(sc A2 b D2)),(2,(iv m)),(3,(iv E)),(11,(iv (aH ((b.length:Int) - 1)))),(12,(sc M (sub F (0:Int) (aH ((b.length:Int) - 1))) O)),(13,(iv i.1)),(14,(iv i.2.1)),(15,(iv i.2.2)),(16,(s3 a)),(17,(iv q)),(18,(iv u)),(19,(iv D)),(20,(iv s.2))]) (fun s a=>RR kT3 M O (sub F (0:Int) (aH ((b.length:Int) - 1)))::ow kT197 197 (s3 a) s.1::W0) (ae,a0.length,aj) (aS R) tI ?_
 rintro ⟨L,T⟩ ⟨ap,b4,aw⟩ σ1 c3 l bn
 dsimp only [Z5_L4] at l
 refine bI 1 aB (fun (hn:b4=L.length)=>?_)
 subst hn
 refine aU ?_
 obtain ⟨an,l⟩:=gd l
 refine bH ?_
 refine bA 2 aA (show 0<b.length by have:=an; omega) (fun c2 o260 ha=>?_)
 subst ha
 refine b' ?_
 split at l
 refine b' ?_
 obtain ⟨ao,l⟩:=gd l
 refine wy ?_
 refine lO (vz (.agg [(iv (aH ((aH ((aH ((aH ((aH ((aH (q*i.2.1))+u))*i.2.2))+D))*(ix b (aH ((b.length:Int) - 1)))))+T))),(iv (aH ((aH ((aH ((aH ((aH (q*E))+(aH (u*m))))+T))*i.2.2))+D)))].toArray) (aV mB eL R R)) ?_
 refine bL (K:=kT197) (xs:=([(⟨(aH ((aH ((aH ((aH ((aH ((aH (q*i.2.1))+u))*i.2.2))+D))*(ix b (aH ((b.length:Int) - 1)))))+T)),(aH ((aH ((aH ((aH ((aH (q*E))+(aH (u*m))))+T))*i.2.2))+D))⟩:pair)]:List pair)) (vs:=[(.agg [(iv (aH ((aH ((aH ((aH ((aH ((aH (q*i.2.1))+u))*i.2.2))+D))*(ix b (aH ((b.length:Int) - 1)))))+T))),(iv (aH ((aH ((aH ((aH ((aH (q*E))+(aH (u*m))))+T))*i.2.2))+D)))].toArray)]) 0 R R fC fD eL R R R R R R ?_ R (fun c0 c1=>?_)
 exact fun I h s=>(ja).list [(((),()),(⟨(aH ((aH ((aH ((aH ((aH ((aH (q*i.2.1))+u))*i.2.2))+D))*(ix b (aH ((b.length:Int) - 1)))))+T)),(aH ((aH ((aH ((aH ((aH (q*E))+(aH (u*m))))+T))*i.2.2))+D))⟩:pair))] I h s
 refine lM _ (tE 3 [2,0,1]) ?_
 refine eC (K:=kT197) 8796093022208 R R fC fD lF (Zr.zk zT197 eL) R R R R R R dM ao (fun ag ak=>(lN (OO kT197 197 ag ak (L++([(⟨(aH ((aH ((aH ((aH ((aH ((aH (q*i.2.1))+u))*i.2.2))+D))*(ix b (aH ((b.length:Int) - 1)))))+T)),(aH ((aH ((aH ((aH ((aH (q*E))+(aH (u*m))))+T))*i.2.2))+D))⟩:pair)]:List pair))::_::W0) ?_))
 refine cY ?_
 cases l
 exact qA (ag,(L++([(⟨(aH ((aH ((aH ((aH ((aH ((aH (q*i.2.1))+u))*i.2.2))+D))*(ix b (aH ((b.length:Int) - 1)))))+T)),(aH ((aH ((aH ((aH ((aH (q*E))+(aH (u*m))))+T))*i.2.2))+D))⟩:pair)]:List pair)).length,ak) (tE 2 [1,0])
 refine aP ?_
 cases l
 obtain rfl:=bn _ R
 have l:=bs
 refine aP ?_
 exact qI (L,(ap,L.length,aw)) l tI
 rintro ⟨a3,⟨aq,b5,ax⟩⟩ σ1 l
 dsimp only [Z5_J13] at l
 refine bI 1 aB (fun (hn:b5=a3.length)=>?_)
 subst hn
 refine b' ?_
 cases l
 exact qA (aq,a3.length,ax) tI
 refine aP ?_
 cases l
 obtain rfl:=bm _ R
 have l:=br
 refine aP ?_
 exact qI (a0,(ae,a0.length,aj)) l tI
 rintro ⟨a4,⟨ar,b6,ay⟩⟩ σ1 l
 dsimp only [Z5_J14] at l
 refine bI 1 aB (fun (hn:b6=a4.length)=>?_)
 subst hn
 refine b' ?_
 cases l
 exact qA (ar,a4.length,ay) tI
 refine aP ?_
 cases l
 obtain rfl:=bl _ R
 have l:=bq
 refine aP ?_
 exact qI (Z,(ac,Z.length,ai)) l tI
 rintro ⟨a5,⟨au,b7,az⟩⟩ σ1 l
 dsimp only [Z5_J15] at l
 refine bI 1 aB (fun (hn:b7=a5.length)=>?_)
 subst hn
 refine b' ?_
 cases l
 exact qA (au,a5.length,az) tI
 refine aP ?_
 cases l
 obtain rfl:=bk _ R
 have l:=bp
 refine aU ?_
 exact qI (Y,(ab,Y.length,ah)) l tI
 rintro ⟨a6,⟨av,b8,b0⟩⟩ σ1 l
 dsimp only [Z5_J16] at l
 refine bI 1 aB (fun (hn:b8=a6.length)=>?_)
 subst hn
 refine cU ?_
 cases l
 exact iu ((M,(sub F (0:Int) (aH ((b.length:Int) - 1))).length,O),(av,a6.length,b0)) (tE 3 [0,1])
theorem Z1z_ok  {p1:(List Int)}{a:(List Int)}{r:(List Int)×(List pair)×Bool}(b:Z1z p1 a=some r) :
 FnOk Tryz.prog 250 [(.slice A2 N2 D2),(.slice A4 N4 D4)] [aO kT3 (.slice A2 N2 D2) p1,aO kT3 (.slice A4 N4 D4) a] (fun (h:HH×HH)=>((.tuple [(s3 h.1),(s3 h.2),(.bool r.2.2)].toArray),[aO kT3 (s3 h.1) r.1,ow kT197 197 (s3 h.2) r.2.1])):=by
 unfold Z1z at b
 refine aR Tryz.func250 R 21 R R fun C V=>?_
 refine cL 0 aA ?_
 rintro rfl
 refine cL 1 aA ?_
 rintro rfl
 let q:=RR kT3 A2 D2 p1::RR kT3 A4 D4 a::V
 refine cN q ?_
 refine dA ?_
 obtain ⟨l,b⟩:=gd b
 obtain ⟨_,b⟩:=gd b
 obtain ⟨_,b⟩:=gd b
 obtain ⟨g,e,b⟩:=bd b
 refine aZ 0 aA (show 0<p1.length by have:=l; omega) (fun B o7 u=>?_)
 subst u
 refine dF 17 [] bO fun E D=>?_
 refine qG 0 [] ?_
 refine d1 10 R (lM _ (fun w s=>(s.d 1 R)) ?_)
 refine lC 1 zS R (Z5_ok e) R ?_
 rintro ⟨⟨A12,N12,D12⟩,⟨i,m,j⟩⟩
 refine aL 0 aA ?_
 rintro rfl
 refine aL 1 aB ?_
 rintro rfl
 refine aC (aG (sL [1,0]) ?_)
 refine rZ 11 [1,0] ?_
 refine dD ?_
 refine aU ?_
 cases b
 exact iu ((A12,g.1.length,D12),(i,g.2.1.length,j)) (tE 4 [0,1])
theorem Z2m_ok  {a:Node}{b:(List Int)}{m:Int}{i:Int}{E:Nat}{j:Nat}{g:Nat}{r:(List Int)×(List pair)×Bool}(l:Z2m a b m i=some r) :
 FnOk Tryz.prog 276 [(.agg [(iv a.Op),(.slice A2 N2 D2),(.slice A3 N3 D3),(.slice A4 N4 D4),(aD a.Form),(.slice A5 N5 D5)].toArray),(.slice A7 N7 D7),(pt E 0),(pt j 0),(pt g 0)] [aO kT3 (.slice A2 N2 D2) a.Args,aO kT3 (.slice A3 N3 D3) a.Dims,aO kT3 (.slice A4 N4 D4) a.Ints,aO kT3 (.slice A5 N5 D5) a.Data,aO kT3 (.slice A7 N7 D7) b,aJ E [(iv m)] 3,aJ j [(iv i)] 3,aJ g [(.func (.func 250) [].toArray [].toArray)] 273] (fun (h:HH×HH)=>((.tuple [(s3 h.1),(s3 h.2),(.bool r.2.2)].toArray),[aO kT3 (s3 h.1) r.1,ow kT197 197 (s3 h.2) r.2.1,aJ E [(iv m)] 3,aJ j [(iv i)] 3,aJ g [(.func (.func 250) [].toArray [].toArray)] 273])):=by
 unfold Z2m at l
 refine aR Tryz.func276 R 30 R R fun C V=>?_
 refine cM _ (fun w s=>(s.f 8 [5,3,0,5])) ?_
 refine cL 3 aA ?_
 rintro rfl
 refine cL 4 aA ?_
 rintro rfl
 refine cL 5 aA ?_
 rintro rfl
 refine cL 6 aA ?_
 rintro rfl
 refine cL 7 aA ?_
 rintro rfl
 let T:=RR kT3 A2 D2 a.Args::RR kT3 A3 D3 a.Dims::RR kT3 A4 D4 a.Ints::RR kT3 A5 D5 a.Data::RR kT3 A7 D7 b::V
 refine aU ?_
 refine eE R fun q=>?_
 refine bH ?_
 let L:=aJ q [(iv a.Op),(sc A2 a.Args D2),(sc A3 a.Dims D3),(sc A4 a.Ints D4),(aD a.Form),(sc A5 a.Data D5)] 171::aJ E [(iv m)] 3::aJ j [(iv i)] 3::aJ g [(.func (.func 250) [].toArray [].toArray)] 273::T
 refine qN L ?_
 refine aP ?_
 refine cQ [(1,(sc A7 b D7)),(4,(pt g 0)),(5,(pt q 0)),(21,(.bool ((decide ((a.Ints.length:Int)<m))||(decide ((a.Ints.length:Int)>i)))))] (L) ?_ ?_
 refine dO ?_
 rcases bo (decide ((a.Ints.length:Int)<m)) with u | u
 refine dO ?_
 exact qj tI
 refine dO ?_
 exact qj tI
 rintro σ1
 refine bT ?_
 split at l
 refine cU ?_
 cases l
 exact iu ((none,0,0),(none,0,0)) (fun w s=>(((s.nilr kT3).nilo kT197 197).e 11 [1,0,3,4,5]))
 refine bH ?_
 obtain ⟨D,B,l⟩:=bd l
 refine b' ?_
 refine lM _ (fun w s=>(((s.d 6 R).d 9 R).e 2 [1,0])) ?_
 refine cC (fs:=[]) (cs:=[]) 2 R R zT R R (Z1z_ok B) R ?_
 rintro ⟨⟨F,M,I⟩,⟨G,O,J⟩⟩
 refine aL 0 aA ?_
 rintro rfl
 refine aL 1 aB ?_
 rintro rfl
 refine cY ?_
 cases l
 exact iu ((F,D.1.length,I),(G,D.2.1.length,J)) (fun w s=>(s.f 11 [0,2,3,3]))
theorem Z1p_ok  {k1:shiftKind}{F:Int}{G:Int}{b:Node}{a:(List (List Int))}{j:Nat}{l:Nat}{m:Nat}{r:(List Int)×Bool}(i:Z1p k1 F G b a=some r) :
 FnOk Tryz.prog 321 [(.agg [(aD k1.use),(.func (.func 276) [].toArray [(pt j 0),(pt l 0),(pt m 0)].toArray)].toArray),(.agg [(iv b.Op),(.slice A9 N9 D9),(.slice A10 N10 D10),(.slice A11 N11 D11),(aD b.Form),(.slice A12 N12 D12)].toArray),(.slice A14 N14 D14)] [aJ j [(iv F)] 3,aJ l [(iv G)] 3,aJ m [(.func (.func 250) [].toArray [].toArray)] 273,aO kT3 (.slice A9 N9 D9) b.Args,aO kT3 (.slice A10 N10 D10) b.Dims,aO kT3 (.slice A11 N11 D11) b.Ints,aO kT3 (.slice A12 N12 D12) b.Data,aO bG (.slice A14 N14 D14) a] (fun (h:HH)=>((.tuple [(s3 h),(.bool r.2)].toArray),[aO kT3 (s3 h) r.1,aJ j [(iv F)] 3,aJ l [(iv G)] 3,aJ m [(.func (.func 250) [].toArray [].toArray)] 273])):=by
 unfold Z1p at i
 refine aR Tryz.func321 R 27 R R fun C V=>?_
 refine cL 3 aA ?_
 rintro rfl
 refine cL 4 aA ?_
 rintro rfl
 refine cL 5 aA ?_
 rintro rfl
 refine cL 6 aA ?_
 rintro rfl
 refine cL 7 aA ?_
 rintro rfl
 let Y:=RR kT3 A9 D9 b.Args::RR kT3 A10 D10 b.Dims::RR kT3 A11 D11 b.Ints::RR kT3 A12 D12 b.Data::RR bG A14 D14 a::V
 refine aU ?_
 refine eE R fun D=>?_
 refine eE R fun E=>?_
 refine aP ?_
 refine qM _ (fun w s=>(s.f 5 [2,3,0,2])) ?_
 let W1:=aJ E [(iv b.Op),(sc A9 b.Args D9),(sc A10 b.Dims D10),(sc A11 b.Ints D11),(aD b.Form),(sc A12 b.Data D12)] 171::aJ D [(aD k1.use),(.func (.func 276) [].toArray [(pt j 0),(pt l 0),(pt m 0)].toArray)] 271::Y
 refine cY ?_
 split at i
 refine cY ?_
 cases i
 exact jI (none,0,0) (fun w s=>((s.nilr kT3).f 11 [0,4]))
 refine bH ?_
 obtain ⟨g,i⟩:=gd i
 obtain ⟨I,q,i⟩:=bd i
 refine aZ 9 aA (show 0<a.length by have:=g; omega) (fun Z o20 ha=>?_)
 subst ha
 refine dI (K:=bG) 9 (0:Int) dT36.dec R g.1 g.2 ?_
 rintro ⟨J,M⟩
 refine dF 14 [] bO fun ht hn=>?_
 refine kq 0 [] ?_
 refine dR 5 R (eD (fo:=0) 0 cK R R R) (d1 6 R (lM _ (fun w s=>((((((s.d 7 R).d 9 R).d 11 R).d 13 R).d 5 R).e 10 [4,3,2,1,0,7,8,9,5,6])) ?_))
 refine cC (fs:=[]) (cs:=[(pt j 0),(pt l 0),(pt m 0)]) 8 R R qb R R (Z2m_ok q) R ?_
 rintro ⟨⟨u,T,B⟩,⟨L,U,O⟩⟩
 refine aL 0 aA ?_
 rintro rfl
 refine aL 1 aB ?_
 rintro rfl
 refine aC (aG (fun w s=>(s.f 7 [5,2,2,3])) (dR 7 R (vT R) (hS:=(fun w s=>(s.f 7 [5,2,2,3]))) (dR 8 R (vS R) (hS:=(fun w s=>(s.f 7 [5,2,2,3]))) (dR 9 R (vS R) (hS:=(fun w s=>(s.f 7 [5,2,2,3]))) (dR 10 R (vB R) (hS:=(fun w s=>(s.f 7 [5,2,2,3]))) (dR 11 R (vS R) (hS:=(fun w s=>(s.f 7 [5,2,2,3]))) (dR 12 R (vS R) (hS:=(fun w s=>(s.f 7 [5,2,2,3]))) (dR 13 R (vB R) (hS:=(fun w s=>(s.f 7 [5,2,2,3]))) (dD ?_)))))))))
 refine cU ?_
 cases i
 exact jI (u,I.1.length,B) (tE 14 [0,2,3,4])
theorem li  {r:kindOfR}{a:Node}{B:(List (List Int))}{g h1 h2:Nat}{l A2 A3 A4 A5:Option Addr}{u m N2 D2 N3 D3 N4 D4 N5 D5:Nat}{mG:Int}{q:(List Int)×Bool}(b:bP r a B=some q) :
 InvOk Tryz.prog (cV r (g,h1,h2)) "loop.example/g00033/impl.shape" [(.agg [(iv a.Op),(.slice l u m),(.slice A2 N2 D2),(.slice A3 N3 D3),(aD a.Form),(.slice A4 N4 D4)].toArray),(.slice A5 N5 D5)] [eS r (g,h1,h2),aO kT3 (.slice l u m) a.Args,aO kT3 (.slice A2 N2 D2) a.Dims,aO kT3 (.slice A3 N3 D3) a.Ints,aO kT3 (.slice A4 N4 D4) a.Data,aO bG (.slice A5 N5 D5) B,gl 0 mG] (fun (h:HH)=>((.tuple [(s3 h),(.bool q.2)].toArray),[aO kT3 (s3 h) q.1,eS r (g,h1,h2)])):=by
 unfold bP at b
 rcases cF b with ⟨Z,b⟩|⟨Z,b⟩
 ·cases b
 rcases cF b with ⟨G,b⟩|⟨G,b⟩
 ·obtain ⟨t,D,i,j,F⟩:=r
  obtain rfl:=Nat.eq_of_beq_eq_true G
  exact InvOk.mk (oo _) (((Z1i_ok b).perm (Pre':=[pk [],aO kT3 (.slice l u m) a.Args,aO kT3 (.slice A2 N2 D2) a.Dims,aO kT3 (.slice A3 N3 D3) a.Ints,aO kT3 (.slice A4 N4 D4) a.Data,aO bG (.slice A5 N5 D5) B,gl 0 mG]) (fun _ _ _ s=>(St.unpack (A:=[]) s).e 6 [0,1,2,3,4])).post id (fun _=>rfl) (fun _ _ _ _ s=>(St.pack (A:=[]) (s)).e 2 [1,0]))
 rcases cF b with ⟨I,b⟩|⟨I,b⟩
 ·obtain ⟨t,D,i,j,F⟩:=r
  obtain rfl:=Nat.eq_of_beq_eq_true I
  exact InvOk.mk (oq _) (((Z21_ok b).perm (Pre':=[pk [],aO kT3 (.slice l u m) a.Args,aO kT3 (.slice A2 N2 D2) a.Dims,aO kT3 (.slice A3 N3 D3) a.Ints,aO kT3 (.slice A4 N4 D4) a.Data,aO bG (.slice A5 N5 D5) B,gl 0 mG]) (fun _ _ _ s=>(St.unpack (A:=[]) s).e 6 [0,1,2,3,4])).post id (fun _=>rfl) (fun _ _ _ _ s=>(St.pack (A:=[]) (s)).e 2 [1,0]))
 rcases cF b with ⟨J,b⟩|⟨J,b⟩
 ·obtain ⟨t,D,i,j,F⟩:=r
  obtain rfl:=Nat.eq_of_beq_eq_true J
  exact InvOk.mk (ou _) (((Z2p_ok b).perm (Pre':=[pk [],aO kT3 (.slice l u m) a.Args,aO kT3 (.slice A2 N2 D2) a.Dims,aO kT3 (.slice A3 N3 D3) a.Ints,aO kT3 (.slice A4 N4 D4) a.Data,aO bG (.slice A5 N5 D5) B,gl 0 mG]) (fun _ _ _ s=>(St.unpack (A:=[]) s).e 6 [0,1,2,3,4])).post id (fun _=>rfl) (fun _ _ _ _ s=>(St.pack (A:=[]) (s)).e 2 [1,0]))
 rcases cF b with ⟨L,b⟩|⟨L,b⟩
 ·obtain ⟨t,D,i,j,F⟩:=r
  obtain rfl:=Nat.eq_of_beq_eq_true L
  exact InvOk.mk (ov _) (((Z1v_ok (k1:=⟨⟩) b).perm (Pre':=[pk [],aO kT3 (.slice l u m) a.Args,aO kT3 (.slice A2 N2 D2) a.Dims,aO kT3 (.slice A3 N3 D3) a.Ints,aO kT3 (.slice A4 N4 D4) a.Data,aO bG (.slice A5 N5 D5) B,gl 0 mG]) (fun _ _ _ s=>(St.unpack (A:=[]) s).e 6 [0,1,2,3,4])).post id (fun _=>rfl) (fun _ _ _ _ s=>(St.pack (A:=[]) (s)).e 2 [1,0]))
 rcases cF b with ⟨M,b⟩|⟨M,b⟩
 ·obtain ⟨t,D,i,j,F⟩:=r
  obtain rfl:=Nat.eq_of_beq_eq_true M
  exact InvOk.mk (oy _) (((Z2o_ok (k1:=⟨⟩) b).perm (Pre':=[pk [],aO kT3 (.slice l u m) a.Args,aO kT3 (.slice A2 N2 D2) a.Dims,aO kT3 (.slice A3 N3 D3) a.Ints,aO kT3 (.slice A4 N4 D4) a.Data,aO bG (.slice A5 N5 D5) B,gl 0 mG]) (fun _ _ _ s=>St.unpack (A:=[]) s)).post id (fun _=>rfl) (fun _ _ _ _ s=>(St.pack (A:=[]) ((s).shr 0 R)).e 2 [1,0]))
 rcases cF b with ⟨O,b⟩|⟨O,b⟩
 ·obtain ⟨t,D,i,j,F⟩:=r
  obtain rfl:=Nat.eq_of_beq_eq_true O
  exact InvOk.mk (gE _) (((Z1q_ok b).perm (Pre':=[pk [],aO kT3 (.slice l u m) a.Args,aO kT3 (.slice A2 N2 D2) a.Dims,aO kT3 (.slice A3 N3 D3) a.Ints,aO kT3 (.slice A4 N4 D4) a.Data,aO bG (.slice A5 N5 D5) B,gl 0 mG]) (fun _ _ _ s=>(St.unpack (A:=[]) s).e 6 [0,1,2,3,4])).post id (fun _=>rfl) (fun _ _ _ _ s=>(St.pack (A:=[]) (s)).e 2 [1,0]))
 rcases cF b with ⟨T,b⟩|⟨T,b⟩
 ·obtain ⟨t,D,i,j,F⟩:=r
  obtain rfl:=Nat.eq_of_beq_eq_true T
  exact InvOk.mk (gE _) (((Z22_ok b).perm (Pre':=[pk [],aO kT3 (.slice l u m) a.Args,aO kT3 (.slice A2 N2 D2) a.Dims,aO kT3 (.slice A3 N3 D3) a.Ints,aO kT3 (.slice A4 N4 D4) a.Data,aO bG (.slice A5 N5 D5) B,gl 0 mG]) (fun _ _ _ s=>(St.unpack (A:=[]) s).e 6 [0,1,2,3,4])).post id (fun _=>rfl) (fun _ _ _ _ s=>(St.pack (A:=[]) (s)).e 2 [1,0]))
 rcases cF b with ⟨U,b⟩|⟨U,b⟩
 ·obtain ⟨t,D,i,j,F⟩:=r
  obtain rfl:=Nat.eq_of_beq_eq_true U
  exact InvOk.mk (gE _) (((Z1m_ok b).perm (Pre':=[pk [aJ g [(iv i)] 3,aJ h1 [(iv j)] 3,aJ h2 [(.func (.func 245) [].toArray [].toArray)] 273],aO kT3 (.slice l u m) a.Args,aO kT3 (.slice A2 N2 D2) a.Dims,aO kT3 (.slice A3 N3 D3) a.Ints,aO kT3 (.slice A4 N4 D4) a.Data,aO bG (.slice A5 N5 D5) B,gl 0 mG]) (fun _ _ _ s=>(St.unpack (A:=[aJ g [(iv i)] 3,aJ h1 [(iv j)] 3,aJ h2 [(.func (.func 245) [].toArray [].toArray)] 273]) s).e 9 [0,1,2,3,4,5,6,7])).post id (fun _=>rfl) (fun _ _ _ _ s=>(St.pack (A:=[aJ g [(iv i)] 3,aJ h1 [(iv j)] 3,aJ h2 [(.func (.func 245) [].toArray [].toArray)] 273]) (((s).shr 0 R).e 4 [1,2,3,0])).e 2 [1,0]))
 rcases cF b with ⟨Y,b⟩|⟨Y,b⟩
 ·obtain ⟨t,D,i,j,F⟩:=r
  obtain rfl:=Nat.eq_of_beq_eq_true Y
  exact InvOk.mk (gE _) (((Z1n_ok b).perm (Pre':=[pk [aJ g [(iv i)] 3,aJ h1 [(iv j)] 3,aJ h2 [(.func (.func 246) [].toArray [].toArray)] 273],aO kT3 (.slice l u m) a.Args,aO kT3 (.slice A2 N2 D2) a.Dims,aO kT3 (.slice A3 N3 D3) a.Ints,aO kT3 (.slice A4 N4 D4) a.Data,aO bG (.slice A5 N5 D5) B,gl 0 mG]) (fun _ _ _ s=>(St.unpack (A:=[aJ g [(iv i)] 3,aJ h1 [(iv j)] 3,aJ h2 [(.func (.func 246) [].toArray [].toArray)] 273]) s).e 9 [0,1,2,3,4,5,6,7])).post id (fun _=>rfl) (fun _ _ _ _ s=>(St.pack (A:=[aJ g [(iv i)] 3,aJ h1 [(iv j)] 3,aJ h2 [(.func (.func 246) [].toArray [].toArray)] 273]) (((s).shr 0 R).e 4 [1,2,3,0])).e 2 [1,0]))
 rcases cF b with ⟨E,b⟩|⟨E,b⟩
 ·obtain ⟨t,D,i,j,F⟩:=r
  obtain rfl:=Nat.eq_of_beq_eq_true E
  exact InvOk.mk (gE _) (((Z1o_ok b).perm (Pre':=[pk [aJ g [(iv i)] 3,aJ h1 [(iv j)] 3,aJ h2 [(.func (.func 248) [].toArray [].toArray)] 273],aO kT3 (.slice l u m) a.Args,aO kT3 (.slice A2 N2 D2) a.Dims,aO kT3 (.slice A3 N3 D3) a.Ints,aO kT3 (.slice A4 N4 D4) a.Data,aO bG (.slice A5 N5 D5) B,gl 0 mG]) (fun _ _ _ s=>(St.unpack (A:=[aJ g [(iv i)] 3,aJ h1 [(iv j)] 3,aJ h2 [(.func (.func 248) [].toArray [].toArray)] 273]) s).e 9 [0,1,2,3,4,5,6,7])).post id (fun _=>rfl) (fun _ _ _ _ s=>(St.pack (A:=[aJ g [(iv i)] 3,aJ h1 [(iv j)] 3,aJ h2 [(.func (.func 248) [].toArray [].toArray)] 273]) (((s).shr 0 R).e 4 [1,2,3,0])).e 2 [1,0]))
 have hV:cV r (g,h1,h2)=(.iface 271 (.agg [(aD r.s0),(.func (.func 276) [].toArray [(pt g 0),(pt h1 0),(pt h2 0)].toArray)].toArray)):=by simp only [cV,Z,G,I,J,L,M,O,T,U,Y,E,cond_false]
 have hE:eS r (g,h1,h2)=pk [aJ g [(iv r.i0)] 3,aJ h1 [(iv r.i1)] 3,aJ h2 [(.func (.func 250) [].toArray [].toArray)] 273]:=by simp only [eS,Z,G,I,J,L,M,O,T,U,Y,E,cond_false]
 rw [hV,hE]
 exact InvOk.mk (gE _) (((Z1p_ok b).perm (Pre':=[pk [aJ g [(iv r.i0)] 3,aJ h1 [(iv r.i1)] 3,aJ h2 [(.func (.func 250) [].toArray [].toArray)] 273],aO kT3 (.slice l u m) a.Args,aO kT3 (.slice A2 N2 D2) a.Dims,aO kT3 (.slice A3 N3 D3) a.Ints,aO kT3 (.slice A4 N4 D4) a.Data,aO bG (.slice A5 N5 D5) B,gl 0 mG]) (fun _ _ _ s=>(St.unpack (A:=[aJ g [(iv r.i0)] 3,aJ h1 [(iv r.i1)] 3,aJ h2 [(.func (.func 250) [].toArray [].toArray)] 273]) s).e 9 [0,1,2,3,4,5,6,7])).post id (fun _=>rfl) (fun _ _ _ _ s=>(St.pack (A:=[aJ g [(iv r.i0)] 3,aJ h1 [(iv r.i1)] 3,aJ h2 [(.func (.func 250) [].toArray [].toArray)] 273]) ((s).e 4 [1,2,3,0])).e 2 [1,0]))
theorem Zg_ok  {i:Node}{b:(List (List Int))}{mG:Int}{r:(List Int)×Bool}(l:Zg i b=some r) :
 FnOk Tryz.prog 186 [(.agg [(iv i.Op),(.slice A2 N2 D2),(.slice A3 N3 D3),(.slice A4 N4 D4),(aD i.Form),(.slice A5 N5 D5)].toArray),(.slice A7 N7 D7)] [aO kT3 (.slice A2 N2 D2) i.Args,aO kT3 (.slice A3 N3 D3) i.Dims,aO kT3 (.slice A4 N4 D4) i.Ints,aO kT3 (.slice A5 N5 D5) i.Data,ow (bG).share 36 (.slice A7 N7 D7) b,gl 0 mG] (fun (h:HH)=>((.tuple [(s3 h),(.bool r.2)].toArray),[aO kT3 (s3 h) r.1,ow (bG).share 36 (.slice A7 N7 D7) b])):=by
 unfold Zg at l
 refine aR Tryz.func186 R 58 R R fun C V=>?_
 refine cM _ (tE 6 [4,0,1,2,3,5]) ?_
 refine cL 0 dC ?_
 rintro rfl
 refine cL 1 aA ?_
 rintro rfl
 refine cL 2 aA ?_
 rintro rfl
 refine cL 3 aA ?_
 rintro rfl
 refine cL 4 aA ?_
 rintro rfl
 let W0:=RR kT3 A2 D2 i.Args::RR kT3 A3 D3 i.Dims::RR kT3 A4 D4 i.Ints::RR kT3 A5 D5 i.Data::gl 0 mG::V
 refine aU ?_
 refine eE R fun b8=>?_
 refine aP ?_
 refine qM _ (tE 2 [1,0]) ?_
 let W1:=aJ b8 [(iv i.Op),(sc A2 i.Args D2),(sc A3 i.Dims D3),(sc A4 i.Ints D4),(aD i.Form),(sc A5 i.Data D5)] 171::W0
 refine aU ?_
 obtain ⟨D,a8,l⟩:=bd l
 refine aP ?_
 refine lC 0 zl R (Zy_ok a8) R ?_
 rintro ⟨q,u,B⟩
 refine lO (vp _ R) ?_
 refine bH ?_
 obtain ⟨aw,J,l⟩:=bd l
 obtain ⟨aa,L,l⟩:=bd l
 refine cQ [(1,(sc A7 b D7)),(2,(pt b8 0)),(6,(cV D (q,u,B))),(27,(.bool (((Nat.beq D.t 0)||(!aa))||(decide ((i.Args.length:Int)>6)))))] (OO (bG).share 36 A7 D7 b::eS D (q,u,B)::W1) ?_ ?_
 rcases bo (Nat.beq D.t 0) with j | j
 refine dF 15 [] bO fun ht G=>?_
 refine dR 0 R (vp _ R) (dR 1 R (vz (.bool (Nat.beq D.t 0)) (mC R)) ?_)
 refine mu 2 [] ?_
 refine dD ?_
 exact qj (tE 2 [1,0])
 rcases bo ((Nat.beq D.t 0)||(!aa)) with a2 | a2
 refine dF 15 [] bO fun ht G=>?_
 refine dR 0 R (vp _ R) (dR 1 R (vz (.bool (Nat.beq D.t 0)) (mC R)) ?_)
 refine gW 2 [] ?_
 refine dW 4 R (cA j) (vp _ R) (d1 5 R (rV 1 (cA j) R R (jF (bN J (cT j))) R ?_))
 rintro _
 refine aC (aG (sL []) (d1 6 R (lM _ (fun w s=>((((((s.d 3 R).d 5 R).d 7 R).d 9 R).dg 11 R).e 7 [4,3,2,1,0,5,6])) ?_)))
 refine bX 5 R (cA j) vJ R (Z1u_ok (bN L (cT j))) R ?_
 rintro _
 refine aC (aG (sL []) ?_)
 refine ub 7 [] ?_
 refine dD ?_
 exact qj (tE 2 [1,0])
 refine dF 15 [] bO fun ht G=>?_
 refine dR 0 R (vp _ R) (dR 1 R (vz (.bool (Nat.beq D.t 0)) (mC R)) ?_)
 refine gW 2 [] ?_
 refine dW 4 R (cA j) (vp _ R) (d1 5 R (rV 1 (cA j) R R (jF (bN J (cT j))) R ?_))
 rintro _
 refine aC (aG (sL []) (d1 6 R (lM _ (fun w s=>((((((s.d 3 R).d 5 R).d 7 R).d 9 R).dg 11 R).e 7 [4,3,2,1,0,5,6])) ?_)))
 refine bX 5 R (cA j) vJ R (Z1u_ok (bN L (cT j))) R ?_
 rintro _
 refine aC (aG (sL []) ?_)
 refine ub 7 [] ?_
 refine dD ?_
 exact qj (tE 2 [1,0])
 rintro σ1
 refine bT ?_
 split at l
 refine cY ?_
 cases l
 exact jI (none,0,0) (fun w s=>((s.nilr kT3).e 9 [0,1]))
 refine b' ?_
 refine bL (K:=bG) (xs:=([]:List (List Int))) (vs:=[]) 0 R R iT eR jK R R R R R R ?_ R (fun ab ae=>?_)
 exact fun I h s=>(lL).list [] I h s
 refine bH ?_
 refine bC (A:=((List (List Int)))×(HH)) (fun a=>Zg_J1 i D a.1=some r) (fun a=>[(2,(pt b8 0)),(6,(cV D (q,u,B))),(7,(s3 a.2))]) (fun a=>eS D (q,u,B)::ow (bG).share 36 (s3 a.2) a.1::OO (bG).share 36 A7 D7 b::W1) ?_ ?_
 refine cY ?_
 obtain ⟨e1,ak,a7⟩:=bd l
 refine bF (A:=HH×HH) ak (fun s a=>[(1,(sc A7 b D7)),(2,(pt b8 0)),(6,(cV D (q,u,B))),(7,(s3 a.1)),(30,(s3 a.2)),(31,(il i.Args)),(32,(iv s.2))]) (fun s a=>OO (bG).share 36 A7 D7 b::eS D (q,u,B)::ow (bG).share 36 (s3 a.1) s.1::aO kT3 (s3 a.2) i.Args::W1) ((ab,([]:List (List Int)).length,ae),(A2,i.Args.length,D2)) (aS R) (fun w s=>(((s.wk 0 R).d 4 R).e 4 [2,3,1,0])) ?_
 rintro ⟨g,m⟩ ⟨⟨M,ah,O⟩,⟨an,ai,T⟩⟩ σ1 am l a4
 dsimp only [Zg_L1] at l
 refine bI 2 dC (fun (G:ah=g.length)=>?_)
 subst G
 refine bI 3 aA (fun (G:ai=i.Args.length)=>?_)
 subst G
 refine bV ?_
 split at l
 refine bV ?_
 obtain ⟨a5,l⟩:=gd l
 refine aE (bA 3 aA (show 0<i.Args.length by have:=a5; omega) (fun U o42 ha=>?_))
 subst ha
 refine dO ?_
 refine cQ [(1,(sc A7 b D7)),(2,(pt b8 0)),(6,(cV D (q,u,B))),(7,(sc M g O)),(9,(iv (ix i.Args m))),(30,(sc (ad U o42) i.Args T)),(31,(il i.Args)),(32,(iv m)),(43,(.bool ((decide ((ix i.Args m)<0))||(decide ((ix i.Args m)≥(b.length:Int))))))] (OO (bG).share 36 A7 D7 b::eS D (q,u,B)::OO (bG).share 36 M O g::RR kT3 (ad U o42) T i.Args::W1) ?_ ?_
 refine bH ?_
 rcases bo (decide ((ix i.Args m)<0)) with a3 | a3
 refine bV ?_
 exact qj tI
 refine bV ?_
 exact qj tI
 rintro σ1
 refine bT ?_
 split at l
 refine iD ?_
 cases l
 obtain rfl:=a4 _ R
 have l:=a7
 refine aP ?_
 cases l
 exact jI (none,0,0) (fun w s=>((s.nilr kT3).e 11 [0,1]))
 refine aP ?_
 obtain ⟨E,l⟩:=gd l
 obtain ⟨a6,l⟩:=gd l
 refine bH ?_
 refine bA 0 dC (show 0<b.length by have:=E; omega) (fun av o47 ha=>?_)
 subst ha
 refine bT ?_
 refine nr (K:=(bG).share) (fo:=0) 0 (ix i.Args m) R R cK dT36.own (fun _ _=>R) R R E.1 E.2 ?_
 rintro ⟨Y,a0⟩
 refine lM _ (fun w s=>(s.d 0 R)) ?_
 refine bL (K:=(bG).share) (xs:=([(ix b (ix i.Args m))]:List (List Int))) (vs:=[(sc Y (ix b (ix i.Args m)) a0)]) 1 R R iT eR jK R R R R R R ?_ R (fun ao aq=>?_)
 exact fun I h s=>(oc).list [((sc Y (ix b (ix i.Args m)) a0),(ix b (ix i.Args m)))] I h s
 refine lM _ (tE 6 [4,0,1,2,3,5]) ?_
 refine eC (K:=(bG).share) 5864062014805 R R iT eR p7 (Zr.zk (Zr.share zT36) jK) R R R R R R dM a6 (fun Z a1=>(lN (OO (bG).share 36 Z a1 (g++([(ix b (ix i.Args m))]:List (List Int)))::_::_::_::_::W1) ?_))
 refine dA ?_
 cases l
 exact qA ((Z,(g++([(ix b (ix i.Args m))]:List (List Int))).length,a1),((ad U o42),i.Args.length,T)) (tE 5 [2,3,0,4])
 refine aP ?_
 cases l
 obtain rfl:=a4 _ R
 have l:=a7
 refine aU ?_
 exact qI (g,(M,g.length,O)) l (tE 4 [1,2,0])
 rintro ⟨F,⟨ap,aj,ar⟩⟩ σ1 l
 dsimp only [Zg_J1] at l
 refine bI 1 dC (fun (G:aj=F.length)=>?_)
 subst G
 refine bT ?_
 obtain ⟨al,a9,l⟩:=bd l
 refine aE (lO (vp _ R) ?_)
 refine aU ?_
 refine hW (fun w s=>s.shs 1 R) (lM _ (fun w s=>(((((((s.d 4 R).d 6 R).d 8 R).d 10 R).d 4 R).dg 13 R).e 9 [7,5,4,3,2,1,0,6,8])) ?_)
 refine rV 7 R R R (li a9) R ?_
 rintro ⟨ac,au,ag⟩
 refine aL 0 aA ?_
 rintro rfl
 refine dO ?_
 cases l
 exact jI (ac,al.1.length,ag) (tE 10 [0,3])
theorem Zk_ok  {g1:Graph}{mG:Int}{r:(List (List Int))×Bool}(b:Zk g1=some r) :
 FnOk Tryz.prog 140 [(.agg [(.slice A2 N2 D2),(.slice A3 N3 D3)].toArray)] [aO cB (.slice A2 N2 D2) g1.Nodes,aO kT3 (.slice A3 N3 D3) g1.Outs,gl 0 mG] (fun (h:HH)=>((.tuple [(s3 h),(.bool r.2)].toArray),[ow (bG).share 36 (s3 h) r.1])):=by
 unfold Zk at b
 refine aR Tryz.func140 R 60 R R fun C V=>?_
 refine cL 0 aA ?_
 rintro rfl
 refine cL 1 aA ?_
 rintro rfl
 let W0:=RR cB A2 D2 g1.Nodes::RR kT3 A3 D3 g1.Outs::gl 0 mG::V
 refine cN W0 ?_
 refine aU ?_
 refine eE R fun G=>?_
 refine aP ?_
 let B:=aJ G [(sc A2 g1.Nodes D2),(sc A3 g1.Outs D3)] 67::W0
 refine qN B ?_
 refine aP ?_
 refine cQ [(1,(pt G 0)),(20,(.bool ((decide ((g1.Nodes.length:Int)>200))||(decide ((g1.Outs.length:Int)>40)))))] (B) ?_ ?_
 refine bV ?_
 rcases bo (decide ((g1.Nodes.length:Int)>200)) with ak | ak
 refine bV ?_
 exact qj tI
 refine bV ?_
 exact qj tI
 rintro σ1
 refine bT ?_
 split at b
 refine cY ?_
 cases b
 exact jI (none,0,0) (fun w s=>((s.nilo (bG).share 36).e 5 [0]))
 refine b' ?_
 refine bL (K:=bG) (xs:=([]:List (List Int))) (vs:=[]) 0 R R iT eR jK R R R R R R ?_ R (fun A7 D7=>?_)
 exact fun I h s=>(lL).list [] I h s
 refine bH ?_
 refine bC (A:=((List (List Int)))×(HH)) (fun a=>Zk_J1 g1 a.1=some r) (fun a=>[(1,(pt G 0)),(4,(s3 a.2))]) (fun a=>ow (bG).share 36 (s3 a.2) a.1::B) ?_ ?_
 refine cY ?_
 obtain ⟨e1,al,a9⟩:=bd b
 refine bF (A:=HH) al (fun s a=>[(1,(pt G 0)),(4,(s3 a)),(23,(sc A2 g1.Nodes D2)),(24,(il g1.Nodes)),(25,(iv s.2))]) (fun s a=>ow (bG).share 36 (s3 a) s.1::B) (A7,([]:List (List Int)).length,D7) (aS R) (fun w s=>(s.wk 0 R)) ?_
 rintro ⟨u,g⟩ ⟨ac,ag,ae⟩ σ1 an b a5
 dsimp only [Zk_L1] at b
 refine bI 0 dC (fun (hn:ag=u.length)=>?_)
 subst hn
 refine bV ?_
 split at b
 refine bV ?_
 obtain ⟨q,b⟩:=gd b
 refine aE (bA 2 aA (show 0<g1.Nodes.length by have:=q; omega) (fun av o30 ha=>?_))
 subst ha
 refine bT ?_
 refine fS (K:=cB) 2 g dT171.dec R q.1 q.2 ?_
 rintro ⟨-,⟨J,Y⟩,⟨L,Z⟩,⟨M,a0⟩,-,⟨O,a1⟩⟩
 refine lO (vz (.agg [(iv (ix g1.Nodes g).Op),(sc J ((ix g1.Nodes g).Args) Y),(sc L ((ix g1.Nodes g).Dims) Z),(sc M ((ix g1.Nodes g).Ints) a0),(aD (ix g1.Nodes g).Form),(sc O ((ix g1.Nodes g).Data) a1)].toArray) (eF (fo:=0) 0 mx iz R R R R)) (bD R R mw (fun aj=>(aK 0 R R iz R R R R R R (lN (aJ aj [(iv (ix g1.Nodes g).Op),(sc J ((ix g1.Nodes g).Args) Y),(sc L ((ix g1.Nodes g).Dims) Z),(sc M ((ix g1.Nodes g).Ints) a0),(aD (ix g1.Nodes g).Form),(sc O ((ix g1.Nodes g).Data) a1)] 171::_::_::_::_::_::_::B) ?_))))
 refine aP ?_
 obtain ⟨m,ab,b⟩:=bd b
 refine aP ?_
 refine lM _ (fun w s=>((((((s.d 2 R).d 4 R).d 6 R).d 8 R).dg 14 R).e 12 [4,3,2,1,11,0,5,6,7,8,9,10])) ?_
 refine lC 6 zU R (Zg_ok ab) R ?_
 rintro ⟨T,au,a2⟩
 refine aL 0 aA ?_
 rintro rfl
 refine lO (vT R) ?_
 refine lK ?_
 split at b
 refine iD ?_
 cases b
 obtain rfl:=a5 _ R
 have b:=a9
 refine aP ?_
 cases b
 exact jI (none,0,0) (fun w s=>((s.nilo (bG).share 36).e 13 [0]))
 refine aP ?_
 obtain ⟨a7,b⟩:=gd b
 refine aP ?_
 refine lM _ (fun w s=>(s.d 0 R)) ?_
 refine bL (K:=(bG).share) (xs:=([m.1]:List (List Int))) (vs:=[(sc T m.1 a2)]) 1 R R iT eR jK R R R R R R ?_ R (fun ap ar=>?_)
 exact fun I h s=>(oc).list [((sc T m.1 a2),m.1)] I h s
 refine lM _ (fun w s=>(s.f 9 [2,1,0,2,3,6])) ?_
 refine eC (K:=(bG).share) 5864062014805 R R iT eR p7 (Zr.zk (Zr.share zT36) jK) R R R R R R dM a7 (fun U a3=>(lN (OO (bG).share 36 U a3 (u++([m.1]:List (List Int)))::_::_::_::_::_::_::_::B) ?_))
 refine dA ?_
 cases b
 exact qA (U,(u++([m.1]:List (List Int))).length,a3) (tE 8 [0])
 refine aP ?_
 cases b
 obtain rfl:=a5 _ R
 have b:=a9
 refine aU ?_
 exact qI (u,(ac,u.length,ae)) b tI
 rintro ⟨i,⟨j,ah,l⟩⟩ σ1 b
 dsimp only [Zk_J1] at b
 refine bI 0 dC (fun (hn:ah=i.length)=>?_)
 subst hn
 refine aM (bC (A:=(Unit)×(Unit)) (fun a=>Zk_J2 i=some r) (fun a=>[(4,(sc j i l))]) (fun a=>OO (bG).share 36 j l i::B) ?_ ?_)
 refine cY ?_
 obtain ⟨e2,am,aa⟩:=bd b
 refine bF (A:=HH) am (fun s a=>[(1,(pt G 0)),(4,(sc j i l)),(43,(s3 a)),(44,(il g1.Outs)),(45,(iv s))]) (fun s a=>OO (bG).share 36 j l i::aO kT3 (s3 a) g1.Outs::B) (A3,g1.Outs.length,D3) (aS R) (fun w s=>((s.d 3 R).e 2 [1,0])) ?_
 rintro D ⟨aq,ai,E⟩ σ1 ao b a6
 dsimp only [Zk_L2] at b
 refine bI 1 aA (fun (hn:ai=g1.Outs.length)=>?_)
 subst hn
 refine bV ?_
 split at b
 refine bV ?_
 obtain ⟨a8,b⟩:=gd b
 refine aE (bA 1 aA (show 0<g1.Outs.length by have:=a8; omega) (fun F o59 ha=>?_))
 subst ha
 refine bV ?_
 refine cQ [(1,(pt G 0)),(4,(sc j i l)),(43,(sc (ad F o59) g1.Outs E)),(44,(il g1.Outs)),(45,(iv D)),(57,(.bool ((decide ((ix g1.Outs D)<0))||(decide ((ix g1.Outs D)≥(g1.Nodes.length:Int))))))] (OO (bG).share 36 j l i::RR kT3 (ad F o59) E g1.Outs::B) ?_ ?_
 refine bH ?_
 rcases bo (decide ((ix g1.Outs D)<0)) with a4 | a4
 refine dO ?_
 exact qj tI
 refine dO ?_
 exact qj tI
 rintro σ1
 refine bT ?_
 split at b
 refine cU ?_
 cases b
 obtain rfl:=a6 _ R
 have b:=aa
 refine aP ?_
 cases b
 exact jI (none,0,0) (fun w s=>((s.nilo (bG).share 36).e 7 [0]))
 refine dA ?_
 cases b
 exact qA ((ad F o59),g1.Outs.length,E) tI
 refine aP ?_
 cases b
 obtain rfl:=a6 _ R
 have b:=aa
 refine aU ?_
 exact qI ((),()) b (tE 2 [0])
 rintro ⟨_,_⟩ σ1 b
 dsimp only [Zk_J2] at b
 refine dA ?_
 cases b
 exact jI (j,i.length,l) (tE 5 [0])
theorem Ze_ok  {g1:Graph}{r:(List Bool)}(e:Ze g1=some r) :
 FnOk Tryz.prog 141 [(.agg [(.slice A2 N2 D2),(.slice A3 N3 D3)].toArray)] [aO cB (.slice A2 N2 D2) g1.Nodes,aO kT3 (.slice A3 N3 D3) g1.Outs] (fun (h:HH)=>((s3 h),[ow iy 4 (s3 h) r])):=by
 unfold Ze at e
 refine aR Tryz.func141 R 58 R R fun C V=>?_
 refine cL 0 aA ?_
 rintro rfl
 refine cL 1 aA ?_
 rintro rfl
 let W0:=RR cB A2 D2 g1.Nodes::RR kT3 A3 D3 g1.Outs::V
 refine cN W0 ?_
 refine aU ?_
 refine eE R fun J=>?_
 refine aU ?_
 let E:=aJ J [(sc A2 g1.Nodes D2),(sc A3 g1.Outs D3)] 67::W0
 refine qN E ?_
 refine aU ?_
 obtain ⟨M,e⟩:=gd e
 refine bH ?_
 refine eW (K:=iy) (m:=(g1.Nodes.length:Int)) (z:=false) R R lE sk Bx (Zr.zk Bv By) (by decide) R R M.1 M.2.1 M.2.2 (fun A6 D6=>(lS R (aC (aI (aM (bC (A:=((List Bool))×(Unit)) (fun a=>Ze_J1 g1 a.1=some r) (fun a=>[(1,(pt J 0)),(3,(sc A6 (List.replicate (g1.Nodes.length:Int).toNat false) D6))]) (fun a=>ow iy 4 (.slice A6 (List.replicate (g1.Nodes.length:Int).toNat false).length D6) a.1::E) ?_ ?_))))))
 refine cY ?_
 obtain ⟨e1,a8,a5⟩:=bd e
 refine bF (A:=Unit) a8 (fun s a=>[(1,(pt J 0)),(3,(sc A6 (List.replicate (g1.Nodes.length:Int).toNat false) D6)),(14,(sc A3 g1.Outs D3)),(15,(il g1.Outs)),(16,(iv s.2))]) (fun s a=>ow iy 4 (.slice A6 (List.replicate (g1.Nodes.length:Int).toNat false).length D6) s.1::E) () (aS R) tI ?_
 rintro ⟨ac,ae⟩ _ σ1 ah e a2
 dsimp only [Ze_L1] at e
 refine bV ?_
 split at e
 refine bV ?_
 obtain ⟨O,e⟩:=gd e
 refine aE (bA 3 aA (show 0<g1.Outs.length by have:=O; omega) (fun au o21 F=>?_))
 subst F
 refine b' ?_
 obtain ⟨q,e⟩:=gd e
 refine aP ?_
 refine bA 0 aB (show 0<(List.replicate (g1.Nodes.length:Int).toNat false).length by have:=q; omega) (fun av o24 F=>?_)
 subst F
 refine bT ?_
 refine dX (K:=iy) (x':=true) 0 (ix g1.Outs ae) R R sk R R q.1 q.2 ?_ ?_
 exact fun I h s=>(Aw).put I h () true s
 refine dO ?_
 cases e
 exact qA () tI
 refine aP ?_
 cases e
 obtain rfl:=a2 _ R
 have e:=a5
 refine aU ?_
 exact qI (ac,()) e tI
 rintro ⟨ax,_⟩ σ1 e
 dsimp only [Ze_J1] at e
 refine aM (bC (A:=((List Bool))×(Unit)) (fun a=>Ze_J4 a.1=some r) (fun a=>[(3,(sc A6 (List.replicate (g1.Nodes.length:Int).toNat false) D6))]) (fun a=>ow iy 4 (.slice A6 (List.replicate (g1.Nodes.length:Int).toNat false).length D6) a.1::E) ?_ ?_)
 refine cU ?_
 obtain ⟨e2,a9,a6⟩:=bd e
 refine bF (A:=Unit) a9 (fun s a=>[(1,(pt J 0)),(3,(sc A6 (List.replicate (g1.Nodes.length:Int).toNat false) D6)),(6,(iv s.2))]) (fun s a=>ow iy 4 (.slice A6 (List.replicate (g1.Nodes.length:Int).toNat false).length D6) s.1::E) () (aS R) tI ?_
 rintro ⟨ag,b⟩ _ σ1 U e a3
 dsimp only [Ze_L2] at e
 refine dO ?_
 split at e
 refine bH ?_
 refine bC (A:=((List Bool))×(Unit)) (fun a=>Ze_J3 b a.1=some U) (fun a=>[(1,(pt J 0)),(3,(sc A6 (List.replicate (g1.Nodes.length:Int).toNat false) D6)),(6,(iv b))]) (fun a=>ow iy 4 (.slice A6 (List.replicate (g1.Nodes.length:Int).toNat false).length D6) a.1::E) ?_ ?_
 refine aU ?_
 obtain ⟨u,e⟩:=gd e
 refine bH ?_
 refine bA 2 aA (show 0<g1.Nodes.length by have:=u; omega) (fun a1 o70 F=>?_)
 subst F
 refine bT ?_
 refine lO (vz (.pointer (some ⟨a1,o70+b.toNat*6+1,none⟩)) (kp m7 R R)) (fS (K:=cB) 2 b dT171.dec R u.1 u.2 ?_)
 rintro ⟨-,⟨Y,Z⟩,⟨al,ap⟩,⟨am,aq⟩,-,⟨an,ar⟩⟩
 refine lO (eD (fo:=1) 0 cK R R R) ?_
 refine b' ?_
 obtain ⟨e3,aa,a7⟩:=bd e
 refine bF (A:=HH) aa (fun s a=>[(1,(pt J 0)),(3,(sc A6 (List.replicate (g1.Nodes.length:Int).toNat false) D6)),(6,(iv b)),(37,(s3 a)),(38,(il ((ix g1.Nodes b).Args))),(39,(iv s.2))]) (fun s a=>ow iy 4 (.slice A6 (List.replicate (g1.Nodes.length:Int).toNat false).length D6) s.1::aO kT3 (s3 a) (ix g1.Nodes b).Args::E) (Y,((ix g1.Nodes b).Args).length,Z) (aS R) (tE 6 [5,1]) ?_
 rintro ⟨g,j⟩ ⟨ao,a0,G⟩ σ1 ai e a4
 dsimp only [Ze_L3] at e
 refine bI 1 aA (fun (hn:a0=((ix g1.Nodes b).Args).length)=>?_)
 subst hn
 refine bV ?_
 split at e
 refine bV ?_
 obtain ⟨T,e⟩:=gd e
 refine aE (bA 1 aA (show 0<((ix g1.Nodes b).Args).length by have:=T; omega) (fun L o92 F=>?_))
 subst F
 refine b' ?_
 obtain ⟨l,e⟩:=gd e
 obtain ⟨B,e⟩:=gd e
 refine cQ [(1,(pt J 0)),(3,(sc A6 (List.replicate (g1.Nodes.length:Int).toNat false) D6)),(6,(iv b)),(37,(sc (ad L o92) ((ix g1.Nodes b).Args) G)),(38,(il ((ix g1.Nodes b).Args))),(39,(iv j))] (ow iy 4 (.slice A6 (List.replicate (g1.Nodes.length:Int).toNat false).length D6) (g.set (ix ((ix g1.Nodes b).Args) j).toNat ((ix g (ix ((ix g1.Nodes b).Args) j))||(ix g b)))::RR kT3 (ad L o92) G ((ix g1.Nodes b).Args)::E) ?_ ?_
 refine b' ?_
 refine bA 0 aB (show 0<(List.replicate (g1.Nodes.length:Int).toNat false).length by have:=l; omega) (fun aw o95 F=>?_)
 subst F
 refine bT ?_
 refine lO (vz (.bool (ix g (ix ((ix g1.Nodes b).Args) j))) (hY (K:=iy) (fo:=0) (pr:=fun x=>(.bool x)) 0 (ix ((ix g1.Nodes b).Args) j) xS (dT4.leaf fun _ _=>R) aB R l.1 l.2)) (lB R ?_)
 rcases bo (ix g (ix ((ix g1.Nodes b).Args) j)) with i | i
 refine bH ?_
 refine lO (fB (ix g b) R i) ?_
 refine bT ?_
 refine dX (K:=iy) (x':=((ix g (ix ((ix g1.Nodes b).Args) j))||(ix g b))) 0 (ix ((ix g1.Nodes b).Args) j) R R sk R R l.1 l.2 ?_ ?_
 exact fun I h s=>(Aw).put I h () ((ix g (ix ((ix g1.Nodes b).Args) j))||(ix g b)) s
 refine bT ?_
 exact qj tI
 refine aU ?_
 refine lW (cA i) (eJ lE sk R R (B i)) (lW (cA i) (vz (.bool (ix g b)) (hY (K:=iy) (fo:=0) (pr:=fun x=>(.bool x)) 0 b xS (dT4.leaf fun _ _=>R) aB R (B i).1 (B i).2)) (lO (fU R i R) ?_))
 refine bT ?_
 refine dX (K:=iy) (x':=((ix g (ix ((ix g1.Nodes b).Args) j))||(ix g b))) 0 (ix ((ix g1.Nodes b).Args) j) R R sk R R l.1 l.2 ?_ ?_
 exact fun I h s=>(Aw).put I h () ((ix g (ix ((ix g1.Nodes b).Args) j))||(ix g b)) s
 refine bT ?_
 exact qj tI
 rintro σ1
 obtain ⟨ab,D,e⟩:=bd e
 replace D:=Option.some.inj D
 refine qM (ow iy 4 (.slice A6 (List.replicate (g1.Nodes.length:Int).toNat false).length D6) ab::_::E) (fun w s=>by rw [← D]; exact s) ?_
 refine bV ?_
 cases e
 exact qA ((ad L o92),((ix g1.Nodes b).Args).length,G) tI
 refine aP ?_
 cases e
 obtain rfl:=a4 _ R
 have e:=a7
 refine aP ?_
 exact qI (g,()) e (tE 2 [0])
 rintro ⟨aj,_⟩ σ1 e
 dsimp only [Ze_J3] at e
 refine b' ?_
 cases e
 exact qA () tI
 refine aP ?_
 cases e
 obtain rfl:=a3 _ R
 have e:=a6
 refine aU ?_
 exact qI (ag,()) e tI
 rintro ⟨ak,_⟩ σ1 e
 dsimp only [Ze_J4] at e
 refine dO ?_
 cases e
 exact qF (A6,(List.replicate (g1.Nodes.length:Int).toNat false).length,D6) (tE 4 [0])
theorem Z2y_ok  {e:Int}{b:(List (List Int))}{g:Nat}{r:(List Int)}(i:Z2y e b=some r) :
 FnOk Tryz.prog 143 [(iv e),(pt g 0)] [aO bG (.slice A4 N4 D4) b,aJ g [(.slice A4 N4 D4)] 84] (fun (h:HH)=>((s3 h),[aO kT3 (s3 h) r,aJ g [(.slice A4 N4 D4)] 84])):=by
 unfold Z2y at i
 refine aR Tryz.func143 R 8 R R fun C V=>?_
 refine cM _ (tE 2 [1,0]) ?_
 refine cL 1 aA ?_
 rintro rfl
 let j:=RR bG A4 D4 b::V
 refine bH ?_
 let l:=aJ g [(sc A4 b D4)] 84::j
 refine qN l ?_
 refine aU ?_
 obtain ⟨a,i⟩:=gd i
 refine aP ?_
 refine bA 1 aA (show 0<b.length by have:=a; omega) (fun q o7 m=>?_)
 subst m
 refine bT ?_
 refine fS (K:=bG) 1 e dT36.dec R a.1 a.2 ?_
 rintro ⟨A8,D8⟩
 refine lO (eD (fo:=0) 0 cK R R R) ?_
 refine bH ?_
 cases i
 exact qF (A8,(ix b e).length,D8) (tE 4 [1,2])
theorem Z0m_ok  {b:(List Int)}{D:(List (List Int))}{j:Nat}{r:(List (List Int))}(g:Z0m b D=some r) :
 FnOk Tryz.prog 142 [(.slice A2 N2 D2),(.func (.func 143) [].toArray [(pt j 0)].toArray)] [aO kT3 (.slice A2 N2 D2) b,aO bG (.slice A6 N6 D6) D,aJ j [(.slice A6 N6 D6)] 84] (fun (h:HH)=>((s3 h),[ow (bG).share 36 (s3 h) r,aJ j [(.slice A6 N6 D6)] 84])):=by
 unfold Z0m at g
 refine aR Tryz.func142 R 26 R R fun C V=>?_
 refine cM _ (tE 3 [2,0,1]) ?_
 refine cL 1 aA ?_
 rintro rfl
 refine cL 2 aA ?_
 rintro rfl
 let U:=RR kT3 A2 D2 b::RR bG A6 D6 D::V
 refine bV ?_
 obtain ⟨l,g⟩:=gd g
 refine aP ?_
 refine eW (K:=bG) (m:=(b.length:Int)) (z:=([]:(List Int))) R R iT eR p7 (Zr.zk zT36 jK) (by decide) R R l.1 l.2.1 l.2.2 (fun A8 D8=>(lS R (aC (aI (aM (bC (A:=((List (List Int)))×(Unit)) (fun a=>Z0m_J1 a.1=some r) (fun a=>[(5,(sc A8 (List.replicate (b.length:Int).toNat ([]:(List Int))) D8))]) (fun a=>ow (bG).share 36 (.slice A8 (List.replicate (b.length:Int).toNat ([]:(List Int))).length D8) a.1::aJ j [(sc A6 D D6)] 84::U) ?_ ?_))))))
 refine dA ?_
 obtain ⟨e1,M,L⟩:=bd g
 refine bF (A:=Unit) M (fun s a=>[(1,(.func (.func 143) [].toArray [(pt j 0)].toArray)),(5,(sc A8 (List.replicate (b.length:Int).toNat ([]:(List Int))) D8)),(11,(sc A2 b D2)),(12,(il b)),(13,(iv s.2))]) (fun s a=>aJ j [(sc A6 D D6)] 84::ow (bG).share 36 (.slice A8 (List.replicate (b.length:Int).toNat ([]:(List Int))).length D8) s.1::U) () (aS R) (fun w s=>((s.wk 0 R).e 2 [1,0])) ?_
 rintro ⟨O,T⟩ _ σ1 Y g J
 dsimp only [Z0m_L1] at g
 refine bV ?_
 split at g
 refine bV ?_
 obtain ⟨u,g⟩:=gd g
 refine aU ?_
 refine bA 2 aA (show 0<b.length by have:=u; omega) (fun a0 o26 G=>?_)
 subst G
 refine bV ?_
 obtain ⟨q,B,g⟩:=bd g
 obtain ⟨i,g⟩:=gd g
 refine aP ?_
 refine lO (vp _ R) (lI R (lM _ (fun w s=>(s.d 3 R)) ?_))
 refine cC (fs:=[]) (cs:=[(pt j 0)]) 2 R R zX R R (Z2y_ok B) R ?_
 rintro ⟨E,Z,F⟩
 refine aL 0 aA ?_
 rintro rfl
 refine bA 2 dC (show 0<(List.replicate (b.length:Int).toNat ([]:(List Int))).length by have:=i; omega) (fun a1 o32 G=>?_)
 subst G
 refine bT ?_
 refine lM _ (fun w s=>((s.d 0 R).e 4 [3,0,1,2])) ?_
 refine dX (K:=(bG).share) (x':=q) 1 T R R eR R R i.1 i.2 ?_ ?_
 exact fun I h s=>(oc).put I h (sc E q F) q s
 refine dO ?_
 cases g
 exact qA () (tE 3 [2,0])
 refine aP ?_
 cases g
 obtain rfl:=J _ R
 have g:=L
 refine aU ?_
 exact qI (O,()) g (tE 2 [1,0])
 rintro ⟨a2,_⟩ σ1 g
 dsimp only [Z0m_J1] at g
 refine dO ?_
 cases g
 exact qF (A8,(List.replicate (b.length:Int).toNat ([]:(List Int))).length,D8) (tE 4 [0,1])
theorem Zw_ok  {g1:Graph}{mG:Int}{r:Int}(j:Zw g1=some r) :
 FnOk Tryz.prog 43 [(.agg [(.slice A2 N2 D2),(.slice A3 N3 D3)].toArray)] [aO cB (.slice A2 N2 D2) g1.Nodes,aO kT3 (.slice A3 N3 D3) g1.Outs,gl 0 mG] (fun (h:Unit)=>((iv r),[])):=by
 unfold Zw at j
 refine aR Tryz.func43 R 72 R R fun C V=>?_
 refine cL 0 aA ?_
 rintro rfl
 refine cL 1 aA ?_
 rintro rfl
 let W0:=RR cB A2 D2 g1.Nodes::RR kT3 A3 D3 g1.Outs::gl 0 mG::V
 refine cN W0 ?_
 refine aU ?_
 refine eE R fun b4=>?_
 refine aU ?_
 let U:=aJ b4 [(sc A2 g1.Nodes D2),(sc A3 g1.Outs D3)] 67::W0
 refine qN U ?_
 refine aU ?_
 obtain ⟨r5,bc,j⟩:=bd j
 refine aU ?_
 refine lM _ (fun w s=>((((s.d 1 R).d 3 R).dg 5 R).e 3 [2,1,0])) ?_
 refine lC 3 zV R (Zk_ok bc) R ?_
 rintro ⟨A7,N7,D7⟩
 refine aL 0 dC ?_
 rintro rfl
 refine lO (vT R) (lS R (lB R (bD R R B9 (fun b8=>(cP 0 R R wI R R R R R (lN (aJ b8 [(sc A7 r5.1 D7)] 84::_::U) ?_))))))
 refine cU ?_
 split at j
 refine dA ?_
 cases j
 exact qF () (tE 6 [])
 refine cY ?_
 refine bC (A:=(Int)×(Unit)) (fun a=>Zw_J3 a.1=some r) (fun a=>[(5,(iv a.1))]) (fun a=>U) ?_ ?_
 refine bT ?_
 obtain ⟨i,aq,j⟩:=bd j
 refine aU ?_
 refine lM _ (fun w s=>(((s.d 3 R).d 5 R).e 4 [1,0,2,3])) ?_
 refine lC 2 zW R (Ze_ok aq) R ?_
 rintro ⟨A12,N12,D12⟩
 refine aL 0 aB ?_
 rintro rfl
 refine b' ?_
 obtain ⟨e1,bb,ba⟩:=bd j
 refine bF (A:=HH) bb (fun s a=>[(1,(pt b4 0)),(3,(pt b8 0)),(5,(iv s.1)),(19,(s3 a)),(20,(il i)),(21,(iv s.2))]) (fun s a=>aJ b8 [(sc A7 r5.1 D7)] 84::RR bG A7 D7 r5.1::ow iy 4 (s3 a) i::U) (A12,i.length,D12) (aS R) (fun w s=>((s.shs 2 R).e 3 [2,0,1])) ?_
 rintro ⟨l,g⟩ ⟨bg,b0,M⟩ σ1 av j b9
 dsimp only [Zw_L1] at j
 refine bI 2 aB (fun (T:b0=i.length)=>?_)
 subst T
 refine bV ?_
 rcases cF j with ⟨aa,j⟩|⟨aa,j⟩
 refine bH ?_
 refine bC (A:=(Int)×(HH)) (fun a=>Zw_J2 g a.1=some av) (fun a=>[(1,(pt b4 0)),(3,(pt b8 0)),(5,(iv a.1)),(19,(s3 a.2)),(20,(il i)),(21,(iv g))]) (fun a=>aJ b8 [(sc A7 r5.1 D7)] 84::RR bG A7 D7 r5.1::ow iy 4 (s3 a.2) i::U) ?_ ?_
 refine aU ?_
 obtain ⟨Y,j⟩:=gd j
 refine aU ?_
 refine bA 2 aB (show 0<i.length by have:=Y; omega) (fun O o62 ha=>?_)
 subst ha
 refine bT ?_
 refine lO (vz (.bool (ix i g)) (hY (K:=iy) (fo:=0) (pr:=fun x=>(.bool x)) 2 g xS (dT4.leaf fun _ _=>R) aB R Y.1 Y.2)) ?_
 refine b' ?_
 obtain ⟨Z,j⟩:=gd j
 refine bH ?_
 refine bA 4 aA (show 0<g1.Nodes.length by have:=Z; omega) (fun bw o65 ha=>?_)
 subst ha
 refine bT ?_
 refine fS (K:=cB) 4 g dT171.dec R Z.1 Z.2 ?_
 rintro ⟨-,⟨a2,a6⟩,⟨a3,a7⟩,⟨a4,a8⟩,-,⟨a5,a9⟩⟩
 refine lO (vz (.agg [(iv (ix g1.Nodes g).Op),(sc a2 ((ix g1.Nodes g).Args) a6),(sc a3 ((ix g1.Nodes g).Dims) a7),(sc a4 ((ix g1.Nodes g).Ints) a8),(aD (ix g1.Nodes g).Form),(sc a5 ((ix g1.Nodes g).Data) a9)].toArray) (eF (fo:=0) 0 mx iz R R R R)) (bD R R mw (fun ae=>(aK 0 R R iz R R R R R R (lN (aJ ae [(iv (ix g1.Nodes g).Op),(sc a2 ((ix g1.Nodes g).Args) a6),(sc a3 ((ix g1.Nodes g).Dims) a7),(sc a4 ((ix g1.Nodes g).Ints) a8),(aD (ix g1.Nodes g).Form),(sc a5 ((ix g1.Nodes g).Data) a9)] 171::_::_::_::_::_::_::_::_::U) ?_))))
 refine bH ?_
 refine cQ [(1,(pt b4 0)),(3,(pt b8 0)),(5,(iv l)),(6,(iv g)),(8,(pt ae 0)),(19,(sc (ad O o62) i M)),(20,(il i)),(21,(iv g)),(38,(.bool (((!(ix i g))||((ix g1.Nodes g).Op==1))||((ix g1.Nodes g).Op==2))))] (aJ b8 [(sc A7 r5.1 D7)] 84::RR bG A7 D7 r5.1::aJ ae [(iv (ix g1.Nodes g).Op),(sc a2 ((ix g1.Nodes g).Args) a6),(sc a3 ((ix g1.Nodes g).Dims) a7),(sc a4 ((ix g1.Nodes g).Ints) a8),(aD (ix g1.Nodes g).Form),(sc a5 ((ix g1.Nodes g).Data) a9)] 171::RR kT3 a2 a6 ((ix g1.Nodes g).Args)::RR kT3 a3 a7 ((ix g1.Nodes g).Dims)::RR kT3 a4 a8 ((ix g1.Nodes g).Ints)::RR kT3 a5 a9 ((ix g1.Nodes g).Data)::OO iy 4 (ad O o62) M i::U) ?_ ?_
 refine bH ?_
 rcases bo (!(ix i g)) with ao | ao
 refine iD ?_
 exact qj (tE 9 [6,7,0,2,3,4,5,8])
 refine b' ?_
 rcases bo ((!(ix i g))||((ix g1.Nodes g).Op==1)) with ap | ap
 refine bV ?_
 exact qj (tE 9 [6,7,0,2,3,4,5,8])
 refine bV ?_
 exact qj (tE 9 [6,7,0,2,3,4,5,8])
 rintro σ1
 refine bT ?_
 split at j
 refine bH ?_
 exact qI (l,((ad O o62),i.length,M)) j (tE 8 [0,1,7])
 refine cY ?_
 rcases cF j with ⟨ab,j⟩|⟨ab,j⟩
 refine aU ?_
 obtain ⟨c0,ac,j⟩:=bd j
 obtain ⟨b,a1,j⟩:=bd j
 refine iK (A:=(Unit)×(Nat×HH×HH×HH×HH×HH)) (fun _=>True) (fun a=>[(1,(pt b4 0)),(3,(pt b8 0)),(5,(iv l)),(9,(pt a.2.1 0)),(19,(sc (ad O o62) i M)),(20,(il i)),(21,(iv g))]) (fun a=>aJ b8 [(sc A7 r5.1 D7)] 84::RR bG A7 D7 r5.1::aJ a.2.1 [(s3 a.2.2.1),(aD b.1.out_),(aD b.1.order),(s3 a.2.2.2.1),(s3 a.2.2.2.2.1),(s3 a.2.2.2.2.2.1),(s3 a.2.2.2.2.2.2)] 86::aO dQ (s3 a.2.2.1) b.1.groups::aO kT3 (s3 a.2.2.2.1) b.1.loops::ow kT3 3 (s3 a.2.2.2.2.1) b.1.dims::ow bG 36 (s3 a.2.2.2.2.2.1) b.1.steps::ow kT3 3 (s3 a.2.2.2.2.2.2) b.1.store::OO iy 4 (ad O o62) M i::U) ?_ ?_
 refine dF 13 [] bO fun ht T=>?_
 refine nQ 0 [] ?_
 refine dR 4 R (vp (.func (.func 143) [].toArray [(pt b8 0)].toArray) R) (gT [5,10] (by kernel_rfl) R ⟨?_,?_,trivial⟩)
 refine lM _ (fun w s=>(((s.d 3 R).d 2 R).f 10 [1,1,0,1,2,8])) ?_
 refine lC 3 vQ R (Z0m_ok ac) R ?_
 rintro ⟨ay,b1,az⟩
 refine aL 0 dC ?_
 rintro rfl
 refine aC (aG (sL [0]) (gT [6,10] (by kernel_rfl) R ⟨?_,?_,trivial⟩))
 refine hW (fun w s=>s.shs 0 R) (lM _ (fun w s=>(((s.d 0 R).dg 13 R).f 11 [1,1,0,1,2,9])) ?_)
 refine lC 2 uu R (Z0_ok a1) R ?_
 rintro ⟨⟨m,aj,E⟩,⟨q,ak,F⟩,⟨u,al,G⟩,⟨B,am,I⟩,⟨D,an,J⟩⟩
 refine aL 0 aA ?_
 rintro rfl
 refine aL 1 aA ?_
 rintro rfl
 refine aL 2 aB ?_
 rintro rfl
 refine aL 3 aB ?_
 rintro rfl
 refine aL 4 aB ?_
 rintro rfl
 refine aC (aG (sL [5,4,3,2,1,0]) (dR 7 R (vT R) (hS:=(sL [5,4,3,2,1,0])) (dR 8 R (vA R) (hS:=(sL [5,4,3,2,1,0])) ?_)))
 refine m6 9 [5,4,3,2,1,0] ?_
 refine d1 10 R (bD R R lQ (fun L=>(aC (aG (sL [6,5,4,3,2,1,0]) (d1 11 R (aK 0 R R jM R R R R R R (lN (aJ L [(sc m b.1.groups E),(aD b.1.out_),(aD b.1.order),(sc q b.1.loops F),(sc u b.1.dims G),(sc B b.1.steps I),(sc D b.1.store J)] 86::_::_::_::_::_::_::_::_::_::_::_::_::_::_::U) ?_)))))))
 refine aC (aG (sL [6,5,4,3,2,1,0]) ?_)
 refine m6 12 [6,5,4,3,2,1,0] ?_
 refine dD ?_
 exact cJ ((),(L,(m,b.1.groups.length,E),(q,b.1.loops.length,F),(u,b.1.dims.length,G),(B,b.1.steps.length,I),(D,b.1.store.length,J))) trivial (aS R) (fun w s=>(s.f 15 [7,2,0,6,14,1]))
 refine bD R R lQ (fun L=>(aC (aG (sL [1,0]) (d1 6 R (hW (fun w s=>s.shs 1 R) (lM _ (fun w s=>(((s.d 0 R).dg 14 R).f 12 [1,1,0,1,2,10])) ?_))))))
 refine lC 2 uu R (Z0_ok a1) R ?_
 rintro ⟨⟨m,aj,E⟩,⟨q,ak,F⟩,⟨u,al,G⟩,⟨B,am,I⟩,⟨D,an,J⟩⟩
 refine aL 0 aA ?_
 rintro rfl
 refine aL 1 aA ?_
 rintro rfl
 refine aL 2 aB ?_
 rintro rfl
 refine aL 3 aB ?_
 rintro rfl
 refine aL 4 aB ?_
 rintro rfl
 refine aC (aG (sL [6,5,4,3,2,1,0]) (dR 7 R (vT R) (hS:=(sL [6,5,4,3,2,1,0])) (dR 8 R (vA R) (hS:=(sL [6,5,4,3,2,1,0])) ?_)))
 refine m6 9 [6,5,4,3,2,1,0] ?_
 refine d1 11 R (aK 6 R R jM R R R R R R (lN (_::_::_::_::_::_::aJ L [(sc m b.1.groups E),(aD b.1.out_),(aD b.1.order),(sc q b.1.loops F),(sc u b.1.dims G),(sc B b.1.steps I),(sc D b.1.store J)] 86::_::_::_::_::_::_::_::_::U) ?_))
 refine aC (aG (sL [6,5,4,3,2,1,0]) ?_)
 refine m6 12 [6,5,4,3,2,1,0] ?_
 refine dD ?_
 exact cJ ((),(L,(m,b.1.groups.length,E),(q,b.1.loops.length,F),(u,b.1.dims.length,G),(B,b.1.steps.length,I),(D,b.1.store.length,J))) trivial (aS R) (fun w s=>(s.f 15 [7,2,6,1,0,5,14,1]))
 refine bD R R lQ (fun L=>(aC (aG (sL [0]) (d1 5 R (lM _ (fun w s=>(((s.d 4 R).d 3 R).f 11 [1,1,0,1,3,1,2,1,4,7])) ?_)))))
 refine lC 3 vQ R (Z0m_ok ac) R ?_
 rintro ⟨ay,b1,az⟩
 refine aL 0 dC ?_
 rintro rfl
 refine aC (aG (sL [2,0]) (d1 6 R (hW (fun w s=>s.shs 0 R) (lM _ (fun w s=>(((s.d 0 R).dg 14 R).f 12 [1,1,0,1,2,10])) ?_))))
 refine lC 2 uu R (Z0_ok a1) R ?_
 rintro ⟨⟨m,aj,E⟩,⟨q,ak,F⟩,⟨u,al,G⟩,⟨B,am,I⟩,⟨D,an,J⟩⟩
 refine aL 0 aA ?_
 rintro rfl
 refine aL 1 aA ?_
 rintro rfl
 refine aL 2 aB ?_
 rintro rfl
 refine aL 3 aB ?_
 rintro rfl
 refine aL 4 aB ?_
 rintro rfl
 refine aC (aG (sL [7,5,4,3,2,1,0]) (dR 7 R (vT R) (hS:=(sL [7,5,4,3,2,1,0])) (dR 8 R (vA R) (hS:=(sL [7,5,4,3,2,1,0])) ?_)))
 refine m6 9 [7,5,4,3,2,1,0] ?_
 refine d1 11 R (aK 7 R R jM R R R R R R (lN (_::_::_::_::_::_::_::aJ L [(sc m b.1.groups E),(aD b.1.out_),(aD b.1.order),(sc q b.1.loops F),(sc u b.1.dims G),(sc B b.1.steps I),(sc D b.1.store J)] 86::_::_::_::_::_::_::_::U) ?_))
 refine aC (aG (sL [7,5,4,3,2,1,0]) ?_)
 refine m6 12 [7,5,4,3,2,1,0] ?_
 refine dD ?_
 exact cJ ((),(L,(m,b.1.groups.length,E),(q,b.1.loops.length,F),(u,b.1.dims.length,G),(B,b.1.steps.length,I),(D,b.1.store.length,J))) trivial (aS R) (tE 15 [6,8,7,0,1,2,3,4,14])
 rintro ⟨_,⟨bv,⟨bh,b2,bn⟩,⟨bi,b3,bp⟩,⟨bj,b5,bq⟩,⟨bk,b6,br⟩,⟨bl,b7,bs⟩⟩⟩ σ1 -
 refine fW 3 aA (fun (T:b2=b.1.groups.length)=>?_)
 subst T
 refine fW 4 aA (fun (T:b3=b.1.loops.length)=>?_)
 subst T
 refine fW 5 aB (fun (T:b5=b.1.dims.length)=>?_)
 subst T
 refine fW 6 aB (fun (T:b6=b.1.steps.length)=>?_)
 subst T
 refine fW 7 aB (fun (T:b7=b.1.store.length)=>?_)
 subst T
 refine bT ?_
 obtain ⟨be,ar,j⟩:=bd j
 refine bH ?_
 refine lM _ (fun w s=>(s.d 4 R)) ?_
 refine lC 1 kL R (Z9_ok ar) R ?_
 rintro _
 refine b' ?_
 exact qI ((aH (l+be)),((ad O o62),i.length,M)) j (tE 9 [0,1,8])
 refine bJ R ab ?_
 obtain ⟨a0,j⟩:=gd j
 obtain ⟨bf,au,j⟩:=bd j
 refine bH ?_
 refine bA 1 aA (show 0<r5.1.length by have:=a0; omega) (fun bz o96 ha=>?_)
 subst ha
 refine bT ?_
 refine fS (K:=bG) 1 g dT36.dec R a0.1 a0.2 ?_
 rintro ⟨bm,bu⟩
 refine lO (eD (fo:=0) 0 cK R R R) (lM _ (fun w s=>(s.d 1 R)) ?_)
 refine lC 1 kL R (Z9_ok au) R ?_
 rintro _
 refine b' ?_
 exact qI ((aH (l+bf)),((ad O o62),i.length,M)) j (tE 10 [2,3,9])
 rintro ⟨aw,⟨ag,ai,ah⟩⟩ σ1 j
 dsimp only [Zw_J2] at j
 refine bI 2 aB (fun (T:ai=i.length)=>?_)
 subst T
 refine bH ?_
 cases j
 exact qA (ag,i.length,ah) tI
 refine bJ R aa ?_
 refine aU ?_
 cases j
 obtain rfl:=b9 _ R
 have j:=ba
 refine aU ?_
 exact qI (l,()) j (tE 3 [])
 rintro ⟨ax,_⟩ σ1 j
 dsimp only [Zw_J3] at j
 refine dO ?_
 cases j
 exact qF () (tE 4 [])
end Go.Proofs.YtmpnollfdpdipaaGreatDoor
