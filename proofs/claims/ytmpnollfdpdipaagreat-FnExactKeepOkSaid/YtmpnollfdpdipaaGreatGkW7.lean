import Derived.Test.YtmpnollfdpdipaaGreatGkF
import Derived.Test.YtmpnollfdpdipaaGreatGkW1
import Derived.Test.YtmpnollfdpdipaaGreatGkW5
import Derived.Test.YtmpnollfdpdipaaGreatGkW6
set_option linter.unusedVariables false
set_option maxRecDepth 20000
namespace Go.Proofs.YtmpnollfdpdipaaGreat
open Go Go.Pg
variable {A2 A3 A4 A5 A7 A9 A10 A11 A12 A14:Option Addr}{D2 D3 D4 D5 D7 D9 D10 D11 D12 D14 N2 N3 N4 N5 N7 N9 N10 N11 N12 N14:Nat}
theorem Z1l_ok  {k1:shiftKind}{F:Int}{G:Int}{b:Node}{a:(List (List Int))}{j:Nat}{l:Nat}{m:Nat}{r:(List Int)×Bool}(i:Z1l k1 F G b a=some r) :
 FnOk Tryz.prog 220 [(.agg [(aD k1.use),(.func (.func 149) [].toArray [(pt j 0),(pt l 0),(pt m 0)].toArray)].toArray),(.agg [(iv b.Op),(.slice A9 N9 D9),(.slice A10 N10 D10),(.slice A11 N11 D11),(aD b.Form),(.slice A12 N12 D12)].toArray),(.slice A14 N14 D14)] [aI j [(iv F)] 3,aI l [(iv G)] 3,aI m [(.func (.func 127) [].toArray [].toArray)] 150,aN kT3 (.slice A9 N9 D9) b.Args,aN kT3 (.slice A10 N10 D10) b.Dims,aN kT3 (.slice A11 N11 D11) b.Ints,aN kT3 (.slice A12 N12 D12) b.Data,aN bL (.slice A14 N14 D14) a] (fun (h:HH)=>((.tuple [(s3 h),(.bool r.2)].toArray),[ow kT3 3 (s3 h) r.1,aI j [(iv F)] 3,aI l [(iv G)] 3,aI m [(.func (.func 127) [].toArray [].toArray)] 150])):=by
 unfold Z1l at i
 refine aQ Tryz.func220 R 27 R R fun C V=>?_
 refine cL 3 aA ?_
 rintro rfl
 refine cL 4 aA ?_
 rintro rfl
 refine cL 5 aA ?_
 rintro rfl
 refine cL 6 aA ?_
 rintro rfl
 refine cL 7 aA ?_
 rintro rfl
 let Y:=RR kT3 A9 D9 b.Args::RR kT3 A10 D10 b.Dims::RR kT3 A11 D11 b.Ints::RR kT3 A12 D12 b.Data::RR bL A14 D14 a::V
 refine aR ?_
 refine eA R fun D=>?_
 refine eA R fun E=>?_
 refine aP ?_
 refine qM _ (fun w s=>(s.f 5 [2,3,0,2])) ?_
 let W1:=aI E [(iv b.Op),(sc A9 b.Args D9),(sc A10 b.Dims D10),(sc A11 b.Ints D11),(aD b.Form),(sc A12 b.Data D12)] 54::aI D [(aD k1.use),(.func (.func 149) [].toArray [(pt j 0),(pt l 0),(pt m 0)].toArray)] 145::Y
 refine cO ?_
 split at i
 refine cO ?_
 cases i
 exact jl (none,0,0) (fun w s=>((s.nilo kT3 3).f 11 [0,4]))
 refine bF ?_
 obtain ⟨g,i⟩:=gd i
 obtain ⟨I,q,i⟩:=bd i
 refine aY 9 aA (show 0<a.length by have:=g; omega) (fun Z o20 ha=>?_)
 subst ha
 refine dE (K:=bL) 9 (0:Int) dT23.dec R g.1 g.2 ?_
 rintro ⟨J,M⟩
 refine cZ 14 [] bN fun ht hn=>?_
 refine kb 0 [] ?_
 refine dR 5 R (eG (fo:=0) 0 cT R R R) (d1 6 R (lM _ (fun w s=>((((((s.d 7 R).d 9 R).d 11 R).d 13 R).d 5 R).e 10 [4,3,2,1,0,7,8,9,5,6])) ?_))
 refine b' (fs:=[]) (cs:=[(pt j 0),(pt l 0),(pt m 0)]) 8 R R pQ R R (Z2n_ok q) R ?_
 rintro ⟨⟨u,T,B⟩,⟨L,U,O⟩⟩
 refine aL 0 aB ?_
 rintro rfl
 refine aL 1 aB ?_
 rintro rfl
 refine aC (aE (fun w s=>(s.f 7 [5,2,2,3])) (dR 7 R (vT R) (hS:=(fun w s=>(s.f 7 [5,2,2,3]))) (dR 8 R (vS R) (hS:=(fun w s=>(s.f 7 [5,2,2,3]))) (dR 9 R (vS R) (hS:=(fun w s=>(s.f 7 [5,2,2,3]))) (dR 10 R (vB R) (hS:=(fun w s=>(s.f 7 [5,2,2,3]))) (dR 11 R (vS R) (hS:=(fun w s=>(s.f 7 [5,2,2,3]))) (dR 12 R (vS R) (hS:=(fun w s=>(s.f 7 [5,2,2,3]))) (dR 13 R (vB R) (hS:=(fun w s=>(s.f 7 [5,2,2,3]))) (dD ?_)))))))))
 refine cW ?_
 cases i
 exact jl (u,I.1.length,B) (tE 14 [0,2,3,4])
theorem Z0c_ok  {g:(List Int)}{l:Int}{b:(List Int)}{r:(List Int)×(List pair)×Bool}(m:Z0c g l b=some r) :
 FnOk Tryz.prog 130 [(.slice A2 N2 D2),(iv l),(.slice A5 N5 D5)] [aN kT3 (.slice A2 N2 D2) g,aN kT3 (.slice A5 N5 D5) b] (fun (h:HH×HH)=>((.tuple [(s3 h.1),(s3 h.2),(.bool r.2.2)].toArray),[ow kT3 3 (s3 h.1) r.1,ow kT161 161 (s3 h.2) r.2.1])):=by
 unfold Z0c at m
 refine aQ Tryz.func130 R 67 R R fun C V=>?_
 refine cL 0 aA ?_
 rintro rfl
 refine cL 1 aA ?_
 rintro rfl
 let U:=RR kT3 A2 D2 g::RR kT3 A5 D5 b::V
 refine cN U ?_
 refine cO ?_
 obtain ⟨r6,al,m⟩:=bd m
 refine cQ [(0,(sc A2 g D2)),(1,(iv l)),(2,(sc A5 b D5)),(26,(.bool (((!r6)||((b.length:Int)==0))||(decide ((b.length:Int)>4096)))))] (U) ?_ ?_
 refine aP ?_
 refine lM _ (fun w s=>(s.d 0 R)) ?_
 refine lC 1 gO R (Zl_ok al) R ?_
 rintro _
 refine lN U ?_
 refine aR ?_
 rcases bo (!r6) with ai | ai
 refine cW ?_
 exact qj tI
 refine cB ?_
 rcases bo ((!r6)||((b.length:Int)==0)) with aj | aj
 refine cB ?_
 exact qj tI
 refine cB ?_
 exact qj tI
 rintro σ1
 refine bU ?_
 split at m
 refine cW ?_
 cases m
 exact hN ((none,0,0),(none,0,0)) (fun w s=>(((s.nilo kT3 3).nilo kT161 161).e 4 [1,0]))
 refine cB ?_
 refine bQ (K:=kT161) (xs:=([]:List pair)) (vs:=[]) 0 R R eZ fA eK R R R R R R ?_ R (fun A11 D11=>?_)
 exact fun I h s=>(iV).list [] I h s
 refine bF ?_
 refine bA (A:=((List pair))×(HH×HH)) (fun a=>Z0c_J1 g l b a.1=some r) (fun a=>[(0,(sc A2 g D2)),(1,(iv l)),(2,(s3 a.2.1)),(9,(s3 a.2.2))]) (fun a=>aN kT3 (s3 a.2.1) b::ow kT161 161 (s3 a.2.2) a.1::U) ?_ ?_
 refine cU ?_
 obtain ⟨e1,ak,a5⟩:=bd m
 refine bC (A:=HH×HH) ak (fun s a=>[(0,(sc A2 g D2)),(1,(iv l)),(2,(s3 a.1)),(9,(s3 a.2)),(28,(s3 a.1)),(29,(il b)),(30,(iv s.2))]) (fun s a=>aN kT3 (s3 a.1) b::ow kT161 161 (s3 a.2) s.1::U) ((A5,b.length,D5),(A11,([]:List pair).length,D11)) (aS R) (fun w s=>(s.d 2 R)) ?_
 rintro ⟨i,j⟩ ⟨⟨a9,ac,D⟩,⟨G,ae,M⟩⟩ σ1 an m a2
 dsimp only [Z0c_L1] at m
 refine bJ 0 aA (fun (Y:ac=b.length)=>?_)
 subst Y
 refine bJ 1 aB (fun (Y:ae=i.length)=>?_)
 subst Y
 refine bT ?_
 split at m
 refine bT ?_
 obtain ⟨a3,m⟩:=gd m
 refine aR ?_
 refine bB 0 aA (show 0<b.length by have:=a3; omega) (fun F o31 ha=>?_)
 subst ha
 refine cU ?_
 obtain ⟨E,m⟩:=gd m
 refine cQ [(0,(sc A2 g D2)),(1,(iv l)),(2,(sc (ad F o31) b D)),(9,(sc G i M)),(10,(iv j)),(11,(iv (ix b j))),(28,(sc (ad F o31) b D)),(29,(il b)),(30,(iv j)),(44,(.bool ((decide ((ix b j)<0))||(decide ((ix b j)≥(ix g l))))))] (RR kT3 (ad F o31) D b::OO kT161 161 G M i::U) ?_ ?_
 refine bF ?_
 rcases bo (decide ((ix b j)<0)) with u | u
 refine cU ?_
 exact qj tI
 refine aP ?_
 refine bB 2 aA (show 0<g.length by have:=(E u); omega) (fun aw o34 ha=>?_)
 subst ha
 refine lW (bZ u) (eI bM cC R R (E u)) (lW (bZ u) (gI 2 fM aA R (E u)) ?_)
 refine aP ?_
 exact qj tI
 rintro σ1
 refine bU ?_
 split at m
 refine iC ?_
 cases m
 obtain rfl:=a2 _ R
 have m:=a5
 refine aP ?_
 cases m
 exact hN ((none,0,0),(none,0,0)) (fun w s=>(((s.nilo kT3 3).nilo kT161 161).e 6 [1,0]))
 refine aP ?_
 obtain ⟨a4,m⟩:=gd m
 refine bF ?_
 refine lO (vz (.agg [(iv (ix b j)),(iv j)].toArray) (aW ml eK R R)) (bQ (K:=kT161) (xs:=([(⟨(ix b j),j⟩:pair)]:List pair)) (vs:=[(.agg [(iv (ix b j)),(iv j)].toArray)]) 0 R R eZ fA eK R R R R R R ?_ R (fun ao aq=>?_))
 exact fun I h s=>(iV).list [(((),()),(⟨(ix b j),j⟩:pair))] I h s
 refine lM _ (tE 3 [2,0,1]) ?_
 refine eF (K:=kT161) 8796093022208 R R eZ fA lj (Zr.zk zT161 eK) R R R R R R dP a4 (fun a0 a1=>(lN (OO kT161 161 a0 a1 (i++([(⟨(ix b j),j⟩:pair)]:List pair))::_::U) ?_))
 refine cU ?_
 cases m
 exact qA (((ad F o31),b.length,D),(a0,(i++([(⟨(ix b j),j⟩:pair)]:List pair)).length,a1)) (tE 2 [1,0])
 refine aP ?_
 cases m
 obtain rfl:=a2 _ R
 have m:=a5
 refine aR ?_
 exact qI (i,((a9,b.length,D),(G,i.length,M))) m tI
 rintro ⟨q,⟨⟨ap,ag,ar⟩,⟨J,ah,O⟩⟩⟩ σ1 m
 dsimp only [Z0c_J1] at m
 refine bJ 0 aA (fun (Y:ag=b.length)=>?_)
 subst Y
 refine bJ 1 aB (fun (Y:ah=q.length)=>?_)
 subst Y
 refine bU ?_
 obtain ⟨Z,a6,m⟩:=bd m
 refine cB ?_
 refine lM _ (fun w s=>(s.d 2 R)) ?_
 refine lC 1 pN R (Z1i_ok a6) R ?_
 rintro ⟨L,au,T⟩
 refine aL 0 aB ?_
 rintro rfl
 refine cB ?_
 obtain ⟨ax,a7,m⟩:=bd m
 refine aR ?_
 refine lC 1 iW R (FnOk.lends (A':=[OO kT3 3 L T Z]) (A:=[RR kT3 L T Z]) (B:=[]) (Zc_ok a7) ⟨aX,trivial⟩ (fun _=>trivial)) R ?_
 rintro _
 refine aP ?_
 split at m
 refine cW ?_
 cases m
 exact hN ((none,0,0),(none,0,0)) (fun w s=>(((s.nilo kT3 3).nilo kT161 161).e 7 [1,0]))
 refine bF ?_
 obtain ⟨am,a8,m⟩:=bd m
 refine dJ ?_
 refine lM _ (fun w s=>((s.d 3 R).e 4 [3,0,1,2])) ?_
 refine lC 2 s8 R (FnOk.lends (A':=[OO kT161 161 J O q]) (A:=[RR kT161 J O q]) (B:=[RR kT3 A2 D2 g]) (FnOk.perm (Z7_ok a8) (Pre':=[RR kT161 J O q,RR kT3 A2 D2 g]) (fun _ _ _ s=>(s.e 2 [1,0]))) ⟨aX,trivial⟩ (fun _=>⟨(bK rQ),trivial⟩)) R ?_
 rintro ⟨aa,av,ab⟩
 refine aL 1 aB ?_
 rintro rfl
 refine bT ?_
 cases m
 exact hN ((L,Z.length,T),(aa,am.length,ab)) (tE 6 [2,1])
theorem Z1x_ok  {p1:(List Int)}{a:(List Int)}{r:(List Int)×(List pair)×Bool}(b:Z1x p1 a=some r) :
 FnOk Tryz.prog 129 [(.slice A2 N2 D2),(.slice A4 N4 D4)] [aN kT3 (.slice A2 N2 D2) p1,aN kT3 (.slice A4 N4 D4) a] (fun (h:HH×HH)=>((.tuple [(s3 h.1),(s3 h.2),(.bool r.2.2)].toArray),[ow kT3 3 (s3 h.1) r.1,ow kT161 161 (s3 h.2) r.2.1])):=by
 unfold Z1x at b
 refine aQ Tryz.func129 R 17 R R fun C V=>?_
 refine cL 0 aA ?_
 rintro rfl
 refine cL 1 aA ?_
 rintro rfl
 let B:=RR kT3 A2 D2 p1::RR kT3 A4 D4 a::V
 refine cN B ?_
 refine cU ?_
 obtain ⟨q,b⟩:=gd b
 obtain ⟨g,b⟩:=gd b
 obtain ⟨j,i,b⟩:=bd b
 refine aY 0 aA (show 0<p1.length by have:=q; omega) (fun E o7 D=>?_)
 subst D
 refine cZ 13 [] bN fun G F=>?_
 refine kb 0 [] ?_
 refine d1 5 R (fY (K:=kT3) (1:Int) (p1.length:Int) 0 R R bM cC R R R R g.1 g.2.1 g.2.2 (fun A9 D9=>(aC (aE (sL [0]) (d1 6 R (lM _ (fun w s=>(((s.d 2 R).d 1 R).e 3 [1,0,2])) ?_))))))
 refine lC 2 za R (Z0c_ok i) R ?_
 rintro ⟨⟨A12,N12,D12⟩,⟨l,u,m⟩⟩
 refine aL 0 aB ?_
 rintro rfl
 refine aL 1 aB ?_
 rintro rfl
 refine aC (aE (sL [2,1,0]) ?_)
 refine rN 7 [2,1,0] ?_
 refine dD ?_
 refine aR ?_
 cases b
 exact hN ((A12,j.1.length,D12),(l,j.2.1.length,m)) (tE 5 [0,1])
theorem Z2o_ok  {a:Node}{b:(List Int)}{m:Int}{i:Int}{E:Nat}{j:Nat}{g:Nat}{r:(List Int)×(List pair)×Bool}(l:Z2o a b m i=some r) :
 FnOk Tryz.prog 149 [(.agg [(iv a.Op),(.slice A2 N2 D2),(.slice A3 N3 D3),(.slice A4 N4 D4),(aD a.Form),(.slice A5 N5 D5)].toArray),(.slice A7 N7 D7),(pt E 0),(pt j 0),(pt g 0)] [aN kT3 (.slice A2 N2 D2) a.Args,aN kT3 (.slice A3 N3 D3) a.Dims,aN kT3 (.slice A4 N4 D4) a.Ints,aN kT3 (.slice A5 N5 D5) a.Data,aN kT3 (.slice A7 N7 D7) b,aI E [(iv m)] 3,aI j [(iv i)] 3,aI g [(.func (.func 129) [].toArray [].toArray)] 150] (fun (h:HH×HH)=>((.tuple [(s3 h.1),(s3 h.2),(.bool r.2.2)].toArray),[ow kT3 3 (s3 h.1) r.1,ow kT161 161 (s3 h.2) r.2.1,aI E [(iv m)] 3,aI j [(iv i)] 3,aI g [(.func (.func 129) [].toArray [].toArray)] 150])):=by
 unfold Z2o at l
 refine aQ Tryz.func149 R 30 R R fun C V=>?_
 refine cM _ (fun w s=>(s.f 8 [5,3,0,5])) ?_
 refine cL 3 aA ?_
 rintro rfl
 refine cL 4 aA ?_
 rintro rfl
 refine cL 5 aA ?_
 rintro rfl
 refine cL 6 aA ?_
 rintro rfl
 refine cL 7 aA ?_
 rintro rfl
 let T:=RR kT3 A2 D2 a.Args::RR kT3 A3 D3 a.Dims::RR kT3 A4 D4 a.Ints::RR kT3 A5 D5 a.Data::RR kT3 A7 D7 b::V
 refine aR ?_
 refine eA R fun q=>?_
 refine bF ?_
 let L:=aI q [(iv a.Op),(sc A2 a.Args D2),(sc A3 a.Dims D3),(sc A4 a.Ints D4),(aD a.Form),(sc A5 a.Data D5)] 54::aI E [(iv m)] 3::aI j [(iv i)] 3::aI g [(.func (.func 129) [].toArray [].toArray)] 150::T
 refine qN L ?_
 refine aP ?_
 refine cQ [(1,(sc A7 b D7)),(4,(pt g 0)),(5,(pt q 0)),(21,(.bool ((decide ((a.Ints.length:Int)<m))||(decide ((a.Ints.length:Int)>i)))))] (L) ?_ ?_
 refine dJ ?_
 rcases bo (decide ((a.Ints.length:Int)<m)) with u | u
 refine dJ ?_
 exact qj tI
 refine dJ ?_
 exact qj tI
 rintro σ1
 refine bU ?_
 split at l
 refine cW ?_
 cases l
 exact hN ((none,0,0),(none,0,0)) (fun w s=>(((s.nilo kT3 3).nilo kT161 161).e 11 [1,0,3,4,5]))
 refine bF ?_
 obtain ⟨D,B,l⟩:=bd l
 refine cB ?_
 refine lM _ (fun w s=>(((s.d 6 R).d 9 R).e 2 [1,0])) ?_
 refine b' (fs:=[]) (cs:=[]) 2 R R zb R R (Z1x_ok B) R ?_
 rintro ⟨⟨F,M,I⟩,⟨G,O,J⟩⟩
 refine aL 0 aB ?_
 rintro rfl
 refine aL 1 aB ?_
 rintro rfl
 refine cO ?_
 cases l
 exact hN ((F,D.1.length,I),(G,D.2.1.length,J)) (fun w s=>(s.f 11 [0,2,3,3]))
theorem Z1m_ok  {k1:shiftKind}{F:Int}{G:Int}{b:Node}{a:(List (List Int))}{j:Nat}{l:Nat}{m:Nat}{r:(List Int)×Bool}(i:Z1m k1 F G b a=some r) :
 FnOk Tryz.prog 220 [(.agg [(aD k1.use),(.func (.func 149) [].toArray [(pt j 0),(pt l 0),(pt m 0)].toArray)].toArray),(.agg [(iv b.Op),(.slice A9 N9 D9),(.slice A10 N10 D10),(.slice A11 N11 D11),(aD b.Form),(.slice A12 N12 D12)].toArray),(.slice A14 N14 D14)] [aI j [(iv F)] 3,aI l [(iv G)] 3,aI m [(.func (.func 129) [].toArray [].toArray)] 150,aN kT3 (.slice A9 N9 D9) b.Args,aN kT3 (.slice A10 N10 D10) b.Dims,aN kT3 (.slice A11 N11 D11) b.Ints,aN kT3 (.slice A12 N12 D12) b.Data,aN bL (.slice A14 N14 D14) a] (fun (h:HH)=>((.tuple [(s3 h),(.bool r.2)].toArray),[ow kT3 3 (s3 h) r.1,aI j [(iv F)] 3,aI l [(iv G)] 3,aI m [(.func (.func 129) [].toArray [].toArray)] 150])):=by
 unfold Z1m at i
 refine aQ Tryz.func220 R 27 R R fun C V=>?_
 refine cL 3 aA ?_
 rintro rfl
 refine cL 4 aA ?_
 rintro rfl
 refine cL 5 aA ?_
 rintro rfl
 refine cL 6 aA ?_
 rintro rfl
 refine cL 7 aA ?_
 rintro rfl
 let Y:=RR kT3 A9 D9 b.Args::RR kT3 A10 D10 b.Dims::RR kT3 A11 D11 b.Ints::RR kT3 A12 D12 b.Data::RR bL A14 D14 a::V
 refine aR ?_
 refine eA R fun D=>?_
 refine eA R fun E=>?_
 refine aP ?_
 refine qM _ (fun w s=>(s.f 5 [2,3,0,2])) ?_
 let W1:=aI E [(iv b.Op),(sc A9 b.Args D9),(sc A10 b.Dims D10),(sc A11 b.Ints D11),(aD b.Form),(sc A12 b.Data D12)] 54::aI D [(aD k1.use),(.func (.func 149) [].toArray [(pt j 0),(pt l 0),(pt m 0)].toArray)] 145::Y
 refine cO ?_
 split at i
 refine cO ?_
 cases i
 exact jl (none,0,0) (fun w s=>((s.nilo kT3 3).f 11 [0,4]))
 refine bF ?_
 obtain ⟨g,i⟩:=gd i
 obtain ⟨I,q,i⟩:=bd i
 refine aY 9 aA (show 0<a.length by have:=g; omega) (fun Z o20 ha=>?_)
 subst ha
 refine dE (K:=bL) 9 (0:Int) dT23.dec R g.1 g.2 ?_
 rintro ⟨J,M⟩
 refine cZ 14 [] bN fun ht hn=>?_
 refine kb 0 [] ?_
 refine dR 5 R (eG (fo:=0) 0 cT R R R) (d1 6 R (lM _ (fun w s=>((((((s.d 7 R).d 9 R).d 11 R).d 13 R).d 5 R).e 10 [4,3,2,1,0,7,8,9,5,6])) ?_))
 refine b' (fs:=[]) (cs:=[(pt j 0),(pt l 0),(pt m 0)]) 8 R R pQ R R (Z2o_ok q) R ?_
 rintro ⟨⟨u,T,B⟩,⟨L,U,O⟩⟩
 refine aL 0 aB ?_
 rintro rfl
 refine aL 1 aB ?_
 rintro rfl
 refine aC (aE (fun w s=>(s.f 7 [5,2,2,3])) (dR 7 R (vT R) (hS:=(fun w s=>(s.f 7 [5,2,2,3]))) (dR 8 R (vS R) (hS:=(fun w s=>(s.f 7 [5,2,2,3]))) (dR 9 R (vS R) (hS:=(fun w s=>(s.f 7 [5,2,2,3]))) (dR 10 R (vB R) (hS:=(fun w s=>(s.f 7 [5,2,2,3]))) (dR 11 R (vS R) (hS:=(fun w s=>(s.f 7 [5,2,2,3]))) (dR 12 R (vS R) (hS:=(fun w s=>(s.f 7 [5,2,2,3]))) (dR 13 R (vB R) (hS:=(fun w s=>(s.f 7 [5,2,2,3]))) (dD ?_)))))))))
 refine cW ?_
 cases i
 exact jl (u,I.1.length,B) (tE 14 [0,2,3,4])
theorem Z0d_ok  {g:(List Int)}{i:Int}{b:(List Int)}{D:Int}{r:(List Int)×(List pair)×Bool}(m:Z0d g i b D=some r) :
 FnOk Tryz.prog 132 [(.slice A2 N2 D2),(iv i),(.slice A5 N5 D5),(iv D)] [aN kT3 (.slice A2 N2 D2) g,aN kT3 (.slice A5 N5 D5) b] (fun (h:HH×HH)=>((.tuple [(s3 h.1),(s3 h.2),(.bool r.2.2)].toArray),[ow kT3 3 (s3 h.1) r.1,ow kT161 161 (s3 h.2) r.2.1])):=by
 unfold Z0d at m
 refine aQ Tryz.func132 R 67 R R fun C V=>?_
 refine cL 0 aA ?_
 rintro rfl
 refine cL 1 aA ?_
 rintro rfl
 let T:=RR kT3 A2 D2 g::RR kT3 A5 D5 b::V
 refine cN T ?_
 refine cO ?_
 obtain ⟨r7,al,m⟩:=bd m
 obtain ⟨Y,m⟩:=gd m
 refine cQ [(0,(sc A2 g D2)),(1,(iv i)),(2,(sc A5 b D5)),(3,(iv D)),(31,(.bool (((!r7)||((b.length:Int) != (ix g i)))||(decide (D<1)))))] (T) ?_ ?_
 refine aP ?_
 refine lM _ (fun w s=>(s.d 0 R)) ?_
 refine lC 1 gO R (Zl_ok al) R ?_
 rintro _
 refine lN T ?_
 refine aR ?_
 rcases bo (!r7) with u | u
 refine ka ?_
 exact qj tI
 refine bF ?_
 refine bB 0 aA (show 0<g.length by have:=(Y u); omega) (fun av o11 ha=>?_)
 subst ha
 refine lW (bZ u) (eI bM cC R R (Y u)) (lW (bZ u) (gI 0 fM aA R (Y u)) ?_)
 refine aP ?_
 rcases bo ((!r7)||((b.length:Int) != (ix g i))) with a2 | a2
 refine bF ?_
 exact qj tI
 refine bF ?_
 exact qj tI
 rintro σ1
 refine bU ?_
 split at m
 refine cW ?_
 cases m
 exact hN ((none,0,0),(none,0,0)) (fun w s=>(((s.nilo kT3 3).nilo kT161 161).e 4 [1,0]))
 refine cB ?_
 refine bQ (K:=kT161) (xs:=([]:List pair)) (vs:=[]) 0 R R eZ fA eK R R R R R R ?_ R (fun ab ae=>?_)
 exact fun I h s=>(iV).list [] I h s
 refine bF ?_
 refine bA (A:=((List pair))×(HH)) (fun a=>Z0d_J1 g i D a.1=some r) (fun a=>[(0,(sc A2 g D2)),(1,(iv i)),(3,(iv D)),(11,(s3 a.2))]) (fun a=>ow kT161 161 (s3 a.2) a.1::T) ?_ ?_
 refine cU ?_
 obtain ⟨e1,ak,a7⟩:=bd m
 refine bC (A:=HH×HH) ak (fun s a=>[(0,(sc A2 g D2)),(1,(iv i)),(3,(iv D)),(11,(s3 a.1)),(33,(s3 a.2)),(34,(il b)),(35,(iv s.2))]) (fun s a=>ow kT161 161 (s3 a.1) s.1::aN kT3 (s3 a.2) b::T) ((ab,([]:List pair).length,ae),(A5,b.length,D5)) (aS R) (fun w s=>((s.d 2 R).e 2 [1,0])) ?_
 rintro ⟨j,l⟩ ⟨⟨E,ah,J⟩,⟨ao,ai,L⟩⟩ σ1 an m a4
 dsimp only [Z0d_L1] at m
 refine bJ 0 aB (fun (hn:ah=j.length)=>?_)
 subst hn
 refine bJ 1 aA (fun (hn:ai=b.length)=>?_)
 subst hn
 refine bT ?_
 split at m
 refine bT ?_
 obtain ⟨a5,m⟩:=gd m
 refine aR ?_
 refine bB 1 aA (show 0<b.length by have:=a5; omega) (fun U o32 ha=>?_)
 subst ha
 refine cU ?_
 refine cQ [(0,(sc A2 g D2)),(1,(iv i)),(3,(iv D)),(11,(sc E j J)),(12,(iv l)),(13,(iv (ix b l))),(33,(sc (ad U o32) b L)),(34,(il b)),(35,(iv l)),(46,(.bool ((decide ((ix b l)<0))||(decide ((ix b l)≥D)))))] (OO kT161 161 E J j::RR kT3 (ad U o32) L b::T) ?_ ?_
 refine bF ?_
 rcases bo (decide ((ix b l)<0)) with a3 | a3
 refine cB ?_
 exact qj tI
 refine cB ?_
 exact qj tI
 rintro σ1
 refine bU ?_
 split at m
 refine iC ?_
 cases m
 obtain rfl:=a4 _ R
 have m:=a7
 refine aP ?_
 cases m
 exact hN ((none,0,0),(none,0,0)) (fun w s=>(((s.nilo kT3 3).nilo kT161 161).e 6 [1,0]))
 refine aP ?_
 obtain ⟨a6,m⟩:=gd m
 refine bF ?_
 refine lO (vz (.agg [(iv l),(iv (ix b l))].toArray) (aW ml eK R R)) (bQ (K:=kT161) (xs:=([(⟨l,(ix b l)⟩:pair)]:List pair)) (vs:=[(.agg [(iv l),(iv (ix b l))].toArray)]) 0 R R eZ fA eK R R R R R R ?_ R (fun ap aq=>?_))
 exact fun I h s=>(iV).list [(((),()),(⟨l,(ix b l)⟩:pair))] I h s
 refine lM _ (tE 3 [1,0,2]) ?_
 refine eF (K:=kT161) 8796093022208 R R eZ fA lj (Zr.zk zT161 eK) R R R R R R dP a6 (fun a0 a1=>(lN (OO kT161 161 a0 a1 (j++([(⟨l,(ix b l)⟩:pair)]:List pair))::_::T) ?_))
 refine cU ?_
 cases m
 exact qA ((a0,(j++([(⟨l,(ix b l)⟩:pair)]:List pair)).length,a1),((ad U o32),b.length,L)) tI
 refine aP ?_
 cases m
 obtain rfl:=a4 _ R
 have m:=a7
 refine aR ?_
 exact qI (j,(E,j.length,J)) m (tE 2 [0])
 rintro ⟨q,⟨F,aj,M⟩⟩ σ1 m
 dsimp only [Z0d_J1] at m
 refine bJ 0 aB (fun (hn:aj=q.length)=>?_)
 subst hn
 refine bU ?_
 obtain ⟨Z,a8,m⟩:=bd m
 refine bF ?_
 refine lM _ (fun w s=>(s.d 1 R)) ?_
 refine lC 1 pN R (Z1i_ok a8) R ?_
 rintro ⟨G,ar,O⟩
 refine aL 0 aB ?_
 rintro rfl
 refine cB ?_
 obtain ⟨aw,a9,m⟩:=bd m
 refine aR ?_
 refine lC 1 iW R (FnOk.lends (A':=[OO kT3 3 G O Z]) (A:=[RR kT3 G O Z]) (B:=[]) (Zc_ok a9) ⟨aX,trivial⟩ (fun _=>trivial)) R ?_
 rintro _
 refine aP ?_
 split at m
 refine cW ?_
 cases m
 exact hN ((none,0,0),(none,0,0)) (fun w s=>(((s.nilo kT3 3).nilo kT161 161).e 6 [1,0]))
 refine bF ?_
 obtain ⟨am,aa,m⟩:=bd m
 refine bT ?_
 refine lM _ (fun w s=>((s.d 2 R).e 3 [2,0,1])) ?_
 refine lC 2 s8 R (FnOk.lends (A':=[OO kT161 161 F M q]) (A:=[RR kT161 F M q]) (B:=[RR kT3 A2 D2 g]) (FnOk.perm (Z7_ok aa) (Pre':=[RR kT161 F M q,RR kT3 A2 D2 g]) (fun _ _ _ s=>(s.e 2 [1,0]))) ⟨aX,trivial⟩ (fun _=>⟨(bK rQ),trivial⟩)) R ?_
 rintro ⟨ac,au,ag⟩
 refine aL 1 aB ?_
 rintro rfl
 refine bT ?_
 cases m
 exact hN ((G,Z.length,O),(ac,am.length,ag)) (tE 5 [2,1])
theorem Z1y_ok  {p1:(List Int)}{a:(List Int)}{r:(List Int)×(List pair)×Bool}(b:Z1y p1 a=some r) :
 FnOk Tryz.prog 131 [(.slice A2 N2 D2),(.slice A4 N4 D4)] [aN kT3 (.slice A2 N2 D2) p1,aN kT3 (.slice A4 N4 D4) a] (fun (h:HH×HH)=>((.tuple [(s3 h.1),(s3 h.2),(.bool r.2.2)].toArray),[ow kT3 3 (s3 h.1) r.1,ow kT161 161 (s3 h.2) r.2.1])):=by
 unfold Z1y at b
 refine aQ Tryz.func131 R 20 R R fun C V=>?_
 refine cL 0 aA ?_
 rintro rfl
 refine cL 1 aA ?_
 rintro rfl
 let B:=RR kT3 A2 D2 p1::RR kT3 A4 D4 a::V
 refine cN B ?_
 refine cU ?_
 obtain ⟨q,b⟩:=gd b
 obtain ⟨g,b⟩:=gd b
 obtain ⟨_,b⟩:=gd b
 obtain ⟨j,i,b⟩:=bd b
 refine aY 0 aA (show 0<p1.length by have:=q; omega) (fun E o7 D=>?_)
 subst D
 refine cZ 16 [] bN fun G F=>?_
 refine kb 0 [] ?_
 refine hO 6 [] ?_
 refine d1 5 R (fY (K:=kT3) (2:Int) (p1.length:Int) 0 R R bM cC R R R R g.1 g.2.1 g.2.2 (fun A9 D9=>(aC (aE (sL [0]) (d1 9 R (lM _ (fun w s=>(((s.d 2 R).d 1 R).e 3 [1,0,2])) ?_))))))
 refine lC 2 zd R (Z0d_ok i) R ?_
 rintro ⟨⟨l,u,m⟩,⟨A14,N14,D14⟩⟩
 refine aL 0 aB ?_
 rintro rfl
 refine aL 1 aB ?_
 rintro rfl
 refine aC (aE (sL [2,1,0]) ?_)
 refine rN 10 [2,1,0] ?_
 refine dD ?_
 refine aR ?_
 cases b
 exact hN ((l,j.1.length,m),(A14,j.2.1.length,D14)) (tE 5 [0,1])
theorem Z2p_ok  {a:Node}{b:(List Int)}{m:Int}{i:Int}{E:Nat}{j:Nat}{g:Nat}{r:(List Int)×(List pair)×Bool}(l:Z2p a b m i=some r) :
 FnOk Tryz.prog 149 [(.agg [(iv a.Op),(.slice A2 N2 D2),(.slice A3 N3 D3),(.slice A4 N4 D4),(aD a.Form),(.slice A5 N5 D5)].toArray),(.slice A7 N7 D7),(pt E 0),(pt j 0),(pt g 0)] [aN kT3 (.slice A2 N2 D2) a.Args,aN kT3 (.slice A3 N3 D3) a.Dims,aN kT3 (.slice A4 N4 D4) a.Ints,aN kT3 (.slice A5 N5 D5) a.Data,aN kT3 (.slice A7 N7 D7) b,aI E [(iv m)] 3,aI j [(iv i)] 3,aI g [(.func (.func 131) [].toArray [].toArray)] 150] (fun (h:HH×HH)=>((.tuple [(s3 h.1),(s3 h.2),(.bool r.2.2)].toArray),[ow kT3 3 (s3 h.1) r.1,ow kT161 161 (s3 h.2) r.2.1,aI E [(iv m)] 3,aI j [(iv i)] 3,aI g [(.func (.func 131) [].toArray [].toArray)] 150])):=by
 unfold Z2p at l
 refine aQ Tryz.func149 R 30 R R fun C V=>?_
 refine cM _ (fun w s=>(s.f 8 [5,3,0,5])) ?_
 refine cL 3 aA ?_
 rintro rfl
 refine cL 4 aA ?_
 rintro rfl
 refine cL 5 aA ?_
 rintro rfl
 refine cL 6 aA ?_
 rintro rfl
 refine cL 7 aA ?_
 rintro rfl
 let T:=RR kT3 A2 D2 a.Args::RR kT3 A3 D3 a.Dims::RR kT3 A4 D4 a.Ints::RR kT3 A5 D5 a.Data::RR kT3 A7 D7 b::V
 refine aR ?_
 refine eA R fun q=>?_
 refine bF ?_
 let L:=aI q [(iv a.Op),(sc A2 a.Args D2),(sc A3 a.Dims D3),(sc A4 a.Ints D4),(aD a.Form),(sc A5 a.Data D5)] 54::aI E [(iv m)] 3::aI j [(iv i)] 3::aI g [(.func (.func 131) [].toArray [].toArray)] 150::T
 refine qN L ?_
 refine aP ?_
 refine cQ [(1,(sc A7 b D7)),(4,(pt g 0)),(5,(pt q 0)),(21,(.bool ((decide ((a.Ints.length:Int)<m))||(decide ((a.Ints.length:Int)>i)))))] (L) ?_ ?_
 refine dJ ?_
 rcases bo (decide ((a.Ints.length:Int)<m)) with u | u
 refine dJ ?_
 exact qj tI
 refine dJ ?_
 exact qj tI
 rintro σ1
 refine bU ?_
 split at l
 refine cW ?_
 cases l
 exact hN ((none,0,0),(none,0,0)) (fun w s=>(((s.nilo kT3 3).nilo kT161 161).e 11 [1,0,3,4,5]))
 refine bF ?_
 obtain ⟨D,B,l⟩:=bd l
 refine cB ?_
 refine lM _ (fun w s=>(((s.d 6 R).d 9 R).e 2 [1,0])) ?_
 refine b' (fs:=[]) (cs:=[]) 2 R R ze R R (Z1y_ok B) R ?_
 rintro ⟨⟨F,M,I⟩,⟨G,O,J⟩⟩
 refine aL 0 aB ?_
 rintro rfl
 refine aL 1 aB ?_
 rintro rfl
 refine cO ?_
 cases l
 exact hN ((F,D.1.length,I),(G,D.2.1.length,J)) (fun w s=>(s.f 11 [0,2,3,3]))
theorem Z1n_ok  {k1:shiftKind}{F:Int}{G:Int}{b:Node}{a:(List (List Int))}{j:Nat}{l:Nat}{m:Nat}{r:(List Int)×Bool}(i:Z1n k1 F G b a=some r) :
 FnOk Tryz.prog 220 [(.agg [(aD k1.use),(.func (.func 149) [].toArray [(pt j 0),(pt l 0),(pt m 0)].toArray)].toArray),(.agg [(iv b.Op),(.slice A9 N9 D9),(.slice A10 N10 D10),(.slice A11 N11 D11),(aD b.Form),(.slice A12 N12 D12)].toArray),(.slice A14 N14 D14)] [aI j [(iv F)] 3,aI l [(iv G)] 3,aI m [(.func (.func 131) [].toArray [].toArray)] 150,aN kT3 (.slice A9 N9 D9) b.Args,aN kT3 (.slice A10 N10 D10) b.Dims,aN kT3 (.slice A11 N11 D11) b.Ints,aN kT3 (.slice A12 N12 D12) b.Data,aN bL (.slice A14 N14 D14) a] (fun (h:HH)=>((.tuple [(s3 h),(.bool r.2)].toArray),[ow kT3 3 (s3 h) r.1,aI j [(iv F)] 3,aI l [(iv G)] 3,aI m [(.func (.func 131) [].toArray [].toArray)] 150])):=by
 unfold Z1n at i
 refine aQ Tryz.func220 R 27 R R fun C V=>?_
 refine cL 3 aA ?_
 rintro rfl
 refine cL 4 aA ?_
 rintro rfl
 refine cL 5 aA ?_
 rintro rfl
 refine cL 6 aA ?_
 rintro rfl
 refine cL 7 aA ?_
 rintro rfl
 let Y:=RR kT3 A9 D9 b.Args::RR kT3 A10 D10 b.Dims::RR kT3 A11 D11 b.Ints::RR kT3 A12 D12 b.Data::RR bL A14 D14 a::V
 refine aR ?_
 refine eA R fun D=>?_
 refine eA R fun E=>?_
 refine aP ?_
 refine qM _ (fun w s=>(s.f 5 [2,3,0,2])) ?_
 let W1:=aI E [(iv b.Op),(sc A9 b.Args D9),(sc A10 b.Dims D10),(sc A11 b.Ints D11),(aD b.Form),(sc A12 b.Data D12)] 54::aI D [(aD k1.use),(.func (.func 149) [].toArray [(pt j 0),(pt l 0),(pt m 0)].toArray)] 145::Y
 refine cO ?_
 split at i
 refine cO ?_
 cases i
 exact jl (none,0,0) (fun w s=>((s.nilo kT3 3).f 11 [0,4]))
 refine bF ?_
 obtain ⟨g,i⟩:=gd i
 obtain ⟨I,q,i⟩:=bd i
 refine aY 9 aA (show 0<a.length by have:=g; omega) (fun Z o20 ha=>?_)
 subst ha
 refine dE (K:=bL) 9 (0:Int) dT23.dec R g.1 g.2 ?_
 rintro ⟨J,M⟩
 refine cZ 14 [] bN fun ht hn=>?_
 refine kb 0 [] ?_
 refine dR 5 R (eG (fo:=0) 0 cT R R R) (d1 6 R (lM _ (fun w s=>((((((s.d 7 R).d 9 R).d 11 R).d 13 R).d 5 R).e 10 [4,3,2,1,0,7,8,9,5,6])) ?_))
 refine b' (fs:=[]) (cs:=[(pt j 0),(pt l 0),(pt m 0)]) 8 R R pQ R R (Z2p_ok q) R ?_
 rintro ⟨⟨u,T,B⟩,⟨L,U,O⟩⟩
 refine aL 0 aB ?_
 rintro rfl
 refine aL 1 aB ?_
 rintro rfl
 refine aC (aE (fun w s=>(s.f 7 [5,2,2,3])) (dR 7 R (vT R) (hS:=(fun w s=>(s.f 7 [5,2,2,3]))) (dR 8 R (vS R) (hS:=(fun w s=>(s.f 7 [5,2,2,3]))) (dR 9 R (vS R) (hS:=(fun w s=>(s.f 7 [5,2,2,3]))) (dR 10 R (vB R) (hS:=(fun w s=>(s.f 7 [5,2,2,3]))) (dR 11 R (vS R) (hS:=(fun w s=>(s.f 7 [5,2,2,3]))) (dR 12 R (vS R) (hS:=(fun w s=>(s.f 7 [5,2,2,3]))) (dR 13 R (vB R) (hS:=(fun w s=>(s.f 7 [5,2,2,3]))) (dD ?_)))))))))
 refine cW ?_
 cases i
 exact jl (u,I.1.length,B) (tE 14 [0,2,3,4])
theorem Z4_ok  {b:(List Int)}{g:Int}{j:Int}{E:Int}{r:(List Int)×(List pair)×Bool}(l:Z4 b g j E=some r) :
 FnOk Tryz.prog 134 [(.slice A2 N2 D2),(iv g),(iv j),(iv E)] [aN kT3 (.slice A2 N2 D2) b] (fun (h:HH×HH)=>((.tuple [(s3 h.1),(s3 h.2),(.bool r.2.2)].toArray),[aN kT3 (s3 h.1) r.1,ow kT161 161 (s3 h.2) r.2.1])):=by
 unfold Z4 at l
 refine aQ Tryz.func134 R 151 R R fun C V=>?_
 refine cL 0 aA ?_
 rintro rfl
 let W0:=RR kT3 A2 D2 b::V
 refine cN W0 ?_
 refine oM ?_
 obtain ⟨r6,a7,l⟩:=bd l
 obtain ⟨a8,l⟩:=gd l
 obtain ⟨al,l⟩:=gd l
 obtain ⟨am,l⟩:=gd l
 obtain ⟨b9,l⟩:=gd l
 refine cQ [(0,(sc A2 b D2)),(1,(iv g)),(2,(iv j)),(3,(iv E)),(11,(iv (aG ((b.length:Int) - 1)))),(68,(.bool (((((((!r6)||(g==(aG ((b.length:Int) - 1))))||(decide (j<1)))||(decide (E<1)))||(decide (E>4096)))||(decide ((ix b (aG ((b.length:Int) - 1)))>E)))||((ix b g) != (aG ((aG ((aG (E - (ix b (aG ((b.length:Int) - 1))))).tdiv j))+1))))))] (W0) ?_ ?_
 rcases bo (!r6) with G | G
 refine cZ 45 [] bN fun ht hn=>?_
 refine gN 0 [] ?_
 refine d1 2 R (lM _ (fun w s=>(s.d 0 R)) ?_)
 refine lC 1 gO R (Zl_ok a7) R ?_
 rintro _
 refine lN W0 ?_
 refine aC (aE (sL []) ?_)
 refine kb 3 [] ?_
 refine dR 8 R (eW (g==(aG ((b.length:Int) - 1))) R G) ?_
 refine hO 9 [] ?_
 refine dR 12 R (eW (decide (j<1)) R (oT G)) ?_
 refine hO 13 [] ?_
 refine dR 16 R (eW (decide (E<1)) R (oT (oT G))) ?_
 refine hO 17 [] ?_
 refine dR 20 R (eW (decide (E>4096)) R (oT (oT (oT G)))) ?_
 refine qX 21 [] ?_
 refine dR 28 R (eW (decide ((ix b (aG ((b.length:Int) - 1)))>E)) R (oT (oT (oT (oT G))))) ?_
 refine nV 29 [] ?_
 refine nX 33 [] ?_
 refine dR 44 R (eW ((ix b g) != (aG ((aG ((aG (E - (ix b (aG ((b.length:Int) - 1))))).tdiv j))+1))) R (oT (oT (oT (oT (oT G)))))) (dD ?_)
 exact qj tI
 rcases bo ((!r6)||(g==(aG ((b.length:Int) - 1)))) with U | U
 refine cZ 45 [] bN fun ht hn=>?_
 refine gN 0 [] ?_
 refine d1 2 R (lM _ (fun w s=>(s.d 0 R)) ?_)
 refine lC 1 gO R (Zl_ok a7) R ?_
 rintro _
 refine lN W0 ?_
 refine aC (aE (sL []) ?_)
 refine kb 3 [] ?_
 refine dR 8 R (fK R G R) ?_
 refine hO 9 [] ?_
 refine dR 12 R (eW (decide (j<1)) R U) ?_
 refine hO 13 [] ?_
 refine dR 16 R (eW (decide (E<1)) R (oT U)) ?_
 refine hO 17 [] ?_
 refine dR 20 R (eW (decide (E>4096)) R (oT (oT U))) ?_
 refine qX 21 [] ?_
 refine dR 28 R (eW (decide ((ix b (aG ((b.length:Int) - 1)))>E)) R (oT (oT (oT U)))) ?_
 refine tO 29 [] ?_
 refine qX 37 [] ?_
 refine dR 44 R (eW ((ix b g) != (aG ((aG ((aG (E - (ix b (aG ((b.length:Int) - 1))))).tdiv j))+1))) R (oT (oT (oT (oT U))))) (dD ?_)
 exact qj tI
 rcases bo (((!r6)||(g==(aG ((b.length:Int) - 1))))||(decide (j<1))) with a1 | a1
 refine cZ 45 [] bN fun ht hn=>?_
 refine gN 0 [] ?_
 refine d1 2 R (lM _ (fun w s=>(s.d 0 R)) ?_)
 refine lC 1 gO R (Zl_ok a7) R ?_
 rintro _
 refine lN W0 ?_
 refine aC (aE (sL []) ?_)
 refine kb 3 [] ?_
 refine dR 8 R (fK R G R) ?_
 refine hO 9 [] ?_
 refine dR 12 R (fK R U R) ?_
 refine hO 13 [] ?_
 refine dR 16 R (eW (decide (E<1)) R a1) ?_
 refine hO 17 [] ?_
 refine dR 20 R (eW (decide (E>4096)) R (oT a1)) ?_
 refine qX 21 [] ?_
 refine dR 28 R (eW (decide ((ix b (aG ((b.length:Int) - 1)))>E)) R (oT (oT a1))) ?_
 refine nX 29 [] ?_
 refine nV 40 [] ?_
 refine dR 44 R (eW ((ix b g) != (aG ((aG ((aG (E - (ix b (aG ((b.length:Int) - 1))))).tdiv j))+1))) R (oT (oT (oT a1)))) (dD ?_)
 exact qj tI
 rcases bo ((((!r6)||(g==(aG ((b.length:Int) - 1))))||(decide (j<1)))||(decide (E<1))) with a2 | a2
 refine cZ 45 [] bN fun ht hn=>?_
 refine gN 0 [] ?_
 refine d1 2 R (lM _ (fun w s=>(s.d 0 R)) ?_)
 refine lC 1 gO R (Zl_ok a7) R ?_
 rintro _
 refine lN W0 ?_
 refine aC (aE (sL []) ?_)
 refine kb 3 [] ?_
 refine dR 8 R (fK R G R) ?_
 refine hO 9 [] ?_
 refine dR 12 R (fK R U R) ?_
 refine hO 13 [] ?_
 refine dR 16 R (fK R a1 R) ?_
 refine hO 17 [] ?_
 refine dR 20 R (eW (decide (E>4096)) R a2) ?_
 refine qX 21 [] ?_
 refine dR 28 R (eW (decide ((ix b (aG ((b.length:Int) - 1)))>E)) R (oT a2)) ?_
 refine tQ 29 [] ?_
 refine mA 43 [] ?_
 refine dR 44 R (eW ((ix b g) != (aG ((aG ((aG (E - (ix b (aG ((b.length:Int) - 1))))).tdiv j))+1))) R (oT (oT a2))) (dD ?_)
 exact qj tI
 rcases bo (((((!r6)||(g==(aG ((b.length:Int) - 1))))||(decide (j<1)))||(decide (E<1)))||(decide (E>4096))) with B | B
 refine cZ 45 [] bN fun ht hn=>?_
 refine gN 0 [] ?_
 refine d1 2 R (lM _ (fun w s=>(s.d 0 R)) ?_)
 refine lC 1 gO R (Zl_ok a7) R ?_
 rintro _
 refine lN W0 ?_
 refine aC (aE (sL []) ?_)
 refine kb 3 [] ?_
 refine dR 8 R (fK R G R) ?_
 refine hO 9 [] ?_
 refine dR 12 R (fK R U R) ?_
 refine hO 13 [] ?_
 refine dR 16 R (fK R a1 R) ?_
 refine hO 17 [] ?_
 refine dR 20 R (fK R a2 R) ?_
 refine qX 21 [] ?_
 refine dR 28 R (eW (decide ((ix b (aG ((b.length:Int) - 1)))>E)) R B) ?_
 refine vW 29 [] ?_
 refine dR 44 R (eW ((ix b g) != (aG ((aG ((aG (E - (ix b (aG ((b.length:Int) - 1))))).tdiv j))+1))) R (oT B)) (dD ?_)
 exact qj tI
 rcases bo ((((((!r6)||(g==(aG ((b.length:Int) - 1))))||(decide (j<1)))||(decide (E<1)))||(decide (E>4096)))||(decide ((ix b (aG ((b.length:Int) - 1)))>E))) with J | J
 refine aY 0 aA (show 0<b.length by have:=(a8 B); omega) (fun g9 o10 ha=>?_)
 subst ha
 refine cZ 45 [] bN fun ht hn=>?_
 refine gN 0 [] ?_
 refine d1 2 R (lM _ (fun w s=>(s.d 0 R)) ?_)
 refine lC 1 gO R (Zl_ok a7) R ?_
 rintro _
 refine lN W0 ?_
 refine aC (aE (sL []) ?_)
 refine kb 3 [] ?_
 refine dR 8 R (fK R G R) ?_
 refine hO 9 [] ?_
 refine dR 12 R (fK R U R) ?_
 refine hO 13 [] ?_
 refine dR 16 R (fK R a1 R) ?_
 refine hO 17 [] ?_
 refine dR 20 R (fK R a2 R) ?_
 refine hO 21 [] ?_
 refine dW 24 R (bZ B) (eI bM cC R R (a8 B)) (dW 25 R (bZ B) (gI 0 fM aA R (a8 B)) ?_)
 refine gN 26 [] ?_
 refine dR 28 R (fK R B R) ?_
 refine vW 29 [] ?_
 refine dR 44 R (eW ((ix b g) != (aG ((aG ((aG (E - (ix b (aG ((b.length:Int) - 1))))).tdiv j))+1))) R J) (dD ?_)
 exact qj tI
 refine aY 0 aA (show 0<b.length by have:=(a8 B); omega) (fun g9 o10 ha=>?_)
 subst ha
 refine cZ 45 [] bN fun ht hn=>?_
 refine gN 0 [] ?_
 refine d1 2 R (lM _ (fun w s=>(s.d 0 R)) ?_)
 refine lC 1 gO R (Zl_ok a7) R ?_
 rintro _
 refine lN W0 ?_
 refine aC (aE (sL []) ?_)
 refine kb 3 [] ?_
 refine dR 8 R (fK R G R) ?_
 refine hO 9 [] ?_
 refine dR 12 R (fK R U R) ?_
 refine hO 13 [] ?_
 refine dR 16 R (fK R a1 R) ?_
 refine hO 17 [] ?_
 refine dR 20 R (fK R a2 R) ?_
 refine hO 21 [] ?_
 refine dW 24 R (bZ B) (eI bM cC R R (a8 B)) (dW 25 R (bZ B) (gI 0 fM aA R (a8 B)) ?_)
 refine gN 26 [] ?_
 refine dR 28 R (fK R B R) ?_
 refine hO 29 [] ?_
 refine dW 32 R (bZ J) (eI bM cC R R (al J)) (dW 33 R (bZ J) (gI 0 fM aA R (al J)) ?_)
 refine hO 34 [] ?_
 refine dW 37 R (bZ J) (eI bM cC R R (am J)) (dW 38 R (bZ J) (gI 0 fM aA R (am J)) ?_)
 refine gN 39 [] ?_
 refine dW 41 R (bZ J) (vz (iv (aG ((aG (E - (ix b (aG ((b.length:Int) - 1))))).tdiv j))) (mL R R (b9 J))) ?_
 refine gN 42 [] ?_
 refine dR 44 R (fK R J R) (dD ?_)
 exact qj tI
 rintro σ1
 refine bU ?_
 split at l
 refine cW ?_
 cases l
 exact hN ((none,0,0),(none,0,0)) (fun w s=>(((s.nilr kT3).nilo kT161 161).e 3 [1,0]))
 refine bF ?_
 obtain ⟨F,bb,l⟩:=bd l
 obtain ⟨a9,l⟩:=gd l
 refine bF ?_
 refine lM _ (fun w s=>(s.d 0 R)) ?_
 refine lC 1 pN R (Z1i_ok bb) R ?_
 rintro ⟨c4,c8,c6⟩
 refine aL 0 aB ?_
 rintro rfl
 refine lI R (iM (fun w s=>s.shr 0 R) (fY (K:=kT3) (0:Int) (aG ((b.length:Int) - 1)) 0 R R bM cC R R R R a9.1 a9.2.1 a9.2.2 (fun M O=>(lS R (aC (aJ (aO (aO ?_))))))))
 obtain ⟨ca,bc,l⟩:=bd l
 refine aR ?_
 refine lM _ (fun w s=>(s.d 0 R)) ?_
 refine lC 1 iW R (Zc_ok bc) R ?_
 rintro _
 refine aP ?_
 split at l
 refine cW ?_
 cases l
 exact hN ((none,0,0),(none,0,0)) (fun w s=>(((s.nilr kT3).nilo kT161 161).e 5 [1,0]))
 refine bF ?_
 refine bA (A:=(Int)×(Unit)) (fun a=>Z4_J1 b g E F a.1=some r) (fun a=>[(0,(sc A2 b D2)),(1,(iv g)),(2,(iv a.1)),(3,(iv E)),(11,(iv (aG ((b.length:Int) - 1)))),(12,(sc M (sub F (0:Int) (aG ((b.length:Int) - 1))) O))]) (fun a=>RR kT3 M O (sub F (0:Int) (aG ((b.length:Int) - 1)))::W0) ?_ ?_
 refine bU ?_
 obtain ⟨ba,l⟩:=gd l
 refine aP ?_
 refine bB 2 aA (show 0<b.length by have:=ba; omega) (fun c9 o31 ha=>?_)
 subst ha
 refine cB ?_
 split at l
 refine bF ?_
 exact qI ((0:Int),()) l (tE 2 [0])
 refine aR ?_
 exact qI (j,()) l (tE 2 [0])
 rintro ⟨m,_⟩ σ1 l
 dsimp only [Z4_J1] at l
 refine bU ?_
 obtain ⟨aa,l⟩:=gd l
 obtain ⟨i,be,l⟩:=bd l
 refine aP ?_
 refine fY (K:=kT3) (0:Int) (aG ((b.length:Int) - 1)) 1 R R bM cC R R R R aa.1 aa.2.1 aa.2.2 (fun c5 c7=>(lI R (lM _ (fun w s=>(s.d 0 R)) ?_)))
 refine lC 1 vd R (Z20_ok be) R ?_
 rintro _
 refine lO (vT R) ?_
 refine cW ?_
 refine bQ (K:=kT161) (xs:=([]:List pair)) (vs:=[]) 0 R R eZ fA eK R R R R R R ?_ R (fun bi bj=>?_)
 exact fun I h s=>(iV).list [] I h s
 refine bF ?_
 refine bA (A:=((List pair))×(HH)) (fun a=>Z4_J16 b F a.1=some r) (fun a=>[(12,(sc M (sub F (0:Int) (aG ((b.length:Int) - 1))) O)),(16,(s3 a.2))]) (fun a=>RR kT3 M O (sub F (0:Int) (aG ((b.length:Int) - 1)))::ow kT161 161 (s3 a.2) a.1::W0) ?_ ?_
 refine bT ?_
 obtain ⟨e1,bu,bp⟩:=bd l
 refine bC (A:=HH) bu (fun s a=>[(0,(sc A2 b D2)),(2,(iv m)),(3,(iv E)),(11,(iv (aG ((b.length:Int) - 1)))),(12,(sc M (sub F (0:Int) (aG ((b.length:Int) - 1))) O)),(13,(iv i.1)),(14,(iv i.2.1)),(15,(iv i.2.2)),(16,(s3 a)),(17,(iv s.2))]) (fun s a=>RR kT3 M O (sub F (0:Int) (aG ((b.length:Int) - 1)))::ow kT161 161 (s3 a) s.1::W0) (bi,([]:List pair).length,bj) (aS R) (tE 3 [2,0]) ?_
 rintro ⟨Y,q⟩ ⟨ab,b1,ah⟩ σ1 bf l bk
 dsimp only [Z4_L1] at l
 refine bJ 1 aB (fun (hn:b1=Y.length)=>?_)
 subst hn
 refine cU ?_
 split at l
 refine bF ?_
 refine bA (A:=((List pair))×(HH)) (fun a=>Z4_J15 q a.1=some bf) (fun a=>[(0,(sc A2 b D2)),(2,(iv m)),(3,(iv E)),(11,(iv (aG ((b.length:Int) - 1)))),(12,(sc M (sub F (0:Int) (aG ((b.length:Int) - 1))) O)),(13,(iv i.1)),(14,(iv i.2.1)),(15,(iv i.2.2)),(16,(s3 a.2)),(17,(iv q))]) (fun a=>RR kT3 M O (sub F (0:Int) (aG ((b.length:Int) - 1)))::ow kT161 161 (s3 a.2) a.1::W0) ?_ ?_
 refine dJ ?_
 obtain ⟨e2,bv,bq⟩:=bd l
 refine bC (A:=HH) bv (fun s a=>[(0,(sc A2 b D2)),(2,(iv m)),(3,(iv E)),(11,(iv (aG ((b.length:Int) - 1)))),(12,(sc M (sub F (0:Int) (aG ((b.length:Int) - 1))) O)),(13,(iv i.1)),(14,(iv i.2.1)),(15,(iv i.2.2)),(16,(s3 a)),(17,(iv q)),(18,(iv s.2))]) (fun s a=>RR kT3 M O (sub F (0:Int) (aG ((b.length:Int) - 1)))::ow kT161 161 (s3 a) s.1::W0) (ab,Y.length,ah) (aS R) tI ?_
 rintro ⟨Z,u⟩ ⟨ac,b2,ai⟩ σ1 bg l bl
 dsimp only [Z4_L2] at l
 refine bJ 1 aB (fun (hn:b2=Z.length)=>?_)
 subst hn
 refine cU ?_
 split at l
 refine bF ?_
 refine bA (A:=((List pair))×(HH)) (fun a=>Z4_J14 u a.1=some bg) (fun a=>[(0,(sc A2 b D2)),(2,(iv m)),(3,(iv E)),(11,(iv (aG ((b.length:Int) - 1)))),(12,(sc M (sub F (0:Int) (aG ((b.length:Int) - 1))) O)),(13,(iv i.1)),(14,(iv i.2.1)),(15,(iv i.2.2)),(16,(s3 a.2)),(17,(iv q)),(18,(iv u))]) (fun a=>RR kT3 M O (sub F (0:Int) (aG ((b.length:Int) - 1)))::ow kT161 161 (s3 a.2) a.1::W0) ?_ ?_
 refine dJ ?_
 obtain ⟨e3,bw,br⟩:=bd l
 refine bC (A:=HH) bw (fun s a=>[(0,(sc A2 b D2)),(2,(iv m)),(3,(iv E)),(11,(iv (aG ((b.length:Int) - 1)))),(12,(sc M (sub F (0:Int) (aG ((b.length:Int) - 1))) O)),(13,(iv i.1)),(14,(iv i.2.1)),(15,(iv i.2.2)),(16,(s3 a)),(17,(iv q)),(18,(iv u)),(19,(iv s.2))]) (fun s a=>RR kT3 M O (sub F (0:Int) (aG ((b.length:Int) - 1)))::ow kT161 161 (s3 a) s.1::W0) (ac,Z.length,ai) (aS R) tI ?_
 rintro ⟨a0,D⟩ ⟨ae,b3,aj⟩ σ1 bh l bm
 dsimp only [Z4_L3] at l
 refine bJ 1 aB (fun (hn:b3=a0.length)=>?_)
 subst hn
 refine cU ?_
 split at l
 refine bF ?_
 refine bA (A:=((List pair))×(HH)) (fun a=>Z4_J13 D a.1=some bh) (fun a=>[(0,(sc A2 b D2)),(2,(iv m)),(3,(iv E)),(11,(iv (aG ((b.length:Int) - 1)))),(12,(sc M (sub F (0:Int) (aG ((b.length:Int) - 1))) O)),(13,(iv i.1)),(14,(iv i.2.1)),(15,(iv i.2.2)),(16,(s3 a.2)),(17,(iv q)),(18,(iv u)),(19,(iv D))]) (fun a=>RR kT3 M O (sub F (0:Int) (aG ((b.length:Int) - 1)))::ow kT161 161 (s3 a.2) a.1::W0) ?_ ?_
 refine dJ ?_
 obtain ⟨e4,bz,bs⟩:=bd l
 refine bC (A:=HH) bz (fun s a=>[(0,(sc A2 b D2)),(2,(iv m)),(3,(iv E)),(11,(iv (aG ((b.length:Int) - 1)))),(12,(sc M (sub F (0:Int) (aG ((b.length:Int) - 1))) O)),(13,(iv i.1)),(14,(iv i.2.1)),(15,(iv i.2.2)),(16,(s3 a)),(17,(iv q)),(18,(iv u)),(19,(iv D)),(20,(iv s.2))]) (fun s a=>RR kT3 M O (sub F (0:Int) (aG ((b.length:Int) - 1)))::ow kT161 161 (s3 a) s.1::W0) (ae,a0.length,aj) (aS R) tI ?_
 rintro ⟨L,T⟩ ⟨ap,b4,aw⟩ σ1 c3 l bn
 dsimp only [Z4_L4] at l
 refine bJ 1 aB (fun (hn:b4=L.length)=>?_)
 subst hn
 refine aR ?_
 obtain ⟨an,l⟩:=gd l
 refine bF ?_
 refine bB 2 aA (show 0<b.length by have:=an; omega) (fun c2 o260 ha=>?_)
 subst ha
 refine cB ?_
 split at l
 refine cB ?_
 obtain ⟨ao,l⟩:=gd l
 refine vV ?_
 refine lO (vz (.agg [(iv (aG ((aG ((aG ((aG ((aG ((aG (q*i.2.1))+u))*i.2.2))+D))*(ix b (aG ((b.length:Int) - 1)))))+T))),(iv (aG ((aG ((aG ((aG ((aG (q*E))+(aG (u*m))))+T))*i.2.2))+D)))].toArray) (aW ml eK R R)) ?_
 refine bQ (K:=kT161) (xs:=([(⟨(aG ((aG ((aG ((aG ((aG ((aG (q*i.2.1))+u))*i.2.2))+D))*(ix b (aG ((b.length:Int) - 1)))))+T)),(aG ((aG ((aG ((aG ((aG (q*E))+(aG (u*m))))+T))*i.2.2))+D))⟩:pair)]:List pair)) (vs:=[(.agg [(iv (aG ((aG ((aG ((aG ((aG ((aG (q*i.2.1))+u))*i.2.2))+D))*(ix b (aG ((b.length:Int) - 1)))))+T))),(iv (aG ((aG ((aG ((aG ((aG (q*E))+(aG (u*m))))+T))*i.2.2))+D)))].toArray)]) 0 R R eZ fA eK R R R R R R ?_ R (fun c0 c1=>?_)
 exact fun I h s=>(iV).list [(((),()),(⟨(aG ((aG ((aG ((aG ((aG ((aG (q*i.2.1))+u))*i.2.2))+D))*(ix b (aG ((b.length:Int) - 1)))))+T)),(aG ((aG ((aG ((aG ((aG (q*E))+(aG (u*m))))+T))*i.2.2))+D))⟩:pair))] I h s
 refine lM _ (tE 3 [2,0,1]) ?_
 refine eF (K:=kT161) 8796093022208 R R eZ fA lj (Zr.zk zT161 eK) R R R R R R dP ao (fun ag ak=>(lN (OO kT161 161 ag ak (L++([(⟨(aG ((aG ((aG ((aG ((aG ((aG (q*i.2.1))+u))*i.2.2))+D))*(ix b (aG ((b.length:Int) - 1)))))+T)),(aG ((aG ((aG ((aG ((aG (q*E))+(aG (u*m))))+T))*i.2.2))+D))⟩:pair)]:List pair))::_::W0) ?_))
 refine cO ?_
 cases l
 exact qA (ag,(L++([(⟨(aG ((aG ((aG ((aG ((aG ((aG (q*i.2.1))+u))*i.2.2))+D))*(ix b (aG ((b.length:Int) - 1)))))+T)),(aG ((aG ((aG ((aG ((aG (q*E))+(aG (u*m))))+T))*i.2.2))+D))⟩:pair)]:List pair)).length,ak) (tE 2 [1,0])
 refine aP ?_
 cases l
 obtain rfl:=bn _ R
 have l:=bs
 refine aP ?_
 exact qI (L,(ap,L.length,aw)) l tI
 rintro ⟨a3,⟨aq,b5,ax⟩⟩ σ1 l
 dsimp only [Z4_J13] at l
 refine bJ 1 aB (fun (hn:b5=a3.length)=>?_)
 subst hn
 refine cB ?_
 cases l
 exact qA (aq,a3.length,ax) tI
 refine aP ?_
 cases l
 obtain rfl:=bm _ R
 have l:=br
 refine aP ?_
 exact qI (a0,(ae,a0.length,aj)) l tI
 rintro ⟨a4,⟨ar,b6,ay⟩⟩ σ1 l
 dsimp only [Z4_J14] at l
 refine bJ 1 aB (fun (hn:b6=a4.length)=>?_)
 subst hn
 refine cB ?_
 cases l
 exact qA (ar,a4.length,ay) tI
 refine aP ?_
 cases l
 obtain rfl:=bl _ R
 have l:=bq
 refine aP ?_
 exact qI (Z,(ac,Z.length,ai)) l tI
 rintro ⟨a5,⟨au,b7,az⟩⟩ σ1 l
 dsimp only [Z4_J15] at l
 refine bJ 1 aB (fun (hn:b7=a5.length)=>?_)
 subst hn
 refine cB ?_
 cases l
 exact qA (au,a5.length,az) tI
 refine aP ?_
 cases l
 obtain rfl:=bk _ R
 have l:=bp
 refine aR ?_
 exact qI (Y,(ab,Y.length,ah)) l tI
 rintro ⟨a6,⟨av,b8,b0⟩⟩ σ1 l
 dsimp only [Z4_J16] at l
 refine bJ 1 aB (fun (hn:b8=a6.length)=>?_)
 subst hn
 refine cW ?_
 cases l
 exact hN ((M,(sub F (0:Int) (aG ((b.length:Int) - 1))).length,O),(av,a6.length,b0)) (tE 3 [0,1])
theorem Z1z_ok  {p1:(List Int)}{a:(List Int)}{r:(List Int)×(List pair)×Bool}(b:Z1z p1 a=some r) :
 FnOk Tryz.prog 133 [(.slice A2 N2 D2),(.slice A4 N4 D4)] [aN kT3 (.slice A2 N2 D2) p1,aN kT3 (.slice A4 N4 D4) a] (fun (h:HH×HH)=>((.tuple [(s3 h.1),(s3 h.2),(.bool r.2.2)].toArray),[aN kT3 (s3 h.1) r.1,ow kT161 161 (s3 h.2) r.2.1])):=by
 unfold Z1z at b
 refine aQ Tryz.func133 R 21 R R fun C V=>?_
 refine cL 0 aA ?_
 rintro rfl
 refine cL 1 aA ?_
 rintro rfl
 let q:=RR kT3 A2 D2 p1::RR kT3 A4 D4 a::V
 refine cN q ?_
 refine cU ?_
 obtain ⟨l,b⟩:=gd b
 obtain ⟨_,b⟩:=gd b
 obtain ⟨_,b⟩:=gd b
 obtain ⟨g,e,b⟩:=bd b
 refine aY 0 aA (show 0<p1.length by have:=l; omega) (fun B o7 u=>?_)
 subst u
 refine cZ 17 [] bN fun E D=>?_
 refine nW 0 [] ?_
 refine d1 10 R (lM _ (fun w s=>(s.d 1 R)) ?_)
 refine lC 1 zf R (Z4_ok e) R ?_
 rintro ⟨⟨A12,N12,D12⟩,⟨i,m,j⟩⟩
 refine aL 0 aA ?_
 rintro rfl
 refine aL 1 aB ?_
 rintro rfl
 refine aC (aE (sL [1,0]) ?_)
 refine rN 11 [1,0] ?_
 refine dD ?_
 refine aR ?_
 cases b
 exact hN ((A12,g.1.length,D12),(i,g.2.1.length,j)) (tE 4 [0,1])
theorem Z2q_ok  {a:Node}{b:(List Int)}{m:Int}{i:Int}{E:Nat}{j:Nat}{g:Nat}{r:(List Int)×(List pair)×Bool}(l:Z2q a b m i=some r) :
 FnOk Tryz.prog 149 [(.agg [(iv a.Op),(.slice A2 N2 D2),(.slice A3 N3 D3),(.slice A4 N4 D4),(aD a.Form),(.slice A5 N5 D5)].toArray),(.slice A7 N7 D7),(pt E 0),(pt j 0),(pt g 0)] [aN kT3 (.slice A2 N2 D2) a.Args,aN kT3 (.slice A3 N3 D3) a.Dims,aN kT3 (.slice A4 N4 D4) a.Ints,aN kT3 (.slice A5 N5 D5) a.Data,aN kT3 (.slice A7 N7 D7) b,aI E [(iv m)] 3,aI j [(iv i)] 3,aI g [(.func (.func 133) [].toArray [].toArray)] 150] (fun (h:HH×HH)=>((.tuple [(s3 h.1),(s3 h.2),(.bool r.2.2)].toArray),[aN kT3 (s3 h.1) r.1,ow kT161 161 (s3 h.2) r.2.1,aI E [(iv m)] 3,aI j [(iv i)] 3,aI g [(.func (.func 133) [].toArray [].toArray)] 150])):=by
 unfold Z2q at l
 refine aQ Tryz.func149 R 30 R R fun C V=>?_
 refine cM _ (fun w s=>(s.f 8 [5,3,0,5])) ?_
 refine cL 3 aA ?_
 rintro rfl
 refine cL 4 aA ?_
 rintro rfl
 refine cL 5 aA ?_
 rintro rfl
 refine cL 6 aA ?_
 rintro rfl
 refine cL 7 aA ?_
 rintro rfl
 let T:=RR kT3 A2 D2 a.Args::RR kT3 A3 D3 a.Dims::RR kT3 A4 D4 a.Ints::RR kT3 A5 D5 a.Data::RR kT3 A7 D7 b::V
 refine aR ?_
 refine eA R fun q=>?_
 refine bF ?_
 let L:=aI q [(iv a.Op),(sc A2 a.Args D2),(sc A3 a.Dims D3),(sc A4 a.Ints D4),(aD a.Form),(sc A5 a.Data D5)] 54::aI E [(iv m)] 3::aI j [(iv i)] 3::aI g [(.func (.func 133) [].toArray [].toArray)] 150::T
 refine qN L ?_
 refine aP ?_
 refine cQ [(1,(sc A7 b D7)),(4,(pt g 0)),(5,(pt q 0)),(21,(.bool ((decide ((a.Ints.length:Int)<m))||(decide ((a.Ints.length:Int)>i)))))] (L) ?_ ?_
 refine dJ ?_
 rcases bo (decide ((a.Ints.length:Int)<m)) with u | u
 refine dJ ?_
 exact qj tI
 refine dJ ?_
 exact qj tI
 rintro σ1
 refine bU ?_
 split at l
 refine cW ?_
 cases l
 exact hN ((none,0,0),(none,0,0)) (fun w s=>(((s.nilr kT3).nilo kT161 161).e 11 [1,0,3,4,5]))
 refine bF ?_
 obtain ⟨D,B,l⟩:=bd l
 refine cB ?_
 refine lM _ (fun w s=>(((s.d 6 R).d 9 R).e 2 [1,0])) ?_
 refine b' (fs:=[]) (cs:=[]) 2 R R zg R R (Z1z_ok B) R ?_
 rintro ⟨⟨F,M,I⟩,⟨G,O,J⟩⟩
 refine aL 0 aA ?_
 rintro rfl
 refine aL 1 aB ?_
 rintro rfl
 refine cO ?_
 cases l
 exact hN ((F,D.1.length,I),(G,D.2.1.length,J)) (fun w s=>(s.f 11 [0,2,3,3]))
theorem Z1o_ok  {k1:shiftKind}{F:Int}{G:Int}{b:Node}{a:(List (List Int))}{j:Nat}{l:Nat}{m:Nat}{r:(List Int)×Bool}(i:Z1o k1 F G b a=some r) :
 FnOk Tryz.prog 220 [(.agg [(aD k1.use),(.func (.func 149) [].toArray [(pt j 0),(pt l 0),(pt m 0)].toArray)].toArray),(.agg [(iv b.Op),(.slice A9 N9 D9),(.slice A10 N10 D10),(.slice A11 N11 D11),(aD b.Form),(.slice A12 N12 D12)].toArray),(.slice A14 N14 D14)] [aI j [(iv F)] 3,aI l [(iv G)] 3,aI m [(.func (.func 133) [].toArray [].toArray)] 150,aN kT3 (.slice A9 N9 D9) b.Args,aN kT3 (.slice A10 N10 D10) b.Dims,aN kT3 (.slice A11 N11 D11) b.Ints,aN kT3 (.slice A12 N12 D12) b.Data,aN bL (.slice A14 N14 D14) a] (fun (h:HH)=>((.tuple [(s3 h),(.bool r.2)].toArray),[aN kT3 (s3 h) r.1,aI j [(iv F)] 3,aI l [(iv G)] 3,aI m [(.func (.func 133) [].toArray [].toArray)] 150])):=by
 unfold Z1o at i
 refine aQ Tryz.func220 R 27 R R fun C V=>?_
 refine cL 3 aA ?_
 rintro rfl
 refine cL 4 aA ?_
 rintro rfl
 refine cL 5 aA ?_
 rintro rfl
 refine cL 6 aA ?_
 rintro rfl
 refine cL 7 aA ?_
 rintro rfl
 let Y:=RR kT3 A9 D9 b.Args::RR kT3 A10 D10 b.Dims::RR kT3 A11 D11 b.Ints::RR kT3 A12 D12 b.Data::RR bL A14 D14 a::V
 refine aR ?_
 refine eA R fun D=>?_
 refine eA R fun E=>?_
 refine aP ?_
 refine qM _ (fun w s=>(s.f 5 [2,3,0,2])) ?_
 let W1:=aI E [(iv b.Op),(sc A9 b.Args D9),(sc A10 b.Dims D10),(sc A11 b.Ints D11),(aD b.Form),(sc A12 b.Data D12)] 54::aI D [(aD k1.use),(.func (.func 149) [].toArray [(pt j 0),(pt l 0),(pt m 0)].toArray)] 145::Y
 refine cO ?_
 split at i
 refine cO ?_
 cases i
 exact jl (none,0,0) (fun w s=>((s.nilr kT3).f 11 [0,4]))
 refine bF ?_
 obtain ⟨g,i⟩:=gd i
 obtain ⟨I,q,i⟩:=bd i
 refine aY 9 aA (show 0<a.length by have:=g; omega) (fun Z o20 ha=>?_)
 subst ha
 refine dE (K:=bL) 9 (0:Int) dT23.dec R g.1 g.2 ?_
 rintro ⟨J,M⟩
 refine cZ 14 [] bN fun ht hn=>?_
 refine kb 0 [] ?_
 refine dR 5 R (eG (fo:=0) 0 cT R R R) (d1 6 R (lM _ (fun w s=>((((((s.d 7 R).d 9 R).d 11 R).d 13 R).d 5 R).e 10 [4,3,2,1,0,7,8,9,5,6])) ?_))
 refine b' (fs:=[]) (cs:=[(pt j 0),(pt l 0),(pt m 0)]) 8 R R pQ R R (Z2q_ok q) R ?_
 rintro ⟨⟨u,T,B⟩,⟨L,U,O⟩⟩
 refine aL 0 aA ?_
 rintro rfl
 refine aL 1 aB ?_
 rintro rfl
 refine aC (aE (fun w s=>(s.f 7 [5,2,2,3])) (dR 7 R (vT R) (hS:=(fun w s=>(s.f 7 [5,2,2,3]))) (dR 8 R (vS R) (hS:=(fun w s=>(s.f 7 [5,2,2,3]))) (dR 9 R (vS R) (hS:=(fun w s=>(s.f 7 [5,2,2,3]))) (dR 10 R (vB R) (hS:=(fun w s=>(s.f 7 [5,2,2,3]))) (dR 11 R (vS R) (hS:=(fun w s=>(s.f 7 [5,2,2,3]))) (dR 12 R (vS R) (hS:=(fun w s=>(s.f 7 [5,2,2,3]))) (dR 13 R (vB R) (hS:=(fun w s=>(s.f 7 [5,2,2,3]))) (dD ?_)))))))))
 refine cW ?_
 cases i
 exact jl (u,I.1.length,B) (tE 14 [0,2,3,4])
theorem kY  {r:kindOfR}{a:Node}{B:(List (List Int))}{g h1 h2:Nat}{l A2 A3 A4 A5:Option Addr}{u m N2 D2 N3 D3 N4 D4 N5 D5:Nat}{mG:Int}{q:(List Int)×Bool}(b:bO r a B=some q) :
 InvOk Tryz.prog (cV r (g,h1,h2)) "loop.example/g00033/impl.shape" [(.agg [(iv a.Op),(.slice l u m),(.slice A2 N2 D2),(.slice A3 N3 D3),(aD a.Form),(.slice A4 N4 D4)].toArray),(.slice A5 N5 D5)] [eQ r (g,h1,h2),aN kT3 (.slice l u m) a.Args,aN kT3 (.slice A2 N2 D2) a.Dims,aN kT3 (.slice A3 N3 D3) a.Ints,aN kT3 (.slice A4 N4 D4) a.Data,aN bL (.slice A5 N5 D5) B,gl 0 mG] (fun (h:HH)=>((.tuple [(s3 h),(.bool q.2)].toArray),[aN kT3 (s3 h) q.1,eQ r (g,h1,h2)])):=by
 unfold bO at b
 rcases cR b with ⟨Z,b⟩|⟨Z,b⟩
 ·cases b
 rcases cR b with ⟨G,b⟩|⟨G,b⟩
 ·obtain ⟨t,D,i,j,F⟩:=r
  obtain rfl:=Nat.eq_of_beq_eq_true G
  exact InvOk.mk (o6 _) (((Z1h_ok b).perm (Pre':=[pk [],aN kT3 (.slice l u m) a.Args,aN kT3 (.slice A2 N2 D2) a.Dims,aN kT3 (.slice A3 N3 D3) a.Ints,aN kT3 (.slice A4 N4 D4) a.Data,aN bL (.slice A5 N5 D5) B,gl 0 mG]) (fun _ _ _ s=>(St.unpack (A:=[]) s).e 6 [0,1,2,3,4])).post id (fun _=>rfl) (fun _ _ _ _ s=>(St.pack (A:=[]) (s)).e 2 [1,0]))
 rcases cR b with ⟨I,b⟩|⟨I,b⟩
 ·obtain ⟨t,D,i,j,F⟩:=r
  obtain rfl:=Nat.eq_of_beq_eq_true I
  exact InvOk.mk (o8 _) (((Z21_ok b).perm (Pre':=[pk [],aN kT3 (.slice l u m) a.Args,aN kT3 (.slice A2 N2 D2) a.Dims,aN kT3 (.slice A3 N3 D3) a.Ints,aN kT3 (.slice A4 N4 D4) a.Data,aN bL (.slice A5 N5 D5) B,gl 0 mG]) (fun _ _ _ s=>(St.unpack (A:=[]) s).e 6 [0,1,2,3,4])).post id (fun _=>rfl) (fun _ _ _ _ s=>(St.pack (A:=[]) (s)).e 2 [1,0]))
 rcases cR b with ⟨J,b⟩|⟨J,b⟩
 ·obtain ⟨t,D,i,j,F⟩:=r
  obtain rfl:=Nat.eq_of_beq_eq_true J
  exact InvOk.mk (o9 _) (((Z2t_ok b).perm (Pre':=[pk [],aN kT3 (.slice l u m) a.Args,aN kT3 (.slice A2 N2 D2) a.Dims,aN kT3 (.slice A3 N3 D3) a.Ints,aN kT3 (.slice A4 N4 D4) a.Data,aN bL (.slice A5 N5 D5) B,gl 0 mG]) (fun _ _ _ s=>(St.unpack (A:=[]) s).e 6 [0,1,2,3,4])).post id (fun _=>rfl) (fun _ _ _ _ s=>(St.pack (A:=[]) (s)).e 2 [1,0]))
 rcases cR b with ⟨L,b⟩|⟨L,b⟩
 ·obtain ⟨t,D,i,j,F⟩:=r
  obtain rfl:=Nat.eq_of_beq_eq_true L
  exact InvOk.mk (oa _) (((Z1v_ok (k1:=⟨⟩) b).perm (Pre':=[pk [],aN kT3 (.slice l u m) a.Args,aN kT3 (.slice A2 N2 D2) a.Dims,aN kT3 (.slice A3 N3 D3) a.Ints,aN kT3 (.slice A4 N4 D4) a.Data,aN bL (.slice A5 N5 D5) B,gl 0 mG]) (fun _ _ _ s=>(St.unpack (A:=[]) s).e 6 [0,1,2,3,4])).post id (fun _=>rfl) (fun _ _ _ _ s=>(St.pack (A:=[]) (s)).e 2 [1,0]))
 rcases cR b with ⟨M,b⟩|⟨M,b⟩
 ·obtain ⟨t,D,i,j,F⟩:=r
  obtain rfl:=Nat.eq_of_beq_eq_true M
  exact InvOk.mk (oc _) (((Z2s_ok (k1:=⟨⟩) b).perm (Pre':=[pk [],aN kT3 (.slice l u m) a.Args,aN kT3 (.slice A2 N2 D2) a.Dims,aN kT3 (.slice A3 N3 D3) a.Ints,aN kT3 (.slice A4 N4 D4) a.Data,aN bL (.slice A5 N5 D5) B,gl 0 mG]) (fun _ _ _ s=>St.unpack (A:=[]) s)).post id (fun _=>rfl) (fun _ _ _ _ s=>(St.pack (A:=[]) ((s).shr 0 R)).e 2 [1,0]))
 rcases cR b with ⟨O,b⟩|⟨O,b⟩
 ·obtain ⟨t,D,i,j,F⟩:=r
  obtain rfl:=Nat.eq_of_beq_eq_true O
  exact InvOk.mk (fZ _) (((Z1p_ok b).perm (Pre':=[pk [],aN kT3 (.slice l u m) a.Args,aN kT3 (.slice A2 N2 D2) a.Dims,aN kT3 (.slice A3 N3 D3) a.Ints,aN kT3 (.slice A4 N4 D4) a.Data,aN bL (.slice A5 N5 D5) B,gl 0 mG]) (fun _ _ _ s=>(St.unpack (A:=[]) s).e 6 [0,1,2,3,4])).post id (fun _=>rfl) (fun _ _ _ _ s=>(St.pack (A:=[]) (s)).e 2 [1,0]))
 rcases cR b with ⟨T,b⟩|⟨T,b⟩
 ·obtain ⟨t,D,i,j,F⟩:=r
  obtain rfl:=Nat.eq_of_beq_eq_true T
  exact InvOk.mk (fZ _) (((Z22_ok b).perm (Pre':=[pk [],aN kT3 (.slice l u m) a.Args,aN kT3 (.slice A2 N2 D2) a.Dims,aN kT3 (.slice A3 N3 D3) a.Ints,aN kT3 (.slice A4 N4 D4) a.Data,aN bL (.slice A5 N5 D5) B,gl 0 mG]) (fun _ _ _ s=>(St.unpack (A:=[]) s).e 6 [0,1,2,3,4])).post id (fun _=>rfl) (fun _ _ _ _ s=>(St.pack (A:=[]) (s)).e 2 [1,0]))
 rcases cR b with ⟨U,b⟩|⟨U,b⟩
 ·obtain ⟨t,D,i,j,F⟩:=r
  obtain rfl:=Nat.eq_of_beq_eq_true U
  exact InvOk.mk (fZ _) (((Z1l_ok b).perm (Pre':=[pk [aI g [(iv i)] 3,aI h1 [(iv j)] 3,aI h2 [(.func (.func 127) [].toArray [].toArray)] 150],aN kT3 (.slice l u m) a.Args,aN kT3 (.slice A2 N2 D2) a.Dims,aN kT3 (.slice A3 N3 D3) a.Ints,aN kT3 (.slice A4 N4 D4) a.Data,aN bL (.slice A5 N5 D5) B,gl 0 mG]) (fun _ _ _ s=>(St.unpack (A:=[aI g [(iv i)] 3,aI h1 [(iv j)] 3,aI h2 [(.func (.func 127) [].toArray [].toArray)] 150]) s).e 9 [0,1,2,3,4,5,6,7])).post id (fun _=>rfl) (fun _ _ _ _ s=>(St.pack (A:=[aI g [(iv i)] 3,aI h1 [(iv j)] 3,aI h2 [(.func (.func 127) [].toArray [].toArray)] 150]) (((s).shr 0 R).e 4 [1,2,3,0])).e 2 [1,0]))
 rcases cR b with ⟨Y,b⟩|⟨Y,b⟩
 ·obtain ⟨t,D,i,j,F⟩:=r
  obtain rfl:=Nat.eq_of_beq_eq_true Y
  exact InvOk.mk (fZ _) (((Z1m_ok b).perm (Pre':=[pk [aI g [(iv i)] 3,aI h1 [(iv j)] 3,aI h2 [(.func (.func 129) [].toArray [].toArray)] 150],aN kT3 (.slice l u m) a.Args,aN kT3 (.slice A2 N2 D2) a.Dims,aN kT3 (.slice A3 N3 D3) a.Ints,aN kT3 (.slice A4 N4 D4) a.Data,aN bL (.slice A5 N5 D5) B,gl 0 mG]) (fun _ _ _ s=>(St.unpack (A:=[aI g [(iv i)] 3,aI h1 [(iv j)] 3,aI h2 [(.func (.func 129) [].toArray [].toArray)] 150]) s).e 9 [0,1,2,3,4,5,6,7])).post id (fun _=>rfl) (fun _ _ _ _ s=>(St.pack (A:=[aI g [(iv i)] 3,aI h1 [(iv j)] 3,aI h2 [(.func (.func 129) [].toArray [].toArray)] 150]) (((s).shr 0 R).e 4 [1,2,3,0])).e 2 [1,0]))
 rcases cR b with ⟨E,b⟩|⟨E,b⟩
 ·obtain ⟨t,D,i,j,F⟩:=r
  obtain rfl:=Nat.eq_of_beq_eq_true E
  exact InvOk.mk (fZ _) (((Z1n_ok b).perm (Pre':=[pk [aI g [(iv i)] 3,aI h1 [(iv j)] 3,aI h2 [(.func (.func 131) [].toArray [].toArray)] 150],aN kT3 (.slice l u m) a.Args,aN kT3 (.slice A2 N2 D2) a.Dims,aN kT3 (.slice A3 N3 D3) a.Ints,aN kT3 (.slice A4 N4 D4) a.Data,aN bL (.slice A5 N5 D5) B,gl 0 mG]) (fun _ _ _ s=>(St.unpack (A:=[aI g [(iv i)] 3,aI h1 [(iv j)] 3,aI h2 [(.func (.func 131) [].toArray [].toArray)] 150]) s).e 9 [0,1,2,3,4,5,6,7])).post id (fun _=>rfl) (fun _ _ _ _ s=>(St.pack (A:=[aI g [(iv i)] 3,aI h1 [(iv j)] 3,aI h2 [(.func (.func 131) [].toArray [].toArray)] 150]) (((s).shr 0 R).e 4 [1,2,3,0])).e 2 [1,0]))
 have hV:cV r (g,h1,h2)=(.iface 145 (.agg [(aD r.s0),(.func (.func 149) [].toArray [(pt g 0),(pt h1 0),(pt h2 0)].toArray)].toArray)):=by simp only [cV,Z,G,I,J,L,M,O,T,U,Y,E,cond_false]
 have hE:eQ r (g,h1,h2)=pk [aI g [(iv r.i0)] 3,aI h1 [(iv r.i1)] 3,aI h2 [(.func (.func 133) [].toArray [].toArray)] 150]:=by simp only [eQ,Z,G,I,J,L,M,O,T,U,Y,E,cond_false]
 rw [hV,hE]
 exact InvOk.mk (fZ _) (((Z1o_ok b).perm (Pre':=[pk [aI g [(iv r.i0)] 3,aI h1 [(iv r.i1)] 3,aI h2 [(.func (.func 133) [].toArray [].toArray)] 150],aN kT3 (.slice l u m) a.Args,aN kT3 (.slice A2 N2 D2) a.Dims,aN kT3 (.slice A3 N3 D3) a.Ints,aN kT3 (.slice A4 N4 D4) a.Data,aN bL (.slice A5 N5 D5) B,gl 0 mG]) (fun _ _ _ s=>(St.unpack (A:=[aI g [(iv r.i0)] 3,aI h1 [(iv r.i1)] 3,aI h2 [(.func (.func 133) [].toArray [].toArray)] 150]) s).e 9 [0,1,2,3,4,5,6,7])).post id (fun _=>rfl) (fun _ _ _ _ s=>(St.pack (A:=[aI g [(iv r.i0)] 3,aI h1 [(iv r.i1)] 3,aI h2 [(.func (.func 133) [].toArray [].toArray)] 150]) ((s).e 4 [1,2,3,0])).e 2 [1,0]))
theorem Zf_ok  {i:Node}{b:(List (List Int))}{mG:Int}{r:(List Int)×Bool}(l:Zf i b=some r) :
 FnOk Tryz.prog 59 [(.agg [(iv i.Op),(.slice A2 N2 D2),(.slice A3 N3 D3),(.slice A4 N4 D4),(aD i.Form),(.slice A5 N5 D5)].toArray),(.slice A7 N7 D7)] [aN kT3 (.slice A2 N2 D2) i.Args,aN kT3 (.slice A3 N3 D3) i.Dims,aN kT3 (.slice A4 N4 D4) i.Ints,aN kT3 (.slice A5 N5 D5) i.Data,ow (bL).share 23 (.slice A7 N7 D7) b,gl 0 mG] (fun (h:HH)=>((.tuple [(s3 h),(.bool r.2)].toArray),[aN kT3 (s3 h) r.1,ow (bL).share 23 (.slice A7 N7 D7) b])):=by
 unfold Zf at l
 refine aQ Tryz.func59 R 58 R R fun C V=>?_
 refine cM _ (tE 6 [4,0,1,2,3,5]) ?_
 refine cL 0 eV ?_
 rintro rfl
 refine cL 1 aA ?_
 rintro rfl
 refine cL 2 aA ?_
 rintro rfl
 refine cL 3 aA ?_
 rintro rfl
 refine cL 4 aA ?_
 rintro rfl
 let W0:=RR kT3 A2 D2 i.Args::RR kT3 A3 D3 i.Dims::RR kT3 A4 D4 i.Ints::RR kT3 A5 D5 i.Data::gl 0 mG::V
 refine aR ?_
 refine eA R fun b8=>?_
 refine aP ?_
 refine qM _ (tE 2 [1,0]) ?_
 let W1:=aI b8 [(iv i.Op),(sc A2 i.Args D2),(sc A3 i.Dims D3),(sc A4 i.Ints D4),(aD i.Form),(sc A5 i.Data D5)] 54::W0
 refine aR ?_
 obtain ⟨D,a8,l⟩:=bd l
 refine aP ?_
 refine lC 0 AM R (Zw_ok a8) R ?_
 rintro ⟨q,u,B⟩
 refine lO (vp _ R) ?_
 refine bF ?_
 obtain ⟨aw,J,l⟩:=bd l
 obtain ⟨aa,L,l⟩:=bd l
 refine cQ [(1,(sc A7 b D7)),(2,(pt b8 0)),(6,(cV D (q,u,B))),(27,(.bool (((Nat.beq D.t 0)||(!aa))||(decide ((i.Args.length:Int)>6)))))] (OO (bL).share 23 A7 D7 b::eQ D (q,u,B)::W1) ?_ ?_
 rcases bo (Nat.beq D.t 0) with j | j
 refine cZ 15 [] bN fun ht G=>?_
 refine dR 0 R (vp _ R) (dR 1 R (vz (.bool (Nat.beq D.t 0)) (mm R)) ?_)
 refine md 2 [] ?_
 refine dD ?_
 exact qj (tE 2 [1,0])
 rcases bo ((Nat.beq D.t 0)||(!aa)) with a2 | a2
 refine cZ 15 [] bN fun ht G=>?_
 refine dR 0 R (vp _ R) (dR 1 R (vz (.bool (Nat.beq D.t 0)) (mm R)) ?_)
 refine gN 2 [] ?_
 refine dW 4 R (bZ j) (vp _ R) (d1 5 R (rI 1 (bZ j) R R (jr (bG J (cK j))) R ?_))
 rintro _
 refine aC (aE (sL []) (d1 6 R (lM _ (fun w s=>((((((s.d 3 R).d 5 R).d 7 R).d 9 R).dg 11 R).e 7 [4,3,2,1,0,5,6])) ?_)))
 refine bS 5 R (bZ j) yw R (Z1u_ok (bG L (cK j))) R ?_
 rintro _
 refine aC (aE (sL []) ?_)
 refine tO 7 [] ?_
 refine dD ?_
 exact qj (tE 2 [1,0])
 refine cZ 15 [] bN fun ht G=>?_
 refine dR 0 R (vp _ R) (dR 1 R (vz (.bool (Nat.beq D.t 0)) (mm R)) ?_)
 refine gN 2 [] ?_
 refine dW 4 R (bZ j) (vp _ R) (d1 5 R (rI 1 (bZ j) R R (jr (bG J (cK j))) R ?_))
 rintro _
 refine aC (aE (sL []) (d1 6 R (lM _ (fun w s=>((((((s.d 3 R).d 5 R).d 7 R).d 9 R).dg 11 R).e 7 [4,3,2,1,0,5,6])) ?_)))
 refine bS 5 R (bZ j) yw R (Z1u_ok (bG L (cK j))) R ?_
 rintro _
 refine aC (aE (sL []) ?_)
 refine tO 7 [] ?_
 refine dD ?_
 exact qj (tE 2 [1,0])
 rintro σ1
 refine bU ?_
 split at l
 refine cO ?_
 cases l
 exact jl (none,0,0) (fun w s=>((s.nilr kT3).e 9 [0,1]))
 refine cB ?_
 refine bQ (K:=bL) (xs:=([]:List (List Int))) (vs:=[]) 0 R R ke fR me R R R R R R ?_ R (fun ab ae=>?_)
 exact fun I h s=>(mE).list [] I h s
 refine bF ?_
 refine bA (A:=((List (List Int)))×(HH)) (fun a=>Zf_J1 i D a.1=some r) (fun a=>[(2,(pt b8 0)),(6,(cV D (q,u,B))),(7,(s3 a.2))]) (fun a=>eQ D (q,u,B)::ow (bL).share 23 (s3 a.2) a.1::OO (bL).share 23 A7 D7 b::W1) ?_ ?_
 refine cO ?_
 obtain ⟨e1,ak,a7⟩:=bd l
 refine bC (A:=HH×HH) ak (fun s a=>[(1,(sc A7 b D7)),(2,(pt b8 0)),(6,(cV D (q,u,B))),(7,(s3 a.1)),(30,(s3 a.2)),(31,(il i.Args)),(32,(iv s.2))]) (fun s a=>OO (bL).share 23 A7 D7 b::eQ D (q,u,B)::ow (bL).share 23 (s3 a.1) s.1::aN kT3 (s3 a.2) i.Args::W1) ((ab,([]:List (List Int)).length,ae),(A2,i.Args.length,D2)) (aS R) (fun w s=>(((s.wk 0 R).d 4 R).e 4 [2,3,1,0])) ?_
 rintro ⟨g,m⟩ ⟨⟨M,ah,O⟩,⟨an,ai,T⟩⟩ σ1 am l a4
 dsimp only [Zf_L1] at l
 refine bJ 2 eV (fun (G:ah=g.length)=>?_)
 subst G
 refine bJ 3 aA (fun (G:ai=i.Args.length)=>?_)
 subst G
 refine bT ?_
 split at l
 refine bT ?_
 obtain ⟨a5,l⟩:=gd l
 refine aH (bB 3 aA (show 0<i.Args.length by have:=a5; omega) (fun U o42 ha=>?_))
 subst ha
 refine dJ ?_
 refine cQ [(1,(sc A7 b D7)),(2,(pt b8 0)),(6,(cV D (q,u,B))),(7,(sc M g O)),(9,(iv (ix i.Args m))),(30,(sc (ad U o42) i.Args T)),(31,(il i.Args)),(32,(iv m)),(43,(.bool ((decide ((ix i.Args m)<0))||(decide ((ix i.Args m)≥(b.length:Int))))))] (OO (bL).share 23 A7 D7 b::eQ D (q,u,B)::OO (bL).share 23 M O g::RR kT3 (ad U o42) T i.Args::W1) ?_ ?_
 refine bF ?_
 rcases bo (decide ((ix i.Args m)<0)) with a3 | a3
 refine bT ?_
 exact qj tI
 refine bT ?_
 exact qj tI
 rintro σ1
 refine bU ?_
 split at l
 refine hW ?_
 cases l
 obtain rfl:=a4 _ R
 have l:=a7
 refine aP ?_
 cases l
 exact jl (none,0,0) (fun w s=>((s.nilr kT3).e 11 [0,1]))
 refine aP ?_
 obtain ⟨E,l⟩:=gd l
 obtain ⟨a6,l⟩:=gd l
 refine bF ?_
 refine bB 0 eV (show 0<b.length by have:=E; omega) (fun av o47 ha=>?_)
 subst ha
 refine bU ?_
 refine vH (K:=(bL).share) (fo:=0) 0 (ix i.Args m) R R cT dT23.own (fun _ _=>R) R R E.1 E.2 ?_
 rintro ⟨Y,a0⟩
 refine lM _ (fun w s=>(s.d 0 R)) ?_
 refine bQ (K:=(bL).share) (xs:=([(ix b (ix i.Args m))]:List (List Int))) (vs:=[(sc Y (ix b (ix i.Args m)) a0)]) 1 R R ke fR me R R R R R R ?_ R (fun ao aq=>?_)
 exact fun I h s=>(rP).list [((sc Y (ix b (ix i.Args m)) a0),(ix b (ix i.Args m)))] I h s
 refine lM _ (tE 6 [4,0,1,2,3,5]) ?_
 refine eF (K:=(bL).share) 5864062014805 R R ke fR tT (Zr.zk (Zr.share zT23) me) R R R R R R dP a6 (fun Z a1=>(lN (OO (bL).share 23 Z a1 (g++([(ix b (ix i.Args m))]:List (List Int)))::_::_::_::_::W1) ?_))
 refine cU ?_
 cases l
 exact qA ((Z,(g++([(ix b (ix i.Args m))]:List (List Int))).length,a1),((ad U o42),i.Args.length,T)) (tE 5 [2,3,0,4])
 refine aP ?_
 cases l
 obtain rfl:=a4 _ R
 have l:=a7
 refine aR ?_
 exact qI (g,(M,g.length,O)) l (tE 4 [1,2,0])
 rintro ⟨F,⟨ap,aj,ar⟩⟩ σ1 l
 dsimp only [Zf_J1] at l
 refine bJ 1 eV (fun (G:aj=F.length)=>?_)
 subst G
 refine bU ?_
 obtain ⟨al,a9,l⟩:=bd l
 refine aH (lO (vp _ R) ?_)
 refine aR ?_
 refine iM (fun w s=>s.shs 1 R) (lM _ (fun w s=>(((((((s.d 4 R).d 6 R).d 8 R).d 10 R).d 4 R).dg 13 R).e 9 [7,5,4,3,2,1,0,6,8])) ?_)
 refine rI 7 R R R (kY a9) R ?_
 rintro ⟨ac,au,ag⟩
 refine aL 0 aA ?_
 rintro rfl
 refine dJ ?_
 cases l
 exact jl (ac,al.1.length,ag) (tE 10 [0,3])
theorem Zj_ok  {g1:Graph}{mG:Int}{r:(List (List Int))×Bool}(b:Zj g1=some r) :
 FnOk Tryz.prog 36 [(.agg [(.slice A2 N2 D2),(.slice A3 N3 D3)].toArray)] [aN dU (.slice A2 N2 D2) g1.Nodes,aN kT3 (.slice A3 N3 D3) g1.Outs,gl 0 mG] (fun (h:HH)=>((.tuple [(s3 h),(.bool r.2)].toArray),[ow (bL).share 23 (s3 h) r.1])):=by
 unfold Zj at b
 refine aQ Tryz.func36 R 60 R R fun C V=>?_
 refine cL 0 aA ?_
 rintro rfl
 refine cL 1 aA ?_
 rintro rfl
 let W0:=RR dU A2 D2 g1.Nodes::RR kT3 A3 D3 g1.Outs::gl 0 mG::V
 refine cN W0 ?_
 refine aR ?_
 refine eA R fun G=>?_
 refine aP ?_
 let B:=aI G [(sc A2 g1.Nodes D2),(sc A3 g1.Outs D3)] 30::W0
 refine qN B ?_
 refine aP ?_
 refine cQ [(1,(pt G 0)),(20,(.bool ((decide ((g1.Nodes.length:Int)>200))||(decide ((g1.Outs.length:Int)>40)))))] (B) ?_ ?_
 refine bT ?_
 rcases bo (decide ((g1.Nodes.length:Int)>200)) with ak | ak
 refine bT ?_
 exact qj tI
 refine bT ?_
 exact qj tI
 rintro σ1
 refine bU ?_
 split at b
 refine cO ?_
 cases b
 exact jl (none,0,0) (fun w s=>((s.nilo (bL).share 23).e 5 [0]))
 refine cB ?_
 refine bQ (K:=bL) (xs:=([]:List (List Int))) (vs:=[]) 0 R R ke fR me R R R R R R ?_ R (fun A7 D7=>?_)
 exact fun I h s=>(mE).list [] I h s
 refine bF ?_
 refine bA (A:=((List (List Int)))×(HH)) (fun a=>Zj_J1 g1 a.1=some r) (fun a=>[(1,(pt G 0)),(4,(s3 a.2))]) (fun a=>ow (bL).share 23 (s3 a.2) a.1::B) ?_ ?_
 refine cO ?_
 obtain ⟨e1,al,a9⟩:=bd b
 refine bC (A:=HH) al (fun s a=>[(1,(pt G 0)),(4,(s3 a)),(23,(sc A2 g1.Nodes D2)),(24,(il g1.Nodes)),(25,(iv s.2))]) (fun s a=>ow (bL).share 23 (s3 a) s.1::B) (A7,([]:List (List Int)).length,D7) (aS R) (fun w s=>(s.wk 0 R)) ?_
 rintro ⟨u,g⟩ ⟨ac,ag,ae⟩ σ1 an b a5
 dsimp only [Zj_L1] at b
 refine bJ 0 eV (fun (hn:ag=u.length)=>?_)
 subst hn
 refine bT ?_
 split at b
 refine bT ?_
 obtain ⟨q,b⟩:=gd b
 refine aH (bB 2 aA (show 0<g1.Nodes.length by have:=q; omega) (fun av o30 ha=>?_))
 subst ha
 refine bU ?_
 refine gB (K:=dU) 2 g dT54.dec R q.1 q.2 ?_
 rintro ⟨-,⟨J,Y⟩,⟨L,Z⟩,⟨M,a0⟩,-,⟨O,a1⟩⟩
 refine lO (vz (.agg [(iv (ix g1.Nodes g).Op),(sc J ((ix g1.Nodes g).Args) Y),(sc L ((ix g1.Nodes g).Dims) Z),(sc M ((ix g1.Nodes g).Ints) a0),(aD (ix g1.Nodes g).Form),(sc O ((ix g1.Nodes g).Data) a1)].toArray) (dY (fo:=0) 0 o0 jV R R R R)) (bD R R qp (fun aj=>(aK 0 R R jV R R R R R R (lN (aI aj [(iv (ix g1.Nodes g).Op),(sc J ((ix g1.Nodes g).Args) Y),(sc L ((ix g1.Nodes g).Dims) Z),(sc M ((ix g1.Nodes g).Ints) a0),(aD (ix g1.Nodes g).Form),(sc O ((ix g1.Nodes g).Data) a1)] 54::_::_::_::_::_::_::B) ?_))))
 refine aP ?_
 obtain ⟨m,ab,b⟩:=bd b
 refine aP ?_
 refine lM _ (fun w s=>((((((s.d 2 R).d 4 R).d 6 R).d 8 R).dg 14 R).e 12 [4,3,2,1,11,0,5,6,7,8,9,10])) ?_
 refine lC 6 AO R (Zf_ok ab) R ?_
 rintro ⟨T,au,a2⟩
 refine aL 0 aA ?_
 rintro rfl
 refine lO (vT R) ?_
 refine ka ?_
 split at b
 refine hW ?_
 cases b
 obtain rfl:=a5 _ R
 have b:=a9
 refine aP ?_
 cases b
 exact jl (none,0,0) (fun w s=>((s.nilo (bL).share 23).e 13 [0]))
 refine aP ?_
 obtain ⟨a7,b⟩:=gd b
 refine aP ?_
 refine lM _ (fun w s=>(s.d 0 R)) ?_
 refine bQ (K:=(bL).share) (xs:=([m.1]:List (List Int))) (vs:=[(sc T m.1 a2)]) 1 R R ke fR me R R R R R R ?_ R (fun ap ar=>?_)
 exact fun I h s=>(rP).list [((sc T m.1 a2),m.1)] I h s
 refine lM _ (fun w s=>(s.f 9 [2,1,0,2,3,6])) ?_
 refine eF (K:=(bL).share) 5864062014805 R R ke fR tT (Zr.zk (Zr.share zT23) me) R R R R R R dP a7 (fun U a3=>(lN (OO (bL).share 23 U a3 (u++([m.1]:List (List Int)))::_::_::_::_::_::_::_::B) ?_))
 refine cU ?_
 cases b
 exact qA (U,(u++([m.1]:List (List Int))).length,a3) (tE 8 [0])
 refine aP ?_
 cases b
 obtain rfl:=a5 _ R
 have b:=a9
 refine aR ?_
 exact qI (u,(ac,u.length,ae)) b tI
 rintro ⟨i,⟨j,ah,l⟩⟩ σ1 b
 dsimp only [Zj_J1] at b
 refine bJ 0 eV (fun (hn:ah=i.length)=>?_)
 subst hn
 refine aO (bA (A:=(Unit)×(Unit)) (fun a=>Zj_J2 i=some r) (fun a=>[(4,(sc j i l))]) (fun a=>OO (bL).share 23 j l i::B) ?_ ?_)
 refine cO ?_
 obtain ⟨e2,am,aa⟩:=bd b
 refine bC (A:=HH) am (fun s a=>[(1,(pt G 0)),(4,(sc j i l)),(43,(s3 a)),(44,(il g1.Outs)),(45,(iv s))]) (fun s a=>OO (bL).share 23 j l i::aN kT3 (s3 a) g1.Outs::B) (A3,g1.Outs.length,D3) (aS R) (fun w s=>((s.d 3 R).e 2 [1,0])) ?_
 rintro D ⟨aq,ai,E⟩ σ1 ao b a6
 dsimp only [Zj_L2] at b
 refine bJ 1 aA (fun (hn:ai=g1.Outs.length)=>?_)
 subst hn
 refine bT ?_
 split at b
 refine bT ?_
 obtain ⟨a8,b⟩:=gd b
 refine aH (bB 1 aA (show 0<g1.Outs.length by have:=a8; omega) (fun F o59 ha=>?_))
 subst ha
 refine bT ?_
 refine cQ [(1,(pt G 0)),(4,(sc j i l)),(43,(sc (ad F o59) g1.Outs E)),(44,(il g1.Outs)),(45,(iv D)),(57,(.bool ((decide ((ix g1.Outs D)<0))||(decide ((ix g1.Outs D)≥(g1.Nodes.length:Int))))))] (OO (bL).share 23 j l i::RR kT3 (ad F o59) E g1.Outs::B) ?_ ?_
 refine bF ?_
 rcases bo (decide ((ix g1.Outs D)<0)) with a4 | a4
 refine dJ ?_
 exact qj tI
 refine dJ ?_
 exact qj tI
 rintro σ1
 refine bU ?_
 split at b
 refine cW ?_
 cases b
 obtain rfl:=a6 _ R
 have b:=aa
 refine aP ?_
 cases b
 exact jl (none,0,0) (fun w s=>((s.nilo (bL).share 23).e 7 [0]))
 refine cU ?_
 cases b
 exact qA ((ad F o59),g1.Outs.length,E) tI
 refine aP ?_
 cases b
 obtain rfl:=a6 _ R
 have b:=aa
 refine aR ?_
 exact qI ((),()) b (tE 2 [0])
 rintro ⟨_,_⟩ σ1 b
 dsimp only [Zj_J2] at b
 refine cU ?_
 cases b
 exact jl (j,i.length,l) (tE 5 [0])
theorem Z2c_ok  {g1:Graph}{mG:Int}{r:Bool}(a:Z2c g1=some r) :
 FnOk Tryz.prog 12 [(.agg [(.slice A2 N2 D2),(.slice A3 N3 D3)].toArray)] [aN dU (.slice A2 N2 D2) g1.Nodes,aN kT3 (.slice A3 N3 D3) g1.Outs,gl 0 mG] (fun (h:Unit)=>((.bool r),[])):=by
 unfold Z2c at a
 refine aQ Tryz.func12 R 11 R R fun C V=>?_
 refine cL 0 aA ?_
 rintro rfl
 refine cL 1 aA ?_
 rintro rfl
 let g:=RR dU A2 D2 g1.Nodes::RR kT3 A3 D3 g1.Outs::gl 0 mG::V
 refine cN g ?_
 refine aR ?_
 refine eA R fun j=>?_
 refine aR ?_
 let i:=aI j [(sc A2 g1.Nodes D2),(sc A3 g1.Outs D3)] 30::g
 refine qN i ?_
 refine aR ?_
 obtain ⟨l,b,a⟩:=bd a
 refine aR ?_
 refine lM _ (fun w s=>((((s.d 1 R).d 3 R).dg 5 R).e 3 [2,1,0])) ?_
 refine lC 3 AP R (Zj_ok b) R ?_
 rintro ⟨A7,N7,D7⟩
 refine aL 0 eV ?_
 rintro rfl
 refine lO (vT R) ?_
 refine ka ?_
 cases a
 exact qF () (tE 5 [])
theorem Z35_ok  {a:(List Int)}{r:(List Int)}(g:Z35 a=some r) :
 FnOk Tryz.prog 45 [(.slice A2 N2 D2)] [aN kT3 (.slice A2 N2 D2) a] (fun (h:HH×Nat)=>((.func (.func 71) [].toArray [(pt h.2 0)].toArray),[aN kT3 (s3 h.1) r,aI h.2 [(s3 h.1)] 23])):=by
 unfold Z35 at g
 refine aQ Tryz.func45 R 4 R R fun C V=>?_
 refine cL 0 aA ?_
 rintro rfl
 let e:=RR kT3 A2 D2 a::V
 refine cN e ?_
 refine aR ?_
 refine eT (cs:=[(sc A2 a D2)]) R R R (fun b=>(lO (vp _ R) (aC ?_)))
 let i:=aI b [(sc A2 a D2)] 23::e
 refine qN i ?_
 refine aP ?_
 refine lO (vp (.func (.func 71) [].toArray [(pt b 0)].toArray) R) (lO (vp _ R) ?_)
 refine aP ?_
 cases g
 exact qF ((A2,a.length,D2),b) (tE 2 [1,0])
theorem Z1t_ok  {k1:Int}{e:(List Int)}{a:Nat}{r:Bool}(b:Z1t k1 e=some r) :
 FnOk Tryz.prog 71 [(iv k1),(pt a 0)] [aN kT3 (.slice A4 N4 D4) e,aI a [(.slice A4 N4 D4)] 23] (fun (h:Unit)=>((.bool r),[aI a [(.slice A4 N4 D4)] 23])):=by
 unfold Z1t at b
 refine aQ Tryz.func71 R 13 R R fun C V=>?_
 refine cM _ (tE 2 [1,0]) ?_
 refine cL 1 aA ?_
 rintro rfl
 let j:=RR kT3 A4 D4 e::V
 refine bF ?_
 let i:=aI a [(sc A4 e D4)] 23::j
 refine qN i ?_
 refine aR ?_
 obtain ⟨l,g,b⟩:=bd b
 refine aP ?_
 refine lM _ (fun w s=>(s.d 1 R)) ?_
 refine lC 1 B0 R (Z0k_ok g) R ?_
 rintro _
 refine lN i ?_
 refine lO (vT R) ?_
 refine ka ?_
 cases b
 exact qF () (tE 2 [0])
theorem Z0e_ok  {g:Int}{D:(List Int)}{l:Nat}{r:(List Int)}(b:Z0e g D=some r) :
 FnOk Tryz.prog 69 [(iv g),(.func (.func 71) [].toArray [(pt l 0)].toArray)] [aN kT3 (.slice A5 N5 D5) D,aI l [(.slice A5 N5 D5)] 23] (fun (h:HH)=>((s3 h),[ow kT3 3 (s3 h) r,aI l [(.slice A5 N5 D5)] 23])):=by
 unfold Z0e at b
 refine aQ Tryz.func69 R 26 R R fun C V=>?_
 refine cM _ (tE 2 [1,0]) ?_
 refine cL 1 aA ?_
 rintro rfl
 let G:=RR kT3 A5 D5 D::V
 refine bT ?_
 obtain ⟨u,b⟩:=gd b
 refine aR ?_
 refine fH (K:=kT3) (m:=g) (z:=(0:Int)) R R bM cC kc (Zr.zk zT3 gR) (by decide) R R u.1 u.2.1 u.2.2 (fun A7 D7=>(lS R (aC (aJ (aO (aH (lI R (aC (aJ (aO (bA (A:=((List Int))×(Unit)) (fun a=>Z0e_J3 a.1=some r) (fun a=>[(5,(sc A7 (List.replicate g.toNat (0:Int)) D7))]) (fun a=>ow kT3 3 (.slice A7 (List.replicate g.toNat (0:Int)).length D7) a.1::aI l [(sc A5 D D5)] 23::G) ?_ ?_)))))))))))
 refine cU ?_
 obtain ⟨e1,M,L⟩:=bd b
 refine bC (A:=Unit) M (fun s a=>[(1,(.func (.func 71) [].toArray [(pt l 0)].toArray)),(5,(sc A7 (List.replicate g.toNat (0:Int)) D7)),(6,(iv s.2.1)),(11,(il (List.replicate g.toNat (0:Int)))),(12,(iv s.2.2))]) (fun s a=>aI l [(sc A5 D D5)] 23::ow kT3 3 (.slice A7 (List.replicate g.toNat (0:Int)).length D7) s.1::G) () (aS R) (tE 2 [1,0]) ?_
 rintro ⟨B,i,q⟩ _ σ1 F b J
 dsimp only [Z0e_L1] at b
 refine bT ?_
 split at b
 refine bF ?_
 refine bA (A:=(Int)×(Unit)) (fun a=>Z0e_J2 B i q a.1=some F) (fun a=>[(1,(.func (.func 71) [].toArray [(pt l 0)].toArray)),(5,(sc A7 (List.replicate g.toNat (0:Int)) D7)),(6,(iv a.1)),(11,(il (List.replicate g.toNat (0:Int)))),(12,(iv q))]) (fun a=>aI l [(sc A5 D D5)] 23::ow kT3 3 (.slice A7 (List.replicate g.toNat (0:Int)).length D7) (B.set q.toNat i)::G) ?_ ?_
 refine cU ?_
 obtain ⟨j,b⟩:=gd b
 refine bF ?_
 refine bB 1 aB (show 0<(List.replicate g.toNat (0:Int)).length by have:=j; omega) (fun O o25 T=>?_)
 subst T
 refine bU ?_
 refine lM _ (tE 2 [1,0]) ?_
 refine dZ (K:=kT3) (x':=i) 0 q R R cC R R j.1 j.2 ?_ ?_
 exact fun I h s=>(gL).put I h () i s
 refine aP ?_
 obtain ⟨U,E,b⟩:=bd b
 refine aH (lO (vp _ R) (lI R (lM _ (fun w s=>((s.d 2 R).e 3 [0,2,1])) ?_)))
 refine b' (fs:=[]) (cs:=[(pt l 0)]) 2 R R wl R R (Z1t_ok E) R ?_
 rintro _
 refine aR ?_
 split at b
 refine dJ ?_
 exact qI ((aG (i+1)),()) b tI
 refine aP ?_
 exact qI (i,()) b tI
 rintro ⟨Y,_⟩ σ1 b
 dsimp only [Z0e_J2] at b
 refine bF ?_
 cases b
 exact qA () tI
 refine aP ?_
 cases b
 obtain rfl:=J _ R
 have b:=L
 refine aR ?_
 exact qI (B,()) b (tE 2 [1,0])
 rintro ⟨Z,_⟩ σ1 b
 dsimp only [Z0e_J3] at b
 refine dJ ?_
 cases b
 exact qF (A7,(List.replicate g.toNat (0:Int)).length,D7) (tE 3 [0,1])
theorem Z33_ok  {a:Node}{r:Bool}(i:Z33 a=some r) :
 FnOk Tryz.prog 70 [(.agg [(iv a.Op),(.slice A2 N2 D2),(.slice A3 N3 D3),(.slice A4 N4 D4),(aD a.Form),(.slice A5 N5 D5)].toArray)] [aN kT3 (.slice A2 N2 D2) a.Args,aN kT3 (.slice A3 N3 D3) a.Dims,aN kT3 (.slice A4 N4 D4) a.Ints,aN kT3 (.slice A5 N5 D5) a.Data] (fun (h:Unit)=>((.bool r),[])):=by
 unfold Z33 at i
 refine aQ Tryz.func70 R 11 R R fun C V=>?_
 refine cL 0 aA ?_
 rintro rfl
 refine cL 1 aA ?_
 rintro rfl
 refine cL 2 aA ?_
 rintro rfl
 refine cL 3 aA ?_
 rintro rfl
 let e:=RR kT3 A2 D2 a.Args::RR kT3 A3 D3 a.Dims::RR kT3 A4 D4 a.Ints::RR kT3 A5 D5 a.Data::V
 refine cN e ?_
 refine aR ?_
 refine eA R fun j=>?_
 refine aR ?_
 let g:=aI j [(iv a.Op),(sc A2 a.Args D2),(sc A3 a.Dims D3),(sc A4 a.Ints D4),(aD a.Form),(sc A5 a.Data D5)] 54::e
 refine qN g ?_
 refine aR ?_
 refine cQ [(2,(.bool ((a.Op==1)||(a.Op==2))))] (g) ?_ ?_
 refine cB ?_
 rcases bo (a.Op==1) with b | b
 refine bT ?_
 exact qj tI
 refine bT ?_
 exact qj tI
 rintro σ1
 refine aR ?_
 cases i
 exact qF () (tE 5 [])
theorem Z01_ok  {g1:Graph}{O:(List Int)}{B:Nat}{r:Bool}(j:Z01 g1 O=some r) :
 FnOk Tryz.prog 44 [(.agg [(.slice A2 N2 D2),(.slice A3 N3 D3)].toArray),(.func (.func 71) [].toArray [(pt B 0)].toArray)] [aN dU (.slice A2 N2 D2) g1.Nodes,aN kT3 (.slice A3 N3 D3) g1.Outs,aN kT3 (.slice A7 N7 D7) O,aI B [(.slice A7 N7 D7)] 23] (fun (h:Unit)=>((.bool r),[aI B [(.slice A7 N7 D7)] 23])):=by
 unfold Z01 at j
 refine aQ Tryz.func44 R 56 R R fun C V=>?_
 refine cM _ (tE 4 [3,0,1,2]) ?_
 refine cL 1 aA ?_
 rintro rfl
 refine cL 2 aA ?_
 rintro rfl
 refine cL 3 aA ?_
 rintro rfl
 let W0:=RR dU A2 D2 g1.Nodes::RR kT3 A3 D3 g1.Outs::RR kT3 A7 D7 O::V
 refine aR ?_
 refine eA R fun b8=>?_
 refine aR ?_
 refine qM _ (tE 2 [1,0]) ?_
 let W1:=aI b8 [(sc A2 g1.Nodes D2),(sc A3 g1.Outs D3)] 30::W0
 refine aR ?_
 obtain ⟨q,ap,j⟩:=bd j
 refine bF ?_
 refine lO (vp _ R) (lM _ (fun w s=>(s.d 4 R)) ?_)
 refine lC 2 B1 R (Z0e_ok ap) R ?_
 rintro ⟨A11,N11,D11⟩
 refine aL 0 aB ?_
 rintro rfl
 refine bF ?_
 refine bA (A:=(Unit)×(Unit)) (fun a=>Z01_J3=some r) (fun a=>[]) (fun a=>aI B [(sc A7 O D7)] 23::W1) ?_ ?_
 refine cO ?_
 obtain ⟨e1,ax,an⟩:=bd j
 refine bC (A:=HH) ax (fun s a=>[(1,(.func (.func 71) [].toArray [(pt B 0)].toArray)),(2,(pt b8 0)),(5,(sc A11 q D11)),(16,(s3 a)),(17,(il g1.Nodes)),(18,(iv s))]) (fun s a=>aI B [(sc A7 O D7)] 23::OO kT3 3 A11 D11 q::aN dU (s3 a) g1.Nodes::W1) (A2,g1.Nodes.length,D2) (aS R) (fun w s=>((s.d 3 R).e 3 [2,1,0])) ?_
 rintro b ⟨b1,au,D⟩ σ1 aq j al
 dsimp only [Z01_L1] at j
 refine bJ 2 aA (fun (M:au=g1.Nodes.length)=>?_)
 subst M
 refine bT ?_
 split at j
 refine bF ?_
 refine bA (A:=(Unit)×(HH)) (fun a=>Z01_J2 b=some aq) (fun a=>[(1,(.func (.func 71) [].toArray [(pt B 0)].toArray)),(2,(pt b8 0)),(5,(sc A11 q D11)),(16,(s3 a.2)),(17,(il g1.Nodes)),(18,(iv b))]) (fun a=>aI B [(sc A7 O D7)] 23::OO kT3 3 A11 D11 q::aN dU (s3 a.2) g1.Nodes::W1) ?_ ?_
 refine aR ?_
 obtain ⟨I,j⟩:=gd j
 refine aR ?_
 refine bB 2 aA (show 0<g1.Nodes.length by have:=I; omega) (fun F o71 G=>?_)
 subst G
 refine bU ?_
 refine gB (K:=dU) 2 b dT54.dec R I.1 I.2 ?_
 rintro ⟨-,⟨U,Y⟩,⟨a7,ah⟩,⟨a8,ai⟩,-,⟨a9,aj⟩⟩
 refine lO (vz (.agg [(iv (ix g1.Nodes b).Op),(sc U ((ix g1.Nodes b).Args) Y),(sc a7 ((ix g1.Nodes b).Dims) ah),(sc a8 ((ix g1.Nodes b).Ints) ai),(aD (ix g1.Nodes b).Form),(sc a9 ((ix g1.Nodes b).Data) aj)].toArray) (dY (fo:=0) 0 o0 jV R R R R)) (bD R R qp (fun aw=>(lI R (aK 0 R R jV R R R R R R (lN (aI aw [(iv (ix g1.Nodes b).Op),(sc U ((ix g1.Nodes b).Args) Y),(sc a7 ((ix g1.Nodes b).Dims) ah),(sc a8 ((ix g1.Nodes b).Ints) ai),(aD (ix g1.Nodes b).Form),(sc a9 ((ix g1.Nodes b).Data) aj)] 54::_::_::_::_::_::_::_::_::W1) ?_)))))
 refine hW ?_
 obtain ⟨e2,ay,ao⟩:=bd j
 refine bC (A:=HH) ay (fun s a=>[(1,(.func (.func 71) [].toArray [(pt B 0)].toArray)),(2,(pt b8 0)),(5,(sc A11 q D11)),(6,(iv b)),(16,(sc (ad F o71) g1.Nodes D)),(17,(il g1.Nodes)),(18,(iv b)),(24,(s3 a)),(25,(il ((ix g1.Nodes b).Args))),(26,(iv s))]) (fun s a=>aI B [(sc A7 O D7)] 23::OO kT3 3 A11 D11 q::RR dU (ad F o71) D g1.Nodes::aN kT3 (s3 a) (ix g1.Nodes b).Args::W1) (U,((ix g1.Nodes b).Args).length,Y) (aS R) (tE 9 [6,7,8,2]) ?_
 rintro l ⟨b2,av,Z⟩ σ1 b0 j am
 dsimp only [Z01_L2] at j
 refine bJ 3 aA (fun (M:av=((ix g1.Nodes b).Args).length)=>?_)
 subst M
 refine bT ?_
 split at j
 refine bT ?_
 obtain ⟨a0,j⟩:=gd j
 refine aH (bB 3 aA (show 0<((ix g1.Nodes b).Args).length by have:=a0; omega) (fun E o104 G=>?_))
 subst G
 refine bT ?_
 obtain ⟨u,j⟩:=gd j
 obtain ⟨_,j⟩:=gd j
 obtain ⟨T,J,j⟩:=bd j
 obtain ⟨m,j⟩:=gd j
 obtain ⟨ar,a1,j⟩:=bd j
 refine cQ [(1,(.func (.func 71) [].toArray [(pt B 0)].toArray)),(2,(pt b8 0)),(5,(sc A11 q D11)),(6,(iv b)),(16,(sc (ad F o71) g1.Nodes D)),(17,(il g1.Nodes)),(18,(iv b)),(24,(sc (ad E o104) ((ix g1.Nodes b).Args) Z)),(25,(il ((ix g1.Nodes b).Args))),(26,(iv l)),(53,(.bool ((((ix q (ix ((ix g1.Nodes b).Args) l)) != (ix q b))&&(!T))&&(!ar))))] (aI B [(sc A7 O D7)] 23::OO kT3 3 A11 D11 q::RR dU (ad F o71) D g1.Nodes::RR kT3 (ad E o104) Z ((ix g1.Nodes b).Args)::W1) ?_ ?_
 rcases bo ((ix q (ix ((ix g1.Nodes b).Args) l)) != (ix q b)) with i | i
 rcases bo (((ix q (ix ((ix g1.Nodes b).Args) l)) != (ix q b))&&(!T)) with g | g
 refine aY 1 aB (show 0<q.length by have:=u; omega) (fun L o107 G=>?_)
 subst G
 refine aY 5 aA (show 0<g1.Nodes.length by have:=(m g); omega) (fun az o113 G=>?_)
 subst G
 refine dE (K:=dU) 5 (ix ((ix g1.Nodes b).Args) l) dT54.dec R (m g).1 (m g).2 ?_
 rintro ⟨-,⟨a2,aa⟩,⟨a3,ab⟩,⟨a4,ac⟩,-,⟨a5,ae⟩⟩
 refine cZ 24 [] bN fun ht M=>?_
 refine nW 0 [] ?_
 refine dW 10 R (dI i) (vp _ R) (dW 11 R (dI i) (vI R) (d1 12 R (lM _ (fun w s=>((s.d 12 R).f 10 [0,1,6,1,1,5,7,3])) ?_)))
 refine b' (fs:=[]) (cs:=[(pt B 0)]) 2 R (dI i) wl R R (Z1t_ok (bG J i)) R ?_
 rintro _
 refine aC (aE (fun w s=>(s.f 9 [1,5,0,1,6,3])) (dW 13 R (dI i) (rE R) (hS:=(fun w s=>(s.f 9 [1,5,0,1,6,3]))) (dR 14 R (iy R i R) (hS:=(fun w s=>(s.f 9 [1,5,0,1,6,3]))) (dR 15 R (vB R) (hS:=(fun w s=>(s.f 9 [1,5,0,1,6,3]))) (dW 16 R (dI g) (fV 0 rU R) (hS:=(fun w s=>(s.f 9 [1,5,0,1,6,3]))) (dW 17 R (dI g) (gH 9 xZ R R R) (hS:=(fun w s=>(s.f 9 [1,5,0,1,6,3]))) (dW 18 R (dI g) (vI R) (hS:=(fun w s=>(s.f 9 [1,5,0,1,6,3]))) (dW 19 R (dI g) (eI tR jV R R (m g)) (hS:=(fun w s=>(s.f 9 [1,5,0,1,6,3]))) (dW 20 R (dI g) (vz (.agg [(iv (ix g1.Nodes (ix ((ix g1.Nodes b).Args) l)).Op),(sc a2 ((ix g1.Nodes (ix ((ix g1.Nodes b).Args) l)).Args) aa),(sc a3 ((ix g1.Nodes (ix ((ix g1.Nodes b).Args) l)).Dims) ab),(sc a4 ((ix g1.Nodes (ix ((ix g1.Nodes b).Args) l)).Ints) ac),(aD (ix g1.Nodes (ix ((ix g1.Nodes b).Args) l)).Form),(sc a5 ((ix g1.Nodes (ix ((ix g1.Nodes b).Args) l)).Data) ae)].toArray) (dY (fo:=0) 0 o0 jV R R R R)) (hS:=(fun w s=>(s.f 9 [1,5,0,1,6,3]))) ?_)))))))))
 refine d1 21 R (lM _ (fun w s=>(((((s.d 2 R).d 4 R).d 6 R).d 8 R).f 13 [3,1,2,1,1,1,0,1,4,9])) ?_)
 refine bS 4 R (dI g) B2 R (Z33_ok (bG a1 g)) R ?_
 rintro _
 refine aC (aE (fun w s=>(s.f 9 [1,5,0,1,6,3])) (dW 22 R (dI g) (rE R) (hS:=(fun w s=>(s.f 9 [1,5,0,1,6,3]))) (dR 23 R (iy R g R) (hS:=(fun w s=>(s.f 9 [1,5,0,1,6,3]))) (dD ?_))))
 exact qj (tE 9 [0,6,7,8])
 refine aY 1 aB (show 0<q.length by have:=u; omega) (fun L o107 G=>?_)
 subst G
 refine cZ 24 [] bN fun ht M=>?_
 refine nW 0 [] ?_
 refine dW 10 R (dI i) (vp _ R) (dW 11 R (dI i) (vI R) (d1 12 R (lM _ (fun w s=>(s.d 7 R)) ?_)))
 refine b' (fs:=[]) (cs:=[(pt B 0)]) 2 R (dI i) wl R R (Z1t_ok (bG J i)) R ?_
 rintro _
 refine aC (aE (sL []) ?_)
 refine nX 13 [] ?_
 refine dD ?_
 exact qj tI
 refine aY 1 aB (show 0<q.length by have:=u; omega) (fun L o107 G=>?_)
 subst G
 refine cZ 24 [] bN fun ht M=>?_
 refine xU 0 [] ?_
 refine dD ?_
 exact qj tI
 rintro σ1
 refine bU ?_
 split at j
 refine cO ?_
 cases j
 obtain rfl:=am _ R
 have j:=ao
 refine bF ?_
 cases j
 obtain rfl:=al _ R
 have j:=an
 refine aP ?_
 cases j
 exact qF () (tE 8 [0])
 refine cU ?_
 cases j
 exact qA ((ad E o104),((ix g1.Nodes b).Args).length,Z) tI
 refine aP ?_
 cases j
 obtain rfl:=am _ R
 have j:=ao
 refine aP ?_
 exact qI ((),((ad F o71),g1.Nodes.length,D)) j (fun w s=>(s.f 4 [0,3]))
 rintro ⟨_,⟨a6,ak,ag⟩⟩ σ1 j
 dsimp only [Z01_J2] at j
 refine bJ 2 aA (fun (M:ak=g1.Nodes.length)=>?_)
 subst M
 refine bF ?_
 cases j
 exact qA (a6,g1.Nodes.length,ag) tI
 refine aP ?_
 cases j
 obtain rfl:=al _ R
 have j:=an
 refine aR ?_
 exact cI ((),()) j trivial (tE 3 [0])
 rintro ⟨_,_⟩ σ1 j
 dsimp only [Z01_J3] at j
 refine bT ?_
 cases j
 exact qF () (tE 5 [0])
theorem Z0v_ok  {g1:Graph}{b:(List Int)}{mG:Int}{r:Bool}(g:Z0v g1 b=some r) :
 FnOk Tryz.prog 29 [(.agg [(.slice A2 N2 D2),(.slice A3 N3 D3)].toArray),(.slice A5 N5 D5)] [aN dU (.slice A2 N2 D2) g1.Nodes,aN kT3 (.slice A3 N3 D3) g1.Outs,aN kT3 (.slice A5 N5 D5) b,gl 0 mG] (fun (h:Unit)=>((.bool r),[])):=by
 unfold Z0v at g
 refine aQ Tryz.func29 R 44 R R fun C V=>?_
 refine cL 0 aA ?_
 rintro rfl
 refine cL 1 aA ?_
 rintro rfl
 refine cL 2 aA ?_
 rintro rfl
 let W0:=RR dU A2 D2 g1.Nodes::RR kT3 A3 D3 g1.Outs::RR kT3 A5 D5 b::gl 0 mG::V
 refine cN W0 ?_
 refine aR ?_
 refine eA R fun L=>?_
 refine aR ?_
 let B:=aI L [(sc A2 g1.Nodes D2),(sc A3 g1.Outs D3)] 30::W0
 refine qN B ?_
 refine aP ?_
 obtain ⟨r7,Z,g⟩:=bd g
 refine aR ?_
 refine lM _ (fun w s=>((((s.d 1 R).d 3 R).dg 6 R).e 3 [2,1,0])) ?_
 refine lC 3 AQ R (Z2c_ok Z) R ?_
 rintro _
 refine lN B ?_
 refine aP ?_
 split at g
 refine cU ?_
 cases g
 exact qF () (tE 5 [])
 refine bF ?_
 refine bA (A:=(Unit)×(HH)) (fun a=>Z0v_J1 g1 b=some r) (fun a=>[(1,(s3 a.2)),(2,(pt L 0))]) (fun a=>aN kT3 (s3 a.2) b::B) ?_ ?_
 refine cU ?_
 obtain ⟨e1,Y,G⟩:=bd g
 refine bC (A:=HH) Y (fun s a=>[(1,(s3 a)),(2,(pt L 0)),(10,(s3 a)),(11,(il b)),(12,(iv s))]) (fun s a=>aN kT3 (s3 a) b::B) (A5,b.length,D5) (aS R) (fun w s=>(s.d 3 R)) ?_
 rintro i ⟨O,T,l⟩ σ1 a0 g E
 dsimp only [Z0v_L1] at g
 refine bJ 0 aA (fun (M:T=b.length)=>?_)
 subst M
 refine bT ?_
 split at g
 refine bT ?_
 obtain ⟨F,g⟩:=gd g
 refine aR ?_
 refine bB 0 aA (show 0<b.length by have:=F; omega) (fun q o24 ha=>?_)
 subst ha
 refine dJ ?_
 obtain ⟨u,g⟩:=gd g
 refine cQ [(1,(sc (ad q o24) b l)),(2,(pt L 0)),(10,(sc (ad q o24) b l)),(11,(il b)),(12,(iv i)),(38,(.bool (((decide ((ix b i)<0))||(decide ((ix b i)≥(g1.Nodes.length:Int))))||((decide (i>0))&&(decide ((ix b (aG (i - 1)))≥(ix b i)))))))] (RR kT3 (ad q o24) l b::B) ?_ ?_
 refine bF ?_
 rcases bo (decide ((ix b i)<0)) with D | D
 refine xQ ?_
 exact qj tI
 refine dJ ?_
 rcases bo ((decide ((ix b i)<0))||(decide ((ix b i)≥(g1.Nodes.length:Int)))) with m | m
 refine ka ?_
 exact qj tI
 refine aP ?_
 rcases bo (decide (i>0)) with j | j
 refine aP ?_
 refine lW (dI j) (eI bM cC R R (u m j)) (lW (dI j) (gI 0 fM aA R (u m j)) ?_)
 refine cB ?_
 exact qj tI
 refine cW ?_
 exact qj tI
 rintro σ1
 refine bU ?_
 split at g
 refine cO ?_
 cases g
 obtain rfl:=E _ R
 have g:=G
 refine aP ?_
 cases g
 exact qF () (tE 6 [])
 refine cU ?_
 cases g
 exact qA ((ad q o24),b.length,l) tI
 refine aP ?_
 cases g
 obtain rfl:=E _ R
 have g:=G
 refine aR ?_
 exact qI ((),(O,b.length,l)) g tI
 rintro ⟨_,⟨a1,U,a3⟩⟩ σ1 g
 dsimp only [Z0v_J1] at g
 refine bJ 0 aA (fun (M:U=b.length)=>?_)
 subst M
 refine bU ?_
 obtain ⟨a7,I,g⟩:=bd g
 obtain ⟨a8,J,g⟩:=bd g
 refine cZ 5 [] bN fun ht M=>?_
 refine gN 0 [] ?_
 refine d1 2 R (lM _ (fun w s=>(s.d 0 R)) ?_)
 refine lC 1 B3 R (Z35_ok I) R ?_
 rintro ⟨⟨a2,a5,a4⟩,a6⟩
 refine aL 0 aA ?_
 rintro rfl
 refine aC (aE (sL [1,0]) (d1 3 R (lM _ (fun w s=>((((s.d 4 R).d 6 R).d 2 R).e 6 [2,1,0,4,3,5])) ?_)))
 refine lC 4 B4 R (Z01_ok J) R ?_
 rintro _
 refine aC (aE (sL [1,0]) ?_)
 refine mA 4 [1,0] ?_
 refine dD ?_
 refine aR ?_
 cases g
 exact qF () (tE 8 [])
end Go.Proofs.YtmpnollfdpdipaaGreat
