import Derived.Test.YtmpnollfdpdipaaGreatGkF
import Derived.Test.YtmpnollfdpdipaaGreatGkW1
import Derived.Test.YtmpnollfdpdipaaGreatGkW5
import Derived.Test.YtmpnollfdpdipaaGreatGkW6
set_option linter.unusedVariables false
set_option maxRecDepth 20000
namespace Go.Proofs.YtmpnollfdpdipaaGreat
open Go Go.Pg
variable {A2 A3 A4 A5 A7 A9 A10 A11 A12 A14:Option Addr}{D2 D3 D4 D5 D7 D9 D10 D11 D12 D14 N2 N3 N4 N5 N7 N9 N10 N11 N12 N14:Nat}
theorem Z1o_ok  {k1:shiftKind}{G:Int}{I:Int}{b:Node}{a:(List (List Int))}{m:Nat}{q:Nat}{l:Nat}{r:(List Int)×Bool}(i:Z1o k1 G I b a=some r) :
 FnOk Tryz.prog 220 [(.agg [(aD k1.use),(.func (.func 149) [].toArray [(pt m 0),(pt q 0),(pt l 0)].toArray)].toArray),(.agg [(iv b.Op),(.slice A9 N9 D9),(.slice A10 N10 D10),(.slice A11 N11 D11),(aD b.Form),(.slice A12 N12 D12)].toArray),(.slice A14 N14 D14)] [aJ m [(iv G)] 3,aJ q [(iv I)] 3,aJ l [(.func (.func 127) [].toArray [].toArray)] 150,aO kT3 (.slice A9 N9 D9) b.Args,aO kT3 (.slice A10 N10 D10) b.Dims,aO kT3 (.slice A11 N11 D11) b.Ints,aO kT3 (.slice A12 N12 D12) b.Data,aO kT23 (.slice A14 N14 D14) a] (fun (h:HH)=>((.tuple [(s3 h),(.bool r.2)].toArray),[ow kT3 3 (s3 h) r.1,aJ m [(iv G)] 3,aJ q [(iv I)] 3,aJ l [(.func (.func 127) [].toArray [].toArray)] 150])):=by
 unfold Z1o at i
 refine aQ Tryz.func220 R 27 R R fun C V=>?_
 refine cL 3 aA ?_
 rintro rfl
 refine cL 4 aA ?_
 rintro rfl
 refine cL 5 aA ?_
 rintro rfl
 refine cL 6 aA ?_
 rintro rfl
 refine cL 7 aA ?_
 rintro rfl
 let M:=RR kT3 A9 D9 b.Args::RR kT3 A10 D10 b.Dims::RR kT3 A11 D11 b.Ints::RR kT3 A12 D12 b.Data::RR kT23 A14 D14 a::V
 refine aU ?_
 refine eG R fun B=>?_
 refine eG R fun D=>?_
 refine aP ?_
 refine qM _ (fun w s=>(s.f 5 [2,3,0,2])) ?_
 let W1:=aJ D [(iv b.Op),(sc A9 b.Args D9),(sc A10 b.Dims D10),(sc A11 b.Ints D11),(aD b.Form),(sc A12 b.Data D12)] 54::aJ B [(aD k1.use),(.func (.func 149) [].toArray [(pt m 0),(pt q 0),(pt l 0)].toArray)] 145::M
 refine cP ?_
 split at i
 refine cP ?_
 cases i
 exact jC (none,0,0) (fun w s=>((s.nilo kT3 3).f 11 [0,4]))
 refine bG ?_
 obtain ⟨g,i⟩:=gd i
 obtain ⟨u,j,i⟩:=bd i
 refine aZ 9 aA (show 0<a.length by have:=g; omega) (fun T o20 L=>?_)
 subst L
 refine dB (K:=kT23) 9 (0:Int) dT23.dec R g.1 g.2 ?_
 rintro ⟨Y,a0⟩
 refine dC 14 [] bO fun ht hn=>?_
 refine kh 0 [] ?_
 refine dR 5 R (eA (fo:=0) 0 cH R R R) (d1 6 R (lM _ (fun w s=>((((((s.d 7 R).d 9 R).d 11 R).d 13 R).d 5 R).e 10 [4,3,2,1,0,7,8,9,5,6])) ?_))
 refine cB (fs:=[]) (cs:=[(pt m 0),(pt q 0),(pt l 0)]) 8 R R qb R R (Z2o_ok j) R ?_
 rintro ⟨⟨F,U,E⟩,⟨O,Z,J⟩⟩
 refine aL 0 aB ?_
 rintro rfl
 refine aL 1 aB ?_
 rintro rfl
 refine aC (aG (fun w s=>(s.f 7 [5,2,2,3])) (dR 7 R (vT R) (hS:=(fun w s=>(s.f 7 [5,2,2,3]))) (dR 8 R (vS R) (hS:=(fun w s=>(s.f 7 [5,2,2,3]))) (dR 9 R (vS R) (hS:=(fun w s=>(s.f 7 [5,2,2,3]))) (dR 10 R (vB R) (hS:=(fun w s=>(s.f 7 [5,2,2,3]))) (dR 11 R (vS R) (hS:=(fun w s=>(s.f 7 [5,2,2,3]))) (dR 12 R (vS R) (hS:=(fun w s=>(s.f 7 [5,2,2,3]))) (dR 13 R (vB R) (hS:=(fun w s=>(s.f 7 [5,2,2,3]))) (dD ?_)))))))))
 refine cT ?_
 cases i
 exact jC (F,u.1.length,E) (tE 14 [0,2,3,4])
theorem Z0a_ok  {g:(List Int)}{l:Int}{b:(List Int)}{r:(List Int)×(List pair)×Bool}(m:Z0a g l b=some r) :
 FnOk Tryz.prog 130 [(.slice A2 N2 D2),(iv l),(.slice A5 N5 D5)] [aO kT3 (.slice A2 N2 D2) g,aO kT3 (.slice A5 N5 D5) b] (fun (h:HH×HH)=>((.tuple [(s3 h.1),(s3 h.2),(.bool r.2.2)].toArray),[ow kT3 3 (s3 h.1) r.1,ow kT161 161 (s3 h.2) r.2.1])):=by
 unfold Z0a at m
 refine aQ Tryz.func130 R 67 R R fun C V=>?_
 refine cL 0 aA ?_
 rintro rfl
 refine cL 1 aA ?_
 rintro rfl
 let Y:=RR kT3 A2 D2 g::RR kT3 A5 D5 b::V
 refine cN Y ?_
 refine cP ?_
 obtain ⟨r6,aa,m⟩:=bd m
 refine cQ [(0,(sc A2 g D2)),(1,(iv l)),(2,(sc A5 b D5)),(26,(.bool (((!r6)||((b.length:Int)==0))||(decide ((b.length:Int)>4096)))))] (Y) ?_ ?_
 refine aP ?_
 refine lM _ (fun w s=>(s.d 0 R)) ?_
 refine lC 1 gL R (Zk_ok aa) R ?_
 rintro _
 refine lN Y ?_
 refine aU ?_
 rcases bo (!r6) with ae | ae
 refine cT ?_
 exact qj tI
 refine b' ?_
 rcases bo ((!r6)||((b.length:Int)==0)) with a9 | a9
 refine b' ?_
 exact qj tI
 refine b' ?_
 exact qj tI
 rintro σ1
 refine bR ?_
 split at m
 refine cT ?_
 cases m
 exact hU ((none,0,0),(none,0,0)) (fun w s=>(((s.nilo kT3 3).nilo kT161 161).e 4 [1,0]))
 refine b' ?_
 refine bK (K:=kT161) (xs:=([]:List pair)) (vs:=[]) 0 R R fA fB eL R R R R R R ?_ R (fun A11 D11=>?_)
 exact fun I h s=>(j1).list [] I h s
 refine bG ?_
 refine bB (A:=((List pair))×(HH×HH)) (fun a=>Z0a_J1 g l b a.1=some r) (fun a=>[(0,(sc A2 g D2)),(1,(iv l)),(2,(s3 a.2.1)),(9,(s3 a.2.2))]) (fun a=>aO kT3 (s3 a.2.1) b::ow kT161 161 (s3 a.2.2) a.1::Y) ?_ ?_
 refine cV ?_
 obtain ⟨e1,ac,a1⟩:=bd m
 refine bC (A:=HH×HH) ac (fun s a=>[(0,(sc A2 g D2)),(1,(iv l)),(2,(s3 a.1)),(9,(s3 a.2)),(28,(s3 a.1)),(29,(il b)),(30,(iv s.2))]) (fun s a=>aO kT3 (s3 a.1) b::ow kT161 161 (s3 a.2) s.1::Y) ((A5,b.length,D5),(A11,([]:List pair).length,D11)) (aS R) (fun w s=>(s.d 2 R)) ?_
 rintro ⟨i,j⟩ ⟨⟨aj,ak,E⟩,⟨J,am,U⟩⟩ σ1 an m a5
 dsimp only [Z0a_L1] at m
 refine bI 0 aA (fun (Z:ak=b.length)=>?_)
 subst Z
 refine bI 1 aB (fun (Z:am=i.length)=>?_)
 subst Z
 refine bS ?_
 split at m
 refine bS ?_
 obtain ⟨a0,m⟩:=gd m
 refine aU ?_
 refine bD 0 aA (show 0<b.length by have:=a0; omega) (fun F o31 ha=>?_)
 subst ha
 refine cV ?_
 obtain ⟨D,m⟩:=gd m
 refine cQ [(0,(sc A2 g D2)),(1,(iv l)),(2,(sc (ad F o31) b E)),(9,(sc J i U)),(10,(iv j)),(11,(iv (ix b j))),(28,(sc (ad F o31) b E)),(29,(il b)),(30,(iv j)),(44,(.bool ((decide ((ix b j)<0))||(decide ((ix b j)≥(ix g l))))))] (RR kT3 (ad F o31) E b::OO kT161 161 J U i::Y) ?_ ?_
 refine bG ?_
 rcases bo (decide ((ix b j)<0)) with u | u
 refine cV ?_
 exact qj tI
 refine aP ?_
 refine bD 2 aA (show 0<g.length by have:=(D u); omega) (fun ar o34 ha=>?_)
 subst ha
 refine lW (bY u) (eN bL cE R R (D u)) (lW (bY u) (gY 2 fS aA R (D u)) ?_)
 refine aP ?_
 exact qj tI
 rintro σ1
 refine bR ?_
 split at m
 refine iG ?_
 cases m
 obtain rfl:=a5 _ R
 have m:=a1
 refine aP ?_
 cases m
 exact hU ((none,0,0),(none,0,0)) (fun w s=>(((s.nilo kT3 3).nilo kT161 161).e 6 [1,0]))
 refine aP ?_
 obtain ⟨a6,m⟩:=gd m
 refine bG ?_
 refine lO (vz (.agg [(iv (ix b j)),(iv j)].toArray) (aV my eL R R)) (bK (K:=kT161) (xs:=([(⟨(ix b j),j⟩:pair)]:List pair)) (vs:=[(.agg [(iv (ix b j)),(iv j)].toArray)]) 0 R R fA fB eL R R R R R R ?_ R (fun aq aw=>?_))
 exact fun I h s=>(j1).list [(((),()),(⟨(ix b j),j⟩:pair))] I h s
 refine lM _ (tE 3 [2,0,1]) ?_
 refine eF (K:=kT161) 8796093022208 R R fA fB lx (Zr.zk zT161 eL) R R R R R R dO a6 (fun a4 a3=>(lN (OO kT161 161 a4 a3 (i++([(⟨(ix b j),j⟩:pair)]:List pair))::_::Y) ?_))
 refine cV ?_
 cases m
 exact qA (((ad F o31),b.length,E),(a4,(i++([(⟨(ix b j),j⟩:pair)]:List pair)).length,a3)) (tE 2 [1,0])
 refine aP ?_
 cases m
 obtain rfl:=a5 _ R
 have m:=a1
 refine aU ?_
 exact qI (i,((aj,b.length,E),(J,i.length,U))) m tI
 rintro ⟨q,⟨⟨au,ag,av⟩,⟨T,ah,L⟩⟩⟩ σ1 m
 dsimp only [Z0a_J1] at m
 refine bI 0 aA (fun (Z:ag=b.length)=>?_)
 subst Z
 refine bI 1 aB (fun (Z:ah=q.length)=>?_)
 subst Z
 refine bR ?_
 obtain ⟨M,a8,m⟩:=bd m
 refine b' ?_
 refine lM _ (fun w s=>(s.d 2 R)) ?_
 refine lC 1 p' R (Z1l_ok a8) R ?_
 rintro ⟨O,ap,G⟩
 refine aL 0 aB ?_
 rintro rfl
 refine b' ?_
 obtain ⟨ao,a7,m⟩:=bd m
 refine aU ?_
 refine lC 1 j2 R (FnOk.lends (A':=[OO kT3 3 O G M]) (A:=[RR kT3 O G M]) (B:=[]) (Zb_ok a7) ⟨aY,trivial⟩ (fun _=>trivial)) R ?_
 rintro _
 refine aP ?_
 split at m
 refine cT ?_
 cases m
 exact hU ((none,0,0),(none,0,0)) (fun w s=>(((s.nilo kT3 3).nilo kT161 161).e 7 [1,0]))
 refine bG ?_
 obtain ⟨al,a2,m⟩:=bd m
 refine dH ?_
 refine lM _ (fun w s=>((s.d 3 R).e 4 [3,0,1,2])) ?_
 refine lC 2 sy R (FnOk.lends (A':=[OO kT161 161 T L q]) (A:=[RR kT161 T L q]) (B:=[RR kT3 A2 D2 g]) (FnOk.perm (Z7_ok a2) (Pre':=[RR kT161 T L q,RR kT3 A2 D2 g]) (fun _ _ _ s=>(s.e 2 [1,0]))) ⟨aY,trivial⟩ (fun _=>⟨(bH s9),trivial⟩)) R ?_
 rintro ⟨ai,ax,ab⟩
 refine aL 1 aB ?_
 rintro rfl
 refine bS ?_
 cases m
 exact hU ((O,M.length,G),(ai,al.length,ab)) (tE 6 [2,1])
theorem Z1z_ok  {p1:(List Int)}{a:(List Int)}{r:(List Int)×(List pair)×Bool}(b:Z1z p1 a=some r) :
 FnOk Tryz.prog 129 [(.slice A2 N2 D2),(.slice A4 N4 D4)] [aO kT3 (.slice A2 N2 D2) p1,aO kT3 (.slice A4 N4 D4) a] (fun (h:HH×HH)=>((.tuple [(s3 h.1),(s3 h.2),(.bool r.2.2)].toArray),[ow kT3 3 (s3 h.1) r.1,ow kT161 161 (s3 h.2) r.2.1])):=by
 unfold Z1z at b
 refine aQ Tryz.func129 R 17 R R fun C V=>?_
 refine cL 0 aA ?_
 rintro rfl
 refine cL 1 aA ?_
 rintro rfl
 let B:=RR kT3 A2 D2 p1::RR kT3 A4 D4 a::V
 refine cN B ?_
 refine cV ?_
 obtain ⟨m,b⟩:=gd b
 obtain ⟨g,b⟩:=gd b
 obtain ⟨j,i,b⟩:=bd b
 refine aZ 0 aA (show 0<p1.length by have:=m; omega) (fun E o7 u=>?_)
 subst u
 refine dC 13 [] bO fun G F=>?_
 refine kh 0 [] ?_
 refine d1 5 R (fY (K:=kT3) (1:Int) (p1.length:Int) 0 R R bL cE R R R R g.1 g.2.1 g.2.2 (fun A9 D9=>(aC (aG (sL [0]) (d1 6 R (lM _ (fun w s=>(((s.d 2 R).d 1 R).e 3 [1,0,2])) ?_))))))
 refine lC 2 zw R (Z0a_ok i) R ?_
 rintro ⟨⟨A12,N12,D12⟩,⟨q,D,l⟩⟩
 refine aL 0 aB ?_
 rintro rfl
 refine aL 1 aB ?_
 rintro rfl
 refine aC (aG (sL [2,1,0]) ?_)
 refine r' 7 [2,1,0] ?_
 refine dD ?_
 refine aU ?_
 cases b
 exact hU ((A12,j.1.length,D12),(q,j.2.1.length,l)) (tE 5 [0,1])
theorem Z2p_ok  {a:Node}{b:(List Int)}{l:Int}{i:Int}{E:Nat}{j:Nat}{g:Nat}{r:(List Int)×(List pair)×Bool}(m:Z2p a b l i=some r) :
 FnOk Tryz.prog 149 [(.agg [(iv a.Op),(.slice A2 N2 D2),(.slice A3 N3 D3),(.slice A4 N4 D4),(aD a.Form),(.slice A5 N5 D5)].toArray),(.slice A7 N7 D7),(pt E 0),(pt j 0),(pt g 0)] [aO kT3 (.slice A2 N2 D2) a.Args,aO kT3 (.slice A3 N3 D3) a.Dims,aO kT3 (.slice A4 N4 D4) a.Ints,aO kT3 (.slice A5 N5 D5) a.Data,aO kT3 (.slice A7 N7 D7) b,aJ E [(iv l)] 3,aJ j [(iv i)] 3,aJ g [(.func (.func 129) [].toArray [].toArray)] 150] (fun (h:HH×HH)=>((.tuple [(s3 h.1),(s3 h.2),(.bool r.2.2)].toArray),[ow kT3 3 (s3 h.1) r.1,ow kT161 161 (s3 h.2) r.2.1,aJ E [(iv l)] 3,aJ j [(iv i)] 3,aJ g [(.func (.func 129) [].toArray [].toArray)] 150])):=by
 unfold Z2p at m
 refine aQ Tryz.func149 R 30 R R fun C V=>?_
 refine cM _ (fun w s=>(s.f 8 [5,3,0,5])) ?_
 refine cL 3 aA ?_
 rintro rfl
 refine cL 4 aA ?_
 rintro rfl
 refine cL 5 aA ?_
 rintro rfl
 refine cL 6 aA ?_
 rintro rfl
 refine cL 7 aA ?_
 rintro rfl
 let O:=RR kT3 A2 D2 a.Args::RR kT3 A3 D3 a.Dims::RR kT3 A4 D4 a.Ints::RR kT3 A5 D5 a.Data::RR kT3 A7 D7 b::V
 refine aU ?_
 refine eG R fun D=>?_
 refine bG ?_
 let L:=aJ D [(iv a.Op),(sc A2 a.Args D2),(sc A3 a.Dims D3),(sc A4 a.Ints D4),(aD a.Form),(sc A5 a.Data D5)] 54::aJ E [(iv l)] 3::aJ j [(iv i)] 3::aJ g [(.func (.func 129) [].toArray [].toArray)] 150::O
 refine qN L ?_
 refine aP ?_
 refine cQ [(1,(sc A7 b D7)),(4,(pt g 0)),(5,(pt D 0)),(21,(.bool ((decide ((a.Ints.length:Int)<l))||(decide ((a.Ints.length:Int)>i)))))] (L) ?_ ?_
 refine dH ?_
 rcases bo (decide ((a.Ints.length:Int)<l)) with q | q
 refine dH ?_
 exact qj tI
 refine dH ?_
 exact qj tI
 rintro σ1
 refine bR ?_
 split at m
 refine cT ?_
 cases m
 exact hU ((none,0,0),(none,0,0)) (fun w s=>(((s.nilo kT3 3).nilo kT161 161).e 11 [1,0,3,4,5]))
 refine bG ?_
 obtain ⟨u,B,m⟩:=bd m
 refine b' ?_
 refine lM _ (fun w s=>(((s.d 6 R).d 9 R).e 2 [1,0])) ?_
 refine cB (fs:=[]) (cs:=[]) 2 R R zx R R (Z1z_ok B) R ?_
 rintro ⟨⟨J,M,I⟩,⟨G,T,F⟩⟩
 refine aL 0 aB ?_
 rintro rfl
 refine aL 1 aB ?_
 rintro rfl
 refine cP ?_
 cases m
 exact hU ((J,u.1.length,I),(G,u.2.1.length,F)) (fun w s=>(s.f 11 [0,2,3,3]))
theorem Z1p_ok  {k1:shiftKind}{G:Int}{I:Int}{b:Node}{a:(List (List Int))}{m:Nat}{q:Nat}{l:Nat}{r:(List Int)×Bool}(i:Z1p k1 G I b a=some r) :
 FnOk Tryz.prog 220 [(.agg [(aD k1.use),(.func (.func 149) [].toArray [(pt m 0),(pt q 0),(pt l 0)].toArray)].toArray),(.agg [(iv b.Op),(.slice A9 N9 D9),(.slice A10 N10 D10),(.slice A11 N11 D11),(aD b.Form),(.slice A12 N12 D12)].toArray),(.slice A14 N14 D14)] [aJ m [(iv G)] 3,aJ q [(iv I)] 3,aJ l [(.func (.func 129) [].toArray [].toArray)] 150,aO kT3 (.slice A9 N9 D9) b.Args,aO kT3 (.slice A10 N10 D10) b.Dims,aO kT3 (.slice A11 N11 D11) b.Ints,aO kT3 (.slice A12 N12 D12) b.Data,aO kT23 (.slice A14 N14 D14) a] (fun (h:HH)=>((.tuple [(s3 h),(.bool r.2)].toArray),[ow kT3 3 (s3 h) r.1,aJ m [(iv G)] 3,aJ q [(iv I)] 3,aJ l [(.func (.func 129) [].toArray [].toArray)] 150])):=by
 unfold Z1p at i
 refine aQ Tryz.func220 R 27 R R fun C V=>?_
 refine cL 3 aA ?_
 rintro rfl
 refine cL 4 aA ?_
 rintro rfl
 refine cL 5 aA ?_
 rintro rfl
 refine cL 6 aA ?_
 rintro rfl
 refine cL 7 aA ?_
 rintro rfl
 let M:=RR kT3 A9 D9 b.Args::RR kT3 A10 D10 b.Dims::RR kT3 A11 D11 b.Ints::RR kT3 A12 D12 b.Data::RR kT23 A14 D14 a::V
 refine aU ?_
 refine eG R fun B=>?_
 refine eG R fun D=>?_
 refine aP ?_
 refine qM _ (fun w s=>(s.f 5 [2,3,0,2])) ?_
 let W1:=aJ D [(iv b.Op),(sc A9 b.Args D9),(sc A10 b.Dims D10),(sc A11 b.Ints D11),(aD b.Form),(sc A12 b.Data D12)] 54::aJ B [(aD k1.use),(.func (.func 149) [].toArray [(pt m 0),(pt q 0),(pt l 0)].toArray)] 145::M
 refine cP ?_
 split at i
 refine cP ?_
 cases i
 exact jC (none,0,0) (fun w s=>((s.nilo kT3 3).f 11 [0,4]))
 refine bG ?_
 obtain ⟨g,i⟩:=gd i
 obtain ⟨u,j,i⟩:=bd i
 refine aZ 9 aA (show 0<a.length by have:=g; omega) (fun T o20 L=>?_)
 subst L
 refine dB (K:=kT23) 9 (0:Int) dT23.dec R g.1 g.2 ?_
 rintro ⟨Y,a0⟩
 refine dC 14 [] bO fun ht hn=>?_
 refine kh 0 [] ?_
 refine dR 5 R (eA (fo:=0) 0 cH R R R) (d1 6 R (lM _ (fun w s=>((((((s.d 7 R).d 9 R).d 11 R).d 13 R).d 5 R).e 10 [4,3,2,1,0,7,8,9,5,6])) ?_))
 refine cB (fs:=[]) (cs:=[(pt m 0),(pt q 0),(pt l 0)]) 8 R R qb R R (Z2p_ok j) R ?_
 rintro ⟨⟨F,U,E⟩,⟨O,Z,J⟩⟩
 refine aL 0 aB ?_
 rintro rfl
 refine aL 1 aB ?_
 rintro rfl
 refine aC (aG (fun w s=>(s.f 7 [5,2,2,3])) (dR 7 R (vT R) (hS:=(fun w s=>(s.f 7 [5,2,2,3]))) (dR 8 R (vS R) (hS:=(fun w s=>(s.f 7 [5,2,2,3]))) (dR 9 R (vS R) (hS:=(fun w s=>(s.f 7 [5,2,2,3]))) (dR 10 R (vB R) (hS:=(fun w s=>(s.f 7 [5,2,2,3]))) (dR 11 R (vS R) (hS:=(fun w s=>(s.f 7 [5,2,2,3]))) (dR 12 R (vS R) (hS:=(fun w s=>(s.f 7 [5,2,2,3]))) (dR 13 R (vB R) (hS:=(fun w s=>(s.f 7 [5,2,2,3]))) (dD ?_)))))))))
 refine cT ?_
 cases i
 exact jC (F,u.1.length,E) (tE 14 [0,2,3,4])
theorem Z0b_ok  {g:(List Int)}{i:Int}{b:(List Int)}{D:Int}{r:(List Int)×(List pair)×Bool}(m:Z0b g i b D=some r) :
 FnOk Tryz.prog 132 [(.slice A2 N2 D2),(iv i),(.slice A5 N5 D5),(iv D)] [aO kT3 (.slice A2 N2 D2) g,aO kT3 (.slice A5 N5 D5) b] (fun (h:HH×HH)=>((.tuple [(s3 h.1),(s3 h.2),(.bool r.2.2)].toArray),[ow kT3 3 (s3 h.1) r.1,ow kT161 161 (s3 h.2) r.2.1])):=by
 unfold Z0b at m
 refine aQ Tryz.func132 R 67 R R fun C V=>?_
 refine cL 0 aA ?_
 rintro rfl
 refine cL 1 aA ?_
 rintro rfl
 let T:=RR kT3 A2 D2 g::RR kT3 A5 D5 b::V
 refine cN T ?_
 refine cP ?_
 obtain ⟨r7,ak,m⟩:=bd m
 obtain ⟨Z,m⟩:=gd m
 refine cQ [(0,(sc A2 g D2)),(1,(iv i)),(2,(sc A5 b D5)),(3,(iv D)),(31,(.bool (((!r7)||((b.length:Int) != (ix g i)))||(decide (D<1)))))] (T) ?_ ?_
 refine aP ?_
 refine lM _ (fun w s=>(s.d 0 R)) ?_
 refine lC 1 gL R (Zk_ok ak) R ?_
 rintro _
 refine lN T ?_
 refine aU ?_
 rcases bo (!r7) with u | u
 refine mq ?_
 exact qj tI
 refine bG ?_
 refine bD 0 aA (show 0<g.length by have:=(Z u); omega) (fun au o11 ha=>?_)
 subst ha
 refine lW (bY u) (eN bL cE R R (Z u)) (lW (bY u) (gY 0 fS aA R (Z u)) ?_)
 refine aP ?_
 rcases bo ((!r7)||((b.length:Int) != (ix g i))) with a6 | a6
 refine bG ?_
 exact qj tI
 refine bG ?_
 exact qj tI
 rintro σ1
 refine bR ?_
 split at m
 refine cT ?_
 cases m
 exact hU ((none,0,0),(none,0,0)) (fun w s=>(((s.nilo kT3 3).nilo kT161 161).e 4 [1,0]))
 refine b' ?_
 refine bK (K:=kT161) (xs:=([]:List pair)) (vs:=[]) 0 R R fA fB eL R R R R R R ?_ R (fun ae ac=>?_)
 exact fun I h s=>(j1).list [] I h s
 refine bG ?_
 refine bB (A:=((List pair))×(HH)) (fun a=>Z0b_J1 g i D a.1=some r) (fun a=>[(0,(sc A2 g D2)),(1,(iv i)),(3,(iv D)),(11,(s3 a.2))]) (fun a=>ow kT161 161 (s3 a.2) a.1::T) ?_ ?_
 refine cV ?_
 obtain ⟨e1,ah,a2⟩:=bd m
 refine bC (A:=HH×HH) ah (fun s a=>[(0,(sc A2 g D2)),(1,(iv i)),(3,(iv D)),(11,(s3 a.1)),(33,(s3 a.2)),(34,(il b)),(35,(iv s.2))]) (fun s a=>ow kT161 161 (s3 a.1) s.1::aO kT3 (s3 a.2) b::T) ((ae,([]:List pair).length,ac),(A5,b.length,D5)) (aS R) (fun w s=>((s.d 2 R).e 2 [1,0])) ?_
 rintro ⟨j,l⟩ ⟨⟨F,am,M⟩,⟨ap,al,U⟩⟩ σ1 an m a7
 dsimp only [Z0b_L1] at m
 refine bI 0 aB (fun (hn:am=j.length)=>?_)
 subst hn
 refine bI 1 aA (fun (hn:al=b.length)=>?_)
 subst hn
 refine bS ?_
 split at m
 refine bS ?_
 obtain ⟨a5,m⟩:=gd m
 refine aU ?_
 refine bD 1 aA (show 0<b.length by have:=a5; omega) (fun Y o32 ha=>?_)
 subst ha
 refine cV ?_
 refine cQ [(0,(sc A2 g D2)),(1,(iv i)),(3,(iv D)),(11,(sc F j M)),(12,(iv l)),(13,(iv (ix b l))),(33,(sc (ad Y o32) b U)),(34,(il b)),(35,(iv l)),(46,(.bool ((decide ((ix b l)<0))||(decide ((ix b l)≥D)))))] (OO kT161 161 F M j::RR kT3 (ad Y o32) U b::T) ?_ ?_
 refine bG ?_
 rcases bo (decide ((ix b l)<0)) with a3 | a3
 refine b' ?_
 exact qj tI
 refine b' ?_
 exact qj tI
 rintro σ1
 refine bR ?_
 split at m
 refine iG ?_
 cases m
 obtain rfl:=a7 _ R
 have m:=a2
 refine aP ?_
 cases m
 exact hU ((none,0,0),(none,0,0)) (fun w s=>(((s.nilo kT3 3).nilo kT161 161).e 6 [1,0]))
 refine aP ?_
 obtain ⟨a0,m⟩:=gd m
 refine bG ?_
 refine lO (vz (.agg [(iv l),(iv (ix b l))].toArray) (aV my eL R R)) (bK (K:=kT161) (xs:=([(⟨l,(ix b l)⟩:pair)]:List pair)) (vs:=[(.agg [(iv l),(iv (ix b l))].toArray)]) 0 R R fA fB eL R R R R R R ?_ R (fun ao av=>?_))
 exact fun I h s=>(j1).list [(((),()),(⟨l,(ix b l)⟩:pair))] I h s
 refine lM _ (tE 3 [1,0,2]) ?_
 refine eF (K:=kT161) 8796093022208 R R fA fB lx (Zr.zk zT161 eL) R R R R R R dO a0 (fun a4 a8=>(lN (OO kT161 161 a4 a8 (j++([(⟨l,(ix b l)⟩:pair)]:List pair))::_::T) ?_))
 refine cV ?_
 cases m
 exact qA ((a4,(j++([(⟨l,(ix b l)⟩:pair)]:List pair)).length,a8),((ad Y o32),b.length,U)) tI
 refine aP ?_
 cases m
 obtain rfl:=a7 _ R
 have m:=a2
 refine aU ?_
 exact qI (j,(F,j.length,M)) m (tE 2 [0])
 rintro ⟨q,⟨O,aj,E⟩⟩ σ1 m
 dsimp only [Z0b_J1] at m
 refine bI 0 aB (fun (hn:aj=q.length)=>?_)
 subst hn
 refine bR ?_
 obtain ⟨J,a1,m⟩:=bd m
 refine bG ?_
 refine lM _ (fun w s=>(s.d 1 R)) ?_
 refine lC 1 p' R (Z1l_ok a1) R ?_
 rintro ⟨L,aw,G⟩
 refine aL 0 aB ?_
 rintro rfl
 refine b' ?_
 obtain ⟨aq,aa,m⟩:=bd m
 refine aU ?_
 refine lC 1 j2 R (FnOk.lends (A':=[OO kT3 3 L G J]) (A:=[RR kT3 L G J]) (B:=[]) (Zb_ok aa) ⟨aY,trivial⟩ (fun _=>trivial)) R ?_
 rintro _
 refine aP ?_
 split at m
 refine cT ?_
 cases m
 exact hU ((none,0,0),(none,0,0)) (fun w s=>(((s.nilo kT3 3).nilo kT161 161).e 6 [1,0]))
 refine bG ?_
 obtain ⟨ag,a9,m⟩:=bd m
 refine bS ?_
 refine lM _ (fun w s=>((s.d 2 R).e 3 [2,0,1])) ?_
 refine lC 2 sy R (FnOk.lends (A':=[OO kT161 161 O E q]) (A:=[RR kT161 O E q]) (B:=[RR kT3 A2 D2 g]) (FnOk.perm (Z7_ok a9) (Pre':=[RR kT161 O E q,RR kT3 A2 D2 g]) (fun _ _ _ s=>(s.e 2 [1,0]))) ⟨aY,trivial⟩ (fun _=>⟨(bH s9),trivial⟩)) R ?_
 rintro ⟨ab,ar,ai⟩
 refine aL 1 aB ?_
 rintro rfl
 refine bS ?_
 cases m
 exact hU ((L,J.length,G),(ab,ag.length,ai)) (tE 5 [2,1])
theorem Z20_ok  {p1:(List Int)}{a:(List Int)}{r:(List Int)×(List pair)×Bool}(b:Z20 p1 a=some r) :
 FnOk Tryz.prog 131 [(.slice A2 N2 D2),(.slice A4 N4 D4)] [aO kT3 (.slice A2 N2 D2) p1,aO kT3 (.slice A4 N4 D4) a] (fun (h:HH×HH)=>((.tuple [(s3 h.1),(s3 h.2),(.bool r.2.2)].toArray),[ow kT3 3 (s3 h.1) r.1,ow kT161 161 (s3 h.2) r.2.1])):=by
 unfold Z20 at b
 refine aQ Tryz.func131 R 20 R R fun C V=>?_
 refine cL 0 aA ?_
 rintro rfl
 refine cL 1 aA ?_
 rintro rfl
 let B:=RR kT3 A2 D2 p1::RR kT3 A4 D4 a::V
 refine cN B ?_
 refine cV ?_
 obtain ⟨m,b⟩:=gd b
 obtain ⟨g,b⟩:=gd b
 obtain ⟨_,b⟩:=gd b
 obtain ⟨j,i,b⟩:=bd b
 refine aZ 0 aA (show 0<p1.length by have:=m; omega) (fun E o7 u=>?_)
 subst u
 refine dC 16 [] bO fun G F=>?_
 refine kh 0 [] ?_
 refine hJ 6 [] ?_
 refine d1 5 R (fY (K:=kT3) (2:Int) (p1.length:Int) 0 R R bL cE R R R R g.1 g.2.1 g.2.2 (fun A9 D9=>(aC (aG (sL [0]) (d1 9 R (lM _ (fun w s=>(((s.d 2 R).d 1 R).e 3 [1,0,2])) ?_))))))
 refine lC 2 zy R (Z0b_ok i) R ?_
 rintro ⟨⟨q,D,l⟩,⟨A14,N14,D14⟩⟩
 refine aL 0 aB ?_
 rintro rfl
 refine aL 1 aB ?_
 rintro rfl
 refine aC (aG (sL [2,1,0]) ?_)
 refine r' 10 [2,1,0] ?_
 refine dD ?_
 refine aU ?_
 cases b
 exact hU ((q,j.1.length,l),(A14,j.2.1.length,D14)) (tE 5 [0,1])
theorem Z2q_ok  {a:Node}{b:(List Int)}{l:Int}{i:Int}{E:Nat}{j:Nat}{g:Nat}{r:(List Int)×(List pair)×Bool}(m:Z2q a b l i=some r) :
 FnOk Tryz.prog 149 [(.agg [(iv a.Op),(.slice A2 N2 D2),(.slice A3 N3 D3),(.slice A4 N4 D4),(aD a.Form),(.slice A5 N5 D5)].toArray),(.slice A7 N7 D7),(pt E 0),(pt j 0),(pt g 0)] [aO kT3 (.slice A2 N2 D2) a.Args,aO kT3 (.slice A3 N3 D3) a.Dims,aO kT3 (.slice A4 N4 D4) a.Ints,aO kT3 (.slice A5 N5 D5) a.Data,aO kT3 (.slice A7 N7 D7) b,aJ E [(iv l)] 3,aJ j [(iv i)] 3,aJ g [(.func (.func 131) [].toArray [].toArray)] 150] (fun (h:HH×HH)=>((.tuple [(s3 h.1),(s3 h.2),(.bool r.2.2)].toArray),[ow kT3 3 (s3 h.1) r.1,ow kT161 161 (s3 h.2) r.2.1,aJ E [(iv l)] 3,aJ j [(iv i)] 3,aJ g [(.func (.func 131) [].toArray [].toArray)] 150])):=by
 unfold Z2q at m
 refine aQ Tryz.func149 R 30 R R fun C V=>?_
 refine cM _ (fun w s=>(s.f 8 [5,3,0,5])) ?_
 refine cL 3 aA ?_
 rintro rfl
 refine cL 4 aA ?_
 rintro rfl
 refine cL 5 aA ?_
 rintro rfl
 refine cL 6 aA ?_
 rintro rfl
 refine cL 7 aA ?_
 rintro rfl
 let O:=RR kT3 A2 D2 a.Args::RR kT3 A3 D3 a.Dims::RR kT3 A4 D4 a.Ints::RR kT3 A5 D5 a.Data::RR kT3 A7 D7 b::V
 refine aU ?_
 refine eG R fun D=>?_
 refine bG ?_
 let L:=aJ D [(iv a.Op),(sc A2 a.Args D2),(sc A3 a.Dims D3),(sc A4 a.Ints D4),(aD a.Form),(sc A5 a.Data D5)] 54::aJ E [(iv l)] 3::aJ j [(iv i)] 3::aJ g [(.func (.func 131) [].toArray [].toArray)] 150::O
 refine qN L ?_
 refine aP ?_
 refine cQ [(1,(sc A7 b D7)),(4,(pt g 0)),(5,(pt D 0)),(21,(.bool ((decide ((a.Ints.length:Int)<l))||(decide ((a.Ints.length:Int)>i)))))] (L) ?_ ?_
 refine dH ?_
 rcases bo (decide ((a.Ints.length:Int)<l)) with q | q
 refine dH ?_
 exact qj tI
 refine dH ?_
 exact qj tI
 rintro σ1
 refine bR ?_
 split at m
 refine cT ?_
 cases m
 exact hU ((none,0,0),(none,0,0)) (fun w s=>(((s.nilo kT3 3).nilo kT161 161).e 11 [1,0,3,4,5]))
 refine bG ?_
 obtain ⟨u,B,m⟩:=bd m
 refine b' ?_
 refine lM _ (fun w s=>(((s.d 6 R).d 9 R).e 2 [1,0])) ?_
 refine cB (fs:=[]) (cs:=[]) 2 R R zz R R (Z20_ok B) R ?_
 rintro ⟨⟨J,M,I⟩,⟨G,T,F⟩⟩
 refine aL 0 aB ?_
 rintro rfl
 refine aL 1 aB ?_
 rintro rfl
 refine cP ?_
 cases m
 exact hU ((J,u.1.length,I),(G,u.2.1.length,F)) (fun w s=>(s.f 11 [0,2,3,3]))
theorem Z1q_ok  {k1:shiftKind}{G:Int}{I:Int}{b:Node}{a:(List (List Int))}{m:Nat}{q:Nat}{l:Nat}{r:(List Int)×Bool}(i:Z1q k1 G I b a=some r) :
 FnOk Tryz.prog 220 [(.agg [(aD k1.use),(.func (.func 149) [].toArray [(pt m 0),(pt q 0),(pt l 0)].toArray)].toArray),(.agg [(iv b.Op),(.slice A9 N9 D9),(.slice A10 N10 D10),(.slice A11 N11 D11),(aD b.Form),(.slice A12 N12 D12)].toArray),(.slice A14 N14 D14)] [aJ m [(iv G)] 3,aJ q [(iv I)] 3,aJ l [(.func (.func 131) [].toArray [].toArray)] 150,aO kT3 (.slice A9 N9 D9) b.Args,aO kT3 (.slice A10 N10 D10) b.Dims,aO kT3 (.slice A11 N11 D11) b.Ints,aO kT3 (.slice A12 N12 D12) b.Data,aO kT23 (.slice A14 N14 D14) a] (fun (h:HH)=>((.tuple [(s3 h),(.bool r.2)].toArray),[ow kT3 3 (s3 h) r.1,aJ m [(iv G)] 3,aJ q [(iv I)] 3,aJ l [(.func (.func 131) [].toArray [].toArray)] 150])):=by
 unfold Z1q at i
 refine aQ Tryz.func220 R 27 R R fun C V=>?_
 refine cL 3 aA ?_
 rintro rfl
 refine cL 4 aA ?_
 rintro rfl
 refine cL 5 aA ?_
 rintro rfl
 refine cL 6 aA ?_
 rintro rfl
 refine cL 7 aA ?_
 rintro rfl
 let M:=RR kT3 A9 D9 b.Args::RR kT3 A10 D10 b.Dims::RR kT3 A11 D11 b.Ints::RR kT3 A12 D12 b.Data::RR kT23 A14 D14 a::V
 refine aU ?_
 refine eG R fun B=>?_
 refine eG R fun D=>?_
 refine aP ?_
 refine qM _ (fun w s=>(s.f 5 [2,3,0,2])) ?_
 let W1:=aJ D [(iv b.Op),(sc A9 b.Args D9),(sc A10 b.Dims D10),(sc A11 b.Ints D11),(aD b.Form),(sc A12 b.Data D12)] 54::aJ B [(aD k1.use),(.func (.func 149) [].toArray [(pt m 0),(pt q 0),(pt l 0)].toArray)] 145::M
 refine cP ?_
 split at i
 refine cP ?_
 cases i
 exact jC (none,0,0) (fun w s=>((s.nilo kT3 3).f 11 [0,4]))
 refine bG ?_
 obtain ⟨g,i⟩:=gd i
 obtain ⟨u,j,i⟩:=bd i
 refine aZ 9 aA (show 0<a.length by have:=g; omega) (fun T o20 L=>?_)
 subst L
 refine dB (K:=kT23) 9 (0:Int) dT23.dec R g.1 g.2 ?_
 rintro ⟨Y,a0⟩
 refine dC 14 [] bO fun ht hn=>?_
 refine kh 0 [] ?_
 refine dR 5 R (eA (fo:=0) 0 cH R R R) (d1 6 R (lM _ (fun w s=>((((((s.d 7 R).d 9 R).d 11 R).d 13 R).d 5 R).e 10 [4,3,2,1,0,7,8,9,5,6])) ?_))
 refine cB (fs:=[]) (cs:=[(pt m 0),(pt q 0),(pt l 0)]) 8 R R qb R R (Z2q_ok j) R ?_
 rintro ⟨⟨F,U,E⟩,⟨O,Z,J⟩⟩
 refine aL 0 aB ?_
 rintro rfl
 refine aL 1 aB ?_
 rintro rfl
 refine aC (aG (fun w s=>(s.f 7 [5,2,2,3])) (dR 7 R (vT R) (hS:=(fun w s=>(s.f 7 [5,2,2,3]))) (dR 8 R (vS R) (hS:=(fun w s=>(s.f 7 [5,2,2,3]))) (dR 9 R (vS R) (hS:=(fun w s=>(s.f 7 [5,2,2,3]))) (dR 10 R (vB R) (hS:=(fun w s=>(s.f 7 [5,2,2,3]))) (dR 11 R (vS R) (hS:=(fun w s=>(s.f 7 [5,2,2,3]))) (dR 12 R (vS R) (hS:=(fun w s=>(s.f 7 [5,2,2,3]))) (dR 13 R (vB R) (hS:=(fun w s=>(s.f 7 [5,2,2,3]))) (dD ?_)))))))))
 refine cT ?_
 cases i
 exact jC (F,u.1.length,E) (tE 14 [0,2,3,4])
theorem Z4_ok  {b:(List Int)}{g:Int}{j:Int}{E:Int}{r:(List Int)×(List pair)×Bool}(l:Z4 b g j E=some r) :
 FnOk Tryz.prog 134 [(.slice A2 N2 D2),(iv g),(iv j),(iv E)] [aO kT3 (.slice A2 N2 D2) b] (fun (h:HH×HH)=>((.tuple [(s3 h.1),(s3 h.2),(.bool r.2.2)].toArray),[aO kT3 (s3 h.1) r.1,ow kT161 161 (s3 h.2) r.2.1])):=by
 unfold Z4 at l
 refine aQ Tryz.func134 R 151 R R fun C V=>?_
 refine cL 0 aA ?_
 rintro rfl
 let W0:=RR kT3 A2 D2 b::V
 refine cN W0 ?_
 refine qG ?_
 obtain ⟨r6,a7,l⟩:=bd l
 obtain ⟨a8,l⟩:=gd l
 obtain ⟨ae,l⟩:=gd l
 obtain ⟨ac,l⟩:=gd l
 obtain ⟨ay,l⟩:=gd l
 refine cQ [(0,(sc A2 b D2)),(1,(iv g)),(2,(iv j)),(3,(iv E)),(11,(iv (aH ((b.length:Int) - 1)))),(68,(.bool (((((((!r6)||(g==(aH ((b.length:Int) - 1))))||(decide (j<1)))||(decide (E<1)))||(decide (E>4096)))||(decide ((ix b (aH ((b.length:Int) - 1)))>E)))||((ix b g) != (aH ((aH ((aH (E - (ix b (aH ((b.length:Int) - 1))))).tdiv j))+1))))))] (W0) ?_ ?_
 rcases bo (!r6) with L | L
 refine dC 45 [] bO fun ht hn=>?_
 refine gO 0 [] ?_
 refine d1 2 R (lM _ (fun w s=>(s.d 0 R)) ?_)
 refine lC 1 gL R (Zk_ok a7) R ?_
 rintro _
 refine lN W0 ?_
 refine aC (aG (sL []) ?_)
 refine kh 3 [] ?_
 refine dR 8 R (fC (g==(aH ((b.length:Int) - 1))) R L) ?_
 refine hJ 9 [] ?_
 refine dR 12 R (fC (decide (j<1)) R (oT L)) ?_
 refine hJ 13 [] ?_
 refine dR 16 R (fC (decide (E<1)) R (oT (oT L))) ?_
 refine hJ 17 [] ?_
 refine dR 20 R (fC (decide (E>4096)) R (oT (oT (oT L)))) ?_
 refine s6 21 [] ?_
 refine dR 28 R (fC (decide ((ix b (aH ((b.length:Int) - 1)))>E)) R (oT (oT (oT (oT L))))) ?_
 refine og 29 [] ?_
 refine oX 33 [] ?_
 refine dR 44 R (fC ((ix b g) != (aH ((aH ((aH (E - (ix b (aH ((b.length:Int) - 1))))).tdiv j))+1))) R (oT (oT (oT (oT (oT L)))))) (dD ?_)
 exact qj tI
 rcases bo ((!r6)||(g==(aH ((b.length:Int) - 1)))) with U | U
 refine dC 45 [] bO fun ht hn=>?_
 refine gO 0 [] ?_
 refine d1 2 R (lM _ (fun w s=>(s.d 0 R)) ?_)
 refine lC 1 gL R (Zk_ok a7) R ?_
 rintro _
 refine lN W0 ?_
 refine aC (aG (sL []) ?_)
 refine kh 3 [] ?_
 refine dR 8 R (fR R L R) ?_
 refine hJ 9 [] ?_
 refine dR 12 R (fC (decide (j<1)) R U) ?_
 refine hJ 13 [] ?_
 refine dR 16 R (fC (decide (E<1)) R (oT U)) ?_
 refine hJ 17 [] ?_
 refine dR 20 R (fC (decide (E>4096)) R (oT (oT U))) ?_
 refine s6 21 [] ?_
 refine dR 28 R (fC (decide ((ix b (aH ((b.length:Int) - 1)))>E)) R (oT (oT (oT U)))) ?_
 refine ua 29 [] ?_
 refine s6 37 [] ?_
 refine dR 44 R (fC ((ix b g) != (aH ((aH ((aH (E - (ix b (aH ((b.length:Int) - 1))))).tdiv j))+1))) R (oT (oT (oT (oT U))))) (dD ?_)
 exact qj tI
 rcases bo (((!r6)||(g==(aH ((b.length:Int) - 1))))||(decide (j<1))) with a1 | a1
 refine dC 45 [] bO fun ht hn=>?_
 refine gO 0 [] ?_
 refine d1 2 R (lM _ (fun w s=>(s.d 0 R)) ?_)
 refine lC 1 gL R (Zk_ok a7) R ?_
 rintro _
 refine lN W0 ?_
 refine aC (aG (sL []) ?_)
 refine kh 3 [] ?_
 refine dR 8 R (fR R L R) ?_
 refine hJ 9 [] ?_
 refine dR 12 R (fR R U R) ?_
 refine hJ 13 [] ?_
 refine dR 16 R (fC (decide (E<1)) R a1) ?_
 refine hJ 17 [] ?_
 refine dR 20 R (fC (decide (E>4096)) R (oT a1)) ?_
 refine s6 21 [] ?_
 refine dR 28 R (fC (decide ((ix b (aH ((b.length:Int) - 1)))>E)) R (oT (oT a1))) ?_
 refine oX 29 [] ?_
 refine og 40 [] ?_
 refine dR 44 R (fC ((ix b g) != (aH ((aH ((aH (E - (ix b (aH ((b.length:Int) - 1))))).tdiv j))+1))) R (oT (oT (oT a1)))) (dD ?_)
 exact qj tI
 rcases bo ((((!r6)||(g==(aH ((b.length:Int) - 1))))||(decide (j<1)))||(decide (E<1))) with a2 | a2
 refine dC 45 [] bO fun ht hn=>?_
 refine gO 0 [] ?_
 refine d1 2 R (lM _ (fun w s=>(s.d 0 R)) ?_)
 refine lC 1 gL R (Zk_ok a7) R ?_
 rintro _
 refine lN W0 ?_
 refine aC (aG (sL []) ?_)
 refine kh 3 [] ?_
 refine dR 8 R (fR R L R) ?_
 refine hJ 9 [] ?_
 refine dR 12 R (fR R U R) ?_
 refine hJ 13 [] ?_
 refine dR 16 R (fR R a1 R) ?_
 refine hJ 17 [] ?_
 refine dR 20 R (fC (decide (E>4096)) R a2) ?_
 refine s6 21 [] ?_
 refine dR 28 R (fC (decide ((ix b (aH ((b.length:Int) - 1)))>E)) R (oT a2)) ?_
 refine uc 29 [] ?_
 refine oe 43 [] ?_
 refine dR 44 R (fC ((ix b g) != (aH ((aH ((aH (E - (ix b (aH ((b.length:Int) - 1))))).tdiv j))+1))) R (oT (oT a2))) (dD ?_)
 exact qj tI
 rcases bo (((((!r6)||(g==(aH ((b.length:Int) - 1))))||(decide (j<1)))||(decide (E<1)))||(decide (E>4096))) with D | D
 refine dC 45 [] bO fun ht hn=>?_
 refine gO 0 [] ?_
 refine d1 2 R (lM _ (fun w s=>(s.d 0 R)) ?_)
 refine lC 1 gL R (Zk_ok a7) R ?_
 rintro _
 refine lN W0 ?_
 refine aC (aG (sL []) ?_)
 refine kh 3 [] ?_
 refine dR 8 R (fR R L R) ?_
 refine hJ 9 [] ?_
 refine dR 12 R (fR R U R) ?_
 refine hJ 13 [] ?_
 refine dR 16 R (fR R a1 R) ?_
 refine hJ 17 [] ?_
 refine dR 20 R (fR R a2 R) ?_
 refine s6 21 [] ?_
 refine dR 28 R (fC (decide ((ix b (aH ((b.length:Int) - 1)))>E)) R D) ?_
 refine ws 29 [] ?_
 refine dR 44 R (fC ((ix b g) != (aH ((aH ((aH (E - (ix b (aH ((b.length:Int) - 1))))).tdiv j))+1))) R (oT D)) (dD ?_)
 exact qj tI
 rcases bo ((((((!r6)||(g==(aH ((b.length:Int) - 1))))||(decide (j<1)))||(decide (E<1)))||(decide (E>4096)))||(decide ((ix b (aH ((b.length:Int) - 1)))>E))) with J | J
 refine aZ 0 aA (show 0<b.length by have:=(a8 D); omega) (fun g9 o10 ha=>?_)
 subst ha
 refine dC 45 [] bO fun ht hn=>?_
 refine gO 0 [] ?_
 refine d1 2 R (lM _ (fun w s=>(s.d 0 R)) ?_)
 refine lC 1 gL R (Zk_ok a7) R ?_
 rintro _
 refine lN W0 ?_
 refine aC (aG (sL []) ?_)
 refine kh 3 [] ?_
 refine dR 8 R (fR R L R) ?_
 refine hJ 9 [] ?_
 refine dR 12 R (fR R U R) ?_
 refine hJ 13 [] ?_
 refine dR 16 R (fR R a1 R) ?_
 refine hJ 17 [] ?_
 refine dR 20 R (fR R a2 R) ?_
 refine hJ 21 [] ?_
 refine dW 24 R (bY D) (eN bL cE R R (a8 D)) (dW 25 R (bY D) (gY 0 fS aA R (a8 D)) ?_)
 refine gO 26 [] ?_
 refine dR 28 R (fR R D R) ?_
 refine ws 29 [] ?_
 refine dR 44 R (fC ((ix b g) != (aH ((aH ((aH (E - (ix b (aH ((b.length:Int) - 1))))).tdiv j))+1))) R J) (dD ?_)
 exact qj tI
 refine aZ 0 aA (show 0<b.length by have:=(a8 D); omega) (fun g9 o10 ha=>?_)
 subst ha
 refine dC 45 [] bO fun ht hn=>?_
 refine gO 0 [] ?_
 refine d1 2 R (lM _ (fun w s=>(s.d 0 R)) ?_)
 refine lC 1 gL R (Zk_ok a7) R ?_
 rintro _
 refine lN W0 ?_
 refine aC (aG (sL []) ?_)
 refine kh 3 [] ?_
 refine dR 8 R (fR R L R) ?_
 refine hJ 9 [] ?_
 refine dR 12 R (fR R U R) ?_
 refine hJ 13 [] ?_
 refine dR 16 R (fR R a1 R) ?_
 refine hJ 17 [] ?_
 refine dR 20 R (fR R a2 R) ?_
 refine hJ 21 [] ?_
 refine dW 24 R (bY D) (eN bL cE R R (a8 D)) (dW 25 R (bY D) (gY 0 fS aA R (a8 D)) ?_)
 refine gO 26 [] ?_
 refine dR 28 R (fR R D R) ?_
 refine hJ 29 [] ?_
 refine dW 32 R (bY J) (eN bL cE R R (ae J)) (dW 33 R (bY J) (gY 0 fS aA R (ae J)) ?_)
 refine hJ 34 [] ?_
 refine dW 37 R (bY J) (eN bL cE R R (ac J)) (dW 38 R (bY J) (gY 0 fS aA R (ac J)) ?_)
 refine gO 39 [] ?_
 refine dW 41 R (bY J) (vz (iv (aH ((aH (E - (ix b (aH ((b.length:Int) - 1))))).tdiv j))) (mi R R (ay J))) ?_
 refine gO 42 [] ?_
 refine dR 44 R (fR R J R) (dD ?_)
 exact qj tI
 rintro σ1
 refine bR ?_
 split at l
 refine cT ?_
 cases l
 exact hU ((none,0,0),(none,0,0)) (fun w s=>(((s.nilr kT3).nilo kT161 161).e 3 [1,0]))
 refine bG ?_
 obtain ⟨F,b0,l⟩:=bd l
 obtain ⟨aa,l⟩:=gd l
 refine bG ?_
 refine lM _ (fun w s=>(s.d 0 R)) ?_
 refine lC 1 p' R (Z1l_ok b0) R ?_
 rintro ⟨c8,c5,ca⟩
 refine aL 0 aB ?_
 rintro rfl
 refine lI R (iE (fun w s=>s.shr 0 R) (fY (K:=kT3) (0:Int) (aH ((b.length:Int) - 1)) 0 R R bL cE R R R R aa.1 aa.2.1 aa.2.2 (fun O M=>(lS R (aC (aI (aN (aN ?_))))))))
 obtain ⟨c9,av,l⟩:=bd l
 refine aU ?_
 refine lM _ (fun w s=>(s.d 0 R)) ?_
 refine lC 1 j2 R (Zb_ok av) R ?_
 rintro _
 refine aP ?_
 split at l
 refine cT ?_
 cases l
 exact hU ((none,0,0),(none,0,0)) (fun w s=>(((s.nilr kT3).nilo kT161 161).e 5 [1,0]))
 refine bG ?_
 refine bB (A:=(Int)×(Unit)) (fun a=>Z4_J1 b g E F a.1=some r) (fun a=>[(0,(sc A2 b D2)),(1,(iv g)),(2,(iv a.1)),(3,(iv E)),(11,(iv (aH ((b.length:Int) - 1)))),(12,(sc O (sub F (0:Int) (aH ((b.length:Int) - 1))) M))]) (fun a=>RR kT3 O M (sub F (0:Int) (aH ((b.length:Int) - 1)))::W0) ?_ ?_
 refine bR ?_
 obtain ⟨b1,l⟩:=gd l
 refine aP ?_
 refine bD 2 aA (show 0<b.length by have:=b1; omega) (fun c6 o31 ha=>?_)
 subst ha
 refine b' ?_
 split at l
 refine bG ?_
 exact qI ((0:Int),()) l (tE 2 [0])
 refine aU ?_
 exact qI (j,()) l (tE 2 [0])
 rintro ⟨m,_⟩ σ1 l
 dsimp only [Z4_J1] at l
 refine bR ?_
 obtain ⟨a9,l⟩:=gd l
 obtain ⟨i,b9,l⟩:=bd l
 refine aP ?_
 refine fY (K:=kT3) (0:Int) (aH ((b.length:Int) - 1)) 1 R R bL cE R R R R a9.1 a9.2.1 a9.2.2 (fun c4 c7=>(lI R (lM _ (fun w s=>(s.d 0 R)) ?_)))
 refine lC 1 vG R (Z22_ok b9) R ?_
 rintro _
 refine lO (vT R) ?_
 refine cT ?_
 refine bK (K:=kT161) (xs:=([]:List pair)) (vs:=[]) 0 R R fA fB eL R R R R R R ?_ R (fun bs br=>?_)
 exact fun I h s=>(j1).list [] I h s
 refine bG ?_
 refine bB (A:=((List pair))×(HH)) (fun a=>Z4_J16 b F a.1=some r) (fun a=>[(12,(sc O (sub F (0:Int) (aH ((b.length:Int) - 1))) M)),(16,(s3 a.2))]) (fun a=>RR kT3 O M (sub F (0:Int) (aH ((b.length:Int) - 1)))::ow kT161 161 (s3 a.2) a.1::W0) ?_ ?_
 refine bS ?_
 obtain ⟨e1,bk,bj⟩:=bd l
 refine bC (A:=HH) bk (fun s a=>[(0,(sc A2 b D2)),(2,(iv m)),(3,(iv E)),(11,(iv (aH ((b.length:Int) - 1)))),(12,(sc O (sub F (0:Int) (aH ((b.length:Int) - 1))) M)),(13,(iv i.1)),(14,(iv i.2.1)),(15,(iv i.2.2)),(16,(s3 a)),(17,(iv s.2))]) (fun s a=>RR kT3 O M (sub F (0:Int) (aH ((b.length:Int) - 1)))::ow kT161 161 (s3 a) s.1::W0) (bs,([]:List pair).length,br) (aS R) (tE 3 [2,0]) ?_
 rintro ⟨Z,q⟩ ⟨al,b3,ai⟩ σ1 aw l bl
 dsimp only [Z4_L1] at l
 refine bI 1 aB (fun (hn:b3=Z.length)=>?_)
 subst hn
 refine cV ?_
 split at l
 refine bG ?_
 refine bB (A:=((List pair))×(HH)) (fun a=>Z4_J15 q a.1=some aw) (fun a=>[(0,(sc A2 b D2)),(2,(iv m)),(3,(iv E)),(11,(iv (aH ((b.length:Int) - 1)))),(12,(sc O (sub F (0:Int) (aH ((b.length:Int) - 1))) M)),(13,(iv i.1)),(14,(iv i.2.1)),(15,(iv i.2.2)),(16,(s3 a.2)),(17,(iv q))]) (fun a=>RR kT3 O M (sub F (0:Int) (aH ((b.length:Int) - 1)))::ow kT161 161 (s3 a.2) a.1::W0) ?_ ?_
 refine dH ?_
 obtain ⟨e2,bz,bv⟩:=bd l
 refine bC (A:=HH) bz (fun s a=>[(0,(sc A2 b D2)),(2,(iv m)),(3,(iv E)),(11,(iv (aH ((b.length:Int) - 1)))),(12,(sc O (sub F (0:Int) (aH ((b.length:Int) - 1))) M)),(13,(iv i.1)),(14,(iv i.2.1)),(15,(iv i.2.2)),(16,(s3 a)),(17,(iv q)),(18,(iv s.2))]) (fun s a=>RR kT3 O M (sub F (0:Int) (aH ((b.length:Int) - 1)))::ow kT161 161 (s3 a) s.1::W0) (al,Z.length,ai) (aS R) tI ?_
 rintro ⟨Y,u⟩ ⟨ag,b5,ab⟩ σ1 bc l bu
 dsimp only [Z4_L2] at l
 refine bI 1 aB (fun (hn:b5=Y.length)=>?_)
 subst hn
 refine cV ?_
 split at l
 refine bG ?_
 refine bB (A:=((List pair))×(HH)) (fun a=>Z4_J14 u a.1=some bc) (fun a=>[(0,(sc A2 b D2)),(2,(iv m)),(3,(iv E)),(11,(iv (aH ((b.length:Int) - 1)))),(12,(sc O (sub F (0:Int) (aH ((b.length:Int) - 1))) M)),(13,(iv i.1)),(14,(iv i.2.1)),(15,(iv i.2.2)),(16,(s3 a.2)),(17,(iv q)),(18,(iv u))]) (fun a=>RR kT3 O M (sub F (0:Int) (aH ((b.length:Int) - 1)))::ow kT161 161 (s3 a.2) a.1::W0) ?_ ?_
 refine dH ?_
 obtain ⟨e3,bp,bn⟩:=bd l
 refine bC (A:=HH) bp (fun s a=>[(0,(sc A2 b D2)),(2,(iv m)),(3,(iv E)),(11,(iv (aH ((b.length:Int) - 1)))),(12,(sc O (sub F (0:Int) (aH ((b.length:Int) - 1))) M)),(13,(iv i.1)),(14,(iv i.2.1)),(15,(iv i.2.2)),(16,(s3 a)),(17,(iv q)),(18,(iv u)),(19,(iv s.2))]) (fun s a=>RR kT3 O M (sub F (0:Int) (aH ((b.length:Int) - 1)))::ow kT161 161 (s3 a) s.1::W0) (ag,Y.length,ab) (aS R) tI ?_
 rintro ⟨a0,B⟩ ⟨aj,ax,ak⟩ σ1 ar l bw
 dsimp only [Z4_L3] at l
 refine bI 1 aB (fun (hn:ax=a0.length)=>?_)
 subst hn
 refine cV ?_
 split at l
 refine bG ?_
 refine bB (A:=((List pair))×(HH)) (fun a=>Z4_J13 B a.1=some ar) (fun a=>[(0,(sc A2 b D2)),(2,(iv m)),(3,(iv E)),(11,(iv (aH ((b.length:Int) - 1)))),(12,(sc O (sub F (0:Int) (aH ((b.length:Int) - 1))) M)),(13,(iv i.1)),(14,(iv i.2.1)),(15,(iv i.2.2)),(16,(s3 a.2)),(17,(iv q)),(18,(iv u)),(19,(iv B))]) (fun a=>RR kT3 O M (sub F (0:Int) (aH ((b.length:Int) - 1)))::ow kT161 161 (s3 a.2) a.1::W0) ?_ ?_
 refine dH ?_
 obtain ⟨e4,bm,bi⟩:=bd l
 refine bC (A:=HH) bm (fun s a=>[(0,(sc A2 b D2)),(2,(iv m)),(3,(iv E)),(11,(iv (aH ((b.length:Int) - 1)))),(12,(sc O (sub F (0:Int) (aH ((b.length:Int) - 1))) M)),(13,(iv i.1)),(14,(iv i.2.1)),(15,(iv i.2.2)),(16,(s3 a)),(17,(iv q)),(18,(iv u)),(19,(iv B)),(20,(iv s.2))]) (fun s a=>RR kT3 O M (sub F (0:Int) (aH ((b.length:Int) - 1)))::ow kT161 161 (s3 a) s.1::W0) (aj,a0.length,ak) (aS R) tI ?_
 rintro ⟨G,T⟩ ⟨bf,bh,b7⟩ σ1 c2 l bq
 dsimp only [Z4_L4] at l
 refine bI 1 aB (fun (hn:bh=G.length)=>?_)
 subst hn
 refine aU ?_
 obtain ⟨an,l⟩:=gd l
 refine bG ?_
 refine bD 2 aA (show 0<b.length by have:=an; omega) (fun c1 o260 ha=>?_)
 subst ha
 refine b' ?_
 split at l
 refine b' ?_
 obtain ⟨ao,l⟩:=gd l
 refine wr ?_
 refine lO (vz (.agg [(iv (aH ((aH ((aH ((aH ((aH ((aH (q*i.2.1))+u))*i.2.2))+B))*(ix b (aH ((b.length:Int) - 1)))))+T))),(iv (aH ((aH ((aH ((aH ((aH (q*E))+(aH (u*m))))+T))*i.2.2))+B)))].toArray) (aV my eL R R)) ?_
 refine bK (K:=kT161) (xs:=([(⟨(aH ((aH ((aH ((aH ((aH ((aH (q*i.2.1))+u))*i.2.2))+B))*(ix b (aH ((b.length:Int) - 1)))))+T)),(aH ((aH ((aH ((aH ((aH (q*E))+(aH (u*m))))+T))*i.2.2))+B))⟩:pair)]:List pair)) (vs:=[(.agg [(iv (aH ((aH ((aH ((aH ((aH ((aH (q*i.2.1))+u))*i.2.2))+B))*(ix b (aH ((b.length:Int) - 1)))))+T))),(iv (aH ((aH ((aH ((aH ((aH (q*E))+(aH (u*m))))+T))*i.2.2))+B)))].toArray)]) 0 R R fA fB eL R R R R R R ?_ R (fun c0 c3=>?_)
 exact fun I h s=>(j1).list [(((),()),(⟨(aH ((aH ((aH ((aH ((aH ((aH (q*i.2.1))+u))*i.2.2))+B))*(ix b (aH ((b.length:Int) - 1)))))+T)),(aH ((aH ((aH ((aH ((aH (q*E))+(aH (u*m))))+T))*i.2.2))+B))⟩:pair))] I h s
 refine lM _ (tE 3 [2,0,1]) ?_
 refine eF (K:=kT161) 8796093022208 R R fA fB lx (Zr.zk zT161 eL) R R R R R R dO ao (fun am ah=>(lN (OO kT161 161 am ah (G++([(⟨(aH ((aH ((aH ((aH ((aH ((aH (q*i.2.1))+u))*i.2.2))+B))*(ix b (aH ((b.length:Int) - 1)))))+T)),(aH ((aH ((aH ((aH ((aH (q*E))+(aH (u*m))))+T))*i.2.2))+B))⟩:pair)]:List pair))::_::W0) ?_))
 refine cP ?_
 cases l
 exact qA (am,(G++([(⟨(aH ((aH ((aH ((aH ((aH ((aH (q*i.2.1))+u))*i.2.2))+B))*(ix b (aH ((b.length:Int) - 1)))))+T)),(aH ((aH ((aH ((aH ((aH (q*E))+(aH (u*m))))+T))*i.2.2))+B))⟩:pair)]:List pair)).length,ah) (tE 2 [1,0])
 refine aP ?_
 cases l
 obtain rfl:=bq _ R
 have l:=bi
 refine aP ?_
 exact qI (G,(bf,G.length,b7)) l tI
 rintro ⟨a3,⟨b4,aq,az⟩⟩ σ1 l
 dsimp only [Z4_J13] at l
 refine bI 1 aB (fun (hn:aq=a3.length)=>?_)
 subst hn
 refine b' ?_
 cases l
 exact qA (b4,a3.length,az) tI
 refine aP ?_
 cases l
 obtain rfl:=bw _ R
 have l:=bn
 refine aP ?_
 exact qI (a0,(aj,a0.length,ak)) l tI
 rintro ⟨a4,⟨b2,be,bb⟩⟩ σ1 l
 dsimp only [Z4_J14] at l
 refine bI 1 aB (fun (hn:be=a4.length)=>?_)
 subst hn
 refine b' ?_
 cases l
 exact qA (b2,a4.length,bb) tI
 refine aP ?_
 cases l
 obtain rfl:=bu _ R
 have l:=bv
 refine aP ?_
 exact qI (Y,(ag,Y.length,ab)) l tI
 rintro ⟨a6,⟨bg,b6,ap⟩⟩ σ1 l
 dsimp only [Z4_J15] at l
 refine bI 1 aB (fun (hn:b6=a6.length)=>?_)
 subst hn
 refine b' ?_
 cases l
 exact qA (bg,a6.length,ap) tI
 refine aP ?_
 cases l
 obtain rfl:=bl _ R
 have l:=bj
 refine aU ?_
 exact qI (Z,(al,Z.length,ai)) l tI
 rintro ⟨a5,⟨b8,ba,au⟩⟩ σ1 l
 dsimp only [Z4_J16] at l
 refine bI 1 aB (fun (hn:ba=a5.length)=>?_)
 subst hn
 refine cT ?_
 cases l
 exact hU ((O,(sub F (0:Int) (aH ((b.length:Int) - 1))).length,M),(b8,a5.length,au)) (tE 3 [0,1])
theorem Z21_ok  {p1:(List Int)}{a:(List Int)}{r:(List Int)×(List pair)×Bool}(b:Z21 p1 a=some r) :
 FnOk Tryz.prog 133 [(.slice A2 N2 D2),(.slice A4 N4 D4)] [aO kT3 (.slice A2 N2 D2) p1,aO kT3 (.slice A4 N4 D4) a] (fun (h:HH×HH)=>((.tuple [(s3 h.1),(s3 h.2),(.bool r.2.2)].toArray),[aO kT3 (s3 h.1) r.1,ow kT161 161 (s3 h.2) r.2.1])):=by
 unfold Z21 at b
 refine aQ Tryz.func133 R 21 R R fun C V=>?_
 refine cL 0 aA ?_
 rintro rfl
 refine cL 1 aA ?_
 rintro rfl
 let q:=RR kT3 A2 D2 p1::RR kT3 A4 D4 a::V
 refine cN q ?_
 refine cV ?_
 obtain ⟨j,b⟩:=gd b
 obtain ⟨_,b⟩:=gd b
 obtain ⟨_,b⟩:=gd b
 obtain ⟨g,e,b⟩:=bd b
 refine aZ 0 aA (show 0<p1.length by have:=j; omega) (fun B o7 m=>?_)
 subst m
 refine dC 17 [] bO fun E D=>?_
 refine qH 0 [] ?_
 refine d1 10 R (lM _ (fun w s=>(s.d 1 R)) ?_)
 refine lC 1 zA R (Z4_ok e) R ?_
 rintro ⟨⟨A12,N12,D12⟩,⟨l,u,i⟩⟩
 refine aL 0 aA ?_
 rintro rfl
 refine aL 1 aB ?_
 rintro rfl
 refine aC (aG (sL [1,0]) ?_)
 refine r' 11 [1,0] ?_
 refine dD ?_
 refine aU ?_
 cases b
 exact hU ((A12,g.1.length,D12),(l,g.2.1.length,i)) (tE 4 [0,1])
theorem Z2r_ok  {a:Node}{b:(List Int)}{l:Int}{i:Int}{E:Nat}{j:Nat}{g:Nat}{r:(List Int)×(List pair)×Bool}(m:Z2r a b l i=some r) :
 FnOk Tryz.prog 149 [(.agg [(iv a.Op),(.slice A2 N2 D2),(.slice A3 N3 D3),(.slice A4 N4 D4),(aD a.Form),(.slice A5 N5 D5)].toArray),(.slice A7 N7 D7),(pt E 0),(pt j 0),(pt g 0)] [aO kT3 (.slice A2 N2 D2) a.Args,aO kT3 (.slice A3 N3 D3) a.Dims,aO kT3 (.slice A4 N4 D4) a.Ints,aO kT3 (.slice A5 N5 D5) a.Data,aO kT3 (.slice A7 N7 D7) b,aJ E [(iv l)] 3,aJ j [(iv i)] 3,aJ g [(.func (.func 133) [].toArray [].toArray)] 150] (fun (h:HH×HH)=>((.tuple [(s3 h.1),(s3 h.2),(.bool r.2.2)].toArray),[aO kT3 (s3 h.1) r.1,ow kT161 161 (s3 h.2) r.2.1,aJ E [(iv l)] 3,aJ j [(iv i)] 3,aJ g [(.func (.func 133) [].toArray [].toArray)] 150])):=by
 unfold Z2r at m
 refine aQ Tryz.func149 R 30 R R fun C V=>?_
 refine cM _ (fun w s=>(s.f 8 [5,3,0,5])) ?_
 refine cL 3 aA ?_
 rintro rfl
 refine cL 4 aA ?_
 rintro rfl
 refine cL 5 aA ?_
 rintro rfl
 refine cL 6 aA ?_
 rintro rfl
 refine cL 7 aA ?_
 rintro rfl
 let O:=RR kT3 A2 D2 a.Args::RR kT3 A3 D3 a.Dims::RR kT3 A4 D4 a.Ints::RR kT3 A5 D5 a.Data::RR kT3 A7 D7 b::V
 refine aU ?_
 refine eG R fun D=>?_
 refine bG ?_
 let L:=aJ D [(iv a.Op),(sc A2 a.Args D2),(sc A3 a.Dims D3),(sc A4 a.Ints D4),(aD a.Form),(sc A5 a.Data D5)] 54::aJ E [(iv l)] 3::aJ j [(iv i)] 3::aJ g [(.func (.func 133) [].toArray [].toArray)] 150::O
 refine qN L ?_
 refine aP ?_
 refine cQ [(1,(sc A7 b D7)),(4,(pt g 0)),(5,(pt D 0)),(21,(.bool ((decide ((a.Ints.length:Int)<l))||(decide ((a.Ints.length:Int)>i)))))] (L) ?_ ?_
 refine dH ?_
 rcases bo (decide ((a.Ints.length:Int)<l)) with q | q
 refine dH ?_
 exact qj tI
 refine dH ?_
 exact qj tI
 rintro σ1
 refine bR ?_
 split at m
 refine cT ?_
 cases m
 exact hU ((none,0,0),(none,0,0)) (fun w s=>(((s.nilr kT3).nilo kT161 161).e 11 [1,0,3,4,5]))
 refine bG ?_
 obtain ⟨u,B,m⟩:=bd m
 refine b' ?_
 refine lM _ (fun w s=>(((s.d 6 R).d 9 R).e 2 [1,0])) ?_
 refine cB (fs:=[]) (cs:=[]) 2 R R zB R R (Z21_ok B) R ?_
 rintro ⟨⟨J,M,I⟩,⟨G,T,F⟩⟩
 refine aL 0 aA ?_
 rintro rfl
 refine aL 1 aB ?_
 rintro rfl
 refine cP ?_
 cases m
 exact hU ((J,u.1.length,I),(G,u.2.1.length,F)) (fun w s=>(s.f 11 [0,2,3,3]))
theorem Z1r_ok  {k1:shiftKind}{G:Int}{I:Int}{b:Node}{a:(List (List Int))}{m:Nat}{q:Nat}{l:Nat}{r:(List Int)×Bool}(i:Z1r k1 G I b a=some r) :
 FnOk Tryz.prog 220 [(.agg [(aD k1.use),(.func (.func 149) [].toArray [(pt m 0),(pt q 0),(pt l 0)].toArray)].toArray),(.agg [(iv b.Op),(.slice A9 N9 D9),(.slice A10 N10 D10),(.slice A11 N11 D11),(aD b.Form),(.slice A12 N12 D12)].toArray),(.slice A14 N14 D14)] [aJ m [(iv G)] 3,aJ q [(iv I)] 3,aJ l [(.func (.func 133) [].toArray [].toArray)] 150,aO kT3 (.slice A9 N9 D9) b.Args,aO kT3 (.slice A10 N10 D10) b.Dims,aO kT3 (.slice A11 N11 D11) b.Ints,aO kT3 (.slice A12 N12 D12) b.Data,aO kT23 (.slice A14 N14 D14) a] (fun (h:HH)=>((.tuple [(s3 h),(.bool r.2)].toArray),[aO kT3 (s3 h) r.1,aJ m [(iv G)] 3,aJ q [(iv I)] 3,aJ l [(.func (.func 133) [].toArray [].toArray)] 150])):=by
 unfold Z1r at i
 refine aQ Tryz.func220 R 27 R R fun C V=>?_
 refine cL 3 aA ?_
 rintro rfl
 refine cL 4 aA ?_
 rintro rfl
 refine cL 5 aA ?_
 rintro rfl
 refine cL 6 aA ?_
 rintro rfl
 refine cL 7 aA ?_
 rintro rfl
 let M:=RR kT3 A9 D9 b.Args::RR kT3 A10 D10 b.Dims::RR kT3 A11 D11 b.Ints::RR kT3 A12 D12 b.Data::RR kT23 A14 D14 a::V
 refine aU ?_
 refine eG R fun B=>?_
 refine eG R fun D=>?_
 refine aP ?_
 refine qM _ (fun w s=>(s.f 5 [2,3,0,2])) ?_
 let W1:=aJ D [(iv b.Op),(sc A9 b.Args D9),(sc A10 b.Dims D10),(sc A11 b.Ints D11),(aD b.Form),(sc A12 b.Data D12)] 54::aJ B [(aD k1.use),(.func (.func 149) [].toArray [(pt m 0),(pt q 0),(pt l 0)].toArray)] 145::M
 refine cP ?_
 split at i
 refine cP ?_
 cases i
 exact jC (none,0,0) (fun w s=>((s.nilr kT3).f 11 [0,4]))
 refine bG ?_
 obtain ⟨g,i⟩:=gd i
 obtain ⟨u,j,i⟩:=bd i
 refine aZ 9 aA (show 0<a.length by have:=g; omega) (fun T o20 L=>?_)
 subst L
 refine dB (K:=kT23) 9 (0:Int) dT23.dec R g.1 g.2 ?_
 rintro ⟨Y,a0⟩
 refine dC 14 [] bO fun ht hn=>?_
 refine kh 0 [] ?_
 refine dR 5 R (eA (fo:=0) 0 cH R R R) (d1 6 R (lM _ (fun w s=>((((((s.d 7 R).d 9 R).d 11 R).d 13 R).d 5 R).e 10 [4,3,2,1,0,7,8,9,5,6])) ?_))
 refine cB (fs:=[]) (cs:=[(pt m 0),(pt q 0),(pt l 0)]) 8 R R qb R R (Z2r_ok j) R ?_
 rintro ⟨⟨F,U,E⟩,⟨O,Z,J⟩⟩
 refine aL 0 aA ?_
 rintro rfl
 refine aL 1 aB ?_
 rintro rfl
 refine aC (aG (fun w s=>(s.f 7 [5,2,2,3])) (dR 7 R (vT R) (hS:=(fun w s=>(s.f 7 [5,2,2,3]))) (dR 8 R (vS R) (hS:=(fun w s=>(s.f 7 [5,2,2,3]))) (dR 9 R (vS R) (hS:=(fun w s=>(s.f 7 [5,2,2,3]))) (dR 10 R (vB R) (hS:=(fun w s=>(s.f 7 [5,2,2,3]))) (dR 11 R (vS R) (hS:=(fun w s=>(s.f 7 [5,2,2,3]))) (dR 12 R (vS R) (hS:=(fun w s=>(s.f 7 [5,2,2,3]))) (dR 13 R (vB R) (hS:=(fun w s=>(s.f 7 [5,2,2,3]))) (dD ?_)))))))))
 refine cT ?_
 cases i
 exact jC (F,u.1.length,E) (tE 14 [0,2,3,4])
theorem l4  {r:kindOfR}{a:Node}{u:(List (List Int))}{g h1 h2:Nat}{m A2 A3 A4 A5:Option Addr}{B l N2 D2 N3 D3 N4 D4 N5 D5:Nat}{mG:Int}{q:(List Int)×Bool}(b:bN r a u=some q) :
 InvOk Tryz.prog (cU r (g,h1,h2)) "loop.example/g00033/impl.shape" [(.agg [(iv a.Op),(.slice m B l),(.slice A2 N2 D2),(.slice A3 N3 D3),(aD a.Form),(.slice A4 N4 D4)].toArray),(.slice A5 N5 D5)] [eS r (g,h1,h2),aO kT3 (.slice m B l) a.Args,aO kT3 (.slice A2 N2 D2) a.Dims,aO kT3 (.slice A3 N3 D3) a.Ints,aO kT3 (.slice A4 N4 D4) a.Data,aO kT23 (.slice A5 N5 D5) u,gl 0 mG] (fun (h:HH)=>((.tuple [(s3 h),(.bool q.2)].toArray),[aO kT3 (s3 h) q.1,eS r (g,h1,h2)])):=by
 unfold bN at b
 rcases cK b with ⟨Z,b⟩|⟨Z,b⟩
 ·cases b
 rcases cK b with ⟨U,b⟩|⟨U,b⟩
 ·obtain ⟨t,F,i,j,D⟩:=r
  obtain rfl:=Nat.eq_of_beq_eq_true U
  exact InvOk.mk (ou _) (((Z1k_ok b).perm (Pre':=[pk [],aO kT3 (.slice m B l) a.Args,aO kT3 (.slice A2 N2 D2) a.Dims,aO kT3 (.slice A3 N3 D3) a.Ints,aO kT3 (.slice A4 N4 D4) a.Data,aO kT23 (.slice A5 N5 D5) u,gl 0 mG]) (fun _ _ _ s=>(St.unpack (A:=[]) s).e 6 [0,1,2,3,4])).post id (fun _=>rfl) (fun _ _ _ _ s=>(St.pack (A:=[]) (s)).e 2 [1,0]))
 rcases cK b with ⟨M,b⟩|⟨M,b⟩
 ·obtain ⟨t,F,i,j,D⟩:=r
  obtain rfl:=Nat.eq_of_beq_eq_true M
  exact InvOk.mk (ov _) (((Z23_ok b).perm (Pre':=[pk [],aO kT3 (.slice m B l) a.Args,aO kT3 (.slice A2 N2 D2) a.Dims,aO kT3 (.slice A3 N3 D3) a.Ints,aO kT3 (.slice A4 N4 D4) a.Data,aO kT23 (.slice A5 N5 D5) u,gl 0 mG]) (fun _ _ _ s=>(St.unpack (A:=[]) s).e 6 [0,1,2,3,4])).post id (fun _=>rfl) (fun _ _ _ _ s=>(St.pack (A:=[]) (s)).e 2 [1,0]))
 rcases cK b with ⟨G,b⟩|⟨G,b⟩
 ·obtain ⟨t,F,i,j,D⟩:=r
  obtain rfl:=Nat.eq_of_beq_eq_true G
  exact InvOk.mk (oy _) (((Z2u_ok b).perm (Pre':=[pk [],aO kT3 (.slice m B l) a.Args,aO kT3 (.slice A2 N2 D2) a.Dims,aO kT3 (.slice A3 N3 D3) a.Ints,aO kT3 (.slice A4 N4 D4) a.Data,aO kT23 (.slice A5 N5 D5) u,gl 0 mG]) (fun _ _ _ s=>(St.unpack (A:=[]) s).e 6 [0,1,2,3,4])).post id (fun _=>rfl) (fun _ _ _ _ s=>(St.pack (A:=[]) (s)).e 2 [1,0]))
 rcases cK b with ⟨J,b⟩|⟨J,b⟩
 ·obtain ⟨t,F,i,j,D⟩:=r
  obtain rfl:=Nat.eq_of_beq_eq_true J
  exact InvOk.mk (oz _) (((Z1w_ok (k1:=⟨⟩) b).perm (Pre':=[pk [],aO kT3 (.slice m B l) a.Args,aO kT3 (.slice A2 N2 D2) a.Dims,aO kT3 (.slice A3 N3 D3) a.Ints,aO kT3 (.slice A4 N4 D4) a.Data,aO kT23 (.slice A5 N5 D5) u,gl 0 mG]) (fun _ _ _ s=>(St.unpack (A:=[]) s).e 6 [0,1,2,3,4])).post id (fun _=>rfl) (fun _ _ _ _ s=>(St.pack (A:=[]) (s)).e 2 [1,0]))
 rcases cK b with ⟨I,b⟩|⟨I,b⟩
 ·obtain ⟨t,F,i,j,D⟩:=r
  obtain rfl:=Nat.eq_of_beq_eq_true I
  exact InvOk.mk (oA _) (((Z2t_ok (k1:=⟨⟩) b).perm (Pre':=[pk [],aO kT3 (.slice m B l) a.Args,aO kT3 (.slice A2 N2 D2) a.Dims,aO kT3 (.slice A3 N3 D3) a.Ints,aO kT3 (.slice A4 N4 D4) a.Data,aO kT23 (.slice A5 N5 D5) u,gl 0 mG]) (fun _ _ _ s=>St.unpack (A:=[]) s)).post id (fun _=>rfl) (fun _ _ _ _ s=>(St.pack (A:=[]) ((s).shr 0 R)).e 2 [1,0]))
 rcases cK b with ⟨L,b⟩|⟨L,b⟩
 ·obtain ⟨t,F,i,j,D⟩:=r
  obtain rfl:=Nat.eq_of_beq_eq_true L
  exact InvOk.mk (f' _) (((Z1s_ok b).perm (Pre':=[pk [],aO kT3 (.slice m B l) a.Args,aO kT3 (.slice A2 N2 D2) a.Dims,aO kT3 (.slice A3 N3 D3) a.Ints,aO kT3 (.slice A4 N4 D4) a.Data,aO kT23 (.slice A5 N5 D5) u,gl 0 mG]) (fun _ _ _ s=>(St.unpack (A:=[]) s).e 6 [0,1,2,3,4])).post id (fun _=>rfl) (fun _ _ _ _ s=>(St.pack (A:=[]) (s)).e 2 [1,0]))
 rcases cK b with ⟨T,b⟩|⟨T,b⟩
 ·obtain ⟨t,F,i,j,D⟩:=r
  obtain rfl:=Nat.eq_of_beq_eq_true T
  exact InvOk.mk (f' _) (((Z24_ok b).perm (Pre':=[pk [],aO kT3 (.slice m B l) a.Args,aO kT3 (.slice A2 N2 D2) a.Dims,aO kT3 (.slice A3 N3 D3) a.Ints,aO kT3 (.slice A4 N4 D4) a.Data,aO kT23 (.slice A5 N5 D5) u,gl 0 mG]) (fun _ _ _ s=>(St.unpack (A:=[]) s).e 6 [0,1,2,3,4])).post id (fun _=>rfl) (fun _ _ _ _ s=>(St.pack (A:=[]) (s)).e 2 [1,0]))
 rcases cK b with ⟨O,b⟩|⟨O,b⟩
 ·obtain ⟨t,F,i,j,D⟩:=r
  obtain rfl:=Nat.eq_of_beq_eq_true O
  exact InvOk.mk (f' _) (((Z1o_ok b).perm (Pre':=[pk [aJ g [(iv i)] 3,aJ h1 [(iv j)] 3,aJ h2 [(.func (.func 127) [].toArray [].toArray)] 150],aO kT3 (.slice m B l) a.Args,aO kT3 (.slice A2 N2 D2) a.Dims,aO kT3 (.slice A3 N3 D3) a.Ints,aO kT3 (.slice A4 N4 D4) a.Data,aO kT23 (.slice A5 N5 D5) u,gl 0 mG]) (fun _ _ _ s=>(St.unpack (A:=[aJ g [(iv i)] 3,aJ h1 [(iv j)] 3,aJ h2 [(.func (.func 127) [].toArray [].toArray)] 150]) s).e 9 [0,1,2,3,4,5,6,7])).post id (fun _=>rfl) (fun _ _ _ _ s=>(St.pack (A:=[aJ g [(iv i)] 3,aJ h1 [(iv j)] 3,aJ h2 [(.func (.func 127) [].toArray [].toArray)] 150]) (((s).shr 0 R).e 4 [1,2,3,0])).e 2 [1,0]))
 rcases cK b with ⟨Y,b⟩|⟨Y,b⟩
 ·obtain ⟨t,F,i,j,D⟩:=r
  obtain rfl:=Nat.eq_of_beq_eq_true Y
  exact InvOk.mk (f' _) (((Z1p_ok b).perm (Pre':=[pk [aJ g [(iv i)] 3,aJ h1 [(iv j)] 3,aJ h2 [(.func (.func 129) [].toArray [].toArray)] 150],aO kT3 (.slice m B l) a.Args,aO kT3 (.slice A2 N2 D2) a.Dims,aO kT3 (.slice A3 N3 D3) a.Ints,aO kT3 (.slice A4 N4 D4) a.Data,aO kT23 (.slice A5 N5 D5) u,gl 0 mG]) (fun _ _ _ s=>(St.unpack (A:=[aJ g [(iv i)] 3,aJ h1 [(iv j)] 3,aJ h2 [(.func (.func 129) [].toArray [].toArray)] 150]) s).e 9 [0,1,2,3,4,5,6,7])).post id (fun _=>rfl) (fun _ _ _ _ s=>(St.pack (A:=[aJ g [(iv i)] 3,aJ h1 [(iv j)] 3,aJ h2 [(.func (.func 129) [].toArray [].toArray)] 150]) (((s).shr 0 R).e 4 [1,2,3,0])).e 2 [1,0]))
 rcases cK b with ⟨E,b⟩|⟨E,b⟩
 ·obtain ⟨t,F,i,j,D⟩:=r
  obtain rfl:=Nat.eq_of_beq_eq_true E
  exact InvOk.mk (f' _) (((Z1q_ok b).perm (Pre':=[pk [aJ g [(iv i)] 3,aJ h1 [(iv j)] 3,aJ h2 [(.func (.func 131) [].toArray [].toArray)] 150],aO kT3 (.slice m B l) a.Args,aO kT3 (.slice A2 N2 D2) a.Dims,aO kT3 (.slice A3 N3 D3) a.Ints,aO kT3 (.slice A4 N4 D4) a.Data,aO kT23 (.slice A5 N5 D5) u,gl 0 mG]) (fun _ _ _ s=>(St.unpack (A:=[aJ g [(iv i)] 3,aJ h1 [(iv j)] 3,aJ h2 [(.func (.func 131) [].toArray [].toArray)] 150]) s).e 9 [0,1,2,3,4,5,6,7])).post id (fun _=>rfl) (fun _ _ _ _ s=>(St.pack (A:=[aJ g [(iv i)] 3,aJ h1 [(iv j)] 3,aJ h2 [(.func (.func 131) [].toArray [].toArray)] 150]) (((s).shr 0 R).e 4 [1,2,3,0])).e 2 [1,0]))
 have hV:cU r (g,h1,h2)=(.iface 145 (.agg [(aD r.s0),(.func (.func 149) [].toArray [(pt g 0),(pt h1 0),(pt h2 0)].toArray)].toArray)):=by simp only [cU,Z,U,M,G,J,I,L,T,O,Y,E,cond_false]
 have hE:eS r (g,h1,h2)=pk [aJ g [(iv r.i0)] 3,aJ h1 [(iv r.i1)] 3,aJ h2 [(.func (.func 133) [].toArray [].toArray)] 150]:=by simp only [eS,Z,U,M,G,J,I,L,T,O,Y,E,cond_false]
 rw [hV,hE]
 exact InvOk.mk (f' _) (((Z1r_ok b).perm (Pre':=[pk [aJ g [(iv r.i0)] 3,aJ h1 [(iv r.i1)] 3,aJ h2 [(.func (.func 133) [].toArray [].toArray)] 150],aO kT3 (.slice m B l) a.Args,aO kT3 (.slice A2 N2 D2) a.Dims,aO kT3 (.slice A3 N3 D3) a.Ints,aO kT3 (.slice A4 N4 D4) a.Data,aO kT23 (.slice A5 N5 D5) u,gl 0 mG]) (fun _ _ _ s=>(St.unpack (A:=[aJ g [(iv r.i0)] 3,aJ h1 [(iv r.i1)] 3,aJ h2 [(.func (.func 133) [].toArray [].toArray)] 150]) s).e 9 [0,1,2,3,4,5,6,7])).post id (fun _=>rfl) (fun _ _ _ _ s=>(St.pack (A:=[aJ g [(iv r.i0)] 3,aJ h1 [(iv r.i1)] 3,aJ h2 [(.func (.func 133) [].toArray [].toArray)] 150]) ((s).e 4 [1,2,3,0])).e 2 [1,0]))
theorem Zd_ok  {i:Node}{b:(List (List Int))}{mG:Int}{r:(List Int)×Bool}(l:Zd i b=some r) :
 FnOk Tryz.prog 59 [(.agg [(iv i.Op),(.slice A2 N2 D2),(.slice A3 N3 D3),(.slice A4 N4 D4),(aD i.Form),(.slice A5 N5 D5)].toArray),(.slice A7 N7 D7)] [aO kT3 (.slice A2 N2 D2) i.Args,aO kT3 (.slice A3 N3 D3) i.Dims,aO kT3 (.slice A4 N4 D4) i.Ints,aO kT3 (.slice A5 N5 D5) i.Data,ow (kT23).share 23 (.slice A7 N7 D7) b,gl 0 mG] (fun (h:HH)=>((.tuple [(s3 h),(.bool r.2)].toArray),[aO kT3 (s3 h) r.1,ow (kT23).share 23 (.slice A7 N7 D7) b])):=by
 unfold Zd at l
 refine aQ Tryz.func59 R 58 R R fun C V=>?_
 refine cM _ (tE 6 [4,0,1,2,3,5]) ?_
 refine cL 0 dY ?_
 rintro rfl
 refine cL 1 aA ?_
 rintro rfl
 refine cL 2 aA ?_
 rintro rfl
 refine cL 3 aA ?_
 rintro rfl
 refine cL 4 aA ?_
 rintro rfl
 let W0:=RR kT3 A2 D2 i.Args::RR kT3 A3 D3 i.Dims::RR kT3 A4 D4 i.Ints::RR kT3 A5 D5 i.Data::gl 0 mG::V
 refine aU ?_
 refine eG R fun b8=>?_
 refine aP ?_
 refine qM _ (tE 2 [1,0]) ?_
 let W1:=aJ b8 [(iv i.Op),(sc A2 i.Args D2),(sc A3 i.Dims D3),(sc A4 i.Ints D4),(aD i.Form),(sc A5 i.Data D5)] 54::W0
 refine aU ?_
 obtain ⟨D,a1,l⟩:=bd l
 refine aP ?_
 refine lC 0 AV R (Zv_ok a1) R ?_
 rintro ⟨u,B,q⟩
 refine lO (vp _ R) ?_
 refine bG ?_
 obtain ⟨ap,G,l⟩:=bd l
 obtain ⟨a7,J,l⟩:=bd l
 refine cQ [(1,(sc A7 b D7)),(2,(pt b8 0)),(6,(cU D (u,B,q))),(27,(.bool (((Nat.beq D.t 0)||(!a7))||(decide ((i.Args.length:Int)>6)))))] (OO (kT23).share 23 A7 D7 b::eS D (u,B,q)::W1) ?_ ?_
 rcases bo (Nat.beq D.t 0) with j | j
 refine dC 15 [] bO fun ht L=>?_
 refine dR 0 R (vp _ R) (dR 1 R (vz (.bool (Nat.beq D.t 0)) (mz R)) ?_)
 refine mr 2 [] ?_
 refine dD ?_
 exact qj (tE 2 [1,0])
 rcases bo ((Nat.beq D.t 0)||(!a7)) with Z | Z
 refine dC 15 [] bO fun ht L=>?_
 refine dR 0 R (vp _ R) (dR 1 R (vz (.bool (Nat.beq D.t 0)) (mz R)) ?_)
 refine gO 2 [] ?_
 refine dW 4 R (bY j) (vp _ R) (d1 5 R (rW 1 (bY j) R R (jx (bJ G (cO j))) R ?_))
 rintro _
 refine aC (aG (sL []) (d1 6 R (lM _ (fun w s=>((((((s.d 3 R).d 5 R).d 7 R).d 9 R).dg 11 R).e 7 [4,3,2,1,0,5,6])) ?_)))
 refine bW 5 R (bY j) yO R (Z1v_ok (bJ J (cO j))) R ?_
 rintro _
 refine aC (aG (sL []) ?_)
 refine ua 7 [] ?_
 refine dD ?_
 exact qj (tE 2 [1,0])
 refine dC 15 [] bO fun ht L=>?_
 refine dR 0 R (vp _ R) (dR 1 R (vz (.bool (Nat.beq D.t 0)) (mz R)) ?_)
 refine gO 2 [] ?_
 refine dW 4 R (bY j) (vp _ R) (d1 5 R (rW 1 (bY j) R R (jx (bJ G (cO j))) R ?_))
 rintro _
 refine aC (aG (sL []) (d1 6 R (lM _ (fun w s=>((((((s.d 3 R).d 5 R).d 7 R).d 9 R).dg 11 R).e 7 [4,3,2,1,0,5,6])) ?_)))
 refine bW 5 R (bY j) yO R (Z1v_ok (bJ J (cO j))) R ?_
 rintro _
 refine aC (aG (sL []) ?_)
 refine ua 7 [] ?_
 refine dD ?_
 exact qj (tE 2 [1,0])
 rintro σ1
 refine bR ?_
 split at l
 refine cP ?_
 cases l
 exact jC (none,0,0) (fun w s=>((s.nilr kT3).e 9 [0,1]))
 refine b' ?_
 refine bK (K:=kT23) (xs:=([]:List (List Int))) (vs:=[]) 0 R R ji eZ kj R R R R R R ?_ R (fun ag ai=>?_)
 exact fun I h s=>(l3).list [] I h s
 refine bG ?_
 refine bB (A:=((List (List Int)))×(HH)) (fun a=>Zd_J1 i D a.1=some r) (fun a=>[(2,(pt b8 0)),(6,(cU D (u,B,q))),(7,(s3 a.2))]) (fun a=>eS D (u,B,q)::ow (kT23).share 23 (s3 a.2) a.1::OO (kT23).share 23 A7 D7 b::W1) ?_ ?_
 refine cP ?_
 obtain ⟨e1,ah,a4⟩:=bd l
 refine bC (A:=HH×HH) ah (fun s a=>[(1,(sc A7 b D7)),(2,(pt b8 0)),(6,(cU D (u,B,q))),(7,(s3 a.1)),(30,(s3 a.2)),(31,(il i.Args)),(32,(iv s.2))]) (fun s a=>OO (kT23).share 23 A7 D7 b::eS D (u,B,q)::ow (kT23).share 23 (s3 a.1) s.1::aO kT3 (s3 a.2) i.Args::W1) ((ag,([]:List (List Int)).length,ai),(A2,i.Args.length,D2)) (aS R) (fun w s=>(((s.wk 0 R).d 4 R).e 4 [2,3,1,0])) ?_
 rintro ⟨g,m⟩ ⟨⟨M,aj,U⟩,⟨av,al,O⟩⟩ σ1 am l a9
 dsimp only [Zd_L1] at l
 refine bI 2 dY (fun (L:aj=g.length)=>?_)
 subst L
 refine bI 3 aA (fun (L:al=i.Args.length)=>?_)
 subst L
 refine bS ?_
 split at l
 refine bS ?_
 obtain ⟨a0,l⟩:=gd l
 refine aE (bD 3 aA (show 0<i.Args.length by have:=a0; omega) (fun T o42 ha=>?_))
 subst ha
 refine dH ?_
 refine cQ [(1,(sc A7 b D7)),(2,(pt b8 0)),(6,(cU D (u,B,q))),(7,(sc M g U)),(9,(iv (ix i.Args m))),(30,(sc (ad T o42) i.Args O)),(31,(il i.Args)),(32,(iv m)),(43,(.bool ((decide ((ix i.Args m)<0))||(decide ((ix i.Args m)≥(b.length:Int))))))] (OO (kT23).share 23 A7 D7 b::eS D (u,B,q)::OO (kT23).share 23 M U g::RR kT3 (ad T o42) O i.Args::W1) ?_ ?_
 refine bG ?_
 rcases bo (decide ((ix i.Args m)<0)) with aa | aa
 refine bS ?_
 exact qj tI
 refine bS ?_
 exact qj tI
 rintro σ1
 refine bR ?_
 split at l
 refine iu ?_
 cases l
 obtain rfl:=a9 _ R
 have l:=a4
 refine aP ?_
 cases l
 exact jC (none,0,0) (fun w s=>((s.nilr kT3).e 11 [0,1]))
 refine aP ?_
 obtain ⟨E,l⟩:=gd l
 obtain ⟨a5,l⟩:=gd l
 refine bG ?_
 refine bD 0 dY (show 0<b.length by have:=E; omega) (fun aw o47 ha=>?_)
 subst ha
 refine bR ?_
 refine rO (K:=(kT23).share) (fo:=0) 0 (ix i.Args m) R R cH dT23.own (fun _ _=>R) R R E.1 E.2 ?_
 rintro ⟨a3,Y⟩
 refine lM _ (fun w s=>(s.d 0 R)) ?_
 refine bK (K:=(kT23).share) (xs:=([(ix b (ix i.Args m))]:List (List Int))) (vs:=[(sc a3 (ix b (ix i.Args m)) Y)]) 1 R R ji eZ kj R R R R R R ?_ R (fun ar an=>?_)
 exact fun I h s=>(qK).list [((sc a3 (ix b (ix i.Args m)) Y),(ix b (ix i.Args m)))] I h s
 refine lM _ (tE 6 [4,0,1,2,3,5]) ?_
 refine eF (K:=(kT23).share) 5864062014805 R R ji eZ qQ (Zr.zk (Zr.share zT23) kj) R R R R R R dO a5 (fun a6 a8=>(lN (OO (kT23).share 23 a6 a8 (g++([(ix b (ix i.Args m))]:List (List Int)))::_::_::_::_::W1) ?_))
 refine cV ?_
 cases l
 exact qA ((a6,(g++([(ix b (ix i.Args m))]:List (List Int))).length,a8),((ad T o42),i.Args.length,O)) (tE 5 [2,3,0,4])
 refine aP ?_
 cases l
 obtain rfl:=a9 _ R
 have l:=a4
 refine aU ?_
 exact qI (g,(M,g.length,U)) l (tE 4 [1,2,0])
 rintro ⟨F,⟨ao,ac,au⟩⟩ σ1 l
 dsimp only [Zd_J1] at l
 refine bI 1 dY (fun (L:ac=F.length)=>?_)
 subst L
 refine bR ?_
 obtain ⟨ae,a2,l⟩:=bd l
 refine aE (lO (vp _ R) ?_)
 refine aU ?_
 refine iE (fun w s=>s.shs 1 R) (lM _ (fun w s=>(((((((s.d 4 R).d 6 R).d 8 R).d 10 R).d 4 R).dg 13 R).e 9 [7,5,4,3,2,1,0,6,8])) ?_)
 refine rW 7 R R R (l4 a2) R ?_
 rintro ⟨ab,aq,ak⟩
 refine aL 0 aA ?_
 rintro rfl
 refine dH ?_
 cases l
 exact jC (ab,ae.1.length,ak) (tE 10 [0,3])
theorem Zi_ok  {g1:Graph}{mG:Int}{r:(List (List Int))×Bool}(b:Zi g1=some r) :
 FnOk Tryz.prog 36 [(.agg [(.slice A2 N2 D2),(.slice A3 N3 D3)].toArray)] [aO dL (.slice A2 N2 D2) g1.Nodes,aO kT3 (.slice A3 N3 D3) g1.Outs,gl 0 mG] (fun (h:HH)=>((.tuple [(s3 h),(.bool r.2)].toArray),[ow (kT23).share 23 (s3 h) r.1])):=by
 unfold Zi at b
 refine aQ Tryz.func36 R 60 R R fun C V=>?_
 refine cL 0 aA ?_
 rintro rfl
 refine cL 1 aA ?_
 rintro rfl
 let W0:=RR dL A2 D2 g1.Nodes::RR kT3 A3 D3 g1.Outs::gl 0 mG::V
 refine cN W0 ?_
 refine aU ?_
 refine eG R fun G=>?_
 refine aP ?_
 let D:=aJ G [(sc A2 g1.Nodes D2),(sc A3 g1.Outs D3)] 30::W0
 refine qN D ?_
 refine aP ?_
 refine cQ [(1,(pt G 0)),(20,(.bool ((decide ((g1.Nodes.length:Int)>200))||(decide ((g1.Outs.length:Int)>40)))))] (D) ?_ ?_
 refine bS ?_
 rcases bo (decide ((g1.Nodes.length:Int)>200)) with al | al
 refine bS ?_
 exact qj tI
 refine bS ?_
 exact qj tI
 rintro σ1
 refine bR ?_
 split at b
 refine cP ?_
 cases b
 exact jC (none,0,0) (fun w s=>((s.nilo (kT23).share 23).e 5 [0]))
 refine b' ?_
 refine bK (K:=kT23) (xs:=([]:List (List Int))) (vs:=[]) 0 R R ji eZ kj R R R R R R ?_ R (fun A7 D7=>?_)
 exact fun I h s=>(l3).list [] I h s
 refine bG ?_
 refine bB (A:=((List (List Int)))×(HH)) (fun a=>Zi_J1 g1 a.1=some r) (fun a=>[(1,(pt G 0)),(4,(s3 a.2))]) (fun a=>ow (kT23).share 23 (s3 a.2) a.1::D) ?_ ?_
 refine cP ?_
 obtain ⟨e1,ag,U⟩:=bd b
 refine bC (A:=HH) ag (fun s a=>[(1,(pt G 0)),(4,(s3 a)),(23,(sc A2 g1.Nodes D2)),(24,(il g1.Nodes)),(25,(iv s.2))]) (fun s a=>ow (kT23).share 23 (s3 a) s.1::D) (A7,([]:List (List Int)).length,D7) (aS R) (fun w s=>(s.wk 0 R)) ?_
 rintro ⟨u,g⟩ ⟨aj,am,ac⟩ σ1 an b a8
 dsimp only [Zi_L1] at b
 refine bI 0 dY (fun (hn:am=u.length)=>?_)
 subst hn
 refine bS ?_
 split at b
 refine bS ?_
 obtain ⟨q,b⟩:=gd b
 refine aE (bD 2 aA (show 0<g1.Nodes.length by have:=q; omega) (fun au o30 ha=>?_))
 subst ha
 refine bR ?_
 refine gN (K:=dL) 2 g dT54.dec R q.1 q.2 ?_
 rintro ⟨-,⟨J,a0⟩,⟨a9,a4⟩,⟨a5,ab⟩,-,⟨O,a7⟩⟩
 refine lO (vz (.agg [(iv (ix g1.Nodes g).Op),(sc J ((ix g1.Nodes g).Args) a0),(sc a9 ((ix g1.Nodes g).Dims) a4),(sc a5 ((ix g1.Nodes g).Ints) ab),(aD (ix g1.Nodes g).Form),(sc O ((ix g1.Nodes g).Data) a7)].toArray) (eI (fo:=0) 0 si mT R R R R)) (bE R R se (fun ai=>(aK 0 R R mT R R R R R R (lN (aJ ai [(iv (ix g1.Nodes g).Op),(sc J ((ix g1.Nodes g).Args) a0),(sc a9 ((ix g1.Nodes g).Dims) a4),(sc a5 ((ix g1.Nodes g).Ints) ab),(aD (ix g1.Nodes g).Form),(sc O ((ix g1.Nodes g).Data) a7)] 54::_::_::_::_::_::_::D) ?_))))
 refine aP ?_
 obtain ⟨m,a6,b⟩:=bd b
 refine aP ?_
 refine lM _ (fun w s=>((((((s.d 2 R).d 4 R).d 6 R).d 8 R).dg 14 R).e 12 [4,3,2,1,11,0,5,6,7,8,9,10])) ?_
 refine lC 6 AX R (Zd_ok a6) R ?_
 rintro ⟨a1,ar,T⟩
 refine aL 0 aA ?_
 rintro rfl
 refine lO (vT R) ?_
 refine mq ?_
 split at b
 refine iu ?_
 cases b
 obtain rfl:=a8 _ R
 have b:=U
 refine aP ?_
 cases b
 exact jC (none,0,0) (fun w s=>((s.nilo (kT23).share 23).e 13 [0]))
 refine aP ?_
 obtain ⟨Y,b⟩:=gd b
 refine aP ?_
 refine lM _ (fun w s=>(s.d 0 R)) ?_
 refine bK (K:=(kT23).share) (xs:=([m.1]:List (List Int))) (vs:=[(sc a1 m.1 T)]) 1 R R ji eZ kj R R R R R R ?_ R (fun aq ap=>?_)
 exact fun I h s=>(qK).list [((sc a1 m.1 T),m.1)] I h s
 refine lM _ (fun w s=>(s.f 9 [2,1,0,2,3,6])) ?_
 refine eF (K:=(kT23).share) 5864062014805 R R ji eZ qQ (Zr.zk (Zr.share zT23) kj) R R R R R R dO Y (fun M Z=>(lN (OO (kT23).share 23 M Z (u++([m.1]:List (List Int)))::_::_::_::_::_::_::_::D) ?_))
 refine cV ?_
 cases b
 exact qA (M,(u++([m.1]:List (List Int))).length,Z) (tE 8 [0])
 refine aP ?_
 cases b
 obtain rfl:=a8 _ R
 have b:=U
 refine aU ?_
 exact qI (u,(aj,u.length,ac)) b tI
 rintro ⟨i,⟨j,ah,l⟩⟩ σ1 b
 dsimp only [Zi_J1] at b
 refine bI 0 dY (fun (hn:ah=i.length)=>?_)
 subst hn
 refine aN (bB (A:=(Unit)×(Unit)) (fun a=>Zi_J2 i=some r) (fun a=>[(4,(sc j i l))]) (fun a=>OO (kT23).share 23 j l i::D) ?_ ?_)
 refine cP ?_
 obtain ⟨e2,ak,a3⟩:=bd b
 refine bC (A:=HH) ak (fun s a=>[(1,(pt G 0)),(4,(sc j i l)),(43,(s3 a)),(44,(il g1.Outs)),(45,(iv s))]) (fun s a=>OO (kT23).share 23 j l i::aO kT3 (s3 a) g1.Outs::D) (A3,g1.Outs.length,D3) (aS R) (fun w s=>((s.d 3 R).e 2 [1,0])) ?_
 rintro B ⟨av,ae,F⟩ σ1 ao b a2
 dsimp only [Zi_L2] at b
 refine bI 1 aA (fun (hn:ae=g1.Outs.length)=>?_)
 subst hn
 refine bS ?_
 split at b
 refine bS ?_
 obtain ⟨aa,b⟩:=gd b
 refine aE (bD 1 aA (show 0<g1.Outs.length by have:=aa; omega) (fun E o59 ha=>?_))
 subst ha
 refine bS ?_
 refine cQ [(1,(pt G 0)),(4,(sc j i l)),(43,(sc (ad E o59) g1.Outs F)),(44,(il g1.Outs)),(45,(iv B)),(57,(.bool ((decide ((ix g1.Outs B)<0))||(decide ((ix g1.Outs B)≥(g1.Nodes.length:Int))))))] (OO (kT23).share 23 j l i::RR kT3 (ad E o59) F g1.Outs::D) ?_ ?_
 refine bG ?_
 rcases bo (decide ((ix g1.Outs B)<0)) with L | L
 refine dH ?_
 exact qj tI
 refine dH ?_
 exact qj tI
 rintro σ1
 refine bR ?_
 split at b
 refine cT ?_
 cases b
 obtain rfl:=a2 _ R
 have b:=a3
 refine aP ?_
 cases b
 exact jC (none,0,0) (fun w s=>((s.nilo (kT23).share 23).e 7 [0]))
 refine cV ?_
 cases b
 exact qA ((ad E o59),g1.Outs.length,F) tI
 refine aP ?_
 cases b
 obtain rfl:=a2 _ R
 have b:=a3
 refine aU ?_
 exact qI ((),()) b (tE 2 [0])
 rintro ⟨_,_⟩ σ1 b
 dsimp only [Zi_J2] at b
 refine cV ?_
 cases b
 exact jC (j,i.length,l) (tE 5 [0])
theorem Z31_ok  {a:(List Int)}{r:(List Int)}(b:Z31 a=some r) :
 FnOk Tryz.prog 63 [(.slice A2 N2 D2)] [aO kT3 (.slice A2 N2 D2) a] (fun (h:HH)=>((.slice h.1 h.2.1 h.2.2),[ow kT3 3 (.slice h.1 h.2.1 h.2.2) r])):=by
 unfold Z31 at b
 refine aQ Tryz.func63 R 5 R R fun C V=>?_
 refine cN (_::V) ?_
 refine cL 0 aA ?_
 rintro rfl
 let g:List HP:=RR kT3 A2 D2 a::V
 refine cN g ?_
 refine aN (aE (lS R (aC (aI (aN ?_)))))
 obtain ⟨j,i,b⟩:=bd b
 refine aE (lS R (lM (RR kT3 A2 D2 a::g) (fun w s=>(s.d 0 R)) ?_))
 refine lC 1 j3 R (Zg_ok i) R ?_
 rintro ⟨A5,N5,D5⟩
 refine lN (ow kT3 3 (.slice A5 N5 D5) j::g) ?_
 refine aL 0 aB ?_
 rintro rfl
 refine lS R (aC (aI (bV ?_)))
 obtain rfl:=so b
 exact qF (A5,j.length,D5) (fun w s=>(s.e 2 [0]))
theorem Z0z_ok  {b:(List (List Int))}{r:(List (List Int))}(e:Z0z b=some r) :
 FnOk Tryz.prog 62 [(.slice A2 N2 D2),(.func (.func 63) [].toArray [].toArray)] [aO kT23 (.slice A2 N2 D2) b] (fun (h:HH)=>((s3 h),[ow kT23 23 (s3 h) r])):=by
 unfold Z0z at e
 refine aQ Tryz.func62 R 26 R R fun C V=>?_
 refine cL 0 aA ?_
 rintro rfl
 let J:=RR kT23 A2 D2 b::V
 refine cN J ?_
 refine bS ?_
 obtain ⟨j,e⟩:=gd e
 refine aP ?_
 refine fI (K:=kT23) (m:=(b.length:Int)) (z:=([]:(List Int))) R R ji eZ qQ (Zr.zk zT23 kj) (by decide) R R j.1 j.2.1 j.2.2 (fun A5 D5=>(lS R (aC (aI (aN (bB (A:=((List (List Int)))×(Unit)) (fun a=>Z0z_J1 a.1=some r) (fun a=>[(5,(sc A5 (List.replicate (b.length:Int).toNat ([]:(List Int))) D5))]) (fun a=>ow kT23 23 (.slice A5 (List.replicate (b.length:Int).toNat ([]:(List Int))).length D5) a.1::J) ?_ ?_))))))
 refine cV ?_
 obtain ⟨e1,F,D⟩:=bd e
 refine bC (A:=Unit) F (fun s a=>[(1,(.func (.func 63) [].toArray [].toArray)),(5,(sc A5 (List.replicate (b.length:Int).toNat ([]:(List Int))) D5)),(11,(sc A2 b D2)),(12,(il b)),(13,(iv s.2))]) (fun s a=>ow kT23 23 (.slice A5 (List.replicate (b.length:Int).toNat ([]:(List Int))).length D5) s.1::J) () (aS R) tI ?_
 rintro ⟨M,u⟩ _ σ1 O e L
 dsimp only [Z0z_L1] at e
 refine bS ?_
 split at e
 refine bS ?_
 obtain ⟨i,e⟩:=gd e
 refine aU ?_
 refine bD 1 aA (show 0<b.length by have:=i; omega) (fun a1 o24 G=>?_)
 subst G
 refine bR ?_
 refine gN (K:=kT23) 1 u dT23.dec R i.1 i.2 ?_
 rintro ⟨a0,U⟩
 refine lO (eA (fo:=0) 0 cH R R R) ?_
 refine bG ?_
 obtain ⟨l,q,e⟩:=bd e
 obtain ⟨g,e⟩:=gd e
 refine aP ?_
 refine lO (vp _ R) (lS R (lM _ (fun w s=>(s.d 1 R)) ?_))
 refine cB (fs:=[]) (cs:=[]) 1 R R B7 R R (Z31_ok q) R ?_
 rintro ⟨E,Y,B⟩
 refine aL 0 aB ?_
 rintro rfl
 refine bD 3 aB (show 0<(List.replicate (b.length:Int).toNat ([]:(List Int))).length by have:=g; omega) (fun T o31 G=>?_)
 subst G
 refine bR ?_
 refine lM _ (tE 4 [3,0,1,2]) ?_
 refine dX (K:=kT23) (x':=l) 1 u R R eZ R R g.1 g.2 ?_ ?_
 exact fun I h s=>(l3).put I h (sc E l B) l s
 refine dH ?_
 cases e
 exact qA () (tE 3 [0])
 refine aP ?_
 cases e
 obtain rfl:=L _ R
 have e:=D
 refine aU ?_
 exact qI (M,()) e tI
 rintro ⟨Z,_⟩ σ1 e
 dsimp only [Z0z_J1] at e
 refine dH ?_
 cases e
 exact qF (A5,(List.replicate (b.length:Int).toNat ([]:(List Int))).length,D5) (tE 2 [0])
theorem Z2g_ok  {a:(List (List Int))}{r:(List (List Int))}(b:Z2g a=some r) :
 FnOk Tryz.prog 40 [(.slice A2 N2 D2)] [aO kT23 (.slice A2 N2 D2) a] (fun (h:HH)=>((.slice h.1 h.2.1 h.2.2),[ow kT23 23 (.slice h.1 h.2.1 h.2.2) r])):=by
 unfold Z2g at b
 refine aQ Tryz.func40 R 5 R R fun C V=>?_
 refine cN (_::V) ?_
 refine cL 0 aA ?_
 rintro rfl
 let g:List HP:=RR kT23 A2 D2 a::V
 refine cN g ?_
 refine aN (aE (lS R (aC (aI (aN ?_)))))
 obtain ⟨j,i,b⟩:=bd b
 refine aE (lS R (lM (RR kT23 A2 D2 a::g) (fun w s=>(s.d 0 R)) ?_))
 refine lC 1 B8 R (Z0z_ok i) R ?_
 rintro ⟨A5,N5,D5⟩
 refine lN (ow kT23 23 (.slice A5 N5 D5) j::g) ?_
 refine aL 0 aB ?_
 rintro rfl
 refine lS R (aC (aI (bV ?_)))
 obtain rfl:=so b
 exact qF (A5,j.length,D5) (fun w s=>(s.e 2 [0]))
theorem Z1x_ok  {g1:Graph}{mG:Int}{r:(List (List Int))}(a:Z1x g1=some r) :
 FnOk Tryz.prog 21 [(.agg [(.slice A2 N2 D2),(.slice A3 N3 D3)].toArray)] [aO dL (.slice A2 N2 D2) g1.Nodes,aO kT3 (.slice A3 N3 D3) g1.Outs,gl 0 mG] (fun (h:HH)=>((.slice h.1 h.2.1 h.2.2),[ow kT23 23 (.slice h.1 h.2.1 h.2.2) r])):=by
 unfold Z1x at a
 refine aQ Tryz.func21 R 14 R R fun C V=>?_
 refine cN (_::_::_::V) ?_
 refine cL 0 aA ?_
 rintro rfl
 refine cL 1 aA ?_
 rintro rfl
 let q:List HP:=RR dL A2 D2 g1.Nodes::RR kT3 A3 D3 g1.Outs::gl 0 mG::V
 refine cN q ?_
 refine aN (aE (eG R (fun u=>(lS R (aC ?_)))))
 let i:List HP:=aJ u [(sc A2 g1.Nodes D2),(sc A3 g1.Outs D3)] 30::q
 refine qN i ?_
 refine aI (aN ?_)
 obtain ⟨j,l,a⟩:=bd a
 refine aE (lO (vz (.agg [(sc A2 g1.Nodes D2),(sc A3 g1.Outs D3)].toArray) (dT 0 wH sj R R R R)) (lM (RR dL A2 D2 g1.Nodes::RR kT3 A3 D3 g1.Outs::gl 0 mG::i) (fun w s=>((((s.d 1 R).d 3 R).dg 5 R).e 3 [2,1,0])) ?_))
 refine lC 3 AY R (Zi_ok l) R ?_
 rintro ⟨A7,N7,D7⟩
 refine lN (ow (kT23).share 23 (.slice A7 N7 D7) j.1::i) ?_
 refine aL 0 dY ?_
 rintro rfl
 refine lO (vT R) (lS R (lB R (lS R (lB R (aC (aI (aN (aN (aE (lB R (lO (rt R) (aC (aI ?_)))))))))))))
 rcases cK a with ⟨b,a⟩|⟨b,a⟩
 refine cC R b (aN (aE (lS R (aC (aI (bV (cD ?_)))))))
 obtain rfl:=so a
 exact qF (none,0,0) (fun w s=>((s.nilo kT23 23).e 6 [0]))
 refine bM R b (dI (aI (aN ?_)))
 obtain ⟨m,g,a⟩:=bd a
 refine aE (lS R (lC 1 B9 R (FnOk.lends (A':=[OO (kT23).share 23 A7 D7 j.1]) (A:=[RR kT23 A7 D7 j.1]) (B:=[]) (Z2g_ok g) ⟨jU,trivial⟩ (fun _=>⟨(bH wt),trivial⟩)) R ?_))
 rintro ⟨A11,N11,D11⟩
 refine lN (_::ow kT23 23 (.slice A11 N11 D11) m::i) ?_
 refine aL 1 aB ?_
 rintro rfl
 refine lS R (aC (aI (bV ?_)))
 obtain rfl:=so a
 exact qF (A11,m.length,D11) (fun w s=>(s.e 6 [1]))
end Go.Proofs.YtmpnollfdpdipaaGreat
