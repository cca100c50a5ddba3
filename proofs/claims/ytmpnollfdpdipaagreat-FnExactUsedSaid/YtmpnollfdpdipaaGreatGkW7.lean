import Derived.Test.YtmpnollfdpdipaaGreatGkF
import Derived.Test.YtmpnollfdpdipaaGreatGkW5
import Derived.Test.YtmpnollfdpdipaaGreatGkW6
set_option linter.unusedVariables false
set_option maxRecDepth 20000
namespace Go.Proofs.YtmpnollfdpdipaaGreat
open Go Go.Pg
variable {A2 A3 A4 A5 A7 A9 A10 A11 A12 A14:Option Addr}{D2 D3 D4 D5 D7 D9 D10 D11 D12 D14 N2 N3 N4 N5 N7 N9 N10 N11 N12 N14:Nat}
theorem Z1o_ok  {k1:shiftKind}{G:Int}{E:Int}{b:Node}{a:(List (List Int))}{m:Nat}{q:Nat}{j:Nat}{r:(List Int)×Bool}(i:Z1o k1 G E b a=some r) :
 FnOk Tryz.prog 220 [(.agg [(aD k1.use),(.func (.func 149) [].toArray [(pt m 0),(pt q 0),(pt j 0)].toArray)].toArray),(.agg [(iv b.Op),(.slice A9 N9 D9),(.slice A10 N10 D10),(.slice A11 N11 D11),(aD b.Form),(.slice A12 N12 D12)].toArray),(.slice A14 N14 D14)] [aJ m [(iv G)] 3,aJ q [(iv E)] 3,aJ j [(.func (.func 127) [].toArray [].toArray)] 150,aO kT3 (.slice A9 N9 D9) b.Args,aO kT3 (.slice A10 N10 D10) b.Dims,aO kT3 (.slice A11 N11 D11) b.Ints,aO kT3 (.slice A12 N12 D12) b.Data,aO bL (.slice A14 N14 D14) a] (fun (h:HH)=>((.tuple [(s3 h),(.bool r.2)].toArray),[ow kT3 3 (s3 h) r.1,aJ m [(iv G)] 3,aJ q [(iv E)] 3,aJ j [(.func (.func 127) [].toArray [].toArray)] 150])):=by
 unfold Z1o at i
 refine aQ Tryz.func220 R 27 R R fun C V=>?_
 refine cL 3 aA ?_
 rintro rfl
 refine cL 4 aA ?_
 rintro rfl
 refine cL 5 aA ?_
 rintro rfl
 refine cL 6 aA ?_
 rintro rfl
 refine cL 7 aA ?_
 rintro rfl
 let L:=RR kT3 A9 D9 b.Args::RR kT3 A10 D10 b.Dims::RR kT3 A11 D11 b.Ints::RR kT3 A12 D12 b.Data::RR bL A14 D14 a::V
 refine aV ?_
 refine eB R fun B=>?_
 refine eB R fun D=>?_
 refine aP ?_
 refine qM _ (fun w s=>(s.f 5 [2,3,0,2])) ?_
 let W1:=aJ D [(iv b.Op),(sc A9 b.Args D9),(sc A10 b.Dims D10),(sc A11 b.Ints D11),(aD b.Form),(sc A12 b.Data D12)] 54::aJ B [(aD k1.use),(.func (.func 149) [].toArray [(pt m 0),(pt q 0),(pt j 0)].toArray)] 145::L
 refine cX ?_
 split at i
 refine cX ?_
 cases i
 exact jO (none,0,0) (fun w s=>((s.nilo kT3 3).f 11 [0,4]))
 refine bG ?_
 obtain ⟨g,i⟩:=gd i
 obtain ⟨u,l,i⟩:=bd i
 refine aZ 9 aA (show 0<a.length by have:=g; omega) (fun M o20 J=>?_)
 subst J
 refine dL (K:=bL) 9 (0:Int) dT23.dec R g.1 g.2 ?_
 rintro ⟨U,T⟩
 refine dG 14 [] bP fun ht hn=>?_
 refine kr 0 [] ?_
 refine dR 5 R (eH (fo:=0) 0 cO R R R) (d1 6 R (lM _ (fun w s=>((((((s.d 7 R).d 9 R).d 11 R).d 13 R).d 5 R).e 10 [4,3,2,1,0,7,8,9,5,6])) ?_))
 refine cF (fs:=[]) (cs:=[(pt m 0),(pt q 0),(pt j 0)]) 8 R R qu R R (Z2n_ok l) R ?_
 rintro ⟨⟨F,Z,I⟩,⟨Y,O,a0⟩⟩
 refine aL 0 aB ?_
 rintro rfl
 refine aL 1 aB ?_
 rintro rfl
 refine aC (aG (fun w s=>(s.f 7 [5,2,2,3])) (dR 7 R (vT R) (hS:=(fun w s=>(s.f 7 [5,2,2,3]))) (dR 8 R (vS R) (hS:=(fun w s=>(s.f 7 [5,2,2,3]))) (dR 9 R (vS R) (hS:=(fun w s=>(s.f 7 [5,2,2,3]))) (dR 10 R (vB R) (hS:=(fun w s=>(s.f 7 [5,2,2,3]))) (dR 11 R (vS R) (hS:=(fun w s=>(s.f 7 [5,2,2,3]))) (dR 12 R (vS R) (hS:=(fun w s=>(s.f 7 [5,2,2,3]))) (dR 13 R (vB R) (hS:=(fun w s=>(s.f 7 [5,2,2,3]))) (dD ?_)))))))))
 refine cU ?_
 cases i
 exact jO (F,u.1.length,I) (tE 14 [0,2,3,4])
theorem Z0f_ok  {g:(List Int)}{l:Int}{b:(List Int)}{r:(List Int)×(List pair)×Bool}(m:Z0f g l b=some r) :
 FnOk Tryz.prog 130 [(.slice A2 N2 D2),(iv l),(.slice A5 N5 D5)] [aO kT3 (.slice A2 N2 D2) g,aO kT3 (.slice A5 N5 D5) b] (fun (h:HH×HH)=>((.tuple [(s3 h.1),(s3 h.2),(.bool r.2.2)].toArray),[ow kT3 3 (s3 h.1) r.1,ow kT161 161 (s3 h.2) r.2.1])):=by
 unfold Z0f at m
 refine aQ Tryz.func130 R 67 R R fun C V=>?_
 refine cL 0 aA ?_
 rintro rfl
 refine cL 1 aA ?_
 rintro rfl
 let U:=RR kT3 A2 D2 g::RR kT3 A5 D5 b::V
 refine cN U ?_
 refine cX ?_
 obtain ⟨r6,ah,m⟩:=bd m
 refine cQ [(0,(sc A2 g D2)),(1,(iv l)),(2,(sc A5 b D5)),(26,(.bool (((!r6)||((b.length:Int)==0))||(decide ((b.length:Int)>4096)))))] (U) ?_ ?_
 refine aP ?_
 refine lM _ (fun w s=>(s.d 0 R)) ?_
 refine lC 1 gQ R (Zk_ok ah) R ?_
 rintro _
 refine lN U ?_
 refine aV ?_
 rcases bo (!r6) with ag | ag
 refine cU ?_
 exact qj tI
 refine cA ?_
 rcases bo ((!r6)||((b.length:Int)==0)) with aj | aj
 refine cA ?_
 exact qj tI
 refine cA ?_
 exact qj tI
 rintro σ1
 refine bT ?_
 split at m
 refine cU ?_
 cases m
 exact iu ((none,0,0),(none,0,0)) (fun w s=>(((s.nilo kT3 3).nilo kT161 161).e 4 [1,0]))
 refine cA ?_
 refine bM (K:=kT161) (xs:=([]:List pair)) (vs:=[]) 0 R R fB fC eN R R R R R R ?_ R (fun A11 D11=>?_)
 exact fun I h s=>(j7).list [] I h s
 refine bG ?_
 refine bB (A:=((List pair))×(HH×HH)) (fun a=>Z0f_J1 g l b a.1=some r) (fun a=>[(0,(sc A2 g D2)),(1,(iv l)),(2,(s3 a.2.1)),(9,(s3 a.2.2))]) (fun a=>aO kT3 (s3 a.2.1) b::ow kT161 161 (s3 a.2.2) a.1::U) ?_ ?_
 refine cZ ?_
 obtain ⟨e1,ab,a2⟩:=bd m
 refine bD (A:=HH×HH) ab (fun s a=>[(0,(sc A2 g D2)),(1,(iv l)),(2,(s3 a.1)),(9,(s3 a.2)),(28,(s3 a.1)),(29,(il b)),(30,(iv s.2))]) (fun s a=>aO kT3 (s3 a.1) b::ow kT161 161 (s3 a.2) s.1::U) ((A5,b.length,D5),(A11,([]:List pair).length,D11)) (aS R) (fun w s=>(s.d 2 R)) ?_
 rintro ⟨i,j⟩ ⟨⟨aa,al,D⟩,⟨G,a9,L⟩⟩ σ1 an m a3
 dsimp only [Z0f_L1] at m
 refine bH 0 aA (fun (O:al=b.length)=>?_)
 subst O
 refine bH 1 aB (fun (O:a9=i.length)=>?_)
 subst O
 refine bV ?_
 split at m
 refine bV ?_
 obtain ⟨a4,m⟩:=gd m
 refine aV ?_
 refine bC 0 aA (show 0<b.length by have:=a4; omega) (fun F o31 ha=>?_)
 subst ha
 refine cZ ?_
 obtain ⟨E,m⟩:=gd m
 refine cQ [(0,(sc A2 g D2)),(1,(iv l)),(2,(sc (ad F o31) b D)),(9,(sc G i L)),(10,(iv j)),(11,(iv (ix b j))),(28,(sc (ad F o31) b D)),(29,(il b)),(30,(iv j)),(44,(.bool ((decide ((ix b j)<0))||(decide ((ix b j)≥(ix g l))))))] (RR kT3 (ad F o31) D b::OO kT161 161 G L i::U) ?_ ?_
 refine bG ?_
 rcases bo (decide ((ix b j)<0)) with u | u
 refine cZ ?_
 exact qj tI
 refine aP ?_
 refine bC 2 aA (show 0<g.length by have:=(E u); omega) (fun ar o34 ha=>?_)
 subst ha
 refine lW (b' u) (eI bK cC R R (E u)) (lW (b' u) (gP 2 fP aA R (E u)) ?_)
 refine aP ?_
 exact qj tI
 rintro σ1
 refine bT ?_
 split at m
 refine iK ?_
 cases m
 obtain rfl:=a3 _ R
 have m:=a2
 refine aP ?_
 cases m
 exact iu ((none,0,0),(none,0,0)) (fun w s=>(((s.nilo kT3 3).nilo kT161 161).e 6 [1,0]))
 refine aP ?_
 obtain ⟨a5,m⟩:=gd m
 refine bG ?_
 refine lO (vz (.agg [(iv (ix b j)),(iv j)].toArray) (aW mD eN R R)) (bM (K:=kT161) (xs:=([(⟨(ix b j),j⟩:pair)]:List pair)) (vs:=[(.agg [(iv (ix b j)),(iv j)].toArray)]) 0 R R fB fC eN R R R R R R ?_ R (fun av aq=>?_))
 exact fun I h s=>(j7).list [(((),()),(⟨(ix b j),j⟩:pair))] I h s
 refine lM _ (tE 3 [2,0,1]) ?_
 refine eD (K:=kT161) 8796093022208 R R fB fC lF (Zr.zk zT161 eN) R R R R R R dP a5 (fun a0 a6=>(lN (OO kT161 161 a0 a6 (i++([(⟨(ix b j),j⟩:pair)]:List pair))::_::U) ?_))
 refine cZ ?_
 cases m
 exact qA (((ad F o31),b.length,D),(a0,(i++([(⟨(ix b j),j⟩:pair)]:List pair)).length,a6)) (tE 2 [1,0])
 refine aP ?_
 cases m
 obtain rfl:=a3 _ R
 have m:=a2
 refine aV ?_
 exact qI (i,((aa,b.length,D),(G,i.length,L))) m tI
 rintro ⟨q,⟨⟨ax,am,ao⟩,⟨J,ac,T⟩⟩⟩ σ1 m
 dsimp only [Z0f_J1] at m
 refine bH 0 aA (fun (O:am=b.length)=>?_)
 subst O
 refine bH 1 aB (fun (O:ac=q.length)=>?_)
 subst O
 refine bT ?_
 obtain ⟨Y,a1,m⟩:=bd m
 refine cA ?_
 refine lM _ (fun w s=>(s.d 2 R)) ?_
 refine lC 1 qq R (Z1l_ok a1) R ?_
 rintro ⟨M,aw,Z⟩
 refine aL 0 aB ?_
 rintro rfl
 refine cA ?_
 obtain ⟨ap,a7,m⟩:=bd m
 refine aV ?_
 refine lC 1 j8 R (FnOk.lends (A':=[OO kT3 3 M Z Y]) (A:=[RR kT3 M Z Y]) (B:=[]) (Zb_ok a7) ⟨aU,trivial⟩ (fun _=>trivial)) R ?_
 rintro _
 refine aP ?_
 split at m
 refine cU ?_
 cases m
 exact iu ((none,0,0),(none,0,0)) (fun w s=>(((s.nilo kT3 3).nilo kT161 161).e 7 [1,0]))
 refine bG ?_
 obtain ⟨ai,a8,m⟩:=bd m
 refine dN ?_
 refine lM _ (fun w s=>((s.d 3 R).e 4 [3,0,1,2])) ?_
 refine lC 2 sO R (FnOk.lends (A':=[OO kT161 161 J T q]) (A:=[RR kT161 J T q]) (B:=[RR kT3 A2 D2 g]) (FnOk.perm (Z7_ok a8) (Pre':=[RR kT161 J T q,RR kT3 A2 D2 g]) (fun _ _ _ s=>(s.e 2 [1,0]))) ⟨aU,trivial⟩ (fun _=>⟨(bI sx),trivial⟩)) R ?_
 rintro ⟨ae,au,ak⟩
 refine aL 1 aB ?_
 rintro rfl
 refine bV ?_
 cases m
 exact iu ((M,Y.length,Z),(ae,ai.length,ak)) (tE 6 [2,1])
theorem Z1y_ok  {p1:(List Int)}{a:(List Int)}{r:(List Int)×(List pair)×Bool}(b:Z1y p1 a=some r) :
 FnOk Tryz.prog 129 [(.slice A2 N2 D2),(.slice A4 N4 D4)] [aO kT3 (.slice A2 N2 D2) p1,aO kT3 (.slice A4 N4 D4) a] (fun (h:HH×HH)=>((.tuple [(s3 h.1),(s3 h.2),(.bool r.2.2)].toArray),[ow kT3 3 (s3 h.1) r.1,ow kT161 161 (s3 h.2) r.2.1])):=by
 unfold Z1y at b
 refine aQ Tryz.func129 R 17 R R fun C V=>?_
 refine cL 0 aA ?_
 rintro rfl
 refine cL 1 aA ?_
 rintro rfl
 let D:=RR kT3 A2 D2 p1::RR kT3 A4 D4 a::V
 refine cN D ?_
 refine cZ ?_
 obtain ⟨q,b⟩:=gd b
 obtain ⟨g,b⟩:=gd b
 obtain ⟨j,i,b⟩:=bd b
 refine aZ 0 aA (show 0<p1.length by have:=q; omega) (fun F o7 B=>?_)
 subst B
 refine dG 13 [] bP fun E G=>?_
 refine kr 0 [] ?_
 refine d1 5 R (gA (K:=kT3) (1:Int) (p1.length:Int) 0 R R bK cC R R R R g.1 g.2.1 g.2.2 (fun A9 D9=>(aC (aG (sL [0]) (d1 6 R (lM _ (fun w s=>(((s.d 2 R).d 1 R).e 3 [1,0,2])) ?_))))))
 refine lC 2 zM R (Z0f_ok i) R ?_
 rintro ⟨⟨A12,N12,D12⟩,⟨l,u,m⟩⟩
 refine aL 0 aB ?_
 rintro rfl
 refine aL 1 aB ?_
 rintro rfl
 refine aC (aG (sL [2,1,0]) ?_)
 refine sr 7 [2,1,0] ?_
 refine dD ?_
 refine aV ?_
 cases b
 exact iu ((A12,j.1.length,D12),(l,j.2.1.length,m)) (tE 5 [0,1])
theorem Z2o_ok  {a:Node}{b:(List Int)}{m:Int}{i:Int}{E:Nat}{j:Nat}{g:Nat}{r:(List Int)×(List pair)×Bool}(l:Z2o a b m i=some r) :
 FnOk Tryz.prog 149 [(.agg [(iv a.Op),(.slice A2 N2 D2),(.slice A3 N3 D3),(.slice A4 N4 D4),(aD a.Form),(.slice A5 N5 D5)].toArray),(.slice A7 N7 D7),(pt E 0),(pt j 0),(pt g 0)] [aO kT3 (.slice A2 N2 D2) a.Args,aO kT3 (.slice A3 N3 D3) a.Dims,aO kT3 (.slice A4 N4 D4) a.Ints,aO kT3 (.slice A5 N5 D5) a.Data,aO kT3 (.slice A7 N7 D7) b,aJ E [(iv m)] 3,aJ j [(iv i)] 3,aJ g [(.func (.func 129) [].toArray [].toArray)] 150] (fun (h:HH×HH)=>((.tuple [(s3 h.1),(s3 h.2),(.bool r.2.2)].toArray),[ow kT3 3 (s3 h.1) r.1,ow kT161 161 (s3 h.2) r.2.1,aJ E [(iv m)] 3,aJ j [(iv i)] 3,aJ g [(.func (.func 129) [].toArray [].toArray)] 150])):=by
 unfold Z2o at l
 refine aQ Tryz.func149 R 30 R R fun C V=>?_
 refine cM _ (fun w s=>(s.f 8 [5,3,0,5])) ?_
 refine cL 3 aA ?_
 rintro rfl
 refine cL 4 aA ?_
 rintro rfl
 refine cL 5 aA ?_
 rintro rfl
 refine cL 6 aA ?_
 rintro rfl
 refine cL 7 aA ?_
 rintro rfl
 let O:=RR kT3 A2 D2 a.Args::RR kT3 A3 D3 a.Dims::RR kT3 A4 D4 a.Ints::RR kT3 A5 D5 a.Data::RR kT3 A7 D7 b::V
 refine aV ?_
 refine eB R fun u=>?_
 refine bG ?_
 let L:=aJ u [(iv a.Op),(sc A2 a.Args D2),(sc A3 a.Dims D3),(sc A4 a.Ints D4),(aD a.Form),(sc A5 a.Data D5)] 54::aJ E [(iv m)] 3::aJ j [(iv i)] 3::aJ g [(.func (.func 129) [].toArray [].toArray)] 150::O
 refine qN L ?_
 refine aP ?_
 refine cQ [(1,(sc A7 b D7)),(4,(pt g 0)),(5,(pt u 0)),(21,(.bool ((decide ((a.Ints.length:Int)<m))||(decide ((a.Ints.length:Int)>i)))))] (L) ?_ ?_
 refine dN ?_
 rcases bo (decide ((a.Ints.length:Int)<m)) with D | D
 refine dN ?_
 exact qj tI
 refine dN ?_
 exact qj tI
 rintro σ1
 refine bT ?_
 split at l
 refine cU ?_
 cases l
 exact iu ((none,0,0),(none,0,0)) (fun w s=>(((s.nilo kT3 3).nilo kT161 161).e 11 [1,0,3,4,5]))
 refine bG ?_
 obtain ⟨B,q,l⟩:=bd l
 refine cA ?_
 refine lM _ (fun w s=>(((s.d 6 R).d 9 R).e 2 [1,0])) ?_
 refine cF (fs:=[]) (cs:=[]) 2 R R zN R R (Z1y_ok q) R ?_
 rintro ⟨⟨G,M,F⟩,⟨I,T,J⟩⟩
 refine aL 0 aB ?_
 rintro rfl
 refine aL 1 aB ?_
 rintro rfl
 refine cX ?_
 cases l
 exact iu ((G,B.1.length,F),(I,B.2.1.length,J)) (fun w s=>(s.f 11 [0,2,3,3]))
theorem Z1p_ok  {k1:shiftKind}{G:Int}{E:Int}{b:Node}{a:(List (List Int))}{m:Nat}{q:Nat}{j:Nat}{r:(List Int)×Bool}(i:Z1p k1 G E b a=some r) :
 FnOk Tryz.prog 220 [(.agg [(aD k1.use),(.func (.func 149) [].toArray [(pt m 0),(pt q 0),(pt j 0)].toArray)].toArray),(.agg [(iv b.Op),(.slice A9 N9 D9),(.slice A10 N10 D10),(.slice A11 N11 D11),(aD b.Form),(.slice A12 N12 D12)].toArray),(.slice A14 N14 D14)] [aJ m [(iv G)] 3,aJ q [(iv E)] 3,aJ j [(.func (.func 129) [].toArray [].toArray)] 150,aO kT3 (.slice A9 N9 D9) b.Args,aO kT3 (.slice A10 N10 D10) b.Dims,aO kT3 (.slice A11 N11 D11) b.Ints,aO kT3 (.slice A12 N12 D12) b.Data,aO bL (.slice A14 N14 D14) a] (fun (h:HH)=>((.tuple [(s3 h),(.bool r.2)].toArray),[ow kT3 3 (s3 h) r.1,aJ m [(iv G)] 3,aJ q [(iv E)] 3,aJ j [(.func (.func 129) [].toArray [].toArray)] 150])):=by
 unfold Z1p at i
 refine aQ Tryz.func220 R 27 R R fun C V=>?_
 refine cL 3 aA ?_
 rintro rfl
 refine cL 4 aA ?_
 rintro rfl
 refine cL 5 aA ?_
 rintro rfl
 refine cL 6 aA ?_
 rintro rfl
 refine cL 7 aA ?_
 rintro rfl
 let L:=RR kT3 A9 D9 b.Args::RR kT3 A10 D10 b.Dims::RR kT3 A11 D11 b.Ints::RR kT3 A12 D12 b.Data::RR bL A14 D14 a::V
 refine aV ?_
 refine eB R fun B=>?_
 refine eB R fun D=>?_
 refine aP ?_
 refine qM _ (fun w s=>(s.f 5 [2,3,0,2])) ?_
 let W1:=aJ D [(iv b.Op),(sc A9 b.Args D9),(sc A10 b.Dims D10),(sc A11 b.Ints D11),(aD b.Form),(sc A12 b.Data D12)] 54::aJ B [(aD k1.use),(.func (.func 149) [].toArray [(pt m 0),(pt q 0),(pt j 0)].toArray)] 145::L
 refine cX ?_
 split at i
 refine cX ?_
 cases i
 exact jO (none,0,0) (fun w s=>((s.nilo kT3 3).f 11 [0,4]))
 refine bG ?_
 obtain ⟨g,i⟩:=gd i
 obtain ⟨u,l,i⟩:=bd i
 refine aZ 9 aA (show 0<a.length by have:=g; omega) (fun M o20 J=>?_)
 subst J
 refine dL (K:=bL) 9 (0:Int) dT23.dec R g.1 g.2 ?_
 rintro ⟨U,T⟩
 refine dG 14 [] bP fun ht hn=>?_
 refine kr 0 [] ?_
 refine dR 5 R (eH (fo:=0) 0 cO R R R) (d1 6 R (lM _ (fun w s=>((((((s.d 7 R).d 9 R).d 11 R).d 13 R).d 5 R).e 10 [4,3,2,1,0,7,8,9,5,6])) ?_))
 refine cF (fs:=[]) (cs:=[(pt m 0),(pt q 0),(pt j 0)]) 8 R R qu R R (Z2o_ok l) R ?_
 rintro ⟨⟨F,Z,I⟩,⟨Y,O,a0⟩⟩
 refine aL 0 aB ?_
 rintro rfl
 refine aL 1 aB ?_
 rintro rfl
 refine aC (aG (fun w s=>(s.f 7 [5,2,2,3])) (dR 7 R (vT R) (hS:=(fun w s=>(s.f 7 [5,2,2,3]))) (dR 8 R (vS R) (hS:=(fun w s=>(s.f 7 [5,2,2,3]))) (dR 9 R (vS R) (hS:=(fun w s=>(s.f 7 [5,2,2,3]))) (dR 10 R (vB R) (hS:=(fun w s=>(s.f 7 [5,2,2,3]))) (dR 11 R (vS R) (hS:=(fun w s=>(s.f 7 [5,2,2,3]))) (dR 12 R (vS R) (hS:=(fun w s=>(s.f 7 [5,2,2,3]))) (dR 13 R (vB R) (hS:=(fun w s=>(s.f 7 [5,2,2,3]))) (dD ?_)))))))))
 refine cU ?_
 cases i
 exact jO (F,u.1.length,I) (tE 14 [0,2,3,4])
theorem Z0g_ok  {g:(List Int)}{j:Int}{b:(List Int)}{D:Int}{r:(List Int)×(List pair)×Bool}(m:Z0g g j b D=some r) :
 FnOk Tryz.prog 132 [(.slice A2 N2 D2),(iv j),(.slice A5 N5 D5),(iv D)] [aO kT3 (.slice A2 N2 D2) g,aO kT3 (.slice A5 N5 D5) b] (fun (h:HH×HH)=>((.tuple [(s3 h.1),(s3 h.2),(.bool r.2.2)].toArray),[ow kT3 3 (s3 h.1) r.1,ow kT161 161 (s3 h.2) r.2.1])):=by
 unfold Z0g at m
 refine aQ Tryz.func132 R 67 R R fun C V=>?_
 refine cL 0 aA ?_
 rintro rfl
 refine cL 1 aA ?_
 rintro rfl
 let T:=RR kT3 A2 D2 g::RR kT3 A5 D5 b::V
 refine cN T ?_
 refine cX ?_
 obtain ⟨r7,ai,m⟩:=bd m
 obtain ⟨J,m⟩:=gd m
 refine cQ [(0,(sc A2 g D2)),(1,(iv j)),(2,(sc A5 b D5)),(3,(iv D)),(31,(.bool (((!r7)||((b.length:Int) != (ix g j)))||(decide (D<1)))))] (T) ?_ ?_
 refine aP ?_
 refine lM _ (fun w s=>(s.d 0 R)) ?_
 refine lC 1 gQ R (Zk_ok ai) R ?_
 rintro _
 refine lN T ?_
 refine aV ?_
 rcases bo (!r7) with u | u
 refine lb ?_
 exact qj tI
 refine bG ?_
 refine bC 0 aA (show 0<g.length by have:=(J u); omega) (fun aw o11 ha=>?_)
 subst ha
 refine lW (b' u) (eI bK cC R R (J u)) (lW (b' u) (gP 0 fP aA R (J u)) ?_)
 refine aP ?_
 rcases bo ((!r7)||((b.length:Int) != (ix g j))) with a6 | a6
 refine bG ?_
 exact qj tI
 refine bG ?_
 exact qj tI
 rintro σ1
 refine bT ?_
 split at m
 refine cU ?_
 cases m
 exact iu ((none,0,0),(none,0,0)) (fun w s=>(((s.nilo kT3 3).nilo kT161 161).e 4 [1,0]))
 refine cA ?_
 refine bM (K:=kT161) (xs:=([]:List pair)) (vs:=[]) 0 R R fB fC eN R R R R R R ?_ R (fun aj am=>?_)
 exact fun I h s=>(j7).list [] I h s
 refine bG ?_
 refine bB (A:=((List pair))×(HH)) (fun a=>Z0g_J1 g j D a.1=some r) (fun a=>[(0,(sc A2 g D2)),(1,(iv j)),(3,(iv D)),(11,(s3 a.2))]) (fun a=>ow kT161 161 (s3 a.2) a.1::T) ?_ ?_
 refine cZ ?_
 obtain ⟨e1,ae,a3⟩:=bd m
 refine bD (A:=HH×HH) ae (fun s a=>[(0,(sc A2 g D2)),(1,(iv j)),(3,(iv D)),(11,(s3 a.1)),(33,(s3 a.2)),(34,(il b)),(35,(iv s.2))]) (fun s a=>ow kT161 161 (s3 a.1) s.1::aO kT3 (s3 a.2) b::T) ((aj,([]:List pair).length,am),(A5,b.length,D5)) (aS R) (fun w s=>((s.d 2 R).e 2 [1,0])) ?_
 rintro ⟨i,l⟩ ⟨⟨F,ab,L⟩,⟨aq,ac,Z⟩⟩ σ1 an m a9
 dsimp only [Z0g_L1] at m
 refine bH 0 aB (fun (hn:ab=i.length)=>?_)
 subst hn
 refine bH 1 aA (fun (hn:ac=b.length)=>?_)
 subst hn
 refine bV ?_
 split at m
 refine bV ?_
 obtain ⟨a0,m⟩:=gd m
 refine aV ?_
 refine bC 1 aA (show 0<b.length by have:=a0; omega) (fun M o32 ha=>?_)
 subst ha
 refine cZ ?_
 refine cQ [(0,(sc A2 g D2)),(1,(iv j)),(3,(iv D)),(11,(sc F i L)),(12,(iv l)),(13,(iv (ix b l))),(33,(sc (ad M o32) b Z)),(34,(il b)),(35,(iv l)),(46,(.bool ((decide ((ix b l)<0))||(decide ((ix b l)≥D)))))] (OO kT161 161 F L i::RR kT3 (ad M o32) Z b::T) ?_ ?_
 refine bG ?_
 rcases bo (decide ((ix b l)<0)) with a1 | a1
 refine cA ?_
 exact qj tI
 refine cA ?_
 exact qj tI
 rintro σ1
 refine bT ?_
 split at m
 refine iK ?_
 cases m
 obtain rfl:=a9 _ R
 have m:=a3
 refine aP ?_
 cases m
 exact iu ((none,0,0),(none,0,0)) (fun w s=>(((s.nilo kT3 3).nilo kT161 161).e 6 [1,0]))
 refine aP ?_
 obtain ⟨aa,m⟩:=gd m
 refine bG ?_
 refine lO (vz (.agg [(iv l),(iv (ix b l))].toArray) (aW mD eN R R)) (bM (K:=kT161) (xs:=([(⟨l,(ix b l)⟩:pair)]:List pair)) (vs:=[(.agg [(iv l),(iv (ix b l))].toArray)]) 0 R R fB fC eN R R R R R R ?_ R (fun ao ar=>?_))
 exact fun I h s=>(j7).list [(((),()),(⟨l,(ix b l)⟩:pair))] I h s
 refine lM _ (tE 3 [1,0,2]) ?_
 refine eD (K:=kT161) 8796093022208 R R fB fC lF (Zr.zk zT161 eN) R R R R R R dP aa (fun a7 a5=>(lN (OO kT161 161 a7 a5 (i++([(⟨l,(ix b l)⟩:pair)]:List pair))::_::T) ?_))
 refine cZ ?_
 cases m
 exact qA ((a7,(i++([(⟨l,(ix b l)⟩:pair)]:List pair)).length,a5),((ad M o32),b.length,Z)) tI
 refine aP ?_
 cases m
 obtain rfl:=a9 _ R
 have m:=a3
 refine aV ?_
 exact qI (i,(F,i.length,L)) m (tE 2 [0])
 rintro ⟨q,⟨E,ak,Y⟩⟩ σ1 m
 dsimp only [Z0g_J1] at m
 refine bH 0 aB (fun (hn:ak=q.length)=>?_)
 subst hn
 refine bT ?_
 obtain ⟨U,a4,m⟩:=bd m
 refine bG ?_
 refine lM _ (fun w s=>(s.d 1 R)) ?_
 refine lC 1 qq R (Z1l_ok a4) R ?_
 rintro ⟨G,ap,O⟩
 refine aL 0 aB ?_
 rintro rfl
 refine cA ?_
 obtain ⟨av,a2,m⟩:=bd m
 refine aV ?_
 refine lC 1 j8 R (FnOk.lends (A':=[OO kT3 3 G O U]) (A:=[RR kT3 G O U]) (B:=[]) (Zb_ok a2) ⟨aU,trivial⟩ (fun _=>trivial)) R ?_
 rintro _
 refine aP ?_
 split at m
 refine cU ?_
 cases m
 exact iu ((none,0,0),(none,0,0)) (fun w s=>(((s.nilo kT3 3).nilo kT161 161).e 6 [1,0]))
 refine bG ?_
 obtain ⟨ag,a8,m⟩:=bd m
 refine bV ?_
 refine lM _ (fun w s=>((s.d 2 R).e 3 [2,0,1])) ?_
 refine lC 2 sO R (FnOk.lends (A':=[OO kT161 161 E Y q]) (A:=[RR kT161 E Y q]) (B:=[RR kT3 A2 D2 g]) (FnOk.perm (Z7_ok a8) (Pre':=[RR kT161 E Y q,RR kT3 A2 D2 g]) (fun _ _ _ s=>(s.e 2 [1,0]))) ⟨aU,trivial⟩ (fun _=>⟨(bI sx),trivial⟩)) R ?_
 rintro ⟨al,au,ah⟩
 refine aL 1 aB ?_
 rintro rfl
 refine bV ?_
 cases m
 exact iu ((G,U.length,O),(al,ag.length,ah)) (tE 5 [2,1])
theorem Z1z_ok  {p1:(List Int)}{a:(List Int)}{r:(List Int)×(List pair)×Bool}(b:Z1z p1 a=some r) :
 FnOk Tryz.prog 131 [(.slice A2 N2 D2),(.slice A4 N4 D4)] [aO kT3 (.slice A2 N2 D2) p1,aO kT3 (.slice A4 N4 D4) a] (fun (h:HH×HH)=>((.tuple [(s3 h.1),(s3 h.2),(.bool r.2.2)].toArray),[ow kT3 3 (s3 h.1) r.1,ow kT161 161 (s3 h.2) r.2.1])):=by
 unfold Z1z at b
 refine aQ Tryz.func131 R 20 R R fun C V=>?_
 refine cL 0 aA ?_
 rintro rfl
 refine cL 1 aA ?_
 rintro rfl
 let D:=RR kT3 A2 D2 p1::RR kT3 A4 D4 a::V
 refine cN D ?_
 refine cZ ?_
 obtain ⟨q,b⟩:=gd b
 obtain ⟨g,b⟩:=gd b
 obtain ⟨_,b⟩:=gd b
 obtain ⟨i,j,b⟩:=bd b
 refine aZ 0 aA (show 0<p1.length by have:=q; omega) (fun F o7 B=>?_)
 subst B
 refine dG 16 [] bP fun E G=>?_
 refine kr 0 [] ?_
 refine iw 6 [] ?_
 refine d1 5 R (gA (K:=kT3) (2:Int) (p1.length:Int) 0 R R bK cC R R R R g.1 g.2.1 g.2.2 (fun A9 D9=>(aC (aG (sL [0]) (d1 9 R (lM _ (fun w s=>(((s.d 2 R).d 1 R).e 3 [1,0,2])) ?_))))))
 refine lC 2 zO R (Z0g_ok j) R ?_
 rintro ⟨⟨l,u,m⟩,⟨A14,N14,D14⟩⟩
 refine aL 0 aB ?_
 rintro rfl
 refine aL 1 aB ?_
 rintro rfl
 refine aC (aG (sL [2,1,0]) ?_)
 refine sr 10 [2,1,0] ?_
 refine dD ?_
 refine aV ?_
 cases b
 exact iu ((l,i.1.length,m),(A14,i.2.1.length,D14)) (tE 5 [0,1])
theorem Z2p_ok  {a:Node}{b:(List Int)}{m:Int}{i:Int}{E:Nat}{j:Nat}{g:Nat}{r:(List Int)×(List pair)×Bool}(l:Z2p a b m i=some r) :
 FnOk Tryz.prog 149 [(.agg [(iv a.Op),(.slice A2 N2 D2),(.slice A3 N3 D3),(.slice A4 N4 D4),(aD a.Form),(.slice A5 N5 D5)].toArray),(.slice A7 N7 D7),(pt E 0),(pt j 0),(pt g 0)] [aO kT3 (.slice A2 N2 D2) a.Args,aO kT3 (.slice A3 N3 D3) a.Dims,aO kT3 (.slice A4 N4 D4) a.Ints,aO kT3 (.slice A5 N5 D5) a.Data,aO kT3 (.slice A7 N7 D7) b,aJ E [(iv m)] 3,aJ j [(iv i)] 3,aJ g [(.func (.func 131) [].toArray [].toArray)] 150] (fun (h:HH×HH)=>((.tuple [(s3 h.1),(s3 h.2),(.bool r.2.2)].toArray),[ow kT3 3 (s3 h.1) r.1,ow kT161 161 (s3 h.2) r.2.1,aJ E [(iv m)] 3,aJ j [(iv i)] 3,aJ g [(.func (.func 131) [].toArray [].toArray)] 150])):=by
 unfold Z2p at l
 refine aQ Tryz.func149 R 30 R R fun C V=>?_
 refine cM _ (fun w s=>(s.f 8 [5,3,0,5])) ?_
 refine cL 3 aA ?_
 rintro rfl
 refine cL 4 aA ?_
 rintro rfl
 refine cL 5 aA ?_
 rintro rfl
 refine cL 6 aA ?_
 rintro rfl
 refine cL 7 aA ?_
 rintro rfl
 let O:=RR kT3 A2 D2 a.Args::RR kT3 A3 D3 a.Dims::RR kT3 A4 D4 a.Ints::RR kT3 A5 D5 a.Data::RR kT3 A7 D7 b::V
 refine aV ?_
 refine eB R fun u=>?_
 refine bG ?_
 let L:=aJ u [(iv a.Op),(sc A2 a.Args D2),(sc A3 a.Dims D3),(sc A4 a.Ints D4),(aD a.Form),(sc A5 a.Data D5)] 54::aJ E [(iv m)] 3::aJ j [(iv i)] 3::aJ g [(.func (.func 131) [].toArray [].toArray)] 150::O
 refine qN L ?_
 refine aP ?_
 refine cQ [(1,(sc A7 b D7)),(4,(pt g 0)),(5,(pt u 0)),(21,(.bool ((decide ((a.Ints.length:Int)<m))||(decide ((a.Ints.length:Int)>i)))))] (L) ?_ ?_
 refine dN ?_
 rcases bo (decide ((a.Ints.length:Int)<m)) with D | D
 refine dN ?_
 exact qj tI
 refine dN ?_
 exact qj tI
 rintro σ1
 refine bT ?_
 split at l
 refine cU ?_
 cases l
 exact iu ((none,0,0),(none,0,0)) (fun w s=>(((s.nilo kT3 3).nilo kT161 161).e 11 [1,0,3,4,5]))
 refine bG ?_
 obtain ⟨B,q,l⟩:=bd l
 refine cA ?_
 refine lM _ (fun w s=>(((s.d 6 R).d 9 R).e 2 [1,0])) ?_
 refine cF (fs:=[]) (cs:=[]) 2 R R zP R R (Z1z_ok q) R ?_
 rintro ⟨⟨G,M,F⟩,⟨I,T,J⟩⟩
 refine aL 0 aB ?_
 rintro rfl
 refine aL 1 aB ?_
 rintro rfl
 refine cX ?_
 cases l
 exact iu ((G,B.1.length,F),(I,B.2.1.length,J)) (fun w s=>(s.f 11 [0,2,3,3]))
theorem Z1q_ok  {k1:shiftKind}{G:Int}{E:Int}{b:Node}{a:(List (List Int))}{m:Nat}{q:Nat}{j:Nat}{r:(List Int)×Bool}(i:Z1q k1 G E b a=some r) :
 FnOk Tryz.prog 220 [(.agg [(aD k1.use),(.func (.func 149) [].toArray [(pt m 0),(pt q 0),(pt j 0)].toArray)].toArray),(.agg [(iv b.Op),(.slice A9 N9 D9),(.slice A10 N10 D10),(.slice A11 N11 D11),(aD b.Form),(.slice A12 N12 D12)].toArray),(.slice A14 N14 D14)] [aJ m [(iv G)] 3,aJ q [(iv E)] 3,aJ j [(.func (.func 131) [].toArray [].toArray)] 150,aO kT3 (.slice A9 N9 D9) b.Args,aO kT3 (.slice A10 N10 D10) b.Dims,aO kT3 (.slice A11 N11 D11) b.Ints,aO kT3 (.slice A12 N12 D12) b.Data,aO bL (.slice A14 N14 D14) a] (fun (h:HH)=>((.tuple [(s3 h),(.bool r.2)].toArray),[ow kT3 3 (s3 h) r.1,aJ m [(iv G)] 3,aJ q [(iv E)] 3,aJ j [(.func (.func 131) [].toArray [].toArray)] 150])):=by
 unfold Z1q at i
 refine aQ Tryz.func220 R 27 R R fun C V=>?_
 refine cL 3 aA ?_
 rintro rfl
 refine cL 4 aA ?_
 rintro rfl
 refine cL 5 aA ?_
 rintro rfl
 refine cL 6 aA ?_
 rintro rfl
 refine cL 7 aA ?_
 rintro rfl
 let L:=RR kT3 A9 D9 b.Args::RR kT3 A10 D10 b.Dims::RR kT3 A11 D11 b.Ints::RR kT3 A12 D12 b.Data::RR bL A14 D14 a::V
 refine aV ?_
 refine eB R fun B=>?_
 refine eB R fun D=>?_
 refine aP ?_
 refine qM _ (fun w s=>(s.f 5 [2,3,0,2])) ?_
 let W1:=aJ D [(iv b.Op),(sc A9 b.Args D9),(sc A10 b.Dims D10),(sc A11 b.Ints D11),(aD b.Form),(sc A12 b.Data D12)] 54::aJ B [(aD k1.use),(.func (.func 149) [].toArray [(pt m 0),(pt q 0),(pt j 0)].toArray)] 145::L
 refine cX ?_
 split at i
 refine cX ?_
 cases i
 exact jO (none,0,0) (fun w s=>((s.nilo kT3 3).f 11 [0,4]))
 refine bG ?_
 obtain ⟨g,i⟩:=gd i
 obtain ⟨u,l,i⟩:=bd i
 refine aZ 9 aA (show 0<a.length by have:=g; omega) (fun M o20 J=>?_)
 subst J
 refine dL (K:=bL) 9 (0:Int) dT23.dec R g.1 g.2 ?_
 rintro ⟨U,T⟩
 refine dG 14 [] bP fun ht hn=>?_
 refine kr 0 [] ?_
 refine dR 5 R (eH (fo:=0) 0 cO R R R) (d1 6 R (lM _ (fun w s=>((((((s.d 7 R).d 9 R).d 11 R).d 13 R).d 5 R).e 10 [4,3,2,1,0,7,8,9,5,6])) ?_))
 refine cF (fs:=[]) (cs:=[(pt m 0),(pt q 0),(pt j 0)]) 8 R R qu R R (Z2p_ok l) R ?_
 rintro ⟨⟨F,Z,I⟩,⟨Y,O,a0⟩⟩
 refine aL 0 aB ?_
 rintro rfl
 refine aL 1 aB ?_
 rintro rfl
 refine aC (aG (fun w s=>(s.f 7 [5,2,2,3])) (dR 7 R (vT R) (hS:=(fun w s=>(s.f 7 [5,2,2,3]))) (dR 8 R (vS R) (hS:=(fun w s=>(s.f 7 [5,2,2,3]))) (dR 9 R (vS R) (hS:=(fun w s=>(s.f 7 [5,2,2,3]))) (dR 10 R (vB R) (hS:=(fun w s=>(s.f 7 [5,2,2,3]))) (dR 11 R (vS R) (hS:=(fun w s=>(s.f 7 [5,2,2,3]))) (dR 12 R (vS R) (hS:=(fun w s=>(s.f 7 [5,2,2,3]))) (dR 13 R (vB R) (hS:=(fun w s=>(s.f 7 [5,2,2,3]))) (dD ?_)))))))))
 refine cU ?_
 cases i
 exact jO (F,u.1.length,I) (tE 14 [0,2,3,4])
theorem Z4_ok  {b:(List Int)}{g:Int}{j:Int}{B:Int}{r:(List Int)×(List pair)×Bool}(l:Z4 b g j B=some r) :
 FnOk Tryz.prog 134 [(.slice A2 N2 D2),(iv g),(iv j),(iv B)] [aO kT3 (.slice A2 N2 D2) b] (fun (h:HH×HH)=>((.tuple [(s3 h.1),(s3 h.2),(.bool r.2.2)].toArray),[aO kT3 (s3 h.1) r.1,ow kT161 161 (s3 h.2) r.2.1])):=by
 unfold Z4 at l
 refine aQ Tryz.func134 R 151 R R fun C V=>?_
 refine cL 0 aA ?_
 rintro rfl
 let W0:=RR kT3 A2 D2 b::V
 refine cN W0 ?_
 refine r1 ?_
 obtain ⟨r6,a7,l⟩:=bd l
 obtain ⟨a8,l⟩:=gd l
 obtain ⟨ae,l⟩:=gd l
 obtain ⟨aj,l⟩:=gd l
 obtain ⟨ap,l⟩:=gd l
 refine cQ [(0,(sc A2 b D2)),(1,(iv g)),(2,(iv j)),(3,(iv B)),(11,(iv (aH ((b.length:Int) - 1)))),(68,(.bool (((((((!r6)||(g==(aH ((b.length:Int) - 1))))||(decide (j<1)))||(decide (B<1)))||(decide (B>4096)))||(decide ((ix b (aH ((b.length:Int) - 1)))>B)))||((ix b g) != (aH ((aH ((aH (B - (ix b (aH ((b.length:Int) - 1))))).tdiv j))+1))))))] (W0) ?_ ?_
 rcases bo (!r6) with G | G
 refine dG 45 [] bP fun ht hn=>?_
 refine gT 0 [] ?_
 refine d1 2 R (lM _ (fun w s=>(s.d 0 R)) ?_)
 refine lC 1 gQ R (Zk_ok a7) R ?_
 rintro _
 refine lN W0 ?_
 refine aC (aG (sL []) ?_)
 refine kr 3 [] ?_
 refine dR 8 R (fA (g==(aH ((b.length:Int) - 1))) R G) ?_
 refine iw 9 [] ?_
 refine dR 12 R (fA (decide (j<1)) R (oT G)) ?_
 refine iw 13 [] ?_
 refine dR 16 R (fA (decide (B<1)) R (oT (oT G))) ?_
 refine iw 17 [] ?_
 refine dR 20 R (fA (decide (B>4096)) R (oT (oT (oT G)))) ?_
 refine su 21 [] ?_
 refine dR 28 R (fA (decide ((ix b (aH ((b.length:Int) - 1)))>B)) R (oT (oT (oT (oT G))))) ?_
 refine oA 29 [] ?_
 refine pj 33 [] ?_
 refine dR 44 R (fA ((ix b g) != (aH ((aH ((aH (B - (ix b (aH ((b.length:Int) - 1))))).tdiv j))+1))) R (oT (oT (oT (oT (oT G)))))) (dD ?_)
 exact qj tI
 rcases bo ((!r6)||(g==(aH ((b.length:Int) - 1)))) with U | U
 refine dG 45 [] bP fun ht hn=>?_
 refine gT 0 [] ?_
 refine d1 2 R (lM _ (fun w s=>(s.d 0 R)) ?_)
 refine lC 1 gQ R (Zk_ok a7) R ?_
 rintro _
 refine lN W0 ?_
 refine aC (aG (sL []) ?_)
 refine kr 3 [] ?_
 refine dR 8 R (fT R G R) ?_
 refine iw 9 [] ?_
 refine dR 12 R (fA (decide (j<1)) R U) ?_
 refine iw 13 [] ?_
 refine dR 16 R (fA (decide (B<1)) R (oT U)) ?_
 refine iw 17 [] ?_
 refine dR 20 R (fA (decide (B>4096)) R (oT (oT U))) ?_
 refine su 21 [] ?_
 refine dR 28 R (fA (decide ((ix b (aH ((b.length:Int) - 1)))>B)) R (oT (oT (oT U)))) ?_
 refine ut 29 [] ?_
 refine su 37 [] ?_
 refine dR 44 R (fA ((ix b g) != (aH ((aH ((aH (B - (ix b (aH ((b.length:Int) - 1))))).tdiv j))+1))) R (oT (oT (oT (oT U))))) (dD ?_)
 exact qj tI
 rcases bo (((!r6)||(g==(aH ((b.length:Int) - 1))))||(decide (j<1))) with a1 | a1
 refine dG 45 [] bP fun ht hn=>?_
 refine gT 0 [] ?_
 refine d1 2 R (lM _ (fun w s=>(s.d 0 R)) ?_)
 refine lC 1 gQ R (Zk_ok a7) R ?_
 rintro _
 refine lN W0 ?_
 refine aC (aG (sL []) ?_)
 refine kr 3 [] ?_
 refine dR 8 R (fT R G R) ?_
 refine iw 9 [] ?_
 refine dR 12 R (fT R U R) ?_
 refine iw 13 [] ?_
 refine dR 16 R (fA (decide (B<1)) R a1) ?_
 refine iw 17 [] ?_
 refine dR 20 R (fA (decide (B>4096)) R (oT a1)) ?_
 refine su 21 [] ?_
 refine dR 28 R (fA (decide ((ix b (aH ((b.length:Int) - 1)))>B)) R (oT (oT a1))) ?_
 refine pj 29 [] ?_
 refine oA 40 [] ?_
 refine dR 44 R (fA ((ix b g) != (aH ((aH ((aH (B - (ix b (aH ((b.length:Int) - 1))))).tdiv j))+1))) R (oT (oT (oT a1)))) (dD ?_)
 exact qj tI
 rcases bo ((((!r6)||(g==(aH ((b.length:Int) - 1))))||(decide (j<1)))||(decide (B<1))) with a2 | a2
 refine dG 45 [] bP fun ht hn=>?_
 refine gT 0 [] ?_
 refine d1 2 R (lM _ (fun w s=>(s.d 0 R)) ?_)
 refine lC 1 gQ R (Zk_ok a7) R ?_
 rintro _
 refine lN W0 ?_
 refine aC (aG (sL []) ?_)
 refine kr 3 [] ?_
 refine dR 8 R (fT R G R) ?_
 refine iw 9 [] ?_
 refine dR 12 R (fT R U R) ?_
 refine iw 13 [] ?_
 refine dR 16 R (fT R a1 R) ?_
 refine iw 17 [] ?_
 refine dR 20 R (fA (decide (B>4096)) R a2) ?_
 refine su 21 [] ?_
 refine dR 28 R (fA (decide ((ix b (aH ((b.length:Int) - 1)))>B)) R (oT a2)) ?_
 refine uv 29 [] ?_
 refine oz 43 [] ?_
 refine dR 44 R (fA ((ix b g) != (aH ((aH ((aH (B - (ix b (aH ((b.length:Int) - 1))))).tdiv j))+1))) R (oT (oT a2))) (dD ?_)
 exact qj tI
 rcases bo (((((!r6)||(g==(aH ((b.length:Int) - 1))))||(decide (j<1)))||(decide (B<1)))||(decide (B>4096))) with D | D
 refine dG 45 [] bP fun ht hn=>?_
 refine gT 0 [] ?_
 refine d1 2 R (lM _ (fun w s=>(s.d 0 R)) ?_)
 refine lC 1 gQ R (Zk_ok a7) R ?_
 rintro _
 refine lN W0 ?_
 refine aC (aG (sL []) ?_)
 refine kr 3 [] ?_
 refine dR 8 R (fT R G R) ?_
 refine iw 9 [] ?_
 refine dR 12 R (fT R U R) ?_
 refine iw 13 [] ?_
 refine dR 16 R (fT R a1 R) ?_
 refine iw 17 [] ?_
 refine dR 20 R (fT R a2 R) ?_
 refine su 21 [] ?_
 refine dR 28 R (fA (decide ((ix b (aH ((b.length:Int) - 1)))>B)) R D) ?_
 refine wJ 29 [] ?_
 refine dR 44 R (fA ((ix b g) != (aH ((aH ((aH (B - (ix b (aH ((b.length:Int) - 1))))).tdiv j))+1))) R (oT D)) (dD ?_)
 exact qj tI
 rcases bo ((((((!r6)||(g==(aH ((b.length:Int) - 1))))||(decide (j<1)))||(decide (B<1)))||(decide (B>4096)))||(decide ((ix b (aH ((b.length:Int) - 1)))>B))) with L | L
 refine aZ 0 aA (show 0<b.length by have:=(a8 D); omega) (fun g9 o10 ha=>?_)
 subst ha
 refine dG 45 [] bP fun ht hn=>?_
 refine gT 0 [] ?_
 refine d1 2 R (lM _ (fun w s=>(s.d 0 R)) ?_)
 refine lC 1 gQ R (Zk_ok a7) R ?_
 rintro _
 refine lN W0 ?_
 refine aC (aG (sL []) ?_)
 refine kr 3 [] ?_
 refine dR 8 R (fT R G R) ?_
 refine iw 9 [] ?_
 refine dR 12 R (fT R U R) ?_
 refine iw 13 [] ?_
 refine dR 16 R (fT R a1 R) ?_
 refine iw 17 [] ?_
 refine dR 20 R (fT R a2 R) ?_
 refine iw 21 [] ?_
 refine dW 24 R (b' D) (eI bK cC R R (a8 D)) (dW 25 R (b' D) (gP 0 fP aA R (a8 D)) ?_)
 refine gT 26 [] ?_
 refine dR 28 R (fT R D R) ?_
 refine wJ 29 [] ?_
 refine dR 44 R (fA ((ix b g) != (aH ((aH ((aH (B - (ix b (aH ((b.length:Int) - 1))))).tdiv j))+1))) R L) (dD ?_)
 exact qj tI
 refine aZ 0 aA (show 0<b.length by have:=(a8 D); omega) (fun g9 o10 ha=>?_)
 subst ha
 refine dG 45 [] bP fun ht hn=>?_
 refine gT 0 [] ?_
 refine d1 2 R (lM _ (fun w s=>(s.d 0 R)) ?_)
 refine lC 1 gQ R (Zk_ok a7) R ?_
 rintro _
 refine lN W0 ?_
 refine aC (aG (sL []) ?_)
 refine kr 3 [] ?_
 refine dR 8 R (fT R G R) ?_
 refine iw 9 [] ?_
 refine dR 12 R (fT R U R) ?_
 refine iw 13 [] ?_
 refine dR 16 R (fT R a1 R) ?_
 refine iw 17 [] ?_
 refine dR 20 R (fT R a2 R) ?_
 refine iw 21 [] ?_
 refine dW 24 R (b' D) (eI bK cC R R (a8 D)) (dW 25 R (b' D) (gP 0 fP aA R (a8 D)) ?_)
 refine gT 26 [] ?_
 refine dR 28 R (fT R D R) ?_
 refine iw 29 [] ?_
 refine dW 32 R (b' L) (eI bK cC R R (ae L)) (dW 33 R (b' L) (gP 0 fP aA R (ae L)) ?_)
 refine iw 34 [] ?_
 refine dW 37 R (b' L) (eI bK cC R R (aj L)) (dW 38 R (b' L) (gP 0 fP aA R (aj L)) ?_)
 refine gT 39 [] ?_
 refine dW 41 R (b' L) (vz (iv (aH ((aH (B - (ix b (aH ((b.length:Int) - 1))))).tdiv j))) (mo R R (ap L))) ?_
 refine gT 42 [] ?_
 refine dR 44 R (fT R L R) (dD ?_)
 exact qj tI
 rintro σ1
 refine bT ?_
 split at l
 refine cU ?_
 cases l
 exact iu ((none,0,0),(none,0,0)) (fun w s=>(((s.nilr kT3).nilo kT161 161).e 3 [1,0]))
 refine bG ?_
 obtain ⟨F,b9,l⟩:=bd l
 obtain ⟨aa,l⟩:=gd l
 refine bG ?_
 refine lM _ (fun w s=>(s.d 0 R)) ?_
 refine lC 1 qq R (Z1l_ok b9) R ?_
 rintro ⟨c5,c4,c8⟩
 refine aL 0 aB ?_
 rintro rfl
 refine lI R (iT (fun w s=>s.shr 0 R) (gA (K:=kT3) (0:Int) (aH ((b.length:Int) - 1)) 0 R R bK cC R R R R aa.1 aa.2.1 aa.2.2 (fun O M=>(lS R (aC (aI (aM (aM ?_))))))))
 obtain ⟨ca,b5,l⟩:=bd l
 refine aV ?_
 refine lM _ (fun w s=>(s.d 0 R)) ?_
 refine lC 1 j8 R (Zb_ok b5) R ?_
 rintro _
 refine aP ?_
 split at l
 refine cU ?_
 cases l
 exact iu ((none,0,0),(none,0,0)) (fun w s=>(((s.nilr kT3).nilo kT161 161).e 5 [1,0]))
 refine bG ?_
 refine bB (A:=(Int)×(Unit)) (fun a=>Z4_J1 b g B F a.1=some r) (fun a=>[(0,(sc A2 b D2)),(1,(iv g)),(2,(iv a.1)),(3,(iv B)),(11,(iv (aH ((b.length:Int) - 1)))),(12,(sc O (sub F (0:Int) (aH ((b.length:Int) - 1))) M))]) (fun a=>RR kT3 O M (sub F (0:Int) (aH ((b.length:Int) - 1)))::W0) ?_ ?_
 refine bT ?_
 obtain ⟨bh,l⟩:=gd l
 refine aP ?_
 refine bC 2 aA (show 0<b.length by have:=bh; omega) (fun c7 o31 ha=>?_)
 subst ha
 refine cA ?_
 split at l
 refine bG ?_
 exact qI ((0:Int),()) l (tE 2 [0])
 refine aV ?_
 exact qI (j,()) l (tE 2 [0])
 rintro ⟨m,_⟩ σ1 l
 dsimp only [Z4_J1] at l
 refine bT ?_
 obtain ⟨a9,l⟩:=gd l
 obtain ⟨i,ar,l⟩:=bd l
 refine aP ?_
 refine gA (K:=kT3) (0:Int) (aH ((b.length:Int) - 1)) 1 R R bK cC R R R R a9.1 a9.2.1 a9.2.2 (fun c6 c9=>(lI R (lM _ (fun w s=>(s.d 0 R)) ?_)))
 refine lC 1 v' R (Z21_ok ar) R ?_
 rintro _
 refine lO (vT R) ?_
 refine cU ?_
 refine bM (K:=kT161) (xs:=([]:List pair)) (vs:=[]) 0 R R fB fC eN R R R R R R ?_ R (fun bs bi=>?_)
 exact fun I h s=>(j7).list [] I h s
 refine bG ?_
 refine bB (A:=((List pair))×(HH)) (fun a=>Z4_J16 b F a.1=some r) (fun a=>[(12,(sc O (sub F (0:Int) (aH ((b.length:Int) - 1))) M)),(16,(s3 a.2))]) (fun a=>RR kT3 O M (sub F (0:Int) (aH ((b.length:Int) - 1)))::ow kT161 161 (s3 a.2) a.1::W0) ?_ ?_
 refine bV ?_
 obtain ⟨e1,bj,bk⟩:=bd l
 refine bD (A:=HH) bj (fun s a=>[(0,(sc A2 b D2)),(2,(iv m)),(3,(iv B)),(11,(iv (aH ((b.length:Int) - 1)))),(12,(sc O (sub F (0:Int) (aH ((b.length:Int) - 1))) M)),(13,(iv i.1)),(14,(iv i.2.1)),(15,(iv i.2.2)),(16,(s3 a)),(17,(iv s.2))]) (fun s a=>RR kT3 O M (sub F (0:Int) (aH ((b.length:Int) - 1)))::ow kT161 161 (s3 a) s.1::W0) (bs,([]:List pair).length,bi) (aS R) (tE 3 [2,0]) ?_
 rintro ⟨a0,q⟩ ⟨ak,b7,ab⟩ σ1 bb l bq
 dsimp only [Z4_L1] at l
 refine bH 1 aB (fun (hn:b7=a0.length)=>?_)
 subst hn
 refine cZ ?_
 split at l
 refine bG ?_
 refine bB (A:=((List pair))×(HH)) (fun a=>Z4_J15 q a.1=some bb) (fun a=>[(0,(sc A2 b D2)),(2,(iv m)),(3,(iv B)),(11,(iv (aH ((b.length:Int) - 1)))),(12,(sc O (sub F (0:Int) (aH ((b.length:Int) - 1))) M)),(13,(iv i.1)),(14,(iv i.2.1)),(15,(iv i.2.2)),(16,(s3 a.2)),(17,(iv q))]) (fun a=>RR kT3 O M (sub F (0:Int) (aH ((b.length:Int) - 1)))::ow kT161 161 (s3 a.2) a.1::W0) ?_ ?_
 refine dN ?_
 obtain ⟨e2,bv,bz⟩:=bd l
 refine bD (A:=HH) bv (fun s a=>[(0,(sc A2 b D2)),(2,(iv m)),(3,(iv B)),(11,(iv (aH ((b.length:Int) - 1)))),(12,(sc O (sub F (0:Int) (aH ((b.length:Int) - 1))) M)),(13,(iv i.1)),(14,(iv i.2.1)),(15,(iv i.2.2)),(16,(s3 a)),(17,(iv q)),(18,(iv s.2))]) (fun s a=>RR kT3 O M (sub F (0:Int) (aH ((b.length:Int) - 1)))::ow kT161 161 (s3 a) s.1::W0) (ak,a0.length,ab) (aS R) tI ?_
 rintro ⟨Y,u⟩ ⟨ag,bf,am⟩ σ1 ax l bn
 dsimp only [Z4_L2] at l
 refine bH 1 aB (fun (hn:bf=Y.length)=>?_)
 subst hn
 refine cZ ?_
 split at l
 refine bG ?_
 refine bB (A:=((List pair))×(HH)) (fun a=>Z4_J14 u a.1=some ax) (fun a=>[(0,(sc A2 b D2)),(2,(iv m)),(3,(iv B)),(11,(iv (aH ((b.length:Int) - 1)))),(12,(sc O (sub F (0:Int) (aH ((b.length:Int) - 1))) M)),(13,(iv i.1)),(14,(iv i.2.1)),(15,(iv i.2.2)),(16,(s3 a.2)),(17,(iv q)),(18,(iv u))]) (fun a=>RR kT3 O M (sub F (0:Int) (aH ((b.length:Int) - 1)))::ow kT161 161 (s3 a.2) a.1::W0) ?_ ?_
 refine dN ?_
 obtain ⟨e3,bl,bw⟩:=bd l
 refine bD (A:=HH) bl (fun s a=>[(0,(sc A2 b D2)),(2,(iv m)),(3,(iv B)),(11,(iv (aH ((b.length:Int) - 1)))),(12,(sc O (sub F (0:Int) (aH ((b.length:Int) - 1))) M)),(13,(iv i.1)),(14,(iv i.2.1)),(15,(iv i.2.2)),(16,(s3 a)),(17,(iv q)),(18,(iv u)),(19,(iv s.2))]) (fun s a=>RR kT3 O M (sub F (0:Int) (aH ((b.length:Int) - 1)))::ow kT161 161 (s3 a) s.1::W0) (ag,Y.length,am) (aS R) tI ?_
 rintro ⟨Z,E⟩ ⟨ah,bc,al⟩ σ1 b1 l br
 dsimp only [Z4_L3] at l
 refine bH 1 aB (fun (hn:bc=Z.length)=>?_)
 subst hn
 refine cZ ?_
 split at l
 refine bG ?_
 refine bB (A:=((List pair))×(HH)) (fun a=>Z4_J13 E a.1=some b1) (fun a=>[(0,(sc A2 b D2)),(2,(iv m)),(3,(iv B)),(11,(iv (aH ((b.length:Int) - 1)))),(12,(sc O (sub F (0:Int) (aH ((b.length:Int) - 1))) M)),(13,(iv i.1)),(14,(iv i.2.1)),(15,(iv i.2.2)),(16,(s3 a.2)),(17,(iv q)),(18,(iv u)),(19,(iv E))]) (fun a=>RR kT3 O M (sub F (0:Int) (aH ((b.length:Int) - 1)))::ow kT161 161 (s3 a.2) a.1::W0) ?_ ?_
 refine dN ?_
 obtain ⟨e4,bp,bu⟩:=bd l
 refine bD (A:=HH) bp (fun s a=>[(0,(sc A2 b D2)),(2,(iv m)),(3,(iv B)),(11,(iv (aH ((b.length:Int) - 1)))),(12,(sc O (sub F (0:Int) (aH ((b.length:Int) - 1))) M)),(13,(iv i.1)),(14,(iv i.2.1)),(15,(iv i.2.2)),(16,(s3 a)),(17,(iv q)),(18,(iv u)),(19,(iv E)),(20,(iv s.2))]) (fun s a=>RR kT3 O M (sub F (0:Int) (aH ((b.length:Int) - 1)))::ow kT161 161 (s3 a) s.1::W0) (ah,Z.length,al) (aS R) tI ?_
 rintro ⟨J,T⟩ ⟨av,b3,ba⟩ σ1 c2 l bm
 dsimp only [Z4_L4] at l
 refine bH 1 aB (fun (hn:b3=J.length)=>?_)
 subst hn
 refine aV ?_
 obtain ⟨ao,l⟩:=gd l
 refine bG ?_
 refine bC 2 aA (show 0<b.length by have:=ao; omega) (fun c1 o260 ha=>?_)
 subst ha
 refine cA ?_
 split at l
 refine cA ?_
 obtain ⟨an,l⟩:=gd l
 refine wI ?_
 refine lO (vz (.agg [(iv (aH ((aH ((aH ((aH ((aH ((aH (q*i.2.1))+u))*i.2.2))+E))*(ix b (aH ((b.length:Int) - 1)))))+T))),(iv (aH ((aH ((aH ((aH ((aH (q*B))+(aH (u*m))))+T))*i.2.2))+E)))].toArray) (aW mD eN R R)) ?_
 refine bM (K:=kT161) (xs:=([(⟨(aH ((aH ((aH ((aH ((aH ((aH (q*i.2.1))+u))*i.2.2))+E))*(ix b (aH ((b.length:Int) - 1)))))+T)),(aH ((aH ((aH ((aH ((aH (q*B))+(aH (u*m))))+T))*i.2.2))+E))⟩:pair)]:List pair)) (vs:=[(.agg [(iv (aH ((aH ((aH ((aH ((aH ((aH (q*i.2.1))+u))*i.2.2))+E))*(ix b (aH ((b.length:Int) - 1)))))+T))),(iv (aH ((aH ((aH ((aH ((aH (q*B))+(aH (u*m))))+T))*i.2.2))+E)))].toArray)]) 0 R R fB fC eN R R R R R R ?_ R (fun c0 c3=>?_)
 exact fun I h s=>(j7).list [(((),()),(⟨(aH ((aH ((aH ((aH ((aH ((aH (q*i.2.1))+u))*i.2.2))+E))*(ix b (aH ((b.length:Int) - 1)))))+T)),(aH ((aH ((aH ((aH ((aH (q*B))+(aH (u*m))))+T))*i.2.2))+E))⟩:pair))] I h s
 refine lM _ (tE 3 [2,0,1]) ?_
 refine eD (K:=kT161) 8796093022208 R R fB fC lF (Zr.zk zT161 eN) R R R R R R dP an (fun ac ai=>(lN (OO kT161 161 ac ai (J++([(⟨(aH ((aH ((aH ((aH ((aH ((aH (q*i.2.1))+u))*i.2.2))+E))*(ix b (aH ((b.length:Int) - 1)))))+T)),(aH ((aH ((aH ((aH ((aH (q*B))+(aH (u*m))))+T))*i.2.2))+E))⟩:pair)]:List pair))::_::W0) ?_))
 refine cX ?_
 cases l
 exact qA (ac,(J++([(⟨(aH ((aH ((aH ((aH ((aH ((aH (q*i.2.1))+u))*i.2.2))+E))*(ix b (aH ((b.length:Int) - 1)))))+T)),(aH ((aH ((aH ((aH ((aH (q*B))+(aH (u*m))))+T))*i.2.2))+E))⟩:pair)]:List pair)).length,ai) (tE 2 [1,0])
 refine aP ?_
 cases l
 obtain rfl:=bm _ R
 have l:=bu
 refine aP ?_
 exact qI (J,(av,J.length,ba)) l tI
 rintro ⟨a4,⟨bg,az,au⟩⟩ σ1 l
 dsimp only [Z4_J13] at l
 refine bH 1 aB (fun (hn:az=a4.length)=>?_)
 subst hn
 refine cA ?_
 cases l
 exact qA (bg,a4.length,au) tI
 refine aP ?_
 cases l
 obtain rfl:=br _ R
 have l:=bw
 refine aP ?_
 exact qI (Z,(ah,Z.length,al)) l tI
 rintro ⟨a3,⟨b4,b8,be⟩⟩ σ1 l
 dsimp only [Z4_J14] at l
 refine bH 1 aB (fun (hn:b8=a3.length)=>?_)
 subst hn
 refine cA ?_
 cases l
 exact qA (b4,a3.length,be) tI
 refine aP ?_
 cases l
 obtain rfl:=bn _ R
 have l:=bz
 refine aP ?_
 exact qI (Y,(ag,Y.length,am)) l tI
 rintro ⟨a5,⟨b2,b6,aq⟩⟩ σ1 l
 dsimp only [Z4_J15] at l
 refine bH 1 aB (fun (hn:b6=a5.length)=>?_)
 subst hn
 refine cA ?_
 cases l
 exact qA (b2,a5.length,aq) tI
 refine aP ?_
 cases l
 obtain rfl:=bq _ R
 have l:=bk
 refine aV ?_
 exact qI (a0,(ak,a0.length,ab)) l tI
 rintro ⟨a6,⟨aw,ay,b0⟩⟩ σ1 l
 dsimp only [Z4_J16] at l
 refine bH 1 aB (fun (hn:ay=a6.length)=>?_)
 subst hn
 refine cU ?_
 cases l
 exact iu ((O,(sub F (0:Int) (aH ((b.length:Int) - 1))).length,M),(aw,a6.length,b0)) (tE 3 [0,1])
theorem Z20_ok  {p1:(List Int)}{a:(List Int)}{r:(List Int)×(List pair)×Bool}(b:Z20 p1 a=some r) :
 FnOk Tryz.prog 133 [(.slice A2 N2 D2),(.slice A4 N4 D4)] [aO kT3 (.slice A2 N2 D2) p1,aO kT3 (.slice A4 N4 D4) a] (fun (h:HH×HH)=>((.tuple [(s3 h.1),(s3 h.2),(.bool r.2.2)].toArray),[aO kT3 (s3 h.1) r.1,ow kT161 161 (s3 h.2) r.2.1])):=by
 unfold Z20 at b
 refine aQ Tryz.func133 R 21 R R fun C V=>?_
 refine cL 0 aA ?_
 rintro rfl
 refine cL 1 aA ?_
 rintro rfl
 let u:=RR kT3 A2 D2 p1::RR kT3 A4 D4 a::V
 refine cN u ?_
 refine cZ ?_
 obtain ⟨l,b⟩:=gd b
 obtain ⟨_,b⟩:=gd b
 obtain ⟨_,b⟩:=gd b
 obtain ⟨g,e,b⟩:=bd b
 refine aZ 0 aA (show 0<p1.length by have:=l; omega) (fun D o7 q=>?_)
 subst q
 refine dG 17 [] bP fun B E=>?_
 refine ra 0 [] ?_
 refine d1 10 R (lM _ (fun w s=>(s.d 1 R)) ?_)
 refine lC 1 zQ R (Z4_ok e) R ?_
 rintro ⟨⟨A12,N12,D12⟩,⟨i,m,j⟩⟩
 refine aL 0 aA ?_
 rintro rfl
 refine aL 1 aB ?_
 rintro rfl
 refine aC (aG (sL [1,0]) ?_)
 refine sr 11 [1,0] ?_
 refine dD ?_
 refine aV ?_
 cases b
 exact iu ((A12,g.1.length,D12),(i,g.2.1.length,j)) (tE 4 [0,1])
theorem Z2q_ok  {a:Node}{b:(List Int)}{m:Int}{i:Int}{E:Nat}{j:Nat}{g:Nat}{r:(List Int)×(List pair)×Bool}(l:Z2q a b m i=some r) :
 FnOk Tryz.prog 149 [(.agg [(iv a.Op),(.slice A2 N2 D2),(.slice A3 N3 D3),(.slice A4 N4 D4),(aD a.Form),(.slice A5 N5 D5)].toArray),(.slice A7 N7 D7),(pt E 0),(pt j 0),(pt g 0)] [aO kT3 (.slice A2 N2 D2) a.Args,aO kT3 (.slice A3 N3 D3) a.Dims,aO kT3 (.slice A4 N4 D4) a.Ints,aO kT3 (.slice A5 N5 D5) a.Data,aO kT3 (.slice A7 N7 D7) b,aJ E [(iv m)] 3,aJ j [(iv i)] 3,aJ g [(.func (.func 133) [].toArray [].toArray)] 150] (fun (h:HH×HH)=>((.tuple [(s3 h.1),(s3 h.2),(.bool r.2.2)].toArray),[aO kT3 (s3 h.1) r.1,ow kT161 161 (s3 h.2) r.2.1,aJ E [(iv m)] 3,aJ j [(iv i)] 3,aJ g [(.func (.func 133) [].toArray [].toArray)] 150])):=by
 unfold Z2q at l
 refine aQ Tryz.func149 R 30 R R fun C V=>?_
 refine cM _ (fun w s=>(s.f 8 [5,3,0,5])) ?_
 refine cL 3 aA ?_
 rintro rfl
 refine cL 4 aA ?_
 rintro rfl
 refine cL 5 aA ?_
 rintro rfl
 refine cL 6 aA ?_
 rintro rfl
 refine cL 7 aA ?_
 rintro rfl
 let O:=RR kT3 A2 D2 a.Args::RR kT3 A3 D3 a.Dims::RR kT3 A4 D4 a.Ints::RR kT3 A5 D5 a.Data::RR kT3 A7 D7 b::V
 refine aV ?_
 refine eB R fun u=>?_
 refine bG ?_
 let L:=aJ u [(iv a.Op),(sc A2 a.Args D2),(sc A3 a.Dims D3),(sc A4 a.Ints D4),(aD a.Form),(sc A5 a.Data D5)] 54::aJ E [(iv m)] 3::aJ j [(iv i)] 3::aJ g [(.func (.func 133) [].toArray [].toArray)] 150::O
 refine qN L ?_
 refine aP ?_
 refine cQ [(1,(sc A7 b D7)),(4,(pt g 0)),(5,(pt u 0)),(21,(.bool ((decide ((a.Ints.length:Int)<m))||(decide ((a.Ints.length:Int)>i)))))] (L) ?_ ?_
 refine dN ?_
 rcases bo (decide ((a.Ints.length:Int)<m)) with D | D
 refine dN ?_
 exact qj tI
 refine dN ?_
 exact qj tI
 rintro σ1
 refine bT ?_
 split at l
 refine cU ?_
 cases l
 exact iu ((none,0,0),(none,0,0)) (fun w s=>(((s.nilr kT3).nilo kT161 161).e 11 [1,0,3,4,5]))
 refine bG ?_
 obtain ⟨B,q,l⟩:=bd l
 refine cA ?_
 refine lM _ (fun w s=>(((s.d 6 R).d 9 R).e 2 [1,0])) ?_
 refine cF (fs:=[]) (cs:=[]) 2 R R zR R R (Z20_ok q) R ?_
 rintro ⟨⟨G,M,F⟩,⟨I,T,J⟩⟩
 refine aL 0 aA ?_
 rintro rfl
 refine aL 1 aB ?_
 rintro rfl
 refine cX ?_
 cases l
 exact iu ((G,B.1.length,F),(I,B.2.1.length,J)) (fun w s=>(s.f 11 [0,2,3,3]))
theorem Z1r_ok  {k1:shiftKind}{G:Int}{E:Int}{b:Node}{a:(List (List Int))}{m:Nat}{q:Nat}{j:Nat}{r:(List Int)×Bool}(i:Z1r k1 G E b a=some r) :
 FnOk Tryz.prog 220 [(.agg [(aD k1.use),(.func (.func 149) [].toArray [(pt m 0),(pt q 0),(pt j 0)].toArray)].toArray),(.agg [(iv b.Op),(.slice A9 N9 D9),(.slice A10 N10 D10),(.slice A11 N11 D11),(aD b.Form),(.slice A12 N12 D12)].toArray),(.slice A14 N14 D14)] [aJ m [(iv G)] 3,aJ q [(iv E)] 3,aJ j [(.func (.func 133) [].toArray [].toArray)] 150,aO kT3 (.slice A9 N9 D9) b.Args,aO kT3 (.slice A10 N10 D10) b.Dims,aO kT3 (.slice A11 N11 D11) b.Ints,aO kT3 (.slice A12 N12 D12) b.Data,aO bL (.slice A14 N14 D14) a] (fun (h:HH)=>((.tuple [(s3 h),(.bool r.2)].toArray),[aO kT3 (s3 h) r.1,aJ m [(iv G)] 3,aJ q [(iv E)] 3,aJ j [(.func (.func 133) [].toArray [].toArray)] 150])):=by
 unfold Z1r at i
 refine aQ Tryz.func220 R 27 R R fun C V=>?_
 refine cL 3 aA ?_
 rintro rfl
 refine cL 4 aA ?_
 rintro rfl
 refine cL 5 aA ?_
 rintro rfl
 refine cL 6 aA ?_
 rintro rfl
 refine cL 7 aA ?_
 rintro rfl
 let L:=RR kT3 A9 D9 b.Args::RR kT3 A10 D10 b.Dims::RR kT3 A11 D11 b.Ints::RR kT3 A12 D12 b.Data::RR bL A14 D14 a::V
 refine aV ?_
 refine eB R fun B=>?_
 refine eB R fun D=>?_
 refine aP ?_
 refine qM _ (fun w s=>(s.f 5 [2,3,0,2])) ?_
 let W1:=aJ D [(iv b.Op),(sc A9 b.Args D9),(sc A10 b.Dims D10),(sc A11 b.Ints D11),(aD b.Form),(sc A12 b.Data D12)] 54::aJ B [(aD k1.use),(.func (.func 149) [].toArray [(pt m 0),(pt q 0),(pt j 0)].toArray)] 145::L
 refine cX ?_
 split at i
 refine cX ?_
 cases i
 exact jO (none,0,0) (fun w s=>((s.nilr kT3).f 11 [0,4]))
 refine bG ?_
 obtain ⟨g,i⟩:=gd i
 obtain ⟨u,l,i⟩:=bd i
 refine aZ 9 aA (show 0<a.length by have:=g; omega) (fun M o20 J=>?_)
 subst J
 refine dL (K:=bL) 9 (0:Int) dT23.dec R g.1 g.2 ?_
 rintro ⟨U,T⟩
 refine dG 14 [] bP fun ht hn=>?_
 refine kr 0 [] ?_
 refine dR 5 R (eH (fo:=0) 0 cO R R R) (d1 6 R (lM _ (fun w s=>((((((s.d 7 R).d 9 R).d 11 R).d 13 R).d 5 R).e 10 [4,3,2,1,0,7,8,9,5,6])) ?_))
 refine cF (fs:=[]) (cs:=[(pt m 0),(pt q 0),(pt j 0)]) 8 R R qu R R (Z2q_ok l) R ?_
 rintro ⟨⟨F,Z,I⟩,⟨Y,O,a0⟩⟩
 refine aL 0 aA ?_
 rintro rfl
 refine aL 1 aB ?_
 rintro rfl
 refine aC (aG (fun w s=>(s.f 7 [5,2,2,3])) (dR 7 R (vT R) (hS:=(fun w s=>(s.f 7 [5,2,2,3]))) (dR 8 R (vS R) (hS:=(fun w s=>(s.f 7 [5,2,2,3]))) (dR 9 R (vS R) (hS:=(fun w s=>(s.f 7 [5,2,2,3]))) (dR 10 R (vB R) (hS:=(fun w s=>(s.f 7 [5,2,2,3]))) (dR 11 R (vS R) (hS:=(fun w s=>(s.f 7 [5,2,2,3]))) (dR 12 R (vS R) (hS:=(fun w s=>(s.f 7 [5,2,2,3]))) (dR 13 R (vB R) (hS:=(fun w s=>(s.f 7 [5,2,2,3]))) (dD ?_)))))))))
 refine cU ?_
 cases i
 exact jO (F,u.1.length,I) (tE 14 [0,2,3,4])
theorem lc  {r:kindOfR}{a:Node}{m:(List (List Int))}{g h1 h2:Nat}{u A2 A3 A4 A5:Option Addr}{B l N2 D2 N3 D3 N4 D4 N5 D5:Nat}{mG:Int}{q:(List Int)×Bool}(b:bO r a m=some q) :
 InvOk Tryz.prog (cW r (g,h1,h2)) "loop.example/g00033/impl.shape" [(.agg [(iv a.Op),(.slice u B l),(.slice A2 N2 D2),(.slice A3 N3 D3),(aD a.Form),(.slice A4 N4 D4)].toArray),(.slice A5 N5 D5)] [eS r (g,h1,h2),aO kT3 (.slice u B l) a.Args,aO kT3 (.slice A2 N2 D2) a.Dims,aO kT3 (.slice A3 N3 D3) a.Ints,aO kT3 (.slice A4 N4 D4) a.Data,aO bL (.slice A5 N5 D5) m,gl 0 mG] (fun (h:HH)=>((.tuple [(s3 h),(.bool q.2)].toArray),[aO kT3 (s3 h) q.1,eS r (g,h1,h2)])):=by
 unfold bO at b
 rcases cG b with ⟨Z,b⟩|⟨Z,b⟩
 ·cases b
 rcases cG b with ⟨Y,b⟩|⟨Y,b⟩
 ·obtain ⟨t,D,j,i,E⟩:=r
  obtain rfl:=Nat.eq_of_beq_eq_true Y
  exact InvOk.mk (oH _) (((Z1k_ok b).perm (Pre':=[pk [],aO kT3 (.slice u B l) a.Args,aO kT3 (.slice A2 N2 D2) a.Dims,aO kT3 (.slice A3 N3 D3) a.Ints,aO kT3 (.slice A4 N4 D4) a.Data,aO bL (.slice A5 N5 D5) m,gl 0 mG]) (fun _ _ _ s=>(St.unpack (A:=[]) s).e 6 [0,1,2,3,4])).post id (fun _=>rfl) (fun _ _ _ _ s=>(St.pack (A:=[]) (s)).e 2 [1,0]))
 rcases cG b with ⟨L,b⟩|⟨L,b⟩
 ·obtain ⟨t,D,j,i,E⟩:=r
  obtain rfl:=Nat.eq_of_beq_eq_true L
  exact InvOk.mk (oI _) (((Z22_ok b).perm (Pre':=[pk [],aO kT3 (.slice u B l) a.Args,aO kT3 (.slice A2 N2 D2) a.Dims,aO kT3 (.slice A3 N3 D3) a.Ints,aO kT3 (.slice A4 N4 D4) a.Data,aO bL (.slice A5 N5 D5) m,gl 0 mG]) (fun _ _ _ s=>(St.unpack (A:=[]) s).e 6 [0,1,2,3,4])).post id (fun _=>rfl) (fun _ _ _ _ s=>(St.pack (A:=[]) (s)).e 2 [1,0]))
 rcases cG b with ⟨U,b⟩|⟨U,b⟩
 ·obtain ⟨t,D,j,i,E⟩:=r
  obtain rfl:=Nat.eq_of_beq_eq_true U
  exact InvOk.mk (oJ _) (((Z2t_ok b).perm (Pre':=[pk [],aO kT3 (.slice u B l) a.Args,aO kT3 (.slice A2 N2 D2) a.Dims,aO kT3 (.slice A3 N3 D3) a.Ints,aO kT3 (.slice A4 N4 D4) a.Data,aO bL (.slice A5 N5 D5) m,gl 0 mG]) (fun _ _ _ s=>(St.unpack (A:=[]) s).e 6 [0,1,2,3,4])).post id (fun _=>rfl) (fun _ _ _ _ s=>(St.pack (A:=[]) (s)).e 2 [1,0]))
 rcases cG b with ⟨G,b⟩|⟨G,b⟩
 ·obtain ⟨t,D,j,i,E⟩:=r
  obtain rfl:=Nat.eq_of_beq_eq_true G
  exact InvOk.mk (oK _) (((Z1w_ok (k1:=⟨⟩) b).perm (Pre':=[pk [],aO kT3 (.slice u B l) a.Args,aO kT3 (.slice A2 N2 D2) a.Dims,aO kT3 (.slice A3 N3 D3) a.Ints,aO kT3 (.slice A4 N4 D4) a.Data,aO bL (.slice A5 N5 D5) m,gl 0 mG]) (fun _ _ _ s=>(St.unpack (A:=[]) s).e 6 [0,1,2,3,4])).post id (fun _=>rfl) (fun _ _ _ _ s=>(St.pack (A:=[]) (s)).e 2 [1,0]))
 rcases cG b with ⟨O,b⟩|⟨O,b⟩
 ·obtain ⟨t,D,j,i,E⟩:=r
  obtain rfl:=Nat.eq_of_beq_eq_true O
  exact InvOk.mk (oL _) (((Z2s_ok (k1:=⟨⟩) b).perm (Pre':=[pk [],aO kT3 (.slice u B l) a.Args,aO kT3 (.slice A2 N2 D2) a.Dims,aO kT3 (.slice A3 N3 D3) a.Ints,aO kT3 (.slice A4 N4 D4) a.Data,aO bL (.slice A5 N5 D5) m,gl 0 mG]) (fun _ _ _ s=>St.unpack (A:=[]) s)).post id (fun _=>rfl) (fun _ _ _ _ s=>(St.pack (A:=[]) ((s).shr 0 R)).e 2 [1,0]))
 rcases cG b with ⟨T,b⟩|⟨T,b⟩
 ·obtain ⟨t,D,j,i,E⟩:=r
  obtain rfl:=Nat.eq_of_beq_eq_true T
  exact InvOk.mk (gC _) (((Z1s_ok b).perm (Pre':=[pk [],aO kT3 (.slice u B l) a.Args,aO kT3 (.slice A2 N2 D2) a.Dims,aO kT3 (.slice A3 N3 D3) a.Ints,aO kT3 (.slice A4 N4 D4) a.Data,aO bL (.slice A5 N5 D5) m,gl 0 mG]) (fun _ _ _ s=>(St.unpack (A:=[]) s).e 6 [0,1,2,3,4])).post id (fun _=>rfl) (fun _ _ _ _ s=>(St.pack (A:=[]) (s)).e 2 [1,0]))
 rcases cG b with ⟨I,b⟩|⟨I,b⟩
 ·obtain ⟨t,D,j,i,E⟩:=r
  obtain rfl:=Nat.eq_of_beq_eq_true I
  exact InvOk.mk (gC _) (((Z23_ok b).perm (Pre':=[pk [],aO kT3 (.slice u B l) a.Args,aO kT3 (.slice A2 N2 D2) a.Dims,aO kT3 (.slice A3 N3 D3) a.Ints,aO kT3 (.slice A4 N4 D4) a.Data,aO bL (.slice A5 N5 D5) m,gl 0 mG]) (fun _ _ _ s=>(St.unpack (A:=[]) s).e 6 [0,1,2,3,4])).post id (fun _=>rfl) (fun _ _ _ _ s=>(St.pack (A:=[]) (s)).e 2 [1,0]))
 rcases cG b with ⟨M,b⟩|⟨M,b⟩
 ·obtain ⟨t,D,j,i,E⟩:=r
  obtain rfl:=Nat.eq_of_beq_eq_true M
  exact InvOk.mk (gC _) (((Z1o_ok b).perm (Pre':=[pk [aJ g [(iv j)] 3,aJ h1 [(iv i)] 3,aJ h2 [(.func (.func 127) [].toArray [].toArray)] 150],aO kT3 (.slice u B l) a.Args,aO kT3 (.slice A2 N2 D2) a.Dims,aO kT3 (.slice A3 N3 D3) a.Ints,aO kT3 (.slice A4 N4 D4) a.Data,aO bL (.slice A5 N5 D5) m,gl 0 mG]) (fun _ _ _ s=>(St.unpack (A:=[aJ g [(iv j)] 3,aJ h1 [(iv i)] 3,aJ h2 [(.func (.func 127) [].toArray [].toArray)] 150]) s).e 9 [0,1,2,3,4,5,6,7])).post id (fun _=>rfl) (fun _ _ _ _ s=>(St.pack (A:=[aJ g [(iv j)] 3,aJ h1 [(iv i)] 3,aJ h2 [(.func (.func 127) [].toArray [].toArray)] 150]) (((s).shr 0 R).e 4 [1,2,3,0])).e 2 [1,0]))
 rcases cG b with ⟨J,b⟩|⟨J,b⟩
 ·obtain ⟨t,D,j,i,E⟩:=r
  obtain rfl:=Nat.eq_of_beq_eq_true J
  exact InvOk.mk (gC _) (((Z1p_ok b).perm (Pre':=[pk [aJ g [(iv j)] 3,aJ h1 [(iv i)] 3,aJ h2 [(.func (.func 129) [].toArray [].toArray)] 150],aO kT3 (.slice u B l) a.Args,aO kT3 (.slice A2 N2 D2) a.Dims,aO kT3 (.slice A3 N3 D3) a.Ints,aO kT3 (.slice A4 N4 D4) a.Data,aO bL (.slice A5 N5 D5) m,gl 0 mG]) (fun _ _ _ s=>(St.unpack (A:=[aJ g [(iv j)] 3,aJ h1 [(iv i)] 3,aJ h2 [(.func (.func 129) [].toArray [].toArray)] 150]) s).e 9 [0,1,2,3,4,5,6,7])).post id (fun _=>rfl) (fun _ _ _ _ s=>(St.pack (A:=[aJ g [(iv j)] 3,aJ h1 [(iv i)] 3,aJ h2 [(.func (.func 129) [].toArray [].toArray)] 150]) (((s).shr 0 R).e 4 [1,2,3,0])).e 2 [1,0]))
 rcases cG b with ⟨F,b⟩|⟨F,b⟩
 ·obtain ⟨t,D,j,i,E⟩:=r
  obtain rfl:=Nat.eq_of_beq_eq_true F
  exact InvOk.mk (gC _) (((Z1q_ok b).perm (Pre':=[pk [aJ g [(iv j)] 3,aJ h1 [(iv i)] 3,aJ h2 [(.func (.func 131) [].toArray [].toArray)] 150],aO kT3 (.slice u B l) a.Args,aO kT3 (.slice A2 N2 D2) a.Dims,aO kT3 (.slice A3 N3 D3) a.Ints,aO kT3 (.slice A4 N4 D4) a.Data,aO bL (.slice A5 N5 D5) m,gl 0 mG]) (fun _ _ _ s=>(St.unpack (A:=[aJ g [(iv j)] 3,aJ h1 [(iv i)] 3,aJ h2 [(.func (.func 131) [].toArray [].toArray)] 150]) s).e 9 [0,1,2,3,4,5,6,7])).post id (fun _=>rfl) (fun _ _ _ _ s=>(St.pack (A:=[aJ g [(iv j)] 3,aJ h1 [(iv i)] 3,aJ h2 [(.func (.func 131) [].toArray [].toArray)] 150]) (((s).shr 0 R).e 4 [1,2,3,0])).e 2 [1,0]))
 have hV:cW r (g,h1,h2)=(.iface 145 (.agg [(aD r.s0),(.func (.func 149) [].toArray [(pt g 0),(pt h1 0),(pt h2 0)].toArray)].toArray)):=by simp only [cW,Z,Y,L,U,G,O,T,I,M,J,F,cond_false]
 have hE:eS r (g,h1,h2)=pk [aJ g [(iv r.i0)] 3,aJ h1 [(iv r.i1)] 3,aJ h2 [(.func (.func 133) [].toArray [].toArray)] 150]:=by simp only [eS,Z,Y,L,U,G,O,T,I,M,J,F,cond_false]
 rw [hV,hE]
 exact InvOk.mk (gC _) (((Z1r_ok b).perm (Pre':=[pk [aJ g [(iv r.i0)] 3,aJ h1 [(iv r.i1)] 3,aJ h2 [(.func (.func 133) [].toArray [].toArray)] 150],aO kT3 (.slice u B l) a.Args,aO kT3 (.slice A2 N2 D2) a.Dims,aO kT3 (.slice A3 N3 D3) a.Ints,aO kT3 (.slice A4 N4 D4) a.Data,aO bL (.slice A5 N5 D5) m,gl 0 mG]) (fun _ _ _ s=>(St.unpack (A:=[aJ g [(iv r.i0)] 3,aJ h1 [(iv r.i1)] 3,aJ h2 [(.func (.func 133) [].toArray [].toArray)] 150]) s).e 9 [0,1,2,3,4,5,6,7])).post id (fun _=>rfl) (fun _ _ _ _ s=>(St.pack (A:=[aJ g [(iv r.i0)] 3,aJ h1 [(iv r.i1)] 3,aJ h2 [(.func (.func 133) [].toArray [].toArray)] 150]) ((s).e 4 [1,2,3,0])).e 2 [1,0]))
theorem Ze_ok  {g:Node}{b:(List (List Int))}{mG:Int}{r:(List Int)×Bool}(l:Ze g b=some r) :
 FnOk Tryz.prog 59 [(.agg [(iv g.Op),(.slice A2 N2 D2),(.slice A3 N3 D3),(.slice A4 N4 D4),(aD g.Form),(.slice A5 N5 D5)].toArray),(.slice A7 N7 D7)] [aO kT3 (.slice A2 N2 D2) g.Args,aO kT3 (.slice A3 N3 D3) g.Dims,aO kT3 (.slice A4 N4 D4) g.Ints,aO kT3 (.slice A5 N5 D5) g.Data,ow (bL).share 23 (.slice A7 N7 D7) b,gl 0 mG] (fun (h:HH)=>((.tuple [(s3 h),(.bool r.2)].toArray),[aO kT3 (s3 h) r.1,ow (bL).share 23 (.slice A7 N7 D7) b])):=by
 unfold Ze at l
 refine aQ Tryz.func59 R 58 R R fun C V=>?_
 refine cM _ (tE 6 [4,0,1,2,3,5]) ?_
 refine cL 0 eW ?_
 rintro rfl
 refine cL 1 aA ?_
 rintro rfl
 refine cL 2 aA ?_
 rintro rfl
 refine cL 3 aA ?_
 rintro rfl
 refine cL 4 aA ?_
 rintro rfl
 let W0:=RR kT3 A2 D2 g.Args::RR kT3 A3 D3 g.Dims::RR kT3 A4 D4 g.Ints::RR kT3 A5 D5 g.Data::gl 0 mG::V
 refine aV ?_
 refine eB R fun b8=>?_
 refine aP ?_
 refine qM _ (tE 2 [1,0]) ?_
 let W1:=aJ b8 [(iv g.Op),(sc A2 g.Args D2),(sc A3 g.Dims D3),(sc A4 g.Ints D4),(aD g.Form),(sc A5 g.Data D5)] 54::W0
 refine aV ?_
 obtain ⟨D,a6,l⟩:=bd l
 refine aP ?_
 refine lC 0 Bg R (Zy_ok a6) R ?_
 rintro ⟨q,B,u⟩
 refine lO (vp _ R) ?_
 refine bG ?_
 obtain ⟨aw,G,l⟩:=bd l
 obtain ⟨a5,L,l⟩:=bd l
 refine cQ [(1,(sc A7 b D7)),(2,(pt b8 0)),(6,(cW D (q,B,u))),(27,(.bool (((Nat.beq D.t 0)||(!a5))||(decide ((g.Args.length:Int)>6)))))] (OO (bL).share 23 A7 D7 b::eS D (q,B,u)::W1) ?_ ?_
 rcases bo (Nat.beq D.t 0) with j | j
 refine dG 15 [] bP fun ht J=>?_
 refine dR 0 R (vp _ R) (dR 1 R (vz (.bool (Nat.beq D.t 0)) (mE R)) ?_)
 refine mu 2 [] ?_
 refine dD ?_
 exact qj (tE 2 [1,0])
 rcases bo ((Nat.beq D.t 0)||(!a5)) with a4 | a4
 refine dG 15 [] bP fun ht J=>?_
 refine dR 0 R (vp _ R) (dR 1 R (vz (.bool (Nat.beq D.t 0)) (mE R)) ?_)
 refine gT 2 [] ?_
 refine dW 4 R (b' j) (vp _ R) (d1 5 R (sj 1 (b' j) R R (jK (bN G (cS j))) R ?_))
 rintro _
 refine aC (aG (sL []) (d1 6 R (lM _ (fun w s=>((((((s.d 3 R).d 5 R).d 7 R).d 9 R).dg 11 R).e 7 [4,3,2,1,0,5,6])) ?_)))
 refine bY 5 R (b' j) za R (Z1v_ok (bN L (cS j))) R ?_
 rintro _
 refine aC (aG (sL []) ?_)
 refine ut 7 [] ?_
 refine dD ?_
 exact qj (tE 2 [1,0])
 refine dG 15 [] bP fun ht J=>?_
 refine dR 0 R (vp _ R) (dR 1 R (vz (.bool (Nat.beq D.t 0)) (mE R)) ?_)
 refine gT 2 [] ?_
 refine dW 4 R (b' j) (vp _ R) (d1 5 R (sj 1 (b' j) R R (jK (bN G (cS j))) R ?_))
 rintro _
 refine aC (aG (sL []) (d1 6 R (lM _ (fun w s=>((((((s.d 3 R).d 5 R).d 7 R).d 9 R).dg 11 R).e 7 [4,3,2,1,0,5,6])) ?_)))
 refine bY 5 R (b' j) za R (Z1v_ok (bN L (cS j))) R ?_
 rintro _
 refine aC (aG (sL []) ?_)
 refine ut 7 [] ?_
 refine dD ?_
 exact qj (tE 2 [1,0])
 rintro σ1
 refine bT ?_
 split at l
 refine cX ?_
 cases l
 exact jO (none,0,0) (fun w s=>((s.nilr kT3).e 9 [0,1]))
 refine cA ?_
 refine bM (K:=bL) (xs:=([]:List (List Int))) (vs:=[]) 0 R R kt fU mx R R R R R R ?_ R (fun ak ae=>?_)
 exact fun I h s=>(mZ).list [] I h s
 refine bG ?_
 refine bB (A:=((List (List Int)))×(HH)) (fun a=>Ze_J1 g D a.1=some r) (fun a=>[(2,(pt b8 0)),(6,(cW D (q,B,u))),(7,(s3 a.2))]) (fun a=>eS D (q,B,u)::ow (bL).share 23 (s3 a.2) a.1::OO (bL).share 23 A7 D7 b::W1) ?_ ?_
 refine cX ?_
 obtain ⟨e1,ag,a2⟩:=bd l
 refine bD (A:=HH×HH) ag (fun s a=>[(1,(sc A7 b D7)),(2,(pt b8 0)),(6,(cW D (q,B,u))),(7,(s3 a.1)),(30,(s3 a.2)),(31,(il g.Args)),(32,(iv s.2))]) (fun s a=>OO (bL).share 23 A7 D7 b::eS D (q,B,u)::ow (bL).share 23 (s3 a.1) s.1::aO kT3 (s3 a.2) g.Args::W1) ((ak,([]:List (List Int)).length,ae),(A2,g.Args.length,D2)) (aS R) (fun w s=>(((s.wk 0 R).d 4 R).e 4 [2,3,1,0])) ?_
 rintro ⟨i,m⟩ ⟨⟨O,al,M⟩,⟨au,aj,U⟩⟩ σ1 am l a8
 dsimp only [Ze_L1] at l
 refine bH 2 eW (fun (J:al=i.length)=>?_)
 subst J
 refine bH 3 aA (fun (J:aj=g.Args.length)=>?_)
 subst J
 refine bV ?_
 split at l
 refine bV ?_
 obtain ⟨a9,l⟩:=gd l
 refine aE (bC 3 aA (show 0<g.Args.length by have:=a9; omega) (fun T o42 ha=>?_))
 subst ha
 refine dN ?_
 refine cQ [(1,(sc A7 b D7)),(2,(pt b8 0)),(6,(cW D (q,B,u))),(7,(sc O i M)),(9,(iv (ix g.Args m))),(30,(sc (ad T o42) g.Args U)),(31,(il g.Args)),(32,(iv m)),(43,(.bool ((decide ((ix g.Args m)<0))||(decide ((ix g.Args m)≥(b.length:Int))))))] (OO (bL).share 23 A7 D7 b::eS D (q,B,u)::OO (bL).share 23 O M i::RR kT3 (ad T o42) U g.Args::W1) ?_ ?_
 refine bG ?_
 rcases bo (decide ((ix g.Args m)<0)) with Z | Z
 refine bV ?_
 exact qj tI
 refine bV ?_
 exact qj tI
 rintro σ1
 refine bT ?_
 split at l
 refine iB ?_
 cases l
 obtain rfl:=a8 _ R
 have l:=a2
 refine aP ?_
 cases l
 exact jO (none,0,0) (fun w s=>((s.nilr kT3).e 11 [0,1]))
 refine aP ?_
 obtain ⟨E,l⟩:=gd l
 obtain ⟨Y,l⟩:=gd l
 refine bG ?_
 refine bC 0 eW (show 0<b.length by have:=E; omega) (fun ao o47 ha=>?_)
 subst ha
 refine bT ?_
 refine wx (K:=(bL).share) (fo:=0) 0 (ix g.Args m) R R cO dT23.own (fun _ _=>R) R R E.1 E.2 ?_
 rintro ⟨a7,a1⟩
 refine lM _ (fun w s=>(s.d 0 R)) ?_
 refine bM (K:=(bL).share) (xs:=([(ix b (ix g.Args m))]:List (List Int))) (vs:=[(sc a7 (ix b (ix g.Args m)) a1)]) 1 R R kt fU mx R R R R R R ?_ R (fun ap ar=>?_)
 exact fun I h s=>(sw).list [((sc a7 (ix b (ix g.Args m)) a1),(ix b (ix g.Args m)))] I h s
 refine lM _ (tE 6 [4,0,1,2,3,5]) ?_
 refine eD (K:=(bL).share) 5864062014805 R R kt fU uz (Zr.zk (Zr.share zT23) mx) R R R R R R dP Y (fun a0 a3=>(lN (OO (bL).share 23 a0 a3 (i++([(ix b (ix g.Args m))]:List (List Int)))::_::_::_::_::W1) ?_))
 refine cZ ?_
 cases l
 exact qA ((a0,(i++([(ix b (ix g.Args m))]:List (List Int))).length,a3),((ad T o42),g.Args.length,U)) (tE 5 [2,3,0,4])
 refine aP ?_
 cases l
 obtain rfl:=a8 _ R
 have l:=a2
 refine aV ?_
 exact qI (i,(O,i.length,M)) l (tE 4 [1,2,0])
 rintro ⟨F,⟨an,ab,av⟩⟩ σ1 l
 dsimp only [Ze_J1] at l
 refine bH 1 eW (fun (J:ab=F.length)=>?_)
 subst J
 refine bT ?_
 obtain ⟨ac,aa,l⟩:=bd l
 refine aE (lO (vp _ R) ?_)
 refine aV ?_
 refine iT (fun w s=>s.shs 1 R) (lM _ (fun w s=>(((((((s.d 4 R).d 6 R).d 8 R).d 10 R).d 4 R).dg 13 R).e 9 [7,5,4,3,2,1,0,6,8])) ?_)
 refine sj 7 R R R (lc aa) R ?_
 rintro ⟨ah,aq,ai⟩
 refine aL 0 aA ?_
 rintro rfl
 refine dN ?_
 cases l
 exact jO (ah,ac.1.length,ai) (tE 10 [0,3])
theorem Zi_ok  {g1:Graph}{mG:Int}{r:(List (List Int))×Bool}(b:Zi g1=some r) :
 FnOk Tryz.prog 36 [(.agg [(.slice A2 N2 D2),(.slice A3 N3 D3)].toArray)] [aO cJ (.slice A2 N2 D2) g1.Nodes,aO kT3 (.slice A3 N3 D3) g1.Outs,gl 0 mG] (fun (h:HH)=>((.tuple [(s3 h),(.bool r.2)].toArray),[ow (bL).share 23 (s3 h) r.1])):=by
 unfold Zi at b
 refine aQ Tryz.func36 R 60 R R fun C V=>?_
 refine cL 0 aA ?_
 rintro rfl
 refine cL 1 aA ?_
 rintro rfl
 let W0:=RR cJ A2 D2 g1.Nodes::RR kT3 A3 D3 g1.Outs::gl 0 mG::V
 refine cN W0 ?_
 refine aV ?_
 refine eB R fun G=>?_
 refine aP ?_
 let B:=aJ G [(sc A2 g1.Nodes D2),(sc A3 g1.Outs D3)] 30::W0
 refine qN B ?_
 refine aP ?_
 refine cQ [(1,(pt G 0)),(20,(.bool ((decide ((g1.Nodes.length:Int)>200))||(decide ((g1.Outs.length:Int)>40)))))] (B) ?_ ?_
 refine bV ?_
 rcases bo (decide ((g1.Nodes.length:Int)>200)) with ah | ah
 refine bV ?_
 exact qj tI
 refine bV ?_
 exact qj tI
 rintro σ1
 refine bT ?_
 split at b
 refine cX ?_
 cases b
 exact jO (none,0,0) (fun w s=>((s.nilo (bL).share 23).e 5 [0]))
 refine cA ?_
 refine bM (K:=bL) (xs:=([]:List (List Int))) (vs:=[]) 0 R R kt fU mx R R R R R R ?_ R (fun A7 D7=>?_)
 exact fun I h s=>(mZ).list [] I h s
 refine bG ?_
 refine bB (A:=((List (List Int)))×(HH)) (fun a=>Zi_J1 g1 a.1=some r) (fun a=>[(1,(pt G 0)),(4,(s3 a.2))]) (fun a=>ow (bL).share 23 (s3 a.2) a.1::B) ?_ ?_
 refine cX ?_
 obtain ⟨e1,ag,Z⟩:=bd b
 refine bD (A:=HH) ag (fun s a=>[(1,(pt G 0)),(4,(s3 a)),(23,(sc A2 g1.Nodes D2)),(24,(il g1.Nodes)),(25,(iv s.2))]) (fun s a=>ow (bL).share 23 (s3 a) s.1::B) (A7,([]:List (List Int)).length,D7) (aS R) (fun w s=>(s.wk 0 R)) ?_
 rintro ⟨q,g⟩ ⟨am,ae,aj⟩ σ1 an b ab
 dsimp only [Zi_L1] at b
 refine bH 0 eW (fun (hn:ae=q.length)=>?_)
 subst hn
 refine bV ?_
 split at b
 refine bV ?_
 obtain ⟨u,b⟩:=gd b
 refine aE (bC 2 aA (show 0<g1.Nodes.length by have:=u; omega) (fun av o30 ha=>?_))
 subst ha
 refine bT ?_
 refine gS (K:=cJ) 2 g dT54.dec R u.1 u.2 ?_
 rintro ⟨-,⟨a4,a3⟩,⟨a6,a0⟩,⟨a2,a5⟩,-,⟨O,a9⟩⟩
 refine lO (vz (.agg [(iv (ix g1.Nodes g).Op),(sc a4 ((ix g1.Nodes g).Args) a3),(sc a6 ((ix g1.Nodes g).Dims) a0),(sc a2 ((ix g1.Nodes g).Ints) a5),(aD (ix g1.Nodes g).Form),(sc O ((ix g1.Nodes g).Data) a9)].toArray) (eK (fo:=0) 0 sE lL R R R R)) (bF R R sB (fun al=>(aK 0 R R lL R R R R R R (lN (aJ al [(iv (ix g1.Nodes g).Op),(sc a4 ((ix g1.Nodes g).Args) a3),(sc a6 ((ix g1.Nodes g).Dims) a0),(sc a2 ((ix g1.Nodes g).Ints) a5),(aD (ix g1.Nodes g).Form),(sc O ((ix g1.Nodes g).Data) a9)] 54::_::_::_::_::_::_::B) ?_))))
 refine aP ?_
 obtain ⟨m,Y,b⟩:=bd b
 refine aP ?_
 refine lM _ (fun w s=>((((((s.d 2 R).d 4 R).d 6 R).d 8 R).dg 14 R).e 12 [4,3,2,1,11,0,5,6,7,8,9,10])) ?_
 refine lC 6 Bi R (Ze_ok Y) R ?_
 rintro ⟨U,ap,L⟩
 refine aL 0 aA ?_
 rintro rfl
 refine lO (vT R) ?_
 refine lb ?_
 split at b
 refine iB ?_
 cases b
 obtain rfl:=ab _ R
 have b:=Z
 refine aP ?_
 cases b
 exact jO (none,0,0) (fun w s=>((s.nilo (bL).share 23).e 13 [0]))
 refine aP ?_
 obtain ⟨M,b⟩:=gd b
 refine aP ?_
 refine lM _ (fun w s=>(s.d 0 R)) ?_
 refine bM (K:=(bL).share) (xs:=([m.1]:List (List Int))) (vs:=[(sc U m.1 L)]) 1 R R kt fU mx R R R R R R ?_ R (fun ar au=>?_)
 exact fun I h s=>(sw).list [((sc U m.1 L),m.1)] I h s
 refine lM _ (fun w s=>(s.f 9 [2,1,0,2,3,6])) ?_
 refine eD (K:=(bL).share) 5864062014805 R R kt fU uz (Zr.zk (Zr.share zT23) mx) R R R R R R dP M (fun J a1=>(lN (OO (bL).share 23 J a1 (q++([m.1]:List (List Int)))::_::_::_::_::_::_::_::B) ?_))
 refine cZ ?_
 cases b
 exact qA (J,(q++([m.1]:List (List Int))).length,a1) (tE 8 [0])
 refine aP ?_
 cases b
 obtain rfl:=ab _ R
 have b:=Z
 refine aV ?_
 exact qI (q,(am,q.length,aj)) b tI
 rintro ⟨i,⟨j,ak,l⟩⟩ σ1 b
 dsimp only [Zi_J1] at b
 refine bH 0 eW (fun (hn:ak=i.length)=>?_)
 subst hn
 refine aM (bB (A:=(Unit)×(Unit)) (fun a=>Zi_J2 i=some r) (fun a=>[(4,(sc j i l))]) (fun a=>OO (bL).share 23 j l i::B) ?_ ?_)
 refine cX ?_
 obtain ⟨e2,ai,a7⟩:=bd b
 refine bD (A:=HH) ai (fun s a=>[(1,(pt G 0)),(4,(sc j i l)),(43,(s3 a)),(44,(il g1.Outs)),(45,(iv s))]) (fun s a=>OO (bL).share 23 j l i::aO kT3 (s3 a) g1.Outs::B) (A3,g1.Outs.length,D3) (aS R) (fun w s=>((s.d 3 R).e 2 [1,0])) ?_
 rintro D ⟨aq,ac,F⟩ σ1 ao b a8
 dsimp only [Zi_L2] at b
 refine bH 1 aA (fun (hn:ac=g1.Outs.length)=>?_)
 subst hn
 refine bV ?_
 split at b
 refine bV ?_
 obtain ⟨T,b⟩:=gd b
 refine aE (bC 1 aA (show 0<g1.Outs.length by have:=T; omega) (fun E o59 ha=>?_))
 subst ha
 refine bV ?_
 refine cQ [(1,(pt G 0)),(4,(sc j i l)),(43,(sc (ad E o59) g1.Outs F)),(44,(il g1.Outs)),(45,(iv D)),(57,(.bool ((decide ((ix g1.Outs D)<0))||(decide ((ix g1.Outs D)≥(g1.Nodes.length:Int))))))] (OO (bL).share 23 j l i::RR kT3 (ad E o59) F g1.Outs::B) ?_ ?_
 refine bG ?_
 rcases bo (decide ((ix g1.Outs D)<0)) with aa | aa
 refine dN ?_
 exact qj tI
 refine dN ?_
 exact qj tI
 rintro σ1
 refine bT ?_
 split at b
 refine cU ?_
 cases b
 obtain rfl:=a8 _ R
 have b:=a7
 refine aP ?_
 cases b
 exact jO (none,0,0) (fun w s=>((s.nilo (bL).share 23).e 7 [0]))
 refine cZ ?_
 cases b
 exact qA ((ad E o59),g1.Outs.length,F) tI
 refine aP ?_
 cases b
 obtain rfl:=a8 _ R
 have b:=a7
 refine aV ?_
 exact qI ((),()) b (tE 2 [0])
 rintro ⟨_,_⟩ σ1 b
 dsimp only [Zi_J2] at b
 refine cZ ?_
 cases b
 exact jO (j,i.length,l) (tE 5 [0])
theorem Z2j_ok  {g1:Graph}{mG:Int}{r:Bool}(a:Z2j g1=some r) :
 FnOk Tryz.prog 12 [(.agg [(.slice A2 N2 D2),(.slice A3 N3 D3)].toArray)] [aO cJ (.slice A2 N2 D2) g1.Nodes,aO kT3 (.slice A3 N3 D3) g1.Outs,gl 0 mG] (fun (h:Unit)=>((.bool r),[])):=by
 unfold Z2j at a
 refine aQ Tryz.func12 R 11 R R fun C V=>?_
 refine cL 0 aA ?_
 rintro rfl
 refine cL 1 aA ?_
 rintro rfl
 let g:=RR cJ A2 D2 g1.Nodes::RR kT3 A3 D3 g1.Outs::gl 0 mG::V
 refine cN g ?_
 refine aV ?_
 refine eB R fun j=>?_
 refine aV ?_
 let i:=aJ j [(sc A2 g1.Nodes D2),(sc A3 g1.Outs D3)] 30::g
 refine qN i ?_
 refine aV ?_
 obtain ⟨l,b,a⟩:=bd a
 refine aV ?_
 refine lM _ (fun w s=>((((s.d 1 R).d 3 R).dg 5 R).e 3 [2,1,0])) ?_
 refine lC 3 Bj R (Zi_ok b) R ?_
 rintro ⟨A7,N7,D7⟩
 refine aL 0 eW ?_
 rintro rfl
 refine lO (vT R) ?_
 refine lb ?_
 cases a
 exact qF () (tE 5 [])
theorem Zc_ok  {g1:Graph}{r:(List Bool)}(e:Zc g1=some r) :
 FnOk Tryz.prog 42 [(.agg [(.slice A2 N2 D2),(.slice A3 N3 D3)].toArray)] [aO cJ (.slice A2 N2 D2) g1.Nodes,aO kT3 (.slice A3 N3 D3) g1.Outs] (fun (h:HH)=>((s3 h),[ow iy 4 (s3 h) r])):=by
 unfold Zc at e
 refine aQ Tryz.func42 R 58 R R fun C V=>?_
 refine cL 0 aA ?_
 rintro rfl
 refine cL 1 aA ?_
 rintro rfl
 let W0:=RR cJ A2 D2 g1.Nodes::RR kT3 A3 D3 g1.Outs::V
 refine cN W0 ?_
 refine aV ?_
 refine eB R fun G=>?_
 refine aV ?_
 let F:=aJ G [(sc A2 g1.Nodes D2),(sc A3 g1.Outs D3)] 30::W0
 refine qN F ?_
 refine aV ?_
 obtain ⟨M,e⟩:=gd e
 refine bG ?_
 refine fD (K:=iy) (m:=(g1.Nodes.length:Int)) (z:=false) R R m' rK BW (Zr.zk BS BX) (by decide) R R M.1 M.2.1 M.2.2 (fun A6 D6=>(lS R (aC (aI (aM (bB (A:=((List Bool))×(Unit)) (fun a=>Zc_J1 g1 a.1=some r) (fun a=>[(1,(pt G 0)),(3,(sc A6 (List.replicate (g1.Nodes.length:Int).toNat false) D6))]) (fun a=>ow iy 4 (.slice A6 (List.replicate (g1.Nodes.length:Int).toNat false).length D6) a.1::F) ?_ ?_))))))
 refine cX ?_
 obtain ⟨e1,a0,a4⟩:=bd e
 refine bD (A:=Unit) a0 (fun s a=>[(1,(pt G 0)),(3,(sc A6 (List.replicate (g1.Nodes.length:Int).toNat false) D6)),(14,(sc A3 g1.Outs D3)),(15,(il g1.Outs)),(16,(iv s.2))]) (fun s a=>ow iy 4 (.slice A6 (List.replicate (g1.Nodes.length:Int).toNat false).length D6) s.1::F) () (aS R) tI ?_
 rintro ⟨a2,Z⟩ _ σ1 ai e ae
 dsimp only [Zc_L1] at e
 refine bV ?_
 split at e
 refine bV ?_
 obtain ⟨U,e⟩:=gd e
 refine aE (bC 3 aA (show 0<g1.Outs.length by have:=U; omega) (fun an o21 E=>?_))
 subst E
 refine cA ?_
 obtain ⟨q,e⟩:=gd e
 refine aP ?_
 refine bC 0 aB (show 0<(List.replicate (g1.Nodes.length:Int).toNat false).length by have:=q; omega) (fun ax o24 E=>?_)
 subst E
 refine bT ?_
 refine dV (K:=iy) (x':=true) 0 (ix g1.Outs Z) R R rK R R q.1 q.2 ?_ ?_
 exact fun I h s=>(Ar).put I h () true s
 refine dN ?_
 cases e
 exact qA () tI
 refine aP ?_
 cases e
 obtain rfl:=ae _ R
 have e:=a4
 refine aV ?_
 exact qI (a2,()) e tI
 rintro ⟨av,_⟩ σ1 e
 dsimp only [Zc_J1] at e
 refine aM (bB (A:=((List Bool))×(Unit)) (fun a=>Zc_J4 a.1=some r) (fun a=>[(3,(sc A6 (List.replicate (g1.Nodes.length:Int).toNat false) D6))]) (fun a=>ow iy 4 (.slice A6 (List.replicate (g1.Nodes.length:Int).toNat false).length D6) a.1::F) ?_ ?_)
 refine cU ?_
 obtain ⟨e2,a6,a9⟩:=bd e
 refine bD (A:=Unit) a6 (fun s a=>[(1,(pt G 0)),(3,(sc A6 (List.replicate (g1.Nodes.length:Int).toNat false) D6)),(6,(iv s.2))]) (fun s a=>ow iy 4 (.slice A6 (List.replicate (g1.Nodes.length:Int).toNat false).length D6) s.1::F) () (aS R) tI ?_
 rintro ⟨a1,b⟩ _ σ1 T e ac
 dsimp only [Zc_L2] at e
 refine dN ?_
 split at e
 refine bG ?_
 refine bB (A:=((List Bool))×(Unit)) (fun a=>Zc_J3 b a.1=some T) (fun a=>[(1,(pt G 0)),(3,(sc A6 (List.replicate (g1.Nodes.length:Int).toNat false) D6)),(6,(iv b))]) (fun a=>ow iy 4 (.slice A6 (List.replicate (g1.Nodes.length:Int).toNat false).length D6) a.1::F) ?_ ?_
 refine aV ?_
 obtain ⟨B,e⟩:=gd e
 refine bG ?_
 refine bC 2 aA (show 0<g1.Nodes.length by have:=B; omega) (fun a7 o70 E=>?_)
 subst E
 refine bT ?_
 refine lO (vz (.pointer (some ⟨a7,o70+b.toNat*6+1,none⟩)) (j4 mw R R)) (gS (K:=cJ) 2 b dT54.dec R B.1 B.2 ?_)
 rintro ⟨-,⟨aa,ag⟩,⟨al,ao⟩,⟨am,ap⟩,-,⟨aw,aq⟩⟩
 refine lO (eH (fo:=1) 0 cO R R R) ?_
 refine cA ?_
 obtain ⟨e3,a5,a8⟩:=bd e
 refine bD (A:=HH) a5 (fun s a=>[(1,(pt G 0)),(3,(sc A6 (List.replicate (g1.Nodes.length:Int).toNat false) D6)),(6,(iv b)),(37,(s3 a)),(38,(il ((ix g1.Nodes b).Args))),(39,(iv s.2))]) (fun s a=>ow iy 4 (.slice A6 (List.replicate (g1.Nodes.length:Int).toNat false).length D6) s.1::aO kT3 (s3 a) (ix g1.Nodes b).Args::F) (aa,((ix g1.Nodes b).Args).length,ag) (aS R) (tE 6 [5,1]) ?_
 rintro ⟨g,j⟩ ⟨ar,a3,L⟩ σ1 ak e Y
 dsimp only [Zc_L3] at e
 refine bH 1 aA (fun (hn:a3=((ix g1.Nodes b).Args).length)=>?_)
 subst hn
 refine bV ?_
 split at e
 refine bV ?_
 obtain ⟨O,e⟩:=gd e
 refine aE (bC 1 aA (show 0<((ix g1.Nodes b).Args).length by have:=O; omega) (fun J o92 E=>?_))
 subst E
 refine cA ?_
 obtain ⟨l,e⟩:=gd e
 obtain ⟨u,e⟩:=gd e
 refine cQ [(1,(pt G 0)),(3,(sc A6 (List.replicate (g1.Nodes.length:Int).toNat false) D6)),(6,(iv b)),(37,(sc (ad J o92) ((ix g1.Nodes b).Args) L)),(38,(il ((ix g1.Nodes b).Args))),(39,(iv j))] (ow iy 4 (.slice A6 (List.replicate (g1.Nodes.length:Int).toNat false).length D6) (g.set (ix ((ix g1.Nodes b).Args) j).toNat ((ix g (ix ((ix g1.Nodes b).Args) j))||(ix g b)))::RR kT3 (ad J o92) L ((ix g1.Nodes b).Args)::F) ?_ ?_
 refine cA ?_
 refine bC 0 aB (show 0<(List.replicate (g1.Nodes.length:Int).toNat false).length by have:=l; omega) (fun au o95 E=>?_)
 subst E
 refine bT ?_
 refine lO (vz (.bool (ix g (ix ((ix g1.Nodes b).Args) j))) (hW (K:=iy) (fo:=0) (pr:=fun x=>(.bool x)) 0 (ix ((ix g1.Nodes b).Args) j) y8 (dT4.leaf fun _ _=>R) aB R l.1 l.2)) (lB R ?_)
 rcases bo (ix g (ix ((ix g1.Nodes b).Args) j)) with i | i
 refine bG ?_
 refine lO (fA (ix g b) R i) ?_
 refine bT ?_
 refine dV (K:=iy) (x':=((ix g (ix ((ix g1.Nodes b).Args) j))||(ix g b))) 0 (ix ((ix g1.Nodes b).Args) j) R R rK R R l.1 l.2 ?_ ?_
 exact fun I h s=>(Ar).put I h () ((ix g (ix ((ix g1.Nodes b).Args) j))||(ix g b)) s
 refine bT ?_
 exact qj tI
 refine aV ?_
 refine lW (b' i) (eI m' rK R R (u i)) (lW (b' i) (vz (.bool (ix g b)) (hW (K:=iy) (fo:=0) (pr:=fun x=>(.bool x)) 0 b y8 (dT4.leaf fun _ _=>R) aB R (u i).1 (u i).2)) (lO (fT R i R) ?_))
 refine bT ?_
 refine dV (K:=iy) (x':=((ix g (ix ((ix g1.Nodes b).Args) j))||(ix g b))) 0 (ix ((ix g1.Nodes b).Args) j) R R rK R R l.1 l.2 ?_ ?_
 exact fun I h s=>(Ar).put I h () ((ix g (ix ((ix g1.Nodes b).Args) j))||(ix g b)) s
 refine bT ?_
 exact qj tI
 rintro σ1
 obtain ⟨ab,D,e⟩:=bd e
 replace D:=Option.some.inj D
 refine qM (ow iy 4 (.slice A6 (List.replicate (g1.Nodes.length:Int).toNat false).length D6) ab::_::F) (fun w s=>by rw [← D]; exact s) ?_
 refine bV ?_
 cases e
 exact qA ((ad J o92),((ix g1.Nodes b).Args).length,L) tI
 refine aP ?_
 cases e
 obtain rfl:=Y _ R
 have e:=a8
 refine aP ?_
 exact qI (g,()) e (tE 2 [0])
 rintro ⟨aj,_⟩ σ1 e
 dsimp only [Zc_J3] at e
 refine cA ?_
 cases e
 exact qA () tI
 refine aP ?_
 cases e
 obtain rfl:=ac _ R
 have e:=a9
 refine aV ?_
 exact qI (a1,()) e tI
 rintro ⟨ah,_⟩ σ1 e
 dsimp only [Zc_J4] at e
 refine dN ?_
 cases e
 exact qF (A6,(List.replicate (g1.Nodes.length:Int).toNat false).length,D6) (tE 4 [0])
theorem Z0a_ok  {g1:Graph}{mG:Int}{r:(List Int)}(b:Z0a g1=some r) :
 FnOk Tryz.prog 26 [(.agg [(.slice A2 N2 D2),(.slice A3 N3 D3)].toArray)] [aO cJ (.slice A2 N2 D2) g1.Nodes,aO kT3 (.slice A3 N3 D3) g1.Outs,gl 0 mG] (fun (h:HH)=>((.slice h.1 h.2.1 h.2.2),[ow kT3 3 (.slice h.1 h.2.1 h.2.2) r])):=by
 unfold Z0a at b
 refine aQ Tryz.func26 R 25 R R fun C V=>?_
 refine cN (_::_::_::V) ?_
 refine cL 0 aA ?_
 rintro rfl
 refine cL 1 aA ?_
 rintro rfl
 let W0:List HP:=RR cJ A2 D2 g1.Nodes::RR kT3 A3 D3 g1.Outs::gl 0 mG::V
 refine cN W0 ?_
 refine aM (aE (eB R (fun b4=>(lS R (aC ?_)))))
 let l:List HP:=aJ b4 [(sc A2 g1.Nodes D2),(sc A3 g1.Outs D3)] 30::W0
 refine qN l ?_
 refine aI (aM (aM ?_))
 obtain ⟨r5,a6,b⟩:=bd b
 refine aE (lO (vz (.agg [(sc A2 g1.Nodes D2),(sc A3 g1.Outs D3)].toArray) (dJ 0 po nD R R R R)) (lM (RR cJ A2 D2 g1.Nodes::RR kT3 A3 D3 g1.Outs::gl 0 mG::l) (fun w s=>((((s.d 1 R).d 3 R).dg 5 R).e 3 [2,1,0])) ?_))
 refine lC 3 Bk R (Z2j_ok a6) R ?_
 rintro _
 refine lN l ?_
 refine lO (rJ R) (aC (aI ?_))
 rcases cG b with ⟨F,b⟩|⟨F,b⟩
 refine bZ R F (aM (aE (lS R (aC (aI (bW (cE ?_)))))))
 obtain rfl:=so b
 exact qF (none,0,0) (fun w s=>((s.nilo kT3 3).e 5 [0]))
 refine bJ R F (cP (aI (aM (aE (bM (K:=kT3) (xs:=([]:List Int)) (vs:=[]) 0 R R bK cC gF R R R R R R ?_ R (fun A8 D8=>?_))))))
 exact fun I h s=>(gD).list [] I h s
 refine lN (OO kT3 3 A8 D8 ([]:List Int)::l) ?_
 refine lS R (aC (aI (aM (bB (A:=((List Int))×(HH)) (fun a=>Z0a_J3 a.1=some r) (fun a=>[(3,(.slice a.2.1 a.2.2.1 a.2.2.2))]) (fun a=>ow kT3 3 (.slice a.2.1 a.2.2.1 a.2.2.2) a.1::l) ?_ ?_))))
 refine aM ?_
 obtain ⟨m,U,b⟩:=bd b
 refine aE (lO (vz (.agg [(sc A2 g1.Nodes D2),(sc A3 g1.Outs D3)].toArray) (dJ 1 po nD R R R R)) (lM (RR cJ A2 D2 g1.Nodes::RR kT3 A3 D3 g1.Outs::ow _ _ _ _::l) (fun w s=>(((s.d 2 R).d 4 R).e 3 [1,0,2])) ?_))
 refine lC 2 Bt R (Zc_ok U) R ?_
 rintro ⟨A11,N11,D11⟩
 refine lN (ow iy 4 (.slice A11 N11 D11) m::_::l) ?_
 refine aL 0 aB ?_
 rintro rfl
 refine lO (jG m' R) (lI R (aC (aI (dC ?_))))
 obtain ⟨e1,a2,a3⟩:=bd b
 refine bD (A:=HH) a2 (fun s a=>[(3,(.slice a.1 a.2.1 a.2.2)),(11,(sc A11 m D11)),(12,(il m)),(13,(iv s.2))]) (fun s a=>ow kT3 3 (.slice a.1 a.2.1 a.2.2) s.1::OO iy 4 A11 D11 m::l) (A8,([]:List Int).length,D8) (aS R) (fun w s=>(s.e 2 [1,0])) ?_
 rintro ⟨i,g⟩ ⟨E,Z,G⟩ σ1 B b ab
 replace b:Z0a_L1 m i g=some B:=b
 unfold Z0a_L1 at b
 refine bH 0 aB (fun (M:Z=i.length)=>?_)
 subst M
 refine aM (aE (lO (mW R R) (aC (aI (aM ?_)))))
 rcases cG b with ⟨q,b⟩|⟨q,b⟩
 refine bZ R q (cP (aI (aM (bB (A:=((List Int))×(HH)) (fun a=>Z0a_J2 g a.1=some B) (fun a=>[(3,(.slice a.2.1 a.2.2.1 a.2.2.2)),(11,(sc A11 m D11)),(12,(il m)),(13,(iv g))]) (fun a=>ow kT3 3 (.slice a.2.1 a.2.2.1 a.2.2.2) a.1::OO iy 4 A11 D11 m::l) ?_ ?_))))
 refine dC (aM ?_)
 obtain ⟨j,b⟩:=gd b
 refine aE (lI R (bC 1 aB (show 0<m.length by have:=j; omega) (fun a9 o28 ha=>?_)))
 subst ha
 refine lO (eI m' rK R R j) (lO (vz (.bool (ix m g)) (hW (K:=iy) (fo:=0) (pr:=fun x=>(.bool x)) 1 g y8 (dT4.leaf fun _ _=>R) aB R j.1 j.2)) (lI R (lB R (aC (aI (aM (aE (lB R (aC (aI ?_))))))))))
 rcases cG b with ⟨u,b⟩|⟨u,b⟩
 refine bZ R u ?_
 obtain ⟨O,b⟩:=gd b
 refine aE (lS R (lI R (bM (K:=kT3) (xs:=([g]:List Int)) (vs:=[(iv g)]) 0 R R bK cC gF R R R R R R ?_ R (fun Y a4=>?_))))
 exact fun I h s=>(gD).list [((),g)] I h s
 refine lN (OO kT3 3 Y a4 ([g]:List Int)::OO kT3 3 E G i::OO iy 4 (ad a9 o28) D11 m::l) ?_
 refine lM (ow _ _ _ _::ow _ _ _ _::ow _ _ _ _::l) (fun w s=>(s.e 3 [1,0,2])) ?_
 refine eD (K:=kT3) 17592186044416 R R bK cC kl (Zr.zk zT3 gF) R R R R R R dP O (fun T L=>(lN (OO kT3 3 T L (i++([g]:List Int))::_::l) ?_))
 refine lS R (aC (dO ?_))
 exact qI ((i++([g]:List Int)),(T,(i++([g]:List Int)).length,L)) b (fun w s=>s)
 refine bJ R u (cP (dO ?_))
 exact qI (i,(E,i.length,G)) b (fun w s=>s)
 rintro ⟨J,⟨a0,a5,aa⟩⟩ σ1 b
 replace b:Z0a_J2 g J=some B:=b
 unfold Z0a_J2 at b
 refine bH 0 aB (fun (M:a5=J.length)=>?_)
 subst M
 refine aE (lO (kK R R) (lI R (aC ?_)))
 obtain rfl:=so b
 exact qA (a0,J.length,aa) (fun w s=>s)
 refine bJ R q (gR (dZ ?_))
 obtain rfl:=so b
 obtain rfl:=ab _ R
 have b:=a3
 refine dZ (fM ?_)
 exact qI (i,(E,i.length,G)) b (fun w s=>(s.e 2 [0]))
 rintro ⟨D,⟨a1,a8,a7⟩⟩ σ1 b
 replace b:Z0a_J3 D=some r:=b
 unfold Z0a_J3 at b
 refine bH 0 aB (fun (M:a8=D.length)=>?_)
 subst M
 refine aM (aE (lS R (lS R (aC (aI (bW ?_))))))
 obtain rfl:=so b
 exact qF (a1,D.length,a7) (fun w s=>(s.e 5 [0]))
end Go.Proofs.YtmpnollfdpdipaaGreat
