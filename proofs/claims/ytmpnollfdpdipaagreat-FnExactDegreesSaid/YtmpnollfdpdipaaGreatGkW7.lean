import Derived.Test.YtmpnollfdpdipaaGreatGkF
import Derived.Test.YtmpnollfdpdipaaGreatGkW1
import Derived.Test.YtmpnollfdpdipaaGreatGkW5
import Derived.Test.YtmpnollfdpdipaaGreatGkW6
set_option linter.unusedVariables false
set_option maxRecDepth 20000
namespace Go.Proofs.YtmpnollfdpdipaaGreat
open Go Go.Pg
variable {A2 A3 A4 A5 A6 A7 A9 A10 A11 A12 A14:Option Addr}{D2 D3 D4 D5 D6 D7 D9 D10 D11 D12 D14 N2 N3 N4 N5 N6 N7 N9 N10 N11 N12 N14:Nat}
theorem Z1q_ok  {k1:shiftKind}{I:Int}{F:Int}{b:Node}{a:(List (List Int))}{l:Nat}{j:Nat}{m:Nat}{r:(List Int)×Bool}(i:Z1q k1 I F b a=some r) :
 FnOk Tryz.prog 220 [(.agg [(aD k1.use),(.func (.func 149) [].toArray [(pt l 0),(pt j 0),(pt m 0)].toArray)].toArray),(.agg [(iv b.Op),(.slice A9 N9 D9),(.slice A10 N10 D10),(.slice A11 N11 D11),(aD b.Form),(.slice A12 N12 D12)].toArray),(.slice A14 N14 D14)] [aJ l [(iv I)] 3,aJ j [(iv F)] 3,aJ m [(.func (.func 127) [].toArray [].toArray)] 150,aN kT3 (.slice A9 N9 D9) b.Args,aN kT3 (.slice A10 N10 D10) b.Dims,aN kT3 (.slice A11 N11 D11) b.Ints,aN kT3 (.slice A12 N12 D12) b.Data,aN bL (.slice A14 N14 D14) a] (fun (h:HH)=>((.tuple [(s3 h),(.bool r.2)].toArray),[ow kT3 3 (s3 h) r.1,aJ l [(iv I)] 3,aJ j [(iv F)] 3,aJ m [(.func (.func 127) [].toArray [].toArray)] 150])):=by
 unfold Z1q at i
 refine aQ Tryz.func220 R 27 R R fun C V=>?_
 refine cL 3 aA ?_
 rintro rfl
 refine cL 4 aA ?_
 rintro rfl
 refine cL 5 aA ?_
 rintro rfl
 refine cL 6 aA ?_
 rintro rfl
 refine cL 7 aA ?_
 rintro rfl
 let J:=RR kT3 A9 D9 b.Args::RR kT3 A10 D10 b.Dims::RR kT3 A11 D11 b.Ints::RR kT3 A12 D12 b.Data::RR bL A14 D14 a::V
 refine aU ?_
 refine eF R fun u=>?_
 refine eF R fun D=>?_
 refine aP ?_
 refine qM _ (fun w s=>(s.f 5 [2,3,0,2])) ?_
 let W1:=aJ D [(iv b.Op),(sc A9 b.Args D9),(sc A10 b.Dims D10),(sc A11 b.Ints D11),(aD b.Form),(sc A12 b.Data D12)] 54::aJ u [(aD k1.use),(.func (.func 149) [].toArray [(pt l 0),(pt j 0),(pt m 0)].toArray)] 145::J
 refine cU ?_
 split at i
 refine cU ?_
 cases i
 exact jD (none,0,0) (fun w s=>((s.nilo kT3 3).f 11 [0,4]))
 refine bG ?_
 obtain ⟨g,i⟩:=gd i
 obtain ⟨G,q,i⟩:=bd i
 refine bB 9 aA (show 0<a.length by have:=g; omega) (fun Z o20 T=>?_)
 subst T
 refine dL (K:=bL) 9 (0:Int) dT23.dec R g.1 g.2 ?_
 rintro ⟨U,L⟩
 refine dF 14 [] bP fun ht hn=>?_
 refine kk 0 [] ?_
 refine dR 5 R (eJ (fo:=0) 0 cJ R R R) (d1 6 R (lM _ (fun w s=>((((((s.d 7 R).d 9 R).d 11 R).d 13 R).d 5 R).e 10 [4,3,2,1,0,7,8,9,5,6])) ?_))
 refine cE (fs:=[]) (cs:=[(pt l 0),(pt j 0),(pt m 0)]) 8 R R qm R R (Z2q_ok q) R ?_
 rintro ⟨⟨E,M,B⟩,⟨Y,O,a0⟩⟩
 refine aL 0 aB ?_
 rintro rfl
 refine aL 1 aB ?_
 rintro rfl
 refine aC (aG (fun w s=>(s.f 7 [5,2,2,3])) (dR 7 R (vT R) (hS:=(fun w s=>(s.f 7 [5,2,2,3]))) (dR 8 R (vS R) (hS:=(fun w s=>(s.f 7 [5,2,2,3]))) (dR 9 R (vS R) (hS:=(fun w s=>(s.f 7 [5,2,2,3]))) (dR 10 R (vB R) (hS:=(fun w s=>(s.f 7 [5,2,2,3]))) (dR 11 R (vS R) (hS:=(fun w s=>(s.f 7 [5,2,2,3]))) (dR 12 R (vS R) (hS:=(fun w s=>(s.f 7 [5,2,2,3]))) (dR 13 R (vB R) (hS:=(fun w s=>(s.f 7 [5,2,2,3]))) (dD ?_)))))))))
 refine cP ?_
 cases i
 exact jD (E,G.1.length,B) (tE 14 [0,2,3,4])
theorem Z0f_ok  {g:(List Int)}{l:Int}{b:(List Int)}{r:(List Int)×(List pair)×Bool}(m:Z0f g l b=some r) :
 FnOk Tryz.prog 130 [(.slice A2 N2 D2),(iv l),(.slice A5 N5 D5)] [aN kT3 (.slice A2 N2 D2) g,aN kT3 (.slice A5 N5 D5) b] (fun (h:HH×HH)=>((.tuple [(s3 h.1),(s3 h.2),(.bool r.2.2)].toArray),[ow kT3 3 (s3 h.1) r.1,ow kT161 161 (s3 h.2) r.2.1])):=by
 unfold Z0f at m
 refine aQ Tryz.func130 R 67 R R fun C V=>?_
 refine cL 0 aA ?_
 rintro rfl
 refine cL 1 aA ?_
 rintro rfl
 let T:=RR kT3 A2 D2 g::RR kT3 A5 D5 b::V
 refine cN T ?_
 refine cU ?_
 obtain ⟨r6,am,m⟩:=bd m
 refine cQ [(0,(sc A2 g D2)),(1,(iv l)),(2,(sc A5 b D5)),(26,(.bool (((!r6)||((b.length:Int)==0))||(decide ((b.length:Int)>4096)))))] (T) ?_ ?_
 refine aP ?_
 refine lM _ (fun w s=>(s.d 0 R)) ?_
 refine lC 1 gP R (Zm_ok am) R ?_
 rintro _
 refine lN T ?_
 refine aU ?_
 rcases bo (!r6) with aa | aa
 refine cP ?_
 exact qj tI
 refine bZ ?_
 rcases bo ((!r6)||((b.length:Int)==0)) with ae | ae
 refine bZ ?_
 exact qj tI
 refine bZ ?_
 exact qj tI
 rintro σ1
 refine bU ?_
 split at m
 refine cP ?_
 cases m
 exact hW ((none,0,0),(none,0,0)) (fun w s=>(((s.nilo kT3 3).nilo kT161 161).e 4 [1,0]))
 refine bZ ?_
 refine bK (K:=kT161) (xs:=([]:List pair)) (vs:=[]) 0 R R fA fB eO R R R R R R ?_ R (fun A11 D11=>?_)
 exact fun I h s=>(iZ).list [] I h s
 refine bG ?_
 refine aZ (A:=((List pair))×(HH×HH)) (fun a=>Z0f_J1 g l b a.1=some r) (fun a=>[(0,(sc A2 g D2)),(1,(iv l)),(2,(s3 a.2.1)),(9,(s3 a.2.2))]) (fun a=>aN kT3 (s3 a.2.1) b::ow kT161 161 (s3 a.2.2) a.1::T) ?_ ?_
 refine cV ?_
 obtain ⟨e1,ak,a8⟩:=bd m
 refine bD (A:=HH×HH) ak (fun s a=>[(0,(sc A2 g D2)),(1,(iv l)),(2,(s3 a.1)),(9,(s3 a.2)),(28,(s3 a.1)),(29,(il b)),(30,(iv s.2))]) (fun s a=>aN kT3 (s3 a.1) b::ow kT161 161 (s3 a.2) s.1::T) ((A5,b.length,D5),(A11,([]:List pair).length,D11)) (aS R) (fun w s=>(s.d 2 R)) ?_
 rintro ⟨i,j⟩ ⟨⟨al,a9,D⟩,⟨O,ag,Z⟩⟩ σ1 an m a3
 dsimp only [Z0f_L1] at m
 refine bJ 0 aA (fun (L:a9=b.length)=>?_)
 subst L
 refine bJ 1 aB (fun (L:ag=i.length)=>?_)
 subst L
 refine bT ?_
 split at m
 refine bT ?_
 obtain ⟨a2,m⟩:=gd m
 refine aU ?_
 refine bA 0 aA (show 0<b.length by have:=a2; omega) (fun F o31 ha=>?_)
 subst ha
 refine cV ?_
 obtain ⟨E,m⟩:=gd m
 refine cQ [(0,(sc A2 g D2)),(1,(iv l)),(2,(sc (ad F o31) b D)),(9,(sc O i Z)),(10,(iv j)),(11,(iv (ix b j))),(28,(sc (ad F o31) b D)),(29,(il b)),(30,(iv j)),(44,(.bool ((decide ((ix b j)<0))||(decide ((ix b j)≥(ix g l))))))] (RR kT3 (ad F o31) D b::OO kT161 161 O Z i::T) ?_ ?_
 refine bG ?_
 rcases bo (decide ((ix b j)<0)) with u | u
 refine cV ?_
 exact qj tI
 refine aP ?_
 refine bA 2 aA (show 0<g.length by have:=(E u); omega) (fun ar o34 ha=>?_)
 subst ha
 refine lW (cA u) (eL bI cB R R (E u)) (lW (cA u) (gO 2 fQ aA R (E u)) ?_)
 refine aP ?_
 exact qj tI
 rintro σ1
 refine bU ?_
 split at m
 refine hH ?_
 cases m
 obtain rfl:=a3 _ R
 have m:=a8
 refine aP ?_
 cases m
 exact hW ((none,0,0),(none,0,0)) (fun w s=>(((s.nilo kT3 3).nilo kT161 161).e 6 [1,0]))
 refine aP ?_
 obtain ⟨a1,m⟩:=gd m
 refine bG ?_
 refine lO (vz (.agg [(iv (ix b j)),(iv j)].toArray) (aX mt eO R R)) (bK (K:=kT161) (xs:=([(⟨(ix b j),j⟩:pair)]:List pair)) (vs:=[(.agg [(iv (ix b j)),(iv j)].toArray)]) 0 R R fA fB eO R R R R R R ?_ R (fun ap aw=>?_))
 exact fun I h s=>(iZ).list [(((),()),(⟨(ix b j),j⟩:pair))] I h s
 refine lM _ (tE 3 [2,0,1]) ?_
 refine eB (K:=kT161) 8796093022208 R R fA fB lu (Zr.zk zT161 eO) R R R R R R dM a1 (fun a4 a7=>(lN (OO kT161 161 a4 a7 (i++([(⟨(ix b j),j⟩:pair)]:List pair))::_::T) ?_))
 refine cV ?_
 cases m
 exact qA (((ad F o31),b.length,D),(a4,(i++([(⟨(ix b j),j⟩:pair)]:List pair)).length,a7)) (tE 2 [1,0])
 refine aP ?_
 cases m
 obtain rfl:=a3 _ R
 have m:=a8
 refine aU ?_
 exact qI (i,((al,b.length,D),(O,i.length,Z))) m tI
 rintro ⟨q,⟨⟨ax,ab,ao⟩,⟨J,ac,M⟩⟩⟩ σ1 m
 dsimp only [Z0f_J1] at m
 refine bJ 0 aA (fun (L:ab=b.length)=>?_)
 subst L
 refine bJ 1 aB (fun (L:ac=q.length)=>?_)
 subst L
 refine bU ?_
 obtain ⟨U,a6,m⟩:=bd m
 refine bZ ?_
 refine lM _ (fun w s=>(s.d 2 R)) ?_
 refine lC 1 qi R (Z1n_ok a6) R ?_
 rintro ⟨Y,av,G⟩
 refine aL 0 aB ?_
 rintro rfl
 refine bZ ?_
 obtain ⟨au,a5,m⟩:=bd m
 refine aU ?_
 refine lC 1 i' R (FnOk.lends (A':=[OO kT3 3 Y G U]) (A:=[RR kT3 Y G U]) (B:=[]) (Zd_ok a5) ⟨aV,trivial⟩ (fun _=>trivial)) R ?_
 rintro _
 refine aP ?_
 split at m
 refine cP ?_
 cases m
 exact hW ((none,0,0),(none,0,0)) (fun w s=>(((s.nilo kT3 3).nilo kT161 161).e 7 [1,0]))
 refine bG ?_
 obtain ⟨aj,a0,m⟩:=bd m
 refine dG ?_
 refine lM _ (fun w s=>((s.d 3 R).e 4 [3,0,1,2])) ?_
 refine lC 2 sE R (FnOk.lends (A':=[OO kT161 161 J M q]) (A:=[RR kT161 J M q]) (B:=[RR kT3 A2 D2 g]) (FnOk.perm (Z8_ok a0) (Pre':=[RR kT161 J M q,RR kT3 A2 D2 g]) (fun _ _ _ s=>(s.e 2 [1,0]))) ⟨aV,trivial⟩ (fun _=>⟨(bH sk),trivial⟩)) R ?_
 rintro ⟨ai,aq,ah⟩
 refine aL 1 aB ?_
 rintro rfl
 refine bT ?_
 cases m
 exact hW ((Y,U.length,G),(ai,aj.length,ah)) (tE 6 [2,1])
theorem Z20_ok  {p1:(List Int)}{a:(List Int)}{r:(List Int)×(List pair)×Bool}(b:Z20 p1 a=some r) :
 FnOk Tryz.prog 129 [(.slice A2 N2 D2),(.slice A4 N4 D4)] [aN kT3 (.slice A2 N2 D2) p1,aN kT3 (.slice A4 N4 D4) a] (fun (h:HH×HH)=>((.tuple [(s3 h.1),(s3 h.2),(.bool r.2.2)].toArray),[ow kT3 3 (s3 h.1) r.1,ow kT161 161 (s3 h.2) r.2.1])):=by
 unfold Z20 at b
 refine aQ Tryz.func129 R 17 R R fun C V=>?_
 refine cL 0 aA ?_
 rintro rfl
 refine cL 1 aA ?_
 rintro rfl
 let u:=RR kT3 A2 D2 p1::RR kT3 A4 D4 a::V
 refine cN u ?_
 refine cV ?_
 obtain ⟨m,b⟩:=gd b
 obtain ⟨g,b⟩:=gd b
 obtain ⟨j,i,b⟩:=bd b
 refine bB 0 aA (show 0<p1.length by have:=m; omega) (fun G o7 B=>?_)
 subst B
 refine dF 13 [] bP fun E F=>?_
 refine kk 0 [] ?_
 refine d1 5 R (gC (K:=kT3) (1:Int) (p1.length:Int) 0 R R bI cB R R R R g.1 g.2.1 g.2.2 (fun A9 D9=>(aC (aG (sL [0]) (d1 6 R (lM _ (fun w s=>(((s.d 2 R).d 1 R).e 3 [1,0,2])) ?_))))))
 refine lC 2 zF R (Z0f_ok i) R ?_
 rintro ⟨⟨A12,N12,D12⟩,⟨q,D,l⟩⟩
 refine aL 0 aB ?_
 rintro rfl
 refine aL 1 aB ?_
 rintro rfl
 refine aC (aG (sL [2,1,0]) ?_)
 refine sf 7 [2,1,0] ?_
 refine dD ?_
 refine aU ?_
 cases b
 exact hW ((A12,j.1.length,D12),(q,j.2.1.length,l)) (tE 5 [0,1])
theorem Z2r_ok  {a:Node}{b:(List Int)}{m:Int}{g:Int}{E:Nat}{j:Nat}{i:Nat}{r:(List Int)×(List pair)×Bool}(l:Z2r a b m g=some r) :
 FnOk Tryz.prog 149 [(.agg [(iv a.Op),(.slice A2 N2 D2),(.slice A3 N3 D3),(.slice A4 N4 D4),(aD a.Form),(.slice A5 N5 D5)].toArray),(.slice A7 N7 D7),(pt E 0),(pt j 0),(pt i 0)] [aN kT3 (.slice A2 N2 D2) a.Args,aN kT3 (.slice A3 N3 D3) a.Dims,aN kT3 (.slice A4 N4 D4) a.Ints,aN kT3 (.slice A5 N5 D5) a.Data,aN kT3 (.slice A7 N7 D7) b,aJ E [(iv m)] 3,aJ j [(iv g)] 3,aJ i [(.func (.func 129) [].toArray [].toArray)] 150] (fun (h:HH×HH)=>((.tuple [(s3 h.1),(s3 h.2),(.bool r.2.2)].toArray),[ow kT3 3 (s3 h.1) r.1,ow kT161 161 (s3 h.2) r.2.1,aJ E [(iv m)] 3,aJ j [(iv g)] 3,aJ i [(.func (.func 129) [].toArray [].toArray)] 150])):=by
 unfold Z2r at l
 refine aQ Tryz.func149 R 30 R R fun C V=>?_
 refine cM _ (fun w s=>(s.f 8 [5,3,0,5])) ?_
 refine cL 3 aA ?_
 rintro rfl
 refine cL 4 aA ?_
 rintro rfl
 refine cL 5 aA ?_
 rintro rfl
 refine cL 6 aA ?_
 rintro rfl
 refine cL 7 aA ?_
 rintro rfl
 let M:=RR kT3 A2 D2 a.Args::RR kT3 A3 D3 a.Dims::RR kT3 A4 D4 a.Ints::RR kT3 A5 D5 a.Data::RR kT3 A7 D7 b::V
 refine aU ?_
 refine eF R fun q=>?_
 refine bG ?_
 let L:=aJ q [(iv a.Op),(sc A2 a.Args D2),(sc A3 a.Dims D3),(sc A4 a.Ints D4),(aD a.Form),(sc A5 a.Data D5)] 54::aJ E [(iv m)] 3::aJ j [(iv g)] 3::aJ i [(.func (.func 129) [].toArray [].toArray)] 150::M
 refine qN L ?_
 refine aP ?_
 refine cQ [(1,(sc A7 b D7)),(4,(pt i 0)),(5,(pt q 0)),(21,(.bool ((decide ((a.Ints.length:Int)<m))||(decide ((a.Ints.length:Int)>g)))))] (L) ?_ ?_
 refine dG ?_
 rcases bo (decide ((a.Ints.length:Int)<m)) with B | B
 refine dG ?_
 exact qj tI
 refine dG ?_
 exact qj tI
 rintro σ1
 refine bU ?_
 split at l
 refine cP ?_
 cases l
 exact hW ((none,0,0),(none,0,0)) (fun w s=>(((s.nilo kT3 3).nilo kT161 161).e 11 [1,0,3,4,5]))
 refine bG ?_
 obtain ⟨D,u,l⟩:=bd l
 refine bZ ?_
 refine lM _ (fun w s=>(((s.d 6 R).d 9 R).e 2 [1,0])) ?_
 refine cE (fs:=[]) (cs:=[]) 2 R R zG R R (Z20_ok u) R ?_
 rintro ⟨⟨F,O,G⟩,⟨I,T,J⟩⟩
 refine aL 0 aB ?_
 rintro rfl
 refine aL 1 aB ?_
 rintro rfl
 refine cU ?_
 cases l
 exact hW ((F,D.1.length,G),(I,D.2.1.length,J)) (fun w s=>(s.f 11 [0,2,3,3]))
theorem Z1r_ok  {k1:shiftKind}{I:Int}{F:Int}{b:Node}{a:(List (List Int))}{l:Nat}{j:Nat}{m:Nat}{r:(List Int)×Bool}(i:Z1r k1 I F b a=some r) :
 FnOk Tryz.prog 220 [(.agg [(aD k1.use),(.func (.func 149) [].toArray [(pt l 0),(pt j 0),(pt m 0)].toArray)].toArray),(.agg [(iv b.Op),(.slice A9 N9 D9),(.slice A10 N10 D10),(.slice A11 N11 D11),(aD b.Form),(.slice A12 N12 D12)].toArray),(.slice A14 N14 D14)] [aJ l [(iv I)] 3,aJ j [(iv F)] 3,aJ m [(.func (.func 129) [].toArray [].toArray)] 150,aN kT3 (.slice A9 N9 D9) b.Args,aN kT3 (.slice A10 N10 D10) b.Dims,aN kT3 (.slice A11 N11 D11) b.Ints,aN kT3 (.slice A12 N12 D12) b.Data,aN bL (.slice A14 N14 D14) a] (fun (h:HH)=>((.tuple [(s3 h),(.bool r.2)].toArray),[ow kT3 3 (s3 h) r.1,aJ l [(iv I)] 3,aJ j [(iv F)] 3,aJ m [(.func (.func 129) [].toArray [].toArray)] 150])):=by
 unfold Z1r at i
 refine aQ Tryz.func220 R 27 R R fun C V=>?_
 refine cL 3 aA ?_
 rintro rfl
 refine cL 4 aA ?_
 rintro rfl
 refine cL 5 aA ?_
 rintro rfl
 refine cL 6 aA ?_
 rintro rfl
 refine cL 7 aA ?_
 rintro rfl
 let J:=RR kT3 A9 D9 b.Args::RR kT3 A10 D10 b.Dims::RR kT3 A11 D11 b.Ints::RR kT3 A12 D12 b.Data::RR bL A14 D14 a::V
 refine aU ?_
 refine eF R fun u=>?_
 refine eF R fun D=>?_
 refine aP ?_
 refine qM _ (fun w s=>(s.f 5 [2,3,0,2])) ?_
 let W1:=aJ D [(iv b.Op),(sc A9 b.Args D9),(sc A10 b.Dims D10),(sc A11 b.Ints D11),(aD b.Form),(sc A12 b.Data D12)] 54::aJ u [(aD k1.use),(.func (.func 149) [].toArray [(pt l 0),(pt j 0),(pt m 0)].toArray)] 145::J
 refine cU ?_
 split at i
 refine cU ?_
 cases i
 exact jD (none,0,0) (fun w s=>((s.nilo kT3 3).f 11 [0,4]))
 refine bG ?_
 obtain ⟨g,i⟩:=gd i
 obtain ⟨G,q,i⟩:=bd i
 refine bB 9 aA (show 0<a.length by have:=g; omega) (fun Z o20 T=>?_)
 subst T
 refine dL (K:=bL) 9 (0:Int) dT23.dec R g.1 g.2 ?_
 rintro ⟨U,L⟩
 refine dF 14 [] bP fun ht hn=>?_
 refine kk 0 [] ?_
 refine dR 5 R (eJ (fo:=0) 0 cJ R R R) (d1 6 R (lM _ (fun w s=>((((((s.d 7 R).d 9 R).d 11 R).d 13 R).d 5 R).e 10 [4,3,2,1,0,7,8,9,5,6])) ?_))
 refine cE (fs:=[]) (cs:=[(pt l 0),(pt j 0),(pt m 0)]) 8 R R qm R R (Z2r_ok q) R ?_
 rintro ⟨⟨E,M,B⟩,⟨Y,O,a0⟩⟩
 refine aL 0 aB ?_
 rintro rfl
 refine aL 1 aB ?_
 rintro rfl
 refine aC (aG (fun w s=>(s.f 7 [5,2,2,3])) (dR 7 R (vT R) (hS:=(fun w s=>(s.f 7 [5,2,2,3]))) (dR 8 R (vS R) (hS:=(fun w s=>(s.f 7 [5,2,2,3]))) (dR 9 R (vS R) (hS:=(fun w s=>(s.f 7 [5,2,2,3]))) (dR 10 R (vB R) (hS:=(fun w s=>(s.f 7 [5,2,2,3]))) (dR 11 R (vS R) (hS:=(fun w s=>(s.f 7 [5,2,2,3]))) (dR 12 R (vS R) (hS:=(fun w s=>(s.f 7 [5,2,2,3]))) (dR 13 R (vB R) (hS:=(fun w s=>(s.f 7 [5,2,2,3]))) (dD ?_)))))))))
 refine cP ?_
 cases i
 exact jD (E,G.1.length,B) (tE 14 [0,2,3,4])
theorem Z0g_ok  {g:(List Int)}{j:Int}{b:(List Int)}{D:Int}{r:(List Int)×(List pair)×Bool}(m:Z0g g j b D=some r) :
 FnOk Tryz.prog 132 [(.slice A2 N2 D2),(iv j),(.slice A5 N5 D5),(iv D)] [aN kT3 (.slice A2 N2 D2) g,aN kT3 (.slice A5 N5 D5) b] (fun (h:HH×HH)=>((.tuple [(s3 h.1),(s3 h.2),(.bool r.2.2)].toArray),[ow kT3 3 (s3 h.1) r.1,ow kT161 161 (s3 h.2) r.2.1])):=by
 unfold Z0g at m
 refine aQ Tryz.func132 R 67 R R fun C V=>?_
 refine cL 0 aA ?_
 rintro rfl
 refine cL 1 aA ?_
 rintro rfl
 let T:=RR kT3 A2 D2 g::RR kT3 A5 D5 b::V
 refine cN T ?_
 refine cU ?_
 obtain ⟨r7,ag,m⟩:=bd m
 obtain ⟨L,m⟩:=gd m
 refine cQ [(0,(sc A2 g D2)),(1,(iv j)),(2,(sc A5 b D5)),(3,(iv D)),(31,(.bool (((!r7)||((b.length:Int) != (ix g j)))||(decide (D<1)))))] (T) ?_ ?_
 refine aP ?_
 refine lM _ (fun w s=>(s.d 0 R)) ?_
 refine lC 1 gP R (Zm_ok ag) R ?_
 rintro _
 refine lN T ?_
 refine aU ?_
 rcases bo (!r7) with u | u
 refine kj ?_
 exact qj tI
 refine bG ?_
 refine bA 0 aA (show 0<g.length by have:=(L u); omega) (fun ap o11 ha=>?_)
 subst ha
 refine lW (cA u) (eL bI cB R R (L u)) (lW (cA u) (gO 0 fQ aA R (L u)) ?_)
 refine aP ?_
 rcases bo ((!r7)||((b.length:Int) != (ix g j))) with aa | aa
 refine bG ?_
 exact qj tI
 refine bG ?_
 exact qj tI
 rintro σ1
 refine bU ?_
 split at m
 refine cP ?_
 cases m
 exact hW ((none,0,0),(none,0,0)) (fun w s=>(((s.nilo kT3 3).nilo kT161 161).e 4 [1,0]))
 refine bZ ?_
 refine bK (K:=kT161) (xs:=([]:List pair)) (vs:=[]) 0 R R fA fB eO R R R R R R ?_ R (fun ah al=>?_)
 exact fun I h s=>(iZ).list [] I h s
 refine bG ?_
 refine aZ (A:=((List pair))×(HH)) (fun a=>Z0g_J1 g j D a.1=some r) (fun a=>[(0,(sc A2 g D2)),(1,(iv j)),(3,(iv D)),(11,(s3 a.2))]) (fun a=>ow kT161 161 (s3 a.2) a.1::T) ?_ ?_
 refine cV ?_
 obtain ⟨e1,ak,a7⟩:=bd m
 refine bD (A:=HH×HH) ak (fun s a=>[(0,(sc A2 g D2)),(1,(iv j)),(3,(iv D)),(11,(s3 a.1)),(33,(s3 a.2)),(34,(il b)),(35,(iv s.2))]) (fun s a=>ow kT161 161 (s3 a.1) s.1::aN kT3 (s3 a.2) b::T) ((ah,([]:List pair).length,al),(A5,b.length,D5)) (aS R) (fun w s=>((s.d 2 R).e 2 [1,0])) ?_
 rintro ⟨i,l⟩ ⟨⟨J,ai,Y⟩,⟨av,ab,Z⟩⟩ σ1 an m a1
 dsimp only [Z0g_L1] at m
 refine bJ 0 aB (fun (hn:ai=i.length)=>?_)
 subst hn
 refine bJ 1 aA (fun (hn:ab=b.length)=>?_)
 subst hn
 refine bT ?_
 split at m
 refine bT ?_
 obtain ⟨a9,m⟩:=gd m
 refine aU ?_
 refine bA 1 aA (show 0<b.length by have:=a9; omega) (fun M o32 ha=>?_)
 subst ha
 refine cV ?_
 refine cQ [(0,(sc A2 g D2)),(1,(iv j)),(3,(iv D)),(11,(sc J i Y)),(12,(iv l)),(13,(iv (ix b l))),(33,(sc (ad M o32) b Z)),(34,(il b)),(35,(iv l)),(46,(.bool ((decide ((ix b l)<0))||(decide ((ix b l)≥D)))))] (OO kT161 161 J Y i::RR kT3 (ad M o32) Z b::T) ?_ ?_
 refine bG ?_
 rcases bo (decide ((ix b l)<0)) with a3 | a3
 refine bZ ?_
 exact qj tI
 refine bZ ?_
 exact qj tI
 rintro σ1
 refine bU ?_
 split at m
 refine hH ?_
 cases m
 obtain rfl:=a1 _ R
 have m:=a7
 refine aP ?_
 cases m
 exact hW ((none,0,0),(none,0,0)) (fun w s=>(((s.nilo kT3 3).nilo kT161 161).e 6 [1,0]))
 refine aP ?_
 obtain ⟨a5,m⟩:=gd m
 refine bG ?_
 refine lO (vz (.agg [(iv l),(iv (ix b l))].toArray) (aX mt eO R R)) (bK (K:=kT161) (xs:=([(⟨l,(ix b l)⟩:pair)]:List pair)) (vs:=[(.agg [(iv l),(iv (ix b l))].toArray)]) 0 R R fA fB eO R R R R R R ?_ R (fun aw au=>?_))
 exact fun I h s=>(iZ).list [(((),()),(⟨l,(ix b l)⟩:pair))] I h s
 refine lM _ (tE 3 [1,0,2]) ?_
 refine eB (K:=kT161) 8796093022208 R R fA fB lu (Zr.zk zT161 eO) R R R R R R dM a5 (fun a0 a6=>(lN (OO kT161 161 a0 a6 (i++([(⟨l,(ix b l)⟩:pair)]:List pair))::_::T) ?_))
 refine cV ?_
 cases m
 exact qA ((a0,(i++([(⟨l,(ix b l)⟩:pair)]:List pair)).length,a6),((ad M o32),b.length,Z)) tI
 refine aP ?_
 cases m
 obtain rfl:=a1 _ R
 have m:=a7
 refine aU ?_
 exact qI (i,(J,i.length,Y)) m (tE 2 [0])
 rintro ⟨q,⟨U,ac,G⟩⟩ σ1 m
 dsimp only [Z0g_J1] at m
 refine bJ 0 aB (fun (hn:ac=q.length)=>?_)
 subst hn
 refine bU ?_
 obtain ⟨O,a8,m⟩:=bd m
 refine bG ?_
 refine lM _ (fun w s=>(s.d 1 R)) ?_
 refine lC 1 qi R (Z1n_ok a8) R ?_
 rintro ⟨E,ao,F⟩
 refine aL 0 aB ?_
 rintro rfl
 refine bZ ?_
 obtain ⟨aq,a4,m⟩:=bd m
 refine aU ?_
 refine lC 1 i' R (FnOk.lends (A':=[OO kT3 3 E F O]) (A:=[RR kT3 E F O]) (B:=[]) (Zd_ok a4) ⟨aV,trivial⟩ (fun _=>trivial)) R ?_
 rintro _
 refine aP ?_
 split at m
 refine cP ?_
 cases m
 exact hW ((none,0,0),(none,0,0)) (fun w s=>(((s.nilo kT3 3).nilo kT161 161).e 6 [1,0]))
 refine bG ?_
 obtain ⟨ae,a2,m⟩:=bd m
 refine bT ?_
 refine lM _ (fun w s=>((s.d 2 R).e 3 [2,0,1])) ?_
 refine lC 2 sE R (FnOk.lends (A':=[OO kT161 161 U G q]) (A:=[RR kT161 U G q]) (B:=[RR kT3 A2 D2 g]) (FnOk.perm (Z8_ok a2) (Pre':=[RR kT161 U G q,RR kT3 A2 D2 g]) (fun _ _ _ s=>(s.e 2 [1,0]))) ⟨aV,trivial⟩ (fun _=>⟨(bH sk),trivial⟩)) R ?_
 rintro ⟨am,ar,aj⟩
 refine aL 1 aB ?_
 rintro rfl
 refine bT ?_
 cases m
 exact hW ((E,O.length,F),(am,ae.length,aj)) (tE 5 [2,1])
theorem Z21_ok  {p1:(List Int)}{a:(List Int)}{r:(List Int)×(List pair)×Bool}(b:Z21 p1 a=some r) :
 FnOk Tryz.prog 131 [(.slice A2 N2 D2),(.slice A4 N4 D4)] [aN kT3 (.slice A2 N2 D2) p1,aN kT3 (.slice A4 N4 D4) a] (fun (h:HH×HH)=>((.tuple [(s3 h.1),(s3 h.2),(.bool r.2.2)].toArray),[ow kT3 3 (s3 h.1) r.1,ow kT161 161 (s3 h.2) r.2.1])):=by
 unfold Z21 at b
 refine aQ Tryz.func131 R 20 R R fun C V=>?_
 refine cL 0 aA ?_
 rintro rfl
 refine cL 1 aA ?_
 rintro rfl
 let u:=RR kT3 A2 D2 p1::RR kT3 A4 D4 a::V
 refine cN u ?_
 refine cV ?_
 obtain ⟨m,b⟩:=gd b
 obtain ⟨g,b⟩:=gd b
 obtain ⟨_,b⟩:=gd b
 obtain ⟨j,i,b⟩:=bd b
 refine bB 0 aA (show 0<p1.length by have:=m; omega) (fun G o7 B=>?_)
 subst B
 refine dF 16 [] bP fun E F=>?_
 refine kk 0 [] ?_
 refine hX 6 [] ?_
 refine d1 5 R (gC (K:=kT3) (2:Int) (p1.length:Int) 0 R R bI cB R R R R g.1 g.2.1 g.2.2 (fun A9 D9=>(aC (aG (sL [0]) (d1 9 R (lM _ (fun w s=>(((s.d 2 R).d 1 R).e 3 [1,0,2])) ?_))))))
 refine lC 2 zH R (Z0g_ok i) R ?_
 rintro ⟨⟨q,D,l⟩,⟨A14,N14,D14⟩⟩
 refine aL 0 aB ?_
 rintro rfl
 refine aL 1 aB ?_
 rintro rfl
 refine aC (aG (sL [2,1,0]) ?_)
 refine sf 10 [2,1,0] ?_
 refine dD ?_
 refine aU ?_
 cases b
 exact hW ((q,j.1.length,l),(A14,j.2.1.length,D14)) (tE 5 [0,1])
theorem Z2s_ok  {a:Node}{b:(List Int)}{m:Int}{g:Int}{E:Nat}{j:Nat}{i:Nat}{r:(List Int)×(List pair)×Bool}(l:Z2s a b m g=some r) :
 FnOk Tryz.prog 149 [(.agg [(iv a.Op),(.slice A2 N2 D2),(.slice A3 N3 D3),(.slice A4 N4 D4),(aD a.Form),(.slice A5 N5 D5)].toArray),(.slice A7 N7 D7),(pt E 0),(pt j 0),(pt i 0)] [aN kT3 (.slice A2 N2 D2) a.Args,aN kT3 (.slice A3 N3 D3) a.Dims,aN kT3 (.slice A4 N4 D4) a.Ints,aN kT3 (.slice A5 N5 D5) a.Data,aN kT3 (.slice A7 N7 D7) b,aJ E [(iv m)] 3,aJ j [(iv g)] 3,aJ i [(.func (.func 131) [].toArray [].toArray)] 150] (fun (h:HH×HH)=>((.tuple [(s3 h.1),(s3 h.2),(.bool r.2.2)].toArray),[ow kT3 3 (s3 h.1) r.1,ow kT161 161 (s3 h.2) r.2.1,aJ E [(iv m)] 3,aJ j [(iv g)] 3,aJ i [(.func (.func 131) [].toArray [].toArray)] 150])):=by
 unfold Z2s at l
 refine aQ Tryz.func149 R 30 R R fun C V=>?_
 refine cM _ (fun w s=>(s.f 8 [5,3,0,5])) ?_
 refine cL 3 aA ?_
 rintro rfl
 refine cL 4 aA ?_
 rintro rfl
 refine cL 5 aA ?_
 rintro rfl
 refine cL 6 aA ?_
 rintro rfl
 refine cL 7 aA ?_
 rintro rfl
 let M:=RR kT3 A2 D2 a.Args::RR kT3 A3 D3 a.Dims::RR kT3 A4 D4 a.Ints::RR kT3 A5 D5 a.Data::RR kT3 A7 D7 b::V
 refine aU ?_
 refine eF R fun q=>?_
 refine bG ?_
 let L:=aJ q [(iv a.Op),(sc A2 a.Args D2),(sc A3 a.Dims D3),(sc A4 a.Ints D4),(aD a.Form),(sc A5 a.Data D5)] 54::aJ E [(iv m)] 3::aJ j [(iv g)] 3::aJ i [(.func (.func 131) [].toArray [].toArray)] 150::M
 refine qN L ?_
 refine aP ?_
 refine cQ [(1,(sc A7 b D7)),(4,(pt i 0)),(5,(pt q 0)),(21,(.bool ((decide ((a.Ints.length:Int)<m))||(decide ((a.Ints.length:Int)>g)))))] (L) ?_ ?_
 refine dG ?_
 rcases bo (decide ((a.Ints.length:Int)<m)) with B | B
 refine dG ?_
 exact qj tI
 refine dG ?_
 exact qj tI
 rintro σ1
 refine bU ?_
 split at l
 refine cP ?_
 cases l
 exact hW ((none,0,0),(none,0,0)) (fun w s=>(((s.nilo kT3 3).nilo kT161 161).e 11 [1,0,3,4,5]))
 refine bG ?_
 obtain ⟨D,u,l⟩:=bd l
 refine bZ ?_
 refine lM _ (fun w s=>(((s.d 6 R).d 9 R).e 2 [1,0])) ?_
 refine cE (fs:=[]) (cs:=[]) 2 R R zI R R (Z21_ok u) R ?_
 rintro ⟨⟨F,O,G⟩,⟨I,T,J⟩⟩
 refine aL 0 aB ?_
 rintro rfl
 refine aL 1 aB ?_
 rintro rfl
 refine cU ?_
 cases l
 exact hW ((F,D.1.length,G),(I,D.2.1.length,J)) (fun w s=>(s.f 11 [0,2,3,3]))
theorem Z1s_ok  {k1:shiftKind}{I:Int}{F:Int}{b:Node}{a:(List (List Int))}{l:Nat}{j:Nat}{m:Nat}{r:(List Int)×Bool}(i:Z1s k1 I F b a=some r) :
 FnOk Tryz.prog 220 [(.agg [(aD k1.use),(.func (.func 149) [].toArray [(pt l 0),(pt j 0),(pt m 0)].toArray)].toArray),(.agg [(iv b.Op),(.slice A9 N9 D9),(.slice A10 N10 D10),(.slice A11 N11 D11),(aD b.Form),(.slice A12 N12 D12)].toArray),(.slice A14 N14 D14)] [aJ l [(iv I)] 3,aJ j [(iv F)] 3,aJ m [(.func (.func 131) [].toArray [].toArray)] 150,aN kT3 (.slice A9 N9 D9) b.Args,aN kT3 (.slice A10 N10 D10) b.Dims,aN kT3 (.slice A11 N11 D11) b.Ints,aN kT3 (.slice A12 N12 D12) b.Data,aN bL (.slice A14 N14 D14) a] (fun (h:HH)=>((.tuple [(s3 h),(.bool r.2)].toArray),[ow kT3 3 (s3 h) r.1,aJ l [(iv I)] 3,aJ j [(iv F)] 3,aJ m [(.func (.func 131) [].toArray [].toArray)] 150])):=by
 unfold Z1s at i
 refine aQ Tryz.func220 R 27 R R fun C V=>?_
 refine cL 3 aA ?_
 rintro rfl
 refine cL 4 aA ?_
 rintro rfl
 refine cL 5 aA ?_
 rintro rfl
 refine cL 6 aA ?_
 rintro rfl
 refine cL 7 aA ?_
 rintro rfl
 let J:=RR kT3 A9 D9 b.Args::RR kT3 A10 D10 b.Dims::RR kT3 A11 D11 b.Ints::RR kT3 A12 D12 b.Data::RR bL A14 D14 a::V
 refine aU ?_
 refine eF R fun u=>?_
 refine eF R fun D=>?_
 refine aP ?_
 refine qM _ (fun w s=>(s.f 5 [2,3,0,2])) ?_
 let W1:=aJ D [(iv b.Op),(sc A9 b.Args D9),(sc A10 b.Dims D10),(sc A11 b.Ints D11),(aD b.Form),(sc A12 b.Data D12)] 54::aJ u [(aD k1.use),(.func (.func 149) [].toArray [(pt l 0),(pt j 0),(pt m 0)].toArray)] 145::J
 refine cU ?_
 split at i
 refine cU ?_
 cases i
 exact jD (none,0,0) (fun w s=>((s.nilo kT3 3).f 11 [0,4]))
 refine bG ?_
 obtain ⟨g,i⟩:=gd i
 obtain ⟨G,q,i⟩:=bd i
 refine bB 9 aA (show 0<a.length by have:=g; omega) (fun Z o20 T=>?_)
 subst T
 refine dL (K:=bL) 9 (0:Int) dT23.dec R g.1 g.2 ?_
 rintro ⟨U,L⟩
 refine dF 14 [] bP fun ht hn=>?_
 refine kk 0 [] ?_
 refine dR 5 R (eJ (fo:=0) 0 cJ R R R) (d1 6 R (lM _ (fun w s=>((((((s.d 7 R).d 9 R).d 11 R).d 13 R).d 5 R).e 10 [4,3,2,1,0,7,8,9,5,6])) ?_))
 refine cE (fs:=[]) (cs:=[(pt l 0),(pt j 0),(pt m 0)]) 8 R R qm R R (Z2s_ok q) R ?_
 rintro ⟨⟨E,M,B⟩,⟨Y,O,a0⟩⟩
 refine aL 0 aB ?_
 rintro rfl
 refine aL 1 aB ?_
 rintro rfl
 refine aC (aG (fun w s=>(s.f 7 [5,2,2,3])) (dR 7 R (vT R) (hS:=(fun w s=>(s.f 7 [5,2,2,3]))) (dR 8 R (vS R) (hS:=(fun w s=>(s.f 7 [5,2,2,3]))) (dR 9 R (vS R) (hS:=(fun w s=>(s.f 7 [5,2,2,3]))) (dR 10 R (vB R) (hS:=(fun w s=>(s.f 7 [5,2,2,3]))) (dR 11 R (vS R) (hS:=(fun w s=>(s.f 7 [5,2,2,3]))) (dR 12 R (vS R) (hS:=(fun w s=>(s.f 7 [5,2,2,3]))) (dR 13 R (vB R) (hS:=(fun w s=>(s.f 7 [5,2,2,3]))) (dD ?_)))))))))
 refine cP ?_
 cases i
 exact jD (E,G.1.length,B) (tE 14 [0,2,3,4])
theorem Z5_ok  {b:(List Int)}{j:Int}{i:Int}{E:Int}{r:(List Int)×(List pair)×Bool}(l:Z5 b j i E=some r) :
 FnOk Tryz.prog 134 [(.slice A2 N2 D2),(iv j),(iv i),(iv E)] [aN kT3 (.slice A2 N2 D2) b] (fun (h:HH×HH)=>((.tuple [(s3 h.1),(s3 h.2),(.bool r.2.2)].toArray),[aN kT3 (s3 h.1) r.1,ow kT161 161 (s3 h.2) r.2.1])):=by
 unfold Z5 at l
 refine aQ Tryz.func134 R 151 R R fun C V=>?_
 refine cL 0 aA ?_
 rintro rfl
 let W0:=RR kT3 A2 D2 b::V
 refine cN W0 ?_
 refine om ?_
 obtain ⟨r6,a7,l⟩:=bd l
 obtain ⟨a8,l⟩:=gd l
 obtain ⟨aj,l⟩:=gd l
 obtain ⟨ae,l⟩:=gd l
 obtain ⟨av,l⟩:=gd l
 refine cQ [(0,(sc A2 b D2)),(1,(iv j)),(2,(iv i)),(3,(iv E)),(11,(iv (aH ((b.length:Int) - 1)))),(68,(.bool (((((((!r6)||(j==(aH ((b.length:Int) - 1))))||(decide (i<1)))||(decide (E<1)))||(decide (E>4096)))||(decide ((ix b (aH ((b.length:Int) - 1)))>E)))||((ix b j) != (aH ((aH ((aH (E - (ix b (aH ((b.length:Int) - 1))))).tdiv i))+1))))))] (W0) ?_ ?_
 rcases bo (!r6) with G | G
 refine dF 45 [] bP fun ht hn=>?_
 refine gR 0 [] ?_
 refine d1 2 R (lM _ (fun w s=>(s.d 0 R)) ?_)
 refine lC 1 gP R (Zm_ok a7) R ?_
 rintro _
 refine lN W0 ?_
 refine aC (aG (sL []) ?_)
 refine kk 3 [] ?_
 refine dR 8 R (fC (j==(aH ((b.length:Int) - 1))) R G) ?_
 refine hX 9 [] ?_
 refine dR 12 R (fC (decide (i<1)) R (oT G)) ?_
 refine hX 13 [] ?_
 refine dR 16 R (fC (decide (E<1)) R (oT (oT G))) ?_
 refine hX 17 [] ?_
 refine dR 20 R (fC (decide (E>4096)) R (oT (oT (oT G)))) ?_
 refine sg 21 [] ?_
 refine dR 28 R (fC (decide ((ix b (aH ((b.length:Int) - 1)))>E)) R (oT (oT (oT (oT G))))) ?_
 refine oq 29 [] ?_
 refine pc 33 [] ?_
 refine dR 44 R (fC ((ix b j) != (aH ((aH ((aH (E - (ix b (aH ((b.length:Int) - 1))))).tdiv i))+1))) R (oT (oT (oT (oT (oT G)))))) (dD ?_)
 exact qj tI
 rcases bo ((!r6)||(j==(aH ((b.length:Int) - 1)))) with U | U
 refine dF 45 [] bP fun ht hn=>?_
 refine gR 0 [] ?_
 refine d1 2 R (lM _ (fun w s=>(s.d 0 R)) ?_)
 refine lC 1 gP R (Zm_ok a7) R ?_
 rintro _
 refine lN W0 ?_
 refine aC (aG (sL []) ?_)
 refine kk 3 [] ?_
 refine dR 8 R (fU R G R) ?_
 refine hX 9 [] ?_
 refine dR 12 R (fC (decide (i<1)) R U) ?_
 refine hX 13 [] ?_
 refine dR 16 R (fC (decide (E<1)) R (oT U)) ?_
 refine hX 17 [] ?_
 refine dR 20 R (fC (decide (E>4096)) R (oT (oT U))) ?_
 refine sg 21 [] ?_
 refine dR 28 R (fC (decide ((ix b (aH ((b.length:Int) - 1)))>E)) R (oT (oT (oT U)))) ?_
 refine ug 29 [] ?_
 refine sg 37 [] ?_
 refine dR 44 R (fC ((ix b j) != (aH ((aH ((aH (E - (ix b (aH ((b.length:Int) - 1))))).tdiv i))+1))) R (oT (oT (oT (oT U))))) (dD ?_)
 exact qj tI
 rcases bo (((!r6)||(j==(aH ((b.length:Int) - 1))))||(decide (i<1))) with a1 | a1
 refine dF 45 [] bP fun ht hn=>?_
 refine gR 0 [] ?_
 refine d1 2 R (lM _ (fun w s=>(s.d 0 R)) ?_)
 refine lC 1 gP R (Zm_ok a7) R ?_
 rintro _
 refine lN W0 ?_
 refine aC (aG (sL []) ?_)
 refine kk 3 [] ?_
 refine dR 8 R (fU R G R) ?_
 refine hX 9 [] ?_
 refine dR 12 R (fU R U R) ?_
 refine hX 13 [] ?_
 refine dR 16 R (fC (decide (E<1)) R a1) ?_
 refine hX 17 [] ?_
 refine dR 20 R (fC (decide (E>4096)) R (oT a1)) ?_
 refine sg 21 [] ?_
 refine dR 28 R (fC (decide ((ix b (aH ((b.length:Int) - 1)))>E)) R (oT (oT a1))) ?_
 refine pc 29 [] ?_
 refine oq 40 [] ?_
 refine dR 44 R (fC ((ix b j) != (aH ((aH ((aH (E - (ix b (aH ((b.length:Int) - 1))))).tdiv i))+1))) R (oT (oT (oT a1)))) (dD ?_)
 exact qj tI
 rcases bo ((((!r6)||(j==(aH ((b.length:Int) - 1))))||(decide (i<1)))||(decide (E<1))) with a2 | a2
 refine dF 45 [] bP fun ht hn=>?_
 refine gR 0 [] ?_
 refine d1 2 R (lM _ (fun w s=>(s.d 0 R)) ?_)
 refine lC 1 gP R (Zm_ok a7) R ?_
 rintro _
 refine lN W0 ?_
 refine aC (aG (sL []) ?_)
 refine kk 3 [] ?_
 refine dR 8 R (fU R G R) ?_
 refine hX 9 [] ?_
 refine dR 12 R (fU R U R) ?_
 refine hX 13 [] ?_
 refine dR 16 R (fU R a1 R) ?_
 refine hX 17 [] ?_
 refine dR 20 R (fC (decide (E>4096)) R a2) ?_
 refine sg 21 [] ?_
 refine dR 28 R (fC (decide ((ix b (aH ((b.length:Int) - 1)))>E)) R (oT a2)) ?_
 refine uk 29 [] ?_
 refine oo 43 [] ?_
 refine dR 44 R (fC ((ix b j) != (aH ((aH ((aH (E - (ix b (aH ((b.length:Int) - 1))))).tdiv i))+1))) R (oT (oT a2))) (dD ?_)
 exact qj tI
 rcases bo (((((!r6)||(j==(aH ((b.length:Int) - 1))))||(decide (i<1)))||(decide (E<1)))||(decide (E>4096))) with D | D
 refine dF 45 [] bP fun ht hn=>?_
 refine gR 0 [] ?_
 refine d1 2 R (lM _ (fun w s=>(s.d 0 R)) ?_)
 refine lC 1 gP R (Zm_ok a7) R ?_
 rintro _
 refine lN W0 ?_
 refine aC (aG (sL []) ?_)
 refine kk 3 [] ?_
 refine dR 8 R (fU R G R) ?_
 refine hX 9 [] ?_
 refine dR 12 R (fU R U R) ?_
 refine hX 13 [] ?_
 refine dR 16 R (fU R a1 R) ?_
 refine hX 17 [] ?_
 refine dR 20 R (fU R a2 R) ?_
 refine sg 21 [] ?_
 refine dR 28 R (fC (decide ((ix b (aH ((b.length:Int) - 1)))>E)) R D) ?_
 refine wC 29 [] ?_
 refine dR 44 R (fC ((ix b j) != (aH ((aH ((aH (E - (ix b (aH ((b.length:Int) - 1))))).tdiv i))+1))) R (oT D)) (dD ?_)
 exact qj tI
 rcases bo ((((((!r6)||(j==(aH ((b.length:Int) - 1))))||(decide (i<1)))||(decide (E<1)))||(decide (E>4096)))||(decide ((ix b (aH ((b.length:Int) - 1)))>E))) with L | L
 refine bB 0 aA (show 0<b.length by have:=(a8 D); omega) (fun g9 o10 ha=>?_)
 subst ha
 refine dF 45 [] bP fun ht hn=>?_
 refine gR 0 [] ?_
 refine d1 2 R (lM _ (fun w s=>(s.d 0 R)) ?_)
 refine lC 1 gP R (Zm_ok a7) R ?_
 rintro _
 refine lN W0 ?_
 refine aC (aG (sL []) ?_)
 refine kk 3 [] ?_
 refine dR 8 R (fU R G R) ?_
 refine hX 9 [] ?_
 refine dR 12 R (fU R U R) ?_
 refine hX 13 [] ?_
 refine dR 16 R (fU R a1 R) ?_
 refine hX 17 [] ?_
 refine dR 20 R (fU R a2 R) ?_
 refine hX 21 [] ?_
 refine dW 24 R (cA D) (eL bI cB R R (a8 D)) (dW 25 R (cA D) (gO 0 fQ aA R (a8 D)) ?_)
 refine gR 26 [] ?_
 refine dR 28 R (fU R D R) ?_
 refine wC 29 [] ?_
 refine dR 44 R (fC ((ix b j) != (aH ((aH ((aH (E - (ix b (aH ((b.length:Int) - 1))))).tdiv i))+1))) R L) (dD ?_)
 exact qj tI
 refine bB 0 aA (show 0<b.length by have:=(a8 D); omega) (fun g9 o10 ha=>?_)
 subst ha
 refine dF 45 [] bP fun ht hn=>?_
 refine gR 0 [] ?_
 refine d1 2 R (lM _ (fun w s=>(s.d 0 R)) ?_)
 refine lC 1 gP R (Zm_ok a7) R ?_
 rintro _
 refine lN W0 ?_
 refine aC (aG (sL []) ?_)
 refine kk 3 [] ?_
 refine dR 8 R (fU R G R) ?_
 refine hX 9 [] ?_
 refine dR 12 R (fU R U R) ?_
 refine hX 13 [] ?_
 refine dR 16 R (fU R a1 R) ?_
 refine hX 17 [] ?_
 refine dR 20 R (fU R a2 R) ?_
 refine hX 21 [] ?_
 refine dW 24 R (cA D) (eL bI cB R R (a8 D)) (dW 25 R (cA D) (gO 0 fQ aA R (a8 D)) ?_)
 refine gR 26 [] ?_
 refine dR 28 R (fU R D R) ?_
 refine hX 29 [] ?_
 refine dW 32 R (cA L) (eL bI cB R R (aj L)) (dW 33 R (cA L) (gO 0 fQ aA R (aj L)) ?_)
 refine hX 34 [] ?_
 refine dW 37 R (cA L) (eL bI cB R R (ae L)) (dW 38 R (cA L) (gO 0 fQ aA R (ae L)) ?_)
 refine gR 39 [] ?_
 refine dW 41 R (cA L) (vz (iv (aH ((aH (E - (ix b (aH ((b.length:Int) - 1))))).tdiv i))) (mf R R (av L))) ?_
 refine gR 42 [] ?_
 refine dR 44 R (fU R L R) (dD ?_)
 exact qj tI
 rintro σ1
 refine bU ?_
 split at l
 refine cP ?_
 cases l
 exact hW ((none,0,0),(none,0,0)) (fun w s=>(((s.nilr kT3).nilo kT161 161).e 3 [1,0]))
 refine bG ?_
 obtain ⟨F,az,l⟩:=bd l
 obtain ⟨aa,l⟩:=gd l
 refine bG ?_
 refine lM _ (fun w s=>(s.d 0 R)) ?_
 refine lC 1 qi R (Z1n_ok az) R ?_
 rintro ⟨c5,c8,c9⟩
 refine aL 0 aB ?_
 rintro rfl
 refine lI R (iP (fun w s=>s.shr 0 R) (gC (K:=kT3) (0:Int) (aH ((b.length:Int) - 1)) 0 R R bI cB R R R R aa.1 aa.2.1 aa.2.2 (fun O M=>(lS R (aC (aI (aO (aO ?_))))))))
 obtain ⟨c4,ar,l⟩:=bd l
 refine aU ?_
 refine lM _ (fun w s=>(s.d 0 R)) ?_
 refine lC 1 i' R (Zd_ok ar) R ?_
 rintro _
 refine aP ?_
 split at l
 refine cP ?_
 cases l
 exact hW ((none,0,0),(none,0,0)) (fun w s=>(((s.nilr kT3).nilo kT161 161).e 5 [1,0]))
 refine bG ?_
 refine aZ (A:=(Int)×(Unit)) (fun a=>Z5_J1 b j E F a.1=some r) (fun a=>[(0,(sc A2 b D2)),(1,(iv j)),(2,(iv a.1)),(3,(iv E)),(11,(iv (aH ((b.length:Int) - 1)))),(12,(sc O (sub F (0:Int) (aH ((b.length:Int) - 1))) M))]) (fun a=>RR kT3 O M (sub F (0:Int) (aH ((b.length:Int) - 1)))::W0) ?_ ?_
 refine bU ?_
 obtain ⟨b6,l⟩:=gd l
 refine aP ?_
 refine bA 2 aA (show 0<b.length by have:=b6; omega) (fun ca o31 ha=>?_)
 subst ha
 refine bZ ?_
 split at l
 refine bG ?_
 exact qI ((0:Int),()) l (tE 2 [0])
 refine aU ?_
 exact qI (i,()) l (tE 2 [0])
 rintro ⟨m,_⟩ σ1 l
 dsimp only [Z5_J1] at l
 refine bU ?_
 obtain ⟨a9,l⟩:=gd l
 obtain ⟨g,b0,l⟩:=bd l
 refine aP ?_
 refine gC (K:=kT3) (0:Int) (aH ((b.length:Int) - 1)) 1 R R bI cB R R R R a9.1 a9.2.1 a9.2.2 (fun c7 c6=>(lI R (lM _ (fun w s=>(s.d 0 R)) ?_)))
 refine lC 1 vQ R (Z23_ok b0) R ?_
 rintro _
 refine lO (vT R) ?_
 refine cP ?_
 refine bK (K:=kT161) (xs:=([]:List pair)) (vs:=[]) 0 R R fA fB eO R R R R R R ?_ R (fun br bw=>?_)
 exact fun I h s=>(iZ).list [] I h s
 refine bG ?_
 refine aZ (A:=((List pair))×(HH)) (fun a=>Z5_J16 b F a.1=some r) (fun a=>[(12,(sc O (sub F (0:Int) (aH ((b.length:Int) - 1))) M)),(16,(s3 a.2))]) (fun a=>RR kT3 O M (sub F (0:Int) (aH ((b.length:Int) - 1)))::ow kT161 161 (s3 a.2) a.1::W0) ?_ ?_
 refine bT ?_
 obtain ⟨e1,bz,bv⟩:=bd l
 refine bD (A:=HH) bz (fun s a=>[(0,(sc A2 b D2)),(2,(iv m)),(3,(iv E)),(11,(iv (aH ((b.length:Int) - 1)))),(12,(sc O (sub F (0:Int) (aH ((b.length:Int) - 1))) M)),(13,(iv g.1)),(14,(iv g.2.1)),(15,(iv g.2.2)),(16,(s3 a)),(17,(iv s.2))]) (fun s a=>RR kT3 O M (sub F (0:Int) (aH ((b.length:Int) - 1)))::ow kT161 161 (s3 a) s.1::W0) (br,([]:List pair).length,bw) (aS R) (tE 3 [2,0]) ?_
 rintro ⟨Y,q⟩ ⟨ah,b2,al⟩ σ1 ay l bs
 dsimp only [Z5_L1] at l
 refine bJ 1 aB (fun (hn:b2=Y.length)=>?_)
 subst hn
 refine cV ?_
 split at l
 refine bG ?_
 refine aZ (A:=((List pair))×(HH)) (fun a=>Z5_J15 q a.1=some ay) (fun a=>[(0,(sc A2 b D2)),(2,(iv m)),(3,(iv E)),(11,(iv (aH ((b.length:Int) - 1)))),(12,(sc O (sub F (0:Int) (aH ((b.length:Int) - 1))) M)),(13,(iv g.1)),(14,(iv g.2.1)),(15,(iv g.2.2)),(16,(s3 a.2)),(17,(iv q))]) (fun a=>RR kT3 O M (sub F (0:Int) (aH ((b.length:Int) - 1)))::ow kT161 161 (s3 a.2) a.1::W0) ?_ ?_
 refine dG ?_
 obtain ⟨e2,bl,bk⟩:=bd l
 refine bD (A:=HH) bl (fun s a=>[(0,(sc A2 b D2)),(2,(iv m)),(3,(iv E)),(11,(iv (aH ((b.length:Int) - 1)))),(12,(sc O (sub F (0:Int) (aH ((b.length:Int) - 1))) M)),(13,(iv g.1)),(14,(iv g.2.1)),(15,(iv g.2.2)),(16,(s3 a)),(17,(iv q)),(18,(iv s.2))]) (fun s a=>RR kT3 O M (sub F (0:Int) (aH ((b.length:Int) - 1)))::ow kT161 161 (s3 a) s.1::W0) (ah,Y.length,al) (aS R) tI ?_
 rintro ⟨a0,u⟩ ⟨am,bh,ac⟩ σ1 be l bm
 dsimp only [Z5_L2] at l
 refine bJ 1 aB (fun (hn:bh=a0.length)=>?_)
 subst hn
 refine cV ?_
 split at l
 refine bG ?_
 refine aZ (A:=((List pair))×(HH)) (fun a=>Z5_J14 u a.1=some be) (fun a=>[(0,(sc A2 b D2)),(2,(iv m)),(3,(iv E)),(11,(iv (aH ((b.length:Int) - 1)))),(12,(sc O (sub F (0:Int) (aH ((b.length:Int) - 1))) M)),(13,(iv g.1)),(14,(iv g.2.1)),(15,(iv g.2.2)),(16,(s3 a.2)),(17,(iv q)),(18,(iv u))]) (fun a=>RR kT3 O M (sub F (0:Int) (aH ((b.length:Int) - 1)))::ow kT161 161 (s3 a.2) a.1::W0) ?_ ?_
 refine dG ?_
 obtain ⟨e3,bn,bj⟩:=bd l
 refine bD (A:=HH) bn (fun s a=>[(0,(sc A2 b D2)),(2,(iv m)),(3,(iv E)),(11,(iv (aH ((b.length:Int) - 1)))),(12,(sc O (sub F (0:Int) (aH ((b.length:Int) - 1))) M)),(13,(iv g.1)),(14,(iv g.2.1)),(15,(iv g.2.2)),(16,(s3 a)),(17,(iv q)),(18,(iv u)),(19,(iv s.2))]) (fun s a=>RR kT3 O M (sub F (0:Int) (aH ((b.length:Int) - 1)))::ow kT161 161 (s3 a) s.1::W0) (am,a0.length,ac) (aS R) tI ?_
 rintro ⟨Z,B⟩ ⟨ak,b7,ai⟩ σ1 aw l bu
 dsimp only [Z5_L3] at l
 refine bJ 1 aB (fun (hn:b7=Z.length)=>?_)
 subst hn
 refine cV ?_
 split at l
 refine bG ?_
 refine aZ (A:=((List pair))×(HH)) (fun a=>Z5_J13 B a.1=some aw) (fun a=>[(0,(sc A2 b D2)),(2,(iv m)),(3,(iv E)),(11,(iv (aH ((b.length:Int) - 1)))),(12,(sc O (sub F (0:Int) (aH ((b.length:Int) - 1))) M)),(13,(iv g.1)),(14,(iv g.2.1)),(15,(iv g.2.2)),(16,(s3 a.2)),(17,(iv q)),(18,(iv u)),(19,(iv B))]) (fun a=>RR kT3 O M (sub F (0:Int) (aH ((b.length:Int) - 1)))::ow kT161 161 (s3 a.2) a.1::W0) ?_ ?_
 refine dG ?_
 obtain ⟨e4,bq,bi⟩:=bd l
 refine bD (A:=HH) bq (fun s a=>[(0,(sc A2 b D2)),(2,(iv m)),(3,(iv E)),(11,(iv (aH ((b.length:Int) - 1)))),(12,(sc O (sub F (0:Int) (aH ((b.length:Int) - 1))) M)),(13,(iv g.1)),(14,(iv g.2.1)),(15,(iv g.2.2)),(16,(s3 a)),(17,(iv q)),(18,(iv u)),(19,(iv B)),(20,(iv s.2))]) (fun s a=>RR kT3 O M (sub F (0:Int) (aH ((b.length:Int) - 1)))::ow kT161 161 (s3 a) s.1::W0) (ak,Z.length,ai) (aS R) tI ?_
 rintro ⟨J,T⟩ ⟨b8,bb,b5⟩ σ1 c0 l bp
 dsimp only [Z5_L4] at l
 refine bJ 1 aB (fun (hn:bb=J.length)=>?_)
 subst hn
 refine aU ?_
 obtain ⟨an,l⟩:=gd l
 refine bG ?_
 refine bA 2 aA (show 0<b.length by have:=an; omega) (fun c2 o260 ha=>?_)
 subst ha
 refine bZ ?_
 split at l
 refine bZ ?_
 obtain ⟨ao,l⟩:=gd l
 refine wB ?_
 refine lO (vz (.agg [(iv (aH ((aH ((aH ((aH ((aH ((aH (q*g.2.1))+u))*g.2.2))+B))*(ix b (aH ((b.length:Int) - 1)))))+T))),(iv (aH ((aH ((aH ((aH ((aH (q*E))+(aH (u*m))))+T))*g.2.2))+B)))].toArray) (aX mt eO R R)) ?_
 refine bK (K:=kT161) (xs:=([(⟨(aH ((aH ((aH ((aH ((aH ((aH (q*g.2.1))+u))*g.2.2))+B))*(ix b (aH ((b.length:Int) - 1)))))+T)),(aH ((aH ((aH ((aH ((aH (q*E))+(aH (u*m))))+T))*g.2.2))+B))⟩:pair)]:List pair)) (vs:=[(.agg [(iv (aH ((aH ((aH ((aH ((aH ((aH (q*g.2.1))+u))*g.2.2))+B))*(ix b (aH ((b.length:Int) - 1)))))+T))),(iv (aH ((aH ((aH ((aH ((aH (q*E))+(aH (u*m))))+T))*g.2.2))+B)))].toArray)]) 0 R R fA fB eO R R R R R R ?_ R (fun c1 c3=>?_)
 exact fun I h s=>(iZ).list [(((),()),(⟨(aH ((aH ((aH ((aH ((aH ((aH (q*g.2.1))+u))*g.2.2))+B))*(ix b (aH ((b.length:Int) - 1)))))+T)),(aH ((aH ((aH ((aH ((aH (q*E))+(aH (u*m))))+T))*g.2.2))+B))⟩:pair))] I h s
 refine lM _ (tE 3 [2,0,1]) ?_
 refine eB (K:=kT161) 8796093022208 R R fA fB lu (Zr.zk zT161 eO) R R R R R R dM ao (fun ag ab=>(lN (OO kT161 161 ag ab (J++([(⟨(aH ((aH ((aH ((aH ((aH ((aH (q*g.2.1))+u))*g.2.2))+B))*(ix b (aH ((b.length:Int) - 1)))))+T)),(aH ((aH ((aH ((aH ((aH (q*E))+(aH (u*m))))+T))*g.2.2))+B))⟩:pair)]:List pair))::_::W0) ?_))
 refine cU ?_
 cases l
 exact qA (ag,(J++([(⟨(aH ((aH ((aH ((aH ((aH ((aH (q*g.2.1))+u))*g.2.2))+B))*(ix b (aH ((b.length:Int) - 1)))))+T)),(aH ((aH ((aH ((aH ((aH (q*E))+(aH (u*m))))+T))*g.2.2))+B))⟩:pair)]:List pair)).length,ab) (tE 2 [1,0])
 refine aP ?_
 cases l
 obtain rfl:=bp _ R
 have l:=bi
 refine aP ?_
 exact qI (J,(b8,J.length,b5)) l tI
 rintro ⟨a5,⟨b4,aq,au⟩⟩ σ1 l
 dsimp only [Z5_J13] at l
 refine bJ 1 aB (fun (hn:aq=a5.length)=>?_)
 subst hn
 refine bZ ?_
 cases l
 exact qA (b4,a5.length,au) tI
 refine aP ?_
 cases l
 obtain rfl:=bu _ R
 have l:=bj
 refine aP ?_
 exact qI (Z,(ak,Z.length,ai)) l tI
 rintro ⟨a3,⟨ap,bg,ax⟩⟩ σ1 l
 dsimp only [Z5_J14] at l
 refine bJ 1 aB (fun (hn:bg=a3.length)=>?_)
 subst hn
 refine bZ ?_
 cases l
 exact qA (ap,a3.length,ax) tI
 refine aP ?_
 cases l
 obtain rfl:=bm _ R
 have l:=bk
 refine aP ?_
 exact qI (a0,(am,a0.length,ac)) l tI
 rintro ⟨a4,⟨bf,b1,b9⟩⟩ σ1 l
 dsimp only [Z5_J15] at l
 refine bJ 1 aB (fun (hn:b1=a4.length)=>?_)
 subst hn
 refine bZ ?_
 cases l
 exact qA (bf,a4.length,b9) tI
 refine aP ?_
 cases l
 obtain rfl:=bs _ R
 have l:=bv
 refine aU ?_
 exact qI (Y,(ah,Y.length,al)) l tI
 rintro ⟨a6,⟨b3,ba,bc⟩⟩ σ1 l
 dsimp only [Z5_J16] at l
 refine bJ 1 aB (fun (hn:ba=a6.length)=>?_)
 subst hn
 refine cP ?_
 cases l
 exact hW ((O,(sub F (0:Int) (aH ((b.length:Int) - 1))).length,M),(b3,a6.length,bc)) (tE 3 [0,1])
theorem Z22_ok  {p1:(List Int)}{a:(List Int)}{r:(List Int)×(List pair)×Bool}(b:Z22 p1 a=some r) :
 FnOk Tryz.prog 133 [(.slice A2 N2 D2),(.slice A4 N4 D4)] [aN kT3 (.slice A2 N2 D2) p1,aN kT3 (.slice A4 N4 D4) a] (fun (h:HH×HH)=>((.tuple [(s3 h.1),(s3 h.2),(.bool r.2.2)].toArray),[aN kT3 (s3 h.1) r.1,ow kT161 161 (s3 h.2) r.2.1])):=by
 unfold Z22 at b
 refine aQ Tryz.func133 R 21 R R fun C V=>?_
 refine cL 0 aA ?_
 rintro rfl
 refine cL 1 aA ?_
 rintro rfl
 let m:=RR kT3 A2 D2 p1::RR kT3 A4 D4 a::V
 refine cN m ?_
 refine cV ?_
 obtain ⟨j,b⟩:=gd b
 obtain ⟨_,b⟩:=gd b
 obtain ⟨_,b⟩:=gd b
 obtain ⟨g,e,b⟩:=bd b
 refine bB 0 aA (show 0<p1.length by have:=j; omega) (fun E o7 q=>?_)
 subst q
 refine dF 17 [] bP fun B D=>?_
 refine qV 0 [] ?_
 refine d1 10 R (lM _ (fun w s=>(s.d 1 R)) ?_)
 refine lC 1 zJ R (Z5_ok e) R ?_
 rintro ⟨⟨A12,N12,D12⟩,⟨l,u,i⟩⟩
 refine aL 0 aA ?_
 rintro rfl
 refine aL 1 aB ?_
 rintro rfl
 refine aC (aG (sL [1,0]) ?_)
 refine sf 11 [1,0] ?_
 refine dD ?_
 refine aU ?_
 cases b
 exact hW ((A12,g.1.length,D12),(l,g.2.1.length,i)) (tE 4 [0,1])
theorem Z2t_ok  {a:Node}{b:(List Int)}{m:Int}{g:Int}{E:Nat}{j:Nat}{i:Nat}{r:(List Int)×(List pair)×Bool}(l:Z2t a b m g=some r) :
 FnOk Tryz.prog 149 [(.agg [(iv a.Op),(.slice A2 N2 D2),(.slice A3 N3 D3),(.slice A4 N4 D4),(aD a.Form),(.slice A5 N5 D5)].toArray),(.slice A7 N7 D7),(pt E 0),(pt j 0),(pt i 0)] [aN kT3 (.slice A2 N2 D2) a.Args,aN kT3 (.slice A3 N3 D3) a.Dims,aN kT3 (.slice A4 N4 D4) a.Ints,aN kT3 (.slice A5 N5 D5) a.Data,aN kT3 (.slice A7 N7 D7) b,aJ E [(iv m)] 3,aJ j [(iv g)] 3,aJ i [(.func (.func 133) [].toArray [].toArray)] 150] (fun (h:HH×HH)=>((.tuple [(s3 h.1),(s3 h.2),(.bool r.2.2)].toArray),[aN kT3 (s3 h.1) r.1,ow kT161 161 (s3 h.2) r.2.1,aJ E [(iv m)] 3,aJ j [(iv g)] 3,aJ i [(.func (.func 133) [].toArray [].toArray)] 150])):=by
 unfold Z2t at l
 refine aQ Tryz.func149 R 30 R R fun C V=>?_
 refine cM _ (fun w s=>(s.f 8 [5,3,0,5])) ?_
 refine cL 3 aA ?_
 rintro rfl
 refine cL 4 aA ?_
 rintro rfl
 refine cL 5 aA ?_
 rintro rfl
 refine cL 6 aA ?_
 rintro rfl
 refine cL 7 aA ?_
 rintro rfl
 let M:=RR kT3 A2 D2 a.Args::RR kT3 A3 D3 a.Dims::RR kT3 A4 D4 a.Ints::RR kT3 A5 D5 a.Data::RR kT3 A7 D7 b::V
 refine aU ?_
 refine eF R fun q=>?_
 refine bG ?_
 let L:=aJ q [(iv a.Op),(sc A2 a.Args D2),(sc A3 a.Dims D3),(sc A4 a.Ints D4),(aD a.Form),(sc A5 a.Data D5)] 54::aJ E [(iv m)] 3::aJ j [(iv g)] 3::aJ i [(.func (.func 133) [].toArray [].toArray)] 150::M
 refine qN L ?_
 refine aP ?_
 refine cQ [(1,(sc A7 b D7)),(4,(pt i 0)),(5,(pt q 0)),(21,(.bool ((decide ((a.Ints.length:Int)<m))||(decide ((a.Ints.length:Int)>g)))))] (L) ?_ ?_
 refine dG ?_
 rcases bo (decide ((a.Ints.length:Int)<m)) with B | B
 refine dG ?_
 exact qj tI
 refine dG ?_
 exact qj tI
 rintro σ1
 refine bU ?_
 split at l
 refine cP ?_
 cases l
 exact hW ((none,0,0),(none,0,0)) (fun w s=>(((s.nilr kT3).nilo kT161 161).e 11 [1,0,3,4,5]))
 refine bG ?_
 obtain ⟨D,u,l⟩:=bd l
 refine bZ ?_
 refine lM _ (fun w s=>(((s.d 6 R).d 9 R).e 2 [1,0])) ?_
 refine cE (fs:=[]) (cs:=[]) 2 R R zK R R (Z22_ok u) R ?_
 rintro ⟨⟨F,O,G⟩,⟨I,T,J⟩⟩
 refine aL 0 aA ?_
 rintro rfl
 refine aL 1 aB ?_
 rintro rfl
 refine cU ?_
 cases l
 exact hW ((F,D.1.length,G),(I,D.2.1.length,J)) (fun w s=>(s.f 11 [0,2,3,3]))
theorem Z1t_ok  {k1:shiftKind}{I:Int}{F:Int}{b:Node}{a:(List (List Int))}{l:Nat}{j:Nat}{m:Nat}{r:(List Int)×Bool}(i:Z1t k1 I F b a=some r) :
 FnOk Tryz.prog 220 [(.agg [(aD k1.use),(.func (.func 149) [].toArray [(pt l 0),(pt j 0),(pt m 0)].toArray)].toArray),(.agg [(iv b.Op),(.slice A9 N9 D9),(.slice A10 N10 D10),(.slice A11 N11 D11),(aD b.Form),(.slice A12 N12 D12)].toArray),(.slice A14 N14 D14)] [aJ l [(iv I)] 3,aJ j [(iv F)] 3,aJ m [(.func (.func 133) [].toArray [].toArray)] 150,aN kT3 (.slice A9 N9 D9) b.Args,aN kT3 (.slice A10 N10 D10) b.Dims,aN kT3 (.slice A11 N11 D11) b.Ints,aN kT3 (.slice A12 N12 D12) b.Data,aN bL (.slice A14 N14 D14) a] (fun (h:HH)=>((.tuple [(s3 h),(.bool r.2)].toArray),[aN kT3 (s3 h) r.1,aJ l [(iv I)] 3,aJ j [(iv F)] 3,aJ m [(.func (.func 133) [].toArray [].toArray)] 150])):=by
 unfold Z1t at i
 refine aQ Tryz.func220 R 27 R R fun C V=>?_
 refine cL 3 aA ?_
 rintro rfl
 refine cL 4 aA ?_
 rintro rfl
 refine cL 5 aA ?_
 rintro rfl
 refine cL 6 aA ?_
 rintro rfl
 refine cL 7 aA ?_
 rintro rfl
 let J:=RR kT3 A9 D9 b.Args::RR kT3 A10 D10 b.Dims::RR kT3 A11 D11 b.Ints::RR kT3 A12 D12 b.Data::RR bL A14 D14 a::V
 refine aU ?_
 refine eF R fun u=>?_
 refine eF R fun D=>?_
 refine aP ?_
 refine qM _ (fun w s=>(s.f 5 [2,3,0,2])) ?_
 let W1:=aJ D [(iv b.Op),(sc A9 b.Args D9),(sc A10 b.Dims D10),(sc A11 b.Ints D11),(aD b.Form),(sc A12 b.Data D12)] 54::aJ u [(aD k1.use),(.func (.func 149) [].toArray [(pt l 0),(pt j 0),(pt m 0)].toArray)] 145::J
 refine cU ?_
 split at i
 refine cU ?_
 cases i
 exact jD (none,0,0) (fun w s=>((s.nilr kT3).f 11 [0,4]))
 refine bG ?_
 obtain ⟨g,i⟩:=gd i
 obtain ⟨G,q,i⟩:=bd i
 refine bB 9 aA (show 0<a.length by have:=g; omega) (fun Z o20 T=>?_)
 subst T
 refine dL (K:=bL) 9 (0:Int) dT23.dec R g.1 g.2 ?_
 rintro ⟨U,L⟩
 refine dF 14 [] bP fun ht hn=>?_
 refine kk 0 [] ?_
 refine dR 5 R (eJ (fo:=0) 0 cJ R R R) (d1 6 R (lM _ (fun w s=>((((((s.d 7 R).d 9 R).d 11 R).d 13 R).d 5 R).e 10 [4,3,2,1,0,7,8,9,5,6])) ?_))
 refine cE (fs:=[]) (cs:=[(pt l 0),(pt j 0),(pt m 0)]) 8 R R qm R R (Z2t_ok q) R ?_
 rintro ⟨⟨E,M,B⟩,⟨Y,O,a0⟩⟩
 refine aL 0 aA ?_
 rintro rfl
 refine aL 1 aB ?_
 rintro rfl
 refine aC (aG (fun w s=>(s.f 7 [5,2,2,3])) (dR 7 R (vT R) (hS:=(fun w s=>(s.f 7 [5,2,2,3]))) (dR 8 R (vS R) (hS:=(fun w s=>(s.f 7 [5,2,2,3]))) (dR 9 R (vS R) (hS:=(fun w s=>(s.f 7 [5,2,2,3]))) (dR 10 R (vB R) (hS:=(fun w s=>(s.f 7 [5,2,2,3]))) (dR 11 R (vS R) (hS:=(fun w s=>(s.f 7 [5,2,2,3]))) (dR 12 R (vS R) (hS:=(fun w s=>(s.f 7 [5,2,2,3]))) (dR 13 R (vB R) (hS:=(fun w s=>(s.f 7 [5,2,2,3]))) (dD ?_)))))))))
 refine cP ?_
 cases i
 exact jD (E,G.1.length,B) (tE 14 [0,2,3,4])
theorem l5  {r:kindOfR}{a:Node}{m:(List (List Int))}{g h1 h2:Nat}{B A2 A3 A4 A5:Option Addr}{l u N2 D2 N3 D3 N4 D4 N5 D5:Nat}{mG:Int}{q:(List Int)×Bool}(b:bO r a m=some q) :
 InvOk Tryz.prog (cX r (g,h1,h2)) "loop.example/g00033/impl.shape" [(.agg [(iv a.Op),(.slice B l u),(.slice A2 N2 D2),(.slice A3 N3 D3),(aD a.Form),(.slice A4 N4 D4)].toArray),(.slice A5 N5 D5)] [eT r (g,h1,h2),aN kT3 (.slice B l u) a.Args,aN kT3 (.slice A2 N2 D2) a.Dims,aN kT3 (.slice A3 N3 D3) a.Ints,aN kT3 (.slice A4 N4 D4) a.Data,aN bL (.slice A5 N5 D5) m,gl 0 mG] (fun (h:HH)=>((.tuple [(s3 h),(.bool q.2)].toArray),[aN kT3 (s3 h) q.1,eT r (g,h1,h2)])):=by
 unfold bO at b
 rcases cO b with ⟨Z,b⟩|⟨Z,b⟩
 ·cases b
 rcases cO b with ⟨U,b⟩|⟨U,b⟩
 ·obtain ⟨t,E,i,j,D⟩:=r
  obtain rfl:=Nat.eq_of_beq_eq_true U
  exact InvOk.mk (oD _) (((Z1m_ok b).perm (Pre':=[pk [],aN kT3 (.slice B l u) a.Args,aN kT3 (.slice A2 N2 D2) a.Dims,aN kT3 (.slice A3 N3 D3) a.Ints,aN kT3 (.slice A4 N4 D4) a.Data,aN bL (.slice A5 N5 D5) m,gl 0 mG]) (fun _ _ _ s=>(St.unpack (A:=[]) s).e 6 [0,1,2,3,4])).post id (fun _=>rfl) (fun _ _ _ _ s=>(St.pack (A:=[]) (s)).e 2 [1,0]))
 rcases cO b with ⟨Y,b⟩|⟨Y,b⟩
 ·obtain ⟨t,E,i,j,D⟩:=r
  obtain rfl:=Nat.eq_of_beq_eq_true Y
  exact InvOk.mk (oE _) (((Z24_ok b).perm (Pre':=[pk [],aN kT3 (.slice B l u) a.Args,aN kT3 (.slice A2 N2 D2) a.Dims,aN kT3 (.slice A3 N3 D3) a.Ints,aN kT3 (.slice A4 N4 D4) a.Data,aN bL (.slice A5 N5 D5) m,gl 0 mG]) (fun _ _ _ s=>(St.unpack (A:=[]) s).e 6 [0,1,2,3,4])).post id (fun _=>rfl) (fun _ _ _ _ s=>(St.pack (A:=[]) (s)).e 2 [1,0]))
 rcases cO b with ⟨I,b⟩|⟨I,b⟩
 ·obtain ⟨t,E,i,j,D⟩:=r
  obtain rfl:=Nat.eq_of_beq_eq_true I
  exact InvOk.mk (oG _) (((Z2w_ok b).perm (Pre':=[pk [],aN kT3 (.slice B l u) a.Args,aN kT3 (.slice A2 N2 D2) a.Dims,aN kT3 (.slice A3 N3 D3) a.Ints,aN kT3 (.slice A4 N4 D4) a.Data,aN bL (.slice A5 N5 D5) m,gl 0 mG]) (fun _ _ _ s=>(St.unpack (A:=[]) s).e 6 [0,1,2,3,4])).post id (fun _=>rfl) (fun _ _ _ _ s=>(St.pack (A:=[]) (s)).e 2 [1,0]))
 rcases cO b with ⟨J,b⟩|⟨J,b⟩
 ·obtain ⟨t,E,i,j,D⟩:=r
  obtain rfl:=Nat.eq_of_beq_eq_true J
  exact InvOk.mk (oH _) (((Z1y_ok (k1:=⟨⟩) b).perm (Pre':=[pk [],aN kT3 (.slice B l u) a.Args,aN kT3 (.slice A2 N2 D2) a.Dims,aN kT3 (.slice A3 N3 D3) a.Ints,aN kT3 (.slice A4 N4 D4) a.Data,aN bL (.slice A5 N5 D5) m,gl 0 mG]) (fun _ _ _ s=>(St.unpack (A:=[]) s).e 6 [0,1,2,3,4])).post id (fun _=>rfl) (fun _ _ _ _ s=>(St.pack (A:=[]) (s)).e 2 [1,0]))
 rcases cO b with ⟨O,b⟩|⟨O,b⟩
 ·obtain ⟨t,E,i,j,D⟩:=r
  obtain rfl:=Nat.eq_of_beq_eq_true O
  exact InvOk.mk (oI _) (((Z2v_ok (k1:=⟨⟩) b).perm (Pre':=[pk [],aN kT3 (.slice B l u) a.Args,aN kT3 (.slice A2 N2 D2) a.Dims,aN kT3 (.slice A3 N3 D3) a.Ints,aN kT3 (.slice A4 N4 D4) a.Data,aN bL (.slice A5 N5 D5) m,gl 0 mG]) (fun _ _ _ s=>St.unpack (A:=[]) s)).post id (fun _=>rfl) (fun _ _ _ _ s=>(St.pack (A:=[]) ((s).shr 0 R)).e 2 [1,0]))
 rcases cO b with ⟨G,b⟩|⟨G,b⟩
 ·obtain ⟨t,E,i,j,D⟩:=r
  obtain rfl:=Nat.eq_of_beq_eq_true G
  exact InvOk.mk (gD _) (((Z1u_ok b).perm (Pre':=[pk [],aN kT3 (.slice B l u) a.Args,aN kT3 (.slice A2 N2 D2) a.Dims,aN kT3 (.slice A3 N3 D3) a.Ints,aN kT3 (.slice A4 N4 D4) a.Data,aN bL (.slice A5 N5 D5) m,gl 0 mG]) (fun _ _ _ s=>(St.unpack (A:=[]) s).e 6 [0,1,2,3,4])).post id (fun _=>rfl) (fun _ _ _ _ s=>(St.pack (A:=[]) (s)).e 2 [1,0]))
 rcases cO b with ⟨L,b⟩|⟨L,b⟩
 ·obtain ⟨t,E,i,j,D⟩:=r
  obtain rfl:=Nat.eq_of_beq_eq_true L
  exact InvOk.mk (gD _) (((Z25_ok b).perm (Pre':=[pk [],aN kT3 (.slice B l u) a.Args,aN kT3 (.slice A2 N2 D2) a.Dims,aN kT3 (.slice A3 N3 D3) a.Ints,aN kT3 (.slice A4 N4 D4) a.Data,aN bL (.slice A5 N5 D5) m,gl 0 mG]) (fun _ _ _ s=>(St.unpack (A:=[]) s).e 6 [0,1,2,3,4])).post id (fun _=>rfl) (fun _ _ _ _ s=>(St.pack (A:=[]) (s)).e 2 [1,0]))
 rcases cO b with ⟨T,b⟩|⟨T,b⟩
 ·obtain ⟨t,E,i,j,D⟩:=r
  obtain rfl:=Nat.eq_of_beq_eq_true T
  exact InvOk.mk (gD _) (((Z1q_ok b).perm (Pre':=[pk [aJ g [(iv i)] 3,aJ h1 [(iv j)] 3,aJ h2 [(.func (.func 127) [].toArray [].toArray)] 150],aN kT3 (.slice B l u) a.Args,aN kT3 (.slice A2 N2 D2) a.Dims,aN kT3 (.slice A3 N3 D3) a.Ints,aN kT3 (.slice A4 N4 D4) a.Data,aN bL (.slice A5 N5 D5) m,gl 0 mG]) (fun _ _ _ s=>(St.unpack (A:=[aJ g [(iv i)] 3,aJ h1 [(iv j)] 3,aJ h2 [(.func (.func 127) [].toArray [].toArray)] 150]) s).e 9 [0,1,2,3,4,5,6,7])).post id (fun _=>rfl) (fun _ _ _ _ s=>(St.pack (A:=[aJ g [(iv i)] 3,aJ h1 [(iv j)] 3,aJ h2 [(.func (.func 127) [].toArray [].toArray)] 150]) (((s).shr 0 R).e 4 [1,2,3,0])).e 2 [1,0]))
 rcases cO b with ⟨M,b⟩|⟨M,b⟩
 ·obtain ⟨t,E,i,j,D⟩:=r
  obtain rfl:=Nat.eq_of_beq_eq_true M
  exact InvOk.mk (gD _) (((Z1r_ok b).perm (Pre':=[pk [aJ g [(iv i)] 3,aJ h1 [(iv j)] 3,aJ h2 [(.func (.func 129) [].toArray [].toArray)] 150],aN kT3 (.slice B l u) a.Args,aN kT3 (.slice A2 N2 D2) a.Dims,aN kT3 (.slice A3 N3 D3) a.Ints,aN kT3 (.slice A4 N4 D4) a.Data,aN bL (.slice A5 N5 D5) m,gl 0 mG]) (fun _ _ _ s=>(St.unpack (A:=[aJ g [(iv i)] 3,aJ h1 [(iv j)] 3,aJ h2 [(.func (.func 129) [].toArray [].toArray)] 150]) s).e 9 [0,1,2,3,4,5,6,7])).post id (fun _=>rfl) (fun _ _ _ _ s=>(St.pack (A:=[aJ g [(iv i)] 3,aJ h1 [(iv j)] 3,aJ h2 [(.func (.func 129) [].toArray [].toArray)] 150]) (((s).shr 0 R).e 4 [1,2,3,0])).e 2 [1,0]))
 rcases cO b with ⟨F,b⟩|⟨F,b⟩
 ·obtain ⟨t,E,i,j,D⟩:=r
  obtain rfl:=Nat.eq_of_beq_eq_true F
  exact InvOk.mk (gD _) (((Z1s_ok b).perm (Pre':=[pk [aJ g [(iv i)] 3,aJ h1 [(iv j)] 3,aJ h2 [(.func (.func 131) [].toArray [].toArray)] 150],aN kT3 (.slice B l u) a.Args,aN kT3 (.slice A2 N2 D2) a.Dims,aN kT3 (.slice A3 N3 D3) a.Ints,aN kT3 (.slice A4 N4 D4) a.Data,aN bL (.slice A5 N5 D5) m,gl 0 mG]) (fun _ _ _ s=>(St.unpack (A:=[aJ g [(iv i)] 3,aJ h1 [(iv j)] 3,aJ h2 [(.func (.func 131) [].toArray [].toArray)] 150]) s).e 9 [0,1,2,3,4,5,6,7])).post id (fun _=>rfl) (fun _ _ _ _ s=>(St.pack (A:=[aJ g [(iv i)] 3,aJ h1 [(iv j)] 3,aJ h2 [(.func (.func 131) [].toArray [].toArray)] 150]) (((s).shr 0 R).e 4 [1,2,3,0])).e 2 [1,0]))
 have hV:cX r (g,h1,h2)=(.iface 145 (.agg [(aD r.s0),(.func (.func 149) [].toArray [(pt g 0),(pt h1 0),(pt h2 0)].toArray)].toArray)):=by simp only [cX,Z,U,Y,I,J,O,G,L,T,M,F,cond_false]
 have hE:eT r (g,h1,h2)=pk [aJ g [(iv r.i0)] 3,aJ h1 [(iv r.i1)] 3,aJ h2 [(.func (.func 133) [].toArray [].toArray)] 150]:=by simp only [eT,Z,U,Y,I,J,O,G,L,T,M,F,cond_false]
 rw [hV,hE]
 exact InvOk.mk (gD _) (((Z1t_ok b).perm (Pre':=[pk [aJ g [(iv r.i0)] 3,aJ h1 [(iv r.i1)] 3,aJ h2 [(.func (.func 133) [].toArray [].toArray)] 150],aN kT3 (.slice B l u) a.Args,aN kT3 (.slice A2 N2 D2) a.Dims,aN kT3 (.slice A3 N3 D3) a.Ints,aN kT3 (.slice A4 N4 D4) a.Data,aN bL (.slice A5 N5 D5) m,gl 0 mG]) (fun _ _ _ s=>(St.unpack (A:=[aJ g [(iv r.i0)] 3,aJ h1 [(iv r.i1)] 3,aJ h2 [(.func (.func 133) [].toArray [].toArray)] 150]) s).e 9 [0,1,2,3,4,5,6,7])).post id (fun _=>rfl) (fun _ _ _ _ s=>(St.pack (A:=[aJ g [(iv r.i0)] 3,aJ h1 [(iv r.i1)] 3,aJ h2 [(.func (.func 133) [].toArray [].toArray)] 150]) ((s).e 4 [1,2,3,0])).e 2 [1,0]))
theorem Zf_ok  {g:Node}{b:(List (List Int))}{mG:Int}{r:(List Int)×Bool}(l:Zf g b=some r) :
 FnOk Tryz.prog 59 [(.agg [(iv g.Op),(.slice A2 N2 D2),(.slice A3 N3 D3),(.slice A4 N4 D4),(aD g.Form),(.slice A5 N5 D5)].toArray),(.slice A7 N7 D7)] [aN kT3 (.slice A2 N2 D2) g.Args,aN kT3 (.slice A3 N3 D3) g.Dims,aN kT3 (.slice A4 N4 D4) g.Ints,aN kT3 (.slice A5 N5 D5) g.Data,ow (bL).share 23 (.slice A7 N7 D7) b,gl 0 mG] (fun (h:HH)=>((.tuple [(s3 h),(.bool r.2)].toArray),[aN kT3 (s3 h) r.1,ow (bL).share 23 (.slice A7 N7 D7) b])):=by
 unfold Zf at l
 refine aQ Tryz.func59 R 58 R R fun C V=>?_
 refine cM _ (tE 6 [4,0,1,2,3,5]) ?_
 refine cL 0 eW ?_
 rintro rfl
 refine cL 1 aA ?_
 rintro rfl
 refine cL 2 aA ?_
 rintro rfl
 refine cL 3 aA ?_
 rintro rfl
 refine cL 4 aA ?_
 rintro rfl
 let W0:=RR kT3 A2 D2 g.Args::RR kT3 A3 D3 g.Dims::RR kT3 A4 D4 g.Ints::RR kT3 A5 D5 g.Data::gl 0 mG::V
 refine aU ?_
 refine eF R fun Z=>?_
 refine aP ?_
 refine qM _ (tE 2 [1,0]) ?_
 let W1:=aJ Z [(iv g.Op),(sc A2 g.Args D2),(sc A3 g.Dims D3),(sc A4 g.Ints D4),(aD g.Form),(sc A5 g.Data D5)] 54::W0
 refine aU ?_
 obtain ⟨D,a8,l⟩:=bd l
 refine aP ?_
 refine lC 0 B8 R (Zz_ok a8) R ?_
 rintro ⟨B,u,q⟩
 refine lO (vp _ R) ?_
 refine bG ?_
 obtain ⟨au,G,l⟩:=bd l
 obtain ⟨a2,L,l⟩:=bd l
 refine cQ [(1,(sc A7 b D7)),(2,(pt Z 0)),(6,(cX D (B,u,q))),(27,(.bool (((Nat.beq D.t 0)||(!a2))||(decide ((g.Args.length:Int)>6)))))] (OO (bL).share 23 A7 D7 b::eT D (B,u,q)::W1) ?_ ?_
 rcases bo (Nat.beq D.t 0) with j | j
 refine dF 15 [] bP fun ht J=>?_
 refine dR 0 R (vp _ R) (dR 1 R (vz (.bool (Nat.beq D.t 0)) (mu R)) ?_)
 refine ml 2 [] ?_
 refine dD ?_
 exact qj (tE 2 [1,0])
 rcases bo ((Nat.beq D.t 0)||(!a2)) with ab | ab
 refine dF 15 [] bP fun ht J=>?_
 refine dR 0 R (vp _ R) (dR 1 R (vz (.bool (Nat.beq D.t 0)) (mu R)) ?_)
 refine gR 2 [] ?_
 refine dW 4 R (cA j) (vp _ R) (d1 5 R (s8 1 (cA j) R R (jz (bN G (cT j))) R ?_))
 rintro _
 refine aC (aG (sL []) (d1 6 R (lM _ (fun w s=>((((((s.d 3 R).d 5 R).d 7 R).d 9 R).dg 11 R).e 7 [4,3,2,1,0,5,6])) ?_)))
 refine bX 5 R (cA j) yX R (Z1x_ok (bN L (cT j))) R ?_
 rintro _
 refine aC (aG (sL []) ?_)
 refine ug 7 [] ?_
 refine dD ?_
 exact qj (tE 2 [1,0])
 refine dF 15 [] bP fun ht J=>?_
 refine dR 0 R (vp _ R) (dR 1 R (vz (.bool (Nat.beq D.t 0)) (mu R)) ?_)
 refine gR 2 [] ?_
 refine dW 4 R (cA j) (vp _ R) (d1 5 R (s8 1 (cA j) R R (jz (bN G (cT j))) R ?_))
 rintro _
 refine aC (aG (sL []) (d1 6 R (lM _ (fun w s=>((((((s.d 3 R).d 5 R).d 7 R).d 9 R).dg 11 R).e 7 [4,3,2,1,0,5,6])) ?_)))
 refine bX 5 R (cA j) yX R (Z1x_ok (bN L (cT j))) R ?_
 rintro _
 refine aC (aG (sL []) ?_)
 refine ug 7 [] ?_
 refine dD ?_
 exact qj (tE 2 [1,0])
 rintro σ1
 refine bU ?_
 split at l
 refine cU ?_
 cases l
 exact jD (none,0,0) (fun w s=>((s.nilr kT3).e 9 [0,1]))
 refine bZ ?_
 refine bK (K:=bL) (xs:=([]:List (List Int))) (vs:=[]) 0 R R km fK lA R R R R R R ?_ R (fun ag ah=>?_)
 exact fun I h s=>(mR).list [] I h s
 refine bG ?_
 refine aZ (A:=((List (List Int)))×(HH)) (fun a=>Zf_J1 g D a.1=some r) (fun a=>[(2,(pt Z 0)),(6,(cX D (B,u,q))),(7,(s3 a.2))]) (fun a=>eT D (B,u,q)::ow (bL).share 23 (s3 a.2) a.1::OO (bL).share 23 A7 D7 b::W1) ?_ ?_
 refine cU ?_
 obtain ⟨e1,ai,a6⟩:=bd l
 refine bD (A:=HH×HH) ai (fun s a=>[(1,(sc A7 b D7)),(2,(pt Z 0)),(6,(cX D (B,u,q))),(7,(s3 a.1)),(30,(s3 a.2)),(31,(il g.Args)),(32,(iv s.2))]) (fun s a=>OO (bL).share 23 A7 D7 b::eT D (B,u,q)::ow (bL).share 23 (s3 a.1) s.1::aN kT3 (s3 a.2) g.Args::W1) ((ag,([]:List (List Int)).length,ah),(A2,g.Args.length,D2)) (aS R) (fun w s=>(((s.wk 0 R).d 4 R).e 4 [2,3,1,0])) ?_
 rintro ⟨i,m⟩ ⟨⟨U,am,O⟩,⟨aq,aj,T⟩⟩ σ1 an l a3
 dsimp only [Zf_L1] at l
 refine bJ 2 eW (fun (J:am=i.length)=>?_)
 subst J
 refine bJ 3 aA (fun (J:aj=g.Args.length)=>?_)
 subst J
 refine bT ?_
 split at l
 refine bT ?_
 obtain ⟨a9,l⟩:=gd l
 refine aE (bA 3 aA (show 0<g.Args.length by have:=a9; omega) (fun M o42 ha=>?_))
 subst ha
 refine dG ?_
 refine cQ [(1,(sc A7 b D7)),(2,(pt Z 0)),(6,(cX D (B,u,q))),(7,(sc U i O)),(9,(iv (ix g.Args m))),(30,(sc (ad M o42) g.Args T)),(31,(il g.Args)),(32,(iv m)),(43,(.bool ((decide ((ix g.Args m)<0))||(decide ((ix g.Args m)≥(b.length:Int))))))] (OO (bL).share 23 A7 D7 b::eT D (B,u,q)::OO (bL).share 23 U O i::RR kT3 (ad M o42) T g.Args::W1) ?_ ?_
 refine bG ?_
 rcases bo (decide ((ix g.Args m)<0)) with aa | aa
 refine bT ?_
 exact qj tI
 refine bT ?_
 exact qj tI
 rintro σ1
 refine bU ?_
 split at l
 refine hN ?_
 cases l
 obtain rfl:=a3 _ R
 have l:=a6
 refine aP ?_
 cases l
 exact jD (none,0,0) (fun w s=>((s.nilr kT3).e 11 [0,1]))
 refine aP ?_
 obtain ⟨E,l⟩:=gd l
 obtain ⟨a1,l⟩:=gd l
 refine bG ?_
 refine bA 0 eW (show 0<b.length by have:=E; omega) (fun aw o47 ha=>?_)
 subst ha
 refine bU ?_
 refine wq (K:=(bL).share) (fo:=0) 0 (ix g.Args m) R R cJ dT23.own (fun _ _=>R) R R E.1 E.2 ?_
 rintro ⟨a7,a4⟩
 refine lM _ (fun w s=>(s.d 0 R)) ?_
 refine bK (K:=(bL).share) (xs:=([(ix b (ix g.Args m))]:List (List Int))) (vs:=[(sc a7 (ix b (ix g.Args m)) a4)]) 1 R R km fK lA R R R R R R ?_ R (fun av ap=>?_)
 exact fun I h s=>(sj).list [((sc a7 (ix b (ix g.Args m)) a4),(ix b (ix g.Args m)))] I h s
 refine lM _ (tE 6 [4,0,1,2,3,5]) ?_
 refine eB (K:=(bL).share) 5864062014805 R R km fK un (Zr.zk (Zr.share zT23) lA) R R R R R R dM a1 (fun a0 Y=>(lN (OO (bL).share 23 a0 Y (i++([(ix b (ix g.Args m))]:List (List Int)))::_::_::_::_::W1) ?_))
 refine cV ?_
 cases l
 exact qA ((a0,(i++([(ix b (ix g.Args m))]:List (List Int))).length,Y),((ad M o42),g.Args.length,T)) (tE 5 [2,3,0,4])
 refine aP ?_
 cases l
 obtain rfl:=a3 _ R
 have l:=a6
 refine aU ?_
 exact qI (i,(U,i.length,O)) l (tE 4 [1,2,0])
 rintro ⟨F,⟨ax,al,ao⟩⟩ σ1 l
 dsimp only [Zf_J1] at l
 refine bJ 1 eW (fun (J:al=F.length)=>?_)
 subst J
 refine bU ?_
 obtain ⟨ae,a5,l⟩:=bd l
 refine aE (lO (vp _ R) ?_)
 refine aU ?_
 refine iP (fun w s=>s.shs 1 R) (lM _ (fun w s=>(((((((s.d 4 R).d 6 R).d 8 R).d 10 R).d 4 R).dg 13 R).e 9 [7,5,4,3,2,1,0,6,8])) ?_)
 refine s8 7 R R R (l5 a5) R ?_
 rintro ⟨ak,ar,ac⟩
 refine aL 0 aA ?_
 rintro rfl
 refine dG ?_
 cases l
 exact jD (ak,ae.1.length,ac) (tE 10 [0,3])
theorem Zk_ok  {g1:Graph}{mG:Int}{r:(List (List Int))×Bool}(b:Zk g1=some r) :
 FnOk Tryz.prog 36 [(.agg [(.slice A2 N2 D2),(.slice A3 N3 D3)].toArray)] [aN dA (.slice A2 N2 D2) g1.Nodes,aN kT3 (.slice A3 N3 D3) g1.Outs,gl 0 mG] (fun (h:HH)=>((.tuple [(s3 h),(.bool r.2)].toArray),[ow (bL).share 23 (s3 h) r.1])):=by
 unfold Zk at b
 refine aQ Tryz.func36 R 60 R R fun C V=>?_
 refine cL 0 aA ?_
 rintro rfl
 refine cL 1 aA ?_
 rintro rfl
 let W0:=RR dA A2 D2 g1.Nodes::RR kT3 A3 D3 g1.Outs::gl 0 mG::V
 refine cN W0 ?_
 refine aU ?_
 refine eF R fun G=>?_
 refine aP ?_
 let D:=aJ G [(sc A2 g1.Nodes D2),(sc A3 g1.Outs D3)] 30::W0
 refine qN D ?_
 refine aP ?_
 refine cQ [(1,(pt G 0)),(20,(.bool ((decide ((g1.Nodes.length:Int)>200))||(decide ((g1.Outs.length:Int)>40)))))] (D) ?_ ?_
 refine bT ?_
 rcases bo (decide ((g1.Nodes.length:Int)>200)) with ah | ah
 refine bT ?_
 exact qj tI
 refine bT ?_
 exact qj tI
 rintro σ1
 refine bU ?_
 split at b
 refine cU ?_
 cases b
 exact jD (none,0,0) (fun w s=>((s.nilo (bL).share 23).e 5 [0]))
 refine bZ ?_
 refine bK (K:=bL) (xs:=([]:List (List Int))) (vs:=[]) 0 R R km fK lA R R R R R R ?_ R (fun A7 D7=>?_)
 exact fun I h s=>(mR).list [] I h s
 refine bG ?_
 refine aZ (A:=((List (List Int)))×(HH)) (fun a=>Zk_J1 g1 a.1=some r) (fun a=>[(1,(pt G 0)),(4,(s3 a.2))]) (fun a=>ow (bL).share 23 (s3 a.2) a.1::D) ?_ ?_
 refine cU ?_
 obtain ⟨e1,am,a4⟩:=bd b
 refine bD (A:=HH) am (fun s a=>[(1,(pt G 0)),(4,(s3 a)),(23,(sc A2 g1.Nodes D2)),(24,(il g1.Nodes)),(25,(iv s.2))]) (fun s a=>ow (bL).share 23 (s3 a) s.1::D) (A7,([]:List (List Int)).length,D7) (aS R) (fun w s=>(s.wk 0 R)) ?_
 rintro ⟨q,g⟩ ⟨an,al,ai⟩ σ1 ao b a0
 dsimp only [Zk_L1] at b
 refine bJ 0 eW (fun (Y:al=q.length)=>?_)
 subst Y
 refine bT ?_
 split at b
 refine bT ?_
 obtain ⟨u,b⟩:=gd b
 refine aE (bA 2 aA (show 0<g1.Nodes.length by have:=u; omega) (fun ar o30 ha=>?_))
 subst ha
 refine bU ?_
 refine gG (K:=dA) 2 g dT54.dec R u.1 u.2 ?_
 rintro ⟨-,⟨O,a3⟩,⟨T,a2⟩,⟨L,a9⟩,-,⟨ac,aa⟩⟩
 refine lO (vz (.agg [(iv (ix g1.Nodes g).Op),(sc O ((ix g1.Nodes g).Args) a3),(sc T ((ix g1.Nodes g).Dims) a2),(sc L ((ix g1.Nodes g).Ints) a9),(aD (ix g1.Nodes g).Form),(sc ac ((ix g1.Nodes g).Data) aa)].toArray) (eE (fo:=0) 0 oz jE R R R R)) (bF R R qY (fun ak=>(aK 0 R R jE R R R R R R (lN (aJ ak [(iv (ix g1.Nodes g).Op),(sc O ((ix g1.Nodes g).Args) a3),(sc T ((ix g1.Nodes g).Dims) a2),(sc L ((ix g1.Nodes g).Ints) a9),(aD (ix g1.Nodes g).Form),(sc ac ((ix g1.Nodes g).Data) aa)] 54::_::_::_::_::_::_::D) ?_))))
 refine aP ?_
 obtain ⟨m,ab,b⟩:=bd b
 refine aP ?_
 refine lM _ (fun w s=>((((((s.d 2 R).d 4 R).d 6 R).d 8 R).dg 14 R).e 12 [4,3,2,1,11,0,5,6,7,8,9,10])) ?_
 refine lC 6 Ba R (Zf_ok ab) R ?_
 rintro ⟨U,av,a6⟩
 refine aL 0 aA ?_
 rintro rfl
 refine lO (vT R) ?_
 refine kj ?_
 split at b
 refine hN ?_
 cases b
 obtain rfl:=a0 _ R
 have b:=a4
 refine aP ?_
 cases b
 exact jD (none,0,0) (fun w s=>((s.nilo (bL).share 23).e 13 [0]))
 refine aP ?_
 obtain ⟨J,b⟩:=gd b
 refine aP ?_
 refine lM _ (fun w s=>(s.d 0 R)) ?_
 refine bK (K:=(bL).share) (xs:=([m.1]:List (List Int))) (vs:=[(sc U m.1 a6)]) 1 R R km fK lA R R R R R R ?_ R (fun aq au=>?_)
 exact fun I h s=>(sj).list [((sc U m.1 a6),m.1)] I h s
 refine lM _ (fun w s=>(s.f 9 [2,1,0,2,3,6])) ?_
 refine eB (K:=(bL).share) 5864062014805 R R km fK un (Zr.zk (Zr.share zT23) lA) R R R R R R dM J (fun a8 a5=>(lN (OO (bL).share 23 a8 a5 (q++([m.1]:List (List Int)))::_::_::_::_::_::_::_::D) ?_))
 refine cV ?_
 cases b
 exact qA (a8,(q++([m.1]:List (List Int))).length,a5) (tE 8 [0])
 refine aP ?_
 cases b
 obtain rfl:=a0 _ R
 have b:=a4
 refine aU ?_
 exact qI (q,(an,q.length,ai)) b tI
 rintro ⟨i,⟨l,ae,j⟩⟩ σ1 b
 dsimp only [Zk_J1] at b
 refine bJ 0 eW (fun (Y:ae=i.length)=>?_)
 subst Y
 refine aO (aZ (A:=(Unit)×(Unit)) (fun a=>Zk_J2 i=some r) (fun a=>[(4,(sc l i j))]) (fun a=>OO (bL).share 23 l j i::D) ?_ ?_)
 refine cU ?_
 obtain ⟨e2,aj,Z⟩:=bd b
 refine bD (A:=HH) aj (fun s a=>[(1,(pt G 0)),(4,(sc l i j)),(43,(s3 a)),(44,(il g1.Outs)),(45,(iv s))]) (fun s a=>OO (bL).share 23 l j i::aN kT3 (s3 a) g1.Outs::D) (A3,g1.Outs.length,D3) (aS R) (fun w s=>((s.d 3 R).e 2 [1,0])) ?_
 rintro B ⟨aw,ag,F⟩ σ1 ap b a7
 dsimp only [Zk_L2] at b
 refine bJ 1 aA (fun (Y:ag=g1.Outs.length)=>?_)
 subst Y
 refine bT ?_
 split at b
 refine bT ?_
 obtain ⟨M,b⟩:=gd b
 refine aE (bA 1 aA (show 0<g1.Outs.length by have:=M; omega) (fun E o59 ha=>?_))
 subst ha
 refine bT ?_
 refine cQ [(1,(pt G 0)),(4,(sc l i j)),(43,(sc (ad E o59) g1.Outs F)),(44,(il g1.Outs)),(45,(iv B)),(57,(.bool ((decide ((ix g1.Outs B)<0))||(decide ((ix g1.Outs B)≥(g1.Nodes.length:Int))))))] (OO (bL).share 23 l j i::RR kT3 (ad E o59) F g1.Outs::D) ?_ ?_
 refine bG ?_
 rcases bo (decide ((ix g1.Outs B)<0)) with a1 | a1
 refine dG ?_
 exact qj tI
 refine dG ?_
 exact qj tI
 rintro σ1
 refine bU ?_
 split at b
 refine cP ?_
 cases b
 obtain rfl:=a7 _ R
 have b:=Z
 refine aP ?_
 cases b
 exact jD (none,0,0) (fun w s=>((s.nilo (bL).share 23).e 7 [0]))
 refine cV ?_
 cases b
 exact qA ((ad E o59),g1.Outs.length,F) tI
 refine aP ?_
 cases b
 obtain rfl:=a7 _ R
 have b:=Z
 refine aU ?_
 exact qI ((),()) b (tE 2 [0])
 rintro ⟨_,_⟩ σ1 b
 dsimp only [Zk_J2] at b
 refine cV ?_
 cases b
 exact jD (l,i.length,j) (tE 5 [0])
theorem Z2m_ok  {g1:Graph}{mG:Int}{r:Bool}(a:Z2m g1=some r) :
 FnOk Tryz.prog 12 [(.agg [(.slice A2 N2 D2),(.slice A3 N3 D3)].toArray)] [aN dA (.slice A2 N2 D2) g1.Nodes,aN kT3 (.slice A3 N3 D3) g1.Outs,gl 0 mG] (fun (h:Unit)=>((.bool r),[])):=by
 unfold Z2m at a
 refine aQ Tryz.func12 R 11 R R fun C V=>?_
 refine cL 0 aA ?_
 rintro rfl
 refine cL 1 aA ?_
 rintro rfl
 let g:=RR dA A2 D2 g1.Nodes::RR kT3 A3 D3 g1.Outs::gl 0 mG::V
 refine cN g ?_
 refine aU ?_
 refine eF R fun i=>?_
 refine aU ?_
 let j:=aJ i [(sc A2 g1.Nodes D2),(sc A3 g1.Outs D3)] 30::g
 refine qN j ?_
 refine aU ?_
 obtain ⟨l,b,a⟩:=bd a
 refine aU ?_
 refine lM _ (fun w s=>((((s.d 1 R).d 3 R).dg 5 R).e 3 [2,1,0])) ?_
 refine lC 3 Bb R (Zk_ok b) R ?_
 rintro ⟨A7,N7,D7⟩
 refine aL 0 eW ?_
 rintro rfl
 refine lO (vT R) ?_
 refine kj ?_
 cases a
 exact qF () (tE 5 [])
theorem Z34_ok  {i:Int}{a:(List Int)}{b:Nat}{r:Int}(e:Z34 i a=some r) :
 FnOk Tryz.prog 49 [(iv i),(pt b 0)] [aN kT3 (.slice A4 N4 D4) a,aJ b [(.slice A4 N4 D4)] 23] (fun (h:Unit)=>((iv r),[aJ b [(.slice A4 N4 D4)] 23])):=by
 unfold Z34 at e
 refine aQ Tryz.func49 R 8 R R fun C V=>?_
 refine cM _ (tE 2 [1,0]) ?_
 refine cL 1 aA ?_
 rintro rfl
 let j:=RR kT3 A4 D4 a::V
 refine bG ?_
 let m:=aJ b [(sc A4 a D4)] 23::j
 refine qN m ?_
 refine aU ?_
 obtain ⟨g,e⟩:=gd e
 refine aP ?_
 refine bA 1 aA (show 0<a.length by have:=g; omega) (fun q o7 l=>?_)
 subst l
 refine bT ?_
 cases e
 exact qF () (tE 2 [0])
theorem Z0q_ok  {b:(List Int)}{B:(List Int)}{i:Nat}{r:(List Int)}(e:Z0q b B=some r) :
 FnOk Tryz.prog 48 [(.slice A2 N2 D2),(.func (.func 49) [].toArray [(pt i 0)].toArray)] [aN kT3 (.slice A2 N2 D2) b,aN kT3 (.slice A6 N6 D6) B,aJ i [(.slice A6 N6 D6)] 23] (fun (h:HH)=>((s3 h),[ow kT3 3 (s3 h) r,aJ i [(.slice A6 N6 D6)] 23])):=by
 unfold Z0q at e
 refine aQ Tryz.func48 R 26 R R fun C V=>?_
 refine cM _ (tE 3 [2,0,1]) ?_
 refine cL 1 aA ?_
 rintro rfl
 refine cL 2 aA ?_
 rintro rfl
 let M:=RR kT3 A2 D2 b::RR kT3 A6 D6 B::V
 refine bT ?_
 obtain ⟨j,e⟩:=gd e
 refine aP ?_
 refine fI (K:=kT3) (m:=(b.length:Int)) (z:=(0:Int)) R R bI cB jZ (Zr.zk zT3 f') (by decide) R R j.1 j.2.1 j.2.2 (fun A8 D8=>(lS R (aC (aI (aO (aZ (A:=((List Int))×(Unit)) (fun a=>Z0q_J1 a.1=some r) (fun a=>[(5,(sc A8 (List.replicate (b.length:Int).toNat (0:Int)) D8))]) (fun a=>ow kT3 3 (.slice A8 (List.replicate (b.length:Int).toNat (0:Int)).length D8) a.1::aJ i [(sc A6 B D6)] 23::M) ?_ ?_))))))
 refine cV ?_
 obtain ⟨Z,G,D⟩:=bd e
 refine bD (A:=Unit) G (fun s a=>[(1,(.func (.func 49) [].toArray [(pt i 0)].toArray)),(5,(sc A8 (List.replicate (b.length:Int).toNat (0:Int)) D8)),(11,(sc A2 b D2)),(12,(il b)),(13,(iv s.2))]) (fun s a=>aJ i [(sc A6 B D6)] 23::ow kT3 3 (.slice A8 (List.replicate (b.length:Int).toNat (0:Int)).length D8) s.1::M) () (aS R) (tE 2 [1,0]) ?_
 rintro ⟨F,L⟩ _ σ1 O e J
 dsimp only [Z0q_L1] at e
 refine bT ?_
 split at e
 refine bT ?_
 obtain ⟨q,e⟩:=gd e
 refine aU ?_
 refine bA 2 aA (show 0<b.length by have:=q; omega) (fun Y o25 E=>?_)
 subst E
 refine bT ?_
 obtain ⟨u,l,e⟩:=bd e
 obtain ⟨g,e⟩:=gd e
 refine aP ?_
 refine lO (vp _ R) (lI R (lM _ (fun w s=>(s.d 3 R)) ?_))
 refine cE (fs:=[]) (cs:=[(pt i 0)]) 2 R R Bm R R (Z34_ok l) R ?_
 rintro _
 refine bA 1 aB (show 0<(List.replicate (b.length:Int).toNat (0:Int)).length by have:=g; omega) (fun T o30 E=>?_)
 subst E
 refine bU ?_
 refine lM _ (tE 2 [1,0]) ?_
 refine eA (K:=kT3) (x':=u) 0 L R R cB R R g.1 g.2 ?_ ?_
 exact fun I h s=>(fZ).put I h () u s
 refine dG ?_
 cases e
 exact qA () (tE 2 [1,0])
 refine aP ?_
 cases e
 obtain rfl:=J _ R
 have e:=D
 refine aU ?_
 exact qI (F,()) e (tE 2 [1,0])
 rintro ⟨U,_⟩ σ1 e
 dsimp only [Z0q_J1] at e
 refine dG ?_
 cases e
 exact qF (A8,(List.replicate (b.length:Int).toNat (0:Int)).length,D8) (tE 4 [0,1])
theorem Zb_ok  {g:Node}{e:(List Int)}{r:Int}(b:Zb g e=some r) :
 FnOk Tryz.prog 47 [(.agg [(iv g.Op),(.slice A2 N2 D2),(.slice A3 N3 D3),(.slice A4 N4 D4),(aD g.Form),(.slice A5 N5 D5)].toArray),(.slice A7 N7 D7)] [aN kT3 (.slice A2 N2 D2) g.Args,aN kT3 (.slice A3 N3 D3) g.Dims,aN kT3 (.slice A4 N4 D4) g.Ints,aN kT3 (.slice A5 N5 D5) g.Data,aN kT3 (.slice A7 N7 D7) e] (fun (h:Unit)=>((iv r),[])):=by
 unfold Zb at b
 refine aQ Tryz.func47 R 43 R R fun C V=>?_
 refine cL 0 aA ?_
 rintro rfl
 refine cL 1 aA ?_
 rintro rfl
 refine cL 2 aA ?_
 rintro rfl
 refine cL 3 aA ?_
 rintro rfl
 refine cL 4 aA ?_
 rintro rfl
 let I:=RR kT3 A2 D2 g.Args::RR kT3 A3 D3 g.Dims::RR kT3 A4 D4 g.Ints::RR kT3 A5 D5 g.Data::RR kT3 A7 D7 e::V
 refine cN I ?_
 refine aU ?_
 refine eF R fun L=>?_
 refine aU ?_
 let j:=aJ L [(iv g.Op),(sc A2 g.Args D2),(sc A3 g.Dims D3),(sc A4 g.Ints D4),(aD g.Form),(sc A5 g.Data D5)] 54::I
 refine qN j ?_
 refine aP ?_
 obtain ⟨r9,q,b⟩:=bd b
 refine aU ?_
 refine lM _ (fun w s=>(s.d 5 R)) ?_
 refine lC 1 Bn R (Z2z_ok q) R ?_
 rintro _
 refine lN j ?_
 refine aU ?_
 split at b
 refine cV ?_
 cases b
 exact qF () (tE 6 [])
 refine om ?_
 split at b
 refine cU ?_
 cases b
 exact qF () (tE 6 [])
 refine dG ?_
 split at b
 refine cU ?_
 cases b
 exact qF () (tE 6 [])
 refine aU ?_
 refine aZ (A:=(Bool)×(Unit)) (fun a=>Zb_J1 g e a.1=some r) (fun a=>[(1,(sc A7 e D7)),(11,(iv g.Op)),(16,(.bool a.1))]) (fun a=>j) ?_ ?_
 refine bT ?_
 split at b
 refine aU ?_
 exact qI ((g.Op==5),()) b tI
 refine bZ ?_
 exact qI ((g.Op==11),()) b tI
 rintro ⟨U,_⟩ σ1 b
 dsimp only [Zb_J1] at b
 split at b
 refine dG ?_
 refine aZ (A:=(Int)×(Unit)) (fun a=>Zb_J2 a.1=some r) (fun a=>[(5,(iv a.1))]) (fun a=>j) ?_ ?_
 refine cV ?_
 obtain ⟨e1,E,B⟩:=bd b
 refine bD (A:=Unit) E (fun s a=>[(5,(iv s.1)),(19,(sc A7 e D7)),(20,(il e)),(21,(iv s.2))]) (fun s a=>j) () (aS R) tI ?_
 rintro ⟨i,Z⟩ _ σ1 J b F
 dsimp only [Zb_L1] at b
 refine bT ?_
 split at b
 refine bT ?_
 obtain ⟨u,b⟩:=gd b
 refine aE (bA 5 aA (show 0<e.length by have:=u; omega) (fun Y o26 D=>?_))
 subst D
 refine om ?_
 cases b
 exact qA () tI
 refine aP ?_
 cases b
 obtain rfl:=F _ R
 have b:=B
 refine aU ?_
 exact qI (i,()) b tI
 rintro ⟨G,_⟩ σ1 b
 dsimp only [Zb_J2] at b
 refine dG ?_
 split at b
 refine cP ?_
 cases b
 exact qF () (tE 6 [])
 refine hH ?_
 cases b
 exact qF () (tE 6 [])
 refine aU ?_
 refine aZ (A:=(Bool)×(Unit)) (fun a=>Zb_J3 e a.1=some r) (fun a=>[(1,(sc A7 e D7)),(32,(.bool a.1))]) (fun a=>j) ?_ ?_
 refine bT ?_
 split at b
 refine aU ?_
 exact qI ((g.Op==7),()) b tI
 refine dG ?_
 split at b
 refine aU ?_
 exact qI ((g.Op==8),()) b tI
 refine dG ?_
 split at b
 refine aU ?_
 exact qI ((g.Op==9),()) b tI
 refine bZ ?_
 exact qI ((g.Op==10),()) b tI
 rintro ⟨M,_⟩ σ1 b
 dsimp only [Zb_J3] at b
 split at b
 refine aP ?_
 obtain ⟨l,b⟩:=gd b
 refine aU ?_
 refine bA 5 aA (show 0<e.length by have:=l; omega) (fun T o38 D=>?_)
 subst D
 refine bZ ?_
 split at b
 refine cP ?_
 cases b
 exact qF () (tE 6 [])
 refine hN ?_
 cases b
 exact qF () (tE 6 [])
 refine bZ ?_
 obtain ⟨O,m,b⟩:=bd b
 refine aU ?_
 refine lM _ (fun w s=>(s.d 5 R)) ?_
 refine lC 1 Bo R (Z17_ok m) R ?_
 rintro _
 refine lN j ?_
 refine bG ?_
 cases b
 exact qF () (tE 6 [])
theorem Z0c_ok  {g1:Graph}{mG:Int}{r:(List Int)}(g:Z0c g1=some r) :
 FnOk Tryz.prog 31 [(.agg [(.slice A2 N2 D2),(.slice A3 N3 D3)].toArray)] [aN dA (.slice A2 N2 D2) g1.Nodes,aN kT3 (.slice A3 N3 D3) g1.Outs,gl 0 mG] (fun (h:HH)=>((.slice h.1 h.2.1 h.2.2),[ow kT3 3 (.slice h.1 h.2.1 h.2.2) r])):=by
 unfold Z0c at g
 refine aQ Tryz.func31 R 28 R R fun C V=>?_
 refine cN (_::_::_::V) ?_
 refine cL 0 aA ?_
 rintro rfl
 refine cL 1 aA ?_
 rintro rfl
 let W0:List HP:=RR dA A2 D2 g1.Nodes::RR kT3 A3 D3 g1.Outs::gl 0 mG::V
 refine cN W0 ?_
 refine aO (aE (eF R (fun b4=>(lS R (aC ?_)))))
 let u:List HP:=aJ b4 [(sc A2 g1.Nodes D2),(sc A3 g1.Outs D3)] 30::W0
 refine qN u ?_
 refine aI (aO (aO ?_))
 obtain ⟨r5,ak,g⟩:=bd g
 refine aE (lO (vz (.agg [(sc A2 g1.Nodes D2),(sc A3 g1.Outs D3)].toArray) (dT 0 wP su R R R R)) (lM (RR dA A2 D2 g1.Nodes::RR kT3 A3 D3 g1.Outs::gl 0 mG::u) (fun w s=>((((s.d 1 R).d 3 R).dg 5 R).e 3 [2,1,0])) ?_))
 refine lC 3 Bc R (Z2m_ok ak) R ?_
 rintro _
 refine lN u ?_
 refine lO (rZ R) (aC (aI ?_))
 rcases cO g with ⟨a2,g⟩|⟨a2,g⟩
 refine cC R a2 (aO (aE (lS R (aC (aI (bY (cF ?_)))))))
 obtain rfl:=so g
 exact qF (none,0,0) (fun w s=>((s.nilo kT3 3).e 5 [0]))
 refine bM R a2 (dE (aI (aO (aE (bK (K:=kT3) (xs:=([]:List Int)) (vs:=[]) 0 R R bI cB f' R R R R R R ?_ R (fun A8 D8=>?_))))))
 exact fun I h s=>(fZ).list [] I h s
 refine lN (OO kT3 3 A8 D8 ([]:List Int)::u) ?_
 refine bF R R lA (fun U=>(cK 0 R R fK R R R R R (lN (aJ U [(sc A8 ([]:List Int) D8)] 23::_::u) ?_)))
 refine aC (aI (aO (aZ (A:=((List Int))×(HH)) (fun a=>Z0c_J1 a.1=some r) (fun a=>[(3,(pt U 0))]) (fun a=>aJ U [(.slice a.2.1 a.2.2.1 a.2.2.2)] 23::ow kT3 3 (.slice a.2.1 a.2.2.1 a.2.2.2) a.1::u) ?_ ?_)))
 refine aO (aE (lO (fP 0 l4 R) (lO (fW 2 r0 R R R) (lO (kc oy R) (lI R (aC (aI (dJ ?_))))))))
 obtain ⟨e1,al,aj⟩:=bd g
 refine bD (A:=HH) al (fun s a=>[(3,(pt U 0)),(11,(sc A2 g1.Nodes D2)),(12,(il g1.Nodes)),(13,(iv s.2))]) (fun s a=>aJ U [(.slice a.1 a.2.1 a.2.2)] 23::ow kT3 3 (.slice a.1 a.2.1 a.2.2) s.1::u) (A8,([]:List Int).length,D8) (aS R) (fun w s=>s) ?_
 rintro ⟨i,b⟩ ⟨q,ai,m⟩ σ1 a8 g ae
 replace g:Z0c_L1 g1 i b=some a8:=g
 unfold Z0c_L1 at g
 refine bJ 1 aB (fun (hn:ai=i.length)=>?_)
 subst hn
 refine aO (aE (lO (mZ R R) (aC (aI (aO ?_)))))
 rcases cO g with ⟨T,g⟩|⟨T,g⟩
 refine cC R T (dE (aI (aO (dJ (aO ?_)))))
 obtain ⟨O,g⟩:=gd g
 refine aE (bA 3 aA (show 0<g1.Nodes.length by have:=O; omega) (fun aa o33 ha=>?_))
 subst ha
 refine lO (eL oy jE R R O) (gG (K:=dA) 3 b dT54.dec R O.1 O.2 ?_)
 rintro ⟨-,⟨l,j⟩,⟨M,L⟩,⟨J,F⟩,-,⟨D,G⟩⟩
 refine lN (cl aa (o33+b.toNat*6) [(iv (ix g1.Nodes b).Op),(sc l ((ix g1.Nodes b).Args) j),(sc M ((ix g1.Nodes b).Dims) L),(sc J ((ix g1.Nodes b).Ints) F),(aD (ix g1.Nodes b).Form),(sc D ((ix g1.Nodes b).Data) G)]::RR kT3 l j ((ix g1.Nodes b).Args)::RR kT3 M L ((ix g1.Nodes b).Dims)::RR kT3 J F ((ix g1.Nodes b).Ints)::RR kT3 D G ((ix g1.Nodes b).Data)::aJ U [(sc q i m)] 23::OO kT3 3 q m i::u) ?_
 refine lO (vz (.agg [(iv (ix g1.Nodes b).Op),(sc l ((ix g1.Nodes b).Args) j),(sc M ((ix g1.Nodes b).Dims) L),(sc J ((ix g1.Nodes b).Ints) F),(aD (ix g1.Nodes b).Form),(sc D ((ix g1.Nodes b).Data) G)].toArray) (eE (fo:=0) 0 oz jE R R R R)) (bF R R qY (fun ag=>(aK 0 R R jE R R R R R R (lN (aJ ag [(iv (ix g1.Nodes b).Op),(sc l ((ix g1.Nodes b).Args) j),(sc M ((ix g1.Nodes b).Dims) L),(sc J ((ix g1.Nodes b).Ints) F),(aD (ix g1.Nodes b).Form),(sc D ((ix g1.Nodes b).Data) G)] 54::_::_::_::_::_::_::_::u) ?_))))
 refine aC (aI ?_)
 obtain ⟨a0,a6,g⟩:=bd g
 obtain ⟨E,a5,g⟩:=bd g
 obtain ⟨a7,g⟩:=gd g
 refine dF 8 [] bP (fun ht hn=>(dR 0 R (fW 6 cJ R R R) (dR 1 R (vz (.agg [(iv (ix g1.Nodes b).Op),(sc l ((ix g1.Nodes b).Args) j),(sc M ((ix g1.Nodes b).Dims) L),(sc J ((ix g1.Nodes b).Ints) F),(aD (ix g1.Nodes b).Form),(sc D ((ix g1.Nodes b).Data) G)].toArray) (dT 0 oz jE R R R R)) (dR 2 R (fP 1 mm R) (dR 3 R (fW 0 cJ R R R) (dR 4 R (vp (.func (.func 49) [].toArray [(pt U 0)].toArray) R) (d1 5 R (lM (ow _ _ _ _::aN _ _ _::aJ _ _ _::aJ _ _ _::cl _ _ _::aN _ _ _::aN _ _ _::aN _ _ _::aN _ _ _::u) (fun w s=>((s.d 2 R).f 9 [8,1,0,1,7,1,1,6])) ?_))))))))
 refine lC 3 Bp R (FnOk.lends (A':=[OO kT3 3 q m i]) (A:=[RR kT3 q m i]) (B:=[RR kT3 l j ((ix g1.Nodes b).Args),aJ U [(sc q i m)] 23]) (FnOk.perm (Z0q_ok a6) (Pre':=[RR kT3 q m i,RR kT3 l j ((ix g1.Nodes b).Args),aJ U [(sc q i m)] 23]) (fun _ _ _ s=>(s.e 3 [1,0,2]))) ⟨aV,trivial⟩ (fun _=>⟨(bH iM),qQ,trivial⟩)) R ?_
 rintro ⟨Z,ah,Y⟩
 refine lN (_::ow kT3 3 (.slice Z ah Y) a0::_::_::_::_::_::_::_::u) ?_
 refine aL 1 aB ?_
 rintro rfl
 refine aC (aG (fun w s=>(s.f 9 [3,6,2,1,0,1])) (d1 6 R (lM (ow _ _ _ _::aN _ _ _::aN _ _ _::aN _ _ _::aN _ _ _::ow _ _ _ _::aJ _ _ _::aJ _ _ _::cl _ _ _::aN _ _ _::aN _ _ _::aN _ _ _::aN _ _ _::u) (fun w s=>(((((s.d 5 R).d 7 R).d 9 R).d 11 R).e 13 [5,3,2,1,0,4,6,7,8,9,10,11,12])) ?_)))
 refine lC 5 Bq R (FnOk.lends (A':=[OO kT3 3 Z Y a0]) (A:=[RR kT3 Z Y a0]) (B:=[RR kT3 l j ((ix g1.Nodes b).Args),RR kT3 M L ((ix g1.Nodes b).Dims),RR kT3 J F ((ix g1.Nodes b).Ints),RR kT3 D G ((ix g1.Nodes b).Data)]) (FnOk.perm (Zb_ok a5) (Pre':=[RR kT3 Z Y a0,RR kT3 l j ((ix g1.Nodes b).Args),RR kT3 M L ((ix g1.Nodes b).Dims),RR kT3 J F ((ix g1.Nodes b).Ints),RR kT3 D G ((ix g1.Nodes b).Data)]) (fun _ _ _ s=>(s.f 5 [1,4,0,1]))) ⟨aV,trivial⟩ (fun _=>trivial)) R ?_
 rintro _
 refine lN (_::_::_::_::_::_::_::_::_::u) ?_
 refine aC (aG (fun w s=>(s.f 9 [3,6,2,1,1,1])) (d1 7 R (bK (K:=kT3) (xs:=([E]:List Int)) (vs:=[(iv E)]) 0 R R bI cB f' R R R R R R ?_ R (fun am ab=>?_))))
 exact fun I h s=>(fZ).list [((),E)] I h s
 refine lN (OO kT3 3 am ab ([E]:List Int)::_::_::_::_::_::_::_::_::_::u) ?_
 refine aC (aG (fun w s=>(s.f 10 [4,6,3,1,2,1])) (d1 8 R (lM (ow _ _ _ _::ow _ _ _ _::ow _ _ _ _::aJ _ _ _::aJ _ _ _::cl _ _ _::aN _ _ _::aN _ _ _::aN _ _ _::aN _ _ _::u) (fun w s=>(s.f 10 [2,1,0,2,3,7])) ?_)))
 refine eB (K:=kT3) 17592186044416 R R bI cB jZ (Zr.zk zT3 f') R R R R R R dM a7 (fun a1 a3=>(lN (OO kT3 3 a1 a3 (i++([E]:List Int))::_::_::_::_::_::_::_::_::u) ?_))
 refine aC (qE (d1 9 R (cK 2 R R fK R R R R R (lN (_::_::aJ U [(sc a1 (i++([E]:List Int)) a3)] 23::_::_::_::_::_::_::u) ?_))))
 refine aC (qE (dD (dY (aI (aE (lO (kW R R) (lI R (aC ?_))))))))
 obtain rfl:=so g
 exact qA (a1,(i++([E]:List Int)).length,a3) (fun w s=>(s.e 9 [2,0]))
 refine bM R T (hJ (eD ?_))
 obtain rfl:=so g
 obtain rfl:=ae _ R
 have g:=aj
 refine eD (fX ?_)
 exact qI (i,(q,i.length,m)) g (fun w s=>s)
 rintro ⟨a4,⟨ac,an,a9⟩⟩ σ1 g
 replace g:Z0c_J1 a4=some r:=g
 unfold Z0c_J1 at g
 refine bJ 1 aB (fun (hn:an=a4.length)=>?_)
 subst hn
 refine aO (aE (lO (fW 0 cJ R R R) (lS R (aC (aI (bY ?_))))))
 obtain rfl:=so g
 exact qF (ac,a4.length,a9) (fun w s=>(s.e 6 [1]))
end Go.Proofs.YtmpnollfdpdipaaGreat
