import Derived.Test.YtoffdamdpmeoiaaGreatDoorBkF
import Derived.Test.YtoffdamdpmeoiaaGreatDoorBkW6
import Derived.Test.YtoffdamdpmeoiaaGreatDoorBkW7
set_option linter.unusedVariables false
set_option maxRecDepth 20000
namespace Go.Proofs.YtoffdamdpmeoiaaGreatDoor
open Go Go.Pg
variable {A2 A3 A4 A5 A6 A7 A9 A10 A11 A12 A14:Option Addr}{D2 D3 D4 D5 D6 D7 D9 D10 D11 D12 D14 N2 N3 N4 N5 N6 N7 N9 N10 N11 N12 N14:Nat}
theorem Z8_ok  {D:(List Int)}{U:Int}{G:Int}{b:(List pair)}{r:(List pair)}(i:Z8 D U G b=some r) :
 FnOk Tryz.prog 149 [(.slice A2 N2 D2),(iv U),(iv G),(.slice A6 N6 D6)] [aO kT3 (.slice A2 N2 D2) D,aO kT179 (.slice A6 N6 D6) b] (fun (h:HH)=>((.slice h.1 h.2.1 h.2.2),[ow kT179 179 (.slice h.1 h.2.1 h.2.2) r])):=by
 unfold Z8 at i
 refine aR Tryz.func149 R 73 R R fun C V=>?_
 refine cN (_::_::V) ?_
 refine cL 0 aA ?_
 rintro rfl
 refine cL 1 aA ?_
 rintro rfl
 let O:List HP:=RR kT3 A2 D2 D::RR kT179 A6 D6 b::V
 refine cN O ?_
 refine aH (aC (lS R (aB (aE (aH ?_)))))
 obtain ⟨u,bm,i⟩:=bd i
 refine aC (lS R (lI R (lM (RR kT3 A2 D2 D::O) (fun w s=>(s.d 0 R)) ?_)))
 refine lC 1 xA R (Z2c_ok bm) R ?_
 rintro _
 refine lN O ?_
 refine lO (vT R) (lI R (lI R (lI R (lI R (lI R (lI R (aB (aE (aH ?_)))))))))
 obtain ⟨ag,i⟩:=gd i
 refine aC (lI R (lI R (lO (rJ R R) (lS R (lO (eN fT R) (lO (rJ R R) (vM (K:=kT179) (m:=(aI ((aI (u.1*u.2.2))*(b.length:Int)))) (z:=zT179.z) R R fT fU mu (Zr.zk zT179 fF) (by decide) R R ag.1 ag.2.1 ag.2.2 (fun A10 D10=>(lS R (aB (aE (aH (bB (A:=((List pair))×(HH)) (fun a=>Z8_J7 a.1=some r) (fun a=>[(12,(.slice a.2.1 a.2.2.1 a.2.2.2))]) (fun a=>ow kT179 179 (.slice a.2.1 a.2.2.1 a.2.2.2) a.1::O) ?_ ?_)))))))))))))
 refine aH (aC (lI R (aB (aE (bV ?_)))))
 obtain ⟨e1,bj,bg⟩:=bd i
 refine bD (A:=HH×HH) bj (fun s a=>[(2,(iv G)),(3,(.slice a.1.1 a.1.2.1 a.1.2.2)),(9,(iv u.1)),(10,(iv u.2.1)),(11,(iv u.2.2)),(12,(.slice a.2.1 a.2.2.1 a.2.2.2)),(13,(iv s.2))]) (fun s a=>aO kT179 (.slice a.1.1 a.1.2.1 a.1.2.2) b::ow kT179 179 (.slice a.2.1 a.2.2.1 a.2.2.2) s.1::O) ((A6,b.length,D6),(A10,([]:List pair).length,D10)) (aS R) (fun w s=>(s.d 2 R)) ?_
 rintro ⟨a6,l⟩ ⟨⟨b5,b8,b7⟩,⟨ao,b9,ax⟩⟩ σ1 a1 i bc
 replace i:Z8_L1 G b u a6 l=some a1:=i
 unfold Z8_L1 at i
 refine bK 0 aA (fun (E:b8=b.length)=>?_)
 subst E
 refine bK 1 aD (fun (E:b9=a6.length)=>?_)
 subst E
 refine aH (aH (aC (lI R (lI R (lO (jG R R) (aB (aE ?_)))))))
 rcases cF i with ⟨Z,i⟩|⟨Z,i⟩
 refine bJ R Z (bQ (aE (aH (bB (A:=((List pair))×(HH×HH)) (fun a=>Z8_J6 l a.1=some a1) (fun a=>[(2,(iv G)),(3,(.slice a.2.1.1 a.2.1.2.1 a.2.1.2.2)),(9,(iv u.1)),(10,(iv u.2.1)),(11,(iv u.2.2)),(12,(.slice a.2.2.1 a.2.2.2.1 a.2.2.2.2)),(13,(iv l))]) (fun a=>aO kT179 (.slice a.2.1.1 a.2.1.2.1 a.2.1.2.2) b::ow kT179 179 (.slice a.2.2.1 a.2.2.2.1 a.2.2.2.2) a.1::O) ?_ ?_))))
 refine bV (aH (aC (lS R (lO (eN fT R) (lI R (aB (aE (bV ?_))))))))
 obtain ⟨e2,bk,bh⟩:=bd i
 refine bD (A:=HH×HH) bk (fun s a=>[(2,(iv G)),(3,(.slice a.1.1 a.1.2.1 a.1.2.2)),(9,(iv u.1)),(10,(iv u.2.1)),(11,(iv u.2.2)),(12,(.slice a.2.1 a.2.2.1 a.2.2.2)),(13,(iv l)),(36,(.slice a.1.1 a.1.2.1 a.1.2.2)),(37,(il b)),(38,(iv s.2))]) (fun s a=>aO kT179 (.slice a.1.1 a.1.2.1 a.1.2.2) b::ow kT179 179 (.slice a.2.1 a.2.2.1 a.2.2.2) s.1::O) ((b5,b.length,b7),(ao,a6.length,ax)) (aS R) (fun w s=>s) ?_
 rintro ⟨T,j⟩ ⟨⟨b6,ba,M⟩,⟨ab,bb,ac⟩⟩ σ1 a2 i be
 replace i:Z8_L2 G b u l T j=some a2:=i
 unfold Z8_L2 at i
 refine bK 0 aA (fun (E:ba=b.length)=>?_)
 subst E
 refine bK 1 aD (fun (E:bb=T.length)=>?_)
 subst E
 refine aH (aC (lO (jG R R) (aB (aE (aH ?_)))))
 rcases cF i with ⟨a0,i⟩|⟨a0,i⟩
 refine bJ R a0 (bQ (aE (aH (bB (A:=((List pair))×(HH×HH)) (fun a=>Z8_J5 j a.1=some a2) (fun a=>[(2,(iv G)),(3,(.slice a.2.1.1 a.2.1.2.1 a.2.1.2.2)),(9,(iv u.1)),(10,(iv u.2.1)),(11,(iv u.2.2)),(12,(.slice a.2.2.1 a.2.2.2.1 a.2.2.2.2)),(13,(iv l)),(36,(.slice a.2.1.1 a.2.1.2.1 a.2.1.2.2)),(37,(il b)),(38,(iv j))]) (fun a=>aO kT179 (.slice a.2.1.1 a.2.1.2.1 a.2.1.2.2) b::ow kT179 179 (.slice a.2.2.1 a.2.2.2.1 a.2.2.2.2) a.1::O) ?_ ?_))))
 refine bV (aH ?_)
 obtain ⟨L,i⟩:=gd i
 refine aC (bE 0 aA (show 0<b.length by have:=L; omega) (fun F o101 ha=>?_))
 subst ha
 refine lO (dV fT fU R R L) (tH (.agg [(iv (ix b j).from_),(iv (ix b j).to)].toArray) ?_ R R ?_)
 exact (xV (K:=kT179) (cells:=fun x=>[(iv x.from_),(iv x.to)]) 0 j xB fU (DecK.flat Au fun _ _=>R) aA R L.1 L.2)
 refine bG R R fF (fun Y=>(aL 0 R R fU R R R R R R (lN (aK Y [(iv (ix b j).from_),(iv (ix b j).to)] 179::RR kT179 (ad F o101) M b::OO kT179 179 ab ac T::O) ?_)))
 refine aB (aE (aH (aC (lI R (aB (aE (bV ?_)))))))
 obtain ⟨e3,bl,bi⟩:=bd i
 refine bD (A:=HH) bl (fun s a=>[(2,(iv G)),(3,(sc (ad F o101) b M)),(9,(iv u.1)),(10,(iv u.2.1)),(11,(iv u.2.2)),(12,(.slice a.1 a.2.1 a.2.2)),(13,(iv l)),(15,(pt Y 0)),(16,(iv s.2)),(36,(sc (ad F o101) b M)),(37,(il b)),(38,(iv j))]) (fun s a=>RR kT179 (ad F o101) M b::ow kT179 179 (.slice a.1 a.2.1 a.2.2) s.1::aK Y [(iv (ix b j).from_),(iv (ix b j).to)] 179::O) (ab,T.length,ac) (aS R) (fun w s=>(s.e 3 [1,2,0])) ?_
 rintro ⟨B,q⟩ ⟨a7,ay,a9⟩ σ1 b4 i bf
 replace i:Z8_L3 G b u l j B q=some b4:=i
 unfold Z8_L3 at i
 refine bK 1 aD (fun (E:ay=B.length)=>?_)
 subst E
 refine aH (aH (aC (lI R (lI R (lO (jG R R) (aB (aE ?_)))))))
 rcases cF i with ⟨J,i⟩|⟨J,i⟩
 refine bJ R J (bQ (aE (aH (bV ?_))))
 obtain ⟨ae,i⟩:=gd i
 refine aC (lS R (lI R (lI R (lO (rJ R R) (lO (eW 0 rT R) (lO (eS 2 fC R R R) (lO (iE R R) (lI R (lO (rJ R R) (lI R (lO (iE R R) (lI R (lI R (lO (rJ R R) (lO (eW 1 rU R) (lO (eS 2 fC R R R) (lO (iE R R) (lI R (lO (rJ R R) (lI R (lO (iE R R) (lO (vz (.agg [(iv (aI ((aI ((aI ((aI (l*u.2.1))+(ix b j).from_))*u.2.2))+q))),(iv (aI ((aI ((aI ((aI (l*G))+(ix b j).to))*u.2.2))+q)))].toArray) (bA nr fF R R)) (bO (K:=kT179) (xs:=([(⟨(aI ((aI ((aI ((aI (l*u.2.1))+(ix b j).from_))*u.2.2))+q)),(aI ((aI ((aI ((aI (l*G))+(ix b j).to))*u.2.2))+q))⟩:pair)]:List pair)) (vs:=[(.agg [(iv (aI ((aI ((aI ((aI (l*u.2.1))+(ix b j).from_))*u.2.2))+q))),(iv (aI ((aI ((aI ((aI (l*G))+(ix b j).to))*u.2.2))+q)))].toArray)]) 0 R R fT fU fF R R R R R R ?_ R (fun ai ap=>?_))))))))))))))))))))))))
 exact fun I h s=>(jI).list [(((),()),(⟨(aI ((aI ((aI ((aI (l*u.2.1))+(ix b j).from_))*u.2.2))+q)),(aI ((aI ((aI ((aI (l*G))+(ix b j).to))*u.2.2))+q))⟩:pair))] I h s
 refine lN (OO kT179 179 ai ap ([(⟨(aI ((aI ((aI ((aI (l*u.2.1))+(ix b j).from_))*u.2.2))+q)),(aI ((aI ((aI ((aI (l*G))+(ix b j).to))*u.2.2))+q))⟩:pair)]:List pair)::_::OO kT179 179 a7 a9 B::_::O) ?_
 refine lM (ow _ _ _ _::ow _ _ _ _::aO _ _ _::aK _ _ _::O) (fun w s=>(s.e 4 [2,0,1,3])) ?_
 refine eU (K:=kT179) 8796093022208 R R fT fU mu (Zr.zk zT179 fF) R R R R R R eB ae (fun a8 aa=>(lN (OO kT179 179 a8 aa (B++([(⟨(aI ((aI ((aI ((aI (l*u.2.1))+(ix b j).from_))*u.2.2))+q)),(aI ((aI ((aI ((aI (l*G))+(ix b j).to))*u.2.2))+q))⟩:pair)]:List pair))::_::_::O) ?_))
 refine lS R (aB (cD (aE (aC (lI R (lO (iE R R) (lI R (aB ?_))))))))
 obtain rfl:=so i
 exact qA (a8,(B++([(⟨(aI ((aI ((aI ((aI (l*u.2.1))+(ix b j).from_))*u.2.2))+q)),(aI ((aI ((aI ((aI (l*G))+(ix b j).to))*u.2.2))+q))⟩:pair)]:List pair)).length,aa) (fun w s=>(s.e 3 [1,0,2]))
 refine aY R J (eA (cE ?_))
 obtain rfl:=so i
 obtain rfl:=bf _ R
 have i:=bi
 refine cE (dH (cD ?_))
 exact qI (B,(((ad F o101),b.length,M),(a7,B.length,a9))) i (fun w s=>(s.e 3 [0,1]))
 rintro ⟨a3,⟨⟨aj,az,aq⟩,⟨ak,b0,ar⟩⟩⟩ σ1 i
 replace i:Z8_J5 j a3=some a2:=i
 unfold Z8_J5 at i
 refine bK 0 aA (fun (E:az=b.length)=>?_)
 subst E
 refine bK 1 aD (fun (E:b0=a3.length)=>?_)
 subst E
 refine aC (lO (iE R R) (lI R (aB ?_)))
 obtain rfl:=so i
 exact qA ((aj,b.length,aq),(ak,a3.length,ar)) (fun w s=>s)
 refine aY R a0 (eA (cE ?_))
 obtain rfl:=so i
 obtain rfl:=be _ R
 have i:=bh
 refine cE (dH (cD ?_))
 exact qI (T,((b6,b.length,M),(ab,T.length,ac))) i (fun w s=>s)
 rintro ⟨a4,⟨⟨al,b1,au⟩,⟨am,b2,av⟩⟩⟩ σ1 i
 replace i:Z8_J6 l a4=some a1:=i
 unfold Z8_J6 at i
 refine bK 0 aA (fun (E:b1=b.length)=>?_)
 subst E
 refine bK 1 aD (fun (E:b2=a4.length)=>?_)
 subst E
 refine aC (lI R (lO (iE R R) (lI R (aB ?_))))
 obtain rfl:=so i
 exact qA ((al,b.length,au),(am,a4.length,av)) (fun w s=>s)
 refine aY R Z (eA (cE ?_))
 obtain rfl:=so i
 obtain rfl:=bc _ R
 have i:=bg
 refine cE (dH ?_)
 exact qI (a6,(ao,a6.length,ax)) i (fun w s=>(s.e 2 [1]))
 rintro ⟨a5,⟨an,b3,aw⟩⟩ σ1 i
 replace i:Z8_J7 a5=some r:=i
 unfold Z8_J7 at i
 refine bK 0 aD (fun (E:b3=a5.length)=>?_)
 subst E
 refine aH (aC (lS R (lS R (aB (aE (bY ?_))))))
 obtain rfl:=so i
 exact qF (an,a5.length,aw) (fun w s=>(s.e 3 [0]))
theorem Z02_ok  {l:(List Int)}{q:Int}{b:Int}{i:Int}{j:Int}{r:(List Int)×(List pair)×Bool}(u:Z02 l q b i j=some r) :
 FnOk Tryz.prog 108 [(.slice A2 N2 D2),(iv q),(iv b),(iv i),(iv j)] [aO kT3 (.slice A2 N2 D2) l] (fun (h:HH×HH)=>((.tuple [(s3 h.1),(s3 h.2),(.bool r.2.2)].toArray),[ow kT3 3 (s3 h.1) r.1,ow kT179 179 (s3 h.2) r.2.1])):=by
 unfold Z02 at u
 refine aR Tryz.func108 R 84 R R fun C V=>?_
 refine cL 0 aA ?_
 rintro rfl
 let T:=RR kT3 A2 D2 l::V
 refine cN T ?_
 refine dG ?_
 obtain ⟨r7,au,u⟩:=bd u
 refine aV ?_
 refine lM _ (fun w s=>(s.d 0 R)) ?_
 refine lC 1 hM R (Zp_ok au) R ?_
 rintro _
 refine lN T ?_
 refine aV ?_
 split at u
 refine dJ ?_
 cases u
 exact iS ((none,0,0),(none,0,0)) (fun w s=>(((s.nilo kT3 3).nilo kT179 179).e 3 [1,0]))
 refine bL ?_
 refine bB (A:=(Unit)×(Unit)) (fun a=>Z02_J1 l q b i j=some r) (fun a=>[(0,(sc A2 l D2)),(1,(iv q)),(2,(iv b)),(3,(iv i)),(4,(iv j))]) (fun a=>T) ?_ ?_
 refine cV ?_
 refine bO (K:=kT3) (xs:=([b,i,j]:List Int)) (vs:=[(iv b),(iv i),(iv j)]) 0 R R bH cO gN R R R R R R ?_ R (fun A10 D10=>?_)
 exact fun I h s=>(gM).list [((),b),((),i),((),j)] I h s
 refine cV ?_
 obtain ⟨e1,aq,a8⟩:=bd u
 refine bD (A:=HH) aq (fun s a=>[(0,(sc A2 l D2)),(1,(iv q)),(2,(iv b)),(3,(iv i)),(4,(iv j)),(27,(s3 a)),(28,(il ([b,i,j]:List Int))),(29,(iv s))]) (fun s a=>ow kT3 3 (s3 a) ([b,i,j]:List Int)::T) (A10,([b,i,j]:List Int).length,D10) (aS R) tI ?_
 rintro O ⟨ay,al,Y⟩ σ1 aw u a4
 dsimp only [Z02_L1] at u
 refine bK 0 aD (fun (hn:al=([b,i,j]:List Int).length)=>?_)
 subst hn
 refine cB ?_
 split at u
 refine cB ?_
 obtain ⟨a5,u⟩:=gd u
 refine aC (bE 0 aD (show 0<([b,i,j]:List Int).length by have:=a5; omega) (fun a0 o22 ha=>?_))
 subst ha
 refine cB ?_
 refine cQ [(0,(sc A2 l D2)),(1,(iv q)),(2,(iv b)),(3,(iv i)),(4,(iv j)),(27,(sc (ad a0 o22) ([b,i,j]:List Int) Y)),(28,(il ([b,i,j]:List Int))),(29,(iv O)),(38,(.bool ((decide ((ix ([b,i,j]:List Int) O)<0))||(decide ((ix ([b,i,j]:List Int) O)>4096)))))] (OO kT3 3 (ad a0 o22) Y ([b,i,j]:List Int)::T) ?_ ?_
 refine bL ?_
 rcases bo (decide ((ix ([b,i,j]:List Int) O)<0)) with a3 | a3
 refine bL ?_
 exact qj tI
 refine bL ?_
 exact qj tI
 rintro σ1
 refine cP ?_
 split at u
 refine hG ?_
 cases u
 obtain rfl:=a4 _ R
 have u:=a8
 refine aV ?_
 cases u
 exact iS ((none,0,0),(none,0,0)) (fun w s=>(((s.nilo kT3 3).nilo kT179 179).e 4 [1,0]))
 refine dN ?_
 cases u
 exact qA ((ad a0 o22),([b,i,j]:List Int).length,Y) tI
 refine aV ?_
 cases u
 obtain rfl:=a4 _ R
 have u:=a8
 refine aZ ?_
 exact qI ((),()) u (tE 1 [])
 rintro ⟨_,_⟩ σ1 u
 dsimp only [Z02_J1] at u
 refine cP ?_
 obtain ⟨a6,u⟩:=gd u
 refine aV ?_
 refine bE 0 aA (show 0<l.length by have:=a6; omega) (fun M o29 ha=>?_)
 subst ha
 refine yi ?_
 obtain ⟨G,a9,u⟩:=bd u
 refine bL ?_
 refine lM _ (fun w s=>(s.d 0 R)) ?_
 refine lC 1 rS R (Z1u_ok a9) R ?_
 rintro ⟨J,b1,L⟩
 refine aM 0 aD ?_
 rintro rfl
 refine cV ?_
 obtain ⟨b3,aa,u⟩:=bd u
 refine aZ ?_
 refine lC 1 jK R (FnOk.lends (A':=[OO kT3 3 J L G]) (A:=[RR kT3 J L G]) (B:=[]) (Zf_ok aa) ⟨aU,trivial⟩ (fun _=>trivial)) R ?_
 rintro _
 refine aV ?_
 split at u
 refine dJ ?_
 cases u
 exact iS ((none,0,0),(none,0,0)) (fun w s=>(((s.nilo kT3 3).nilo kT179 179).e 4 [1,0]))
 refine cV ?_
 refine bO (K:=kT179) (xs:=([]:List pair)) (vs:=[]) 0 R R fT fU fF R R R R R R ?_ R (fun ac ai=>?_)
 exact fun I h s=>(jI).list [] I h s
 refine bL ?_
 refine bB (A:=((List pair))×(HH)) (fun a=>Z02_J2 l q b i j G a.1=some r) (fun a=>[(0,(sc (ad M o29) l D2)),(1,(iv q)),(16,(iv (aI ((aI ((aI (b+(ix l q)))+(aI ((aI ((ix l q) - 1))*j))))+i)))),(17,(sc J G L)),(18,(s3 a.2))]) (fun a=>OO kT3 3 J L G::ow kT179 179 (s3 a.2) a.1::T) ?_ ?_
 refine cB ?_
 obtain ⟨e2,ar,ap⟩:=bd u
 refine bD (A:=HH) ar (fun s a=>[(0,(sc (ad M o29) l D2)),(1,(iv q)),(2,(iv b)),(4,(iv j)),(15,(iv (ix l q))),(16,(iv (aI ((aI ((aI (b+(ix l q)))+(aI ((aI ((ix l q) - 1))*j))))+i)))),(17,(sc J G L)),(18,(s3 a)),(19,(iv s.2))]) (fun s a=>OO kT3 3 J L G::ow kT179 179 (s3 a) s.1::T) (ac,([]:List pair).length,ai) (aS R) (tE 2 [1,0]) ?_
 rintro ⟨D,E⟩ ⟨ae,am,aj⟩ σ1 ax u ao
 dsimp only [Z02_L2] at u
 refine bK 1 aD (fun (hn:am=D.length)=>?_)
 subst hn
 refine dN ?_
 split at u
 refine cV ?_
 obtain ⟨a7,u⟩:=gd u
 refine dG ?_
 refine lO (vz (.agg [(iv E),(iv (aI (b+(aI (E*(aI (j+1)))))))].toArray) (bA nr fF R R)) (bO (K:=kT179) (xs:=([(⟨E,(aI (b+(aI (E*(aI (j+1))))))⟩:pair)]:List pair)) (vs:=[(.agg [(iv E),(iv (aI (b+(aI (E*(aI (j+1)))))))].toArray)]) 0 R R fT fU fF R R R R R R ?_ R (fun az b0=>?_))
 exact fun I h s=>(jI).list [(((),()),(⟨E,(aI (b+(aI (E*(aI (j+1))))))⟩:pair))] I h s
 refine lM _ (tE 3 [2,0,1]) ?_
 refine eU (K:=kT179) 8796093022208 R R fT fU mu (Zr.zk zT179 fF) R R R R R R eB a7 (fun a1 a2=>(lN (OO kT179 179 a1 a2 (D++([(⟨E,(aI (b+(aI (E*(aI (j+1))))))⟩:pair)]:List pair))::_::T) ?_))
 refine dG ?_
 cases u
 exact qA (a1,(D++([(⟨E,(aI (b+(aI (E*(aI (j+1))))))⟩:pair)]:List pair)).length,a2) (tE 2 [1,0])
 refine aV ?_
 cases u
 obtain rfl:=ao _ R
 have u:=ap
 refine aZ ?_
 exact qI (D,(ae,D.length,aj)) u tI
 rintro ⟨F,⟨U,an,Z⟩⟩ σ1 u
 dsimp only [Z02_J2] at u
 refine bK 1 aD (fun (hn:an=F.length)=>?_)
 subst hn
 refine cP ?_
 obtain ⟨av,ab,u⟩:=bd u
 refine cB ?_
 refine lM _ (fun w s=>((s.d 2 R).e 3 [2,0,1])) ?_
 refine lC 2 uf R (FnOk.lends (A':=[OO kT179 179 U Z F]) (A:=[RR kT179 U Z F]) (B:=[RR kT3 (ad M o29) D2 l]) (FnOk.perm (Z8_ok ab) (Pre':=[RR kT179 U Z F,RR kT3 (ad M o29) D2 l]) (fun _ _ _ s=>(s.e 2 [1,0]))) ⟨aU,trivial⟩ (fun _=>⟨(bN tZ),trivial⟩)) R ?_
 rintro ⟨ag,b2,ak⟩
 refine aM 1 aD ?_
 rintro rfl
 refine cB ?_
 cases u
 exact iS ((J,G.length,L),(ag,av.length,ak)) (tE 4 [2,1])
theorem Z28_ok  {p1:(List Int)}{a:(List Int)}{r:(List Int)×(List pair)×Bool}(b:Z28 p1 a=some r) :
 FnOk Tryz.prog 107 [(.slice A2 N2 D2),(.slice A4 N4 D4)] [aO kT3 (.slice A2 N2 D2) p1,aO kT3 (.slice A4 N4 D4) a] (fun (h:HH×HH)=>((.tuple [(s3 h.1),(s3 h.2),(.bool r.2.2)].toArray),[ow kT3 3 (s3 h.1) r.1,ow kT179 179 (s3 h.2) r.2.1])):=by
 unfold Z28 at b
 refine aR Tryz.func107 R 24 R R fun C V=>?_
 refine cL 0 aA ?_
 rintro rfl
 refine cL 1 aA ?_
 rintro rfl
 let B:=RR kT3 A2 D2 p1::RR kT3 A4 D4 a::V
 refine cN B ?_
 refine dN ?_
 obtain ⟨q,b⟩:=gd b
 obtain ⟨_,b⟩:=gd b
 obtain ⟨_,b⟩:=gd b
 obtain ⟨_,b⟩:=gd b
 obtain ⟨i,e,b⟩:=bd b
 refine bC 0 aA (show 0<p1.length by have:=q; omega) (fun E o7 D=>?_)
 subst D
 refine dP 20 [] bS fun G F=>?_
 refine nQ 0 [] ?_
 refine d1 13 R (lM _ (fun w s=>(s.d 1 R)) ?_)
 refine lC 1 By R (Z02_ok e) R ?_
 rintro ⟨⟨j,u,l⟩,⟨A14,N14,D14⟩⟩
 refine aM 0 aD ?_
 rintro rfl
 refine aM 1 aD ?_
 rintro rfl
 refine aB (aJ (sL [1,0]) ?_)
 refine tW 14 [1,0] ?_
 refine dD ?_
 refine aZ ?_
 cases b
 exact iS ((j,i.1.length,l),(A14,i.2.1.length,D14)) (tE 4 [0,1])
theorem Z2z_ok  {a:Node}{b:(List Int)}{u:Int}{j:Int}{G:Nat}{l:Nat}{i:Nat}{r:(List Int)×(List pair)×Bool}(q:Z2z a b u j=some r) :
 FnOk Tryz.prog 146 [(.agg [(iv a.Op),(.slice A2 N2 D2),(.slice A3 N3 D3),(.slice A4 N4 D4),(aG a.Form),(.slice A5 N5 D5)].toArray),(.slice A7 N7 D7),(pt G 0),(pt l 0),(pt i 0)] [aO kT3 (.slice A2 N2 D2) a.Args,aO kT3 (.slice A3 N3 D3) a.Dims,aO kT3 (.slice A4 N4 D4) a.Ints,aO kT3 (.slice A5 N5 D5) a.Data,aO kT3 (.slice A7 N7 D7) b,aK G [(iv u)] 3,aK l [(iv j)] 3,aK i [(.func (.func 107) [].toArray [].toArray)] 151] (fun (h:HH×HH)=>((.tuple [(s3 h.1),(s3 h.2),(.bool r.2.2)].toArray),[ow kT3 3 (s3 h.1) r.1,ow kT179 179 (s3 h.2) r.2.1,aK G [(iv u)] 3,aK l [(iv j)] 3,aK i [(.func (.func 107) [].toArray [].toArray)] 151])):=by
 unfold Z2z at q
 refine aR Tryz.func146 R 30 R R fun C V=>?_
 refine cM _ (fun w s=>(s.f 8 [5,3,0,5])) ?_
 refine cL 3 aA ?_
 rintro rfl
 refine cL 4 aA ?_
 rintro rfl
 refine cL 5 aA ?_
 rintro rfl
 refine cL 6 aA ?_
 rintro rfl
 refine cL 7 aA ?_
 rintro rfl
 let Y:=RR kT3 A2 D2 a.Args::RR kT3 A3 D3 a.Dims::RR kT3 A4 D4 a.Ints::RR kT3 A5 D5 a.Data::RR kT3 A7 D7 b::V
 refine aZ ?_
 refine eT R fun B=>?_
 refine bL ?_
 let O:=aK B [(iv a.Op),(sc A2 a.Args D2),(sc A3 a.Dims D3),(sc A4 a.Ints D4),(aG a.Form),(sc A5 a.Data D5)] 42::aK G [(iv u)] 3::aK l [(iv j)] 3::aK i [(.func (.func 107) [].toArray [].toArray)] 151::Y
 refine qN O ?_
 refine aV ?_
 refine cQ [(1,(sc A7 b D7)),(4,(pt i 0)),(5,(pt B 0)),(21,(.bool ((decide ((a.Ints.length:Int)<u))||(decide ((a.Ints.length:Int)>j)))))] (O) ?_ ?_
 refine eD ?_
 rcases bo (decide ((a.Ints.length:Int)<u)) with D | D
 refine eD ?_
 exact qj tI
 refine eD ?_
 exact qj tI
 rintro σ1
 refine cP ?_
 split at q
 refine dJ ?_
 cases q
 exact iS ((none,0,0),(none,0,0)) (fun w s=>(((s.nilo kT3 3).nilo kT179 179).e 11 [1,0,3,4,5]))
 refine bL ?_
 obtain ⟨F,E,q⟩:=bd q
 refine cV ?_
 refine lM _ (fun w s=>(((s.d 6 R).d 9 R).e 2 [1,0])) ?_
 refine cU (fs:=[]) (cs:=[]) 2 R R Bz R R (Z28_ok E) R ?_
 rintro ⟨⟨I,T,L⟩,⟨J,U,M⟩⟩
 refine aM 0 aD ?_
 rintro rfl
 refine aM 1 aD ?_
 rintro rfl
 refine dG ?_
 cases q
 exact iS ((I,F.1.length,L),(J,F.2.1.length,M)) (fun w s=>(s.f 11 [0,2,3,3]))
theorem Z1x_ok  {k1:shiftKind}{I:Int}{J:Int}{b:Node}{a:(List (List Int))}{l:Nat}{q:Nat}{u:Nat}{r:(List Int)×Bool}(j:Z1x k1 I J b a=some r) :
 FnOk Tryz.prog 225 [(.agg [(aG k1.use),(.func (.func 146) [].toArray [(pt l 0),(pt q 0),(pt u 0)].toArray)].toArray),(.agg [(iv b.Op),(.slice A9 N9 D9),(.slice A10 N10 D10),(.slice A11 N11 D11),(aG b.Form),(.slice A12 N12 D12)].toArray),(.slice A14 N14 D14)] [aK l [(iv I)] 3,aK q [(iv J)] 3,aK u [(.func (.func 107) [].toArray [].toArray)] 151,aO kT3 (.slice A9 N9 D9) b.Args,aO kT3 (.slice A10 N10 D10) b.Dims,aO kT3 (.slice A11 N11 D11) b.Ints,aO kT3 (.slice A12 N12 D12) b.Data,aO bF (.slice A14 N14 D14) a] (fun (h:HH)=>((.tuple [(s3 h),(.bool r.2)].toArray),[ow kT3 3 (s3 h) r.1,aK l [(iv I)] 3,aK q [(iv J)] 3,aK u [(.func (.func 107) [].toArray [].toArray)] 151])):=by
 unfold Z1x at j
 refine aR Tryz.func225 R 27 R R fun C V=>?_
 refine cL 3 aA ?_
 rintro rfl
 refine cL 4 aA ?_
 rintro rfl
 refine cL 5 aA ?_
 rintro rfl
 refine cL 6 aA ?_
 rintro rfl
 refine cL 7 aA ?_
 rintro rfl
 let W0:=RR kT3 A9 D9 b.Args::RR kT3 A10 D10 b.Dims::RR kT3 A11 D11 b.Ints::RR kT3 A12 D12 b.Data::RR bF A14 D14 a::V
 refine aZ ?_
 refine eT R fun F=>?_
 refine eT R fun G=>?_
 refine aV ?_
 refine qM _ (fun w s=>(s.f 5 [2,3,0,2])) ?_
 let W1:=aK G [(iv b.Op),(sc A9 b.Args D9),(sc A10 b.Dims D10),(sc A11 b.Ints D11),(aG b.Form),(sc A12 b.Data D12)] 42::aK F [(aG k1.use),(.func (.func 146) [].toArray [(pt l 0),(pt q 0),(pt u 0)].toArray)] 146::W0
 refine dG ?_
 split at j
 refine dG ?_
 cases j
 exact kb (none,0,0) (fun w s=>((s.nilo kT3 3).f 11 [0,4]))
 refine bL ?_
 obtain ⟨i,j⟩:=gd j
 obtain ⟨L,B,j⟩:=bd j
 refine bC 9 aA (show 0<a.length by have:=i; omega) (fun a0 o20 ha=>?_)
 subst ha
 refine dU (K:=bF) 9 (0:Int) dT23.dec R i.1 i.2 ?_
 rintro ⟨M,T⟩
 refine dP 14 [] bS fun ht hn=>?_
 refine kX 0 [] ?_
 refine dR 5 R (eZ (fo:=0) 0 cH R R R) (d1 6 R (lM _ (fun w s=>((((((s.d 7 R).d 9 R).d 11 R).d 13 R).d 5 R).e 10 [4,3,2,1,0,7,8,9,5,6])) ?_))
 refine cU (fs:=[]) (cs:=[(pt l 0),(pt q 0),(pt u 0)]) 8 R R rV R R (Z2z_ok B) R ?_
 rintro ⟨⟨D,Y,E⟩,⟨O,Z,U⟩⟩
 refine aM 0 aD ?_
 rintro rfl
 refine aM 1 aD ?_
 rintro rfl
 refine aB (aJ (fun w s=>(s.f 7 [5,2,2,3])) (dR 7 R (vT R) (hS:=(fun w s=>(s.f 7 [5,2,2,3]))) (dR 8 R (vS R) (hS:=(fun w s=>(s.f 7 [5,2,2,3]))) (dR 9 R (vS R) (hS:=(fun w s=>(s.f 7 [5,2,2,3]))) (dR 10 R (vB R) (hS:=(fun w s=>(s.f 7 [5,2,2,3]))) (dR 11 R (vS R) (hS:=(fun w s=>(s.f 7 [5,2,2,3]))) (dR 12 R (vS R) (hS:=(fun w s=>(s.f 7 [5,2,2,3]))) (dR 13 R (vB R) (hS:=(fun w s=>(s.f 7 [5,2,2,3]))) (dD ?_)))))))))
 refine dJ ?_
 cases j
 exact kb (D,L.1.length,E) (tE 14 [0,2,3,4])
theorem Z0m_ok  {i:(List Int)}{q:Int}{b:(List Int)}{r:(List Int)×(List pair)×Bool}(u:Z0m i q b=some r) :
 FnOk Tryz.prog 110 [(.slice A2 N2 D2),(iv q),(.slice A5 N5 D5)] [aO kT3 (.slice A2 N2 D2) i,aO kT3 (.slice A5 N5 D5) b] (fun (h:HH×HH)=>((.tuple [(s3 h.1),(s3 h.2),(.bool r.2.2)].toArray),[ow kT3 3 (s3 h.1) r.1,ow kT179 179 (s3 h.2) r.2.1])):=by
 unfold Z0m at u
 refine aR Tryz.func110 R 67 R R fun C V=>?_
 refine cL 0 aA ?_
 rintro rfl
 refine cL 1 aA ?_
 rintro rfl
 let Z:=RR kT3 A2 D2 i::RR kT3 A5 D5 b::V
 refine cN Z ?_
 refine dG ?_
 obtain ⟨r6,an,u⟩:=bd u
 refine cQ [(0,(sc A2 i D2)),(1,(iv q)),(2,(sc A5 b D5)),(26,(.bool (((!r6)||((b.length:Int)==0))||(decide ((b.length:Int)>4096)))))] (Z) ?_ ?_
 refine aV ?_
 refine lM _ (fun w s=>(s.d 0 R)) ?_
 refine lC 1 hM R (Zp_ok an) R ?_
 rintro _
 refine lN Z ?_
 refine aZ ?_
 rcases bo (!r6) with ak | ak
 refine dJ ?_
 exact qj tI
 refine cV ?_
 rcases bo ((!r6)||((b.length:Int)==0)) with al | al
 refine cV ?_
 exact qj tI
 refine cV ?_
 exact qj tI
 rintro σ1
 refine cP ?_
 split at u
 refine dJ ?_
 cases u
 exact iS ((none,0,0),(none,0,0)) (fun w s=>(((s.nilo kT3 3).nilo kT179 179).e 4 [1,0]))
 refine cV ?_
 refine bO (K:=kT179) (xs:=([]:List pair)) (vs:=[]) 0 R R fT fU fF R R R R R R ?_ R (fun A11 D11=>?_)
 exact fun I h s=>(jI).list [] I h s
 refine bL ?_
 refine bB (A:=((List pair))×(HH×HH)) (fun a=>Z0m_J1 i q b a.1=some r) (fun a=>[(0,(sc A2 i D2)),(1,(iv q)),(2,(s3 a.2.1)),(9,(s3 a.2.2))]) (fun a=>aO kT3 (s3 a.2.1) b::ow kT179 179 (s3 a.2.2) a.1::Z) ?_ ?_
 refine dN ?_
 obtain ⟨e1,am,a6⟩:=bd u
 refine bD (A:=HH×HH) am (fun s a=>[(0,(sc A2 i D2)),(1,(iv q)),(2,(s3 a.1)),(9,(s3 a.2)),(28,(s3 a.1)),(29,(il b)),(30,(iv s.2))]) (fun s a=>aO kT3 (s3 a.1) b::ow kT179 179 (s3 a.2) s.1::Z) ((A5,b.length,D5),(A11,([]:List pair).length,D11)) (aS R) (fun w s=>(s.d 2 R)) ?_
 rintro ⟨j,l⟩ ⟨⟨aa,ae,F⟩,⟨L,ag,T⟩⟩ σ1 ap u a3
 dsimp only [Z0m_L1] at u
 refine bK 0 aA (fun (hn:ae=b.length)=>?_)
 subst hn
 refine bK 1 aD (fun (hn:ag=j.length)=>?_)
 subst hn
 refine cB ?_
 split at u
 refine cB ?_
 obtain ⟨a4,u⟩:=gd u
 refine aZ ?_
 refine bE 0 aA (show 0<b.length by have:=a4; omega) (fun J o31 ha=>?_)
 subst ha
 refine dN ?_
 obtain ⟨G,u⟩:=gd u
 refine cQ [(0,(sc A2 i D2)),(1,(iv q)),(2,(sc (ad J o31) b F)),(9,(sc L j T)),(10,(iv l)),(11,(iv (ix b l))),(28,(sc (ad J o31) b F)),(29,(il b)),(30,(iv l)),(44,(.bool ((decide ((ix b l)<0))||(decide ((ix b l)≥(ix i q))))))] (RR kT3 (ad J o31) F b::OO kT179 179 L T j::Z) ?_ ?_
 refine bL ?_
 rcases bo (decide ((ix b l)<0)) with E | E
 refine dN ?_
 exact qj tI
 refine aV ?_
 refine bE 2 aA (show 0<i.length by have:=(G E); omega) (fun ay o34 ha=>?_)
 subst ha
 refine lW (bW E) (dV bH cO R R (G E)) (lW (bW E) (fQ 2 fC aA R (G E)) ?_)
 refine aV ?_
 exact qj tI
 rintro σ1
 refine cP ?_
 split at u
 refine jl ?_
 cases u
 obtain rfl:=a3 _ R
 have u:=a6
 refine aV ?_
 cases u
 exact iS ((none,0,0),(none,0,0)) (fun w s=>(((s.nilo kT3 3).nilo kT179 179).e 6 [1,0]))
 refine aV ?_
 obtain ⟨a5,u⟩:=gd u
 refine bL ?_
 refine lO (vz (.agg [(iv (ix b l)),(iv l)].toArray) (bA nr fF R R)) (bO (K:=kT179) (xs:=([(⟨(ix b l),l⟩:pair)]:List pair)) (vs:=[(.agg [(iv (ix b l)),(iv l)].toArray)]) 0 R R fT fU fF R R R R R R ?_ R (fun aq au=>?_))
 exact fun I h s=>(jI).list [(((),()),(⟨(ix b l),l⟩:pair))] I h s
 refine lM _ (tE 3 [2,0,1]) ?_
 refine eU (K:=kT179) 8796093022208 R R fT fU mu (Zr.zk zT179 fF) R R R R R R eB a5 (fun a1 a2=>(lN (OO kT179 179 a1 a2 (j++([(⟨(ix b l),l⟩:pair)]:List pair))::_::Z) ?_))
 refine dN ?_
 cases u
 exact qA (((ad J o31),b.length,F),(a1,(j++([(⟨(ix b l),l⟩:pair)]:List pair)).length,a2)) (tE 2 [1,0])
 refine aV ?_
 cases u
 obtain rfl:=a3 _ R
 have u:=a6
 refine aZ ?_
 exact qI (j,((aa,b.length,F),(L,j.length,T))) u tI
 rintro ⟨D,⟨⟨ar,ai,av⟩,⟨M,aj,U⟩⟩⟩ σ1 u
 dsimp only [Z0m_J1] at u
 refine bK 0 aA (fun (hn:ai=b.length)=>?_)
 subst hn
 refine bK 1 aD (fun (hn:aj=D.length)=>?_)
 subst hn
 refine cP ?_
 obtain ⟨a0,a7,u⟩:=bd u
 refine cV ?_
 refine lM _ (fun w s=>(s.d 2 R)) ?_
 refine lC 1 rS R (Z1u_ok a7) R ?_
 rintro ⟨O,aw,Y⟩
 refine aM 0 aD ?_
 rintro rfl
 refine cV ?_
 obtain ⟨az,a8,u⟩:=bd u
 refine aZ ?_
 refine lC 1 jK R (FnOk.lends (A':=[OO kT3 3 O Y a0]) (A:=[RR kT3 O Y a0]) (B:=[]) (Zf_ok a8) ⟨aU,trivial⟩ (fun _=>trivial)) R ?_
 rintro _
 refine aV ?_
 split at u
 refine dJ ?_
 cases u
 exact iS ((none,0,0),(none,0,0)) (fun w s=>(((s.nilo kT3 3).nilo kT179 179).e 7 [1,0]))
 refine bL ?_
 obtain ⟨ao,a9,u⟩:=bd u
 refine eD ?_
 refine lM _ (fun w s=>((s.d 3 R).e 4 [3,0,1,2])) ?_
 refine lC 2 uf R (FnOk.lends (A':=[OO kT179 179 M U D]) (A:=[RR kT179 M U D]) (B:=[RR kT3 A2 D2 i]) (FnOk.perm (Z8_ok a9) (Pre':=[RR kT179 M U D,RR kT3 A2 D2 i]) (fun _ _ _ s=>(s.e 2 [1,0]))) ⟨aU,trivial⟩ (fun _=>⟨(bN tZ),trivial⟩)) R ?_
 rintro ⟨ab,ax,ac⟩
 refine aM 1 aD ?_
 rintro rfl
 refine cB ?_
 cases u
 exact iS ((O,a0.length,Y),(ab,ao.length,ac)) (tE 6 [2,1])
theorem Z29_ok  {p1:(List Int)}{a:(List Int)}{r:(List Int)×(List pair)×Bool}(b:Z29 p1 a=some r) :
 FnOk Tryz.prog 109 [(.slice A2 N2 D2),(.slice A4 N4 D4)] [aO kT3 (.slice A2 N2 D2) p1,aO kT3 (.slice A4 N4 D4) a] (fun (h:HH×HH)=>((.tuple [(s3 h.1),(s3 h.2),(.bool r.2.2)].toArray),[ow kT3 3 (s3 h.1) r.1,ow kT179 179 (s3 h.2) r.2.1])):=by
 unfold Z29 at b
 refine aR Tryz.func109 R 17 R R fun C V=>?_
 refine cL 0 aA ?_
 rintro rfl
 refine cL 1 aA ?_
 rintro rfl
 let E:=RR kT3 A2 D2 p1::RR kT3 A4 D4 a::V
 refine cN E ?_
 refine dN ?_
 obtain ⟨B,b⟩:=gd b
 obtain ⟨i,b⟩:=gd b
 obtain ⟨l,j,b⟩:=bd b
 refine bC 0 aA (show 0<p1.length by have:=B; omega) (fun G o7 F=>?_)
 subst F
 refine dP 13 [] bS fun J I=>?_
 refine kX 0 [] ?_
 refine d1 5 R (gP (K:=kT3) (1:Int) (p1.length:Int) 0 R R bH cO R R R R i.1 i.2.1 i.2.2 (fun A9 D9=>(aB (aJ (sL [0]) (d1 6 R (lM _ (fun w s=>(((s.d 2 R).d 1 R).e 3 [1,0,2])) ?_))))))
 refine lC 2 BA R (Z0m_ok j) R ?_
 rintro ⟨⟨A12,N12,D12⟩,⟨q,D,u⟩⟩
 refine aM 0 aD ?_
 rintro rfl
 refine aM 1 aD ?_
 rintro rfl
 refine aB (aJ (sL [2,1,0]) ?_)
 refine tW 7 [2,1,0] ?_
 refine dD ?_
 refine aZ ?_
 cases b
 exact iS ((A12,l.1.length,D12),(q,l.2.1.length,u)) (tE 5 [0,1])
theorem Z30_ok  {a:Node}{b:(List Int)}{u:Int}{j:Int}{G:Nat}{l:Nat}{i:Nat}{r:(List Int)×(List pair)×Bool}(q:Z30 a b u j=some r) :
 FnOk Tryz.prog 146 [(.agg [(iv a.Op),(.slice A2 N2 D2),(.slice A3 N3 D3),(.slice A4 N4 D4),(aG a.Form),(.slice A5 N5 D5)].toArray),(.slice A7 N7 D7),(pt G 0),(pt l 0),(pt i 0)] [aO kT3 (.slice A2 N2 D2) a.Args,aO kT3 (.slice A3 N3 D3) a.Dims,aO kT3 (.slice A4 N4 D4) a.Ints,aO kT3 (.slice A5 N5 D5) a.Data,aO kT3 (.slice A7 N7 D7) b,aK G [(iv u)] 3,aK l [(iv j)] 3,aK i [(.func (.func 109) [].toArray [].toArray)] 151] (fun (h:HH×HH)=>((.tuple [(s3 h.1),(s3 h.2),(.bool r.2.2)].toArray),[ow kT3 3 (s3 h.1) r.1,ow kT179 179 (s3 h.2) r.2.1,aK G [(iv u)] 3,aK l [(iv j)] 3,aK i [(.func (.func 109) [].toArray [].toArray)] 151])):=by
 unfold Z30 at q
 refine aR Tryz.func146 R 30 R R fun C V=>?_
 refine cM _ (fun w s=>(s.f 8 [5,3,0,5])) ?_
 refine cL 3 aA ?_
 rintro rfl
 refine cL 4 aA ?_
 rintro rfl
 refine cL 5 aA ?_
 rintro rfl
 refine cL 6 aA ?_
 rintro rfl
 refine cL 7 aA ?_
 rintro rfl
 let Y:=RR kT3 A2 D2 a.Args::RR kT3 A3 D3 a.Dims::RR kT3 A4 D4 a.Ints::RR kT3 A5 D5 a.Data::RR kT3 A7 D7 b::V
 refine aZ ?_
 refine eT R fun B=>?_
 refine bL ?_
 let O:=aK B [(iv a.Op),(sc A2 a.Args D2),(sc A3 a.Dims D3),(sc A4 a.Ints D4),(aG a.Form),(sc A5 a.Data D5)] 42::aK G [(iv u)] 3::aK l [(iv j)] 3::aK i [(.func (.func 109) [].toArray [].toArray)] 151::Y
 refine qN O ?_
 refine aV ?_
 refine cQ [(1,(sc A7 b D7)),(4,(pt i 0)),(5,(pt B 0)),(21,(.bool ((decide ((a.Ints.length:Int)<u))||(decide ((a.Ints.length:Int)>j)))))] (O) ?_ ?_
 refine eD ?_
 rcases bo (decide ((a.Ints.length:Int)<u)) with D | D
 refine eD ?_
 exact qj tI
 refine eD ?_
 exact qj tI
 rintro σ1
 refine cP ?_
 split at q
 refine dJ ?_
 cases q
 exact iS ((none,0,0),(none,0,0)) (fun w s=>(((s.nilo kT3 3).nilo kT179 179).e 11 [1,0,3,4,5]))
 refine bL ?_
 obtain ⟨F,E,q⟩:=bd q
 refine cV ?_
 refine lM _ (fun w s=>(((s.d 6 R).d 9 R).e 2 [1,0])) ?_
 refine cU (fs:=[]) (cs:=[]) 2 R R BC R R (Z29_ok E) R ?_
 rintro ⟨⟨I,T,L⟩,⟨J,U,M⟩⟩
 refine aM 0 aD ?_
 rintro rfl
 refine aM 1 aD ?_
 rintro rfl
 refine dG ?_
 cases q
 exact iS ((I,F.1.length,L),(J,F.2.1.length,M)) (fun w s=>(s.f 11 [0,2,3,3]))
theorem Z1y_ok  {k1:shiftKind}{I:Int}{J:Int}{b:Node}{a:(List (List Int))}{l:Nat}{q:Nat}{u:Nat}{r:(List Int)×Bool}(j:Z1y k1 I J b a=some r) :
 FnOk Tryz.prog 225 [(.agg [(aG k1.use),(.func (.func 146) [].toArray [(pt l 0),(pt q 0),(pt u 0)].toArray)].toArray),(.agg [(iv b.Op),(.slice A9 N9 D9),(.slice A10 N10 D10),(.slice A11 N11 D11),(aG b.Form),(.slice A12 N12 D12)].toArray),(.slice A14 N14 D14)] [aK l [(iv I)] 3,aK q [(iv J)] 3,aK u [(.func (.func 109) [].toArray [].toArray)] 151,aO kT3 (.slice A9 N9 D9) b.Args,aO kT3 (.slice A10 N10 D10) b.Dims,aO kT3 (.slice A11 N11 D11) b.Ints,aO kT3 (.slice A12 N12 D12) b.Data,aO bF (.slice A14 N14 D14) a] (fun (h:HH)=>((.tuple [(s3 h),(.bool r.2)].toArray),[ow kT3 3 (s3 h) r.1,aK l [(iv I)] 3,aK q [(iv J)] 3,aK u [(.func (.func 109) [].toArray [].toArray)] 151])):=by
 unfold Z1y at j
 refine aR Tryz.func225 R 27 R R fun C V=>?_
 refine cL 3 aA ?_
 rintro rfl
 refine cL 4 aA ?_
 rintro rfl
 refine cL 5 aA ?_
 rintro rfl
 refine cL 6 aA ?_
 rintro rfl
 refine cL 7 aA ?_
 rintro rfl
 let W0:=RR kT3 A9 D9 b.Args::RR kT3 A10 D10 b.Dims::RR kT3 A11 D11 b.Ints::RR kT3 A12 D12 b.Data::RR bF A14 D14 a::V
 refine aZ ?_
 refine eT R fun F=>?_
 refine eT R fun G=>?_
 refine aV ?_
 refine qM _ (fun w s=>(s.f 5 [2,3,0,2])) ?_
 let W1:=aK G [(iv b.Op),(sc A9 b.Args D9),(sc A10 b.Dims D10),(sc A11 b.Ints D11),(aG b.Form),(sc A12 b.Data D12)] 42::aK F [(aG k1.use),(.func (.func 146) [].toArray [(pt l 0),(pt q 0),(pt u 0)].toArray)] 146::W0
 refine dG ?_
 split at j
 refine dG ?_
 cases j
 exact kb (none,0,0) (fun w s=>((s.nilo kT3 3).f 11 [0,4]))
 refine bL ?_
 obtain ⟨i,j⟩:=gd j
 obtain ⟨L,B,j⟩:=bd j
 refine bC 9 aA (show 0<a.length by have:=i; omega) (fun a0 o20 ha=>?_)
 subst ha
 refine dU (K:=bF) 9 (0:Int) dT23.dec R i.1 i.2 ?_
 rintro ⟨M,T⟩
 refine dP 14 [] bS fun ht hn=>?_
 refine kX 0 [] ?_
 refine dR 5 R (eZ (fo:=0) 0 cH R R R) (d1 6 R (lM _ (fun w s=>((((((s.d 7 R).d 9 R).d 11 R).d 13 R).d 5 R).e 10 [4,3,2,1,0,7,8,9,5,6])) ?_))
 refine cU (fs:=[]) (cs:=[(pt l 0),(pt q 0),(pt u 0)]) 8 R R rV R R (Z30_ok B) R ?_
 rintro ⟨⟨D,Y,E⟩,⟨O,Z,U⟩⟩
 refine aM 0 aD ?_
 rintro rfl
 refine aM 1 aD ?_
 rintro rfl
 refine aB (aJ (fun w s=>(s.f 7 [5,2,2,3])) (dR 7 R (vT R) (hS:=(fun w s=>(s.f 7 [5,2,2,3]))) (dR 8 R (vS R) (hS:=(fun w s=>(s.f 7 [5,2,2,3]))) (dR 9 R (vS R) (hS:=(fun w s=>(s.f 7 [5,2,2,3]))) (dR 10 R (vB R) (hS:=(fun w s=>(s.f 7 [5,2,2,3]))) (dR 11 R (vS R) (hS:=(fun w s=>(s.f 7 [5,2,2,3]))) (dR 12 R (vS R) (hS:=(fun w s=>(s.f 7 [5,2,2,3]))) (dR 13 R (vB R) (hS:=(fun w s=>(s.f 7 [5,2,2,3]))) (dD ?_)))))))))
 refine dJ ?_
 cases j
 exact kb (D,L.1.length,E) (tE 14 [0,2,3,4])
theorem Z0n_ok  {i:(List Int)}{j:Int}{b:(List Int)}{F:Int}{r:(List Int)×(List pair)×Bool}(u:Z0n i j b F=some r) :
 FnOk Tryz.prog 112 [(.slice A2 N2 D2),(iv j),(.slice A5 N5 D5),(iv F)] [aO kT3 (.slice A2 N2 D2) i,aO kT3 (.slice A5 N5 D5) b] (fun (h:HH×HH)=>((.tuple [(s3 h.1),(s3 h.2),(.bool r.2.2)].toArray),[ow kT3 3 (s3 h.1) r.1,ow kT179 179 (s3 h.2) r.2.1])):=by
 unfold Z0n at u
 refine aR Tryz.func112 R 67 R R fun C V=>?_
 refine cL 0 aA ?_
 rintro rfl
 refine cL 1 aA ?_
 rintro rfl
 let Y:=RR kT3 A2 D2 i::RR kT3 A5 D5 b::V
 refine cN Y ?_
 refine dG ?_
 obtain ⟨r7,ao,u⟩:=bd u
 obtain ⟨a0,u⟩:=gd u
 refine cQ [(0,(sc A2 i D2)),(1,(iv j)),(2,(sc A5 b D5)),(3,(iv F)),(31,(.bool (((!r7)||((b.length:Int) != (ix i j)))||(decide (F<1)))))] (Y) ?_ ?_
 refine aV ?_
 refine lM _ (fun w s=>(s.d 0 R)) ?_
 refine lC 1 hM R (Zp_ok ao) R ?_
 rintro _
 refine lN Y ?_
 refine aZ ?_
 rcases bo (!r7) with E | E
 refine lq ?_
 exact qj tI
 refine bL ?_
 refine bE 0 aA (show 0<i.length by have:=(a0 E); omega) (fun ay o11 ha=>?_)
 subst ha
 refine lW (bW E) (dV bH cO R R (a0 E)) (lW (bW E) (fQ 0 fC aA R (a0 E)) ?_)
 refine aV ?_
 rcases bo ((!r7)||((b.length:Int) != (ix i j))) with a4 | a4
 refine bL ?_
 exact qj tI
 refine bL ?_
 exact qj tI
 rintro σ1
 refine cP ?_
 split at u
 refine dJ ?_
 cases u
 exact iS ((none,0,0),(none,0,0)) (fun w s=>(((s.nilo kT3 3).nilo kT179 179).e 4 [1,0]))
 refine cV ?_
 refine bO (K:=kT179) (xs:=([]:List pair)) (vs:=[]) 0 R R fT fU fF R R R R R R ?_ R (fun ae ai=>?_)
 exact fun I h s=>(jI).list [] I h s
 refine bL ?_
 refine bB (A:=((List pair))×(HH)) (fun a=>Z0n_J1 i j F a.1=some r) (fun a=>[(0,(sc A2 i D2)),(1,(iv j)),(3,(iv F)),(11,(s3 a.2))]) (fun a=>ow kT179 179 (s3 a.2) a.1::Y) ?_ ?_
 refine dN ?_
 obtain ⟨e1,an,a9⟩:=bd u
 refine bD (A:=HH×HH) an (fun s a=>[(0,(sc A2 i D2)),(1,(iv j)),(3,(iv F)),(11,(s3 a.1)),(33,(s3 a.2)),(34,(il b)),(35,(iv s.2))]) (fun s a=>ow kT179 179 (s3 a.1) s.1::aO kT3 (s3 a.2) b::Y) ((ae,([]:List pair).length,ai),(A5,b.length,D5)) (aS R) (fun w s=>((s.d 2 R).e 2 [1,0])) ?_
 rintro ⟨l,q⟩ ⟨⟨G,ak,M⟩,⟨ar,al,O⟩⟩ σ1 aq u a6
 dsimp only [Z0n_L1] at u
 refine bK 0 aD (fun (hn:ak=l.length)=>?_)
 subst hn
 refine bK 1 aA (fun (hn:al=b.length)=>?_)
 subst hn
 refine cB ?_
 split at u
 refine cB ?_
 obtain ⟨a7,u⟩:=gd u
 refine aZ ?_
 refine bE 1 aA (show 0<b.length by have:=a7; omega) (fun Z o32 ha=>?_)
 subst ha
 refine dN ?_
 refine cQ [(0,(sc A2 i D2)),(1,(iv j)),(3,(iv F)),(11,(sc G l M)),(12,(iv q)),(13,(iv (ix b q))),(33,(sc (ad Z o32) b O)),(34,(il b)),(35,(iv q)),(46,(.bool ((decide ((ix b q)<0))||(decide ((ix b q)≥F)))))] (OO kT179 179 G M l::RR kT3 (ad Z o32) O b::Y) ?_ ?_
 refine bL ?_
 rcases bo (decide ((ix b q)<0)) with a5 | a5
 refine cV ?_
 exact qj tI
 refine cV ?_
 exact qj tI
 rintro σ1
 refine cP ?_
 split at u
 refine jl ?_
 cases u
 obtain rfl:=a6 _ R
 have u:=a9
 refine aV ?_
 cases u
 exact iS ((none,0,0),(none,0,0)) (fun w s=>(((s.nilo kT3 3).nilo kT179 179).e 6 [1,0]))
 refine aV ?_
 obtain ⟨a8,u⟩:=gd u
 refine bL ?_
 refine lO (vz (.agg [(iv q),(iv (ix b q))].toArray) (bA nr fF R R)) (bO (K:=kT179) (xs:=([(⟨q,(ix b q)⟩:pair)]:List pair)) (vs:=[(.agg [(iv q),(iv (ix b q))].toArray)]) 0 R R fT fU fF R R R R R R ?_ R (fun au av=>?_))
 exact fun I h s=>(jI).list [(((),()),(⟨q,(ix b q)⟩:pair))] I h s
 refine lM _ (tE 3 [1,0,2]) ?_
 refine eU (K:=kT179) 8796093022208 R R fT fU mu (Zr.zk zT179 fF) R R R R R R eB a8 (fun a2 a3=>(lN (OO kT179 179 a2 a3 (l++([(⟨q,(ix b q)⟩:pair)]:List pair))::_::Y) ?_))
 refine dN ?_
 cases u
 exact qA ((a2,(l++([(⟨q,(ix b q)⟩:pair)]:List pair)).length,a3),((ad Z o32),b.length,O)) tI
 refine aV ?_
 cases u
 obtain rfl:=a6 _ R
 have u:=a9
 refine aZ ?_
 exact qI (l,(G,l.length,M)) u (tE 2 [0])
 rintro ⟨D,⟨J,am,T⟩⟩ σ1 u
 dsimp only [Z0n_J1] at u
 refine bK 0 aD (fun (hn:am=D.length)=>?_)
 subst hn
 refine cP ?_
 obtain ⟨a1,aa,u⟩:=bd u
 refine bL ?_
 refine lM _ (fun w s=>(s.d 1 R)) ?_
 refine lC 1 rS R (Z1u_ok aa) R ?_
 rintro ⟨L,aw,U⟩
 refine aM 0 aD ?_
 rintro rfl
 refine cV ?_
 obtain ⟨az,ab,u⟩:=bd u
 refine aZ ?_
 refine lC 1 jK R (FnOk.lends (A':=[OO kT3 3 L U a1]) (A:=[RR kT3 L U a1]) (B:=[]) (Zf_ok ab) ⟨aU,trivial⟩ (fun _=>trivial)) R ?_
 rintro _
 refine aV ?_
 split at u
 refine dJ ?_
 cases u
 exact iS ((none,0,0),(none,0,0)) (fun w s=>(((s.nilo kT3 3).nilo kT179 179).e 6 [1,0]))
 refine bL ?_
 obtain ⟨ap,ac,u⟩:=bd u
 refine cB ?_
 refine lM _ (fun w s=>((s.d 2 R).e 3 [2,0,1])) ?_
 refine lC 2 uf R (FnOk.lends (A':=[OO kT179 179 J T D]) (A:=[RR kT179 J T D]) (B:=[RR kT3 A2 D2 i]) (FnOk.perm (Z8_ok ac) (Pre':=[RR kT179 J T D,RR kT3 A2 D2 i]) (fun _ _ _ s=>(s.e 2 [1,0]))) ⟨aU,trivial⟩ (fun _=>⟨(bN tZ),trivial⟩)) R ?_
 rintro ⟨ag,ax,aj⟩
 refine aM 1 aD ?_
 rintro rfl
 refine cB ?_
 cases u
 exact iS ((L,a1.length,U),(ag,ap.length,aj)) (tE 5 [2,1])
theorem Z2a_ok  {p1:(List Int)}{a:(List Int)}{r:(List Int)×(List pair)×Bool}(b:Z2a p1 a=some r) :
 FnOk Tryz.prog 111 [(.slice A2 N2 D2),(.slice A4 N4 D4)] [aO kT3 (.slice A2 N2 D2) p1,aO kT3 (.slice A4 N4 D4) a] (fun (h:HH×HH)=>((.tuple [(s3 h.1),(s3 h.2),(.bool r.2.2)].toArray),[ow kT3 3 (s3 h.1) r.1,ow kT179 179 (s3 h.2) r.2.1])):=by
 unfold Z2a at b
 refine aR Tryz.func111 R 20 R R fun C V=>?_
 refine cL 0 aA ?_
 rintro rfl
 refine cL 1 aA ?_
 rintro rfl
 let E:=RR kT3 A2 D2 p1::RR kT3 A4 D4 a::V
 refine cN E ?_
 refine dN ?_
 obtain ⟨B,b⟩:=gd b
 obtain ⟨i,b⟩:=gd b
 obtain ⟨_,b⟩:=gd b
 obtain ⟨l,j,b⟩:=bd b
 refine bC 0 aA (show 0<p1.length by have:=B; omega) (fun G o7 F=>?_)
 subst F
 refine dP 16 [] bS fun J I=>?_
 refine kX 0 [] ?_
 refine j6 6 [] ?_
 refine d1 5 R (gP (K:=kT3) (2:Int) (p1.length:Int) 0 R R bH cO R R R R i.1 i.2.1 i.2.2 (fun A9 D9=>(aB (aJ (sL [0]) (d1 9 R (lM _ (fun w s=>(((s.d 2 R).d 1 R).e 3 [1,0,2])) ?_))))))
 refine lC 2 BD R (Z0n_ok j) R ?_
 rintro ⟨⟨q,D,u⟩,⟨A14,N14,D14⟩⟩
 refine aM 0 aD ?_
 rintro rfl
 refine aM 1 aD ?_
 rintro rfl
 refine aB (aJ (sL [2,1,0]) ?_)
 refine tW 10 [2,1,0] ?_
 refine dD ?_
 refine aZ ?_
 cases b
 exact iS ((q,l.1.length,u),(A14,l.2.1.length,D14)) (tE 5 [0,1])
theorem Z31_ok  {a:Node}{b:(List Int)}{u:Int}{j:Int}{G:Nat}{l:Nat}{i:Nat}{r:(List Int)×(List pair)×Bool}(q:Z31 a b u j=some r) :
 FnOk Tryz.prog 146 [(.agg [(iv a.Op),(.slice A2 N2 D2),(.slice A3 N3 D3),(.slice A4 N4 D4),(aG a.Form),(.slice A5 N5 D5)].toArray),(.slice A7 N7 D7),(pt G 0),(pt l 0),(pt i 0)] [aO kT3 (.slice A2 N2 D2) a.Args,aO kT3 (.slice A3 N3 D3) a.Dims,aO kT3 (.slice A4 N4 D4) a.Ints,aO kT3 (.slice A5 N5 D5) a.Data,aO kT3 (.slice A7 N7 D7) b,aK G [(iv u)] 3,aK l [(iv j)] 3,aK i [(.func (.func 111) [].toArray [].toArray)] 151] (fun (h:HH×HH)=>((.tuple [(s3 h.1),(s3 h.2),(.bool r.2.2)].toArray),[ow kT3 3 (s3 h.1) r.1,ow kT179 179 (s3 h.2) r.2.1,aK G [(iv u)] 3,aK l [(iv j)] 3,aK i [(.func (.func 111) [].toArray [].toArray)] 151])):=by
 unfold Z31 at q
 refine aR Tryz.func146 R 30 R R fun C V=>?_
 refine cM _ (fun w s=>(s.f 8 [5,3,0,5])) ?_
 refine cL 3 aA ?_
 rintro rfl
 refine cL 4 aA ?_
 rintro rfl
 refine cL 5 aA ?_
 rintro rfl
 refine cL 6 aA ?_
 rintro rfl
 refine cL 7 aA ?_
 rintro rfl
 let Y:=RR kT3 A2 D2 a.Args::RR kT3 A3 D3 a.Dims::RR kT3 A4 D4 a.Ints::RR kT3 A5 D5 a.Data::RR kT3 A7 D7 b::V
 refine aZ ?_
 refine eT R fun B=>?_
 refine bL ?_
 let O:=aK B [(iv a.Op),(sc A2 a.Args D2),(sc A3 a.Dims D3),(sc A4 a.Ints D4),(aG a.Form),(sc A5 a.Data D5)] 42::aK G [(iv u)] 3::aK l [(iv j)] 3::aK i [(.func (.func 111) [].toArray [].toArray)] 151::Y
 refine qN O ?_
 refine aV ?_
 refine cQ [(1,(sc A7 b D7)),(4,(pt i 0)),(5,(pt B 0)),(21,(.bool ((decide ((a.Ints.length:Int)<u))||(decide ((a.Ints.length:Int)>j)))))] (O) ?_ ?_
 refine eD ?_
 rcases bo (decide ((a.Ints.length:Int)<u)) with D | D
 refine eD ?_
 exact qj tI
 refine eD ?_
 exact qj tI
 rintro σ1
 refine cP ?_
 split at q
 refine dJ ?_
 cases q
 exact iS ((none,0,0),(none,0,0)) (fun w s=>(((s.nilo kT3 3).nilo kT179 179).e 11 [1,0,3,4,5]))
 refine bL ?_
 obtain ⟨F,E,q⟩:=bd q
 refine cV ?_
 refine lM _ (fun w s=>(((s.d 6 R).d 9 R).e 2 [1,0])) ?_
 refine cU (fs:=[]) (cs:=[]) 2 R R BE R R (Z2a_ok E) R ?_
 rintro ⟨⟨I,T,L⟩,⟨J,U,M⟩⟩
 refine aM 0 aD ?_
 rintro rfl
 refine aM 1 aD ?_
 rintro rfl
 refine dG ?_
 cases q
 exact iS ((I,F.1.length,L),(J,F.2.1.length,M)) (fun w s=>(s.f 11 [0,2,3,3]))
theorem Z1z_ok  {k1:shiftKind}{I:Int}{J:Int}{b:Node}{a:(List (List Int))}{l:Nat}{q:Nat}{u:Nat}{r:(List Int)×Bool}(j:Z1z k1 I J b a=some r) :
 FnOk Tryz.prog 225 [(.agg [(aG k1.use),(.func (.func 146) [].toArray [(pt l 0),(pt q 0),(pt u 0)].toArray)].toArray),(.agg [(iv b.Op),(.slice A9 N9 D9),(.slice A10 N10 D10),(.slice A11 N11 D11),(aG b.Form),(.slice A12 N12 D12)].toArray),(.slice A14 N14 D14)] [aK l [(iv I)] 3,aK q [(iv J)] 3,aK u [(.func (.func 111) [].toArray [].toArray)] 151,aO kT3 (.slice A9 N9 D9) b.Args,aO kT3 (.slice A10 N10 D10) b.Dims,aO kT3 (.slice A11 N11 D11) b.Ints,aO kT3 (.slice A12 N12 D12) b.Data,aO bF (.slice A14 N14 D14) a] (fun (h:HH)=>((.tuple [(s3 h),(.bool r.2)].toArray),[ow kT3 3 (s3 h) r.1,aK l [(iv I)] 3,aK q [(iv J)] 3,aK u [(.func (.func 111) [].toArray [].toArray)] 151])):=by
 unfold Z1z at j
 refine aR Tryz.func225 R 27 R R fun C V=>?_
 refine cL 3 aA ?_
 rintro rfl
 refine cL 4 aA ?_
 rintro rfl
 refine cL 5 aA ?_
 rintro rfl
 refine cL 6 aA ?_
 rintro rfl
 refine cL 7 aA ?_
 rintro rfl
 let W0:=RR kT3 A9 D9 b.Args::RR kT3 A10 D10 b.Dims::RR kT3 A11 D11 b.Ints::RR kT3 A12 D12 b.Data::RR bF A14 D14 a::V
 refine aZ ?_
 refine eT R fun F=>?_
 refine eT R fun G=>?_
 refine aV ?_
 refine qM _ (fun w s=>(s.f 5 [2,3,0,2])) ?_
 let W1:=aK G [(iv b.Op),(sc A9 b.Args D9),(sc A10 b.Dims D10),(sc A11 b.Ints D11),(aG b.Form),(sc A12 b.Data D12)] 42::aK F [(aG k1.use),(.func (.func 146) [].toArray [(pt l 0),(pt q 0),(pt u 0)].toArray)] 146::W0
 refine dG ?_
 split at j
 refine dG ?_
 cases j
 exact kb (none,0,0) (fun w s=>((s.nilo kT3 3).f 11 [0,4]))
 refine bL ?_
 obtain ⟨i,j⟩:=gd j
 obtain ⟨L,B,j⟩:=bd j
 refine bC 9 aA (show 0<a.length by have:=i; omega) (fun a0 o20 ha=>?_)
 subst ha
 refine dU (K:=bF) 9 (0:Int) dT23.dec R i.1 i.2 ?_
 rintro ⟨M,T⟩
 refine dP 14 [] bS fun ht hn=>?_
 refine kX 0 [] ?_
 refine dR 5 R (eZ (fo:=0) 0 cH R R R) (d1 6 R (lM _ (fun w s=>((((((s.d 7 R).d 9 R).d 11 R).d 13 R).d 5 R).e 10 [4,3,2,1,0,7,8,9,5,6])) ?_))
 refine cU (fs:=[]) (cs:=[(pt l 0),(pt q 0),(pt u 0)]) 8 R R rV R R (Z31_ok B) R ?_
 rintro ⟨⟨D,Y,E⟩,⟨O,Z,U⟩⟩
 refine aM 0 aD ?_
 rintro rfl
 refine aM 1 aD ?_
 rintro rfl
 refine aB (aJ (fun w s=>(s.f 7 [5,2,2,3])) (dR 7 R (vT R) (hS:=(fun w s=>(s.f 7 [5,2,2,3]))) (dR 8 R (vS R) (hS:=(fun w s=>(s.f 7 [5,2,2,3]))) (dR 9 R (vS R) (hS:=(fun w s=>(s.f 7 [5,2,2,3]))) (dR 10 R (vB R) (hS:=(fun w s=>(s.f 7 [5,2,2,3]))) (dR 11 R (vS R) (hS:=(fun w s=>(s.f 7 [5,2,2,3]))) (dR 12 R (vS R) (hS:=(fun w s=>(s.f 7 [5,2,2,3]))) (dR 13 R (vB R) (hS:=(fun w s=>(s.f 7 [5,2,2,3]))) (dD ?_)))))))))
 refine dJ ?_
 cases j
 exact kb (D,L.1.length,E) (tE 14 [0,2,3,4])
theorem Z4_ok  {b:(List Int)}{i:Int}{l:Int}{G:Int}{r:(List Int)×(List pair)×Bool}(q:Z4 b i l G=some r) :
 FnOk Tryz.prog 114 [(.slice A2 N2 D2),(iv i),(iv l),(iv G)] [aO kT3 (.slice A2 N2 D2) b] (fun (h:HH×HH)=>((.tuple [(s3 h.1),(s3 h.2),(.bool r.2.2)].toArray),[aO kT3 (s3 h.1) r.1,ow kT179 179 (s3 h.2) r.2.1])):=by
 unfold Z4 at q
 refine aR Tryz.func114 R 151 R R fun C V=>?_
 refine cL 0 aA ?_
 rintro rfl
 let W0:=RR kT3 A2 D2 b::V
 refine cN W0 ?_
 refine qv ?_
 obtain ⟨r6,a9,q⟩:=bd q
 obtain ⟨aa,q⟩:=gd q
 obtain ⟨ao,q⟩:=gd q
 obtain ⟨ap,q⟩:=gd q
 obtain ⟨bc,q⟩:=gd q
 refine cQ [(0,(sc A2 b D2)),(1,(iv i)),(2,(iv l)),(3,(iv G)),(11,(iv (aI ((b.length:Int) - 1)))),(68,(.bool (((((((!r6)||(i==(aI ((b.length:Int) - 1))))||(decide (l<1)))||(decide (G<1)))||(decide (G>4096)))||(decide ((ix b (aI ((b.length:Int) - 1)))>G)))||((ix b i) != (aI ((aI ((aI (G - (ix b (aI ((b.length:Int) - 1))))).tdiv l))+1))))))] (W0) ?_ ?_
 rcases bo (!r6) with L | L
 refine dP 45 [] bS fun ht hn=>?_
 refine iM 0 [] ?_
 refine d1 2 R (lM _ (fun w s=>(s.d 0 R)) ?_)
 refine lC 1 hM R (Zp_ok a9) R ?_
 rintro _
 refine lN W0 ?_
 refine aB (aJ (sL []) ?_)
 refine kX 3 [] ?_
 refine dR 8 R (fB (i==(aI ((b.length:Int) - 1))) R L) ?_
 refine j6 9 [] ?_
 refine dR 12 R (fB (decide (l<1)) R (oT L)) ?_
 refine j6 13 [] ?_
 refine dR 16 R (fB (decide (G<1)) R (oT (oT L))) ?_
 refine j6 17 [] ?_
 refine dR 20 R (fB (decide (G>4096)) R (oT (oT (oT L)))) ?_
 refine tl 21 [] ?_
 refine dR 28 R (fB (decide ((ix b (aI ((b.length:Int) - 1)))>G)) R (oT (oT (oT (oT L))))) ?_
 refine qg 29 [] ?_
 refine tX 33 [] ?_
 refine dR 44 R (fB ((ix b i) != (aI ((aI ((aI (G - (ix b (aI ((b.length:Int) - 1))))).tdiv l))+1))) R (oT (oT (oT (oT (oT L)))))) (dD ?_)
 exact qj tI
 rcases bo ((!r6)||(i==(aI ((b.length:Int) - 1)))) with Z | Z
 refine dP 45 [] bS fun ht hn=>?_
 refine iM 0 [] ?_
 refine d1 2 R (lM _ (fun w s=>(s.d 0 R)) ?_)
 refine lC 1 hM R (Zp_ok a9) R ?_
 rintro _
 refine lN W0 ?_
 refine aB (aJ (sL []) ?_)
 refine kX 3 [] ?_
 refine dR 8 R (fG R L R) ?_
 refine j6 9 [] ?_
 refine dR 12 R (fB (decide (l<1)) R Z) ?_
 refine j6 13 [] ?_
 refine dR 16 R (fB (decide (G<1)) R (oT Z)) ?_
 refine j6 17 [] ?_
 refine dR 20 R (fB (decide (G>4096)) R (oT (oT Z))) ?_
 refine tl 21 [] ?_
 refine dR 28 R (fB (decide ((ix b (aI ((b.length:Int) - 1)))>G)) R (oT (oT (oT Z)))) ?_
 refine vR 29 [] ?_
 refine tl 37 [] ?_
 refine dR 44 R (fB ((ix b i) != (aI ((aI ((aI (G - (ix b (aI ((b.length:Int) - 1))))).tdiv l))+1))) R (oT (oT (oT (oT Z))))) (dD ?_)
 exact qj tI
 rcases bo (((!r6)||(i==(aI ((b.length:Int) - 1))))||(decide (l<1))) with a3 | a3
 refine dP 45 [] bS fun ht hn=>?_
 refine iM 0 [] ?_
 refine d1 2 R (lM _ (fun w s=>(s.d 0 R)) ?_)
 refine lC 1 hM R (Zp_ok a9) R ?_
 rintro _
 refine lN W0 ?_
 refine aB (aJ (sL []) ?_)
 refine kX 3 [] ?_
 refine dR 8 R (fG R L R) ?_
 refine j6 9 [] ?_
 refine dR 12 R (fG R Z R) ?_
 refine j6 13 [] ?_
 refine dR 16 R (fB (decide (G<1)) R a3) ?_
 refine j6 17 [] ?_
 refine dR 20 R (fB (decide (G>4096)) R (oT a3)) ?_
 refine tl 21 [] ?_
 refine dR 28 R (fB (decide ((ix b (aI ((b.length:Int) - 1)))>G)) R (oT (oT a3))) ?_
 refine tX 29 [] ?_
 refine qg 40 [] ?_
 refine dR 44 R (fB ((ix b i) != (aI ((aI ((aI (G - (ix b (aI ((b.length:Int) - 1))))).tdiv l))+1))) R (oT (oT (oT a3)))) (dD ?_)
 exact qj tI
 rcases bo ((((!r6)||(i==(aI ((b.length:Int) - 1))))||(decide (l<1)))||(decide (G<1))) with a4 | a4
 refine dP 45 [] bS fun ht hn=>?_
 refine iM 0 [] ?_
 refine d1 2 R (lM _ (fun w s=>(s.d 0 R)) ?_)
 refine lC 1 hM R (Zp_ok a9) R ?_
 rintro _
 refine lN W0 ?_
 refine aB (aJ (sL []) ?_)
 refine kX 3 [] ?_
 refine dR 8 R (fG R L R) ?_
 refine j6 9 [] ?_
 refine dR 12 R (fG R Z R) ?_
 refine j6 13 [] ?_
 refine dR 16 R (fG R a3 R) ?_
 refine j6 17 [] ?_
 refine dR 20 R (fB (decide (G>4096)) R a4) ?_
 refine tl 21 [] ?_
 refine dR 28 R (fB (decide ((ix b (aI ((b.length:Int) - 1)))>G)) R (oT a4)) ?_
 refine vU 29 [] ?_
 refine pC 43 [] ?_
 refine dR 44 R (fB ((ix b i) != (aI ((aI ((aI (G - (ix b (aI ((b.length:Int) - 1))))).tdiv l))+1))) R (oT (oT a4))) (dD ?_)
 exact qj tI
 rcases bo (((((!r6)||(i==(aI ((b.length:Int) - 1))))||(decide (l<1)))||(decide (G<1)))||(decide (G>4096))) with E | E
 refine dP 45 [] bS fun ht hn=>?_
 refine iM 0 [] ?_
 refine d1 2 R (lM _ (fun w s=>(s.d 0 R)) ?_)
 refine lC 1 hM R (Zp_ok a9) R ?_
 rintro _
 refine lN W0 ?_
 refine aB (aJ (sL []) ?_)
 refine kX 3 [] ?_
 refine dR 8 R (fG R L R) ?_
 refine j6 9 [] ?_
 refine dR 12 R (fG R Z R) ?_
 refine j6 13 [] ?_
 refine dR 16 R (fG R a3 R) ?_
 refine j6 17 [] ?_
 refine dR 20 R (fG R a4 R) ?_
 refine tl 21 [] ?_
 refine dR 28 R (fB (decide ((ix b (aI ((b.length:Int) - 1)))>G)) R E) ?_
 refine ym 29 [] ?_
 refine dR 44 R (fB ((ix b i) != (aI ((aI ((aI (G - (ix b (aI ((b.length:Int) - 1))))).tdiv l))+1))) R (oT E)) (dD ?_)
 exact qj tI
 rcases bo ((((((!r6)||(i==(aI ((b.length:Int) - 1))))||(decide (l<1)))||(decide (G<1)))||(decide (G>4096)))||(decide ((ix b (aI ((b.length:Int) - 1)))>G))) with M | M
 refine bC 0 aA (show 0<b.length by have:=(aa E); omega) (fun g9 o10 ha=>?_)
 subst ha
 refine dP 45 [] bS fun ht hn=>?_
 refine iM 0 [] ?_
 refine d1 2 R (lM _ (fun w s=>(s.d 0 R)) ?_)
 refine lC 1 hM R (Zp_ok a9) R ?_
 rintro _
 refine lN W0 ?_
 refine aB (aJ (sL []) ?_)
 refine kX 3 [] ?_
 refine dR 8 R (fG R L R) ?_
 refine j6 9 [] ?_
 refine dR 12 R (fG R Z R) ?_
 refine j6 13 [] ?_
 refine dR 16 R (fG R a3 R) ?_
 refine j6 17 [] ?_
 refine dR 20 R (fG R a4 R) ?_
 refine j6 21 [] ?_
 refine dW 24 R (bW E) (dV bH cO R R (aa E)) (dW 25 R (bW E) (fQ 0 fC aA R (aa E)) ?_)
 refine iM 26 [] ?_
 refine dR 28 R (fG R E R) ?_
 refine ym 29 [] ?_
 refine dR 44 R (fB ((ix b i) != (aI ((aI ((aI (G - (ix b (aI ((b.length:Int) - 1))))).tdiv l))+1))) R M) (dD ?_)
 exact qj tI
 refine bC 0 aA (show 0<b.length by have:=(aa E); omega) (fun g9 o10 ha=>?_)
 subst ha
 refine dP 45 [] bS fun ht hn=>?_
 refine iM 0 [] ?_
 refine d1 2 R (lM _ (fun w s=>(s.d 0 R)) ?_)
 refine lC 1 hM R (Zp_ok a9) R ?_
 rintro _
 refine lN W0 ?_
 refine aB (aJ (sL []) ?_)
 refine kX 3 [] ?_
 refine dR 8 R (fG R L R) ?_
 refine j6 9 [] ?_
 refine dR 12 R (fG R Z R) ?_
 refine j6 13 [] ?_
 refine dR 16 R (fG R a3 R) ?_
 refine j6 17 [] ?_
 refine dR 20 R (fG R a4 R) ?_
 refine j6 21 [] ?_
 refine dW 24 R (bW E) (dV bH cO R R (aa E)) (dW 25 R (bW E) (fQ 0 fC aA R (aa E)) ?_)
 refine iM 26 [] ?_
 refine dR 28 R (fG R E R) ?_
 refine j6 29 [] ?_
 refine dW 32 R (bW M) (dV bH cO R R (ao M)) (dW 33 R (bW M) (fQ 0 fC aA R (ao M)) ?_)
 refine j6 34 [] ?_
 refine dW 37 R (bW M) (dV bH cO R R (ap M)) (dW 38 R (bW M) (fQ 0 fC aA R (ap M)) ?_)
 refine iM 39 [] ?_
 refine dW 41 R (bW M) (vz (iv (aI ((aI (G - (ix b (aI ((b.length:Int) - 1))))).tdiv l))) (na R R (bc M))) ?_
 refine iM 42 [] ?_
 refine dR 44 R (fG R M R) (dD ?_)
 exact qj tI
 rintro σ1
 refine cP ?_
 split at q
 refine dJ ?_
 cases q
 exact iS ((none,0,0),(none,0,0)) (fun w s=>(((s.nilr kT3).nilo kT179 179).e 3 [1,0]))
 refine bL ?_
 obtain ⟨J,bf,q⟩:=bd q
 obtain ⟨ab,q⟩:=gd q
 refine bL ?_
 refine lM _ (fun w s=>(s.d 0 R)) ?_
 refine lC 1 rS R (Z1u_ok bf) R ?_
 rintro ⟨c7,cb,c9⟩
 refine aM 0 aD ?_
 rintro rfl
 refine lI R (ji (fun w s=>s.shr 0 R) (gP (K:=kT3) (0:Int) (aI ((b.length:Int) - 1)) 0 R R bH cO R R R R ab.1 ab.2.1 ab.2.2 (fun T U=>(lS R (aB (aE (aH (aH ?_))))))))
 obtain ⟨cf,bg,q⟩:=bd q
 refine aZ ?_
 refine lM _ (fun w s=>(s.d 0 R)) ?_
 refine lC 1 jK R (Zf_ok bg) R ?_
 rintro _
 refine aV ?_
 split at q
 refine dJ ?_
 cases q
 exact iS ((none,0,0),(none,0,0)) (fun w s=>(((s.nilr kT3).nilo kT179 179).e 5 [1,0]))
 refine bL ?_
 refine bB (A:=(Int)×(Unit)) (fun a=>Z4_J1 b i G J a.1=some r) (fun a=>[(0,(sc A2 b D2)),(1,(iv i)),(2,(iv a.1)),(3,(iv G)),(11,(iv (aI ((b.length:Int) - 1)))),(12,(sc T (sub J (0:Int) (aI ((b.length:Int) - 1))) U))]) (fun a=>RR kT3 T U (sub J (0:Int) (aI ((b.length:Int) - 1)))::W0) ?_ ?_
 refine cP ?_
 obtain ⟨be,q⟩:=gd q
 refine aV ?_
 refine bE 2 aA (show 0<b.length by have:=be; omega) (fun cc o31 ha=>?_)
 subst ha
 refine cV ?_
 split at q
 refine bL ?_
 exact qI ((0:Int),()) q (tE 2 [0])
 refine aZ ?_
 exact qI (l,()) q (tE 2 [0])
 rintro ⟨u,_⟩ σ1 q
 dsimp only [Z4_J1] at q
 refine cP ?_
 obtain ⟨ac,q⟩:=gd q
 obtain ⟨j,bh,q⟩:=bd q
 refine aV ?_
 refine gP (K:=kT3) (0:Int) (aI ((b.length:Int) - 1)) 1 R R bH cO R R R R ac.1 ac.2.1 ac.2.2 (fun c8 ca=>(lI R (lM _ (fun w s=>(s.d 0 R)) ?_)))
 refine lC 1 xA R (Z2c_ok bh) R ?_
 rintro _
 refine lO (vT R) ?_
 refine dJ ?_
 refine bO (K:=kT179) (xs:=([]:List pair)) (vs:=[]) 0 R R fT fU fF R R R R R R ?_ R (fun bl bm=>?_)
 exact fun I h s=>(jI).list [] I h s
 refine bL ?_
 refine bB (A:=((List pair))×(HH)) (fun a=>Z4_J16 b J a.1=some r) (fun a=>[(12,(sc T (sub J (0:Int) (aI ((b.length:Int) - 1))) U)),(16,(s3 a.2))]) (fun a=>RR kT3 T U (sub J (0:Int) (aI ((b.length:Int) - 1)))::ow kT179 179 (s3 a.2) a.1::W0) ?_ ?_
 refine cB ?_
 obtain ⟨e1,bz,bs⟩:=bd q
 refine bD (A:=HH) bz (fun s a=>[(0,(sc A2 b D2)),(2,(iv u)),(3,(iv G)),(11,(iv (aI ((b.length:Int) - 1)))),(12,(sc T (sub J (0:Int) (aI ((b.length:Int) - 1))) U)),(13,(iv j.1)),(14,(iv j.2.1)),(15,(iv j.2.2)),(16,(s3 a)),(17,(iv s.2))]) (fun s a=>RR kT3 T U (sub J (0:Int) (aI ((b.length:Int) - 1)))::ow kT179 179 (s3 a) s.1::W0) (bl,([]:List pair).length,bm) (aS R) (tE 3 [2,0]) ?_
 rintro ⟨a0,B⟩ ⟨ae,b4,ak⟩ σ1 bi q bn
 dsimp only [Z4_L1] at q
 refine bK 1 aD (fun (hn:b4=a0.length)=>?_)
 subst hn
 refine dN ?_
 split at q
 refine bL ?_
 refine bB (A:=((List pair))×(HH)) (fun a=>Z4_J15 B a.1=some bi) (fun a=>[(0,(sc A2 b D2)),(2,(iv u)),(3,(iv G)),(11,(iv (aI ((b.length:Int) - 1)))),(12,(sc T (sub J (0:Int) (aI ((b.length:Int) - 1))) U)),(13,(iv j.1)),(14,(iv j.2.1)),(15,(iv j.2.2)),(16,(s3 a.2)),(17,(iv B))]) (fun a=>RR kT3 T U (sub J (0:Int) (aI ((b.length:Int) - 1)))::ow kT179 179 (s3 a.2) a.1::W0) ?_ ?_
 refine eD ?_
 obtain ⟨e2,c0,bu⟩:=bd q
 refine bD (A:=HH) c0 (fun s a=>[(0,(sc A2 b D2)),(2,(iv u)),(3,(iv G)),(11,(iv (aI ((b.length:Int) - 1)))),(12,(sc T (sub J (0:Int) (aI ((b.length:Int) - 1))) U)),(13,(iv j.1)),(14,(iv j.2.1)),(15,(iv j.2.2)),(16,(s3 a)),(17,(iv B)),(18,(iv s.2))]) (fun s a=>RR kT3 T U (sub J (0:Int) (aI ((b.length:Int) - 1)))::ow kT179 179 (s3 a) s.1::W0) (ae,a0.length,ak) (aS R) tI ?_
 rintro ⟨a1,D⟩ ⟨ag,b5,al⟩ σ1 bj q bp
 dsimp only [Z4_L2] at q
 refine bK 1 aD (fun (hn:b5=a1.length)=>?_)
 subst hn
 refine dN ?_
 split at q
 refine bL ?_
 refine bB (A:=((List pair))×(HH)) (fun a=>Z4_J14 D a.1=some bj) (fun a=>[(0,(sc A2 b D2)),(2,(iv u)),(3,(iv G)),(11,(iv (aI ((b.length:Int) - 1)))),(12,(sc T (sub J (0:Int) (aI ((b.length:Int) - 1))) U)),(13,(iv j.1)),(14,(iv j.2.1)),(15,(iv j.2.2)),(16,(s3 a.2)),(17,(iv B)),(18,(iv D))]) (fun a=>RR kT3 T U (sub J (0:Int) (aI ((b.length:Int) - 1)))::ow kT179 179 (s3 a.2) a.1::W0) ?_ ?_
 refine eD ?_
 obtain ⟨e3,c1,bv⟩:=bd q
 refine bD (A:=HH) c1 (fun s a=>[(0,(sc A2 b D2)),(2,(iv u)),(3,(iv G)),(11,(iv (aI ((b.length:Int) - 1)))),(12,(sc T (sub J (0:Int) (aI ((b.length:Int) - 1))) U)),(13,(iv j.1)),(14,(iv j.2.1)),(15,(iv j.2.2)),(16,(s3 a)),(17,(iv B)),(18,(iv D)),(19,(iv s.2))]) (fun s a=>RR kT3 T U (sub J (0:Int) (aI ((b.length:Int) - 1)))::ow kT179 179 (s3 a) s.1::W0) (ag,a1.length,al) (aS R) tI ?_
 rintro ⟨a2,F⟩ ⟨ai,b6,am⟩ σ1 bk q bq
 dsimp only [Z4_L3] at q
 refine bK 1 aD (fun (hn:b6=a2.length)=>?_)
 subst hn
 refine dN ?_
 split at q
 refine bL ?_
 refine bB (A:=((List pair))×(HH)) (fun a=>Z4_J13 F a.1=some bk) (fun a=>[(0,(sc A2 b D2)),(2,(iv u)),(3,(iv G)),(11,(iv (aI ((b.length:Int) - 1)))),(12,(sc T (sub J (0:Int) (aI ((b.length:Int) - 1))) U)),(13,(iv j.1)),(14,(iv j.2.1)),(15,(iv j.2.2)),(16,(s3 a.2)),(17,(iv B)),(18,(iv D)),(19,(iv F))]) (fun a=>RR kT3 T U (sub J (0:Int) (aI ((b.length:Int) - 1)))::ow kT179 179 (s3 a.2) a.1::W0) ?_ ?_
 refine eD ?_
 obtain ⟨e4,c2,bw⟩:=bd q
 refine bD (A:=HH) c2 (fun s a=>[(0,(sc A2 b D2)),(2,(iv u)),(3,(iv G)),(11,(iv (aI ((b.length:Int) - 1)))),(12,(sc T (sub J (0:Int) (aI ((b.length:Int) - 1))) U)),(13,(iv j.1)),(14,(iv j.2.1)),(15,(iv j.2.2)),(16,(s3 a)),(17,(iv B)),(18,(iv D)),(19,(iv F)),(20,(iv s.2))]) (fun s a=>RR kT3 T U (sub J (0:Int) (aI ((b.length:Int) - 1)))::ow kT179 179 (s3 a) s.1::W0) (ai,a2.length,am) (aS R) tI ?_
 rintro ⟨O,Y⟩ ⟨au,b7,az⟩ σ1 c6 q br
 dsimp only [Z4_L4] at q
 refine bK 1 aD (fun (hn:b7=O.length)=>?_)
 subst hn
 refine aZ ?_
 obtain ⟨aq,q⟩:=gd q
 refine bL ?_
 refine bE 2 aA (show 0<b.length by have:=aq; omega) (fun c5 o260 ha=>?_)
 subst ha
 refine cV ?_
 split at q
 refine cV ?_
 obtain ⟨ar,q⟩:=gd q
 refine yj ?_
 refine lO (vz (.agg [(iv (aI ((aI ((aI ((aI ((aI ((aI (B*j.2.1))+D))*j.2.2))+F))*(ix b (aI ((b.length:Int) - 1)))))+Y))),(iv (aI ((aI ((aI ((aI ((aI (B*G))+(aI (D*u))))+Y))*j.2.2))+F)))].toArray) (bA nr fF R R)) ?_
 refine bO (K:=kT179) (xs:=([(⟨(aI ((aI ((aI ((aI ((aI ((aI (B*j.2.1))+D))*j.2.2))+F))*(ix b (aI ((b.length:Int) - 1)))))+Y)),(aI ((aI ((aI ((aI ((aI (B*G))+(aI (D*u))))+Y))*j.2.2))+F))⟩:pair)]:List pair)) (vs:=[(.agg [(iv (aI ((aI ((aI ((aI ((aI ((aI (B*j.2.1))+D))*j.2.2))+F))*(ix b (aI ((b.length:Int) - 1)))))+Y))),(iv (aI ((aI ((aI ((aI ((aI (B*G))+(aI (D*u))))+Y))*j.2.2))+F)))].toArray)]) 0 R R fT fU fF R R R R R R ?_ R (fun c3 c4=>?_)
 exact fun I h s=>(jI).list [(((),()),(⟨(aI ((aI ((aI ((aI ((aI ((aI (B*j.2.1))+D))*j.2.2))+F))*(ix b (aI ((b.length:Int) - 1)))))+Y)),(aI ((aI ((aI ((aI ((aI (B*G))+(aI (D*u))))+Y))*j.2.2))+F))⟩:pair))] I h s
 refine lM _ (tE 3 [2,0,1]) ?_
 refine eU (K:=kT179) 8796093022208 R R fT fU mu (Zr.zk zT179 fF) R R R R R R eB ar (fun aj an=>(lN (OO kT179 179 aj an (O++([(⟨(aI ((aI ((aI ((aI ((aI ((aI (B*j.2.1))+D))*j.2.2))+F))*(ix b (aI ((b.length:Int) - 1)))))+Y)),(aI ((aI ((aI ((aI ((aI (B*G))+(aI (D*u))))+Y))*j.2.2))+F))⟩:pair)]:List pair))::_::W0) ?_))
 refine dG ?_
 cases q
 exact qA (aj,(O++([(⟨(aI ((aI ((aI ((aI ((aI ((aI (B*j.2.1))+D))*j.2.2))+F))*(ix b (aI ((b.length:Int) - 1)))))+Y)),(aI ((aI ((aI ((aI ((aI (B*G))+(aI (D*u))))+Y))*j.2.2))+F))⟩:pair)]:List pair)).length,an) (tE 2 [1,0])
 refine aV ?_
 cases q
 obtain rfl:=br _ R
 have q:=bw
 refine aV ?_
 exact qI (O,(au,O.length,az)) q tI
 rintro ⟨a5,⟨av,b8,b0⟩⟩ σ1 q
 dsimp only [Z4_J13] at q
 refine bK 1 aD (fun (hn:b8=a5.length)=>?_)
 subst hn
 refine cV ?_
 cases q
 exact qA (av,a5.length,b0) tI
 refine aV ?_
 cases q
 obtain rfl:=bq _ R
 have q:=bv
 refine aV ?_
 exact qI (a2,(ai,a2.length,am)) q tI
 rintro ⟨a6,⟨aw,b9,b1⟩⟩ σ1 q
 dsimp only [Z4_J14] at q
 refine bK 1 aD (fun (hn:b9=a6.length)=>?_)
 subst hn
 refine cV ?_
 cases q
 exact qA (aw,a6.length,b1) tI
 refine aV ?_
 cases q
 obtain rfl:=bp _ R
 have q:=bu
 refine aV ?_
 exact qI (a1,(ag,a1.length,al)) q tI
 rintro ⟨a7,⟨ax,ba,b2⟩⟩ σ1 q
 dsimp only [Z4_J15] at q
 refine bK 1 aD (fun (hn:ba=a7.length)=>?_)
 subst hn
 refine cV ?_
 cases q
 exact qA (ax,a7.length,b2) tI
 refine aV ?_
 cases q
 obtain rfl:=bn _ R
 have q:=bs
 refine aZ ?_
 exact qI (a0,(ae,a0.length,ak)) q tI
 rintro ⟨a8,⟨ay,bb,b3⟩⟩ σ1 q
 dsimp only [Z4_J16] at q
 refine bK 1 aD (fun (hn:bb=a8.length)=>?_)
 subst hn
 refine dJ ?_
 cases q
 exact iS ((T,(sub J (0:Int) (aI ((b.length:Int) - 1))).length,U),(ay,a8.length,b3)) (tE 3 [0,1])
theorem Z2b_ok  {p1:(List Int)}{a:(List Int)}{r:(List Int)×(List pair)×Bool}(b:Z2b p1 a=some r) :
 FnOk Tryz.prog 113 [(.slice A2 N2 D2),(.slice A4 N4 D4)] [aO kT3 (.slice A2 N2 D2) p1,aO kT3 (.slice A4 N4 D4) a] (fun (h:HH×HH)=>((.tuple [(s3 h.1),(s3 h.2),(.bool r.2.2)].toArray),[aO kT3 (s3 h.1) r.1,ow kT179 179 (s3 h.2) r.2.1])):=by
 unfold Z2b at b
 refine aR Tryz.func113 R 21 R R fun C V=>?_
 refine cL 0 aA ?_
 rintro rfl
 refine cL 1 aA ?_
 rintro rfl
 let B:=RR kT3 A2 D2 p1::RR kT3 A4 D4 a::V
 refine cN B ?_
 refine dN ?_
 obtain ⟨q,b⟩:=gd b
 obtain ⟨_,b⟩:=gd b
 obtain ⟨_,b⟩:=gd b
 obtain ⟨i,e,b⟩:=bd b
 refine bC 0 aA (show 0<p1.length by have:=q; omega) (fun E o7 D=>?_)
 subst D
 refine dP 17 [] bS fun G F=>?_
 refine pD 0 [] ?_
 refine d1 10 R (lM _ (fun w s=>(s.d 1 R)) ?_)
 refine lC 1 BF R (Z4_ok e) R ?_
 rintro ⟨⟨A12,N12,D12⟩,⟨j,u,l⟩⟩
 refine aM 0 aA ?_
 rintro rfl
 refine aM 1 aD ?_
 rintro rfl
 refine aB (aJ (sL [1,0]) ?_)
 refine tW 11 [1,0] ?_
 refine dD ?_
 refine aZ ?_
 cases b
 exact iS ((A12,i.1.length,D12),(j,i.2.1.length,l)) (tE 4 [0,1])
theorem Z32_ok  {a:Node}{b:(List Int)}{u:Int}{j:Int}{G:Nat}{l:Nat}{i:Nat}{r:(List Int)×(List pair)×Bool}(q:Z32 a b u j=some r) :
 FnOk Tryz.prog 146 [(.agg [(iv a.Op),(.slice A2 N2 D2),(.slice A3 N3 D3),(.slice A4 N4 D4),(aG a.Form),(.slice A5 N5 D5)].toArray),(.slice A7 N7 D7),(pt G 0),(pt l 0),(pt i 0)] [aO kT3 (.slice A2 N2 D2) a.Args,aO kT3 (.slice A3 N3 D3) a.Dims,aO kT3 (.slice A4 N4 D4) a.Ints,aO kT3 (.slice A5 N5 D5) a.Data,aO kT3 (.slice A7 N7 D7) b,aK G [(iv u)] 3,aK l [(iv j)] 3,aK i [(.func (.func 113) [].toArray [].toArray)] 151] (fun (h:HH×HH)=>((.tuple [(s3 h.1),(s3 h.2),(.bool r.2.2)].toArray),[aO kT3 (s3 h.1) r.1,ow kT179 179 (s3 h.2) r.2.1,aK G [(iv u)] 3,aK l [(iv j)] 3,aK i [(.func (.func 113) [].toArray [].toArray)] 151])):=by
 unfold Z32 at q
 refine aR Tryz.func146 R 30 R R fun C V=>?_
 refine cM _ (fun w s=>(s.f 8 [5,3,0,5])) ?_
 refine cL 3 aA ?_
 rintro rfl
 refine cL 4 aA ?_
 rintro rfl
 refine cL 5 aA ?_
 rintro rfl
 refine cL 6 aA ?_
 rintro rfl
 refine cL 7 aA ?_
 rintro rfl
 let Y:=RR kT3 A2 D2 a.Args::RR kT3 A3 D3 a.Dims::RR kT3 A4 D4 a.Ints::RR kT3 A5 D5 a.Data::RR kT3 A7 D7 b::V
 refine aZ ?_
 refine eT R fun B=>?_
 refine bL ?_
 let O:=aK B [(iv a.Op),(sc A2 a.Args D2),(sc A3 a.Dims D3),(sc A4 a.Ints D4),(aG a.Form),(sc A5 a.Data D5)] 42::aK G [(iv u)] 3::aK l [(iv j)] 3::aK i [(.func (.func 113) [].toArray [].toArray)] 151::Y
 refine qN O ?_
 refine aV ?_
 refine cQ [(1,(sc A7 b D7)),(4,(pt i 0)),(5,(pt B 0)),(21,(.bool ((decide ((a.Ints.length:Int)<u))||(decide ((a.Ints.length:Int)>j)))))] (O) ?_ ?_
 refine eD ?_
 rcases bo (decide ((a.Ints.length:Int)<u)) with D | D
 refine eD ?_
 exact qj tI
 refine eD ?_
 exact qj tI
 rintro σ1
 refine cP ?_
 split at q
 refine dJ ?_
 cases q
 exact iS ((none,0,0),(none,0,0)) (fun w s=>(((s.nilr kT3).nilo kT179 179).e 11 [1,0,3,4,5]))
 refine bL ?_
 obtain ⟨F,E,q⟩:=bd q
 refine cV ?_
 refine lM _ (fun w s=>(((s.d 6 R).d 9 R).e 2 [1,0])) ?_
 refine cU (fs:=[]) (cs:=[]) 2 R R BG R R (Z2b_ok E) R ?_
 rintro ⟨⟨I,T,L⟩,⟨J,U,M⟩⟩
 refine aM 0 aA ?_
 rintro rfl
 refine aM 1 aD ?_
 rintro rfl
 refine dG ?_
 cases q
 exact iS ((I,F.1.length,L),(J,F.2.1.length,M)) (fun w s=>(s.f 11 [0,2,3,3]))
theorem Z20_ok  {k1:shiftKind}{I:Int}{J:Int}{b:Node}{a:(List (List Int))}{l:Nat}{q:Nat}{u:Nat}{r:(List Int)×Bool}(j:Z20 k1 I J b a=some r) :
 FnOk Tryz.prog 225 [(.agg [(aG k1.use),(.func (.func 146) [].toArray [(pt l 0),(pt q 0),(pt u 0)].toArray)].toArray),(.agg [(iv b.Op),(.slice A9 N9 D9),(.slice A10 N10 D10),(.slice A11 N11 D11),(aG b.Form),(.slice A12 N12 D12)].toArray),(.slice A14 N14 D14)] [aK l [(iv I)] 3,aK q [(iv J)] 3,aK u [(.func (.func 113) [].toArray [].toArray)] 151,aO kT3 (.slice A9 N9 D9) b.Args,aO kT3 (.slice A10 N10 D10) b.Dims,aO kT3 (.slice A11 N11 D11) b.Ints,aO kT3 (.slice A12 N12 D12) b.Data,aO bF (.slice A14 N14 D14) a] (fun (h:HH)=>((.tuple [(s3 h),(.bool r.2)].toArray),[aO kT3 (s3 h) r.1,aK l [(iv I)] 3,aK q [(iv J)] 3,aK u [(.func (.func 113) [].toArray [].toArray)] 151])):=by
 unfold Z20 at j
 refine aR Tryz.func225 R 27 R R fun C V=>?_
 refine cL 3 aA ?_
 rintro rfl
 refine cL 4 aA ?_
 rintro rfl
 refine cL 5 aA ?_
 rintro rfl
 refine cL 6 aA ?_
 rintro rfl
 refine cL 7 aA ?_
 rintro rfl
 let W0:=RR kT3 A9 D9 b.Args::RR kT3 A10 D10 b.Dims::RR kT3 A11 D11 b.Ints::RR kT3 A12 D12 b.Data::RR bF A14 D14 a::V
 refine aZ ?_
 refine eT R fun F=>?_
 refine eT R fun G=>?_
 refine aV ?_
 refine qM _ (fun w s=>(s.f 5 [2,3,0,2])) ?_
 let W1:=aK G [(iv b.Op),(sc A9 b.Args D9),(sc A10 b.Dims D10),(sc A11 b.Ints D11),(aG b.Form),(sc A12 b.Data D12)] 42::aK F [(aG k1.use),(.func (.func 146) [].toArray [(pt l 0),(pt q 0),(pt u 0)].toArray)] 146::W0
 refine dG ?_
 split at j
 refine dG ?_
 cases j
 exact kb (none,0,0) (fun w s=>((s.nilr kT3).f 11 [0,4]))
 refine bL ?_
 obtain ⟨i,j⟩:=gd j
 obtain ⟨L,B,j⟩:=bd j
 refine bC 9 aA (show 0<a.length by have:=i; omega) (fun a0 o20 ha=>?_)
 subst ha
 refine dU (K:=bF) 9 (0:Int) dT23.dec R i.1 i.2 ?_
 rintro ⟨M,T⟩
 refine dP 14 [] bS fun ht hn=>?_
 refine kX 0 [] ?_
 refine dR 5 R (eZ (fo:=0) 0 cH R R R) (d1 6 R (lM _ (fun w s=>((((((s.d 7 R).d 9 R).d 11 R).d 13 R).d 5 R).e 10 [4,3,2,1,0,7,8,9,5,6])) ?_))
 refine cU (fs:=[]) (cs:=[(pt l 0),(pt q 0),(pt u 0)]) 8 R R rV R R (Z32_ok B) R ?_
 rintro ⟨⟨D,Y,E⟩,⟨O,Z,U⟩⟩
 refine aM 0 aA ?_
 rintro rfl
 refine aM 1 aD ?_
 rintro rfl
 refine aB (aJ (fun w s=>(s.f 7 [5,2,2,3])) (dR 7 R (vT R) (hS:=(fun w s=>(s.f 7 [5,2,2,3]))) (dR 8 R (vS R) (hS:=(fun w s=>(s.f 7 [5,2,2,3]))) (dR 9 R (vS R) (hS:=(fun w s=>(s.f 7 [5,2,2,3]))) (dR 10 R (vB R) (hS:=(fun w s=>(s.f 7 [5,2,2,3]))) (dR 11 R (vS R) (hS:=(fun w s=>(s.f 7 [5,2,2,3]))) (dR 12 R (vS R) (hS:=(fun w s=>(s.f 7 [5,2,2,3]))) (dR 13 R (vB R) (hS:=(fun w s=>(s.f 7 [5,2,2,3]))) (dD ?_)))))))))
 refine dJ ?_
 cases j
 exact kb (D,L.1.length,E) (tE 14 [0,2,3,4])
theorem ma  {r:kindOfR}{a:Node}{D:(List (List Int))}{i h1 h2:Nat}{l A2 A3 A4 A5:Option Addr}{B u N2 D2 N3 D3 N4 D4 N5 D5:Nat}{mG:Int}{q:(List Int)×Bool}(b:bT r a D=some q) :
 InvOk Tryz.prog (dM r (i,h1,h2)) "loop.example/g00033/impl.shape" [(.agg [(iv a.Op),(.slice l B u),(.slice A2 N2 D2),(.slice A3 N3 D3),(aG a.Form),(.slice A4 N4 D4)].toArray),(.slice A5 N5 D5)] [fL r (i,h1,h2),aO kT3 (.slice l B u) a.Args,aO kT3 (.slice A2 N2 D2) a.Dims,aO kT3 (.slice A3 N3 D3) a.Ints,aO kT3 (.slice A4 N4 D4) a.Data,aO bF (.slice A5 N5 D5) D,gG mG] (fun (h:HH)=>((.tuple [(s3 h),(.bool q.2)].toArray),[aO kT3 (s3 h) q.1,fL r (i,h1,h2)])):=by
 unfold bT at b
 rcases cF b with ⟨e0,b⟩|⟨e0,b⟩
 ·cases b
 rcases cF b with ⟨I,b⟩|⟨I,b⟩
 ·obtain ⟨t,E,i0,j,G⟩:=r
  obtain rfl:=Nat.eq_of_beq_eq_true I
  exact InvOk.mk (pK _) (((Z1t_ok b).perm (Pre':=[pk [],aO kT3 (.slice l B u) a.Args,aO kT3 (.slice A2 N2 D2) a.Dims,aO kT3 (.slice A3 N3 D3) a.Ints,aO kT3 (.slice A4 N4 D4) a.Data,aO bF (.slice A5 N5 D5) D,gG mG]) (fun _ _ _ s=>(St.unpack (A:=[]) s).e 6 [0,1,2,3,4])).post id (fun _=>rfl) (fun _ _ _ _ s=>(St.pack (A:=[]) (s)).e 2 [1,0]))
 rcases cF b with ⟨J,b⟩|⟨J,b⟩
 ·obtain ⟨t,E,i0,j,G⟩:=r
  obtain rfl:=Nat.eq_of_beq_eq_true J
  exact InvOk.mk (pL _) (((Z2d_ok b).perm (Pre':=[pk [],aO kT3 (.slice l B u) a.Args,aO kT3 (.slice A2 N2 D2) a.Dims,aO kT3 (.slice A3 N3 D3) a.Ints,aO kT3 (.slice A4 N4 D4) a.Data,aO bF (.slice A5 N5 D5) D,gG mG]) (fun _ _ _ s=>(St.unpack (A:=[]) s).e 6 [0,1,2,3,4])).post id (fun _=>rfl) (fun _ _ _ _ s=>(St.pack (A:=[]) (s)).e 2 [1,0]))
 rcases cF b with ⟨L,b⟩|⟨L,b⟩
 ·obtain ⟨t,E,i0,j,G⟩:=r
  obtain rfl:=Nat.eq_of_beq_eq_true L
  exact InvOk.mk (pM _) (((Z35_ok b).perm (Pre':=[pk [],aO kT3 (.slice l B u) a.Args,aO kT3 (.slice A2 N2 D2) a.Dims,aO kT3 (.slice A3 N3 D3) a.Ints,aO kT3 (.slice A4 N4 D4) a.Data,aO bF (.slice A5 N5 D5) D,gG mG]) (fun _ _ _ s=>(St.unpack (A:=[]) s).e 6 [0,1,2,3,4])).post id (fun _=>rfl) (fun _ _ _ _ s=>(St.pack (A:=[]) (s)).e 2 [1,0]))
 rcases cF b with ⟨M,b⟩|⟨M,b⟩
 ·obtain ⟨t,E,i0,j,G⟩:=r
  obtain rfl:=Nat.eq_of_beq_eq_true M
  exact InvOk.mk (pN _) (((Z25_ok (k1:=⟨⟩) b).perm (Pre':=[pk [],aO kT3 (.slice l B u) a.Args,aO kT3 (.slice A2 N2 D2) a.Dims,aO kT3 (.slice A3 N3 D3) a.Ints,aO kT3 (.slice A4 N4 D4) a.Data,aO bF (.slice A5 N5 D5) D,gG mG]) (fun _ _ _ s=>(St.unpack (A:=[]) s).e 6 [0,1,2,3,4])).post id (fun _=>rfl) (fun _ _ _ _ s=>(St.pack (A:=[]) (s)).e 2 [1,0]))
 rcases cF b with ⟨O,b⟩|⟨O,b⟩
 ·obtain ⟨t,E,i0,j,G⟩:=r
  obtain rfl:=Nat.eq_of_beq_eq_true O
  exact InvOk.mk (pO _) (((Z34_ok (k1:=⟨⟩) b).perm (Pre':=[pk [],aO kT3 (.slice l B u) a.Args,aO kT3 (.slice A2 N2 D2) a.Dims,aO kT3 (.slice A3 N3 D3) a.Ints,aO kT3 (.slice A4 N4 D4) a.Data,aO bF (.slice A5 N5 D5) D,gG mG]) (fun _ _ _ s=>St.unpack (A:=[]) s)).post id (fun _=>rfl) (fun _ _ _ _ s=>(St.pack (A:=[]) ((s).shr 0 R)).e 2 [1,0]))
 rcases cF b with ⟨T,b⟩|⟨T,b⟩
 ·obtain ⟨t,E,i0,j,G⟩:=r
  obtain rfl:=Nat.eq_of_beq_eq_true T
  exact InvOk.mk (gQ _) (((Z21_ok b).perm (Pre':=[pk [],aO kT3 (.slice l B u) a.Args,aO kT3 (.slice A2 N2 D2) a.Dims,aO kT3 (.slice A3 N3 D3) a.Ints,aO kT3 (.slice A4 N4 D4) a.Data,aO bF (.slice A5 N5 D5) D,gG mG]) (fun _ _ _ s=>(St.unpack (A:=[]) s).e 6 [0,1,2,3,4])).post id (fun _=>rfl) (fun _ _ _ _ s=>(St.pack (A:=[]) (s)).e 2 [1,0]))
 rcases cF b with ⟨U,b⟩|⟨U,b⟩
 ·obtain ⟨t,E,i0,j,G⟩:=r
  obtain rfl:=Nat.eq_of_beq_eq_true U
  exact InvOk.mk (gQ _) (((Z2e_ok b).perm (Pre':=[pk [],aO kT3 (.slice l B u) a.Args,aO kT3 (.slice A2 N2 D2) a.Dims,aO kT3 (.slice A3 N3 D3) a.Ints,aO kT3 (.slice A4 N4 D4) a.Data,aO bF (.slice A5 N5 D5) D,gG mG]) (fun _ _ _ s=>(St.unpack (A:=[]) s).e 6 [0,1,2,3,4])).post id (fun _=>rfl) (fun _ _ _ _ s=>(St.pack (A:=[]) (s)).e 2 [1,0]))
 rcases cF b with ⟨Y,b⟩|⟨Y,b⟩
 ·obtain ⟨t,E,i0,j,G⟩:=r
  obtain rfl:=Nat.eq_of_beq_eq_true Y
  exact InvOk.mk (gQ _) (((Z1x_ok b).perm (Pre':=[pk [aK i [(iv i0)] 3,aK h1 [(iv j)] 3,aK h2 [(.func (.func 107) [].toArray [].toArray)] 151],aO kT3 (.slice l B u) a.Args,aO kT3 (.slice A2 N2 D2) a.Dims,aO kT3 (.slice A3 N3 D3) a.Ints,aO kT3 (.slice A4 N4 D4) a.Data,aO bF (.slice A5 N5 D5) D,gG mG]) (fun _ _ _ s=>(St.unpack (A:=[aK i [(iv i0)] 3,aK h1 [(iv j)] 3,aK h2 [(.func (.func 107) [].toArray [].toArray)] 151]) s).e 9 [0,1,2,3,4,5,6,7])).post id (fun _=>rfl) (fun _ _ _ _ s=>(St.pack (A:=[aK i [(iv i0)] 3,aK h1 [(iv j)] 3,aK h2 [(.func (.func 107) [].toArray [].toArray)] 151]) (((s).shr 0 R).e 4 [1,2,3,0])).e 2 [1,0]))
 rcases cF b with ⟨Z,b⟩|⟨Z,b⟩
 ·obtain ⟨t,E,i0,j,G⟩:=r
  obtain rfl:=Nat.eq_of_beq_eq_true Z
  exact InvOk.mk (gQ _) (((Z1y_ok b).perm (Pre':=[pk [aK i [(iv i0)] 3,aK h1 [(iv j)] 3,aK h2 [(.func (.func 109) [].toArray [].toArray)] 151],aO kT3 (.slice l B u) a.Args,aO kT3 (.slice A2 N2 D2) a.Dims,aO kT3 (.slice A3 N3 D3) a.Ints,aO kT3 (.slice A4 N4 D4) a.Data,aO bF (.slice A5 N5 D5) D,gG mG]) (fun _ _ _ s=>(St.unpack (A:=[aK i [(iv i0)] 3,aK h1 [(iv j)] 3,aK h2 [(.func (.func 109) [].toArray [].toArray)] 151]) s).e 9 [0,1,2,3,4,5,6,7])).post id (fun _=>rfl) (fun _ _ _ _ s=>(St.pack (A:=[aK i [(iv i0)] 3,aK h1 [(iv j)] 3,aK h2 [(.func (.func 109) [].toArray [].toArray)] 151]) (((s).shr 0 R).e 4 [1,2,3,0])).e 2 [1,0]))
 rcases cF b with ⟨F,b⟩|⟨F,b⟩
 ·obtain ⟨t,E,i0,j,G⟩:=r
  obtain rfl:=Nat.eq_of_beq_eq_true F
  exact InvOk.mk (gQ _) (((Z1z_ok b).perm (Pre':=[pk [aK i [(iv i0)] 3,aK h1 [(iv j)] 3,aK h2 [(.func (.func 111) [].toArray [].toArray)] 151],aO kT3 (.slice l B u) a.Args,aO kT3 (.slice A2 N2 D2) a.Dims,aO kT3 (.slice A3 N3 D3) a.Ints,aO kT3 (.slice A4 N4 D4) a.Data,aO bF (.slice A5 N5 D5) D,gG mG]) (fun _ _ _ s=>(St.unpack (A:=[aK i [(iv i0)] 3,aK h1 [(iv j)] 3,aK h2 [(.func (.func 111) [].toArray [].toArray)] 151]) s).e 9 [0,1,2,3,4,5,6,7])).post id (fun _=>rfl) (fun _ _ _ _ s=>(St.pack (A:=[aK i [(iv i0)] 3,aK h1 [(iv j)] 3,aK h2 [(.func (.func 111) [].toArray [].toArray)] 151]) (((s).shr 0 R).e 4 [1,2,3,0])).e 2 [1,0]))
 have hV:dM r (i,h1,h2)=(.iface 146 (.agg [(aG r.s0),(.func (.func 146) [].toArray [(pt i 0),(pt h1 0),(pt h2 0)].toArray)].toArray)):=by simp only [dM,e0,I,J,L,M,O,T,U,Y,Z,F,cond_false]
 have hE:fL r (i,h1,h2)=pk [aK i [(iv r.i0)] 3,aK h1 [(iv r.i1)] 3,aK h2 [(.func (.func 113) [].toArray [].toArray)] 151]:=by simp only [fL,e0,I,J,L,M,O,T,U,Y,Z,F,cond_false]
 rw [hV,hE]
 exact InvOk.mk (gQ _) (((Z20_ok b).perm (Pre':=[pk [aK i [(iv r.i0)] 3,aK h1 [(iv r.i1)] 3,aK h2 [(.func (.func 113) [].toArray [].toArray)] 151],aO kT3 (.slice l B u) a.Args,aO kT3 (.slice A2 N2 D2) a.Dims,aO kT3 (.slice A3 N3 D3) a.Ints,aO kT3 (.slice A4 N4 D4) a.Data,aO bF (.slice A5 N5 D5) D,gG mG]) (fun _ _ _ s=>(St.unpack (A:=[aK i [(iv r.i0)] 3,aK h1 [(iv r.i1)] 3,aK h2 [(.func (.func 113) [].toArray [].toArray)] 151]) s).e 9 [0,1,2,3,4,5,6,7])).post id (fun _=>rfl) (fun _ _ _ _ s=>(St.pack (A:=[aK i [(iv r.i0)] 3,aK h1 [(iv r.i1)] 3,aK h2 [(.func (.func 113) [].toArray [].toArray)] 151]) ((s).e 4 [1,2,3,0])).e 2 [1,0]))
theorem Zh_ok  {j:Node}{b:(List (List Int))}{mG:Int}{r:(List Int)×Bool}(q:Zh j b=some r) :
 FnOk Tryz.prog 49 [(.agg [(iv j.Op),(.slice A2 N2 D2),(.slice A3 N3 D3),(.slice A4 N4 D4),(aG j.Form),(.slice A5 N5 D5)].toArray),(.slice A7 N7 D7)] [aO kT3 (.slice A2 N2 D2) j.Args,aO kT3 (.slice A3 N3 D3) j.Dims,aO kT3 (.slice A4 N4 D4) j.Ints,aO kT3 (.slice A5 N5 D5) j.Data,ow (bF).share 23 (.slice A7 N7 D7) b,gG mG] (fun (h:HH)=>((.tuple [(s3 h),(.bool r.2)].toArray),[aO kT3 (s3 h) r.1,ow (bF).share 23 (.slice A7 N7 D7) b])):=by
 unfold Zh at q
 refine aR Tryz.func49 R 58 R R fun C V=>?_
 refine cM _ (tE 6 [4,0,1,2,3,5]) ?_
 refine cL 0 eQ ?_
 rintro rfl
 refine cL 1 aA ?_
 rintro rfl
 refine cL 2 aA ?_
 rintro rfl
 refine cL 3 aA ?_
 rintro rfl
 refine cL 4 aA ?_
 rintro rfl
 let W0:=RR kT3 A2 D2 j.Args::RR kT3 A3 D3 j.Dims::RR kT3 A4 D4 j.Ints::RR kT3 A5 D5 j.Data::gG mG::V
 refine aZ ?_
 refine eT R fun b8=>?_
 refine aV ?_
 refine qM _ (tE 2 [1,0]) ?_
 let W1:=aK b8 [(iv j.Op),(sc A2 j.Args D2),(sc A3 j.Dims D3),(sc A4 j.Ints D4),(aG j.Form),(sc A5 j.Data D5)] 42::W0
 refine aZ ?_
 obtain ⟨F,aa,q⟩:=bd q
 refine aV ?_
 refine lC 0 Dh R (Z01_ok aa) R ?_
 rintro ⟨B,D,E⟩
 refine lO (vp _ R) ?_
 refine bL ?_
 obtain ⟨az,M,q⟩:=bd q
 obtain ⟨ac,O,q⟩:=bd q
 refine cQ [(1,(sc A7 b D7)),(2,(pt b8 0)),(6,(dM F (B,D,E))),(27,(.bool (((Nat.beq F.t 0)||(!ac))||(decide ((j.Args.length:Int)>6)))))] (OO (bF).share 23 A7 D7 b::fL F (B,D,E)::W1) ?_ ?_
 rcases bo (Nat.beq F.t 0) with l | l
 refine dP 15 [] bS fun ht L=>?_
 refine dR 0 R (vp _ R) (dR 1 R (vz (.bool (Nat.beq F.t 0)) (ns R)) ?_)
 refine nQ 2 [] ?_
 refine dD ?_
 exact qj (tE 2 [1,0])
 rcases bo ((Nat.beq F.t 0)||(!ac)) with a4 | a4
 refine dP 15 [] bS fun ht L=>?_
 refine dR 0 R (vp _ R) (dR 1 R (vz (.bool (Nat.beq F.t 0)) (ns R)) ?_)
 refine iM 2 [] ?_
 refine dW 4 R (bW l) (vp _ R) (d1 5 R (tS 1 (bW l) R R (ke (bM M (cZ l))) R ?_))
 rintro _
 refine aB (aJ (sL []) (d1 6 R (lM _ (fun w s=>((((((s.d 3 R).d 5 R).d 7 R).d 9 R).dgx 11 R).e 7 [4,3,2,1,0,5,6])) ?_)))
 refine b' 5 R (bW l) B1 R (Z24_ok (bM O (cZ l))) R ?_
 rintro _
 refine aB (aJ (sL []) ?_)
 refine vR 7 [] ?_
 refine dD ?_
 exact qj (tE 2 [1,0])
 refine dP 15 [] bS fun ht L=>?_
 refine dR 0 R (vp _ R) (dR 1 R (vz (.bool (Nat.beq F.t 0)) (ns R)) ?_)
 refine iM 2 [] ?_
 refine dW 4 R (bW l) (vp _ R) (d1 5 R (tS 1 (bW l) R R (ke (bM M (cZ l))) R ?_))
 rintro _
 refine aB (aJ (sL []) (d1 6 R (lM _ (fun w s=>((((((s.d 3 R).d 5 R).d 7 R).d 9 R).dgx 11 R).e 7 [4,3,2,1,0,5,6])) ?_)))
 refine b' 5 R (bW l) B1 R (Z24_ok (bM O (cZ l))) R ?_
 rintro _
 refine aB (aJ (sL []) ?_)
 refine vR 7 [] ?_
 refine dD ?_
 exact qj (tE 2 [1,0])
 rintro σ1
 refine cP ?_
 split at q
 refine dG ?_
 cases q
 exact kb (none,0,0) (fun w s=>((s.nilr kT3).e 9 [0,1]))
 refine cV ?_
 refine bO (K:=bF) (xs:=([]:List (List Int))) (vs:=[]) 0 R R iW fK lv R R R R R R ?_ R (fun ae ai=>?_)
 exact fun I h s=>(nh).list [] I h s
 refine bL ?_
 refine bB (A:=((List (List Int)))×(HH)) (fun a=>Zh_J1 j F a.1=some r) (fun a=>[(2,(pt b8 0)),(6,(dM F (B,D,E))),(7,(s3 a.2))]) (fun a=>fL F (B,D,E)::ow (bF).share 23 (s3 a.2) a.1::OO (bF).share 23 A7 D7 b::W1) ?_ ?_
 refine dG ?_
 obtain ⟨e1,an,a9⟩:=bd q
 refine bD (A:=HH×HH) an (fun s a=>[(1,(sc A7 b D7)),(2,(pt b8 0)),(6,(dM F (B,D,E))),(7,(s3 a.1)),(30,(s3 a.2)),(31,(il j.Args)),(32,(iv s.2))]) (fun s a=>OO (bF).share 23 A7 D7 b::fL F (B,D,E)::ow (bF).share 23 (s3 a.1) s.1::aO kT3 (s3 a.2) j.Args::W1) ((ae,([]:List (List Int)).length,ai),(A2,j.Args.length,D2)) (aS R) (fun w s=>(((s.wk 0 R).d 4 R).e 4 [2,3,1,0])) ?_
 rintro ⟨i,u⟩ ⟨⟨T,ak,U⟩,⟨aq,al,Y⟩⟩ σ1 ap q a6
 dsimp only [Zh_L1] at q
 refine bK 2 eQ (fun (L:ak=i.length)=>?_)
 subst L
 refine bK 3 aA (fun (L:al=j.Args.length)=>?_)
 subst L
 refine cB ?_
 split at q
 refine cB ?_
 obtain ⟨a7,q⟩:=gd q
 refine aC (bE 3 aA (show 0<j.Args.length by have:=a7; omega) (fun Z o42 ha=>?_))
 subst ha
 refine eD ?_
 refine cQ [(1,(sc A7 b D7)),(2,(pt b8 0)),(6,(dM F (B,D,E))),(7,(sc T i U)),(9,(iv (ix j.Args u))),(30,(sc (ad Z o42) j.Args Y)),(31,(il j.Args)),(32,(iv u)),(43,(.bool ((decide ((ix j.Args u)<0))||(decide ((ix j.Args u)≥(b.length:Int))))))] (OO (bF).share 23 A7 D7 b::fL F (B,D,E)::OO (bF).share 23 T U i::RR kT3 (ad Z o42) Y j.Args::W1) ?_ ?_
 refine bL ?_
 rcases bo (decide ((ix j.Args u)<0)) with a5 | a5
 refine cB ?_
 exact qj tI
 refine cB ?_
 exact qj tI
 rintro σ1
 refine cP ?_
 split at q
 refine hG ?_
 cases q
 obtain rfl:=a6 _ R
 have q:=a9
 refine aV ?_
 cases q
 exact kb (none,0,0) (fun w s=>((s.nilr kT3).e 11 [0,1]))
 refine aV ?_
 obtain ⟨G,q⟩:=gd q
 obtain ⟨a8,q⟩:=gd q
 refine bL ?_
 refine bE 0 eQ (show 0<b.length by have:=G; omega) (fun ay o47 ha=>?_)
 subst ha
 refine cP ?_
 refine tK (K:=(bF).share) (fo:=0) 0 (ix j.Args u) R R cH dT23.own (fun _ _=>R) R R G.1 G.2 ?_
 rintro ⟨a0,a2⟩
 refine lM _ (fun w s=>(s.d 0 R)) ?_
 refine bO (K:=(bF).share) (xs:=([(ix b (ix j.Args u))]:List (List Int))) (vs:=[(sc a0 (ix b (ix j.Args u)) a2)]) 1 R R iW fK lv R R R R R R ?_ R (fun ar av=>?_)
 exact fun I h s=>(sI).list [((sc a0 (ix b (ix j.Args u)) a2),(ix b (ix j.Args u)))] I h s
 refine lM _ (tE 6 [4,0,1,2,3,5]) ?_
 refine eU (K:=(bF).share) 5864062014805 R R iW fK u6 (Zr.zk (Zr.share zT23) lv) R R R R R R eB a8 (fun a1 a3=>(lN (OO (bF).share 23 a1 a3 (i++([(ix b (ix j.Args u))]:List (List Int)))::_::_::_::_::W1) ?_))
 refine dN ?_
 cases q
 exact qA ((a1,(i++([(ix b (ix j.Args u))]:List (List Int))).length,a3),((ad Z o42),j.Args.length,Y)) (tE 5 [2,3,0,4])
 refine aV ?_
 cases q
 obtain rfl:=a6 _ R
 have q:=a9
 refine aZ ?_
 exact qI (i,(T,i.length,U)) q (tE 4 [1,2,0])
 rintro ⟨J,⟨au,am,aw⟩⟩ σ1 q
 dsimp only [Zh_J1] at q
 refine bK 1 eQ (fun (L:am=J.length)=>?_)
 subst L
 refine cP ?_
 obtain ⟨ao,ab,q⟩:=bd q
 refine aC (lO (vp _ R) ?_)
 refine aZ ?_
 refine ji (fun w s=>s.shs 1 R) (lM _ (fun w s=>(((((((s.d 4 R).d 6 R).d 8 R).d 10 R).d 4 R).dgx 13 R).e 9 [7,5,4,3,2,1,0,6,8])) ?_)
 refine tS 7 R R R (ma ab) R ?_
 rintro ⟨ag,ax,aj⟩
 refine aM 0 aA ?_
 rintro rfl
 refine eD ?_
 cases q
 exact kb (ag,ao.1.length,aj) (tE 10 [0,3])
theorem Zn_ok  {g1:Graph}{mG:Int}{r:(List (List Int))×Bool}(b:Zn g1=some r) :
 FnOk Tryz.prog 29 [(.agg [(.slice A2 N2 D2),(.slice A3 N3 D3)].toArray)] [aO cJ (.slice A2 N2 D2) g1.Nodes,aO kT3 (.slice A3 N3 D3) g1.Outs,gG mG] (fun (h:HH)=>((.tuple [(s3 h),(.bool r.2)].toArray),[ow (bF).share 23 (s3 h) r.1])):=by
 unfold Zn at b
 refine aR Tryz.func29 R 60 R R fun C V=>?_
 refine cL 0 aA ?_
 rintro rfl
 refine cL 1 aA ?_
 rintro rfl
 let W0:=RR cJ A2 D2 g1.Nodes::RR kT3 A3 D3 g1.Outs::gG mG::V
 refine cN W0 ?_
 refine aZ ?_
 refine eT R fun L=>?_
 refine aV ?_
 let E:=aK L [(sc A2 g1.Nodes D2),(sc A3 g1.Outs D3)] 30::W0
 refine qN E ?_
 refine aV ?_
 refine cQ [(1,(pt L 0)),(20,(.bool ((decide ((g1.Nodes.length:Int)>200))||(decide ((g1.Outs.length:Int)>40)))))] (E) ?_ ?_
 refine cB ?_
 rcases bo (decide ((g1.Nodes.length:Int)>200)) with an | an
 refine cB ?_
 exact qj tI
 refine cB ?_
 exact qj tI
 rintro σ1
 refine cP ?_
 split at b
 refine dG ?_
 cases b
 exact kb (none,0,0) (fun w s=>((s.nilo (bF).share 23).e 5 [0]))
 refine cV ?_
 refine bO (K:=bF) (xs:=([]:List (List Int))) (vs:=[]) 0 R R iW fK lv R R R R R R ?_ R (fun A7 D7=>?_)
 exact fun I h s=>(nh).list [] I h s
 refine bL ?_
 refine bB (A:=((List (List Int)))×(HH)) (fun a=>Zn_J1 g1 a.1=some r) (fun a=>[(1,(pt L 0)),(4,(s3 a.2))]) (fun a=>ow (bF).share 23 (s3 a.2) a.1::E) ?_ ?_
 refine dG ?_
 obtain ⟨e1,ao,ab⟩:=bd b
 refine bD (A:=HH) ao (fun s a=>[(1,(pt L 0)),(4,(s3 a)),(23,(sc A2 g1.Nodes D2)),(24,(il g1.Nodes)),(25,(iv s.2))]) (fun s a=>ow (bF).share 23 (s3 a) s.1::E) (A7,([]:List (List Int)).length,D7) (aS R) (fun w s=>(s.wk 0 R)) ?_
 rintro ⟨D,i⟩ ⟨ag,aj,ai⟩ σ1 aq b a7
 dsimp only [Zn_L1] at b
 refine bK 0 eQ (fun (hn:aj=D.length)=>?_)
 subst hn
 refine cB ?_
 split at b
 refine cB ?_
 obtain ⟨B,b⟩:=gd b
 refine aC (bE 2 aA (show 0<g1.Nodes.length by have:=B; omega) (fun ay o30 ha=>?_))
 subst ha
 refine cP ?_
 refine fV (K:=cJ) 2 i dT42.dec R B.1 B.2 ?_
 rintro ⟨-,⟨M,a0⟩,⟨O,a1⟩,⟨T,a2⟩,-,⟨U,a3⟩⟩
 refine lO (vz (.agg [(iv (ix g1.Nodes i).Op),(sc M ((ix g1.Nodes i).Args) a0),(sc O ((ix g1.Nodes i).Dims) a1),(sc T ((ix g1.Nodes i).Ints) a2),(aG (ix g1.Nodes i).Form),(sc U ((ix g1.Nodes i).Data) a3)].toArray) (eK (fo:=0) 0 ni hH R R R R)) (bG R R qx (fun am=>(aL 0 R R hH R R R R R R (lN (aK am [(iv (ix g1.Nodes i).Op),(sc M ((ix g1.Nodes i).Args) a0),(sc O ((ix g1.Nodes i).Dims) a1),(sc T ((ix g1.Nodes i).Ints) a2),(aG (ix g1.Nodes i).Form),(sc U ((ix g1.Nodes i).Data) a3)] 42::_::_::_::_::_::_::E) ?_))))
 refine aV ?_
 obtain ⟨u,ae,b⟩:=bd b
 refine aV ?_
 refine lM _ (fun w s=>((((((s.d 2 R).d 4 R).d 6 R).d 8 R).dgx 14 R).e 12 [4,3,2,1,11,0,5,6,7,8,9,10])) ?_
 refine lC 6 Di R (Zh_ok ae) R ?_
 rintro ⟨Y,ax,a4⟩
 refine aM 0 aA ?_
 rintro rfl
 refine lO (vT R) ?_
 refine lq ?_
 split at b
 refine hG ?_
 cases b
 obtain rfl:=a7 _ R
 have b:=ab
 refine aV ?_
 cases b
 exact kb (none,0,0) (fun w s=>((s.nilo (bF).share 23).e 13 [0]))
 refine aV ?_
 obtain ⟨a9,b⟩:=gd b
 refine aV ?_
 refine lM _ (fun w s=>(s.d 0 R)) ?_
 refine bO (K:=(bF).share) (xs:=([u.1]:List (List Int))) (vs:=[(sc Y u.1 a4)]) 1 R R iW fK lv R R R R R R ?_ R (fun au aw=>?_)
 exact fun I h s=>(sI).list [((sc Y u.1 a4),u.1)] I h s
 refine lM _ (fun w s=>(s.f 9 [2,1,0,2,3,6])) ?_
 refine eU (K:=(bF).share) 5864062014805 R R iW fK u6 (Zr.zk (Zr.share zT23) lv) R R R R R R eB a9 (fun Z a5=>(lN (OO (bF).share 23 Z a5 (D++([u.1]:List (List Int)))::_::_::_::_::_::_::_::E) ?_))
 refine dN ?_
 cases b
 exact qA (Z,(D++([u.1]:List (List Int))).length,a5) (tE 8 [0])
 refine aV ?_
 cases b
 obtain rfl:=a7 _ R
 have b:=ab
 refine aZ ?_
 exact qI (D,(ag,D.length,ai)) b tI
 rintro ⟨j,⟨l,ak,q⟩⟩ σ1 b
 dsimp only [Zn_J1] at b
 refine bK 0 eQ (fun (hn:ak=j.length)=>?_)
 subst hn
 refine aH (bB (A:=(Unit)×(Unit)) (fun a=>Zn_J2 j=some r) (fun a=>[(4,(sc l j q))]) (fun a=>OO (bF).share 23 l q j::E) ?_ ?_)
 refine dG ?_
 obtain ⟨e2,ap,ac⟩:=bd b
 refine bD (A:=HH) ap (fun s a=>[(1,(pt L 0)),(4,(sc l j q)),(43,(s3 a)),(44,(il g1.Outs)),(45,(iv s))]) (fun s a=>OO (bF).share 23 l q j::aO kT3 (s3 a) g1.Outs::E) (A3,g1.Outs.length,D3) (aS R) (fun w s=>((s.d 3 R).e 2 [1,0])) ?_
 rintro F ⟨av,al,G⟩ σ1 ar b a8
 dsimp only [Zn_L2] at b
 refine bK 1 aA (fun (hn:al=g1.Outs.length)=>?_)
 subst hn
 refine cB ?_
 split at b
 refine cB ?_
 obtain ⟨aa,b⟩:=gd b
 refine aC (bE 1 aA (show 0<g1.Outs.length by have:=aa; omega) (fun J o59 ha=>?_))
 subst ha
 refine cB ?_
 refine cQ [(1,(pt L 0)),(4,(sc l j q)),(43,(sc (ad J o59) g1.Outs G)),(44,(il g1.Outs)),(45,(iv F)),(57,(.bool ((decide ((ix g1.Outs F)<0))||(decide ((ix g1.Outs F)≥(g1.Nodes.length:Int))))))] (OO (bF).share 23 l q j::RR kT3 (ad J o59) G g1.Outs::E) ?_ ?_
 refine bL ?_
 rcases bo (decide ((ix g1.Outs F)<0)) with a6 | a6
 refine eD ?_
 exact qj tI
 refine eD ?_
 exact qj tI
 rintro σ1
 refine cP ?_
 split at b
 refine dJ ?_
 cases b
 obtain rfl:=a8 _ R
 have b:=ac
 refine aV ?_
 cases b
 exact kb (none,0,0) (fun w s=>((s.nilo (bF).share 23).e 7 [0]))
 refine dN ?_
 cases b
 exact qA ((ad J o59),g1.Outs.length,G) tI
 refine aV ?_
 cases b
 obtain rfl:=a8 _ R
 have b:=ac
 refine aZ ?_
 exact qI ((),()) b (tE 2 [0])
 rintro ⟨_,_⟩ σ1 b
 dsimp only [Zn_J2] at b
 refine dN ?_
 cases b
 exact kb (l,j.length,q) (tE 5 [0])
theorem Z1g_ok  {k1:Int}{a:Int}{e:Nat}{r:Bool}(i:Z1g k1 a=some r) :
 FnOk Tryz.prog 30 [(iv k1),(pt e 0)] [aK e [(.int .u64 a)] 52] (fun (h:Unit)=>((.bool r),[aK e [(.int .u64 a)] 52])):=by
 unfold Z1g at i
 refine aR Tryz.func30 R 9 R R fun C V=>?_
 refine bL ?_
 let j:=aK e [(.int .u64 a)] 52::V
 refine qN j ?_
 refine aZ ?_
 obtain ⟨b,i⟩:=gd i
 refine aV ?_
 refine lO (vz (.int .u64 (a / 2 ^ k1.toNat)) (xb R R b.1 b.2)) (lO (vp (.int .u64 (bits .and .u64 (a / 2 ^ k1.toNat) (1:Int))) R) (lO (vp (.bool ((bits .and .u64 (a / 2 ^ k1.toNat) (1:Int))==1)) R) ?_))
 refine bL ?_
 cases i
 exact qF () tI
theorem Z0h_ok  {e:Int}{D:Int}{l:Nat}{r:(List Int)}(b:Z0h e D=some r) :
 FnOk Tryz.prog 50 [(iv e),(.func (.func 30) [].toArray [(pt l 0)].toArray)] [aK l [(.int .u64 D)] 52] (fun (h:HH)=>((s3 h),[ow kT3 3 (s3 h) r,aK l [(.int .u64 D)] 52])):=by
 unfold Z0h at b
 refine aR Tryz.func50 R 26 R R fun C V=>?_
 refine cB ?_
 obtain ⟨u,b⟩:=gd b
 refine aZ ?_
 refine fW (K:=kT3) (m:=e) (z:=(0:Int)) R R bH cO kE (Zr.zk zT3 gN) (by decide) R R u.1 u.2.1 u.2.2 (fun A6 D6=>(lS R (aB (aE (aH (aC (lI R (aB (aE (aH (bB (A:=((List Int))×(Unit)) (fun a=>Z0h_J3 a.1=some r) (fun a=>[(5,(sc A6 (List.replicate e.toNat (0:Int)) D6))]) (fun a=>ow kT3 3 (.slice A6 (List.replicate e.toNat (0:Int)).length D6) a.1::aK l [(.int .u64 D)] 52::V) ?_ ?_)))))))))))
 refine dN ?_
 obtain ⟨Z,L,J⟩:=bd b
 refine bD (A:=Unit) L (fun s a=>[(1,(.func (.func 30) [].toArray [(pt l 0)].toArray)),(5,(sc A6 (List.replicate e.toNat (0:Int)) D6)),(6,(iv s.2.1)),(11,(il (List.replicate e.toNat (0:Int)))),(12,(iv s.2.2))]) (fun s a=>aK l [(.int .u64 D)] 52::ow kT3 3 (.slice A6 (List.replicate e.toNat (0:Int)).length D6) s.1::V) () (aS R) (tE 2 [1,0]) ?_
 rintro ⟨B,i,q⟩ _ σ1 F b G
 dsimp only [Z0h_L1] at b
 refine cB ?_
 split at b
 refine bL ?_
 refine bB (A:=(Int)×(Unit)) (fun a=>Z0h_J2 B i q a.1=some F) (fun a=>[(1,(.func (.func 30) [].toArray [(pt l 0)].toArray)),(5,(sc A6 (List.replicate e.toNat (0:Int)) D6)),(6,(iv a.1)),(11,(il (List.replicate e.toNat (0:Int)))),(12,(iv q))]) (fun a=>aK l [(.int .u64 D)] 52::ow kT3 3 (.slice A6 (List.replicate e.toNat (0:Int)).length D6) (B.set q.toNat i)::V) ?_ ?_
 refine dN ?_
 obtain ⟨j,b⟩:=gd b
 refine bL ?_
 refine bE 1 aD (show 0<(List.replicate e.toNat (0:Int)).length by have:=j; omega) (fun M o24 O=>?_)
 subst O
 refine cP ?_
 refine lM _ (tE 2 [1,0]) ?_
 refine eO (K:=kT3) (x':=i) 0 q R R cO R R j.1 j.2 ?_ ?_
 exact fun I h s=>(gM).put I h () i s
 refine aV ?_
 obtain ⟨T,E,b⟩:=bd b
 refine aC (lO (vp _ R) (lI R (lM _ (tE 2 [1,0]) ?_)))
 refine cU (fs:=[]) (cs:=[(pt l 0)]) 1 R R w7 R R (Z1g_ok E) R ?_
 rintro _
 refine aZ ?_
 split at b
 refine eD ?_
 exact qI ((aI (i+1)),()) b tI
 refine aV ?_
 exact qI (i,()) b tI
 rintro ⟨U,_⟩ σ1 b
 dsimp only [Z0h_J2] at b
 refine bL ?_
 cases b
 exact qA () tI
 refine aV ?_
 cases b
 obtain rfl:=G _ R
 have b:=J
 refine aZ ?_
 exact qI (B,()) b (tE 2 [1,0])
 rintro ⟨Y,_⟩ σ1 b
 dsimp only [Z0h_J3] at b
 refine eD ?_
 cases b
 exact qF (A6,(List.replicate e.toNat (0:Int)).length,D6) tI
theorem Z27_ok  {a:Node}{r:Bool}(j:Z27 a=some r) :
 FnOk Tryz.prog 51 [(.agg [(iv a.Op),(.slice A2 N2 D2),(.slice A3 N3 D3),(.slice A4 N4 D4),(aG a.Form),(.slice A5 N5 D5)].toArray)] [aO kT3 (.slice A2 N2 D2) a.Args,aO kT3 (.slice A3 N3 D3) a.Dims,aO kT3 (.slice A4 N4 D4) a.Ints,aO kT3 (.slice A5 N5 D5) a.Data] (fun (h:Unit)=>((.bool r),[])):=by
 unfold Z27 at j
 refine aR Tryz.func51 R 11 R R fun C V=>?_
 refine cL 0 aA ?_
 rintro rfl
 refine cL 1 aA ?_
 rintro rfl
 refine cL 2 aA ?_
 rintro rfl
 refine cL 3 aA ?_
 rintro rfl
 let e:=RR kT3 A2 D2 a.Args::RR kT3 A3 D3 a.Dims::RR kT3 A4 D4 a.Ints::RR kT3 A5 D5 a.Data::V
 refine cN e ?_
 refine aZ ?_
 refine eT R fun l=>?_
 refine aZ ?_
 let i:=aK l [(iv a.Op),(sc A2 a.Args D2),(sc A3 a.Dims D3),(sc A4 a.Ints D4),(aG a.Form),(sc A5 a.Data D5)] 42::e
 refine qN i ?_
 refine aZ ?_
 refine cQ [(2,(.bool ((a.Op==1)||(a.Op==2))))] (i) ?_ ?_
 refine cV ?_
 rcases bo (a.Op==1) with b | b
 refine cB ?_
 exact qj tI
 refine cB ?_
 exact qj tI
 rintro σ1
 refine aZ ?_
 cases j
 exact qF () (tE 5 [])
theorem Z07_ok  {g1:Graph}{U:Int}{E:Nat}{r:Bool}(l:Z07 g1 U=some r) :
 FnOk Tryz.prog 31 [(.agg [(.slice A2 N2 D2),(.slice A3 N3 D3)].toArray),(.func (.func 30) [].toArray [(pt E 0)].toArray)] [aO cJ (.slice A2 N2 D2) g1.Nodes,aO kT3 (.slice A3 N3 D3) g1.Outs,aK E [(.int .u64 U)] 52] (fun (h:Unit)=>((.bool r),[aK E [(.int .u64 U)] 52])):=by
 unfold Z07 at l
 refine aR Tryz.func31 R 56 R R fun C V=>?_
 refine cM _ (tE 3 [2,0,1]) ?_
 refine cL 1 aA ?_
 rintro rfl
 refine cL 2 aA ?_
 rintro rfl
 let W0:=RR cJ A2 D2 g1.Nodes::RR kT3 A3 D3 g1.Outs::V
 refine aZ ?_
 refine eT R fun b7=>?_
 refine aZ ?_
 refine qM _ (tE 2 [1,0]) ?_
 let W1:=aK b7 [(sc A2 g1.Nodes D2),(sc A3 g1.Outs D3)] 30::W0
 refine aZ ?_
 obtain ⟨B,b1,l⟩:=bd l
 refine bL ?_
 refine lO (vp _ R) (lC 1 BJ R (Z0h_ok b1) R ?_)
 rintro ⟨A10,N10,D10⟩
 refine aM 0 aD ?_
 rintro rfl
 refine bL ?_
 refine bB (A:=(Unit)×(Unit)) (fun a=>Z07_J3=some r) (fun a=>[]) (fun a=>aK E [(.int .u64 U)] 52::W1) ?_ ?_
 refine dG ?_
 obtain ⟨e1,az,aq⟩:=bd l
 refine bD (A:=HH) az (fun s a=>[(1,(.func (.func 30) [].toArray [(pt E 0)].toArray)),(2,(pt b7 0)),(5,(sc A10 B D10)),(16,(s3 a)),(17,(il g1.Nodes)),(18,(iv s))]) (fun s a=>aK E [(.int .u64 U)] 52::OO kT3 3 A10 D10 B::aO cJ (s3 a) g1.Nodes::W1) (A2,g1.Nodes.length,D2) (aS R) (fun w s=>((s.d 3 R).e 3 [2,1,0])) ?_
 rintro b ⟨b4,aw,F⟩ σ1 au l ao
 dsimp only [Z07_L1] at l
 refine bK 2 aA (fun (T:aw=g1.Nodes.length)=>?_)
 subst T
 refine cB ?_
 split at l
 refine bL ?_
 refine bB (A:=(Unit)×(HH)) (fun a=>Z07_J2 b=some au) (fun a=>[(1,(.func (.func 30) [].toArray [(pt E 0)].toArray)),(2,(pt b7 0)),(5,(sc A10 B D10)),(16,(s3 a.2)),(17,(il g1.Nodes)),(18,(iv b))]) (fun a=>aK E [(.int .u64 U)] 52::OO kT3 3 A10 D10 B::aO cJ (s3 a.2) g1.Nodes::W1) ?_ ?_
 refine aZ ?_
 obtain ⟨L,l⟩:=gd l
 refine aZ ?_
 refine bE 2 aA (show 0<g1.Nodes.length by have:=L; omega) (fun I o70 J=>?_)
 subst J
 refine cP ?_
 refine fV (K:=cJ) 2 b dT42.dec R L.1 L.2 ?_
 rintro ⟨-,⟨Z,a0⟩,⟨a9,ak⟩,⟨aa,al⟩,-,⟨ab,am⟩⟩
 refine lO (vz (.agg [(iv (ix g1.Nodes b).Op),(sc Z ((ix g1.Nodes b).Args) a0),(sc a9 ((ix g1.Nodes b).Dims) ak),(sc aa ((ix g1.Nodes b).Ints) al),(aG (ix g1.Nodes b).Form),(sc ab ((ix g1.Nodes b).Data) am)].toArray) (eK (fo:=0) 0 ni hH R R R R)) (bG R R qx (fun ay=>(lI R (aL 0 R R hH R R R R R R (lN (aK ay [(iv (ix g1.Nodes b).Op),(sc Z ((ix g1.Nodes b).Args) a0),(sc a9 ((ix g1.Nodes b).Dims) ak),(sc aa ((ix g1.Nodes b).Ints) al),(aG (ix g1.Nodes b).Form),(sc ab ((ix g1.Nodes b).Data) am)] 42::_::_::_::_::_::_::_::_::W1) ?_)))))
 refine hG ?_
 obtain ⟨e2,b0,ar⟩:=bd l
 refine bD (A:=HH) b0 (fun s a=>[(1,(.func (.func 30) [].toArray [(pt E 0)].toArray)),(2,(pt b7 0)),(5,(sc A10 B D10)),(6,(iv b)),(16,(sc (ad I o70) g1.Nodes F)),(17,(il g1.Nodes)),(18,(iv b)),(24,(s3 a)),(25,(il ((ix g1.Nodes b).Args))),(26,(iv s))]) (fun s a=>aK E [(.int .u64 U)] 52::OO kT3 3 A10 D10 B::RR cJ (ad I o70) F g1.Nodes::aO kT3 (s3 a) (ix g1.Nodes b).Args::W1) (Z,((ix g1.Nodes b).Args).length,a0) (aS R) (tE 9 [6,7,8,2]) ?_
 rintro q ⟨b5,ax,a1⟩ σ1 b3 l ap
 dsimp only [Z07_L2] at l
 refine bK 3 aA (fun (T:ax=((ix g1.Nodes b).Args).length)=>?_)
 subst T
 refine cB ?_
 split at l
 refine cB ?_
 obtain ⟨a2,l⟩:=gd l
 refine aC (bE 3 aA (show 0<((ix g1.Nodes b).Args).length by have:=a2; omega) (fun G o103 J=>?_))
 subst J
 refine cB ?_
 obtain ⟨D,l⟩:=gd l
 obtain ⟨_,l⟩:=gd l
 obtain ⟨Y,M,l⟩:=bd l
 obtain ⟨u,l⟩:=gd l
 obtain ⟨av,a3,l⟩:=bd l
 refine cQ [(1,(.func (.func 30) [].toArray [(pt E 0)].toArray)),(2,(pt b7 0)),(5,(sc A10 B D10)),(6,(iv b)),(16,(sc (ad I o70) g1.Nodes F)),(17,(il g1.Nodes)),(18,(iv b)),(24,(sc (ad G o103) ((ix g1.Nodes b).Args) a1)),(25,(il ((ix g1.Nodes b).Args))),(26,(iv q)),(53,(.bool ((((ix B (ix ((ix g1.Nodes b).Args) q)) != (ix B b))&&(!Y))&&(!av))))] (aK E [(.int .u64 U)] 52::OO kT3 3 A10 D10 B::RR cJ (ad I o70) F g1.Nodes::RR kT3 (ad G o103) a1 ((ix g1.Nodes b).Args)::W1) ?_ ?_
 rcases bo ((ix B (ix ((ix g1.Nodes b).Args) q)) != (ix B b)) with j | j
 rcases bo (((ix B (ix ((ix g1.Nodes b).Args) q)) != (ix B b))&&(!Y)) with i | i
 refine bC 1 aD (show 0<B.length by have:=D; omega) (fun O o106 J=>?_)
 subst J
 refine bC 5 aA (show 0<g1.Nodes.length by have:=(u i); omega) (fun b2 o112 J=>?_)
 subst J
 refine dU (K:=cJ) 5 (ix ((ix g1.Nodes b).Args) q) dT42.dec R (u i).1 (u i).2 ?_
 rintro ⟨-,⟨a4,ac⟩,⟨a5,ae⟩,⟨a6,ag⟩,-,⟨a7,ai⟩⟩
 refine dP 24 [] bS fun ht T=>?_
 refine pD 0 [] ?_
 refine dW 10 R (dO j) (vp _ R) (dW 11 R (dO j) (vI R) (d1 12 R (lM _ (fun w s=>(s.f 9 [5,1,0,5,6,3])) ?_)))
 refine cU (fs:=[]) (cs:=[(pt E 0)]) 1 R (dO j) w7 R R (Z1g_ok (bM M j)) R ?_
 rintro _
 refine aB (aJ (fun w s=>(s.f 9 [1,5,0,1,6,3])) (dW 13 R (dO j) (ne R) (hS:=(fun w s=>(s.f 9 [1,5,0,1,6,3]))) (dR 14 R (iJ R j R) (hS:=(fun w s=>(s.f 9 [1,5,0,1,6,3]))) (dR 15 R (vB R) (hS:=(fun w s=>(s.f 9 [1,5,0,1,6,3]))) (dW 16 R (dO i) (eW 0 jy R) (hS:=(fun w s=>(s.f 9 [1,5,0,1,6,3]))) (dW 17 R (dO i) (eS 9 nR R R R) (hS:=(fun w s=>(s.f 9 [1,5,0,1,6,3]))) (dW 18 R (dO i) (vI R) (hS:=(fun w s=>(s.f 9 [1,5,0,1,6,3]))) (dW 19 R (dO i) (dV jx hH R R (u i)) (hS:=(fun w s=>(s.f 9 [1,5,0,1,6,3]))) (dW 20 R (dO i) (vz (.agg [(iv (ix g1.Nodes (ix ((ix g1.Nodes b).Args) q)).Op),(sc a4 ((ix g1.Nodes (ix ((ix g1.Nodes b).Args) q)).Args) ac),(sc a5 ((ix g1.Nodes (ix ((ix g1.Nodes b).Args) q)).Dims) ae),(sc a6 ((ix g1.Nodes (ix ((ix g1.Nodes b).Args) q)).Ints) ag),(aG (ix g1.Nodes (ix ((ix g1.Nodes b).Args) q)).Form),(sc a7 ((ix g1.Nodes (ix ((ix g1.Nodes b).Args) q)).Data) ai)].toArray) (eK (fo:=0) 0 ni hH R R R R)) (hS:=(fun w s=>(s.f 9 [1,5,0,1,6,3]))) (d1 21 R ?_))))))))))
 refine lM _ (fun w s=>(((((s.d 2 R).d 4 R).d 6 R).d 8 R).f 13 [3,1,2,1,1,1,0,1,4,9])) ?_
 refine b' 4 R (dO i) BK R (Z27_ok (bM a3 i)) R ?_
 rintro _
 refine aB (aJ (fun w s=>(s.f 9 [1,5,0,1,6,3])) (dW 22 R (dO i) (ne R) (hS:=(fun w s=>(s.f 9 [1,5,0,1,6,3]))) (dR 23 R (iJ R i R) (hS:=(fun w s=>(s.f 9 [1,5,0,1,6,3]))) (dD ?_))))
 exact qj (tE 9 [0,6,7,8])
 refine bC 1 aD (show 0<B.length by have:=D; omega) (fun O o106 J=>?_)
 subst J
 refine dP 24 [] bS fun ht T=>?_
 refine pD 0 [] ?_
 refine dW 10 R (dO j) (vp _ R) (dW 11 R (dO j) (vI R) (d1 12 R (cU (fs:=[]) (cs:=[(pt E 0)]) 1 R (dO j) w7 R R (Z1g_ok (bM M j)) R ?_)))
 rintro _
 refine aB (aJ (sL []) ?_)
 refine tX 13 [] ?_
 refine dD ?_
 exact qj tI
 refine bC 1 aD (show 0<B.length by have:=D; omega) (fun O o106 J=>?_)
 subst J
 refine dP 24 [] bS fun ht T=>?_
 refine Aq 0 [] ?_
 refine dD ?_
 exact qj tI
 rintro σ1
 refine cP ?_
 split at l
 refine dG ?_
 cases l
 obtain rfl:=ap _ R
 have l:=ar
 refine bL ?_
 cases l
 obtain rfl:=ao _ R
 have l:=aq
 refine aV ?_
 cases l
 exact qF () (tE 7 [0])
 refine dN ?_
 cases l
 exact qA ((ad G o103),((ix g1.Nodes b).Args).length,a1) tI
 refine aV ?_
 cases l
 obtain rfl:=ap _ R
 have l:=ar
 refine aV ?_
 exact qI ((),((ad I o70),g1.Nodes.length,F)) l (fun w s=>(s.f 4 [0,3]))
 rintro ⟨_,⟨a8,an,aj⟩⟩ σ1 l
 dsimp only [Z07_J2] at l
 refine bK 2 aA (fun (T:an=g1.Nodes.length)=>?_)
 subst T
 refine bL ?_
 cases l
 exact qA (a8,g1.Nodes.length,aj) tI
 refine aV ?_
 cases l
 obtain rfl:=ao _ R
 have l:=aq
 refine aZ ?_
 exact dC ((),()) l trivial (tE 3 [0])
 rintro ⟨_,_⟩ σ1 l
 dsimp only [Z07_J3] at l
 refine cB ?_
 cases l
 exact qF () (tE 4 [0])
end Go.Proofs.YtoffdamdpmeoiaaGreatDoor
