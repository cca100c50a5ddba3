import Derived.Test.YtmpnollfdpdipaaGreatGkH
set_option linter.unusedVariables false
namespace Go.Proofs.YtmpnollfdpdipaaGreat
open Go Go.Pg
noncomputable section
def Z1e (a1:(List Int))(left3:Int):Option (Int) :=
 if (decide ((w64 (left3 - (a1.length:Int)))<0))=true then (
 some (-1:Int))
 else (
 some (w64 (left3 - (a1.length:Int))))
def Z2g (a1:Node)(left6:Int):Option (Int) :=
 (Z1e a1.Args left6).bind fun r8 =>
 if (decide (r8<0))=true then (
 some (-1:Int))
 else (
 (Z1e a1.Dims r8).bind fun r11 =>
 if (decide (r11<0))=true then (
 some (-1:Int))
 else (
 (Z1e a1.Ints r11).bind fun r14 =>
 if (decide (r14<0))=true then (
 some (-1:Int))
 else (
 if (decide ((w64 (r14 - (a1.Form.length:Int)))<0))=true then (
 some (-1:Int))
 else (
 (Z1e a1.Data (w64 (r14 - (a1.Form.length:Int)))).bind fun r18 =>
 if (decide (r18<0))=true then (
 some (-1:Int))
 else (
 some r18)))))
def Z15_J1 (left31:Int):Option (Int) :=
 some left31
def Z15_L1 (a1:(List Node))(left16:Int)(i17:Int):Option ((Int×Int)⊕((Int)⊕(Int))) :=
 if (decide (i17<(a1.length:Int)))=true then (
 if (0≤i17∧i17<(a1.length:Int)) then
 (Z2g (ix a1 i17) left16).bind fun r26 =>
 if (decide (r26<0))=true then (
 some (.inr (.inl (-1:Int))))
 else (
 some (.inl (r26,(w64 (i17+1)))))
 else none)
 else (
 some (.inr (.inr left16)))
def Z15 (a1:(List Node))(left3:Int):Option (Int) :=
 if (decide ((w64 (left3 - (a1.length:Int)))<0))=true then (
 some (-1:Int))
 else (
 (loopM (fun s:Int×Int=>Z15_L1 a1 s.1 s.2) ((w64 (left3 - (a1.length:Int))),(0:Int))).bind fun e=>match e with
 | .inl e=>some e
 | .inr e=>Z15_J1 e)
def Z2s (a1:Graph)(left4:Int):Option (Int) :=
 (Z15 a1.Nodes left4).bind fun r6 =>
 if (decide (r6<0))=true then (
 some (-1:Int))
 else (
 (Z1e a1.Outs r6).bind fun r9 =>
 if (decide (r9<0))=true then (
 some (-1:Int))
 else (
 some r9))
def Z05_J1 (x25:(List Int)):Option ((List Int)) :=
 some x25
def Z05_L1 (a1:(List Int))(x14:(List Int))(i15:Int):Option (((List Int)×Int)⊕((List Int))) :=
 if (decide (i15<(a1.length:Int)))=true then (
 if (0≤i15∧i15<(a1.length:Int)) then
 if (0≤i15∧i15<((List.replicate (a1.length:Int).toNat (0:Int)).length:Int)) then
 some (.inl ((x14.set i15.toNat (ix a1 i15)),(w64 (i15+1))))
 else none
 else none)
 else (
 some (.inr x14))
def Z05 (a1:(List Int)):Option ((List Int)) :=
 if (0≤(a1.length:Int)∧(a1.length:Int)≤140737488355328∧8*(a1.length:Int)≤281474976710656) then
 (loopM (fun s:(List Int)×Int=>Z05_L1 a1 s.1 s.2) ((List.replicate (a1.length:Int).toNat (0:Int)),(0:Int))).bind fun e=>Z05_J1 e
 else none
def Z2t (a1:Node):Option (Node) :=
 (Z05 a1.Args).bind fun r9 =>
 (Z05 a1.Dims).bind fun r12 =>
 (Z05 a1.Ints).bind fun r15 =>
 (Z05 a1.Data).bind fun r18 =>
 some (⟨a1.Op,r9,r12,r15,a1.Form,r18⟩:Node)
def Z0n_J1 (x45:(List Node)):Option ((List Node)) :=
 some x45
def Z0n_L1 (a1:(List Node))(x24:(List Node))(i25:Int):Option (((List Node)×Int)⊕((List Node))) :=
 if (decide (i25<(a1.length:Int)))=true then (
 if (0≤i25∧i25<(a1.length:Int)) then
 (Z2t (ix a1 i25)).bind fun r34 =>
 if (0≤i25∧i25<((List.replicate (a1.length:Int).toNat zT54.z).length:Int)) then
 some (.inl ((x24.set i25.toNat r34),(w64 (i25+1))))
 else none
 else none)
 else (
 some (.inr x24))
def Z0n (a1:(List Node)):Option ((List Node)) :=
 if (0≤(a1.length:Int)∧(a1.length:Int)≤140737488355328∧120*(a1.length:Int)≤281474976710656) then
 (loopM (fun s:(List Node)×Int=>Z0n_L1 a1 s.1 s.2) ((List.replicate (a1.length:Int).toNat zT54.z),(0:Int))).bind fun e=>Z0n_J1 e
 else none
def Z16 (a1:Graph):Option (Graph) :=
 (Z0n a1.Nodes).bind fun r7 =>
 (Z05 a1.Outs).bind fun r10 =>
 some (⟨r7,r10⟩:Graph)
def Z2w (op1:Int):Option (Int×Int) :=
 if (decide (op1≤2))=true then (
 some ((0:Int),(0:Int)))
 else (
 if (decide (op1≤5))=true then (
 some ((2:Int),(2:Int)))
 else (
 if (op1==11)=true then (
 some ((1:Int),(6:Int)))
 else (
 some ((1:Int),(1:Int)))))
def Z35 (op1:Int):Option (Bool) :=
 some ((((op1==1)||(op1==2))||(op1==12))||(op1==13))
def Z18_J2 (x9:Bool):Option (Int) :=
 if x9=true then (
 some (3:Int))
 else (
 some (0:Int))
def Z18_J1 (op1:Int)(x4:Bool):Option (Int) :=
 if x4=true then (
 some (4:Int))
 else (
 if (op1==16)=true then (
 some (1:Int))
 else (
 if (op1==17)=true then (
 some (2:Int))
 else (
 if (op1==18)=true then (
 Z18_J2 (op1==18))
 else (
 Z18_J2 (op1==19)))))
def Z18 (op1:Int):Option (Int) :=
 if (op1==10)=true then (
 some (1:Int))
 else (
 if (op1==14)=true then (
 Z18_J1 op1 (op1==14))
 else (
 Z18_J1 op1 (op1==15)))
def Z14 (n1:Node):Option (Bool) :=
 if ((decide (n1.Op<1))||(decide (n1.Op>19)))=true then (
 some false)
 else (
 (Z2w n1.Op).bind fun r9 =>
 if ((decide ((n1.Args.length:Int)<r9.1))||(decide ((n1.Args.length:Int)>r9.2)))=true then (
 some false)
 else (
 (Z35 n1.Op).bind fun r13 =>
 if ((((!r13)&&(decide ((n1.Dims.length:Int)>0)))||((n1.Op != 11)&&(!(n1.Form==([]:Str)))))||((n1.Op != 2)&&(decide ((n1.Data.length:Int)>0))))=true then (
 some false)
 else (
 (Z18 n1.Op).bind fun r28 =>
 if ((n1.Op==16)||(n1.Op==17))=true then (
 some ((decide ((n1.Ints.length:Int)≥r28))&&(decide ((n1.Ints.length:Int)≤(w64 (r28+4096))))))
 else (
 some ((n1.Ints.length:Int)==r28)))))
def Z0i_J1:Option (Bool) :=
 some true
def Z0i_L1 (index1:(List Int))(n3:Int)(i10:Int):Option ((Int)⊕((Bool)⊕(Unit))) :=
 if (decide (i10<(index1.length:Int)))=true then (
 if (0≤i10∧i10<(index1.length:Int)) then
 if ((decide ((ix index1 i10)<0))||(decide ((ix index1 i10)≥n3)))=true then (
 some (.inr (.inl false)))
 else (
 some (.inl (w64 (i10+1))))
 else none)
 else (
 some (.inr (.inr ())))
def Z0i (index1:(List Int))(n3:Int):Option (Bool) :=
 (loopM (fun s:Int=>Z0i_L1 index1 n3 s) (0:Int)).bind fun e=>match e with
 | .inl e=>some e
 | .inr e=>Z0i_J1
def Zt_J1 (n25:Int):Option (Int) :=
 some n25
def Zt_L1 (dims1:(List Int))(n12:Int)(i13:Int):Option ((Int×Int)⊕((Int)⊕(Int))) :=
 if (decide (i13<(dims1.length:Int)))=true then (
 if (0≤i13∧i13<(dims1.length:Int)) then
 if ((decide ((ix dims1 i13)<1))||(decide ((ix dims1 i13)>4096)))=true then (
 some (.inr (.inl (0:Int))))
 else (
 if (decide ((w64 (n12*(ix dims1 i13)))>4096))=true then (
 some (.inr (.inl (0:Int))))
 else (
 some (.inl ((w64 (n12*(ix dims1 i13))),(w64 (i13+1))))))
 else none)
 else (
 some (.inr (.inr n12)))
def Zt (dims1:(List Int)):Option (Int) :=
 (loopM (fun s:Int×Int=>Zt_L1 dims1 s.1 s.2) ((1:Int),(0:Int))).bind fun e=>match e with
 | .inl e=>some e
 | .inr e=>Zt_J1 e
def Zl (dims1:(List Int)):Option (Bool) :=
 (gcall (decide ((dims1.length:Int)≤6)) (Zt dims1)).bind fun r3 =>
 some ((decide ((dims1.length:Int)≤6))&&(decide (r3>0)))
def Zo_J1:Option (Bool) :=
 some true
def Zo_L1 (t1:Tensor)(i17:Int):Option ((Int)⊕((Bool)⊕(Unit))) :=
 if (decide (i17<(t1.Data.length:Int)))=true then (
 if (0≤i17∧i17<(t1.Data.length:Int)) then
 if ((decide ((ix t1.Data i17)<0))||(decide ((ix t1.Data i17)≥2147483647)))=true then (
 some (.inr (.inl false)))
 else (
 some (.inl (w64 (i17+1))))
 else none)
 else (
 some (.inr (.inr ())))
def Zo (t1:Tensor):Option (Bool) :=
 (Zl t1.Dims).bind fun r5 =>
 (gcall (!(!r5)) (Zt t1.Dims)).bind fun r7 =>
 if ((!r5)||((t1.Data.length:Int) != r7))=true then (
 some false)
 else (
 (loopM (fun s:Int=>Zo_L1 t1 s) (0:Int)).bind fun e=>match e with
 | .inl e=>some e
 | .inr e=>Zo_J1)
def Zq (a1:(List Int)):Option ((List Int)) :=
 if ([]:List Int).length+a1.length≤17592186044416 then
 some (([]:List Int)++a1)
 else none
def Zz_J1:Option (Bool) :=
 some true
def Zz_L1 (a1:(List Int))(b3:(List Int))(i14:Int):Option ((Int)⊕((Bool)⊕(Unit))) :=
 if (decide (i14<(a1.length:Int)))=true then (
 if (0≤i14∧i14<(a1.length:Int)) then
 if (0≤i14∧i14<(b3.length:Int)) then
 if ((ix a1 i14) != (ix b3 i14))=true then (
 some (.inr (.inl false)))
 else (
 some (.inl (w64 (i14+1))))
 else none
 else none)
 else (
 some (.inr (.inr ())))
def Zz (a1:(List Int))(b3:(List Int)):Option (Bool) :=
 if ((a1.length:Int) != (b3.length:Int))=true then (
 some false)
 else (
 (loopM (fun s:Int=>Zz_L1 a1 b3 s) (0:Int)).bind fun e=>match e with
 | .inl e=>some e
 | .inr e=>Zz_J1)
def Z26 (dims1:(List Int))(k3:Int):Option (Int) :=
 if (decide (k3≥(dims1.length:Int)))=true then (
 some (1:Int))
 else (
 if (0≤(w64 ((w64 ((dims1.length:Int) - 1)) - k3))∧(w64 ((w64 ((dims1.length:Int) - 1)) - k3))<(dims1.length:Int)) then
 some (ix dims1 (w64 ((w64 ((dims1.length:Int) - 1)) - k3)))
 else none)
def Zy_J4 (x50:(List Int)):Option ((List Int)) :=
 (Zl x50).bind fun r51 =>
 if (!r51)=true then (
 some ([]:List Int))
 else (
 some x50)
def Zy_J3 (n13:Int)(x32:(List Int))(k33:Int)(x44:Int):Option (((List Int)×Int)⊕(((List Int))⊕((List Int)))) :=
 if (0≤(w64 ((w64 (n13 - 1)) - k33))∧(w64 ((w64 (n13 - 1)) - k33))<((List.replicate n13.toNat (0:Int)).length:Int)) then
 some (.inl ((x32.set (w64 ((w64 (n13 - 1)) - k33)).toNat x44),(w64 (k33+1))))
 else none
def Zy_L1 (a1:(List Int))(b3:(List Int))(n13:Int)(x32:(List Int))(k33:Int):Option (((List Int)×Int)⊕(((List Int))⊕((List Int)))) :=
 if (decide (k33<n13))=true then (
 (Z26 a1 k33).bind fun r35 =>
 (Z26 b3 k33).bind fun r37 =>
 if (((r35 != r37)&&(r35 != 1))&&(r37 != 1))=true then (
 some (.inr (.inl ([]:List Int))))
 else (
 if (decide (r37>r35))=true then (
 Zy_J3 n13 x32 k33 r37)
 else (
 Zy_J3 n13 x32 k33 r35)))
 else (
 some (.inr (.inr x32)))
def Zy_J1 (a1:(List Int))(b3:(List Int))(n13:Int):Option ((List Int)) :=
 if (0≤n13∧n13≤140737488355328∧8*n13≤281474976710656) then
 (loopM (fun s:(List Int)×Int=>Zy_L1 a1 b3 n13 s.1 s.2) ((List.replicate n13.toNat (0:Int)),(0:Int))).bind fun e=>match e with
 | .inl e=>some e
 | .inr e=>Zy_J4 e
 else none
def Zy (a1:(List Int))(b3:(List Int)):Option ((List Int)) :=
 (Zl a1).bind fun r5 =>
 (gcall (!(!r5)) (Zl b3)).bind fun r7 =>
 if ((!r5)||(!r7))=true then (
 some ([]:List Int))
 else (
 if (decide ((b3.length:Int)>(a1.length:Int)))=true then (
 Zy_J1 a1 b3 (b3.length:Int))
 else (
 Zy_J1 a1 b3 (a1.length:Int)))
def Z0g (dims1:(List Int)):Option (Tensor) :=
 (Zq dims1).bind fun r4 =>
 (Zt dims1).bind fun r7 =>
 if (0≤r7∧r7≤140737488355328∧8*r7≤281474976710656) then
 some (⟨r4,(List.replicate r7.toNat (0:Int))⟩:Tensor)
 else none
def Zg_J1 (x30:(List Int)):Option ((List Int)) :=
 some x30
def Zg_L1 (dims1:(List Int))(k16:Int)(x17:(List Int))(i18:Int):Option ((Int×(List Int)×Int)⊕((List Int))) :=
 if (decide (i18≥0))=true then (
 if (0≤i18∧i18<(dims1.length:Int)) then
 if (ix dims1 i18)≠0 then
 if (0≤i18∧i18<((List.replicate (dims1.length:Int).toNat (0:Int)).length:Int)) then
 some (.inl ((w64 (k16.tdiv (ix dims1 i18))),(x17.set i18.toNat (k16.tmod (ix dims1 i18))),(w64 (i18 - 1))))
 else none
 else none
 else none)
 else (
 some (.inr x17))
def Zg (dims1:(List Int))(k3:Int):Option ((List Int)) :=
 if (0≤(dims1.length:Int)∧(dims1.length:Int)≤140737488355328∧8*(dims1.length:Int)≤281474976710656) then
 (loopM (fun s:Int×(List Int)×Int=>Zg_L1 dims1 s.1 s.2.1 s.2.2) (k3,(List.replicate (dims1.length:Int).toNat (0:Int)),(w64 ((dims1.length:Int) - 1)))).bind fun e=>Zg_J1 e
 else none
def Z0l_J1 (k23:Int):Option (Int) :=
 some k23
def Z0l_L1 (dims1:(List Int))(index3:(List Int))(k12:Int)(i13:Int):Option ((Int×Int)⊕(Int)) :=
 if (decide (i13<(dims1.length:Int)))=true then (
 if (0≤i13∧i13<(dims1.length:Int)) then
 if (0≤i13∧i13<(index3.length:Int)) then
 some (.inl ((w64 ((w64 (k12*(ix dims1 i13)))+(ix index3 i13))),(w64 (i13+1))))
 else none
 else none)
 else (
 some (.inr k12))
def Z0l (dims1:(List Int))(index3:(List Int)):Option (Int) :=
 (loopM (fun s:Int×Int=>Z0l_L1 dims1 index3 s.1 s.2) ((0:Int),(0:Int))).bind fun e=>Z0l_J1 e
def Z13 (t1:Tensor)(index4:(List Int)):Option (Int) :=
 (Z0l t1.Dims index4).bind fun r7 =>
 if (0≤r7∧r7<(t1.Data.length:Int)) then
 some (ix t1.Data r7)
 else none
def Z08_J3 (t1:Tensor)(x40:(List Int)):Option (Int) :=
 (Z13 t1 x40).bind fun r42 =>
 some r42
def Z08_J2 (x21:(List Int))(i23:Int)(x32:Int):Option (((List Int)×Int)⊕((List Int))) :=
 if x21.length+([x32]:List Int).length≤17592186044416 then
 some (.inl ((x21++([x32]:List Int)),(w64 (i23+1))))
 else none
def Z08_L1 (t1:Tensor)(index4:(List Int))(x21:(List Int))(i23:Int):Option (((List Int)×Int)⊕((List Int))) :=
 if (decide (i23<(t1.Dims.length:Int)))=true then (
 if (0≤(w64 ((w64 ((index4.length:Int) - (t1.Dims.length:Int)))+i23))∧(w64 ((w64 ((index4.length:Int) - (t1.Dims.length:Int)))+i23))<(index4.length:Int)) then
 if (0≤i23∧i23<(t1.Dims.length:Int)) then
 if ((ix t1.Dims i23)==1)=true then (
 Z08_J2 x21 i23 (0:Int))
 else (
 Z08_J2 x21 i23 (ix index4 (w64 ((w64 ((index4.length:Int) - (t1.Dims.length:Int)))+i23))))
 else none
 else none)
 else (
 some (.inr x21))
def Z08 (t1:Tensor)(index4:(List Int)):Option (Int) :=
 (loopM (fun s:(List Int)×Int=>Z08_L1 t1 index4 s.1 s.2) (([]:List Int),(0:Int))).bind fun e=>Z08_J3 t1 e
def Zn_J1 (r3:Int):Option (Int) :=
 some r3
def Zn (p1:Int):Option (Int) :=
 if (decide ((p1.tmod (2147483647:Int))<0))=true then (
 Zn_J1 (w64 ((p1.tmod (2147483647:Int))+2147483647)))
 else (
 Zn_J1 (p1.tmod (2147483647:Int)))
def Z1b (a1:Int):Option (Int) :=
 (Zn a1).bind fun r2 =>
 if (decide (r2>1073741823))=true then (
 some (w64 (r2 - 2147483647)))
 else (
 some r2)
def Z1j (a1:Int)(b2:Int):Option (Int) :=
 (Zn a1).bind fun r3 =>
 (Zn b2).bind fun r5 =>
 (Zn (w64 (r3+r5))).bind fun r7 =>
 some r7
def Z24 (a1:Int)(b2:Int):Option (Int) :=
 (Zn a1).bind fun r3 =>
 (Zn b2).bind fun r5 =>
 (Zn (w64 (r3 - r5))).bind fun r7 =>
 some r7
def Z1c (a1:Int)(b2:Int):Option (Int) :=
 (Zn a1).bind fun r3 =>
 (Zn b2).bind fun r5 =>
 (Zn (w64 (r3*r5))).bind fun r7 =>
 some r7
def Zp_J1 (x11:Int):Option (Int) :=
 some x11
def Zp_S (rf:Int→Int→Option (Int))(a1:Int)(n2:Int):Option (Int) :=
 if (n2==0)=true then (
 some (1:Int))
 else (
 (rf a1 (w64 (n2.tdiv (2:Int)))).bind fun r4 =>
 (Z1c r4 r4).bind fun r6 =>
 if ((n2.tmod (2:Int))==1)=true then (
 (Z1c r6 a1).bind fun r9 =>
 Zp_J1 r9)
 else (
 Zp_J1 r6))
def Zp_R:Nat→Int→Int→Option (Int)
 | 0=>fun _ _=>none
 | n+1=>Zp_S (Zp_R n)
def Zp (a1:Int)(n2:Int):Option (Int):=Zp_R recFuel a1 n2
def Z23 (a1:Int):Option (Int) :=
 (Zn a1).bind fun r2 =>
 (Zp r2 (2147483645:Int)).bind fun r4 =>
 some r4
def Z3m (a1:Int)(b2:Int):Option (Int) :=
 (Z23 b2).bind fun r3 =>
 (Z1c a1 r3).bind fun r5 =>
 some r5
def Z1k_J1 (yes26:Bool):Option (Int) :=
 if yes26=true then (
 some (1:Int))
 else (
 some (0:Int))
def Z1k (op1:Int)(p2:Int)(y3:Int):Option (Int) :=
 (Z1b p2).bind fun r4 =>
 (Z1b y3).bind fun r6 =>
 if (op1==1)=true then (
 (Z1j p2 y3).bind fun r9 =>
 some r9)
 else (
 if (op1==2)=true then (
 (Z24 p2 y3).bind fun r12 =>
 some r12)
 else (
 if (op1==3)=true then (
 (Z1c p2 y3).bind fun r15 =>
 some r15)
 else (
 if (op1==4)=true then (
 (Z3m p2 y3).bind fun r18 =>
 some r18)
 else (
 if (op1==5)=true then (
 if (decide (r4<r6))=true then (
 some y3)
 else (
 some p2))
 else (
 if (op1==6)=true then (
 if (decide (r4<r6))=true then (
 some p2)
 else (
 some y3))
 else (
 if (op1==7)=true then (
 Z1k_J1 (decide (r4<r6)))
 else (
 if (op1==8)=true then (
 Z1k_J1 (p2==y3))
 else (
 Z1k_J1 false))))))))
def Z10_J1 (r24:Tensor)(x59:(List Int)):Option (Tensor) :=
 some (⟨r24.Dims,x59⟩:Tensor)
def Z10_L1 (op1:Int)(a2:Tensor)(b5:Tensor)(r19:(List Int))(r24:Tensor)(x42:(List Int))(i43:Int):Option (((List Int)×Int)⊕((List Int))) :=
 if (decide (i43<(r24.Data.length:Int)))=true then (
 (Zg r19 i43).bind fun r45 =>
 (Z08 a2 r45).bind fun r48 =>
 (Z08 b5 r45).bind fun r50 =>
 (Z1k op1 r48 r50).bind fun r52 =>
 if (0≤i43∧i43<(r24.Data.length:Int)) then
 some (.inl ((x42.set i43.toNat r52),(w64 (i43+1))))
 else none)
 else (
 some (.inr x42))
def Z10 (op1:Int)(a2:Tensor)(b5:Tensor):Option (Tensor) :=
 (Zo a2).bind fun r11 =>
 (gcall (!(!r11)) (Zo b5)).bind fun r13 =>
 if ((((!r11)||(!r13))||(decide (op1<1)))||(decide (op1>8)))=true then (
 some (⟨([]:List Int),([]:List Int)⟩:Tensor))
 else (
 (Zy a2.Dims b5.Dims).bind fun r19 =>
 if ((decide ((r19.length:Int)<(a2.Dims.length:Int)))||(decide ((r19.length:Int)<(b5.Dims.length:Int))))=true then (
 some (⟨([]:List Int),([]:List Int)⟩:Tensor))
 else (
 (Z0g r19).bind fun r24 =>
 (loopM (fun s:(List Int)×Int=>Z10_L1 op1 a2 b5 r19 r24 s.1 s.2) (r24.Data,(0:Int))).bind fun e=>Z10_J1 r24 e))
def Z2v (op1:Int)(p2:Int):Option (Int) :=
 if (op1==1)=true then (
 (Z24 (0:Int) p2).bind fun r4 =>
 some r4)
 else (
 if (op1==2)=true then (
 (Z23 p2).bind fun r7 =>
 some r7)
 else (
 (Z1b p2).bind fun r9 =>
 if (decide (r9≤0))=true then (
 some (0:Int))
 else (
 if (op1==3)=true then (
 some (1:Int))
 else (
 some p2))))
def Z0z_J1 (r12:Tensor)(x39:(List Int)):Option (Tensor) :=
 some (⟨r12.Dims,x39⟩:Tensor)
def Z0z_L1 (op1:Int)(t2:Tensor)(r12:Tensor)(x26:(List Int))(i27:Int):Option (((List Int)×Int)⊕((List Int))) :=
 if (decide (i27<(t2.Data.length:Int)))=true then (
 if (0≤i27∧i27<(t2.Data.length:Int)) then
 (Z2v op1 (ix t2.Data i27)).bind fun r32 =>
 if (0≤i27∧i27<(r12.Data.length:Int)) then
 some (.inl ((x26.set i27.toNat r32),(w64 (i27+1))))
 else none
 else none)
 else (
 some (.inr x26))
def Z0z (op1:Int)(t2:Tensor):Option (Tensor) :=
 (Zo t2).bind fun r7 =>
 if (((!r7)||(decide (op1<1)))||(decide (op1>4)))=true then (
 some (⟨([]:List Int),([]:List Int)⟩:Tensor))
 else (
 (Z0g t2.Dims).bind fun r12 =>
 (loopM (fun s:(List Int)×Int=>Z0z_L1 op1 t2 r12 s.1 s.2) (r12.Data,(0:Int))).bind fun e=>Z0z_J1 r12 e)
def Z1d (t1:Tensor)(axis4:Int):Option (Bool) :=
 (Zo t1).bind fun r6 =>
 some ((r6&&(decide (axis4≥0)))&&(decide (axis4<(t1.Dims.length:Int))))
def Z0h (a1:(List Int))(p3:Int)(p4:Int):Option ((List Int)) :=
 (Zq a1).bind fun r5 =>
 if (0≤p3∧p3<(r5.length:Int)) then
 some (r5.set p3.toNat p4)
 else none
def Z0v_J1 (x39:(List Int)):Option ((List Int)) :=
 some x39
def Z0v_L1 (t1:Tensor)(axis4:Int)(p5:(List Int))(x21:(List Int))(k23:Int):Option (((List Int)×Int)⊕((List Int))) :=
 if (0≤axis4∧axis4<(t1.Dims.length:Int)) then
 if (decide (k23<(ix t1.Dims axis4)))=true then (
 (Z0h p5 axis4 k23).bind fun r28 =>
 (Z13 t1 r28).bind fun r31 =>
 if x21.length+([r31]:List Int).length≤17592186044416 then
 some (.inl ((x21++([r31]:List Int)),(w64 (k23+1))))
 else none)
 else (
 some (.inr x21))
 else none
def Z0v (t1:Tensor)(axis4:Int)(p5:(List Int)):Option ((List Int)) :=
 (loopM (fun s:(List Int)×Int=>Z0v_L1 t1 axis4 p5 s.1 s.2) (([]:List Int),(0:Int))).bind fun e=>Z0v_J1 e
def Za_J9 (r10:Tensor)(x133:(List Int)):Option (Tensor) :=
 some (⟨r10.Dims,x133⟩:Tensor)
def Za_J8 (i73:Int)(x130:(List Int)):Option (((List Int)×Int)⊕((List Int))) :=
 some (.inl (x130,(w64 (i73+1))))
def Za_J7 (r10:Tensor)(x72:(List Int))(i73:Int)(best125:Bool):Option (((List Int)×Int)⊕((List Int))) :=
 if best125=true then (
 if (0≤i73∧i73<(r10.Data.length:Int)) then
 Za_J8 i73 (x72.set i73.toNat (1:Int))
 else none)
 else (
 Za_J8 i73 x72)
def Za_J6 (k102:Int)(best121:Bool):Option ((Bool×Int)⊕(Bool)) :=
 some (.inl (best121,(w64 (k102+1))))
def Za_L2 (t1:Tensor)(axis4:Int)(i73:Int)(r75:(List Int))(r78:(List Int))(best101:Bool)(k102:Int):Option ((Bool×Int)⊕(Bool)) :=
 if (decide (k102<(r78.length:Int)))=true then (
 if (0≤k102∧k102<(r78.length:Int)) then
 (Z1b (ix r78 k102)).bind fun r107 =>
 if (0≤i73∧i73<(t1.Data.length:Int)) then
 (Z1b (ix t1.Data i73)).bind fun r112 =>
 if (decide (r107>r112))=false→(r107==r112)=true→(0≤axis4∧axis4<(r75.length:Int)) then
 if ((decide (r107>r112))||((r107==r112)&&(decide (k102<(ix r75 axis4)))))=true then (
 Za_J6 k102 false)
 else (
 Za_J6 k102 best101)
 else none
 else none
 else none)
 else (
 some (.inr best101))
def Za_L1 (t1:Tensor)(axis4:Int)(r10:Tensor)(x72:(List Int))(i73:Int):Option (((List Int)×Int)⊕((List Int))) :=
 if (decide (i73<(t1.Data.length:Int)))=true then (
 (Zg t1.Dims i73).bind fun r75 =>
 (Z0v t1 axis4 r75).bind fun r78 =>
 (loopM (fun s:Bool×Int=>Za_L2 t1 axis4 i73 r75 r78 s.1 s.2) (true,(0:Int))).bind fun e=>Za_J7 r10 x72 i73 e)
 else (
 some (.inr x72))
def Za (t1:Tensor)(axis4:Int):Option (Tensor) :=
 (Z1d t1 axis4).bind fun r7 =>
 if (!r7)=true then (
 some (⟨([]:List Int),([]:List Int)⟩:Tensor))
 else (
 (Z0g t1.Dims).bind fun r10 =>
 (loopM (fun s:(List Int)×Int=>Za_L1 t1 axis4 r10 s.1 s.2) (r10.Data,(0:Int))).bind fun e=>Za_J9 r10 e)
def Z0u_J1 (p1:Str):Option (Bool) :=
 some (decide ((p1.length:Int)≤6))
def Z0u_L1 (p1:Str)(i6:Int):Option ((Int)⊕((Bool)⊕(Unit))) :=
 if (decide (i6<(p1.length:Int)))=true then (
 if (0≤i6∧i6<(p1.length:Int)) then
 if ((decide ((bt p1 i6)<97))||(decide ((bt p1 i6)>122)))=true then (
 some (.inr (.inl false)))
 else (
 some (.inl (w64 (i6+1))))
 else none)
 else (
 some (.inr (.inr ())))
def Z0u (p1:Str):Option (Bool) :=
 (loopM (fun s:Int=>Z0u_L1 p1 s) (0:Int)).bind fun e=>match e with
 | .inl e=>some e
 | .inr e=>Z0u_J1 p1
def Z0t_J1:Option (Bool) :=
 some false
def Z0t_L1 (p1:Str)(b2:Int)(i6:Int):Option ((Int)⊕((Bool)⊕(Unit))) :=
 if (decide (i6<(p1.length:Int)))=true then (
 if (0≤i6∧i6<(p1.length:Int)) then
 if ((bt p1 i6)==b2)=true then (
 some (.inr (.inl true)))
 else (
 some (.inl (w64 (i6+1))))
 else none)
 else (
 some (.inr (.inr ())))
def Z0t (p1:Str)(b2:Int):Option (Bool) :=
 (loopM (fun s:Int=>Z0t_L1 p1 b2 s) (0:Int)).bind fun e=>match e with
 | .inl e=>some e
 | .inr e=>Z0t_J1
def Z0_J8 (form1:Str)(x11:Int)(groups44:(List Str)):Option ((List Str)×Str×Bool) :=
 some (groups44,(sub form1 (w64 (x11+2)) (form1.length:Int)),true)
def Z0_J7 (form1:Str)(x11:Int)(i94:Int)(x115:Bool):Option ((Int)⊕(((List Str)×Str×Bool)⊕(Unit))) :=
 if (!x115)=false→(0≤(0:Int)∧(0:Int)≤i94∧i94≤((sub form1 (w64 (x11+2)) (form1.length:Int)).length:Int)) then
 if (!x115)=false→(0≤i94∧i94<((sub form1 (w64 (x11+2)) (form1.length:Int)).length:Int)) then
 (gcall (!(!x115)) (Z0t (sub (sub form1 (w64 (x11+2)) (form1.length:Int)) (0:Int) i94) (bt (sub form1 (w64 (x11+2)) (form1.length:Int)) i94))).bind fun r118 =>
 if ((!x115)||r118)=true then (
 some (.inr (.inl (([]:List Str),([]:Str),false))))
 else (
 some (.inl (w64 (i94+1))))
 else none
 else none
def Z0_L5 (form1:Str)(x11:Int)(groups44:(List Str))(i94:Int)(x103:Bool)(k104:Int):Option ((Bool×Int)⊕(Bool)) :=
 if (decide (k104<(groups44.length:Int)))=true then (
 if x103=false→(0≤k104∧k104<(groups44.length:Int)) then
 if x103=false→(0≤i94∧i94<((sub form1 (w64 (x11+2)) (form1.length:Int)).length:Int)) then
 (gcall (!x103) (Z0t (ix groups44 k104) (bt (sub form1 (w64 (x11+2)) (form1.length:Int)) i94))).bind fun r110 =>
 some (.inl ((x103||r110),(w64 (k104+1))))
 else none
 else none)
 else (
 some (.inr x103))
def Z0_L4 (form1:Str)(x11:Int)(groups44:(List Str))(i94:Int):Option ((Int)⊕(((List Str)×Str×Bool)⊕(Unit))) :=
 if (decide (i94<((sub form1 (w64 (x11+2)) (form1.length:Int)).length:Int)))=true then (
 (loopM (fun s:Bool×Int=>Z0_L5 form1 x11 groups44 i94 s.1 s.2) (false,(0:Int))).bind fun e=>Z0_J7 form1 x11 i94 e)
 else (
 some (.inr (.inr ())))
def Z0_J5 (form1:Str)(x11:Int)(groups44:(List Str)):Option ((List Str)×Str×Bool) :=
 (loopM (fun s:Int=>Z0_L4 form1 x11 groups44 s) (0:Int)).bind fun e=>match e with
 | .inl e=>some e
 | .inr e=>Z0_J8 form1 x11 groups44
def Z0_L3 (groups44:(List Str))(i58:Int):Option ((Int)⊕(((List Str)×Str×Bool)⊕(Unit))) :=
 if (decide (i58<(groups44.length:Int)))=true then (
 if (0≤i58∧i58<(groups44.length:Int)) then
 (Z0u (ix groups44 i58)).bind fun r63 =>
 if (!r63)=true then (
 some (.inr (.inl (([]:List Str),([]:Str),false))))
 else (
 some (.inl (w64 (i58+1))))
 else none)
 else (
 some (.inr (.inr ())))
def Z0_J4 (form1:Str)(x11:Int)(groups44:(List Str)):Option ((List Str)×Str×Bool) :=
 if (0≤(w64 (x11+2))∧(w64 (x11+2))≤(form1.length:Int)∧(form1.length:Int)≤(form1.length:Int)) then
 (gcall (!(decide ((groups44.length:Int)>6))) (Z0u (sub form1 (w64 (x11+2)) (form1.length:Int)))).bind fun r47 =>
 if ((decide ((groups44.length:Int)>6))||(!r47))=true then (
 some (([]:List Str),([]:Str),false))
 else (
 (loopM (fun s:Int=>Z0_L3 groups44 s) (0:Int)).bind fun e=>match e with
 | .inl e=>some e
 | .inr e=>Z0_J5 form1 x11 groups44)
 else none
def Z0_J3 (i28:Int)(groups37:(List Str))(x39:Int):Option (((List Str)×Int×Int)⊕((List Str))) :=
 some (.inl (groups37,x39,(w64 (i28+1))))
def Z0_L2 (form1:Str)(x11:Int)(groups25:(List Str))(x27:Int)(i28:Int):Option (((List Str)×Int×Int)⊕((List Str))) :=
 if (decide (i28≤x11))=true then (
 if (i28==x11)=false→(0≤i28∧i28<(form1.length:Int)) then
 if ((i28==x11)||((bt form1 i28)==44))=true then (
 if (0≤x27∧x27≤i28∧i28≤(form1.length:Int)) then
 if groups25.length+([(sub form1 x27 i28)]:List Str).length≤8796093022208 then
 Z0_J3 i28 (groups25++([(sub form1 x27 i28)]:List Str)) (w64 (i28+1))
 else none
 else none)
 else (
 Z0_J3 i28 groups25 x27)
 else none)
 else (
 some (.inr groups25))
def Z0_J1 (form1:Str)(x11:Int):Option ((List Str)×Str×Bool) :=
 if (decide ((w64 (x11+1))≥(form1.length:Int)))=true then (
 some (([]:List Str),([]:Str),false))
 else (
 (loopM (fun s:(List Str)×Int×Int=>Z0_L2 form1 x11 s.1 s.2.1 s.2.2) (([]:List Str),(0:Int),(0:Int))).bind fun e=>Z0_J4 form1 x11 e)
def Z0_L1 (form1:Str)(x6:Int):Option ((Int)⊕(Int)) :=
 if (decide ((w64 (x6+1))<(form1.length:Int)))=true→(0≤x6∧x6≤(w64 (x6+2))∧(w64 (x6+2))≤(form1.length:Int)) then
 if ((decide ((w64 (x6+1))<(form1.length:Int)))&&(!((sub form1 x6 (w64 (x6+2)))==str0)))=true then (
 some (.inl (w64 (x6+1))))
 else (
 some (.inr x6))
 else none
def Z0 (form1:Str):Option ((List Str)×Str×Bool) :=
 (loopM (fun s:Int=>Z0_L1 form1 s) (0:Int)).bind fun e=>Z0_J1 form1 e
def Z2_J12 (letters210:Str)(lengths211:(List Int)):Option (Str×(List Int)×Bool) :=
 some (letters210,lengths211,true)
def Z2_L4 (lengths211:(List Int))(work218:Int)(i219:Int):Option ((Int×Int)⊕((Str×(List Int)×Bool)⊕(Unit))) :=
 if (decide (i219<(lengths211.length:Int)))=true then (
 if (0≤i219∧i219<(lengths211.length:Int)) then
 if (decide ((w64 (work218*(ix lengths211 i219)))>65536))=true then (
 some (.inr (.inl (([]:Str),lengths211,false))))
 else (
 some (.inl ((w64 (work218*(ix lengths211 i219))),(w64 (i219+1)))))
 else none)
 else (
 some (.inr (.inr ())))
def Z2_J11 (letters210:Str)(lengths211:(List Int)):Option (Str×(List Int)×Bool) :=
 (loopM (fun s:Int×Int=>Z2_L4 lengths211 s.1 s.2) ((1:Int),(0:Int))).bind fun e=>match e with
 | .inl e=>some e
 | .inr e=>Z2_J12 letters210 lengths211
def Z2_J10 (k109:Int)(letters201:Str)(lengths202:(List Int)):Option ((Str×(List Int)×Int)⊕((Str×(List Int)×Bool)⊕(Str×(List Int)))) :=
 some (.inl (letters201,lengths202,(w64 (k109+1))))
def Z2_J9 (dims4:(List (List Int)))(k109:Int)(i158:Int)(x170:Int)(letters177:Str)(lengths178:(List Int)):Option ((Str×(List Int)×Int)⊕((Str×(List Int)×Bool)⊕(Str×(List Int)))) :=
 if (0≤x170∧x170<(lengths178.length:Int)) then
 if ((ix lengths178 x170) != 0)=true→(0≤i158∧i158<((ix dims4 k109).length:Int)) then
 if (((ix lengths178 x170) != 0)&&((ix lengths178 x170) != (ix (ix dims4 k109) i158)))=true then (
 some (.inr (.inl (([]:Str),lengths178,false))))
 else (
 if (0≤i158∧i158<((ix dims4 k109).length:Int)) then
 some (.inl (letters177,(lengths178.set x170.toNat (ix (ix dims4 k109) i158)),(w64 (i158+1))))
 else none)
 else none
 else none
def Z2_J8 (groups1:(List Str))(dims4:(List (List Int)))(k109:Int)(letters155:Str)(lengths156:(List Int))(i158:Int)(x170:Int):Option ((Str×(List Int)×Int)⊕((Str×(List Int)×Bool)⊕(Str×(List Int)))) :=
 if (x170==(letters155.length:Int))=true then (
 if (0≤i158∧i158≤(w64 (i158+1))∧(w64 (i158+1))≤((ix groups1 k109).length:Int)) then
 if letters155.length+(sub (ix groups1 k109) i158 (w64 (i158+1))).length≤9223372036854775807 then
 if lengths156.length+([(0:Int)]:List Int).length≤17592186044416 then
 Z2_J9 dims4 k109 i158 x170 (letters155++(sub (ix groups1 k109) i158 (w64 (i158+1)))) (lengths156++([(0:Int)]:List Int))
 else none
 else none
 else none)
 else (
 Z2_J9 dims4 k109 i158 x170 letters155 lengths156)
def Z2_L3 (groups1:(List Str))(k109:Int)(letters155:Str)(i158:Int)(x164:Int):Option ((Int)⊕(Int)) :=
 if (decide (x164<(letters155.length:Int)))=true→(0≤x164∧x164<(letters155.length:Int)) then
 if (decide (x164<(letters155.length:Int)))=true→(0≤i158∧i158<((ix groups1 k109).length:Int)) then
 if ((decide (x164<(letters155.length:Int)))&&((bt letters155 x164) != (bt (ix groups1 k109) i158)))=true then (
 some (.inl (w64 (x164+1))))
 else (
 some (.inr x164))
 else none
 else none
def Z2_L2 (groups1:(List Str))(dims4:(List (List Int)))(k109:Int)(letters155:Str)(lengths156:(List Int))(i158:Int):Option ((Str×(List Int)×Int)⊕((Str×(List Int)×Bool)⊕(Str×(List Int)))) :=
 if (decide (i158<((ix groups1 k109).length:Int)))=true then (
 (loopM (fun s:Int=>Z2_L3 groups1 k109 letters155 i158 s) (0:Int)).bind fun e=>Z2_J8 groups1 dims4 k109 letters155 lengths156 i158 e)
 else (
 some (.inr (.inr (letters155,lengths156))))
def Z2_L1 (groups1:(List Str))(dims4:(List (List Int)))(letters106:Str)(lengths107:(List Int))(k109:Int):Option ((Str×(List Int)×Int)⊕((Str×(List Int)×Bool)⊕(Str×(List Int)))) :=
 if (decide (k109<(groups1.length:Int)))=true then (
 if (0≤k109∧k109<(dims4.length:Int)) then
 if (0≤k109∧k109<(groups1.length:Int)) then
 if (((ix dims4 k109).length:Int) != ((ix groups1 k109).length:Int))=true then (
 some (.inr (.inl (([]:Str),lengths107,false))))
 else (
 (loopM (fun s:Str×(List Int)×Int=>Z2_L2 groups1 dims4 k109 s.1 s.2.1 s.2.2) (letters106,lengths107,(0:Int))).bind fun e=>match e with
 | .inl e=>some (.inr (.inl e))
 | .inr e=>Z2_J10 k109 e.1 e.2)
 else none
 else none)
 else (
 some (.inr (.inr (letters106,lengths107))))
def Z2 (groups1:(List Str))(p3:Str)(dims4:(List (List Int))):Option (Str×(List Int)×Bool) :=
 if (0≤(p3.length:Int)∧(p3.length:Int)≤140737488355328∧8*(p3.length:Int)≤281474976710656) then
 (loopM (fun s:Str×(List Int)×Int=>Z2_L1 groups1 dims4 s.1 s.2.1 s.2.2) (p3,(List.replicate (p3.length:Int).toNat (0:Int)),(0:Int))).bind fun e=>match e with
 | .inl e=>some e
 | .inr e=>Z2_J11 e.1 e.2
 else none
def Ze_J7 (x78:(List Int)):Option ((List Int)) :=
 some x78
def Ze_J6 (i41:Int)(x73:(List Int)):Option (((List Int)×Int)⊕((List Int))) :=
 some (.inl (x73,(w64 (i41+1))))
def Ze_J5 (k57:Int)(x68:(List Int)):Option (((List Int)×Int)⊕((List Int))) :=
 some (.inl (x68,(w64 (k57+1))))
def Ze_L2 (group1:Str)(letters2:Str)(values3:(List Int))(i41:Int)(x55:(List Int))(k57:Int):Option (((List Int)×Int)⊕((List Int))) :=
 if (decide (k57<(letters2.length:Int)))=true then (
 if (0≤k57∧k57<(letters2.length:Int)) then
 if (0≤i41∧i41<(group1.length:Int)) then
 if ((bt letters2 k57)==(bt group1 i41))=true then (
 if (0≤k57∧k57<(values3.length:Int)) then
 if x55.length+([(ix values3 k57)]:List Int).length≤17592186044416 then
 Ze_J5 k57 (x55++([(ix values3 k57)]:List Int))
 else none
 else none)
 else (
 Ze_J5 k57 x55)
 else none
 else none)
 else (
 some (.inr x55))
def Ze_L1 (group1:Str)(letters2:Str)(values3:(List Int))(x39:(List Int))(i41:Int):Option (((List Int)×Int)⊕((List Int))) :=
 if (decide (i41<(group1.length:Int)))=true then (
 (loopM (fun s:(List Int)×Int=>Ze_L2 group1 letters2 values3 i41 s.1 s.2) (x39,(0:Int))).bind fun e=>Ze_J6 i41 e)
 else (
 some (.inr x39))
def Ze (group1:Str)(letters2:Str)(values3:(List Int)):Option ((List Int)) :=
 (loopM (fun s:(List Int)×Int=>Ze_L1 group1 letters2 values3 s.1 s.2) (([]:List Int),(0:Int))).bind fun e=>Ze_J7 e
def Z5_J5 (r54:Tensor)(sum176:(List Int)):Option (Tensor) :=
 some (⟨r54.Dims,sum176⟩:Tensor)
def Z5_J4 (r5:(List Str)×Str×Bool)(r54:Tensor)(sum122:(List Int))(n123:Int)(r125:(List Int))(x164:Int):Option (((List Int)×Int)⊕((List Int))) :=
 if (0≤(0:Int)∧(0:Int)≤(r5.2.1.length:Int)∧(r5.2.1.length:Int)≤(r125.length:Int)) then
 (Z0l r54.Dims (sub r125 (0:Int) (r5.2.1.length:Int))).bind fun r167 =>
 if (0≤r167∧r167<(r54.Data.length:Int)) then
 (Z1j (ix sum122 r167) x164).bind fun r172 =>
 some (.inl ((sum122.set r167.toNat r172),(w64 (n123+1))))
 else none
 else none
def Z5_L4 (ts2:(List Tensor))(r5:(List Str)×Str×Bool)(r43:Str×(List Int)×Bool)(r125:(List Int))(x144:Int)(k145:Int):Option ((Int×Int)⊕(Int)) :=
 if (decide (k145<(r5.1.length:Int)))=true then (
 if (0≤k145∧k145<(ts2.length:Int)) then
 if (0≤k145∧k145<(r5.1.length:Int)) then
 (Ze (ix r5.1 k145) r43.1 r125).bind fun r155 =>
 (Z13 (ix ts2 k145) r155).bind fun r158 =>
 (Z1c x144 r158).bind fun r160 =>
 some (.inl (r160,(w64 (k145+1))))
 else none
 else none)
 else (
 some (.inr x144))
def Z5_L3 (ts2:(List Tensor))(r5:(List Str)×Str×Bool)(r43:Str×(List Int)×Bool)(r54:Tensor)(work71:Int)(sum122:(List Int))(n123:Int):Option (((List Int)×Int)⊕((List Int))) :=
 if (decide (n123<work71))=true then (
 (Zg r43.2.1 n123).bind fun r125 =>
 (loopM (fun s:Int×Int=>Z5_L4 ts2 r5 r43 r125 s.1 s.2) ((1:Int),(0:Int))).bind fun e=>Z5_J4 r5 r54 sum122 n123 r125 e)
 else (
 some (.inr sum122))
def Z5_J2 (ts2:(List Tensor))(r5:(List Str)×Str×Bool)(r43:Str×(List Int)×Bool)(r54:Tensor)(work71:Int):Option (Tensor) :=
 (loopM (fun s:(List Int)×Int=>Z5_L3 ts2 r5 r43 r54 work71 s.1 s.2) (r54.Data,(0:Int))).bind fun e=>Z5_J5 r54 e
def Z5_L2 (r43:Str×(List Int)×Bool)(work63:Int)(i64:Int):Option ((Int×Int)⊕(Int)) :=
 if (decide (i64<(r43.2.1.length:Int)))=true then (
 if (0≤i64∧i64<(r43.2.1.length:Int)) then
 some (.inl ((w64 (work63*(ix r43.2.1 i64))),(w64 (i64+1))))
 else none)
 else (
 some (.inr work63))
def Z5_J1 (ts2:(List Tensor))(r5:(List Str)×Str×Bool)(dims41:(List (List Int))):Option (Tensor) :=
 (Z2 r5.1 r5.2.1 dims41).bind fun r43 =>
 if (!r43.2.2)=false→(0≤(0:Int)∧(0:Int)≤(r5.2.1.length:Int)∧(r5.2.1.length:Int)≤(r43.2.1.length:Int)) then
 (gcall (!(!r43.2.2)) (Zl (sub r43.2.1 (0:Int) (r5.2.1.length:Int)))).bind fun r48 =>
 if ((!r43.2.2)||(!r48))=true then (
 some (⟨([]:List Int),([]:List Int)⟩:Tensor))
 else (
 if (0≤(0:Int)∧(0:Int)≤(r5.2.1.length:Int)∧(r5.2.1.length:Int)≤(r43.2.1.length:Int)) then
 (Z0g (sub r43.2.1 (0:Int) (r5.2.1.length:Int))).bind fun r54 =>
 (loopM (fun s:Int×Int=>Z5_L2 r43 s.1 s.2) ((1:Int),(0:Int))).bind fun e=>Z5_J2 ts2 r5 r43 r54 e
 else none)
 else none
def Z5_L1 (ts2:(List Tensor))(dims23:(List (List Int)))(i25:Int):Option (((List (List Int))×Int)⊕((Tensor)⊕((List (List Int))))) :=
 if (decide (i25<(ts2.length:Int)))=true then (
 if (0≤i25∧i25<(ts2.length:Int)) then
 (Zo (ix ts2 i25)).bind fun r32 =>
 if (!r32)=true then (
 some (.inr (.inl (⟨([]:List Int),([]:List Int)⟩:Tensor))))
 else (
 if dims23.length+([(ix ts2 i25).Dims]:List (List Int)).length≤5864062014805 then
 some (.inl ((dims23++([(ix ts2 i25).Dims]:List (List Int))),(w64 (i25+1))))
 else none)
 else none)
 else (
 some (.inr (.inr dims23)))
def Z5 (form1:Str)(ts2:(List Tensor)):Option (Tensor) :=
 (Z0 form1).bind fun r5 =>
 if ((!r5.2.2)||((r5.1.length:Int) != (ts2.length:Int)))=true then (
 some (⟨([]:List Int),([]:List Int)⟩:Tensor))
 else (
 (loopM (fun s:(List (List Int))×Int=>Z5_L1 ts2 s.1 s.2) (([]:List (List Int)),(0:Int))).bind fun e=>match e with
 | .inl e=>some e
 | .inr e=>Z5_J1 ts2 r5 e)
def Z0f_J3 (v1:View)(p28:(List Int)):Option (View) :=
 some (⟨v1.Dims,p28,v1.Offset,v1.Base⟩:View)
def Z0f_J2 (i15:Int)(p25:(List Int)):Option ((Int×(List Int))⊕((List Int))) :=
 some (.inl ((w64 (i15+1)),p25))
def Z0f_L1 (v1:View)(i15:Int)(p16:(List Int)):Option ((Int×(List Int))⊕((List Int))) :=
 if (decide (i15<(v1.Dims.length:Int)))=true then (
 if (0≤i15∧i15<(v1.Dims.length:Int)) then
 if ((ix v1.Dims i15)==1)=true then (
 if (0≤i15∧i15<(v1.Strides.length:Int)) then
 Z0f_J2 i15 (p16.set i15.toNat (0:Int))
 else none)
 else (
 Z0f_J2 i15 p16)
 else none)
 else (
 some (.inr p16))
def Z0f (v1:View):Option (View) :=
 (loopM (fun s:Int×(List Int)=>Z0f_L1 v1 s.1 s.2) ((0:Int),v1.Strides)).bind fun e=>Z0f_J3 v1 e
def Zv_J1 (r7:(List Int))(r10:Int)(v35:(List Int)):Option (View) :=
 (Z0f (⟨r7,v35,(0:Int),r10⟩:View)).bind fun r37 =>
 some r37
def Zv_L1 (dims1:(List Int))(v21:(List Int))(i23:Int):Option (((List Int)×Int)⊕((List Int))) :=
 if (decide (i23<(dims1.length:Int)))=true then (
 if (0≤(w64 (i23+1))∧(w64 (i23+1))≤(dims1.length:Int)∧(dims1.length:Int)≤(dims1.length:Int)) then
 (Zt (sub dims1 (w64 (i23+1)) (dims1.length:Int))).bind fun r27 =>
 if v21.length+([r27]:List Int).length≤17592186044416 then
 some (.inl ((v21++([r27]:List Int)),(w64 (i23+1))))
 else none
 else none)
 else (
 some (.inr v21))
def Zv (dims1:(List Int)):Option (View) :=
 (Zl dims1).bind fun r4 =>
 if (!r4)=true then (
 some (⟨([]:List Int),([]:List Int),(0:Int),(0:Int)⟩:View))
 else (
 (Zq dims1).bind fun r7 =>
 (Zt dims1).bind fun r10 =>
 (loopM (fun s:(List Int)×Int=>Zv_L1 dims1 s.1 s.2) (([]:List Int),(0:Int))).bind fun e=>Zv_J1 r7 r10 e)
def Z12_J1 (p25:Int):Option (Int) :=
 some p25
def Z12_L1 (v1:View)(index4:(List Int))(p14:Int)(i15:Int):Option ((Int×Int)⊕(Int)) :=
 if (decide (i15<(index4.length:Int)))=true then (
 if (0≤i15∧i15<(index4.length:Int)) then
 if (0≤i15∧i15<(v1.Strides.length:Int)) then
 some (.inl ((w64 (p14+(w64 ((ix index4 i15)*(ix v1.Strides i15))))),(w64 (i15+1))))
 else none
 else none)
 else (
 some (.inr p14))
def Z12 (v1:View)(index4:(List Int)):Option (Int) :=
 (loopM (fun s:Int×Int=>Z12_L1 v1 index4 s.1 s.2) (v1.Offset,(0:Int))).bind fun e=>Z12_J1 e
def Z0a_J1 (x32:(List Int)):Option ((List Int)) :=
 some x32
def Z0a_L1 (v1:View)(r6:Int)(x17:(List Int))(k19:Int):Option (((List Int)×Int)⊕((List Int))) :=
 if (decide (k19<r6))=true then (
 (Zg v1.Dims k19).bind fun r21 =>
 (Z12 v1 r21).bind fun r24 =>
 if x17.length+([r24]:List Int).length≤17592186044416 then
 some (.inl ((x17++([r24]:List Int)),(w64 (k19+1))))
 else none)
 else (
 some (.inr x17))
def Z0a (v1:View):Option ((List Int)) :=
 (Zt v1.Dims).bind fun r6 =>
 (loopM (fun s:(List Int)×Int=>Z0a_L1 v1 r6 s.1 s.2) (([]:List Int),(0:Int))).bind fun e=>Z0a_J1 e
def Z8_J2:Option (Bool) :=
 some true
def Z8_L2 (v1:View)(r27:(List Int))(i36:Int):Option ((Int)⊕((Bool)⊕(Unit))) :=
 if (decide (i36<(r27.length:Int)))=true then (
 if (0≤i36∧i36<(r27.length:Int)) then
 if ((decide ((ix r27 i36)<0))||(decide ((ix r27 i36)≥v1.Base)))=true then (
 some (.inr (.inl false)))
 else (
 some (.inl (w64 (i36+1))))
 else none)
 else (
 some (.inr (.inr ())))
def Z8_J1 (v1:View):Option (Bool) :=
 (Z0a v1).bind fun r27 =>
 (loopM (fun s:Int=>Z8_L2 v1 r27 s) (0:Int)).bind fun e=>match e with
 | .inl e=>some e
 | .inr e=>Z8_J2
def Z8_L1 (v1:View)(i19:Int):Option ((Int)⊕((Bool)⊕(Unit))) :=
 if (decide (i19<(v1.Strides.length:Int)))=true then (
 if (0≤i19∧i19<(v1.Strides.length:Int)) then
 if ((decide ((ix v1.Strides i19)<(-4096:Int)))||(decide ((ix v1.Strides i19)>4096)))=true then (
 some (.inr (.inl false)))
 else (
 some (.inl (w64 (i19+1))))
 else none)
 else (
 some (.inr (.inr ())))
def Z8 (v1:View):Option (Bool) :=
 (Zl v1.Dims).bind fun r5 =>
 if ((((((!r5)||((v1.Strides.length:Int) != (v1.Dims.length:Int)))||(decide (v1.Base<1)))||(decide (v1.Base>4096)))||(decide (v1.Offset<0)))||(decide (v1.Offset≥v1.Base)))=true then (
 some false)
 else (
 (loopM (fun s:Int=>Z8_L1 v1 s) (0:Int)).bind fun e=>match e with
 | .inl e=>some e
 | .inr e=>Z8_J1 v1)
def Z02_J3 (v1:View)(r15:(List Int))(x64:(List Int)):Option (View) :=
 some (⟨r15,x64,v1.Offset,v1.Base⟩:View)
def Z02_J2 (i43:Int)(x61:(List Int)):Option (((List Int)×Int)⊕((View)⊕((List Int)))) :=
 some (.inl (x61,(w64 (i43+1))))
def Z02_L1 (v1:View)(dims4:(List Int))(x42:(List Int))(i43:Int):Option (((List Int)×Int)⊕((View)⊕((List Int)))) :=
 if (decide (i43<(v1.Dims.length:Int)))=true then (
 if (0≤i43∧i43<(v1.Dims.length:Int)) then
 if (0≤(w64 ((w64 ((dims4.length:Int) - (v1.Dims.length:Int)))+i43))∧(w64 ((w64 ((dims4.length:Int) - (v1.Dims.length:Int)))+i43))<(dims4.length:Int)) then
 if ((ix v1.Dims i43)==(ix dims4 (w64 ((w64 ((dims4.length:Int) - (v1.Dims.length:Int)))+i43))))=true then (
 if (0≤i43∧i43<(v1.Strides.length:Int)) then
 if (0≤(w64 ((w64 ((dims4.length:Int) - (v1.Dims.length:Int)))+i43))∧(w64 ((w64 ((dims4.length:Int) - (v1.Dims.length:Int)))+i43))<((List.replicate (dims4.length:Int).toNat (0:Int)).length:Int)) then
 (nm (x42.set (w64 ((w64 ((dims4.length:Int) - (v1.Dims.length:Int)))+i43)).toNat (ix v1.Strides i43))).bind fun l58 =>
 Z02_J2 i43 l58
 else none
 else none)
 else (
 if ((ix v1.Dims i43) != 1)=true then (
 some (.inr (.inl (⟨([]:List Int),([]:List Int),(0:Int),(0:Int)⟩:View))))
 else (
 Z02_J2 i43 x42))
 else none
 else none)
 else (
 some (.inr (.inr x42)))
def Z02 (v1:View)(dims4:(List Int)):Option (View) :=
 (Z8 v1).bind fun r8 =>
 (gcall (!(!r8)) (Zl dims4)).bind fun r10 =>
 if (((!r8)||(!r10))||(decide ((w64 ((dims4.length:Int) - (v1.Dims.length:Int)))<0)))=true then (
 some (⟨([]:List Int),([]:List Int),(0:Int),(0:Int)⟩:View))
 else (
 (Zq dims4).bind fun r15 =>
 if (0≤(dims4.length:Int)∧(dims4.length:Int)≤140737488355328∧8*(dims4.length:Int)≤281474976710656) then
 (loopM (fun s:(List Int)×Int=>Z02_L1 v1 dims4 s.1 s.2) ((List.replicate (dims4.length:Int).toNat (0:Int)),(0:Int))).bind fun e=>match e with
 | .inl e=>some e
 | .inr e=>Z02_J3 v1 r15 e
 else none)
def Z00_J1 (r17:(List Int))(x52:(List Int)):Option (Tensor) :=
 some (⟨r17,x52⟩:Tensor)
def Z00_L1 (t1:Tensor)(r21:(List Int))(x35:(List Int))(i37:Int):Option (((List Int)×Int)⊕((List Int))) :=
 if (decide (i37<(r21.length:Int)))=true then (
 if (0≤i37∧i37<(r21.length:Int)) then
 if (0≤(ix r21 i37)∧(ix r21 i37)<(t1.Data.length:Int)) then
 if x35.length+([(ix t1.Data (ix r21 i37))]:List Int).length≤17592186044416 then
 some (.inl ((x35++([(ix t1.Data (ix r21 i37))]:List Int)),(w64 (i37+1))))
 else none
 else none
 else none)
 else (
 some (.inr x35))
def Z00 (t1:Tensor)(v4:View):Option (Tensor) :=
 (Zo t1).bind fun r10 =>
 (gcall (!(!r10)) (Z8 v4)).bind fun r12 =>
 if (((!r10)||(!r12))||(v4.Base != (t1.Data.length:Int)))=true then (
 some (⟨([]:List Int),([]:List Int)⟩:Tensor))
 else (
 (Zq v4.Dims).bind fun r17 =>
 (Z0a v4).bind fun r21 =>
 (loopM (fun s:(List Int)×Int=>Z00_L1 t1 r21 s.1 s.2) (([]:List Int),(0:Int))).bind fun e=>Z00_J1 r17 e)
def Z09_J3 (v1:View)(r19:(List Int))(r22:(List Int))(x69:(List Int)):Option (View) :=
 (Z8 (⟨r22,x69,(ix r19 0),v1.Base⟩:View)).bind fun r71 =>
 (gcall (!(!r71)) (Z0a (⟨r22,x69,(ix r19 0),v1.Base⟩:View))).bind fun r73 =>
 (gcall (!(!r71)) (Zz r73 r19)).bind fun r76 =>
 if ((!r71)||(!r76))=true then (
 some (⟨([]:List Int),([]:List Int),(0:Int),(0:Int)⟩:View))
 else (
 some (⟨r22,x69,(ix r19 0),v1.Base⟩:View))
def Z09_J2 (x47:(List Int))(i49:Int)(x62:Int):Option (((List Int)×Int)⊕((List Int))) :=
 if x47.length+([x62]:List Int).length≤17592186044416 then
 some (.inl ((x47++([x62]:List Int)),(w64 (i49+1))))
 else none
def Z09_L1 (dims4:(List Int))(r19:(List Int))(x47:(List Int))(i49:Int):Option (((List Int)×Int)⊕((List Int))) :=
 if (decide (i49<(dims4.length:Int)))=true then (
 if (0≤i49∧i49<(dims4.length:Int)) then
 if (decide ((ix dims4 i49)>1))=true then (
 if (0≤(w64 (i49+1))∧(w64 (i49+1))≤(dims4.length:Int)∧(dims4.length:Int)≤(dims4.length:Int)) then
 (Zt (sub dims4 (w64 (i49+1)) (dims4.length:Int))).bind fun r57 =>
 if (0≤r57∧r57<(r19.length:Int)) then
 Z09_J2 x47 i49 (w64 ((ix r19 r57) - (ix r19 0)))
 else none
 else none)
 else (
 Z09_J2 x47 i49 (0:Int))
 else none)
 else (
 some (.inr x47))
def Z09 (v1:View)(dims4:(List Int)):Option (View) :=
 (Z8 v1).bind fun r8 =>
 (gcall (!(!r8)) (Zl dims4)).bind fun r10 =>
 (gcall (!((!r8)||(!r10))) (Zt dims4)).bind fun r12 =>
 (gcall (!((!r8)||(!r10))) (Zt v1.Dims)).bind fun r14 =>
 if (((!r8)||(!r10))||(r12 != r14))=true then (
 some (⟨([]:List Int),([]:List Int),(0:Int),(0:Int)⟩:View))
 else (
 (Z0a v1).bind fun r19 =>
 (Zq dims4).bind fun r22 =>
 if (0≤(0:Int)∧(0:Int)<(r19.length:Int)) then
 (loopM (fun s:(List Int)×Int=>Z09_L1 dims4 r19 s.1 s.2) (([]:List Int),(0:Int))).bind fun e=>Z09_J3 v1 r19 r22 e
 else none)
def Z25 (v1:View)(axis4:Int):Option (Bool) :=
 (Z8 v1).bind fun r6 =>
 some ((r6&&(decide (axis4≥0)))&&(decide (axis4<(v1.Dims.length:Int))))
def Z27 (v1:View):Option (View) :=
 (Zq v1.Dims).bind fun r6 =>
 (Zq v1.Strides).bind fun r9 =>
 some (⟨r6,r9,v1.Offset,v1.Base⟩:View)
def Z28 (v1:View):Option (View) :=
 (Z8 v1).bind fun r6 =>
 if (!r6)=true then (
 some (⟨([]:List Int),([]:List Int),(0:Int),(0:Int)⟩:View))
 else (
 some v1)
def Z17_J1 (axis4:Int)(p5:Int)(count6:Int)(r27:View)(x43:(List Int)):Option (View) :=
 (Z28 (⟨(r27.Dims.set axis4.toNat count6),x43,(w64 (r27.Offset+(w64 (p5*(ix r27.Strides axis4))))),r27.Base⟩:View)).bind fun r44 =>
 some r44
def Z17 (v1:View)(axis4:Int)(p5:Int)(count6:Int)(step7:Int):Option (View) :=
 (Z25 v1 axis4).bind fun r10 =>
 if ((((((!r10)||(decide (count6<1)))||(decide (count6>4096)))||(decide (step7<(-4096:Int))))||(decide (step7>4096)))||(decide (p5<0)))=false→(0≤axis4∧axis4<(v1.Dims.length:Int)) then
 if (((((((!r10)||(decide (count6<1)))||(decide (count6>4096)))||(decide (step7<(-4096:Int))))||(decide (step7>4096)))||(decide (p5<0)))||(decide (p5≥(ix v1.Dims axis4))))=true then (
 some (⟨([]:List Int),([]:List Int),(0:Int),(0:Int)⟩:View))
 else (
 if (decide ((w64 (p5+(w64 ((w64 (count6 - 1))*step7))))<0))=false→(0≤axis4∧axis4<(v1.Dims.length:Int)) then
 if ((decide ((w64 (p5+(w64 ((w64 (count6 - 1))*step7))))<0))||(decide ((w64 (p5+(w64 ((w64 (count6 - 1))*step7))))≥(ix v1.Dims axis4))))=true then (
 some (⟨([]:List Int),([]:List Int),(0:Int),(0:Int)⟩:View))
 else (
 (Z27 v1).bind fun r27 =>
 if (0≤axis4∧axis4<(r27.Strides.length:Int)) then
 if (0≤axis4∧axis4<(r27.Dims.length:Int)) then
 (nm (r27.Strides.set axis4.toNat (w64 ((ix r27.Strides axis4)*step7)))).bind fun l40 =>
 if (count6==1)=true then (
 Z17_J1 axis4 p5 count6 r27 (l40.set axis4.toNat (0:Int)))
 else (
 Z17_J1 axis4 p5 count6 r27 l40)
 else none
 else none)
 else none)
 else none
def Z1r (t1:Tensor)(index4:(List Int))(p6:Int):Option ((List Int)) :=
 (Z0l t1.Dims index4).bind fun r8 =>
 if (0≤r8∧r8<(t1.Data.length:Int)) then
 some (t1.Data.set r8.toNat p6)
 else none
def Z0r_J1 (r28:Tensor)(x67:(List Int)):Option (Tensor) :=
 some (⟨r28.Dims,x67⟩:Tensor)
def Z0r_L1 (t1:Tensor)(axis4:Int)(before5:Int)(gap7:Int)(r28:Tensor)(x48:(List Int))(i49:Int):Option (((List Int)×Int)⊕((List Int))) :=
 if (decide (i49<(t1.Data.length:Int)))=true then (
 (Zg t1.Dims i49).bind fun r51 =>
 if (0≤axis4∧axis4<(r51.length:Int)) then
 (Z0h r51 axis4 (w64 (before5+(w64 ((ix r51 axis4)*(w64 (gap7+1))))))).bind fun r57 =>
 if (0≤i49∧i49<(t1.Data.length:Int)) then
 (Z1r (⟨r28.Dims,x48⟩:Tensor) r57 (ix t1.Data i49)).bind fun r63 =>
 some (.inl (r63,(w64 (i49+1))))
 else none
 else none)
 else (
 some (.inr x48))
def Z0r (t1:Tensor)(axis4:Int)(before5:Int)(after6:Int)(gap7:Int):Option (Tensor) :=
 (Z1d t1 axis4).bind fun r10 =>
 if (((((((!r10)||(decide (before5<0)))||(decide (before5>4096)))||(decide (after6<0)))||(decide (after6>4096)))||(decide (gap7<0)))||(decide (gap7>4096)))=true then (
 some (⟨([]:List Int),([]:List Int)⟩:Tensor))
 else (
 if (0≤axis4∧axis4<(t1.Dims.length:Int)) then
 (Z0h t1.Dims axis4 (w64 ((w64 ((w64 (before5+(ix t1.Dims axis4)))+(w64 ((w64 ((ix t1.Dims axis4) - 1))*gap7))))+after6))).bind fun r22 =>
 (Zl r22).bind fun r25 =>
 if (!r25)=true then (
 some (⟨([]:List Int),([]:List Int)⟩:Tensor))
 else (
 (Z0g r22).bind fun r28 =>
 (loopM (fun s:(List Int)×Int=>Z0r_L1 t1 axis4 before5 gap7 r28 s.1 s.2) (r28.Data,(0:Int))).bind fun e=>Z0r_J1 r28 e)
 else none)
def Z0q_J1 (r25:Tensor)(x70:(List Int)):Option (Tensor) :=
 some (⟨r25.Dims,x70⟩:Tensor)
def Z0q_L1 (t1:Tensor)(axis4:Int)(index5:(List Int))(r19:(List Int))(r25:Tensor)(x48:(List Int))(i49:Int):Option (((List Int)×Int)⊕((List Int))) :=
 if (decide (i49<(r25.Data.length:Int)))=true then (
 (Zg r19 i49).bind fun r51 =>
 if (0≤axis4∧axis4<(r51.length:Int)) then
 if (0≤(ix r51 axis4)∧(ix r51 axis4)<(index5.length:Int)) then
 (Z0h r51 axis4 (ix index5 (ix r51 axis4))).bind fun r60 =>
 (Z13 t1 r60).bind fun r63 =>
 if (0≤i49∧i49<(r25.Data.length:Int)) then
 some (.inl ((x48.set i49.toNat r63),(w64 (i49+1))))
 else none
 else none
 else none)
 else (
 some (.inr x48))
def Z0q (t1:Tensor)(axis4:Int)(index5:(List Int)):Option (Tensor) :=
 (Z1d t1 axis4).bind fun r9 =>
 if ((!r9)||((index5.length:Int)==0))=false→(0≤axis4∧axis4<(t1.Dims.length:Int)) then
 (gcall (!((!r9)||((index5.length:Int)==0))) (Z0i index5 (ix t1.Dims axis4))).bind fun r14 =>
 if (((!r9)||((index5.length:Int)==0))||(!r14))=true then (
 some (⟨([]:List Int),([]:List Int)⟩:Tensor))
 else (
 (Z0h t1.Dims axis4 (index5.length:Int)).bind fun r19 =>
 (Zl r19).bind fun r22 =>
 if (!r22)=true then (
 some (⟨([]:List Int),([]:List Int)⟩:Tensor))
 else (
 (Z0g r19).bind fun r25 =>
 (loopM (fun s:(List Int)×Int=>Z0q_L1 t1 axis4 index5 r19 r25 s.1 s.2) (r25.Data,(0:Int))).bind fun e=>Z0q_J1 r25 e))
 else none
def Z0s_J1 (r26:Tensor)(x79:(List Int)):Option (Tensor) :=
 some (⟨r26.Dims,x79⟩:Tensor)
def Z0s_L1 (t1:Tensor)(axis4:Int)(index5:(List Int))(r26:Tensor)(x53:(List Int))(i54:Int):Option (((List Int)×Int)⊕((List Int))) :=
 if (decide (i54<(t1.Data.length:Int)))=true then (
 (Zg t1.Dims i54).bind fun r56 =>
 if (0≤axis4∧axis4<(r56.length:Int)) then
 if (0≤(ix r56 axis4)∧(ix r56 axis4)<(index5.length:Int)) then
 (Z0h r56 axis4 (ix index5 (ix r56 axis4))).bind fun r65 =>
 (Z13 (⟨r26.Dims,x53⟩:Tensor) r65).bind fun r68 =>
 if (0≤i54∧i54<(t1.Data.length:Int)) then
 (Z1j r68 (ix t1.Data i54)).bind fun r73 =>
 (Z1r (⟨r26.Dims,x53⟩:Tensor) r65 r73).bind fun r75 =>
 some (.inl (r75,(w64 (i54+1))))
 else none
 else none
 else none)
 else (
 some (.inr x53))
def Z0s (t1:Tensor)(axis4:Int)(index5:(List Int))(n7:Int):Option (Tensor) :=
 (Z1d t1 axis4).bind fun r10 =>
 if (!r10)=false→(0≤axis4∧axis4<(t1.Dims.length:Int)) then
 (gcall (!((!r10)||((index5.length:Int) != (ix t1.Dims axis4)))) (Z0i index5 n7)).bind fun r15 =>
 if (((!r10)||((index5.length:Int) != (ix t1.Dims axis4)))||(!r15))=true then (
 some (⟨([]:List Int),([]:List Int)⟩:Tensor))
 else (
 (Z0h t1.Dims axis4 n7).bind fun r20 =>
 (Zl r20).bind fun r23 =>
 if (!r23)=true then (
 some (⟨([]:List Int),([]:List Int)⟩:Tensor))
 else (
 (Z0g r20).bind fun r26 =>
 (loopM (fun s:(List Int)×Int=>Z0s_L1 t1 axis4 index5 r26 s.1 s.2) (r26.Data,(0:Int))).bind fun e=>Z0s_J1 r26 e))
 else none
def Z0c_J2 (size5:Int)(r18:View)(l33:(List Int))(x41:(List Int))(x46:Int):Option (View) :=
 if x41.length+([x46]:List Int).length≤17592186044416 then
 (Z28 (⟨(l33++([size5]:List Int)),(x41++([x46]:List Int)),r18.Offset,r18.Base⟩:View)).bind fun r50 =>
 some r50
 else none
def Z0c_J1 (v1:View)(axis4:Int)(size5:Int)(r18:View)(l33:(List Int))(x41:(List Int)):Option (View) :=
 if l33.length+([size5]:List Int).length≤17592186044416 then
 if (size5==1)=true then (
 Z0c_J2 size5 r18 l33 x41 (0:Int))
 else (
 Z0c_J2 size5 r18 l33 x41 (ix v1.Strides axis4))
 else none
def Z0c (v1:View)(axis4:Int)(size5:Int)(step6:Int):Option (View) :=
 (Z25 v1 axis4).bind fun r9 =>
 if (((!r9)||(decide (size5<1)))||(decide (step6<1)))=false→(0≤axis4∧axis4<(v1.Dims.length:Int)) then
 if ((((!r9)||(decide (size5<1)))||(decide (step6<1)))||(decide (size5>(ix v1.Dims axis4))))=true then (
 some (⟨([]:List Int),([]:List Int),(0:Int),(0:Int)⟩:View))
 else (
 (Z27 v1).bind fun r18 =>
 if (0≤axis4∧axis4<(v1.Dims.length:Int)) then
 if step6≠0 then
 if (0≤axis4∧axis4<(v1.Strides.length:Int)) then
 if (0≤axis4∧axis4<(r18.Dims.length:Int)) then
 (nm (r18.Dims.set axis4.toNat (w64 ((w64 ((w64 ((ix v1.Dims axis4) - size5)).tdiv step6))+1)))).bind fun l33 =>
 if (0≤axis4∧axis4<(r18.Strides.length:Int)) then
 if (decide ((w64 ((w64 ((w64 ((ix v1.Dims axis4) - size5)).tdiv step6))+1))>1))=true then (
 (nm ((r18.Strides.set axis4.toNat (0:Int)).set axis4.toNat (w64 ((ix v1.Strides axis4)*step6)))).bind fun l39 =>
 Z0c_J1 v1 axis4 size5 r18 l33 l39)
 else (
 Z0c_J1 v1 axis4 size5 r18 l33 (r18.Strides.set axis4.toNat (0:Int)))
 else none
 else none
 else none
 else none
 else none)
 else none
def Z0p_J1 (r31:Tensor)(x84:(List Int)):Option (Tensor) :=
 some (⟨r31.Dims,x84⟩:Tensor)
def Z0p_L1 (t1:Tensor)(axis4:Int)(step5:Int)(r31:Tensor)(x58:(List Int))(i59:Int):Option (((List Int)×Int)⊕((List Int))) :=
 if (decide (i59<(t1.Data.length:Int)))=true then (
 (Zg t1.Dims i59).bind fun r61 =>
 if (0≤axis4∧axis4<(r61.length:Int)) then
 if (0≤(w64 ((t1.Dims.length:Int) - 1))∧(w64 ((t1.Dims.length:Int) - 1))<(r61.length:Int)) then
 (Z0h r61 axis4 (w64 ((w64 ((ix r61 axis4)*step5))+(ix r61 (w64 ((t1.Dims.length:Int) - 1)))))).bind fun r68 =>
 if (0≤(0:Int)∧(0:Int)≤(w64 ((t1.Dims.length:Int) - 1))∧(w64 ((t1.Dims.length:Int) - 1))≤(r68.length:Int)) then
 (Z13 (⟨r31.Dims,x58⟩:Tensor) (sub r68 (0:Int) (w64 ((t1.Dims.length:Int) - 1)))).bind fun r73 =>
 if (0≤i59∧i59<(t1.Data.length:Int)) then
 (Z1j r73 (ix t1.Data i59)).bind fun r78 =>
 (Z1r (⟨r31.Dims,x58⟩:Tensor) (sub r68 (0:Int) (w64 ((t1.Dims.length:Int) - 1))) r78).bind fun r80 =>
 some (.inl (r80,(w64 (i59+1))))
 else none
 else none
 else none
 else none)
 else (
 some (.inr x58))
def Z0p (t1:Tensor)(axis4:Int)(step5:Int)(n6:Int):Option (Tensor) :=
 (Z1d t1 axis4).bind fun r9 =>
 if (((((!r9)||(axis4==(w64 ((t1.Dims.length:Int) - 1))))||(decide (step5<1)))||(decide (n6<1)))||(decide (n6>4096)))=true then (
 some (⟨([]:List Int),([]:List Int)⟩:Tensor))
 else (
 if (0≤(w64 ((t1.Dims.length:Int) - 1))∧(w64 ((t1.Dims.length:Int) - 1))<(t1.Dims.length:Int)) then
 if (decide ((ix t1.Dims (w64 ((t1.Dims.length:Int) - 1)))>n6))=false→step5≠0 then
 if (decide ((ix t1.Dims (w64 ((t1.Dims.length:Int) - 1)))>n6))=false→(0≤axis4∧axis4<(t1.Dims.length:Int)) then
 if ((decide ((ix t1.Dims (w64 ((t1.Dims.length:Int) - 1)))>n6))||((w64 ((w64 ((w64 (n6 - (ix t1.Dims (w64 ((t1.Dims.length:Int) - 1))))).tdiv step5))+1)) != (ix t1.Dims axis4)))=true then (
 some (⟨([]:List Int),([]:List Int)⟩:Tensor))
 else (
 (Z0h t1.Dims axis4 n6).bind fun r23 =>
 if (0≤(0:Int)∧(0:Int)≤(w64 ((t1.Dims.length:Int) - 1))∧(w64 ((t1.Dims.length:Int) - 1))≤(r23.length:Int)) then
 (Zl (sub r23 (0:Int) (w64 ((t1.Dims.length:Int) - 1)))).bind fun r28 =>
 if (!r28)=true then (
 some (⟨([]:List Int),([]:List Int)⟩:Tensor))
 else (
 (Z0g (sub r23 (0:Int) (w64 ((t1.Dims.length:Int) - 1)))).bind fun r31 =>
 (loopM (fun s:(List Int)×Int=>Z0p_L1 t1 axis4 step5 r31 s.1 s.2) (r31.Data,(0:Int))).bind fun e=>Z0p_J1 r31 e)
 else none)
 else none
 else none
 else none)
def Z1_J2 (n1:Node)(a6:(List Tensor))(x43:Bool):Option (Tensor) :=
 if x43=true then (
 if (0≤(0:Int)∧(0:Int)<(a6.length:Int)) then
 (Z0z (w64 ((w64 (n1.Op - 6))+1)) (ix a6 0)).bind fun r50 =>
 some r50
 else none)
 else (
 if (n1.Op==10)=true then (
 if (0≤(0:Int)∧(0:Int)<(a6.length:Int)) then
 if (0≤(0:Int)∧(0:Int)<(n1.Ints.length:Int)) then
 (Za (ix a6 0) (ix n1.Ints 0)).bind fun r63 =>
 some r63
 else none
 else none)
 else (
 if (n1.Op==11)=true then (
 (Z5 n1.Form a6).bind fun r68 =>
 some r68)
 else (
 if (n1.Op==12)=true then (
 if (0≤(0:Int)∧(0:Int)<(a6.length:Int)) then
 (Zv ((ix a6 0).Dims)).bind fun r78 =>
 (Z02 r78 n1.Dims).bind fun r82 =>
 (Z00 (ix a6 0) r82).bind fun r86 =>
 some r86
 else none)
 else (
 if (n1.Op==13)=true then (
 if (0≤(0:Int)∧(0:Int)<(a6.length:Int)) then
 (Zv ((ix a6 0).Dims)).bind fun r96 =>
 (Z09 r96 n1.Dims).bind fun r100 =>
 (Z00 (ix a6 0) r100).bind fun r104 =>
 some r104
 else none)
 else (
 if (n1.Op==14)=true then (
 if (0≤(3:Int)∧(3:Int)<(n1.Ints.length:Int)) then
 if (decide ((ix n1.Ints 3)<1))=true then (
 some (⟨([]:List Int),([]:List Int)⟩:Tensor))
 else (
 if (0≤(0:Int)∧(0:Int)<(a6.length:Int)) then
 (Zv ((ix a6 0).Dims)).bind fun r118 =>
 if (0≤(0:Int)∧(0:Int)<(n1.Ints.length:Int)) then
 if (0≤(1:Int)∧(1:Int)<(n1.Ints.length:Int)) then
 if (0≤(2:Int)∧(2:Int)<(n1.Ints.length:Int)) then
 (Z17 r118 (ix n1.Ints 0) (ix n1.Ints 1) (ix n1.Ints 2) (ix n1.Ints 3)).bind fun r125 =>
 (Z00 (ix a6 0) r125).bind fun r129 =>
 some r129
 else none
 else none
 else none
 else none)
 else none)
 else (
 if (n1.Op==15)=true then (
 if (0≤(0:Int)∧(0:Int)<(a6.length:Int)) then
 if (0≤(0:Int)∧(0:Int)<(n1.Ints.length:Int)) then
 if (0≤(1:Int)∧(1:Int)<(n1.Ints.length:Int)) then
 if (0≤(2:Int)∧(2:Int)<(n1.Ints.length:Int)) then
 if (0≤(3:Int)∧(3:Int)<(n1.Ints.length:Int)) then
 (Z0r (ix a6 0) (ix n1.Ints 0) (ix n1.Ints 1) (ix n1.Ints 2) (ix n1.Ints 3)).bind fun r145 =>
 some r145
 else none
 else none
 else none
 else none
 else none)
 else (
 if (n1.Op==16)=true then (
 if (0≤(0:Int)∧(0:Int)<(a6.length:Int)) then
 if (0≤(0:Int)∧(0:Int)<(n1.Ints.length:Int)) then
 if (0≤(1:Int)∧(1:Int)≤(n1.Ints.length:Int)∧(n1.Ints.length:Int)≤(n1.Ints.length:Int)) then
 (Z0q (ix a6 0) (ix n1.Ints 0) (sub n1.Ints (1:Int) (n1.Ints.length:Int))).bind fun r160 =>
 some r160
 else none
 else none
 else none)
 else (
 if (n1.Op==17)=true then (
 if (0≤(0:Int)∧(0:Int)<(a6.length:Int)) then
 if (0≤(0:Int)∧(0:Int)<(n1.Ints.length:Int)) then
 if (0≤(2:Int)∧(2:Int)≤(n1.Ints.length:Int)∧(n1.Ints.length:Int)≤(n1.Ints.length:Int)) then
 if (0≤(1:Int)∧(1:Int)<(n1.Ints.length:Int)) then
 (Z0s (ix a6 0) (ix n1.Ints 0) (sub n1.Ints (2:Int) (n1.Ints.length:Int)) (ix n1.Ints 1)).bind fun r176 =>
 some r176
 else none
 else none
 else none
 else none)
 else (
 if (n1.Op==18)=true then (
 if (0≤(0:Int)∧(0:Int)<(a6.length:Int)) then
 (Zv ((ix a6 0).Dims)).bind fun r186 =>
 if (0≤(0:Int)∧(0:Int)<(n1.Ints.length:Int)) then
 if (0≤(1:Int)∧(1:Int)<(n1.Ints.length:Int)) then
 if (0≤(2:Int)∧(2:Int)<(n1.Ints.length:Int)) then
 (Z0c r186 (ix n1.Ints 0) (ix n1.Ints 1) (ix n1.Ints 2)).bind fun r195 =>
 (Z00 (ix a6 0) r195).bind fun r199 =>
 some r199
 else none
 else none
 else none
 else none)
 else (
 if (0≤(0:Int)∧(0:Int)<(a6.length:Int)) then
 if (0≤(0:Int)∧(0:Int)<(n1.Ints.length:Int)) then
 if (0≤(1:Int)∧(1:Int)<(n1.Ints.length:Int)) then
 if (0≤(2:Int)∧(2:Int)<(n1.Ints.length:Int)) then
 (Z0p (ix a6 0) (ix n1.Ints 0) (ix n1.Ints 1) (ix n1.Ints 2)).bind fun r213 =>
 some r213
 else none
 else none
 else none
 else none))))))))))
def Z1_J1 (n1:Node)(a6:(List Tensor))(x23:Bool):Option (Tensor) :=
 if x23=true then (
 if (0≤(0:Int)∧(0:Int)<(a6.length:Int)) then
 if (0≤(1:Int)∧(1:Int)<(a6.length:Int)) then
 (Zz ((ix a6 0).Dims) ((ix a6 1).Dims)).bind fun r33 =>
 if (!r33)=true then (
 some (⟨([]:List Int),([]:List Int)⟩:Tensor))
 else (
 (Z10 (w64 ((w64 (n1.Op - 3))+1)) (ix a6 0) (ix a6 1)).bind fun r36 =>
 some r36)
 else none
 else none)
 else (
 if (n1.Op==6)=true then (
 Z1_J2 n1 a6 (n1.Op==6))
 else (
 if (n1.Op==7)=true then (
 Z1_J2 n1 a6 (n1.Op==7))
 else (
 if (n1.Op==8)=true then (
 Z1_J2 n1 a6 (n1.Op==8))
 else (
 Z1_J2 n1 a6 (n1.Op==9)))))
def Z1 (n1:Node)(a6:(List Tensor)):Option (Tensor) :=
 if (n1.Op==2)=true then (
 (Zo (⟨n1.Dims,n1.Data⟩:Tensor)).bind fun r12 =>
 if (!r12)=true then (
 some (⟨([]:List Int),([]:List Int)⟩:Tensor))
 else (
 (Zq n1.Dims).bind fun r15 =>
 (Zq n1.Data).bind fun r18 =>
 some (⟨r15,r18⟩:Tensor)))
 else (
 if (n1.Op==3)=true then (
 Z1_J1 n1 a6 (n1.Op==3))
 else (
 if (n1.Op==4)=true then (
 Z1_J1 n1 a6 (n1.Op==4))
 else (
 Z1_J1 n1 a6 (n1.Op==5))))
def Z0o_J1 (r8:Tensor)(t29:(List Int)):Option (Tensor) :=
 some (⟨r8.Dims,t29⟩:Tensor)
def Z0o_L1 (p3:Int)(r8:Tensor)(t19:(List Int))(i20:Int):Option (((List Int)×Int)⊕((List Int))) :=
 if (decide (i20<(r8.Data.length:Int)))=true then (
 (Zn p3).bind fun r22 =>
 if (0≤i20∧i20<(r8.Data.length:Int)) then
 some (.inl ((t19.set i20.toNat r22),(w64 (i20+1))))
 else none)
 else (
 some (.inr t19))
def Z0o (dims1:(List Int))(p3:Int):Option (Tensor) :=
 (Zl dims1).bind fun r5 =>
 if (!r5)=true then (
 some (⟨([]:List Int),([]:List Int)⟩:Tensor))
 else (
 (Z0g dims1).bind fun r8 =>
 (loopM (fun s:(List Int)×Int=>Z0o_L1 p3 r8 s.1 s.2) (r8.Data,(0:Int))).bind fun e=>Z0o_J1 r8 e)
def Z9_J5 (g1:Graph)(inputs4:(List Tensor))(blank6:Bool)(x203:(List Tensor))(x205:Int):Option ((List Tensor)×Bool) :=
 (Z0i g1.Outs (g1.Nodes.length:Int)).bind fun r206 =>
 some (x203,(r206&&(blank6||(x205==(inputs4.length:Int)))))
def Z9_J4 (x103:(List Tensor))(k106:Int)(x190:Int)(t191:(List Int))(t193:(List Int)):Option (((List Tensor)×Int×Int)⊕(((List Tensor)×Bool)⊕((List Tensor)×Int))) :=
 if ((t193.length:Int)==0)=true then (
 some (.inr (.inl (x103,false))))
 else (
 if x103.length+([(⟨t191,t193⟩:Tensor)]:List Tensor).length≤2932031007402 then
 some (.inl ((x103++([(⟨t191,t193⟩:Tensor)]:List Tensor)),x190,(w64 (k106+1))))
 else none)
def Z9_J3 (g1:Graph)(inputs4:(List Tensor))(blank6:Bool)(x103:(List Tensor))(x105:Int)(k106:Int)(a153:(List Tensor)):Option (((List Tensor)×Int×Int)⊕(((List Tensor)×Bool)⊕((List Tensor)×Int))) :=
 if ((ix g1.Nodes k106).Op != 1)=true then (
 (Z1 (ix g1.Nodes k106) a153).bind fun r157 =>
 Z9_J4 x103 k106 x105 r157.Dims r157.Data)
 else (
 if blank6=true then (
 (Z0o ((ix g1.Nodes k106).Dims) (0:Int)).bind fun r162 =>
 Z9_J4 x103 k106 x105 r162.Dims r162.Data)
 else (
 if (decide (x105≥(inputs4.length:Int)))=false→(0≤x105∧x105<(inputs4.length:Int)) then
 (gcall (!(decide (x105≥(inputs4.length:Int)))) (Zo (ix inputs4 x105))).bind fun r171 =>
 if ((decide (x105≥(inputs4.length:Int)))||(!r171))=false→(0≤x105∧x105<(inputs4.length:Int)) then
 (gcall (!((decide (x105≥(inputs4.length:Int)))||(!r171))) (Zz ((ix inputs4 x105).Dims) ((ix g1.Nodes k106).Dims))).bind fun r174 =>
 if (((decide (x105≥(inputs4.length:Int)))||(!r171))||(!r174))=true then (
 some (.inr (.inl (x103,false))))
 else (
 (Zq ((ix g1.Nodes k106).Dims)).bind fun r179 =>
 if (0≤x105∧x105<(inputs4.length:Int)) then
 (Zq ((ix inputs4 x105).Data)).bind fun r187 =>
 Z9_J4 x103 k106 (w64 (x105+1)) r179 r187
 else none)
 else none
 else none))
def Z9_L2 (g1:Graph)(x103:(List Tensor))(k106:Int)(a135:(List Tensor))(j137:Int):Option (((List Tensor)×Int)⊕((List Tensor))) :=
 if (decide (j137<(((ix g1.Nodes k106).Args).length:Int)))=true then (
 if (0≤j137∧j137<(((ix g1.Nodes k106).Args).length:Int)) then
 if (0≤(ix ((ix g1.Nodes k106).Args) j137)∧(ix ((ix g1.Nodes k106).Args) j137)<(x103.length:Int)) then
 if a135.length+([(ix x103 (ix ((ix g1.Nodes k106).Args) j137))]:List Tensor).length≤2932031007402 then
 some (.inl ((a135++([(ix x103 (ix ((ix g1.Nodes k106).Args) j137))]:List Tensor)),(w64 (j137+1))))
 else none
 else none
 else none)
 else (
 some (.inr a135))
def Z9_L1 (g1:Graph)(inputs4:(List Tensor))(blank6:Bool)(x103:(List Tensor))(x105:Int)(k106:Int):Option (((List Tensor)×Int×Int)⊕(((List Tensor)×Bool)⊕((List Tensor)×Int))) :=
 if (decide (k106<(g1.Nodes.length:Int)))=true then (
 if (0≤k106∧k106<(g1.Nodes.length:Int)) then
 (Z14 (ix g1.Nodes k106)).bind fun r116 =>
 (gcall (!(!r116)) (Z0i ((ix g1.Nodes k106).Args) k106)).bind fun r118 =>
 if ((!r116)||(!r118))=true then (
 some (.inr (.inl (x103,false))))
 else (
 (loopM (fun s:(List Tensor)×Int=>Z9_L2 g1 x103 k106 s.1 s.2) (([]:List Tensor),(0:Int))).bind fun e=>Z9_J3 g1 inputs4 blank6 x103 x105 k106 e)
 else none)
 else (
 some (.inr (.inr (x103,x105))))
def Z9 (g1:Graph)(inputs4:(List Tensor))(blank6:Bool):Option ((List Tensor)×Bool) :=
 if ((decide ((g1.Nodes.length:Int)>200))||(decide ((g1.Outs.length:Int)>40)))=true then (
 some (([]:List Tensor),false))
 else (
 (loopM (fun s:(List Tensor)×Int×Int=>Z9_L1 g1 inputs4 blank6 s.1 s.2.1 s.2.2) (([]:List Tensor),(0:Int),(0:Int))).bind fun e=>match e with
 | .inl e=>some e
 | .inr e=>Z9_J5 g1 inputs4 blank6 e.1 e.2)
def Z2u (g1:Graph):Option (Bool) :=
 (Z9 g1 ([]:List Tensor) true).bind fun r6 =>
 some r6.2
def Z37 (least1:Int)(most2:Int):Option (Int×Int) :=
 some (least1,most2)
def Z38 (least1:Int)(most2:Int):Option (Int×Int) :=
 some (least1,most2)
def Z39 (least1:Int)(most2:Int):Option (Int×Int) :=
 some (least1,most2)
def Z3a (least1:Int)(most2:Int):Option (Int×Int) :=
 some (least1,most2)
def Zw_J3 (op1:Int)(x18:Bool):Option (kindOfR) :=
 if x18=true then (
 some (⟨6,false,(0:Int),(0:Int),str2⟩:kindOfR))
 else (
 if (op1==15)=true then (
 (Z37 (4:Int) (4:Int)).bind fun r21 =>
 some (⟨8,false,r21.1,r21.2,str2⟩:kindOfR))
 else (
 if (op1==16)=true then (
 (Z38 (1:Int) (4097:Int)).bind fun r27 =>
 some (⟨9,false,r27.1,r27.2,str2⟩:kindOfR))
 else (
 if (op1==17)=true then (
 (Z39 (2:Int) (4098:Int)).bind fun r33 =>
 some (⟨10,false,r33.1,r33.2,str2⟩:kindOfR))
 else (
 if (op1==19)=true then (
 (Z3a (3:Int) (3:Int)).bind fun r39 =>
 some (⟨11,false,r39.1,r39.2,str2⟩:kindOfR))
 else (
 some (⟨0,false,(0:Int),(0:Int),([]:Str)⟩:kindOfR))))))
def Zw_J2 (op1:Int)(x11:Bool):Option (kindOfR) :=
 if x11=true then (
 some (⟨3,false,(w64 ((w64 (op1 - 6))+1)),(0:Int),([]:Str)⟩:kindOfR))
 else (
 if (op1==10)=true then (
 some (⟨4,false,(0:Int),(0:Int),([]:Str)⟩:kindOfR))
 else (
 if (op1==11)=true then (
 some (⟨5,false,(0:Int),(0:Int),([]:Str)⟩:kindOfR))
 else (
 if (op1==12)=true then (
 some (⟨6,false,(0:Int),(0:Int),str1⟩:kindOfR))
 else (
 if (op1==13)=true then (
 some (⟨7,false,(0:Int),(0:Int),str1⟩:kindOfR))
 else (
 if (op1==14)=true then (
 Zw_J3 op1 (op1==14))
 else (
 Zw_J3 op1 (op1==18)))))))
def Zw_J1 (op1:Int)(x6:Bool):Option (kindOfR) :=
 if x6=true then (
 some (⟨2,false,(w64 ((w64 (op1 - 3))+1)),(0:Int),([]:Str)⟩:kindOfR))
 else (
 if (op1==6)=true then (
 Zw_J2 op1 (op1==6))
 else (
 if (op1==7)=true then (
 Zw_J2 op1 (op1==7))
 else (
 if (op1==8)=true then (
 Zw_J2 op1 (op1==8))
 else (
 Zw_J2 op1 (op1==9)))))
def Zw (op1:Int):Option (kindOfR) :=
 if (op1==1)=true then (
 some (⟨1,false,(0:Int),(0:Int),([]:Str)⟩:kindOfR))
 else (
 if (op1==2)=true then (
 some (⟨1,true,(0:Int),(0:Int),([]:Str)⟩:kindOfR))
 else (
 if (op1==3)=true then (
 Zw_J1 op1 (op1==3))
 else (
 if (op1==4)=true then (
 Zw_J1 op1 (op1==4))
 else (
 Zw_J1 op1 (op1==5)))))
def Z3c (k1:leafKind):Option (Str) :=
 if k1.data=true then (
 some str3)
 else (
 some str1)
def Z3d (k1:pairKind):Option (Str) :=
 some ([]:Str)
def Z3k (k1:soloKind):Option (Str) :=
 some ([]:Str)
def Z3l (k1:topKind):Option (Str) :=
 some str2
def Z3b (k1:formKind):Option (Str) :=
 some str4
def Z3i (k1:shiftKind):Option (Str) :=
 some k1.use
def Z3j (k1:shiftKind):Option (Str) :=
 some k1.use
def Z3e (k1:shiftKind)(q2:Int)(q4:Int):Option (Str) :=
 some k1.use
def Z3f (k1:shiftKind)(q2:Int)(q4:Int):Option (Str) :=
 some k1.use
def Z3g (k1:shiftKind)(q2:Int)(q4:Int):Option (Str) :=
 some k1.use
def Z3h (k1:shiftKind)(q2:Int)(q4:Int):Option (Str) :=
 some k1.use
def kindOfR_uses (r:kindOfR):Option (Str) :=
 if Nat.beq r.t 0=true then none else (if Nat.beq r.t 1=true then Z3c (⟨r.b0⟩:leafKind) else (if Nat.beq r.t 2=true then Z3d (⟨r.i0⟩:pairKind) else (if Nat.beq r.t 3=true then Z3k (⟨r.i0⟩:soloKind) else (if Nat.beq r.t 4=true then Z3l (⟨⟩:topKind) else (if Nat.beq r.t 5=true then Z3b (⟨⟩:formKind) else (if Nat.beq r.t 6=true then Z3i (⟨r.s0⟩:shiftKind) else (if Nat.beq r.t 7=true then Z3j (⟨r.s0⟩:shiftKind) else (if Nat.beq r.t 8=true then Z3e (⟨r.s0⟩:shiftKind) r.i0 r.i1 else (if Nat.beq r.t 9=true then Z3f (⟨r.s0⟩:shiftKind) r.i0 r.i1 else (if Nat.beq r.t 10=true then Z3g (⟨r.s0⟩:shiftKind) r.i0 r.i1 else (Z3h (⟨r.s0⟩:shiftKind) r.i0 r.i1)))))))))))
def internal_stringslite_Index (s1 s2:Str):Option (Int) :=
 if s1.length<4294967281 then some (Lib.index s1 s2) else none
def Z29 (p1:Str)(substr2:Str):Option (Int) :=
 (internal_stringslite_Index p1 substr2).bind fun r3 =>
 some r3
def Z3n (p1:Str)(substr2:Str):Option (Bool) :=
 (Z29 p1 substr2).bind fun r3 =>
 some (decide (r3≥0))
def Z6 (c1:Str)(p2:Str):Option (Bool) :=
 (Z3n p2 c1).bind fun r4 =>
 some r4
def Z1s (n1:Node)(uses6:Str):Option (Bool) :=
 (Z6 str1 uses6).bind fun r9 =>
 (gcall (r9||((n1.Dims.length:Int)==0)) (Z6 str2 uses6)).bind fun r11 =>
 (gcall ((r9||((n1.Dims.length:Int)==0))&&(r11||((n1.Ints.length:Int)==0))) (Z6 str4 uses6)).bind fun r13 =>
 (gcall (((r9||((n1.Dims.length:Int)==0))&&(r11||((n1.Ints.length:Int)==0)))&&(r13||(n1.Form==([]:Str)))) (Z6 str5 uses6)).bind fun r15 =>
 some ((((r9||((n1.Dims.length:Int)==0))&&(r11||((n1.Ints.length:Int)==0)))&&(r13||(n1.Form==([]:Str))))&&(r15||((n1.Data.length:Int)==0)))
def Zb_J1 (dims1:(List Int)):Option (Bool) :=
 some (decide ((dims1.length:Int)≤6))
def Zb_L1 (dims1:(List Int))(n11:Int)(x12:Int):Option ((Int×Int)⊕((Bool)⊕(Unit))) :=
 if (decide (x12<(dims1.length:Int)))=true then (
 if (0≤x12∧x12<(dims1.length:Int)) then
 if ((decide ((ix dims1 x12)<1))||(decide ((ix dims1 x12)>4096)))=true then (
 some (.inr (.inl false)))
 else (
 if (decide ((w64 (n11*(ix dims1 x12)))>4096))=true then (
 some (.inr (.inl false)))
 else (
 some (.inl ((w64 (n11*(ix dims1 x12))),(w64 (x12+1))))))
 else none)
 else (
 some (.inr (.inr ())))
def Zb (dims1:(List Int)):Option (Bool) :=
 (loopM (fun s:Int×Int=>Zb_L1 dims1 s.1 s.2) ((1:Int),(0:Int))).bind fun e=>match e with
 | .inl e=>some e
 | .inr e=>Zb_J1 dims1
def Zk_J1 (n15:Int):Option (Int) :=
 some n15
def Zk_L1 (dims1:(List Int))(n7:Int)(x8:Int):Option ((Int×Int)⊕(Int)) :=
 if (decide (x8<(dims1.length:Int)))=true then (
 if (0≤x8∧x8<(dims1.length:Int)) then
 some (.inl ((w64 (n7*(ix dims1 x8))),(w64 (x8+1))))
 else none)
 else (
 some (.inr n7))
def Zk (dims1:(List Int)):Option (Int) :=
 (loopM (fun s:Int×Int=>Zk_L1 dims1 s.1 s.2) ((1:Int),(0:Int))).bind fun e=>Zk_J1 e
def Z2z (p1:Int):Option (Bool) :=
 some ((decide (p1≥0))&&(decide (p1<2147483647)))
def Z11_J1:Option (Bool) :=
 some true
def Z11_L1 (xs1:(List Int))(x10:Int):Option ((Int)⊕((Bool)⊕(Unit))) :=
 if (decide (x10<(xs1.length:Int)))=true then (
 if (0≤x10∧x10<(xs1.length:Int)) then
 (Z2z (ix xs1 x10)).bind fun r15 =>
 if (!r15)=true then (
 some (.inr (.inl false)))
 else (
 some (.inl (w64 (x10+1))))
 else none)
 else (
 some (.inr (.inr ())))
def Z11 (xs1:(List Int)):Option (Bool) :=
 (loopM (fun s:Int=>Z11_L1 xs1 s) (0:Int)).bind fun e=>match e with
 | .inl e=>some e
 | .inr e=>Z11_J1
def Z2i (t1:Tensor):Option (Bool) :=
 (Zb t1.Dims).bind fun r5 =>
 (gcall r5 (Zk t1.Dims)).bind fun r7 =>
 (gcall (r5&&((t1.Data.length:Int)==r7)) (Z11 t1.Data)).bind fun r9 =>
 some ((r5&&((t1.Data.length:Int)==r7))&&r9)
def Z1h (k1:leafKind)(n2:Node)(args7:(List (List Int))):Option ((List Int)×Bool) :=
 (gcall (!((args7.length:Int) != 0)) (Zb n2.Dims)).bind fun r11 =>
 (gcall ((!(((args7.length:Int) != 0)||(!r11)))&&k1.data) (Z2i (⟨n2.Dims,n2.Data⟩:Tensor))).bind fun r13 =>
 if ((((args7.length:Int) != 0)||(!r11))||(k1.data&&(!r13)))=true then (
 some (([]:List Int),false))
 else (
 some (n2.Dims,true))
def Z0y_J1:Option (Bool) :=
 some true
def Z0y_L1 (s11:(List Int))(s23:(List Int))(x14:Int):Option ((Int)⊕((Bool)⊕(Unit))) :=
 if (decide (x14<(s11.length:Int)))=true then (
 if (0≤x14∧x14<(s11.length:Int)) then
 if (0≤x14∧x14<(s23.length:Int)) then
 if ((ix s11 x14) != (ix s23 x14))=true then (
 some (.inr (.inl false)))
 else (
 some (.inl (w64 (x14+1))))
 else none
 else none)
 else (
 some (.inr (.inr ())))
def Z0y (s11:(List Int))(s23:(List Int)):Option (Bool) :=
 if ((s11.length:Int) != (s23.length:Int))=true then (
 some false)
 else (
 (loopM (fun s:Int=>Z0y_L1 s11 s23 s) (0:Int)).bind fun e=>match e with
 | .inl e=>some e
 | .inr e=>Z0y_J1)
def Z20 (k1:pairKind)(n2:Node)(args7:(List (List Int))):Option ((List Int)×Bool) :=
 if ((args7.length:Int) != 2)=false→(0≤(0:Int)∧(0:Int)<(args7.length:Int)) then
 if ((args7.length:Int) != 2)=false→(0≤(1:Int)∧(1:Int)<(args7.length:Int)) then
 (gcall (!((args7.length:Int) != 2)) (Z0y (ix args7 0) (ix args7 1))).bind fun r17 =>
 if (((args7.length:Int) != 2)||(!r17))=true then (
 some (([]:List Int),false))
 else (
 if (0≤(0:Int)∧(0:Int)<(args7.length:Int)) then
 some ((ix args7 0),true)
 else none)
 else none
 else none
def Z2r (k1:soloKind)(n2:Node)(args7:(List (List Int))):Option ((List Int)×Bool) :=
 if ((args7.length:Int) != 1)=true then (
 some (([]:List Int),false))
 else (
 if (0≤(0:Int)∧(0:Int)<(args7.length:Int)) then
 some ((ix args7 0),true)
 else none)
def Zj (dims1:(List Int))(axis3:Int):Option (Bool) :=
 some ((decide (axis3≥0))&&(decide (axis3<(dims1.length:Int))))
def Z1t (k1:topKind)(n2:Node)(args7:(List (List Int))):Option ((List Int)×Bool) :=
 if (((args7.length:Int) != 1)||((n2.Ints.length:Int) != 1))=false→(0≤(0:Int)∧(0:Int)<(args7.length:Int)) then
 if (((args7.length:Int) != 1)||((n2.Ints.length:Int) != 1))=false→(0≤(0:Int)∧(0:Int)<(n2.Ints.length:Int)) then
 (gcall (!(((args7.length:Int) != 1)||((n2.Ints.length:Int) != 1))) (Zj (ix args7 0) (ix n2.Ints 0))).bind fun r18 =>
 if ((((args7.length:Int) != 1)||((n2.Ints.length:Int) != 1))||(!r18))=true then (
 some (([]:List Int),false))
 else (
 if (0≤(0:Int)∧(0:Int)<(args7.length:Int)) then
 some ((ix args7 0),true)
 else none)
 else none
 else none
def internal_stringslite_Cut (p1:Str)(sep2:Str):Option (Str×Str×Bool) :=
 (internal_stringslite_Index p1 sep2).bind fun r3 =>
 if (decide (r3≥0))=true then (
 if (0≤(0:Int)∧(0:Int)≤r3∧r3≤(p1.length:Int)) then
 if (0≤(w64 (r3+(sep2.length:Int)))∧(w64 (r3+(sep2.length:Int)))≤(p1.length:Int)∧(p1.length:Int)≤(p1.length:Int)) then
 some ((sub p1 (0:Int) r3),(sub p1 (w64 (r3+(sep2.length:Int))) (p1.length:Int)),true)
 else none
 else none)
 else (
 some (p1,([]:Str),false))
def Z2x (p1:Str)(sep2:Str):Option (Str×Str×Bool) :=
 (internal_stringslite_Cut p1 sep2).bind fun r3 =>
 some (r3.1,r3.2.1,r3.2.2)
def Z36 (s1 s2:Str):Option (Int) :=
 match s2 with
 | [c]=>some (Lib.countByte s1 c)
 | _=>none
def Z0j_J3 (p1:Str)(n10:Int)(x41:Str)(a42:(List Str))(i43:Int):Option ((List Str)) :=
 if (0≤i43∧i43<((List.replicate (if (w64 ((p1.length:Int)+1))<n10 then (w64 ((p1.length:Int)+1)) else n10).toNat ([]:Str)).length:Int)) then
 if (0≤(0:Int)∧(0:Int)≤(w64 (i43+1))∧(w64 (i43+1))≤((List.replicate (if (w64 ((p1.length:Int)+1))<n10 then (w64 ((p1.length:Int)+1)) else n10).toNat ([]:Str)).length:Int)) then
 some (sub (a42.set i43.toNat x41) (0:Int) (w64 (i43+1)))
 else none
 else none
def Z0j_L1 (p1:Str)(sep2:Str)(sepSave3:Int)(n10:Int)(x24:Str)(a25:(List Str))(i26:Int):Option ((Str×(List Str)×Int)⊕(Str×(List Str)×Int)) :=
 if (decide (i26<(w64 ((if (w64 ((p1.length:Int)+1))<n10 then (w64 ((p1.length:Int)+1)) else n10) - 1))))=true then (
 (Z29 x24 sep2).bind fun r28 =>
 if (decide (r28<0))=true then (
 some (.inr (x24,a25,i26)))
 else (
 if (0≤(0:Int)∧(0:Int)≤(w64 (r28+sepSave3))∧(w64 (r28+sepSave3))≤(x24.length:Int)) then
 if (0≤i26∧i26<((List.replicate (if (w64 ((p1.length:Int)+1))<n10 then (w64 ((p1.length:Int)+1)) else n10).toNat ([]:Str)).length:Int)) then
 (nm (a25.set i26.toNat (sub x24 (0:Int) (w64 (r28+sepSave3))))).bind fun l35 =>
 if (0≤(w64 (r28+(sep2.length:Int)))∧(w64 (r28+(sep2.length:Int)))≤(x24.length:Int)∧(x24.length:Int)≤(x24.length:Int)) then
 some (.inl ((sub x24 (w64 (r28+(sep2.length:Int))) (x24.length:Int)),l35,(w64 (i26+1))))
 else none
 else none
 else none))
 else (
 some (.inr (x24,a25,i26)))
def Z0j_J2 (p1:Str)(sep2:Str)(sepSave3:Int)(n10:Int):Option ((List Str)) :=
 if (0≤(if (w64 ((p1.length:Int)+1))<n10 then (w64 ((p1.length:Int)+1)) else n10)∧(if (w64 ((p1.length:Int)+1))<n10 then (w64 ((p1.length:Int)+1)) else n10)≤140737488355328∧16*(if (w64 ((p1.length:Int)+1))<n10 then (w64 ((p1.length:Int)+1)) else n10)≤281474976710656) then
 (loopM (fun s:Str×(List Str)×Int=>Z0j_L1 p1 sep2 sepSave3 n10 s.1 s.2.1 s.2.2) (p1,(List.replicate (if (w64 ((p1.length:Int)+1))<n10 then (w64 ((p1.length:Int)+1)) else n10).toNat ([]:Str)),(0:Int))).bind fun e=>Z0j_J3 p1 n10 e.1 e.2.1 e.2.2
 else none
def Z0j (p1:Str)(sep2:Str)(sepSave3:Int)(n4:Int):Option ((List Str)) :=
 if (n4==0)=true then (
 some ([]:List Str))
 else (
 if (sep2==([]:Str))=true then (
 none)
 else (
 if (decide (n4<0))=true then (
 (Z36 p1 sep2).bind fun r8 =>
 Z0j_J2 p1 sep2 sepSave3 (w64 (r8+1)))
 else (
 Z0j_J2 p1 sep2 sepSave3 n4)))
def Z2y (p1:Str)(sep2:Str):Option ((List Str)) :=
 (Z0j p1 sep2 (0:Int) (-1:Int)).bind fun r3 =>
 some r3
def internal_stringslite_IndexByte (s1:Str)(c2:Int):Option (Int) :=
 some (Lib.indexByte s1 c2.toNat.toUInt8)
def Z1q (p1:Str)(c2:Int):Option (Int) :=
 (internal_stringslite_IndexByte p1 c2).bind fun r3 =>
 some r3
def Zc_J4 (r2:Str×Str×Bool)(r6:(List Str)):Option ((List Str)×Str×Bool) :=
 some (r6,r2.2.1,true)
def Zc_L3 (r2:Str×Str×Bool)(i58:Int):Option ((Int)⊕(((List Str)×Str×Bool)⊕(Unit))) :=
 if (decide (i58<(r2.2.1.length:Int)))=true then (
 if (0≤i58∧i58<(r2.2.1.length:Int)) then
 if ((decide ((bt r2.2.1 i58)<97))||(decide ((bt r2.2.1 i58)>122)))=false→(0≤(0:Int)∧(0:Int)≤i58∧i58≤(r2.2.1.length:Int)) then
 (gcall (!((decide ((bt r2.2.1 i58)<97))||(decide ((bt r2.2.1 i58)>122)))) (Z1q (sub r2.2.1 (0:Int) i58) (bt r2.2.1 i58))).bind fun r62 =>
 (gcall (!(((decide ((bt r2.2.1 i58)<97))||(decide ((bt r2.2.1 i58)>122)))||(decide (r62≥0)))) (Z1q r2.1 (bt r2.2.1 i58))).bind fun r64 =>
 if ((((decide ((bt r2.2.1 i58)<97))||(decide ((bt r2.2.1 i58)>122)))||(decide (r62≥0)))||(decide (r64<0)))=true then (
 some (.inr (.inl (([]:List Str),([]:Str),false))))
 else (
 some (.inl (w64 (i58+1))))
 else none
 else none)
 else (
 some (.inr (.inr ())))
def Zc_J3 (r2:Str×Str×Bool)(r6:(List Str)):Option ((List Str)×Str×Bool) :=
 (loopM (fun s:Int=>Zc_L3 r2 s) (0:Int)).bind fun e=>match e with
 | .inl e=>some e
 | .inr e=>Zc_J4 r2 r6
def Zc_J2 (x27:Int):Option ((Int)⊕(((List Str)×Str×Bool)⊕(Unit))) :=
 some (.inl (w64 (x27+1)))
def Zc_L2 (r6:(List Str))(x27:Int)(i37:Int):Option ((Int)⊕(((List Str)×Str×Bool)⊕(Unit))) :=
 if (decide (i37<((ix r6 x27).length:Int)))=true then (
 if (0≤i37∧i37<((ix r6 x27).length:Int)) then
 if ((decide ((bt (ix r6 x27) i37)<97))||(decide ((bt (ix r6 x27) i37)>122)))=true then (
 some (.inr (.inl (([]:List Str),([]:Str),false))))
 else (
 some (.inl (w64 (i37+1))))
 else none)
 else (
 some (.inr (.inr ())))
def Zc_L1 (r6:(List Str))(x27:Int):Option ((Int)⊕(((List Str)×Str×Bool)⊕(Unit))) :=
 if (decide (x27<(r6.length:Int)))=true then (
 if (0≤x27∧x27<(r6.length:Int)) then
 if (decide (((ix r6 x27).length:Int)>6))=true then (
 some (.inr (.inl (([]:List Str),([]:Str),false))))
 else (
 (loopM (fun s:Int=>Zc_L2 r6 x27 s) (0:Int)).bind fun e=>match e with
 | .inl e=>some (.inr (.inl e))
 | .inr e=>Zc_J2 x27)
 else none)
 else (
 some (.inr (.inr ())))
def Zc (form1:Str):Option ((List Str)×Str×Bool) :=
 (Z2x form1 str0).bind fun r2 =>
 if ((!r2.2.2)||(decide ((r2.2.1.length:Int)>6)))=true then (
 some (([]:List Str),([]:Str),false))
 else (
 (Z2y r2.1 str6).bind fun r6 =>
 if (decide ((r6.length:Int)>6))=true then (
 some (([]:List Str),([]:Str),false))
 else (
 (loopM (fun s:Int=>Zc_L1 r6 s) (0:Int)).bind fun e=>match e with
 | .inl e=>some e
 | .inr e=>Zc_J3 r2 r6))
def Zm (s1:List Int):Option (List Int) :=
 if s1.length≤17592186044416 then some s1 else none
def Z04_J3 (x37:(List Int)):Option ((List Int)) :=
 some x37
def Z04_J2 (dims1:(List Int))(n20:Int)(i21:Int)(x30:(List Int)):Option (((List Int)×Int×Int)⊕((List Int))) :=
 if (0≤i21∧i21<(dims1.length:Int)) then
 some (.inl (x30,(w64 (n20*(ix dims1 i21))),(w64 (i21 - 1))))
 else none
def Z04_L1 (dims1:(List Int))(x19:(List Int))(n20:Int)(i21:Int):Option (((List Int)×Int×Int)⊕((List Int))) :=
 if (decide (i21≥0))=true then (
 if (0≤i21∧i21<(dims1.length:Int)) then
 if (decide ((ix dims1 i21)>1))=true then (
 if (0≤i21∧i21<((List.replicate (dims1.length:Int).toNat (0:Int)).length:Int)) then
 Z04_J2 dims1 n20 i21 (x19.set i21.toNat n20)
 else none)
 else (
 Z04_J2 dims1 n20 i21 x19)
 else none)
 else (
 some (.inr x19))
def Z04 (dims1:(List Int)):Option ((List Int)) :=
 if (0≤(dims1.length:Int)∧(dims1.length:Int)≤140737488355328∧8*(dims1.length:Int)≤281474976710656) then
 (loopM (fun s:(List Int)×Int×Int=>Z04_L1 dims1 s.1 s.2.1 s.2.2) ((List.replicate (dims1.length:Int).toNat (0:Int)),(1:Int),(w64 ((dims1.length:Int) - 1)))).bind fun e=>Z04_J3 e
 else none
def Zi_J7 (x79:(List Int)):Option ((List Int)) :=
 some x79
def Zi_J6 (x46:Int)(x76:(List Int)):Option (((List Int)×Int)⊕((List Int))) :=
 some (.inl (x76,(w64 (x46+1))))
def Zi_J5 (k62:Int)(x73:(List Int)):Option (((List Int)×Int)⊕((List Int))) :=
 some (.inl (x73,(w64 (k62+1))))
def Zi_L2 (f1:form)(group7:Str)(plain8:(List Int))(x46:Int)(x61:(List Int))(k62:Int):Option (((List Int)×Int)⊕((List Int))) :=
 if (decide (k62<(group7.length:Int)))=true then (
 if (0≤k62∧k62<(group7.length:Int)) then
 if (0≤x46∧x46<(f1.order.length:Int)) then
 if ((bt group7 k62)==(bt f1.order x46))=true then (
 if (0≤x46∧x46<((List.replicate (f1.order.length:Int).toNat (0:Int)).length:Int)) then
 if (0≤k62∧k62<(plain8.length:Int)) then
 Zi_J5 k62 (x61.set x46.toNat (w64 ((ix x61 x46)+(ix plain8 k62))))
 else none
 else none)
 else (
 Zi_J5 k62 x61)
 else none
 else none)
 else (
 some (.inr x61))
def Zi_L1 (f1:form)(group7:Str)(plain8:(List Int))(x45:(List Int))(x46:Int):Option (((List Int)×Int)⊕((List Int))) :=
 if (decide (x46<((List.replicate (f1.order.length:Int).toNat (0:Int)).length:Int)))=true then (
 (loopM (fun s:(List Int)×Int=>Zi_L2 f1 group7 plain8 x46 s.1 s.2) (x45,(0:Int))).bind fun e=>Zi_J6 x46 e)
 else (
 some (.inr x45))
def Zi (f1:form)(group7:Str)(plain8:(List Int)):Option ((List Int)) :=
 if (0≤(f1.order.length:Int)∧(f1.order.length:Int)≤140737488355328∧8*(f1.order.length:Int)≤281474976710656) then
 (loopM (fun s:(List Int)×Int=>Zi_L1 f1 group7 plain8 s.1 s.2) ((List.replicate (f1.order.length:Int).toNat (0:Int)),(0:Int))).bind fun e=>Zi_J7 e
 else none
def Z3_J9 (r5:(List Str)×Str×Bool)(f150:Str)(f174:(List Int))(r178:(List Int))(f224:(List (List Int))):Option (form×Bool) :=
 (Z04 r178).bind fun r226 =>
 (Zi (⟨r5.1,r5.2.1,f150,f174,r178,f224,([]:List Int)⟩:form) r5.2.1 r226).bind fun r229 =>
 some ((⟨r5.1,r5.2.1,f150,f174,r178,f224,r229⟩:form),true)
def Z3_L4 (shapes2:(List (List Int)))(r5:(List Str)×Str×Bool)(f150:Str)(f174:(List Int))(r178:(List Int))(f201:(List (List Int)))(x203:Int):Option (((List (List Int))×Int)⊕((List (List Int)))) :=
 if (decide (x203<(r5.1.length:Int)))=true then (
 if (0≤x203∧x203<(r5.1.length:Int)) then
 if (0≤x203∧x203<(shapes2.length:Int)) then
 (Z04 (ix shapes2 x203)).bind fun r212 =>
 (Zi (⟨r5.1,r5.2.1,f150,f174,r178,f201,([]:List Int)⟩:form) (ix r5.1 x203) r212).bind fun r215 =>
 if f201.length+([r215]:List (List Int)).length≤5864062014805 then
 some (.inl ((f201++([r215]:List (List Int))),(w64 (x203+1))))
 else none
 else none
 else none)
 else (
 some (.inr f201))
def Z3_J8 (shapes2:(List (List Int)))(r5:(List Str)×Str×Bool)(f150:Str)(f174:(List Int)):Option (form×Bool) :=
 if (0≤(0:Int)∧(0:Int)≤(r5.2.1.length:Int)∧(r5.2.1.length:Int)≤(f174.length:Int)) then
 (Zm (sub f174 (0:Int) (r5.2.1.length:Int))).bind fun r178 =>
 (Zb r178).bind fun r181 =>
 if (!r181)=true then (
 some ((⟨([]:List Str),([]:Str),([]:Str),([]:List Int),([]:List Int),([]:List (List Int)),([]:List Int)⟩:form),false))
 else (
 (loopM (fun s:(List (List Int))×Int=>Z3_L4 shapes2 r5 f150 f174 r178 s.1 s.2) (([]:List (List Int)),(0:Int))).bind fun e=>Z3_J9 r5 f150 f174 r178 e)
 else none
def Z3_L3 (f150:Str)(lens151:(List Int))(f159:(List Int))(work161:Int)(i162:Int):Option (((List Int)×Int×Int)⊕((form×Bool)⊕((List Int)))) :=
 if (decide (i162<(f150.length:Int)))=true then (
 if (0≤i162∧i162<(f150.length:Int)) then
 if (0≤(IntKind.wrap .u8 ((bt f150 i162) - 97))∧(IntKind.wrap .u8 ((bt f150 i162) - 97))<26) then
 if f159.length+([(ix lens151 (IntKind.wrap .u8 ((bt f150 i162) - 97)))]:List Int).length≤17592186044416 then
 if (decide ((w64 (work161*(ix lens151 (IntKind.wrap .u8 ((bt f150 i162) - 97)))))>65536))=true then (
 some (.inr (.inl ((⟨([]:List Str),([]:Str),([]:Str),([]:List Int),([]:List Int),([]:List (List Int)),([]:List Int)⟩:form),false))))
 else (
 some (.inl ((f159++([(ix lens151 (IntKind.wrap .u8 ((bt f150 i162) - 97)))]:List Int)),(w64 (work161*(ix lens151 (IntKind.wrap .u8 ((bt f150 i162) - 97))))),(w64 (i162+1)))))
 else none
 else none
 else none)
 else (
 some (.inr (.inr f159)))
def Z3_J7 (shapes2:(List (List Int)))(r5:(List Str)×Str×Bool)(f150:Str)(lens151:(List Int)):Option (form×Bool) :=
 (loopM (fun s:(List Int)×Int×Int=>Z3_L3 f150 lens151 s.1 s.2.1 s.2.2) (([]:List Int),(1:Int),(0:Int))).bind fun e=>match e with
 | .inl e=>some e
 | .inr e=>Z3_J8 shapes2 r5 f150 e
def Z3_J6 (x79:Int)(f141:Str)(lens142:(List Int)):Option ((Str×(List Int)×Int)⊕((form×Bool)⊕(Str×(List Int)))) :=
 some (.inl (f141,lens142,(w64 (x79+1))))
def Z3_J5 (k113:Int)(f134:Str)(lens135:(List Int)):Option ((Str×(List Int)×Int)⊕((form×Bool)⊕(Str×(List Int)))) :=
 some (.inl (f134,lens135,(w64 (k113+1))))
def Z3_L2 (shapes2:(List (List Int)))(r5:(List Str)×Str×Bool)(x79:Int)(f111:Str)(lens112:(List Int))(k113:Int):Option ((Str×(List Int)×Int)⊕((form×Bool)⊕(Str×(List Int)))) :=
 if (decide (k113<((ix r5.1 x79).length:Int)))=true then (
 if (0≤k113∧k113<((ix r5.1 x79).length:Int)) then
 if (0≤(IntKind.wrap .u8 ((bt (ix r5.1 x79) k113) - 97))∧(IntKind.wrap .u8 ((bt (ix r5.1 x79) k113) - 97))<26) then
 if ((ix lens112 (IntKind.wrap .u8 ((bt (ix r5.1 x79) k113) - 97))) != 0)=true→(0≤k113∧k113<((ix shapes2 x79).length:Int)) then
 if (((ix lens112 (IntKind.wrap .u8 ((bt (ix r5.1 x79) k113) - 97))) != 0)&&((ix lens112 (IntKind.wrap .u8 ((bt (ix r5.1 x79) k113) - 97))) != (ix (ix shapes2 x79) k113)))=true then (
 some (.inr (.inl ((⟨([]:List Str),([]:Str),([]:Str),([]:List Int),([]:List Int),([]:List (List Int)),([]:List Int)⟩:form),false))))
 else (
 if (0≤k113∧k113<((ix shapes2 x79).length:Int)) then
 (nm (lens112.set (IntKind.wrap .u8 ((bt (ix r5.1 x79) k113) - 97)).toNat (ix (ix shapes2 x79) k113))).bind fun l127 =>
 (Z1q f111 (bt (ix r5.1 x79) k113)).bind fun r129 =>
 if (decide (r129<0))=true then (
 if (0≤k113∧k113≤(w64 (k113+1))∧(w64 (k113+1))≤((ix r5.1 x79).length:Int)) then
 if f111.length+(sub (ix r5.1 x79) k113 (w64 (k113+1))).length≤9223372036854775807 then
 Z3_J5 k113 (f111++(sub (ix r5.1 x79) k113 (w64 (k113+1)))) l127
 else none
 else none)
 else (
 Z3_J5 k113 f111 l127)
 else none)
 else none
 else none
 else none)
 else (
 some (.inr (.inr (f111,lens112))))
def Z3_L1 (shapes2:(List (List Int)))(r5:(List Str)×Str×Bool)(f77:Str)(lens78:(List Int))(x79:Int):Option ((Str×(List Int)×Int)⊕((form×Bool)⊕(Str×(List Int)))) :=
 if (decide (x79<(r5.1.length:Int)))=true then (
 if (0≤x79∧x79<(r5.1.length:Int)) then
 if (0≤x79∧x79<(shapes2.length:Int)) then
 if (((ix r5.1 x79).length:Int) != ((ix shapes2 x79).length:Int))=true then (
 some (.inr (.inl ((⟨([]:List Str),([]:Str),([]:Str),([]:List Int),([]:List Int),([]:List (List Int)),([]:List Int)⟩:form),false))))
 else (
 (loopM (fun s:Str×(List Int)×Int=>Z3_L2 shapes2 r5 x79 s.1 s.2.1 s.2.2) (f77,lens78,(0:Int))).bind fun e=>match e with
 | .inl e=>some (.inr (.inl e))
 | .inr e=>Z3_J6 x79 e.1 e.2)
 else none
 else none)
 else (
 some (.inr (.inr (f77,lens78))))
def Z3 (text1:Str)(shapes2:(List (List Int))):Option (form×Bool) :=
 (Zc text1).bind fun r5 =>
 if ((!r5.2.2)||((r5.1.length:Int) != (shapes2.length:Int)))=true then (
 some ((⟨([]:List Str),([]:Str),([]:Str),([]:List Int),([]:List Int),([]:List (List Int)),([]:List Int)⟩:form),false))
 else (
 (loopM (fun s:Str×(List Int)×Int=>Z3_L1 shapes2 r5 s.1 s.2.1 s.2.2) (r5.2.1,(List.replicate 26 (0:Int)),(0:Int))).bind fun e=>match e with
 | .inl e=>some e
 | .inr e=>Z3_J7 shapes2 r5 e.1 e.2)
def Z2q (k1:formKind)(n2:Node)(args7:(List (List Int))):Option ((List Int)×Bool) :=
 (Z3 n2.Form args7).bind fun r11 =>
 some (r11.1.dims,r11.2)
def Z2k (dims1:(List Int)):Option (View) :=
 (Zb dims1).bind fun r4 =>
 if (!r4)=true then (
 some (⟨([]:List Int),([]:List Int),(0:Int),(0:Int)⟩:View))
 else (
 (Zm dims1).bind fun r7 =>
 (Z04 dims1).bind fun r10 =>
 (Zk dims1).bind fun r13 =>
 some (⟨r7,r10,(0:Int),r13⟩:View))
def Zf_J1 (v1:View)(lo39:Int)(hi40:Int):Option (Bool) :=
 some ((decide (lo39≥0))&&(decide (hi40<v1.Base)))
def Zf_L1 (v1:View)(lo22:Int)(hi23:Int)(x25:Int):Option ((Int×Int×Int)⊕((Bool)⊕(Int×Int))) :=
 if (decide (x25<(v1.Strides.length:Int)))=true then (
 if (0≤x25∧x25<(v1.Strides.length:Int)) then
 if ((decide ((ix v1.Strides x25)<(-4096:Int)))||(decide ((ix v1.Strides x25)>4096)))=true then (
 some (.inr (.inl false)))
 else (
 if (0≤x25∧x25<(v1.Dims.length:Int)) then
 some (.inl ((w64 (lo22+(if (w64 ((ix v1.Strides x25)*(w64 ((ix v1.Dims x25) - 1))))<0 then (w64 ((ix v1.Strides x25)*(w64 ((ix v1.Dims x25) - 1)))) else (0:Int)))),(w64 (hi23+(if (w64 ((ix v1.Strides x25)*(w64 ((ix v1.Dims x25) - 1))))>0 then (w64 ((ix v1.Strides x25)*(w64 ((ix v1.Dims x25) - 1)))) else (0:Int)))),(w64 (x25+1))))
 else none)
 else none)
 else (
 some (.inr (.inr (lo22,hi23))))
def Zf (v1:View):Option (Bool) :=
 (Zb v1.Dims).bind fun r5 =>
 if ((((((!r5)||((v1.Strides.length:Int) != (v1.Dims.length:Int)))||(decide (v1.Base<1)))||(decide (v1.Base>4096)))||(decide (v1.Offset<0)))||(decide (v1.Offset≥v1.Base)))=true then (
 some false)
 else (
 (loopM (fun s:Int×Int×Int=>Zf_L1 v1 s.1 s.2.1 s.2.2) (v1.Offset,v1.Offset,(0:Int))).bind fun e=>match e with
 | .inl e=>some e
 | .inr e=>Zf_J1 v1 e.1 e.2)
def Z07_J3 (p1:View)(r16:(List Int))(p61:(List Int)):Option (Bool×View) :=
 some (true,(⟨r16,p61,p1.Offset,p1.Base⟩:View))
def Z07_J2 (x40:Int)(x58:(List Int)):Option (((List Int)×Int)⊕((Bool×View)⊕((List Int)))) :=
 some (.inl (x58,(w64 (x40+1))))
def Z07_L1 (p1:View)(p5:(List Int))(p8:View)(r16:(List Int))(x39:(List Int))(x40:Int):Option (((List Int)×Int)⊕((Bool×View)⊕((List Int)))) :=
 if (decide (x40<(p8.Dims.length:Int)))=true then (
 if (0≤x40∧x40<(p8.Dims.length:Int)) then
 if (0≤(w64 ((w64 ((p5.length:Int) - (p8.Dims.length:Int)))+x40))∧(w64 ((w64 ((p5.length:Int) - (p8.Dims.length:Int)))+x40))<(p5.length:Int)) then
 if ((ix p8.Dims x40)==(ix p5 (w64 ((w64 ((p5.length:Int) - (p8.Dims.length:Int)))+x40))))=true then (
 if (0≤x40∧x40<(p8.Strides.length:Int)) then
 if (0≤(w64 ((w64 ((p5.length:Int) - (p8.Dims.length:Int)))+x40))∧(w64 ((w64 ((p5.length:Int) - (p8.Dims.length:Int)))+x40))<((List.replicate (p5.length:Int).toNat (0:Int)).length:Int)) then
 (nm (x39.set (w64 ((w64 ((p5.length:Int) - (p8.Dims.length:Int)))+x40)).toNat (ix p8.Strides x40))).bind fun l55 =>
 Z07_J2 x40 l55
 else none
 else none)
 else (
 if ((ix p8.Dims x40) != 1)=true then (
 some (.inr (.inl (false,(⟨r16,x39,p1.Offset,p1.Base⟩:View)))))
 else (
 Z07_J2 x40 x39))
 else none
 else none)
 else (
 some (.inr (.inr x39)))
def Z07 (p1:View)(p5:(List Int))(p8:View):Option (Bool×View) :=
 (Zb p5).bind fun r12 =>
 if ((!r12)||(decide ((p5.length:Int)<(p8.Dims.length:Int))))=true then (
 some (false,p1))
 else (
 (Zm p5).bind fun r16 =>
 if (0≤(p5.length:Int)∧(p5.length:Int)≤140737488355328∧8*(p5.length:Int)≤281474976710656) then
 (loopM (fun s:(List Int)×Int=>Z07_L1 p1 p5 p8 r16 s.1 s.2) ((List.replicate (p5.length:Int).toNat (0:Int)),(0:Int))).bind fun e=>match e with
 | .inl e=>some e
 | .inr e=>Z07_J3 p1 r16 e
 else none)
def Z32 (v1:View)(q5:(List Int))(q8:View):Option (View) :=
 (Zf v1).bind fun r14 =>
 if (!r14)=true then (
 some (⟨([]:List Int),([]:List Int),(0:Int),(0:Int)⟩:View))
 else (
 (Zm v1.Dims).bind fun r17 =>
 (Zm v1.Strides).bind fun r20 =>
 (Z07 (⟨r17,r20,v1.Offset,v1.Base⟩:View) q5 q8).bind fun r27 =>
 (gcall (!(!r27.1)) (Zf r27.2)).bind fun r31 =>
 if ((!r27.1)||(!r31))=true then (
 some (⟨([]:List Int),([]:List Int),(0:Int),(0:Int)⟩:View))
 else (
 some r27.2))
def Z2b (v1:View)(dims4:(List Int)):Option (View) :=
 (Z32 v1 dims4 v1).bind fun r9 =>
 some r9
def Z0w_J3 (v1:View)(axis5:Int)(length6:Int)(stride9:Int):Option (View) :=
 if (0≤axis5∧axis5<(v1.Dims.length:Int)) then
 if (0≤axis5∧axis5<(v1.Strides.length:Int)) then
 some (⟨(v1.Dims.set axis5.toNat length6),(v1.Strides.set axis5.toNat stride9),v1.Offset,v1.Base⟩:View)
 else none
 else none
def Z0w (v1:View)(axis5:Int)(length6:Int)(stride7:Int):Option (View) :=
 if (length6==1)=true then (
 Z0w_J3 v1 axis5 length6 (0:Int))
 else (
 Z0w_J3 v1 axis5 length6 stride7)
def Z1f_J3 (p1:View)(p5:Int)(p7:Int)(p9:Int)(x28:Int):Option (Bool×View×Int) :=
 if (0≤p5∧p5<(p1.Strides.length:Int)) then
 (Z0w (⟨p1.Dims,p1.Strides,(w64 (p1.Offset+(w64 (p9*(ix p1.Strides p5))))),p1.Base⟩:View) p5 p7 (w64 ((ix p1.Strides p5)*x28))).bind fun r32 =>
 some (true,r32,x28)
 else none
def Z1f (p1:View)(p5:Int)(p7:Int)(p9:Int)(p11:Int):Option (Bool×View×Int) :=
 (Zj p1.Dims p5).bind fun r13 =>
 if (((!r13)||(decide (p7<1)))||(decide (p7>4096)))=true then (
 some (false,p1,p11))
 else (
 if (0≤p5∧p5<(p1.Dims.length:Int)) then
 if ((((decide (p9<0))||(decide (p9≥(ix p1.Dims p5))))||(decide (p11<(-4096:Int))))||(decide (p11>4096)))=true then (
 some (false,p1,p11))
 else (
 if (decide (p7>1))=true then (
 if ((decide ((w64 (p9+(w64 (p11*(w64 (p7 - 1))))))<0))||(decide ((w64 (p9+(w64 (p11*(w64 (p7 - 1))))))≥(ix p1.Dims p5))))=true then (
 some (false,p1,p11))
 else (
 Z1f_J3 p1 p5 p7 p9 p11))
 else (
 Z1f_J3 p1 p5 p7 p9 (0:Int)))
 else none)
def Z31 (v1:View)(q5:Int)(q7:Int)(q9:Int)(q11:Int):Option (View×Int) :=
 (Zf v1).bind fun r15 =>
 if (!r15)=true then (
 some ((⟨([]:List Int),([]:List Int),(0:Int),(0:Int)⟩:View),q11))
 else (
 (Zm v1.Dims).bind fun r18 =>
 (Zm v1.Strides).bind fun r21 =>
 (Z1f (⟨r18,r21,v1.Offset,v1.Base⟩:View) q5 q7 q9 q11).bind fun r28 =>
 (gcall (!(!r28.1)) (Zf r28.2.1)).bind fun r32 =>
 if ((!r28.1)||(!r32))=true then (
 some ((⟨([]:List Int),([]:List Int),(0:Int),(0:Int)⟩:View),r28.2.2))
 else (
 some (r28.2.1,r28.2.2)))
def Z2a (v1:View)(axis4:Int)(p5:Int)(count6:Int)(step7:Int):Option (View) :=
 (Z31 v1 axis4 count6 p5 step7).bind fun r14 =>
 some r14.1
def Z2j (v1:View)(length5:Int)(stride6:Int):Option (View) :=
 if v1.Dims.length+([(0:Int)]:List Int).length≤17592186044416 then
 if v1.Strides.length+([(0:Int)]:List Int).length≤17592186044416 then
 (Z0w (⟨(v1.Dims++([(0:Int)]:List Int)),(v1.Strides++([(0:Int)]:List Int)),v1.Offset,v1.Base⟩:View) (w64 (((v1.Dims++([(0:Int)]:List Int)).length:Int) - 1)) length5 stride6).bind fun r13 =>
 some r13
 else none
 else none
def Z1g_J3 (p1:View)(p5:Int)(p7:Int)(p9:Int)(x28:Int):Option (Bool×View×Int) :=
 (Z0w p1 p5 (w64 ((w64 ((w64 ((ix p1.Dims p5) - p7)).tdiv p9))+1)) (w64 ((ix p1.Strides p5)*x28))).bind fun r29 =>
 (Z2j r29 p7 (ix p1.Strides p5)).bind fun r33 =>
 some (true,r33,x28)
def Z1g (p1:View)(p5:Int)(p7:Int)(p9:Int):Option (Bool×View×Int) :=
 (Zj p1.Dims p5).bind fun r11 =>
 if (((!r11)||(decide (p7<1)))||(decide (p9<1)))=false→(0≤p5∧p5<(p1.Dims.length:Int)) then
 if ((((!r11)||(decide (p7<1)))||(decide (p9<1)))||(decide (p7>(ix p1.Dims p5))))=true then (
 some (false,p1,p9))
 else (
 if (0≤p5∧p5<(p1.Strides.length:Int)) then
 if (0≤p5∧p5<(p1.Dims.length:Int)) then
 if p9≠0 then
 if ((w64 ((w64 ((w64 ((ix p1.Dims p5) - p7)).tdiv p9))+1))==1)=true then (
 Z1g_J3 p1 p5 p7 p9 (0:Int))
 else (
 Z1g_J3 p1 p5 p7 p9 p9)
 else none
 else none
 else none)
 else none
def Z33 (v1:View)(q5:Int)(q7:Int)(q9:Int):Option (View×Int) :=
 (Zf v1).bind fun r13 =>
 if (!r13)=true then (
 some ((⟨([]:List Int),([]:List Int),(0:Int),(0:Int)⟩:View),q9))
 else (
 (Zm v1.Dims).bind fun r16 =>
 (Zm v1.Strides).bind fun r19 =>
 (Z1g (⟨r16,r19,v1.Offset,v1.Base⟩:View) q5 q7 q9).bind fun r26 =>
 (gcall (!(!r26.1)) (Zf r26.2.1)).bind fun r30 =>
 if ((!r26.1)||(!r30))=true then (
 some ((⟨([]:List Int),([]:List Int),(0:Int),(0:Int)⟩:View),r26.2.2))
 else (
 some (r26.2.1,r26.2.2)))
def Z2c (v1:View)(axis4:Int)(size5:Int)(step6:Int):Option (View) :=
 (Z33 v1 axis4 size5 step6).bind fun r12 =>
 some r12.1
def Z19 (n1:Node)(dims6:(List Int)):Option (View) :=
 (Z2k dims6).bind fun r10 =>
 if (n1.Op==12)=true then (
 (Z2b r10 n1.Dims).bind fun r16 =>
 some r16)
 else (
 if ((n1.Op==14)&&((n1.Ints.length:Int)==4))=true→(0≤(3:Int)∧(3:Int)<(n1.Ints.length:Int)) then
 if (((n1.Op==14)&&((n1.Ints.length:Int)==4))&&(decide ((ix n1.Ints 3)≥1)))=true then (
 if (0≤(0:Int)∧(0:Int)<(n1.Ints.length:Int)) then
 if (0≤(1:Int)∧(1:Int)<(n1.Ints.length:Int)) then
 if (0≤(2:Int)∧(2:Int)<(n1.Ints.length:Int)) then
 if (0≤(3:Int)∧(3:Int)<(n1.Ints.length:Int)) then
 (Z2a r10 (ix n1.Ints 0) (ix n1.Ints 1) (ix n1.Ints 2) (ix n1.Ints 3)).bind fun r32 =>
 some r32
 else none
 else none
 else none
 else none)
 else (
 if ((n1.Op==18)&&((n1.Ints.length:Int)==3))=true then (
 if (0≤(0:Int)∧(0:Int)<(n1.Ints.length:Int)) then
 if (0≤(1:Int)∧(1:Int)<(n1.Ints.length:Int)) then
 if (0≤(2:Int)∧(2:Int)<(n1.Ints.length:Int)) then
 (Z2c r10 (ix n1.Ints 0) (ix n1.Ints 1) (ix n1.Ints 2)).bind fun r43 =>
 some r43
 else none
 else none
 else none)
 else (
 some (⟨([]:List Int),([]:List Int),(0:Int),(0:Int)⟩:View)))
 else none)
def Z30 (dims1:(List Int))(strides3:(List Int))(offset5:Int):Option ((List Int)×Int×(List Int)) :=
 some (dims1,offset5,strides3)
def Z03_J2 (YS:Type)(YF:YS→Int→Option (YS×Bool))(r56:YS×Bool)(index93:(List Int))(x94:Int)(i95:Int):Option (((List Int)×Int×YS)⊕(YS)) :=
 if (decide (i95<0))=true then (
 some (.inr r56.1))
 else (
 some (.inl (index93,x94,r56.1)))
def Z03_L2 (YS:Type)(YF:YS→Int→Option (YS×Bool))(p2:(List Int))(p7:(List Int))(index74:(List Int))(x75:Int)(i76:Int):Option (((List Int)×Int×Int)⊕((List Int)×Int×Int)) :=
 if (decide (i76≥0))=true then (
 if (0≤i76∧i76<((List.replicate (p2.length:Int).toNat (0:Int)).length:Int)) then
 if (0≤i76∧i76<(p7.length:Int)) then
 if (0≤i76∧i76<(p2.length:Int)) then
 if (decide ((ix (index74.set i76.toNat (w64 ((ix index74 i76)+1))) i76)<(ix p2 i76)))=true then (
 some (.inr ((index74.set i76.toNat (w64 ((ix index74 i76)+1))),(w64 (x75+(ix p7 i76))),i76)))
 else (
 (nm ((index74.set i76.toNat (w64 ((ix index74 i76)+1))).set i76.toNat (0:Int))).bind fun l88 =>
 some (.inl (l88,(w64 ((w64 (x75+(ix p7 i76))) - (w64 ((ix p7 i76)*(ix p2 i76))))),(w64 (i76 - 1)))))
 else none
 else none
 else none)
 else (
 some (.inr (index74,x75,i76)))
def Z03_L1 (YS:Type)(YF:YS→Int→Option (YS×Bool))(p2:(List Int))(p7:(List Int))(index53:(List Int))(x54:Int)(y55:YS):Option (((List Int)×Int×YS)⊕(YS)) :=
 (YF y55 x54).bind fun r56 =>
 if (!r56.2)=true then (
 some (.inr r56.1))
 else (
 (loopM (fun s:(List Int)×Int×Int=>Z03_L2 YS YF p2 p7 s.1 s.2.1 s.2.2) (index53,x54,(w64 ((p2.length:Int) - 1)))).bind fun e=>Z03_J2 YS YF r56 e.1 e.2.1 e.2.2)
def Z03 (YS:Type)(YF:YS→Int→Option (YS×Bool))(yield1:YS)(p2:(List Int))(p5:Int)(p7:(List Int)):Option (YS) :=
 if (0≤(p2.length:Int)∧(p2.length:Int)≤140737488355328∧8*(p2.length:Int)≤281474976710656) then
 (loopM (fun s:(List Int)×Int×YS=>Z03_L1 YS YF p2 p7 s.1 s.2.1 s.2.2) ((List.replicate (p2.length:Int).toNat (0:Int)),p5,yield1)).bind fun e=>some e
 else none
def Z3o (pairs21:(List pair))(x23:Int):Option (((List pair))×Bool) :=
 if pairs21.length+([(⟨x23,(pairs21.length:Int)⟩:pair)]:List pair).length≤8796093022208 then
 some ((pairs21++([(⟨x23,(pairs21.length:Int)⟩:pair)]:List pair)),true)
 else none
def Z2d (v1:View):Option ((List Int)×(List pair)×Bool) :=
 (Zf v1).bind fun r5 =>
 if (!r5)=true then (
 some (([]:List Int),([]:List pair),false))
 else (
 (Z30 v1.Dims v1.Strides v1.Offset).bind fun r10 =>
 (Z03 ((List pair)) (fun (s:(List pair)) (x:Int)=>Z3o s x) ([]:List pair) r10.1 r10.2.1 r10.2.2).bind fun r29 =>
 some (v1.Dims,r29,true))
def Z2p (n1:Node)(dims6:(List Int)):Option ((List Int)×(List pair)×Bool) :=
 (Z19 n1 dims6).bind fun r9 =>
 (Z2d r9).bind fun r13 =>
 some (r13.1,r13.2.1,r13.2.2)
def Z1p (k1:shiftKind)(n2:Node)(args7:(List (List Int))):Option ((List Int)×Bool) :=
 if ((args7.length:Int) != 1)=true then (
 some (([]:List Int),false))
 else (
 if (0≤(0:Int)∧(0:Int)<(args7.length:Int)) then
 (Z2p n2 (ix args7 0)).bind fun r16 =>
 some (r16.1,r16.2.2)
 else none)
def Z0x_J1 (n1:Node)(pairs34:(List pair)):Option ((List Int)×(List pair)×Bool) :=
 some (n1.Dims,pairs34,true)
def Z0x_L1 (r18:Int)(pairs24:(List pair))(x26:Int):Option (((List pair)×Int)⊕((List pair))) :=
 if (decide (x26<r18))=true then (
 if pairs24.length+([(⟨x26,x26⟩:pair)]:List pair).length≤8796093022208 then
 some (.inl ((pairs24++([(⟨x26,x26⟩:pair)]:List pair)),(w64 (x26+1))))
 else none)
 else (
 some (.inr pairs24))
def Z0x (n1:Node)(dims6:(List Int)):Option ((List Int)×(List pair)×Bool) :=
 (Zb n1.Dims).bind fun r9 =>
 (gcall (!(!r9)) (Zk n1.Dims)).bind fun r11 =>
 (gcall (!(!r9)) (Zk dims6)).bind fun r13 =>
 if ((!r9)||(r11 != r13))=true then (
 some (([]:List Int),([]:List pair),false))
 else (
 (Zk dims6).bind fun r18 =>
 (loopM (fun s:(List pair)×Int=>Z0x_L1 r18 s.1 s.2) (([]:List pair),(0:Int))).bind fun e=>Z0x_J1 n1 e)
def Z21 (k1:shiftKind)(n2:Node)(args7:(List (List Int))):Option ((List Int)×Bool) :=
 if ((args7.length:Int) != 1)=true then (
 some (([]:List Int),false))
 else (
 if (0≤(0:Int)∧(0:Int)<(args7.length:Int)) then
 (Z0x n2 (ix args7 0)).bind fun r16 =>
 some (r16.1,r16.2.2)
 else none)
def Z1i (dims1:(List Int))(axis3:Int)(n4:Int):Option ((List Int)) :=
 (Zm dims1).bind fun r5 =>
 if (0≤axis3∧axis3<(r5.length:Int)) then
 some (r5.set axis3.toNat n4)
 else none
def Z1z (dims1:(List Int))(axis3:Int):Option (Int×Int×Int) :=
 if (0≤(0:Int)∧(0:Int)≤axis3∧axis3≤(dims1.length:Int)) then
 (Zk (sub dims1 (0:Int) axis3)).bind fun r6 =>
 if (0≤axis3∧axis3<(dims1.length:Int)) then
 if (0≤(w64 (axis3+1))∧(w64 (axis3+1))≤(dims1.length:Int)∧(dims1.length:Int)≤(dims1.length:Int)) then
 (Zk (sub dims1 (w64 (axis3+1)) (dims1.length:Int))).bind fun r13 =>
 some (r6,(ix dims1 axis3),r13)
 else none
 else none
 else none
def Z7_J7 (x131:(List pair)):Option ((List pair)) :=
 some x131
def Z7_J6 (i70:Int)(x125:(List pair)):Option (((List pair)×Int)⊕((List pair))) :=
 some (.inl (x125,(w64 (i70+1))))
def Z7_J5 (x97:Int)(x118:(List pair)):Option (((List pair)×Int)⊕((List pair))) :=
 some (.inl (x118,(w64 (x97+1))))
def Z7_L3 (n4:Int)(list5:(List pair))(r7:Int×Int×Int)(i70:Int)(x97:Int)(x107:(List pair))(j109:Int):Option (((List pair)×Int)⊕((List pair))) :=
 if (decide (j109<r7.2.2))=true then (
 if x107.length+([(⟨(w64 ((w64 ((w64 ((w64 (i70*r7.2.1))+(ix list5 x97).from_))*r7.2.2))+j109)),(w64 ((w64 ((w64 ((w64 (i70*n4))+(ix list5 x97).to))*r7.2.2))+j109))⟩:pair)]:List pair).length≤8796093022208 then
 some (.inl ((x107++([(⟨(w64 ((w64 ((w64 ((w64 (i70*r7.2.1))+(ix list5 x97).from_))*r7.2.2))+j109)),(w64 ((w64 ((w64 ((w64 (i70*n4))+(ix list5 x97).to))*r7.2.2))+j109))⟩:pair)]:List pair)),(w64 (j109+1))))
 else none)
 else (
 some (.inr x107))
def Z7_L2 (n4:Int)(list5:(List pair))(r7:Int×Int×Int)(i70:Int)(x95:(List pair))(x97:Int):Option (((List pair)×Int)⊕((List pair))) :=
 if (decide (x97<(list5.length:Int)))=true then (
 if (0≤x97∧x97<(list5.length:Int)) then
 (loopM (fun s:(List pair)×Int=>Z7_L3 n4 list5 r7 i70 x97 s.1 s.2) (x95,(0:Int))).bind fun e=>Z7_J5 x97 e
 else none)
 else (
 some (.inr x95))
def Z7_L1 (n4:Int)(list5:(List pair))(r7:Int×Int×Int)(x68:(List pair))(i70:Int):Option (((List pair)×Int)⊕((List pair))) :=
 if (decide (i70<r7.1))=true then (
 (loopM (fun s:(List pair)×Int=>Z7_L2 n4 list5 r7 i70 s.1 s.2) (x68,(0:Int))).bind fun e=>Z7_J6 i70 e)
 else (
 some (.inr x68))
def Z7 (dims1:(List Int))(axis3:Int)(n4:Int)(list5:(List pair)):Option ((List pair)) :=
 (Z1z dims1 axis3).bind fun r7 =>
 if (0≤(w64 ((w64 (r7.1*r7.2.2))*(list5.length:Int)))∧(w64 ((w64 (r7.1*r7.2.2))*(list5.length:Int)))≤140737488355328∧16*(w64 ((w64 (r7.1*r7.2.2))*(list5.length:Int)))≤281474976710656) then
 (loopM (fun s:(List pair)×Int=>Z7_L1 n4 list5 r7 s.1 s.2) (([]:List pair),(0:Int))).bind fun e=>Z7_J7 e
 else none
def Zx_J2 (dims1:(List Int))(axis3:Int)(before4:Int)(after5:Int)(gap6:Int)(r30:(List Int))(list51:(List pair)):Option ((List Int)×(List pair)×Bool) :=
 (Z7 dims1 axis3 (w64 ((w64 ((w64 (before4+(ix dims1 axis3)))+(w64 ((w64 ((ix dims1 axis3) - 1))*gap6))))+after5)) list51).bind fun r53 =>
 some (r30,r53,true)
def Zx_L2 (dims1:(List Int))(axis3:Int)(before4:Int)(gap6:Int)(list41:(List pair))(k43:Int):Option (((List pair)×Int)⊕((List pair))) :=
 if (decide (k43<(ix dims1 axis3)))=true then (
 if list41.length+([(⟨k43,(w64 (before4+(w64 (k43*(w64 (gap6+1))))))⟩:pair)]:List pair).length≤8796093022208 then
 some (.inl ((list41++([(⟨k43,(w64 (before4+(w64 (k43*(w64 (gap6+1))))))⟩:pair)]:List pair)),(w64 (k43+1))))
 else none)
 else (
 some (.inr list41))
def Zx_J1 (dims1:(List Int))(axis3:Int)(before4:Int)(after5:Int)(gap6:Int):Option ((List Int)×(List pair)×Bool) :=
 if (0≤axis3∧axis3<(dims1.length:Int)) then
 (Z1i dims1 axis3 (w64 ((w64 ((w64 (before4+(ix dims1 axis3)))+(w64 ((w64 ((ix dims1 axis3) - 1))*gap6))))+after5))).bind fun r30 =>
 (Zb r30).bind fun r33 =>
 if (!r33)=true then (
 some (([]:List Int),([]:List pair),false))
 else (
 (loopM (fun s:(List pair)×Int=>Zx_L2 dims1 axis3 before4 gap6 s.1 s.2) (([]:List pair),(0:Int))).bind fun e=>Zx_J2 dims1 axis3 before4 after5 gap6 r30 e)
 else none
def Zx_L1 (before4:Int)(after5:Int)(gap6:Int)(x18:Int):Option ((Int)⊕(((List Int)×(List pair)×Bool)⊕(Unit))) :=
 if (decide (x18<(([before4,after5,gap6]:List Int).length:Int)))=true then (
 if (0≤x18∧x18<(([before4,after5,gap6]:List Int).length:Int)) then
 if ((decide ((ix ([before4,after5,gap6]:List Int) x18)<0))||(decide ((ix ([before4,after5,gap6]:List Int) x18)>4096)))=true then (
 some (.inr (.inl (([]:List Int),([]:List pair),false))))
 else (
 some (.inl (w64 (x18+1))))
 else none)
 else (
 some (.inr (.inr ())))
def Zx (dims1:(List Int))(axis3:Int)(before4:Int)(after5:Int)(gap6:Int):Option ((List Int)×(List pair)×Bool) :=
 (Zj dims1 axis3).bind fun r7 =>
 if (!r7)=true then (
 some (([]:List Int),([]:List pair),false))
 else (
 (loopM (fun s:Int=>Zx_L1 before4 after5 gap6 s) (0:Int)).bind fun e=>match e with
 | .inl e=>some e
 | .inr e=>Zx_J1 dims1 axis3 before4 after5 gap6)
def Z1v (p1:(List Int))(dims3:(List Int)):Option ((List Int)×(List pair)×Bool) :=
 if (0≤(0:Int)∧(0:Int)<(p1.length:Int)) then
 if (0≤(1:Int)∧(1:Int)<(p1.length:Int)) then
 if (0≤(2:Int)∧(2:Int)<(p1.length:Int)) then
 if (0≤(3:Int)∧(3:Int)<(p1.length:Int)) then
 (Zx dims3 (ix p1 0) (ix p1 1) (ix p1 2) (ix p1 3)).bind fun r11 =>
 some (r11.1,r11.2.1,r11.2.2)
 else none
 else none
 else none
 else none
def Z2l (n1:Node)(dims6:(List Int))(p8:Int)(p10:Int):Option ((List Int)×(List pair)×Bool) :=
 if ((decide ((n1.Ints.length:Int)<p8))||(decide ((n1.Ints.length:Int)>p10)))=true then (
 some (([]:List Int),([]:List pair),false))
 else (
 (Z1v n1.Ints dims6).bind fun r17 =>
 some (r17.1,r17.2.1,r17.2.2))
def Z1l (k1:shiftKind)(q2:Int)(q4:Int)(n8:Node)(args13:(List (List Int))):Option ((List Int)×Bool) :=
 if ((args13.length:Int) != 1)=true then (
 some (([]:List Int),false))
 else (
 if (0≤(0:Int)∧(0:Int)<(args13.length:Int)) then
 (Z2l n8 (ix args13 0) q2 q4).bind fun r22 =>
 some (r22.1,r22.2.2)
 else none)
def Z0d_J1 (dims1:(List Int))(axis3:Int)(index4:(List Int))(list45:(List pair)):Option ((List Int)×(List pair)×Bool) :=
 (Z1i dims1 axis3 (index4.length:Int)).bind fun r47 =>
 (Zb r47).bind fun r50 =>
 if (!r50)=true then (
 some (([]:List Int),([]:List pair),false))
 else (
 (Z7 dims1 axis3 (index4.length:Int) list45).bind fun r53 =>
 some (r47,r53,true))
def Z0d_L1 (dims1:(List Int))(axis3:Int)(index4:(List Int))(list25:(List pair))(x27:Int):Option (((List pair)×Int)⊕(((List Int)×(List pair)×Bool)⊕((List pair)))) :=
 if (decide (x27<(index4.length:Int)))=true then (
 if (0≤x27∧x27<(index4.length:Int)) then
 if (decide ((ix index4 x27)<0))=false→(0≤axis3∧axis3<(dims1.length:Int)) then
 if ((decide ((ix index4 x27)<0))||(decide ((ix index4 x27)≥(ix dims1 axis3))))=true then (
 some (.inr (.inl (([]:List Int),([]:List pair),false))))
 else (
 if list25.length+([(⟨(ix index4 x27),x27⟩:pair)]:List pair).length≤8796093022208 then
 some (.inl ((list25++([(⟨(ix index4 x27),x27⟩:pair)]:List pair)),(w64 (x27+1))))
 else none)
 else none
 else none)
 else (
 some (.inr (.inr list25)))
def Z0d (dims1:(List Int))(axis3:Int)(index4:(List Int)):Option ((List Int)×(List pair)×Bool) :=
 (Zj dims1 axis3).bind fun r6 =>
 if (((!r6)||((index4.length:Int)==0))||(decide ((index4.length:Int)>4096)))=true then (
 some (([]:List Int),([]:List pair),false))
 else (
 (loopM (fun s:(List pair)×Int=>Z0d_L1 dims1 axis3 index4 s.1 s.2) (([]:List pair),(0:Int))).bind fun e=>match e with
 | .inl e=>some e
 | .inr e=>Z0d_J1 dims1 axis3 index4 e)
def Z1w (p1:(List Int))(dims3:(List Int)):Option ((List Int)×(List pair)×Bool) :=
 if (0≤(0:Int)∧(0:Int)<(p1.length:Int)) then
 if (0≤(1:Int)∧(1:Int)≤(p1.length:Int)∧(p1.length:Int)≤(p1.length:Int)) then
 (Z0d dims3 (ix p1 0) (sub p1 (1:Int) (p1.length:Int))).bind fun r10 =>
 some (r10.1,r10.2.1,r10.2.2)
 else none
 else none
def Z2m (n1:Node)(dims6:(List Int))(p8:Int)(p10:Int):Option ((List Int)×(List pair)×Bool) :=
 if ((decide ((n1.Ints.length:Int)<p8))||(decide ((n1.Ints.length:Int)>p10)))=true then (
 some (([]:List Int),([]:List pair),false))
 else (
 (Z1w n1.Ints dims6).bind fun r17 =>
 some (r17.1,r17.2.1,r17.2.2))
def Z1m (k1:shiftKind)(q2:Int)(q4:Int)(n8:Node)(args13:(List (List Int))):Option ((List Int)×Bool) :=
 if ((args13.length:Int) != 1)=true then (
 some (([]:List Int),false))
 else (
 if (0≤(0:Int)∧(0:Int)<(args13.length:Int)) then
 (Z2m n8 (ix args13 0) q2 q4).bind fun r22 =>
 some (r22.1,r22.2.2)
 else none)
def Z0e_J1 (dims1:(List Int))(axis3:Int)(n6:Int)(list42:(List pair)):Option ((List Int)×(List pair)×Bool) :=
 (Z1i dims1 axis3 n6).bind fun r44 =>
 (Zb r44).bind fun r47 =>
 if (!r47)=true then (
 some (([]:List Int),([]:List pair),false))
 else (
 (Z7 dims1 axis3 n6 list42).bind fun r50 =>
 some (r44,r50,true))
def Z0e_L1 (index4:(List Int))(n6:Int)(list25:(List pair))(x28:Int):Option (((List pair)×Int)⊕(((List Int)×(List pair)×Bool)⊕((List pair)))) :=
 if (decide (x28<(index4.length:Int)))=true then (
 if (0≤x28∧x28<(index4.length:Int)) then
 if ((decide ((ix index4 x28)<0))||(decide ((ix index4 x28)≥n6)))=true then (
 some (.inr (.inl (([]:List Int),([]:List pair),false))))
 else (
 if list25.length+([(⟨x28,(ix index4 x28)⟩:pair)]:List pair).length≤8796093022208 then
 some (.inl ((list25++([(⟨x28,(ix index4 x28)⟩:pair)]:List pair)),(w64 (x28+1))))
 else none)
 else none)
 else (
 some (.inr (.inr list25)))
def Z0e (dims1:(List Int))(axis3:Int)(index4:(List Int))(n6:Int):Option ((List Int)×(List pair)×Bool) :=
 (Zj dims1 axis3).bind fun r7 =>
 if (!r7)=false→(0≤axis3∧axis3<(dims1.length:Int)) then
 if (((!r7)||((index4.length:Int) != (ix dims1 axis3)))||(decide (n6<1)))=true then (
 some (([]:List Int),([]:List pair),false))
 else (
 (loopM (fun s:(List pair)×Int=>Z0e_L1 index4 n6 s.1 s.2) (([]:List pair),(0:Int))).bind fun e=>match e with
 | .inl e=>some e
 | .inr e=>Z0e_J1 dims1 axis3 n6 e)
 else none
def Z1x (p1:(List Int))(dims3:(List Int)):Option ((List Int)×(List pair)×Bool) :=
 if (0≤(0:Int)∧(0:Int)<(p1.length:Int)) then
 if (0≤(2:Int)∧(2:Int)≤(p1.length:Int)∧(p1.length:Int)≤(p1.length:Int)) then
 if (0≤(1:Int)∧(1:Int)<(p1.length:Int)) then
 (Z0e dims3 (ix p1 0) (sub p1 (2:Int) (p1.length:Int)) (ix p1 1)).bind fun r11 =>
 some (r11.1,r11.2.1,r11.2.2)
 else none
 else none
 else none
def Z2n (n1:Node)(dims6:(List Int))(p8:Int)(p10:Int):Option ((List Int)×(List pair)×Bool) :=
 if ((decide ((n1.Ints.length:Int)<p8))||(decide ((n1.Ints.length:Int)>p10)))=true then (
 some (([]:List Int),([]:List pair),false))
 else (
 (Z1x n1.Ints dims6).bind fun r17 =>
 some (r17.1,r17.2.1,r17.2.2))
def Z1n (k1:shiftKind)(q2:Int)(q4:Int)(n8:Node)(args13:(List (List Int))):Option ((List Int)×Bool) :=
 if ((args13.length:Int) != 1)=true then (
 some (([]:List Int),false))
 else (
 if (0≤(0:Int)∧(0:Int)<(args13.length:Int)) then
 (Z2n n8 (ix args13 0) q2 q4).bind fun r22 =>
 some (r22.1,r22.2.2)
 else none)
def Z4_J16 (dims1:(List Int))(r21:(List Int))(pairs283:(List pair)):Option ((List Int)×(List pair)×Bool) :=
 some ((sub r21 (0:Int) (w64 ((dims1.length:Int) - 1))),pairs283,true)
def Z4_J15 (i160:Int)(pairs278:(List pair)):Option (((List pair)×Int)⊕((List pair))) :=
 some (.inl (pairs278,(w64 (i160+1))))
def Z4_J14 (k219:Int)(pairs273:(List pair)):Option (((List pair)×Int)⊕((List pair))) :=
 some (.inl (pairs273,(w64 (k219+1))))
def Z4_J13 (j246:Int)(pairs268:(List pair)):Option (((List pair)×Int)⊕((List pair))) :=
 some (.inl (pairs268,(w64 (j246+1))))
def Z4_L4 (dims1:(List Int))(n5:Int)(step33:Int)(r36:Int×Int×Int)(i160:Int)(k219:Int)(j246:Int)(pairs255:(List pair))(x257:Int):Option (((List pair)×Int)⊕((List pair))) :=
 if (0≤(w64 ((dims1.length:Int) - 1))∧(w64 ((dims1.length:Int) - 1))<(dims1.length:Int)) then
 if (decide (x257<(ix dims1 (w64 ((dims1.length:Int) - 1)))))=true then (
 if pairs255.length+([(⟨(w64 ((w64 ((w64 ((w64 ((w64 ((w64 (i160*r36.2.1))+k219))*r36.2.2))+j246))*(ix dims1 (w64 ((dims1.length:Int) - 1)))))+x257)),(w64 ((w64 ((w64 ((w64 ((w64 (i160*n5))+(w64 (k219*step33))))+x257))*r36.2.2))+j246))⟩:pair)]:List pair).length≤8796093022208 then
 some (.inl ((pairs255++([(⟨(w64 ((w64 ((w64 ((w64 ((w64 ((w64 (i160*r36.2.1))+k219))*r36.2.2))+j246))*(ix dims1 (w64 ((dims1.length:Int) - 1)))))+x257)),(w64 ((w64 ((w64 ((w64 ((w64 (i160*n5))+(w64 (k219*step33))))+x257))*r36.2.2))+j246))⟩:pair)]:List pair)),(w64 (x257+1))))
 else none)
 else (
 some (.inr pairs255))
 else none
def Z4_L3 (dims1:(List Int))(n5:Int)(step33:Int)(r36:Int×Int×Int)(i160:Int)(k219:Int)(pairs244:(List pair))(j246:Int):Option (((List pair)×Int)⊕((List pair))) :=
 if (decide (j246<r36.2.2))=true then (
 (loopM (fun s:(List pair)×Int=>Z4_L4 dims1 n5 step33 r36 i160 k219 j246 s.1 s.2) (pairs244,(0:Int))).bind fun e=>Z4_J13 j246 e)
 else (
 some (.inr pairs244))
def Z4_L2 (dims1:(List Int))(n5:Int)(step33:Int)(r36:Int×Int×Int)(i160:Int)(pairs217:(List pair))(k219:Int):Option (((List pair)×Int)⊕((List pair))) :=
 if (decide (k219<r36.2.1))=true then (
 (loopM (fun s:(List pair)×Int=>Z4_L3 dims1 n5 step33 r36 i160 k219 s.1 s.2) (pairs217,(0:Int))).bind fun e=>Z4_J14 k219 e)
 else (
 some (.inr pairs217))
def Z4_L1 (dims1:(List Int))(n5:Int)(step33:Int)(r36:Int×Int×Int)(pairs158:(List pair))(i160:Int):Option (((List pair)×Int)⊕((List pair))) :=
 if (decide (i160<r36.1))=true then (
 (loopM (fun s:(List pair)×Int=>Z4_L2 dims1 n5 step33 r36 i160 s.1 s.2) (pairs158,(0:Int))).bind fun e=>Z4_J15 i160 e)
 else (
 some (.inr pairs158))
def Z4_J1 (dims1:(List Int))(axis3:Int)(n5:Int)(r21:(List Int))(step33:Int):Option ((List Int)×(List pair)×Bool) :=
 if (0≤(0:Int)∧(0:Int)≤(w64 ((dims1.length:Int) - 1))∧(w64 ((dims1.length:Int) - 1))≤(dims1.length:Int)) then
 (Z1z (sub dims1 (0:Int) (w64 ((dims1.length:Int) - 1))) axis3).bind fun r36 =>
 (loopM (fun s:(List pair)×Int=>Z4_L1 dims1 n5 step33 r36 s.1 s.2) (([]:List pair),(0:Int))).bind fun e=>Z4_J16 dims1 r21 e
 else none
def Z4 (dims1:(List Int))(axis3:Int)(step4:Int)(n5:Int):Option ((List Int)×(List pair)×Bool) :=
 (Zj dims1 axis3).bind fun r6 =>
 if (((((!r6)||(axis3==(w64 ((dims1.length:Int) - 1))))||(decide (step4<1)))||(decide (n5<1)))||(decide (n5>4096)))=false→(0≤(w64 ((dims1.length:Int) - 1))∧(w64 ((dims1.length:Int) - 1))<(dims1.length:Int)) then
 if ((((((!r6)||(axis3==(w64 ((dims1.length:Int) - 1))))||(decide (step4<1)))||(decide (n5<1)))||(decide (n5>4096)))||(decide ((ix dims1 (w64 ((dims1.length:Int) - 1)))>n5)))=false→(0≤axis3∧axis3<(dims1.length:Int)) then
 if ((((((!r6)||(axis3==(w64 ((dims1.length:Int) - 1))))||(decide (step4<1)))||(decide (n5<1)))||(decide (n5>4096)))||(decide ((ix dims1 (w64 ((dims1.length:Int) - 1)))>n5)))=false→(0≤(w64 ((dims1.length:Int) - 1))∧(w64 ((dims1.length:Int) - 1))<(dims1.length:Int)) then
 if ((((((!r6)||(axis3==(w64 ((dims1.length:Int) - 1))))||(decide (step4<1)))||(decide (n5<1)))||(decide (n5>4096)))||(decide ((ix dims1 (w64 ((dims1.length:Int) - 1)))>n5)))=false→step4≠0 then
 if (((((((!r6)||(axis3==(w64 ((dims1.length:Int) - 1))))||(decide (step4<1)))||(decide (n5<1)))||(decide (n5>4096)))||(decide ((ix dims1 (w64 ((dims1.length:Int) - 1)))>n5)))||((ix dims1 axis3) != (w64 ((w64 ((w64 (n5 - (ix dims1 (w64 ((dims1.length:Int) - 1))))).tdiv step4))+1))))=true then (
 some (([]:List Int),([]:List pair),false))
 else (
 (Z1i dims1 axis3 n5).bind fun r21 =>
 if (0≤(0:Int)∧(0:Int)≤(w64 ((dims1.length:Int) - 1))∧(w64 ((dims1.length:Int) - 1))≤(r21.length:Int)) then
 (Zb (sub r21 (0:Int) (w64 ((dims1.length:Int) - 1)))).bind fun r26 =>
 if (!r26)=true then (
 some (([]:List Int),([]:List pair),false))
 else (
 if (0≤axis3∧axis3<(dims1.length:Int)) then
 if ((ix dims1 axis3)==1)=true then (
 Z4_J1 dims1 axis3 n5 r21 (0:Int))
 else (
 Z4_J1 dims1 axis3 n5 r21 step4)
 else none)
 else none)
 else none
 else none
 else none
 else none
def Z1y (p1:(List Int))(dims3:(List Int)):Option ((List Int)×(List pair)×Bool) :=
 if (0≤(0:Int)∧(0:Int)<(p1.length:Int)) then
 if (0≤(1:Int)∧(1:Int)<(p1.length:Int)) then
 if (0≤(2:Int)∧(2:Int)<(p1.length:Int)) then
 (Z4 dims3 (ix p1 0) (ix p1 1) (ix p1 2)).bind fun r10 =>
 some (r10.1,r10.2.1,r10.2.2)
 else none
 else none
 else none
def Z2o (n1:Node)(dims6:(List Int))(p8:Int)(p10:Int):Option ((List Int)×(List pair)×Bool) :=
 if ((decide ((n1.Ints.length:Int)<p8))||(decide ((n1.Ints.length:Int)>p10)))=true then (
 some (([]:List Int),([]:List pair),false))
 else (
 (Z1y n1.Ints dims6).bind fun r17 =>
 some (r17.1,r17.2.1,r17.2.2))
def Z1o (k1:shiftKind)(q2:Int)(q4:Int)(n8:Node)(args13:(List (List Int))):Option ((List Int)×Bool) :=
 if ((args13.length:Int) != 1)=true then (
 some (([]:List Int),false))
 else (
 if (0≤(0:Int)∧(0:Int)<(args13.length:Int)) then
 (Z2o n8 (ix args13 0) q2 q4).bind fun r22 =>
 some (r22.1,r22.2.2)
 else none)
def kindOfR_shape (r:kindOfR)(x0:Node)(x1:(List (List Int))):Option ((List Int)×Bool) :=
 if Nat.beq r.t 0=true then none else (if Nat.beq r.t 1=true then Z1h (⟨r.b0⟩:leafKind) x0 x1 else (if Nat.beq r.t 2=true then Z20 (⟨r.i0⟩:pairKind) x0 x1 else (if Nat.beq r.t 3=true then Z2r (⟨r.i0⟩:soloKind) x0 x1 else (if Nat.beq r.t 4=true then Z1t (⟨⟩:topKind) x0 x1 else (if Nat.beq r.t 5=true then Z2q (⟨⟩:formKind) x0 x1 else (if Nat.beq r.t 6=true then Z1p (⟨r.s0⟩:shiftKind) x0 x1 else (if Nat.beq r.t 7=true then Z21 (⟨r.s0⟩:shiftKind) x0 x1 else (if Nat.beq r.t 8=true then Z1l (⟨r.s0⟩:shiftKind) r.i0 r.i1 x0 x1 else (if Nat.beq r.t 9=true then Z1m (⟨r.s0⟩:shiftKind) r.i0 r.i1 x0 x1 else (if Nat.beq r.t 10=true then Z1n (⟨r.s0⟩:shiftKind) r.i0 r.i1 x0 x1 else (Z1o (⟨r.s0⟩:shiftKind) r.i0 r.i1 x0 x1)))))))))))
def Zd_J1 (n1:Node)(r9:kindOfR)(args56:(List (List Int))):Option ((List Int)×Bool) :=
 (kindOfR_shape r9 n1 args56).bind fun r58 =>
 some (r58.1,r58.2)
def Zd_L1 (n1:Node)(shapes6:(List (List Int)))(args35:(List (List Int)))(x38:Int):Option (((List (List Int))×Int)⊕(((List Int)×Bool)⊕((List (List Int))))) :=
 if (decide (x38<(n1.Args.length:Int)))=true then (
 if (0≤x38∧x38<(n1.Args.length:Int)) then
 if ((decide ((ix n1.Args x38)<0))||(decide ((ix n1.Args x38)≥(shapes6.length:Int))))=true then (
 some (.inr (.inl (([]:List Int),false))))
 else (
 if (0≤(ix n1.Args x38)∧(ix n1.Args x38)<(shapes6.length:Int)) then
 if args35.length+([(ix shapes6 (ix n1.Args x38))]:List (List Int)).length≤5864062014805 then
 some (.inl ((args35++([(ix shapes6 (ix n1.Args x38))]:List (List Int))),(w64 (x38+1))))
 else none
 else none)
 else none)
 else (
 some (.inr (.inr args35)))
def Zd (n1:Node)(shapes6:(List (List Int))):Option ((List Int)×Bool) :=
 (Zw n1.Op).bind fun r9 =>
 (gcall (!(Nat.beq r9.t 0)) (kindOfR_uses r9)).bind fun r14 =>
 (gcall (!(Nat.beq r9.t 0)) (Z1s n1 r14)).bind fun r16 =>
 if (((Nat.beq r9.t 0)||(!r16))||(decide ((n1.Args.length:Int)>6)))=true then (
 some (([]:List Int),false))
 else (
 (loopM (fun s:(List (List Int))×Int=>Zd_L1 n1 shapes6 s.1 s.2) (([]:List (List Int)),(0:Int))).bind fun e=>match e with
 | .inl e=>some e
 | .inr e=>Zd_J1 n1 r9 e)
def Zh_J2 (x46:(List (List Int))):Option ((List (List Int))×Bool) :=
 some (x46,true)
def Zh_L2 (g1:Graph)(x55:Int):Option ((Int)⊕(((List (List Int))×Bool)⊕(Unit))) :=
 if (decide (x55<(g1.Outs.length:Int)))=true then (
 if (0≤x55∧x55<(g1.Outs.length:Int)) then
 if ((decide ((ix g1.Outs x55)<0))||(decide ((ix g1.Outs x55)≥(g1.Nodes.length:Int))))=true then (
 some (.inr (.inl (([]:List (List Int)),false))))
 else (
 some (.inl (w64 (x55+1))))
 else none)
 else (
 some (.inr (.inr ())))
def Zh_J1 (g1:Graph)(x46:(List (List Int))):Option ((List (List Int))×Bool) :=
 (loopM (fun s:Int=>Zh_L2 g1 s) (0:Int)).bind fun e=>match e with
 | .inl e=>some e
 | .inr e=>Zh_J2 x46
def Zh_L1 (g1:Graph)(x24:(List (List Int)))(x26:Int):Option (((List (List Int))×Int)⊕(((List (List Int))×Bool)⊕((List (List Int))))) :=
 if (decide (x26<(g1.Nodes.length:Int)))=true then (
 if (0≤x26∧x26<(g1.Nodes.length:Int)) then
 (Zd (ix g1.Nodes x26) x24).bind fun r36 =>
 if (!r36.2)=true then (
 some (.inr (.inl (([]:List (List Int)),false))))
 else (
 if x24.length+([r36.1]:List (List Int)).length≤5864062014805 then
 some (.inl ((x24++([r36.1]:List (List Int))),(w64 (x26+1))))
 else none)
 else none)
 else (
 some (.inr (.inr x24)))
def Zh (g1:Graph):Option ((List (List Int))×Bool) :=
 if ((decide ((g1.Nodes.length:Int)>200))||(decide ((g1.Outs.length:Int)>40)))=true then (
 some (([]:List (List Int)),false))
 else (
 (loopM (fun s:(List (List Int))×Int=>Zh_L1 g1 s.1 s.2) (([]:List (List Int)),(0:Int))).bind fun e=>match e with
 | .inl e=>some e
 | .inr e=>Zh_J1 g1 e)
def Z2h (g1:Graph):Option (Bool) :=
 (Zh g1).bind fun r5 =>
 some r5.2
def Zu_J1:Option (Bool) :=
 some true
def Zu_L1 (a1:(List Int))(b3:(List Int))(i14:Int):Option ((Int)⊕((Bool)⊕(Unit))) :=
 if (decide (i14<(a1.length:Int)))=true then (
 if (0≤i14∧i14<(a1.length:Int)) then
 if (0≤i14∧i14<(b3.length:Int)) then
 if ((ix a1 i14) != (ix b3 i14))=true then (
 some (.inr (.inl false)))
 else (
 some (.inl (w64 (i14+1))))
 else none
 else none)
 else (
 some (.inr (.inr ())))
def Zu (a1:(List Int))(b3:(List Int)):Option (Bool) :=
 if ((a1.length:Int) != (b3.length:Int))=true then (
 some false)
 else (
 (loopM (fun s:Int=>Zu_L1 a1 b3 s) (0:Int)).bind fun e=>match e with
 | .inl e=>some e
 | .inr e=>Zu_J1)
def Z2f (a1:Node)(b6:Node):Option (Bool) :=
 if (a1.Op != b6.Op)=true then (
 some false)
 else (
 (Zu a1.Args b6.Args).bind fun r14 =>
 if (!r14)=true then (
 some false)
 else (
 (Zu a1.Dims b6.Dims).bind fun r17 =>
 if (!r17)=true then (
 some false)
 else (
 (Zu a1.Ints b6.Ints).bind fun r20 =>
 if (!r20)=true then (
 some false)
 else (
 if (!(a1.Form==b6.Form))=true then (
 some false)
 else (
 (Zu a1.Data b6.Data).bind fun r24 =>
 if (!r24)=true then (
 some false)
 else (
 some true))))))
def Z1a_J1:Option (Bool) :=
 some true
def Z1a_L1 (a1:(List Node))(b3:(List Node))(i24:Int):Option ((Int)⊕((Bool)⊕(Unit))) :=
 if (decide (i24<(a1.length:Int)))=true then (
 if (0≤i24∧i24<(a1.length:Int)) then
 if (0≤i24∧i24<(b3.length:Int)) then
 (Z2f (ix a1 i24) (ix b3 i24)).bind fun r40 =>
 if (!r40)=true then (
 some (.inr (.inl false)))
 else (
 some (.inl (w64 (i24+1))))
 else none
 else none)
 else (
 some (.inr (.inr ())))
def Z1a (a1:(List Node))(b3:(List Node)):Option (Bool) :=
 if ((a1.length:Int) != (b3.length:Int))=true then (
 some false)
 else (
 (loopM (fun s:Int=>Z1a_L1 a1 b3 s) (0:Int)).bind fun e=>match e with
 | .inl e=>some e
 | .inr e=>Z1a_J1)
def Z2e (a1:Graph)(b4:Graph):Option (Bool) :=
 (Z1a a1.Nodes b4.Nodes).bind fun r9 =>
 if (!r9)=true then (
 some false)
 else (
 (Zu a1.Outs b4.Outs).bind fun r12 =>
 if (!r12)=true then (
 some false)
 else (
 some true))
def Z01_J3 (x36:(List Int)):Option ((List Int)) :=
 some x36
def Z01_J2 (k21:Int)(x31:(List Int)):Option (((List Int)×Int)⊕((List Int))) :=
 some (.inl (x31,(w64 (k21+1))))
def Z01_L1 (g1:Graph)(r6:Bool)(x19:(List Int))(k21:Int):Option (((List Int)×Int)⊕((List Int))) :=
 if ((decide (k21<(g1.Nodes.length:Int)))&&r6)=true then (
 if (0≤k21∧k21<(g1.Nodes.length:Int)) then
 if ((ix g1.Nodes k21).Op==1)=true then (
 if x19.length+([k21]:List Int).length≤17592186044416 then
 Z01_J2 k21 (x19++([k21]:List Int))
 else none)
 else (
 Z01_J2 k21 x19)
 else none)
 else (
 some (.inr x19))
def Z01 (g1:Graph):Option ((List Int)) :=
 (Z2u g1).bind fun r6 =>
 (loopM (fun s:(List Int)×Int=>Z01_L1 g1 r6 s.1 s.2) (([]:List Int),(0:Int))).bind fun e=>Z01_J3 e
def Z06_J3 (x42:(List Int)):Option ((List Int)) :=
 some x42
def Z06_J2 (x23:Int)(x37:(List Int)):Option (((List Int)×Int)⊕((List Int))) :=
 some (.inl (x37,(w64 (x23+1))))
def Z06_L1 (g1:Graph)(x21:(List Int))(x23:Int):Option (((List Int)×Int)⊕((List Int))) :=
 if (decide (x23<(g1.Nodes.length:Int)))=true then (
 if (0≤x23∧x23<(g1.Nodes.length:Int)) then
 if ((ix g1.Nodes x23).Op==1)=true then (
 if x21.length+([x23]:List Int).length≤17592186044416 then
 Z06_J2 x23 (x21++([x23]:List Int))
 else none)
 else (
 Z06_J2 x23 x21)
 else none)
 else (
 some (.inr x21))
def Z06 (g1:Graph):Option ((List Int)) :=
 (loopM (fun s:(List Int)×Int=>Z06_L1 g1 s.1 s.2) (([]:List Int),(0:Int))).bind fun e=>Z06_J3 e
def Z1u (g1:Graph):Option ((List Int)) :=
 (Z2h g1).bind fun r5 =>
 if (!r5)=true then (
 some ([]:List Int))
 else (
 (Z06 g1).bind fun r8 =>
 some r8)
def Zs_J1 (k18:Int)(p19:(List Int)):Option (Int×(List Int)) :=
 some (k18,p19)
def Zs_L1 (a1:(List Int))(a8:(List Int))(k9:Int)(i10:Int):Option (((List Int)×Int×Int)⊕(Int×(List Int))) :=
 if (decide (i10<(a1.length:Int)))=true then (
 if (0≤i10∧i10<(a1.length:Int)) then
 some (.inl ((a8.set i10.toNat k9),(w64 (k9+1)),(w64 (i10+1))))
 else none)
 else (
 some (.inr (k9,a8)))
def Zs (a1:(List Int))(k3:Int):Option (Int×(List Int)) :=
 (loopM (fun s:(List Int)×Int×Int=>Zs_L1 a1 s.1 s.2.1 s.2.2) (a1,k3,(0:Int))).bind fun e=>Zs_J1 e.1 e.2
def Z0m_J1 (x13:Str):Option (Str) :=
 if str8.length+x13.length≤9223372036854775807 then
 some (str8++x13)
 else none
def Z0m_L1 (k6:Int)(x7:Str):Option ((Int×Str)⊕(Str)) :=
 if (decide (k6>0))=true then (
 if (strB ([(IntKind.wrap .u8 ((w64 ((48:Int)+(k6.tmod (10:Int))))))]:List Int)).length+x7.length≤9223372036854775807 then
 some (.inl ((w64 (k6.tdiv (10:Int))),((strB ([(IntKind.wrap .u8 ((w64 ((48:Int)+(k6.tmod (10:Int))))))]:List Int))++x7)))
 else none)
 else (
 some (.inr x7))
def Z0m (k1:Int):Option (Str) :=
 if (decide (k1≤0))=true then (
 some str7)
 else (
 (loopM (fun s:Int×Str=>Z0m_L1 s.1 s.2) (k1,([]:Str))).bind fun e=>Z0m_J1 e)
def Z0k_J1 (k94:Int)(p95:(List Node)):Option (Int×(List Node)) :=
 some (k94,p95)
def Z0k_L1 (a1:(List Node))(a46:(List Node))(k47:Int)(i48:Int):Option (((List Node)×Int×Int)⊕(Int×(List Node))) :=
 if (decide (i48<(a1.length:Int)))=true then (
 if (0≤i48∧i48<(a1.length:Int)) then
 (nm (a46.set i48.toNat (⟨k47,(ix a46 i48).Args,(ix a46 i48).Dims,(ix a46 i48).Ints,(ix a46 i48).Form,(ix a46 i48).Data⟩:Node))).bind fun l53 =>
 (Zs ((ix l53 i48).Args) (w64 (k47+1))).bind fun r59 =>
 (nm (l53.set i48.toNat (⟨(ix l53 i48).Op,r59.2,(ix l53 i48).Dims,(ix l53 i48).Ints,(ix l53 i48).Form,(ix l53 i48).Data⟩:Node))).bind fun l61 =>
 (Zs ((ix l61 i48).Dims) r59.1).bind fun r67 =>
 (nm (l61.set i48.toNat (⟨(ix l61 i48).Op,(ix l61 i48).Args,r67.2,(ix l61 i48).Ints,(ix l61 i48).Form,(ix l61 i48).Data⟩:Node))).bind fun l69 =>
 (Zs ((ix l69 i48).Ints) r67.1).bind fun r75 =>
 (nm (l69.set i48.toNat (⟨(ix l69 i48).Op,(ix l69 i48).Args,(ix l69 i48).Dims,r75.2,(ix l69 i48).Form,(ix l69 i48).Data⟩:Node))).bind fun l77 =>
 (Z0m r75.1).bind fun r79 =>
 (nm (l77.set i48.toNat (⟨(ix l77 i48).Op,(ix l77 i48).Args,(ix l77 i48).Dims,(ix l77 i48).Ints,r79,(ix l77 i48).Data⟩:Node))).bind fun l81 =>
 (Zs ((ix l81 i48).Data) (w64 (r75.1+1))).bind fun r87 =>
 (nm (l81.set i48.toNat (⟨(ix l81 i48).Op,(ix l81 i48).Args,(ix l81 i48).Dims,(ix l81 i48).Ints,(ix l81 i48).Form,r87.2⟩:Node))).bind fun l89 =>
 some (.inl (l89,r87.1,(w64 (i48+1))))
 else none)
 else (
 some (.inr (k47,a46)))
def Z0k (a1:(List Node))(k3:Int):Option (Int×(List Node)) :=
 (loopM (fun s:(List Node)×Int×Int=>Z0k_L1 a1 s.1 s.2.1 s.2.2) (a1,k3,(0:Int))).bind fun e=>Z0k_J1 e.1 e.2
def Z22 (a1:Graph)(k4:Int):Option (Int×(List Node)×(List Int)) :=
 (Z0k a1.Nodes k4).bind fun r6 =>
 (Zs a1.Outs r6.1).bind fun r8 =>
 some (r8.1,r6.2,r8.2)
def Z0b_J1 (k18:Int):Option (Int) :=
 some k18
def Z0b_L1 (a1:(List Int))(k9:Int)(i10:Int):Option ((Int×Int)⊕((Int)⊕(Int))) :=
 if (decide (i10<(a1.length:Int)))=true then (
 if (0≤i10∧i10<(a1.length:Int)) then
 if ((ix a1 i10) != k9)=true then (
 some (.inr (.inl (-1:Int))))
 else (
 some (.inl ((w64 (k9+1)),(w64 (i10+1)))))
 else none)
 else (
 some (.inr (.inr k9)))
def Z0b (a1:(List Int))(k3:Int):Option (Int) :=
 (loopM (fun s:Int×Int=>Z0b_L1 a1 s.1 s.2) (k3,(0:Int))).bind fun e=>match e with
 | .inl e=>some e
 | .inr e=>Z0b_J1 e
def Z34 (aG1:Graph):Option (Bool) :=
 (Z2s aG1 (1048576:Int)).bind fun r5 =>
 if (decide (r5<0))=true then (
 some true)
 else (
 (Z16 aG1).bind fun r8 =>
 (Z01 r8).bind fun r12 =>
 (Z16 aG1).bind fun r15 =>
 (Z1u r15).bind fun r20 =>
 (Zu r20 r12).bind fun r23 =>
 if (!r23)=true then (
 some false)
 else (
 (Z16 aG1).bind fun r26 =>
 (Z2e r15 r26).bind fun r30 =>
 if (!r30)=true then (
 some false)
 else (
 (Z22 r15 (1:Int)).bind fun r33 =>
 (gcall (!(decide (r33.1<0))) (Zu r20 r12)).bind fun r35 =>
 if ((decide (r33.1<0))||(!r35))=true then (
 some false)
 else (
 (Zs r20 (1:Int)).bind fun r39 =>
 (Z0b r39.2 (1:Int)).bind fun r41 =>
 if (decide (r41<0))=true then (
 some false)
 else (
 if (r41 != r39.1)=true then (
 some false)
 else (
 (Z16 aG1).bind fun r45 =>
 (Z1u r45).bind fun r49 =>
 (Zu r49 r12).bind fun r52 =>
 if (!r52)=true then (
 some false)
 else (
 (Z0b r39.2 (1:Int)).bind fun r55 =>
 if (decide (r55<0))=true then (
 some false)
 else (
 if (r55 != r39.1)=true then (
 some false)
 else (
 some true)))))))))
end
end Go.Proofs.YtmpnollfdpdipaaGreat
