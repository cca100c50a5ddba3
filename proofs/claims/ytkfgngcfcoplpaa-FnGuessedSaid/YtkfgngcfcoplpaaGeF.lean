import Derived.Test.YtkfgngcfcoplpaaGeH
set_option linter.unusedVariables false
namespace Go.Proofs.Ytkfgngcfcoplpaa
open Go Go.Pg
noncomputable section
def Z1g (code1 : (List Int)) : Option (Bool) :=
 some (decide ((code1.length : Int) > (1048576 : Int)))
def Z0e_J1 (code1 : (List Int)) (x17 : Int) : Option (l1Cur) :=
 some (⟨code1, (0 : Int), x17⟩ : l1Cur)
def Z0e_L1 (code1 : (List Int)) (x8 : Int) (i9 : Int) : Option ((Int × Int) ⊕ (Int)) :=
 if ((decide (i9 < (code1.length : Int))) && (decide (i9 < (4000 : Int)))) = true then (
 if (0 ≤ i9 ∧ i9 < (code1.length : Int)) then
 some (.inl ((bits .and .i64 (w64 ((w64 ((w64 (x8 * (131 : Int))) + (w64 ((ix code1 i9))))) + (7 : Int))) (1073741823 : Int)), (w64 (i9 + (1 : Int)))))
 else none)
 else (
 some (.inr x8))
def Z0e (code1 : (List Int)) : Option (l1Cur) :=
 (loopM (fun s : Int × Int => Z0e_L1 code1 s.1 s.2) ((w64 ((71933 : Int) + (code1.length : Int))), (0 : Int))).bind fun e => Z0e_J1 code1 e
def Z06_J1 (c1 : l1Cur) (x8 : Int) (p9 : Int) : Option (Int × l1Cur) :=
 some (x8, (⟨c1.b, p9, (w64 ((w64 (c1.h_ * (6364136223846793005 : Int))) + (1442695040888963407 : Int)))⟩ : l1Cur))
def Z06 (c1 : l1Cur) : Option (Int × l1Cur) :=
 if (decide (c1.i < (c1.b.length : Int))) = true then (
 if (0 ≤ c1.i ∧ c1.i < (c1.b.length : Int)) then
 Z06_J1 c1 (bits .and .i64 (w64 ((bits .and .i64 (bits .xor .i64 ((w64 ((w64 (c1.h_ * (6364136223846793005 : Int))) + (1442695040888963407 : Int))) / 2 ^ (33 : Int).toNat) ((w64 ((w64 (c1.h_ * (6364136223846793005 : Int))) + (1442695040888963407 : Int))) / 2 ^ (45 : Int).toNat)) (255 : Int)) + (w64 ((ix c1.b c1.i))))) (255 : Int)) (w64 (c1.i + (1 : Int)))
 else none)
 else (
 Z06_J1 c1 (bits .and .i64 (bits .xor .i64 ((w64 ((w64 (c1.h_ * (6364136223846793005 : Int))) + (1442695040888963407 : Int))) / 2 ^ (33 : Int).toNat) ((w64 ((w64 (c1.h_ * (6364136223846793005 : Int))) + (1442695040888963407 : Int))) / 2 ^ (45 : Int).toNat)) (255 : Int)) c1.i)
def Zb (c1 : l1Cur) (n4 : Int) : Option (Int × l1Cur) :=
 if (decide (n4 ≤ (0 : Int))) = true then (
 some ((0 : Int), c1))
 else (
 if (decide (n4 ≤ (256 : Int))) = true then (
 (Z06 c1).bind fun (r7 : Int × l1Cur) =>
 if n4 ≠ 0 then
 some ((r7.1.tmod n4), r7.2)
 else none)
 else (
 (Z06 c1).bind fun (r11 : Int × l1Cur) =>
 (Z06 r11.2).bind fun (r14 : Int × l1Cur) =>
 (Z06 r14.2).bind fun (r17 : Int × l1Cur) =>
 (Z06 r17.2).bind fun (r20 : Int × l1Cur) =>
 if n4 ≠ 0 then
 some (((w64 ((w64 ((w64 ((w64 (r11.1 * (16777216 : Int))) + (w64 (r14.1 * (65536 : Int))))) + (w64 (r17.1 * (256 : Int))))) + r20.1)).tmod n4), r20.2)
 else none))
def Z09_J1 (x35 : (List Int)) (p37 : (List Int)) (p39 : Int) (p40 : Int) : Option ((List Int) × l1Cur) :=
 some (x35, (⟨p37, p39, p40⟩ : l1Cur))
def Z09_L1 (size4 : Int) (c14 : (List Int)) (c16 : Int) (c17 : Int) (n18 : Int) (x19 : (List Int)) : Option (((List Int) × Int × Int × Int × (List Int)) ⊕ ((List Int) × (List Int) × Int × Int)) :=
 if (decide (n18 > (0 : Int))) = true then (
 (Zb (⟨c14, c16, c17⟩ : l1Cur) size4).bind fun (r22 : Int × l1Cur) =>
 if x19.length + ([r22.1] : List Int).length ≤ 17592186044416 then
 some (.inl (r22.2.b, r22.2.i, r22.2.h_, (w64 (n18 - (1 : Int))), (x19 ++ ([r22.1] : List Int))))
 else none)
 else (
 some (.inr (x19, c14, c16, c17)))
def Z09 (c1 : l1Cur) (size4 : Int) (n5 : Int) : Option ((List Int) × l1Cur) :=
 (loopM (fun s : (List Int) × Int × Int × Int × (List Int) => Z09_L1 size4 s.1 s.2.1 s.2.2.1 s.2.2.2.1 s.2.2.2.2) (c1.b, c1.i, c1.h_, n5, ([] : List Int))).bind fun e => Z09_J1 e.1 e.2.1 e.2.2.1 e.2.2.2
def Z0l (c1 : l1Cur) (list4 : (List Int)) : Option (Int × l1Cur) :=
 (Zb c1 (list4.length : Int)).bind fun (r6 : Int × l1Cur) =>
 if (0 ≤ r6.1 ∧ r6.1 < (list4.length : Int)) then
 some ((ix list4 r6.1), r6.2)
 else none
def Zo_J1 : Option (Bool) :=
 some true
def Zo_L1 (a1 : (List Int)) (b3 : (List Int)) (i14 : Int) : Option ((Int) ⊕ ((Bool) ⊕ (Unit))) :=
 if (decide (i14 < (a1.length : Int))) = true then (
 if (0 ≤ i14 ∧ i14 < (a1.length : Int)) then
 if (0 ≤ i14 ∧ i14 < (b3.length : Int)) then
 if ((ix a1 i14) != (ix b3 i14)) = true then (
 some (.inr (.inl false)))
 else (
 some (.inl (w64 (i14 + (1 : Int)))))
 else none
 else none)
 else (
 some (.inr (.inr ())))
def Zo (a1 : (List Int)) (b3 : (List Int)) : Option (Bool) :=
 if ((a1.length : Int) != (b3.length : Int)) = true then (
 some false)
 else (
 (loopM (fun s : Int => Zo_L1 a1 b3 s) (0 : Int)).bind fun e => match e with
 | .inl e => some e
 | .inr e => Zo_J1)
def Z0g (c1 : l1Cur) (n4 : Int) : Option (Bool × l1Cur) :=
 (Zb c1 n4).bind fun (r5 : Int × l1Cur) =>
 some ((r5.1 == (0 : Int)), r5.2)
def unz (w : List Int) (xs : List Row) : List Row := xs.map fun x => (⟨x.Key, if x.Weights = [-1] then w else x.Weights⟩ : Row)
abbrev kV (A : Option Addr) (n c : Nat) : Kind Row := Kind.iso (Kind.pair kT29 (Kind.lz kT3 A n c)) (fun x : Row => (x.Key, x.Weights))
def dV (A : Option Addr) (n c : Nat) : DecK (kV A n c) := DecK.iso (DecK.pair dT29 (DecK.lz kT3 A n c)) _
def mSV (A : Option Addr) (n c : Nat) : MkS (kV A n c) := MkS.iso (MkS.pair mS29 (MkS.lz kT3 A n c)) _
def zV (A : Option Addr) (n c : Nat) : Zr (kV A n c) := Zr.iso (Zr.pair zT29 (Zr.lz kT3 A n c)) _ ⟨zT29.z, []⟩ rfl
def Z0_J10 (x360 : Int) (x361 : (List Row)) (p363 : (List Int)) (p365 : Int) (p366 : Int) : Option (Lm × l1Cur) :=
 some ((⟨x360, x361⟩ : Lm), (⟨p363, p365, p366⟩ : l1Cur))
def Z0_J9 (size4 : Int) (c319 : (List Int)) (c321 : Int) (c322 : Int) (x323 : (List Row)) (w0 : (List Int)) : Option (Lm × l1Cur) :=
 (Z0g (⟨c319, c321, c322⟩ : l1Cur) (30 : Int)).bind fun (r325 : Bool × l1Cur) =>
 if r325.1 = true then (
 (Zb r325.2 (5 : Int)).bind fun (r329 : Int × l1Cur) =>
 if (r329.1 == (0 : Int)) = true then (
 if (0 ≤ (1 : Int) ∧ (1 : Int) ≤ (x323.length : Int) ∧ (x323.length : Int) ≤ (x323.length : Int)) then
 Z0_J10 size4 (sub (unz w0 x323) (1 : Int) (x323.length : Int)) r329.2.b r329.2.i r329.2.h_
 else none)
 else (
 if (r329.1 == (1 : Int)) = true then (
 if (0 ≤ size4 ∧ size4 ≤ 140737488355328 ∧ 8 * size4 ≤ 281474976710656) then
 if (0 ≤ (0 : Int) ∧ (0 : Int) < (x323.length : Int)) then
 if (List.replicate size4.toNat (0 : Int)) ≠ [-1] then
 (nm (x323.set (0 : Int).toNat (⟨(ix x323 (0 : Int)).Key, (List.replicate size4.toNat (0 : Int))⟩ : Row))).bind fun (l341 : (List Row)) =>
 Z0_J10 size4 (unz w0 l341) r329.2.b r329.2.i r329.2.h_
 else none
 else none
 else none)
 else (
 if (r329.1 == (2 : Int)) = true then (
 if (0 ≤ (0 : Int) ∧ (0 : Int) < (x323.length : Int)) then
 if (ix x323 (0 : Int)).Weights = [-1] then
 if (0 ≤ (0 : Int) ∧ (0 : Int) < (w0.length : Int)) then
 Z0_J10 size4 (unz (w0.set (0 : Int).toNat (1001 : Int)) x323) r329.2.b r329.2.i r329.2.h_
 else none
 else none
 else none)
 else (
 if (r329.1 == (3 : Int)) = true then (
 Z0_J10 (w64 (size4 + (1 : Int))) (unz w0 x323) r329.2.b r329.2.i r329.2.h_)
 else (
 if (r329.1 == (4 : Int)) = true then (
 if (0 ≤ (0 : Int) ∧ (0 : Int) < (x323.length : Int)) then
 (nm (x323.set (0 : Int).toNat (⟨([(0 : Int), (0 : Int), (0 : Int), (0 : Int), (0 : Int)] : List Int), (ix x323 (0 : Int)).Weights⟩ : Row))).bind fun (l358 : (List Row)) =>
 Z0_J10 size4 (unz w0 l358) r329.2.b r329.2.i r329.2.h_
 else none)
 else (
 Z0_J10 size4 (unz w0 x323) r329.2.b r329.2.i r329.2.h_))))))
 else (
 Z0_J10 size4 (unz w0 x323) r325.2.b r325.2.i r325.2.h_)
def Z0_J8 (i255 : Int) (c306 : (List Int)) (c308 : Int) (c309 : Int) (x310 : (List Row)) : Option (((List Int) × Int × Int × (List Row) × Int) ⊕ ((List Int) × Int × Int × (List Row))) :=
 some (.inl (c306, c308, c309, x310, (w64 (i255 + (1 : Int)))))
def Z0_J7 (m51 : (List Row)) (m191 : (List Row)) (c249 : (List Int)) (c251 : Int) (c252 : Int) (x253 : (List Row)) (i255 : Int) (x290 : Bool) : Option (((List Int) × Int × Int × (List Row) × Int) ⊕ ((List Int) × Int × Int × (List Row))) :=
 (gcallv (!(!x290)) (default, (⟨c249, c251, c252⟩ : l1Cur)) (Z0g (⟨c249, c251, c252⟩ : l1Cur) (60 : Int))).bind fun (r291 : Bool × l1Cur) =>
 if ((!x290) || r291.1) = true then (
 if (0 ≤ i255 ∧ i255 < (m51.length : Int)) then
 if x253.length + ([(ix m191 i255)] : List Row).length ≤ 2932031007402 then
 Z0_J8 i255 r291.2.b r291.2.i r291.2.h_ (x253 ++ ([(ix m191 i255)] : List Row))
 else none
 else none)
 else (
 Z0_J8 i255 r291.2.b r291.2.i r291.2.h_ x253)
def Z0_L5 (m51 : (List Row)) (m191 : (List Row)) (x253 : (List Row)) (i255 : Int) (x272 : Bool) (k273 : Int) : Option ((Bool × Int) ⊕ (Bool)) :=
 if (decide (k273 < (x253.length : Int))) = true then (
 if x272 = false → (0 ≤ k273 ∧ k273 < (x253.length : Int)) then
 if x272 = false → (0 ≤ i255 ∧ i255 < (m51.length : Int)) then
 (gcall (!x272) (Zo ((ix x253 k273).Key) ((ix m191 i255).Key))).bind fun (r285 : Bool) =>
 some (.inl ((x272 || r285), (w64 (k273 + (1 : Int)))))
 else none
 else none)
 else (
 some (.inr x272))
def Z0_L4 (m51 : (List Row)) (m191 : (List Row)) (c249 : (List Int)) (c251 : Int) (c252 : Int) (x253 : (List Row)) (i255 : Int) : Option (((List Int) × Int × Int × (List Row) × Int) ⊕ ((List Int) × Int × Int × (List Row))) :=
 if (decide (i255 < (m51.length : Int))) = true then (
 (loopM (fun s : Bool × Int => Z0_L5 m51 m191 x253 i255 s.1 s.2) (false, (0 : Int))).bind fun e => Z0_J7 m51 m191 c249 c251 c252 x253 i255 e)
 else (
 some (.inr (c249, c251, c252, x253)))
def Z0_J4 (size4 : Int) (m51 : (List Row)) (c187 : (List Int)) (c189 : Int) (c190 : Int) (m191 : (List Row)) (w0 : (List Int)) : Option (Lm × l1Cur) :=
 (loopM (fun s : (List Int) × Int × Int × (List Row) × Int => Z0_L4 m51 m191 s.1 s.2.1 s.2.2.1 s.2.2.2.1 s.2.2.2.2) (c187, c189, c190, ([] : List Row), (0 : Int))).bind fun e => Z0_J9 size4 e.1 e.2.1 e.2.2.1 e.2.2.2 w0
def Z0_J3 (size4 : Int) (m51 : (List Row)) (m118 : (List Row)) (w0 : (List Int)) (i119 : Int) (c164 : (List Int)) (c166 : Int) (c167 : Int) (x168 : (List Int)) : Option (((List Int) × Int × Int × (List Row) × (List Int) × Int) ⊕ ((List Int) × Int × Int × (List Row) × (List Int))) :=
 (Zb (⟨c164, c166, c167⟩ : l1Cur) size4).bind fun (r170 : Int × l1Cur) =>
 if (0 ≤ r170.1 ∧ r170.1 < (x168.length : Int)) then
 if (0 ≤ i119 ∧ i119 < (m51.length : Int)) then
 if w64 (i119 + (1 : Int)) ≠ 0 then
 if i119 = 0 then
 if (∀ x ∈ m118, x.Weights ≠ [-1]) then
 some (.inl (r170.2.b, r170.2.i, r170.2.h_, (m118.set i119.toNat (⟨(ix m118 i119).Key, [-1]⟩ : Row)), (x168.set r170.1.toNat (3 : Int)), (w64 (i119 + (1 : Int)))))
 else none
 else
 if (x168.set r170.1.toNat (3 : Int)) ≠ [-1] then
 some (.inl (r170.2.b, r170.2.i, r170.2.h_, (m118.set i119.toNat (⟨(ix m118 i119).Key, (x168.set r170.1.toNat (3 : Int))⟩ : Row)), w0, (w64 (i119 + (1 : Int)))))
 else none
 else none
 else none
 else none
def Z0_L3 (size4 : Int) (c136 : (List Int)) (c138 : Int) (c139 : Int) (x140 : (List Int)) (t142 : Int) : Option (((List Int) × Int × Int × (List Int) × Int) ⊕ ((List Int) × Int × Int × (List Int))) :=
 if (decide (t142 < size4)) = true then (
 (Zb (⟨c136, c138, c139⟩ : l1Cur) (40 : Int)).bind fun (r144 : Int × l1Cur) =>
 (Zb r144.2 (1001 : Int)).bind fun (r147 : Int × l1Cur) =>
 (Z0l r147.2 ([(0 : Int), (1 : Int), (2 : Int), (5 : Int), r144.1, r147.1] : List Int)).bind fun (r151 : Int × l1Cur) =>
 if x140.length + ([r151.1] : List Int).length ≤ 17592186044416 then
 some (.inl (r151.2.b, r151.2.i, r151.2.h_, (x140 ++ ([r151.1] : List Int)), (w64 (t142 + (1 : Int)))))
 else none)
 else (
 some (.inr (c136, c138, c139, x140)))
def Z0_L2 (size4 : Int) (m51 : (List Row)) (c114 : (List Int)) (c116 : Int) (c117 : Int) (m118 : (List Row)) (w0 : (List Int)) (i119 : Int) : Option (((List Int) × Int × Int × (List Row) × (List Int) × Int) ⊕ ((List Int) × Int × Int × (List Row) × (List Int))) :=
 if (decide (i119 < (m51.length : Int))) = true then (
 (loopM (fun s : (List Int) × Int × Int × (List Int) × Int => Z0_L3 size4 s.1 s.2.1 s.2.2.1 s.2.2.2.1 s.2.2.2.2) (c114, c116, c117, ([] : List Int), (0 : Int))).bind fun e => Z0_J3 size4 m51 m118 w0 i119 e.1 e.2.1 e.2.2.1 e.2.2.2)
 else (
 if i119 ≠ 0 then some (.inr (c114, c116, c117, m118, w0)) else none)
def Z0_J1 (size4 : Int) (c47 : (List Int)) (c49 : Int) (c50 : Int) (m51 : (List Row)) : Option (Lm × l1Cur) :=
 (loopM (fun s : (List Int) × Int × Int × (List Row) × (List Int) × Int => Z0_L2 size4 m51 s.1 s.2.1 s.2.2.1 s.2.2.2.1 s.2.2.2.2.1 s.2.2.2.2.2) (c47, c49, c50, m51, ([] : List Int), (0 : Int))).bind fun e => Z0_J4 size4 m51 e.1 e.2.1 e.2.2.1 e.2.2.2.1 e.2.2.2.2
def Z0_L1 (size4 : Int) (c22 : (List Int)) (c24 : Int) (c25 : Int) (m26 : (List Row)) (n28 : Int) : Option (((List Int) × Int × Int × (List Row) × Int) ⊕ ((List Int) × Int × Int × (List Row))) :=
 if (decide (n28 > (0 : Int))) = true then (
 (Zb (⟨c22, c24, c25⟩ : l1Cur) (3 : Int)).bind fun (r30 : Int × l1Cur) =>
 (Z09 r30.2 size4 (w64 ((1 : Int) + r30.1))).bind fun (r33 : (List Int) × l1Cur) =>
 if m26.length + ([(⟨r33.1, ([] : List Int)⟩ : Row)] : List Row).length ≤ 2932031007402 then
 some (.inl (r33.2.b, r33.2.i, r33.2.h_, (m26 ++ ([(⟨r33.1, ([] : List Int)⟩ : Row)] : List Row)), (w64 (n28 - (1 : Int)))))
 else none)
 else (
 some (.inr (c22, c24, c25, m26)))
def Z0 (c1 : l1Cur) (size4 : Int) : Option (Lm × l1Cur) :=
 (Zb c1 (8 : Int)).bind fun (r8 : Int × l1Cur) =>
 (loopM (fun s : (List Int) × Int × Int × (List Row) × Int => Z0_L1 size4 s.1 s.2.1 s.2.2.1 s.2.2.2.1 s.2.2.2.2) (r8.2.b, r8.2.i, r8.2.h_, ([(⟨([] : List Int), ([] : List Int)⟩ : Row)] : List Row), r8.1)).bind fun e => Z0_J1 size4 e.1 e.2.1 e.2.2.1 e.2.2.2
def Zv_J2 (x46 : Int) (x47 : Int) (x48 : Int) (p49 : (List Int)) (p51 : Int) (p52 : Int) : Option (Choice × l1Cur) :=
 some ((⟨x46, x47, x48⟩ : Choice), (⟨p49, p51, p52⟩ : l1Cur))
def Zv_J1 (r5 : Int × l1Cur) (r8 : Int × l1Cur) (c19 : (List Int)) (c21 : Int) (c22 : Int) (x23 : Int) : Option (Choice × l1Cur) :=
 (Z0g (⟨c19, c21, c22⟩ : l1Cur) (40 : Int)).bind fun (r24 : Bool × l1Cur) =>
 if r24.1 = true then (
 (Zb r24.2 (3 : Int)).bind fun (r28 : Int × l1Cur) =>
 if (r28.1 == (0 : Int)) = true then (
 (Z0l r28.2 ([(0 : Int), (3 : Int)] : List Int)).bind fun (r33 : Int × l1Cur) =>
 Zv_J2 r33.1 r8.1 x23 r33.2.b r33.2.i r33.2.h_)
 else (
 if (r28.1 == (1 : Int)) = true then (
 (Z0l r28.2 ([(-1 : Int), (64 : Int), (65 : Int)] : List Int)).bind fun (r38 : Int × l1Cur) =>
 Zv_J2 (w64 ((1 : Int) + r5.1)) r38.1 x23 r38.2.b r38.2.i r38.2.h_)
 else (
 if (r28.1 == (2 : Int)) = true then (
 (Z0l r28.2 ([(0 : Int), (65537 : Int)] : List Int)).bind fun (r43 : Int × l1Cur) =>
 Zv_J2 (w64 ((1 : Int) + r5.1)) r8.1 r43.1 r43.2.b r43.2.i r43.2.h_)
 else (
 Zv_J2 (w64 ((1 : Int) + r5.1)) r8.1 x23 r28.2.b r28.2.i r28.2.h_))))
 else (
 Zv_J2 (w64 ((1 : Int) + r5.1)) r8.1 x23 r24.2.b r24.2.i r24.2.h_)
def Zv (c1 : l1Cur) : Option (Choice × l1Cur) :=
 (Zb c1 (2 : Int)).bind fun (r5 : Int × l1Cur) =>
 (Zb r5.2 (5 : Int)).bind fun (r8 : Int × l1Cur) =>
 (Zb r8.2 (65536 : Int)).bind fun (r11 : Int × l1Cur) =>
 (Z0g r11.2 (3 : Int)).bind fun (r15 : Bool × l1Cur) =>
 if r15.1 = true then (
 Zv_J1 r5 r8 r15.2.b r15.2.i r15.2.h_ (65536 : Int))
 else (
 Zv_J1 r5 r8 r15.2.b r15.2.i r15.2.h_ (w64 ((1 : Int) + r11.1)))
def Z1b (c1 : l1Cur) : Option (Int × l1Cur) :=
 (Z0g c1 (12 : Int)).bind fun (r4 : Bool × l1Cur) =>
 if r4.1 = true then (
 (Z0l r4.2 ([(0 : Int), (4294967295 : Int), (4294967296 : Int), (-1 : Int)] : List Int)).bind fun (r9 : Int × l1Cur) =>
 some (r9.1, r9.2))
 else (
 (Zb r4.2 (4294967296 : Int)).bind fun (r12 : Int × l1Cur) =>
 some (r12.1, r12.2))
def Z0k_J1 (r10 : Int × l1Cur) (r13 : Lm × l1Cur) (c27 : (List Int)) (c29 : Int) (c30 : Int) (d31 : Int) (d32 : (List Row)) : Option (Lm × Lm × Choice × (List Int) × Int × Int × Int) :=
 (Zv (⟨c27, c29, c30⟩ : l1Cur)).bind fun (r34 : Choice × l1Cur) =>
 (Zb r34.2 (4 : Int)).bind fun (r38 : Int × l1Cur) =>
 (Z09 r38.2 (w64 ((1 : Int) + r10.1)) r38.1).bind fun (r41 : (List Int) × l1Cur) =>
 (Zb r41.2 (14 : Int)).bind fun (r45 : Int × l1Cur) =>
 (Z1b r45.2).bind fun (r48 : Int × l1Cur) =>
 (Zb r48.2 (5 : Int)).bind fun (r51 : Int × l1Cur) =>
 (Zb r51.2 (30 : Int)).bind fun (r54 : Int × l1Cur) =>
 some (r13.1, (⟨d31, d32⟩ : Lm), r34.1, r41.1, r45.1, r48.1, (w64 ((w64 ((1 : Int) + r51.1)) - (w64 (r54.1.tdiv (29 : Int))))))
def Z0k (code1 : (List Int)) : Option (Lm × Lm × Choice × (List Int) × Int × Int × Int) :=
 (Z0e code1).bind fun (r6 : l1Cur) =>
 (Zb r6 (4 : Int)).bind fun (r10 : Int × l1Cur) =>
 (Z0 r10.2 (w64 ((1 : Int) + r10.1))).bind fun (r13 : Lm × l1Cur) =>
 (Z0 r13.2 (w64 ((1 : Int) + r10.1))).bind fun (r18 : Lm × l1Cur) =>
 (Z0g r18.2 (3 : Int)).bind fun (r23 : Bool × l1Cur) =>
 if r23.1 = true then (
 Z0k_J1 r10 r13 r23.2.b r23.2.i r23.2.h_ r13.1.Size r13.1.Rows)
 else (
 Z0k_J1 r10 r13 r23.2.b r23.2.i r23.2.h_ r18.1.Size r18.1.Rows)
def Zx (p1 : Int) (lo2 : Int) (hi3 : Int) : Option (Bool) :=
 some ((decide (p1 ≥ lo2)) && (decide (p1 ≤ hi3)))
def Z1e (s1 : List Row) : Option (List Row) :=
 if s1.length ≤ 2932031007402 then some s1 else none
def Zn_J3 (x9 : Int) (n10 : Int) : Option (Int) :=
 if (0 ≤ (IntKind.wrap .u8 (x9)) ∧ (IntKind.wrap .u8 (x9)) < (str0.length : Int)) then
 some (w64 (n10 + (w64 ((bt str0 (IntKind.wrap .u8 (x9)))))))
 else none
def Zn_J2 (x6 : Int) (n7 : Int) : Option (Int) :=
 if (decide (x6 ≥ (256 : Int))) = true then (
 Zn_J3 (x6 / 2 ^ (8 : Int).toNat) (w64 (n7 + (8 : Int))))
 else (
 Zn_J3 x6 n7)
def Zn_J1 (x3 : Int) (n4 : Int) : Option (Int) :=
 if (decide (x3 ≥ (65536 : Int))) = true then (
 Zn_J2 (x3 / 2 ^ (16 : Int).toNat) (w64 (n4 + (16 : Int))))
 else (
 Zn_J2 x3 n4)
def Zn (p1 : Int) : Option (Int) :=
 if (decide (p1 ≥ (4294967296 : Int))) = true then (
 Zn_J1 (p1 / 2 ^ (32 : Int).toNat) (32 : Int))
 else (
 Zn_J1 p1 (0 : Int))
def Z10 (p1 : Int) : Option (Int) :=
 (Zn p1).bind fun (r2 : Int) =>
 some r2
def Z16 (p1 : Int) : Option (Bool) :=
 some (p1 != p1)
def Z0r (p1 : Int) (y2 : Int) : Option (Int) :=
 (Z16 p1).bind fun (r3 : Bool) =>
 (Z16 y2).bind fun (r5 : Bool) =>
 if r3 = true then (
 if r5 = true then (
 some (0 : Int))
 else (
 some (-1 : Int)))
 else (
 if r5 = true then (
 some (1 : Int))
 else (
 if (decide (p1 < y2)) = true then (
 some (-1 : Int))
 else (
 if (decide (p1 > y2)) = true then (
 some (1 : Int))
 else (
 some (0 : Int)))))
def Z01_J1 (s11 : (List Int)) (s23 : (List Int)) : Option (Int) :=
 if (decide ((s11.length : Int) < (s23.length : Int))) = true then (
 some (-1 : Int))
 else (
 some (0 : Int))
def Z01_L1 (s11 : (List Int)) (s23 : (List Int)) (x16 : Int) : Option ((Int) ⊕ ((Int) ⊕ (Unit))) :=
 if (decide (x16 < (s11.length : Int))) = true then (
 if (0 ≤ x16 ∧ x16 < (s11.length : Int)) then
 if (decide (x16 ≥ (s23.length : Int))) = true then (
 some (.inr (.inl (1 : Int))))
 else (
 if (0 ≤ x16 ∧ x16 < (s23.length : Int)) then
 (Z0r (ix s11 x16) (ix s23 x16)).bind fun (r25 : Int) =>
 if (r25 != (0 : Int)) = true then (
 some (.inr (.inl r25)))
 else (
 some (.inl (w64 (x16 + (1 : Int)))))
 else none)
 else none)
 else (
 some (.inr (.inr ())))
def Z01 (s11 : (List Int)) (s23 : (List Int)) : Option (Int) :=
 (loopM (fun s : Int => Z01_L1 s11 s23 s) (0 : Int)).bind fun e => match e with
 | .inl e => some e
 | .inr e => Z01_J1 s11 s23
def Z05_J1 : Option (Int) :=
 some (0 : Int)
def Z05_L1 (vals1 : (List Int)) (x8 : Int) : Option ((Int) ⊕ ((Int) ⊕ (Unit))) :=
 if (decide (x8 < (vals1.length : Int))) = true then (
 if (0 ≤ x8 ∧ x8 < (vals1.length : Int)) then
 if ((ix vals1 x8) != (0 : Int)) = true then (
 some (.inr (.inl (ix vals1 x8))))
 else (
 some (.inl (w64 (x8 + (1 : Int)))))
 else none)
 else (
 some (.inr (.inr ())))
def Z05 (vals1 : (List Int)) : Option (Int) :=
 (loopM (fun s : Int => Z05_L1 vals1 s) (0 : Int)).bind fun e => match e with
 | .inl e => some e
 | .inr e => Z05_J1
def Z0u (a1 : (List Int)) (b3 : (List Int)) : Option (Int) :=
 (Z0r (a1.length : Int) (b3.length : Int)).bind fun (r5 : Int) =>
 (Z01 a1 b3).bind fun (r7 : Int) =>
 (Z05 ([r5, r7] : List Int)).bind fun (r10 : Int) =>
 some r10
def Z9 (a1 : Row) (b4 : Row) : Option (Int) :=
 (Z0u a1.Key b4.Key).bind fun (r9 : Int) =>
 some r9
def Zh_J2 (i57 : Int) (data107 : (List Row)) : Option (((List Row) × Int) ⊕ ((List Row))) :=
 some (.inl (data107, (w64 (i57 + (1 : Int)))))
def Zh_L2 (data1 : (List Row)) (a3 : Int) (data81 : (List Row)) (j82 : Int) : Option (((List Row) × Int) ⊕ ((List Row))) :=
 if (decide (j82 > a3)) = true → (0 ≤ j82 ∧ j82 < (data1.length : Int)) then
 if (decide (j82 > a3)) = true → (0 ≤ (w64 (j82 - (1 : Int))) ∧ (w64 (j82 - (1 : Int))) < (data1.length : Int)) then
 (gcall (decide (j82 > a3)) (Z9 (ix data81 j82) (ix data81 (w64 (j82 - (1 : Int)))))).bind fun (r91 : Int) =>
 if ((decide (j82 > a3)) && (decide (r91 < (0 : Int)))) = true then (
 if (0 ≤ (w64 (j82 - (1 : Int))) ∧ (w64 (j82 - (1 : Int))) < (data1.length : Int)) then
 if (0 ≤ j82 ∧ j82 < (data1.length : Int)) then
 (nm ((data81.set j82.toNat (ix data81 (w64 (j82 - (1 : Int))))).set (w64 (j82 - (1 : Int))).toNat (ix data81 j82))).bind fun (l103 : (List Row)) =>
 some (.inl (l103, (w64 (j82 - (1 : Int)))))
 else none
 else none)
 else (
 some (.inr data81))
 else none
 else none
def Zh_L1 (data1 : (List Row)) (a3 : Int) (b4 : Int) (data56 : (List Row)) (i57 : Int) : Option (((List Row) × Int) ⊕ ((List Row))) :=
 if (decide (i57 < b4)) = true then (
 (loopM (fun s : (List Row) × Int => Zh_L2 data1 a3 s.1 s.2) (data56, i57)).bind fun e => Zh_J2 i57 e)
 else (
 some (.inr data56))
def Zh (data1 : (List Row)) (a3 : Int) (b4 : Int) : Option ((List Row)) :=
 (loopM (fun s : (List Row) × Int => Zh_L1 data1 a3 b4 s.1 s.2) (data1, (w64 (a3 + (1 : Int))))).bind fun e => some e
def Zk_J3 (data1 : (List Row)) (first5 : Int) (data40 : (List Row)) (root41 : Int) (child55 : Int) : Option (((List Row) × Int) ⊕ ((List Row))) :=
 if (0 ≤ (w64 (first5 + root41)) ∧ (w64 (first5 + root41)) < (data1.length : Int)) then
 if (0 ≤ (w64 (first5 + child55)) ∧ (w64 (first5 + child55)) < (data1.length : Int)) then
 (Z9 (ix data40 (w64 (first5 + root41))) (ix data40 (w64 (first5 + child55)))).bind fun (r64 : Int) =>
 if (!(decide (r64 < (0 : Int)))) = true then (
 some (.inr data40))
 else (
 (nm ((data40.set (w64 (first5 + root41)).toNat (ix data40 (w64 (first5 + child55)))).set (w64 (first5 + child55)).toNat (ix data40 (w64 (first5 + root41))))).bind fun (l73 : (List Row)) =>
 some (.inl (l73, child55)))
 else none
 else none
def Zk_L1 (data1 : (List Row)) (hi4 : Int) (first5 : Int) (data40 : (List Row)) (root41 : Int) : Option (((List Row) × Int) ⊕ ((List Row))) :=
 if (decide ((w64 ((w64 ((2 : Int) * root41)) + (1 : Int))) ≥ hi4)) = true then (
 some (.inr data40))
 else (
 if (decide ((w64 ((w64 ((w64 ((2 : Int) * root41)) + (1 : Int))) + (1 : Int))) < hi4)) = true → (0 ≤ (w64 (first5 + (w64 ((w64 ((2 : Int) * root41)) + (1 : Int))))) ∧ (w64 (first5 + (w64 ((w64 ((2 : Int) * root41)) + (1 : Int))))) < (data1.length : Int)) then
 if (decide ((w64 ((w64 ((w64 ((2 : Int) * root41)) + (1 : Int))) + (1 : Int))) < hi4)) = true → (0 ≤ (w64 ((w64 (first5 + (w64 ((w64 ((2 : Int) * root41)) + (1 : Int))))) + (1 : Int))) ∧ (w64 ((w64 (first5 + (w64 ((w64 ((2 : Int) * root41)) + (1 : Int))))) + (1 : Int))) < (data1.length : Int)) then
 (gcall (decide ((w64 ((w64 ((w64 ((2 : Int) * root41)) + (1 : Int))) + (1 : Int))) < hi4)) (Z9 (ix data40 (w64 (first5 + (w64 ((w64 ((2 : Int) * root41)) + (1 : Int)))))) (ix data40 (w64 ((w64 (first5 + (w64 ((w64 ((2 : Int) * root41)) + (1 : Int))))) + (1 : Int)))))).bind fun (r51 : Int) =>
 if ((decide ((w64 ((w64 ((w64 ((2 : Int) * root41)) + (1 : Int))) + (1 : Int))) < hi4)) && (decide (r51 < (0 : Int)))) = true then (
 Zk_J3 data1 first5 data40 root41 (w64 ((w64 ((w64 ((2 : Int) * root41)) + (1 : Int))) + (1 : Int))))
 else (
 Zk_J3 data1 first5 data40 root41 (w64 ((w64 ((2 : Int) * root41)) + (1 : Int))))
 else none
 else none)
def Zk (data1 : (List Row)) (lo3 : Int) (hi4 : Int) (first5 : Int) : Option ((List Row)) :=
 (loopM (fun s : (List Row) × Int => Zk_L1 data1 hi4 first5 s.1 s.2) (data1, lo3)).bind fun e => some e
def Zi_L2 (data1 : (List Row)) (a3 : Int) (data30 : (List Row)) (i31 : Int) : Option (((List Row) × Int) ⊕ ((List Row))) :=
 if (decide (i31 ≥ (0 : Int))) = true then (
 if (0 ≤ (w64 (a3 + i31)) ∧ (w64 (a3 + i31)) < (data1.length : Int)) then
 if (0 ≤ a3 ∧ a3 < (data1.length : Int)) then
 (nm ((data30.set a3.toNat (ix data30 (w64 (a3 + i31)))).set (w64 (a3 + i31)).toNat (ix data30 a3))).bind fun (l41 : (List Row)) =>
 (Zk l41 (0 : Int) i31 a3).bind fun (r43 : (List Row)) =>
 some (.inl (r43, (w64 (i31 - (1 : Int)))))
 else none
 else none)
 else (
 some (.inr data30))
def Zi_J1 (data1 : (List Row)) (a3 : Int) (b4 : Int) (data16 : (List Row)) : Option ((List Row)) :=
 (loopM (fun s : (List Row) × Int => Zi_L2 data1 a3 s.1 s.2) (data16, (w64 ((w64 (b4 - a3)) - (1 : Int))))).bind fun e => some e
def Zi_L1 (a3 : Int) (b4 : Int) (data9 : (List Row)) (i10 : Int) : Option (((List Row) × Int) ⊕ ((List Row))) :=
 if (decide (i10 ≥ (0 : Int))) = true then (
 (Zk data9 i10 (w64 (b4 - a3)) a3).bind fun (r12 : (List Row)) =>
 some (.inl (r12, (w64 (i10 - (1 : Int))))))
 else (
 some (.inr data9))
def Zi (data1 : (List Row)) (a3 : Int) (b4 : Int) : Option ((List Row)) :=
 (loopM (fun s : (List Row) × Int => Zi_L1 a3 b4 s.1 s.2) (data1, (w64 ((w64 ((w64 (b4 - a3)) - (1 : Int))).tdiv (2 : Int))))).bind fun e => Zi_J1 data1 a3 b4 e
def Z0t (data1 : (List Row)) (a3 : Int) (b4 : Int) (swaps5 : Int) : Option (Int × Int × Int) :=
 if (0 ≤ b4 ∧ b4 < (data1.length : Int)) then
 if (0 ≤ a3 ∧ a3 < (data1.length : Int)) then
 (Z9 (ix data1 b4) (ix data1 a3)).bind fun (r16 : Int) =>
 if (decide (r16 < (0 : Int))) = true then (
 some (b4, a3, (w64 (swaps5 + (1 : Int)))))
 else (
 some (a3, b4, swaps5))
 else none
 else none
def Z13 (data1 : (List Row)) (a3 : Int) (b4 : Int) (c5 : Int) (swaps6 : Int) : Option (Int × Int) :=
 (Z0t data1 a3 b4 swaps6).bind fun (r9 : Int × Int × Int) =>
 (Z0t data1 r9.2.1 c5 r9.2.2).bind fun (r11 : Int × Int × Int) =>
 (Z0t data1 r9.1 r11.1 r11.2.2).bind fun (r13 : Int × Int × Int) =>
 some (r13.2.1, r13.2.2)
def Z0s (data1 : (List Row)) (a3 : Int) (swaps4 : Int) : Option (Int × Int) :=
 (Z13 data1 (w64 (a3 - (1 : Int))) a3 (w64 (a3 + (1 : Int))) swaps4).bind fun (r7 : Int × Int) =>
 some (r7.1, r7.2)
def Z03_J2 (swaps21 : Int) (j22 : Int) : Option (Int × Int) :=
 if (swaps21 == (0 : Int)) = true then (
 some (j22, (1 : Int)))
 else (
 if (swaps21 == (12 : Int)) = true then (
 some (j22, (2 : Int)))
 else (
 some (j22, (0 : Int))))
def Z03_J1 (data1 : (List Row)) (swaps15 : Int) (i16 : Int) (j17 : Int) (k18 : Int) : Option (Int × Int) :=
 (Z13 data1 i16 j17 k18 swaps15).bind fun (r19 : Int × Int) =>
 Z03_J2 r19.2 r19.1
def Z03 (data1 : (List Row)) (a3 : Int) (b4 : Int) : Option (Int × Int) :=
 if (decide ((w64 (b4 - a3)) ≥ (8 : Int))) = true then (
 if (decide ((w64 (b4 - a3)) ≥ (50 : Int))) = true then (
 (Z0s data1 (w64 (a3 + (w64 ((w64 ((w64 (b4 - a3)).tdiv (4 : Int))) * (1 : Int))))) (0 : Int)).bind fun (r9 : Int × Int) =>
 (Z0s data1 (w64 (a3 + (w64 ((w64 ((w64 (b4 - a3)).tdiv (4 : Int))) * (2 : Int))))) r9.2).bind fun (r11 : Int × Int) =>
 (Z0s data1 (w64 (a3 + (w64 ((w64 ((w64 (b4 - a3)).tdiv (4 : Int))) * (3 : Int))))) r11.2).bind fun (r13 : Int × Int) =>
 Z03_J1 data1 r13.2 r9.1 r11.1 r13.1)
 else (
 Z03_J1 data1 (0 : Int) (w64 (a3 + (w64 ((w64 ((w64 (b4 - a3)).tdiv (4 : Int))) * (1 : Int))))) (w64 (a3 + (w64 ((w64 ((w64 (b4 - a3)).tdiv (4 : Int))) * (2 : Int))))) (w64 (a3 + (w64 ((w64 ((w64 (b4 - a3)).tdiv (4 : Int))) * (3 : Int)))))))
 else (
 Z03_J2 (0 : Int) (w64 (a3 + (w64 ((w64 ((w64 (b4 - a3)).tdiv (4 : Int))) * (2 : Int))))))
def Z0d_L1 (data1 : (List Row)) (data17 : (List Row)) (i18 : Int) (j19 : Int) : Option (((List Row) × Int × Int) ⊕ ((List Row))) :=
 if (decide (i18 < j19)) = true then (
 if (0 ≤ j19 ∧ j19 < (data1.length : Int)) then
 if (0 ≤ i18 ∧ i18 < (data1.length : Int)) then
 (nm ((data17.set i18.toNat (ix data17 j19)).set j19.toNat (ix data17 i18))).bind fun (l29 : (List Row)) =>
 some (.inl (l29, (w64 (i18 + (1 : Int))), (w64 (j19 - (1 : Int)))))
 else none
 else none)
 else (
 some (.inr data17))
def Z0d (data1 : (List Row)) (a3 : Int) (b4 : Int) : Option ((List Row)) :=
 (loopM (fun s : (List Row) × Int × Int => Z0d_L1 data1 s.1 s.2.1 s.2.2) (data1, a3, (w64 (b4 - (1 : Int))))).bind fun e => some e
def Z3_J8 (p276 : (List Row)) : Option (Bool × (List Row)) :=
 some (false, p276)
def Z3_J7 (j140 : Int) (data271 : (List Row)) (i272 : Int) : Option (((List Row) × Int × Int) ⊕ ((Bool × (List Row)) ⊕ ((List Row)))) :=
 some (.inl (data271, i272, (w64 (j140 + (1 : Int)))))
def Z3_L4 (data1 : (List Row)) (b4 : Int) (i168 : Int) (data247 : (List Row)) (j248 : Int) : Option (((List Row) × Int) ⊕ ((List Row) × Int)) :=
 if (decide (j248 < b4)) = true then (
 if (0 ≤ j248 ∧ j248 < (data1.length : Int)) then
 if (0 ≤ (w64 (j248 - (1 : Int))) ∧ (w64 (j248 - (1 : Int))) < (data1.length : Int)) then
 (Z9 (ix data247 j248) (ix data247 (w64 (j248 - (1 : Int))))).bind fun (r258 : Int) =>
 if (!(decide (r258 < (0 : Int)))) = true then (
 some (.inr (data247, i168)))
 else (
 (nm ((data247.set j248.toNat (ix data247 (w64 (j248 - (1 : Int))))).set (w64 (j248 - (1 : Int))).toNat (ix data247 j248))).bind fun (l267 : (List Row)) =>
 some (.inl (l267, (w64 (j248 + (1 : Int))))))
 else none
 else none)
 else (
 some (.inr (data247, i168)))
def Z3_J6 (data1 : (List Row)) (b4 : Int) (j140 : Int) (i168 : Int) (data225 : (List Row)) : Option (((List Row) × Int × Int) ⊕ ((Bool × (List Row)) ⊕ ((List Row)))) :=
 if (decide ((w64 (b4 - i168)) ≥ (2 : Int))) = true then (
 (loopM (fun s : (List Row) × Int => Z3_L4 data1 b4 i168 s.1 s.2) (data225, (w64 (i168 + (1 : Int))))).bind fun e => Z3_J7 j140 e.1 e.2)
 else (
 Z3_J7 j140 data225 i168)
def Z3_L3 (data1 : (List Row)) (data201 : (List Row)) (j202 : Int) : Option (((List Row) × Int) ⊕ ((List Row))) :=
 if (decide (j202 ≥ (1 : Int))) = true then (
 if (0 ≤ j202 ∧ j202 < (data1.length : Int)) then
 if (0 ≤ (w64 (j202 - (1 : Int))) ∧ (w64 (j202 - (1 : Int))) < (data1.length : Int)) then
 (Z9 (ix data201 j202) (ix data201 (w64 (j202 - (1 : Int))))).bind fun (r212 : Int) =>
 if (!(decide (r212 < (0 : Int)))) = true then (
 some (.inr data201))
 else (
 (nm ((data201.set j202.toNat (ix data201 (w64 (j202 - (1 : Int))))).set (w64 (j202 - (1 : Int))).toNat (ix data201 j202))).bind fun (l221 : (List Row)) =>
 some (.inl (l221, (w64 (j202 - (1 : Int))))))
 else none
 else none)
 else (
 some (.inr data201))
def Z3_J5 (data1 : (List Row)) (a3 : Int) (b4 : Int) (data138 : (List Row)) (j140 : Int) (i168 : Int) : Option (((List Row) × Int × Int) ⊕ ((Bool × (List Row)) ⊕ ((List Row)))) :=
 if (i168 == b4) = true then (
 some (.inr (.inl (true, data138))))
 else (
 if (decide ((w64 (b4 - a3)) < (50 : Int))) = true then (
 some (.inr (.inl (false, data138))))
 else (
 if (0 ≤ (w64 (i168 - (1 : Int))) ∧ (w64 (i168 - (1 : Int))) < (data1.length : Int)) then
 if (0 ≤ i168 ∧ i168 < (data1.length : Int)) then
 (nm ((data138.set i168.toNat (ix data138 (w64 (i168 - (1 : Int))))).set (w64 (i168 - (1 : Int))).toNat (ix data138 i168))).bind fun (l179 : (List Row)) =>
 if (decide ((w64 (i168 - a3)) ≥ (2 : Int))) = true then (
 (loopM (fun s : (List Row) × Int => Z3_L3 data1 s.1 s.2) (l179, (w64 (i168 - (1 : Int))))).bind fun e => Z3_J6 data1 b4 j140 i168 e)
 else (
 Z3_J6 data1 b4 j140 i168 l179)
 else none
 else none))
def Z3_L2 (data1 : (List Row)) (b4 : Int) (data138 : (List Row)) (i154 : Int) : Option ((Int) ⊕ (Int)) :=
 if (decide (i154 < b4)) = true → (0 ≤ i154 ∧ i154 < (data1.length : Int)) then
 if (decide (i154 < b4)) = true → (0 ≤ (w64 (i154 - (1 : Int))) ∧ (w64 (i154 - (1 : Int))) < (data1.length : Int)) then
 (gcall (decide (i154 < b4)) (Z9 (ix data138 i154) (ix data138 (w64 (i154 - (1 : Int)))))).bind fun (r163 : Int) =>
 if ((decide (i154 < b4)) && (!(decide (r163 < (0 : Int))))) = true then (
 some (.inl (w64 (i154 + (1 : Int)))))
 else (
 some (.inr i154))
 else none
 else none
def Z3_L1 (data1 : (List Row)) (a3 : Int) (b4 : Int) (data138 : (List Row)) (i139 : Int) (j140 : Int) : Option (((List Row) × Int × Int) ⊕ ((Bool × (List Row)) ⊕ ((List Row)))) :=
 if (decide (j140 < (5 : Int))) = true then (
 (loopM (fun s : Int => Z3_L2 data1 b4 data138 s) i139).bind fun e => Z3_J5 data1 a3 b4 data138 j140 e)
 else (
 some (.inr (.inr data138)))
def Z3 (data1 : (List Row)) (a3 : Int) (b4 : Int) : Option (Bool × (List Row)) :=
 (loopM (fun s : (List Row) × Int × Int => Z3_L1 data1 a3 b4 s.1 s.2.1 s.2.2) (data1, (w64 (a3 + (1 : Int))), (0 : Int))).bind fun e => match e with
 | .inl e => some e
 | .inr e => Z3_J8 e
def Z8_J5 (i145 : Int) (p146 : (List Row)) : Option (Int × (List Row)) :=
 some (i145, p146)
def Z8_J4 (data1 : (List Row)) (data78 : (List Row)) (i105 : Int) (j130 : Int) : Option (((List Row) × Int × Int) ⊕ (Int × (List Row))) :=
 if (decide (i105 > j130)) = true then (
 some (.inr (i105, data78)))
 else (
 if (0 ≤ j130 ∧ j130 < (data1.length : Int)) then
 if (0 ≤ i105 ∧ i105 < (data1.length : Int)) then
 (nm ((data78.set i105.toNat (ix data78 j130)).set j130.toNat (ix data78 i105))).bind fun (l140 : (List Row)) =>
 some (.inl (l140, (w64 (i105 + (1 : Int))), (w64 (j130 - (1 : Int)))))
 else none
 else none)
def Z8_L3 (data1 : (List Row)) (a3 : Int) (data78 : (List Row)) (i105 : Int) (j117 : Int) : Option ((Int) ⊕ (Int)) :=
 if (decide (i105 ≤ j117)) = true → (0 ≤ j117 ∧ j117 < (data1.length : Int)) then
 (gcall (decide (i105 ≤ j117)) (Z9 (ix data78 a3) (ix data78 j117))).bind fun (r125 : Int) =>
 if ((decide (i105 ≤ j117)) && (decide (r125 < (0 : Int)))) = true then (
 some (.inl (w64 (j117 - (1 : Int)))))
 else (
 some (.inr j117))
 else none
def Z8_J3 (data1 : (List Row)) (a3 : Int) (data78 : (List Row)) (j80 : Int) (i105 : Int) : Option (((List Row) × Int × Int) ⊕ (Int × (List Row))) :=
 (loopM (fun s : Int => Z8_L3 data1 a3 data78 i105 s) j80).bind fun e => Z8_J4 data1 data78 i105 e
def Z8_L2 (data1 : (List Row)) (a3 : Int) (data78 : (List Row)) (j80 : Int) (i92 : Int) : Option ((Int) ⊕ (Int)) :=
 if (decide (i92 ≤ j80)) = true → (0 ≤ i92 ∧ i92 < (data1.length : Int)) then
 (gcall (decide (i92 ≤ j80)) (Z9 (ix data78 a3) (ix data78 i92))).bind fun (r100 : Int) =>
 if ((decide (i92 ≤ j80)) && (!(decide (r100 < (0 : Int))))) = true then (
 some (.inl (w64 (i92 + (1 : Int)))))
 else (
 some (.inr i92))
 else none
def Z8_L1 (data1 : (List Row)) (a3 : Int) (data78 : (List Row)) (i79 : Int) (j80 : Int) : Option (((List Row) × Int × Int) ⊕ (Int × (List Row))) :=
 (loopM (fun s : Int => Z8_L2 data1 a3 data78 j80 s) i79).bind fun e => Z8_J3 data1 a3 data78 j80 e
def Z8 (data1 : (List Row)) (a3 : Int) (b4 : Int) (pivot5 : Int) : Option (Int × (List Row)) :=
 if (0 ≤ pivot5 ∧ pivot5 < (data1.length : Int)) then
 if (0 ≤ a3 ∧ a3 < (data1.length : Int)) then
 (nm ((data1.set a3.toNat (ix data1 pivot5)).set pivot5.toNat (ix data1 a3))).bind fun (l15 : (List Row)) =>
 (loopM (fun s : (List Row) × Int × Int => Z8_L1 data1 a3 s.1 s.2.1 s.2.2) (l15, (w64 (a3 + (1 : Int))), (w64 (b4 - (1 : Int))))).bind fun e => Z8_J5 e.1 e.2
 else none
 else none
def Z2_J7 (data1 : (List Row)) (a3 : Int) (data213 : (List Row)) (j214 : Int) : Option (Int × Bool × (List Row)) :=
 if (0 ≤ j214 ∧ j214 < (data1.length : Int)) then
 (nm ((data213.set j214.toNat (ix data213 a3)).set a3.toNat (ix data213 j214))).bind fun (l222 : (List Row)) =>
 some (j214, false, l222)
 else none
def Z2_J6 (data1 : (List Row)) (data146 : (List Row)) (i173 : Int) (j198 : Int) : Option (((List Row) × Int × Int) ⊕ ((List Row) × Int)) :=
 if (decide (i173 > j198)) = true then (
 some (.inr (data146, j198)))
 else (
 if (0 ≤ j198 ∧ j198 < (data1.length : Int)) then
 if (0 ≤ i173 ∧ i173 < (data1.length : Int)) then
 (nm ((data146.set i173.toNat (ix data146 j198)).set j198.toNat (ix data146 i173))).bind fun (l208 : (List Row)) =>
 some (.inl (l208, (w64 (i173 + (1 : Int))), (w64 (j198 - (1 : Int)))))
 else none
 else none)
def Z2_L5 (data1 : (List Row)) (a3 : Int) (data146 : (List Row)) (i173 : Int) (j185 : Int) : Option ((Int) ⊕ (Int)) :=
 if (decide (i173 ≤ j185)) = true → (0 ≤ j185 ∧ j185 < (data1.length : Int)) then
 (gcall (decide (i173 ≤ j185)) (Z9 (ix data146 j185) (ix data146 a3))).bind fun (r193 : Int) =>
 if ((decide (i173 ≤ j185)) && (!(decide (r193 < (0 : Int))))) = true then (
 some (.inl (w64 (j185 - (1 : Int)))))
 else (
 some (.inr j185))
 else none
def Z2_J5 (data1 : (List Row)) (a3 : Int) (data146 : (List Row)) (j148 : Int) (i173 : Int) : Option (((List Row) × Int × Int) ⊕ ((List Row) × Int)) :=
 (loopM (fun s : Int => Z2_L5 data1 a3 data146 i173 s) j148).bind fun e => Z2_J6 data1 data146 i173 e
def Z2_L4 (data1 : (List Row)) (a3 : Int) (data146 : (List Row)) (j148 : Int) (i160 : Int) : Option ((Int) ⊕ (Int)) :=
 if (decide (i160 ≤ j148)) = true → (0 ≤ i160 ∧ i160 < (data1.length : Int)) then
 (gcall (decide (i160 ≤ j148)) (Z9 (ix data146 i160) (ix data146 a3))).bind fun (r168 : Int) =>
 if ((decide (i160 ≤ j148)) && (decide (r168 < (0 : Int)))) = true then (
 some (.inl (w64 (i160 + (1 : Int)))))
 else (
 some (.inr i160))
 else none
def Z2_L3 (data1 : (List Row)) (a3 : Int) (data146 : (List Row)) (i147 : Int) (j148 : Int) : Option (((List Row) × Int × Int) ⊕ ((List Row) × Int)) :=
 (loopM (fun s : Int => Z2_L4 data1 a3 data146 j148 s) i147).bind fun e => Z2_J5 data1 a3 data146 j148 e
def Z2_J2 (data1 : (List Row)) (a3 : Int) (l15 : (List Row)) (i41 : Int) (j66 : Int) : Option (Int × Bool × (List Row)) :=
 if (decide (i41 > j66)) = true then (
 if (0 ≤ j66 ∧ j66 < (data1.length : Int)) then
 some (j66, true, ((l15.set j66.toNat (ix l15 a3)).set a3.toNat (ix l15 j66)))
 else none)
 else (
 if (0 ≤ j66 ∧ j66 < (data1.length : Int)) then
 if (0 ≤ i41 ∧ i41 < (data1.length : Int)) then
 (nm ((l15.set i41.toNat (ix l15 j66)).set j66.toNat (ix l15 i41))).bind fun (l83 : (List Row)) =>
 (loopM (fun s : (List Row) × Int × Int => Z2_L3 data1 a3 s.1 s.2.1 s.2.2) (l83, (w64 (i41 + (1 : Int))), (w64 (j66 - (1 : Int))))).bind fun e => Z2_J7 data1 a3 e.1 e.2
 else none
 else none)
def Z2_L2 (data1 : (List Row)) (a3 : Int) (l15 : (List Row)) (i41 : Int) (j53 : Int) : Option ((Int) ⊕ (Int)) :=
 if (decide (i41 ≤ j53)) = true → (0 ≤ j53 ∧ j53 < (data1.length : Int)) then
 (gcall (decide (i41 ≤ j53)) (Z9 (ix l15 j53) (ix l15 a3))).bind fun (r61 : Int) =>
 if ((decide (i41 ≤ j53)) && (!(decide (r61 < (0 : Int))))) = true then (
 some (.inl (w64 (j53 - (1 : Int)))))
 else (
 some (.inr j53))
 else none
def Z2_J1 (data1 : (List Row)) (a3 : Int) (b4 : Int) (l15 : (List Row)) (i41 : Int) : Option (Int × Bool × (List Row)) :=
 (loopM (fun s : Int => Z2_L2 data1 a3 l15 i41 s) (w64 (b4 - (1 : Int)))).bind fun e => Z2_J2 data1 a3 l15 i41 e
def Z2_L1 (data1 : (List Row)) (a3 : Int) (b4 : Int) (l15 : (List Row)) (i28 : Int) : Option ((Int) ⊕ (Int)) :=
 if (decide (i28 ≤ (w64 (b4 - (1 : Int))))) = true → (0 ≤ i28 ∧ i28 < (data1.length : Int)) then
 (gcall (decide (i28 ≤ (w64 (b4 - (1 : Int))))) (Z9 (ix l15 i28) (ix l15 a3))).bind fun (r36 : Int) =>
 if ((decide (i28 ≤ (w64 (b4 - (1 : Int))))) && (decide (r36 < (0 : Int)))) = true then (
 some (.inl (w64 (i28 + (1 : Int)))))
 else (
 some (.inr i28))
 else none
def Z2 (data1 : (List Row)) (a3 : Int) (b4 : Int) (pivot5 : Int) : Option (Int × Bool × (List Row)) :=
 if (0 ≤ pivot5 ∧ pivot5 < (data1.length : Int)) then
 if (0 ≤ a3 ∧ a3 < (data1.length : Int)) then
 (nm ((data1.set a3.toNat (ix data1 pivot5)).set pivot5.toNat (ix data1 a3))).bind fun (l15 : (List Row)) =>
 (loopM (fun s : Int => Z2_L1 data1 a3 b4 l15 s) (w64 (a3 + (1 : Int)))).bind fun e => Z2_J1 data1 a3 b4 l15 e
 else none
 else none
def Z19 (length1 : Int) : Option (Int) :=
 (Z10 (IntKind.wrap .u64 (length1))).bind fun (r2 : Int) =>
 if (0 ≤ r2 ∧ r2 ≤ 64) then
 some (IntKind.wrap .u64 ((1 : Int) * 2 ^ r2.toNat))
 else none
def Z1a (r1 : Int) : Option (Int × Int) :=
 some ((bits .xor .u64 (bits .xor .u64 (bits .xor .u64 r1 (IntKind.wrap .u64 (r1 * 2 ^ (13 : Int).toNat))) ((bits .xor .u64 r1 (IntKind.wrap .u64 (r1 * 2 ^ (13 : Int).toNat))) / 2 ^ (7 : Int).toNat)) (IntKind.wrap .u64 ((bits .xor .u64 (bits .xor .u64 r1 (IntKind.wrap .u64 (r1 * 2 ^ (13 : Int).toNat))) ((bits .xor .u64 r1 (IntKind.wrap .u64 (r1 * 2 ^ (13 : Int).toNat))) / 2 ^ (7 : Int).toNat)) * 2 ^ (17 : Int).toNat))), (bits .xor .u64 (bits .xor .u64 (bits .xor .u64 r1 (IntKind.wrap .u64 (r1 * 2 ^ (13 : Int).toNat))) ((bits .xor .u64 r1 (IntKind.wrap .u64 (r1 * 2 ^ (13 : Int).toNat))) / 2 ^ (7 : Int).toNat)) (IntKind.wrap .u64 ((bits .xor .u64 (bits .xor .u64 r1 (IntKind.wrap .u64 (r1 * 2 ^ (13 : Int).toNat))) ((bits .xor .u64 r1 (IntKind.wrap .u64 (r1 * 2 ^ (13 : Int).toNat))) / 2 ^ (7 : Int).toNat)) * 2 ^ (17 : Int).toNat))))
def Z00_J3 (data1 : (List Row)) (a3 : Int) (data25 : (List Row)) (idx27 : Int) (r29 : Int × Int) (other32 : Int) : Option (((List Row) × Int × Int) ⊕ ((List Row))) :=
 if (0 ≤ (w64 (a3 + other32)) ∧ (w64 (a3 + other32)) < (data1.length : Int)) then
 if (0 ≤ idx27 ∧ idx27 < (data1.length : Int)) then
 (nm ((data25.set idx27.toNat (ix data25 (w64 (a3 + other32)))).set (w64 (a3 + other32)).toNat (ix data25 idx27))).bind fun (l41 : (List Row)) =>
 some (.inl (l41, r29.2, (w64 (idx27 + (1 : Int)))))
 else none
 else none
def Z00_L1 (data1 : (List Row)) (a3 : Int) (b4 : Int) (r8 : Int) (data25 : (List Row)) (random26 : Int) (idx27 : Int) : Option (((List Row) × Int × Int) ⊕ ((List Row))) :=
 if (decide (idx27 ≤ (w64 ((w64 (a3 + (w64 ((w64 ((w64 (b4 - a3)).tdiv (4 : Int))) * (2 : Int))))) + (1 : Int))))) = true then (
 (Z1a random26).bind fun (r29 : Int × Int) =>
 if (decide ((w64 ((bits .and .u64 r29.1 (IntKind.wrap .u64 (r8 - (1 : Int)))))) ≥ (w64 (b4 - a3)))) = true then (
 Z00_J3 data1 a3 data25 idx27 r29 (w64 ((w64 ((bits .and .u64 r29.1 (IntKind.wrap .u64 (r8 - (1 : Int)))))) - (w64 (b4 - a3)))))
 else (
 Z00_J3 data1 a3 data25 idx27 r29 (w64 ((bits .and .u64 r29.1 (IntKind.wrap .u64 (r8 - (1 : Int))))))))
 else (
 some (.inr data25))
def Z00 (data1 : (List Row)) (a3 : Int) (b4 : Int) : Option ((List Row)) :=
 if (decide ((w64 (b4 - a3)) ≥ (8 : Int))) = true then (
 (Z19 (w64 (b4 - a3))).bind fun (r8 : Int) =>
 (loopM (fun s : (List Row) × Int × Int => Z00_L1 data1 a3 b4 r8 s.1 s.2.1 s.2.2) (data1, (IntKind.wrap .u64 ((w64 (b4 - a3)))), (w64 ((w64 (a3 + (w64 ((w64 ((w64 (b4 - a3)).tdiv (4 : Int))) * (2 : Int))))) - (1 : Int))))).bind fun e => some e)
 else (
 some data1)
def Z6_J10 (data1 : (List Row)) (rf : (List Row) → Int → Int → Int → Option ((List Row))) (a100 : Int) (b101 : Int) (wasBalanced103 : Bool) (wasPartitioned104 : Bool) (limit115 : Int) (pivot122 : Int) (data130 : (List Row)) : Option (((List Row) × Int × Int × Int × Bool × Bool) ⊕ ((List Row))) :=
 if (decide (a100 > (0 : Int))) = true → (0 ≤ (w64 (a100 - (1 : Int))) ∧ (w64 (a100 - (1 : Int))) < (data1.length : Int)) then
 if (decide (a100 > (0 : Int))) = true → (0 ≤ pivot122 ∧ pivot122 < (data1.length : Int)) then
 (gcall (decide (a100 > (0 : Int))) (Z9 (ix data130 (w64 (a100 - (1 : Int)))) (ix data130 pivot122))).bind fun (r139 : Int) =>
 if ((decide (a100 > (0 : Int))) && (!(decide (r139 < (0 : Int))))) = true then (
 (Z8 data130 a100 b101 pivot122).bind fun (r143 : Int × (List Row)) =>
 some (.inl (r143.2, r143.1, b101, limit115, wasBalanced103, wasPartitioned104)))
 else (
 (Z2 data130 a100 b101 pivot122).bind fun (r145 : Int × Bool × (List Row)) =>
 if (decide ((w64 (r145.1 - a100)) < (w64 (b101 - r145.1)))) = true then (
 (rf r145.2.2 a100 r145.1 limit115).bind fun (r148 : (List Row)) =>
 some (.inl (r148, (w64 (r145.1 + (1 : Int))), b101, limit115, (decide ((w64 (r145.1 - a100)) ≥ (w64 ((w64 (b101 - a100)).tdiv (8 : Int))))), r145.2.1)))
 else (
 (rf r145.2.2 (w64 (r145.1 + (1 : Int))) b101 limit115).bind fun (r150 : (List Row)) =>
 some (.inl (r150, a100, r145.1, limit115, (decide ((w64 (b101 - r145.1)) ≥ (w64 ((w64 (b101 - a100)).tdiv (8 : Int))))), r145.2.1))))
 else none
 else none
def Z6_J9 (data1 : (List Row)) (rf : (List Row) → Int → Int → Int → Option ((List Row))) (a100 : Int) (b101 : Int) (wasBalanced103 : Bool) (wasPartitioned104 : Bool) (limit115 : Int) (data121 : (List Row)) (pivot122 : Int) (hint123 : Int) : Option (((List Row) × Int × Int × Int × Bool × Bool) ⊕ ((List Row))) :=
 if ((wasBalanced103 && wasPartitioned104) && (hint123 == (1 : Int))) = true then (
 (Z3 data121 a100 b101).bind fun (r127 : Bool × (List Row)) =>
 if r127.1 = true then (
 some (.inr r127.2))
 else (
 Z6_J10 data1 rf a100 b101 wasBalanced103 wasPartitioned104 limit115 pivot122 r127.2))
 else (
 Z6_J10 data1 rf a100 b101 wasBalanced103 wasPartitioned104 limit115 pivot122 data121)
def Z6_J8 (data1 : (List Row)) (rf : (List Row) → Int → Int → Int → Option ((List Row))) (a100 : Int) (b101 : Int) (wasBalanced103 : Bool) (wasPartitioned104 : Bool) (data114 : (List Row)) (limit115 : Int) : Option (((List Row) × Int × Int × Int × Bool × Bool) ⊕ ((List Row))) :=
 (Z03 data114 a100 b101).bind fun (r116 : Int × Int) =>
 if (r116.2 == (2 : Int)) = true then (
 (Z0d data114 a100 b101).bind fun (r119 : (List Row)) =>
 Z6_J9 data1 rf a100 b101 wasBalanced103 wasPartitioned104 limit115 r119 (w64 ((w64 (b101 - (1 : Int))) - (w64 (r116.1 - a100)))) (1 : Int))
 else (
 Z6_J9 data1 rf a100 b101 wasBalanced103 wasPartitioned104 limit115 data114 r116.1 r116.2)
def Z6_L1 (data1 : (List Row)) (rf : (List Row) → Int → Int → Int → Option ((List Row))) (data99 : (List Row)) (a100 : Int) (b101 : Int) (limit102 : Int) (wasBalanced103 : Bool) (wasPartitioned104 : Bool) : Option (((List Row) × Int × Int × Int × Bool × Bool) ⊕ ((List Row))) :=
 if (decide ((w64 (b101 - a100)) ≤ (12 : Int))) = true then (
 (Zh data99 a100 b101).bind fun (r106 : (List Row)) =>
 some (.inr r106))
 else (
 if (limit102 == (0 : Int)) = true then (
 (Zi data99 a100 b101).bind fun (r109 : (List Row)) =>
 some (.inr r109))
 else (
 if (!wasBalanced103) = true then (
 (Z00 data99 a100 b101).bind fun (r112 : (List Row)) =>
 Z6_J8 data1 rf a100 b101 wasBalanced103 wasPartitioned104 r112 (w64 (limit102 - (1 : Int))))
 else (
 Z6_J8 data1 rf a100 b101 wasBalanced103 wasPartitioned104 data99 limit102)))
def Z6_S (rf : (List Row) → Int → Int → Int → Option ((List Row))) (data1 : (List Row)) (a3 : Int) (b4 : Int) (limit5 : Int) : Option ((List Row)) :=
 (loopM (fun s : (List Row) × Int × Int × Int × Bool × Bool => Z6_L1 data1 rf s.1 s.2.1 s.2.2.1 s.2.2.2.1 s.2.2.2.2.1 s.2.2.2.2.2) (data1, a3, b4, limit5, true, true)).bind fun e => some e
def Z6_R : Nat → (List Row) → Int → Int → Int → Option ((List Row))
 | 0 => fun _ _ _ _ => none
 | n + 1 => Z6_S (Z6_R n)
def Z6 (data1 : (List Row)) (a3 : Int) (b4 : Int) (limit5 : Int) : Option ((List Row)) := Z6_R recFuel data1 a3 b4 limit5
def Z1d (p1 : (List Row)) : Option ((List Row)) :=
 (Z10 (IntKind.wrap .u64 ((p1.length : Int)))).bind fun (r4 : Int) =>
 (Z6 p1 (0 : Int) (p1.length : Int) r4).bind fun (r6 : (List Row)) =>
 some r6
def Z0w (m1 : Lm) : Option ((List Row)) :=
 (Z1e m1.Rows).bind fun (r4 : (List Row)) =>
 (Z1d r4).bind fun (r7 : (List Row)) =>
 some r7
def Zw_J1 : Option (Bool) :=
 some true
def Zw_L1 (xs1 : (List Int)) (lo3 : Int) (hi4 : Int) (x12 : Int) : Option ((Int) ⊕ ((Bool) ⊕ (Unit))) :=
 if (decide (x12 < (xs1.length : Int))) = true then (
 if (0 ≤ x12 ∧ x12 < (xs1.length : Int)) then
 (Zx (ix xs1 x12) lo3 hi4).bind fun (r17 : Bool) =>
 if (!r17) = true then (
 some (.inr (.inl false)))
 else (
 some (.inl (w64 (x12 + (1 : Int)))))
 else none)
 else (
 some (.inr (.inr ())))
def Zw (xs1 : (List Int)) (lo3 : Int) (hi4 : Int) : Option (Bool) :=
 (loopM (fun s : Int => Zw_L1 xs1 lo3 hi4 s) (0 : Int)).bind fun e => match e with
 | .inl e => some e
 | .inr e => Zw_J1
def Z0c_J1 : Option (Bool) :=
 some true
def Z0c_L1 (xs1 : (List Int)) (p3 : Int) (x9 : Int) : Option ((Int) ⊕ ((Bool) ⊕ (Unit))) :=
 if (decide (x9 < (xs1.length : Int))) = true then (
 if (0 ≤ x9 ∧ x9 < (xs1.length : Int)) then
 if (p3 != (ix xs1 x9)) = true then (
 some (.inr (.inl false)))
 else (
 some (.inl (w64 (x9 + (1 : Int)))))
 else none)
 else (
 some (.inr (.inr ())))
def Z0c (xs1 : (List Int)) (p3 : Int) : Option (Bool) :=
 (loopM (fun s : Int => Z0c_L1 xs1 p3 s) (0 : Int)).bind fun e => match e with
 | .inl e => some e
 | .inr e => Z0c_J1
def Zt_J1 (r8 : (List Row)) : Option (Bool) :=
 if (decide ((r8.length : Int) > (0 : Int))) = true → (0 ≤ (0 : Int) ∧ (0 : Int) < (r8.length : Int)) then
 some ((decide ((r8.length : Int) > (0 : Int))) && ((((ix r8 (0 : Int)).Key).length : Int) == (0 : Int)))
 else none
def Zt_L1 (m1 : Lm) (r8 : (List Row)) (x37 : Int) : Option ((Int) ⊕ ((Bool) ⊕ (Unit))) :=
 if (decide (x37 < (r8.length : Int))) = true then (
 if (0 ≤ x37 ∧ x37 < (r8.length : Int)) then
 (gcall (!(decide ((((ix r8 x37).Key).length : Int) > (4 : Int)))) (Zw ((ix r8 x37).Key) (0 : Int) (w64 (m1.Size - (1 : Int))))).bind fun (r45 : Bool) =>
 (gcall (!(((decide ((((ix r8 x37).Key).length : Int) > (4 : Int))) || (!r45)) || ((((ix r8 x37).Weights).length : Int) != m1.Size))) (Zw ((ix r8 x37).Weights) (0 : Int) (1000 : Int))).bind fun (r47 : Bool) =>
 (gcall (!((((decide ((((ix r8 x37).Key).length : Int) > (4 : Int))) || (!r45)) || ((((ix r8 x37).Weights).length : Int) != m1.Size)) || (!r47))) (Z0c ((ix r8 x37).Weights) (0 : Int))).bind fun (r49 : Bool) =>
 if (((((decide ((((ix r8 x37).Key).length : Int) > (4 : Int))) || (!r45)) || ((((ix r8 x37).Weights).length : Int) != m1.Size)) || (!r47)) || r49) = true then (
 some (.inr (.inl false)))
 else (
 if (decide (x37 > (0 : Int))) = true → (0 ≤ (w64 (x37 - (1 : Int))) ∧ (w64 (x37 - (1 : Int))) < (r8.length : Int)) then
 (gcall (decide (x37 > (0 : Int))) (Z0u ((ix r8 (w64 (x37 - (1 : Int)))).Key) ((ix r8 x37).Key))).bind fun (r59 : Int) =>
 if ((decide (x37 > (0 : Int))) && (r59 == (0 : Int))) = true then (
 some (.inr (.inl false)))
 else (
 some (.inl (w64 (x37 + (1 : Int)))))
 else none)
 else none)
 else (
 some (.inr (.inr ())))
def Zt (m1 : Lm) : Option (Bool) :=
 (Zx m1.Size (1 : Int) (64 : Int)).bind fun (r4 : Bool) =>
 if ((!r4) || (decide ((m1.Rows.length : Int) > (500 : Int)))) = true then (
 some false)
 else (
 (Z0w m1).bind fun (r8 : (List Row)) =>
 (loopM (fun s : Int => Zt_L1 m1 r8 s) (0 : Int)).bind fun e => match e with
 | .inl e => some e
 | .inr e => Zt_J1 r8)
def Z0z (m1 : Lm) (prompt3 : (List Int)) (n5 : Int) : Option (Bool) :=
 (Zt m1).bind fun (r7 : Bool) =>
 (gcall (r7 && (decide ((prompt3.length : Int) ≤ (1700 : Int)))) (Zw prompt3 (0 : Int) (w64 (m1.Size - (1 : Int))))).bind fun (r9 : Bool) =>
 (gcall ((r7 && (decide ((prompt3.length : Int) ≤ (1700 : Int)))) && r9) (Zx n5 (0 : Int) (300 : Int))).bind fun (r11 : Bool) =>
 some (((r7 && (decide ((prompt3.length : Int) ≤ (1700 : Int)))) && r9) && r11)
def Z15 (c1 : Choice) : Option (Bool) :=
 (Zx c1.Power (1 : Int) (2 : Int)).bind fun (r3 : Bool) =>
 (gcall r3 (Zx c1.Cut (0 : Int) (64 : Int))).bind fun (r5 : Bool) =>
 (gcall (r3 && r5) (Zx c1.Mass (1 : Int) (65536 : Int))).bind fun (r7 : Bool) =>
 some ((r3 && r5) && r7)
def Z0i (p1 : Int) : Option (Bool) :=
 some ((decide (p1 ≥ (0 : Int))) && (decide (p1 < (4294967296 : Int))))
def Z12 (p1 : Int) : Option (Int) :=
 (Z0i p1).bind fun (r2 : Bool) =>
 if (!r2) = true then (
 some (0 : Int))
 else (
 some ((w64 ((w64 ((1664525 : Int) * p1)) + (1013904223 : Int))).tmod (4294967296 : Int)))
def Zs_J1 (c3 : Choice) (r8 : (List Row)) (t36 : (List Int)) : Option (talker) :=
 some (⟨r8, c3, t36⟩ : talker)
def Zs_L1 (n4 : Int) (seed22 : Int) (t23 : (List Int)) (x25 : Int) : Option ((Int × (List Int) × Int) ⊕ ((List Int))) :=
 if (decide (x25 < n4)) = true then (
 if t23.length + ([seed22] : List Int).length ≤ 17592186044416 then
 (Z12 seed22).bind fun (r30 : Int) =>
 some (.inl (r30, (t23 ++ ([seed22] : List Int)), (w64 (x25 + (1 : Int)))))
 else none)
 else (
 some (.inr t23))
def Zs (m1 : Lm) (c3 : Choice) (n4 : Int) (seed5 : Int) : Option (talker) :=
 (Z0w m1).bind fun (r8 : (List Row)) =>
 (loopM (fun s : Int × (List Int) × Int => Zs_L1 n4 s.1 s.2.1 s.2.2) (seed5, ([] : List Int), (0 : Int))).bind fun e => Zs_J1 c3 r8 e
def Z0h (s1 : List Int) : Option (List Int) :=
 if s1.length ≤ 17592186044416 then some s1 else none
def Z0m (p1 : (List Int)) (p4 : (List Int)) : Option (Int) :=
 some (w64 ((p1.length : Int) - (p4.length : Int)))
def Z14 (r1 : Row) (k4 : (List Int)) : Option (Int) :=
 (Z0u r1.Key k4).bind fun (r7 : Int) =>
 some r7
def Zq_J1 (list1 : (List Row)) (key3 : (List Int)) (lo28 : Int) : Option (Int × Bool) :=
 if (decide (lo28 < (list1.length : Int))) = true → (0 ≤ lo28 ∧ lo28 < (list1.length : Int)) then
 (gcall (decide (lo28 < (list1.length : Int))) (Z14 (ix list1 lo28) key3)).bind fun (r34 : Int) =>
 some (lo28, ((decide (lo28 < (list1.length : Int))) && (r34 == (0 : Int))))
 else none
def Zq_L1 (list1 : (List Row)) (key3 : (List Int)) (lo15 : Int) (hi16 : Int) : Option ((Int × Int) ⊕ (Int)) :=
 if (decide (lo15 < hi16)) = true then (
 if (0 ≤ (w64 ((w64 (lo15 + hi16)).tdiv (2 : Int))) ∧ (w64 ((w64 (lo15 + hi16)).tdiv (2 : Int))) < (list1.length : Int)) then
 (Z14 (ix list1 (w64 ((w64 (lo15 + hi16)).tdiv (2 : Int)))) key3).bind fun (r23 : Int) =>
 if (decide (r23 < (0 : Int))) = true then (
 some (.inl ((w64 ((w64 ((w64 (lo15 + hi16)).tdiv (2 : Int))) + (1 : Int))), hi16)))
 else (
 some (.inl (lo15, (w64 ((w64 (lo15 + hi16)).tdiv (2 : Int))))))
 else none)
 else (
 some (.inr lo15))
def Zq (list1 : (List Row)) (key3 : (List Int)) : Option (Int × Bool) :=
 (loopM (fun s : Int × Int => Zq_L1 list1 key3 s.1 s.2) ((0 : Int), (list1.length : Int))).bind fun e => Zq_J1 list1 key3 e
def Zu_J1 (rows1 : (List Row)) : Option ((List Int)) :=
 if (0 ≤ (0 : Int) ∧ (0 : Int) < (rows1.length : Int)) then
 some ((ix rows1 (0 : Int)).Weights)
 else none
def Zu_L1 (rows1 : (List Row)) (history3 : (List Int)) (n16 : Int) : Option ((Int) ⊕ (((List Int)) ⊕ (Unit))) :=
 if (decide (n16 > (0 : Int))) = true then (
 if (0 ≤ (w64 ((history3.length : Int) - n16)) ∧ (w64 ((history3.length : Int) - n16)) ≤ (history3.length : Int) ∧ (history3.length : Int) ≤ (history3.length : Int)) then
 (Zq rows1 (sub history3 (w64 ((history3.length : Int) - n16)) (history3.length : Int))).bind fun (r20 : Int × Bool) =>
 if r20.2 = true then (
 if (0 ≤ r20.1 ∧ r20.1 < (rows1.length : Int)) then
 some (.inr (.inl ((ix rows1 r20.1).Weights)))
 else none)
 else (
 some (.inl (w64 (n16 - (1 : Int)))))
 else none)
 else (
 some (.inr (.inr ())))
def Zu (rows1 : (List Row)) (history3 : (List Int)) : Option ((List Int)) :=
 (loopM (fun s : Int => Zu_L1 rows1 history3 s) (if (history3.length : Int) < (4 : Int) then (history3.length : Int) else (4 : Int))).bind fun e => match e with
 | .inl e => some e
 | .inr e => Zu_J1 rows1
def Z1h (p1 : Int) : Option (Int) :=
 some (w64 (p1 * p1))
def Z0b_J1 (x30 : (List Int)) : Option ((List Int)) :=
 some x30
def Z0b_L1 (list1 : (List Int)) (x17 : (List Int)) (x18 : Int) : Option (((List Int) × Int) ⊕ ((List Int))) :=
 if (decide (x18 < (list1.length : Int))) = true then (
 if (0 ≤ x18 ∧ x18 < (list1.length : Int)) then
 (Z1h (ix list1 x18)).bind fun (r23 : Int) =>
 if (0 ≤ x18 ∧ x18 < ((List.replicate (list1.length : Int).toNat (0 : Int)).length : Int)) then
 some (.inl ((x17.set x18.toNat r23), (w64 (x18 + (1 : Int)))))
 else none
 else none)
 else (
 some (.inr x17))
def Z0b (list1 : (List Int)) : Option ((List Int)) :=
 if (0 ≤ (list1.length : Int) ∧ (list1.length : Int) ≤ 140737488355328 ∧ 8 * (list1.length : Int) ≤ 281474976710656) then
 (loopM (fun s : (List Int) × Int => Z0b_L1 list1 s.1 s.2) ((List.replicate (list1.length : Int).toNat (0 : Int)), (0 : Int))).bind fun e => Z0b_J1 e
 else none
def Z1f (a1 : Int) (b2 : Int) : Option (Int) :=
 (Z0r b2 a1).bind fun (r3 : Int) =>
 some r3
def Z0n (i1 : Int) (j2 : Int) (p5 : (List Int)) : Option (Int) :=
 if (0 ≤ i1 ∧ i1 < (p5.length : Int)) then
 if (0 ≤ j2 ∧ j2 < (p5.length : Int)) then
 (Z1f (ix p5 i1) (ix p5 j2)).bind fun (r12 : Int) =>
 some r12
 else none
 else none
def Z0a_J2 (i46 : Int) (data80 : (List Int)) : Option (((List Int) × Int) ⊕ ((List Int))) :=
 some (.inl (data80, (w64 (i46 + (1 : Int)))))
def Z0a_L2 (data1 : (List Int)) (a3 : Int) (q8 : (List Int)) (data62 : (List Int)) (j63 : Int) : Option (((List Int) × Int) ⊕ ((List Int))) :=
 if (decide (j63 > a3)) = true → (0 ≤ j63 ∧ j63 < (data1.length : Int)) then
 if (decide (j63 > a3)) = true → (0 ≤ (w64 (j63 - (1 : Int))) ∧ (w64 (j63 - (1 : Int))) < (data1.length : Int)) then
 (gcall (decide (j63 > a3)) (Z0n (ix data62 j63) (ix data62 (w64 (j63 - (1 : Int)))) q8)).bind fun (r68 : Int) =>
 if ((decide (j63 > a3)) && (decide (r68 < (0 : Int)))) = true then (
 if (0 ≤ (w64 (j63 - (1 : Int))) ∧ (w64 (j63 - (1 : Int))) < (data1.length : Int)) then
 if (0 ≤ j63 ∧ j63 < (data1.length : Int)) then
 (nm ((data62.set j63.toNat (ix data62 (w64 (j63 - (1 : Int))))).set (w64 (j63 - (1 : Int))).toNat (ix data62 j63))).bind fun (l76 : (List Int)) =>
 some (.inl (l76, (w64 (j63 - (1 : Int)))))
 else none
 else none)
 else (
 some (.inr data62))
 else none
 else none
def Z0a_L1 (data1 : (List Int)) (a3 : Int) (b4 : Int) (q8 : (List Int)) (data45 : (List Int)) (i46 : Int) : Option (((List Int) × Int) ⊕ ((List Int))) :=
 if (decide (i46 < b4)) = true then (
 (loopM (fun s : (List Int) × Int => Z0a_L2 data1 a3 q8 s.1 s.2) (data45, i46)).bind fun e => Z0a_J2 i46 e)
 else (
 some (.inr data45))
def Z0a (data1 : (List Int)) (a3 : Int) (b4 : Int) (q8 : (List Int)) : Option ((List Int)) :=
 (loopM (fun s : (List Int) × Int => Z0a_L1 data1 a3 b4 q8 s.1 s.2) (data1, (w64 (a3 + (1 : Int))))).bind fun e => some e
def Z0q_L1 (data1 : (List Int)) (a3 : Int) (b4 : Int) (n5 : Int) (data19 : (List Int)) (i20 : Int) : Option (((List Int) × Int) ⊕ ((List Int))) :=
 if (decide (i20 < n5)) = true then (
 if (0 ≤ (w64 (b4 + i20)) ∧ (w64 (b4 + i20)) < (data1.length : Int)) then
 if (0 ≤ (w64 (a3 + i20)) ∧ (w64 (a3 + i20)) < (data1.length : Int)) then
 (nm ((data19.set (w64 (a3 + i20)).toNat (ix data19 (w64 (b4 + i20)))).set (w64 (b4 + i20)).toNat (ix data19 (w64 (a3 + i20))))).bind fun (l26 : (List Int)) =>
 some (.inl (l26, (w64 (i20 + (1 : Int)))))
 else none
 else none)
 else (
 some (.inr data19))
def Z0q (data1 : (List Int)) (a3 : Int) (b4 : Int) (n5 : Int) (q9 : (List Int)) : Option ((List Int)) :=
 (loopM (fun s : (List Int) × Int => Z0q_L1 data1 a3 b4 n5 s.1 s.2) (data1, (0 : Int))).bind fun e => some e
def Z0p_J1 (m4 : Int) (q9 : (List Int)) (data30 : (List Int)) (i31 : Int) : Option ((List Int)) :=
 (Z0q data30 (w64 (m4 - i31)) m4 i31 q9).bind fun (r32 : (List Int)) =>
 some r32
def Z0p_L1 (m4 : Int) (q9 : (List Int)) (data18 : (List Int)) (i19 : Int) (j20 : Int) : Option (((List Int) × Int × Int) ⊕ ((List Int) × Int)) :=
 if (i19 != j20) = true then (
 if (decide (i19 > j20)) = true then (
 (Z0q data18 (w64 (m4 - i19)) m4 j20 q9).bind fun (r23 : (List Int)) =>
 some (.inl (r23, (w64 (i19 - j20)), j20)))
 else (
 (Z0q data18 (w64 (m4 - i19)) (w64 ((w64 (m4 + j20)) - i19)) i19 q9).bind fun (r25 : (List Int)) =>
 some (.inl (r25, i19, (w64 (j20 - i19))))))
 else (
 some (.inr (data18, i19)))
def Z0p (data1 : (List Int)) (a3 : Int) (m4 : Int) (b5 : Int) (q9 : (List Int)) : Option ((List Int)) :=
 (loopM (fun s : (List Int) × Int × Int => Z0p_L1 m4 q9 s.1 s.2.1 s.2.2) (data1, (w64 (m4 - a3)), (w64 (b5 - m4)))).bind fun e => Z0p_J1 m4 q9 e.1 e.2
def Z1_J10 (p52 : (List Int)) : Option ((List Int)) :=
 some p52
def Z1_L2 (data1 : (List Int)) (i33 : Int) (data41 : (List Int)) (k42 : Int) : Option (((List Int) × Int) ⊕ ((List Int))) :=
 if (decide (k42 < (w64 (i33 - (1 : Int))))) = true then (
 if (0 ≤ (w64 (k42 + (1 : Int))) ∧ (w64 (k42 + (1 : Int))) < (data1.length : Int)) then
 if (0 ≤ k42 ∧ k42 < (data1.length : Int)) then
 (nm ((data41.set k42.toNat (ix data41 (w64 (k42 + (1 : Int))))).set (w64 (k42 + (1 : Int))).toNat (ix data41 k42))).bind fun (l48 : (List Int)) =>
 some (.inl (l48, (w64 (k42 + (1 : Int)))))
 else none
 else none)
 else (
 some (.inr data41))
def Z1_J9 (data1 : (List Int)) (a3 : Int) (i33 : Int) : Option ((List Int)) :=
 (loopM (fun s : (List Int) × Int => Z1_L2 data1 i33 s.1 s.2) (data1, a3)).bind fun e => Z1_J10 e
def Z1_L1 (data1 : (List Int)) (a3 : Int) (q9 : (List Int)) (i21 : Int) (j22 : Int) : Option ((Int × Int) ⊕ (Int)) :=
 if (decide (i21 < j22)) = true then (
 if (0 ≤ (w64 (((IntKind.wrap .u64 ((w64 (i21 + j22)))) / 2 ^ (1 : Int).toNat))) ∧ (w64 (((IntKind.wrap .u64 ((w64 (i21 + j22)))) / 2 ^ (1 : Int).toNat))) < (data1.length : Int)) then
 if (0 ≤ a3 ∧ a3 < (data1.length : Int)) then
 (Z0n (ix data1 (w64 (((IntKind.wrap .u64 ((w64 (i21 + j22)))) / 2 ^ (1 : Int).toNat)))) (ix data1 a3) q9).bind fun (r28 : Int) =>
 if (decide (r28 < (0 : Int))) = true then (
 some (.inl ((w64 ((w64 (((IntKind.wrap .u64 ((w64 (i21 + j22)))) / 2 ^ (1 : Int).toNat))) + (1 : Int))), j22)))
 else (
 some (.inl (i21, (w64 (((IntKind.wrap .u64 ((w64 (i21 + j22)))) / 2 ^ (1 : Int).toNat))))))
 else none
 else none)
 else (
 some (.inr i21))
def Z1_J12 (p93 : (List Int)) : Option ((List Int)) :=
 some p93
def Z1_L4 (data1 : (List Int)) (i74 : Int) (data82 : (List Int)) (k83 : Int) : Option (((List Int) × Int) ⊕ ((List Int))) :=
 if (decide (k83 > i74)) = true then (
 if (0 ≤ (w64 (k83 - (1 : Int))) ∧ (w64 (k83 - (1 : Int))) < (data1.length : Int)) then
 if (0 ≤ k83 ∧ k83 < (data1.length : Int)) then
 (nm ((data82.set k83.toNat (ix data82 (w64 (k83 - (1 : Int))))).set (w64 (k83 - (1 : Int))).toNat (ix data82 k83))).bind fun (l89 : (List Int)) =>
 some (.inl (l89, (w64 (k83 - (1 : Int)))))
 else none
 else none)
 else (
 some (.inr data82))
def Z1_J11 (data1 : (List Int)) (m4 : Int) (i74 : Int) : Option ((List Int)) :=
 (loopM (fun s : (List Int) × Int => Z1_L4 data1 i74 s.1 s.2) (data1, m4)).bind fun e => Z1_J12 e
def Z1_L3 (data1 : (List Int)) (m4 : Int) (q9 : (List Int)) (i62 : Int) (j63 : Int) : Option ((Int × Int) ⊕ (Int)) :=
 if (decide (i62 < j63)) = true then (
 if (0 ≤ m4 ∧ m4 < (data1.length : Int)) then
 if (0 ≤ (w64 (((IntKind.wrap .u64 ((w64 (i62 + j63)))) / 2 ^ (1 : Int).toNat))) ∧ (w64 (((IntKind.wrap .u64 ((w64 (i62 + j63)))) / 2 ^ (1 : Int).toNat))) < (data1.length : Int)) then
 (Z0n (ix data1 m4) (ix data1 (w64 (((IntKind.wrap .u64 ((w64 (i62 + j63)))) / 2 ^ (1 : Int).toNat)))) q9).bind fun (r69 : Int) =>
 if (!(decide (r69 < (0 : Int)))) = true then (
 some (.inl ((w64 ((w64 (((IntKind.wrap .u64 ((w64 (i62 + j63)))) / 2 ^ (1 : Int).toNat))) + (1 : Int))), j63)))
 else (
 some (.inl (i62, (w64 (((IntKind.wrap .u64 ((w64 (i62 + j63)))) / 2 ^ (1 : Int).toNat))))))
 else none
 else none)
 else (
 some (.inr i62))
def Z1_J16 (a3 : Int) (m4 : Int) (b5 : Int) (q9 : (List Int)) (rf : (List Int) → Int → Int → Int → (List Int) → Option ((List Int))) (start117 : Int) (data127 : (List Int)) : Option ((List Int)) :=
 if ((decide ((w64 (((IntKind.wrap .u64 ((w64 (a3 + b5)))) / 2 ^ (1 : Int).toNat))) < (w64 ((w64 ((w64 (((IntKind.wrap .u64 ((w64 (a3 + b5)))) / 2 ^ (1 : Int).toNat))) + m4)) - start117)))) && (decide ((w64 ((w64 ((w64 (((IntKind.wrap .u64 ((w64 (a3 + b5)))) / 2 ^ (1 : Int).toNat))) + m4)) - start117)) < b5))) = true then (
 (rf data127 (w64 (((IntKind.wrap .u64 ((w64 (a3 + b5)))) / 2 ^ (1 : Int).toNat))) (w64 ((w64 ((w64 (((IntKind.wrap .u64 ((w64 (a3 + b5)))) / 2 ^ (1 : Int).toNat))) + m4)) - start117)) b5 q9).bind fun (r130 : (List Int)) =>
 some r130)
 else (
 some data127)
def Z1_J15 (a3 : Int) (m4 : Int) (b5 : Int) (q9 : (List Int)) (rf : (List Int) → Int → Int → Int → (List Int) → Option ((List Int))) (start117 : Int) (data122 : (List Int)) : Option ((List Int)) :=
 if ((decide (a3 < start117)) && (decide (start117 < (w64 (((IntKind.wrap .u64 ((w64 (a3 + b5)))) / 2 ^ (1 : Int).toNat)))))) = true then (
 (rf data122 a3 start117 (w64 (((IntKind.wrap .u64 ((w64 (a3 + b5)))) / 2 ^ (1 : Int).toNat))) q9).bind fun (r125 : (List Int)) =>
 Z1_J16 a3 m4 b5 q9 rf start117 r125)
 else (
 Z1_J16 a3 m4 b5 q9 rf start117 data122)
def Z1_J14 (data1 : (List Int)) (a3 : Int) (m4 : Int) (b5 : Int) (q9 : (List Int)) (rf : (List Int) → Int → Int → Int → (List Int) → Option ((List Int))) (start117 : Int) : Option ((List Int)) :=
 if ((decide (start117 < m4)) && (decide (m4 < (w64 ((w64 ((w64 (((IntKind.wrap .u64 ((w64 (a3 + b5)))) / 2 ^ (1 : Int).toNat))) + m4)) - start117))))) = true then (
 (Z0p data1 start117 m4 (w64 ((w64 ((w64 (((IntKind.wrap .u64 ((w64 (a3 + b5)))) / 2 ^ (1 : Int).toNat))) + m4)) - start117)) q9).bind fun (r120 : (List Int)) =>
 Z1_J15 a3 m4 b5 q9 rf start117 r120)
 else (
 Z1_J15 a3 m4 b5 q9 rf start117 data1)
def Z1_L5 (data1 : (List Int)) (a3 : Int) (m4 : Int) (b5 : Int) (q9 : (List Int)) (start105 : Int) (r106 : Int) : Option ((Int × Int) ⊕ (Int)) :=
 if (decide (start105 < r106)) = true then (
 if (0 ≤ (w64 ((w64 ((w64 ((w64 (((IntKind.wrap .u64 ((w64 (a3 + b5)))) / 2 ^ (1 : Int).toNat))) + m4)) - (1 : Int))) - (w64 (((IntKind.wrap .u64 ((w64 (start105 + r106)))) / 2 ^ (1 : Int).toNat))))) ∧ (w64 ((w64 ((w64 ((w64 (((IntKind.wrap .u64 ((w64 (a3 + b5)))) / 2 ^ (1 : Int).toNat))) + m4)) - (1 : Int))) - (w64 (((IntKind.wrap .u64 ((w64 (start105 + r106)))) / 2 ^ (1 : Int).toNat))))) < (data1.length : Int)) then
 if (0 ≤ (w64 (((IntKind.wrap .u64 ((w64 (start105 + r106)))) / 2 ^ (1 : Int).toNat))) ∧ (w64 (((IntKind.wrap .u64 ((w64 (start105 + r106)))) / 2 ^ (1 : Int).toNat))) < (data1.length : Int)) then
 (Z0n (ix data1 (w64 ((w64 ((w64 ((w64 (((IntKind.wrap .u64 ((w64 (a3 + b5)))) / 2 ^ (1 : Int).toNat))) + m4)) - (1 : Int))) - (w64 (((IntKind.wrap .u64 ((w64 (start105 + r106)))) / 2 ^ (1 : Int).toNat)))))) (ix data1 (w64 (((IntKind.wrap .u64 ((w64 (start105 + r106)))) / 2 ^ (1 : Int).toNat)))) q9).bind fun (r112 : Int) =>
 if (!(decide (r112 < (0 : Int)))) = true then (
 some (.inl ((w64 ((w64 (((IntKind.wrap .u64 ((w64 (start105 + r106)))) / 2 ^ (1 : Int).toNat))) + (1 : Int))), r106)))
 else (
 some (.inl (start105, (w64 (((IntKind.wrap .u64 ((w64 (start105 + r106)))) / 2 ^ (1 : Int).toNat))))))
 else none
 else none)
 else (
 some (.inr start105))
def Z1_J13 (data1 : (List Int)) (a3 : Int) (m4 : Int) (b5 : Int) (q9 : (List Int)) (rf : (List Int) → Int → Int → Int → (List Int) → Option ((List Int))) (start95 : Int) (r96 : Int) : Option ((List Int)) :=
 (loopM (fun s : Int × Int => Z1_L5 data1 a3 m4 b5 q9 s.1 s.2) (start95, r96)).bind fun e => Z1_J14 data1 a3 m4 b5 q9 rf e
def Z1_S (rf : (List Int) → Int → Int → Int → (List Int) → Option ((List Int))) (data1 : (List Int)) (a3 : Int) (m4 : Int) (b5 : Int) (q9 : (List Int)) : Option ((List Int)) :=
 if ((w64 (m4 - a3)) == (1 : Int)) = true then (
 (loopM (fun s : Int × Int => Z1_L1 data1 a3 q9 s.1 s.2) (m4, b5)).bind fun e => Z1_J9 data1 a3 e)
 else (
 if ((w64 (b5 - m4)) == (1 : Int)) = true then (
 (loopM (fun s : Int × Int => Z1_L3 data1 m4 q9 s.1 s.2) (a3, m4)).bind fun e => Z1_J11 data1 m4 e)
 else (
 if (decide (m4 > (w64 (((IntKind.wrap .u64 ((w64 (a3 + b5)))) / 2 ^ (1 : Int).toNat))))) = true then (
 Z1_J13 data1 a3 m4 b5 q9 rf (w64 ((w64 ((w64 (((IntKind.wrap .u64 ((w64 (a3 + b5)))) / 2 ^ (1 : Int).toNat))) + m4)) - b5)) (w64 (((IntKind.wrap .u64 ((w64 (a3 + b5)))) / 2 ^ (1 : Int).toNat))))
 else (
 Z1_J13 data1 a3 m4 b5 q9 rf a3 m4)))
def Z1_R : Nat → (List Int) → Int → Int → Int → (List Int) → Option ((List Int))
 | 0 => fun _ _ _ _ _ => none
 | n + 1 => Z1_S (Z1_R n)
def Z1 (data1 : (List Int)) (a3 : Int) (m4 : Int) (b5 : Int) (q9 : (List Int)) : Option ((List Int)) := Z1_R recFuel data1 a3 m4 b5 q9
def Zc_J5 (blockSize46 : Int) (data65 : (List Int)) : Option (((List Int) × Int) ⊕ ((List Int))) :=
 some (.inl (data65, (w64 (blockSize46 * (2 : Int)))))
def Zc_J4 (n3 : Int) (q7 : (List Int)) (blockSize46 : Int) (data60 : (List Int)) (a61 : Int) : Option (((List Int) × Int) ⊕ ((List Int))) :=
 if (decide ((w64 (a61 + blockSize46)) < n3)) = true then (
 (Z1 data60 a61 (w64 (a61 + blockSize46)) n3 q7).bind fun (r63 : (List Int)) =>
 Zc_J5 blockSize46 r63)
 else (
 Zc_J5 blockSize46 data60)
def Zc_L3 (n3 : Int) (q7 : (List Int)) (blockSize46 : Int) (data51 : (List Int)) (a52 : Int) (b53 : Int) : Option (((List Int) × Int × Int) ⊕ ((List Int) × Int)) :=
 if (decide (b53 ≤ n3)) = true then (
 (Z1 data51 a52 (w64 (a52 + blockSize46)) b53 q7).bind fun (r55 : (List Int)) =>
 some (.inl (r55, b53, (w64 (b53 + (w64 ((2 : Int) * blockSize46)))))))
 else (
 some (.inr (data51, a52)))
def Zc_L2 (n3 : Int) (q7 : (List Int)) (data45 : (List Int)) (blockSize46 : Int) : Option (((List Int) × Int) ⊕ ((List Int))) :=
 if (decide (blockSize46 < n3)) = true then (
 (loopM (fun s : (List Int) × Int × Int => Zc_L3 n3 q7 blockSize46 s.1 s.2.1 s.2.2) (data45, (0 : Int), (w64 ((2 : Int) * blockSize46)))).bind fun e => Zc_J4 n3 q7 blockSize46 e.1 e.2)
 else (
 some (.inr data45))
def Zc_J1 (n3 : Int) (q7 : (List Int)) (data22 : (List Int)) (a23 : Int) : Option ((List Int)) :=
 (Z0a data22 a23 n3 q7).bind fun (r24 : (List Int)) =>
 (loopM (fun s : (List Int) × Int => Zc_L2 n3 q7 s.1 s.2) (r24, (20 : Int))).bind fun e => some e
def Zc_L1 (n3 : Int) (q7 : (List Int)) (data13 : (List Int)) (a14 : Int) (b15 : Int) : Option (((List Int) × Int × Int) ⊕ ((List Int) × Int)) :=
 if (decide (b15 ≤ n3)) = true then (
 (Z0a data13 a14 b15 q7).bind fun (r17 : (List Int)) =>
 some (.inl (r17, b15, (w64 (b15 + (20 : Int))))))
 else (
 some (.inr (data13, a14)))
def Zc (data1 : (List Int)) (n3 : Int) (q7 : (List Int)) : Option ((List Int)) :=
 (loopM (fun s : (List Int) × Int × Int => Zc_L1 n3 q7 s.1 s.2.1 s.2.2) (data1, (0 : Int), (20 : Int))).bind fun e => Zc_J1 n3 q7 e.1 e.2
def Z1c (p1 : (List Int)) (q6 : (List Int)) : Option ((List Int)) :=
 (Zc p1 (p1.length : Int) q6).bind fun (r9 : (List Int)) =>
 some r9
def Z02_J1 (list1 : (List Int)) (x22 : (List Int)) : Option ((List Int)) :=
 (Z1c x22 list1).bind fun (r23 : (List Int)) =>
 some r23
def Z02_L1 (list1 : (List Int)) (x14 : (List Int)) (x15 : Int) : Option (((List Int) × Int) ⊕ ((List Int))) :=
 if (decide (x15 < ((List.replicate (list1.length : Int).toNat (0 : Int)).length : Int))) = true then (
 if (0 ≤ x15 ∧ x15 < ((List.replicate (list1.length : Int).toNat (0 : Int)).length : Int)) then
 some (.inl ((x14.set x15.toNat x15), (w64 (x15 + (1 : Int)))))
 else none)
 else (
 some (.inr x14))
def Z02 (list1 : (List Int)) : Option ((List Int)) :=
 if (0 ≤ (list1.length : Int) ∧ (list1.length : Int) ≤ 140737488355328 ∧ 8 * (list1.length : Int) ≤ 281474976710656) then
 (loopM (fun s : (List Int) × Int => Z02_L1 list1 s.1 s.2) ((List.replicate (list1.length : Int).toNat (0 : Int)), (0 : Int))).bind fun e => Z02_J1 list1 e
 else none
def Z7_J4 (x73 : (List Int)) : Option ((List Int)) :=
 some x73
def Z7_L2 (c1 : Choice) (x12 : (List Int)) (order20 : (List Int)) (sum40 : Int) (x56 : (List Int)) (x57 : Int) (x58 : Int) : Option (((List Int) × Int × Int) ⊕ ((List Int))) :=
 if (decide (x58 < (order20.length : Int))) = true then (
 if (0 ≤ x58 ∧ x58 < (order20.length : Int)) then
 if (0 ≤ (ix order20 x58) ∧ (ix order20 x58) < (x12.length : Int)) then
 if (0 ≤ (ix order20 x58) ∧ (ix order20 x58) < ((List.replicate (x12.length : Int).toNat (0 : Int)).length : Int)) then
 if (decide ((w64 ((w64 (x57 + (ix x12 (ix order20 x58)))) * (65536 : Int))) ≥ (w64 (c1.Mass * sum40)))) = true then (
 some (.inr (x56.set (ix order20 x58).toNat (ix x12 (ix order20 x58)))))
 else (
 some (.inl ((x56.set (ix order20 x58).toNat (ix x12 (ix order20 x58))), (w64 (x57 + (ix x12 (ix order20 x58)))), (w64 (x58 + (1 : Int))))))
 else none
 else none
 else none)
 else (
 some (.inr x56))
def Z7_J3 (c1 : Choice) (x12 : (List Int)) (order20 : (List Int)) (sum40 : Int) : Option ((List Int)) :=
 if (0 ≤ (x12.length : Int) ∧ (x12.length : Int) ≤ 140737488355328 ∧ 8 * (x12.length : Int) ≤ 281474976710656) then
 (loopM (fun s : (List Int) × Int × Int => Z7_L2 c1 x12 order20 sum40 s.1 s.2.1 s.2.2) ((List.replicate (x12.length : Int).toNat (0 : Int)), (0 : Int), (0 : Int))).bind fun e => Z7_J4 e
 else none
def Z7_L1 (x12 : (List Int)) (order20 : (List Int)) (sum29 : Int) (x30 : Int) : Option ((Int × Int) ⊕ (Int)) :=
 if (decide (x30 < (order20.length : Int))) = true then (
 if (0 ≤ x30 ∧ x30 < (order20.length : Int)) then
 if (0 ≤ (ix order20 x30) ∧ (ix order20 x30) < (x12.length : Int)) then
 some (.inl ((w64 (sum29 + (ix x12 (ix order20 x30)))), (w64 (x30 + (1 : Int)))))
 else none
 else none)
 else (
 some (.inr sum29))
def Z7_J2 (c1 : Choice) (x12 : (List Int)) (order20 : (List Int)) : Option ((List Int)) :=
 (loopM (fun s : Int × Int => Z7_L1 x12 order20 s.1 s.2) ((0 : Int), (0 : Int))).bind fun e => Z7_J3 c1 x12 order20 e
def Z7_J1 (c1 : Choice) (x12 : (List Int)) : Option ((List Int)) :=
 (Z02 x12).bind fun (r14 : (List Int)) =>
 if (decide (c1.Cut > (0 : Int))) = true then (
 if (0 ≤ (0 : Int) ∧ (0 : Int) ≤ (if (r14.length : Int) < c1.Cut then (r14.length : Int) else c1.Cut) ∧ (if (r14.length : Int) < c1.Cut then (r14.length : Int) else c1.Cut) ≤ (r14.length : Int)) then
 Z7_J2 c1 x12 (sub r14 (0 : Int) (if (r14.length : Int) < c1.Cut then (r14.length : Int) else c1.Cut))
 else none)
 else (
 Z7_J2 c1 x12 r14)
def Z7 (c1 : Choice) (weights2 : (List Int)) : Option ((List Int)) :=
 (Z0h weights2).bind fun (r5 : (List Int)) =>
 if (c1.Power == (2 : Int)) = true then (
 (Z0b r5).bind fun (r9 : (List Int)) =>
 Z7_J1 c1 r9)
 else (
 Z7_J1 c1 r5)
def Z18 (p1 : Int) (n2 : Int) : Option (Int × Int) :=
 (Z0i p1).bind fun (r3 : Bool) =>
 (gcall (!(!r3)) (Zx n2 (1 : Int) (2147483648 : Int))).bind fun (r5 : Bool) =>
 if ((!r3) || (!r5)) = true then (
 some ((0 : Int), p1))
 else (
 (Z12 p1).bind fun (r9 : Int) =>
 some (((w64 (r9 * n2)) / 2 ^ (32 : Int).toNat), r9))
def Zp_J1 : Option (Int) :=
 some (-1 : Int)
def Zp_L1 (weights1 : (List Int)) (r3 : Int) (sum14 : Int) (x15 : Int) : Option ((Int × Int) ⊕ ((Int) ⊕ (Unit))) :=
 if (decide (x15 < (weights1.length : Int))) = true then (
 if (0 ≤ x15 ∧ x15 < (weights1.length : Int)) then
 if (decide ((w64 (sum14 + (ix weights1 x15))) > r3)) = true then (
 some (.inr (.inl x15)))
 else (
 some (.inl ((w64 (sum14 + (ix weights1 x15))), (w64 (x15 + (1 : Int))))))
 else none)
 else (
 some (.inr (.inr ())))
def Zp (weights1 : (List Int)) (r3 : Int) : Option (Int) :=
 (gcall (!(decide ((weights1.length : Int) > (64 : Int)))) (Zw weights1 (0 : Int) (1048576 : Int))).bind fun (r4 : Bool) =>
 if (((decide ((weights1.length : Int) > (64 : Int))) || (!r4)) || (decide (r3 < (0 : Int)))) = true then (
 some (-1 : Int))
 else (
 (loopM (fun s : Int × Int => Zp_L1 weights1 r3 s.1 s.2) ((0 : Int), (0 : Int))).bind fun e => match e with
 | .inl e => some e
 | .inr e => Zp_J1)
def Ze_J1 (t1 : talker) (i7 : Int) (r11 : (List Int)) (sum26 : Int) : Option (Int) :=
 if (0 ≤ i7 ∧ i7 < (t1.states.length : Int)) then
 (Z18 (ix t1.states i7) sum26).bind fun (r30 : Int × Int) =>
 (Zp r11 r30.1).bind fun (r32 : Int) =>
 some r32
 else none
def Ze_L1 (r11 : (List Int)) (sum18 : Int) (x19 : Int) : Option ((Int × Int) ⊕ (Int)) :=
 if (decide (x19 < (r11.length : Int))) = true then (
 if (0 ≤ x19 ∧ x19 < (r11.length : Int)) then
 some (.inl ((w64 (sum18 + (ix r11 x19))), (w64 (x19 + (1 : Int)))))
 else none)
 else (
 some (.inr sum18))
def Ze (t1 : talker) (history5 : (List Int)) (i7 : Int) : Option (Int) :=
 (Zu t1.rows history5).bind fun (r8 : (List Int)) =>
 (Z7 t1.choice r8).bind fun (r11 : (List Int)) =>
 (loopM (fun s : Int × Int => Ze_L1 r11 s.1 s.2) ((0 : Int), (0 : Int))).bind fun e => Ze_J1 t1 i7 r11 e
def Z5_J5 (prompt6 : (List Int)) (all193 : (List Int)) (passes195 : Int) : Option ((List Int) × Int) :=
 if (0 ≤ (prompt6.length : Int) ∧ (prompt6.length : Int) ≤ (all193.length : Int) ∧ (all193.length : Int) ≤ (all193.length : Int)) then
 (Z0h (sub all193 (prompt6.length : Int) (all193.length : Int))).bind fun (r198 : (List Int)) =>
 some (r198, passes195)
 else none
def Z5_J4 (prompt6 : (List Int)) (n8 : Int) (r31 : talker) (passes118 : Int) (all176 : (List Int)) (agreed178 : Bool) : Option (((List Int) × Int) ⊕ ((List Int) × Int)) :=
 (gcall agreed178 (Z0m all176 prompt6)).bind fun (r179 : Int) =>
 if (agreed178 && (decide (r179 < n8))) = true then (
 (Z0m all176 prompt6).bind fun (r183 : Int) =>
 (Ze r31 all176 r183).bind fun (r185 : Int) =>
 if all176.length + ([r185] : List Int).length ≤ 17592186044416 then
 some (.inl ((all176 ++ ([r185] : List Int)), (w64 (passes118 + (1 : Int)))))
 else none)
 else (
 some (.inl (all176, (w64 (passes118 + (1 : Int))))))
def Z5_L3 (prompt6 : (List Int)) (r31 : talker) (guess145 : (List Int)) (all158 : (List Int)) (agreed160 : Bool) : Option (((List Int) × Bool) ⊕ ((List Int) × Bool)) :=
 if (agreed160 && (decide ((all158.length : Int) < (guess145.length : Int)))) = true then (
 (Z0m all158 prompt6).bind fun (r163 : Int) =>
 (Ze r31 all158 r163).bind fun (r165 : Int) =>
 if (0 ≤ (all158.length : Int) ∧ (all158.length : Int) < (guess145.length : Int)) then
 if all158.length + ([r165] : List Int).length ≤ 17592186044416 then
 some (.inl ((all158 ++ ([r165] : List Int)), (r165 == (ix guess145 (all158.length : Int)))))
 else none
 else none)
 else (
 some (.inr (all158, agreed160)))
def Z5_J3 (prompt6 : (List Int)) (n8 : Int) (r31 : talker) (all116 : (List Int)) (passes118 : Int) (guess145 : (List Int)) : Option (((List Int) × Int) ⊕ ((List Int) × Int)) :=
 (loopM (fun s : (List Int) × Bool => Z5_L3 prompt6 r31 guess145 s.1 s.2) (all116, true)).bind fun e => Z5_J4 prompt6 n8 r31 passes118 e.1 e.2
def Z5_L2 (prompt6 : (List Int)) (n8 : Int) (ahead10 : Int) (r36 : talker) (r125 : Int) (guess133 : (List Int)) (x135 : Int) : Option (((List Int) × Int) ⊕ ((List Int))) :=
 if (decide (x135 < (if (w64 (n8 - r125)) < ahead10 then (w64 (n8 - r125)) else ahead10))) = true then (
 (Ze r36 guess133 (w64 ((guess133.length : Int) - (prompt6.length : Int)))).bind fun (r137 : Int) =>
 if guess133.length + ([r137] : List Int).length ≤ 17592186044416 then
 some (.inl ((guess133 ++ ([r137] : List Int)), (w64 (x135 + (1 : Int)))))
 else none)
 else (
 some (.inr guess133))
def Z5_L1 (prompt6 : (List Int)) (n8 : Int) (ahead10 : Int) (r31 : talker) (r36 : talker) (all116 : (List Int)) (passes118 : Int) : Option (((List Int) × Int) ⊕ ((List Int) × Int)) :=
 (Z0m all116 prompt6).bind fun (r119 : Int) =>
 if (decide (r119 < n8)) = true then (
 (Z0h all116).bind fun (r122 : (List Int)) =>
 (Z0m all116 prompt6).bind fun (r125 : Int) =>
 (loopM (fun s : (List Int) × Int => Z5_L2 prompt6 n8 ahead10 r36 r125 s.1 s.2) (r122, (0 : Int))).bind fun e => Z5_J3 prompt6 n8 r31 all116 passes118 e)
 else (
 some (.inr (all116, passes118)))
def Z5 (m1 : Lm) (draft3 : Lm) (c5 : Choice) (prompt6 : (List Int)) (n8 : Int) (seed9 : Int) (ahead10 : Int) : Option ((List Int) × Int) :=
 (Z0z m1 prompt6 n8).bind fun (r15 : Bool) =>
 (gcall (!(!r15)) (Z15 c5)).bind fun (r17 : Bool) =>
 (gcall (!((!r15) || (!r17))) (Z0i seed9)).bind fun (r19 : Bool) =>
 (gcall (!(((!r15) || (!r17)) || (!r19))) (Zt draft3)).bind fun (r21 : Bool) =>
 (gcall (!(((((!r15) || (!r17)) || (!r19)) || (!r21)) || (draft3.Size != m1.Size))) (Zx ahead10 (1 : Int) (50 : Int))).bind fun (r23 : Bool) =>
 if ((((((!r15) || (!r17)) || (!r19)) || (!r21)) || (draft3.Size != m1.Size)) || (!r23)) = true then (
 some (([] : List Int), (0 : Int)))
 else (
 (Zs m1 c5 n8 seed9).bind fun (r31 : talker) =>
 (Zs draft3 c5 n8 seed9).bind fun (r36 : talker) =>
 (Z0h prompt6).bind fun (r41 : (List Int)) =>
 (loopM (fun s : (List Int) × Int => Z5_L1 prompt6 n8 ahead10 r31 r36 s.1 s.2) (r41, (0 : Int))).bind fun e => Z5_J5 prompt6 e.1 e.2)
def Z04_J1 (prompt4 : (List Int)) (all45 : (List Int)) : Option ((List Int)) :=
 if (0 ≤ (prompt4.length : Int) ∧ (prompt4.length : Int) ≤ (all45.length : Int) ∧ (all45.length : Int) ≤ (all45.length : Int)) then
 (Z0h (sub all45 (prompt4.length : Int) (all45.length : Int))).bind fun (r49 : (List Int)) =>
 some r49
 else none
def Z04_L1 (n6 : Int) (r19 : talker) (all33 : (List Int)) (x35 : Int) : Option (((List Int) × Int) ⊕ ((List Int))) :=
 if (decide (x35 < n6)) = true then (
 (Ze r19 all33 x35).bind fun (r37 : Int) =>
 if all33.length + ([r37] : List Int).length ≤ 17592186044416 then
 some (.inl ((all33 ++ ([r37] : List Int)), (w64 (x35 + (1 : Int)))))
 else none)
 else (
 some (.inr all33))
def Z04 (m1 : Lm) (c3 : Choice) (prompt4 : (List Int)) (n6 : Int) (seed7 : Int) : Option ((List Int)) :=
 (Z0z m1 prompt4 n6).bind fun (r10 : Bool) =>
 (gcall (!(!r10)) (Z15 c3)).bind fun (r12 : Bool) =>
 (gcall (!((!r10) || (!r12))) (Z0i seed7)).bind fun (r14 : Bool) =>
 if (((!r10) || (!r12)) || (!r14)) = true then (
 some ([] : List Int))
 else (
 (Zs m1 c3 n6 seed7).bind fun (r19 : talker) =>
 (Z0h prompt4).bind fun (r24 : (List Int)) =>
 (loopM (fun s : (List Int) × Int => Z04_L1 n6 r19 s.1 s.2) (r24, (0 : Int))).bind fun e => Z04_J1 prompt4 e)
def Zf (p1 : Int) (low2 : Int) (high3 : Int) : Option (Bool) :=
 some ((decide (p1 ≥ low2)) && (decide (p1 ≤ high3)))
def Z08_J1 : Option (Bool) :=
 some true
def Z08_L1 (list1 : (List Int)) (size3 : Int) (i11 : Int) : Option ((Int) ⊕ ((Bool) ⊕ (Unit))) :=
 if (decide (i11 < (list1.length : Int))) = true then (
 if (0 ≤ i11 ∧ i11 < (list1.length : Int)) then
 (Zf (ix list1 i11) (0 : Int) (w64 (size3 - (1 : Int)))).bind fun (r16 : Bool) =>
 if (!r16) = true then (
 some (.inr (.inl false)))
 else (
 some (.inl (w64 (i11 + (1 : Int)))))
 else none)
 else (
 some (.inr (.inr ())))
def Z08 (list1 : (List Int)) (size3 : Int) : Option (Bool) :=
 (loopM (fun s : Int => Z08_L1 list1 size3 s) (0 : Int)).bind fun e => match e with
 | .inl e => some e
 | .inr e => Z08_J1
def Zy_J1 (x15 : Int) : Option (Int) :=
 some x15
def Zy_L1 (p1 : (List Int)) (x7 : Int) (i8 : Int) : Option ((Int × Int) ⊕ (Int)) :=
 if (decide (i8 < (p1.length : Int))) = true then (
 if (0 ≤ i8 ∧ i8 < (p1.length : Int)) then
 some (.inl ((w64 (x7 + (ix p1 i8))), (w64 (i8 + (1 : Int)))))
 else none)
 else (
 some (.inr x7))
def Zy (p1 : (List Int)) : Option (Int) :=
 (loopM (fun s : Int × Int => Zy_L1 p1 s.1 s.2) ((0 : Int), (0 : Int))).bind fun e => Zy_J1 e
def Zz_J1 (p1 : (List Int)) : Option (Bool) :=
 (Zy p1).bind fun (r19 : Int) =>
 some (decide (r19 > (0 : Int)))
def Zz_L1 (p1 : (List Int)) (i10 : Int) : Option ((Int) ⊕ ((Bool) ⊕ (Unit))) :=
 if (decide (i10 < (p1.length : Int))) = true then (
 if (0 ≤ i10 ∧ i10 < (p1.length : Int)) then
 (Zf (ix p1 i10) (0 : Int) (1000 : Int)).bind fun (r15 : Bool) =>
 if (!r15) = true then (
 some (.inr (.inl false)))
 else (
 some (.inl (w64 (i10 + (1 : Int)))))
 else none)
 else (
 some (.inr (.inr ())))
def Zz (p1 : (List Int)) : Option (Bool) :=
 (loopM (fun s : Int => Zz_L1 p1 s) (0 : Int)).bind fun e => match e with
 | .inl e => some e
 | .inr e => Zz_J1 p1
def Zd_J3 (empty74 : Bool) : Option (Bool) :=
 some empty74
def Zd_J2 (m1 : Lm) (empty38 : Bool) (i39 : Int) : Option ((Bool × Int) ⊕ ((Bool) ⊕ (Bool))) :=
 some (.inl ((empty38 || ((((ix m1.Rows i39).Key).length : Int) == (0 : Int))), (w64 (i39 + (1 : Int)))))
def Zd_L2 (m1 : Lm) (i39 : Int) (k62 : Int) : Option ((Int) ⊕ ((Bool) ⊕ (Unit))) :=
 if (decide (k62 < i39)) = true then (
 if (0 ≤ k62 ∧ k62 < (m1.Rows.length : Int)) then
 (Zo ((ix m1.Rows k62).Key) ((ix m1.Rows i39).Key)).bind fun (r67 : Bool) =>
 if r67 = true then (
 some (.inr (.inl false)))
 else (
 some (.inl (w64 (k62 + (1 : Int)))))
 else none)
 else (
 some (.inr (.inr ())))
def Zd_L1 (m1 : Lm) (empty38 : Bool) (i39 : Int) : Option ((Bool × Int) ⊕ ((Bool) ⊕ (Bool))) :=
 if (decide (i39 < (m1.Rows.length : Int))) = true then (
 if (0 ≤ i39 ∧ i39 < (m1.Rows.length : Int)) then
 (gcall (!(decide ((((ix m1.Rows i39).Key).length : Int) > (4 : Int)))) (Z08 ((ix m1.Rows i39).Key) m1.Size)).bind fun (r47 : Bool) =>
 (gcall (!(((decide ((((ix m1.Rows i39).Key).length : Int) > (4 : Int))) || (!r47)) || ((((ix m1.Rows i39).Weights).length : Int) != m1.Size))) (Zz ((ix m1.Rows i39).Weights))).bind fun (r49 : Bool) =>
 if ((((decide ((((ix m1.Rows i39).Key).length : Int) > (4 : Int))) || (!r47)) || ((((ix m1.Rows i39).Weights).length : Int) != m1.Size)) || (!r49)) = true then (
 some (.inr (.inl false)))
 else (
 (loopM (fun s : Int => Zd_L2 m1 i39 s) (0 : Int)).bind fun e => match e with
 | .inl e => some (.inr (.inl e))
 | .inr e => Zd_J2 m1 empty38 i39)
 else none)
 else (
 some (.inr (.inr empty38)))
def Zd (m1 : Lm) : Option (Bool) :=
 (Zf m1.Size (1 : Int) (64 : Int)).bind fun (r4 : Bool) =>
 if ((!r4) || (decide ((m1.Rows.length : Int) > (500 : Int)))) = true then (
 some false)
 else (
 (loopM (fun s : Bool × Int => Zd_L1 m1 s.1 s.2) (false, (0 : Int))).bind fun e => match e with
 | .inl e => some e
 | .inr e => Zd_J3 e)
def Z0x (m1 : Lm) (prompt3 : (List Int)) (n5 : Int) : Option (Bool) :=
 (Zd m1).bind fun (r7 : Bool) =>
 (gcall (r7 && (decide ((prompt3.length : Int) ≤ (1700 : Int)))) (Z08 prompt3 m1.Size)).bind fun (r9 : Bool) =>
 (gcall ((r7 && (decide ((prompt3.length : Int) ≤ (1700 : Int)))) && r9) (Zf n5 (0 : Int) (300 : Int))).bind fun (r11 : Bool) =>
 some (((r7 && (decide ((prompt3.length : Int) ≤ (1700 : Int)))) && r9) && r11)
def Z0o (c1 : Choice) : Option (Bool) :=
 (Zf c1.Power (1 : Int) (2 : Int)).bind fun (r3 : Bool) =>
 (gcall r3 (Zf c1.Cut (0 : Int) (64 : Int))).bind fun (r5 : Bool) =>
 (gcall (r3 && r5) (Zf c1.Mass (1 : Int) (65536 : Int))).bind fun (r7 : Bool) =>
 some ((r3 && r5) && r7)
def Z0j (p1 : Int) : Option (Bool) :=
 some ((decide (p1 ≥ (0 : Int))) && (decide (p1 < (4294967296 : Int))))
def Z0v (a1 : (List Int)) : Option ((List Int)) :=
 if ([] : List Int).length + a1.length ≤ 17592186044416 then
 some (([] : List Int) ++ a1)
 else none
def Z11 (p1 : Int) : Option (Int) :=
 (Z0j p1).bind fun (r2 : Bool) =>
 if (!r2) = true then (
 some (0 : Int))
 else (
 some (bits .and .i64 (w64 ((w64 ((1664525 : Int) * p1)) + (1013904223 : Int))) (4294967295 : Int)))
def Z0y (list1 : (List Int)) (key3 : (List Int)) : Option (Bool) :=
 if (decide ((w64 ((list1.length : Int) - (key3.length : Int))) ≥ (0 : Int))) = true → (0 ≤ (w64 ((list1.length : Int) - (key3.length : Int))) ∧ (w64 ((list1.length : Int) - (key3.length : Int))) ≤ (list1.length : Int) ∧ (list1.length : Int) ≤ (list1.length : Int)) then
 (gcall (decide ((w64 ((list1.length : Int) - (key3.length : Int))) ≥ (0 : Int))) (Zo (sub list1 (w64 ((list1.length : Int) - (key3.length : Int))) (list1.length : Int)) key3)).bind fun (r7 : Bool) =>
 some ((decide ((w64 ((list1.length : Int) - (key3.length : Int))) ≥ (0 : Int))) && r7)
 else none
def Zj_J3 (m1 : Lm) (best40 : Int) : Option ((List Int)) :=
 if (0 ≤ best40 ∧ best40 < (m1.Rows.length : Int)) then
 some ((ix m1.Rows best40).Weights)
 else none
def Zj_J2 (i22 : Int) (best37 : Int) : Option ((Int × Int) ⊕ (Int)) :=
 some (.inl (best37, (w64 (i22 + (1 : Int)))))
def Zj_L1 (m1 : Lm) (history3 : (List Int)) (best21 : Int) (i22 : Int) : Option ((Int × Int) ⊕ (Int)) :=
 if (decide (i22 < (m1.Rows.length : Int))) = true then (
 if (0 ≤ i22 ∧ i22 < (m1.Rows.length : Int)) then
 (Z0y history3 ((ix m1.Rows i22).Key)).bind fun (r29 : Bool) =>
 if r29 = true → (decide (best21 < (0 : Int))) = false → (0 ≤ best21 ∧ best21 < (m1.Rows.length : Int)) then
 if (r29 && ((decide (best21 < (0 : Int))) || (decide ((((ix m1.Rows i22).Key).length : Int) > (((ix m1.Rows best21).Key).length : Int))))) = true then (
 Zj_J2 i22 i22)
 else (
 Zj_J2 i22 best21)
 else none
 else none)
 else (
 some (.inr best21))
def Zj (m1 : Lm) (history3 : (List Int)) : Option ((List Int)) :=
 (loopM (fun s : Int × Int => Zj_L1 m1 history3 s.1 s.2) ((-1 : Int), (0 : Int))).bind fun e => Zj_J3 m1 e
def Zl_J3 (x33 : Int) : Option (Int) :=
 some x33
def Zl_J2 (i18 : Int) (x30 : Int) : Option ((Int × Int) ⊕ (Int)) :=
 some (.inl (x30, (w64 (i18 + (1 : Int)))))
def Zl_L1 (p1 : (List Int)) (taken3 : (List Bool)) (x17 : Int) (i18 : Int) : Option ((Int × Int) ⊕ (Int)) :=
 if (decide (i18 < (p1.length : Int))) = true then (
 if (0 ≤ i18 ∧ i18 < (taken3.length : Int)) then
 if (!(ix taken3 i18)) = true → (decide (x17 < (0 : Int))) = false → (0 ≤ i18 ∧ i18 < (p1.length : Int)) then
 if (!(ix taken3 i18)) = true → (decide (x17 < (0 : Int))) = false → (0 ≤ x17 ∧ x17 < (p1.length : Int)) then
 if ((!(ix taken3 i18)) && ((decide (x17 < (0 : Int))) || (decide ((ix p1 i18) > (ix p1 x17))))) = true then (
 Zl_J2 i18 i18)
 else (
 Zl_J2 i18 x17)
 else none
 else none
 else none)
 else (
 some (.inr x17))
def Zl (p1 : (List Int)) (taken3 : (List Bool)) : Option (Int) :=
 (loopM (fun s : Int × Int => Zl_L1 p1 taken3 s.1 s.2) ((-1 : Int), (0 : Int))).bind fun e => Zl_J3 e
def Z4_J6 (x132 : (List Int)) : Option ((List Int)) :=
 some x132
def Z4_L4 (c1 : Choice) (x40 : (List Int)) (order77 : (List Int)) (x97 : Int) (x113 : (List Int)) (sum114 : Int) (i115 : Int) : Option (((List Int) × Int × Int) ⊕ ((List Int))) :=
 if ((decide (i115 < (order77.length : Int))) && (decide ((w64 (sum114 * (65536 : Int))) < (w64 (c1.Mass * x97))))) = true then (
 if (0 ≤ i115 ∧ i115 < (order77.length : Int)) then
 if (0 ≤ (ix order77 i115) ∧ (ix order77 i115) < (x40.length : Int)) then
 if (0 ≤ (ix order77 i115) ∧ (ix order77 i115) < ((List.replicate (x40.length : Int).toNat (0 : Int)).length : Int)) then
 (nm (x113.set (ix order77 i115).toNat (ix x40 (ix order77 i115)))).bind fun (l127 : (List Int)) =>
 some (.inl (l127, (w64 (sum114 + (ix x40 (ix order77 i115)))), (w64 (i115 + (1 : Int)))))
 else none
 else none
 else none)
 else (
 some (.inr x113))
def Z4_J5 (c1 : Choice) (x40 : (List Int)) (order77 : (List Int)) (x97 : Int) : Option ((List Int)) :=
 if (0 ≤ (x40.length : Int) ∧ (x40.length : Int) ≤ 140737488355328 ∧ 8 * (x40.length : Int) ≤ 281474976710656) then
 (loopM (fun s : (List Int) × Int × Int => Z4_L4 c1 x40 order77 x97 s.1 s.2.1 s.2.2) ((List.replicate (x40.length : Int).toNat (0 : Int)), (0 : Int), (0 : Int))).bind fun e => Z4_J6 e
 else none
def Z4_L3 (x40 : (List Int)) (order77 : (List Int)) (x86 : Int) (i87 : Int) : Option ((Int × Int) ⊕ (Int)) :=
 if (decide (i87 < (order77.length : Int))) = true then (
 if (0 ≤ i87 ∧ i87 < (order77.length : Int)) then
 if (0 ≤ (ix order77 i87) ∧ (ix order77 i87) < (x40.length : Int)) then
 some (.inl ((w64 (x86 + (ix x40 (ix order77 i87)))), (w64 (i87 + (1 : Int)))))
 else none
 else none)
 else (
 some (.inr x86))
def Z4_J4 (c1 : Choice) (x40 : (List Int)) (order77 : (List Int)) : Option ((List Int)) :=
 (loopM (fun s : Int × Int => Z4_L3 x40 order77 s.1 s.2) ((0 : Int), (0 : Int))).bind fun e => Z4_J5 c1 x40 order77 e
def Z4_L2 (c1 : Choice) (x40 : (List Int)) (order58 : (List Int)) (taken60 : (List Bool)) (n61 : Int) : Option (((List Int) × (List Bool) × Int) ⊕ ((List Int))) :=
 if ((decide (n61 < (x40.length : Int))) && ((c1.Cut == (0 : Int)) || (decide (n61 < c1.Cut)))) = true then (
 (Zl x40 taken60).bind fun (r65 : Int) =>
 if (0 ≤ r65 ∧ r65 < ((List.replicate (x40.length : Int).toNat false).length : Int)) then
 if order58.length + ([r65] : List Int).length ≤ 17592186044416 then
 some (.inl ((order58 ++ ([r65] : List Int)), (taken60.set r65.toNat true), (w64 (n61 + (1 : Int)))))
 else none
 else none)
 else (
 some (.inr order58))
def Z4_J3 (c1 : Choice) (x40 : (List Int)) : Option ((List Int)) :=
 if (0 ≤ (x40.length : Int) ∧ (x40.length : Int) ≤ 140737488355328 ∧ 1 * (x40.length : Int) ≤ 281474976710656) then
 (loopM (fun s : (List Int) × (List Bool) × Int => Z4_L2 c1 x40 s.1 s.2.1 s.2.2) (([] : List Int), (List.replicate (x40.length : Int).toNat false), (0 : Int))).bind fun e => Z4_J4 c1 x40 e
 else none
def Z4_J2 (x24 : (List Int)) (i26 : Int) (x32 : Int) : Option (((List Int) × Int) ⊕ ((List Int))) :=
 if x24.length + ([x32] : List Int).length ≤ 17592186044416 then
 some (.inl ((x24 ++ ([x32] : List Int)), (w64 (i26 + (1 : Int)))))
 else none
def Z4_L1 (c1 : Choice) (weights2 : (List Int)) (x24 : (List Int)) (i26 : Int) : Option (((List Int) × Int) ⊕ ((List Int))) :=
 if (decide (i26 < (weights2.length : Int))) = true then (
 if (0 ≤ i26 ∧ i26 < (weights2.length : Int)) then
 if (c1.Power == (2 : Int)) = true then (
 Z4_J2 x24 i26 (w64 ((ix weights2 i26) * (ix weights2 i26))))
 else (
 Z4_J2 x24 i26 (ix weights2 i26))
 else none)
 else (
 some (.inr x24))
def Z4 (c1 : Choice) (weights2 : (List Int)) : Option ((List Int)) :=
 (Z0o c1).bind fun (r6 : Bool) =>
 (gcall (!((!r6) || (decide ((weights2.length : Int) > (64 : Int))))) (Zz weights2)).bind fun (r8 : Bool) =>
 if (((!r6) || (decide ((weights2.length : Int) > (64 : Int)))) || (!r8)) = true then (
 some ([] : List Int))
 else (
 (loopM (fun s : (List Int) × Int => Z4_L1 c1 weights2 s.1 s.2) (([] : List Int), (0 : Int))).bind fun e => Z4_J3 c1 e)
def Z17 (p1 : Int) (n2 : Int) : Option (Int × Int) :=
 (Z0j p1).bind fun (r3 : Bool) =>
 (gcall (!(!r3)) (Zf n2 (1 : Int) (2147483648 : Int))).bind fun (r5 : Bool) =>
 if ((!r3) || (!r5)) = true then (
 some ((0 : Int), p1))
 else (
 (Z11 p1).bind fun (r9 : Int) =>
 some (((w64 (r9 * n2)) / 2 ^ (32 : Int).toNat), r9))
def Zm_J2 : Option (Int) :=
 some (-1 : Int)
def Zm_L2 (weights1 : (List Int)) (r3 : Int) (sum27 : Int) (i28 : Int) : Option ((Int × Int) ⊕ ((Int) ⊕ (Unit))) :=
 if (decide (i28 < (weights1.length : Int))) = true then (
 if (0 ≤ i28 ∧ i28 < (weights1.length : Int)) then
 if (decide ((w64 (sum27 + (ix weights1 i28))) > r3)) = true then (
 some (.inr (.inl i28)))
 else (
 some (.inl ((w64 (sum27 + (ix weights1 i28))), (w64 (i28 + (1 : Int))))))
 else none)
 else (
 some (.inr (.inr ())))
def Zm_J1 (weights1 : (List Int)) (r3 : Int) : Option (Int) :=
 (loopM (fun s : Int × Int => Zm_L2 weights1 r3 s.1 s.2) ((0 : Int), (0 : Int))).bind fun e => match e with
 | .inl e => some e
 | .inr e => Zm_J2
def Zm_L1 (weights1 : (List Int)) (i13 : Int) : Option ((Int) ⊕ ((Int) ⊕ (Unit))) :=
 if (decide (i13 < (weights1.length : Int))) = true then (
 if (0 ≤ i13 ∧ i13 < (weights1.length : Int)) then
 (Zf (ix weights1 i13) (0 : Int) (1048576 : Int)).bind fun (r18 : Bool) =>
 if (!r18) = true then (
 some (.inr (.inl (-1 : Int))))
 else (
 some (.inl (w64 (i13 + (1 : Int)))))
 else none)
 else (
 some (.inr (.inr ())))
def Zm (weights1 : (List Int)) (r3 : Int) : Option (Int) :=
 if ((decide ((weights1.length : Int) > (64 : Int))) || (decide (r3 < (0 : Int)))) = true then (
 some (-1 : Int))
 else (
 (loopM (fun s : Int => Zm_L1 weights1 s) (0 : Int)).bind fun e => match e with
 | .inl e => some e
 | .inr e => Zm_J1 weights1 r3)
def Zg_J1 (m1 : Lm) (c3 : Choice) (history4 : (List Int)) (x20 : Int) : Option (Int) :=
 (Zj m1 history4).bind fun (r21 : (List Int)) =>
 (Z4 c3 r21).bind fun (r24 : (List Int)) =>
 (Zy r24).bind fun (r27 : Int) =>
 (Z17 x20 r27).bind fun (r29 : Int × Int) =>
 (Zm r24 r29.1).bind fun (r31 : Int) =>
 some r31
def Zg_L1 (i7 : Int) (x13 : Int) (k14 : Int) : Option ((Int × Int) ⊕ (Int)) :=
 if (decide (k14 < i7)) = true then (
 (Z11 x13).bind fun (r16 : Int) =>
 some (.inl (r16, (w64 (k14 + (1 : Int))))))
 else (
 some (.inr x13))
def Zg (m1 : Lm) (c3 : Choice) (history4 : (List Int)) (seed6 : Int) (i7 : Int) : Option (Int) :=
 (loopM (fun s : Int × Int => Zg_L1 i7 s.1 s.2) (seed6, (0 : Int))).bind fun e => Zg_J1 m1 c3 history4 e
def Z07_J1 (x51 : (List Int)) : Option ((List Int)) :=
 some x51
def Z07_L1 (m1 : Lm) (c3 : Choice) (n6 : Int) (seed7 : Int) (x32 : (List Int)) (all34 : (List Int)) (i36 : Int) : Option (((List Int) × (List Int) × Int) ⊕ ((List Int))) :=
 if (decide (i36 < n6)) = true then (
 (Zg m1 c3 all34 seed7 i36).bind fun (r38 : Int) =>
 if all34.length + ([r38] : List Int).length ≤ 17592186044416 then
 if x32.length + ([r38] : List Int).length ≤ 17592186044416 then
 some (.inl ((x32 ++ ([r38] : List Int)), (all34 ++ ([r38] : List Int)), (w64 (i36 + (1 : Int)))))
 else none
 else none)
 else (
 some (.inr x32))
def Z07 (m1 : Lm) (c3 : Choice) (prompt4 : (List Int)) (n6 : Int) (seed7 : Int) : Option ((List Int)) :=
 (Z0x m1 prompt4 n6).bind fun (r11 : Bool) =>
 (gcall (!(!r11)) (Z0o c3)).bind fun (r13 : Bool) =>
 (gcall (!((!r11) || (!r13))) (Z0j seed7)).bind fun (r15 : Bool) =>
 if (((!r11) || (!r13)) || (!r15)) = true then (
 some ([] : List Int))
 else (
 (Z0v prompt4).bind fun (r20 : (List Int)) =>
 (loopM (fun s : (List Int) × (List Int) × Int => Z07_L1 m1 c3 n6 seed7 s.1 s.2.1 s.2.2) (([] : List Int), r20, (0 : Int))).bind fun e => Z07_J1 e)
def Za_J3 (r31 : (List Int)) (passes128 : Int) : Option ((List Int) × Int) :=
 some (r31, passes128)
def Za_J2 (n8 : Int) (passes79 : Int) (x122 : Int) (same123 : Bool) : Option ((Int × Int) ⊕ (Int)) :=
 if (same123 && (decide (x122 < n8))) = true then (
 some (.inl ((w64 (passes79 + (1 : Int))), (w64 (x122 + (1 : Int))))))
 else (
 some (.inl ((w64 (passes79 + (1 : Int))), x122)))
def Za_L2 (draft3 : Lm) (c5 : Choice) (n8 : Int) (seed9 : Int) (ahead10 : Int) (r31 : (List Int)) (x101 : Int) (all102 : (List Int)) (k104 : Int) (same105 : Bool) : Option ((Int × (List Int) × Int × Bool) ⊕ (Int × Bool)) :=
 if (((decide (k104 < ahead10)) && (decide (x101 < n8))) && same105) = true then (
 (Zg draft3 c5 all102 seed9 x101).bind fun (r109 : Int) =>
 if (0 ≤ x101 ∧ x101 < (r31.length : Int)) then
 if all102.length + ([(ix r31 x101)] : List Int).length ≤ 17592186044416 then
 some (.inl ((w64 (x101 + (1 : Int))), (all102 ++ ([(ix r31 x101)] : List Int)), (w64 (k104 + (1 : Int))), (r109 == (ix r31 x101))))
 else none
 else none)
 else (
 some (.inr (x101, same105)))
def Za_L1 (draft3 : Lm) (c5 : Choice) (prompt6 : (List Int)) (n8 : Int) (seed9 : Int) (ahead10 : Int) (r31 : (List Int)) (passes79 : Int) (x80 : Int) : Option ((Int × Int) ⊕ (Int)) :=
 if (decide (x80 < n8)) = true then (
 (Z0v prompt6).bind fun (r82 : (List Int)) =>
 if (0 ≤ (0 : Int) ∧ (0 : Int) ≤ x80 ∧ x80 ≤ (r31.length : Int)) then
 if r82.length + (sub r31 (0 : Int) x80).length ≤ 17592186044416 then
 (loopM (fun s : Int × (List Int) × Int × Bool => Za_L2 draft3 c5 n8 seed9 ahead10 r31 s.1 s.2.1 s.2.2.1 s.2.2.2) (x80, (r82 ++ (sub r31 (0 : Int) x80)), (0 : Int), true)).bind fun e => Za_J2 n8 passes79 e.1 e.2
 else none
 else none)
 else (
 some (.inr passes79))
def Za (m1 : Lm) (draft3 : Lm) (c5 : Choice) (prompt6 : (List Int)) (n8 : Int) (seed9 : Int) (ahead10 : Int) : Option ((List Int) × Int) :=
 (Z0x m1 prompt6 n8).bind fun (r15 : Bool) =>
 (gcall (!(!r15)) (Z0o c5)).bind fun (r17 : Bool) =>
 (gcall (!((!r15) || (!r17))) (Z0j seed9)).bind fun (r19 : Bool) =>
 (gcall (!(((!r15) || (!r17)) || (!r19))) (Zd draft3)).bind fun (r21 : Bool) =>
 (gcall (!(((((!r15) || (!r17)) || (!r19)) || (!r21)) || (draft3.Size != m1.Size))) (Zf ahead10 (1 : Int) (50 : Int))).bind fun (r23 : Bool) =>
 if ((((((!r15) || (!r17)) || (!r19)) || (!r21)) || (draft3.Size != m1.Size)) || (!r23)) = true then (
 some (([] : List Int), (0 : Int)))
 else (
 (Z07 m1 c5 prompt6 n8 seed9).bind fun (r31 : (List Int)) =>
 (loopM (fun s : Int × Int => Za_L1 draft3 c5 prompt6 n8 seed9 ahead10 r31 s.1 s.2) ((0 : Int), (0 : Int))).bind fun e => Za_J3 r31 e)
def Z0f_J1 : Option (Bool) :=
 some true
def Z0f_L1 (a1 : (List Int)) (b3 : (List Int)) (i14 : Int) : Option ((Int) ⊕ ((Bool) ⊕ (Unit))) :=
 if (decide (i14 < (a1.length : Int))) = true then (
 if (0 ≤ i14 ∧ i14 < (a1.length : Int)) then
 if (0 ≤ i14 ∧ i14 < (b3.length : Int)) then
 if ((ix a1 i14) != (ix b3 i14)) = true then (
 some (.inr (.inl false)))
 else (
 some (.inl (w64 (i14 + (1 : Int)))))
 else none
 else none)
 else (
 some (.inr (.inr ())))
def Z0f (a1 : (List Int)) (b3 : (List Int)) : Option (Bool) :=
 if ((a1.length : Int) != (b3.length : Int)) = true then (
 some false)
 else (
 (loopM (fun s : Int => Z0f_L1 a1 b3 s) (0 : Int)).bind fun e => match e with
 | .inl e => some e
 | .inr e => Z0f_J1)
def Z1i (code1 : (List Int)) : Option (Bool) :=
 (Z1g code1).bind fun (r3 : Bool) =>
 if r3 = true then (
 some true)
 else (
 (Z0k code1).bind fun (r6 : Lm × Lm × Choice × (List Int) × Int × Int × Int) =>
 (Z5 (⟨(1 : Int), ([(⟨([] : List Int), ([(1 : Int)] : List Int)⟩ : Row)] : List Row)⟩ : Lm) (⟨(1 : Int), ([(⟨([] : List Int), ([(1 : Int)] : List Int)⟩ : Row)] : List Row)⟩ : Lm) (⟨(1 : Int), (0 : Int), (1 : Int)⟩ : Choice) ([] : List Int) (4 : Int) (0 : Int) (3 : Int)).bind fun (r18 : (List Int) × Int) =>
 if (((r18.1.length : Int) != (4 : Int)) || (r18.2 != (1 : Int))) = true then (
 some false)
 else (
 (Z04 r6.1 r6.2.2.1 r6.2.2.2.1 r6.2.2.2.2.1 r6.2.2.2.2.2.1).bind fun (r23 : (List Int)) =>
 (Z5 r6.1 r6.2.1 r6.2.2.1 r6.2.2.2.1 r6.2.2.2.2.1 r6.2.2.2.2.2.1 r6.2.2.2.2.2.2).bind fun (r26 : (List Int) × Int) =>
 (Za r6.1 r6.2.1 r6.2.2.1 r6.2.2.2.1 r6.2.2.2.2.1 r6.2.2.2.2.2.1 r6.2.2.2.2.2.2).bind fun (r29 : (List Int) × Int) =>
 if ((r26.1.length : Int) != (r29.1.length : Int)) = true then (
 some false)
 else (
 if ((r26.1.length : Int) == (0 : Int)) = true then (
 some (r26.2 == (0 : Int)))
 else (
 (Z5 r6.1 r6.1 r6.2.2.1 r6.2.2.2.1 r6.2.2.2.2.1 r6.2.2.2.2.2.1 r6.2.2.2.2.2.2).bind fun (r34 : (List Int) × Int) =>
 (Z0f r26.1 r23).bind fun (r37 : Bool) =>
 (gcall r37 (Z0f r34.1 r23)).bind fun (r39 : Bool) =>
 if ((r37 && r39) && (decide (r26.2 ≤ r6.2.2.2.2.1))) = true → (w64 (r6.2.2.2.2.2.2 + (1 : Int))) ≠ 0 then
 some (((r37 && r39) && (decide (r26.2 ≤ r6.2.2.2.2.1))) && (r34.2 == (w64 ((w64 (r6.2.2.2.2.1 + r6.2.2.2.2.2.2)).tdiv (w64 (r6.2.2.2.2.2.2 + (1 : Int)))))))
 else none))))
end
end Go.Proofs.Ytkfgngcfcoplpaa
