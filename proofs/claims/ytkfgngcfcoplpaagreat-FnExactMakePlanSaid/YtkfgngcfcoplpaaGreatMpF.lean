import Derived.Test.YtkfgngcfcoplpaaGreatMpH
set_option linter.unusedVariables false
namespace Go.Proofs.YtkfgngcfcoplpaaGreat
open Go Go.Pg
noncomputable section
def Z0w (a1 : (List Int)) (left3 : Int) : Option (Int) :=
 if (decide ((w64 (left3 - (a1.length : Int))) < (0 : Int))) = true then (
 some (-1 : Int))
 else (
 some (w64 (left3 - (a1.length : Int))))
def Z1h (a1 : Fix) (left3 : Int) : Option (Int) :=
 (Z0w a1.Data left3).bind fun (r5 : Int) =>
 if (decide (r5 < (0 : Int))) = true then (
 some (-1 : Int))
 else (
 some r5)
def Z0q_J1 (left25 : Int) : Option (Int) :=
 some left25
def Z0q_L1 (a1 : (List Fix)) (left13 : Int) (i14 : Int) : Option ((Int × Int) ⊕ ((Int) ⊕ (Int))) :=
 if (decide (i14 < (a1.length : Int))) = true then (
 if (0 ≤ i14 ∧ i14 < (a1.length : Int)) then
 (Z1h (ix a1 i14) left13).bind fun (r20 : Int) =>
 if (decide (r20 < (0 : Int))) = true then (
 some (.inr (.inl (-1 : Int))))
 else (
 some (.inl (r20, (w64 (i14 + (1 : Int))))))
 else none)
 else (
 some (.inr (.inr left13)))
def Z0q (a1 : (List Fix)) (left3 : Int) : Option (Int) :=
 if (decide ((w64 (left3 - (a1.length : Int))) < (0 : Int))) = true then (
 some (-1 : Int))
 else (
 (loopM (fun s : Int × Int => Z0q_L1 a1 s.1 s.2) ((w64 (left3 - (a1.length : Int))), (0 : Int))).bind fun e => match e with
 | .inl e => some e
 | .inr e => Z0q_J1 e)
def Z16 (a1 : Access) (left3 : Int) : Option (Int) :=
 (Z0w a1.Steps left3).bind fun (r5 : Int) =>
 if (decide (r5 < (0 : Int))) = true then (
 some (-1 : Int))
 else (
 some r5)
def Z0p_J1 (left25 : Int) : Option (Int) :=
 some left25
def Z0p_L1 (a1 : (List Access)) (left13 : Int) (i14 : Int) : Option ((Int × Int) ⊕ ((Int) ⊕ (Int))) :=
 if (decide (i14 < (a1.length : Int))) = true then (
 if (0 ≤ i14 ∧ i14 < (a1.length : Int)) then
 (Z16 (ix a1 i14) left13).bind fun (r20 : Int) =>
 if (decide (r20 < (0 : Int))) = true then (
 some (.inr (.inl (-1 : Int))))
 else (
 some (.inl (r20, (w64 (i14 + (1 : Int))))))
 else none)
 else (
 some (.inr (.inr left13)))
def Z0p (a1 : (List Access)) (left3 : Int) : Option (Int) :=
 if (decide ((w64 (left3 - (a1.length : Int))) < (0 : Int))) = true then (
 some (-1 : Int))
 else (
 (loopM (fun s : Int × Int => Z0p_L1 a1 s.1 s.2) ((w64 (left3 - (a1.length : Int))), (0 : Int))).bind fun e => match e with
 | .inl e => some e
 | .inr e => Z0p_J1 e)
def Z22 (a1 : (List Calc)) (left3 : Int) : Option (Int) :=
 if (decide ((w64 (left3 - (a1.length : Int))) < (0 : Int))) = true then (
 some (-1 : Int))
 else (
 some (w64 (left3 - (a1.length : Int))))
def Z1k (a1 : Kernel) (left6 : Int) : Option (Int) :=
 (Z0w a1.Loops left6).bind fun (r8 : Int) =>
 if (decide (r8 < (0 : Int))) = true then (
 some (-1 : Int))
 else (
 (Z0p a1.Loads r8).bind fun (r11 : Int) =>
 if (decide (r11 < (0 : Int))) = true then (
 some (-1 : Int))
 else (
 (Z16 a1.Store r11).bind fun (r14 : Int) =>
 if (decide (r14 < (0 : Int))) = true then (
 some (-1 : Int))
 else (
 (Z22 a1.Code r14).bind fun (r17 : Int) =>
 if (decide (r17 < (0 : Int))) = true then (
 some (-1 : Int))
 else (
 some r17))))
def Z0o_J1 (left31 : Int) : Option (Int) :=
 some left31
def Z0o_L1 (a1 : (List Kernel)) (left16 : Int) (i17 : Int) : Option ((Int × Int) ⊕ ((Int) ⊕ (Int))) :=
 if (decide (i17 < (a1.length : Int))) = true then (
 if (0 ≤ i17 ∧ i17 < (a1.length : Int)) then
 (Z1k (ix a1 i17) left16).bind fun (r26 : Int) =>
 if (decide (r26 < (0 : Int))) = true then (
 some (.inr (.inl (-1 : Int))))
 else (
 some (.inl (r26, (w64 (i17 + (1 : Int))))))
 else none)
 else (
 some (.inr (.inr left16)))
def Z0o (a1 : (List Kernel)) (left3 : Int) : Option (Int) :=
 if (decide ((w64 (left3 - (a1.length : Int))) < (0 : Int))) = true then (
 some (-1 : Int))
 else (
 (loopM (fun s : Int × Int => Z0o_L1 a1 s.1 s.2) ((w64 (left3 - (a1.length : Int))), (0 : Int))).bind fun e => match e with
 | .inl e => some e
 | .inr e => Z0o_J1 e)
def Z1s (a1 : Nest) (left7 : Int) : Option (Int) :=
 (Z0w a1.Sizes left7).bind fun (r9 : Int) =>
 if (decide (r9 < (0 : Int))) = true then (
 some (-1 : Int))
 else (
 (Z0w a1.Ins r9).bind fun (r12 : Int) =>
 if (decide (r12 < (0 : Int))) = true then (
 some (-1 : Int))
 else (
 (Z0q a1.Fixed r12).bind fun (r15 : Int) =>
 if (decide (r15 < (0 : Int))) = true then (
 some (-1 : Int))
 else (
 (Z0o a1.Kernels r15).bind fun (r18 : Int) =>
 if (decide (r18 < (0 : Int))) = true then (
 some (-1 : Int))
 else (
 (Z0w a1.Outs r18).bind fun (r21 : Int) =>
 if (decide (r21 < (0 : Int))) = true then (
 some (-1 : Int))
 else (
 some r21)))))
def Zl_J1 (x25 : (List Int)) : Option ((List Int)) :=
 some x25
def Zl_L1 (a1 : (List Int)) (x14 : (List Int)) (i15 : Int) : Option (((List Int) × Int) ⊕ ((List Int))) :=
 if (decide (i15 < (a1.length : Int))) = true then (
 if (0 ≤ i15 ∧ i15 < (a1.length : Int)) then
 if (0 ≤ i15 ∧ i15 < ((List.replicate (a1.length : Int).toNat (0 : Int)).length : Int)) then
 some (.inl ((x14.set i15.toNat (ix a1 i15)), (w64 (i15 + (1 : Int)))))
 else none
 else none)
 else (
 some (.inr x14))
def Zl (a1 : (List Int)) : Option ((List Int)) :=
 if (0 ≤ (a1.length : Int) ∧ (a1.length : Int) ≤ 140737488355328 ∧ 8 * (a1.length : Int) ≤ 281474976710656) then
 (loopM (fun s : (List Int) × Int => Zl_L1 a1 s.1 s.2) ((List.replicate (a1.length : Int).toNat (0 : Int)), (0 : Int))).bind fun e => Zl_J1 e
 else none
def Z1u (a1 : Fix) : Option (Fix) :=
 (Zl a1.Data).bind fun (r6 : (List Int)) =>
 some (⟨a1.Buffer, r6⟩ : Fix)
def Z0a_J1 (x33 : (List Fix)) : Option ((List Fix)) :=
 some x33
def Z0a_L1 (a1 : (List Fix)) (x18 : (List Fix)) (i19 : Int) : Option (((List Fix) × Int) ⊕ ((List Fix))) :=
 if (decide (i19 < (a1.length : Int))) = true then (
 if (0 ≤ i19 ∧ i19 < (a1.length : Int)) then
 (Z1u (ix a1 i19)).bind fun (r25 : Fix) =>
 if (0 ≤ i19 ∧ i19 < ((List.replicate (a1.length : Int).toNat zT57.z).length : Int)) then
 some (.inl ((x18.set i19.toNat r25), (w64 (i19 + (1 : Int)))))
 else none
 else none)
 else (
 some (.inr x18))
def Z0a (a1 : (List Fix)) : Option ((List Fix)) :=
 if (0 ≤ (a1.length : Int) ∧ (a1.length : Int) ≤ 140737488355328 ∧ 32 * (a1.length : Int) ≤ 281474976710656) then
 (loopM (fun s : (List Fix) × Int => Z0a_L1 a1 s.1 s.2) ((List.replicate (a1.length : Int).toNat zT57.z), (0 : Int))).bind fun e => Z0a_J1 e
 else none
def Z1e (a1 : Access) : Option (Access) :=
 (Zl a1.Steps).bind fun (r6 : (List Int)) =>
 some (⟨a1.Buffer, a1.Offset, r6⟩ : Access)
def Z07_J1 (x33 : (List Access)) : Option ((List Access)) :=
 some x33
def Z07_L1 (a1 : (List Access)) (x18 : (List Access)) (i19 : Int) : Option (((List Access) × Int) ⊕ ((List Access))) :=
 if (decide (i19 < (a1.length : Int))) = true then (
 if (0 ≤ i19 ∧ i19 < (a1.length : Int)) then
 (Z1e (ix a1 i19)).bind fun (r25 : Access) =>
 if (0 ≤ i19 ∧ i19 < ((List.replicate (a1.length : Int).toNat zT61.z).length : Int)) then
 some (.inl ((x18.set i19.toNat r25), (w64 (i19 + (1 : Int)))))
 else none
 else none)
 else (
 some (.inr x18))
def Z07 (a1 : (List Access)) : Option ((List Access)) :=
 if (0 ≤ (a1.length : Int) ∧ (a1.length : Int) ≤ 140737488355328 ∧ 40 * (a1.length : Int) ≤ 281474976710656) then
 (loopM (fun s : (List Access) × Int => Z07_L1 a1 s.1 s.2) ((List.replicate (a1.length : Int).toNat zT61.z), (0 : Int))).bind fun e => Z07_J1 e
 else none
def Z1z (a1 : Calc) : Option (Calc) :=
 some a1
def Z04_J1 (x29 : (List Calc)) : Option ((List Calc)) :=
 some x29
def Z04_L1 (a1 : (List Calc)) (x16 : (List Calc)) (i17 : Int) : Option (((List Calc) × Int) ⊕ ((List Calc))) :=
 if (decide (i17 < (a1.length : Int))) = true then (
 if (0 ≤ i17 ∧ i17 < (a1.length : Int)) then
 (Z1z (ix a1 i17)).bind fun (r22 : Calc) =>
 if (0 ≤ i17 ∧ i17 < ((List.replicate (a1.length : Int).toNat zT101.z).length : Int)) then
 some (.inl ((x16.set i17.toNat r22), (w64 (i17 + (1 : Int)))))
 else none
 else none)
 else (
 some (.inr x16))
def Z04 (a1 : (List Calc)) : Option ((List Calc)) :=
 if (0 ≤ (a1.length : Int) ∧ (a1.length : Int) ≤ 140737488355328 ∧ 24 * (a1.length : Int) ≤ 281474976710656) then
 (loopM (fun s : (List Calc) × Int => Z04_L1 a1 s.1 s.2) ((List.replicate (a1.length : Int).toNat zT101.z), (0 : Int))).bind fun e => Z04_J1 e
 else none
def Z1p (a1 : Kernel) : Option (Kernel) :=
 (Zl a1.Loops).bind fun (r9 : (List Int)) =>
 (Z07 a1.Loads).bind fun (r12 : (List Access)) =>
 (Z1e a1.Store).bind fun (r15 : Access) =>
 (Z04 a1.Code).bind fun (r18 : (List Calc)) =>
 some (⟨r9, r12, r15, a1.Sum, r18⟩ : Kernel)
def Z0b_J1 (x45 : (List Kernel)) : Option ((List Kernel)) :=
 some x45
def Z0b_L1 (a1 : (List Kernel)) (x24 : (List Kernel)) (i25 : Int) : Option (((List Kernel) × Int) ⊕ ((List Kernel))) :=
 if (decide (i25 < (a1.length : Int))) = true then (
 if (0 ≤ i25 ∧ i25 < (a1.length : Int)) then
 (Z1p (ix a1 i25)).bind fun (r34 : Kernel) =>
 if (0 ≤ i25 ∧ i25 < ((List.replicate (a1.length : Int).toNat zT64.z).length : Int)) then
 some (.inl ((x24.set i25.toNat r34), (w64 (i25 + (1 : Int)))))
 else none
 else none)
 else (
 some (.inr x24))
def Z0b (a1 : (List Kernel)) : Option ((List Kernel)) :=
 if (0 ≤ (a1.length : Int) ∧ (a1.length : Int) ≤ 140737488355328 ∧ 120 * (a1.length : Int) ≤ 281474976710656) then
 (loopM (fun s : (List Kernel) × Int => Z0b_L1 a1 s.1 s.2) ((List.replicate (a1.length : Int).toNat zT64.z), (0 : Int))).bind fun e => Z0b_J1 e
 else none
def Z11 (a1 : Nest) : Option (Nest) :=
 (Zl a1.Sizes).bind fun (r10 : (List Int)) =>
 (Zl a1.Ins).bind fun (r13 : (List Int)) =>
 (Z0a a1.Fixed).bind fun (r16 : (List Fix)) =>
 (Z0b a1.Kernels).bind fun (r19 : (List Kernel)) =>
 (Zl a1.Outs).bind fun (r22 : (List Int)) =>
 some (⟨r10, r13, r16, r19, r22⟩ : Nest)
def Z05_J1 : Option (Bool) :=
 some true
def Z05_L1 (index1 : (List Int)) (n3 : Int) (i10 : Int) : Option ((Int) ⊕ ((Bool) ⊕ (Unit))) :=
 if (decide (i10 < (index1.length : Int))) = true then (
 if (0 ≤ i10 ∧ i10 < (index1.length : Int)) then
 if ((decide ((ix index1 i10) < (0 : Int))) || (decide ((ix index1 i10) ≥ n3))) = true then (
 some (.inr (.inl false)))
 else (
 some (.inl (w64 (i10 + (1 : Int)))))
 else none)
 else (
 some (.inr (.inr ())))
def Z05 (index1 : (List Int)) (n3 : Int) : Option (Bool) :=
 (loopM (fun s : Int => Z05_L1 index1 n3 s) (0 : Int)).bind fun e => match e with
 | .inl e => some e
 | .inr e => Z05_J1
def Zm_J1 : Option (Bool) :=
 some false
def Zm_L1 (list1 : (List Int)) (p3 : Int) (i9 : Int) : Option ((Int) ⊕ ((Bool) ⊕ (Unit))) :=
 if (decide (i9 < (list1.length : Int))) = true then (
 if (0 ≤ i9 ∧ i9 < (list1.length : Int)) then
 if ((ix list1 i9) == p3) = true then (
 some (.inr (.inl true)))
 else (
 some (.inl (w64 (i9 + (1 : Int)))))
 else none)
 else (
 some (.inr (.inr ())))
def Zm (list1 : (List Int)) (p3 : Int) : Option (Bool) :=
 (loopM (fun s : Int => Zm_L1 list1 p3 s) (0 : Int)).bind fun e => match e with
 | .inl e => some e
 | .inr e => Zm_J1
def Z0j_J1 (r1 : (List Int)) : Option (Bool) :=
 some ((decide ((r1.length : Int) > (0 : Int))) && (decide ((r1.length : Int) ≤ (4096 : Int))))
def Z0j_L1 (r1 : (List Int)) (i9 : Int) : Option ((Int) ⊕ ((Bool) ⊕ (Unit))) :=
 if (decide (i9 < (r1.length : Int))) = true then (
 if (0 ≤ i9 ∧ i9 < (r1.length : Int)) then
 if ((decide ((ix r1 i9) < (0 : Int))) || (decide ((ix r1 i9) ≥ (2147483647 : Int)))) = true then (
 some (.inr (.inl false)))
 else (
 some (.inl (w64 (i9 + (1 : Int)))))
 else none)
 else (
 some (.inr (.inr ())))
def Z0j (r1 : (List Int)) : Option (Bool) :=
 (loopM (fun s : Int => Z0j_L1 r1 s) (0 : Int)).bind fun e => match e with
 | .inl e => some e
 | .inr e => Z0j_J1 r1
def Zs_J1 (n25 : Int) : Option (Int) :=
 some n25
def Zs_L1 (a1 : (List Int)) (n12 : Int) (i13 : Int) : Option ((Int × Int) ⊕ ((Int) ⊕ (Int))) :=
 if (decide (i13 < (a1.length : Int))) = true then (
 if (0 ≤ i13 ∧ i13 < (a1.length : Int)) then
 if (((decide ((ix a1 i13) < (1 : Int))) || (decide ((ix a1 i13) > (65536 : Int)))) || (decide ((w64 (n12 * (ix a1 i13))) > (65536 : Int)))) = true then (
 some (.inr (.inl (0 : Int))))
 else (
 some (.inl ((w64 (n12 * (ix a1 i13))), (w64 (i13 + (1 : Int))))))
 else none)
 else (
 some (.inr (.inr n12)))
def Zs (a1 : (List Int)) : Option (Int) :=
 (loopM (fun s : Int × Int => Zs_L1 a1 s.1 s.2) ((1 : Int), (0 : Int))).bind fun e => match e with
 | .inl e => some e
 | .inr e => Zs_J1 e
def Z5_J7 : Option (Bool) :=
 some true
def Z5_J6 (i34 : Int) (ok60 : Bool) : Option ((Int) ⊕ ((Bool) ⊕ (Unit))) :=
 if (!ok60) = true then (
 some (.inr (.inl false)))
 else (
 some (.inl (w64 (i34 + (1 : Int)))))
def Z5_J5 (code1 : (List Calc)) (i34 : Int) (x56 : Bool) : Option ((Int) ⊕ ((Bool) ⊕ (Unit))) :=
 if x56 = true then (
 Z5_J6 i34 (((decide ((ix code1 i34).A ≥ (0 : Int))) && (decide ((ix code1 i34).A < i34))) && ((ix code1 i34).B == (0 : Int))))
 else (
 Z5_J6 i34 false)
def Z5_J4 (code1 : (List Calc)) (i34 : Int) (x48 : Bool) : Option ((Int) ⊕ ((Bool) ⊕ (Unit))) :=
 if x48 = true then (
 Z5_J6 i34 ((((decide ((ix code1 i34).A ≥ (0 : Int))) && (decide ((ix code1 i34).A < i34))) && (decide ((ix code1 i34).B ≥ (0 : Int)))) && (decide ((ix code1 i34).B < i34))))
 else (
 if ((ix code1 i34).Op == (6 : Int)) = true then (
 Z5_J5 code1 i34 ((ix code1 i34).Op == (6 : Int)))
 else (
 if ((ix code1 i34).Op == (7 : Int)) = true then (
 Z5_J5 code1 i34 ((ix code1 i34).Op == (7 : Int)))
 else (
 if ((ix code1 i34).Op == (8 : Int)) = true then (
 Z5_J5 code1 i34 ((ix code1 i34).Op == (8 : Int)))
 else (
 Z5_J5 code1 i34 ((ix code1 i34).Op == (9 : Int))))))
def Z5_L1 (code1 : (List Calc)) (loads3 : Int) (i34 : Int) : Option ((Int) ⊕ ((Bool) ⊕ (Unit))) :=
 if (decide (i34 < (code1.length : Int))) = true then (
 if (0 ≤ i34 ∧ i34 < (code1.length : Int)) then
 if ((ix code1 i34).Op == (1 : Int)) = true then (
 Z5_J6 i34 (((decide ((ix code1 i34).A ≥ (0 : Int))) && (decide ((ix code1 i34).A < loads3))) && ((ix code1 i34).B == (0 : Int))))
 else (
 if ((ix code1 i34).Op == (2 : Int)) = true then (
 Z5_J6 i34 (((decide ((ix code1 i34).A ≥ (0 : Int))) && (decide ((ix code1 i34).A < (2147483647 : Int)))) && ((ix code1 i34).B == (0 : Int))))
 else (
 if ((ix code1 i34).Op == (3 : Int)) = true then (
 Z5_J4 code1 i34 ((ix code1 i34).Op == (3 : Int)))
 else (
 if ((ix code1 i34).Op == (4 : Int)) = true then (
 Z5_J4 code1 i34 ((ix code1 i34).Op == (4 : Int)))
 else (
 Z5_J4 code1 i34 ((ix code1 i34).Op == (5 : Int))))))
 else none)
 else (
 some (.inr (.inr ())))
def Z5 (code1 : (List Calc)) (loads3 : Int) : Option (Bool) :=
 if ((decide ((code1.length : Int) < (1 : Int))) || (decide ((code1.length : Int) > (60 : Int)))) = true then (
 some false)
 else (
 (loopM (fun s : Int => Z5_L1 code1 loads3 s) (0 : Int)).bind fun e => match e with
 | .inl e => some e
 | .inr e => Z5_J7)
def Zi_J3 (a1 : Access) (sizes5 : (List Int)) (low64 : Int) (high65 : Int) : Option (Bool) :=
 if (decide (low64 ≥ (0 : Int))) = true → (0 ≤ a1.Buffer ∧ a1.Buffer < (sizes5.length : Int)) then
 some ((decide (low64 ≥ (0 : Int))) && (decide (high65 < (ix sizes5 a1.Buffer))))
 else none
def Zi_J2 (i39 : Int) (low59 : Int) (high60 : Int) : Option ((Int × Int × Int) ⊕ ((Bool) ⊕ (Int × Int))) :=
 some (.inl (low59, high60, (w64 (i39 + (1 : Int)))))
def Zi_L1 (a1 : Access) (loops3 : (List Int)) (low37 : Int) (high38 : Int) (i39 : Int) : Option ((Int × Int × Int) ⊕ ((Bool) ⊕ (Int × Int))) :=
 if (decide (i39 < (loops3.length : Int))) = true then (
 if (0 ≤ i39 ∧ i39 < (a1.Steps.length : Int)) then
 if (0 ≤ i39 ∧ i39 < (loops3.length : Int)) then
 if (((ix loops3 i39) == (1 : Int)) && ((ix a1.Steps i39) == (0 : Int))) = true then (
 Zi_J2 i39 low37 high38)
 else (
 if ((((ix loops3 i39) == (1 : Int)) || (decide ((ix a1.Steps i39) < (-4096 : Int)))) || (decide ((ix a1.Steps i39) > (4096 : Int)))) = true then (
 some (.inr (.inl false)))
 else (
 if (decide ((ix a1.Steps i39) < (0 : Int))) = true then (
 Zi_J2 i39 (w64 (low37 + (w64 ((ix a1.Steps i39) * (w64 ((ix loops3 i39) - (1 : Int))))))) high38)
 else (
 Zi_J2 i39 low37 (w64 (high38 + (w64 ((ix a1.Steps i39) * (w64 ((ix loops3 i39) - (1 : Int))))))))))
 else none
 else none)
 else (
 some (.inr (.inr (low37, high38))))
def Zi (a1 : Access) (loops3 : (List Int)) (sizes5 : (List Int)) : Option (Bool) :=
 if ((((decide (a1.Buffer < (0 : Int))) || (decide (a1.Buffer ≥ (sizes5.length : Int)))) || ((a1.Steps.length : Int) != (loops3.length : Int))) || (decide (a1.Offset < (0 : Int)))) = false → (0 ≤ a1.Buffer ∧ a1.Buffer < (sizes5.length : Int)) then
 if (((((decide (a1.Buffer < (0 : Int))) || (decide (a1.Buffer ≥ (sizes5.length : Int)))) || ((a1.Steps.length : Int) != (loops3.length : Int))) || (decide (a1.Offset < (0 : Int)))) || (decide (a1.Offset ≥ (ix sizes5 a1.Buffer)))) = true then (
 some false)
 else (
 (loopM (fun s : Int × Int × Int => Zi_L1 a1 loops3 s.1 s.2.1 s.2.2) (a1.Offset, a1.Offset, (0 : Int))).bind fun e => match e with
 | .inl e => some e
 | .inr e => Zi_J3 a1 sizes5 e.1 e.2)
 else none
def Z0l_J1 : Option (Bool) :=
 some true
def Z0l_L1 (k1 : Kernel) (sizes6 : (List Int)) (i29 : Int) : Option ((Int) ⊕ ((Bool) ⊕ (Unit))) :=
 if (decide (i29 < (k1.Loads.length : Int))) = true then (
 if (0 ≤ i29 ∧ i29 < (k1.Loads.length : Int)) then
 (Zi (ix k1.Loads i29) k1.Loops sizes6).bind fun (r35 : Bool) =>
 if ((!r35) || ((ix k1.Loads i29).Buffer == k1.Store.Buffer)) = true then (
 some (.inr (.inl false)))
 else (
 some (.inl (w64 (i29 + (1 : Int)))))
 else none)
 else (
 some (.inr (.inr ())))
def Z0l (k1 : Kernel) (sizes6 : (List Int)) : Option (Bool) :=
 (gcall (!((decide ((k1.Loops.length : Int) > (12 : Int))) || (decide ((k1.Loads.length : Int) > (30 : Int))))) (Zs k1.Loops)).bind fun (r9 : Int) =>
 (gcall (!(((decide ((k1.Loops.length : Int) > (12 : Int))) || (decide ((k1.Loads.length : Int) > (30 : Int)))) || (r9 == (0 : Int)))) (Z5 k1.Code (k1.Loads.length : Int))).bind fun (r11 : Bool) =>
 (gcall (!((((decide ((k1.Loops.length : Int) > (12 : Int))) || (decide ((k1.Loads.length : Int) > (30 : Int)))) || (r9 == (0 : Int))) || (!r11))) (Zi k1.Store k1.Loops sizes6)).bind fun (r13 : Bool) =>
 if (((((decide ((k1.Loops.length : Int) > (12 : Int))) || (decide ((k1.Loads.length : Int) > (30 : Int)))) || (r9 == (0 : Int))) || (!r11)) || (!r13)) = true then (
 some false)
 else (
 (loopM (fun s : Int => Z0l_L1 k1 sizes6 s) (0 : Int)).bind fun e => match e with
 | .inl e => some e
 | .inr e => Z0l_J1)
def Z3_J4 (all159 : Int) : Option (Bool) :=
 some (decide (all159 ≤ (1000000 : Int)))
def Z3_L4 (l1 : Nest) (given109 : (List Int)) (all133 : Int) (i134 : Int) : Option ((Int × Int) ⊕ ((Bool) ⊕ (Int))) :=
 if (decide (i134 < (l1.Kernels.length : Int))) = true then (
 if (0 ≤ i134 ∧ i134 < (l1.Kernels.length : Int)) then
 (Z0l (ix l1.Kernels i134) l1.Sizes).bind fun (r143 : Bool) =>
 (gcall (!(!r143)) (Zm given109 ((ix l1.Kernels i134).Store.Buffer))).bind fun (r145 : Bool) =>
 if ((!r143) || r145) = true then (
 some (.inr (.inl false)))
 else (
 (Zs ((ix l1.Kernels i134).Loops)).bind fun (r155 : Int) =>
 some (.inl ((w64 (all133 + r155)), (w64 (i134 + (1 : Int))))))
 else none)
 else (
 some (.inr (.inr all133)))
def Z3_J3 (l1 : Nest) (given109 : (List Int)) : Option (Bool) :=
 (loopM (fun s : Int × Int => Z3_L4 l1 given109 s.1 s.2) ((0 : Int), (0 : Int))).bind fun e => match e with
 | .inl e => some e
 | .inr e => Z3_J4 e
def Z3_L3 (l1 : Nest) (given82 : (List Int)) (i84 : Int) : Option (((List Int) × Int) ⊕ ((Bool) ⊕ ((List Int)))) :=
 if (decide (i84 < (l1.Fixed.length : Int))) = true then (
 if (0 ≤ i84 ∧ i84 < (l1.Fixed.length : Int)) then
 (gcall (!((decide ((ix l1.Fixed i84).Buffer < (0 : Int))) || (decide ((ix l1.Fixed i84).Buffer ≥ (l1.Sizes.length : Int))))) (Zm given82 ((ix l1.Fixed i84).Buffer))).bind fun (r89 : Bool) =>
 if (((decide ((ix l1.Fixed i84).Buffer < (0 : Int))) || (decide ((ix l1.Fixed i84).Buffer ≥ (l1.Sizes.length : Int)))) || r89) = false → (0 ≤ (ix l1.Fixed i84).Buffer ∧ (ix l1.Fixed i84).Buffer < (l1.Sizes.length : Int)) then
 (gcall ((!((((decide ((ix l1.Fixed i84).Buffer < (0 : Int))) || (decide ((ix l1.Fixed i84).Buffer ≥ (l1.Sizes.length : Int)))) || r89) || ((((ix l1.Fixed i84).Data).length : Int) != (ix l1.Sizes (ix l1.Fixed i84).Buffer)))) && (decide ((((ix l1.Fixed i84).Data).length : Int) > (0 : Int)))) (Z0j ((ix l1.Fixed i84).Data))).bind fun (r95 : Bool) =>
 if (((((decide ((ix l1.Fixed i84).Buffer < (0 : Int))) || (decide ((ix l1.Fixed i84).Buffer ≥ (l1.Sizes.length : Int)))) || r89) || ((((ix l1.Fixed i84).Data).length : Int) != (ix l1.Sizes (ix l1.Fixed i84).Buffer))) || ((decide ((((ix l1.Fixed i84).Data).length : Int) > (0 : Int))) && (!r95))) = true then (
 some (.inr (.inl false)))
 else (
 if given82.length + ([(ix l1.Fixed i84).Buffer] : List Int).length ≤ 17592186044416 then
 some (.inl ((given82 ++ ([(ix l1.Fixed i84).Buffer] : List Int)), (w64 (i84 + (1 : Int)))))
 else none)
 else none
 else none)
 else (
 some (.inr (.inr given82)))
def Z3_J2 (l1 : Nest) (given59 : (List Int)) : Option (Bool) :=
 (loopM (fun s : (List Int) × Int => Z3_L3 l1 s.1 s.2) (given59, (0 : Int))).bind fun e => match e with
 | .inl e => some e
 | .inr e => Z3_J3 l1 e
def Z3_L2 (l1 : Nest) (given43 : (List Int)) (i45 : Int) : Option (((List Int) × Int) ⊕ ((Bool) ⊕ ((List Int)))) :=
 if (decide (i45 < (l1.Ins.length : Int))) = true then (
 if (0 ≤ i45 ∧ i45 < (l1.Ins.length : Int)) then
 (Zm given43 (ix l1.Ins i45)).bind fun (r50 : Bool) =>
 if r50 = true then (
 some (.inr (.inl false)))
 else (
 if given43.length + ([(ix l1.Ins i45)] : List Int).length ≤ 17592186044416 then
 some (.inl ((given43 ++ ([(ix l1.Ins i45)] : List Int)), (w64 (i45 + (1 : Int)))))
 else none)
 else none)
 else (
 some (.inr (.inr given43)))
def Z3_J1 (l1 : Nest) : Option (Bool) :=
 (loopM (fun s : (List Int) × Int => Z3_L2 l1 s.1 s.2) (([] : List Int), (0 : Int))).bind fun e => match e with
 | .inl e => some e
 | .inr e => Z3_J2 l1 e
def Z3_L1 (l1 : Nest) (i24 : Int) : Option ((Int) ⊕ ((Bool) ⊕ (Unit))) :=
 if (decide (i24 < (l1.Sizes.length : Int))) = true then (
 if (0 ≤ i24 ∧ i24 < (l1.Sizes.length : Int)) then
 if ((decide ((ix l1.Sizes i24) < (0 : Int))) || (decide ((ix l1.Sizes i24) > (4096 : Int)))) = true then (
 some (.inr (.inl false)))
 else (
 some (.inl (w64 (i24 + (1 : Int)))))
 else none)
 else (
 some (.inr (.inr ())))
def Z3 (l1 : Nest) : Option (Bool) :=
 (gcall (!((((decide ((l1.Sizes.length : Int) > (200 : Int))) || (decide ((l1.Ins.length : Int) > (40 : Int)))) || (decide ((l1.Outs.length : Int) > (40 : Int)))) || (decide ((l1.Kernels.length : Int) > (400 : Int))))) (Z05 l1.Ins (l1.Sizes.length : Int))).bind fun (r8 : Bool) =>
 (gcall (!(((((decide ((l1.Sizes.length : Int) > (200 : Int))) || (decide ((l1.Ins.length : Int) > (40 : Int)))) || (decide ((l1.Outs.length : Int) > (40 : Int)))) || (decide ((l1.Kernels.length : Int) > (400 : Int)))) || (!r8))) (Z05 l1.Outs (l1.Sizes.length : Int))).bind fun (r10 : Bool) =>
 if ((((((decide ((l1.Sizes.length : Int) > (200 : Int))) || (decide ((l1.Ins.length : Int) > (40 : Int)))) || (decide ((l1.Outs.length : Int) > (40 : Int)))) || (decide ((l1.Kernels.length : Int) > (400 : Int)))) || (!r8)) || (!r10)) = true then (
 some false)
 else (
 (loopM (fun s : Int => Z3_L1 l1 s) (0 : Int)).bind fun e => match e with
 | .inl e => some e
 | .inr e => Z3_J1 l1)
def Zc (a1 : (List Int)) : Option ((List Int)) :=
 if ([] : List Int).length + a1.length ≤ 17592186044416 then
 some (([] : List Int) ++ a1)
 else none
def Z01_J1 (k1 : Kernel) (r8 : (List Int)) (r11 : (List Int)) (x50 : (List Access)) : Option (Kernel) :=
 some (⟨r8, x50, (⟨k1.Store.Buffer, k1.Store.Offset, r11⟩ : Access), k1.Sum, (([] : List Calc) ++ k1.Code)⟩ : Kernel)
def Z01_L1 (k1 : Kernel) (x33 : (List Access)) (i35 : Int) : Option (((List Access) × Int) ⊕ ((List Access))) :=
 if (decide (i35 < (k1.Loads.length : Int))) = true then (
 if (0 ≤ i35 ∧ i35 < (k1.Loads.length : Int)) then
 (Zc ((ix k1.Loads i35).Steps)).bind fun (r41 : (List Int)) =>
 if x33.length + ([(⟨(ix k1.Loads i35).Buffer, (ix k1.Loads i35).Offset, r41⟩ : Access)] : List Access).length ≤ 3518437208883 then
 some (.inl ((x33 ++ ([(⟨(ix k1.Loads i35).Buffer, (ix k1.Loads i35).Offset, r41⟩ : Access)] : List Access)), (w64 (i35 + (1 : Int)))))
 else none
 else none)
 else (
 some (.inr x33))
def Z01 (k1 : Kernel) : Option (Kernel) :=
 (Zc k1.Loops).bind fun (r8 : (List Int)) =>
 (Zc k1.Store.Steps).bind fun (r11 : (List Int)) =>
 if ([] : List Calc).length + k1.Code.length ≤ 5864062014805 then
 (loopM (fun s : (List Access) × Int => Z01_L1 k1 s.1 s.2) (([] : List Access), (0 : Int))).bind fun e => Z01_J1 k1 r8 r11 e
 else none
def Zg_J2 (r9 : (List Int)) (r12 : (List Int)) (r15 : (List Int)) (x51 : (List Fix)) (x93 : (List Kernel)) : Option (Nest) :=
 some (⟨r9, r12, x51, x93, r15⟩ : Nest)
def Zg_L2 (l1 : Nest) (x70 : (List Kernel)) (i72 : Int) : Option (((List Kernel) × Int) ⊕ ((List Kernel))) :=
 if (decide (i72 < (l1.Kernels.length : Int))) = true then (
 if (0 ≤ i72 ∧ i72 < (l1.Kernels.length : Int)) then
 (Z01 (ix l1.Kernels i72)).bind fun (r81 : Kernel) =>
 if x70.length + ([r81] : List Kernel).length ≤ 1172812402961 then
 some (.inl ((x70 ++ ([r81] : List Kernel)), (w64 (i72 + (1 : Int)))))
 else none
 else none)
 else (
 some (.inr x70))
def Zg_J1 (l1 : Nest) (r9 : (List Int)) (r12 : (List Int)) (r15 : (List Int)) (x51 : (List Fix)) : Option (Nest) :=
 (loopM (fun s : (List Kernel) × Int => Zg_L2 l1 s.1 s.2) (([] : List Kernel), (0 : Int))).bind fun e => Zg_J2 r9 r12 r15 x51 e
def Zg_L1 (l1 : Nest) (x34 : (List Fix)) (i36 : Int) : Option (((List Fix) × Int) ⊕ ((List Fix))) :=
 if (decide (i36 < (l1.Fixed.length : Int))) = true then (
 if (0 ≤ i36 ∧ i36 < (l1.Fixed.length : Int)) then
 (Zc ((ix l1.Fixed i36).Data)).bind fun (r42 : (List Int)) =>
 if x34.length + ([(⟨(ix l1.Fixed i36).Buffer, r42⟩ : Fix)] : List Fix).length ≤ 4398046511104 then
 some (.inl ((x34 ++ ([(⟨(ix l1.Fixed i36).Buffer, r42⟩ : Fix)] : List Fix)), (w64 (i36 + (1 : Int)))))
 else none
 else none)
 else (
 some (.inr x34))
def Zg (l1 : Nest) : Option (Nest) :=
 (Zc l1.Sizes).bind fun (r9 : (List Int)) =>
 (Zc l1.Ins).bind fun (r12 : (List Int)) =>
 (Zc l1.Outs).bind fun (r15 : (List Int)) =>
 (loopM (fun s : (List Fix) × Int => Zg_L1 l1 s.1 s.2) (([] : List Fix), (0 : Int))).bind fun e => Zg_J1 l1 r9 r12 r15 e
def Zo_J3 (x35 : (List Int)) : Option ((List Int)) :=
 some x35
def Zo_J2 (i21 : Int) (x30 : (List Int)) : Option (((List Int) × Int) ⊕ ((List Int))) :=
 some (.inl (x30, (w64 (i21 + (1 : Int)))))
def Zo_L1 (k1 : Kernel) (b6 : Int) (x19 : (List Int)) (i21 : Int) : Option (((List Int) × Int) ⊕ ((List Int))) :=
 if (decide (i21 < (k1.Loads.length : Int))) = true then (
 if (0 ≤ i21 ∧ i21 < (k1.Loads.length : Int)) then
 if ((ix k1.Loads i21).Buffer == b6) = true then (
 if x19.length + ([i21] : List Int).length ≤ 17592186044416 then
 Zo_J2 i21 (x19 ++ ([i21] : List Int))
 else none)
 else (
 Zo_J2 i21 x19)
 else none)
 else (
 some (.inr x19))
def Zo (k1 : Kernel) (b6 : Int) : Option ((List Int)) :=
 (loopM (fun s : (List Int) × Int => Zo_L1 k1 b6 s.1 s.2) (([] : List Int), (0 : Int))).bind fun e => Zo_J3 e
def Z1v (k1 : Kernel) (b6 : Int) : Option (Bool) :=
 (gcall (!(k1.Store.Buffer == b6)) (Zo k1 b6)).bind fun (r8 : (List Int)) =>
 some ((k1.Store.Buffer == b6) || (decide ((r8.length : Int) > (0 : Int))))
def Zx_J1 (l1 : Nest) (b7 : Int) : Option (Bool) :=
 (Zm l1.Ins b7).bind fun (r21 : Bool) =>
 some r21
def Zx_L1 (l1 : Nest) (b7 : Int) (i14 : Int) : Option ((Int) ⊕ ((Bool) ⊕ (Unit))) :=
 if (decide (i14 < (l1.Fixed.length : Int))) = true then (
 if (0 ≤ i14 ∧ i14 < (l1.Fixed.length : Int)) then
 if ((ix l1.Fixed i14).Buffer == b7) = true then (
 some (.inr (.inl true)))
 else (
 some (.inl (w64 (i14 + (1 : Int)))))
 else none)
 else (
 some (.inr (.inr ())))
def Zx (l1 : Nest) (b7 : Int) : Option (Bool) :=
 (loopM (fun s : Int => Zx_L1 l1 b7 s) (0 : Int)).bind fun e => match e with
 | .inl e => some e
 | .inr e => Zx_J1 l1 b7
def Z7_J6 (l1 : Nest) (b7 : Int) (first64 : Int) (r65 : Bool) (r67 : Bool) (x71 : Int) (x73 : Int) : Option (Life × Bool) :=
 some ((⟨b7, (ix l1.Sizes b7), x71, x73⟩ : Life), ((decide ((ix l1.Sizes b7) > (0 : Int))) && ((r67 || r65) || (decide (first64 ≥ (0 : Int))))))
def Z7_J5 (l1 : Nest) (b7 : Int) (x63 : Int) (first64 : Int) (r65 : Bool) (r67 : Bool) (x71 : Int) : Option (Life × Bool) :=
 if r65 = true then (
 Z7_J6 l1 b7 first64 r65 r67 x71 (l1.Kernels.length : Int))
 else (
 Z7_J6 l1 b7 first64 r65 r67 x71 x63)
def Z7_J4 (l1 : Nest) (b7 : Int) (x63 : Int) (first64 : Int) : Option (Life × Bool) :=
 (Zm l1.Outs b7).bind fun (r65 : Bool) =>
 (Zx l1 b7).bind fun (r67 : Bool) =>
 if ((!r67) && (decide (first64 > (0 : Int)))) = true then (
 Z7_J5 l1 b7 x63 first64 r65 r67 first64)
 else (
 Z7_J5 l1 b7 x63 first64 r65 r67 (0 : Int))
def Z7_J3 (i45 : Int) (x58 : Int) (first59 : Int) : Option ((Int × Int × Int) ⊕ (Int × Int)) :=
 some (.inl (x58, first59, (w64 (i45 + (1 : Int)))))
def Z7_L1 (l1 : Nest) (b7 : Int) (x43 : Int) (first44 : Int) (i45 : Int) : Option ((Int × Int × Int) ⊕ (Int × Int)) :=
 if (decide (i45 < (l1.Kernels.length : Int))) = true then (
 if (0 ≤ i45 ∧ i45 < (l1.Kernels.length : Int)) then
 (Z1v (ix l1.Kernels i45) b7).bind fun (r54 : Bool) =>
 if r54 = true then (
 if (decide (first44 < (0 : Int))) = true then (
 Z7_J3 i45 i45 i45)
 else (
 Z7_J3 i45 i45 first44))
 else (
 Z7_J3 i45 x43 first44)
 else none)
 else (
 some (.inr (x43, first44)))
def Z7 (l1 : Nest) (b7 : Int) : Option (Life × Bool) :=
 if (0 ≤ b7 ∧ b7 < (l1.Sizes.length : Int)) then
 (loopM (fun s : Int × Int × Int => Z7_L1 l1 b7 s.1 s.2.1 s.2.2) ((0 : Int), (-1 : Int), (0 : Int))).bind fun e => Z7_J4 l1 b7 e.1 e.2
 else none
def Zn_J3 (x38 : (List Life)) : Option ((List Life)) :=
 some x38
def Zn_J2 (b24 : Int) (x33 : (List Life)) : Option (((List Life) × Int) ⊕ ((List Life))) :=
 some (.inl (x33, (w64 (b24 + (1 : Int)))))
def Zn_L1 (l1 : Nest) (x22 : (List Life)) (b24 : Int) : Option (((List Life) × Int) ⊕ ((List Life))) :=
 if (decide (b24 < (l1.Sizes.length : Int))) = true then (
 (Z7 l1 b24).bind fun (r26 : Life × Bool) =>
 if r26.2 = true then (
 if x22.length + ([r26.1] : List Life).length ≤ 4398046511104 then
 Zn_J2 b24 (x22 ++ ([r26.1] : List Life))
 else none)
 else (
 Zn_J2 b24 x22))
 else (
 some (.inr x22))
def Zn (l1 : Nest) : Option ((List Life)) :=
 (Z3 l1).bind fun (r9 : Bool) =>
 if (!r9) = true then (
 some ([] : List Life))
 else (
 (loopM (fun s : (List Life) × Int => Zn_L1 l1 s.1 s.2) (([] : List Life), (0 : Int))).bind fun e => Zn_J3 e)
def Z09_J1 : Option (Bool) :=
 some true
def Z09_L1 (lives1 : (List Life)) (i15 : Int) : Option ((Int) ⊕ ((Bool) ⊕ (Unit))) :=
 if (decide (i15 < (lives1.length : Int))) = true then (
 if (0 ≤ i15 ∧ i15 < (lives1.length : Int)) then
 if (((((decide ((ix lives1 i15).Size < (1 : Int))) || (decide ((ix lives1 i15).Size > (4096 : Int)))) || (decide ((ix lives1 i15).From < (0 : Int)))) || (decide ((ix lives1 i15).From > (ix lives1 i15).To))) || (decide ((ix lives1 i15).To > (400 : Int)))) = true then (
 some (.inr (.inl false)))
 else (
 some (.inl (w64 (i15 + (1 : Int)))))
 else none)
 else (
 some (.inr (.inr ())))
def Z09 (lives1 : (List Life)) : Option (Bool) :=
 if (decide ((lives1.length : Int) > (200 : Int))) = true then (
 some false)
 else (
 (loopM (fun s : Int => Z09_L1 lives1 s) (0 : Int)).bind fun e => match e with
 | .inl e => some e
 | .inr e => Z09_J1)
def Zd_J3 (x49 : Int) : Option (Int) :=
 some x49
def Zd_J2 (i26 : Int) (x45 : Int) : Option ((Int × Int) ⊕ (Int)) :=
 some (.inl (x45, (w64 (i26 + (1 : Int)))))
def Zd_L1 (lives1 : (List Life)) (offsets3 : (List Int)) (x25 : Int) (i26 : Int) : Option ((Int × Int) ⊕ (Int)) :=
 if (decide (i26 < (lives1.length : Int))) = true then (
 if (0 ≤ i26 ∧ i26 < (offsets3.length : Int)) then
 if (decide ((ix offsets3 i26) ≥ (0 : Int))) = true then (
 Zd_J2 i26 x25)
 else (
 if (decide (x25 < (0 : Int))) = false → (0 ≤ i26 ∧ i26 < (lives1.length : Int)) then
 if (decide (x25 < (0 : Int))) = false → (0 ≤ x25 ∧ x25 < (lives1.length : Int)) then
 if ((decide (x25 < (0 : Int))) || (decide ((ix lives1 i26).Size > (ix lives1 x25).Size))) = false → (0 ≤ i26 ∧ i26 < (lives1.length : Int)) then
 if ((decide (x25 < (0 : Int))) || (decide ((ix lives1 i26).Size > (ix lives1 x25).Size))) = false → (0 ≤ x25 ∧ x25 < (lives1.length : Int)) then
 if ((decide (x25 < (0 : Int))) || (decide ((ix lives1 i26).Size > (ix lives1 x25).Size))) = false → ((ix lives1 i26).Size == (ix lives1 x25).Size) = true → (0 ≤ i26 ∧ i26 < (lives1.length : Int)) then
 if ((decide (x25 < (0 : Int))) || (decide ((ix lives1 i26).Size > (ix lives1 x25).Size))) = false → ((ix lives1 i26).Size == (ix lives1 x25).Size) = true → (0 ≤ x25 ∧ x25 < (lives1.length : Int)) then
 if (((decide (x25 < (0 : Int))) || (decide ((ix lives1 i26).Size > (ix lives1 x25).Size))) || (((ix lives1 i26).Size == (ix lives1 x25).Size) && (decide ((ix lives1 i26).From < (ix lives1 x25).From)))) = true then (
 Zd_J2 i26 i26)
 else (
 Zd_J2 i26 x25)
 else none
 else none
 else none
 else none
 else none
 else none)
 else none)
 else (
 some (.inr x25))
def Zd (lives1 : (List Life)) (offsets3 : (List Int)) : Option (Int) :=
 (loopM (fun s : Int × Int => Zd_L1 lives1 offsets3 s.1 s.2) ((-1 : Int), (0 : Int))).bind fun e => Zd_J3 e
def Z25 (a1 : Life) (b2 : Life) : Option (Bool) :=
 some ((decide (a1.From ≤ b2.To)) && (decide (b2.From ≤ a1.To)))
def Zj_J3 : Option (Bool) :=
 some true
def Zj_J2 (k29 : Int) : Option ((Int) ⊕ ((Bool) ⊕ (Unit))) :=
 some (.inl (w64 (k29 + (1 : Int))))
def Zj_L1 (lives1 : (List Life)) (offsets3 : (List Int)) (i5 : Int) (p6 : Int) (k29 : Int) : Option ((Int) ⊕ ((Bool) ⊕ (Unit))) :=
 if (decide (k29 < (lives1.length : Int))) = true then (
 if (k29 == i5) = false → (0 ≤ k29 ∧ k29 < (offsets3.length : Int)) then
 if ((k29 == i5) || (decide ((ix offsets3 k29) < (0 : Int)))) = false → (0 ≤ i5 ∧ i5 < (lives1.length : Int)) then
 if ((k29 == i5) || (decide ((ix offsets3 k29) < (0 : Int)))) = false → (0 ≤ k29 ∧ k29 < (lives1.length : Int)) then
 (gcall (!((k29 == i5) || (decide ((ix offsets3 k29) < (0 : Int))))) (Z25 (ix lives1 i5) (ix lives1 k29))).bind fun (r38 : Bool) =>
 if (((k29 == i5) || (decide ((ix offsets3 k29) < (0 : Int)))) || (!r38)) = true then (
 Zj_J2 k29)
 else (
 if (0 ≤ k29 ∧ k29 < (offsets3.length : Int)) then
 if (0 ≤ k29 ∧ k29 < (lives1.length : Int)) then
 if (decide (p6 < (w64 ((ix offsets3 k29) + (ix lives1 k29).Size)))) = true → (0 ≤ i5 ∧ i5 < (lives1.length : Int)) then
 if ((decide (p6 < (w64 ((ix offsets3 k29) + (ix lives1 k29).Size)))) && (decide ((ix offsets3 k29) < (w64 (p6 + (ix lives1 i5).Size))))) = true then (
 some (.inr (.inl false)))
 else (
 Zj_J2 k29)
 else none
 else none
 else none)
 else none
 else none
 else none)
 else (
 some (.inr (.inr ())))
def Zj (lives1 : (List Life)) (offsets3 : (List Int)) (i5 : Int) (p6 : Int) : Option (Bool) :=
 (loopM (fun s : Int => Zj_L1 lives1 offsets3 i5 p6 s) (0 : Int)).bind fun e => match e with
 | .inl e => some e
 | .inr e => Zj_J3
def Z1_J12 (offsets161 : (List Int)) (peak163 : Int) : Option ((List Int) × Int) :=
 some (offsets161, peak163)
def Z1_J11 (lives1 : (List Life)) (offsets151 : (List Int)) (peak153 : Int) : Option (((List Int) × Int × Int) ⊕ ((List Int) × Int)) :=
 (Zd lives1 offsets151).bind fun (r154 : Int) =>
 some (.inl (offsets151, peak153, r154))
def Z1_J10 (lives1 : (List Life)) (offsets89 : (List Int)) (peak91 : Int) (i92 : Int) (best142 : Int) : Option (((List Int) × Int × Int) ⊕ ((List Int) × Int)) :=
 if (0 ≤ i92 ∧ i92 < (offsets89.length : Int)) then
 if (0 ≤ i92 ∧ i92 < (lives1.length : Int)) then
 if (decide ((w64 (best142 + (ix lives1 i92).Size)) > peak91)) = true then (
 Z1_J11 lives1 (offsets89.set i92.toNat best142) (w64 (best142 + (ix lives1 i92).Size)))
 else (
 Z1_J11 lives1 (offsets89.set i92.toNat best142) peak91)
 else none
 else none
def Z1_J9 (k118 : Int) (best135 : Int) : Option ((Int × Int) ⊕ (Int)) :=
 some (.inl (best135, (w64 (k118 + (1 : Int)))))
def Z1_L3 (lives1 : (List Life)) (offsets89 : (List Int)) (i92 : Int) (best117 : Int) (k118 : Int) : Option ((Int × Int) ⊕ (Int)) :=
 if (decide (k118 < (lives1.length : Int))) = true then (
 if (0 ≤ k118 ∧ k118 < (offsets89.length : Int)) then
 if (0 ≤ k118 ∧ k118 < (lives1.length : Int)) then
 (gcall ((decide ((ix offsets89 k118) ≥ (0 : Int))) && ((decide (best117 < (0 : Int))) || (decide ((w64 ((ix offsets89 k118) + (ix lives1 k118).Size)) < best117)))) (Zj lives1 offsets89 i92 (w64 ((ix offsets89 k118) + (ix lives1 k118).Size)))).bind fun (r126 : Bool) =>
 if (((decide ((ix offsets89 k118) ≥ (0 : Int))) && ((decide (best117 < (0 : Int))) || (decide ((w64 ((ix offsets89 k118) + (ix lives1 k118).Size)) < best117)))) && r126) = true then (
 Z1_J9 k118 (w64 ((ix offsets89 k118) + (ix lives1 k118).Size)))
 else (
 Z1_J9 k118 best117)
 else none
 else none)
 else (
 some (.inr best117))
def Z1_J7 (lives1 : (List Life)) (offsets89 : (List Int)) (peak91 : Int) (i92 : Int) (best97 : Int) : Option (((List Int) × Int × Int) ⊕ ((List Int) × Int)) :=
 (loopM (fun s : Int × Int => Z1_L3 lives1 offsets89 i92 s.1 s.2) (best97, (0 : Int))).bind fun e => Z1_J10 lives1 offsets89 peak91 i92 e
def Z1_L2 (lives1 : (List Life)) (offsets89 : (List Int)) (peak91 : Int) (i92 : Int) : Option (((List Int) × Int × Int) ⊕ ((List Int) × Int)) :=
 if (decide (i92 ≥ (0 : Int))) = true then (
 (Zj lives1 offsets89 i92 (0 : Int)).bind fun (r94 : Bool) =>
 if r94 = true then (
 Z1_J7 lives1 offsets89 peak91 i92 (0 : Int))
 else (
 Z1_J7 lives1 offsets89 peak91 i92 (-1 : Int)))
 else (
 some (.inr (offsets89, peak91)))
def Z1_J1 (lives1 : (List Life)) (offsets21 : (List Int)) : Option ((List Int) × Int) :=
 (Zd lives1 offsets21).bind fun (r23 : Int) =>
 (loopM (fun s : (List Int) × Int × Int => Z1_L2 lives1 s.1 s.2.1 s.2.2) (offsets21, (0 : Int), r23)).bind fun e => Z1_J12 e.1 e.2
def Z1_L1 (lives1 : (List Life)) (offsets11 : (List Int)) (i13 : Int) : Option (((List Int) × Int) ⊕ ((List Int))) :=
 if (decide (i13 < (lives1.length : Int))) = true then (
 if offsets11.length + ([(-1 : Int)] : List Int).length ≤ 17592186044416 then
 some (.inl ((offsets11 ++ ([(-1 : Int)] : List Int)), (w64 (i13 + (1 : Int)))))
 else none)
 else (
 some (.inr offsets11))
def Z1 (lives1 : (List Life)) : Option ((List Int) × Int) :=
 (Z09 lives1).bind fun (r4 : Bool) =>
 if (!r4) = true then (
 some (([] : List Int), (0 : Int)))
 else (
 (loopM (fun s : (List Int) × Int => Z1_L1 lives1 s.1 s.2) (([] : List Int), (0 : Int))).bind fun e => Z1_J1 lives1 e)
def Ze_J2 (r12 : Nest) (r39 : (List Int) × Int) (p68 : (List Int)) : Option (Plan × Bool) :=
 some ((⟨r12, p68, r39.2⟩ : Plan), true)
def Ze_L2 (p34 : (List Int)) (r36 : (List Life)) (r39 : (List Int) × Int) (p54 : (List Int)) (i55 : Int) : Option (((List Int) × Int) ⊕ ((List Int))) :=
 if (decide (i55 < (r36.length : Int))) = true then (
 if (0 ≤ i55 ∧ i55 < (r36.length : Int)) then
 if (0 ≤ i55 ∧ i55 < (r39.1.length : Int)) then
 if (0 ≤ (ix r36 i55).Buffer ∧ (ix r36 i55).Buffer < (p34.length : Int)) then
 some (.inl ((p54.set (ix r36 i55).Buffer.toNat (ix r39.1 i55)), (w64 (i55 + (1 : Int)))))
 else none
 else none
 else none)
 else (
 some (.inr p54))
def Ze_J1 (l1 : Nest) (r12 : Nest) (p34 : (List Int)) : Option (Plan × Bool) :=
 (Zn l1).bind fun (r36 : (List Life)) =>
 (Z1 r36).bind fun (r39 : (List Int) × Int) =>
 (loopM (fun s : (List Int) × Int => Ze_L2 p34 r36 r39 s.1 s.2) (p34, (0 : Int))).bind fun e => Ze_J2 r12 r39 e
def Ze_L1 (l1 : Nest) (p24 : (List Int)) (b26 : Int) : Option (((List Int) × Int) ⊕ ((List Int))) :=
 if (decide (b26 < (l1.Sizes.length : Int))) = true then (
 if p24.length + ([(-1 : Int)] : List Int).length ≤ 17592186044416 then
 some (.inl ((p24 ++ ([(-1 : Int)] : List Int)), (w64 (b26 + (1 : Int)))))
 else none)
 else (
 some (.inr p24))
def Ze (l1 : Nest) : Option (Plan × Bool) :=
 (Z3 l1).bind fun (r9 : Bool) =>
 if (!r9) = true then (
 some ((⟨(⟨([] : List Int), ([] : List Int), ([] : List Fix), ([] : List Kernel), ([] : List Int)⟩ : Nest), ([] : List Int), (0 : Int)⟩ : Plan), false))
 else (
 (Zg l1).bind fun (r12 : Nest) =>
 (loopM (fun s : (List Int) × Int => Ze_L1 l1 s.1 s.2) (([] : List Int), (0 : Int))).bind fun e => Ze_J1 l1 r12 e)
def Z15 (b1 : Int) (p2 : (List Bool)) : Option (Bool × (List Bool)) :=
 if ((decide (b1 < (0 : Int))) || (decide (b1 ≥ (p2.length : Int)))) = false → (0 ≤ b1 ∧ b1 < (p2.length : Int)) then
 if (((decide (b1 < (0 : Int))) || (decide (b1 ≥ (p2.length : Int)))) || (ix p2 b1)) = true then (
 some (false, p2))
 else (
 if (0 ≤ b1 ∧ b1 < (p2.length : Int)) then
 some (true, (p2.set b1.toNat true))
 else none)
 else none
def Z1o (p1 : Int) : Option (Bool) :=
 some ((decide (p1 ≥ (0 : Int))) && (decide (p1 < (2147483647 : Int))))
def Z0n_J1 : Option (Bool) :=
 some true
def Z0n_L1 (xs1 : (List Int)) (x10 : Int) : Option ((Int) ⊕ ((Bool) ⊕ (Unit))) :=
 if (decide (x10 < (xs1.length : Int))) = true then (
 if (0 ≤ x10 ∧ x10 < (xs1.length : Int)) then
 (Z1o (ix xs1 x10)).bind fun (r15 : Bool) =>
 if (!r15) = true then (
 some (.inr (.inl false)))
 else (
 some (.inl (w64 (x10 + (1 : Int)))))
 else none)
 else (
 some (.inr (.inr ())))
def Z0n (xs1 : (List Int)) : Option (Bool) :=
 (loopM (fun s : Int => Z0n_L1 xs1 s) (0 : Int)).bind fun e => match e with
 | .inl e => some e
 | .inr e => Z0n_J1
def Z9_J2 (x79 : (List Bool)) : Option ((List Bool) × Bool) :=
 some (x79, true)
def Z9_L2 (l1 : Nest) (x53 : (List Bool)) (x56 : Int) : Option (((List Bool) × Int) ⊕ (((List Bool) × Bool) ⊕ ((List Bool)))) :=
 if (decide (x56 < (l1.Fixed.length : Int))) = true then (
 if (0 ≤ x56 ∧ x56 < (l1.Fixed.length : Int)) then
 (Z15 ((ix l1.Fixed x56).Buffer) x53).bind fun (r63 : Bool × (List Bool)) =>
 if (!r63.1) = false → (0 ≤ (ix l1.Fixed x56).Buffer ∧ (ix l1.Fixed x56).Buffer < (l1.Sizes.length : Int)) then
 (gcall (!((!r63.1) || ((((ix l1.Fixed x56).Data).length : Int) != (ix l1.Sizes (ix l1.Fixed x56).Buffer)))) (Z0n ((ix l1.Fixed x56).Data))).bind fun (r69 : Bool) =>
 if (((!r63.1) || ((((ix l1.Fixed x56).Data).length : Int) != (ix l1.Sizes (ix l1.Fixed x56).Buffer))) || (!r69)) = true then (
 some (.inr (.inl (([] : List Bool), false))))
 else (
 some (.inl (r63.2, (w64 (x56 + (1 : Int))))))
 else none
 else none)
 else (
 some (.inr (.inr x53)))
def Z9_J1 (l1 : Nest) (x33 : (List Bool)) : Option ((List Bool) × Bool) :=
 (loopM (fun s : (List Bool) × Int => Z9_L2 l1 s.1 s.2) (x33, (0 : Int))).bind fun e => match e with
 | .inl e => some e
 | .inr e => Z9_J2 e
def Z9_L1 (l1 : Nest) (x19 : (List Bool)) (x21 : Int) : Option (((List Bool) × Int) ⊕ (((List Bool) × Bool) ⊕ ((List Bool)))) :=
 if (decide (x21 < (l1.Ins.length : Int))) = true then (
 if (0 ≤ x21 ∧ x21 < (l1.Ins.length : Int)) then
 (Z15 (ix l1.Ins x21) x19).bind fun (r26 : Bool × (List Bool)) =>
 if (!r26.1) = true then (
 some (.inr (.inl (([] : List Bool), false))))
 else (
 some (.inl (r26.2, (w64 (x21 + (1 : Int))))))
 else none)
 else (
 some (.inr (.inr x19)))
def Z9 (l1 : Nest) : Option ((List Bool) × Bool) :=
 if (0 ≤ (l1.Sizes.length : Int) ∧ (l1.Sizes.length : Int) ≤ 140737488355328 ∧ 1 * (l1.Sizes.length : Int) ≤ 281474976710656) then
 (loopM (fun s : (List Bool) × Int => Z9_L1 l1 s.1 s.2) ((List.replicate (l1.Sizes.length : Int).toNat false), (0 : Int))).bind fun e => match e with
 | .inl e => some e
 | .inr e => Z9_J1 l1 e
 else none
def Z03_J1 (loops1 : (List Int)) (n24 : Int) : Option (Int × Bool) :=
 some (n24, (decide ((loops1.length : Int) ≤ (12 : Int))))
def Z03_L1 (loops1 : (List Int)) (n11 : Int) (x12 : Int) : Option ((Int × Int) ⊕ ((Int × Bool) ⊕ (Int))) :=
 if (decide (x12 < (loops1.length : Int))) = true then (
 if (0 ≤ x12 ∧ x12 < (loops1.length : Int)) then
 if ((decide ((ix loops1 x12) < (1 : Int))) || (decide ((ix loops1 x12) > (65536 : Int)))) = true then (
 some (.inr (.inl ((0 : Int), false))))
 else (
 if (decide ((w64 (n11 * (ix loops1 x12))) > (65536 : Int))) = true then (
 some (.inr (.inl ((0 : Int), false))))
 else (
 some (.inl ((w64 (n11 * (ix loops1 x12))), (w64 (x12 + (1 : Int)))))))
 else none)
 else (
 some (.inr (.inr n11)))
def Z03 (loops1 : (List Int)) : Option (Int × Bool) :=
 (loopM (fun s : Int × Int => Z03_L1 loops1 s.1 s.2) ((1 : Int), (0 : Int))).bind fun e => match e with
 | .inl e => some e
 | .inr e => Z03_J1 loops1 e
def Zb_J7 : Option (Bool) :=
 some true
def Zb_J6 (x35 : Int) (ok62 : Bool) : Option ((Int) ⊕ ((Bool) ⊕ (Unit))) :=
 if (!ok62) = true then (
 some (.inr (.inl false)))
 else (
 some (.inl (w64 (x35 + (1 : Int)))))
def Zb_J5 (code1 : (List Calc)) (x35 : Int) (x58 : Bool) : Option ((Int) ⊕ ((Bool) ⊕ (Unit))) :=
 if x58 = true then (
 Zb_J6 x35 (((decide ((ix code1 x35).A ≥ (0 : Int))) && (decide ((ix code1 x35).A < x35))) && ((ix code1 x35).B == (0 : Int))))
 else (
 Zb_J6 x35 false)
def Zb_J4 (code1 : (List Calc)) (x35 : Int) (x50 : Bool) : Option ((Int) ⊕ ((Bool) ⊕ (Unit))) :=
 if x50 = true then (
 Zb_J6 x35 ((((decide ((ix code1 x35).A ≥ (0 : Int))) && (decide ((ix code1 x35).A < x35))) && (decide ((ix code1 x35).B ≥ (0 : Int)))) && (decide ((ix code1 x35).B < x35))))
 else (
 if ((ix code1 x35).Op == (6 : Int)) = true then (
 Zb_J5 code1 x35 ((ix code1 x35).Op == (6 : Int)))
 else (
 if ((ix code1 x35).Op == (7 : Int)) = true then (
 Zb_J5 code1 x35 ((ix code1 x35).Op == (7 : Int)))
 else (
 if ((ix code1 x35).Op == (8 : Int)) = true then (
 Zb_J5 code1 x35 ((ix code1 x35).Op == (8 : Int)))
 else (
 Zb_J5 code1 x35 ((ix code1 x35).Op == (9 : Int))))))
def Zb_L1 (code1 : (List Calc)) (loads3 : Int) (x35 : Int) : Option ((Int) ⊕ ((Bool) ⊕ (Unit))) :=
 if (decide (x35 < (code1.length : Int))) = true then (
 if (0 ≤ x35 ∧ x35 < (code1.length : Int)) then
 if ((ix code1 x35).Op == (1 : Int)) = true then (
 Zb_J6 x35 (((decide ((ix code1 x35).A ≥ (0 : Int))) && (decide ((ix code1 x35).A < loads3))) && ((ix code1 x35).B == (0 : Int))))
 else (
 if ((ix code1 x35).Op == (2 : Int)) = true then (
 (Z1o ((ix code1 x35).A)).bind fun (r45 : Bool) =>
 Zb_J6 x35 (r45 && ((ix code1 x35).B == (0 : Int))))
 else (
 if ((ix code1 x35).Op == (3 : Int)) = true then (
 Zb_J4 code1 x35 ((ix code1 x35).Op == (3 : Int)))
 else (
 if ((ix code1 x35).Op == (4 : Int)) = true then (
 Zb_J4 code1 x35 ((ix code1 x35).Op == (4 : Int)))
 else (
 Zb_J4 code1 x35 ((ix code1 x35).Op == (5 : Int))))))
 else none)
 else (
 some (.inr (.inr ())))
def Zb (code1 : (List Calc)) (loads3 : Int) : Option (Bool) :=
 if ((decide ((code1.length : Int) < (1 : Int))) || (decide ((code1.length : Int) > (60 : Int)))) = true then (
 some false)
 else (
 (loopM (fun s : Int => Zb_L1 code1 loads3 s) (0 : Int)).bind fun e => match e with
 | .inl e => some e
 | .inr e => Zb_J7)
def Z1q (s1 : List Access) : Option (List Access) :=
 if s1.length ≤ 3518437208883 then some s1 else none
def Z02_J1 (size5 : Int) (lo46 : Int) (hi47 : Int) : Option (Bool) :=
 some ((decide (lo46 ≥ (0 : Int))) && (decide (hi47 < size5)))
def Z02_L1 (a1 : Access) (loops3 : (List Int)) (lo24 : Int) (hi25 : Int) (x27 : Int) : Option ((Int × Int × Int) ⊕ ((Bool) ⊕ (Int × Int))) :=
 if (decide (x27 < (a1.Steps.length : Int))) = true then (
 if (0 ≤ x27 ∧ x27 < (a1.Steps.length : Int)) then
 if ((decide ((ix a1.Steps x27) < (-4096 : Int))) || (decide ((ix a1.Steps x27) > (4096 : Int)))) = false → (0 ≤ x27 ∧ x27 < (loops3.length : Int)) then
 if (((decide ((ix a1.Steps x27) < (-4096 : Int))) || (decide ((ix a1.Steps x27) > (4096 : Int)))) || (((ix loops3 x27) == (1 : Int)) && ((ix a1.Steps x27) != (0 : Int)))) = true then (
 some (.inr (.inl false)))
 else (
 if (0 ≤ x27 ∧ x27 < (loops3.length : Int)) then
 some (.inl ((w64 (lo24 + (if (w64 ((ix a1.Steps x27) * (w64 ((ix loops3 x27) - (1 : Int))))) < (0 : Int) then (w64 ((ix a1.Steps x27) * (w64 ((ix loops3 x27) - (1 : Int))))) else (0 : Int)))), (w64 (hi25 + (if (w64 ((ix a1.Steps x27) * (w64 ((ix loops3 x27) - (1 : Int))))) > (0 : Int) then (w64 ((ix a1.Steps x27) * (w64 ((ix loops3 x27) - (1 : Int))))) else (0 : Int)))), (w64 (x27 + (1 : Int)))))
 else none)
 else none
 else none)
 else (
 some (.inr (.inr (lo24, hi25))))
def Z02 (a1 : Access) (loops3 : (List Int)) (size5 : Int) : Option (Bool) :=
 if ((((a1.Steps.length : Int) != (loops3.length : Int)) || (decide (a1.Offset < (0 : Int)))) || (decide (a1.Offset ≥ size5))) = true then (
 some false)
 else (
 (loopM (fun s : Int × Int × Int => Z02_L1 a1 loops3 s.1 s.2.1 s.2.2) (a1.Offset, a1.Offset, (0 : Int))).bind fun e => match e with
 | .inl e => some e
 | .inr e => Z02_J1 size5 e.1 e.2)
def Zk_J2 (k7 : Kernel) (given12 : (List Bool)) (r16 : Int × Bool) : Option (Int × Bool) :=
 if (0 ≤ k7.Store.Buffer ∧ k7.Store.Buffer < (given12.length : Int)) then
 some (r16.1, (!(ix given12 k7.Store.Buffer)))
 else none
def Zk_L2 (k7 : Kernel) (x69 : Int) : Option ((Int) ⊕ ((Int × Bool) ⊕ (Unit))) :=
 if (decide (x69 < (k7.Loads.length : Int))) = true then (
 if (0 ≤ x69 ∧ x69 < (k7.Loads.length : Int)) then
 if ((ix k7.Loads x69).Buffer == k7.Store.Buffer) = true then (
 some (.inr (.inl ((0 : Int), false))))
 else (
 some (.inl (w64 (x69 + (1 : Int)))))
 else none)
 else (
 some (.inr (.inr ())))
def Zk_J1 (k7 : Kernel) (given12 : (List Bool)) (r16 : Int × Bool) : Option (Int × Bool) :=
 (loopM (fun s : Int => Zk_L2 k7 s) (0 : Int)).bind fun e => match e with
 | .inl e => some e
 | .inr e => Zk_J2 k7 given12 r16
def Zk_L1 (l1 : Nest) (k7 : Kernel) (r23 : (List Access)) (x45 : Int) : Option ((Int) ⊕ ((Int × Bool) ⊕ (Unit))) :=
 if (decide (x45 < ((r23 ++ ([k7.Store] : List Access)).length : Int))) = true then (
 if (0 ≤ x45 ∧ x45 < ((r23 ++ ([k7.Store] : List Access)).length : Int)) then
 if ((decide ((ix (r23 ++ ([k7.Store] : List Access)) x45).Buffer < (0 : Int))) || (decide ((ix (r23 ++ ([k7.Store] : List Access)) x45).Buffer ≥ (l1.Sizes.length : Int)))) = false → (0 ≤ (ix (r23 ++ ([k7.Store] : List Access)) x45).Buffer ∧ (ix (r23 ++ ([k7.Store] : List Access)) x45).Buffer < (l1.Sizes.length : Int)) then
 (gcall (!((decide ((ix (r23 ++ ([k7.Store] : List Access)) x45).Buffer < (0 : Int))) || (decide ((ix (r23 ++ ([k7.Store] : List Access)) x45).Buffer ≥ (l1.Sizes.length : Int))))) (Z02 (ix (r23 ++ ([k7.Store] : List Access)) x45) k7.Loops (ix l1.Sizes (ix (r23 ++ ([k7.Store] : List Access)) x45).Buffer))).bind fun (r55 : Bool) =>
 if (((decide ((ix (r23 ++ ([k7.Store] : List Access)) x45).Buffer < (0 : Int))) || (decide ((ix (r23 ++ ([k7.Store] : List Access)) x45).Buffer ≥ (l1.Sizes.length : Int)))) || (!r55)) = true then (
 some (.inr (.inl ((0 : Int), false))))
 else (
 some (.inl (w64 (x45 + (1 : Int)))))
 else none
 else none)
 else (
 some (.inr (.inr ())))
def Zk (l1 : Nest) (k7 : Kernel) (given12 : (List Bool)) : Option (Int × Bool) :=
 (Z03 k7.Loops).bind fun (r16 : Int × Bool) =>
 (gcall (!((!r16.2) || (decide ((k7.Loads.length : Int) > (30 : Int))))) (Zb k7.Code (k7.Loads.length : Int))).bind fun (r18 : Bool) =>
 if (((!r16.2) || (decide ((k7.Loads.length : Int) > (30 : Int)))) || (!r18)) = true then (
 some ((0 : Int), false))
 else (
 (Z1q k7.Loads).bind fun (r23 : (List Access)) =>
 if r23.length + ([k7.Store] : List Access).length ≤ 3518437208883 then
 (loopM (fun s : Int => Zk_L1 l1 k7 r23 s) (0 : Int)).bind fun e => match e with
 | .inl e => some e
 | .inr e => Zk_J1 k7 given12 r16
 else none)
def Z4_J3 (sum76 : Int) : Option (Bool) :=
 some (decide (sum76 ≤ (1000000 : Int)))
def Z4_L3 (l1 : Nest) (r44 : (List Bool) × Bool) (sum60 : Int) (x61 : Int) : Option ((Int × Int) ⊕ ((Bool) ⊕ (Int))) :=
 if (decide (x61 < (l1.Kernels.length : Int))) = true then (
 if (0 ≤ x61 ∧ x61 < (l1.Kernels.length : Int)) then
 (Zk l1 (ix l1.Kernels x61) r44.1).bind fun (r71 : Int × Bool) =>
 if (!r71.2) = true then (
 some (.inr (.inl false)))
 else (
 some (.inl ((w64 (sum60 + r71.1)), (w64 (x61 + (1 : Int))))))
 else none)
 else (
 some (.inr (.inr sum60)))
def Z4_J2 (l1 : Nest) : Option (Bool) :=
 (Z9 l1).bind fun (r44 : (List Bool) × Bool) =>
 if (!r44.2) = true then (
 some false)
 else (
 (loopM (fun s : Int × Int => Z4_L3 l1 r44 s.1 s.2) ((0 : Int), (0 : Int))).bind fun e => match e with
 | .inl e => some e
 | .inr e => Z4_J3 e)
def Z4_L2 (l1 : Nest) (x35 : Int) : Option ((Int) ⊕ ((Bool) ⊕ (Unit))) :=
 if (decide (x35 < (l1.Outs.length : Int))) = true then (
 if (0 ≤ x35 ∧ x35 < (l1.Outs.length : Int)) then
 if ((decide ((ix l1.Outs x35) < (0 : Int))) || (decide ((ix l1.Outs x35) ≥ (l1.Sizes.length : Int)))) = true then (
 some (.inr (.inl false)))
 else (
 some (.inl (w64 (x35 + (1 : Int)))))
 else none)
 else (
 some (.inr (.inr ())))
def Z4_J1 (l1 : Nest) : Option (Bool) :=
 (loopM (fun s : Int => Z4_L2 l1 s) (0 : Int)).bind fun e => match e with
 | .inl e => some e
 | .inr e => Z4_J2 l1
def Z4_L1 (l1 : Nest) (x19 : Int) : Option ((Int) ⊕ ((Bool) ⊕ (Unit))) :=
 if (decide (x19 < (l1.Sizes.length : Int))) = true then (
 if (0 ≤ x19 ∧ x19 < (l1.Sizes.length : Int)) then
 if ((decide ((ix l1.Sizes x19) < (0 : Int))) || (decide ((ix l1.Sizes x19) > (4096 : Int)))) = true then (
 some (.inr (.inl false)))
 else (
 some (.inl (w64 (x19 + (1 : Int)))))
 else none)
 else (
 some (.inr (.inr ())))
def Z4 (l1 : Nest) : Option (Bool) :=
 if ((((decide ((l1.Sizes.length : Int) > (200 : Int))) || (decide ((l1.Ins.length : Int) > (40 : Int)))) || (decide ((l1.Outs.length : Int) > (40 : Int)))) || (decide ((l1.Kernels.length : Int) > (400 : Int)))) = true then (
 some false)
 else (
 (loopM (fun s : Int => Z4_L1 l1 s) (0 : Int)).bind fun e => match e with
 | .inl e => some e
 | .inr e => Z4_J1 l1)
def Z1y (b1 : Bool) : Option (Int) :=
 if b1 = true then (
 some (1 : Int))
 else (
 some (0 : Int))
def Z08_J1 (n28 : Int) : Option (Int) :=
 some n28
def Z08_L1 (k1 : Kernel) (b6 : Int) (n16 : Int) (x17 : Int) : Option ((Int × Int) ⊕ (Int)) :=
 if (decide (x17 < (k1.Loads.length : Int))) = true then (
 if (0 ≤ x17 ∧ x17 < (k1.Loads.length : Int)) then
 (Z1y ((ix k1.Loads x17).Buffer == b6)).bind fun (r24 : Int) =>
 some (.inl ((w64 (n16 + r24)), (w64 (x17 + (1 : Int)))))
 else none)
 else (
 some (.inr n16))
def Z08 (k1 : Kernel) (b6 : Int) : Option (Int) :=
 (loopM (fun s : Int × Int => Z08_L1 k1 b6 s.1 s.2) ((0 : Int), (0 : Int))).bind fun e => Z08_J1 e
def Z0m_J1 : Option (Int) :=
 some (-1 : Int)
def Z0m_L1 (p1 : (List Int)) (v3 : Int) (x9 : Int) : Option ((Int) ⊕ ((Int) ⊕ (Unit))) :=
 if (decide (x9 < (p1.length : Int))) = true then (
 if (0 ≤ x9 ∧ x9 < (p1.length : Int)) then
 if (v3 == (ix p1 x9)) = true then (
 some (.inr (.inl x9)))
 else (
 some (.inl (w64 (x9 + (1 : Int)))))
 else none)
 else (
 some (.inr (.inr ())))
def Z0m (p1 : (List Int)) (v3 : Int) : Option (Int) :=
 (loopM (fun s : Int => Z0m_L1 p1 v3 s) (0 : Int)).bind fun e => match e with
 | .inl e => some e
 | .inr e => Z0m_J1
def Z1t (p1 : (List Int)) (v3 : Int) : Option (Bool) :=
 (Z0m p1 v3).bind fun (r4 : Int) =>
 some (decide (r4 ≥ (0 : Int)))
def Z2_J17 (x164 : (List Life)) : Option ((List Life)) :=
 some x164
def Z2_J16 (x87 : Int) (x157 : (List Life)) : Option (((List Life) × Int) ⊕ ((List Life))) :=
 some (.inl (x157, (w64 (x87 + (1 : Int)))))
def Z2_J15 (l1 : Nest) (x84 : (List Life)) (x87 : Int) (x151 : Int) (to153 : Int) : Option (((List Life) × Int) ⊕ ((List Life))) :=
 if x84.length + ([(⟨x87, (ix l1.Sizes x87), (if (0 : Int) > x151 then (0 : Int) else x151), (if (0 : Int) > to153 then (0 : Int) else to153)⟩ : Life)] : List Life).length ≤ 4398046511104 then
 Z2_J16 x87 (x84 ++ ([(⟨x87, (ix l1.Sizes x87), (if (0 : Int) > x151 then (0 : Int) else x151), (if (0 : Int) > to153 then (0 : Int) else to153)⟩ : Life)] : List Life))
 else none
def Z2_J14 (l1 : Nest) (x84 : (List Life)) (x87 : Int) (to137 : Int) (r138 : Bool) (x151 : Int) : Option (((List Life) × Int) ⊕ ((List Life))) :=
 if r138 = true then (
 Z2_J15 l1 x84 x87 x151 (l1.Kernels.length : Int))
 else (
 Z2_J15 l1 x84 x87 x151 to137)
def Z2_J13 (l1 : Nest) (r8 : (List Bool) × Bool) (x84 : (List Life)) (x87 : Int) (x136 : Int) (to137 : Int) : Option (((List Life) × Int) ⊕ ((List Life))) :=
 (Z1t l1.Outs x87).bind fun (r138 : Bool) =>
 if ((ix l1.Sizes x87) == (0 : Int)) = false → (decide (x136 < (0 : Int))) = true → (0 ≤ x87 ∧ x87 < (r8.1.length : Int)) then
 if (((ix l1.Sizes x87) == (0 : Int)) || (((decide (x136 < (0 : Int))) && (!(ix r8.1 x87))) && (!r138))) = true then (
 Z2_J16 x87 x84)
 else (
 if (0 ≤ x87 ∧ x87 < (r8.1.length : Int)) then
 if (ix r8.1 x87) = true then (
 Z2_J14 l1 x84 x87 to137 r138 (0 : Int))
 else (
 Z2_J14 l1 x84 x87 to137 r138 x136)
 else none)
 else none
def Z2_J12 (x113 : Int) (x129 : Int) (to130 : Int) : Option ((Int × Int × Int) ⊕ (Int × Int)) :=
 some (.inl (x129, to130, (w64 (x113 + (1 : Int)))))
def Z2_J11 (x113 : Int) (x128 : Int) : Option ((Int × Int × Int) ⊕ (Int × Int)) :=
 Z2_J12 x113 x128 x113
def Z2_L2 (l1 : Nest) (x87 : Int) (x110 : Int) (to111 : Int) (x113 : Int) : Option ((Int × Int × Int) ⊕ (Int × Int)) :=
 if (decide (x113 < (l1.Kernels.length : Int))) = true then (
 if (0 ≤ x113 ∧ x113 < (l1.Kernels.length : Int)) then
 (gcall (!((ix l1.Kernels x113).Store.Buffer == x87)) (Z08 (ix l1.Kernels x113) x87)).bind fun (r123 : Int) =>
 if (((ix l1.Kernels x113).Store.Buffer == x87) || (decide (r123 > (0 : Int)))) = true then (
 if (decide (x110 < (0 : Int))) = true then (
 Z2_J11 x113 x113)
 else (
 Z2_J11 x113 x110))
 else (
 Z2_J12 x113 x110 to111)
 else none)
 else (
 some (.inr (x110, to111)))
def Z2_L1 (l1 : Nest) (r8 : (List Bool) × Bool) (x84 : (List Life)) (x87 : Int) : Option (((List Life) × Int) ⊕ ((List Life))) :=
 if (decide (x87 < (l1.Sizes.length : Int))) = true then (
 if (0 ≤ x87 ∧ x87 < (l1.Sizes.length : Int)) then
 (loopM (fun s : Int × Int × Int => Z2_L2 l1 x87 s.1 s.2.1 s.2.2) ((-1 : Int), (-1 : Int), (0 : Int))).bind fun e => Z2_J13 l1 r8 x84 x87 e.1 e.2
 else none)
 else (
 some (.inr x84))
def Z2 (l1 : Nest) : Option ((List Life)) :=
 (Z9 l1).bind fun (r8 : (List Bool) × Bool) =>
 (loopM (fun s : (List Life) × Int => Z2_L1 l1 r8 s.1 s.2) (([] : List Life), (0 : Int))).bind fun e => Z2_J17 e
def Z00_J1 (lives1 : (List Life)) : Option (Bool) :=
 some (decide ((lives1.length : Int) ≤ (200 : Int)))
def Z00_L1 (lives1 : (List Life)) (x14 : Int) : Option ((Int) ⊕ ((Bool) ⊕ (Unit))) :=
 if (decide (x14 < (lives1.length : Int))) = true then (
 if (0 ≤ x14 ∧ x14 < (lives1.length : Int)) then
 if (((((decide ((ix lives1 x14).Size < (1 : Int))) || (decide ((ix lives1 x14).Size > (4096 : Int)))) || (decide ((ix lives1 x14).From < (0 : Int)))) || (decide ((ix lives1 x14).From > (ix lives1 x14).To))) || (decide ((ix lives1 x14).To > (400 : Int)))) = true then (
 some (.inr (.inl false)))
 else (
 some (.inl (w64 (x14 + (1 : Int)))))
 else none)
 else (
 some (.inr (.inr ())))
def Z00 (lives1 : (List Life)) : Option (Bool) :=
 (loopM (fun s : Int => Z00_L1 lives1 s) (0 : Int)).bind fun e => match e with
 | .inl e => some e
 | .inr e => Z00_J1 lives1
def Z1g (p1 : Int) : Option (Bool) :=
 some (p1 != p1)
def Z1a (p1 : Int) (y2 : Int) : Option (Int) :=
 (Z1g p1).bind fun (r3 : Bool) =>
 (Z1g y2).bind fun (r5 : Bool) =>
 if r3 = true then (
 if r5 = true then (
 some (0 : Int))
 else (
 some (-1 : Int)))
 else (
 if r5 = true then (
 some (1 : Int))
 else (
 if (decide (p1 < y2)) = true then (
 some (-1 : Int))
 else (
 if (decide (p1 > y2)) = true then (
 some (1 : Int))
 else (
 some (0 : Int)))))
def Zq_J1 : Option (Int) :=
 some (0 : Int)
def Zq_L1 (vals1 : (List Int)) (x8 : Int) : Option ((Int) ⊕ ((Int) ⊕ (Unit))) :=
 if (decide (x8 < (vals1.length : Int))) = true then (
 if (0 ≤ x8 ∧ x8 < (vals1.length : Int)) then
 if ((ix vals1 x8) != (0 : Int)) = true then (
 some (.inr (.inl (ix vals1 x8))))
 else (
 some (.inl (w64 (x8 + (1 : Int)))))
 else none)
 else (
 some (.inr (.inr ())))
def Zq (vals1 : (List Int)) : Option (Int) :=
 (loopM (fun s : Int => Zq_L1 vals1 s) (0 : Int)).bind fun e => match e with
 | .inl e => some e
 | .inr e => Zq_J1
def Z26 (a1 : Life) (b2 : Life) : Option (Int) :=
 (Z1a b2.Size a1.Size).bind fun (r5 : Int) =>
 (Z1a a1.From b2.From).bind fun (r7 : Int) =>
 (Zq ([r5, r7] : List Int)).bind fun (r10 : Int) =>
 some r10
def Z0z (i1 : Int) (j2 : Int) (p5 : (List Life)) : Option (Int) :=
 if (0 ≤ i1 ∧ i1 < (p5.length : Int)) then
 if (0 ≤ j2 ∧ j2 < (p5.length : Int)) then
 (Z26 (ix p5 i1) (ix p5 j2)).bind fun (r12 : Int) =>
 some r12
 else none
 else none
def Z0i_J2 (i46 : Int) (data80 : (List Int)) : Option (((List Int) × Int) ⊕ ((List Int))) :=
 some (.inl (data80, (w64 (i46 + (1 : Int)))))
def Z0i_L2 (data1 : (List Int)) (a3 : Int) (q8 : (List Life)) (data62 : (List Int)) (j63 : Int) : Option (((List Int) × Int) ⊕ ((List Int))) :=
 if (decide (j63 > a3)) = true → (0 ≤ j63 ∧ j63 < (data1.length : Int)) then
 if (decide (j63 > a3)) = true → (0 ≤ (w64 (j63 - (1 : Int))) ∧ (w64 (j63 - (1 : Int))) < (data1.length : Int)) then
 (gcall (decide (j63 > a3)) (Z0z (ix data62 j63) (ix data62 (w64 (j63 - (1 : Int)))) q8)).bind fun (r68 : Int) =>
 if ((decide (j63 > a3)) && (decide (r68 < (0 : Int)))) = true then (
 if (0 ≤ (w64 (j63 - (1 : Int))) ∧ (w64 (j63 - (1 : Int))) < (data1.length : Int)) then
 if (0 ≤ j63 ∧ j63 < (data1.length : Int)) then
 (nm ((data62.set j63.toNat (ix data62 (w64 (j63 - (1 : Int))))).set (w64 (j63 - (1 : Int))).toNat (ix data62 j63))).bind fun (l76 : (List Int)) =>
 some (.inl (l76, (w64 (j63 - (1 : Int)))))
 else none
 else none)
 else (
 some (.inr data62))
 else none
 else none
def Z0i_L1 (data1 : (List Int)) (a3 : Int) (b4 : Int) (q8 : (List Life)) (data45 : (List Int)) (i46 : Int) : Option (((List Int) × Int) ⊕ ((List Int))) :=
 if (decide (i46 < b4)) = true then (
 (loopM (fun s : (List Int) × Int => Z0i_L2 data1 a3 q8 s.1 s.2) (data45, i46)).bind fun e => Z0i_J2 i46 e)
 else (
 some (.inr data45))
def Z0i (data1 : (List Int)) (a3 : Int) (b4 : Int) (q8 : (List Life)) : Option ((List Int)) :=
 (loopM (fun s : (List Int) × Int => Z0i_L1 data1 a3 b4 q8 s.1 s.2) (data1, (w64 (a3 + (1 : Int))))).bind fun e => some e
def Z10_L1 (data1 : (List Int)) (a3 : Int) (b4 : Int) (n5 : Int) (data19 : (List Int)) (i20 : Int) : Option (((List Int) × Int) ⊕ ((List Int))) :=
 if (decide (i20 < n5)) = true then (
 if (0 ≤ (w64 (b4 + i20)) ∧ (w64 (b4 + i20)) < (data1.length : Int)) then
 if (0 ≤ (w64 (a3 + i20)) ∧ (w64 (a3 + i20)) < (data1.length : Int)) then
 (nm ((data19.set (w64 (a3 + i20)).toNat (ix data19 (w64 (b4 + i20)))).set (w64 (b4 + i20)).toNat (ix data19 (w64 (a3 + i20))))).bind fun (l26 : (List Int)) =>
 some (.inl (l26, (w64 (i20 + (1 : Int)))))
 else none
 else none)
 else (
 some (.inr data19))
def Z10 (data1 : (List Int)) (a3 : Int) (b4 : Int) (n5 : Int) (q9 : (List Life)) : Option ((List Int)) :=
 (loopM (fun s : (List Int) × Int => Z10_L1 data1 a3 b4 n5 s.1 s.2) (data1, (0 : Int))).bind fun e => some e
def Z0y_J1 (m4 : Int) (q9 : (List Life)) (data30 : (List Int)) (i31 : Int) : Option ((List Int)) :=
 (Z10 data30 (w64 (m4 - i31)) m4 i31 q9).bind fun (r32 : (List Int)) =>
 some r32
def Z0y_L1 (m4 : Int) (q9 : (List Life)) (data18 : (List Int)) (i19 : Int) (j20 : Int) : Option (((List Int) × Int × Int) ⊕ ((List Int) × Int)) :=
 if (i19 != j20) = true then (
 if (decide (i19 > j20)) = true then (
 (Z10 data18 (w64 (m4 - i19)) m4 j20 q9).bind fun (r23 : (List Int)) =>
 some (.inl (r23, (w64 (i19 - j20)), j20)))
 else (
 (Z10 data18 (w64 (m4 - i19)) (w64 ((w64 (m4 + j20)) - i19)) i19 q9).bind fun (r25 : (List Int)) =>
 some (.inl (r25, i19, (w64 (j20 - i19))))))
 else (
 some (.inr (data18, i19)))
def Z0y (data1 : (List Int)) (a3 : Int) (m4 : Int) (b5 : Int) (q9 : (List Life)) : Option ((List Int)) :=
 (loopM (fun s : (List Int) × Int × Int => Z0y_L1 m4 q9 s.1 s.2.1 s.2.2) (data1, (w64 (m4 - a3)), (w64 (b5 - m4)))).bind fun e => Z0y_J1 m4 q9 e.1 e.2
def Z0_J10 (p52 : (List Int)) : Option ((List Int)) :=
 some p52
def Z0_L2 (data1 : (List Int)) (i33 : Int) (data41 : (List Int)) (k42 : Int) : Option (((List Int) × Int) ⊕ ((List Int))) :=
 if (decide (k42 < (w64 (i33 - (1 : Int))))) = true then (
 if (0 ≤ (w64 (k42 + (1 : Int))) ∧ (w64 (k42 + (1 : Int))) < (data1.length : Int)) then
 if (0 ≤ k42 ∧ k42 < (data1.length : Int)) then
 (nm ((data41.set k42.toNat (ix data41 (w64 (k42 + (1 : Int))))).set (w64 (k42 + (1 : Int))).toNat (ix data41 k42))).bind fun (l48 : (List Int)) =>
 some (.inl (l48, (w64 (k42 + (1 : Int)))))
 else none
 else none)
 else (
 some (.inr data41))
def Z0_J9 (data1 : (List Int)) (a3 : Int) (i33 : Int) : Option ((List Int)) :=
 (loopM (fun s : (List Int) × Int => Z0_L2 data1 i33 s.1 s.2) (data1, a3)).bind fun e => Z0_J10 e
def Z0_L1 (data1 : (List Int)) (a3 : Int) (q9 : (List Life)) (i21 : Int) (j22 : Int) : Option ((Int × Int) ⊕ (Int)) :=
 if (decide (i21 < j22)) = true then (
 if (0 ≤ (w64 (((IntKind.wrap .u64 ((w64 (i21 + j22)))) / 2 ^ (1 : Int).toNat))) ∧ (w64 (((IntKind.wrap .u64 ((w64 (i21 + j22)))) / 2 ^ (1 : Int).toNat))) < (data1.length : Int)) then
 if (0 ≤ a3 ∧ a3 < (data1.length : Int)) then
 (Z0z (ix data1 (w64 (((IntKind.wrap .u64 ((w64 (i21 + j22)))) / 2 ^ (1 : Int).toNat)))) (ix data1 a3) q9).bind fun (r28 : Int) =>
 if (decide (r28 < (0 : Int))) = true then (
 some (.inl ((w64 ((w64 (((IntKind.wrap .u64 ((w64 (i21 + j22)))) / 2 ^ (1 : Int).toNat))) + (1 : Int))), j22)))
 else (
 some (.inl (i21, (w64 (((IntKind.wrap .u64 ((w64 (i21 + j22)))) / 2 ^ (1 : Int).toNat))))))
 else none
 else none)
 else (
 some (.inr i21))
def Z0_J12 (p93 : (List Int)) : Option ((List Int)) :=
 some p93
def Z0_L4 (data1 : (List Int)) (i74 : Int) (data82 : (List Int)) (k83 : Int) : Option (((List Int) × Int) ⊕ ((List Int))) :=
 if (decide (k83 > i74)) = true then (
 if (0 ≤ (w64 (k83 - (1 : Int))) ∧ (w64 (k83 - (1 : Int))) < (data1.length : Int)) then
 if (0 ≤ k83 ∧ k83 < (data1.length : Int)) then
 (nm ((data82.set k83.toNat (ix data82 (w64 (k83 - (1 : Int))))).set (w64 (k83 - (1 : Int))).toNat (ix data82 k83))).bind fun (l89 : (List Int)) =>
 some (.inl (l89, (w64 (k83 - (1 : Int)))))
 else none
 else none)
 else (
 some (.inr data82))
def Z0_J11 (data1 : (List Int)) (m4 : Int) (i74 : Int) : Option ((List Int)) :=
 (loopM (fun s : (List Int) × Int => Z0_L4 data1 i74 s.1 s.2) (data1, m4)).bind fun e => Z0_J12 e
def Z0_L3 (data1 : (List Int)) (m4 : Int) (q9 : (List Life)) (i62 : Int) (j63 : Int) : Option ((Int × Int) ⊕ (Int)) :=
 if (decide (i62 < j63)) = true then (
 if (0 ≤ m4 ∧ m4 < (data1.length : Int)) then
 if (0 ≤ (w64 (((IntKind.wrap .u64 ((w64 (i62 + j63)))) / 2 ^ (1 : Int).toNat))) ∧ (w64 (((IntKind.wrap .u64 ((w64 (i62 + j63)))) / 2 ^ (1 : Int).toNat))) < (data1.length : Int)) then
 (Z0z (ix data1 m4) (ix data1 (w64 (((IntKind.wrap .u64 ((w64 (i62 + j63)))) / 2 ^ (1 : Int).toNat)))) q9).bind fun (r69 : Int) =>
 if (!(decide (r69 < (0 : Int)))) = true then (
 some (.inl ((w64 ((w64 (((IntKind.wrap .u64 ((w64 (i62 + j63)))) / 2 ^ (1 : Int).toNat))) + (1 : Int))), j63)))
 else (
 some (.inl (i62, (w64 (((IntKind.wrap .u64 ((w64 (i62 + j63)))) / 2 ^ (1 : Int).toNat))))))
 else none
 else none)
 else (
 some (.inr i62))
def Z0_J16 (a3 : Int) (m4 : Int) (b5 : Int) (q9 : (List Life)) (rf : (List Int) → Int → Int → Int → (List Life) → Option ((List Int))) (start117 : Int) (data127 : (List Int)) : Option ((List Int)) :=
 if ((decide ((w64 (((IntKind.wrap .u64 ((w64 (a3 + b5)))) / 2 ^ (1 : Int).toNat))) < (w64 ((w64 ((w64 (((IntKind.wrap .u64 ((w64 (a3 + b5)))) / 2 ^ (1 : Int).toNat))) + m4)) - start117)))) && (decide ((w64 ((w64 ((w64 (((IntKind.wrap .u64 ((w64 (a3 + b5)))) / 2 ^ (1 : Int).toNat))) + m4)) - start117)) < b5))) = true then (
 (rf data127 (w64 (((IntKind.wrap .u64 ((w64 (a3 + b5)))) / 2 ^ (1 : Int).toNat))) (w64 ((w64 ((w64 (((IntKind.wrap .u64 ((w64 (a3 + b5)))) / 2 ^ (1 : Int).toNat))) + m4)) - start117)) b5 q9).bind fun (r130 : (List Int)) =>
 some r130)
 else (
 some data127)
def Z0_J15 (a3 : Int) (m4 : Int) (b5 : Int) (q9 : (List Life)) (rf : (List Int) → Int → Int → Int → (List Life) → Option ((List Int))) (start117 : Int) (data122 : (List Int)) : Option ((List Int)) :=
 if ((decide (a3 < start117)) && (decide (start117 < (w64 (((IntKind.wrap .u64 ((w64 (a3 + b5)))) / 2 ^ (1 : Int).toNat)))))) = true then (
 (rf data122 a3 start117 (w64 (((IntKind.wrap .u64 ((w64 (a3 + b5)))) / 2 ^ (1 : Int).toNat))) q9).bind fun (r125 : (List Int)) =>
 Z0_J16 a3 m4 b5 q9 rf start117 r125)
 else (
 Z0_J16 a3 m4 b5 q9 rf start117 data122)
def Z0_J14 (data1 : (List Int)) (a3 : Int) (m4 : Int) (b5 : Int) (q9 : (List Life)) (rf : (List Int) → Int → Int → Int → (List Life) → Option ((List Int))) (start117 : Int) : Option ((List Int)) :=
 if ((decide (start117 < m4)) && (decide (m4 < (w64 ((w64 ((w64 (((IntKind.wrap .u64 ((w64 (a3 + b5)))) / 2 ^ (1 : Int).toNat))) + m4)) - start117))))) = true then (
 (Z0y data1 start117 m4 (w64 ((w64 ((w64 (((IntKind.wrap .u64 ((w64 (a3 + b5)))) / 2 ^ (1 : Int).toNat))) + m4)) - start117)) q9).bind fun (r120 : (List Int)) =>
 Z0_J15 a3 m4 b5 q9 rf start117 r120)
 else (
 Z0_J15 a3 m4 b5 q9 rf start117 data1)
def Z0_L5 (data1 : (List Int)) (a3 : Int) (m4 : Int) (b5 : Int) (q9 : (List Life)) (start105 : Int) (r106 : Int) : Option ((Int × Int) ⊕ (Int)) :=
 if (decide (start105 < r106)) = true then (
 if (0 ≤ (w64 ((w64 ((w64 ((w64 (((IntKind.wrap .u64 ((w64 (a3 + b5)))) / 2 ^ (1 : Int).toNat))) + m4)) - (1 : Int))) - (w64 (((IntKind.wrap .u64 ((w64 (start105 + r106)))) / 2 ^ (1 : Int).toNat))))) ∧ (w64 ((w64 ((w64 ((w64 (((IntKind.wrap .u64 ((w64 (a3 + b5)))) / 2 ^ (1 : Int).toNat))) + m4)) - (1 : Int))) - (w64 (((IntKind.wrap .u64 ((w64 (start105 + r106)))) / 2 ^ (1 : Int).toNat))))) < (data1.length : Int)) then
 if (0 ≤ (w64 (((IntKind.wrap .u64 ((w64 (start105 + r106)))) / 2 ^ (1 : Int).toNat))) ∧ (w64 (((IntKind.wrap .u64 ((w64 (start105 + r106)))) / 2 ^ (1 : Int).toNat))) < (data1.length : Int)) then
 (Z0z (ix data1 (w64 ((w64 ((w64 ((w64 (((IntKind.wrap .u64 ((w64 (a3 + b5)))) / 2 ^ (1 : Int).toNat))) + m4)) - (1 : Int))) - (w64 (((IntKind.wrap .u64 ((w64 (start105 + r106)))) / 2 ^ (1 : Int).toNat)))))) (ix data1 (w64 (((IntKind.wrap .u64 ((w64 (start105 + r106)))) / 2 ^ (1 : Int).toNat)))) q9).bind fun (r112 : Int) =>
 if (!(decide (r112 < (0 : Int)))) = true then (
 some (.inl ((w64 ((w64 (((IntKind.wrap .u64 ((w64 (start105 + r106)))) / 2 ^ (1 : Int).toNat))) + (1 : Int))), r106)))
 else (
 some (.inl (start105, (w64 (((IntKind.wrap .u64 ((w64 (start105 + r106)))) / 2 ^ (1 : Int).toNat))))))
 else none
 else none)
 else (
 some (.inr start105))
def Z0_J13 (data1 : (List Int)) (a3 : Int) (m4 : Int) (b5 : Int) (q9 : (List Life)) (rf : (List Int) → Int → Int → Int → (List Life) → Option ((List Int))) (start95 : Int) (r96 : Int) : Option ((List Int)) :=
 (loopM (fun s : Int × Int => Z0_L5 data1 a3 m4 b5 q9 s.1 s.2) (start95, r96)).bind fun e => Z0_J14 data1 a3 m4 b5 q9 rf e
def Z0_S (rf : (List Int) → Int → Int → Int → (List Life) → Option ((List Int))) (data1 : (List Int)) (a3 : Int) (m4 : Int) (b5 : Int) (q9 : (List Life)) : Option ((List Int)) :=
 if ((w64 (m4 - a3)) == (1 : Int)) = true then (
 (loopM (fun s : Int × Int => Z0_L1 data1 a3 q9 s.1 s.2) (m4, b5)).bind fun e => Z0_J9 data1 a3 e)
 else (
 if ((w64 (b5 - m4)) == (1 : Int)) = true then (
 (loopM (fun s : Int × Int => Z0_L3 data1 m4 q9 s.1 s.2) (a3, m4)).bind fun e => Z0_J11 data1 m4 e)
 else (
 if (decide (m4 > (w64 (((IntKind.wrap .u64 ((w64 (a3 + b5)))) / 2 ^ (1 : Int).toNat))))) = true then (
 Z0_J13 data1 a3 m4 b5 q9 rf (w64 ((w64 ((w64 (((IntKind.wrap .u64 ((w64 (a3 + b5)))) / 2 ^ (1 : Int).toNat))) + m4)) - b5)) (w64 (((IntKind.wrap .u64 ((w64 (a3 + b5)))) / 2 ^ (1 : Int).toNat))))
 else (
 Z0_J13 data1 a3 m4 b5 q9 rf a3 m4)))
def Z0_R : Nat → (List Int) → Int → Int → Int → (List Life) → Option ((List Int))
 | 0 => fun _ _ _ _ _ => none
 | n + 1 => Z0_S (Z0_R n)
def Z0 (data1 : (List Int)) (a3 : Int) (m4 : Int) (b5 : Int) (q9 : (List Life)) : Option ((List Int)) := Z0_R recFuel data1 a3 m4 b5 q9
def Za_J5 (blockSize46 : Int) (data65 : (List Int)) : Option (((List Int) × Int) ⊕ ((List Int))) :=
 some (.inl (data65, (w64 (blockSize46 * (2 : Int)))))
def Za_J4 (n3 : Int) (q7 : (List Life)) (blockSize46 : Int) (data60 : (List Int)) (a61 : Int) : Option (((List Int) × Int) ⊕ ((List Int))) :=
 if (decide ((w64 (a61 + blockSize46)) < n3)) = true then (
 (Z0 data60 a61 (w64 (a61 + blockSize46)) n3 q7).bind fun (r63 : (List Int)) =>
 Za_J5 blockSize46 r63)
 else (
 Za_J5 blockSize46 data60)
def Za_L3 (n3 : Int) (q7 : (List Life)) (blockSize46 : Int) (data51 : (List Int)) (a52 : Int) (b53 : Int) : Option (((List Int) × Int × Int) ⊕ ((List Int) × Int)) :=
 if (decide (b53 ≤ n3)) = true then (
 (Z0 data51 a52 (w64 (a52 + blockSize46)) b53 q7).bind fun (r55 : (List Int)) =>
 some (.inl (r55, b53, (w64 (b53 + (w64 ((2 : Int) * blockSize46)))))))
 else (
 some (.inr (data51, a52)))
def Za_L2 (n3 : Int) (q7 : (List Life)) (data45 : (List Int)) (blockSize46 : Int) : Option (((List Int) × Int) ⊕ ((List Int))) :=
 if (decide (blockSize46 < n3)) = true then (
 (loopM (fun s : (List Int) × Int × Int => Za_L3 n3 q7 blockSize46 s.1 s.2.1 s.2.2) (data45, (0 : Int), (w64 ((2 : Int) * blockSize46)))).bind fun e => Za_J4 n3 q7 blockSize46 e.1 e.2)
 else (
 some (.inr data45))
def Za_J1 (n3 : Int) (q7 : (List Life)) (data22 : (List Int)) (a23 : Int) : Option ((List Int)) :=
 (Z0i data22 a23 n3 q7).bind fun (r24 : (List Int)) =>
 (loopM (fun s : (List Int) × Int => Za_L2 n3 q7 s.1 s.2) (r24, (20 : Int))).bind fun e => some e
def Za_L1 (n3 : Int) (q7 : (List Life)) (data13 : (List Int)) (a14 : Int) (b15 : Int) : Option (((List Int) × Int × Int) ⊕ ((List Int) × Int)) :=
 if (decide (b15 ≤ n3)) = true then (
 (Z0i data13 a14 b15 q7).bind fun (r17 : (List Int)) =>
 some (.inl (r17, b15, (w64 (b15 + (20 : Int))))))
 else (
 some (.inr (data13, a14)))
def Za (data1 : (List Int)) (n3 : Int) (q7 : (List Life)) : Option ((List Int)) :=
 (loopM (fun s : (List Int) × Int × Int => Za_L1 n3 q7 s.1 s.2.1 s.2.2) (data1, (0 : Int), (20 : Int))).bind fun e => Za_J1 n3 q7 e.1 e.2
def Z1w (p1 : (List Int)) (q6 : (List Life)) : Option ((List Int)) :=
 (Za p1 (p1.length : Int) q6).bind fun (r9 : (List Int)) =>
 some r9
def Zz_J1 (list1 : (List Life)) (x22 : (List Int)) : Option ((List Int)) :=
 (Z1w x22 list1).bind fun (r23 : (List Int)) =>
 some r23
def Zz_L1 (list1 : (List Life)) (x14 : (List Int)) (x15 : Int) : Option (((List Int) × Int) ⊕ ((List Int))) :=
 if (decide (x15 < ((List.replicate (list1.length : Int).toNat (0 : Int)).length : Int))) = true then (
 if (0 ≤ x15 ∧ x15 < ((List.replicate (list1.length : Int).toNat (0 : Int)).length : Int)) then
 some (.inl ((x14.set x15.toNat x15), (w64 (x15 + (1 : Int)))))
 else none)
 else (
 some (.inr x14))
def Zz (list1 : (List Life)) : Option ((List Int)) :=
 if (0 ≤ (list1.length : Int) ∧ (list1.length : Int) ≤ 140737488355328 ∧ 8 * (list1.length : Int) ≤ 281474976710656) then
 (loopM (fun s : (List Int) × Int => Zz_L1 list1 s.1 s.2) ((List.replicate (list1.length : Int).toNat (0 : Int)), (0 : Int))).bind fun e => Zz_J1 list1 e
 else none
def Z24 (a1 : Life) (b2 : Life) : Option (Bool) :=
 some ((decide (a1.From ≤ b2.To)) && (decide (b2.From ≤ a1.To)))
def Z1m (s1 : List hole) (i2 j3 : Int) : Option (List hole) :=
 if 0 ≤ i2 ∧ i2 ≤ j3 ∧ j3 ≤ (s1.length : Int) then some (s1.take i2.toNat ++ s1.drop j3.toNat) else none
def Z19 (s1 : List hole) (i2 : Int) (v3 : List hole) : Option (List hole) :=
 if 0 ≤ i2 ∧ i2 ≤ (s1.length : Int) ∧ s1.length + v3.length ≤ 8796093022208 then some (s1.take i2.toNat ++ v3 ++ s1.drop i2.toNat) else none
def Z6_J7 (free69 : (List hole)) : Option ((List hole)) :=
 some free69
def Z6_J6 (free63 : (List hole)) (i65 : Int) : Option (((List hole) × Int) ⊕ ((List hole))) :=
 some (.inl (free63, (w64 (i65 + (1 : Int)))))
def Z6_J5 (free60 : (List hole)) (i62 : Int) : Option (((List hole) × Int) ⊕ ((List hole))) :=
 Z6_J6 free60 (w64 (i62 - (1 : Int)))
def Z6_J4 (to4 : Int) (free34 : (List hole)) (i36 : Int) (free52 : (List hole)) (i54 : Int) : Option (((List hole) × Int) ⊕ ((List hole))) :=
 if (decide (to4 < (ix free34 i36).to)) = true then (
 (Z19 free52 i54 ([(⟨to4, (ix free34 i36).to⟩ : hole)])).bind fun (r57 : (List hole)) =>
 Z6_J5 r57 (w64 (i54 + (1 : Int))))
 else (
 Z6_J5 free52 i54)
def Z6_L1 (p3 : Int) (to4 : Int) (free34 : (List hole)) (i36 : Int) : Option (((List hole) × Int) ⊕ ((List hole))) :=
 if (decide (i36 < (free34.length : Int))) = true then (
 if (0 ≤ i36 ∧ i36 < (free34.length : Int)) then
 if ((decide (to4 ≤ (ix free34 i36).from_)) || (decide ((ix free34 i36).to ≤ p3))) = true then (
 Z6_J6 free34 i36)
 else (
 (Z1m free34 i36 (w64 (i36 + (1 : Int)))).bind fun (r44 : (List hole)) =>
 if (decide ((ix free34 i36).from_ < p3)) = true then (
 (Z19 r44 i36 ([(⟨(ix free34 i36).from_, p3⟩ : hole)])).bind fun (r49 : (List hole)) =>
 Z6_J4 to4 free34 i36 r49 (w64 (i36 + (1 : Int))))
 else (
 Z6_J4 to4 free34 i36 r44 i36))
 else none)
 else (
 some (.inr free34))
def Z6 (free1 : (List hole)) (p3 : Int) (to4 : Int) : Option ((List hole)) :=
 (loopM (fun s : (List hole) × Int => Z6_L1 p3 to4 s.1 s.2) (free1, (0 : Int))).bind fun e => Z6_J7 e
def Z28 (p1 : hole) (p2 : (List Life)) (p5 : Int) : Option (Bool) :=
 if (0 ≤ p5 ∧ p5 < (p2.length : Int)) then
 some (decide ((w64 (p1.to - p1.from_)) ≥ (ix p2 p5).Size))
 else none
def Z0k_J1 : Option (Int) :=
 some (-1 : Int)
def Z0k_L1 (p1 : (List hole)) (q4 : (List Life)) (q7 : Int) (x16 : Int) : Option ((Int) ⊕ ((Int) ⊕ (Unit))) :=
 if (decide (x16 < (p1.length : Int))) = true then (
 if (0 ≤ x16 ∧ x16 < (p1.length : Int)) then
 (Z28 (ix p1 x16) q4 q7).bind fun (r21 : Bool) =>
 if r21 = true then (
 some (.inr (.inl x16)))
 else (
 some (.inl (w64 (x16 + (1 : Int)))))
 else none)
 else (
 some (.inr (.inr ())))
def Z0k (p1 : (List hole)) (q4 : (List Life)) (q7 : Int) : Option (Int) :=
 (loopM (fun s : Int => Z0k_L1 p1 q4 q7 s) (0 : Int)).bind fun e => match e with
 | .inl e => some e
 | .inr e => Z0k_J1
def Z8_J7 (offsets152 : (List Int)) (peak153 : Int) : Option ((List Int) × Int) :=
 some (offsets152, peak153)
def Z8_J6 (lives1 : (List Life)) (r7 : (List Int)) (offsets80 : (List Int)) (peak81 : Int) (x82 : Int) (free135 : (List hole)) : Option (((List Int) × Int × Int) ⊕ ((List Int) × Int)) :=
 (Z0k free135 lives1 (ix r7 x82)).bind fun (r137 : Int) =>
 if (0 ≤ r137 ∧ r137 < (free135.length : Int)) then
 if (0 ≤ (ix r7 x82) ∧ (ix r7 x82) < ((List.replicate (lives1.length : Int).toNat (0 : Int)).length : Int)) then
 if (0 ≤ (ix r7 x82) ∧ (ix r7 x82) < (lives1.length : Int)) then
 some (.inl ((offsets80.set (ix r7 x82).toNat ((ix free135 r137).from_)), (if (w64 ((ix (offsets80.set (ix r7 x82).toNat ((ix free135 r137).from_)) (ix r7 x82)) + (ix lives1 (ix r7 x82)).Size)) > peak81 then (w64 ((ix (offsets80.set (ix r7 x82).toNat ((ix free135 r137).from_)) (ix r7 x82)) + (ix lives1 (ix r7 x82)).Size)) else peak81), (w64 (x82 + (1 : Int)))))
 else none
 else none
 else none
def Z8_J5 (x112 : Int) (free130 : (List hole)) : Option (((List hole) × Int) ⊕ ((List hole))) :=
 some (.inl (free130, (w64 (x112 + (1 : Int)))))
def Z8_L2 (lives1 : (List Life)) (r7 : (List Int)) (offsets80 : (List Int)) (x82 : Int) (free110 : (List hole)) (x112 : Int) : Option (((List hole) × Int) ⊕ ((List hole))) :=
 if (decide (x112 < ((sub r7 (0 : Int) x82).length : Int))) = true then (
 if (0 ≤ x112 ∧ x112 < ((sub r7 (0 : Int) x82).length : Int)) then
 if (0 ≤ (ix r7 x82) ∧ (ix r7 x82) < (lives1.length : Int)) then
 if (0 ≤ (ix (sub r7 (0 : Int) x82) x112) ∧ (ix (sub r7 (0 : Int) x82) x112) < (lives1.length : Int)) then
 (Z24 (ix lives1 (ix r7 x82)) (ix lives1 (ix (sub r7 (0 : Int) x82) x112))).bind fun (r121 : Bool) =>
 if r121 = true then (
 if (0 ≤ (ix (sub r7 (0 : Int) x82) x112) ∧ (ix (sub r7 (0 : Int) x82) x112) < ((List.replicate (lives1.length : Int).toNat (0 : Int)).length : Int)) then
 (Z6 free110 (ix offsets80 (ix (sub r7 (0 : Int) x82) x112)) (w64 ((ix offsets80 (ix (sub r7 (0 : Int) x82) x112)) + (ix lives1 (ix (sub r7 (0 : Int) x82) x112)).Size))).bind fun (r127 : (List hole)) =>
 Z8_J5 x112 r127
 else none)
 else (
 Z8_J5 x112 free110)
 else none
 else none
 else none)
 else (
 some (.inr free110))
def Z8_L1 (lives1 : (List Life)) (r7 : (List Int)) (offsets80 : (List Int)) (peak81 : Int) (x82 : Int) : Option (((List Int) × Int × Int) ⊕ ((List Int) × Int)) :=
 if (decide (x82 < (r7.length : Int))) = true then (
 if (0 ≤ x82 ∧ x82 < (r7.length : Int)) then
 if (0 ≤ (0 : Int) ∧ (0 : Int) ≤ x82 ∧ x82 ≤ (r7.length : Int)) then
 (loopM (fun s : (List hole) × Int => Z8_L2 lives1 r7 offsets80 x82 s.1 s.2) (([(⟨(0 : Int), (823296 : Int)⟩ : hole)] : List hole), (0 : Int))).bind fun e => Z8_J6 lives1 r7 offsets80 peak81 x82 e
 else none
 else none)
 else (
 some (.inr (offsets80, peak81)))
def Z8 (lives1 : (List Life)) : Option ((List Int) × Int) :=
 (Z00 lives1).bind fun (r4 : Bool) =>
 if (!r4) = true then (
 some (([] : List Int), (0 : Int)))
 else (
 (Zz lives1).bind fun (r7 : (List Int)) =>
 if (0 ≤ (lives1.length : Int) ∧ (lives1.length : Int) ≤ 140737488355328 ∧ 8 * (lives1.length : Int) ≤ 281474976710656) then
 (loopM (fun s : (List Int) × Int × Int => Z8_L1 lives1 r7 s.1 s.2.1 s.2.2) ((List.replicate (lives1.length : Int).toNat (0 : Int)), (0 : Int), (0 : Int))).bind fun e => Z8_J7 e.1 e.2
 else none)
def Z0r (s1 : List Int) : Option (List Int) :=
 if s1.length ≤ 17592186044416 then some s1 else none
def Z1n (f1 : Fix) : Option (Fix) :=
 (Z0r f1.Data).bind fun (r5 : (List Int)) =>
 some (⟨f1.Buffer, r5⟩ : Fix)
def Z0d_J1 (x36 : (List Fix)) : Option ((List Fix)) :=
 some x36
def Z0d_L1 (list1 : (List Fix)) (x20 : (List Fix)) (x21 : Int) : Option (((List Fix) × Int) ⊕ ((List Fix))) :=
 if (decide (x21 < (list1.length : Int))) = true then (
 if (0 ≤ x21 ∧ x21 < (list1.length : Int)) then
 (Z1n (ix list1 x21)).bind fun (r28 : Fix) =>
 if (0 ≤ x21 ∧ x21 < ((List.replicate (list1.length : Int).toNat zT57.z).length : Int)) then
 some (.inl ((x20.set x21.toNat r28), (w64 (x21 + (1 : Int)))))
 else none
 else none)
 else (
 some (.inr x20))
def Z0d (list1 : (List Fix)) : Option ((List Fix)) :=
 if (0 ≤ (list1.length : Int) ∧ (list1.length : Int) ≤ 140737488355328 ∧ 32 * (list1.length : Int) ≤ 281474976710656) then
 (loopM (fun s : (List Fix) × Int => Z0d_L1 list1 s.1 s.2) ((List.replicate (list1.length : Int).toNat zT57.z), (0 : Int))).bind fun e => Z0d_J1 e
 else none
def Z1b (a1 : Access) : Option (Access) :=
 (Z0r a1.Steps).bind fun (r5 : (List Int)) =>
 some (⟨a1.Buffer, a1.Offset, r5⟩ : Access)
def Z0e_J1 (x36 : (List Access)) : Option ((List Access)) :=
 some x36
def Z0e_L1 (list1 : (List Access)) (x20 : (List Access)) (x21 : Int) : Option (((List Access) × Int) ⊕ ((List Access))) :=
 if (decide (x21 < (list1.length : Int))) = true then (
 if (0 ≤ x21 ∧ x21 < (list1.length : Int)) then
 (Z1b (ix list1 x21)).bind fun (r28 : Access) =>
 if (0 ≤ x21 ∧ x21 < ((List.replicate (list1.length : Int).toNat zT61.z).length : Int)) then
 some (.inl ((x20.set x21.toNat r28), (w64 (x21 + (1 : Int)))))
 else none
 else none)
 else (
 some (.inr x20))
def Z0e (list1 : (List Access)) : Option ((List Access)) :=
 if (0 ≤ (list1.length : Int) ∧ (list1.length : Int) ≤ 140737488355328 ∧ 40 * (list1.length : Int) ≤ 281474976710656) then
 (loopM (fun s : (List Access) × Int => Z0e_L1 list1 s.1 s.2) ((List.replicate (list1.length : Int).toNat zT61.z), (0 : Int))).bind fun e => Z0e_J1 e
 else none
def Z27 (s1 : List Calc) : Option (List Calc) :=
 if s1.length ≤ 5864062014805 then some s1 else none
def Z1l (k1 : Kernel) : Option (Kernel) :=
 (Z0r k1.Loops).bind fun (r8 : (List Int)) =>
 (Z0e k1.Loads).bind fun (r11 : (List Access)) =>
 (Z1b k1.Store).bind fun (r14 : Access) =>
 (Z27 k1.Code).bind fun (r17 : (List Calc)) =>
 some (⟨r8, r11, r14, k1.Sum, r17⟩ : Kernel)
def Z0f_J1 (x48 : (List Kernel)) : Option ((List Kernel)) :=
 some x48
def Z0f_L1 (list1 : (List Kernel)) (x26 : (List Kernel)) (x27 : Int) : Option (((List Kernel) × Int) ⊕ ((List Kernel))) :=
 if (decide (x27 < (list1.length : Int))) = true then (
 if (0 ≤ x27 ∧ x27 < (list1.length : Int)) then
 (Z1l (ix list1 x27)).bind fun (r37 : Kernel) =>
 if (0 ≤ x27 ∧ x27 < ((List.replicate (list1.length : Int).toNat zT64.z).length : Int)) then
 some (.inl ((x26.set x27.toNat r37), (w64 (x27 + (1 : Int)))))
 else none
 else none)
 else (
 some (.inr x26))
def Z0f (list1 : (List Kernel)) : Option ((List Kernel)) :=
 if (0 ≤ (list1.length : Int) ∧ (list1.length : Int) ≤ 140737488355328 ∧ 120 * (list1.length : Int) ≤ 281474976710656) then
 (loopM (fun s : (List Kernel) × Int => Z0f_L1 list1 s.1 s.2) ((List.replicate (list1.length : Int).toNat zT64.z), (0 : Int))).bind fun e => Z0f_J1 e
 else none
def Z13 (l1 : Nest) : Option (Nest) :=
 (Z0d l1.Fixed).bind fun (r9 : (List Fix)) =>
 (Z0r l1.Sizes).bind fun (r12 : (List Int)) =>
 (Z0r l1.Ins).bind fun (r15 : (List Int)) =>
 (Z0f l1.Kernels).bind fun (r18 : (List Kernel)) =>
 (Z0r l1.Outs).bind fun (r21 : (List Int)) =>
 some (⟨r12, r15, r9, r18, r21⟩ : Nest)
def Z20 (p1 : Int) (y2 : Int) : Option (Int × Int) :=
 some ((IntKind.wrap .u64 ((IntKind.wrap .u64 ((IntKind.wrap .u64 ((p1 / 2 ^ (32 : Int).toNat) * (y2 / 2 ^ (32 : Int).toNat))) + ((IntKind.wrap .u64 ((IntKind.wrap .u64 ((p1 / 2 ^ (32 : Int).toNat) * (bits .and .u64 y2 (4294967295 : Int)))) + ((IntKind.wrap .u64 ((bits .and .u64 p1 (4294967295 : Int)) * (bits .and .u64 y2 (4294967295 : Int)))) / 2 ^ (32 : Int).toNat))) / 2 ^ (32 : Int).toNat))) + ((IntKind.wrap .u64 ((bits .and .u64 (IntKind.wrap .u64 ((IntKind.wrap .u64 ((p1 / 2 ^ (32 : Int).toNat) * (bits .and .u64 y2 (4294967295 : Int)))) + ((IntKind.wrap .u64 ((bits .and .u64 p1 (4294967295 : Int)) * (bits .and .u64 y2 (4294967295 : Int)))) / 2 ^ (32 : Int).toNat))) (4294967295 : Int)) + (IntKind.wrap .u64 ((bits .and .u64 p1 (4294967295 : Int)) * (y2 / 2 ^ (32 : Int).toNat))))) / 2 ^ (32 : Int).toNat))), (IntKind.wrap .u64 (p1 * y2)))
def Z23 (p1 : Int) (y2 : Int) : Option (Int × Int) :=
 (Z20 p1 y2).bind fun (r3 : Int × Int) =>
 some (r3.1, r3.2)
def Z0x (s1 : List Int) (k2 : Int) : Option (List Int) :=
 if s1.length = 1 ∧ 0 ≤ k2 ∧ k2 ≤ 1099511627776 then some (List.replicate k2.toNat (ix s1 0)) else none
def Zt_J1 (r15 : (List Int) × Int) (r18 : Nest) (p65 : (List Int)) : Option (Plan × Bool) :=
 some ((⟨r18, p65, r15.2⟩ : Plan), true)
def Zt_L1 (r12 : (List Life)) (r15 : (List Int) × Int) (r26 : (List Int)) (p50 : (List Int)) (x51 : Int) : Option (((List Int) × Int) ⊕ ((List Int))) :=
 if (decide (x51 < (r12.length : Int))) = true then (
 if (0 ≤ x51 ∧ x51 < (r12.length : Int)) then
 if (0 ≤ x51 ∧ x51 < (r15.1.length : Int)) then
 if (0 ≤ (ix r12 x51).Buffer ∧ (ix r12 x51).Buffer < (r26.length : Int)) then
 some (.inl ((p50.set (ix r12 x51).Buffer.toNat (ix r15.1 x51)), (w64 (x51 + (1 : Int)))))
 else none
 else none
 else none)
 else (
 some (.inr p50))
def Zt (l1 : Nest) : Option (Plan × Bool) :=
 (Z4 l1).bind fun (r9 : Bool) =>
 if (!r9) = true then (
 some ((⟨(⟨([] : List Int), ([] : List Int), ([] : List Fix), ([] : List Kernel), ([] : List Int)⟩ : Nest), ([] : List Int), (0 : Int)⟩ : Plan), false))
 else (
 (Z2 l1).bind fun (r12 : (List Life)) =>
 (Z8 r12).bind fun (r15 : (List Int) × Int) =>
 (Z13 l1).bind fun (r18 : Nest) =>
 (Z0x ([(-1 : Int)] : List Int) (l1.Sizes.length : Int)).bind fun (r26 : (List Int)) =>
 (loopM (fun s : (List Int) × Int => Zt_L1 r12 r15 r26 s.1 s.2) (r26, (0 : Int))).bind fun e => Zt_J1 r15 r18 e)
def Zp_J1 : Option (Bool) :=
 some true
def Zp_L1 (a1 : (List Int)) (b3 : (List Int)) (i14 : Int) : Option ((Int) ⊕ ((Bool) ⊕ (Unit))) :=
 if (decide (i14 < (a1.length : Int))) = true then (
 if (0 ≤ i14 ∧ i14 < (a1.length : Int)) then
 if (0 ≤ i14 ∧ i14 < (b3.length : Int)) then
 if ((ix a1 i14) != (ix b3 i14)) = true then (
 some (.inr (.inl false)))
 else (
 some (.inl (w64 (i14 + (1 : Int)))))
 else none
 else none)
 else (
 some (.inr (.inr ())))
def Zp (a1 : (List Int)) (b3 : (List Int)) : Option (Bool) :=
 if ((a1.length : Int) != (b3.length : Int)) = true then (
 some false)
 else (
 (loopM (fun s : Int => Zp_L1 a1 b3 s) (0 : Int)).bind fun e => match e with
 | .inl e => some e
 | .inr e => Zp_J1)
def Z1j (a1 : Fix) (b3 : Fix) : Option (Bool) :=
 if (a1.Buffer != b3.Buffer) = true then (
 some false)
 else (
 (Zp a1.Data b3.Data).bind fun (r8 : Bool) =>
 if (!r8) = true then (
 some false)
 else (
 some true))
def Z0t_J1 : Option (Bool) :=
 some true
def Z0t_L1 (a1 : (List Fix)) (b3 : (List Fix)) (i18 : Int) : Option ((Int) ⊕ ((Bool) ⊕ (Unit))) :=
 if (decide (i18 < (a1.length : Int))) = true then (
 if (0 ≤ i18 ∧ i18 < (a1.length : Int)) then
 if (0 ≤ i18 ∧ i18 < (b3.length : Int)) then
 (Z1j (ix a1 i18) (ix b3 i18)).bind fun (r28 : Bool) =>
 if (!r28) = true then (
 some (.inr (.inl false)))
 else (
 some (.inl (w64 (i18 + (1 : Int)))))
 else none
 else none)
 else (
 some (.inr (.inr ())))
def Z0t (a1 : (List Fix)) (b3 : (List Fix)) : Option (Bool) :=
 if ((a1.length : Int) != (b3.length : Int)) = true then (
 some false)
 else (
 (loopM (fun s : Int => Z0t_L1 a1 b3 s) (0 : Int)).bind fun e => match e with
 | .inl e => some e
 | .inr e => Z0t_J1)
def Z17 (a1 : Access) (b3 : Access) : Option (Bool) :=
 if (a1.Buffer != b3.Buffer) = true then (
 some false)
 else (
 if (a1.Offset != b3.Offset) = true then (
 some false)
 else (
 (Zp a1.Steps b3.Steps).bind fun (r9 : Bool) =>
 if (!r9) = true then (
 some false)
 else (
 some true)))
def Z0v_J1 : Option (Bool) :=
 some true
def Z0v_L1 (a1 : (List Access)) (b3 : (List Access)) (i18 : Int) : Option ((Int) ⊕ ((Bool) ⊕ (Unit))) :=
 if (decide (i18 < (a1.length : Int))) = true then (
 if (0 ≤ i18 ∧ i18 < (a1.length : Int)) then
 if (0 ≤ i18 ∧ i18 < (b3.length : Int)) then
 (Z17 (ix a1 i18) (ix b3 i18)).bind fun (r28 : Bool) =>
 if (!r28) = true then (
 some (.inr (.inl false)))
 else (
 some (.inl (w64 (i18 + (1 : Int)))))
 else none
 else none)
 else (
 some (.inr (.inr ())))
def Z0v (a1 : (List Access)) (b3 : (List Access)) : Option (Bool) :=
 if ((a1.length : Int) != (b3.length : Int)) = true then (
 some false)
 else (
 (loopM (fun s : Int => Z0v_L1 a1 b3 s) (0 : Int)).bind fun e => match e with
 | .inl e => some e
 | .inr e => Z0v_J1)
def Z1f (a1 : Calc) (b2 : Calc) : Option (Bool) :=
 if (a1.Op != b2.Op) = true then (
 some false)
 else (
 if (a1.A != b2.A) = true then (
 some false)
 else (
 if (a1.B != b2.B) = true then (
 some false)
 else (
 some true)))
def Z0s_J1 : Option (Bool) :=
 some true
def Z0s_L1 (a1 : (List Calc)) (b3 : (List Calc)) (i16 : Int) : Option ((Int) ⊕ ((Bool) ⊕ (Unit))) :=
 if (decide (i16 < (a1.length : Int))) = true then (
 if (0 ≤ i16 ∧ i16 < (a1.length : Int)) then
 if (0 ≤ i16 ∧ i16 < (b3.length : Int)) then
 (Z1f (ix a1 i16) (ix b3 i16)).bind fun (r24 : Bool) =>
 if (!r24) = true then (
 some (.inr (.inl false)))
 else (
 some (.inl (w64 (i16 + (1 : Int)))))
 else none
 else none)
 else (
 some (.inr (.inr ())))
def Z0s (a1 : (List Calc)) (b3 : (List Calc)) : Option (Bool) :=
 if ((a1.length : Int) != (b3.length : Int)) = true then (
 some false)
 else (
 (loopM (fun s : Int => Z0s_L1 a1 b3 s) (0 : Int)).bind fun e => match e with
 | .inl e => some e
 | .inr e => Z0s_J1)
def Z1i (a1 : Kernel) (b6 : Kernel) : Option (Bool) :=
 (Zp a1.Loops b6.Loops).bind fun (r13 : Bool) =>
 if (!r13) = true then (
 some false)
 else (
 (Z0v a1.Loads b6.Loads).bind fun (r16 : Bool) =>
 if (!r16) = true then (
 some false)
 else (
 (Z17 a1.Store b6.Store).bind fun (r19 : Bool) =>
 if (!r19) = true then (
 some false)
 else (
 if (!(a1.Sum == b6.Sum)) = true then (
 some false)
 else (
 (Z0s a1.Code b6.Code).bind fun (r23 : Bool) =>
 if (!r23) = true then (
 some false)
 else (
 some true)))))
def Z0u_J1 : Option (Bool) :=
 some true
def Z0u_L1 (a1 : (List Kernel)) (b3 : (List Kernel)) (i24 : Int) : Option ((Int) ⊕ ((Bool) ⊕ (Unit))) :=
 if (decide (i24 < (a1.length : Int))) = true then (
 if (0 ≤ i24 ∧ i24 < (a1.length : Int)) then
 if (0 ≤ i24 ∧ i24 < (b3.length : Int)) then
 (Z1i (ix a1 i24) (ix b3 i24)).bind fun (r40 : Bool) =>
 if (!r40) = true then (
 some (.inr (.inl false)))
 else (
 some (.inl (w64 (i24 + (1 : Int)))))
 else none
 else none)
 else (
 some (.inr (.inr ())))
def Z0u (a1 : (List Kernel)) (b3 : (List Kernel)) : Option (Bool) :=
 if ((a1.length : Int) != (b3.length : Int)) = true then (
 some false)
 else (
 (loopM (fun s : Int => Z0u_L1 a1 b3 s) (0 : Int)).bind fun e => match e with
 | .inl e => some e
 | .inr e => Z0u_J1)
def Z1c (a1 : Nest) (b7 : Nest) : Option (Bool) :=
 (Zp a1.Sizes b7.Sizes).bind fun (r15 : Bool) =>
 if (!r15) = true then (
 some false)
 else (
 (Zp a1.Ins b7.Ins).bind fun (r18 : Bool) =>
 if (!r18) = true then (
 some false)
 else (
 (Z0t a1.Fixed b7.Fixed).bind fun (r21 : Bool) =>
 if (!r21) = true then (
 some false)
 else (
 (Z0u a1.Kernels b7.Kernels).bind fun (r24 : Bool) =>
 if (!r24) = true then (
 some false)
 else (
 (Zp a1.Outs b7.Outs).bind fun (r27 : Bool) =>
 if (!r27) = true then (
 some false)
 else (
 some true)))))
def Z14 (a1 : Plan) (b8 : Plan) : Option (Bool) :=
 (Z1c a1.Nest b8.Nest).bind fun (r17 : Bool) =>
 if (!r17) = true then (
 some false)
 else (
 (Zp a1.Offsets b8.Offsets).bind fun (r20 : Bool) =>
 if (!r20) = true then (
 some false)
 else (
 if (a1.Arena != b8.Arena) = true then (
 some false)
 else (
 some true)))
def Zf_J1 (k18 : Int) (p19 : (List Int)) : Option (Int × (List Int)) :=
 some (k18, p19)
def Zf_L1 (a1 : (List Int)) (a8 : (List Int)) (k9 : Int) (i10 : Int) : Option (((List Int) × Int × Int) ⊕ (Int × (List Int))) :=
 if (decide (i10 < (a1.length : Int))) = true then (
 if (0 ≤ i10 ∧ i10 < (a1.length : Int)) then
 some (.inl ((a8.set i10.toNat k9), (w64 (k9 + (1 : Int))), (w64 (i10 + (1 : Int)))))
 else none)
 else (
 some (.inr (k9, a8)))
def Zf (a1 : (List Int)) (k3 : Int) : Option (Int × (List Int)) :=
 (loopM (fun s : (List Int) × Int × Int => Zf_L1 a1 s.1 s.2.1 s.2.2) (a1, k3, (0 : Int))).bind fun e => Zf_J1 e.1 e.2
def Zw_J1 (k30 : Int) (p31 : (List Fix)) : Option (Int × (List Fix)) :=
 some (k30, p31)
def Zw_L1 (a1 : (List Fix)) (a15 : (List Fix)) (k16 : Int) (i17 : Int) : Option (((List Fix) × Int × Int) ⊕ (Int × (List Fix))) :=
 if (decide (i17 < (a1.length : Int))) = true then (
 if (0 ≤ i17 ∧ i17 < (a1.length : Int)) then
 (Zf ((ix (a15.set i17.toNat (⟨k16, (ix a15 i17).Data⟩ : Fix)) i17).Data) (w64 (k16 + (1 : Int)))).bind fun (r23 : Int × (List Int)) =>
 (nm ((a15.set i17.toNat (⟨k16, (ix a15 i17).Data⟩ : Fix)).set i17.toNat (⟨(ix (a15.set i17.toNat (⟨k16, (ix a15 i17).Data⟩ : Fix)) i17).Buffer, r23.2⟩ : Fix))).bind fun (l25 : (List Fix)) =>
 some (.inl (l25, r23.1, (w64 (i17 + (1 : Int)))))
 else none)
 else (
 some (.inr (k16, a15)))
def Zw (a1 : (List Fix)) (k3 : Int) : Option (Int × (List Fix)) :=
 (loopM (fun s : (List Fix) × Int × Int => Zw_L1 a1 s.1 s.2.1 s.2.2) (a1, k3, (0 : Int))).bind fun e => Zw_J1 e.1 e.2
def Zv_J1 (k36 : Int) (p37 : (List Access)) : Option (Int × (List Access)) :=
 some (k36, p37)
def Zv_L1 (a1 : (List Access)) (a17 : (List Access)) (k18 : Int) (i19 : Int) : Option (((List Access) × Int × Int) ⊕ (Int × (List Access))) :=
 if (decide (i19 < (a1.length : Int))) = true then (
 if (0 ≤ i19 ∧ i19 < (a1.length : Int)) then
 (nm (a17.set i19.toNat (⟨k18, (ix a17 i19).Offset, (ix a17 i19).Steps⟩ : Access))).bind fun (l24 : (List Access)) =>
 (nm (l24.set i19.toNat (⟨(ix l24 i19).Buffer, (w64 (k18 + (1 : Int))), (ix l24 i19).Steps⟩ : Access))).bind fun (l26 : (List Access)) =>
 (Zf ((ix l26 i19).Steps) (w64 ((w64 (k18 + (1 : Int))) + (1 : Int)))).bind fun (r29 : Int × (List Int)) =>
 (nm (l26.set i19.toNat (⟨(ix l26 i19).Buffer, (ix l26 i19).Offset, r29.2⟩ : Access))).bind fun (l31 : (List Access)) =>
 some (.inl (l31, r29.1, (w64 (i19 + (1 : Int)))))
 else none)
 else (
 some (.inr (k18, a17)))
def Zv (a1 : (List Access)) (k3 : Int) : Option (Int × (List Access)) :=
 (loopM (fun s : (List Access) × Int × Int => Zv_L1 a1 s.1 s.2.1 s.2.2) (a1, k3, (0 : Int))).bind fun e => Zv_J1 e.1 e.2
def Zy_J1 (k30 : Int) (p31 : (List Calc)) : Option (Int × (List Calc)) :=
 some (k30, p31)
def Zy_L1 (a1 : (List Calc)) (a14 : (List Calc)) (k15 : Int) (i16 : Int) : Option (((List Calc) × Int × Int) ⊕ (Int × (List Calc))) :=
 if (decide (i16 < (a1.length : Int))) = true then (
 if (0 ≤ i16 ∧ i16 < (a1.length : Int)) then
 (nm (a14.set i16.toNat (⟨k15, (ix a14 i16).A, (ix a14 i16).B⟩ : Calc))).bind fun (l21 : (List Calc)) =>
 (nm (l21.set i16.toNat (⟨(ix l21 i16).Op, (w64 (k15 + (1 : Int))), (ix l21 i16).B⟩ : Calc))).bind fun (l23 : (List Calc)) =>
 (nm (l23.set i16.toNat (⟨(ix l23 i16).Op, (ix l23 i16).A, (w64 ((w64 (k15 + (1 : Int))) + (1 : Int)))⟩ : Calc))).bind fun (l25 : (List Calc)) =>
 some (.inl (l25, (w64 ((w64 ((w64 (k15 + (1 : Int))) + (1 : Int))) + (1 : Int))), (w64 (i16 + (1 : Int)))))
 else none)
 else (
 some (.inr (k15, a14)))
def Zy (a1 : (List Calc)) (k3 : Int) : Option (Int × (List Calc)) :=
 (loopM (fun s : (List Calc) × Int × Int => Zy_L1 a1 s.1 s.2.1 s.2.2) (a1, k3, (0 : Int))).bind fun e => Zy_J1 e.1 e.2
def Zu_J1 (k94 : Int) (p95 : (List Kernel)) : Option (Int × (List Kernel)) :=
 some (k94, p95)
def Zu_L1 (a1 : (List Kernel)) (a46 : (List Kernel)) (k47 : Int) (i48 : Int) : Option (((List Kernel) × Int × Int) ⊕ (Int × (List Kernel))) :=
 if (decide (i48 < (a1.length : Int))) = true then (
 if (0 ≤ i48 ∧ i48 < (a1.length : Int)) then
 (Zf ((ix a46 i48).Loops) k47).bind fun (r57 : Int × (List Int)) =>
 (nm (a46.set i48.toNat (⟨r57.2, (ix a46 i48).Loads, (ix a46 i48).Store, (ix a46 i48).Sum, (ix a46 i48).Code⟩ : Kernel))).bind fun (l59 : (List Kernel)) =>
 (Zv ((ix l59 i48).Loads) r57.1).bind fun (r65 : Int × (List Access)) =>
 (nm (l59.set i48.toNat (⟨(ix l59 i48).Loops, r65.2, (ix l59 i48).Store, (ix l59 i48).Sum, (ix l59 i48).Code⟩ : Kernel))).bind fun (l67 : (List Kernel)) =>
 (nm (l67.set i48.toNat (⟨(ix l67 i48).Loops, (ix l67 i48).Loads, (⟨r65.1, (ix l67 i48).Store.Offset, (ix l67 i48).Store.Steps⟩ : Access), (ix l67 i48).Sum, (ix l67 i48).Code⟩ : Kernel))).bind fun (l69 : (List Kernel)) =>
 (nm (l69.set i48.toNat (⟨(ix l69 i48).Loops, (ix l69 i48).Loads, (⟨(ix l69 i48).Store.Buffer, (w64 (r65.1 + (1 : Int))), (ix l69 i48).Store.Steps⟩ : Access), (ix l69 i48).Sum, (ix l69 i48).Code⟩ : Kernel))).bind fun (l71 : (List Kernel)) =>
 (Zf ((ix l71 i48).Store.Steps) (w64 ((w64 (r65.1 + (1 : Int))) + (1 : Int)))).bind fun (r77 : Int × (List Int)) =>
 (nm (l71.set i48.toNat (⟨(ix l71 i48).Loops, (ix l71 i48).Loads, (⟨(ix l71 i48).Store.Buffer, (ix l71 i48).Store.Offset, r77.2⟩ : Access), (ix l71 i48).Sum, (ix l71 i48).Code⟩ : Kernel))).bind fun (l79 : (List Kernel)) =>
 (nm (l79.set i48.toNat (⟨(ix l79 i48).Loops, (ix l79 i48).Loads, (ix l79 i48).Store, ((r77.1.tmod (3 : Int)) == (0 : Int)), (ix l79 i48).Code⟩ : Kernel))).bind fun (l81 : (List Kernel)) =>
 (Zy ((ix l81 i48).Code) (w64 (r77.1 + (1 : Int)))).bind fun (r87 : Int × (List Calc)) =>
 (nm (l81.set i48.toNat (⟨(ix l81 i48).Loops, (ix l81 i48).Loads, (ix l81 i48).Store, (ix l81 i48).Sum, r87.2⟩ : Kernel))).bind fun (l89 : (List Kernel)) =>
 some (.inl (l89, r87.1, (w64 (i48 + (1 : Int)))))
 else none)
 else (
 some (.inr (k47, a46)))
def Zu (a1 : (List Kernel)) (k3 : Int) : Option (Int × (List Kernel)) :=
 (loopM (fun s : (List Kernel) × Int × Int => Zu_L1 a1 s.1 s.2.1 s.2.2) (a1, k3, (0 : Int))).bind fun e => Zu_J1 e.1 e.2
def Z18 (a1 : Nest) (k7 : Int) : Option (Int × (List Int) × (List Int) × (List Fix) × (List Kernel) × (List Int)) :=
 (Zf a1.Sizes k7).bind fun (r9 : Int × (List Int)) =>
 (Zf a1.Ins r9.1).bind fun (r11 : Int × (List Int)) =>
 (Zw a1.Fixed r11.1).bind fun (r13 : Int × (List Fix)) =>
 (Zu a1.Kernels r13.1).bind fun (r15 : Int × (List Kernel)) =>
 (Zf a1.Outs r15.1).bind fun (r17 : Int × (List Int)) =>
 some (r17.1, r9.2, r11.2, r13.2, r15.2, r17.2)
def Z1x (a1 : Plan) (k8 : Int) : Option (Int × (List Int) × (List Int) × (List Fix) × (List Kernel) × (List Int) × (List Int)) :=
 (Z18 a1.Nest k8).bind fun (r10 : Int × (List Int) × (List Int) × (List Fix) × (List Kernel) × (List Int)) =>
 (Zf a1.Offsets r10.1).bind fun (r12 : Int × (List Int)) =>
 some (r12.1, r10.2.1, r10.2.2.1, r10.2.2.2.1, r10.2.2.2.2.1, r10.2.2.2.2.2, r12.2)
def Zh_J1 (k18 : Int) : Option (Int) :=
 some k18
def Zh_L1 (a1 : (List Int)) (k9 : Int) (i10 : Int) : Option ((Int × Int) ⊕ ((Int) ⊕ (Int))) :=
 if (decide (i10 < (a1.length : Int))) = true then (
 if (0 ≤ i10 ∧ i10 < (a1.length : Int)) then
 if ((ix a1 i10) != k9) = true then (
 some (.inr (.inl (-1 : Int))))
 else (
 some (.inl ((w64 (k9 + (1 : Int))), (w64 (i10 + (1 : Int))))))
 else none)
 else (
 some (.inr (.inr k9)))
def Zh (a1 : (List Int)) (k3 : Int) : Option (Int) :=
 (loopM (fun s : Int × Int => Zh_L1 a1 s.1 s.2) (k3, (0 : Int))).bind fun e => match e with
 | .inl e => some e
 | .inr e => Zh_J1 e
def Z06_J1 (k26 : Int) : Option (Int) :=
 some k26
def Z06_L1 (a1 : (List Fix)) (k13 : Int) (i14 : Int) : Option ((Int × Int) ⊕ ((Int) ⊕ (Int))) :=
 if (decide (i14 < (a1.length : Int))) = true then (
 if (0 ≤ i14 ∧ i14 < (a1.length : Int)) then
 if ((ix a1 i14).Buffer != k13) = true then (
 some (.inr (.inl (-1 : Int))))
 else (
 (Zh ((ix a1 i14).Data) (w64 (k13 + (1 : Int)))).bind fun (r21 : Int) =>
 if (decide (r21 < (0 : Int))) = true then (
 some (.inr (.inl (-1 : Int))))
 else (
 some (.inl (r21, (w64 (i14 + (1 : Int)))))))
 else none)
 else (
 some (.inr (.inr k13)))
def Z06 (a1 : (List Fix)) (k3 : Int) : Option (Int) :=
 (loopM (fun s : Int × Int => Z06_L1 a1 s.1 s.2) (k3, (0 : Int))).bind fun e => match e with
 | .inl e => some e
 | .inr e => Z06_J1 e
def Z0g_J1 (k28 : Int) : Option (Int) :=
 some k28
def Z0g_L1 (a1 : (List Access)) (k14 : Int) (i15 : Int) : Option ((Int × Int) ⊕ ((Int) ⊕ (Int))) :=
 if (decide (i15 < (a1.length : Int))) = true then (
 if (0 ≤ i15 ∧ i15 < (a1.length : Int)) then
 if ((ix a1 i15).Buffer != k14) = true then (
 some (.inr (.inl (-1 : Int))))
 else (
 if ((ix a1 i15).Offset != (w64 (k14 + (1 : Int)))) = true then (
 some (.inr (.inl (-1 : Int))))
 else (
 (Zh ((ix a1 i15).Steps) (w64 ((w64 (k14 + (1 : Int))) + (1 : Int)))).bind fun (r23 : Int) =>
 if (decide (r23 < (0 : Int))) = true then (
 some (.inr (.inl (-1 : Int))))
 else (
 some (.inl (r23, (w64 (i15 + (1 : Int))))))))
 else none)
 else (
 some (.inr (.inr k14)))
def Z0g (a1 : (List Access)) (k3 : Int) : Option (Int) :=
 (loopM (fun s : Int × Int => Z0g_L1 a1 s.1 s.2) (k3, (0 : Int))).bind fun e => match e with
 | .inl e => some e
 | .inr e => Z0g_J1 e
def Z0h_J1 (k22 : Int) : Option (Int) :=
 some k22
def Z0h_L1 (a1 : (List Calc)) (k11 : Int) (i12 : Int) : Option ((Int × Int) ⊕ ((Int) ⊕ (Int))) :=
 if (decide (i12 < (a1.length : Int))) = true then (
 if (0 ≤ i12 ∧ i12 < (a1.length : Int)) then
 if ((ix a1 i12).Op != k11) = true then (
 some (.inr (.inl (-1 : Int))))
 else (
 if ((ix a1 i12).A != (w64 (k11 + (1 : Int)))) = true then (
 some (.inr (.inl (-1 : Int))))
 else (
 if ((ix a1 i12).B != (w64 ((w64 (k11 + (1 : Int))) + (1 : Int)))) = true then (
 some (.inr (.inl (-1 : Int))))
 else (
 some (.inl ((w64 ((w64 ((w64 (k11 + (1 : Int))) + (1 : Int))) + (1 : Int))), (w64 (i12 + (1 : Int))))))))
 else none)
 else (
 some (.inr (.inr k11)))
def Z0h (a1 : (List Calc)) (k3 : Int) : Option (Int) :=
 (loopM (fun s : Int × Int => Z0h_L1 a1 s.1 s.2) (k3, (0 : Int))).bind fun e => match e with
 | .inl e => some e
 | .inr e => Z0h_J1 e
def Z0c_J1 (k54 : Int) : Option (Int) :=
 some k54
def Z0c_L1 (a1 : (List Kernel)) (k27 : Int) (i28 : Int) : Option ((Int × Int) ⊕ ((Int) ⊕ (Int))) :=
 if (decide (i28 < (a1.length : Int))) = true then (
 if (0 ≤ i28 ∧ i28 < (a1.length : Int)) then
 (Zh ((ix a1 i28).Loops) k27).bind fun (r37 : Int) =>
 if (decide (r37 < (0 : Int))) = true then (
 some (.inr (.inl (-1 : Int))))
 else (
 (Z0g ((ix a1 i28).Loads) r37).bind fun (r40 : Int) =>
 if (decide (r40 < (0 : Int))) = true then (
 some (.inr (.inl (-1 : Int))))
 else (
 if ((ix a1 i28).Store.Buffer != r40) = true then (
 some (.inr (.inl (-1 : Int))))
 else (
 if ((ix a1 i28).Store.Offset != (w64 (r40 + (1 : Int)))) = true then (
 some (.inr (.inl (-1 : Int))))
 else (
 (Zh ((ix a1 i28).Store.Steps) (w64 ((w64 (r40 + (1 : Int))) + (1 : Int)))).bind fun (r45 : Int) =>
 if (decide (r45 < (0 : Int))) = true then (
 some (.inr (.inl (-1 : Int))))
 else (
 if (!((ix a1 i28).Sum == ((r45.tmod (3 : Int)) == (0 : Int)))) = true then (
 some (.inr (.inl (-1 : Int))))
 else (
 (Z0h ((ix a1 i28).Code) (w64 (r45 + (1 : Int)))).bind fun (r49 : Int) =>
 if (decide (r49 < (0 : Int))) = true then (
 some (.inr (.inl (-1 : Int))))
 else (
 some (.inl (r49, (w64 (i28 + (1 : Int))))))))))))
 else none)
 else (
 some (.inr (.inr k27)))
def Z0c (a1 : (List Kernel)) (k3 : Int) : Option (Int) :=
 (loopM (fun s : Int × Int => Z0c_L1 a1 s.1 s.2) (k3, (0 : Int))).bind fun e => match e with
 | .inl e => some e
 | .inr e => Z0c_J1 e
def Z1r (a1 : Nest) (k7 : Int) : Option (Int) :=
 (Zh a1.Sizes k7).bind fun (r9 : Int) =>
 if (decide (r9 < (0 : Int))) = true then (
 some (-1 : Int))
 else (
 (Zh a1.Ins r9).bind fun (r12 : Int) =>
 if (decide (r12 < (0 : Int))) = true then (
 some (-1 : Int))
 else (
 (Z06 a1.Fixed r12).bind fun (r15 : Int) =>
 if (decide (r15 < (0 : Int))) = true then (
 some (-1 : Int))
 else (
 (Z0c a1.Kernels r15).bind fun (r18 : Int) =>
 if (decide (r18 < (0 : Int))) = true then (
 some (-1 : Int))
 else (
 (Zh a1.Outs r18).bind fun (r21 : Int) =>
 if (decide (r21 < (0 : Int))) = true then (
 some (-1 : Int))
 else (
 some r21)))))
def Z1d (a1 : Plan) (k8 : Int) : Option (Int) :=
 (Z1r a1.Nest k8).bind fun (r10 : Int) =>
 if (decide (r10 < (0 : Int))) = true then (
 some (-1 : Int))
 else (
 (Zh a1.Offsets r10).bind fun (r13 : Int) =>
 if (decide (r13 < (0 : Int))) = true then (
 some (-1 : Int))
 else (
 some r13))
def Z21 (aL1 : Nest) : Option (Bool) :=
 (Z1s aL1 (1048576 : Int)).bind fun (r8 : Int) =>
 if (decide (r8 < (0 : Int))) = true then (
 some true)
 else (
 (Z11 aL1).bind fun (r11 : Nest) =>
 (Ze r11).bind fun (r18 : Plan × Bool) =>
 (Z11 aL1).bind fun (r27 : Nest) =>
 (Zt r27).bind fun (r35 : Plan × Bool) =>
 (Z14 r35.1 r18.1).bind fun (r44 : Bool) =>
 if ((!r44) || (!(r35.2 == r18.2))) = true then (
 some false)
 else (
 (Z11 aL1).bind fun (r48 : Nest) =>
 (Z1c r27 r48).bind fun (r55 : Bool) =>
 if (!r55) = true then (
 some false)
 else (
 (Z18 r27 (1 : Int)).bind fun (r58 : Int × (List Int) × (List Int) × (List Fix) × (List Kernel) × (List Int)) =>
 (gcall (!(decide (r58.1 < (0 : Int)))) (Z14 r35.1 r18.1)).bind fun (r60 : Bool) =>
 if (((decide (r58.1 < (0 : Int))) || (!r60)) || (!(r35.2 == r18.2))) = true then (
 some false)
 else (
 (Z1x r35.1 (1 : Int)).bind fun (r65 : Int × (List Int) × (List Int) × (List Fix) × (List Kernel) × (List Int) × (List Int)) =>
 (Z1d (⟨(⟨r65.2.1, r65.2.2.1, r65.2.2.2.1, r65.2.2.2.2.1, r65.2.2.2.2.2.1⟩ : Nest), r65.2.2.2.2.2.2, r35.1.Arena⟩ : Plan) (1 : Int)).bind fun (r67 : Int) =>
 if (decide (r67 < (0 : Int))) = true then (
 some false)
 else (
 if (r67 != r65.1) = true then (
 some false)
 else (
 (Z11 aL1).bind fun (r71 : Nest) =>
 (Zt r71).bind fun (r78 : Plan × Bool) =>
 (Z14 r78.1 r18.1).bind fun (r87 : Bool) =>
 if ((!r87) || (!(r78.2 == r18.2))) = true then (
 some false)
 else (
 (Z1d (⟨(⟨r65.2.1, r65.2.2.1, r65.2.2.2.1, r65.2.2.2.2.1, r65.2.2.2.2.2.1⟩ : Nest), r65.2.2.2.2.2.2, r35.1.Arena⟩ : Plan) (1 : Int)).bind fun (r91 : Int) =>
 if (decide (r91 < (0 : Int))) = true then (
 some false)
 else (
 if (r91 != r65.1) = true then (
 some false)
 else (
 some true)))))))))
end
end Go.Proofs.YtkfgngcfcoplpaaGreat
