import Derived.Test.YtbdchgofcejiiaaFaH
set_option linter.unusedVariables false
namespace Go.Proofs.Ytbdchgofcejiiaa
open Go Go.Pg
noncomputable section
def laws_szIntS (a1 : (List Int)) (left3 : Int) : Option (Int) :=
 if (decide ((w64 (left3 - (a1.length : Int))) < (0 : Int))) = true then (
 some (-1 : Int))
 else (
 some (w64 (left3 - (a1.length : Int))))
def laws_szFix (a1 : Fix) (left3 : Int) : Option (Int) :=
 (laws_szIntS a1.Data left3).bind fun (r5 : Int) =>
 if (decide (r5 < (0 : Int))) = true then (
 some (-1 : Int))
 else (
 some r5)
def laws_szFixS_J1 (left25 : Int) : Option (Int) :=
 some left25
def laws_szFixS_L1 (a1 : (List Fix)) (left13 : Int) (i14 : Int) : Option ((Int × Int) ⊕ ((Int) ⊕ (Int))) :=
 if (decide (i14 < (a1.length : Int))) = true then (
 if (0 ≤ i14 ∧ i14 < (a1.length : Int)) then
 (laws_szFix (ix a1 i14) left13).bind fun (r20 : Int) =>
 if (decide (r20 < (0 : Int))) = true then (
 some (.inr (.inl (-1 : Int))))
 else (
 some (.inl (r20, (w64 (i14 + (1 : Int))))))
 else none)
 else (
 some (.inr (.inr left13)))
def laws_szFixS (a1 : (List Fix)) (left3 : Int) : Option (Int) :=
 if (decide ((w64 (left3 - (a1.length : Int))) < (0 : Int))) = true then (
 some (-1 : Int))
 else (
 (loopM (fun s : Int × Int => laws_szFixS_L1 a1 s.1 s.2) ((w64 (left3 - (a1.length : Int))), (0 : Int))).bind fun e => match e with
 | .inl e => some e
 | .inr e => laws_szFixS_J1 e)
def laws_szAccess (a1 : Access) (left3 : Int) : Option (Int) :=
 (laws_szIntS a1.Steps left3).bind fun (r5 : Int) =>
 if (decide (r5 < (0 : Int))) = true then (
 some (-1 : Int))
 else (
 some r5)
def laws_szAccessS_J1 (left25 : Int) : Option (Int) :=
 some left25
def laws_szAccessS_L1 (a1 : (List Access)) (left13 : Int) (i14 : Int) : Option ((Int × Int) ⊕ ((Int) ⊕ (Int))) :=
 if (decide (i14 < (a1.length : Int))) = true then (
 if (0 ≤ i14 ∧ i14 < (a1.length : Int)) then
 (laws_szAccess (ix a1 i14) left13).bind fun (r20 : Int) =>
 if (decide (r20 < (0 : Int))) = true then (
 some (.inr (.inl (-1 : Int))))
 else (
 some (.inl (r20, (w64 (i14 + (1 : Int))))))
 else none)
 else (
 some (.inr (.inr left13)))
def laws_szAccessS (a1 : (List Access)) (left3 : Int) : Option (Int) :=
 if (decide ((w64 (left3 - (a1.length : Int))) < (0 : Int))) = true then (
 some (-1 : Int))
 else (
 (loopM (fun s : Int × Int => laws_szAccessS_L1 a1 s.1 s.2) ((w64 (left3 - (a1.length : Int))), (0 : Int))).bind fun e => match e with
 | .inl e => some e
 | .inr e => laws_szAccessS_J1 e)
def laws_szCalcS (a1 : (List Calc)) (left3 : Int) : Option (Int) :=
 if (decide ((w64 (left3 - (a1.length : Int))) < (0 : Int))) = true then (
 some (-1 : Int))
 else (
 some (w64 (left3 - (a1.length : Int))))
def laws_szKernel (a1 : Kernel) (left6 : Int) : Option (Int) :=
 (laws_szIntS a1.Loops left6).bind fun (r8 : Int) =>
 if (decide (r8 < (0 : Int))) = true then (
 some (-1 : Int))
 else (
 (laws_szAccessS a1.Loads r8).bind fun (r11 : Int) =>
 if (decide (r11 < (0 : Int))) = true then (
 some (-1 : Int))
 else (
 (laws_szAccess a1.Store r11).bind fun (r14 : Int) =>
 if (decide (r14 < (0 : Int))) = true then (
 some (-1 : Int))
 else (
 (laws_szCalcS a1.Code r14).bind fun (r17 : Int) =>
 if (decide (r17 < (0 : Int))) = true then (
 some (-1 : Int))
 else (
 some r17))))
def laws_szKernelS_J1 (left31 : Int) : Option (Int) :=
 some left31
def laws_szKernelS_L1 (a1 : (List Kernel)) (left16 : Int) (i17 : Int) : Option ((Int × Int) ⊕ ((Int) ⊕ (Int))) :=
 if (decide (i17 < (a1.length : Int))) = true then (
 if (0 ≤ i17 ∧ i17 < (a1.length : Int)) then
 (laws_szKernel (ix a1 i17) left16).bind fun (r26 : Int) =>
 if (decide (r26 < (0 : Int))) = true then (
 some (.inr (.inl (-1 : Int))))
 else (
 some (.inl (r26, (w64 (i17 + (1 : Int))))))
 else none)
 else (
 some (.inr (.inr left16)))
def laws_szKernelS (a1 : (List Kernel)) (left3 : Int) : Option (Int) :=
 if (decide ((w64 (left3 - (a1.length : Int))) < (0 : Int))) = true then (
 some (-1 : Int))
 else (
 (loopM (fun s : Int × Int => laws_szKernelS_L1 a1 s.1 s.2) ((w64 (left3 - (a1.length : Int))), (0 : Int))).bind fun e => match e with
 | .inl e => some e
 | .inr e => laws_szKernelS_J1 e)
def laws_szNest (a1 : Nest) (left7 : Int) : Option (Int) :=
 (laws_szIntS a1.Sizes left7).bind fun (r9 : Int) =>
 if (decide (r9 < (0 : Int))) = true then (
 some (-1 : Int))
 else (
 (laws_szIntS a1.Ins r9).bind fun (r12 : Int) =>
 if (decide (r12 < (0 : Int))) = true then (
 some (-1 : Int))
 else (
 (laws_szFixS a1.Fixed r12).bind fun (r15 : Int) =>
 if (decide (r15 < (0 : Int))) = true then (
 some (-1 : Int))
 else (
 (laws_szKernelS a1.Kernels r15).bind fun (r18 : Int) =>
 if (decide (r18 < (0 : Int))) = true then (
 some (-1 : Int))
 else (
 (laws_szIntS a1.Outs r18).bind fun (r21 : Int) =>
 if (decide (r21 < (0 : Int))) = true then (
 some (-1 : Int))
 else (
 some r21)))))
def laws_toIntS_J1 (x25 : (List Int)) : Option ((List Int)) :=
 some x25
def laws_toIntS_L1 (a1 : (List Int)) (x14 : (List Int)) (i15 : Int) : Option (((List Int) × Int) ⊕ ((List Int))) :=
 if (decide (i15 < (a1.length : Int))) = true then (
 if (0 ≤ i15 ∧ i15 < (a1.length : Int)) then
 if (0 ≤ i15 ∧ i15 < ((List.replicate (a1.length : Int).toNat (0 : Int)).length : Int)) then
 some (.inl ((x14.set i15.toNat (ix a1 i15)), (w64 (i15 + (1 : Int)))))
 else none
 else none)
 else (
 some (.inr x14))
def laws_toIntS (a1 : (List Int)) : Option ((List Int)) :=
 if (0 ≤ (a1.length : Int) ∧ (a1.length : Int) ≤ 140737488355328 ∧ 8 * (a1.length : Int) ≤ 281474976710656) then
 (loopM (fun s : (List Int) × Int => laws_toIntS_L1 a1 s.1 s.2) ((List.replicate (a1.length : Int).toNat (0 : Int)), (0 : Int))).bind fun e => laws_toIntS_J1 e
 else none
def laws_toFix (a1 : Fix) : Option (Fix) :=
 (laws_toIntS a1.Data).bind fun (r6 : (List Int)) =>
 some (⟨a1.Buffer, r6⟩ : Fix)
def laws_toFixS_J1 (x33 : (List Fix)) : Option ((List Fix)) :=
 some x33
def laws_toFixS_L1 (a1 : (List Fix)) (x18 : (List Fix)) (i19 : Int) : Option (((List Fix) × Int) ⊕ ((List Fix))) :=
 if (decide (i19 < (a1.length : Int))) = true then (
 if (0 ≤ i19 ∧ i19 < (a1.length : Int)) then
 (laws_toFix (ix a1 i19)).bind fun (r25 : Fix) =>
 if (0 ≤ i19 ∧ i19 < ((List.replicate (a1.length : Int).toNat zT159.z).length : Int)) then
 some (.inl ((x18.set i19.toNat r25), (w64 (i19 + (1 : Int)))))
 else none
 else none)
 else (
 some (.inr x18))
def laws_toFixS (a1 : (List Fix)) : Option ((List Fix)) :=
 if (0 ≤ (a1.length : Int) ∧ (a1.length : Int) ≤ 140737488355328 ∧ 32 * (a1.length : Int) ≤ 281474976710656) then
 (loopM (fun s : (List Fix) × Int => laws_toFixS_L1 a1 s.1 s.2) ((List.replicate (a1.length : Int).toNat zT159.z), (0 : Int))).bind fun e => laws_toFixS_J1 e
 else none
def laws_toAccess (a1 : Access) : Option (Access) :=
 (laws_toIntS a1.Steps).bind fun (r6 : (List Int)) =>
 some (⟨a1.Buffer, a1.Offset, r6⟩ : Access)
def laws_toAccessS_J1 (x33 : (List Access)) : Option ((List Access)) :=
 some x33
def laws_toAccessS_L1 (a1 : (List Access)) (x18 : (List Access)) (i19 : Int) : Option (((List Access) × Int) ⊕ ((List Access))) :=
 if (decide (i19 < (a1.length : Int))) = true then (
 if (0 ≤ i19 ∧ i19 < (a1.length : Int)) then
 (laws_toAccess (ix a1 i19)).bind fun (r25 : Access) =>
 if (0 ≤ i19 ∧ i19 < ((List.replicate (a1.length : Int).toNat zT124.z).length : Int)) then
 some (.inl ((x18.set i19.toNat r25), (w64 (i19 + (1 : Int)))))
 else none
 else none)
 else (
 some (.inr x18))
def laws_toAccessS (a1 : (List Access)) : Option ((List Access)) :=
 if (0 ≤ (a1.length : Int) ∧ (a1.length : Int) ≤ 140737488355328 ∧ 40 * (a1.length : Int) ≤ 281474976710656) then
 (loopM (fun s : (List Access) × Int => laws_toAccessS_L1 a1 s.1 s.2) ((List.replicate (a1.length : Int).toNat zT124.z), (0 : Int))).bind fun e => laws_toAccessS_J1 e
 else none
def laws_toCalc (a1 : Calc) : Option (Calc) :=
 some a1
def laws_toCalcS_J1 (x29 : (List Calc)) : Option ((List Calc)) :=
 some x29
def laws_toCalcS_L1 (a1 : (List Calc)) (x16 : (List Calc)) (i17 : Int) : Option (((List Calc) × Int) ⊕ ((List Calc))) :=
 if (decide (i17 < (a1.length : Int))) = true then (
 if (0 ≤ i17 ∧ i17 < (a1.length : Int)) then
 (laws_toCalc (ix a1 i17)).bind fun (r22 : Calc) =>
 if (0 ≤ i17 ∧ i17 < ((List.replicate (a1.length : Int).toNat zT216.z).length : Int)) then
 some (.inl ((x16.set i17.toNat r22), (w64 (i17 + (1 : Int)))))
 else none
 else none)
 else (
 some (.inr x16))
def laws_toCalcS (a1 : (List Calc)) : Option ((List Calc)) :=
 if (0 ≤ (a1.length : Int) ∧ (a1.length : Int) ≤ 140737488355328 ∧ 24 * (a1.length : Int) ≤ 281474976710656) then
 (loopM (fun s : (List Calc) × Int => laws_toCalcS_L1 a1 s.1 s.2) ((List.replicate (a1.length : Int).toNat zT216.z), (0 : Int))).bind fun e => laws_toCalcS_J1 e
 else none
def laws_toKernel (a1 : Kernel) : Option (Kernel) :=
 (laws_toIntS a1.Loops).bind fun (r9 : (List Int)) =>
 (laws_toAccessS a1.Loads).bind fun (r12 : (List Access)) =>
 (laws_toAccess a1.Store).bind fun (r15 : Access) =>
 (laws_toCalcS a1.Code).bind fun (r18 : (List Calc)) =>
 some (⟨r9, r12, r15, a1.Sum, r18⟩ : Kernel)
def laws_toKernelS_J1 (x45 : (List Kernel)) : Option ((List Kernel)) :=
 some x45
def laws_toKernelS_L1 (a1 : (List Kernel)) (x24 : (List Kernel)) (i25 : Int) : Option (((List Kernel) × Int) ⊕ ((List Kernel))) :=
 if (decide (i25 < (a1.length : Int))) = true then (
 if (0 ≤ i25 ∧ i25 < (a1.length : Int)) then
 (laws_toKernel (ix a1 i25)).bind fun (r34 : Kernel) =>
 if (0 ≤ i25 ∧ i25 < ((List.replicate (a1.length : Int).toNat zT127.z).length : Int)) then
 some (.inl ((x24.set i25.toNat r34), (w64 (i25 + (1 : Int)))))
 else none
 else none)
 else (
 some (.inr x24))
def laws_toKernelS (a1 : (List Kernel)) : Option ((List Kernel)) :=
 if (0 ≤ (a1.length : Int) ∧ (a1.length : Int) ≤ 140737488355328 ∧ 120 * (a1.length : Int) ≤ 281474976710656) then
 (loopM (fun s : (List Kernel) × Int => laws_toKernelS_L1 a1 s.1 s.2) ((List.replicate (a1.length : Int).toNat zT127.z), (0 : Int))).bind fun e => laws_toKernelS_J1 e
 else none
def laws_toNest (a1 : Nest) : Option (Nest) :=
 (laws_toIntS a1.Sizes).bind fun (r10 : (List Int)) =>
 (laws_toIntS a1.Ins).bind fun (r13 : (List Int)) =>
 (laws_toFixS a1.Fixed).bind fun (r16 : (List Fix)) =>
 (laws_toKernelS a1.Kernels).bind fun (r19 : (List Kernel)) =>
 (laws_toIntS a1.Outs).bind fun (r22 : (List Int)) =>
 some (⟨r10, r13, r16, r19, r22⟩ : Nest)
def spec_l4Within_J1 : Option (Bool) :=
 some true
def spec_l4Within_L1 (index1 : (List Int)) (n3 : Int) (i10 : Int) : Option ((Int) ⊕ ((Bool) ⊕ (Unit))) :=
 if (decide (i10 < (index1.length : Int))) = true then (
 if (0 ≤ i10 ∧ i10 < (index1.length : Int)) then
 if ((decide ((ix index1 i10) < (0 : Int))) || (decide ((ix index1 i10) ≥ n3))) = true then (
 some (.inr (.inl false)))
 else (
 some (.inl (w64 (i10 + (1 : Int)))))
 else none)
 else (
 some (.inr (.inr ())))
def spec_l4Within (index1 : (List Int)) (n3 : Int) : Option (Bool) :=
 (loopM (fun s : Int => spec_l4Within_L1 index1 n3 s) (0 : Int)).bind fun e => match e with
 | .inl e => some e
 | .inr e => spec_l4Within_J1
def spec_l7Has_J1 : Option (Bool) :=
 some false
def spec_l7Has_L1 (list1 : (List Int)) (p3 : Int) (i9 : Int) : Option ((Int) ⊕ ((Bool) ⊕ (Unit))) :=
 if (decide (i9 < (list1.length : Int))) = true then (
 if (0 ≤ i9 ∧ i9 < (list1.length : Int)) then
 if ((ix list1 i9) == p3) = true then (
 some (.inr (.inl true)))
 else (
 some (.inl (w64 (i9 + (1 : Int)))))
 else none)
 else (
 some (.inr (.inr ())))
def spec_l7Has (list1 : (List Int)) (p3 : Int) : Option (Bool) :=
 (loopM (fun s : Int => spec_l7Has_L1 list1 p3 s) (0 : Int)).bind fun e => match e with
 | .inl e => some e
 | .inr e => spec_l7Has_J1
def spec_l5RowOk_J1 (r1 : (List Int)) : Option (Bool) :=
 some ((decide ((r1.length : Int) > (0 : Int))) && (decide ((r1.length : Int) ≤ (4096 : Int))))
def spec_l5RowOk_L1 (r1 : (List Int)) (i9 : Int) : Option ((Int) ⊕ ((Bool) ⊕ (Unit))) :=
 if (decide (i9 < (r1.length : Int))) = true then (
 if (0 ≤ i9 ∧ i9 < (r1.length : Int)) then
 if ((decide ((ix r1 i9) < (0 : Int))) || (decide ((ix r1 i9) ≥ (2147483647 : Int)))) = true then (
 some (.inr (.inl false)))
 else (
 some (.inl (w64 (i9 + (1 : Int)))))
 else none)
 else (
 some (.inr (.inr ())))
def spec_l5RowOk (r1 : (List Int)) : Option (Bool) :=
 (loopM (fun s : Int => spec_l5RowOk_L1 r1 s) (0 : Int)).bind fun e => match e with
 | .inl e => some e
 | .inr e => spec_l5RowOk_J1 r1
def spec_l11Product_J1 (n25 : Int) : Option (Int) :=
 some n25
def spec_l11Product_L1 (a1 : (List Int)) (n12 : Int) (i13 : Int) : Option ((Int × Int) ⊕ ((Int) ⊕ (Int))) :=
 if (decide (i13 < (a1.length : Int))) = true then (
 if (0 ≤ i13 ∧ i13 < (a1.length : Int)) then
 if (((decide ((ix a1 i13) < (1 : Int))) || (decide ((ix a1 i13) > (65536 : Int)))) || (decide ((w64 (n12 * (ix a1 i13))) > (65536 : Int)))) = true then (
 some (.inr (.inl (0 : Int))))
 else (
 some (.inl ((w64 (n12 * (ix a1 i13))), (w64 (i13 + (1 : Int))))))
 else none)
 else (
 some (.inr (.inr n12)))
def spec_l11Product (a1 : (List Int)) : Option (Int) :=
 (loopM (fun s : Int × Int => spec_l11Product_L1 a1 s.1 s.2) ((1 : Int), (0 : Int))).bind fun e => match e with
 | .inl e => some e
 | .inr e => spec_l11Product_J1 e
def spec_l11Code_J7 : Option (Bool) :=
 some true
def spec_l11Code_J6 (i34 : Int) (ok60 : Bool) : Option ((Int) ⊕ ((Bool) ⊕ (Unit))) :=
 if (!ok60) = true then (
 some (.inr (.inl false)))
 else (
 some (.inl (w64 (i34 + (1 : Int)))))
def spec_l11Code_J5 (code1 : (List Calc)) (i34 : Int) (x56 : Bool) : Option ((Int) ⊕ ((Bool) ⊕ (Unit))) :=
 if x56 = true then (
 spec_l11Code_J6 i34 (((decide ((ix code1 i34).A ≥ (0 : Int))) && (decide ((ix code1 i34).A < i34))) && ((ix code1 i34).B == (0 : Int))))
 else (
 spec_l11Code_J6 i34 false)
def spec_l11Code_J4 (code1 : (List Calc)) (i34 : Int) (x48 : Bool) : Option ((Int) ⊕ ((Bool) ⊕ (Unit))) :=
 if x48 = true then (
 spec_l11Code_J6 i34 ((((decide ((ix code1 i34).A ≥ (0 : Int))) && (decide ((ix code1 i34).A < i34))) && (decide ((ix code1 i34).B ≥ (0 : Int)))) && (decide ((ix code1 i34).B < i34))))
 else (
 if ((ix code1 i34).Op == (6 : Int)) = true then (
 spec_l11Code_J5 code1 i34 ((ix code1 i34).Op == (6 : Int)))
 else (
 if ((ix code1 i34).Op == (7 : Int)) = true then (
 spec_l11Code_J5 code1 i34 ((ix code1 i34).Op == (7 : Int)))
 else (
 if ((ix code1 i34).Op == (8 : Int)) = true then (
 spec_l11Code_J5 code1 i34 ((ix code1 i34).Op == (8 : Int)))
 else (
 spec_l11Code_J5 code1 i34 ((ix code1 i34).Op == (9 : Int))))))
def spec_l11Code_L1 (code1 : (List Calc)) (loads3 : Int) (i34 : Int) : Option ((Int) ⊕ ((Bool) ⊕ (Unit))) :=
 if (decide (i34 < (code1.length : Int))) = true then (
 if (0 ≤ i34 ∧ i34 < (code1.length : Int)) then
 if ((ix code1 i34).Op == (1 : Int)) = true then (
 spec_l11Code_J6 i34 (((decide ((ix code1 i34).A ≥ (0 : Int))) && (decide ((ix code1 i34).A < loads3))) && ((ix code1 i34).B == (0 : Int))))
 else (
 if ((ix code1 i34).Op == (2 : Int)) = true then (
 spec_l11Code_J6 i34 (((decide ((ix code1 i34).A ≥ (0 : Int))) && (decide ((ix code1 i34).A < (2147483647 : Int)))) && ((ix code1 i34).B == (0 : Int))))
 else (
 if ((ix code1 i34).Op == (3 : Int)) = true then (
 spec_l11Code_J4 code1 i34 ((ix code1 i34).Op == (3 : Int)))
 else (
 if ((ix code1 i34).Op == (4 : Int)) = true then (
 spec_l11Code_J4 code1 i34 ((ix code1 i34).Op == (4 : Int)))
 else (
 spec_l11Code_J4 code1 i34 ((ix code1 i34).Op == (5 : Int))))))
 else none)
 else (
 some (.inr (.inr ())))
def spec_l11Code (code1 : (List Calc)) (loads3 : Int) : Option (Bool) :=
 if ((decide ((code1.length : Int) < (1 : Int))) || (decide ((code1.length : Int) > (60 : Int)))) = true then (
 some false)
 else (
 (loopM (fun s : Int => spec_l11Code_L1 code1 loads3 s) (0 : Int)).bind fun e => match e with
 | .inl e => some e
 | .inr e => spec_l11Code_J7)
def spec_l11Access_J3 (a1 : Access) (sizes5 : (List Int)) (low64 : Int) (high65 : Int) : Option (Bool) :=
 if (decide (low64 ≥ (0 : Int))) = true → (0 ≤ a1.Buffer ∧ a1.Buffer < (sizes5.length : Int)) then
 some ((decide (low64 ≥ (0 : Int))) && (decide (high65 < (ix sizes5 a1.Buffer))))
 else none
def spec_l11Access_J2 (i39 : Int) (low59 : Int) (high60 : Int) : Option ((Int × Int × Int) ⊕ ((Bool) ⊕ (Int × Int))) :=
 some (.inl (low59, high60, (w64 (i39 + (1 : Int)))))
def spec_l11Access_L1 (a1 : Access) (loops3 : (List Int)) (low37 : Int) (high38 : Int) (i39 : Int) : Option ((Int × Int × Int) ⊕ ((Bool) ⊕ (Int × Int))) :=
 if (decide (i39 < (loops3.length : Int))) = true then (
 if (0 ≤ i39 ∧ i39 < (a1.Steps.length : Int)) then
 if (0 ≤ i39 ∧ i39 < (loops3.length : Int)) then
 if (((ix loops3 i39) == (1 : Int)) && ((ix a1.Steps i39) == (0 : Int))) = true then (
 spec_l11Access_J2 i39 low37 high38)
 else (
 if ((((ix loops3 i39) == (1 : Int)) || (decide ((ix a1.Steps i39) < (-4096 : Int)))) || (decide ((ix a1.Steps i39) > (4096 : Int)))) = true then (
 some (.inr (.inl false)))
 else (
 if (decide ((ix a1.Steps i39) < (0 : Int))) = true then (
 spec_l11Access_J2 i39 (w64 (low37 + (w64 ((ix a1.Steps i39) * (w64 ((ix loops3 i39) - (1 : Int))))))) high38)
 else (
 spec_l11Access_J2 i39 low37 (w64 (high38 + (w64 ((ix a1.Steps i39) * (w64 ((ix loops3 i39) - (1 : Int))))))))))
 else none
 else none)
 else (
 some (.inr (.inr (low37, high38))))
def spec_l11Access (a1 : Access) (loops3 : (List Int)) (sizes5 : (List Int)) : Option (Bool) :=
 if ((((decide (a1.Buffer < (0 : Int))) || (decide (a1.Buffer ≥ (sizes5.length : Int)))) || ((a1.Steps.length : Int) != (loops3.length : Int))) || (decide (a1.Offset < (0 : Int)))) = false → (0 ≤ a1.Buffer ∧ a1.Buffer < (sizes5.length : Int)) then
 if (((((decide (a1.Buffer < (0 : Int))) || (decide (a1.Buffer ≥ (sizes5.length : Int)))) || ((a1.Steps.length : Int) != (loops3.length : Int))) || (decide (a1.Offset < (0 : Int)))) || (decide (a1.Offset ≥ (ix sizes5 a1.Buffer)))) = true then (
 some false)
 else (
 (loopM (fun s : Int × Int × Int => spec_l11Access_L1 a1 loops3 s.1 s.2.1 s.2.2) (a1.Offset, a1.Offset, (0 : Int))).bind fun e => match e with
 | .inl e => some e
 | .inr e => spec_l11Access_J3 a1 sizes5 e.1 e.2)
 else none
def spec_l11Kernel_J1 : Option (Bool) :=
 some true
def spec_l11Kernel_L1 (k1 : Kernel) (sizes6 : (List Int)) (i29 : Int) : Option ((Int) ⊕ ((Bool) ⊕ (Unit))) :=
 if (decide (i29 < (k1.Loads.length : Int))) = true then (
 if (0 ≤ i29 ∧ i29 < (k1.Loads.length : Int)) then
 (spec_l11Access (ix k1.Loads i29) k1.Loops sizes6).bind fun (r35 : Bool) =>
 if ((!r35) || ((ix k1.Loads i29).Buffer == k1.Store.Buffer)) = true then (
 some (.inr (.inl false)))
 else (
 some (.inl (w64 (i29 + (1 : Int)))))
 else none)
 else (
 some (.inr (.inr ())))
def spec_l11Kernel (k1 : Kernel) (sizes6 : (List Int)) : Option (Bool) :=
 (gcall (!((decide ((k1.Loops.length : Int) > (12 : Int))) || (decide ((k1.Loads.length : Int) > (30 : Int))))) (spec_l11Product k1.Loops)).bind fun (r9 : Int) =>
 (gcall (!(((decide ((k1.Loops.length : Int) > (12 : Int))) || (decide ((k1.Loads.length : Int) > (30 : Int)))) || (r9 == (0 : Int)))) (spec_l11Code k1.Code (k1.Loads.length : Int))).bind fun (r11 : Bool) =>
 (gcall (!((((decide ((k1.Loops.length : Int) > (12 : Int))) || (decide ((k1.Loads.length : Int) > (30 : Int)))) || (r9 == (0 : Int))) || (!r11))) (spec_l11Access k1.Store k1.Loops sizes6)).bind fun (r13 : Bool) =>
 if (((((decide ((k1.Loops.length : Int) > (12 : Int))) || (decide ((k1.Loads.length : Int) > (30 : Int)))) || (r9 == (0 : Int))) || (!r11)) || (!r13)) = true then (
 some false)
 else (
 (loopM (fun s : Int => spec_l11Kernel_L1 k1 sizes6 s) (0 : Int)).bind fun e => match e with
 | .inl e => some e
 | .inr e => spec_l11Kernel_J1)
def spec_NestOk_J4 (all159 : Int) : Option (Bool) :=
 some (decide (all159 ≤ (1000000 : Int)))
def spec_NestOk_L4 (l1 : Nest) (given109 : (List Int)) (all133 : Int) (i134 : Int) : Option ((Int × Int) ⊕ ((Bool) ⊕ (Int))) :=
 if (decide (i134 < (l1.Kernels.length : Int))) = true then (
 if (0 ≤ i134 ∧ i134 < (l1.Kernels.length : Int)) then
 (spec_l11Kernel (ix l1.Kernels i134) l1.Sizes).bind fun (r143 : Bool) =>
 (gcall (!(!r143)) (spec_l7Has given109 ((ix l1.Kernels i134).Store.Buffer))).bind fun (r145 : Bool) =>
 if ((!r143) || r145) = true then (
 some (.inr (.inl false)))
 else (
 (spec_l11Product ((ix l1.Kernels i134).Loops)).bind fun (r155 : Int) =>
 some (.inl ((w64 (all133 + r155)), (w64 (i134 + (1 : Int))))))
 else none)
 else (
 some (.inr (.inr all133)))
def spec_NestOk_J3 (l1 : Nest) (given109 : (List Int)) : Option (Bool) :=
 (loopM (fun s : Int × Int => spec_NestOk_L4 l1 given109 s.1 s.2) ((0 : Int), (0 : Int))).bind fun e => match e with
 | .inl e => some e
 | .inr e => spec_NestOk_J4 e
def spec_NestOk_L3 (l1 : Nest) (given82 : (List Int)) (i84 : Int) : Option (((List Int) × Int) ⊕ ((Bool) ⊕ ((List Int)))) :=
 if (decide (i84 < (l1.Fixed.length : Int))) = true then (
 if (0 ≤ i84 ∧ i84 < (l1.Fixed.length : Int)) then
 (gcall (!((decide ((ix l1.Fixed i84).Buffer < (0 : Int))) || (decide ((ix l1.Fixed i84).Buffer ≥ (l1.Sizes.length : Int))))) (spec_l7Has given82 ((ix l1.Fixed i84).Buffer))).bind fun (r89 : Bool) =>
 if (((decide ((ix l1.Fixed i84).Buffer < (0 : Int))) || (decide ((ix l1.Fixed i84).Buffer ≥ (l1.Sizes.length : Int)))) || r89) = false → (0 ≤ (ix l1.Fixed i84).Buffer ∧ (ix l1.Fixed i84).Buffer < (l1.Sizes.length : Int)) then
 (gcall ((!((((decide ((ix l1.Fixed i84).Buffer < (0 : Int))) || (decide ((ix l1.Fixed i84).Buffer ≥ (l1.Sizes.length : Int)))) || r89) || ((((ix l1.Fixed i84).Data).length : Int) != (ix l1.Sizes (ix l1.Fixed i84).Buffer)))) && (decide ((((ix l1.Fixed i84).Data).length : Int) > (0 : Int)))) (spec_l5RowOk ((ix l1.Fixed i84).Data))).bind fun (r95 : Bool) =>
 if (((((decide ((ix l1.Fixed i84).Buffer < (0 : Int))) || (decide ((ix l1.Fixed i84).Buffer ≥ (l1.Sizes.length : Int)))) || r89) || ((((ix l1.Fixed i84).Data).length : Int) != (ix l1.Sizes (ix l1.Fixed i84).Buffer))) || ((decide ((((ix l1.Fixed i84).Data).length : Int) > (0 : Int))) && (!r95))) = true then (
 some (.inr (.inl false)))
 else (
 if given82.length + ([(ix l1.Fixed i84).Buffer] : List Int).length ≤ 17592186044416 then
 some (.inl ((given82 ++ ([(ix l1.Fixed i84).Buffer] : List Int)), (w64 (i84 + (1 : Int)))))
 else none)
 else none
 else none)
 else (
 some (.inr (.inr given82)))
def spec_NestOk_J2 (l1 : Nest) (given59 : (List Int)) : Option (Bool) :=
 (loopM (fun s : (List Int) × Int => spec_NestOk_L3 l1 s.1 s.2) (given59, (0 : Int))).bind fun e => match e with
 | .inl e => some e
 | .inr e => spec_NestOk_J3 l1 e
def spec_NestOk_L2 (l1 : Nest) (given43 : (List Int)) (i45 : Int) : Option (((List Int) × Int) ⊕ ((Bool) ⊕ ((List Int)))) :=
 if (decide (i45 < (l1.Ins.length : Int))) = true then (
 if (0 ≤ i45 ∧ i45 < (l1.Ins.length : Int)) then
 (spec_l7Has given43 (ix l1.Ins i45)).bind fun (r50 : Bool) =>
 if r50 = true then (
 some (.inr (.inl false)))
 else (
 if given43.length + ([(ix l1.Ins i45)] : List Int).length ≤ 17592186044416 then
 some (.inl ((given43 ++ ([(ix l1.Ins i45)] : List Int)), (w64 (i45 + (1 : Int)))))
 else none)
 else none)
 else (
 some (.inr (.inr given43)))
def spec_NestOk_J1 (l1 : Nest) : Option (Bool) :=
 (loopM (fun s : (List Int) × Int => spec_NestOk_L2 l1 s.1 s.2) (([] : List Int), (0 : Int))).bind fun e => match e with
 | .inl e => some e
 | .inr e => spec_NestOk_J2 l1 e
def spec_NestOk_L1 (l1 : Nest) (i24 : Int) : Option ((Int) ⊕ ((Bool) ⊕ (Unit))) :=
 if (decide (i24 < (l1.Sizes.length : Int))) = true then (
 if (0 ≤ i24 ∧ i24 < (l1.Sizes.length : Int)) then
 if ((decide ((ix l1.Sizes i24) < (0 : Int))) || (decide ((ix l1.Sizes i24) > (4096 : Int)))) = true then (
 some (.inr (.inl false)))
 else (
 some (.inl (w64 (i24 + (1 : Int)))))
 else none)
 else (
 some (.inr (.inr ())))
def spec_NestOk (l1 : Nest) : Option (Bool) :=
 (gcall (!((((decide ((l1.Sizes.length : Int) > (200 : Int))) || (decide ((l1.Ins.length : Int) > (40 : Int)))) || (decide ((l1.Outs.length : Int) > (40 : Int)))) || (decide ((l1.Kernels.length : Int) > (400 : Int))))) (spec_l4Within l1.Ins (l1.Sizes.length : Int))).bind fun (r8 : Bool) =>
 (gcall (!(((((decide ((l1.Sizes.length : Int) > (200 : Int))) || (decide ((l1.Ins.length : Int) > (40 : Int)))) || (decide ((l1.Outs.length : Int) > (40 : Int)))) || (decide ((l1.Kernels.length : Int) > (400 : Int)))) || (!r8))) (spec_l4Within l1.Outs (l1.Sizes.length : Int))).bind fun (r10 : Bool) =>
 if ((((((decide ((l1.Sizes.length : Int) > (200 : Int))) || (decide ((l1.Ins.length : Int) > (40 : Int)))) || (decide ((l1.Outs.length : Int) > (40 : Int)))) || (decide ((l1.Kernels.length : Int) > (400 : Int)))) || (!r8)) || (!r10)) = true then (
 some false)
 else (
 (loopM (fun s : Int => spec_NestOk_L1 l1 s) (0 : Int)).bind fun e => match e with
 | .inl e => some e
 | .inr e => spec_NestOk_J1 l1)
def spec_l11Uses_J3 (x35 : (List Int)) : Option ((List Int)) :=
 some x35
def spec_l11Uses_J2 (i21 : Int) (x30 : (List Int)) : Option (((List Int) × Int) ⊕ ((List Int))) :=
 some (.inl (x30, (w64 (i21 + (1 : Int)))))
def spec_l11Uses_L1 (k1 : Kernel) (b6 : Int) (x19 : (List Int)) (i21 : Int) : Option (((List Int) × Int) ⊕ ((List Int))) :=
 if (decide (i21 < (k1.Loads.length : Int))) = true then (
 if (0 ≤ i21 ∧ i21 < (k1.Loads.length : Int)) then
 if ((ix k1.Loads i21).Buffer == b6) = true then (
 if x19.length + ([i21] : List Int).length ≤ 17592186044416 then
 spec_l11Uses_J2 i21 (x19 ++ ([i21] : List Int))
 else none)
 else (
 spec_l11Uses_J2 i21 x19)
 else none)
 else (
 some (.inr x19))
def spec_l11Uses (k1 : Kernel) (b6 : Int) : Option ((List Int)) :=
 (loopM (fun s : (List Int) × Int => spec_l11Uses_L1 k1 b6 s.1 s.2) (([] : List Int), (0 : Int))).bind fun e => spec_l11Uses_J3 e
def spec_l3SameInts_J1 : Option (Bool) :=
 some true
def spec_l3SameInts_L1 (a1 : (List Int)) (b3 : (List Int)) (i14 : Int) : Option ((Int) ⊕ ((Bool) ⊕ (Unit))) :=
 if (decide (i14 < (a1.length : Int))) = true then (
 if (0 ≤ i14 ∧ i14 < (a1.length : Int)) then
 if (0 ≤ i14 ∧ i14 < (b3.length : Int)) then
 if ((ix a1 i14) != (ix b3 i14)) = true then (
 some (.inr (.inl false)))
 else (
 some (.inl (w64 (i14 + (1 : Int)))))
 else none
 else none)
 else (
 some (.inr (.inr ())))
def spec_l3SameInts (a1 : (List Int)) (b3 : (List Int)) : Option (Bool) :=
 if ((a1.length : Int) != (b3.length : Int)) = true then (
 some false)
 else (
 (loopM (fun s : Int => spec_l3SameInts_L1 a1 b3 s) (0 : Int)).bind fun e => match e with
 | .inl e => some e
 | .inr e => spec_l3SameInts_J1)
def impl_Nest_given_1 (b1 : Int) (p2 : (List Bool)) : Option (Bool × (List Bool)) :=
 if ((decide (b1 < (0 : Int))) || (decide (b1 ≥ (p2.length : Int)))) = false → (0 ≤ b1 ∧ b1 < (p2.length : Int)) then
 if (((decide (b1 < (0 : Int))) || (decide (b1 ≥ (p2.length : Int)))) || (ix p2 b1)) = true then (
 some (false, p2))
 else (
 if (0 ≤ b1 ∧ b1 < (p2.length : Int)) then
 some (true, (p2.set b1.toNat true))
 else none)
 else none
def impl_isNum (p1 : Int) : Option (Bool) :=
 some ((decide (p1 ≥ (0 : Int))) && (decide (p1 < (2147483647 : Int))))
def impl_allNums_J1 : Option (Bool) :=
 some true
def impl_allNums_L1 (xs1 : (List Int)) (x10 : Int) : Option ((Int) ⊕ ((Bool) ⊕ (Unit))) :=
 if (decide (x10 < (xs1.length : Int))) = true then (
 if (0 ≤ x10 ∧ x10 < (xs1.length : Int)) then
 (impl_isNum (ix xs1 x10)).bind fun (r15 : Bool) =>
 if (!r15) = true then (
 some (.inr (.inl false)))
 else (
 some (.inl (w64 (x10 + (1 : Int)))))
 else none)
 else (
 some (.inr (.inr ())))
def impl_allNums (xs1 : (List Int)) : Option (Bool) :=
 (loopM (fun s : Int => impl_allNums_L1 xs1 s) (0 : Int)).bind fun e => match e with
 | .inl e => some e
 | .inr e => impl_allNums_J1
def impl_Nest_given_J2 (x79 : (List Bool)) : Option ((List Bool) × Bool) :=
 some (x79, true)
def impl_Nest_given_L2 (l1 : Nest) (x53 : (List Bool)) (x56 : Int) : Option (((List Bool) × Int) ⊕ (((List Bool) × Bool) ⊕ ((List Bool)))) :=
 if (decide (x56 < (l1.Fixed.length : Int))) = true then (
 if (0 ≤ x56 ∧ x56 < (l1.Fixed.length : Int)) then
 (impl_Nest_given_1 ((ix l1.Fixed x56).Buffer) x53).bind fun (r63 : Bool × (List Bool)) =>
 if (!r63.1) = false → (0 ≤ (ix l1.Fixed x56).Buffer ∧ (ix l1.Fixed x56).Buffer < (l1.Sizes.length : Int)) then
 (gcall (!((!r63.1) || ((((ix l1.Fixed x56).Data).length : Int) != (ix l1.Sizes (ix l1.Fixed x56).Buffer)))) (impl_allNums ((ix l1.Fixed x56).Data))).bind fun (r69 : Bool) =>
 if (((!r63.1) || ((((ix l1.Fixed x56).Data).length : Int) != (ix l1.Sizes (ix l1.Fixed x56).Buffer))) || (!r69)) = true then (
 some (.inr (.inl (([] : List Bool), false))))
 else (
 some (.inl (r63.2, (w64 (x56 + (1 : Int))))))
 else none
 else none)
 else (
 some (.inr (.inr x53)))
def impl_Nest_given_J1 (l1 : Nest) (x33 : (List Bool)) : Option ((List Bool) × Bool) :=
 (loopM (fun s : (List Bool) × Int => impl_Nest_given_L2 l1 s.1 s.2) (x33, (0 : Int))).bind fun e => match e with
 | .inl e => some e
 | .inr e => impl_Nest_given_J2 e
def impl_Nest_given_L1 (l1 : Nest) (x19 : (List Bool)) (x21 : Int) : Option (((List Bool) × Int) ⊕ (((List Bool) × Bool) ⊕ ((List Bool)))) :=
 if (decide (x21 < (l1.Ins.length : Int))) = true then (
 if (0 ≤ x21 ∧ x21 < (l1.Ins.length : Int)) then
 (impl_Nest_given_1 (ix l1.Ins x21) x19).bind fun (r26 : Bool × (List Bool)) =>
 if (!r26.1) = true then (
 some (.inr (.inl (([] : List Bool), false))))
 else (
 some (.inl (r26.2, (w64 (x21 + (1 : Int))))))
 else none)
 else (
 some (.inr (.inr x19)))
def impl_Nest_given (l1 : Nest) : Option ((List Bool) × Bool) :=
 if (0 ≤ (l1.Sizes.length : Int) ∧ (l1.Sizes.length : Int) ≤ 140737488355328 ∧ 1 * (l1.Sizes.length : Int) ≤ 281474976710656) then
 (loopM (fun s : (List Bool) × Int => impl_Nest_given_L1 l1 s.1 s.2) ((List.replicate (l1.Sizes.length : Int).toNat false), (0 : Int))).bind fun e => match e with
 | .inl e => some e
 | .inr e => impl_Nest_given_J1 l1 e
 else none
def impl_work_J1 (loops1 : (List Int)) (n24 : Int) : Option (Int × Bool) :=
 some (n24, (decide ((loops1.length : Int) ≤ (12 : Int))))
def impl_work_L1 (loops1 : (List Int)) (n11 : Int) (x12 : Int) : Option ((Int × Int) ⊕ ((Int × Bool) ⊕ (Int))) :=
 if (decide (x12 < (loops1.length : Int))) = true then (
 if (0 ≤ x12 ∧ x12 < (loops1.length : Int)) then
 if ((decide ((ix loops1 x12) < (1 : Int))) || (decide ((ix loops1 x12) > (65536 : Int)))) = true then (
 some (.inr (.inl ((0 : Int), false))))
 else (
 if (decide ((w64 (n11 * (ix loops1 x12))) > (65536 : Int))) = true then (
 some (.inr (.inl ((0 : Int), false))))
 else (
 some (.inl ((w64 (n11 * (ix loops1 x12))), (w64 (x12 + (1 : Int)))))))
 else none)
 else (
 some (.inr (.inr n11)))
def impl_work (loops1 : (List Int)) : Option (Int × Bool) :=
 (loopM (fun s : Int × Int => impl_work_L1 loops1 s.1 s.2) ((1 : Int), (0 : Int))).bind fun e => match e with
 | .inl e => some e
 | .inr e => impl_work_J1 loops1 e
def impl_codeOk_J7 : Option (Bool) :=
 some true
def impl_codeOk_J6 (x35 : Int) (ok62 : Bool) : Option ((Int) ⊕ ((Bool) ⊕ (Unit))) :=
 if (!ok62) = true then (
 some (.inr (.inl false)))
 else (
 some (.inl (w64 (x35 + (1 : Int)))))
def impl_codeOk_J5 (code1 : (List Calc)) (x35 : Int) (x58 : Bool) : Option ((Int) ⊕ ((Bool) ⊕ (Unit))) :=
 if x58 = true then (
 impl_codeOk_J6 x35 (((decide ((ix code1 x35).A ≥ (0 : Int))) && (decide ((ix code1 x35).A < x35))) && ((ix code1 x35).B == (0 : Int))))
 else (
 impl_codeOk_J6 x35 false)
def impl_codeOk_J4 (code1 : (List Calc)) (x35 : Int) (x50 : Bool) : Option ((Int) ⊕ ((Bool) ⊕ (Unit))) :=
 if x50 = true then (
 impl_codeOk_J6 x35 ((((decide ((ix code1 x35).A ≥ (0 : Int))) && (decide ((ix code1 x35).A < x35))) && (decide ((ix code1 x35).B ≥ (0 : Int)))) && (decide ((ix code1 x35).B < x35))))
 else (
 if ((ix code1 x35).Op == (6 : Int)) = true then (
 impl_codeOk_J5 code1 x35 ((ix code1 x35).Op == (6 : Int)))
 else (
 if ((ix code1 x35).Op == (7 : Int)) = true then (
 impl_codeOk_J5 code1 x35 ((ix code1 x35).Op == (7 : Int)))
 else (
 if ((ix code1 x35).Op == (8 : Int)) = true then (
 impl_codeOk_J5 code1 x35 ((ix code1 x35).Op == (8 : Int)))
 else (
 impl_codeOk_J5 code1 x35 ((ix code1 x35).Op == (9 : Int))))))
def impl_codeOk_L1 (code1 : (List Calc)) (loads3 : Int) (x35 : Int) : Option ((Int) ⊕ ((Bool) ⊕ (Unit))) :=
 if (decide (x35 < (code1.length : Int))) = true then (
 if (0 ≤ x35 ∧ x35 < (code1.length : Int)) then
 if ((ix code1 x35).Op == (1 : Int)) = true then (
 impl_codeOk_J6 x35 (((decide ((ix code1 x35).A ≥ (0 : Int))) && (decide ((ix code1 x35).A < loads3))) && ((ix code1 x35).B == (0 : Int))))
 else (
 if ((ix code1 x35).Op == (2 : Int)) = true then (
 (impl_isNum ((ix code1 x35).A)).bind fun (r45 : Bool) =>
 impl_codeOk_J6 x35 (r45 && ((ix code1 x35).B == (0 : Int))))
 else (
 if ((ix code1 x35).Op == (3 : Int)) = true then (
 impl_codeOk_J4 code1 x35 ((ix code1 x35).Op == (3 : Int)))
 else (
 if ((ix code1 x35).Op == (4 : Int)) = true then (
 impl_codeOk_J4 code1 x35 ((ix code1 x35).Op == (4 : Int)))
 else (
 impl_codeOk_J4 code1 x35 ((ix code1 x35).Op == (5 : Int))))))
 else none)
 else (
 some (.inr (.inr ())))
def impl_codeOk (code1 : (List Calc)) (loads3 : Int) : Option (Bool) :=
 if ((decide ((code1.length : Int) < (1 : Int))) || (decide ((code1.length : Int) > (60 : Int)))) = true then (
 some false)
 else (
 (loopM (fun s : Int => impl_codeOk_L1 code1 loads3 s) (0 : Int)).bind fun e => match e with
 | .inl e => some e
 | .inr e => impl_codeOk_J7)
def slices_Clone_impl_Access_impl_Access (s1 : List Access) : Option (List Access) :=
 if s1.length ≤ 3518437208883 then some s1 else none
def impl_Access_fitsIn_J1 (size5 : Int) (lo46 : Int) (hi47 : Int) : Option (Bool) :=
 some ((decide (lo46 ≥ (0 : Int))) && (decide (hi47 < size5)))
def impl_Access_fitsIn_L1 (a1 : Access) (loops3 : (List Int)) (lo24 : Int) (hi25 : Int) (x27 : Int) : Option ((Int × Int × Int) ⊕ ((Bool) ⊕ (Int × Int))) :=
 if (decide (x27 < (a1.Steps.length : Int))) = true then (
 if (0 ≤ x27 ∧ x27 < (a1.Steps.length : Int)) then
 if ((decide ((ix a1.Steps x27) < (-4096 : Int))) || (decide ((ix a1.Steps x27) > (4096 : Int)))) = false → (0 ≤ x27 ∧ x27 < (loops3.length : Int)) then
 if (((decide ((ix a1.Steps x27) < (-4096 : Int))) || (decide ((ix a1.Steps x27) > (4096 : Int)))) || (((ix loops3 x27) == (1 : Int)) && ((ix a1.Steps x27) != (0 : Int)))) = true then (
 some (.inr (.inl false)))
 else (
 if (0 ≤ x27 ∧ x27 < (loops3.length : Int)) then
 some (.inl ((w64 (lo24 + (if (w64 ((ix a1.Steps x27) * (w64 ((ix loops3 x27) - (1 : Int))))) < (0 : Int) then (w64 ((ix a1.Steps x27) * (w64 ((ix loops3 x27) - (1 : Int))))) else (0 : Int)))), (w64 (hi25 + (if (w64 ((ix a1.Steps x27) * (w64 ((ix loops3 x27) - (1 : Int))))) > (0 : Int) then (w64 ((ix a1.Steps x27) * (w64 ((ix loops3 x27) - (1 : Int))))) else (0 : Int)))), (w64 (x27 + (1 : Int)))))
 else none)
 else none
 else none)
 else (
 some (.inr (.inr (lo24, hi25))))
def impl_Access_fitsIn (a1 : Access) (loops3 : (List Int)) (size5 : Int) : Option (Bool) :=
 if ((((a1.Steps.length : Int) != (loops3.length : Int)) || (decide (a1.Offset < (0 : Int)))) || (decide (a1.Offset ≥ size5))) = true then (
 some false)
 else (
 (loopM (fun s : Int × Int × Int => impl_Access_fitsIn_L1 a1 loops3 s.1 s.2.1 s.2.2) (a1.Offset, a1.Offset, (0 : Int))).bind fun e => match e with
 | .inl e => some e
 | .inr e => impl_Access_fitsIn_J1 size5 e.1 e.2)
def impl_Nest_kernelOk_J2 (k7 : Kernel) (given12 : (List Bool)) (r16 : Int × Bool) : Option (Int × Bool) :=
 if (0 ≤ k7.Store.Buffer ∧ k7.Store.Buffer < (given12.length : Int)) then
 some (r16.1, (!(ix given12 k7.Store.Buffer)))
 else none
def impl_Nest_kernelOk_L2 (k7 : Kernel) (x69 : Int) : Option ((Int) ⊕ ((Int × Bool) ⊕ (Unit))) :=
 if (decide (x69 < (k7.Loads.length : Int))) = true then (
 if (0 ≤ x69 ∧ x69 < (k7.Loads.length : Int)) then
 if ((ix k7.Loads x69).Buffer == k7.Store.Buffer) = true then (
 some (.inr (.inl ((0 : Int), false))))
 else (
 some (.inl (w64 (x69 + (1 : Int)))))
 else none)
 else (
 some (.inr (.inr ())))
def impl_Nest_kernelOk_J1 (k7 : Kernel) (given12 : (List Bool)) (r16 : Int × Bool) : Option (Int × Bool) :=
 (loopM (fun s : Int => impl_Nest_kernelOk_L2 k7 s) (0 : Int)).bind fun e => match e with
 | .inl e => some e
 | .inr e => impl_Nest_kernelOk_J2 k7 given12 r16
def impl_Nest_kernelOk_L1 (l1 : Nest) (k7 : Kernel) (r23 : (List Access)) (x45 : Int) : Option ((Int) ⊕ ((Int × Bool) ⊕ (Unit))) :=
 if (decide (x45 < ((r23 ++ ([k7.Store] : List Access)).length : Int))) = true then (
 if (0 ≤ x45 ∧ x45 < ((r23 ++ ([k7.Store] : List Access)).length : Int)) then
 if ((decide ((ix (r23 ++ ([k7.Store] : List Access)) x45).Buffer < (0 : Int))) || (decide ((ix (r23 ++ ([k7.Store] : List Access)) x45).Buffer ≥ (l1.Sizes.length : Int)))) = false → (0 ≤ (ix (r23 ++ ([k7.Store] : List Access)) x45).Buffer ∧ (ix (r23 ++ ([k7.Store] : List Access)) x45).Buffer < (l1.Sizes.length : Int)) then
 (gcall (!((decide ((ix (r23 ++ ([k7.Store] : List Access)) x45).Buffer < (0 : Int))) || (decide ((ix (r23 ++ ([k7.Store] : List Access)) x45).Buffer ≥ (l1.Sizes.length : Int))))) (impl_Access_fitsIn (ix (r23 ++ ([k7.Store] : List Access)) x45) k7.Loops (ix l1.Sizes (ix (r23 ++ ([k7.Store] : List Access)) x45).Buffer))).bind fun (r55 : Bool) =>
 if (((decide ((ix (r23 ++ ([k7.Store] : List Access)) x45).Buffer < (0 : Int))) || (decide ((ix (r23 ++ ([k7.Store] : List Access)) x45).Buffer ≥ (l1.Sizes.length : Int)))) || (!r55)) = true then (
 some (.inr (.inl ((0 : Int), false))))
 else (
 some (.inl (w64 (x45 + (1 : Int)))))
 else none
 else none)
 else (
 some (.inr (.inr ())))
def impl_Nest_kernelOk (l1 : Nest) (k7 : Kernel) (given12 : (List Bool)) : Option (Int × Bool) :=
 (impl_work k7.Loops).bind fun (r16 : Int × Bool) =>
 (gcall (!((!r16.2) || (decide ((k7.Loads.length : Int) > (30 : Int))))) (impl_codeOk k7.Code (k7.Loads.length : Int))).bind fun (r18 : Bool) =>
 if (((!r16.2) || (decide ((k7.Loads.length : Int) > (30 : Int)))) || (!r18)) = true then (
 some ((0 : Int), false))
 else (
 (slices_Clone_impl_Access_impl_Access k7.Loads).bind fun (r23 : (List Access)) =>
 if r23.length + ([k7.Store] : List Access).length ≤ 3518437208883 then
 (loopM (fun s : Int => impl_Nest_kernelOk_L1 l1 k7 r23 s) (0 : Int)).bind fun e => match e with
 | .inl e => some e
 | .inr e => impl_Nest_kernelOk_J1 k7 given12 r16
 else none)
def impl_NestOk_J3 (sum76 : Int) : Option (Bool) :=
 some (decide (sum76 ≤ (1000000 : Int)))
def impl_NestOk_L3 (l1 : Nest) (r44 : (List Bool) × Bool) (sum60 : Int) (x61 : Int) : Option ((Int × Int) ⊕ ((Bool) ⊕ (Int))) :=
 if (decide (x61 < (l1.Kernels.length : Int))) = true then (
 if (0 ≤ x61 ∧ x61 < (l1.Kernels.length : Int)) then
 (impl_Nest_kernelOk l1 (ix l1.Kernels x61) r44.1).bind fun (r71 : Int × Bool) =>
 if (!r71.2) = true then (
 some (.inr (.inl false)))
 else (
 some (.inl ((w64 (sum60 + r71.1)), (w64 (x61 + (1 : Int))))))
 else none)
 else (
 some (.inr (.inr sum60)))
def impl_NestOk_J2 (l1 : Nest) : Option (Bool) :=
 (impl_Nest_given l1).bind fun (r44 : (List Bool) × Bool) =>
 if (!r44.2) = true then (
 some false)
 else (
 (loopM (fun s : Int × Int => impl_NestOk_L3 l1 r44 s.1 s.2) ((0 : Int), (0 : Int))).bind fun e => match e with
 | .inl e => some e
 | .inr e => impl_NestOk_J3 e)
def impl_NestOk_L2 (l1 : Nest) (x35 : Int) : Option ((Int) ⊕ ((Bool) ⊕ (Unit))) :=
 if (decide (x35 < (l1.Outs.length : Int))) = true then (
 if (0 ≤ x35 ∧ x35 < (l1.Outs.length : Int)) then
 if ((decide ((ix l1.Outs x35) < (0 : Int))) || (decide ((ix l1.Outs x35) ≥ (l1.Sizes.length : Int)))) = true then (
 some (.inr (.inl false)))
 else (
 some (.inl (w64 (x35 + (1 : Int)))))
 else none)
 else (
 some (.inr (.inr ())))
def impl_NestOk_J1 (l1 : Nest) : Option (Bool) :=
 (loopM (fun s : Int => impl_NestOk_L2 l1 s) (0 : Int)).bind fun e => match e with
 | .inl e => some e
 | .inr e => impl_NestOk_J2 l1
def impl_NestOk_L1 (l1 : Nest) (x19 : Int) : Option ((Int) ⊕ ((Bool) ⊕ (Unit))) :=
 if (decide (x19 < (l1.Sizes.length : Int))) = true then (
 if (0 ≤ x19 ∧ x19 < (l1.Sizes.length : Int)) then
 if ((decide ((ix l1.Sizes x19) < (0 : Int))) || (decide ((ix l1.Sizes x19) > (4096 : Int)))) = true then (
 some (.inr (.inl false)))
 else (
 some (.inl (w64 (x19 + (1 : Int)))))
 else none)
 else (
 some (.inr (.inr ())))
def impl_NestOk (l1 : Nest) : Option (Bool) :=
 if ((((decide ((l1.Sizes.length : Int) > (200 : Int))) || (decide ((l1.Ins.length : Int) > (40 : Int)))) || (decide ((l1.Outs.length : Int) > (40 : Int)))) || (decide ((l1.Kernels.length : Int) > (400 : Int)))) = true then (
 some false)
 else (
 (loopM (fun s : Int => impl_NestOk_L1 l1 s) (0 : Int)).bind fun e => match e with
 | .inl e => some e
 | .inr e => impl_NestOk_J1 l1)
def slices_Index_int_int_J1 : Option (Int) :=
 some (-1 : Int)
def slices_Index_int_int_L1 (p1 : (List Int)) (v3 : Int) (x9 : Int) : Option ((Int) ⊕ ((Int) ⊕ (Unit))) :=
 if (decide (x9 < (p1.length : Int))) = true then (
 if (0 ≤ x9 ∧ x9 < (p1.length : Int)) then
 if (v3 == (ix p1 x9)) = true then (
 some (.inr (.inl x9)))
 else (
 some (.inl (w64 (x9 + (1 : Int)))))
 else none)
 else (
 some (.inr (.inr ())))
def slices_Index_int_int (p1 : (List Int)) (v3 : Int) : Option (Int) :=
 (loopM (fun s : Int => slices_Index_int_int_L1 p1 v3 s) (0 : Int)).bind fun e => match e with
 | .inl e => some e
 | .inr e => slices_Index_int_int_J1
def slices_Contains_int_int (p1 : (List Int)) (v3 : Int) : Option (Bool) :=
 (slices_Index_int_int p1 v3).bind fun (r4 : Int) =>
 some (decide (r4 ≥ (0 : Int)))
def impl_truth (b1 : Bool) : Option (Int) :=
 if b1 = true then (
 some (1 : Int))
 else (
 some (0 : Int))
def impl_Kernel_loadsOf_J1 (n28 : Int) : Option (Int) :=
 some n28
def impl_Kernel_loadsOf_L1 (k1 : Kernel) (b6 : Int) (n16 : Int) (x17 : Int) : Option ((Int × Int) ⊕ (Int)) :=
 if (decide (x17 < (k1.Loads.length : Int))) = true then (
 if (0 ≤ x17 ∧ x17 < (k1.Loads.length : Int)) then
 (impl_truth ((ix k1.Loads x17).Buffer == b6)).bind fun (r24 : Int) =>
 some (.inl ((w64 (n16 + r24)), (w64 (x17 + (1 : Int)))))
 else none)
 else (
 some (.inr n16))
def impl_Kernel_loadsOf (k1 : Kernel) (b6 : Int) : Option (Int) :=
 (loopM (fun s : Int × Int => impl_Kernel_loadsOf_L1 k1 b6 s.1 s.2) ((0 : Int), (0 : Int))).bind fun e => impl_Kernel_loadsOf_J1 e
def laws_eqIntS_J1 : Option (Bool) :=
 some true
def laws_eqIntS_L1 (a1 : (List Int)) (b3 : (List Int)) (i14 : Int) : Option ((Int) ⊕ ((Bool) ⊕ (Unit))) :=
 if (decide (i14 < (a1.length : Int))) = true then (
 if (0 ≤ i14 ∧ i14 < (a1.length : Int)) then
 if (0 ≤ i14 ∧ i14 < (b3.length : Int)) then
 if ((ix a1 i14) != (ix b3 i14)) = true then (
 some (.inr (.inl false)))
 else (
 some (.inl (w64 (i14 + (1 : Int)))))
 else none
 else none)
 else (
 some (.inr (.inr ())))
def laws_eqIntS (a1 : (List Int)) (b3 : (List Int)) : Option (Bool) :=
 if ((a1.length : Int) != (b3.length : Int)) = true then (
 some false)
 else (
 (loopM (fun s : Int => laws_eqIntS_L1 a1 b3 s) (0 : Int)).bind fun e => match e with
 | .inl e => some e
 | .inr e => laws_eqIntS_J1)
def laws_eqFix (a1 : Fix) (b3 : Fix) : Option (Bool) :=
 if (a1.Buffer != b3.Buffer) = true then (
 some false)
 else (
 (laws_eqIntS a1.Data b3.Data).bind fun (r8 : Bool) =>
 if (!r8) = true then (
 some false)
 else (
 some true))
def laws_eqFixS_J1 : Option (Bool) :=
 some true
def laws_eqFixS_L1 (a1 : (List Fix)) (b3 : (List Fix)) (i18 : Int) : Option ((Int) ⊕ ((Bool) ⊕ (Unit))) :=
 if (decide (i18 < (a1.length : Int))) = true then (
 if (0 ≤ i18 ∧ i18 < (a1.length : Int)) then
 if (0 ≤ i18 ∧ i18 < (b3.length : Int)) then
 (laws_eqFix (ix a1 i18) (ix b3 i18)).bind fun (r28 : Bool) =>
 if (!r28) = true then (
 some (.inr (.inl false)))
 else (
 some (.inl (w64 (i18 + (1 : Int)))))
 else none
 else none)
 else (
 some (.inr (.inr ())))
def laws_eqFixS (a1 : (List Fix)) (b3 : (List Fix)) : Option (Bool) :=
 if ((a1.length : Int) != (b3.length : Int)) = true then (
 some false)
 else (
 (loopM (fun s : Int => laws_eqFixS_L1 a1 b3 s) (0 : Int)).bind fun e => match e with
 | .inl e => some e
 | .inr e => laws_eqFixS_J1)
def laws_eqAccess (a1 : Access) (b3 : Access) : Option (Bool) :=
 if (a1.Buffer != b3.Buffer) = true then (
 some false)
 else (
 if (a1.Offset != b3.Offset) = true then (
 some false)
 else (
 (laws_eqIntS a1.Steps b3.Steps).bind fun (r9 : Bool) =>
 if (!r9) = true then (
 some false)
 else (
 some true)))
def laws_eqAccessS_J1 : Option (Bool) :=
 some true
def laws_eqAccessS_L1 (a1 : (List Access)) (b3 : (List Access)) (i18 : Int) : Option ((Int) ⊕ ((Bool) ⊕ (Unit))) :=
 if (decide (i18 < (a1.length : Int))) = true then (
 if (0 ≤ i18 ∧ i18 < (a1.length : Int)) then
 if (0 ≤ i18 ∧ i18 < (b3.length : Int)) then
 (laws_eqAccess (ix a1 i18) (ix b3 i18)).bind fun (r28 : Bool) =>
 if (!r28) = true then (
 some (.inr (.inl false)))
 else (
 some (.inl (w64 (i18 + (1 : Int)))))
 else none
 else none)
 else (
 some (.inr (.inr ())))
def laws_eqAccessS (a1 : (List Access)) (b3 : (List Access)) : Option (Bool) :=
 if ((a1.length : Int) != (b3.length : Int)) = true then (
 some false)
 else (
 (loopM (fun s : Int => laws_eqAccessS_L1 a1 b3 s) (0 : Int)).bind fun e => match e with
 | .inl e => some e
 | .inr e => laws_eqAccessS_J1)
def laws_eqCalc (a1 : Calc) (b2 : Calc) : Option (Bool) :=
 if (a1.Op != b2.Op) = true then (
 some false)
 else (
 if (a1.A != b2.A) = true then (
 some false)
 else (
 if (a1.B != b2.B) = true then (
 some false)
 else (
 some true)))
def laws_eqCalcS_J1 : Option (Bool) :=
 some true
def laws_eqCalcS_L1 (a1 : (List Calc)) (b3 : (List Calc)) (i16 : Int) : Option ((Int) ⊕ ((Bool) ⊕ (Unit))) :=
 if (decide (i16 < (a1.length : Int))) = true then (
 if (0 ≤ i16 ∧ i16 < (a1.length : Int)) then
 if (0 ≤ i16 ∧ i16 < (b3.length : Int)) then
 (laws_eqCalc (ix a1 i16) (ix b3 i16)).bind fun (r24 : Bool) =>
 if (!r24) = true then (
 some (.inr (.inl false)))
 else (
 some (.inl (w64 (i16 + (1 : Int)))))
 else none
 else none)
 else (
 some (.inr (.inr ())))
def laws_eqCalcS (a1 : (List Calc)) (b3 : (List Calc)) : Option (Bool) :=
 if ((a1.length : Int) != (b3.length : Int)) = true then (
 some false)
 else (
 (loopM (fun s : Int => laws_eqCalcS_L1 a1 b3 s) (0 : Int)).bind fun e => match e with
 | .inl e => some e
 | .inr e => laws_eqCalcS_J1)
def laws_eqKernel (a1 : Kernel) (b6 : Kernel) : Option (Bool) :=
 (laws_eqIntS a1.Loops b6.Loops).bind fun (r13 : Bool) =>
 if (!r13) = true then (
 some false)
 else (
 (laws_eqAccessS a1.Loads b6.Loads).bind fun (r16 : Bool) =>
 if (!r16) = true then (
 some false)
 else (
 (laws_eqAccess a1.Store b6.Store).bind fun (r19 : Bool) =>
 if (!r19) = true then (
 some false)
 else (
 if (!(a1.Sum == b6.Sum)) = true then (
 some false)
 else (
 (laws_eqCalcS a1.Code b6.Code).bind fun (r23 : Bool) =>
 if (!r23) = true then (
 some false)
 else (
 some true)))))
def laws_eqKernelS_J1 : Option (Bool) :=
 some true
def laws_eqKernelS_L1 (a1 : (List Kernel)) (b3 : (List Kernel)) (i24 : Int) : Option ((Int) ⊕ ((Bool) ⊕ (Unit))) :=
 if (decide (i24 < (a1.length : Int))) = true then (
 if (0 ≤ i24 ∧ i24 < (a1.length : Int)) then
 if (0 ≤ i24 ∧ i24 < (b3.length : Int)) then
 (laws_eqKernel (ix a1 i24) (ix b3 i24)).bind fun (r40 : Bool) =>
 if (!r40) = true then (
 some (.inr (.inl false)))
 else (
 some (.inl (w64 (i24 + (1 : Int)))))
 else none
 else none)
 else (
 some (.inr (.inr ())))
def laws_eqKernelS (a1 : (List Kernel)) (b3 : (List Kernel)) : Option (Bool) :=
 if ((a1.length : Int) != (b3.length : Int)) = true then (
 some false)
 else (
 (loopM (fun s : Int => laws_eqKernelS_L1 a1 b3 s) (0 : Int)).bind fun e => match e with
 | .inl e => some e
 | .inr e => laws_eqKernelS_J1)
def laws_eqNest (a1 : Nest) (b7 : Nest) : Option (Bool) :=
 (laws_eqIntS a1.Sizes b7.Sizes).bind fun (r15 : Bool) =>
 if (!r15) = true then (
 some false)
 else (
 (laws_eqIntS a1.Ins b7.Ins).bind fun (r18 : Bool) =>
 if (!r18) = true then (
 some false)
 else (
 (laws_eqFixS a1.Fixed b7.Fixed).bind fun (r21 : Bool) =>
 if (!r21) = true then (
 some false)
 else (
 (laws_eqKernelS a1.Kernels b7.Kernels).bind fun (r24 : Bool) =>
 if (!r24) = true then (
 some false)
 else (
 (laws_eqIntS a1.Outs b7.Outs).bind fun (r27 : Bool) =>
 if (!r27) = true then (
 some false)
 else (
 some true)))))
def laws_markIntS_J1 (k18 : Int) (p19 : (List Int)) : Option (Int × (List Int)) :=
 some (k18, p19)
def laws_markIntS_L1 (a1 : (List Int)) (a8 : (List Int)) (k9 : Int) (i10 : Int) : Option (((List Int) × Int × Int) ⊕ (Int × (List Int))) :=
 if (decide (i10 < (a1.length : Int))) = true then (
 if (0 ≤ i10 ∧ i10 < (a1.length : Int)) then
 some (.inl ((a8.set i10.toNat k9), (w64 (k9 + (1 : Int))), (w64 (i10 + (1 : Int)))))
 else none)
 else (
 some (.inr (k9, a8)))
def laws_markIntS (a1 : (List Int)) (k3 : Int) : Option (Int × (List Int)) :=
 (loopM (fun s : (List Int) × Int × Int => laws_markIntS_L1 a1 s.1 s.2.1 s.2.2) (a1, k3, (0 : Int))).bind fun e => laws_markIntS_J1 e.1 e.2
def laws_markFixS_J1 (k30 : Int) (p31 : (List Fix)) : Option (Int × (List Fix)) :=
 some (k30, p31)
def laws_markFixS_L1 (a1 : (List Fix)) (a15 : (List Fix)) (k16 : Int) (i17 : Int) : Option (((List Fix) × Int × Int) ⊕ (Int × (List Fix))) :=
 if (decide (i17 < (a1.length : Int))) = true then (
 if (0 ≤ i17 ∧ i17 < (a1.length : Int)) then
 (laws_markIntS ((ix (a15.set i17.toNat (⟨k16, (ix a15 i17).Data⟩ : Fix)) i17).Data) (w64 (k16 + (1 : Int)))).bind fun (r23 : Int × (List Int)) =>
 (nm ((a15.set i17.toNat (⟨k16, (ix a15 i17).Data⟩ : Fix)).set i17.toNat (⟨(ix (a15.set i17.toNat (⟨k16, (ix a15 i17).Data⟩ : Fix)) i17).Buffer, r23.2⟩ : Fix))).bind fun (l25 : (List Fix)) =>
 some (.inl (l25, r23.1, (w64 (i17 + (1 : Int)))))
 else none)
 else (
 some (.inr (k16, a15)))
def laws_markFixS (a1 : (List Fix)) (k3 : Int) : Option (Int × (List Fix)) :=
 (loopM (fun s : (List Fix) × Int × Int => laws_markFixS_L1 a1 s.1 s.2.1 s.2.2) (a1, k3, (0 : Int))).bind fun e => laws_markFixS_J1 e.1 e.2
def laws_markAccessS_J1 (k36 : Int) (p37 : (List Access)) : Option (Int × (List Access)) :=
 some (k36, p37)
def laws_markAccessS_L1 (a1 : (List Access)) (a17 : (List Access)) (k18 : Int) (i19 : Int) : Option (((List Access) × Int × Int) ⊕ (Int × (List Access))) :=
 if (decide (i19 < (a1.length : Int))) = true then (
 if (0 ≤ i19 ∧ i19 < (a1.length : Int)) then
 (nm (a17.set i19.toNat (⟨k18, (ix a17 i19).Offset, (ix a17 i19).Steps⟩ : Access))).bind fun (l24 : (List Access)) =>
 (nm (l24.set i19.toNat (⟨(ix l24 i19).Buffer, (w64 (k18 + (1 : Int))), (ix l24 i19).Steps⟩ : Access))).bind fun (l26 : (List Access)) =>
 (laws_markIntS ((ix l26 i19).Steps) (w64 ((w64 (k18 + (1 : Int))) + (1 : Int)))).bind fun (r29 : Int × (List Int)) =>
 (nm (l26.set i19.toNat (⟨(ix l26 i19).Buffer, (ix l26 i19).Offset, r29.2⟩ : Access))).bind fun (l31 : (List Access)) =>
 some (.inl (l31, r29.1, (w64 (i19 + (1 : Int)))))
 else none)
 else (
 some (.inr (k18, a17)))
def laws_markAccessS (a1 : (List Access)) (k3 : Int) : Option (Int × (List Access)) :=
 (loopM (fun s : (List Access) × Int × Int => laws_markAccessS_L1 a1 s.1 s.2.1 s.2.2) (a1, k3, (0 : Int))).bind fun e => laws_markAccessS_J1 e.1 e.2
def laws_markCalcS_J1 (k30 : Int) (p31 : (List Calc)) : Option (Int × (List Calc)) :=
 some (k30, p31)
def laws_markCalcS_L1 (a1 : (List Calc)) (a14 : (List Calc)) (k15 : Int) (i16 : Int) : Option (((List Calc) × Int × Int) ⊕ (Int × (List Calc))) :=
 if (decide (i16 < (a1.length : Int))) = true then (
 if (0 ≤ i16 ∧ i16 < (a1.length : Int)) then
 (nm (a14.set i16.toNat (⟨k15, (ix a14 i16).A, (ix a14 i16).B⟩ : Calc))).bind fun (l21 : (List Calc)) =>
 (nm (l21.set i16.toNat (⟨(ix l21 i16).Op, (w64 (k15 + (1 : Int))), (ix l21 i16).B⟩ : Calc))).bind fun (l23 : (List Calc)) =>
 (nm (l23.set i16.toNat (⟨(ix l23 i16).Op, (ix l23 i16).A, (w64 ((w64 (k15 + (1 : Int))) + (1 : Int)))⟩ : Calc))).bind fun (l25 : (List Calc)) =>
 some (.inl (l25, (w64 ((w64 ((w64 (k15 + (1 : Int))) + (1 : Int))) + (1 : Int))), (w64 (i16 + (1 : Int)))))
 else none)
 else (
 some (.inr (k15, a14)))
def laws_markCalcS (a1 : (List Calc)) (k3 : Int) : Option (Int × (List Calc)) :=
 (loopM (fun s : (List Calc) × Int × Int => laws_markCalcS_L1 a1 s.1 s.2.1 s.2.2) (a1, k3, (0 : Int))).bind fun e => laws_markCalcS_J1 e.1 e.2
def laws_markKernelS_J1 (k94 : Int) (p95 : (List Kernel)) : Option (Int × (List Kernel)) :=
 some (k94, p95)
def laws_markKernelS_L1 (a1 : (List Kernel)) (a46 : (List Kernel)) (k47 : Int) (i48 : Int) : Option (((List Kernel) × Int × Int) ⊕ (Int × (List Kernel))) :=
 if (decide (i48 < (a1.length : Int))) = true then (
 if (0 ≤ i48 ∧ i48 < (a1.length : Int)) then
 (laws_markIntS ((ix a46 i48).Loops) k47).bind fun (r57 : Int × (List Int)) =>
 (nm (a46.set i48.toNat (⟨r57.2, (ix a46 i48).Loads, (ix a46 i48).Store, (ix a46 i48).Sum, (ix a46 i48).Code⟩ : Kernel))).bind fun (l59 : (List Kernel)) =>
 (laws_markAccessS ((ix l59 i48).Loads) r57.1).bind fun (r65 : Int × (List Access)) =>
 (nm (l59.set i48.toNat (⟨(ix l59 i48).Loops, r65.2, (ix l59 i48).Store, (ix l59 i48).Sum, (ix l59 i48).Code⟩ : Kernel))).bind fun (l67 : (List Kernel)) =>
 (nm (l67.set i48.toNat (⟨(ix l67 i48).Loops, (ix l67 i48).Loads, (⟨r65.1, (ix l67 i48).Store.Offset, (ix l67 i48).Store.Steps⟩ : Access), (ix l67 i48).Sum, (ix l67 i48).Code⟩ : Kernel))).bind fun (l69 : (List Kernel)) =>
 (nm (l69.set i48.toNat (⟨(ix l69 i48).Loops, (ix l69 i48).Loads, (⟨(ix l69 i48).Store.Buffer, (w64 (r65.1 + (1 : Int))), (ix l69 i48).Store.Steps⟩ : Access), (ix l69 i48).Sum, (ix l69 i48).Code⟩ : Kernel))).bind fun (l71 : (List Kernel)) =>
 (laws_markIntS ((ix l71 i48).Store.Steps) (w64 ((w64 (r65.1 + (1 : Int))) + (1 : Int)))).bind fun (r77 : Int × (List Int)) =>
 (nm (l71.set i48.toNat (⟨(ix l71 i48).Loops, (ix l71 i48).Loads, (⟨(ix l71 i48).Store.Buffer, (ix l71 i48).Store.Offset, r77.2⟩ : Access), (ix l71 i48).Sum, (ix l71 i48).Code⟩ : Kernel))).bind fun (l79 : (List Kernel)) =>
 (nm (l79.set i48.toNat (⟨(ix l79 i48).Loops, (ix l79 i48).Loads, (ix l79 i48).Store, ((r77.1.tmod (3 : Int)) == (0 : Int)), (ix l79 i48).Code⟩ : Kernel))).bind fun (l81 : (List Kernel)) =>
 (laws_markCalcS ((ix l81 i48).Code) (w64 (r77.1 + (1 : Int)))).bind fun (r87 : Int × (List Calc)) =>
 (nm (l81.set i48.toNat (⟨(ix l81 i48).Loops, (ix l81 i48).Loads, (ix l81 i48).Store, (ix l81 i48).Sum, r87.2⟩ : Kernel))).bind fun (l89 : (List Kernel)) =>
 some (.inl (l89, r87.1, (w64 (i48 + (1 : Int)))))
 else none)
 else (
 some (.inr (k47, a46)))
def laws_markKernelS (a1 : (List Kernel)) (k3 : Int) : Option (Int × (List Kernel)) :=
 (loopM (fun s : (List Kernel) × Int × Int => laws_markKernelS_L1 a1 s.1 s.2.1 s.2.2) (a1, k3, (0 : Int))).bind fun e => laws_markKernelS_J1 e.1 e.2
def laws_markNest (a1 : Nest) (k7 : Int) : Option (Int × (List Int) × (List Int) × (List Fix) × (List Kernel) × (List Int)) :=
 (laws_markIntS a1.Sizes k7).bind fun (r9 : Int × (List Int)) =>
 (laws_markIntS a1.Ins r9.1).bind fun (r11 : Int × (List Int)) =>
 (laws_markFixS a1.Fixed r11.1).bind fun (r13 : Int × (List Fix)) =>
 (laws_markKernelS a1.Kernels r13.1).bind fun (r15 : Int × (List Kernel)) =>
 (laws_markIntS a1.Outs r15.1).bind fun (r17 : Int × (List Int)) =>
 some (r17.1, r9.2, r11.2, r13.2, r15.2, r17.2)
def laws_heldIntS_J1 (k18 : Int) : Option (Int) :=
 some k18
def laws_heldIntS_L1 (a1 : (List Int)) (k9 : Int) (i10 : Int) : Option ((Int × Int) ⊕ ((Int) ⊕ (Int))) :=
 if (decide (i10 < (a1.length : Int))) = true then (
 if (0 ≤ i10 ∧ i10 < (a1.length : Int)) then
 if ((ix a1 i10) != k9) = true then (
 some (.inr (.inl (-1 : Int))))
 else (
 some (.inl ((w64 (k9 + (1 : Int))), (w64 (i10 + (1 : Int))))))
 else none)
 else (
 some (.inr (.inr k9)))
def laws_heldIntS (a1 : (List Int)) (k3 : Int) : Option (Int) :=
 (loopM (fun s : Int × Int => laws_heldIntS_L1 a1 s.1 s.2) (k3, (0 : Int))).bind fun e => match e with
 | .inl e => some e
 | .inr e => laws_heldIntS_J1 e
def laws_heldFixS_J1 (k26 : Int) : Option (Int) :=
 some k26
def laws_heldFixS_L1 (a1 : (List Fix)) (k13 : Int) (i14 : Int) : Option ((Int × Int) ⊕ ((Int) ⊕ (Int))) :=
 if (decide (i14 < (a1.length : Int))) = true then (
 if (0 ≤ i14 ∧ i14 < (a1.length : Int)) then
 if ((ix a1 i14).Buffer != k13) = true then (
 some (.inr (.inl (-1 : Int))))
 else (
 (laws_heldIntS ((ix a1 i14).Data) (w64 (k13 + (1 : Int)))).bind fun (r21 : Int) =>
 if (decide (r21 < (0 : Int))) = true then (
 some (.inr (.inl (-1 : Int))))
 else (
 some (.inl (r21, (w64 (i14 + (1 : Int)))))))
 else none)
 else (
 some (.inr (.inr k13)))
def laws_heldFixS (a1 : (List Fix)) (k3 : Int) : Option (Int) :=
 (loopM (fun s : Int × Int => laws_heldFixS_L1 a1 s.1 s.2) (k3, (0 : Int))).bind fun e => match e with
 | .inl e => some e
 | .inr e => laws_heldFixS_J1 e
def laws_heldAccessS_J1 (k28 : Int) : Option (Int) :=
 some k28
def laws_heldAccessS_L1 (a1 : (List Access)) (k14 : Int) (i15 : Int) : Option ((Int × Int) ⊕ ((Int) ⊕ (Int))) :=
 if (decide (i15 < (a1.length : Int))) = true then (
 if (0 ≤ i15 ∧ i15 < (a1.length : Int)) then
 if ((ix a1 i15).Buffer != k14) = true then (
 some (.inr (.inl (-1 : Int))))
 else (
 if ((ix a1 i15).Offset != (w64 (k14 + (1 : Int)))) = true then (
 some (.inr (.inl (-1 : Int))))
 else (
 (laws_heldIntS ((ix a1 i15).Steps) (w64 ((w64 (k14 + (1 : Int))) + (1 : Int)))).bind fun (r23 : Int) =>
 if (decide (r23 < (0 : Int))) = true then (
 some (.inr (.inl (-1 : Int))))
 else (
 some (.inl (r23, (w64 (i15 + (1 : Int))))))))
 else none)
 else (
 some (.inr (.inr k14)))
def laws_heldAccessS (a1 : (List Access)) (k3 : Int) : Option (Int) :=
 (loopM (fun s : Int × Int => laws_heldAccessS_L1 a1 s.1 s.2) (k3, (0 : Int))).bind fun e => match e with
 | .inl e => some e
 | .inr e => laws_heldAccessS_J1 e
def laws_heldCalcS_J1 (k22 : Int) : Option (Int) :=
 some k22
def laws_heldCalcS_L1 (a1 : (List Calc)) (k11 : Int) (i12 : Int) : Option ((Int × Int) ⊕ ((Int) ⊕ (Int))) :=
 if (decide (i12 < (a1.length : Int))) = true then (
 if (0 ≤ i12 ∧ i12 < (a1.length : Int)) then
 if ((ix a1 i12).Op != k11) = true then (
 some (.inr (.inl (-1 : Int))))
 else (
 if ((ix a1 i12).A != (w64 (k11 + (1 : Int)))) = true then (
 some (.inr (.inl (-1 : Int))))
 else (
 if ((ix a1 i12).B != (w64 ((w64 (k11 + (1 : Int))) + (1 : Int)))) = true then (
 some (.inr (.inl (-1 : Int))))
 else (
 some (.inl ((w64 ((w64 ((w64 (k11 + (1 : Int))) + (1 : Int))) + (1 : Int))), (w64 (i12 + (1 : Int))))))))
 else none)
 else (
 some (.inr (.inr k11)))
def laws_heldCalcS (a1 : (List Calc)) (k3 : Int) : Option (Int) :=
 (loopM (fun s : Int × Int => laws_heldCalcS_L1 a1 s.1 s.2) (k3, (0 : Int))).bind fun e => match e with
 | .inl e => some e
 | .inr e => laws_heldCalcS_J1 e
def laws_heldKernelS_J1 (k54 : Int) : Option (Int) :=
 some k54
def laws_heldKernelS_L1 (a1 : (List Kernel)) (k27 : Int) (i28 : Int) : Option ((Int × Int) ⊕ ((Int) ⊕ (Int))) :=
 if (decide (i28 < (a1.length : Int))) = true then (
 if (0 ≤ i28 ∧ i28 < (a1.length : Int)) then
 (laws_heldIntS ((ix a1 i28).Loops) k27).bind fun (r37 : Int) =>
 if (decide (r37 < (0 : Int))) = true then (
 some (.inr (.inl (-1 : Int))))
 else (
 (laws_heldAccessS ((ix a1 i28).Loads) r37).bind fun (r40 : Int) =>
 if (decide (r40 < (0 : Int))) = true then (
 some (.inr (.inl (-1 : Int))))
 else (
 if ((ix a1 i28).Store.Buffer != r40) = true then (
 some (.inr (.inl (-1 : Int))))
 else (
 if ((ix a1 i28).Store.Offset != (w64 (r40 + (1 : Int)))) = true then (
 some (.inr (.inl (-1 : Int))))
 else (
 (laws_heldIntS ((ix a1 i28).Store.Steps) (w64 ((w64 (r40 + (1 : Int))) + (1 : Int)))).bind fun (r45 : Int) =>
 if (decide (r45 < (0 : Int))) = true then (
 some (.inr (.inl (-1 : Int))))
 else (
 if (!((ix a1 i28).Sum == ((r45.tmod (3 : Int)) == (0 : Int)))) = true then (
 some (.inr (.inl (-1 : Int))))
 else (
 (laws_heldCalcS ((ix a1 i28).Code) (w64 (r45 + (1 : Int)))).bind fun (r49 : Int) =>
 if (decide (r49 < (0 : Int))) = true then (
 some (.inr (.inl (-1 : Int))))
 else (
 some (.inl (r49, (w64 (i28 + (1 : Int))))))))))))
 else none)
 else (
 some (.inr (.inr k27)))
def laws_heldKernelS (a1 : (List Kernel)) (k3 : Int) : Option (Int) :=
 (loopM (fun s : Int × Int => laws_heldKernelS_L1 a1 s.1 s.2) (k3, (0 : Int))).bind fun e => match e with
 | .inl e => some e
 | .inr e => laws_heldKernelS_J1 e
def laws_szPlan (a1 : Plan) (left8 : Int) : Option (Int) :=
 (laws_szNest a1.Nest left8).bind fun (r10 : Int) =>
 if (decide (r10 < (0 : Int))) = true then (
 some (-1 : Int))
 else (
 (laws_szIntS a1.Offsets r10).bind fun (r13 : Int) =>
 if (decide (r13 < (0 : Int))) = true then (
 some (-1 : Int))
 else (
 some r13))
def laws_toPlan (a1 : Plan) : Option (Plan) :=
 (laws_toNest a1.Nest).bind fun (r11 : Nest) =>
 (laws_toIntS a1.Offsets).bind fun (r18 : (List Int)) =>
 some (⟨r11, r18, a1.Arena⟩ : Plan)
def spec_l12Touches (k1 : Kernel) (b6 : Int) : Option (Bool) :=
 (gcall (!(k1.Store.Buffer == b6)) (spec_l11Uses k1 b6)).bind fun (r8 : (List Int)) =>
 some ((k1.Store.Buffer == b6) || (decide ((r8.length : Int) > (0 : Int))))
def spec_l12Given_J1 (l1 : Nest) (b7 : Int) : Option (Bool) :=
 (spec_l7Has l1.Ins b7).bind fun (r21 : Bool) =>
 some r21
def spec_l12Given_L1 (l1 : Nest) (b7 : Int) (i14 : Int) : Option ((Int) ⊕ ((Bool) ⊕ (Unit))) :=
 if (decide (i14 < (l1.Fixed.length : Int))) = true then (
 if (0 ≤ i14 ∧ i14 < (l1.Fixed.length : Int)) then
 if ((ix l1.Fixed i14).Buffer == b7) = true then (
 some (.inr (.inl true)))
 else (
 some (.inl (w64 (i14 + (1 : Int)))))
 else none)
 else (
 some (.inr (.inr ())))
def spec_l12Given (l1 : Nest) (b7 : Int) : Option (Bool) :=
 (loopM (fun s : Int => spec_l12Given_L1 l1 b7 s) (0 : Int)).bind fun e => match e with
 | .inl e => some e
 | .inr e => spec_l12Given_J1 l1 b7
def spec_l12Life_J6 (l1 : Nest) (b7 : Int) (first64 : Int) (r65 : Bool) (r67 : Bool) (x71 : Int) (x73 : Int) : Option (Life × Bool) :=
 some ((⟨b7, (ix l1.Sizes b7), x71, x73⟩ : Life), ((decide ((ix l1.Sizes b7) > (0 : Int))) && ((r67 || r65) || (decide (first64 ≥ (0 : Int))))))
def spec_l12Life_J5 (l1 : Nest) (b7 : Int) (x63 : Int) (first64 : Int) (r65 : Bool) (r67 : Bool) (x71 : Int) : Option (Life × Bool) :=
 if r65 = true then (
 spec_l12Life_J6 l1 b7 first64 r65 r67 x71 (l1.Kernels.length : Int))
 else (
 spec_l12Life_J6 l1 b7 first64 r65 r67 x71 x63)
def spec_l12Life_J4 (l1 : Nest) (b7 : Int) (x63 : Int) (first64 : Int) : Option (Life × Bool) :=
 (spec_l7Has l1.Outs b7).bind fun (r65 : Bool) =>
 (spec_l12Given l1 b7).bind fun (r67 : Bool) =>
 if ((!r67) && (decide (first64 > (0 : Int)))) = true then (
 spec_l12Life_J5 l1 b7 x63 first64 r65 r67 first64)
 else (
 spec_l12Life_J5 l1 b7 x63 first64 r65 r67 (0 : Int))
def spec_l12Life_J3 (i45 : Int) (x58 : Int) (first59 : Int) : Option ((Int × Int × Int) ⊕ (Int × Int)) :=
 some (.inl (x58, first59, (w64 (i45 + (1 : Int)))))
def spec_l12Life_L1 (l1 : Nest) (b7 : Int) (x43 : Int) (first44 : Int) (i45 : Int) : Option ((Int × Int × Int) ⊕ (Int × Int)) :=
 if (decide (i45 < (l1.Kernels.length : Int))) = true then (
 if (0 ≤ i45 ∧ i45 < (l1.Kernels.length : Int)) then
 (spec_l12Touches (ix l1.Kernels i45) b7).bind fun (r54 : Bool) =>
 if r54 = true then (
 if (decide (first44 < (0 : Int))) = true then (
 spec_l12Life_J3 i45 i45 i45)
 else (
 spec_l12Life_J3 i45 i45 first44))
 else (
 spec_l12Life_J3 i45 x43 first44)
 else none)
 else (
 some (.inr (x43, first44)))
def spec_l12Life (l1 : Nest) (b7 : Int) : Option (Life × Bool) :=
 if (0 ≤ b7 ∧ b7 < (l1.Sizes.length : Int)) then
 (loopM (fun s : Int × Int × Int => spec_l12Life_L1 l1 b7 s.1 s.2.1 s.2.2) ((0 : Int), (-1 : Int), (0 : Int))).bind fun e => spec_l12Life_J4 l1 b7 e.1 e.2
 else none
def spec_Lives_J3 (x38 : (List Life)) : Option ((List Life)) :=
 some x38
def spec_Lives_J2 (b24 : Int) (x33 : (List Life)) : Option (((List Life) × Int) ⊕ ((List Life))) :=
 some (.inl (x33, (w64 (b24 + (1 : Int)))))
def spec_Lives_L1 (l1 : Nest) (x22 : (List Life)) (b24 : Int) : Option (((List Life) × Int) ⊕ ((List Life))) :=
 if (decide (b24 < (l1.Sizes.length : Int))) = true then (
 (spec_l12Life l1 b24).bind fun (r26 : Life × Bool) =>
 if r26.2 = true then (
 if x22.length + ([r26.1] : List Life).length ≤ 4398046511104 then
 spec_Lives_J2 b24 (x22 ++ ([r26.1] : List Life))
 else none)
 else (
 spec_Lives_J2 b24 x22))
 else (
 some (.inr x22))
def spec_Lives (l1 : Nest) : Option ((List Life)) :=
 (spec_NestOk l1).bind fun (r9 : Bool) =>
 if (!r9) = true then (
 some ([] : List Life))
 else (
 (loopM (fun s : (List Life) × Int => spec_Lives_L1 l1 s.1 s.2) (([] : List Life), (0 : Int))).bind fun e => spec_Lives_J3 e)
def spec_l12Ok_J1 : Option (Bool) :=
 some true
def spec_l12Ok_L1 (lives1 : (List Life)) (i15 : Int) : Option ((Int) ⊕ ((Bool) ⊕ (Unit))) :=
 if (decide (i15 < (lives1.length : Int))) = true then (
 if (0 ≤ i15 ∧ i15 < (lives1.length : Int)) then
 if (((((decide ((ix lives1 i15).Size < (1 : Int))) || (decide ((ix lives1 i15).Size > (4096 : Int)))) || (decide ((ix lives1 i15).From < (0 : Int)))) || (decide ((ix lives1 i15).From > (ix lives1 i15).To))) || (decide ((ix lives1 i15).To > (400 : Int)))) = true then (
 some (.inr (.inl false)))
 else (
 some (.inl (w64 (i15 + (1 : Int)))))
 else none)
 else (
 some (.inr (.inr ())))
def spec_l12Ok (lives1 : (List Life)) : Option (Bool) :=
 if (decide ((lives1.length : Int) > (200 : Int))) = true then (
 some false)
 else (
 (loopM (fun s : Int => spec_l12Ok_L1 lives1 s) (0 : Int)).bind fun e => match e with
 | .inl e => some e
 | .inr e => spec_l12Ok_J1)
def spec_l12Meet (a1 : Life) (b2 : Life) : Option (Bool) :=
 some ((decide (a1.From ≤ b2.To)) && (decide (b2.From ≤ a1.To)))
def spec_l12Free_J3 : Option (Bool) :=
 some true
def spec_l12Free_J2 (k29 : Int) : Option ((Int) ⊕ ((Bool) ⊕ (Unit))) :=
 some (.inl (w64 (k29 + (1 : Int))))
def spec_l12Free_L1 (lives1 : (List Life)) (offsets3 : (List Int)) (i5 : Int) (p6 : Int) (k29 : Int) : Option ((Int) ⊕ ((Bool) ⊕ (Unit))) :=
 if (decide (k29 < (lives1.length : Int))) = true then (
 if (k29 == i5) = false → (0 ≤ k29 ∧ k29 < (offsets3.length : Int)) then
 if ((k29 == i5) || (decide ((ix offsets3 k29) < (0 : Int)))) = false → (0 ≤ i5 ∧ i5 < (lives1.length : Int)) then
 if ((k29 == i5) || (decide ((ix offsets3 k29) < (0 : Int)))) = false → (0 ≤ k29 ∧ k29 < (lives1.length : Int)) then
 (gcall (!((k29 == i5) || (decide ((ix offsets3 k29) < (0 : Int))))) (spec_l12Meet (ix lives1 i5) (ix lives1 k29))).bind fun (r38 : Bool) =>
 if (((k29 == i5) || (decide ((ix offsets3 k29) < (0 : Int)))) || (!r38)) = true then (
 spec_l12Free_J2 k29)
 else (
 if (0 ≤ k29 ∧ k29 < (offsets3.length : Int)) then
 if (0 ≤ k29 ∧ k29 < (lives1.length : Int)) then
 if (decide (p6 < (w64 ((ix offsets3 k29) + (ix lives1 k29).Size)))) = true → (0 ≤ i5 ∧ i5 < (lives1.length : Int)) then
 if ((decide (p6 < (w64 ((ix offsets3 k29) + (ix lives1 k29).Size)))) && (decide ((ix offsets3 k29) < (w64 (p6 + (ix lives1 i5).Size))))) = true then (
 some (.inr (.inl false)))
 else (
 spec_l12Free_J2 k29)
 else none
 else none
 else none)
 else none
 else none
 else none)
 else (
 some (.inr (.inr ())))
def spec_l12Free (lives1 : (List Life)) (offsets3 : (List Int)) (i5 : Int) (p6 : Int) : Option (Bool) :=
 (loopM (fun s : Int => spec_l12Free_L1 lives1 offsets3 i5 p6 s) (0 : Int)).bind fun e => match e with
 | .inl e => some e
 | .inr e => spec_l12Free_J3
def spec_PackOk_J2 : Option (Bool) :=
 some true
def spec_PackOk_L2 (lives1 : (List Life)) (offsets3 : (List Int)) (i30 : Int) : Option ((Int) ⊕ ((Bool) ⊕ (Unit))) :=
 if (decide (i30 < (lives1.length : Int))) = true then (
 if (0 ≤ i30 ∧ i30 < (offsets3.length : Int)) then
 (spec_l12Free lives1 offsets3 i30 (ix offsets3 i30)).bind fun (r35 : Bool) =>
 if (!r35) = true then (
 some (.inr (.inl false)))
 else (
 some (.inl (w64 (i30 + (1 : Int)))))
 else none)
 else (
 some (.inr (.inr ())))
def spec_PackOk_J1 (lives1 : (List Life)) (offsets3 : (List Int)) : Option (Bool) :=
 (loopM (fun s : Int => spec_PackOk_L2 lives1 offsets3 s) (0 : Int)).bind fun e => match e with
 | .inl e => some e
 | .inr e => spec_PackOk_J2
def spec_PackOk_L1 (lives1 : (List Life)) (offsets3 : (List Int)) (i15 : Int) : Option ((Int) ⊕ ((Bool) ⊕ (Unit))) :=
 if (decide (i15 < (lives1.length : Int))) = true then (
 if (0 ≤ i15 ∧ i15 < (offsets3.length : Int)) then
 if ((decide ((ix offsets3 i15) < (0 : Int))) || (decide ((ix offsets3 i15) > (1000000 : Int)))) = true then (
 some (.inr (.inl false)))
 else (
 some (.inl (w64 (i15 + (1 : Int)))))
 else none)
 else (
 some (.inr (.inr ())))
def spec_PackOk (lives1 : (List Life)) (offsets3 : (List Int)) : Option (Bool) :=
 (spec_l12Ok lives1).bind fun (r5 : Bool) =>
 if ((!r5) || ((offsets3.length : Int) != (lives1.length : Int))) = true then (
 some false)
 else (
 (loopM (fun s : Int => spec_PackOk_L1 lives1 offsets3 s) (0 : Int)).bind fun e => match e with
 | .inl e => some e
 | .inr e => spec_PackOk_J1 lives1 offsets3)
def spec_PlanOk_J2 (r15 : (List Life)) (offsets54 : (List Int)) : Option (Bool) :=
 (spec_PackOk r15 offsets54).bind fun (r76 : Bool) =>
 some r76
def spec_PlanOk_L2 (p1 : Plan) (b65 : Int) : Option ((Int) ⊕ ((Bool) ⊕ (Unit))) :=
 if (decide (b65 < (p1.Offsets.length : Int))) = true then (
 (spec_l12Life p1.Nest b65).bind fun (r67 : Life × Bool) =>
 if (!r67.2) = true → (0 ≤ b65 ∧ b65 < (p1.Offsets.length : Int)) then
 if ((!r67.2) && ((ix p1.Offsets b65) != (-1 : Int))) = true then (
 some (.inr (.inl false)))
 else (
 some (.inl (w64 (b65 + (1 : Int)))))
 else none)
 else (
 some (.inr (.inr ())))
def spec_PlanOk_J1 (p1 : Plan) (r15 : (List Life)) (offsets54 : (List Int)) : Option (Bool) :=
 (loopM (fun s : Int => spec_PlanOk_L2 p1 s) (0 : Int)).bind fun e => match e with
 | .inl e => some e
 | .inr e => spec_PlanOk_J2 r15 offsets54
def spec_PlanOk_L1 (p1 : Plan) (r15 : (List Life)) (offsets33 : (List Int)) (i35 : Int) : Option (((List Int) × Int) ⊕ ((Bool) ⊕ ((List Int)))) :=
 if (decide (i35 < (r15.length : Int))) = true then (
 if (0 ≤ i35 ∧ i35 < (r15.length : Int)) then
 if (0 ≤ (ix r15 i35).Buffer ∧ (ix r15 i35).Buffer < (p1.Offsets.length : Int)) then
 if (((decide ((ix p1.Offsets (ix r15 i35).Buffer) < (0 : Int))) || (decide ((ix p1.Offsets (ix r15 i35).Buffer) > (1000000 : Int)))) || (decide ((w64 ((ix p1.Offsets (ix r15 i35).Buffer) + (ix r15 i35).Size)) > p1.Arena))) = true then (
 some (.inr (.inl false)))
 else (
 if offsets33.length + ([(ix p1.Offsets (ix r15 i35).Buffer)] : List Int).length ≤ 17592186044416 then
 some (.inl ((offsets33 ++ ([(ix p1.Offsets (ix r15 i35).Buffer)] : List Int)), (w64 (i35 + (1 : Int)))))
 else none)
 else none
 else none)
 else (
 some (.inr (.inr offsets33)))
def spec_PlanOk (p1 : Plan) : Option (Bool) :=
 (spec_NestOk p1.Nest).bind fun (r9 : Bool) =>
 if ((((!r9) || ((p1.Offsets.length : Int) != (p1.Nest.Sizes.length : Int))) || (decide (p1.Arena < (0 : Int)))) || (decide (p1.Arena > (1000000 : Int)))) = true then (
 some false)
 else (
 (spec_Lives p1.Nest).bind fun (r15 : (List Life)) =>
 (loopM (fun s : (List Int) × Int => spec_PlanOk_L1 p1 r15 s.1 s.2) (([] : List Int), (0 : Int))).bind fun e => match e with
 | .inl e => some e
 | .inr e => spec_PlanOk_J1 p1 r15 e)
def spec_l13Wide (n1 : Int) : Option (Instr) :=
 some (⟨(5 : Int), n1, (0 : Int), (0 : Int)⟩ : Instr)
def spec_l13Rep (n1 : Int) : Option (Instr) :=
 some (⟨(1 : Int), n1, (0 : Int), (0 : Int)⟩ : Instr)
def spec_l13Move (a1 : Int) (p2 : Int) : Option ((List Instr)) :=
 if (p2 == (0 : Int)) = true then (
 some ([] : List Instr))
 else (
 some ([(⟨(4 : Int), a1, p2, (0 : Int)⟩ : Instr)] : List Instr))
def spec_l13Moves_J1 (x29 : (List Instr)) : Option ((List Instr)) :=
 some x29
def spec_l13Moves_L1 (steps1 : (List Int)) (p3 : Int) (x14 : (List Instr)) (a16 : Int) : Option (((List Instr) × Int) ⊕ ((List Instr))) :=
 if (decide (a16 < (steps1.length : Int))) = true then (
 if (0 ≤ a16 ∧ a16 < (steps1.length : Int)) then
 (spec_l13Move a16 (w64 ((ix steps1 a16) * p3))).bind fun (r21 : (List Instr)) =>
 if x14.length + r21.length ≤ 4398046511104 then
 some (.inl ((x14 ++ r21), (w64 (a16 + (1 : Int)))))
 else none
 else none)
 else (
 some (.inr x14))
def spec_l13Moves (steps1 : (List Int)) (p3 : Int) : Option ((List Instr)) :=
 (loopM (fun s : (List Instr) × Int => spec_l13Moves_L1 steps1 p3 s.1 s.2) (([] : List Instr), (0 : Int))).bind fun e => spec_l13Moves_J1 e
def spec_l13Chunks_J3 (x42 : (List Instr)) : Option ((List Instr)) :=
 some x42
def spec_l13Chunks_J2 (n1 : Int) (body2 : (List Instr)) (x32 : (List Instr)) : Option ((List Instr)) :=
 if (decide ((n1.tmod (8 : Int)) > (0 : Int))) = true then (
 (spec_l13Wide (n1.tmod (8 : Int))).bind fun (r35 : Instr) =>
 if x32.length + ([r35] : List Instr).length ≤ 4398046511104 then
 if (x32 ++ ([r35] : List Instr)).length + body2.length ≤ 4398046511104 then
 spec_l13Chunks_J3 ((x32 ++ ([r35] : List Instr)) ++ body2)
 else none
 else none)
 else (
 spec_l13Chunks_J3 x32)
def spec_l13Chunks_J1 (n1 : Int) (body2 : (List Instr)) (steps4 : (List Int)) (x19 : (List Instr)) : Option ((List Instr)) :=
 if x19.length + body2.length ≤ 4398046511104 then
 (spec_l13Moves steps4 (8 : Int)).bind fun (r23 : (List Instr)) =>
 if (x19 ++ body2).length + r23.length ≤ 4398046511104 then
 if (decide ((w64 (n1.tdiv (8 : Int))) > (1 : Int))) = true then (
 if ((x19 ++ body2) ++ r23).length + ([(⟨(2 : Int), (0 : Int), (0 : Int), (0 : Int)⟩ : Instr)] : List Instr).length ≤ 4398046511104 then
 spec_l13Chunks_J2 n1 body2 (((x19 ++ body2) ++ r23) ++ ([(⟨(2 : Int), (0 : Int), (0 : Int), (0 : Int)⟩ : Instr)] : List Instr))
 else none)
 else (
 spec_l13Chunks_J2 n1 body2 ((x19 ++ body2) ++ r23))
 else none
 else none
def spec_l13Chunks (n1 : Int) (body2 : (List Instr)) (steps4 : (List Int)) : Option ((List Instr)) :=
 if (decide ((w64 (n1.tdiv (8 : Int))) > (0 : Int))) = true then (
 (spec_l13Wide (8 : Int)).bind fun (r8 : Instr) =>
 if ([] : List Instr).length + ([r8] : List Instr).length ≤ 4398046511104 then
 if (decide ((w64 (n1.tdiv (8 : Int))) > (1 : Int))) = true then (
 (spec_l13Rep (w64 (n1.tdiv (8 : Int)))).bind fun (r14 : Instr) =>
 if (([] : List Instr) ++ ([r8] : List Instr)).length + ([r14] : List Instr).length ≤ 4398046511104 then
 spec_l13Chunks_J1 n1 body2 steps4 ((([] : List Instr) ++ ([r8] : List Instr)) ++ ([r14] : List Instr))
 else none)
 else (
 spec_l13Chunks_J1 n1 body2 steps4 (([] : List Instr) ++ ([r8] : List Instr)))
 else none)
 else (
 spec_l13Chunks_J2 n1 body2 ([] : List Instr))
def spec_l13Body_J4 (k1 : Kernel) (steps6 : (List Int)) (x66 : (List Instr)) (op69 : Int) : Option ((List Instr)) :=
 if (0 ≤ (k1.Loads.length : Int) ∧ (k1.Loads.length : Int) < (steps6.length : Int)) then
 if x66.length + ([(⟨op69, (w64 ((k1.Code.length : Int) - (1 : Int))), (k1.Loads.length : Int), (ix steps6 (k1.Loads.length : Int))⟩ : Instr)] : List Instr).length ≤ 4398046511104 then
 some (x66 ++ ([(⟨op69, (w64 ((k1.Code.length : Int) - (1 : Int))), (k1.Loads.length : Int), (ix steps6 (k1.Loads.length : Int))⟩ : Instr)] : List Instr))
 else none
 else none
def spec_l13Body_J3 (k1 : Kernel) (steps6 : (List Int)) (x66 : (List Instr)) : Option ((List Instr)) :=
 if k1.Sum = true then (
 spec_l13Body_J4 k1 steps6 x66 (8 : Int))
 else (
 spec_l13Body_J4 k1 steps6 x66 (7 : Int))
def spec_l13Body_J2 (i37 : Int) (x61 : (List Instr)) : Option (((List Instr) × Int) ⊕ ((List Instr))) :=
 some (.inl (x61, (w64 (i37 + (1 : Int)))))
def spec_l13Body_L1 (k1 : Kernel) (steps6 : (List Int)) (x35 : (List Instr)) (i37 : Int) : Option (((List Instr) × Int) ⊕ ((List Instr))) :=
 if (decide (i37 < (k1.Code.length : Int))) = true then (
 if (0 ≤ i37 ∧ i37 < (k1.Code.length : Int)) then
 if ((ix k1.Code i37).Op == (1 : Int)) = true then (
 if (0 ≤ (ix k1.Code i37).A ∧ (ix k1.Code i37).A < (steps6.length : Int)) then
 if x35.length + ([(⟨(6 : Int), i37, (ix k1.Code i37).A, (ix steps6 (ix k1.Code i37).A)⟩ : Instr)] : List Instr).length ≤ 4398046511104 then
 spec_l13Body_J2 i37 (x35 ++ ([(⟨(6 : Int), i37, (ix k1.Code i37).A, (ix steps6 (ix k1.Code i37).A)⟩ : Instr)] : List Instr))
 else none
 else none)
 else (
 if ((ix k1.Code i37).Op == (2 : Int)) = true then (
 if x35.length + ([(⟨(9 : Int), i37, (ix k1.Code i37).A, (0 : Int)⟩ : Instr)] : List Instr).length ≤ 4398046511104 then
 spec_l13Body_J2 i37 (x35 ++ ([(⟨(9 : Int), i37, (ix k1.Code i37).A, (0 : Int)⟩ : Instr)] : List Instr))
 else none)
 else (
 if (decide ((ix k1.Code i37).Op ≤ (5 : Int))) = true then (
 if x35.length + ([(⟨(w64 ((w64 ((ix k1.Code i37).Op - (3 : Int))) + (10 : Int))), i37, (ix k1.Code i37).A, (ix k1.Code i37).B⟩ : Instr)] : List Instr).length ≤ 4398046511104 then
 spec_l13Body_J2 i37 (x35 ++ ([(⟨(w64 ((w64 ((ix k1.Code i37).Op - (3 : Int))) + (10 : Int))), i37, (ix k1.Code i37).A, (ix k1.Code i37).B⟩ : Instr)] : List Instr))
 else none)
 else (
 if x35.length + ([(⟨(w64 ((w64 ((ix k1.Code i37).Op - (6 : Int))) + (13 : Int))), i37, (ix k1.Code i37).A, (0 : Int)⟩ : Instr)] : List Instr).length ≤ 4398046511104 then
 spec_l13Body_J2 i37 (x35 ++ ([(⟨(w64 ((w64 ((ix k1.Code i37).Op - (6 : Int))) + (13 : Int))), i37, (ix k1.Code i37).A, (0 : Int)⟩ : Instr)] : List Instr))
 else none)))
 else none)
 else (
 some (.inr x35))
def spec_l13Body (k1 : Kernel) (steps6 : (List Int)) : Option ((List Instr)) :=
 (loopM (fun s : (List Instr) × Int => spec_l13Body_L1 k1 steps6 s.1 s.2) (([] : List Instr), (0 : Int))).bind fun e => spec_l13Body_J3 k1 steps6 e
def spec_l13Kernel_J7 (x232 : (List Instr)) : Option ((List Instr)) :=
 some x232
def spec_l13Kernel_J6 (k8 : Kernel) (x178 : (List Instr)) (i180 : Int) (loop211 : (List Int)) : Option (((List Instr) × Int) ⊕ ((List Instr))) :=
 (spec_l13Moves loop211 (1 : Int)).bind fun (r213 : (List Instr)) =>
 if x178.length + r213.length ≤ 4398046511104 then
 if (x178 ++ r213).length + ([(⟨(2 : Int), (0 : Int), (0 : Int), (0 : Int)⟩ : Instr)] : List Instr).length ≤ 4398046511104 then
 if (0 ≤ i180 ∧ i180 < (k8.Loops.length : Int)) then
 (spec_l13Moves loop211 (w64 (0 - (ix k8.Loops i180)))).bind fun (r224 : (List Instr)) =>
 if ((x178 ++ r213) ++ ([(⟨(2 : Int), (0 : Int), (0 : Int), (0 : Int)⟩ : Instr)] : List Instr)).length + r224.length ≤ 4398046511104 then
 some (.inl ((((x178 ++ r213) ++ ([(⟨(2 : Int), (0 : Int), (0 : Int), (0 : Int)⟩ : Instr)] : List Instr)) ++ r224), (w64 (i180 - (1 : Int)))))
 else none
 else none
 else none
 else none
def spec_l13Kernel_L4 (k8 : Kernel) (i180 : Int) (loop194 : (List Int)) (a196 : Int) : Option (((List Int) × Int) ⊕ ((List Int))) :=
 if (decide (a196 < (((([] : List Access) ++ k8.Loads) ++ ([k8.Store] : List Access)).length : Int))) = true then (
 if (0 ≤ a196 ∧ a196 < (((([] : List Access) ++ k8.Loads) ++ ([k8.Store] : List Access)).length : Int)) then
 if (0 ≤ i180 ∧ i180 < (((ix ((([] : List Access) ++ k8.Loads) ++ ([k8.Store] : List Access)) a196).Steps).length : Int)) then
 if loop194.length + ([(ix ((ix ((([] : List Access) ++ k8.Loads) ++ ([k8.Store] : List Access)) a196).Steps) i180)] : List Int).length ≤ 17592186044416 then
 some (.inl ((loop194 ++ ([(ix ((ix ((([] : List Access) ++ k8.Loads) ++ ([k8.Store] : List Access)) a196).Steps) i180)] : List Int)), (w64 (a196 + (1 : Int)))))
 else none
 else none
 else none)
 else (
 some (.inr loop194))
def spec_l13Kernel_L3 (k8 : Kernel) (x178 : (List Instr)) (i180 : Int) : Option (((List Instr) × Int) ⊕ ((List Instr))) :=
 if (decide (i180 ≥ (0 : Int))) = true then (
 (loopM (fun s : (List Int) × Int => spec_l13Kernel_L4 k8 i180 s.1 s.2) (([] : List Int), (0 : Int))).bind fun e => spec_l13Kernel_J6 k8 x178 i180 e)
 else (
 some (.inr x178))
def spec_l13Kernel_J4 (k8 : Kernel) (n89 : Int) (steps90 : (List Int)) (x115 : (List Instr)) : Option ((List Instr)) :=
 (spec_l13Body k8 steps90).bind fun (r117 : (List Instr)) =>
 (spec_l13Chunks n89 r117 steps90).bind fun (r120 : (List Instr)) =>
 if x115.length + r120.length ≤ 4398046511104 then
 (spec_l13Moves steps90 (w64 (0 - (w64 ((w64 (n89.tdiv (8 : Int))) * (8 : Int)))))).bind fun (r125 : (List Instr)) =>
 if (x115 ++ r120).length + r125.length ≤ 4398046511104 then
 (loopM (fun s : (List Instr) × Int => spec_l13Kernel_L3 k8 s.1 s.2) (((x115 ++ r120) ++ r125), (w64 ((w64 ((k8.Loops.length : Int) - (1 : Int))) - (1 : Int))))).bind fun e => spec_l13Kernel_J7 e
 else none
 else none
def spec_l13Kernel_L2 (k8 : Kernel) (x100 : (List Instr)) (i102 : Int) : Option (((List Instr) × Int) ⊕ ((List Instr))) :=
 if (decide (i102 < (w64 ((k8.Loops.length : Int) - (1 : Int))))) = true then (
 if (0 ≤ i102 ∧ i102 < (k8.Loops.length : Int)) then
 (spec_l13Rep (ix k8.Loops i102)).bind fun (r107 : Instr) =>
 if x100.length + ([r107] : List Instr).length ≤ 4398046511104 then
 some (.inl ((x100 ++ ([r107] : List Instr)), (w64 (i102 + (1 : Int)))))
 else none
 else none)
 else (
 some (.inr x100))
def spec_l13Kernel_J3 (k8 : Kernel) (x87 : (List Instr)) (n89 : Int) (steps90 : (List Int)) : Option ((List Instr)) :=
 (loopM (fun s : (List Instr) × Int => spec_l13Kernel_L2 k8 s.1 s.2) (x87, (0 : Int))).bind fun e => spec_l13Kernel_J4 k8 n89 steps90 e
def spec_l13Kernel_J2 (p1 : Plan) (k8 : Kernel) (x51 : (List Instr)) (a55 : Int) (n80 : Int) (steps81 : (List Int)) : Option (((List Instr) × Int × (List Int) × Int) ⊕ ((List Instr) × Int × (List Int))) :=
 some (.inl ((x51 ++ ([(⟨(3 : Int), a55, (w64 ((ix p1.Offsets (ix ((([] : List Access) ++ k8.Loads) ++ ([k8.Store] : List Access)) a55).Buffer) + (ix ((([] : List Access) ++ k8.Loads) ++ ([k8.Store] : List Access)) a55).Offset)), (0 : Int)⟩ : Instr)] : List Instr)), n80, steps81, (w64 (a55 + (1 : Int)))))
def spec_l13Kernel_L1 (p1 : Plan) (k8 : Kernel) (x51 : (List Instr)) (n53 : Int) (steps54 : (List Int)) (a55 : Int) : Option (((List Instr) × Int × (List Int) × Int) ⊕ ((List Instr) × Int × (List Int))) :=
 if (decide (a55 < (((([] : List Access) ++ k8.Loads) ++ ([k8.Store] : List Access)).length : Int))) = true then (
 if (0 ≤ a55 ∧ a55 < (((([] : List Access) ++ k8.Loads) ++ ([k8.Store] : List Access)).length : Int)) then
 if (0 ≤ (ix ((([] : List Access) ++ k8.Loads) ++ ([k8.Store] : List Access)) a55).Buffer ∧ (ix ((([] : List Access) ++ k8.Loads) ++ ([k8.Store] : List Access)) a55).Buffer < (p1.Offsets.length : Int)) then
 if x51.length + ([(⟨(3 : Int), a55, (w64 ((ix p1.Offsets (ix ((([] : List Access) ++ k8.Loads) ++ ([k8.Store] : List Access)) a55).Buffer) + (ix ((([] : List Access) ++ k8.Loads) ++ ([k8.Store] : List Access)) a55).Offset)), (0 : Int)⟩ : Instr)] : List Instr).length ≤ 4398046511104 then
 if (decide ((w64 ((k8.Loops.length : Int) - (1 : Int))) ≥ (0 : Int))) = true then (
 if (0 ≤ (w64 ((k8.Loops.length : Int) - (1 : Int))) ∧ (w64 ((k8.Loops.length : Int) - (1 : Int))) < (k8.Loops.length : Int)) then
 if (0 ≤ (w64 ((k8.Loops.length : Int) - (1 : Int))) ∧ (w64 ((k8.Loops.length : Int) - (1 : Int))) < (((ix ((([] : List Access) ++ k8.Loads) ++ ([k8.Store] : List Access)) a55).Steps).length : Int)) then
 if (0 ≤ a55 ∧ a55 < ((List.replicate (((([] : List Access) ++ k8.Loads) ++ ([k8.Store] : List Access)).length : Int).toNat (0 : Int)).length : Int)) then
 (nm (steps54.set a55.toNat (ix ((ix ((([] : List Access) ++ k8.Loads) ++ ([k8.Store] : List Access)) a55).Steps) (w64 ((k8.Loops.length : Int) - (1 : Int)))))).bind fun (l77 : (List Int)) =>
 spec_l13Kernel_J2 p1 k8 x51 a55 (ix k8.Loops (w64 ((k8.Loops.length : Int) - (1 : Int)))) l77
 else none
 else none
 else none)
 else (
 spec_l13Kernel_J2 p1 k8 x51 a55 n53 steps54)
 else none
 else none
 else none)
 else (
 some (.inr (x51, n53, steps54)))
def spec_l13Kernel (p1 : Plan) (k8 : Kernel) : Option ((List Instr)) :=
 if ([] : List Access).length + k8.Loads.length ≤ 3518437208883 then
 if (([] : List Access) ++ k8.Loads).length + ([k8.Store] : List Access).length ≤ 3518437208883 then
 if (0 ≤ (((([] : List Access) ++ k8.Loads) ++ ([k8.Store] : List Access)).length : Int) ∧ (((([] : List Access) ++ k8.Loads) ++ ([k8.Store] : List Access)).length : Int) ≤ 140737488355328 ∧ 8 * (((([] : List Access) ++ k8.Loads) ++ ([k8.Store] : List Access)).length : Int) ≤ 281474976710656) then
 (loopM (fun s : (List Instr) × Int × (List Int) × Int => spec_l13Kernel_L1 p1 k8 s.1 s.2.1 s.2.2.1 s.2.2.2) (([] : List Instr), (1 : Int), (List.replicate (((([] : List Access) ++ k8.Loads) ++ ([k8.Store] : List Access)).length : Int).toNat (0 : Int)), (0 : Int))).bind fun e => spec_l13Kernel_J3 k8 e.1 e.2.1 e.2.2
 else none
 else none
 else none
def spec_Compile_J9 (x165 : (List Instr)) : Option ((List Instr) × Bool) :=
 if (decide ((x165.length : Int) > (60000 : Int))) = true then (
 some (([] : List Instr), false))
 else (
 some (x165, true))
def spec_Compile_J8 (t88 : Int) (x160 : (List Instr)) : Option (((List Instr) × Int) ⊕ ((List Instr))) :=
 some (.inl (x160, (w64 (t88 + (1 : Int)))))
def spec_Compile_J7 (p1 : Plan) (t88 : Int) (x145 : (List Instr)) : Option (((List Instr) × Int) ⊕ ((List Instr))) :=
 if (decide (t88 < (p1.Nest.Kernels.length : Int))) = true then (
 if (0 ≤ t88 ∧ t88 < (p1.Nest.Kernels.length : Int)) then
 (spec_l13Kernel p1 (ix p1.Nest.Kernels t88)).bind fun (r155 : (List Instr)) =>
 if x145.length + r155.length ≤ 4398046511104 then
 spec_Compile_J8 t88 (x145 ++ r155)
 else none
 else none)
 else (
 spec_Compile_J8 t88 x145)
def spec_Compile_J6 (b117 : Int) (x140 : (List Instr)) : Option (((List Instr) × Int) ⊕ ((List Instr))) :=
 some (.inl (x140, (w64 (b117 + (1 : Int)))))
def spec_Compile_L2 (p1 : Plan) (t88 : Int) (x115 : (List Instr)) (b117 : Int) : Option (((List Instr) × Int) ⊕ ((List Instr))) :=
 if (decide (b117 < (p1.Offsets.length : Int))) = true then (
 (spec_l12Life p1.Nest b117).bind fun (r119 : Life × Bool) =>
 (gcall (r119.2 && (r119.1.From == t88)) (spec_l12Given p1.Nest b117)).bind fun (r122 : Bool) =>
 if ((r119.2 && (r119.1.From == t88)) && (!r122)) = true then (
 if (0 ≤ b117 ∧ b117 < (p1.Offsets.length : Int)) then
 if x115.length + ([(⟨(3 : Int), (0 : Int), (ix p1.Offsets b117), (0 : Int)⟩ : Instr), (⟨(9 : Int), (0 : Int), (0 : Int), (0 : Int)⟩ : Instr)] : List Instr).length ≤ 4398046511104 then
 (spec_l13Chunks r119.1.Size ([(⟨(7 : Int), (0 : Int), (0 : Int), (1 : Int)⟩ : Instr)] : List Instr) ([(1 : Int)] : List Int)).bind fun (r135 : (List Instr)) =>
 if (x115 ++ ([(⟨(3 : Int), (0 : Int), (ix p1.Offsets b117), (0 : Int)⟩ : Instr), (⟨(9 : Int), (0 : Int), (0 : Int), (0 : Int)⟩ : Instr)] : List Instr)).length + r135.length ≤ 4398046511104 then
 spec_Compile_J6 b117 ((x115 ++ ([(⟨(3 : Int), (0 : Int), (ix p1.Offsets b117), (0 : Int)⟩ : Instr), (⟨(9 : Int), (0 : Int), (0 : Int), (0 : Int)⟩ : Instr)] : List Instr)) ++ r135)
 else none
 else none
 else none)
 else (
 spec_Compile_J6 b117 x115))
 else (
 some (.inr x115))
def spec_Compile_L1 (p1 : Plan) (x86 : (List Instr)) (t88 : Int) : Option (((List Instr) × Int) ⊕ ((List Instr))) :=
 if ((t88 == (0 : Int)) || (decide (t88 < (p1.Nest.Kernels.length : Int)))) = true then (
 (loopM (fun s : (List Instr) × Int => spec_Compile_L2 p1 t88 s.1 s.2) (x86, (0 : Int))).bind fun e => spec_Compile_J7 p1 t88 e)
 else (
 some (.inr x86))
def spec_Compile (p1 : Plan) : Option ((List Instr) × Bool) :=
 (spec_PlanOk p1).bind fun (r10 : Bool) =>
 if (!r10) = true then (
 some (([] : List Instr), false))
 else (
 (loopM (fun s : (List Instr) × Int => spec_Compile_L1 p1 s.1 s.2) (([] : List Instr), (0 : Int))).bind fun e => spec_Compile_J9 e)
def impl_Nest_lives_J17 (x164 : (List Life)) : Option ((List Life)) :=
 some x164
def impl_Nest_lives_J16 (x87 : Int) (x157 : (List Life)) : Option (((List Life) × Int) ⊕ ((List Life))) :=
 some (.inl (x157, (w64 (x87 + (1 : Int)))))
def impl_Nest_lives_J15 (l1 : Nest) (x84 : (List Life)) (x87 : Int) (x151 : Int) (to153 : Int) : Option (((List Life) × Int) ⊕ ((List Life))) :=
 if x84.length + ([(⟨x87, (ix l1.Sizes x87), (if (0 : Int) > x151 then (0 : Int) else x151), (if (0 : Int) > to153 then (0 : Int) else to153)⟩ : Life)] : List Life).length ≤ 4398046511104 then
 impl_Nest_lives_J16 x87 (x84 ++ ([(⟨x87, (ix l1.Sizes x87), (if (0 : Int) > x151 then (0 : Int) else x151), (if (0 : Int) > to153 then (0 : Int) else to153)⟩ : Life)] : List Life))
 else none
def impl_Nest_lives_J14 (l1 : Nest) (x84 : (List Life)) (x87 : Int) (to137 : Int) (r138 : Bool) (x151 : Int) : Option (((List Life) × Int) ⊕ ((List Life))) :=
 if r138 = true then (
 impl_Nest_lives_J15 l1 x84 x87 x151 (l1.Kernels.length : Int))
 else (
 impl_Nest_lives_J15 l1 x84 x87 x151 to137)
def impl_Nest_lives_J13 (l1 : Nest) (r8 : (List Bool) × Bool) (x84 : (List Life)) (x87 : Int) (x136 : Int) (to137 : Int) : Option (((List Life) × Int) ⊕ ((List Life))) :=
 (slices_Contains_int_int l1.Outs x87).bind fun (r138 : Bool) =>
 if ((ix l1.Sizes x87) == (0 : Int)) = false → (decide (x136 < (0 : Int))) = true → (0 ≤ x87 ∧ x87 < (r8.1.length : Int)) then
 if (((ix l1.Sizes x87) == (0 : Int)) || (((decide (x136 < (0 : Int))) && (!(ix r8.1 x87))) && (!r138))) = true then (
 impl_Nest_lives_J16 x87 x84)
 else (
 if (0 ≤ x87 ∧ x87 < (r8.1.length : Int)) then
 if (ix r8.1 x87) = true then (
 impl_Nest_lives_J14 l1 x84 x87 to137 r138 (0 : Int))
 else (
 impl_Nest_lives_J14 l1 x84 x87 to137 r138 x136)
 else none)
 else none
def impl_Nest_lives_J12 (x113 : Int) (x129 : Int) (to130 : Int) : Option ((Int × Int × Int) ⊕ (Int × Int)) :=
 some (.inl (x129, to130, (w64 (x113 + (1 : Int)))))
def impl_Nest_lives_J11 (x113 : Int) (x128 : Int) : Option ((Int × Int × Int) ⊕ (Int × Int)) :=
 impl_Nest_lives_J12 x113 x128 x113
def impl_Nest_lives_L2 (l1 : Nest) (x87 : Int) (x110 : Int) (to111 : Int) (x113 : Int) : Option ((Int × Int × Int) ⊕ (Int × Int)) :=
 if (decide (x113 < (l1.Kernels.length : Int))) = true then (
 if (0 ≤ x113 ∧ x113 < (l1.Kernels.length : Int)) then
 (gcall (!((ix l1.Kernels x113).Store.Buffer == x87)) (impl_Kernel_loadsOf (ix l1.Kernels x113) x87)).bind fun (r123 : Int) =>
 if (((ix l1.Kernels x113).Store.Buffer == x87) || (decide (r123 > (0 : Int)))) = true then (
 if (decide (x110 < (0 : Int))) = true then (
 impl_Nest_lives_J11 x113 x113)
 else (
 impl_Nest_lives_J11 x113 x110))
 else (
 impl_Nest_lives_J12 x113 x110 to111)
 else none)
 else (
 some (.inr (x110, to111)))
def impl_Nest_lives_L1 (l1 : Nest) (r8 : (List Bool) × Bool) (x84 : (List Life)) (x87 : Int) : Option (((List Life) × Int) ⊕ ((List Life))) :=
 if (decide (x87 < (l1.Sizes.length : Int))) = true then (
 if (0 ≤ x87 ∧ x87 < (l1.Sizes.length : Int)) then
 (loopM (fun s : Int × Int × Int => impl_Nest_lives_L2 l1 x87 s.1 s.2.1 s.2.2) ((-1 : Int), (-1 : Int), (0 : Int))).bind fun e => impl_Nest_lives_J13 l1 r8 x84 x87 e.1 e.2
 else none)
 else (
 some (.inr x84))
def impl_Nest_lives (l1 : Nest) : Option ((List Life)) :=
 (impl_Nest_given l1).bind fun (r8 : (List Bool) × Bool) =>
 (loopM (fun s : (List Life) × Int => impl_Nest_lives_L1 l1 r8 s.1 s.2) (([] : List Life), (0 : Int))).bind fun e => impl_Nest_lives_J17 e
def impl_livesOk_J1 (lives1 : (List Life)) : Option (Bool) :=
 some (decide ((lives1.length : Int) ≤ (200 : Int)))
def impl_livesOk_L1 (lives1 : (List Life)) (x14 : Int) : Option ((Int) ⊕ ((Bool) ⊕ (Unit))) :=
 if (decide (x14 < (lives1.length : Int))) = true then (
 if (0 ≤ x14 ∧ x14 < (lives1.length : Int)) then
 if (((((decide ((ix lives1 x14).Size < (1 : Int))) || (decide ((ix lives1 x14).Size > (4096 : Int)))) || (decide ((ix lives1 x14).From < (0 : Int)))) || (decide ((ix lives1 x14).From > (ix lives1 x14).To))) || (decide ((ix lives1 x14).To > (400 : Int)))) = true then (
 some (.inr (.inl false)))
 else (
 some (.inl (w64 (x14 + (1 : Int)))))
 else none)
 else (
 some (.inr (.inr ())))
def impl_livesOk (lives1 : (List Life)) : Option (Bool) :=
 (loopM (fun s : Int => impl_livesOk_L1 lives1 s) (0 : Int)).bind fun e => match e with
 | .inl e => some e
 | .inr e => impl_livesOk_J1 lives1
def impl_Life_meets (a1 : Life) (b2 : Life) : Option (Bool) :=
 some ((decide (a1.From ≤ b2.To)) && (decide (b2.From ≤ a1.To)))
def impl_PackOk_J3 : Option (Bool) :=
 some true
def impl_PackOk_J2 (x53 : Int) : Option ((Int) ⊕ ((Bool) ⊕ (Unit))) :=
 some (.inl (w64 (x53 + (1 : Int))))
def impl_PackOk_L2 (lives1 : (List Life)) (offsets3 : (List Int)) (x53 : Int) (x81 : Int) : Option ((Int) ⊕ ((Bool) ⊕ (Unit))) :=
 if (decide (x81 < ((sub lives1 (0 : Int) x53).length : Int))) = true then (
 if (0 ≤ x81 ∧ x81 < ((sub lives1 (0 : Int) x53).length : Int)) then
 (impl_Life_meets (ix lives1 x53) (ix (sub lives1 (0 : Int) x53) x81)).bind fun (r87 : Bool) =>
 if r87 = true → (0 ≤ x81 ∧ x81 < (offsets3.length : Int)) then
 if (r87 && (decide ((ix offsets3 x53) < (w64 ((ix offsets3 x81) + (ix (sub lives1 (0 : Int) x53) x81).Size))))) = true → (0 ≤ x81 ∧ x81 < (offsets3.length : Int)) then
 if ((r87 && (decide ((ix offsets3 x53) < (w64 ((ix offsets3 x81) + (ix (sub lives1 (0 : Int) x53) x81).Size))))) && (decide ((ix offsets3 x81) < (w64 ((ix offsets3 x53) + (ix lives1 x53).Size))))) = true then (
 some (.inr (.inl false)))
 else (
 some (.inl (w64 (x81 + (1 : Int)))))
 else none
 else none
 else none)
 else (
 some (.inr (.inr ())))
def impl_PackOk_L1 (lives1 : (List Life)) (offsets3 : (List Int)) (x53 : Int) : Option ((Int) ⊕ ((Bool) ⊕ (Unit))) :=
 if (decide (x53 < (lives1.length : Int))) = true then (
 if (0 ≤ x53 ∧ x53 < (lives1.length : Int)) then
 if (0 ≤ x53 ∧ x53 < (offsets3.length : Int)) then
 if ((decide ((ix offsets3 x53) < (0 : Int))) || (decide ((ix offsets3 x53) > (1000000 : Int)))) = true then (
 some (.inr (.inl false)))
 else (
 if (0 ≤ (0 : Int) ∧ (0 : Int) ≤ x53 ∧ x53 ≤ (lives1.length : Int)) then
 (loopM (fun s : Int => impl_PackOk_L2 lives1 offsets3 x53 s) (0 : Int)).bind fun e => match e with
 | .inl e => some (.inr (.inl e))
 | .inr e => impl_PackOk_J2 x53
 else none)
 else none
 else none)
 else (
 some (.inr (.inr ())))
def impl_PackOk (lives1 : (List Life)) (offsets3 : (List Int)) : Option (Bool) :=
 (impl_livesOk lives1).bind fun (r5 : Bool) =>
 if ((!r5) || ((offsets3.length : Int) != (lives1.length : Int))) = true then (
 some false)
 else (
 (loopM (fun s : Int => impl_PackOk_L1 lives1 offsets3 s) (0 : Int)).bind fun e => match e with
 | .inl e => some e
 | .inr e => impl_PackOk_J3)
def impl_PlanOk_J2 (r15 : (List Life)) (offsets70 : (List Int)) : Option (Bool) :=
 (impl_PackOk r15 offsets70).bind fun (r96 : Bool) =>
 some r96
def impl_PlanOk_L2 (p1 : Plan) (alive72 : (List Bool)) (x84 : Int) : Option ((Int) ⊕ ((Bool) ⊕ (Unit))) :=
 if (decide (x84 < (p1.Offsets.length : Int))) = true then (
 if (0 ≤ x84 ∧ x84 < (p1.Offsets.length : Int)) then
 if (0 ≤ x84 ∧ x84 < (alive72.length : Int)) then
 if ((!(ix alive72 x84)) && ((ix p1.Offsets x84) != (-1 : Int))) = true then (
 some (.inr (.inl false)))
 else (
 some (.inl (w64 (x84 + (1 : Int)))))
 else none
 else none)
 else (
 some (.inr (.inr ())))
def impl_PlanOk_J1 (p1 : Plan) (r15 : (List Life)) (offsets70 : (List Int)) (alive72 : (List Bool)) : Option (Bool) :=
 (loopM (fun s : Int => impl_PlanOk_L2 p1 alive72 s) (0 : Int)).bind fun e => match e with
 | .inl e => some e
 | .inr e => impl_PlanOk_J2 r15 offsets70
def impl_PlanOk_L1 (p1 : Plan) (r15 : (List Life)) (offsets41 : (List Int)) (alive43 : (List Bool)) (x45 : Int) : Option (((List Int) × (List Bool) × Int) ⊕ ((Bool) ⊕ ((List Int) × (List Bool)))) :=
 if (decide (x45 < (r15.length : Int))) = true then (
 if (0 ≤ x45 ∧ x45 < (r15.length : Int)) then
 if (0 ≤ (ix r15 x45).Buffer ∧ (ix r15 x45).Buffer < (alive43.length : Int)) then
 if (0 ≤ (ix r15 x45).Buffer ∧ (ix r15 x45).Buffer < (p1.Offsets.length : Int)) then
 if (((decide ((ix p1.Offsets (ix r15 x45).Buffer) < (0 : Int))) || (decide ((ix p1.Offsets (ix r15 x45).Buffer) > (1000000 : Int)))) || (decide ((w64 ((ix p1.Offsets (ix r15 x45).Buffer) + (ix r15 x45).Size)) > p1.Arena))) = true then (
 some (.inr (.inl false)))
 else (
 if offsets41.length + ([(ix p1.Offsets (ix r15 x45).Buffer)] : List Int).length ≤ 17592186044416 then
 some (.inl ((offsets41 ++ ([(ix p1.Offsets (ix r15 x45).Buffer)] : List Int)), (alive43.set (ix r15 x45).Buffer.toNat true), (w64 (x45 + (1 : Int)))))
 else none)
 else none
 else none
 else none)
 else (
 some (.inr (.inr (offsets41, alive43))))
def impl_PlanOk (p1 : Plan) : Option (Bool) :=
 (impl_NestOk p1.Nest).bind fun (r9 : Bool) =>
 if ((((!r9) || ((p1.Offsets.length : Int) != (p1.Nest.Sizes.length : Int))) || (decide (p1.Arena < (0 : Int)))) || (decide (p1.Arena > (1000000 : Int)))) = true then (
 some false)
 else (
 (impl_Nest_lives p1.Nest).bind fun (r15 : (List Life)) =>
 if (0 ≤ (p1.Offsets.length : Int) ∧ (p1.Offsets.length : Int) ≤ 140737488355328 ∧ 1 * (p1.Offsets.length : Int) ≤ 281474976710656) then
 (loopM (fun s : (List Int) × (List Bool) × Int => impl_PlanOk_L1 p1 r15 s.1 s.2.1 s.2.2) (([] : List Int), (List.replicate (p1.Offsets.length : Int).toNat false), (0 : Int))).bind fun e => match e with
 | .inl e => some e
 | .inr e => impl_PlanOk_J1 p1 r15 e.1 e.2
 else none)
def impl_Plan_born_J3 (x59 : (List (List Int))) : Option ((List (List Int))) :=
 some x59
def impl_Plan_born_J2 (x37 : Int) (x56 : (List (List Int))) : Option (((List (List Int)) × Int) ⊕ ((List (List Int)))) :=
 some (.inl (x56, (w64 (x37 + (1 : Int)))))
def impl_Plan_born_L1 (p1 : Plan) (r9 : (List Bool) × Bool) (r14 : (List Life)) (x36 : (List (List Int))) (x37 : Int) : Option (((List (List Int)) × Int) ⊕ ((List (List Int)))) :=
 if (decide (x37 < (r14.length : Int))) = true then (
 if (0 ≤ x37 ∧ x37 < (r14.length : Int)) then
 if (0 ≤ (ix r14 x37).Buffer ∧ (ix r14 x37).Buffer < (r9.1.length : Int)) then
 if (!(ix r9.1 (ix r14 x37).Buffer)) = true then (
 if (0 ≤ (ix r14 x37).From ∧ (ix r14 x37).From < ((List.replicate (w64 ((p1.Nest.Kernels.length : Int) + (1 : Int))).toNat ([] : (List Int))).length : Int)) then
 if (ix x36 (ix r14 x37).From).length + ([(ix r14 x37).Buffer] : List Int).length ≤ 17592186044416 then
 (nm (x36.set (ix r14 x37).From.toNat ((ix x36 (ix r14 x37).From) ++ ([(ix r14 x37).Buffer] : List Int)))).bind fun (l54 : (List (List Int))) =>
 impl_Plan_born_J2 x37 l54
 else none
 else none)
 else (
 impl_Plan_born_J2 x37 x36)
 else none
 else none)
 else (
 some (.inr x36))
def impl_Plan_born (p1 : Plan) : Option ((List (List Int))) :=
 (impl_Nest_given p1.Nest).bind fun (r9 : (List Bool) × Bool) =>
 if (0 ≤ (w64 ((p1.Nest.Kernels.length : Int) + (1 : Int))) ∧ (w64 ((p1.Nest.Kernels.length : Int) + (1 : Int))) ≤ 140737488355328 ∧ 24 * (w64 ((p1.Nest.Kernels.length : Int) + (1 : Int))) ≤ 281474976710656) then
 (impl_Nest_lives p1.Nest).bind fun (r14 : (List Life)) =>
 (loopM (fun s : (List (List Int)) × Int => impl_Plan_born_L1 p1 r9 r14 s.1 s.2) ((List.replicate (w64 ((p1.Nest.Kernels.length : Int) + (1 : Int))).toNat ([] : (List Int))), (0 : Int))).bind fun e => impl_Plan_born_J3 e
 else none
def impl_writer_put (p1 : writer) (op4 : Int) (a5 : Int) (b6 : Int) (c7 : Int) : Option (writer) :=
 if p1.code.length + ([(⟨op4, a5, b6, c7⟩ : Instr)] : List Instr).length ≤ 4398046511104 then
 some (⟨(p1.code ++ ([(⟨op4, a5, b6, c7⟩ : Instr)] : List Instr))⟩ : writer)
 else none
def impl_writer_move (p1 : writer) (base4 : Int) (p5 : Int) : Option (writer) :=
 if (p5 != (0 : Int)) = true then (
 (impl_writer_put p1 (4 : Int) base4 p5 (0 : Int)).bind fun (r7 : writer) =>
 some r7)
 else (
 some p1)
def impl_writer_chunks_J3 (n4 : Int) (body7 : (List Instr)) (x47 : (List Instr)) : Option (writer) :=
 if (decide ((n4.tmod (8 : Int)) > (0 : Int))) = true then (
 (impl_writer_put (⟨x47⟩ : writer) (5 : Int) (n4.tmod (8 : Int)) (0 : Int) (0 : Int)).bind fun (r50 : writer) =>
 if r50.code.length + body7.length ≤ 4398046511104 then
 some (⟨(r50.code ++ body7)⟩ : writer)
 else none)
 else (
 some (⟨x47⟩ : writer))
def impl_writer_chunks_J2 (n4 : Int) (body7 : (List Instr)) (x41 : (List Instr)) : Option (writer) :=
 if (decide ((w64 (n4.tdiv (8 : Int))) > (1 : Int))) = true then (
 (impl_writer_put (⟨x41⟩ : writer) (2 : Int) (0 : Int) (0 : Int) (0 : Int)).bind fun (r44 : writer) =>
 impl_writer_chunks_J3 n4 body7 r44.code)
 else (
 impl_writer_chunks_J3 n4 body7 x41)
def impl_writer_chunks_L1 (steps5 : (List Int)) (x28 : (List Instr)) (x30 : Int) : Option (((List Instr) × Int) ⊕ ((List Instr))) :=
 if (decide (x30 < (steps5.length : Int))) = true then (
 if (0 ≤ x30 ∧ x30 < (steps5.length : Int)) then
 (impl_writer_move (⟨x28⟩ : writer) x30 (w64 ((8 : Int) * (ix steps5 x30)))).bind fun (r35 : writer) =>
 some (.inl (r35.code, (w64 (x30 + (1 : Int)))))
 else none)
 else (
 some (.inr x28))
def impl_writer_chunks_J1 (n4 : Int) (steps5 : (List Int)) (body7 : (List Instr)) (x17 : (List Instr)) : Option (writer) :=
 if x17.length + body7.length ≤ 4398046511104 then
 (loopM (fun s : (List Instr) × Int => impl_writer_chunks_L1 steps5 s.1 s.2) ((x17 ++ body7), (0 : Int))).bind fun e => impl_writer_chunks_J2 n4 body7 e
 else none
def impl_writer_chunks (p1 : writer) (n4 : Int) (steps5 : (List Int)) (body7 : (List Instr)) : Option (writer) :=
 if (decide ((w64 (n4.tdiv (8 : Int))) > (0 : Int))) = true then (
 (impl_writer_put p1 (5 : Int) (8 : Int) (0 : Int) (0 : Int)).bind fun (r10 : writer) =>
 if (decide ((w64 (n4.tdiv (8 : Int))) > (1 : Int))) = true then (
 (impl_writer_put r10 (1 : Int) (w64 (n4.tdiv (8 : Int))) (0 : Int) (0 : Int)).bind fun (r14 : writer) =>
 impl_writer_chunks_J1 n4 steps5 body7 r14.code)
 else (
 impl_writer_chunks_J1 n4 steps5 body7 r10.code))
 else (
 impl_writer_chunks_J3 n4 body7 p1.code)
def impl_writer_kernel_1 (a1 : Access) (p3 : Int) : Option (Int) :=
 if (0 ≤ p3 ∧ p3 < (a1.Steps.length : Int)) then
 some (ix a1.Steps p3)
 else none
def impl_mapped_impl_Access_int__impl_writer_kernel_1_J1 (x36 : (List Int)) : Option ((List Int)) :=
 some x36
def impl_mapped_impl_Access_int__impl_writer_kernel_1_L1 (list1 : (List Access)) (q4 : Int) (x21 : (List Int)) (x22 : Int) : Option (((List Int) × Int) ⊕ ((List Int))) :=
 if (decide (x22 < (list1.length : Int))) = true then (
 if (0 ≤ x22 ∧ x22 < (list1.length : Int)) then
 (impl_writer_kernel_1 (ix list1 x22) q4).bind fun (r29 : Int) =>
 if (0 ≤ x22 ∧ x22 < ((List.replicate (list1.length : Int).toNat (0 : Int)).length : Int)) then
 some (.inl ((x21.set x22.toNat r29), (w64 (x22 + (1 : Int)))))
 else none
 else none)
 else (
 some (.inr x21))
def impl_mapped_impl_Access_int__impl_writer_kernel_1 (list1 : (List Access)) (q4 : Int) : Option ((List Int)) :=
 if (0 ≤ (list1.length : Int) ∧ (list1.length : Int) ≤ 140737488355328 ∧ 8 * (list1.length : Int) ≤ 281474976710656) then
 (loopM (fun s : (List Int) × Int => impl_mapped_impl_Access_int__impl_writer_kernel_1_L1 list1 q4 s.1 s.2) ((List.replicate (list1.length : Int).toNat (0 : Int)), (0 : Int))).bind fun e => impl_mapped_impl_Access_int__impl_writer_kernel_1_J1 e
 else none
def impl_writer_kernel_J13 (x252 : Int) (x325 : (List Instr)) : Option (((List Instr) × Int) ⊕ (writer)) :=
 some (.inl (x325, (w64 (x252 - (1 : Int)))))
def impl_writer_kernel_L7 (k11 : Kernel) (r18 : (List Access)) (outer37 : (List Int)) (x252 : Int) (x304 : (List Instr)) (x306 : Int) : Option (((List Instr) × Int) ⊕ ((List Instr))) :=
 if (decide (x306 < ((r18 ++ ([k11.Store] : List Access)).length : Int))) = true then (
 if (0 ≤ x306 ∧ x306 < ((r18 ++ ([k11.Store] : List Access)).length : Int)) then
 if (0 ≤ x252 ∧ x252 < (outer37.length : Int)) then
 if (0 ≤ x252 ∧ x252 < (((ix (r18 ++ ([k11.Store] : List Access)) x306).Steps).length : Int)) then
 (impl_writer_move (⟨x304⟩ : writer) x306 (w64 ((w64 (0 - (ix outer37 x252))) * (ix ((ix (r18 ++ ([k11.Store] : List Access)) x306).Steps) x252)))).bind fun (r319 : writer) =>
 some (.inl (r319.code, (w64 (x306 + (1 : Int)))))
 else none
 else none
 else none)
 else (
 some (.inr x304))
def impl_writer_kernel_J12 (k11 : Kernel) (r18 : (List Access)) (outer37 : (List Int)) (x252 : Int) (x284 : (List Instr)) : Option (((List Instr) × Int) ⊕ (writer)) :=
 (impl_writer_put (⟨x284⟩ : writer) (2 : Int) (0 : Int) (0 : Int) (0 : Int)).bind fun (r286 : writer) =>
 (loopM (fun s : (List Instr) × Int => impl_writer_kernel_L7 k11 r18 outer37 x252 s.1 s.2) (r286.code, (0 : Int))).bind fun e => impl_writer_kernel_J13 x252 e
def impl_writer_kernel_L6 (k11 : Kernel) (r18 : (List Access)) (x252 : Int) (x266 : (List Instr)) (x268 : Int) : Option (((List Instr) × Int) ⊕ ((List Instr))) :=
 if (decide (x268 < ((r18 ++ ([k11.Store] : List Access)).length : Int))) = true then (
 if (0 ≤ x268 ∧ x268 < ((r18 ++ ([k11.Store] : List Access)).length : Int)) then
 if (0 ≤ x252 ∧ x252 < (((ix (r18 ++ ([k11.Store] : List Access)) x268).Steps).length : Int)) then
 (impl_writer_move (⟨x266⟩ : writer) x268 (ix ((ix (r18 ++ ([k11.Store] : List Access)) x268).Steps) x252)).bind fun (r278 : writer) =>
 some (.inl (r278.code, (w64 (x268 + (1 : Int)))))
 else none
 else none)
 else (
 some (.inr x266))
def impl_writer_kernel_L5 (k11 : Kernel) (r18 : (List Access)) (outer37 : (List Int)) (x250 : (List Instr)) (x252 : Int) : Option (((List Instr) × Int) ⊕ (writer)) :=
 if (decide (x252 ≥ (0 : Int))) = true then (
 (loopM (fun s : (List Instr) × Int => impl_writer_kernel_L6 k11 r18 x252 s.1 s.2) (x250, (0 : Int))).bind fun e => impl_writer_kernel_J12 k11 r18 outer37 x252 e)
 else (
 some (.inr (⟨x250⟩ : writer)))
def impl_writer_kernel_J9 (k11 : Kernel) (r18 : (List Access)) (outer37 : (List Int)) (x174 : (List Instr)) : Option (writer) :=
 (loopM (fun s : (List Instr) × Int => impl_writer_kernel_L5 k11 r18 outer37 s.1 s.2) (x174, (w64 ((outer37.length : Int) - (1 : Int))))).bind fun e => some e
def impl_writer_kernel_L4 (n39 : Int) (last40 : (List Int)) (x163 : (List Instr)) (x165 : Int) : Option (((List Instr) × Int) ⊕ ((List Instr))) :=
 if (decide (x165 < (last40.length : Int))) = true then (
 if (0 ≤ x165 ∧ x165 < (last40.length : Int)) then
 (impl_writer_move (⟨x163⟩ : writer) x165 (w64 ((w64 ((-8 : Int) * (w64 (n39.tdiv (8 : Int))))) * (ix last40 x165)))).bind fun (r168 : writer) =>
 some (.inl (r168.code, (w64 (x165 + (1 : Int)))))
 else none)
 else (
 some (.inr x163))
def impl_writer_kernel_J8 (k11 : Kernel) (r18 : (List Access)) (outer37 : (List Int)) (n39 : Int) (last40 : (List Int)) (x94 : (List Instr)) (body145 : (List Instr)) (op148 : Int) : Option (writer) :=
 if (0 ≤ (w64 (((r18 ++ ([k11.Store] : List Access)).length : Int) - (1 : Int))) ∧ (w64 (((r18 ++ ([k11.Store] : List Access)).length : Int) - (1 : Int))) < (last40.length : Int)) then
 (impl_writer_put (⟨body145⟩ : writer) op148 (w64 ((k11.Code.length : Int) - (1 : Int))) (w64 (((r18 ++ ([k11.Store] : List Access)).length : Int) - (1 : Int))) (ix last40 (w64 (((r18 ++ ([k11.Store] : List Access)).length : Int) - (1 : Int))))).bind fun (r152 : writer) =>
 (impl_writer_chunks (⟨x94⟩ : writer) n39 last40 r152.code).bind fun (r155 : writer) =>
 (loopM (fun s : (List Instr) × Int => impl_writer_kernel_L4 n39 last40 s.1 s.2) (r155.code, (0 : Int))).bind fun e => impl_writer_kernel_J9 k11 r18 outer37 e
 else none
def impl_writer_kernel_J7 (k11 : Kernel) (r18 : (List Access)) (outer37 : (List Int)) (n39 : Int) (last40 : (List Int)) (x94 : (List Instr)) (body145 : (List Instr)) : Option (writer) :=
 if k11.Sum = true then (
 impl_writer_kernel_J8 k11 r18 outer37 n39 last40 x94 body145 (8 : Int))
 else (
 impl_writer_kernel_J8 k11 r18 outer37 n39 last40 x94 body145 (7 : Int))
def impl_writer_kernel_J6 (x120 : Int) (body140 : (List Instr)) : Option (((List Instr) × Int) ⊕ ((List Instr))) :=
 some (.inl (body140, (w64 (x120 + (1 : Int)))))
def impl_writer_kernel_L3 (k11 : Kernel) (last40 : (List Int)) (body118 : (List Instr)) (x120 : Int) : Option (((List Instr) × Int) ⊕ ((List Instr))) :=
 if (decide (x120 < (k11.Code.length : Int))) = true then (
 if (0 ≤ x120 ∧ x120 < (k11.Code.length : Int)) then
 if ((ix k11.Code x120).Op == (1 : Int)) = true then (
 if (0 ≤ (ix k11.Code x120).A ∧ (ix k11.Code x120).A < (last40.length : Int)) then
 (impl_writer_put (⟨body118⟩ : writer) (6 : Int) x120 ((ix k11.Code x120).A) (ix last40 (ix k11.Code x120).A)).bind fun (r130 : writer) =>
 impl_writer_kernel_J6 x120 r130.code
 else none)
 else (
 if ((ix k11.Code x120).Op == (2 : Int)) = true then (
 (impl_writer_put (⟨body118⟩ : writer) (9 : Int) x120 ((ix k11.Code x120).A) (0 : Int)).bind fun (r134 : writer) =>
 impl_writer_kernel_J6 x120 r134.code)
 else (
 (impl_writer_put (⟨body118⟩ : writer) (w64 ((w64 ((ix k11.Code x120).Op - (3 : Int))) + (10 : Int))) x120 ((ix k11.Code x120).A) ((ix k11.Code x120).B)).bind fun (r137 : writer) =>
 impl_writer_kernel_J6 x120 r137.code))
 else none)
 else (
 some (.inr body118))
def impl_writer_kernel_J4 (k11 : Kernel) (r18 : (List Access)) (outer37 : (List Int)) (n39 : Int) (last40 : (List Int)) (x94 : (List Instr)) : Option (writer) :=
 (loopM (fun s : (List Instr) × Int => impl_writer_kernel_L3 k11 last40 s.1 s.2) (([] : List Instr), (0 : Int))).bind fun e => impl_writer_kernel_J7 k11 r18 outer37 n39 last40 x94 e
def impl_writer_kernel_L2 (outer37 : (List Int)) (x81 : (List Instr)) (x83 : Int) : Option (((List Instr) × Int) ⊕ ((List Instr))) :=
 if (decide (x83 < (outer37.length : Int))) = true then (
 if (0 ≤ x83 ∧ x83 < (outer37.length : Int)) then
 (impl_writer_put (⟨x81⟩ : writer) (1 : Int) (ix outer37 x83) (0 : Int) (0 : Int)).bind fun (r88 : writer) =>
 some (.inl (r88.code, (w64 (x83 + (1 : Int)))))
 else none)
 else (
 some (.inr x81))
def impl_writer_kernel_J3 (k11 : Kernel) (r18 : (List Access)) (outer37 : (List Int)) (n39 : Int) (last40 : (List Int)) (x72 : (List Instr)) : Option (writer) :=
 (loopM (fun s : (List Instr) × Int => impl_writer_kernel_L2 outer37 s.1 s.2) (x72, (0 : Int))).bind fun e => impl_writer_kernel_J4 k11 r18 outer37 n39 last40 e
def impl_writer_kernel_L1 (p4 : Plan) (k11 : Kernel) (r18 : (List Access)) (x54 : (List Instr)) (x56 : Int) : Option (((List Instr) × Int) ⊕ ((List Instr))) :=
 if (decide (x56 < ((r18 ++ ([k11.Store] : List Access)).length : Int))) = true then (
 if (0 ≤ x56 ∧ x56 < ((r18 ++ ([k11.Store] : List Access)).length : Int)) then
 if (0 ≤ (ix (r18 ++ ([k11.Store] : List Access)) x56).Buffer ∧ (ix (r18 ++ ([k11.Store] : List Access)) x56).Buffer < (p4.Offsets.length : Int)) then
 (impl_writer_put (⟨x54⟩ : writer) (3 : Int) x56 (w64 ((ix p4.Offsets (ix (r18 ++ ([k11.Store] : List Access)) x56).Buffer) + (ix (r18 ++ ([k11.Store] : List Access)) x56).Offset)) (0 : Int)).bind fun (r66 : writer) =>
 some (.inl (r66.code, (w64 (x56 + (1 : Int)))))
 else none
 else none)
 else (
 some (.inr x54))
def impl_writer_kernel_J2 (p1 : writer) (p4 : Plan) (k11 : Kernel) (r18 : (List Access)) (outer37 : (List Int)) (n39 : Int) (last40 : (List Int)) : Option (writer) :=
 (loopM (fun s : (List Instr) × Int => impl_writer_kernel_L1 p4 k11 r18 s.1 s.2) (p1.code, (0 : Int))).bind fun e => impl_writer_kernel_J3 k11 r18 outer37 n39 last40 e
def impl_writer_kernel (p1 : writer) (p4 : Plan) (k11 : Kernel) : Option (writer) :=
 (slices_Clone_impl_Access_impl_Access k11.Loads).bind fun (r18 : (List Access)) =>
 if r18.length + ([k11.Store] : List Access).length ≤ 3518437208883 then
 if (0 ≤ ((r18 ++ ([k11.Store] : List Access)).length : Int) ∧ ((r18 ++ ([k11.Store] : List Access)).length : Int) ≤ 140737488355328 ∧ 8 * ((r18 ++ ([k11.Store] : List Access)).length : Int) ≤ 281474976710656) then
 if (decide ((w64 ((k11.Loops.length : Int) - (1 : Int))) ≥ (0 : Int))) = true then (
 if (0 ≤ (0 : Int) ∧ (0 : Int) ≤ (w64 ((k11.Loops.length : Int) - (1 : Int))) ∧ (w64 ((k11.Loops.length : Int) - (1 : Int))) ≤ (k11.Loops.length : Int)) then
 if (0 ≤ (w64 ((k11.Loops.length : Int) - (1 : Int))) ∧ (w64 ((k11.Loops.length : Int) - (1 : Int))) < (k11.Loops.length : Int)) then
 (impl_mapped_impl_Access_int__impl_writer_kernel_1 (r18 ++ ([k11.Store] : List Access)) (w64 ((k11.Loops.length : Int) - (1 : Int)))).bind fun (r34 : (List Int)) =>
 impl_writer_kernel_J2 p1 p4 k11 r18 (sub k11.Loops (0 : Int) (w64 ((k11.Loops.length : Int) - (1 : Int)))) (ix k11.Loops (w64 ((k11.Loops.length : Int) - (1 : Int)))) r34
 else none
 else none)
 else (
 impl_writer_kernel_J2 p1 p4 k11 r18 k11.Loops (1 : Int) (List.replicate ((r18 ++ ([k11.Store] : List Access)).length : Int).toNat (0 : Int)))
 else none
 else none
def impl_compiled_J5 (x161 : (List Instr)) : Option ((List Instr) × Bool) :=
 some (x161, true)
def impl_compiled_J4 (x86 : Int) (x154 : (List Instr)) : Option (((List Instr) × Int) ⊕ (((List Instr) × Bool) ⊕ ((List Instr)))) :=
 if (decide ((x154.length : Int) > (60000 : Int))) = true then (
 some (.inr (.inl (([] : List Instr), false))))
 else (
 some (.inl (x154, (w64 (x86 + (1 : Int))))))
def impl_compiled_J3 (p1 : Plan) (x86 : Int) (x140 : (List Instr)) : Option (((List Instr) × Int) ⊕ (((List Instr) × Bool) ⊕ ((List Instr)))) :=
 if (decide (x86 < (p1.Nest.Kernels.length : Int))) = true then (
 if (0 ≤ x86 ∧ x86 < (p1.Nest.Kernels.length : Int)) then
 (impl_writer_kernel (⟨x140⟩ : writer) p1 (ix p1.Nest.Kernels x86)).bind fun (r151 : writer) =>
 impl_compiled_J4 x86 r151.code
 else none)
 else (
 impl_compiled_J4 x86 x140)
def impl_compiled_L2 (p1 : Plan) (r10 : (List (List Int))) (x86 : Int) (x113 : (List Instr)) (x115 : Int) : Option (((List Instr) × Int) ⊕ ((List Instr))) :=
 if (decide (x115 < ((ix r10 x86).length : Int))) = true then (
 if (0 ≤ x115 ∧ x115 < ((ix r10 x86).length : Int)) then
 if (0 ≤ (ix (ix r10 x86) x115) ∧ (ix (ix r10 x86) x115) < (p1.Offsets.length : Int)) then
 (impl_writer_put (⟨x113⟩ : writer) (3 : Int) (0 : Int) (ix p1.Offsets (ix (ix r10 x86) x115)) (0 : Int)).bind fun (r123 : writer) =>
 (impl_writer_put r123 (9 : Int) (0 : Int) (0 : Int) (0 : Int)).bind fun (r126 : writer) =>
 if (0 ≤ (ix (ix r10 x86) x115) ∧ (ix (ix r10 x86) x115) < (p1.Nest.Sizes.length : Int)) then
 (impl_writer_chunks r126 (ix p1.Nest.Sizes (ix (ix r10 x86) x115)) ([(1 : Int)] : List Int) ([(⟨(7 : Int), (0 : Int), (0 : Int), (1 : Int)⟩ : Instr)] : List Instr)).bind fun (r134 : writer) =>
 some (.inl (r134.code, (w64 (x115 + (1 : Int)))))
 else none
 else none
 else none)
 else (
 some (.inr x113))
def impl_compiled_L1 (p1 : Plan) (r10 : (List (List Int))) (x83 : (List Instr)) (x86 : Int) : Option (((List Instr) × Int) ⊕ (((List Instr) × Bool) ⊕ ((List Instr)))) :=
 if (decide (x86 < (if (p1.Nest.Kernels.length : Int) > (1 : Int) then (p1.Nest.Kernels.length : Int) else (1 : Int)))) = true then (
 if (0 ≤ x86 ∧ x86 < (r10.length : Int)) then
 (loopM (fun s : (List Instr) × Int => impl_compiled_L2 p1 r10 x86 s.1 s.2) (x83, (0 : Int))).bind fun e => impl_compiled_J3 p1 x86 e
 else none)
 else (
 some (.inr (.inr x83)))
def impl_compiled (p1 : Plan) : Option ((List Instr) × Bool) :=
 (impl_Plan_born p1).bind fun (r10 : (List (List Int))) =>
 (loopM (fun s : (List Instr) × Int => impl_compiled_L1 p1 r10 s.1 s.2) (([] : List Instr), (0 : Int))).bind fun e => match e with
 | .inl e => some e
 | .inr e => impl_compiled_J5 e
def impl_Compile (p1 : Plan) : Option ((List Instr) × Bool) :=
 (impl_PlanOk p1).bind fun (r9 : Bool) =>
 if (!r9) = true then (
 some (([] : List Instr), false))
 else (
 (impl_compiled p1).bind fun (r12 : (List Instr) × Bool) =>
 some (r12.1, r12.2))
def laws_eqInstr (a1 : Instr) (b2 : Instr) : Option (Bool) :=
 if (a1.Op != b2.Op) = true then (
 some false)
 else (
 if (a1.A != b2.A) = true then (
 some false)
 else (
 if (a1.B != b2.B) = true then (
 some false)
 else (
 if (a1.C != b2.C) = true then (
 some false)
 else (
 some true))))
def laws_eqInstrS_J1 : Option (Bool) :=
 some true
def laws_eqInstrS_L1 (a1 : (List Instr)) (b3 : (List Instr)) (i16 : Int) : Option ((Int) ⊕ ((Bool) ⊕ (Unit))) :=
 if (decide (i16 < (a1.length : Int))) = true then (
 if (0 ≤ i16 ∧ i16 < (a1.length : Int)) then
 if (0 ≤ i16 ∧ i16 < (b3.length : Int)) then
 (laws_eqInstr (ix a1 i16) (ix b3 i16)).bind fun (r24 : Bool) =>
 if (!r24) = true then (
 some (.inr (.inl false)))
 else (
 some (.inl (w64 (i16 + (1 : Int)))))
 else none
 else none)
 else (
 some (.inr (.inr ())))
def laws_eqInstrS (a1 : (List Instr)) (b3 : (List Instr)) : Option (Bool) :=
 if ((a1.length : Int) != (b3.length : Int)) = true then (
 some false)
 else (
 (loopM (fun s : Int => laws_eqInstrS_L1 a1 b3 s) (0 : Int)).bind fun e => match e with
 | .inl e => some e
 | .inr e => laws_eqInstrS_J1)
def laws_eqPlan (a1 : Plan) (b8 : Plan) : Option (Bool) :=
 (laws_eqNest a1.Nest b8.Nest).bind fun (r17 : Bool) =>
 if (!r17) = true then (
 some false)
 else (
 (laws_eqIntS a1.Offsets b8.Offsets).bind fun (r20 : Bool) =>
 if (!r20) = true then (
 some false)
 else (
 if (a1.Arena != b8.Arena) = true then (
 some false)
 else (
 some true)))
def laws_markPlan (a1 : Plan) (k8 : Int) : Option (Int × (List Int) × (List Int) × (List Fix) × (List Kernel) × (List Int) × (List Int)) :=
 (laws_markNest a1.Nest k8).bind fun (r10 : Int × (List Int) × (List Int) × (List Fix) × (List Kernel) × (List Int)) =>
 (laws_markIntS a1.Offsets r10.1).bind fun (r12 : Int × (List Int)) =>
 some (r12.1, r10.2.1, r10.2.2.1, r10.2.2.2.1, r10.2.2.2.2.1, r10.2.2.2.2.2, r12.2)
def laws_markInstrS_J1 (k34 : Int) (p35 : (List Instr)) : Option (Int × (List Instr)) :=
 some (k34, p35)
def laws_markInstrS_L1 (a1 : (List Instr)) (a16 : (List Instr)) (k17 : Int) (i18 : Int) : Option (((List Instr) × Int × Int) ⊕ (Int × (List Instr))) :=
 if (decide (i18 < (a1.length : Int))) = true then (
 if (0 ≤ i18 ∧ i18 < (a1.length : Int)) then
 (nm (a16.set i18.toNat (⟨k17, (ix a16 i18).A, (ix a16 i18).B, (ix a16 i18).C⟩ : Instr))).bind fun (l23 : (List Instr)) =>
 (nm (l23.set i18.toNat (⟨(ix l23 i18).Op, (w64 (k17 + (1 : Int))), (ix l23 i18).B, (ix l23 i18).C⟩ : Instr))).bind fun (l25 : (List Instr)) =>
 (nm (l25.set i18.toNat (⟨(ix l25 i18).Op, (ix l25 i18).A, (w64 ((w64 (k17 + (1 : Int))) + (1 : Int))), (ix l25 i18).C⟩ : Instr))).bind fun (l27 : (List Instr)) =>
 (nm (l27.set i18.toNat (⟨(ix l27 i18).Op, (ix l27 i18).A, (ix l27 i18).B, (w64 ((w64 ((w64 (k17 + (1 : Int))) + (1 : Int))) + (1 : Int)))⟩ : Instr))).bind fun (l29 : (List Instr)) =>
 some (.inl (l29, (w64 ((w64 ((w64 ((w64 (k17 + (1 : Int))) + (1 : Int))) + (1 : Int))) + (1 : Int))), (w64 (i18 + (1 : Int)))))
 else none)
 else (
 some (.inr (k17, a16)))
def laws_markInstrS (a1 : (List Instr)) (k3 : Int) : Option (Int × (List Instr)) :=
 (loopM (fun s : (List Instr) × Int × Int => laws_markInstrS_L1 a1 s.1 s.2.1 s.2.2) (a1, k3, (0 : Int))).bind fun e => laws_markInstrS_J1 e.1 e.2
def laws_heldInstrS_J1 (k24 : Int) : Option (Int) :=
 some k24
def laws_heldInstrS_L1 (a1 : (List Instr)) (k12 : Int) (i13 : Int) : Option ((Int × Int) ⊕ ((Int) ⊕ (Int))) :=
 if (decide (i13 < (a1.length : Int))) = true then (
 if (0 ≤ i13 ∧ i13 < (a1.length : Int)) then
 if ((ix a1 i13).Op != k12) = true then (
 some (.inr (.inl (-1 : Int))))
 else (
 if ((ix a1 i13).A != (w64 (k12 + (1 : Int)))) = true then (
 some (.inr (.inl (-1 : Int))))
 else (
 if ((ix a1 i13).B != (w64 ((w64 (k12 + (1 : Int))) + (1 : Int)))) = true then (
 some (.inr (.inl (-1 : Int))))
 else (
 if ((ix a1 i13).C != (w64 ((w64 ((w64 (k12 + (1 : Int))) + (1 : Int))) + (1 : Int)))) = true then (
 some (.inr (.inl (-1 : Int))))
 else (
 some (.inl ((w64 ((w64 ((w64 ((w64 (k12 + (1 : Int))) + (1 : Int))) + (1 : Int))) + (1 : Int))), (w64 (i13 + (1 : Int)))))))))
 else none)
 else (
 some (.inr (.inr k12)))
def laws_heldInstrS (a1 : (List Instr)) (k3 : Int) : Option (Int) :=
 (loopM (fun s : Int × Int => laws_heldInstrS_L1 a1 s.1 s.2) (k3, (0 : Int))).bind fun e => match e with
 | .inl e => some e
 | .inr e => laws_heldInstrS_J1 e
def laws_FnExactCompile (aP1 : Plan) : Option (Bool) :=
 (laws_szPlan aP1 (1048576 : Int)).bind fun (r9 : Int) =>
 if (decide (r9 < (0 : Int))) = true then (
 some true)
 else (
 (laws_toPlan aP1).bind fun (r12 : Plan) =>
 (spec_Compile r12).bind fun (r20 : (List Instr) × Bool) =>
 (laws_toPlan aP1).bind fun (r23 : Plan) =>
 (impl_Compile r23).bind fun (r32 : (List Instr) × Bool) =>
 (laws_eqInstrS r32.1 r20.1).bind fun (r35 : Bool) =>
 if ((!r35) || (!(r32.2 == r20.2))) = true then (
 some false)
 else (
 (laws_toPlan aP1).bind fun (r39 : Plan) =>
 (laws_eqPlan r23 r39).bind fun (r47 : Bool) =>
 if (!r47) = true then (
 some false)
 else (
 (laws_markPlan r23 (1 : Int)).bind fun (r50 : Int × (List Int) × (List Int) × (List Fix) × (List Kernel) × (List Int) × (List Int)) =>
 (gcall (!(decide (r50.1 < (0 : Int)))) (laws_eqInstrS r32.1 r20.1)).bind fun (r52 : Bool) =>
 if (((decide (r50.1 < (0 : Int))) || (!r52)) || (!(r32.2 == r20.2))) = true then (
 some false)
 else (
 (laws_markInstrS r32.1 (1 : Int)).bind fun (r57 : Int × (List Instr)) =>
 (laws_heldInstrS r57.2 (1 : Int)).bind fun (r59 : Int) =>
 if (decide (r59 < (0 : Int))) = true then (
 some false)
 else (
 if (r59 != r57.1) = true then (
 some false)
 else (
 (laws_toPlan aP1).bind fun (r63 : Plan) =>
 (impl_Compile r63).bind fun (r71 : (List Instr) × Bool) =>
 (laws_eqInstrS r71.1 r20.1).bind fun (r74 : Bool) =>
 if ((!r74) || (!(r71.2 == r20.2))) = true then (
 some false)
 else (
 (laws_heldInstrS r57.2 (1 : Int)).bind fun (r78 : Int) =>
 if (decide (r78 < (0 : Int))) = true then (
 some false)
 else (
 if (r78 != r57.1) = true then (
 some false)
 else (
 some true)))))))))
end
end Go.Proofs.Ytbdchgofcejiiaa
